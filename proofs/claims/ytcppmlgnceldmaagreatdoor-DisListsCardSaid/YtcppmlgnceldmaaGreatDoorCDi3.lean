/- Merged texts of one claim: a Go law, its functions without memory, and the plain law. The law returns true for every input; conditions: as the row says. -/
import Derived.KernelRfl
import Derived.Lib.LaidTab
import Derived.Lib.ItoaNum
import Derived.Test.YtcppmlgnceldmaaGreatDoorProg
import Derived.Below
import Derived.Shelf.Strconv.Itoa3
import Derived.Shelf.Strings.Replace
import Derived.Shelf.LaysM
import Derived.Ground.NamesProg
import Derived.Test.YtcppmlgnceldmaaGreatDoorChecked
import Derived.Test.YtcppmlgnceldmaaGreatDoorCDi0
import Derived.Test.YtcppmlgnceldmaaGreatDoorCDi1
import Derived.Test.YtcppmlgnceldmaaGreatDoorCDi2
/- Go functions as plain Lean functions, and their contracts. -/
set_option linter.unusedVariables false
set_option maxRecDepth 100000
noncomputable section
namespace Go.Proofs.YtcppmlgnceldmaaGreatDoor.Di
open Go Go.Proofs.YtcppmlgnceldmaaGreatDoor.Gp
def two76 (k : Nat) (do_ : Int) (to : Int) (from_ : Int) : Option tY51 :=
  some ((do_, to, from_, 0), ())
def two76.A : Ann := { conds := [], blocks := [], loops := [], keeps := [], orders := [] }
def two76.S : Sig := { f := 76, params := [.int .i64, .int .i64, .int .i64], objs := [], res := .st kY13, outs := [], fix := [], run := fun k ds os => two76 k ds.1 ds.2.1 ds.2.2 }
def two76.G : List Sig := []
theorem two76.eq (k : Nat) : ∀ ds os, two76.S.run k ds os = runF ⟨types, two76.G, two76.A, k, 0, []⟩ Tryz.f76 (codeOf Tryz.f76) two76.S.params two76.S.objs two76.S.res two76.S.outs ds os := by
  intro ds os; kernel_rfl
theorem two76.dr : DrOk Tryz.prog two76.A (codeOf Tryz.f76) := ⟨by kernel_rfl, by kernel_rfl⟩
theorem two76.ok (k : Nat) : SoundAt Tryz.prog k two76.S :=
  runF_sound (X := ⟨types, two76.G, two76.A, k, 0, []⟩) types_ok (fun s hs => absurd hs List.not_mem_nil) (fn := Tryz.f76) (c := codeOf Tryz.f76) rfl (by kernel_rfl) rfl rfl two76.dr (two76.eq k)

def one77 (k : Nat) (do_ : Int) (to : Int) : Option tY51 :=
  some ((do_, to, 0, 0), ())
def one77.A : Ann := { conds := [], blocks := [], loops := [], keeps := [], orders := [] }
def one77.S : Sig := { f := 77, params := [.int .i64, .int .i64], objs := [], res := .st kY13, outs := [], fix := [], run := fun k ds os => one77 k ds.1 ds.2 }
def one77.G : List Sig := []
theorem one77.eq (k : Nat) : ∀ ds os, one77.S.run k ds os = runF ⟨types, one77.G, one77.A, k, 0, []⟩ Tryz.f77 (codeOf Tryz.f77) one77.S.params one77.S.objs one77.S.res one77.S.outs ds os := by
  intro ds os; kernel_rfl
theorem one77.dr : DrOk Tryz.prog one77.A (codeOf Tryz.f77) := ⟨by kernel_rfl, by kernel_rfl⟩
theorem one77.ok (k : Nat) : SoundAt Tryz.prog k one77.S :=
  runF_sound (X := ⟨types, one77.G, one77.A, k, 0, []⟩) types_ok (fun s hs => absurd hs List.not_mem_nil) (fn := Tryz.f77) (c := codeOf Tryz.f77) rfl (by kernel_rfl) rfl rfl one77.dr (one77.eq k)

def zero119 (k : Nat) : Option tY51 :=
  some ((2, 8, 0, 0), ())
def zero119.A : Ann := { conds := [], blocks := [], loops := [], keeps := [], orders := [] }
def zero119.S : Sig := { f := 119, params := [], objs := [], res := .st kY13, outs := [], fix := [], run := fun k ds os => zero119 k }
def zero119.G : List Sig := []
theorem zero119.eq (k : Nat) : ∀ ds os, zero119.S.run k ds os = runF ⟨types, zero119.G, zero119.A, k, 0, []⟩ Tryz.f119 (codeOf Tryz.f119) zero119.S.params zero119.S.objs zero119.S.res zero119.S.outs ds os := by
  intro ds os; kernel_rfl
theorem zero119.dr : DrOk Tryz.prog zero119.A (codeOf Tryz.f119) := ⟨by kernel_rfl, by kernel_rfl⟩
theorem zero119.ok (k : Nat) : SoundAt Tryz.prog k zero119.S :=
  runF_sound (X := ⟨types, zero119.G, zero119.A, k, 0, []⟩) types_ok (fun s hs => absurd hs List.not_mem_nil) (fn := Tryz.f119) (c := codeOf Tryz.f119) rfl (by kernel_rfl) rfl rfl zero119.dr (zero119.eq k)

def rd52 (k : Nat) (at_ : Int) (reg : Int) (_ : Unit) (o0 : tY53) : Option ((Int × (Int × tY63)) × tY53) :=
  some ((1, at_, reg, ()), o0)
def rd52.A : Ann := { conds := [], blocks := [], loops := [], keeps := [], orders := [] }
def rd52.S : Sig := { f := 52, params := [.int .i64, .int .i64, .ms 0], objs := [.row kY12], res := .st (.pair kY23 (.pair kY23 (.pair kY23 (.ms 0)))), outs := [.row kY12], fix := [], run := fun k ds os => rd52 k ds.1 ds.2.1 ds.2.2 os }
def rd52.G : List Sig := []
theorem rd52.eq (k : Nat) : ∀ ds os, rd52.S.run k ds os = runF ⟨types, rd52.G, rd52.A, k, 0, []⟩ Tryz.f52 (codeOf Tryz.f52) rd52.S.params rd52.S.objs rd52.S.res rd52.S.outs ds os := by
  intro ds os; kernel_rfl
theorem rd52.dr : DrOk Tryz.prog rd52.A (codeOf Tryz.f52) := ⟨by kernel_rfl, by kernel_rfl⟩
theorem rd52.ok (k : Nat) : SoundAt Tryz.prog k rd52.S :=
  runF_sound (X := ⟨types, rd52.G, rd52.A, k, 0, []⟩) types_ok (fun s hs => absurd hs List.not_mem_nil) (fn := Tryz.f52) (c := codeOf Tryz.f52) rfl (by kernel_rfl) rfl rfl rd52.dr (rd52.eq k)

def no75 (k : Nat) (steps : tY53) : Option tY39 :=
  some ((0, 0, 0, steps), ())
def no75.A : Ann := { conds := [], blocks := [], loops := [], keeps := [], orders := [] }
def no75.S : Sig := { f := 75, params := [.sl kY12], objs := [], res := .st kY8, outs := [], fix := [], run := fun k ds os => no75 k ds }
def no75.G : List Sig := []
theorem no75.eq (k : Nat) : ∀ ds os, no75.S.run k ds os = runF ⟨types, no75.G, no75.A, k, 0, []⟩ Tryz.f75 (codeOf Tryz.f75) no75.S.params no75.S.objs no75.S.res no75.S.outs ds os := by
  intro ds os; kernel_rfl
theorem no75.dr : DrOk Tryz.prog no75.A (codeOf Tryz.f75) := ⟨by kernel_rfl, by kernel_rfl⟩
theorem no75.ok (k : Nat) : SoundAt Tryz.prog k no75.S :=
  runF_sound (X := ⟨types, no75.G, no75.A, k, 0, []⟩) types_ok (fun s hs => absurd hs List.not_mem_nil) (fn := Tryz.f75) (c := codeOf Tryz.f75) rfl (by kernel_rfl) rfl rfl no75.dr (no75.eq k)

def rd52' (k : Nat) (at_ : Int) (reg : Int) (steps : tY53) : Option tY39 :=
  some ((1, at_, reg, steps), ())
def rd52'.A : Ann := { conds := [], blocks := [], loops := [], keeps := [], orders := [] }
def rd52'.S : Sig := { f := 52, params := [.int .i64, .int .i64, .sl kY12], objs := [], res := .st kY8, outs := [], fix := [], run := fun k ds os => rd52' k ds.1 ds.2.1 ds.2.2 }
def rd52'.G : List Sig := []
theorem rd52'.eq (k : Nat) : ∀ ds os, rd52'.S.run k ds os = runF ⟨types, rd52'.G, rd52'.A, k, 0, []⟩ Tryz.f52 (codeOf Tryz.f52) rd52'.S.params rd52'.S.objs rd52'.S.res rd52'.S.outs ds os := by
  intro ds os; kernel_rfl
theorem rd52'.dr : DrOk Tryz.prog rd52'.A (codeOf Tryz.f52) := ⟨by kernel_rfl, by kernel_rfl⟩
theorem rd52'.ok (k : Nat) : SoundAt Tryz.prog k rd52'.S :=
  runF_sound (X := ⟨types, rd52'.G, rd52'.A, k, 0, []⟩) types_ok (fun s hs => absurd hs List.not_mem_nil) (fn := Tryz.f52) (c := codeOf Tryz.f52) rfl (by kernel_rfl) rfl rfl rd52'.dr (rd52'.eq k)

def jump53 (k : Nat) (to : Int) : Option tY48 :=
  (two76 k 18 to 5).bind fun t4 =>
  (two76 k 19 to 6).bind fun t6 =>
  some ((), [t4.1, t6.1])
def jump53.A : Ann := { conds := [], blocks := [], loops := [], keeps := [], orders := [] }
def jump53.S : Sig := { f := 53, params := [.int .i64], objs := [], res := .ms 0, outs := [.row kY12], fix := [], run := fun k ds os => jump53 k ds }
def jump53.G : List Sig := [two76.S]
theorem jump53.eq (k : Nat) : ∀ ds os, jump53.S.run k ds os = runF ⟨types, jump53.G, jump53.A, k, 0, []⟩ Tryz.f53 (codeOf Tryz.f53) jump53.S.params jump53.S.objs jump53.S.res jump53.S.outs ds os := by
  intro ds os; kernel_rfl
theorem jump53.dr : DrOk Tryz.prog jump53.A (codeOf Tryz.f53) := ⟨by kernel_rfl, by kernel_rfl⟩
theorem jump53.ok (k : Nat) : SoundAt Tryz.prog k jump53.S :=
  runF_sound (X := ⟨types, jump53.G, jump53.A, k, 0, []⟩) types_ok (mem_all (⟨two76.ok k, trivial⟩)) (fn := Tryz.f53) (c := codeOf Tryz.f53) rfl (by kernel_rfl) rfl rfl jump53.dr (jump53.eq k)

def lead93 (k : Nat) (mode : Int) : Option tY37 :=
  (zero119 k).bind fun t6 =>
  (two76 k 18 8 5).bind fun t7 =>
  (rd52 k 0 5 () [t6.1, t7.1]).bind fun t9 =>
  (two76 k 18 8 5).bind fun t10 =>
  (rd52 k 0 5 () [t10.1]).bind fun t12 =>
  (two76 k 19 8 5).bind fun t13 =>
  (rd52 k 0 5 () [t13.1]).bind fun t15 =>
  cond (mode == 2)
    (some ((), [(t9.1.1, t9.1.2.1, t9.1.2.2.1, t9.2)]))
    (cond (mode == 3)
      ((two76 k 22 8 1).bind fun t25 =>
      (if room (List.length t9.2 + List.length [t25.1]) 32 then some () else none).bind fun _ =>
      (two76 k 20 5 8).bind fun t30 =>
      (zero119 k).bind fun t31 =>
      (two76 k 18 8 5).bind fun t32 =>
      (no75 k [t30.1, t31.1, t32.1]).bind fun t34 =>
      some ((), [(t9.1.1, t9.1.2.1, t9.1.2.2.1, (t9.2 ++ [t25.1])), t34.1]))
      (cond (mode == 4)
        (some ((), [(t12.1.1, t12.1.2.1, t12.1.2.2.1, t12.2), (t15.1.1, t15.1.2.1, t15.1.2.2.1, t15.2)]))
        (cond (mode == 5)
          ((two76 k 22 8 1).bind fun t45 =>
          (no75 k [t45.1]).bind fun t47 =>
          some ((), [(t12.1.1, t12.1.2.1, t12.1.2.2.1, t12.2), (t15.1.1, t15.1.2.1, t15.1.2.2.1, t15.2), t47.1]))
          (cond (mode == 6)
            ((two76 k 22 8 2).bind fun t53 =>
            (no75 k [t53.1]).bind fun t55 =>
            some ((), [(t12.1.1, t12.1.2.1, t12.1.2.2.1, t12.2), (t15.1.1, t15.1.2.1, t15.1.2.2.1, t15.2), t55.1]))
            (cond (mode == 8)
              ((rd52' k 2 5 []).bind fun t60 =>
              (jump53 k 8).bind fun t61 =>
              (two76 k 22 8 2).bind fun t62 =>
              (if room (List.length t61.2 + List.length [t62.1]) 32 then some () else none).bind fun _ =>
              (rd52 k 3 6 () (t61.2 ++ [t62.1])).bind fun t65 =>
              some ((), [(t9.1.1, t9.1.2.1, t9.1.2.2.1, t9.2), t60.1, (t65.1.1, t65.1.2.1, t65.1.2.2.1, t65.2)]))
              (some ((), [])))))))
def lead93.A : Ann := { conds := [], blocks := [], loops := [], keeps := [], orders := [(8, [(0, .strong), (1, .strong), (2, .eff true), (3, .eff true), (4, .eff false), (5, .strong), (6, .eff false)]), (9, [(0, .strong), (1, .eff true), (2, .eff true), (3, .eff true), (4, .eff true), (5, .eff true), (6, .eff true), (7, .strong)]), (13, [(0, .strong), (1, .strong), (2, .eff true), (3, .eff true), (4, .eff true), (5, .eff true), (6, .strong)]), (15, [(0, .strong), (1, .strong), (2, .eff true), (3, .eff true), (4, .eff true), (5, .eff true), (6, .strong)]), (17, [(0, .weak), (1, .eff true), (2, .eff true), (3, .eff true), (4, .eff true), (5, .eff false), (6, .eff false), (7, .eff true), (8, .strong)])], turns := [(16, [⟨1, [(0, .unit)], .undef⟩])] }
def lead93.S : Sig := { f := 93, params := [.int .i64], objs := [], res := .ms 0, outs := [.row kY7], fix := [], run := fun k ds os => lead93 k ds }
def lead93.G : List Sig := [jump53.S, no75.S, rd52.S, rd52'.S, two76.S, zero119.S]
theorem lead93.eq (k : Nat) : ∀ ds os, lead93.S.run k ds os = runF ⟨types, lead93.G, lead93.A, k, 0, []⟩ Tryz.f93 (codeOf Tryz.f93) lead93.S.params lead93.S.objs lead93.S.res lead93.S.outs ds os := by
  intro ds os; kernel_rfl
theorem lead93.dr : DrOk Tryz.prog lead93.A (codeOf Tryz.f93) := ⟨by kernel_rfl, by kernel_rfl⟩
theorem lead93.ok (k : Nat) : SoundAt Tryz.prog k lead93.S :=
  runF_sound (X := ⟨types, lead93.G, lead93.A, k, 0, []⟩) types_ok (mem_all (⟨jump53.ok k, ⟨no75.ok k, ⟨rd52.ok k, ⟨rd52'.ok k, ⟨two76.ok k, ⟨zero119.ok k, trivial⟩⟩⟩⟩⟩⟩)) (fn := Tryz.f93) (c := codeOf Tryz.f93) rfl (by kernel_rfl) rfl rfl lead93.dr (lead93.eq k)

def rd52'' (k : Nat) (at_ : Int) (reg : Int) (steps : tY53) : Option tY39 :=
  some ((1, at_, reg, steps), ())
def rd52''.A : Ann := { conds := [], blocks := [], loops := [], keeps := [], orders := [] }
def rd52''.S : Sig := { f := 52, params := [.int .i64, .int .i64, .sl kY12], objs := [], res := .st kY8, outs := [], fix := [], run := fun k ds os => rd52'' k ds.1 ds.2.1 ds.2.2 }
def rd52''.G : List Sig := []
theorem rd52''.eq (k : Nat) : ∀ ds os, rd52''.S.run k ds os = runF ⟨types, rd52''.G, rd52''.A, k, 0, []⟩ Tryz.f52 (codeOf Tryz.f52) rd52''.S.params rd52''.S.objs rd52''.S.res rd52''.S.outs ds os := by
  intro ds os; kernel_rfl
theorem rd52''.dr : DrOk Tryz.prog rd52''.A (codeOf Tryz.f52) := ⟨by kernel_rfl, by kernel_rfl⟩
theorem rd52''.ok (k : Nat) : SoundAt Tryz.prog k rd52''.S :=
  runF_sound (X := ⟨types, rd52''.G, rd52''.A, k, 0, []⟩) types_ok (fun s hs => absurd hs List.not_mem_nil) (fn := Tryz.f52) (c := codeOf Tryz.f52) rfl (by kernel_rfl) rfl rfl rd52''.dr (rd52''.eq k)

def reads92 (k : Nat) (mode : Int) (steps : tY53) : Option tY38 :=
  Option.bind
    (cond (mode == 1)
      (some 0)
      (some 2) : Option Int) fun (at_ : Int) =>
  (lead93 k mode).bind fun t9 =>
  (rd52'' k at_ 5 steps).bind fun t12 =>
  (if room (List.length t9.2 + List.length [t12.1]) 48 then some () else none).bind fun _ =>
  some ((t9.2 ++ [t12.1]), ())
def reads92.A : Ann := { conds := [(458755, ⟨[(5, .int .i64)], [], 0, [], 32⟩)], blocks := [], loops := [], keeps := [], orders := [] }
def reads92.S : Sig := { f := 92, params := [.int .i64, .sl kY12], objs := [], res := .sl kY7, outs := [], fix := [], run := fun k ds os => reads92 k ds.1 ds.2 }
def reads92.G : List Sig := [lead93.S, rd52''.S]
theorem reads92.eq (k : Nat) : ∀ ds os, reads92.S.run k ds os = runF ⟨types, reads92.G, reads92.A, k, 0, []⟩ Tryz.f92 (codeOf Tryz.f92) reads92.S.params reads92.S.objs reads92.S.res reads92.S.outs ds os := by
  intro ds os; kernel_rfl
theorem reads92.dr : DrOk Tryz.prog reads92.A (codeOf Tryz.f92) := ⟨by kernel_rfl, by kernel_rfl⟩
theorem reads92.ok (k : Nat) : SoundAt Tryz.prog k reads92.S :=
  runF_sound (X := ⟨types, reads92.G, reads92.A, k, 0, []⟩) types_ok (mem_all (⟨lead93.ok k, ⟨rd52''.ok k, trivial⟩⟩)) (fn := Tryz.f92) (c := codeOf Tryz.f92) rfl (by kernel_rfl) rfl rfl reads92.dr (reads92.eq k)
end Go.Proofs.YtcppmlgnceldmaaGreatDoor.Di

/- Go functions as plain Lean functions, and their contracts. -/
set_option linter.unusedVariables false
set_option maxRecDepth 100000
noncomputable section
namespace Go.Proofs.YtcppmlgnceldmaaGreatDoor.Di
open Go Go.Proofs.YtcppmlgnceldmaaGreatDoor.Gp
def add74 (k : Nat) (_ : Unit) (name : ByteArray) (mode : Int) (cycles : tY40) (o0 : Unit) (o1 : tY32) : Option tY25 :=
  let t18 : Int := (w64 ((List.length o1 : Int) + 1))
  (if room (List.length o1 + List.length [(t18, name, mode, cycles)]) 56 then some () else none).bind fun _ =>
  some ((), (), (o1 ++ [(t18, name, mode, cycles)]))
def add74.A : Ann := { conds := [], blocks := [], loops := [], keeps := [], orders := [(0, [(0, .weak), (1, .strong), (2, .strong), (3, .strong), (4, .strong), (5, .strong), (6, .strong), (7, .strong), (8, .strong), (9, .strong), (10, .strong), (11, .strong), (12, .strong), (13, .strong), (14, .strong), (15, .eff true), (16, .eff false), (17, .strong), (18, .strong), (19, .eff false)])] }
def add74.S : Sig := { f := 74, params := [.ptr 0 [], .str, .int .i64, .sl kY7], objs := [.var kY22, .row kY4], res := .tup .unit, outs := [.var kY22, .row kY4], fix := [], run := fun k ds os => add74 k ds.1 ds.2.1 ds.2.2.1 ds.2.2.2 os.1 os.2 }
def add74.G : List Sig := []
theorem add74.eq (k : Nat) : ∀ ds os, add74.S.run k ds os = runF ⟨types, add74.G, add74.A, k, 0, []⟩ Tryz.f74 (codeOf Tryz.f74) add74.S.params add74.S.objs add74.S.res add74.S.outs ds os := by
  intro ds os; kernel_rfl
theorem add74.dr : DrOk Tryz.prog add74.A (codeOf Tryz.f74) := ⟨by kernel_rfl, by kernel_rfl⟩
theorem add74.ok (k : Nat) : SoundAt Tryz.prog k add74.S :=
  runF_sound (X := ⟨types, add74.G, add74.A, k, 0, []⟩) types_ok (fun s hs => absurd hs List.not_mem_nil) (fn := Tryz.f74) (c := codeOf Tryz.f74) rfl (by kernel_rfl) rfl rfl add74.dr (add74.eq k)

def loads70.l0 (k : Nat) (name : ByteArray) (reg : Int) (modes : tY65) : tY23 → Option tY12
  | (_, t12, _, o1_1) =>
    cond (decide (t12 < (List.length modes : Int)))
      ((rd modes t12).bind fun t14 =>
      (two76 k 1 reg 5).bind fun t21 =>
      (one77 k 3 reg).bind fun t23 =>
      (reads92 k t14 [t21.1, t23.1]).bind fun t25 =>
      (add74 k () name t14 t25.1 () o1_1).bind fun t26 =>
      some (Sum.inl ((), (w64 (t12 + 1)), (), t26.2.2)))
      (some (Sum.inr ((), o1_1)))
def loads70 (k : Nat) (_ : Unit) (name : ByteArray) (reg : Int) (modes : tY65) (o0 : Unit) (o1 : tY32) : Option tY25 :=
  Option.bind
    (loopN (loads70.l0 k name reg modes) k ((), 0, (), o1) : Option tY27) fun ((_, o1_2) : tY27) =>
  some ((), (), o1_2)
def loads70.A : Ann := { conds := [], blocks := [(0, ⟨[], [(0, .var kY22), (1, .row kY4)], 2, [], 268431872⟩)], loops := [(1, ⟨[(0, .ptr 0 []), (12, .int .i64)], [(0, .var kY22), (1, .row kY4)], 2, [], 268431872⟩)], keeps := [], orders := [] }
def loads70.S : Sig := { f := 70, params := [.ptr 0 [], .str, .int .i64, .sl kY23], objs := [.var kY22, .row kY4], res := .tup .unit, outs := [.var kY22, .row kY4], fix := [], run := fun k ds os => loads70 k ds.1 ds.2.1 ds.2.2.1 ds.2.2.2 os.1 os.2 }
def loads70.G : List Sig := [add74.S, one77.S, reads92.S, two76.S]
theorem loads70.eq (k : Nat) : ∀ ds os, loads70.S.run k ds os = runF ⟨types, loads70.G, loads70.A, k, 0, []⟩ Tryz.f70 (codeOf Tryz.f70) loads70.S.params loads70.S.objs loads70.S.res loads70.S.outs ds os := by
  intro ds os; kernel_rfl
theorem loads70.dr : DrOk Tryz.prog loads70.A (codeOf Tryz.f70) := ⟨by kernel_rfl, by kernel_rfl⟩
theorem loads70.ok (k : Nat) : SoundAt Tryz.prog k loads70.S :=
  runF_sound (X := ⟨types, loads70.G, loads70.A, k, 0, []⟩) types_ok (mem_all (⟨add74.ok k, ⟨one77.ok k, ⟨reads92.ok k, ⟨two76.ok k, trivial⟩⟩⟩⟩)) (fn := Tryz.f70) (c := codeOf Tryz.f70) rfl (by kernel_rfl) rfl rfl loads70.dr (loads70.eq k)

def wr78 (k : Nat) (at_ : Int) (reg : Int) (steps : tY53) : Option tY39 :=
  some ((2, at_, reg, steps), ())
def wr78.A : Ann := { conds := [], blocks := [], loops := [], keeps := [], orders := [] }
def wr78.S : Sig := { f := 78, params := [.int .i64, .int .i64, .sl kY12], objs := [], res := .st kY8, outs := [], fix := [], run := fun k ds os => wr78 k ds.1 ds.2.1 ds.2.2 }
def wr78.G : List Sig := []
theorem wr78.eq (k : Nat) : ∀ ds os, wr78.S.run k ds os = runF ⟨types, wr78.G, wr78.A, k, 0, []⟩ Tryz.f78 (codeOf Tryz.f78) wr78.S.params wr78.S.objs wr78.S.res wr78.S.outs ds os := by
  intro ds os; kernel_rfl
theorem wr78.dr : DrOk Tryz.prog wr78.A (codeOf Tryz.f78) := ⟨by kernel_rfl, by kernel_rfl⟩
theorem wr78.ok (k : Nat) : SoundAt Tryz.prog k wr78.S :=
  runF_sound (X := ⟨types, wr78.G, wr78.A, k, 0, []⟩) types_ok (fun s hs => absurd hs List.not_mem_nil) (fn := Tryz.f78) (c := codeOf Tryz.f78) rfl (by kernel_rfl) rfl rfl wr78.dr (wr78.eq k)

def stores71.l0 (k : Nat) (name : ByteArray) (reg : Int) (modes : tY65) : tY23 → Option tY12
  | (_, t12, _, o1_1) =>
    cond (decide (t12 < (List.length modes : Int)))
      ((rd modes t12).bind fun t14 =>
      (lead93 k t14).bind fun t20 =>
      (wr78 k 2 reg []).bind fun t22 =>
      (if room (List.length t20.2 + List.length [t22.1]) 48 then some () else none).bind fun _ =>
      (add74 k () name t14 (t20.2 ++ [t22.1]) () o1_1).bind fun t25 =>
      some (Sum.inl ((), (w64 (t12 + 1)), (), t25.2.2)))
      (some (Sum.inr ((), o1_1)))
def stores71 (k : Nat) (_ : Unit) (name : ByteArray) (reg : Int) (modes : tY65) (o0 : Unit) (o1 : tY32) : Option tY25 :=
  Option.bind
    (loopN (stores71.l0 k name reg modes) k ((), 0, (), o1) : Option tY27) fun ((_, o1_2) : tY27) =>
  some ((), (), o1_2)
def stores71.A : Ann := { conds := [], blocks := [(0, ⟨[], [(0, .var kY22), (1, .row kY4)], 2, [], 134214144⟩)], loops := [(1, ⟨[(0, .ptr 0 []), (12, .int .i64)], [(0, .var kY22), (1, .row kY4)], 2, [], 134214144⟩)], keeps := [], orders := [] }
def stores71.S : Sig := { f := 71, params := [.ptr 0 [], .str, .int .i64, .sl kY23], objs := [.var kY22, .row kY4], res := .tup .unit, outs := [.var kY22, .row kY4], fix := [], run := fun k ds os => stores71 k ds.1 ds.2.1 ds.2.2.1 ds.2.2.2 os.1 os.2 }
def stores71.G : List Sig := [add74.S, lead93.S, wr78.S]
theorem stores71.eq (k : Nat) : ∀ ds os, stores71.S.run k ds os = runF ⟨types, stores71.G, stores71.A, k, 0, []⟩ Tryz.f71 (codeOf Tryz.f71) stores71.S.params stores71.S.objs stores71.S.res stores71.S.outs ds os := by
  intro ds os; kernel_rfl
theorem stores71.dr : DrOk Tryz.prog stores71.A (codeOf Tryz.f71) := ⟨by kernel_rfl, by kernel_rfl⟩
theorem stores71.ok (k : Nat) : SoundAt Tryz.prog k stores71.S :=
  runF_sound (X := ⟨types, stores71.G, stores71.A, k, 0, []⟩) types_ok (mem_all (⟨add74.ok k, ⟨lead93.ok k, ⟨wr78.ok k, trivial⟩⟩⟩)) (fn := Tryz.f71) (c := codeOf Tryz.f71) rfl (by kernel_rfl) rfl rfl stores71.dr (stores71.eq k)

def joins72.l0 (k : Nat) (name : ByteArray) (do_ : Int) (reg : Int) (modes : tY65) : tY23 → Option tY12
  | (_, t14, _, o1_1) =>
    cond (decide (t14 < (List.length modes : Int)))
      ((rd modes t14).bind fun t16 =>
      (two76 k do_ reg 5).bind fun t24 =>
      (reads92 k t16 [t24.1]).bind fun t26 =>
      (add74 k () name t16 t26.1 () o1_1).bind fun t27 =>
      some (Sum.inl ((), (w64 (t14 + 1)), (), t27.2.2)))
      (some (Sum.inr ((), o1_1)))
def joins72 (k : Nat) (_ : Unit) (name : ByteArray) (do_ : Int) (reg : Int) (modes : tY65) (o0 : Unit) (o1 : tY32) : Option tY25 :=
  Option.bind
    (loopN (joins72.l0 k name do_ reg modes) k ((), 0, (), o1) : Option tY27) fun ((_, o1_2) : tY27) =>
  some ((), (), o1_2)
def joins72.A : Ann := { conds := [], blocks := [(0, ⟨[], [(0, .var kY22), (1, .row kY4)], 2, [], 536856576⟩)], loops := [(1, ⟨[(0, .ptr 0 []), (14, .int .i64)], [(0, .var kY22), (1, .row kY4)], 2, [], 536856576⟩)], keeps := [], orders := [] }
def joins72.S : Sig := { f := 72, params := [.ptr 0 [], .str, .int .i64, .int .i64, .sl kY23], objs := [.var kY22, .row kY4], res := .tup .unit, outs := [.var kY22, .row kY4], fix := [], run := fun k ds os => joins72 k ds.1 ds.2.1 ds.2.2.1 ds.2.2.2.1 ds.2.2.2.2 os.1 os.2 }
def joins72.G : List Sig := [add74.S, reads92.S, two76.S]
theorem joins72.eq (k : Nat) : ∀ ds os, joins72.S.run k ds os = runF ⟨types, joins72.G, joins72.A, k, 0, []⟩ Tryz.f72 (codeOf Tryz.f72) joins72.S.params joins72.S.objs joins72.S.res joins72.S.outs ds os := by
  intro ds os; kernel_rfl
theorem joins72.dr : DrOk Tryz.prog joins72.A (codeOf Tryz.f72) := ⟨by kernel_rfl, by kernel_rfl⟩
theorem joins72.ok (k : Nat) : SoundAt Tryz.prog k joins72.S :=
  runF_sound (X := ⟨types, joins72.G, joins72.A, k, 0, []⟩) types_ok (mem_all (⟨add74.ok k, ⟨reads92.ok k, ⟨two76.ok k, trivial⟩⟩⟩)) (fn := Tryz.f72) (c := codeOf Tryz.f72) rfl (by kernel_rfl) rfl rfl joins72.dr (joins72.eq k)
end Go.Proofs.YtcppmlgnceldmaaGreatDoor.Di

/- Go functions as plain Lean functions, and their contracts. -/
set_option linter.unusedVariables false
set_option maxRecDepth 100000
noncomputable section
namespace Go.Proofs.YtcppmlgnceldmaaGreatDoor.Di
open Go Go.Proofs.YtcppmlgnceldmaaGreatDoor.Gp
def turns73.l0 (k : Nat) (name : ByteArray) (do_ : Int) (modes : tY65) : tY23 → Option tY12
  | (_, t12, _, o1_1) =>
    cond (decide (t12 < (List.length modes : Int)))
      (Option.bind
        ((rd modes t12).bind fun t14 =>
        cond (t14 == 0)
          ((one77 k do_ 0).bind fun t22 =>
          (no75 k [t22.1]).bind fun t24 =>
          (add74 k () name t14 [t24.1] () o1_1).bind fun t26 =>
          some ((), (), t26.2.2))
          ((lead93 k t14).bind fun t31 =>
          (one77 k do_ 5).bind fun t33 =>
          (rd52'' k 2 5 [t33.1]).bind fun t35 =>
          (wr78 k 2 5 []).bind fun t36 =>
          (if room (List.length t31.2 + List.length [t35.1, t36.1]) 48 then some () else none).bind fun _ =>
          (add74 k () name t14 (t31.2 ++ [t35.1, t36.1]) () o1_1).bind fun t39 =>
          some ((), (), t39.2.2)) : Option tY25) fun ((_, _, o1_2) : tY25) =>
      some (Sum.inl ((), (w64 (t12 + 1)), (), o1_2)))
      (some (Sum.inr ((), o1_1)))
def turns73 (k : Nat) (_ : Unit) (name : ByteArray) (do_ : Int) (modes : tY65) (o0 : Unit) (o1 : tY32) : Option tY25 :=
  Option.bind
    (loopN (turns73.l0 k name do_ modes) k ((), 0, (), o1) : Option tY27) fun ((_, o1_3) : tY27) =>
  some ((), (), o1_3)
def turns73.A : Ann := { conds := [], blocks := [(0, ⟨[], [(0, .var kY22), (1, .row kY4)], 2, [], 2199023251968⟩), (1, ⟨[(0, .ptr 0 [])], [(0, .var kY22), (1, .row kY4)], 2, [], 1099511611904⟩)], loops := [(1, ⟨[(0, .ptr 0 []), (12, .int .i64)], [(0, .var kY22), (1, .row kY4)], 2, [], 2199023251968⟩)], keeps := [], orders := [] }
def turns73.S : Sig := { f := 73, params := [.ptr 0 [], .str, .int .i64, .sl kY23], objs := [.var kY22, .row kY4], res := .tup .unit, outs := [.var kY22, .row kY4], fix := [], run := fun k ds os => turns73 k ds.1 ds.2.1 ds.2.2.1 ds.2.2.2 os.1 os.2 }
def turns73.G : List Sig := [add74.S, lead93.S, no75.S, one77.S, rd52''.S, wr78.S]
theorem turns73.eq (k : Nat) : ∀ ds os, turns73.S.run k ds os = runF ⟨types, turns73.G, turns73.A, k, 0, []⟩ Tryz.f73 (codeOf Tryz.f73) turns73.S.params turns73.S.objs turns73.S.res turns73.S.outs ds os := by
  intro ds os; kernel_rfl
theorem turns73.dr : DrOk Tryz.prog turns73.A (codeOf Tryz.f73) := ⟨by kernel_rfl, by kernel_rfl⟩
theorem turns73.ok (k : Nat) : SoundAt Tryz.prog k turns73.S :=
  runF_sound (X := ⟨types, turns73.G, turns73.A, k, 0, []⟩) types_ok (mem_all (⟨add74.ok k, ⟨lead93.ok k, ⟨no75.ok k, ⟨one77.ok k, ⟨rd52''.ok k, ⟨wr78.ok k, trivial⟩⟩⟩⟩⟩⟩)) (fn := Tryz.f73) (c := codeOf Tryz.f73) rfl (by kernel_rfl) rfl rfl turns73.dr (turns73.eq k)

def memory49.l0 (k : Nat) : tY17 → Option (tY17 ⊕ tY25)
  | (_, _, t30, _, o1_1, o8) =>
    cond (decide (t30 < (List.length [((ByteArray.mk #[97, 100, 99]), 4), ((ByteArray.mk #[115, 98, 99]), 5), ((ByteArray.mk #[97, 110, 100]), 7), ((ByteArray.mk #[111, 114, 97]), 8), ((ByteArray.mk #[101, 111, 114]), 9), ((ByteArray.mk #[99, 109, 112]), 6)] : Int)))
      ((rd o8 t30).bind fun _ =>
      (rd o8 t30).bind fun t33 =>
      (joins72 k () t33.1 t33.2 0 ([1, 2, 4, 5] : List Int) () o1_1).bind fun t40 =>
      some (Sum.inl ((), (), (w64 (t30 + 1)), (), t40.2.2, o8)))
      (some (Sum.inr ((), (), o1_1)))
def memory49 (k : Nat) (_ : Unit) (o0 : Unit) (o1 : tY32) : Option tY25 :=
  (loads70 k () (ByteArray.mk #[108, 100, 97]) 0 ([1, 2, 3, 4, 5, 6, 8] : List Int) () o1).bind fun t6 =>
  (loads70 k () (ByteArray.mk #[108, 100, 120]) 1 ([1, 2, 4] : List Int) () t6.2.2).bind fun t9 =>
  (loads70 k () (ByteArray.mk #[108, 100, 121]) 2 ([1, 2, 4] : List Int) () t9.2.2).bind fun t12 =>
  (stores71 k () (ByteArray.mk #[115, 116, 97]) 0 ([2, 3, 4, 5, 6, 8] : List Int) () t12.2.2).bind fun t15 =>
  (stores71 k () (ByteArray.mk #[115, 116, 120]) 1 ([2, 4] : List Int) () t15.2.2).bind fun t18 =>
  (stores71 k () (ByteArray.mk #[115, 116, 121]) 2 ([2, 4] : List Int) () t18.2.2).bind fun t21 =>
  Option.bind
    (loopN (memory49.l0 k) k ((), (), 0, (), t21.2.2, [((ByteArray.mk #[97, 100, 99]), 4), ((ByteArray.mk #[115, 98, 99]), 5), ((ByteArray.mk #[97, 110, 100]), 7), ((ByteArray.mk #[111, 114, 97]), 8), ((ByteArray.mk #[101, 111, 114]), 9), ((ByteArray.mk #[99, 109, 112]), 6)]) : Option tY25) fun ((_, _, o1_2) : tY25) =>
  (joins72 k () (ByteArray.mk #[99, 112, 120]) 6 1 ([1, 2] : List Int) () o1_2).bind fun t44 =>
  (joins72 k () (ByteArray.mk #[99, 112, 121]) 6 2 ([1, 2] : List Int) () t44.2.2).bind fun t47 =>
  (turns73 k () (ByteArray.mk #[105, 110, 99]) 10 ([2, 4] : List Int) () t47.2.2).bind fun t50 =>
  (turns73 k () (ByteArray.mk #[100, 101, 99]) 11 ([2, 4] : List Int) () t50.2.2).bind fun t53 =>
  (turns73 k () (ByteArray.mk #[97, 115, 108]) 12 ([0, 2] : List Int) () t53.2.2).bind fun t56 =>
  (turns73 k () (ByteArray.mk #[108, 115, 114]) 13 ([0, 2] : List Int) () t56.2.2).bind fun t59 =>
  (turns73 k () (ByteArray.mk #[114, 111, 108]) 14 ([0, 2] : List Int) () t59.2.2).bind fun t62 =>
  (turns73 k () (ByteArray.mk #[114, 111, 114]) 15 ([0, 2] : List Int) () t62.2.2).bind fun t65 =>
  some ((), (), t65.2.2)
def memory49.A : Ann := { conds := [], blocks := [(0, ⟨[(0, .ptr 0 [])], [(0, .var kY22), (1, .row kY4)], 2, [], 4396972769288⟩)], loops := [(7, ⟨[(0, .ptr 0 []), (28, .ms 8), (30, .int .i64)], [(0, .var kY22), (1, .row kY4), (8, .row kY20)], 9, [], 4396972769288⟩)], keeps := [3], orders := [] }
def memory49.S : Sig := { f := 49, params := [.ptr 0 []], objs := [.var kY22, .row kY4], res := .tup .unit, outs := [.var kY22, .row kY4], fix := [], run := fun k ds os => memory49 k ds os.1 os.2 }
def memory49.G : List Sig := [joins72.S, loads70.S, stores71.S, turns73.S]
theorem memory49.eq (k : Nat) : ∀ ds os, memory49.S.run k ds os = runF ⟨types, memory49.G, memory49.A, k, 0, []⟩ Tryz.f49 (codeOf Tryz.f49) memory49.S.params memory49.S.objs memory49.S.res memory49.S.outs ds os := by
  intro ds os; kernel_rfl
theorem memory49.dr : DrOk Tryz.prog memory49.A (codeOf Tryz.f49) := ⟨by kernel_rfl, by kernel_rfl⟩
theorem memory49.ok (k : Nat) : SoundAt Tryz.prog k memory49.S :=
  runF_sound (X := ⟨types, memory49.G, memory49.A, k, 0, []⟩) types_ok (mem_all (⟨joins72.ok k, ⟨loads70.ok k, ⟨stores71.ok k, ⟨turns73.ok k, trivial⟩⟩⟩⟩)) (fn := Tryz.f49) (c := codeOf Tryz.f49) rfl (by kernel_rfl) rfl rfl memory49.dr (memory49.eq k)
end Go.Proofs.YtcppmlgnceldmaaGreatDoor.Di

/- Go functions as plain Lean functions, and their contracts. -/
set_option linter.unusedVariables false
set_option maxRecDepth 100000
noncomputable section
namespace Go.Proofs.YtcppmlgnceldmaaGreatDoor.Di
open Go Go.Proofs.YtcppmlgnceldmaaGreatDoor.Gp
def alone50.l0 (k : Nat) : tY15 → Option (tY15 ⊕ tY25)
  | (_, _, t11, _, o1_1, o2) =>
    cond (decide (t11 < (List.length [((ByteArray.mk #[116, 97, 120]), 1, 0), ((ByteArray.mk #[116, 97, 121]), 2, 0), ((ByteArray.mk #[116, 120, 97]), 0, 1), ((ByteArray.mk #[116, 121, 97]), 0, 2), ((ByteArray.mk #[116, 115, 120]), 1, 3)] : Int)))
      ((rd o2 t11).bind fun _ =>
      (rd o2 t11).bind fun t14 =>
      (two76 k 1 t14.2.1 t14.2.2).bind fun t22 =>
      (one77 k 3 t14.2.1).bind fun t25 =>
      (no75 k [t22.1, t25.1]).bind fun t27 =>
      (add74 k () t14.1 0 [t27.1] () o1_1).bind fun t29 =>
      some (Sum.inl ((), (), (w64 (t11 + 1)), (), t29.2.2, o2)))
      (some (Sum.inr ((), (), o1_1)))
def alone50 (k : Nat) (_ : Unit) (o0 : Unit) (o1 : tY32) : Option tY25 :=
  Option.bind
    (loopN (alone50.l0 k) k ((), (), 0, (), o1, [((ByteArray.mk #[116, 97, 120]), 1, 0), ((ByteArray.mk #[116, 97, 121]), 2, 0), ((ByteArray.mk #[116, 120, 97]), 0, 1), ((ByteArray.mk #[116, 121, 97]), 0, 2), ((ByteArray.mk #[116, 115, 120]), 1, 3)]) : Option tY25) fun ((_, _, o1_2) : tY25) =>
  (two76 k 1 3 1).bind fun t32 =>
  (no75 k [t32.1]).bind fun t34 =>
  (add74 k () (ByteArray.mk #[116, 120, 115]) 0 [t34.1] () o1_2).bind fun t36 =>
  (one77 k 10 1).bind fun t38 =>
  (no75 k [t38.1]).bind fun t40 =>
  (add74 k () (ByteArray.mk #[105, 110, 120]) 0 [t40.1] () t36.2.2).bind fun t42 =>
  (one77 k 10 2).bind fun t44 =>
  (no75 k [t44.1]).bind fun t46 =>
  (add74 k () (ByteArray.mk #[105, 110, 121]) 0 [t46.1] () t42.2.2).bind fun t48 =>
  (one77 k 11 1).bind fun t50 =>
  (no75 k [t50.1]).bind fun t52 =>
  (add74 k () (ByteArray.mk #[100, 101, 120]) 0 [t52.1] () t48.2.2).bind fun t54 =>
  (one77 k 11 2).bind fun t56 =>
  (no75 k [t56.1]).bind fun t58 =>
  (add74 k () (ByteArray.mk #[100, 101, 121]) 0 [t58.1] () t54.2.2).bind fun t60 =>
  (no75 k [(17, 0, 0, 1)]).bind fun t64 =>
  (add74 k () (ByteArray.mk #[99, 108, 99]) 0 [t64.1] () t60.2.2).bind fun t66 =>
  (no75 k [(16, 0, 0, 1)]).bind fun t70 =>
  (add74 k () (ByteArray.mk #[115, 101, 99]) 0 [t70.1] () t66.2.2).bind fun t72 =>
  (no75 k [(17, 0, 0, 4)]).bind fun t76 =>
  (add74 k () (ByteArray.mk #[99, 108, 105]) 0 [t76.1] () t72.2.2).bind fun t78 =>
  (no75 k [(16, 0, 0, 4)]).bind fun t82 =>
  (add74 k () (ByteArray.mk #[115, 101, 105]) 0 [t82.1] () t78.2.2).bind fun t84 =>
  (no75 k []).bind fun t86 =>
  (add74 k () (ByteArray.mk #[110, 111, 112]) 0 [t86.1] () t84.2.2).bind fun t88 =>
  (wr78 k 4 0 []).bind fun t90 =>
  (add74 k () (ByteArray.mk #[112, 104, 97]) 0 [t90.1] () t88.2.2).bind fun t92 =>
  (one77 k 3 0).bind fun t94 =>
  (rd52'' k 5 0 [t94.1]).bind fun t96 =>
  (add74 k () (ByteArray.mk #[112, 108, 97]) 0 [t96.1] () t92.2.2).bind fun t98 =>
  (wr78 k 4 4 []).bind fun t100 =>
  (add74 k () (ByteArray.mk #[112, 104, 112]) 0 [t100.1] () t98.2.2).bind fun t102 =>
  (rd52'' k 5 4 []).bind fun t104 =>
  (add74 k () (ByteArray.mk #[112, 108, 112]) 0 [t104.1] () t102.2.2).bind fun t106 =>
  some ((), (), t106.2.2)
def alone50.A : Ann := { conds := [], blocks := [(0, ⟨[(0, .ptr 0 [])], [(0, .var kY22), (1, .row kY4)], 2, [], 2147481608⟩)], loops := [(1, ⟨[(0, .ptr 0 []), (9, .ms 2), (11, .int .i64)], [(0, .var kY22), (1, .row kY4), (2, .row kY16)], 3, [], 2147481608⟩)], keeps := [3], orders := [(3, [(0, .strong), (1, .strong), (2, .strong), (3, .strong), (4, .strong), (5, .strong), (6, .strong), (8, .strong), (9, .strong), (7, .eff true), (10, .eff true), (11, .eff true), (12, .eff true), (13, .eff true), (14, .eff false)])] }
def alone50.S : Sig := { f := 50, params := [.ptr 0 []], objs := [.var kY22, .row kY4], res := .tup .unit, outs := [.var kY22, .row kY4], fix := [], run := fun k ds os => alone50 k ds os.1 os.2 }
def alone50.G : List Sig := [add74.S, no75.S, one77.S, rd52''.S, two76.S, wr78.S]
theorem alone50.eq (k : Nat) : ∀ ds os, alone50.S.run k ds os = runF ⟨types, alone50.G, alone50.A, k, 0, []⟩ Tryz.f50 (codeOf Tryz.f50) alone50.S.params alone50.S.objs alone50.S.res alone50.S.outs ds os := by
  intro ds os; kernel_rfl
theorem alone50.dr : DrOk Tryz.prog alone50.A (codeOf Tryz.f50) := ⟨by kernel_rfl, by kernel_rfl⟩
theorem alone50.ok (k : Nat) : SoundAt Tryz.prog k alone50.S :=
  runF_sound (X := ⟨types, alone50.G, alone50.A, k, 0, []⟩) types_ok (mem_all (⟨add74.ok k, ⟨no75.ok k, ⟨one77.ok k, ⟨rd52''.ok k, ⟨two76.ok k, ⟨wr78.ok k, trivial⟩⟩⟩⟩⟩⟩)) (fn := Tryz.f50) (c := codeOf Tryz.f50) rfl (by kernel_rfl) rfl rfl alone50.dr (alone50.eq k)

def jump53' (k : Nat) (to : Int) : Option (tY53 × Unit) :=
  (two76 k 18 to 5).bind fun t4 =>
  (two76 k 19 to 6).bind fun t6 =>
  some ([t4.1, t6.1], ())
def jump53'.A : Ann := { conds := [], blocks := [], loops := [], keeps := [], orders := [] }
def jump53'.S : Sig := { f := 53, params := [.int .i64], objs := [], res := .sl kY12, outs := [], fix := [], run := fun k ds os => jump53' k ds }
def jump53'.G : List Sig := [two76.S]
theorem jump53'.eq (k : Nat) : ∀ ds os, jump53'.S.run k ds os = runF ⟨types, jump53'.G, jump53'.A, k, 0, []⟩ Tryz.f53 (codeOf Tryz.f53) jump53'.S.params jump53'.S.objs jump53'.S.res jump53'.S.outs ds os := by
  intro ds os; kernel_rfl
theorem jump53'.dr : DrOk Tryz.prog jump53'.A (codeOf Tryz.f53) := ⟨by kernel_rfl, by kernel_rfl⟩
theorem jump53'.ok (k : Nat) : SoundAt Tryz.prog k jump53'.S :=
  runF_sound (X := ⟨types, jump53'.G, jump53'.A, k, 0, []⟩) types_ok (mem_all (⟨two76.ok k, trivial⟩)) (fn := Tryz.f53) (c := codeOf Tryz.f53) rfl (by kernel_rfl) rfl rfl jump53'.dr (jump53'.eq k)

def ways51.l0 (k : Nat) : tY15 → Option (tY15 ⊕ tY27)
  | (_, _, t47, _, o1_1, o10) =>
    cond (decide (t47 < (List.length [((ByteArray.mk #[98, 101, 113]), 2, 1), ((ByteArray.mk #[98, 110, 101]), 2, 0), ((ByteArray.mk #[98, 99, 115]), 1, 1), ((ByteArray.mk #[98, 99, 99]), 1, 0), ((ByteArray.mk #[98, 109, 105]), 128, 1), ((ByteArray.mk #[98, 112, 108]), 128, 0)] : Int)))
      ((rd o10 t47).bind fun _ =>
      (rd o10 t47).bind fun t50 =>
      (rd52'' k 0 5 [(24, 0, t50.2.2, t50.2.1)]).bind fun t60 =>
      (two76 k 23 7 5).bind fun t61 =>
      (no75 k [t61.1]).bind fun t63 =>
      (add74 k () t50.1 7 [t60.1, t63.1] () o1_1).bind fun t65 =>
      some (Sum.inl ((), (), (w64 (t47 + 1)), (), t65.2.2, o10)))
      (some (Sum.inr ((), o1_1)))
def ways51 (k : Nat) (_ : Unit) (o0 : Unit) (o1 : tY32) : Option tY25 :=
  (rd52'' k 0 5 []).bind fun t5 =>
  (jump53' k 7).bind fun t6 =>
  (rd52'' k 0 6 t6.1).bind fun t7 =>
  (add74 k () (ByteArray.mk #[106, 109, 112]) 4 [t5.1, t7.1] () o1).bind fun t9 =>
  (two76 k 18 8 5).bind fun t11 =>
  (rd52'' k 0 5 [t11.1]).bind fun t13 =>
  (two76 k 19 8 5).bind fun t14 =>
  (two76 k 21 5 7).bind fun t15 =>
  (rd52'' k 0 5 [t14.1, t15.1]).bind fun t17 =>
  (two76 k 20 5 7).bind fun t18 =>
  (wr78 k 4 5 [t18.1]).bind fun t20 =>
  (two76 k 1 7 8).bind fun t21 =>
  (wr78 k 4 5 [t21.1]).bind fun t23 =>
  (add74 k () (ByteArray.mk #[106, 115, 114]) 4 [t13.1, t17.1, t20.1, t23.1] () t9.2.2).bind fun t25 =>
  (rd52'' k 5 5 []).bind fun t27 =>
  (jump53' k 7).bind fun t28 =>
  (rd52'' k 5 6 t28.1).bind fun t29 =>
  (add74 k () (ByteArray.mk #[114, 116, 115]) 0 [t27.1, t29.1] () t25.2.2).bind fun t31 =>
  (rd52'' k 5 4 []).bind fun t33 =>
  (rd52'' k 5 5 []).bind fun t34 =>
  (jump53' k 7).bind fun t35 =>
  (rd52'' k 5 6 t35.1).bind fun t36 =>
  (add74 k () (ByteArray.mk #[114, 116, 105]) 0 [t33.1, t34.1, t36.1] () t31.2.2).bind fun t38 =>
  Option.bind
    (loopN (ways51.l0 k) k ((), (), 0, (), t38.2.2, [((ByteArray.mk #[98, 101, 113]), 2, 1), ((ByteArray.mk #[98, 110, 101]), 2, 0), ((ByteArray.mk #[98, 99, 115]), 1, 1), ((ByteArray.mk #[98, 99, 99]), 1, 0), ((ByteArray.mk #[98, 109, 105]), 128, 1), ((ByteArray.mk #[98, 112, 108]), 128, 0)]) : Option tY27) fun ((_, o1_2) : tY27) =>
  some ((), (), o1_2)
def ways51.A : Ann := { conds := [], blocks := [(0, ⟨[], [(0, .var kY22), (1, .row kY4)], 2, [], 147573811852188057608⟩)], loops := [(5, ⟨[(0, .ptr 0 []), (45, .ms 10), (47, .int .i64)], [(0, .var kY22), (1, .row kY4), (10, .row kY16)], 11, [], 147573811852188057608⟩)], keeps := [3], orders := [(7, [(0, .strong), (1, .strong), (2, .strong), (3, .strong), (4, .strong), (5, .strong), (6, .strong), (7, .strong), (8, .eff true), (9, .eff true), (10, .eff true), (11, .eff true), (12, .eff true), (13, .eff true), (14, .eff false)])] }
def ways51.S : Sig := { f := 51, params := [.ptr 0 []], objs := [.var kY22, .row kY4], res := .tup .unit, outs := [.var kY22, .row kY4], fix := [], run := fun k ds os => ways51 k ds os.1 os.2 }
def ways51.G : List Sig := [add74.S, jump53'.S, no75.S, rd52''.S, two76.S, wr78.S]
theorem ways51.eq (k : Nat) : ∀ ds os, ways51.S.run k ds os = runF ⟨types, ways51.G, ways51.A, k, 0, []⟩ Tryz.f51 (codeOf Tryz.f51) ways51.S.params ways51.S.objs ways51.S.res ways51.S.outs ds os := by
  intro ds os; kernel_rfl
theorem ways51.dr : DrOk Tryz.prog ways51.A (codeOf Tryz.f51) := ⟨by kernel_rfl, by kernel_rfl⟩
theorem ways51.ok (k : Nat) : SoundAt Tryz.prog k ways51.S :=
  runF_sound (X := ⟨types, ways51.G, ways51.A, k, 0, []⟩) types_ok (mem_all (⟨add74.ok k, ⟨jump53'.ok k, ⟨no75.ok k, ⟨rd52''.ok k, ⟨two76.ok k, ⟨wr78.ok k, trivial⟩⟩⟩⟩⟩⟩)) (fn := Tryz.f51) (c := codeOf Tryz.f51) rfl (by kernel_rfl) rfl rfl ways51.dr (ways51.eq k)

def answers54 (k : Nat) (low : Int) (high : Int) : Option tY38 :=
  (two76 k 21 5 7).bind fun t5 =>
  (no75 k [t5.1]).bind fun t7 =>
  (two76 k 20 5 7).bind fun t8 =>
  (wr78 k 4 5 [t8.1]).bind fun t10 =>
  (wr78 k 4 5 []).bind fun t11 =>
  (wr78 k 4 4 [(16, 0, 0, 4)]).bind fun t14 =>
  (rd52'' k low 5 []).bind fun t16 =>
  (jump53' k 7).bind fun t18 =>
  (rd52'' k high 6 t18.1).bind fun t19 =>
  some ([t7.1, t10.1, t11.1, t14.1, t16.1, t19.1], ())
def answers54.A : Ann := { conds := [], blocks := [], loops := [], keeps := [], orders := [] }
def answers54.S : Sig := { f := 54, params := [.int .i64, .int .i64], objs := [], res := .sl kY7, outs := [], fix := [], run := fun k ds os => answers54 k ds.1 ds.2 }
def answers54.G : List Sig := [jump53'.S, no75.S, rd52''.S, two76.S, wr78.S]
theorem answers54.eq (k : Nat) : ∀ ds os, answers54.S.run k ds os = runF ⟨types, answers54.G, answers54.A, k, 0, []⟩ Tryz.f54 (codeOf Tryz.f54) answers54.S.params answers54.S.objs answers54.S.res answers54.S.outs ds os := by
  intro ds os; kernel_rfl
theorem answers54.dr : DrOk Tryz.prog answers54.A (codeOf Tryz.f54) := ⟨by kernel_rfl, by kernel_rfl⟩
theorem answers54.ok (k : Nat) : SoundAt Tryz.prog k answers54.S :=
  runF_sound (X := ⟨types, answers54.G, answers54.A, k, 0, []⟩) types_ok (mem_all (⟨jump53'.ok k, ⟨no75.ok k, ⟨rd52''.ok k, ⟨two76.ok k, ⟨wr78.ok k, trivial⟩⟩⟩⟩⟩)) (fn := Tryz.f54) (c := codeOf Tryz.f54) rfl (by kernel_rfl) rfl rfl answers54.dr (answers54.eq k)
end Go.Proofs.YtcppmlgnceldmaaGreatDoor.Di

/- Go functions as plain Lean functions, and their contracts. -/
set_option linter.unusedVariables false
set_option maxRecDepth 100000
noncomputable section
namespace Go.Proofs.YtcppmlgnceldmaaGreatDoor.Di
open Go Go.Proofs.YtcppmlgnceldmaaGreatDoor.Gp
def Cpu23 (k : Nat) : Option (tY11 × Unit) :=
  (memory49 k () () []).bind fun t6 =>
  (alone50 k () () t6.2.2).bind fun t8 =>
  (ways51 k () () t8.2.2).bind fun t10 =>
  (rd52'' k 10 5 []).bind fun t11 =>
  (jump53 k 7).bind fun t12 =>
  (if room (List.length t12.2 + List.length [(2, 3, 0, 255)]) 32 then some () else none).bind fun _ =>
  (rd52'' k 11 6 (t12.2 ++ [(2, 3, 0, 255)])).bind fun t16 =>
  (answers54 k 6 7).bind fun t23 =>
  (answers54 k 8 9).bind fun t24 =>
  some (((ByteArray.mk #[115, 116, 100]), t10.2.2, [t11.1, t16.1], t23.1, t24.1), ())
def Cpu23.A : Ann := { conds := [], blocks := [], loops := [], keeps := [], orders := [(6, [(0, .strong), (1, .strong), (2, .strong), (3, .strong), (4, .strong), (5, .eff true), (6, .eff true), (7, .strong), (8, .eff false)])], turns := [(0, [⟨0, [(1, .st kY5), (2, .st kY8), (3, .st kY8), (4, .st kY8)], .st (.pair .str (.pair (.ms 1) (.pair (.ms 2) (.pair (.ms 3) (.ms 4)))))⟩]), (1, [⟨5, [(6, .st kY5)], .st (.ms 6)⟩])] }
def Cpu23.S : Sig := { f := 23, params := [], objs := [], res := .st kY1, outs := [], fix := [], run := fun k ds os => Cpu23 k }
def Cpu23.G : List Sig := [alone50.S, answers54.S, jump53.S, memory49.S, rd52''.S, ways51.S]
theorem Cpu23.eq (k : Nat) : ∀ ds os, Cpu23.S.run k ds os = runF ⟨types, Cpu23.G, Cpu23.A, k, 0, []⟩ Tryz.f23 (codeOf Tryz.f23) Cpu23.S.params Cpu23.S.objs Cpu23.S.res Cpu23.S.outs ds os := by
  intro ds os; kernel_rfl
theorem Cpu23.dr : DrOk Tryz.prog Cpu23.A (codeOf Tryz.f23) := ⟨by kernel_rfl, by kernel_rfl⟩
theorem Cpu23.ok (k : Nat) : SoundAt Tryz.prog k Cpu23.S :=
  runF_sound (X := ⟨types, Cpu23.G, Cpu23.A, k, 0, []⟩) types_ok (mem_all (⟨alone50.ok k, ⟨answers54.ok k, ⟨jump53.ok k, ⟨memory49.ok k, ⟨rd52''.ok k, ⟨ways51.ok k, trivial⟩⟩⟩⟩⟩⟩)) (fn := Tryz.f23) (c := codeOf Tryz.f23) rfl (by kernel_rfl) rfl rfl Cpu23.dr (Cpu23.eq k)

def Named179 (k : Nat) (x : tY33) (t1 : ByteArray) (t2 : Int) : Option tY62 :=
  some ((cond (streq x.2.1 t1) (x.2.2.1 == t2) false), ())
def Named179.A : Ann := { conds := [], blocks := [], loops := [], keeps := [3], orders := [] }
def Named179.S : Sig := { f := 79, params := [.st kY5, .fp .str, .fp kY23], objs := [], res := .bool, outs := [], fix := [], run := fun k ds os => Named179 k ds.1 ds.2.1 ds.2.2 }
def Named179.G : List Sig := []
theorem Named179.eq (k : Nat) : ∀ ds os, Named179.S.run k ds os = runF ⟨types, Named179.G, Named179.A, k, 0, []⟩ Tryz.f79 (codeOf Tryz.f79) Named179.S.params Named179.S.objs Named179.S.res Named179.S.outs ds os := by
  intro ds os; kernel_rfl
theorem Named179.dr : DrOk Tryz.prog Named179.A (codeOf Tryz.f79) := ⟨by kernel_rfl, by kernel_rfl⟩
theorem Named179.ok (k : Nat) : SoundAt Tryz.prog k Named179.S :=
  runF_sound (X := ⟨types, Named179.G, Named179.A, k, 0, []⟩) types_ok (fun s hs => absurd hs List.not_mem_nil) (fn := Tryz.f79) (c := codeOf Tryz.f79) rfl (by kernel_rfl) rfl rfl Named179.dr (Named179.eq k)

def IndexFunc56.l0 (k : Nat) (s : tY32) : (tY55 × Int) → Option ((tY55 × Int) ⊕ tY60)
  | (f_1, t8) =>
    cond (decide (t8 < (List.length s : Int)))
      ((rd s t8).bind fun t14 =>
      (Named179 k t14 f_1.1 f_1.2.1).bind fun t16 =>
      cond t16.1
        (some (Sum.inr (Sum.inr (t8, ()))))
        (some (Sum.inl (f_1, (w64 (t8 + 1))))))
      (some (Sum.inr (Sum.inl ())))
def IndexFunc56 (k : Nat) (s : tY32) (f : tY55) : Option tY63 :=
  Option.bind
    (loopN (IndexFunc56.l0 k s) k (f, 0) : Option tY60) (joined fun (_ : Unit) =>
    some ((-1), ()))
def IndexFunc56.A : Ann := { conds := [], blocks := [(0, ⟨[], [], 0, [], 524080⟩)], loops := [(2, ⟨[(1, .fn 79 kY17), (8, .int .i64)], [], 0, [], 524080⟩)], keeps := [], orders := [] }
def IndexFunc56.S : Sig := { f := 56, params := [.sl kY4, .fn 79 kY17], objs := [], res := .int .i64, outs := [], fix := [], run := fun k ds os => IndexFunc56 k ds.1 ds.2 }
def IndexFunc56.G : List Sig := [Named179.S]
theorem IndexFunc56.eq (k : Nat) : ∀ ds os, IndexFunc56.S.run k ds os = runF ⟨types, IndexFunc56.G, IndexFunc56.A, k, 0, []⟩ Tryz.f56 (codeOf Tryz.f56) IndexFunc56.S.params IndexFunc56.S.objs IndexFunc56.S.res IndexFunc56.S.outs ds os := by
  intro ds os; kernel_rfl
theorem IndexFunc56.dr : DrOk Tryz.prog IndexFunc56.A (codeOf Tryz.f56) := ⟨by kernel_rfl, by kernel_rfl⟩
theorem IndexFunc56.ok (k : Nat) : SoundAt Tryz.prog k IndexFunc56.S :=
  runF_sound (X := ⟨types, IndexFunc56.G, IndexFunc56.A, k, 0, []⟩) types_ok (mem_all (⟨Named179.ok k, trivial⟩)) (fn := Tryz.f56) (c := codeOf Tryz.f56) rfl (by kernel_rfl) rfl rfl IndexFunc56.dr (IndexFunc56.eq k)

def Clone104 (k : Nat) (s : tY40) : Option tY37 :=
  orNil (List.length s)
    (cond true
      (some ((), []))
      ((if room (0 + List.length s) 48 then some () else none).bind fun _ =>
      some ((), s)))
    (cond false
      (some ((), []))
      ((if room (0 + List.length s) 48 then some () else none).bind fun _ =>
      some ((), s)))
def Clone104.A : Ann := { conds := [], blocks := [], loops := [], keeps := [], orders := [] }
def Clone104.S : Sig := { f := 104, params := [.sl kY7], objs := [], res := .ms 0, outs := [.row kY7], fix := [], run := fun k ds os => Clone104 k ds }
def Clone104.G : List Sig := []
theorem Clone104.eq (k : Nat) : ∀ ds os, Clone104.S.run k ds os = runF ⟨types, Clone104.G, Clone104.A, k, 0, []⟩ Tryz.f104 (codeOf Tryz.f104) Clone104.S.params Clone104.S.objs Clone104.S.res Clone104.S.outs ds os := by
  intro ds os; kernel_rfl
theorem Clone104.dr : DrOk Tryz.prog Clone104.A (codeOf Tryz.f104) := ⟨by kernel_rfl, by kernel_rfl⟩
theorem Clone104.ok (k : Nat) : SoundAt Tryz.prog k Clone104.S :=
  runF_sound (X := ⟨types, Clone104.G, Clone104.A, k, 0, []⟩) types_ok (fun s hs => absurd hs List.not_mem_nil) (fn := Tryz.f104) (c := codeOf Tryz.f104) rfl (by kernel_rfl) rfl rfl Clone104.dr (Clone104.eq k)

def Clone105 (k : Nat) (s : tY53) : Option tY48 :=
  orNil (List.length s)
    (cond true
      (some ((), []))
      ((if room (0 + List.length s) 32 then some () else none).bind fun _ =>
      some ((), s)))
    (cond false
      (some ((), []))
      ((if room (0 + List.length s) 32 then some () else none).bind fun _ =>
      some ((), s)))
def Clone105.A : Ann := { conds := [], blocks := [], loops := [], keeps := [], orders := [] }
def Clone105.S : Sig := { f := 105, params := [.sl kY12], objs := [], res := .ms 0, outs := [.row kY12], fix := [], run := fun k ds os => Clone105 k ds }
def Clone105.G : List Sig := []
theorem Clone105.eq (k : Nat) : ∀ ds os, Clone105.S.run k ds os = runF ⟨types, Clone105.G, Clone105.A, k, 0, []⟩ Tryz.f105 (codeOf Tryz.f105) Clone105.S.params Clone105.S.objs Clone105.S.res Clone105.S.outs ds os := by
  intro ds os; kernel_rfl
theorem Clone105.dr : DrOk Tryz.prog Clone105.A (codeOf Tryz.f105) := ⟨by kernel_rfl, by kernel_rfl⟩
theorem Clone105.ok (k : Nat) : SoundAt Tryz.prog k Clone105.S :=
  runF_sound (X := ⟨types, Clone105.G, Clone105.A, k, 0, []⟩) types_ok (fun s hs => absurd hs List.not_mem_nil) (fn := Tryz.f105) (c := codeOf Tryz.f105) rfl (by kernel_rfl) rfl rfl Clone105.dr (Clone105.eq k)

def copies87.l0 (k : Nat) (t6 : tY37) : tY35 → Option (tY35 ⊕ tY37)
  | (_, t9, o0) =>
    cond (decide (t9 < (List.length t6.2 : Int)))
      ((rd o0 t9).bind fun _ =>
      (rd o0 t9).bind fun t18 =>
      (Clone105 k t18.2.2.2).bind fun t19 =>
      (rd o0 t9).bind fun _ =>
      (rd o0 t9).bind fun _x_2 =>
      some (Sum.inl ((), (w64 (t9 + 1)), (List.set o0 (Int.toNat t9) (_x_2.1, _x_2.2.1, _x_2.2.2.1, t19.2)))))
      (some (Sum.inr ((), o0)))
def copies87 (k : Nat) (l : tY40) : Option tY38 :=
  (Clone104 k l).bind fun t6 =>
  Option.bind
    (loopN (copies87.l0 k t6) k ((), 0, t6.2) : Option tY37) fun ((_, o0_1) : tY37) =>
  some (o0_1, ())
def copies87.A : Ann := { conds := [], blocks := [(0, ⟨[(3, .ms 0)], [(0, .row kY7)], 1, [], 8388112⟩)], loops := [(3, ⟨[(3, .ms 0), (9, .int .i64)], [(0, .row kY7)], 1, [], 8388112⟩)], keeps := [], orders := [] }
def copies87.S : Sig := { f := 87, params := [.sl kY7], objs := [], res := .sl kY7, outs := [], fix := [], run := fun k ds os => copies87 k ds }
def copies87.G : List Sig := [Clone104.S, Clone105.S]
theorem copies87.eq (k : Nat) : ∀ ds os, copies87.S.run k ds os = runF ⟨types, copies87.G, copies87.A, k, 0, []⟩ Tryz.f87 (codeOf Tryz.f87) copies87.S.params copies87.S.objs copies87.S.res copies87.S.outs ds os := by
  intro ds os; kernel_rfl
theorem copies87.dr : DrOk Tryz.prog copies87.A (codeOf Tryz.f87) := ⟨by kernel_rfl, by kernel_rfl⟩
theorem copies87.ok (k : Nat) : SoundAt Tryz.prog k copies87.S :=
  runF_sound (X := ⟨types, copies87.G, copies87.A, k, 0, []⟩) types_ok (mem_all (⟨Clone104.ok k, ⟨Clone105.ok k, trivial⟩⟩)) (fn := Tryz.f87) (c := codeOf Tryz.f87) rfl (by kernel_rfl) rfl rfl copies87.dr (copies87.eq k)

def Copy62 (k : Nat) (x : tY33) : Option tY29 :=
  (copies87 k x.2.2.2).bind fun t5 =>
  some ((x.1, x.2.1, x.2.2.1, t5.1), ())
def Copy62.A : Ann := { conds := [], blocks := [], loops := [], keeps := [], orders := [] }
def Copy62.S : Sig := { f := 62, params := [.st kY5], objs := [], res := .st kY5, outs := [], fix := [], run := fun k ds os => Copy62 k ds }
def Copy62.G : List Sig := [copies87.S]
theorem Copy62.eq (k : Nat) : ∀ ds os, Copy62.S.run k ds os = runF ⟨types, Copy62.G, Copy62.A, k, 0, []⟩ Tryz.f62 (codeOf Tryz.f62) Copy62.S.params Copy62.S.objs Copy62.S.res Copy62.S.outs ds os := by
  intro ds os; kernel_rfl
theorem Copy62.dr : DrOk Tryz.prog Copy62.A (codeOf Tryz.f62) := ⟨by kernel_rfl, by kernel_rfl⟩
theorem Copy62.ok (k : Nat) : SoundAt Tryz.prog k Copy62.S :=
  runF_sound (X := ⟨types, Copy62.G, Copy62.A, k, 0, []⟩) types_ok (mem_all (⟨copies87.ok k, trivial⟩)) (fn := Tryz.f62) (c := codeOf Tryz.f62) rfl (by kernel_rfl) rfl rfl Copy62.dr (Copy62.eq k)
end Go.Proofs.YtcppmlgnceldmaaGreatDoor.Di

/- Go functions as plain Lean functions, and their contracts. -/
set_option linter.unusedVariables false
set_option maxRecDepth 100000
noncomputable section
namespace Go.Proofs.YtcppmlgnceldmaaGreatDoor.Di
open Go Go.Proofs.YtcppmlgnceldmaaGreatDoor.Gp
def Named55 (k : Nat) (c : tY11) (name : ByteArray) (mode : Int) : Option tY24 :=
  (IndexFunc56 k c.2.1 (name, mode, ())).bind fun t12 =>
  cond (decide (t12.1 < 0))
    (some (((0, (ByteArray.mk #[]), 0, []), false, ()), ()))
    ((rd c.2.1 t12.1).bind fun t19 =>
    (Copy62 k t19).bind fun t21 =>
    some ((t21.1, true, ()), ()))
def Named55.A : Ann := { conds := [], blocks := [], loops := [], keeps := [3, 4, 5], orders := [] }
def Named55.S : Sig := { f := 55, params := [.st kY1, .str, .int .i64], objs := [], res := .tup kY2, outs := [], fix := [], run := fun k ds os => Named55 k ds.1 ds.2.1 ds.2.2 }
def Named55.G : List Sig := [Copy62.S, IndexFunc56.S]
theorem Named55.eq (k : Nat) : ∀ ds os, Named55.S.run k ds os = runF ⟨types, Named55.G, Named55.A, k, 0, []⟩ Tryz.f55 (codeOf Tryz.f55) Named55.S.params Named55.S.objs Named55.S.res Named55.S.outs ds os := by
  intro ds os; kernel_rfl
theorem Named55.dr : DrOk Tryz.prog Named55.A (codeOf Tryz.f55) := ⟨by kernel_rfl, by kernel_rfl⟩
theorem Named55.ok (k : Nat) : SoundAt Tryz.prog k Named55.S :=
  runF_sound (X := ⟨types, Named55.G, Named55.A, k, 0, []⟩) types_ok (mem_all (⟨Copy62.ok k, ⟨IndexFunc56.ok k, trivial⟩⟩)) (fn := Tryz.f55) (c := codeOf Tryz.f55) rfl (by kernel_rfl) rfl rfl Named55.dr (Named55.eq k)

def nop24 (k : Nat) : Option (tY47 × Unit) :=
  (Cpu23 k).bind fun t6 =>
  (Named55 k t6.1 (ByteArray.mk #[110, 111, 112]) 0).bind fun t7 =>
  (Cpu23 k).bind fun t11 =>
  (Named55 k t11.1 (ByteArray.mk #[106, 109, 112]) 4).bind fun t12 =>
  some ((512, ([(IntKind.wrap .u8 t7.1.1.1), (IntKind.wrap .u8 t12.1.1.1), 0, 2] : List Int), []), ())
def nop24.A : Ann := { conds := [], blocks := [], loops := [], keeps := [1, 3], orders := [] }
def nop24.S : Sig := { f := 24, params := [], objs := [], res := .st kY11, outs := [], fix := [], run := fun k ds os => nop24 k }
def nop24.G : List Sig := [Cpu23.S, Named55.S]
theorem nop24.eq (k : Nat) : ∀ ds os, nop24.S.run k ds os = runF ⟨types, nop24.G, nop24.A, k, 0, []⟩ Tryz.f24 (codeOf Tryz.f24) nop24.S.params nop24.S.objs nop24.S.res nop24.S.outs ds os := by
  intro ds os; kernel_rfl
theorem nop24.dr : DrOk Tryz.prog nop24.A (codeOf Tryz.f24) := ⟨by kernel_rfl, by kernel_rfl⟩
theorem nop24.ok (k : Nat) : SoundAt Tryz.prog k nop24.S :=
  runF_sound (X := ⟨types, nop24.G, nop24.A, k, 0, []⟩) types_ok (mem_all (⟨Cpu23.ok k, ⟨Named55.ok k, trivial⟩⟩)) (fn := Tryz.f24) (c := codeOf Tryz.f24) rfl (by kernel_rfl) rfl rfl nop24.dr (nop24.eq k)

def Find161 (k : Nat) (x : tY33) (t1 : Int) : Option tY62 :=
  some ((x.1 == t1), ())
def Find161.A : Ann := { conds := [], blocks := [], loops := [], keeps := [2], orders := [] }
def Find161.S : Sig := { f := 61, params := [.st kY5, .fp kY23], objs := [], res := .bool, outs := [], fix := [], run := fun k ds os => Find161 k ds.1 ds.2 }
def Find161.G : List Sig := []
theorem Find161.eq (k : Nat) : ∀ ds os, Find161.S.run k ds os = runF ⟨types, Find161.G, Find161.A, k, 0, []⟩ Tryz.f61 (codeOf Tryz.f61) Find161.S.params Find161.S.objs Find161.S.res Find161.S.outs ds os := by
  intro ds os; kernel_rfl
theorem Find161.dr : DrOk Tryz.prog Find161.A (codeOf Tryz.f61) := ⟨by kernel_rfl, by kernel_rfl⟩
theorem Find161.ok (k : Nat) : SoundAt Tryz.prog k Find161.S :=
  runF_sound (X := ⟨types, Find161.G, Find161.A, k, 0, []⟩) types_ok (fun s hs => absurd hs List.not_mem_nil) (fn := Tryz.f61) (c := codeOf Tryz.f61) rfl (by kernel_rfl) rfl rfl Find161.dr (Find161.eq k)

def IndexFunc56'.l0 (k : Nat) (s : tY32) : (tY63 × Int) → Option ((tY63 × Int) ⊕ tY60)
  | (f_1, t8) =>
    cond (decide (t8 < (List.length s : Int)))
      ((rd s t8).bind fun t14 =>
      (Find161 k t14 f_1.1).bind fun t16 =>
      cond t16.1
        (some (Sum.inr (Sum.inr (t8, ()))))
        (some (Sum.inl (f_1, (w64 (t8 + 1))))))
      (some (Sum.inr (Sum.inl ())))
def IndexFunc56' (k : Nat) (s : tY32) (f : tY63) : Option tY63 :=
  Option.bind
    (loopN (IndexFunc56'.l0 k s) k (f, 0) : Option tY60) (joined fun (_ : Unit) =>
    some ((-1), ()))
def IndexFunc56'.A : Ann := { conds := [], blocks := [(0, ⟨[], [], 0, [], 524080⟩)], loops := [(2, ⟨[(1, .fn 61 (.pair (.fp kY23) .unit)), (8, .int .i64)], [], 0, [], 524080⟩)], keeps := [], orders := [] }
def IndexFunc56'.S : Sig := { f := 56, params := [.sl kY4, .fn 61 (.pair (.fp kY23) .unit)], objs := [], res := .int .i64, outs := [], fix := [], run := fun k ds os => IndexFunc56' k ds.1 ds.2 }
def IndexFunc56'.G : List Sig := [Find161.S]
theorem IndexFunc56'.eq (k : Nat) : ∀ ds os, IndexFunc56'.S.run k ds os = runF ⟨types, IndexFunc56'.G, IndexFunc56'.A, k, 0, []⟩ Tryz.f56 (codeOf Tryz.f56) IndexFunc56'.S.params IndexFunc56'.S.objs IndexFunc56'.S.res IndexFunc56'.S.outs ds os := by
  intro ds os; kernel_rfl
theorem IndexFunc56'.dr : DrOk Tryz.prog IndexFunc56'.A (codeOf Tryz.f56) := ⟨by kernel_rfl, by kernel_rfl⟩
theorem IndexFunc56'.ok (k : Nat) : SoundAt Tryz.prog k IndexFunc56'.S :=
  runF_sound (X := ⟨types, IndexFunc56'.G, IndexFunc56'.A, k, 0, []⟩) types_ok (mem_all (⟨Find161.ok k, trivial⟩)) (fn := Tryz.f56) (c := codeOf Tryz.f56) rfl (by kernel_rfl) rfl rfl IndexFunc56'.dr (IndexFunc56'.eq k)

def Find39 (k : Nat) (c : tY11) (op : Int) : Option tY24 :=
  (IndexFunc56' k c.2.1 (op, ())).bind fun t10 =>
  cond (decide (t10.1 < 0))
    (some (((0, (ByteArray.mk #[]), 0, []), false, ()), ()))
    ((rd c.2.1 t10.1).bind fun t17 =>
    (Copy62 k t17).bind fun t19 =>
    some ((t19.1, true, ()), ()))
def Find39.A : Ann := { conds := [], blocks := [], loops := [], keeps := [2, 3], orders := [] }
def Find39.S : Sig := { f := 39, params := [.st kY1, .int .i64], objs := [], res := .tup kY2, outs := [], fix := [], run := fun k ds os => Find39 k ds.1 ds.2 }
def Find39.G : List Sig := [Copy62.S, IndexFunc56'.S]
theorem Find39.eq (k : Nat) : ∀ ds os, Find39.S.run k ds os = runF ⟨types, Find39.G, Find39.A, k, 0, []⟩ Tryz.f39 (codeOf Tryz.f39) Find39.S.params Find39.S.objs Find39.S.res Find39.S.outs ds os := by
  intro ds os; kernel_rfl
theorem Find39.dr : DrOk Tryz.prog Find39.A (codeOf Tryz.f39) := ⟨by kernel_rfl, by kernel_rfl⟩
theorem Find39.ok (k : Nat) : SoundAt Tryz.prog k Find39.S :=
  runF_sound (X := ⟨types, Find39.G, Find39.A, k, 0, []⟩) types_ok (mem_all (⟨Copy62.ok k, ⟨IndexFunc56'.ok k, trivial⟩⟩)) (fn := Tryz.f39) (c := codeOf Tryz.f39) rfl (by kernel_rfl) rfl rfl Find39.dr (Find39.eq k)

def Size26 (k : Nat) (mode : Int) : Option tY63 :=
  cond (mode == 0)
    (some (0, ()))
    (Option.bind
      (cond (mode == 4)
        (some (mode == 4))
        (Option.bind
          (cond (mode == 5)
            (some (mode == 5))
            (some (mode == 6)) : Option Bool) fun (t6 : Bool) =>
        some t6) : Option Bool) fun (t6_1 : Bool) =>
    cond t6_1
      (some (2, ()))
      (Option.bind
        (cond (mode == 1)
          (some (mode == 1))
          (Option.bind
            (cond (mode == 2)
              (some (mode == 2))
              (Option.bind
                (cond (mode == 3)
                  (some (mode == 3))
                  (Option.bind
                    (cond (mode == 7)
                      (some (mode == 7))
                      (some (mode == 8)) : Option Bool) fun (t10 : Bool) =>
                  some t10) : Option Bool) fun (t10_1 : Bool) =>
              some t10_1) : Option Bool) fun (t10_2 : Bool) =>
          some t10_2) : Option Bool) fun (t10_3 : Bool) =>
      cond t10_3
        (some (1, ()))
        (some ((-1), ()))))
def Size26.A : Ann := { conds := [(393221, ⟨[(6, .bool)], [], 0, [], 832⟩), (393222, ⟨[(6, .bool)], [], 0, [], 576⟩), (655369, ⟨[(10, .bool)], [], 0, [], 62464⟩), (655370, ⟨[(10, .bool)], [], 0, [], 58368⟩), (655371, ⟨[(10, .bool)], [], 0, [], 50176⟩), (655372, ⟨[(10, .bool)], [], 0, [], 33792⟩)], blocks := [], loops := [], keeps := [], orders := [] }
def Size26.S : Sig := { f := 26, params := [.int .i64], objs := [], res := .int .i64, outs := [], fix := [], run := fun k ds os => Size26 k ds }
def Size26.G : List Sig := []
theorem Size26.eq (k : Nat) : ∀ ds os, Size26.S.run k ds os = runF ⟨types, Size26.G, Size26.A, k, 0, []⟩ Tryz.f26 (codeOf Tryz.f26) Size26.S.params Size26.S.objs Size26.S.res Size26.S.outs ds os := by
  intro ds os; kernel_rfl
theorem Size26.dr : DrOk Tryz.prog Size26.A (codeOf Tryz.f26) := ⟨by kernel_rfl, by kernel_rfl⟩
theorem Size26.ok (k : Nat) : SoundAt Tryz.prog k Size26.S :=
  runF_sound (X := ⟨types, Size26.G, Size26.A, k, 0, []⟩) types_ok (fun s hs => absurd hs List.not_mem_nil) (fn := Tryz.f26) (c := codeOf Tryz.f26) rfl (by kernel_rfl) rfl rfl Size26.dr (Size26.eq k)

def width69 (k : Nat) (bits : Int) : Option tY63 :=
  some ((mxI 0 (mnI bits 62)), ())
def width69.A : Ann := { conds := [], blocks := [], loops := [], keeps := [], orders := [] }
def width69.S : Sig := { f := 69, params := [.int .i64], objs := [], res := .int .i64, outs := [], fix := [], run := fun k ds os => width69 k ds }
def width69.G : List Sig := []
theorem width69.eq (k : Nat) : ∀ ds os, width69.S.run k ds os = runF ⟨types, width69.G, width69.A, k, 0, []⟩ Tryz.f69 (codeOf Tryz.f69) width69.S.params width69.S.objs width69.S.res width69.S.outs ds os := by
  intro ds os; kernel_rfl
theorem width69.dr : DrOk Tryz.prog width69.A (codeOf Tryz.f69) := ⟨by kernel_rfl, by kernel_rfl⟩
theorem width69.ok (k : Nat) : SoundAt Tryz.prog k width69.S :=
  runF_sound (X := ⟨types, width69.G, width69.A, k, 0, []⟩) types_ok (fun s hs => absurd hs List.not_mem_nil) (fn := Tryz.f69) (c := codeOf Tryz.f69) rfl (by kernel_rfl) rfl rfl width69.dr (width69.eq k)

def Low48 (k : Nat) (n : Int) (bits : Int) : Option tY63 :=
  (width69 k bits).bind fun t7 =>
  (if t7.1 < 0 then none else some (shlI .i64 1 t7.1)).bind fun t8 =>
  some ((ibits .and .i64 n (w64 (t8 - 1))), ())
def Low48.A : Ann := { conds := [], blocks := [], loops := [], keeps := [], orders := [] }
def Low48.S : Sig := { f := 48, params := [.int .i64, .int .i64], objs := [], res := .int .i64, outs := [], fix := [], run := fun k ds os => Low48 k ds.1 ds.2 }
def Low48.G : List Sig := [width69.S]
theorem Low48.eq (k : Nat) : ∀ ds os, Low48.S.run k ds os = runF ⟨types, Low48.G, Low48.A, k, 0, []⟩ Tryz.f48 (codeOf Tryz.f48) Low48.S.params Low48.S.objs Low48.S.res Low48.S.outs ds os := by
  intro ds os; kernel_rfl
theorem Low48.dr : DrOk Tryz.prog Low48.A (codeOf Tryz.f48) := ⟨by kernel_rfl, by kernel_rfl⟩
theorem Low48.ok (k : Nat) : SoundAt Tryz.prog k Low48.S :=
  runF_sound (X := ⟨types, Low48.G, Low48.A, k, 0, []⟩) types_ok (mem_all (⟨width69.ok k, trivial⟩)) (fn := Tryz.f48) (c := codeOf Tryz.f48) rfl (by kernel_rfl) rfl rfl Low48.dr (Low48.eq k)
end Go.Proofs.YtcppmlgnceldmaaGreatDoor.Di

/- What is known of package-level variables: the table of strconv's powers of ten; some number stands in bytealg's variable. -/
noncomputable section
namespace Go.Proofs.YtcppmlgnceldmaaGreatDoor.Gp
open Go
theorem pow10_eq : Lib.pow10Tab = pow10L := by kernel_rfl
theorem g_pow10 : Tryz.prog.globalNamed "internal/strconv.uint64pow10" = some 3 := by kernel_rfl
theorem tab_pow10 (H : Nat → Option Go.Obj) (w : World) (h : GH H) (ha : ∀ b o, H b = some o → w.heap[b]? = some o) : Lib.TabIs Tryz.prog w "internal/strconv.uint64pow10" .u64 Lib.pow10Tab := by
  obtain ⟨o, h1, t, z, h2⟩ := h _ (List.mem_cons_of_mem _ (List.mem_cons_self ..))
  have h1 : H 3 = some o := h1
  have h3 := ha _ _ h1
  rw [h2] at h3
  unfold Lib.TabIs World.var?
  rw [g_pow10]
  simp only [Option.bind_some, h3, pow10_eq]
theorem max_len (H : Nat → Option Go.Obj) (w : World) (h : GH H) (ha : ∀ b o, H b = some o → w.heap[b]? = some o) : ∃ m, w.cell? ⟨0, 0, none⟩ = some (.int .i64 m) := by
  obtain ⟨o, h1, cs, m, t, z, h2, h4⟩ := h _ (List.mem_cons_self ..)
  have h1 : H 0 = some o := h1
  have h3 := ha _ _ h1
  rw [h2] at h3
  refine ⟨m, ?_⟩
  unfold World.cell?
  simp [h3, h4]
/-- what a call begins with -/
theorem gh_of {W : World} (h : Lib.TabIs Tryz.prog W "internal/strconv.uint64pow10" .u64 Lib.pow10Tab) (hm : ∃ m, W.cell? ⟨0, 0, none⟩ = some (.int .i64 m)) : GH (fun b => W.heap[b]?) := by
  intro p hp
  rcases List.mem_cons.1 hp with rfl | hp
  · obtain ⟨m, hm⟩ := hm
    unfold World.cell? at hm
    cases hh : W.heap[0]? with
    | none => simp [hh] at hm
    | some o =>
      cases o with
      | cells cs t z =>
        refine ⟨_, hh, cs, m, t, z, rfl, ?_⟩
        simpa [hh] using hm
      | _ => simp [hh] at hm
  · rw [List.mem_singleton] at hp
    subst hp
    unfold Lib.TabIs World.var? at h
    rw [g_pow10, Option.bind_some] at h
    cases hh : W.heap[3]? with
    | none => rw [hh] at h; cases h
    | some o =>
      rw [hh] at h
      cases o with
      | cells cs t z =>
        refine ⟨_, hh, t, z, ?_⟩
        rw [Option.some.inj h, pow10_eq]
      | _ => cases h
end Go.Proofs.YtcppmlgnceldmaaGreatDoor.Gp

/- Functions of the library that only answer: their contracts as ours. strconv.Itoa, strings.Replace. -/
set_option linter.unusedVariables false
noncomputable section
namespace Go.Proofs.YtcppmlgnceldmaaGreatDoor.Gp
open Go Go.RowKit Go.Shelf

/-- a contract of a function that only answers: memory below stays -/
theorem pure_sound {P : Program} {f : Nat} {params : List K} {res : K} {run : HL params → Option res.den} (hfn : ∃ fn c, P.funcs[f]? = some fn ∧ (fn.name == "runtime.NumGoroutine") = false ∧ fn.body = some c)
    (h : ∀ ds r, run ds = some r → ∀ (xs : Array Value) (w : World) (H : Hp) (L : Ls), SRs H L (unpackL params ds) xs.toList → GH H → (∀ b o, H b = some o → w.heap[b]? = some o) →
      Calls P f xs w fun e w' => ∃ v, e = .returned v ∧ (∀ H' L', SR H' L' ⟨res, r⟩ v) ∧ Below w.heap.size w w') (k : Nat) :
    SoundAt P k { f := f, params := params, objs := [], res := res, outs := [], fix := [], run := fun _ ds _ => (run ds).map (fun r => (r, ())) } := by
  refine ⟨hfn, fun ds os q hq xs w H L hx hp hl => ?_⟩
  obtain ⟨r, hr, rfl⟩ := Option.map_eq_some_iff.1 hq
  refine (h ds r hr xs w H L hx hp.glob hp.agree).mono fun e w' hh => ?_
  obtain ⟨v, rfl, hv, hb⟩ := hh
  have hno : ∀ (L : Ls) b, ¬ Own (assoc O.dead (objsFrom 0 ([] : List OK) ())) L b := fun L b ⟨i, hi, _⟩ => hi
  refine ⟨v, H, (fun _ => default), rfl, hv _ _, ⟨fun i => trivial, fun b o hbo => ?_, fun i hi => hi.elim, fun i j hi => hi.elim, hp.glob⟩, (fun i hi => by cases hi), ⟨⟨fun _ _ h => h, fun b hlt _ => hb.block b hlt, fun _ _ h => .inl h, fun b hb => absurd hb (hno _ b), hb.size, hb.os, hb.tape, hb.output⟩, (fun i hi => by cases hi), (fun i hi => by cases hi)⟩⟩
  have hlt : b < w.heap.size := (Array.getElem?_eq_some_iff.1 (hp.agree b o hbo)).1
  rw [hb.block b hlt]
  exact hp.agree b o hbo
theorem sr_int {H : Hp} {L : Ls} {k : IntKind} {n : Int} {x : Value} (h : SR H L ⟨.int k, n⟩ x) : x = .int k n := by
  obtain ⟨us, hus, rfl⟩ := h
  have hus : us = [Value.int k n] := hus
  subst hus
  rfl
theorem sr_str {H : Hp} {L : Ls} {s : ByteArray} {x : Value} (h : SR H L ⟨.str, s⟩ x) : x = .string s := by
  obtain ⟨us, hus, rfl⟩ := h
  have hus : us = [Value.string s] := hus
  subst hus
  rfl
theorem str_sr {H : Hp} {L : Ls} {s : ByteArray} : SR H L ⟨.str, s⟩ (.string s) := ⟨[Value.string s], rfl, rfl⟩
def itoaF (n : Int) : Option ByteArray := if -9223372036854775808 ≤ n ∧ n ≤ 9223372036854775807 then some ⟨(Lib.itoa n).toArray⟩ else none
def itoaS (f : Nat) : Sig := { f := f, params := [.int .i64], objs := [], res := .str, outs := [], fix := [], run := fun _ (ds : Int) _ => (itoaF ds).map (fun r => (r, ())) }
theorem itoa_sound {P : Program} {ρ : Ren} (Ly : LaysM.n171 P ρ) {f : Nat} (hf : ρ.f 171 = f) (hfn : ∃ fn c, P.funcs[f]? = some fn ∧ (fn.name == "runtime.NumGoroutine") = false ∧ fn.body = some c)
    (htab : ∀ (H : Hp) (w : World), GH H → (∀ b o, H b = some o → w.heap[b]? = some o) → Lib.TabIs P w "internal/strconv.uint64pow10" .u64 Lib.pow10Tab) (k : Nat) : SoundAt P k (itoaS f) := by
  subst hf
  refine pure_sound (params := [.int .i64]) (res := .str) (run := itoaF) hfn (fun (ds : Int) r hr xs w H L hx hg ha => ?_) k
  unfold itoaF at hr
  split at hr
  case isFalse => cases hr
  rename_i hn
  cases hr
  have hxs : xs = #[.int .i64 ds] := by
    have hx : SRs H L [⟨.int .i64, ds⟩] xs.toList := hx
    generalize hl' : xs.toList = l at hx
    cases hx with
    | cons h1 h2 =>
      cases h2
      rw [sr_int h1] at hl'
      rw [← Array.toArray_toList (xs := xs), hl']
  subst hxs
  refine (Any.strconv_Itoa Ly ds hn.1 hn.2 w (htab H w hg ha)).mono ?_
  rintro e w' ⟨rfl, n, os, rfl⟩
  refine ⟨_, rfl, fun _ _ => str_sr, ⟨rfl, rfl, rfl, ?_, fun b hb => ?_⟩⟩
  · show w.heap.size ≤ (w.heap ++ os).size
    rw [Array.size_append]; omega
  · show (w.heap ++ os)[b]? = _
    rw [Array.getElem?_append_left hb]
def replB (s old new : ByteArray) (n : Int) : ByteArray := ⟨(Lib.replace s.data.toList old.data.toList new.data.toList n).toArray⟩
def replF (ds : ByteArray × ByteArray × ByteArray × Int) : Option ByteArray := if ds.1.size < 4294967281 ∧ 1 ≤ ds.2.1.size ∧ ds.1.size + Lib.countB ds.1 ds.2.1 * ds.2.2.1.size ≤ 140737488355328 then some (replB ds.1 ds.2.1 ds.2.2.1 ds.2.2.2) else none
def replS (f : Nat) : Sig := { f := f, params := [.str, .str, .str, .int .i64], objs := [], res := .str, outs := [], fix := [], run := fun _ (ds : ByteArray × ByteArray × ByteArray × Int) _ => (replF ds).map (fun r => (r, ())) }
theorem repl_sound {P : Program} {ρ : Ren} (Ly : Lays.n154 P ρ) (X : Builder.Extra P ρ) {f : Nat} (hf : ρ.f 154 = f) (hfn : ∃ fn c, P.funcs[f]? = some fn ∧ (fn.name == "runtime.NumGoroutine") = false ∧ fn.body = some c)
    (hml : ∀ (H : Hp) (w : World), GH H → (∀ b o, H b = some o → w.heap[b]? = some o) → ∃ m, w.cell? ⟨(ρ.g 1), 0, none⟩ = some (.int .i64 m)) (k : Nat) : SoundAt P k (replS f) := by
  subst hf
  refine pure_sound (params := [.str, .str, .str, .int .i64]) (res := .str) (run := replF) hfn (fun (ds : ByteArray × ByteArray × ByteArray × Int) r hr xs w H L hx hg ha => ?_) k
  obtain ⟨s, old, new, n⟩ := ds
  unfold replF at hr
  split at hr
  case isFalse => cases hr
  rename_i hn
  cases hr
  have hxs : xs = #[.string s, .string old, .string new, .int .i64 n] := by
    have hx : SRs H L [⟨.str, s⟩, ⟨.str, old⟩, ⟨.str, new⟩, ⟨.int .i64, n⟩] xs.toList := hx
    generalize hl' : xs.toList = l at hx
    cases hx with
    | cons h1 h2 =>
      cases h2 with
      | cons h3 h4 =>
        cases h4 with
        | cons h5 h6 =>
          cases h6 with
          | cons h7 h8 =>
            cases h8
            rw [sr_str h1, sr_str h3, sr_str h5, sr_int h7] at hl'
            rw [← Array.toArray_toList (xs := xs), hl']
  subst hxs
  obtain ⟨m, hm⟩ := hml H w hg ha
  refine (Any.strings_Replace Ly X s old new n m w hn.1 hm hn.2.1 hn.2.2).mono ?_
  rintro e w' ⟨rfl, hb⟩
  exact ⟨_, rfl, fun _ _ => str_sr, hb⟩
end Go.Proofs.YtcppmlgnceldmaaGreatDoor.Gp

/-
  DERIVED: THE SHELF's CONTRACTS AT THIS DUMP, IN PLAIN WORDS (tools/lay-plain.mjs out of 'YtcppmlgnceldmaaGreatDoorShelf.lean', which tools/lay-shelf.mjs wrote): THE SAME DECLARATIONS UNDER THE SAME NAMES: 'import', 'namespace', 'open', 'def', 'theorem' AND NOTHING ELSE: no command of the shelf's: FOR A HAND-IN. Each laying: the table of numbers ('.._ren') and one theorem, a field a fact of the dump's own or the kernel's comparison; each contract: ONE APPLICATION.
-/
namespace Go.Proofs
open Go.Shelf
def Tryz.laysM171_ren : Go.Shelf.Ren := ⟨fun | 171 => 36 | 243 => 60 | 246 => 86 | 283 => 100 | 284 => 101 | 285 => 102 | 286 => 103 | 129 => 118 | 317 => 124 | 318 => 125 | 319 => 126 | 320 => 127 | 337 => 136 | 338 => 137 | n => n, fun | 3 => 3 | 9 => 9 | 2 => 2 | 4 => 4 | 171 => 147 | 0 => 0 | 53 => 148 | 37 => 26 | 5 => 5 | 173 => 151 | 212 => 174 | 51 => 167 | 20 => 20 | 213 => 175 | 46 => 136 | 232 => 186 | 233 => 187 | n => n, fun | 17 => 3 | 18 => 4 | 19 => 5 | n => n⟩
theorem Tryz.laysM171 : Go.Proofs.LaysM.n171 Tryz.prog Tryz.laysM171_ren := {
  mixed := by kernel_rfl
  f129 := Tryz.func118.trans (congrArg some (by kernel_rfl))
  f171 := Tryz.func36.trans (congrArg some (by kernel_rfl))
  f243 := Tryz.func60.trans (congrArg some (by kernel_rfl))
  f246 := Tryz.func86.trans (congrArg some (by kernel_rfl))
  f283 := Tryz.func100.trans (congrArg some (by kernel_rfl))
  f284 := Tryz.func101.trans (congrArg some (by kernel_rfl))
  f285 := Tryz.func102.trans (congrArg some (by kernel_rfl))
  f286 := Tryz.func103.trans (congrArg some (by kernel_rfl))
  f317 := Tryz.func124.trans (congrArg some (by kernel_rfl))
  f318 := Tryz.func125.trans (congrArg some (by kernel_rfl))
  f319 := Tryz.func126.trans (congrArg some (by kernel_rfl))
  f320 := Tryz.func127.trans (congrArg some (by kernel_rfl))
  f337 := Tryz.func136.trans (congrArg some (by kernel_rfl))
  f338 := Tryz.func137.trans (congrArg some (by kernel_rfl))
  t0 := Tryz.underlying0
  a0 := Tryz.isAgg0
  z0 := Tryz.sizeOf0
  v0 := Tryz.zeroValue0
  t2 := Tryz.underlying2
  a2 := Tryz.isAgg2
  z2 := Tryz.sizeOf2
  v2 := Tryz.zeroValue2
  t3 := Tryz.underlying3
  a3 := Tryz.isAgg3
  z3 := Tryz.sizeOf3
  v3 := Tryz.zeroValue3
  t4 := Tryz.underlying4
  a4 := Tryz.isAgg4
  z4 := Tryz.sizeOf4
  v4 := Tryz.zeroValue4
  t5 := Tryz.underlying5
  a5 := Tryz.isAgg5
  z5 := Tryz.sizeOf5
  v5 := Tryz.zeroValue5
  t9 := Tryz.underlying9
  a9 := Tryz.isAgg9
  z9 := Tryz.sizeOf9
  v9 := Tryz.zeroValue9
  t20 := Tryz.underlying20
  a20 := Tryz.isAgg20
  z20 := Tryz.sizeOf20
  v20 := Tryz.zeroValue20
  t37 := Tryz.underlying26
  a37 := Tryz.isAgg26
  z37 := Tryz.sizeOf26
  v37 := Tryz.zeroValue26
  t46 := Tryz.underlying136
  a46 := Tryz.isAgg136
  z46 := Tryz.sizeOf136
  v46 := Tryz.zeroValue136
  t51 := Tryz.underlying167
  a51 := Tryz.isAgg167
  z51 := Tryz.sizeOf167
  v51 := Tryz.zeroValue167
  t53 := Tryz.underlying148
  a53 := Tryz.isAgg148
  z53 := Tryz.sizeOf148
  v53 := Tryz.zeroValue148
  t171 := Tryz.underlying147
  a171 := Tryz.isAgg147
  z171 := Tryz.sizeOf147
  v171 := Tryz.zeroValue147
  t173 := Tryz.underlying151
  a173 := Tryz.isAgg151
  z173 := Tryz.sizeOf151
  v173 := Tryz.zeroValue151
  t212 := Tryz.underlying174
  a212 := Tryz.isAgg174
  z212 := Tryz.sizeOf174
  v212 := Tryz.zeroValue174
  t213 := Tryz.underlying175
  a213 := Tryz.isAgg175
  z213 := Tryz.sizeOf175
  t232 := Tryz.underlying186
  a232 := Tryz.isAgg186
  z232 := Tryz.sizeOf186
  v232 := Tryz.zeroValue186
  t233 := Tryz.underlying187
  a233 := Tryz.isAgg187
  z233 := Tryz.sizeOf187
  v233 := Tryz.zeroValue187
  g17 := by kernel_rfl
  g18 := by kernel_rfl
  g19 := by kernel_rfl
  i0 := by kernel_rfl
  i2 := by kernel_rfl
  i3 := by kernel_rfl
  i4 := by kernel_rfl
  i5 := by kernel_rfl
  i9 := by kernel_rfl
  i20 := by kernel_rfl
  i37 := by kernel_rfl
  i46 := by kernel_rfl
  i51 := by kernel_rfl
  i53 := by kernel_rfl
  i171 := by kernel_rfl
  i173 := by kernel_rfl
  i212 := by kernel_rfl
  i232 := by kernel_rfl
  i233 := by kernel_rfl
  m17 := by kernel_rfl
  m18 := by kernel_rfl
  m19 := by kernel_rfl }
def Tryz.lays154_ren : Go.Shelf.Ren := ⟨fun | 154 => 59 | 138 => 83 | 165 => 64 | 143 => 84 | 166 => 65 | 197 => 85 | 169 => 66 | 195 => 96 | 218 => 97 | 240 => 88 | 241 => 89 | 219 => 98 | 260 => 99 | 276 => 106 | 277 => 107 | 217 => 120 | 225 => 121 | 224 => 122 | 267 => 123 | 266 => 134 | 314 => 135 | n => n, fun | 9 => 9 | 3 => 3 | 4 => 4 | 72 => 110 | 0 => 0 | 76 => 113 | 105 => 132 | 21 => 21 | 5 => 5 | 70 => 108 | 20 => 20 | 37 => 26 | 75 => 112 | 127 => 137 | 164 => 154 | 46 => 136 | 119 => 169 | 139 => 172 | 138 => 171 | 146 => 182 | 51 => 167 | 80 => 115 | n => n, fun | 1 => 0 | 3 => 1 | 4 => 2 | n => n⟩
theorem Tryz.lays154 : Go.Proofs.Lays.n154 Tryz.prog Tryz.lays154_ren := {
  mixed := by kernel_rfl
  f138 := Tryz.func83.trans (congrArg some (by kernel_rfl))
  f143 := Tryz.func84.trans (congrArg some (by kernel_rfl))
  f154 := Tryz.func59.trans (congrArg some (by kernel_rfl))
  f165 := Tryz.func64.trans (congrArg some (by kernel_rfl))
  f166 := Tryz.func65.trans (congrArg some (by kernel_rfl))
  f169 := Tryz.func66.trans (congrArg some (by kernel_rfl))
  f195 := Tryz.func96.trans (congrArg some (by kernel_rfl))
  f197 := Tryz.func85.trans (congrArg some (by kernel_rfl))
  f217 := Tryz.func120.trans (congrArg some (by kernel_rfl))
  f218 := Tryz.func97.trans (congrArg some (by kernel_rfl))
  f219 := Tryz.func98.trans (congrArg some (by kernel_rfl))
  f224 := Tryz.func122.trans (congrArg some (by kernel_rfl))
  f225 := Tryz.func121.trans (congrArg some (by kernel_rfl))
  f240 := Tryz.func88.trans (congrArg some (by kernel_rfl))
  f241 := Tryz.func89.trans (congrArg some (by kernel_rfl))
  f260 := Tryz.func99.trans (congrArg some (by kernel_rfl))
  f266 := Tryz.func134.trans (congrArg some (by kernel_rfl))
  f267 := Tryz.func123.trans (congrArg some (by kernel_rfl))
  f276 := Tryz.func106.trans (congrArg some (by kernel_rfl))
  f277 := Tryz.func107.trans (congrArg some (by kernel_rfl))
  f314 := Tryz.func135.trans (congrArg some (by kernel_rfl))
  t0 := Tryz.underlying0
  a0 := Tryz.isAgg0
  z0 := Tryz.sizeOf0
  v0 := Tryz.zeroValue0
  t3 := Tryz.underlying3
  a3 := Tryz.isAgg3
  z3 := Tryz.sizeOf3
  v3 := Tryz.zeroValue3
  t4 := Tryz.underlying4
  a4 := Tryz.isAgg4
  z4 := Tryz.sizeOf4
  v4 := Tryz.zeroValue4
  t5 := Tryz.underlying5
  a5 := Tryz.isAgg5
  z5 := Tryz.sizeOf5
  v5 := Tryz.zeroValue5
  t9 := Tryz.underlying9
  a9 := Tryz.isAgg9
  z9 := Tryz.sizeOf9
  v9 := Tryz.zeroValue9
  t20 := Tryz.underlying20
  a20 := Tryz.isAgg20
  z20 := Tryz.sizeOf20
  v20 := Tryz.zeroValue20
  t21 := Tryz.underlying21
  a21 := Tryz.isAgg21
  z21 := Tryz.sizeOf21
  v21 := Tryz.zeroValue21
  t37 := Tryz.underlying26
  a37 := Tryz.isAgg26
  z37 := Tryz.sizeOf26
  v37 := Tryz.zeroValue26
  t46 := Tryz.underlying136
  a46 := Tryz.isAgg136
  z46 := Tryz.sizeOf136
  v46 := Tryz.zeroValue136
  t51 := Tryz.underlying167
  a51 := Tryz.isAgg167
  z51 := Tryz.sizeOf167
  v51 := Tryz.zeroValue167
  t70 := Tryz.underlying108
  a70 := Tryz.isAgg108
  z70 := Tryz.sizeOf108
  v70 := Tryz.zeroValue108
  t72 := Tryz.underlying110
  a72 := Tryz.isAgg110
  z72 := Tryz.sizeOf110
  v72 := Tryz.zeroValue110
  t75 := Tryz.underlying112
  a75 := Tryz.isAgg112
  z75 := Tryz.sizeOf112
  v75 := Tryz.zeroValue112
  t76 := Tryz.underlying113
  a76 := Tryz.isAgg113
  z76 := Tryz.sizeOf113
  v76 := Tryz.zeroValue113
  t105 := Tryz.underlying132
  a105 := Tryz.isAgg132
  z105 := Tryz.sizeOf132
  v105 := Tryz.zeroValue132
  t119 := Tryz.underlying169
  a119 := Tryz.isAgg169
  z119 := Tryz.sizeOf169
  t127 := Tryz.underlying137
  a127 := Tryz.isAgg137
  z127 := Tryz.sizeOf137
  v127 := Tryz.zeroValue137
  t138 := Tryz.underlying171
  a138 := Tryz.isAgg171
  z138 := Tryz.sizeOf171
  v138 := Tryz.zeroValue171
  t139 := Tryz.underlying172
  a139 := Tryz.isAgg172
  z139 := Tryz.sizeOf172
  v139 := Tryz.zeroValue172
  t146 := Tryz.underlying182
  a146 := Tryz.isAgg182
  z146 := Tryz.sizeOf182
  v146 := Tryz.zeroValue182
  t164 := Tryz.underlying154
  a164 := Tryz.isAgg154
  z164 := Tryz.sizeOf154
  v164 := Tryz.zeroValue154
  g1 := by kernel_rfl
  g3 := by kernel_rfl
  g4 := by kernel_rfl }
theorem Tryz.Builder_Extra_154 : Builder.Extra Tryz.prog Tryz.lays154_ren := {
  sizeBuilder := by kernel_rfl
  liesBuilder := by kernel_rfl
  t5 := Tryz.underlying5
  a5 := Tryz.isAgg5
  z5 := Tryz.sizeOf5
  v5 := Tryz.zeroValue5
  infoByte := by kernel_rfl
  cellsByte := by kernel_rfl
  sizeByte := by kernel_rfl
  neB5 := by decide }
end Go.Proofs

/- Given contracts. -/
set_option linter.unusedVariables false
set_option maxRecDepth 100000
noncomputable section
namespace Go.Proofs.YtcppmlgnceldmaaGreatDoor.Di
open Go Go.Proofs.YtcppmlgnceldmaaGreatDoor.Gp
def Itoa36 (k : Nat) (n : Int) : Option (ByteArray × Unit) := (itoaF n).map (fun r => (r, ()))
def Itoa36.S : Sig := itoaS 36
theorem Itoa36.ok (k : Nat) : SoundAt Tryz.prog k Itoa36.S := itoa_sound Tryz.laysM171 rfl ⟨Tryz.f36, codeOf Tryz.f36, rfl, by kernel_rfl, rfl⟩ tab_pow10 k

def Replace59 (k : Nat) (s old new : ByteArray) (n : Int) : Option (ByteArray × Unit) := (replF (s, old, new, n)).map (fun r => (r, ()))
def Replace59.S : Sig := replS 59
theorem Replace59.ok (k : Nat) : SoundAt Tryz.prog k Replace59.S := repl_sound Tryz.lays154 Tryz.Builder_Extra_154 rfl ⟨Tryz.f59, codeOf Tryz.f59, rfl, by kernel_rfl, rfl⟩ max_len k
end Go.Proofs.YtcppmlgnceldmaaGreatDoor.Di

/- Go functions as plain Lean functions, and their contracts. -/
set_option linter.unusedVariables false
set_option maxRecDepth 100000
noncomputable section
namespace Go.Proofs.YtcppmlgnceldmaaGreatDoor.Di
open Go Go.Proofs.YtcppmlgnceldmaaGreatDoor.Gp
def Signed68 (k : Nat) (n : Int) (bits : Int) : Option tY63 :=
  (width69 k bits).bind fun t6 =>
  (Low48 k n t6.1).bind fun t9 =>
  Option.bind (cond (decide (t6.1 > 0))
    (let t15 : Int := (w64 (t6.1 - 1))
    (if t15 < 0 then none else some (shrI .i64 t9.1 t15)).bind fun t16 =>
    some (t16 == 1))
    (some false)) fun t18 =>
  Option.bind
    (cond t18
      ((if t6.1 < 0 then none else some (shlI .i64 1 t6.1)).bind fun t21 =>
      some (w64 (t9.1 - t21)))
      (some t9.1) : Option Int) fun (n_1 : Int) =>
  some (n_1, ())
def Signed68.A : Ann := { conds := [(1179652, ⟨[(0, .int .i64)], [], 0, [], 7864321⟩)], blocks := [], loops := [], keeps := [], orders := [] }
def Signed68.S : Sig := { f := 68, params := [.int .i64, .int .i64], objs := [], res := .int .i64, outs := [], fix := [], run := fun k ds os => Signed68 k ds.1 ds.2 }
def Signed68.G : List Sig := [Low48.S, width69.S]
theorem Signed68.eq (k : Nat) : ∀ ds os, Signed68.S.run k ds os = runF ⟨types, Signed68.G, Signed68.A, k, 0, []⟩ Tryz.f68 (codeOf Tryz.f68) Signed68.S.params Signed68.S.objs Signed68.S.res Signed68.S.outs ds os := by
  intro ds os; kernel_rfl
theorem Signed68.dr : DrOk Tryz.prog Signed68.A (codeOf Tryz.f68) := ⟨by kernel_rfl, by kernel_rfl⟩
theorem Signed68.ok (k : Nat) : SoundAt Tryz.prog k Signed68.S :=
  runF_sound (X := ⟨types, Signed68.G, Signed68.A, k, 0, []⟩) types_ok (mem_all (⟨Low48.ok k, ⟨width69.ok k, trivial⟩⟩)) (fn := Tryz.f68) (c := codeOf Tryz.f68) rfl (by kernel_rfl) rfl rfl Signed68.dr (Signed68.eq k)

def operand47 (k : Nat) (mode : Int) (v : Int) (addr : Int) : Option (ByteArray × Unit) :=
  (Itoa36 k v).bind fun t9 =>
  cond (mode == 1)
    ((catS (ByteArray.mk #[32, 35]) t9.1).bind fun t14 =>
    some (t14, ()))
    (cond (mode == 2)
      ((catS (ByteArray.mk #[32, 42]) t9.1).bind fun t18 =>
      some (t18, ()))
      (cond (mode == 3)
        ((catS (ByteArray.mk #[32, 42]) t9.1).bind fun t22 =>
        (catS t22 (ByteArray.mk #[44, 120])).bind fun t23 =>
        some (t23, ()))
        (cond (mode == 4)
          ((catS (ByteArray.mk #[32]) t9.1).bind fun t27 =>
          some (t27, ()))
          (cond (mode == 5)
            ((catS (ByteArray.mk #[32]) t9.1).bind fun t31 =>
            (catS t31 (ByteArray.mk #[44, 120])).bind fun t32 =>
            some (t32, ()))
            (cond (mode == 6)
              ((catS (ByteArray.mk #[32]) t9.1).bind fun t36 =>
              (catS t36 (ByteArray.mk #[44, 121])).bind fun t37 =>
              some (t37, ()))
              (cond (mode == 7)
                ((Signed68 k v 8).bind fun t42 =>
                (Low48 k (w64 (addr + t42.1)) 16).bind fun t44 =>
                (Itoa36 k t44.1).bind fun t45 =>
                (catS (ByteArray.mk #[32, 64]) t45.1).bind fun t46 =>
                some (t46, ()))
                (cond (mode == 8)
                  ((catS (ByteArray.mk #[32, 40]) t9.1).bind fun t50 =>
                  (catS t50 (ByteArray.mk #[41, 44, 121])).bind fun t51 =>
                  some (t51, ()))
                  (some ((ByteArray.mk #[]), ())))))))))
def operand47.A : Ann := { conds := [], blocks := [], loops := [], keeps := [], orders := [] }
def operand47.S : Sig := { f := 47, params := [.int .i64, .int .i64, .int .i64], objs := [], res := .str, outs := [], fix := [], run := fun k ds os => operand47 k ds.1 ds.2.1 ds.2.2 }
def operand47.G : List Sig := [Itoa36.S, Low48.S, Signed68.S]
theorem operand47.eq (k : Nat) : ∀ ds os, operand47.S.run k ds os = runF ⟨types, operand47.G, operand47.A, k, 0, []⟩ Tryz.f47 (codeOf Tryz.f47) operand47.S.params operand47.S.objs operand47.S.res operand47.S.outs ds os := by
  intro ds os; kernel_rfl
theorem operand47.dr : DrOk Tryz.prog operand47.A (codeOf Tryz.f47) := ⟨by kernel_rfl, by kernel_rfl⟩
theorem operand47.ok (k : Nat) : SoundAt Tryz.prog k operand47.S :=
  runF_sound (X := ⟨types, operand47.G, operand47.A, k, 0, []⟩) types_ok (mem_all (⟨Itoa36.ok k, ⟨Low48.ok k, ⟨Signed68.ok k, trivial⟩⟩⟩)) (fn := Tryz.f47) (c := codeOf Tryz.f47) rfl (by kernel_rfl) rfl rfl operand47.dr (operand47.eq k)

def One22.l0 (k : Nat) (b : tY65) : tY28 → Option (tY28 ⊕ tY31)
  | (x_1, v, i) =>
    cond (decide (i > 0))
      ((rd b i).bind fun t57 =>
      some (Sum.inl (x_1, (w64 ((w64 (v * 256)) + (w64 t57))), (w64 (i - 1)))))
      (some (Sum.inr (x_1, v)))
def One22 (k : Nat) (c : tY11) (b : tY65) (addr : Int) : Option (tY55 × Unit) :=
  cond ((List.length b : Int) == 0)
    (some (((ByteArray.mk #[]), 0, ()), ()))
    (Option.bind
      ((rd b 0).bind fun t19 =>
      agree
        ((Find39 k c (w64 t19)).bind fun t22 =>
        some (t22.1.1, t22.1.2.1))
        ((Find39 k c (w64 t19)).bind fun t22_1 =>
        some (t22_1.1.1, t22_1.1.2.1)) : Option tY30) fun ((x, ok) : tY30) =>
    (Size26 k x.2.2.1).bind fun t27 =>
    let t28 : Int := (w64 (1 + t27.1))
    cond (cond (cond (!ok) true (decide (t28 < 1))) true (decide (t28 > (List.length b : Int))))
      ((rd b 0).bind fun t42 =>
      (Itoa36 k (w64 t42)).bind fun t45 =>
      (catS (ByteArray.mk #[98, 121, 116, 101, 32]) t45.1).bind fun t46 =>
      some ((t46, 1, ()), ()))
      (Option.bind
        (loopN (One22.l0 k b) k (x, 0, (w64 (t28 - 1))) : Option tY31) fun ((x_2, v_1) : tY31) =>
      (Low48 k addr 16).bind fun t67 =>
      (operand47 k x_2.2.2.1 v_1 (w64 (t67.1 + t28))).bind fun t70 =>
      (catS x_2.2.1 t70.1).bind fun t71 =>
      some ((t71, t28, ()), ())))
def One22.A : Ann := { conds := [], blocks := [(0, ⟨[(8, .fp kY4), (11, .int .i64)], [], 0, [], 2305280059260278784⟩)], loops := [(9, ⟨[(8, .fp kY4), (11, .int .i64), (12, .int .i64)], [], 0, [], 2305280059260278784⟩)], keeps := [3, 8], orders := [(12, [(0, .strong), (1, .strong), (2, .strong), (3, .strong), (4, .strong), (5, .strong), (7, .strong), (11, .strong), (6, .eff true), (8, .strong), (9, .eff true), (10, .strong), (12, .strong), (13, .strong)])], alts := [(3, ((.op 0 .strong (.op 1 .strong (.op 2 .strong (.op 3 .strong (.op 4 .strong (.alt (.op 5 (.eff true) (.op 6 .strong (.op 7 .strong (.op 8 .weak (.op 9 (.eff true) (.op 10 (.eff false) (.op 11 .strong (.leaf [])))))))) (.op 9 (.eff true) (.op 5 (.eff true) (.op 6 .strong (.op 7 .strong (.op 8 .weak (.op 10 (.eff false) (.op 11 .strong (.leaf [])))))))))))))), ⟨[(8, .fp kY4), (9, .bool)], [], 0, [], 33489664⟩))] }
def One22.S : Sig := { f := 22, params := [.st kY1, .sl kY24, .int .i64], objs := [], res := .tup (.pair .str (.pair kY23 .unit)), outs := [], fix := [], run := fun k ds os => One22 k ds.1 ds.2.1 ds.2.2 }
def One22.G : List Sig := [Find39.S, Itoa36.S, Low48.S, Size26.S, operand47.S]
theorem One22.eq (k : Nat) : ∀ ds os, One22.S.run k ds os = runF ⟨types, One22.G, One22.A, k, 0, []⟩ Tryz.f22 (codeOf Tryz.f22) One22.S.params One22.S.objs One22.S.res One22.S.outs ds os := by
  intro ds os; kernel_rfl
theorem One22.dr : DrOk Tryz.prog One22.A (codeOf Tryz.f22) := ⟨by kernel_rfl, by kernel_rfl⟩
theorem One22.ok (k : Nat) : SoundAt Tryz.prog k One22.S :=
  runF_sound (X := ⟨types, One22.G, One22.A, k, 0, []⟩) types_ok (mem_all (⟨Find39.ok k, ⟨Itoa36.ok k, ⟨Low48.ok k, ⟨Size26.ok k, ⟨operand47.ok k, trivial⟩⟩⟩⟩⟩)) (fn := Tryz.f22) (c := codeOf Tryz.f22) rfl (by kernel_rfl) rfl rfl One22.dr (One22.eq k)

def told5 (k : Nat) : Option tY62 :=
  (Cpu23 k).bind fun t4 =>
  (nop24 k).bind fun t5 =>
  (slc t5.1.2.1 1 (List.length t5.1.2.1 : Int)).bind fun t7 =>
  (One22 k t4.1 t7 513).bind fun t8 =>
  some ((cond (streq t8.1.1 (ByteArray.mk #[106, 109, 112, 32, 53, 49, 50])) (t8.1.2.1 == 3) false), ())
def told5.A : Ann := { conds := [], blocks := [], loops := [], keeps := [], orders := [] }
def told5.S : Sig := { f := 5, params := [], objs := [], res := .bool, outs := [], fix := [], run := fun k ds os => told5 k }
def told5.G : List Sig := [Cpu23.S, One22.S, nop24.S]
theorem told5.eq (k : Nat) : ∀ ds os, told5.S.run k ds os = runF ⟨types, told5.G, told5.A, k, 0, []⟩ Tryz.f5 (codeOf Tryz.f5) told5.S.params told5.S.objs told5.S.res told5.S.outs ds os := by
  intro ds os; kernel_rfl
theorem told5.dr : DrOk Tryz.prog told5.A (codeOf Tryz.f5) := ⟨by kernel_rfl, by kernel_rfl⟩
theorem told5.ok (k : Nat) : SoundAt Tryz.prog k told5.S :=
  runF_sound (X := ⟨types, told5.G, told5.A, k, 0, []⟩) types_ok (mem_all (⟨Cpu23.ok k, ⟨One22.ok k, ⟨nop24.ok k, trivial⟩⟩⟩)) (fn := Tryz.f5) (c := codeOf Tryz.f5) rfl (by kernel_rfl) rfl rfl told5.dr (told5.eq k)

def Name25.l0 (k : Nat) (s : ByteArray) : (Unit × (Int × tY65)) → Option ((Unit × (Int × tY65)) ⊕ tY59)
  | (_, t25, o0) =>
    cond (decide (t25 < (List.length (bytesOf s) : Int)))
      ((rd o0 t25).bind fun _ =>
      (rd o0 t25).bind fun t28 =>
      cond (!(cond (cond (cond (decide (t28 ≥ 97)) (decide (t28 ≤ 122)) false) true (cond (decide (t28 ≥ 48)) (decide (t28 ≤ 57)) false)) true (t28 == 45)))
        (some (Sum.inr (Sum.inr (false, ()))))
        (some (Sum.inl ((), (w64 (t25 + 1)), o0))))
      (some (Sum.inr (Sum.inl ())))
def Name25 (k : Nat) (s : ByteArray) : Option tY62 :=
  Option.bind (cond (cond (streq s (ByteArray.mk #[])) true (decide ((ByteArray.size s : Int) > 20)))
    (some true)
    ((rd (bytesOf s) 0).bind fun t14 =>
    some (decide (t14 < 97)))) fun t16 =>
  Option.bind (cond t16
    (some true)
    ((rd (bytesOf s) 0).bind fun t19 =>
    some (decide (t19 > 122)))) fun t21 =>
  cond t21
    (some (false, ()))
    (Option.bind
      (loopN (Name25.l0 k s) k ((), 0, (bytesOf s)) : Option tY59) (joined fun (_ : Unit) =>
      some (true, ())))
def Name25.A : Ann := { conds := [], blocks := [(0, ⟨[], [], 0, [], 562949919866900⟩)], loops := [(4, ⟨[(23, .ms 0), (25, .int .i64)], [(0, .row kY24)], 1, [], 562949919866900⟩)], keeps := [], orders := [] }
def Name25.S : Sig := { f := 25, params := [.str], objs := [], res := .bool, outs := [], fix := [], run := fun k ds os => Name25 k ds }
def Name25.G : List Sig := []
theorem Name25.eq (k : Nat) : ∀ ds os, Name25.S.run k ds os = runF ⟨types, Name25.G, Name25.A, k, 0, []⟩ Tryz.f25 (codeOf Tryz.f25) Name25.S.params Name25.S.objs Name25.S.res Name25.S.outs ds os := by
  intro ds os; kernel_rfl
theorem Name25.dr : DrOk Tryz.prog Name25.A (codeOf Tryz.f25) := ⟨by kernel_rfl, by kernel_rfl⟩
theorem Name25.ok (k : Nat) : SoundAt Tryz.prog k Name25.S :=
  runF_sound (X := ⟨types, Name25.G, Name25.A, k, 0, []⟩) types_ok (fun s hs => absurd hs List.not_mem_nil) (fn := Tryz.f25) (c := codeOf Tryz.f25) rfl (by kernel_rfl) rfl rfl Name25.dr (Name25.eq k)

def Check128 (k : Nat) (y : tY33) (t1 : tY33) : Option tY62 :=
  some ((cond (streq y.2.1 t1.2.1) (y.2.2.1 == t1.2.2.1) false), ())
def Check128.A : Ann := { conds := [], blocks := [], loops := [], keeps := [2], orders := [] }
def Check128.S : Sig := { f := 28, params := [.st kY5, .fp kY4], objs := [], res := .bool, outs := [], fix := [], run := fun k ds os => Check128 k ds.1 ds.2 }
def Check128.G : List Sig := []
theorem Check128.eq (k : Nat) : ∀ ds os, Check128.S.run k ds os = runF ⟨types, Check128.G, Check128.A, k, 0, []⟩ Tryz.f28 (codeOf Tryz.f28) Check128.S.params Check128.S.objs Check128.S.res Check128.S.outs ds os := by
  intro ds os; kernel_rfl
theorem Check128.dr : DrOk Tryz.prog Check128.A (codeOf Tryz.f28) := ⟨by kernel_rfl, by kernel_rfl⟩
theorem Check128.ok (k : Nat) : SoundAt Tryz.prog k Check128.S :=
  runF_sound (X := ⟨types, Check128.G, Check128.A, k, 0, []⟩) types_ok (fun s hs => absurd hs List.not_mem_nil) (fn := Tryz.f28) (c := codeOf Tryz.f28) rfl (by kernel_rfl) rfl rfl Check128.dr (Check128.eq k)
end Go.Proofs.YtcppmlgnceldmaaGreatDoor.Di

/- Go functions as plain Lean functions, and their contracts. -/
set_option linter.unusedVariables false
set_option maxRecDepth 100000
noncomputable section
namespace Go.Proofs.YtcppmlgnceldmaaGreatDoor.Di
open Go Go.Proofs.YtcppmlgnceldmaaGreatDoor.Gp
def IndexFunc56''.l0 (k : Nat) (s : tY32) : tY26 → Option (tY26 ⊕ tY60)
  | (f_1, t8) =>
    cond (decide (t8 < (List.length s : Int)))
      ((rd s t8).bind fun t14 =>
      (Check128 k t14 f_1.1).bind fun t16 =>
      cond t16.1
        (some (Sum.inr (Sum.inr (t8, ()))))
        (some (Sum.inl (f_1, (w64 (t8 + 1))))))
      (some (Sum.inr (Sum.inl ())))
def IndexFunc56'' (k : Nat) (s : tY32) (f : tY29) : Option tY63 :=
  Option.bind
    (loopN (IndexFunc56''.l0 k s) k (f, 0) : Option tY60) (joined fun (_ : Unit) =>
    some ((-1), ()))
def IndexFunc56''.A : Ann := { conds := [], blocks := [(0, ⟨[], [], 0, [], 524080⟩)], loops := [(2, ⟨[(1, .fn 28 kY3), (8, .int .i64)], [], 0, [], 524080⟩)], keeps := [], orders := [] }
def IndexFunc56''.S : Sig := { f := 56, params := [.sl kY4, .fn 28 kY3], objs := [], res := .int .i64, outs := [], fix := [], run := fun k ds os => IndexFunc56'' k ds.1 ds.2 }
def IndexFunc56''.G : List Sig := [Check128.S]
theorem IndexFunc56''.eq (k : Nat) : ∀ ds os, IndexFunc56''.S.run k ds os = runF ⟨types, IndexFunc56''.G, IndexFunc56''.A, k, 0, []⟩ Tryz.f56 (codeOf Tryz.f56) IndexFunc56''.S.params IndexFunc56''.S.objs IndexFunc56''.S.res IndexFunc56''.S.outs ds os := by
  intro ds os; kernel_rfl
theorem IndexFunc56''.dr : DrOk Tryz.prog IndexFunc56''.A (codeOf Tryz.f56) := ⟨by kernel_rfl, by kernel_rfl⟩
theorem IndexFunc56''.ok (k : Nat) : SoundAt Tryz.prog k IndexFunc56''.S :=
  runF_sound (X := ⟨types, IndexFunc56''.G, IndexFunc56''.A, k, 0, []⟩) types_ok (mem_all (⟨Check128.ok k, trivial⟩)) (fn := Tryz.f56) (c := codeOf Tryz.f56) rfl (by kernel_rfl) rfl rfl IndexFunc56''.dr (IndexFunc56''.eq k)

def ContainsFunc27 (k : Nat) (s : tY32) (f : tY29) : Option tY62 :=
  (IndexFunc56'' k s f).bind fun t7 =>
  some ((decide (t7.1 ≥ 0)), ())
def ContainsFunc27.A : Ann := { conds := [], blocks := [], loops := [], keeps := [], orders := [] }
def ContainsFunc27.S : Sig := { f := 27, params := [.sl kY4, .fn 28 kY3], objs := [], res := .bool, outs := [], fix := [], run := fun k ds os => ContainsFunc27 k ds.1 ds.2 }
def ContainsFunc27.G : List Sig := [IndexFunc56''.S]
theorem ContainsFunc27.eq (k : Nat) : ∀ ds os, ContainsFunc27.S.run k ds os = runF ⟨types, ContainsFunc27.G, ContainsFunc27.A, k, 0, []⟩ Tryz.f27 (codeOf Tryz.f27) ContainsFunc27.S.params ContainsFunc27.S.objs ContainsFunc27.S.res ContainsFunc27.S.outs ds os := by
  intro ds os; kernel_rfl
theorem ContainsFunc27.dr : DrOk Tryz.prog ContainsFunc27.A (codeOf Tryz.f27) := ⟨by kernel_rfl, by kernel_rfl⟩
theorem ContainsFunc27.ok (k : Nat) : SoundAt Tryz.prog k ContainsFunc27.S :=
  runF_sound (X := ⟨types, ContainsFunc27.G, ContainsFunc27.A, k, 0, []⟩) types_ok (mem_all (⟨IndexFunc56''.ok k, trivial⟩)) (fn := Tryz.f27) (c := codeOf Tryz.f27) rfl (by kernel_rfl) rfl rfl ContainsFunc27.dr (ContainsFunc27.eq k)

def register80 (k : Nat) (reg : Int) : Option tY62 :=
  some ((cond (decide (reg ≥ 0)) (decide (reg < 9)) false), ())
def register80.A : Ann := { conds := [], blocks := [], loops := [], keeps := [], orders := [] }
def register80.S : Sig := { f := 80, params := [.int .i64], objs := [], res := .bool, outs := [], fix := [], run := fun k ds os => register80 k ds }
def register80.G : List Sig := []
theorem register80.eq (k : Nat) : ∀ ds os, register80.S.run k ds os = runF ⟨types, register80.G, register80.A, k, 0, []⟩ Tryz.f80 (codeOf Tryz.f80) register80.S.params register80.S.objs register80.S.res register80.S.outs ds os := by
  intro ds os; kernel_rfl
theorem register80.dr : DrOk Tryz.prog register80.A (codeOf Tryz.f80) := ⟨by kernel_rfl, by kernel_rfl⟩
theorem register80.ok (k : Nat) : SoundAt Tryz.prog k register80.S :=
  runF_sound (X := ⟨types, register80.G, register80.A, k, 0, []⟩) types_ok (fun s hs => absurd hs List.not_mem_nil) (fn := Tryz.f80) (c := codeOf Tryz.f80) rfl (by kernel_rfl) rfl rfl register80.dr (register80.eq k)

def Wide81 (k : Nat) (reg : Int) : Option tY62 :=
  some ((cond (reg == 7) true (reg == 8)), ())
def Wide81.A : Ann := { conds := [], blocks := [], loops := [], keeps := [], orders := [] }
def Wide81.S : Sig := { f := 81, params := [.int .i64], objs := [], res := .bool, outs := [], fix := [], run := fun k ds os => Wide81 k ds }
def Wide81.G : List Sig := []
theorem Wide81.eq (k : Nat) : ∀ ds os, Wide81.S.run k ds os = runF ⟨types, Wide81.G, Wide81.A, k, 0, []⟩ Tryz.f81 (codeOf Tryz.f81) Wide81.S.params Wide81.S.objs Wide81.S.res Wide81.S.outs ds os := by
  intro ds os; kernel_rfl
theorem Wide81.dr : DrOk Tryz.prog Wide81.A (codeOf Tryz.f81) := ⟨by kernel_rfl, by kernel_rfl⟩
theorem Wide81.ok (k : Nat) : SoundAt Tryz.prog k Wide81.S :=
  runF_sound (X := ⟨types, Wide81.G, Wide81.A, k, 0, []⟩) types_ok (fun s hs => absurd hs List.not_mem_nil) (fn := Tryz.f81) (c := codeOf Tryz.f81) rfl (by kernel_rfl) rfl rfl Wide81.dr (Wide81.eq k)

def uses94 (k : Nat) (do_ : Int) : Option ((Int × (Int × tY62)) × Unit) :=
  cond (do_ == 1)
    (some ((115, 115, false, ()), ()))
    (cond (do_ == 2)
      (some ((97, 0, true, ()), ()))
      (Option.bind
        (cond (do_ == 3)
          (some (do_ == 3))
          (Option.bind
            (cond (do_ == 12)
              (some (do_ == 12))
              (Option.bind
                (cond (do_ == 13)
                  (some (do_ == 13))
                  (Option.bind
                    (cond (do_ == 14)
                      (some (do_ == 14))
                      (some (do_ == 15)) : Option Bool) fun (t10 : Bool) =>
                  some t10) : Option Bool) fun (t10_1 : Bool) =>
              some t10_1) : Option Bool) fun (t10_2 : Bool) =>
          some t10_2) : Option Bool) fun (t10_3 : Bool) =>
      cond t10_3
        (some ((98, 0, false, ()), ()))
        (Option.bind
          (cond (do_ == 4)
            (some (do_ == 4))
            (Option.bind
              (cond (do_ == 5)
                (some (do_ == 5))
                (Option.bind
                  (cond (do_ == 6)
                    (some (do_ == 6))
                    (Option.bind
                      (cond (do_ == 7)
                        (some (do_ == 7))
                        (Option.bind
                          (cond (do_ == 8)
                            (some (do_ == 8))
                            (some (do_ == 9)) : Option Bool) fun (t16 : Bool) =>
                        some t16) : Option Bool) fun (t16_1 : Bool) =>
                    some t16_1) : Option Bool) fun (t16_2 : Bool) =>
                some t16_2) : Option Bool) fun (t16_3 : Bool) =>
            some t16_3) : Option Bool) fun (t16_4 : Bool) =>
        cond t16_4
          (some ((98, 98, false, ()), ()))
          (Option.bind
            (cond (do_ == 10)
              (some (do_ == 10))
              (some (do_ == 11)) : Option Bool) fun (t23 : Bool) =>
          cond t23
            (some ((97, 0, false, ()), ()))
            (Option.bind
              (cond (do_ == 16)
                (some (do_ == 16))
                (some (do_ == 17)) : Option Bool) fun (t26 : Bool) =>
            cond t26
              (some ((0, 0, true, ()), ()))
              (Option.bind
                (cond (do_ == 18)
                  (some (do_ == 18))
                  (Option.bind
                    (cond (do_ == 19)
                      (some (do_ == 19))
                      (Option.bind
                        (cond (do_ == 22)
                          (some (do_ == 22))
                          (some (do_ == 23)) : Option Bool) fun (t29 : Bool) =>
                      some t29) : Option Bool) fun (t29_1 : Bool) =>
                  some t29_1) : Option Bool) fun (t29_2 : Bool) =>
              cond t29_2
                (some ((119, 98, false, ()), ()))
                (Option.bind
                  (cond (do_ == 20)
                    (some (do_ == 20))
                    (some (do_ == 21)) : Option Bool) fun (t34 : Bool) =>
                cond t34
                  (some ((98, 119, false, ()), ()))
                  (some ((0, 0, false, ()), ())))))))))
def uses94.A : Ann := { conds := [(655367, ⟨[(10, .bool)], [], 0, [], 62464⟩), (655368, ⟨[(10, .bool)], [], 0, [], 58368⟩), (655369, ⟨[(10, .bool)], [], 0, [], 50176⟩), (655370, ⟨[(10, .bool)], [], 0, [], 33792⟩), (1048589, ⟨[(16, .bool)], [], 0, [], 8192000⟩), (1048590, ⟨[(16, .bool)], [], 0, [], 7929856⟩), (1048591, ⟨[(16, .bool)], [], 0, [], 7405568⟩), (1048592, ⟨[(16, .bool)], [], 0, [], 6356992⟩), (1048593, ⟨[(16, .bool)], [], 0, [], 4259840⟩), (1507348, ⟨[(23, .bool)], [], 0, [], 41943040⟩), (1703959, ⟨[(26, .bool)], [], 0, [], 335544320⟩), (1900570, ⟨[(29, .bool)], [], 0, [], 15569256448⟩), (1900571, ⟨[(29, .bool)], [], 0, [], 13421772800⟩), (1900572, ⟨[(29, .bool)], [], 0, [], 9126805504⟩), (2228255, ⟨[(34, .bool)], [], 0, [], 85899345920⟩)], blocks := [], loops := [], keeps := [], orders := [] }
def uses94.S : Sig := { f := 94, params := [.int .i64], objs := [], res := .tup (.pair kY24 (.pair kY24 (.pair .bool .unit))), outs := [], fix := [], run := fun k ds os => uses94 k ds }
def uses94.G : List Sig := []
theorem uses94.eq (k : Nat) : ∀ ds os, uses94.S.run k ds os = runF ⟨types, uses94.G, uses94.A, k, 0, []⟩ Tryz.f94 (codeOf Tryz.f94) uses94.S.params uses94.S.objs uses94.S.res uses94.S.outs ds os := by
  intro ds os; kernel_rfl
theorem uses94.dr : DrOk Tryz.prog uses94.A (codeOf Tryz.f94) := ⟨by kernel_rfl, by kernel_rfl⟩
theorem uses94.ok (k : Nat) : SoundAt Tryz.prog k uses94.S :=
  runF_sound (X := ⟨types, uses94.G, uses94.A, k, 0, []⟩) types_ok (fun s hs => absurd hs List.not_mem_nil) (fn := Tryz.f94) (c := codeOf Tryz.f94) rfl (by kernel_rfl) rfl rfl uses94.dr (uses94.eq k)

def fits95 (k : Nat) (reg : Int) (need : Int) : Option tY62 :=
  cond (need == 0)
    (some ((reg == 0), ()))
    (cond (need == 119)
      ((register80 k reg).bind fun t13 =>
      Option.bind (cond t13.1
        ((Wide81 k reg).bind fun t16 =>
        some t16.1)
        (some false)) fun t17 =>
      some (t17, ()))
      (cond (need == 98)
        ((register80 k reg).bind fun t21 =>
        Option.bind (cond t21.1
          ((Wide81 k reg).bind fun t24 =>
          some (!t24.1))
          (some false)) fun t26 =>
        some (t26, ()))
        ((register80 k reg).bind fun t28 =>
        some (t28.1, ()))))
def fits95.A : Ann := { conds := [], blocks := [], loops := [], keeps := [], orders := [] }
def fits95.S : Sig := { f := 95, params := [.int .i64, .int .u8], objs := [], res := .bool, outs := [], fix := [], run := fun k ds os => fits95 k ds.1 ds.2 }
def fits95.G : List Sig := [Wide81.S, register80.S]
theorem fits95.eq (k : Nat) : ∀ ds os, fits95.S.run k ds os = runF ⟨types, fits95.G, fits95.A, k, 0, []⟩ Tryz.f95 (codeOf Tryz.f95) fits95.S.params fits95.S.objs fits95.S.res fits95.S.outs ds os := by
  intro ds os; kernel_rfl
theorem fits95.dr : DrOk Tryz.prog fits95.A (codeOf Tryz.f95) := ⟨by kernel_rfl, by kernel_rfl⟩
theorem fits95.ok (k : Nat) : SoundAt Tryz.prog k fits95.S :=
  runF_sound (X := ⟨types, fits95.G, fits95.A, k, 0, []⟩) types_ok (mem_all (⟨Wide81.ok k, ⟨register80.ok k, trivial⟩⟩)) (fn := Tryz.f95) (c := codeOf Tryz.f95) rfl (by kernel_rfl) rfl rfl fits95.dr (fits95.eq k)
end Go.Proofs.YtcppmlgnceldmaaGreatDoor.Di

/- Go functions as plain Lean functions, and their contracts. -/
set_option linter.unusedVariables false
set_option maxRecDepth 100000
noncomputable section
namespace Go.Proofs.YtcppmlgnceldmaaGreatDoor.Di
open Go Go.Proofs.YtcppmlgnceldmaaGreatDoor.Gp
def step82 (k : Nat) (s : (Int × (Int × tY64))) : Option tY63 :=
  cond (cond (decide (s.1 < 0)) true (decide (s.1 ≥ 25)))
    (some (8, ()))
    (cond (s.1 == 24)
      (cond (cond (cond (cond (cond (s.2.1 != 0) true (decide (s.2.2.1 < 0))) true (decide (s.2.2.1 > 1))) true (decide (s.2.2.2 < 0))) true (decide (s.2.2.2 > 255)))
        (some (1, ()))
        (some (0, ())))
      ((uses94 k s.1).bind fun t44 =>
      Option.bind (cond (s.1 == 2)
        ((register80 k s.2.1).bind fun t54 =>
        some t54.1)
        (some false)) fun t55 =>
      Option.bind (cond t55
        ((Wide81 k s.2.1).bind fun t59 =>
        some t59.1)
        (some false)) fun t60 =>
      Option.bind
        (cond t60
          (some (s, 65535))
          (some (s, 255)) : Option tY52) fun ((s_1, most) : tY52) =>
      Option.bind
        (cond (!t44.1.2.2.1)
          (some (s_1, 0))
          (some (s_1, most)) : Option tY52) fun ((s_2, most_1) : tY52) =>
      (fits95 k s_2.2.1 t44.1.1).bind fun t66 =>
      Option.bind (cond (!t66.1)
        (some true)
        ((fits95 k s_2.2.2.1 t44.1.2.1).bind fun t72 =>
        some (!t72.1))) fun t74 =>
      Option.bind (cond t74
        (some true)
        (Option.bind (cond (t44.1.1 == 115)
          ((Wide81 k s_2.2.1).bind fun t81 =>
          (Wide81 k s_2.2.2.1).bind fun t84 =>
          some (xor true (t81.1 == t84.1)))
          (some false)) fun t86 =>
        some t86)) fun t87 =>
      cond (cond (cond t87 true (decide (s_2.2.2.2 < 0))) true (decide (s_2.2.2.2 > most_1)))
        (some (1, ()))
        (some (0, ()))))
def step82.A : Ann := { conds := [(3932170, ⟨[(1, .fp kY12), (6, .int .i64)], [], 0, [], 64⟩), (4063244, ⟨[(1, .fp kY12), (6, .int .i64)], [], 0, [], 64⟩)], blocks := [], loops := [], keeps := [1], orders := [(13, [(0, .strong), (1, .strong), (2, .strong), (3, .eff true), (4, .strong), (5, .strong), (6, .strong), (7, .strong), (8, .strong), (9, .eff true), (10, .strong), (11, .strong), (12, .strong), (13, .strong), (14, .strong), (15, .strong), (16, .strong), (17, .strong), (19, .strong), (20, .strong), (18, .eff true), (21, .eff true), (22, .strong), (23, .strong), (24, .strong), (25, .strong), (26, .strong), (27, .strong), (28, .strong), (29, .strong), (30, .strong), (31, .strong), (32, .strong), (33, .strong), (34, .strong), (35, .strong)])] }
def step82.S : Sig := { f := 82, params := [.st kY13], objs := [], res := .int .i64, outs := [], fix := [], run := fun k ds os => step82 k ds }
def step82.G : List Sig := [Wide81.S, fits95.S, register80.S, uses94.S]
theorem step82.eq (k : Nat) : ∀ ds os, step82.S.run k ds os = runF ⟨types, step82.G, step82.A, k, 0, []⟩ Tryz.f82 (codeOf Tryz.f82) step82.S.params step82.S.objs step82.S.res step82.S.outs ds os := by
  intro ds os; kernel_rfl
theorem step82.dr : DrOk Tryz.prog step82.A (codeOf Tryz.f82) := ⟨by kernel_rfl, by kernel_rfl⟩
theorem step82.ok (k : Nat) : SoundAt Tryz.prog k step82.S :=
  runF_sound (X := ⟨types, step82.G, step82.A, k, 0, []⟩) types_ok (mem_all (⟨Wide81.ok k, ⟨fits95.ok k, ⟨register80.ok k, ⟨uses94.ok k, trivial⟩⟩⟩⟩)) (fn := Tryz.f82) (c := codeOf Tryz.f82) rfl (by kernel_rfl) rfl rfl step82.dr (step82.eq k)

def cycle57.l0 (k : Nat) (c : tY42) : Int → Option (Int ⊕ tY60)
  | t57 =>
    cond (decide (t57 < (List.length c.2.2.2 : Int)))
      ((rd c.2.2.2 t57).bind fun t59 =>
      (step82 k t59).bind fun t62 =>
      cond (t62.1 != 0)
        (some (Sum.inr (Sum.inr (t62.1, ()))))
        (some (Sum.inl (w64 (t57 + 1)))))
      (some (Sum.inr (Sum.inl ())))
def cycle57 (k : Nat) (c : tY42) : Option tY63 :=
  cond (cond (decide (c.1 < 0)) true (decide (c.1 > 2)))
    (some (8, ()))
    (cond (cond (c.1 == 0) (cond (c.2.1 != 0) true (c.2.2.1 != 0)) false)
      (some (3, ()))
      (Option.bind (cond (cond (decide (c.2.1 < 0)) true (decide (c.2.1 ≥ 12)))
        (some true)
        ((register80 k c.2.2.1).bind fun t41 =>
        some (!t41.1))) fun t43 =>
      Option.bind (cond t43
        (some true)
        ((Wide81 k c.2.2.1).bind fun t47 =>
        some t47.1)) fun t48 =>
      cond t48
        (some (1, ()))
        (cond (decide ((List.length c.2.2.2 : Int) > 6))
          (some (2, ()))
          (Option.bind
            (loopN (cycle57.l0 k c) k 0 : Option tY60) (joined fun (_ : Unit) =>
            some (0, ()))))))
def cycle57.A : Ann := { conds := [], blocks := [(1, ⟨[], [], 0, [], 147429837401600557108⟩)], loops := [(10, ⟨[(57, .int .i64)], [], 0, [], 147429837401600557108⟩)], keeps := [1, 4], orders := [] }
def cycle57.S : Sig := { f := 57, params := [.st kY8], objs := [], res := .int .i64, outs := [], fix := [], run := fun k ds os => cycle57 k ds }
def cycle57.G : List Sig := [Wide81.S, register80.S, step82.S]
theorem cycle57.eq (k : Nat) : ∀ ds os, cycle57.S.run k ds os = runF ⟨types, cycle57.G, cycle57.A, k, 0, []⟩ Tryz.f57 (codeOf Tryz.f57) cycle57.S.params cycle57.S.objs cycle57.S.res cycle57.S.outs ds os := by
  intro ds os; kernel_rfl
theorem cycle57.dr : DrOk Tryz.prog cycle57.A (codeOf Tryz.f57) := ⟨by kernel_rfl, by kernel_rfl⟩
theorem cycle57.ok (k : Nat) : SoundAt Tryz.prog k cycle57.S :=
  runF_sound (X := ⟨types, cycle57.G, cycle57.A, k, 0, []⟩) types_ok (mem_all (⟨Wide81.ok k, ⟨register80.ok k, ⟨step82.ok k, trivial⟩⟩⟩)) (fn := Tryz.f57) (c := codeOf Tryz.f57) rfl (by kernel_rfl) rfl rfl cycle57.dr (cycle57.eq k)

def cycles29.l0 (k : Nat) (l : tY40) : Int → Option (Int ⊕ tY60)
  | t11 =>
    cond (decide (t11 < (List.length l : Int)))
      ((rd l t11).bind fun t13 =>
      (cycle57 k t13).bind fun t16 =>
      cond (t16.1 != 0)
        (some (Sum.inr (Sum.inr (t16.1, ()))))
        (some (Sum.inl (w64 (t11 + 1)))))
      (some (Sum.inr (Sum.inl ())))
def cycles29 (k : Nat) (l : tY40) : Option tY63 :=
  cond (decide ((List.length l : Int) > 8))
    (some (2, ()))
    (Option.bind
      (loopN (cycles29.l0 k l) k 0 : Option tY60) (joined fun (_ : Unit) =>
      some (0, ())))
def cycles29.A : Ann := { conds := [], blocks := [(0, ⟨[], [], 0, [], 2095156⟩)], loops := [(4, ⟨[(11, .int .i64)], [], 0, [], 2095156⟩)], keeps := [4], orders := [] }
def cycles29.S : Sig := { f := 29, params := [.sl kY7], objs := [], res := .int .i64, outs := [], fix := [], run := fun k ds os => cycles29 k ds }
def cycles29.G : List Sig := [cycle57.S]
theorem cycles29.eq (k : Nat) : ∀ ds os, cycles29.S.run k ds os = runF ⟨types, cycles29.G, cycles29.A, k, 0, []⟩ Tryz.f29 (codeOf Tryz.f29) cycles29.S.params cycles29.S.objs cycles29.S.res cycles29.S.outs ds os := by
  intro ds os; kernel_rfl
theorem cycles29.dr : DrOk Tryz.prog cycles29.A (codeOf Tryz.f29) := ⟨by kernel_rfl, by kernel_rfl⟩
theorem cycles29.ok (k : Nat) : SoundAt Tryz.prog k cycles29.S :=
  runF_sound (X := ⟨types, cycles29.G, cycles29.A, k, 0, []⟩) types_ok (mem_all (⟨cycle57.ok k, trivial⟩)) (fn := Tryz.f29) (c := codeOf Tryz.f29) rfl (by kernel_rfl) rfl rfl cycles29.dr (cycles29.eq k)

def operand30.l0 (k : Nat) (l : tY40) : tY64 → Option (tY64 ⊕ Int)
  | (n, t8) =>
    cond (decide (t8 < (List.length l : Int)))
      ((rd l t8).bind fun t10 =>
      Option.bind
        (cond (cond (t10.1 == 1) (t10.2.1 == 0) false)
          (some (w64 (n + 1)))
          (some n) : Option Int) fun (n_1 : Int) =>
      some (Sum.inl (n_1, (w64 (t8 + 1)))))
      (some (Sum.inr n))
def operand30 (k : Nat) (l : tY40) : Option tY63 :=
  Option.bind
    (loopN (operand30.l0 k l) k (0, 0) : Option Int) fun (n_2 : Int) =>
  some (n_2, ())
def operand30.A : Ann := { conds := [(1245190, ⟨[(3, .int .i64)], [], 0, [], 3145736⟩)], blocks := [(0, ⟨[(3, .int .i64)], [], 0, [], 8388392⟩)], loops := [(3, ⟨[(3, .int .i64), (8, .int .i64)], [], 0, [], 8388392⟩)], keeps := [5], orders := [] }
def operand30.S : Sig := { f := 30, params := [.sl kY7], objs := [], res := .int .i64, outs := [], fix := [], run := fun k ds os => operand30 k ds }
def operand30.G : List Sig := []
theorem operand30.eq (k : Nat) : ∀ ds os, operand30.S.run k ds os = runF ⟨types, operand30.G, operand30.A, k, 0, []⟩ Tryz.f30 (codeOf Tryz.f30) operand30.S.params operand30.S.objs operand30.S.res operand30.S.outs ds os := by
  intro ds os; kernel_rfl
theorem operand30.dr : DrOk Tryz.prog operand30.A (codeOf Tryz.f30) := ⟨by kernel_rfl, by kernel_rfl⟩
theorem operand30.ok (k : Nat) : SoundAt Tryz.prog k operand30.S :=
  runF_sound (X := ⟨types, operand30.G, operand30.A, k, 0, []⟩) types_ok (fun s hs => absurd hs List.not_mem_nil) (fn := Tryz.f30) (c := codeOf Tryz.f30) rfl (by kernel_rfl) rfl rfl operand30.dr (operand30.eq k)
end Go.Proofs.YtcppmlgnceldmaaGreatDoor.Di

/- Go functions as plain Lean functions, and their contracts. -/
set_option linter.unusedVariables false
set_option maxRecDepth 100000
noncomputable section
namespace Go.Proofs.YtcppmlgnceldmaaGreatDoor.Di
open Go Go.Proofs.YtcppmlgnceldmaaGreatDoor.Gp
def Check6.l0 (k : Nat) (c : tY11) : tY10 → Option (tY10 ⊕ tY9)
  | (c_1, t22) =>
    cond (decide (t22 < (List.length c.2.1 : Int)))
      ((rd c.2.1 t22).bind fun t25 =>
      cond (cond (decide (t25.1 < 0)) true (decide (t25.1 > 255)))
        (some (Sum.inr (Sum.inr (1, ()))))
        (Option.bind (cond (decide (t22 > 0))
          ((rd c_1.2.1 (w64 (t22 - 1))).bind fun t46 =>
          some (decide (t25.1 ≤ t46.1)))
          (some false)) fun t50 =>
        cond t50
          (some (Sum.inr (Sum.inr (9, ()))))
          ((Name25 k t25.2.1).bind fun t54 =>
          cond (!t54.1)
            (some (Sum.inr (Sum.inr (15, ()))))
            ((Size26 k t25.2.2.1).bind fun t59 =>
            cond (decide (t59.1 < 0))
              (some (Sum.inr (Sum.inr (8, ()))))
              ((slc c_1.2.1 0 t22).bind fun t65 =>
              (ContainsFunc27 k t65 (t25, ())).bind fun t67 =>
              cond t67.1
                (some (Sum.inr (Sum.inr (5, ()))))
                ((cycles29 k t25.2.2.2).bind fun t70 =>
                cond (t70.1 != 0)
                  (some (Sum.inr (Sum.inr (t70.1, ()))))
                  ((operand30 k t25.2.2.2).bind fun t76 =>
                  (Size26 k t25.2.2.1).bind fun t79 =>
                  cond (t76.1 != t79.1)
                    (some (Sum.inr (Sum.inr (3, ()))))
                    (some (Sum.inl (c_1, (w64 (t22 + 1))))))))))))
      (some (Sum.inr (Sum.inl c_1)))
def Check6.l1 (k : Nat) (c_2 : tY11) : tY34 → Option (tY34 ⊕ tY60)
  | (_, t90, o0) =>
    cond (decide (t90 < (List.length [c_2.2.2.1, c_2.2.2.2.1, c_2.2.2.2.2] : Int)))
      ((rd o0 t90).bind fun _ =>
      (rd o0 t90).bind fun t93 =>
      (cycles29 k t93).bind fun t95 =>
      cond (t95.1 != 0)
        (some (Sum.inr (Sum.inr (t95.1, ()))))
        (some (Sum.inl ((), (w64 (t90 + 1)), o0))))
      (some (Sum.inr (Sum.inl ())))
def Check6 (k : Nat) (c : tY11) : Option tY63 :=
  (Name25 k c.1).bind fun t12 =>
  cond (!t12.1)
    (some (15, ()))
    (cond (decide ((List.length c.2.1 : Int) > 256))
      (some (2, ()))
      (Option.bind
        (loopN (Check6.l0 k c) k (c, 0) : Option tY9) (joined fun (c_2 : tY11) =>
        Option.bind
          (loopN (Check6.l1 k c_2) k ((), 0, [c_2.2.2.1, c_2.2.2.2.1, c_2.2.2.2.2]) : Option tY60) (joined fun (_ : Unit) =>
          some (0, ())))))
def Check6.A : Ann := { conds := [], blocks := [(1, ⟨[(1, .fp kY0)], [], 0, [], 4835703278458516694630460⟩), (4, ⟨[], [], 0, [], 1266412660188944021221804081540⟩)], loops := [(6, ⟨[(1, .fp kY0), (22, .int .i64)], [], 0, [], 4835703278458516694630460⟩), (25, ⟨[(88, .ms 0), (90, .int .i64)], [(0, .row kY6)], 1, [], 1266412660188944021221804081540⟩)], keeps := [1, 4], orders := [(10, [(0, .strong), (1, .strong), (2, .strong), (3, .strong), (4, .strong), (5, .strong), (6, .strong), (7, .strong), (8, .strong), (9, .strong), (10, .strong), (11, .strong), (12, .strong), (13, .strong), (14, .strong)]), (21, [(0, .strong), (1, .strong), (3, .strong), (4, .strong), (2, .eff true), (5, .eff true), (6, .strong)])] }
def Check6.S : Sig := { f := 6, params := [.st kY1], objs := [], res := .int .i64, outs := [], fix := [], run := fun k ds os => Check6 k ds }
def Check6.G : List Sig := [ContainsFunc27.S, Name25.S, Size26.S, cycles29.S, operand30.S]
theorem Check6.eq (k : Nat) : ∀ ds os, Check6.S.run k ds os = runF ⟨types, Check6.G, Check6.A, k, 0, []⟩ Tryz.f6 (codeOf Tryz.f6) Check6.S.params Check6.S.objs Check6.S.res Check6.S.outs ds os := by
  intro ds os; kernel_rfl
theorem Check6.dr : DrOk Tryz.prog Check6.A (codeOf Tryz.f6) := ⟨by kernel_rfl, by kernel_rfl⟩
theorem Check6.ok (k : Nat) : SoundAt Tryz.prog k Check6.S :=
  runF_sound (X := ⟨types, Check6.G, Check6.A, k, 0, []⟩) types_ok (mem_all (⟨ContainsFunc27.ok k, ⟨Name25.ok k, ⟨Size26.ok k, ⟨cycles29.ok k, ⟨operand30.ok k, trivial⟩⟩⟩⟩⟩)) (fn := Tryz.f6) (c := codeOf Tryz.f6) rfl (by kernel_rfl) rfl rfl Check6.dr (Check6.eq k)

def free31.l0 (k : Nat) (l : tY58) (addr : Int) : tY64 → Option (tY64 ⊕ Int)
  | (n_1, t11) =>
    cond (decide (t11 < (List.length l : Int)))
      ((rd l t11).bind fun t13 =>
      Option.bind
        (cond (cond (decide (t13.2 > addr)) (decide (t13.2 < (w64 (addr + n_1)))) false)
          (some (w64 (t13.2 - addr)))
          (some n_1) : Option Int) fun (n_2 : Int) =>
      some (Sum.inl (n_2, (w64 (t11 + 1)))))
      (some (Sum.inr n_1))
def free31 (k : Nat) (l : tY58) (addr : Int) (n : Int) : Option tY63 :=
  Option.bind
    (loopN (free31.l0 k l addr) k (n, 0) : Option Int) fun (n_3 : Int) =>
  some (n_3, ())
def free31.A : Ann := { conds := [(1703941, ⟨[(2, .int .i64)], [], 0, [], 2013265924⟩)], blocks := [(0, ⟨[(2, .int .i64)], [], 0, [], 4294965508⟩)], loops := [(2, ⟨[(2, .int .i64), (11, .int .i64)], [], 0, [], 4294965508⟩)], keeps := [8], orders := [] }
def free31.S : Sig := { f := 31, params := [.sl kY20, .int .i64, .int .i64], objs := [], res := .int .i64, outs := [], fix := [], run := fun k ds os => free31 k ds.1 ds.2.1 ds.2.2 }
def free31.G : List Sig := []
theorem free31.eq (k : Nat) : ∀ ds os, free31.S.run k ds os = runF ⟨types, free31.G, free31.A, k, 0, []⟩ Tryz.f31 (codeOf Tryz.f31) free31.S.params free31.S.objs free31.S.res free31.S.outs ds os := by
  intro ds os; kernel_rfl
theorem free31.dr : DrOk Tryz.prog free31.A (codeOf Tryz.f31) := ⟨by kernel_rfl, by kernel_rfl⟩
theorem free31.ok (k : Nat) : SoundAt Tryz.prog k free31.S :=
  runF_sound (X := ⟨types, free31.G, free31.A, k, 0, []⟩) types_ok (fun s hs => absurd hs List.not_mem_nil) (fn := Tryz.f31) (c := codeOf Tryz.f31) rfl (by kernel_rfl) rfl rfl free31.dr (free31.eq k)
end Go.Proofs.YtcppmlgnceldmaaGreatDoor.Di

/- Go functions as plain Lean functions, and their contracts. -/
set_option linter.unusedVariables false
set_option maxRecDepth 100000
noncomputable section
namespace Go.Proofs.YtcppmlgnceldmaaGreatDoor.Di
open Go Go.Proofs.YtcppmlgnceldmaaGreatDoor.Gp
def Lines10.l0 (k : Nat) : tY5 → Option (tY5 ⊕ tY45)
  | (c_1, code_1, _, at_, o2) =>
    cond (decide (at_ < (List.length code_1.2.1 : Int)))
      ((slc code_1.2.1 at_ (List.length code_1.2.1 : Int)).bind fun t18 =>
      (free31 k code_1.2.2 (w64 (code_1.1 + at_)) (List.length t18 : Int)).bind fun t28 =>
      (slc t18 0 t28.1).bind fun t29 =>
      (One22 k c_1 t29 (w64 (code_1.1 + at_))).bind fun t37 =>
      let t44 : Int := (w64 (code_1.1 + at_))
      (slc t29 0 t37.1.2.1).bind fun t48 =>
      (if room (0 + List.length t48) 1 then some () else none).bind fun _ =>
      (if room (List.length o2 + List.length [(t44, t48, t37.1.1)]) 48 then some () else none).bind fun _ =>
      some (Sum.inl (c_1, code_1, (), (w64 (at_ + t37.1.2.1)), (o2 ++ [(t44, t48, t37.1.1)]))))
      (some (Sum.inr ((), o2)))
def Lines10 (k : Nat) (c : tY11) (code : tY47) : Option tY46 :=
  Option.bind
    (loopN (Lines10.l0 k) k (c, code, (), 0, []) : Option tY45) fun ((_, o2_1) : tY45) =>
  some (o2_1, ())
def Lines10.A : Ann := { conds := [], blocks := [(0, ⟨[(5, .ms 2)], [(2, .row kY15)], 3, [], 144115188075855840⟩)], loops := [(3, ⟨[(2, .fp kY0), (3, .fp kY10), (5, .ms 2), (6, .int .i64)], [(2, .row kY15)], 3, [(2, .st kY18)], 144115188075855840⟩)], keeps := [2, 3], orders := [(7, [(0, .weak), (1, .weak), (2, .weak), (3, .weak), (4, .weak), (6, .strong), (7, .strong), (8, .strong), (10, .weak), (5, .eff true), (9, .eff false), (11, .strong), (12, .eff true), (13, .eff false), (14, .strong)])] }
def Lines10.S : Sig := { f := 10, params := [.st kY1, .st kY11], objs := [], res := .sl kY15, outs := [], fix := [], run := fun k ds os => Lines10 k ds.1 ds.2 }
def Lines10.G : List Sig := [One22.S, free31.S]
theorem Lines10.eq (k : Nat) : ∀ ds os, Lines10.S.run k ds os = runF ⟨types, Lines10.G, Lines10.A, k, 0, []⟩ Tryz.f10 (codeOf Tryz.f10) Lines10.S.params Lines10.S.objs Lines10.S.res Lines10.S.outs ds os := by
  intro ds os; kernel_rfl
theorem Lines10.dr : DrOk Tryz.prog Lines10.A (codeOf Tryz.f10) := ⟨by kernel_rfl, by kernel_rfl⟩
theorem Lines10.ok (k : Nat) : SoundAt Tryz.prog k Lines10.S :=
  runF_sound (X := ⟨types, Lines10.G, Lines10.A, k, 0, []⟩) types_ok (mem_all (⟨One22.ok k, ⟨free31.ok k, trivial⟩⟩)) (fn := Tryz.f10) (c := codeOf Tryz.f10) rfl (by kernel_rfl) rfl rfl Lines10.dr (Lines10.eq k)

def Lines133 (k : Nat) (l : (ByteArray × Int)) (t1 : tY47) (_ : Unit) (o0 : Int) : Option (Bool × Int) :=
  some ((l.2 == (w64 (t1.1 + o0))), o0)
def Lines133.A : Ann := { conds := [], blocks := [], loops := [], keeps := [3], orders := [] }
def Lines133.S : Sig := { f := 33, params := [.st kY21, .fp kY10, .ptr 0 []], objs := [.var kY23], res := .bool, outs := [.var kY23], fix := [], run := fun k ds os => Lines133 k ds.1 ds.2.1 ds.2.2 os }
def Lines133.G : List Sig := []
theorem Lines133.eq (k : Nat) : ∀ ds os, Lines133.S.run k ds os = runF ⟨types, Lines133.G, Lines133.A, k, 0, []⟩ Tryz.f33 (codeOf Tryz.f33) Lines133.S.params Lines133.S.objs Lines133.S.res Lines133.S.outs ds os := by
  intro ds os; kernel_rfl
theorem Lines133.dr : DrOk Tryz.prog Lines133.A (codeOf Tryz.f33) := ⟨by kernel_rfl, by kernel_rfl⟩
theorem Lines133.ok (k : Nat) : SoundAt Tryz.prog k Lines133.S :=
  runF_sound (X := ⟨types, Lines133.G, Lines133.A, k, 0, []⟩) types_ok (fun s hs => absurd hs List.not_mem_nil) (fn := Tryz.f33) (c := codeOf Tryz.f33) rfl (by kernel_rfl) rfl rfl Lines133.dr (Lines133.eq k)

def IndexFunc58.l0 (k : Nat) (s : tY58) : tY36 → Option (tY36 ⊕ (Int ⊕ tY64))
  | (f_1, t8, o0_1) =>
    cond (decide (t8 < (List.length s : Int)))
      ((rd s t8).bind fun t14 =>
      (Lines133 k t14 f_1.1 f_1.2.1 o0_1).bind fun t16 =>
      cond t16.1
        (some (Sum.inr (Sum.inr (t8, t16.2))))
        (some (Sum.inl (f_1, (w64 (t8 + 1)), t16.2))))
      (some (Sum.inr (Sum.inl o0_1)))
def IndexFunc58 (k : Nat) (s : tY58) (f : tY41) (o0 : Int) : Option tY64 :=
  Option.bind
    (loopN (IndexFunc58.l0 k s) k (f, 0, o0) : Option (Int ⊕ tY64)) (joined fun (o0_2 : Int) =>
    some ((-1), o0_2))
def IndexFunc58.A : Ann := { conds := [], blocks := [(0, ⟨[], [(0, .var kY23)], 1, [], 524080⟩)], loops := [(2, ⟨[(1, .fn 33 (.pair kY9 (.pair (.ptr 0 []) .unit))), (8, .int .i64)], [(0, .var kY23)], 1, [], 524080⟩)], keeps := [], orders := [] }
def IndexFunc58.S : Sig := { f := 58, params := [.sl kY20, .fn 33 (.pair kY9 (.pair (.ptr 0 []) .unit))], objs := [.var kY23], res := .int .i64, outs := [.var kY23], fix := [], run := fun k ds os => IndexFunc58 k ds.1 ds.2 os }
def IndexFunc58.G : List Sig := [Lines133.S]
theorem IndexFunc58.eq (k : Nat) : ∀ ds os, IndexFunc58.S.run k ds os = runF ⟨types, IndexFunc58.G, IndexFunc58.A, k, 0, []⟩ Tryz.f58 (codeOf Tryz.f58) IndexFunc58.S.params IndexFunc58.S.objs IndexFunc58.S.res IndexFunc58.S.outs ds os := by
  intro ds os; kernel_rfl
theorem IndexFunc58.dr : DrOk Tryz.prog IndexFunc58.A (codeOf Tryz.f58) := ⟨by kernel_rfl, by kernel_rfl⟩
theorem IndexFunc58.ok (k : Nat) : SoundAt Tryz.prog k IndexFunc58.S :=
  runF_sound (X := ⟨types, IndexFunc58.G, IndexFunc58.A, k, 0, []⟩) types_ok (mem_all (⟨Lines133.ok k, trivial⟩)) (fn := Tryz.f58) (c := codeOf Tryz.f58) rfl (by kernel_rfl) rfl rfl IndexFunc58.dr (IndexFunc58.eq k)

def ContainsFunc32 (k : Nat) (s : tY58) (f : tY41) (o0 : Int) : Option (Bool × Int) :=
  (IndexFunc58 k s f o0).bind fun t7 =>
  some ((decide (t7.1 ≥ 0)), t7.2)
def ContainsFunc32.A : Ann := { conds := [], blocks := [], loops := [], keeps := [], orders := [] }
def ContainsFunc32.S : Sig := { f := 32, params := [.sl kY20, .fn 33 (.pair kY9 (.pair (.ptr 0 []) .unit))], objs := [.var kY23], res := .bool, outs := [.var kY23], fix := [], run := fun k ds os => ContainsFunc32 k ds.1 ds.2 os }
def ContainsFunc32.G : List Sig := [IndexFunc58.S]
theorem ContainsFunc32.eq (k : Nat) : ∀ ds os, ContainsFunc32.S.run k ds os = runF ⟨types, ContainsFunc32.G, ContainsFunc32.A, k, 0, []⟩ Tryz.f32 (codeOf Tryz.f32) ContainsFunc32.S.params ContainsFunc32.S.objs ContainsFunc32.S.res ContainsFunc32.S.outs ds os := by
  intro ds os; kernel_rfl
theorem ContainsFunc32.dr : DrOk Tryz.prog ContainsFunc32.A (codeOf Tryz.f32) := ⟨by kernel_rfl, by kernel_rfl⟩
theorem ContainsFunc32.ok (k : Nat) : SoundAt Tryz.prog k ContainsFunc32.S :=
  runF_sound (X := ⟨types, ContainsFunc32.G, ContainsFunc32.A, k, 0, []⟩) types_ok (mem_all (⟨IndexFunc58.ok k, trivial⟩)) (fn := Tryz.f32) (c := codeOf Tryz.f32) rfl (by kernel_rfl) rfl rfl ContainsFunc32.dr (ContainsFunc32.eq k)

def operands40 (k : Nat) : Option tY44 :=
  some ((([0, 1, 1, 1, 2, 2, 2, 1, 1] : List Int), ([(ByteArray.mk #[]), (ByteArray.mk #[32, 35, 63]), (ByteArray.mk #[32, 42, 63]), (ByteArray.mk #[32, 42, 63, 44, 120]), (ByteArray.mk #[32, 63]), (ByteArray.mk #[32, 63, 44, 120]), (ByteArray.mk #[32, 63, 44, 121]), (ByteArray.mk #[32, 64, 63]), (ByteArray.mk #[32, 40, 63, 41, 44, 121])] : List ByteArray), ()), ())
def operands40.A : Ann := { conds := [], blocks := [], loops := [], keeps := [], orders := [] }
def operands40.S : Sig := { f := 40, params := [], objs := [], res := .tup (.pair (.sl kY23) (.pair (.sl .str) .unit)), outs := [], fix := [], run := fun k ds os => operands40 k }
def operands40.G : List Sig := []
theorem operands40.eq (k : Nat) : ∀ ds os, operands40.S.run k ds os = runF ⟨types, operands40.G, operands40.A, k, 0, []⟩ Tryz.f40 (codeOf Tryz.f40) operands40.S.params operands40.S.objs operands40.S.res operands40.S.outs ds os := by
  intro ds os; kernel_rfl
theorem operands40.dr : DrOk Tryz.prog operands40.A (codeOf Tryz.f40) := ⟨by kernel_rfl, by kernel_rfl⟩
theorem operands40.ok (k : Nat) : SoundAt Tryz.prog k operands40.S :=
  runF_sound (X := ⟨types, operands40.G, operands40.A, k, 0, []⟩) types_ok (fun s hs => absurd hs List.not_mem_nil) (fn := Tryz.f40) (c := codeOf Tryz.f40) rfl (by kernel_rfl) rfl rfl operands40.dr (operands40.eq k)
end Go.Proofs.YtcppmlgnceldmaaGreatDoor.Di

/- Go functions as plain Lean functions, and their contracts. -/
set_option linter.unusedVariables false
set_option maxRecDepth 100000
noncomputable section
namespace Go.Proofs.YtcppmlgnceldmaaGreatDoor.Di
open Go Go.Proofs.YtcppmlgnceldmaaGreatDoor.Gp
def with41.l0 (k : Nat) (c : tY11) (op : Int) : tY43 → Option (tY43 ⊕ tY16)
  | (_, t11, o0) =>
    cond (decide (t11 < (List.length c.2.1 : Int)))
      ((rd c.2.1 t11).bind fun t13 =>
      cond (t13.1 == op)
        (some (Sum.inr (Sum.inr ((t13, true, ()), ()))))
        (some (Sum.inl ((), (w64 (t11 + 1)), o0))))
      (some (Sum.inr (Sum.inl ((), o0))))
def with41 (k : Nat) (c : tY11) (op : Int) : Option tY24 :=
  Option.bind
    (loopN (with41.l0 k c op) k ((), 0, 0, (ByteArray.mk #[]), 0, ()) : Option tY16) (joined fun ((_, _) : (Unit × (Int × tY55))) =>
    some (((0, (ByteArray.mk #[]), 0, []), false, ()), ()))
def with41.A : Ann := { conds := [], blocks := [(0, ⟨[(4, .ptr 0 [])], [(0, .var kY14)], 1, [], 2095264⟩)], loops := [(2, ⟨[(4, .ptr 0 []), (11, .int .i64)], [(0, .var kY14)], 1, [], 2095264⟩)], keeps := [2, 7], orders := [] }
def with41.S : Sig := { f := 41, params := [.st kY1, .int .i64], objs := [], res := .tup kY2, outs := [], fix := [], run := fun k ds os => with41 k ds.1 ds.2 }
def with41.G : List Sig := []
theorem with41.eq (k : Nat) : ∀ ds os, with41.S.run k ds os = runF ⟨types, with41.G, with41.A, k, 0, []⟩ Tryz.f41 (codeOf Tryz.f41) with41.S.params with41.S.objs with41.S.res with41.S.outs ds os := by
  intro ds os; kernel_rfl
theorem with41.dr : DrOk Tryz.prog with41.A (codeOf Tryz.f41) := ⟨by kernel_rfl, by kernel_rfl⟩
theorem with41.ok (k : Nat) : SoundAt Tryz.prog k with41.S :=
  runF_sound (X := ⟨types, with41.G, with41.A, k, 0, []⟩) types_ok (fun s hs => absurd hs List.not_mem_nil) (fn := Tryz.f41) (c := codeOf Tryz.f41) rfl (by kernel_rfl) rfl rfl with41.dr (with41.eq k)

def One34 (k : Nat) (c : tY11) (b : tY65) (addr : Int) : Option (tY55 × Unit) :=
  cond ((List.length b : Int) == 0)
    (some (((ByteArray.mk #[]), 0, ()), ()))
    ((operands40 k).bind fun t17 =>
    Option.bind
      ((rd b 0).bind fun t23 =>
      agree
        ((with41 k c (w64 t23)).bind fun t26 =>
        some (t26.1.1, t26.1.2.1))
        ((with41 k c (w64 t23)).bind fun t26_1 =>
        some (t26_1.1.1, t26_1.1.2.1)) : Option tY30) fun ((x, ok) : tY30) =>
    Option.bind (cond (!ok)
      (some true)
      ((rd t17.1.1 x.2.2.1).bind fun t37 =>
      some (decide ((List.length b : Int) ≤ t37)))) fun t40 =>
    cond t40
      ((rd b 0).bind fun t42 =>
      (Itoa36 k (w64 t42)).bind fun t45 =>
      (Replace59 k (ByteArray.mk #[98, 121, 116, 101, 32, 63]) (ByteArray.mk #[63]) t45.1 1).bind fun t46 =>
      some ((t46.1, 1, ()), ()))
      ((rd t17.1.1 x.2.2.1).bind fun t50 =>
      Option.bind
        (cond (decide (t50 > 0))
          ((rd b 1).bind fun t54 =>
          some (x, (w64 t54)))
          (some (x, 0)) : Option tY31) fun ((x_1, n) : tY31) =>
      (rd t17.1.1 x_1.2.2.1).bind fun t60 =>
      Option.bind
        (cond (decide (t60 > 1))
          ((rd b 2).bind fun t65 =>
          some (x_1, (w64 (n + (w64 (256 * (w64 t65)))))))
          (some (x_1, n)) : Option tY31) fun ((x_2, n_1) : tY31) =>
      Option.bind
        (cond (x_2.2.2.1 == 7)
          (Option.bind
            (cond (decide (n_1 > 127))
              (some (x_2, (w64 (n_1 - 256))))
              (some (x_2, n_1)) : Option tY31) fun ((x_3, n_2) : tY31) =>
          some (x_3, (Int.tmod (w64 ((Int.tmod (w64 ((w64 (addr + 2)) + n_2)) 65536) + 65536)) 65536)))
          (some (x_2, n_1)) : Option tY31) fun ((x_4, n_3) : tY31) =>
      (rd t17.1.2.1 x_4.2.2.1).bind fun t89 =>
      (rd t17.1.1 x_4.2.2.1).bind fun t98 =>
      (Itoa36 k n_3).bind fun t92 =>
      (Replace59 k t89 (ByteArray.mk #[63]) t92.1 1).bind fun t93 =>
      (catS x_4.2.1 t93.1).bind fun t94 =>
      some ((t94, (w64 (1 + t98)), ()), ())))
def One34.A : Ann := { conds := [(3407881, ⟨[(10, .fp kY4), (12, .int .i64)], [], 0, [], 135107988821118976⟩), (4063243, ⟨[(10, .fp kY4), (12, .int .i64)], [], 0, [], 1171368248680556531712⟩), (4718605, ⟨[(10, .fp kY4), (12, .int .i64)], [], 0, [], 19333368380868327504875520⟩), (4849678, ⟨[(10, .fp kY4), (12, .int .i64)], [], 0, [], 113336795588871485132800⟩)], blocks := [], loops := [], keeps := [3, 10], orders := [(16, [(0, .strong), (1, .strong), (2, .strong), (3, .strong), (4, .strong), (5, .strong), (6, .strong), (7, .strong), (11, .strong), (12, .strong), (13, .strong), (14, .strong), (15, .strong), (16, .strong), (8, .eff true), (9, .eff true), (10, .strong), (17, .strong), (18, .strong)])], alts := [(4, ((.op 0 .strong (.op 1 .strong (.op 2 .strong (.op 3 .strong (.op 4 .strong (.alt (.op 5 (.eff true) (.op 6 .strong (.op 7 .strong (.op 8 .weak (.op 9 (.eff true) (.op 10 (.eff false) (.op 11 .strong (.leaf [])))))))) (.op 9 (.eff true) (.op 5 (.eff true) (.op 6 .strong (.op 7 .strong (.op 8 .weak (.op 10 (.eff false) (.op 11 .strong (.leaf [])))))))))))))), ⟨[(10, .fp kY4), (11, .bool)], [], 0, [], 535825408⟩))] }
def One34.S : Sig := { f := 34, params := [.st kY1, .sl kY24, .int .i64], objs := [], res := .tup (.pair .str (.pair kY23 .unit)), outs := [], fix := [], run := fun k ds os => One34 k ds.1 ds.2.1 ds.2.2 }
def One34.G : List Sig := [Itoa36.S, Replace59.S, operands40.S, with41.S]
theorem One34.eq (k : Nat) : ∀ ds os, One34.S.run k ds os = runF ⟨types, One34.G, One34.A, k, 0, []⟩ Tryz.f34 (codeOf Tryz.f34) One34.S.params One34.S.objs One34.S.res One34.S.outs ds os := by
  intro ds os; kernel_rfl
theorem One34.dr : DrOk Tryz.prog One34.A (codeOf Tryz.f34) := ⟨by kernel_rfl, by kernel_rfl⟩
theorem One34.ok (k : Nat) : SoundAt Tryz.prog k One34.S :=
  runF_sound (X := ⟨types, One34.G, One34.A, k, 0, []⟩) types_ok (mem_all (⟨Itoa36.ok k, ⟨Replace59.ok k, ⟨operands40.ok k, ⟨with41.ok k, trivial⟩⟩⟩⟩)) (fn := Tryz.f34) (c := codeOf Tryz.f34) rfl (by kernel_rfl) rfl rfl One34.dr (One34.eq k)

def Clone35 (k : Nat) (s : tY65) : Option (tY65 × Unit) :=
  orNil (List.length s)
    (cond true
      (some ([], ()))
      ((if room (0 + List.length s) 1 then some () else none).bind fun _ =>
      some (s, ())))
    (cond false
      (some ([], ()))
      ((if room (0 + List.length s) 1 then some () else none).bind fun _ =>
      some (s, ())))
def Clone35.A : Ann := { conds := [], blocks := [], loops := [], keeps := [], orders := [] }
def Clone35.S : Sig := { f := 35, params := [.sl kY24], objs := [], res := .sl kY24, outs := [], fix := [], run := fun k ds os => Clone35 k ds }
def Clone35.G : List Sig := []
theorem Clone35.eq (k : Nat) : ∀ ds os, Clone35.S.run k ds os = runF ⟨types, Clone35.G, Clone35.A, k, 0, []⟩ Tryz.f35 (codeOf Tryz.f35) Clone35.S.params Clone35.S.objs Clone35.S.res Clone35.S.outs ds os := by
  intro ds os; kernel_rfl
theorem Clone35.dr : DrOk Tryz.prog Clone35.A (codeOf Tryz.f35) := ⟨by kernel_rfl, by kernel_rfl⟩
theorem Clone35.ok (k : Nat) : SoundAt Tryz.prog k Clone35.S :=
  runF_sound (X := ⟨types, Clone35.G, Clone35.A, k, 0, []⟩) types_ok (fun s hs => absurd hs List.not_mem_nil) (fn := Tryz.f35) (c := codeOf Tryz.f35) rfl (by kernel_rfl) rfl rfl Clone35.dr (Clone35.eq k)
end Go.Proofs.YtcppmlgnceldmaaGreatDoor.Di

/- Go functions as plain Lean functions, and their contracts. -/
set_option linter.unusedVariables false
set_option maxRecDepth 100000
noncomputable section
namespace Go.Proofs.YtcppmlgnceldmaaGreatDoor.Di
open Go Go.Proofs.YtcppmlgnceldmaaGreatDoor.Gp
def Lines11.l0 (k : Nat) (t15 : Int) : tY3 → Option tY0
  | (c_2, code_2, _, stop, _, o1_1, o2) =>
    cond (decide (o2 > t15))
      ((ContainsFunc32 k code_2.2.2 (code_2, (), ()) o2).bind fun t36 =>
      Option.bind
        (cond t36.1
          (some (c_2, code_2, (), t36.2, (), o1_1, t36.2))
          (some (c_2, code_2, (), stop, (), o1_1, t36.2)) : Option tY3) fun ((c_3, code_3, _, stop_1, _, o1_2, o2_1) : tY3) =>
      some (Sum.inl (c_3, code_3, (), stop_1, (), o1_2, (w64 (o2_1 - 1)))))
      (some (Sum.inr (c_2, code_2, (), stop, o1_1)))
def Lines11.l1 (k : Nat) (code : tY47) : tY4 → Option tY2
  | (c_1, code_1, _, end_, t15, o1) =>
    cond (decide (t15 < (List.length code.2.1 : Int)))
      (Option.bind
        (cond (decide (t15 < end_))
          (some (c_1, code_1, (), end_, o1))
          (Option.bind
            (loopN (Lines11.l0 k t15) k (c_1, code_1, (), (List.length code_1.2.1 : Int), (), o1, (w64 ((List.length code_1.2.1 : Int) - 1))) : Option tY5) fun ((c_4, code_4, _, stop_2, o1_3) : tY5) =>
          (slc code_4.2.1 t15 stop_2).bind fun t45 =>
          (One34 k c_4 t45 (w64 (code_4.1 + t15))).bind fun t50 =>
          let t57 : Int := (w64 (code_4.1 + t15))
          (slc code_4.2.1 t15 (w64 (t15 + t50.1.2.1))).bind fun t64 =>
          (Clone35 k t64).bind fun t65 =>
          (if room (List.length o1_3 + List.length [(t57, t65.1, t50.1.1)]) 48 then some () else none).bind fun _ =>
          some (c_4, code_4, (), (w64 (t15 + t50.1.2.1)), (o1_3 ++ [(t57, t65.1, t50.1.1)]))) : Option tY5) fun ((c_5, code_5, _, end__1, o1_4) : tY5) =>
      some (Sum.inl (c_5, code_5, (), end__1, (w64 (t15 + 1)), o1_4)))
      (some (Sum.inr ((), o1)))
def Lines11 (k : Nat) (c : tY11) (code : tY47) : Option tY46 :=
  Option.bind
    (loopN (Lines11.l1 k code) k (c, code, (), 0, 0, []) : Option tY45) fun ((_, o1_5) : tY45) =>
  some (o1_5, ())
def Lines11.A : Ann := { conds := [(2359308, ⟨[(2, .fp kY0), (3, .fp kY10), (5, .ms 1), (8, .int .i64), (9, .ptr 2 [])], [(1, .row kY15), (2, .var kY23)], 3, [], 137438953728⟩)], blocks := [(0, ⟨[(5, .ms 1)], [(1, .row kY15)], 2, [], 18889465931478580826080⟩), (1, ⟨[(2, .fp kY0), (3, .fp kY10), (5, .ms 1), (6, .int .i64)], [(1, .row kY15)], 2, [], 9444732965739290300384⟩), (2, ⟨[(2, .fp kY0), (3, .fp kY10), (5, .ms 1), (8, .int .i64)], [(1, .row kY15)], 2, [], 549487379200⟩)], loops := [(4, ⟨[(2, .fp kY0), (3, .fp kY10), (5, .ms 1), (6, .int .i64), (15, .int .i64)], [(1, .row kY15)], 2, [(1, .st kY18)], 18889465931478580826080⟩), (9, ⟨[(2, .fp kY0), (3, .fp kY10), (5, .ms 1), (8, .int .i64), (9, .ptr 2 [])], [(1, .row kY15), (2, .var kY23)], 3, [], 549487379200⟩)], keeps := [2, 3], orders := [(15, [(0, .strong), (1, .strong), (2, .strong), (3, .strong), (4, .strong), (5, .strong), (6, .strong), (7, .strong), (8, .strong), (9, .strong), (10, .eff true), (11, .strong), (12, .strong), (13, .strong), (14, .strong), (15, .strong)]), (16, [(0, .strong), (1, .strong), (2, .strong), (3, .strong), (4, .strong), (5, .strong), (6, .strong), (7, .strong), (8, .strong), (9, .strong), (10, .strong), (11, .strong), (13, .strong), (12, .eff true), (14, .strong), (15, .eff true), (16, .eff false), (17, .strong)])], turns := [(14, [⟨3, [(2, .unit)], .nilf⟩])] }
def Lines11.S : Sig := { f := 11, params := [.st kY1, .st kY11], objs := [], res := .sl kY15, outs := [], fix := [], run := fun k ds os => Lines11 k ds.1 ds.2 }
def Lines11.G : List Sig := [Clone35.S, ContainsFunc32.S, One34.S]
theorem Lines11.eq (k : Nat) : ∀ ds os, Lines11.S.run k ds os = runF ⟨types, Lines11.G, Lines11.A, k, 0, []⟩ Tryz.f11 (codeOf Tryz.f11) Lines11.S.params Lines11.S.objs Lines11.S.res Lines11.S.outs ds os := by
  intro ds os; kernel_rfl
theorem Lines11.dr : DrOk Tryz.prog Lines11.A (codeOf Tryz.f11) := ⟨by kernel_rfl, by kernel_rfl⟩
theorem Lines11.ok (k : Nat) : SoundAt Tryz.prog k Lines11.S :=
  runF_sound (X := ⟨types, Lines11.G, Lines11.A, k, 0, []⟩) types_ok (mem_all (⟨Clone35.ok k, ⟨ContainsFunc32.ok k, ⟨One34.ok k, trivial⟩⟩⟩)) (fn := Tryz.f11) (c := codeOf Tryz.f11) rfl (by kernel_rfl) rfl rfl Lines11.dr (Lines11.eq k)
end Go.Proofs.YtcppmlgnceldmaaGreatDoor.Di

/- Go functions as plain Lean functions, and their contracts. -/
set_option linter.unusedVariables false
set_option maxRecDepth 100000
noncomputable section
namespace Go.Proofs.YtcppmlgnceldmaaGreatDoor.Di
open Go Go.Proofs.YtcppmlgnceldmaaGreatDoor.Gp
def Equal8.l0 (k : Nat) (s1 : tY65) (s2 : tY65) : Int → Option (Int ⊕ tY59)
  | t13 =>
    cond (decide (t13 < (List.length s1 : Int)))
      ((rd s1 t13).bind fun t18 =>
      (rd s2 t13).bind fun t22 =>
      cond (t18 != t22)
        (some (Sum.inr (Sum.inr (false, ()))))
        (some (Sum.inl (w64 (t13 + 1)))))
      (some (Sum.inr (Sum.inl ())))
def Equal8 (k : Nat) (s1 : tY65) (s2 : tY65) : Option tY62 :=
  cond ((List.length s1 : Int) != (List.length s2 : Int))
    (some (false, ()))
    (Option.bind
      (loopN (Equal8.l0 k s1 s2) k 0 : Option tY59) (joined fun (_ : Unit) =>
      some (true, ())))
def Equal8.A : Ann := { conds := [], blocks := [(0, ⟨[], [], 0, [], 67100720⟩)], loops := [(4, ⟨[(13, .int .i64)], [], 0, [], 67100720⟩)], keeps := [], orders := [(6, [(0, .strong), (1, .strong), (2, .strong), (3, .strong), (4, .strong), (5, .strong), (6, .strong), (7, .strong), (8, .strong)])] }
def Equal8.S : Sig := { f := 8, params := [.sl kY24, .sl kY24], objs := [], res := .bool, outs := [], fix := [], run := fun k ds os => Equal8 k ds.1 ds.2 }
def Equal8.G : List Sig := []
theorem Equal8.eq (k : Nat) : ∀ ds os, Equal8.S.run k ds os = runF ⟨types, Equal8.G, Equal8.A, k, 0, []⟩ Tryz.f8 (codeOf Tryz.f8) Equal8.S.params Equal8.S.objs Equal8.S.res Equal8.S.outs ds os := by
  intro ds os; kernel_rfl
theorem Equal8.dr : DrOk Tryz.prog Equal8.A (codeOf Tryz.f8) := ⟨by kernel_rfl, by kernel_rfl⟩
theorem Equal8.ok (k : Nat) : SoundAt Tryz.prog k Equal8.S :=
  runF_sound (X := ⟨types, Equal8.G, Equal8.A, k, 0, []⟩) types_ok (fun s hs => absurd hs List.not_mem_nil) (fn := Tryz.f8) (c := codeOf Tryz.f8) rfl (by kernel_rfl) rfl rfl Equal8.dr (Equal8.eq k)

def DisLists17 (k : Nat) (a : tY54) (b : tY54) : Option tY62 :=
  Option.bind (cond (a.1 == b.1)
    ((Equal8 k a.2.1 b.2.1).bind fun t15 =>
    some t15.1)
    (some false)) fun t16 =>
  some ((cond t16 (streq a.2.2 b.2.2) false), ())
def DisLists17.A : Ann := { conds := [], blocks := [], loops := [], keeps := [2, 3], orders := [] }
def DisLists17.S : Sig := { f := 7, params := [.st kY18, .st kY18], objs := [], res := .bool, outs := [], fix := [], run := fun k ds os => DisLists17 k ds.1 ds.2 }
def DisLists17.G : List Sig := [Equal8.S]
theorem DisLists17.eq (k : Nat) : ∀ ds os, DisLists17.S.run k ds os = runF ⟨types, DisLists17.G, DisLists17.A, k, 0, []⟩ Tryz.f7 (codeOf Tryz.f7) DisLists17.S.params DisLists17.S.objs DisLists17.S.res DisLists17.S.outs ds os := by
  intro ds os; kernel_rfl
theorem DisLists17.dr : DrOk Tryz.prog DisLists17.A (codeOf Tryz.f7) := ⟨by kernel_rfl, by kernel_rfl⟩
theorem DisLists17.ok (k : Nat) : SoundAt Tryz.prog k DisLists17.S :=
  runF_sound (X := ⟨types, DisLists17.G, DisLists17.A, k, 0, []⟩) types_ok (mem_all (⟨Equal8.ok k, trivial⟩)) (fn := Tryz.f7) (c := codeOf Tryz.f7) rfl (by kernel_rfl) rfl rfl DisLists17.dr (DisLists17.eq k)

def EqualFunc9.l0 (k : Nat) (s1 : tY50) (s2 : tY50) : (Unit × Int) → Option ((Unit × Int) ⊕ tY59)
  | (_, t17) =>
    cond (decide (t17 < (List.length s1 : Int)))
      ((rd s1 t17).bind fun t20 =>
      (rd s2 t17).bind fun t24 =>
      (DisLists17 k t20 t24).bind fun t29 =>
      cond (!t29.1)
        (some (Sum.inr (Sum.inr (false, ()))))
        (some (Sum.inl ((), (w64 (t17 + 1))))))
      (some (Sum.inr (Sum.inl ())))
def EqualFunc9 (k : Nat) (s1 : tY50) (s2 : tY50) (_ : Unit) : Option tY62 :=
  cond ((List.length s1 : Int) != (List.length s2 : Int))
    (some (false, ()))
    (Option.bind
      (loopN (EqualFunc9.l0 k s1 s2) k ((), 0) : Option tY59) (joined fun (_ : Unit) =>
      some (true, ())))
def EqualFunc9.A : Ann := { conds := [], blocks := [(0, ⟨[], [], 0, [], 4294837184⟩)], loops := [(4, ⟨[(2, .fn 7 .unit), (17, .int .i64)], [], 0, [], 4294837184⟩)], keeps := [8, 9], orders := [] }
def EqualFunc9.S : Sig := { f := 9, params := [.sl kY15, .sl kY15, .fn 7 .unit], objs := [], res := .bool, outs := [], fix := [], run := fun k ds os => EqualFunc9 k ds.1 ds.2.1 ds.2.2 }
def EqualFunc9.G : List Sig := [DisLists17.S]
theorem EqualFunc9.eq (k : Nat) : ∀ ds os, EqualFunc9.S.run k ds os = runF ⟨types, EqualFunc9.G, EqualFunc9.A, k, 0, []⟩ Tryz.f9 (codeOf Tryz.f9) EqualFunc9.S.params EqualFunc9.S.objs EqualFunc9.S.res EqualFunc9.S.outs ds os := by
  intro ds os; kernel_rfl
theorem EqualFunc9.dr : DrOk Tryz.prog EqualFunc9.A (codeOf Tryz.f9) := ⟨by kernel_rfl, by kernel_rfl⟩
theorem EqualFunc9.ok (k : Nat) : SoundAt Tryz.prog k EqualFunc9.S :=
  runF_sound (X := ⟨types, EqualFunc9.G, EqualFunc9.A, k, 0, []⟩) types_ok (mem_all (⟨DisLists17.ok k, trivial⟩)) (fn := Tryz.f9) (c := codeOf Tryz.f9) rfl (by kernel_rfl) rfl rfl EqualFunc9.dr (EqualFunc9.eq k)

def labels38.l0 (k : Nat) (l : tY58) (addr : Int) : (Unit × (Int × tY61)) → Option ((Unit × (Int × tY61)) ⊕ tY57)
  | (_, t10, o2) =>
    cond (decide (t10 < (List.length l : Int)))
      ((rd l t10).bind fun t12 =>
      Option.bind
        (cond (t12.2 == addr)
          ((if room (List.length o2 + List.length [t12.1]) 16 then some () else none).bind fun _ =>
          some ((), (o2 ++ [t12.1])))
          (some ((), o2)) : Option tY57) fun ((_, o2_1) : tY57) =>
      some (Sum.inl ((), (w64 (t10 + 1)), o2_1)))
      (some (Sum.inr ((), o2)))
def labels38 (k : Nat) (l : tY58) (addr : Int) : Option tY56 :=
  Option.bind
    (loopN (labels38.l0 k l addr) k ((), 0, []) : Option tY57) fun ((_, o2_2) : tY57) =>
  some (o2_2, ())
def labels38.A : Ann := { conds := [(1114118, ⟨[(5, .ms 2)], [(2, .row .str)], 3, [], 8126496⟩)], blocks := [(0, ⟨[(5, .ms 2)], [(2, .row .str)], 3, [], 16776352⟩)], loops := [(3, ⟨[(5, .ms 2), (10, .int .i64)], [(2, .row .str)], 3, [(2, .str)], 16776352⟩)], keeps := [7], orders := [] }
def labels38.S : Sig := { f := 38, params := [.sl kY20, .int .i64], objs := [], res := .sl .str, outs := [], fix := [], run := fun k ds os => labels38 k ds.1 ds.2 }
def labels38.G : List Sig := []
theorem labels38.eq (k : Nat) : ∀ ds os, labels38.S.run k ds os = runF ⟨types, labels38.G, labels38.A, k, 0, []⟩ Tryz.f38 (codeOf Tryz.f38) labels38.S.params labels38.S.objs labels38.S.res labels38.S.outs ds os := by
  intro ds os; kernel_rfl
theorem labels38.dr : DrOk Tryz.prog labels38.A (codeOf Tryz.f38) := ⟨by kernel_rfl, by kernel_rfl⟩
theorem labels38.ok (k : Nat) : SoundAt Tryz.prog k labels38.S :=
  runF_sound (X := ⟨types, labels38.G, labels38.A, k, 0, []⟩) types_ok (fun s hs => absurd hs List.not_mem_nil) (fn := Tryz.f38) (c := codeOf Tryz.f38) rfl (by kernel_rfl) rfl rfl labels38.dr (labels38.eq k)

def List137.l0 (k : Nat) (t9 : tY56) : tY49 → Option (tY49 ⊕ tY57)
  | (_, t11, _, o1_1) =>
    cond (decide (t11 < (List.length t9.1 : Int)))
      ((rd t9.1 t11).bind fun t13 =>
      (catS t13 (ByteArray.mk #[58])).bind fun t17 =>
      (if room (List.length o1_1 + List.length [t17]) 16 then some () else none).bind fun _ =>
      some (Sum.inl ((), (w64 (t11 + 1)), (), (o1_1 ++ [t17]))))
      (some (Sum.inr ((), o1_1)))
def List137 (k : Nat) (addr : Int) (t1 : tY47) (_ : Unit) (o0 : Unit) (o1 : tY61) : Option (Unit × tY57) :=
  (labels38 k t1.2.2 addr).bind fun t9 =>
  Option.bind
    (loopN (List137.l0 k t9) k ((), 0, (), o1) : Option tY57) fun ((_, o1_2) : tY57) =>
  some ((), (), o1_2)
def List137.A : Ann := { conds := [], blocks := [(0, ⟨[], [(0, .var (.ms 1)), (1, .row .str)], 2, [], 2095136⟩)], loops := [(1, ⟨[(2, .ptr 0 []), (11, .int .i64)], [(0, .var (.ms 1)), (1, .row .str)], 2, [], 2095136⟩)], keeps := [], orders := [] }
def List137.S : Sig := { f := 37, params := [.int .i64, .fp kY10, .ptr 0 []], objs := [.var (.ms 1), .row .str], res := .tup .unit, outs := [.var (.ms 1), .row .str], fix := [], run := fun k ds os => List137 k ds.1 ds.2.1 ds.2.2 os.1 os.2 }
def List137.G : List Sig := [labels38.S]
theorem List137.eq (k : Nat) : ∀ ds os, List137.S.run k ds os = runF ⟨types, List137.G, List137.A, k, 0, []⟩ Tryz.f37 (codeOf Tryz.f37) List137.S.params List137.S.objs List137.S.res List137.S.outs ds os := by
  intro ds os; kernel_rfl
theorem List137.dr : DrOk Tryz.prog List137.A (codeOf Tryz.f37) := ⟨by kernel_rfl, by kernel_rfl⟩
theorem List137.ok (k : Nat) : SoundAt Tryz.prog k List137.S :=
  runF_sound (X := ⟨types, List137.G, List137.A, k, 0, []⟩) types_ok (mem_all (⟨labels38.ok k, trivial⟩)) (fn := Tryz.f37) (c := codeOf Tryz.f37) rfl (by kernel_rfl) rfl rfl List137.dr (List137.eq k)

def List13.l0 (k : Nat) (t17 : tY46) : tY18 → Option (tY18 ⊕ tY19)
  | (code_1, _, named, t19, o0, _) =>
    cond (decide (t19 < (List.length t17.1 : Int)))
      ((rd t17.1 t19).bind fun t21 =>
      (List137 k t21.1 named.1 named.2.1 () o0).bind fun t26 =>
      (if room (List.length t26.2.2 + List.length [t21.2.2]) 16 then some () else none).bind fun _ =>
      some (Sum.inl (code_1, (), named, (w64 (t19 + 1)), (t26.2.2 ++ [t21.2.2]), ())))
      (some (Sum.inr (code_1, (), named, o0, ())))
def List13 (k : Nat) (c : tY11) (code : tY47) : Option tY56 :=
  (Itoa36 k code.1).bind fun t11 =>
  (catS (ByteArray.mk #[111, 114, 103, 32]) t11.1).bind fun t12 =>
  (Lines10 k c code).bind fun t17 =>
  Option.bind
    (loopN (List13.l0 k t17) k (code, (), (code, (), ()), 0, [t12], ()) : Option tY19) fun ((code_2, _, named_1, o0_1, _) : tY19) =>
  (List137 k (w64 (code_2.1 + (List.length code_2.2.1 : Int))) named_1.1 named_1.2.1 () o0_1).bind fun t40 =>
  some (t40.2.2, ())
def List13.A : Ann := { conds := [], blocks := [(0, ⟨[(3, .fp kY10), (5, .ptr 1 []), (6, .fn 37 (.pair kY9 (.pair (.ptr 1 []) .unit)))], [(0, .row .str), (1, .var (.ms 0))], 2, [], 8589410560⟩)], loops := [(4, ⟨[(3, .fp kY10), (5, .ptr 1 []), (6, .fn 37 (.pair kY9 (.pair (.ptr 1 []) .unit))), (19, .int .i64)], [(0, .row .str), (1, .var (.ms 0))], 2, [], 8589410560⟩)], keeps := [2, 3, 8], orders := [] }
def List13.S : Sig := { f := 13, params := [.st kY1, .st kY11], objs := [], res := .sl .str, outs := [], fix := [], run := fun k ds os => List13 k ds.1 ds.2 }
def List13.G : List Sig := [Itoa36.S, Lines10.S, List137.S]
theorem List13.eq (k : Nat) : ∀ ds os, List13.S.run k ds os = runF ⟨types, List13.G, List13.A, k, 0, []⟩ Tryz.f13 (codeOf Tryz.f13) List13.S.params List13.S.objs List13.S.res List13.S.outs ds os := by
  intro ds os; kernel_rfl
theorem List13.dr : DrOk Tryz.prog List13.A (codeOf Tryz.f13) := ⟨by kernel_rfl, by kernel_rfl⟩
theorem List13.ok (k : Nat) : SoundAt Tryz.prog k List13.S :=
  runF_sound (X := ⟨types, List13.G, List13.A, k, 0, []⟩) types_ok (mem_all (⟨Itoa36.ok k, ⟨Lines10.ok k, ⟨List137.ok k, trivial⟩⟩⟩)) (fn := Tryz.f13) (c := codeOf Tryz.f13) rfl (by kernel_rfl) rfl rfl List13.dr (List13.eq k)
end Go.Proofs.YtcppmlgnceldmaaGreatDoor.Di

/- Go functions as plain Lean functions, and their contracts. -/
set_option linter.unusedVariables false
set_option maxRecDepth 100000
noncomputable section
namespace Go.Proofs.YtcppmlgnceldmaaGreatDoor.Di
open Go Go.Proofs.YtcppmlgnceldmaaGreatDoor.Gp
def Lines11'.l0 (k : Nat) (t15 : Int) : tY3 → Option tY0
  | (c_2, code_2, _, stop, _, o1_1, o2) =>
    cond (decide (o2 > t15))
      ((ContainsFunc32 k code_2.2.2 (code_2, (), ()) o2).bind fun t36 =>
      Option.bind
        (cond t36.1
          (some (c_2, code_2, (), t36.2, (), o1_1, t36.2))
          (some (c_2, code_2, (), stop, (), o1_1, t36.2)) : Option tY3) fun ((c_3, code_3, _, stop_1, _, o1_2, o2_1) : tY3) =>
      some (Sum.inl (c_3, code_3, (), stop_1, (), o1_2, (w64 (o2_1 - 1)))))
      (some (Sum.inr (c_2, code_2, (), stop, o1_1)))
def Lines11'.l1 (k : Nat) (code : tY47) : tY4 → Option tY2
  | (c_1, code_1, _, end_, t15, o1) =>
    cond (decide (t15 < (List.length code.2.1 : Int)))
      (Option.bind
        (cond (decide (t15 < end_))
          (some (c_1, code_1, (), end_, o1))
          (Option.bind
            (loopN (Lines11'.l0 k t15) k (c_1, code_1, (), (List.length code_1.2.1 : Int), (), o1, (w64 ((List.length code_1.2.1 : Int) - 1))) : Option tY5) fun ((c_4, code_4, _, stop_2, o1_3) : tY5) =>
          (slc code_4.2.1 t15 stop_2).bind fun t45 =>
          (One34 k c_4 t45 (w64 (code_4.1 + t15))).bind fun t50 =>
          let t57 : Int := (w64 (code_4.1 + t15))
          (slc code_4.2.1 t15 (w64 (t15 + t50.1.2.1))).bind fun t64 =>
          (Clone35 k t64).bind fun t65 =>
          (if room (List.length o1_3 + List.length [(t57, t65.1, t50.1.1)]) 48 then some () else none).bind fun _ =>
          some (c_4, code_4, (), (w64 (t15 + t50.1.2.1)), (o1_3 ++ [(t57, t65.1, t50.1.1)]))) : Option tY5) fun ((c_5, code_5, _, end__1, o1_4) : tY5) =>
      some (Sum.inl (c_5, code_5, (), end__1, (w64 (t15 + 1)), o1_4)))
      (some (Sum.inr ((), o1)))
def Lines11' (k : Nat) (c : tY11) (code : tY47) : Option tY45 :=
  Option.bind
    (loopN (Lines11'.l1 k code) k (c, code, (), 0, 0, []) : Option tY45) fun ((_, o1_5) : tY45) =>
  some ((), o1_5)
def Lines11'.A : Ann := { conds := [(2359308, ⟨[(2, .fp kY0), (3, .fp kY10), (5, .ms 1), (8, .int .i64), (9, .ptr 2 [])], [(1, .row kY15), (2, .var kY23)], 3, [], 137438953728⟩)], blocks := [(0, ⟨[(5, .ms 1)], [(1, .row kY15)], 2, [], 18889465931478580826080⟩), (1, ⟨[(2, .fp kY0), (3, .fp kY10), (5, .ms 1), (6, .int .i64)], [(1, .row kY15)], 2, [], 9444732965739290300384⟩), (2, ⟨[(2, .fp kY0), (3, .fp kY10), (5, .ms 1), (8, .int .i64)], [(1, .row kY15)], 2, [], 549487379200⟩)], loops := [(4, ⟨[(2, .fp kY0), (3, .fp kY10), (5, .ms 1), (6, .int .i64), (15, .int .i64)], [(1, .row kY15)], 2, [(1, .st kY18)], 18889465931478580826080⟩), (9, ⟨[(2, .fp kY0), (3, .fp kY10), (5, .ms 1), (8, .int .i64), (9, .ptr 2 [])], [(1, .row kY15), (2, .var kY23)], 3, [], 549487379200⟩)], keeps := [2, 3], orders := [(15, [(0, .strong), (1, .strong), (2, .strong), (3, .strong), (4, .strong), (5, .strong), (6, .strong), (7, .strong), (8, .strong), (9, .strong), (10, .eff true), (11, .strong), (12, .strong), (13, .strong), (14, .strong), (15, .strong)]), (16, [(0, .strong), (1, .strong), (2, .strong), (3, .strong), (4, .strong), (5, .strong), (6, .strong), (7, .strong), (8, .strong), (9, .strong), (10, .strong), (11, .strong), (13, .strong), (12, .eff true), (14, .strong), (15, .eff true), (16, .eff false), (17, .strong)])], turns := [(14, [⟨3, [(2, .unit)], .nilf⟩])] }
def Lines11'.S : Sig := { f := 11, params := [.st kY1, .st kY11], objs := [], res := .ms 0, outs := [.row kY15], fix := [], run := fun k ds os => Lines11' k ds.1 ds.2 }
def Lines11'.G : List Sig := [Clone35.S, ContainsFunc32.S, One34.S]
theorem Lines11'.eq (k : Nat) : ∀ ds os, Lines11'.S.run k ds os = runF ⟨types, Lines11'.G, Lines11'.A, k, 0, []⟩ Tryz.f11 (codeOf Tryz.f11) Lines11'.S.params Lines11'.S.objs Lines11'.S.res Lines11'.S.outs ds os := by
  intro ds os; kernel_rfl
theorem Lines11'.dr : DrOk Tryz.prog Lines11'.A (codeOf Tryz.f11) := ⟨by kernel_rfl, by kernel_rfl⟩
theorem Lines11'.ok (k : Nat) : SoundAt Tryz.prog k Lines11'.S :=
  runF_sound (X := ⟨types, Lines11'.G, Lines11'.A, k, 0, []⟩) types_ok (mem_all (⟨Clone35.ok k, ⟨ContainsFunc32.ok k, ⟨One34.ok k, trivial⟩⟩⟩)) (fn := Tryz.f11) (c := codeOf Tryz.f11) rfl (by kernel_rfl) rfl rfl Lines11'.dr (Lines11'.eq k)
end Go.Proofs.YtcppmlgnceldmaaGreatDoor.Di

/- Go functions as plain Lean functions, and their contracts. -/
set_option linter.unusedVariables false
set_option maxRecDepth 100000
noncomputable section
namespace Go.Proofs.YtcppmlgnceldmaaGreatDoor.Di
open Go Go.Proofs.YtcppmlgnceldmaaGreatDoor.Gp
def List14.l0 (k : Nat) (code_2 : tY47) : tY13 → Option (tY13 ⊕ tY14)
  | (code_3, _, _, x, _, t38, o0_2, o2_2) =>
    cond (decide (t38 < (List.length code_2.2.2 : Int)))
      ((rd code_2.2.2 t38).bind fun t40 =>
      Option.bind
        (cond (t40.2 == x.1)
          ((catS t40.1 (ByteArray.mk #[58])).bind fun t50 =>
          (if room (List.length o0_2 + List.length [t50]) 16 then some () else none).bind fun _ =>
          some (code_3, (), (), x, (), (o0_2 ++ [t50]), o2_2))
          (some (code_3, (), (), x, (), o0_2, o2_2)) : Option tY14) fun ((code_4, _, _, x_1, _, o0_3, o2_3) : tY14) =>
      some (Sum.inl (code_4, (), (), x_1, (), (w64 (t38 + 1)), o0_3, o2_3)))
      (some (Sum.inr (code_3, (), (), x, (), o0_2, o2_2)))
def List14.l1 (k : Nat) (o2 : tY50) : tY20 → Option (tY20 ⊕ tY57)
  | (code_2, _, _, _, t30, o0_1, o2_1) =>
    cond (decide (t30 < (List.length o2 : Int)))
      ((rd o2_1 t30).bind fun _ =>
      (rd o2_1 t30).bind fun t34 =>
      Option.bind
        (loopN (List14.l0 k code_2) k (code_2, (), (), t34, (), 0, o0_1, o2_1) : Option tY14) fun ((code_5, _, _, x_2, _, o0_4, o2_4) : tY14) =>
      Option.bind
        (cond (decide (t30 < (w64 ((List.length o2_4 : Int) - 1))))
          ((if room (List.length o0_4 + List.length [x_2.2.2]) 16 then some () else none).bind fun _ =>
          some (code_5, (), (), (), (o0_4 ++ [x_2.2.2]), o2_4))
          (some (code_5, (), (), (), o0_4, o2_4)) : Option tY21) fun ((code_6, _, _, _, o0_5, o2_5) : tY21) =>
      some (Sum.inl (code_6, (), (), (), (w64 (t30 + 1)), o0_5, o2_5)))
      (some (Sum.inr ((), o0_1)))
def List14 (k : Nat) (c : tY11) (code : tY47) : Option tY56 :=
  (Itoa36 k code.1).bind fun t13 =>
  (catS (ByteArray.mk #[111, 114, 103, 32]) t13.1).bind fun t14 =>
  Option.bind
    (let t24 : Int := (w64 (code.1 + (List.length code.2.1 : Int)))
    agree
      ((Lines11' k c code).bind fun t18 =>
      (if room (List.length t18.2 + List.length ([(t24, [], (ByteArray.mk #[]))] : List tY54)) 48 then some () else none).bind fun _ =>
      some (code, (), (), [t14], (t18.2 ++ ([(t24, [], (ByteArray.mk #[]))] : List tY54))))
      ((Lines11' k c code).bind fun t18_1 =>
      (if room (List.length t18_1.2 + List.length ([(t24, [], (ByteArray.mk #[]))] : List tY54)) 48 then some () else none).bind fun _ =>
      some (code, (), (), [t14], (t18_1.2 ++ ([(t24, [], (ByteArray.mk #[]))] : List tY54)))) : Option tY22) fun ((code_1, _, _, o0, o2) : tY22) =>
  Option.bind
    (loopN (List14.l1 k o2) k (code_1, (), (), (), 0, o0, o2) : Option tY57) fun ((_, o0_6) : tY57) =>
  some (o0_6, ())
def List14.A : Ann := { conds := [(3014666, ⟨[(3, .fp kY10), (5, .ms 0), (6, .ms 2), (8, .fp kY15), (28, .ms 2)], [(0, .row .str), (2, .row kY15)], 3, [], 8866461766385696⟩), (3801101, ⟨[(3, .fp kY10), (5, .ms 0), (6, .ms 2), (28, .ms 2)], [(0, .row .str), (2, .row kY15)], 3, [], 17870283321406128160⟩)], blocks := [(0, ⟨[(5, .ms 0)], [(0, .row .str)], 1, [], 36893488146345362848⟩), (2, ⟨[(3, .fp kY10), (5, .ms 0), (6, .ms 2), (8, .fp kY15), (28, .ms 2)], [(0, .row .str), (2, .row kY15)], 3, [], 18014123631576096⟩)], loops := [(4, ⟨[(3, .fp kY10), (5, .ms 0), (6, .ms 2), (28, .ms 2), (30, .int .i64)], [(0, .row .str), (2, .row kY15)], 3, [], 36893488146345362848⟩), (7, ⟨[(3, .fp kY10), (5, .ms 0), (6, .ms 2), (8, .fp kY15), (28, .ms 2), (38, .int .i64)], [(0, .row .str), (2, .row kY15)], 3, [], 18014123631576096⟩)], keeps := [2, 3, 8, 10], orders := [], alts := [(2, ((.op 0 .strong (.op 1 .strong (.op 3 .strong (.op 4 .strong (.op 5 .strong (.op 6 .strong (.op 7 .strong (.op 8 .strong (.op 9 .strong (.alt (.op 2 (.eff true) (.op 10 (.eff true) (.op 11 (.eff false) (.op 12 .strong (.leaf [⟨2, [(1, .unit)], .nilf⟩]))))) (.op 10 (.eff true) (.op 2 (.eff true) (.op 11 (.eff false) (.op 12 .strong (.leaf []))))))))))))))), ⟨[(3, .fp kY10), (5, .ms 0), (6, .ms 2)], [(0, .row .str), (2, .row kY15)], 3, [], 268369984⟩))] }
def List14.S : Sig := { f := 14, params := [.st kY1, .st kY11], objs := [], res := .sl .str, outs := [], fix := [], run := fun k ds os => List14 k ds.1 ds.2 }
def List14.G : List Sig := [Itoa36.S, Lines11'.S]
theorem List14.eq (k : Nat) : ∀ ds os, List14.S.run k ds os = runF ⟨types, List14.G, List14.A, k, 0, []⟩ Tryz.f14 (codeOf Tryz.f14) List14.S.params List14.S.objs List14.S.res List14.S.outs ds os := by
  intro ds os; kernel_rfl
theorem List14.dr : DrOk Tryz.prog List14.A (codeOf Tryz.f14) := ⟨by kernel_rfl, by kernel_rfl⟩
theorem List14.ok (k : Nat) : SoundAt Tryz.prog k List14.S :=
  runF_sound (X := ⟨types, List14.G, List14.A, k, 0, []⟩) types_ok (mem_all (⟨Itoa36.ok k, ⟨Lines11'.ok k, trivial⟩⟩)) (fn := Tryz.f14) (c := codeOf Tryz.f14) rfl (by kernel_rfl) rfl rfl List14.dr (List14.eq k)

def Equal12.l0 (k : Nat) (s1 : tY61) (s2 : tY61) : Int → Option (Int ⊕ tY59)
  | t13 =>
    cond (decide (t13 < (List.length s1 : Int)))
      ((rd s1 t13).bind fun t18 =>
      (rd s2 t13).bind fun t22 =>
      cond (!(streq t18 t22))
        (some (Sum.inr (Sum.inr (false, ()))))
        (some (Sum.inl (w64 (t13 + 1)))))
      (some (Sum.inr (Sum.inl ())))
def Equal12 (k : Nat) (s1 : tY61) (s2 : tY61) : Option tY62 :=
  cond ((List.length s1 : Int) != (List.length s2 : Int))
    (some (false, ()))
    (Option.bind
      (loopN (Equal12.l0 k s1 s2) k 0 : Option tY59) (joined fun (_ : Unit) =>
      some (true, ())))
def Equal12.A : Ann := { conds := [], blocks := [(0, ⟨[], [], 0, [], 67100720⟩)], loops := [(4, ⟨[(13, .int .i64)], [], 0, [], 67100720⟩)], keeps := [], orders := [(6, [(0, .strong), (1, .strong), (2, .strong), (3, .strong), (4, .strong), (5, .strong), (6, .strong), (7, .strong), (8, .strong)])] }
def Equal12.S : Sig := { f := 12, params := [.sl .str, .sl .str], objs := [], res := .bool, outs := [], fix := [], run := fun k ds os => Equal12 k ds.1 ds.2 }
def Equal12.G : List Sig := []
theorem Equal12.eq (k : Nat) : ∀ ds os, Equal12.S.run k ds os = runF ⟨types, Equal12.G, Equal12.A, k, 0, []⟩ Tryz.f12 (codeOf Tryz.f12) Equal12.S.params Equal12.S.objs Equal12.S.res Equal12.S.outs ds os := by
  intro ds os; kernel_rfl
theorem Equal12.dr : DrOk Tryz.prog Equal12.A (codeOf Tryz.f12) := ⟨by kernel_rfl, by kernel_rfl⟩
theorem Equal12.ok (k : Nat) : SoundAt Tryz.prog k Equal12.S :=
  runF_sound (X := ⟨types, Equal12.G, Equal12.A, k, 0, []⟩) types_ok (fun s hs => absurd hs List.not_mem_nil) (fn := Tryz.f12) (c := codeOf Tryz.f12) rfl (by kernel_rfl) rfl rfl Equal12.dr (Equal12.eq k)
end Go.Proofs.YtcppmlgnceldmaaGreatDoor.Di

/- Go functions as plain Lean functions, and their contracts. -/
set_option linter.unusedVariables false
set_option maxRecDepth 100000
noncomputable section
namespace Go.Proofs.YtcppmlgnceldmaaGreatDoor.Di
open Go Go.Proofs.YtcppmlgnceldmaaGreatDoor.Gp
def Names15.l0 (k : Nat) (t12 : tY46) : tY7 → Option tY6
  | (c_1, _, t14, o1) =>
    cond (decide (t14 < (List.length t12.1 : Int)))
      ((rd t12.1 t14).bind fun t16 =>
      Option.bind
        ((rd t16.2.1 0).bind fun t22 =>
        agree
          ((Find39 k c_1 (w64 t22)).bind fun t25 =>
          some (c_1, (), t16, t25.1.1, t25.1.2.1, o1))
          ((Find39 k c_1 (w64 t22)).bind fun t25_1 =>
          some (c_1, (), t16, t25_1.1.1, t25_1.1.2.1, o1)) : Option tY1) fun ((c_2, _, x, y, ok, o1_1) : tY1) =>
      Option.bind (cond ok
        ((Size26 k y.2.2.1).bind fun t35 =>
        some ((List.length x.2.1 : Int) == (w64 (1 + t35.1))))
        (some false)) fun t38 =>
      Option.bind
        (cond t38
          ((if room (List.length o1_1 + List.length [y.2.1]) 16 then some () else none).bind fun _ =>
          some (c_2, (), (o1_1 ++ [y.2.1])))
          (some (c_2, (), o1_1)) : Option tY8) fun ((c_3, _, o1_2) : tY8) =>
      some (Sum.inl (c_3, (), (w64 (t14 + 1)), o1_2)))
      (some (Sum.inr ((), o1)))
def Names15 (k : Nat) (c : tY11) (code : tY47) : Option tY56 :=
  (Lines10 k c code).bind fun t12 =>
  Option.bind
    (loopN (Names15.l0 k t12) k (c, (), 0, []) : Option tY57) fun ((_, o1_3) : tY57) =>
  some (o1_3, ())
def Names15.A : Ann := { conds := [(2490375, ⟨[(2, .fp kY0), (5, .ms 1)], [(1, .row .str)], 2, [], 17042430230560⟩)], blocks := [(0, ⟨[(5, .ms 1)], [(1, .row .str)], 2, [], 35184372073376⟩)], loops := [(3, ⟨[(2, .fp kY0), (5, .ms 1), (14, .int .i64)], [(1, .row .str)], 2, [(1, .str)], 35184372073376⟩)], keeps := [2, 3, 7, 8], orders := [(6, [(0, .strong), (1, .strong), (2, .strong), (3, .strong), (4, .strong), (5, .strong), (6, .strong), (7, .eff true), (8, .strong), (9, .strong), (10, .strong)])], alts := [(5, ((.op 0 .strong (.op 1 .strong (.op 2 .strong (.op 3 .strong (.op 4 .strong (.op 5 .strong (.alt (.op 6 (.eff true) (.op 7 .strong (.op 8 .strong (.op 9 .weak (.op 10 (.eff true) (.op 11 (.eff false) (.op 12 .strong (.leaf [])))))))) (.op 10 (.eff true) (.op 6 (.eff true) (.op 7 .strong (.op 8 .strong (.op 9 .weak (.op 11 (.eff false) (.op 12 .strong (.leaf []))))))))))))))), ⟨[(2, .fp kY0), (5, .ms 1), (7, .fp kY15), (8, .fp kY4), (9, .bool)], [(1, .row .str)], 2, [], 268174080⟩))] }
def Names15.S : Sig := { f := 15, params := [.st kY1, .st kY11], objs := [], res := .sl .str, outs := [], fix := [], run := fun k ds os => Names15 k ds.1 ds.2 }
def Names15.G : List Sig := [Find39.S, Lines10.S, Size26.S]
theorem Names15.eq (k : Nat) : ∀ ds os, Names15.S.run k ds os = runF ⟨types, Names15.G, Names15.A, k, 0, []⟩ Tryz.f15 (codeOf Tryz.f15) Names15.S.params Names15.S.objs Names15.S.res Names15.S.outs ds os := by
  intro ds os; kernel_rfl
theorem Names15.dr : DrOk Tryz.prog Names15.A (codeOf Tryz.f15) := ⟨by kernel_rfl, by kernel_rfl⟩
theorem Names15.ok (k : Nat) : SoundAt Tryz.prog k Names15.S :=
  runF_sound (X := ⟨types, Names15.G, Names15.A, k, 0, []⟩) types_ok (mem_all (⟨Find39.ok k, ⟨Lines10.ok k, ⟨Size26.ok k, trivial⟩⟩⟩)) (fn := Tryz.f15) (c := codeOf Tryz.f15) rfl (by kernel_rfl) rfl rfl Names15.dr (Names15.eq k)
end Go.Proofs.YtcppmlgnceldmaaGreatDoor.Di

/- Go functions as plain Lean functions, and their contracts. -/
set_option linter.unusedVariables false
set_option maxRecDepth 100000
noncomputable section
namespace Go.Proofs.YtcppmlgnceldmaaGreatDoor.Di
open Go Go.Proofs.YtcppmlgnceldmaaGreatDoor.Gp
def Names16.l0 (k : Nat) (t13 : tY44) (t18 : tY46) : tY7 → Option tY6
  | (c_1, _, t20, o1) =>
    cond (decide (t20 < (List.length t18.1 : Int)))
      ((rd t18.1 t20).bind fun t22 =>
      Option.bind
        ((rd t22.2.1 0).bind fun t28 =>
        agree
          ((with41 k c_1 (w64 t28)).bind fun t31 =>
          some (c_1, (), t22, t31.1.1, t31.1.2.1, o1))
          ((with41 k c_1 (w64 t28)).bind fun t31_1 =>
          some (c_1, (), t22, t31_1.1.1, t31_1.1.2.1, o1)) : Option tY1) fun ((c_2, _, x, y, ok, o1_1) : tY1) =>
      Option.bind (cond ok
        ((rd t13.1.1 y.2.2.1).bind fun t42 =>
        some ((List.length x.2.1 : Int) == (w64 (1 + t42))))
        (some false)) fun t46 =>
      Option.bind
        (cond t46
          ((if room (List.length o1_1 + List.length [y.2.1]) 16 then some () else none).bind fun _ =>
          some (c_2, (), (o1_1 ++ [y.2.1])))
          (some (c_2, (), o1_1)) : Option tY8) fun ((c_3, _, o1_2) : tY8) =>
      some (Sum.inl (c_3, (), (w64 (t20 + 1)), o1_2)))
      (some (Sum.inr ((), o1)))
def Names16 (k : Nat) (c : tY11) (code : tY47) : Option tY56 :=
  (operands40 k).bind fun t13 =>
  (Lines11 k c code).bind fun t18 =>
  Option.bind
    (loopN (Names16.l0 k t13 t18) k (c, (), 0, []) : Option tY57) fun ((_, o1_3) : tY57) =>
  some (o1_3, ())
def Names16.A : Ann := { conds := [(3014664, ⟨[(2, .fp kY0), (7, .ms 1)], [(1, .row .str)], 2, [], 4362862139015296⟩)], blocks := [(0, ⟨[(7, .ms 1)], [(1, .row .str)], 2, [], 9007199253696128⟩)], loops := [(4, ⟨[(2, .fp kY0), (7, .ms 1), (20, .int .i64)], [(1, .row .str)], 2, [(1, .str)], 9007199253696128⟩)], keeps := [2, 3, 9, 10], orders := [(7, [(0, .strong), (1, .strong), (2, .strong), (3, .strong), (4, .strong), (5, .strong), (6, .strong), (7, .strong), (8, .strong), (9, .strong), (10, .strong), (11, .strong), (12, .strong)])], alts := [(6, ((.op 0 .strong (.op 1 .strong (.op 2 .strong (.op 3 .strong (.op 4 .strong (.op 5 .strong (.alt (.op 6 (.eff true) (.op 7 .strong (.op 8 .strong (.op 9 .weak (.op 10 (.eff true) (.op 11 (.eff false) (.op 12 .strong (.leaf [])))))))) (.op 10 (.eff true) (.op 6 (.eff true) (.op 7 .strong (.op 8 .strong (.op 9 .weak (.op 11 (.eff false) (.op 12 .strong (.leaf []))))))))))))))), ⟨[(2, .fp kY0), (7, .ms 1), (9, .fp kY15), (10, .fp kY4), (11, .bool)], [(1, .row .str)], 2, [], 17163095040⟩))] }
def Names16.S : Sig := { f := 16, params := [.st kY1, .st kY11], objs := [], res := .sl .str, outs := [], fix := [], run := fun k ds os => Names16 k ds.1 ds.2 }
def Names16.G : List Sig := [Lines11.S, operands40.S, with41.S]
theorem Names16.eq (k : Nat) : ∀ ds os, Names16.S.run k ds os = runF ⟨types, Names16.G, Names16.A, k, 0, []⟩ Tryz.f16 (codeOf Tryz.f16) Names16.S.params Names16.S.objs Names16.S.res Names16.S.outs ds os := by
  intro ds os; kernel_rfl
theorem Names16.dr : DrOk Tryz.prog Names16.A (codeOf Tryz.f16) := ⟨by kernel_rfl, by kernel_rfl⟩
theorem Names16.ok (k : Nat) : SoundAt Tryz.prog k Names16.S :=
  runF_sound (X := ⟨types, Names16.G, Names16.A, k, 0, []⟩) types_ok (mem_all (⟨Lines11.ok k, ⟨operands40.ok k, ⟨with41.ok k, trivial⟩⟩⟩)) (fn := Tryz.f16) (c := codeOf Tryz.f16) rfl (by kernel_rfl) rfl rfl Names16.dr (Names16.eq k)

def DisLists3 (k : Nat) (c : tY11) (code : tY47) : Option tY62 :=
  let t9 : Int := (mxI (-1099511627776) (mnI code.1 1099511627776))
  (told5 k).bind fun t11 =>
  Option.bind (cond (!t11.1)
    (some true)
    ((Check6 k c).bind fun t15 =>
    some (t15.1 != 0))) fun t17 =>
  cond (cond (cond t17 true (decide ((List.length code.2.1 : Int) > 300))) true (decide ((List.length code.2.2 : Int) > 20)))
    ((told5 k).bind fun t30 =>
    some (t30.1, ()))
    ((Lines10 k c (t9, code.2)).bind fun t33 =>
    (Lines11 k c (t9, code.2)).bind fun t36 =>
    (EqualFunc9 k t33.1 t36.1 ()).bind fun t38 =>
    Option.bind (cond t38.1
      ((List13 k c (t9, code.2)).bind fun t42 =>
      (List14 k c (t9, code.2)).bind fun t45 =>
      (Equal12 k t42.1 t45.1).bind fun t46 =>
      some t46.1)
      (some false)) fun t47 =>
    Option.bind (cond t47
      ((Names15 k c (t9, code.2)).bind fun t51 =>
      (Names16 k c (t9, code.2)).bind fun t54 =>
      (Equal12 k t51.1 t54.1).bind fun t55 =>
      some t55.1)
      (some false)) fun t56 =>
    some (t56, ()))
def DisLists3.A : Ann := { conds := [], blocks := [], loops := [], keeps := [2], orders := [(5, [(0, .strong), (1, .strong), (3, .strong), (4, .strong), (6, .strong), (2, .eff true), (5, .eff true), (7, .eff true), (8, .strong), (9, .strong), (10, .strong), (12, .strong), (13, .strong), (11, .eff true), (14, .eff true), (15, .eff true), (16, .strong), (17, .strong), (18, .strong), (19, .strong), (21, .strong), (22, .strong), (20, .eff true), (23, .eff true), (24, .eff true), (25, .strong), (26, .strong)])] }
def DisLists3.S : Sig := { f := 3, params := [.st kY1, .st kY11], objs := [], res := .bool, outs := [], fix := [], run := fun k ds os => DisLists3 k ds.1 ds.2 }
def DisLists3.G : List Sig := [Check6.S, Equal12.S, EqualFunc9.S, Lines10.S, Lines11.S, List13.S, List14.S, Names15.S, Names16.S, told5.S]
theorem DisLists3.eq (k : Nat) : ∀ ds os, DisLists3.S.run k ds os = runF ⟨types, DisLists3.G, DisLists3.A, k, 0, []⟩ Tryz.f3 (codeOf Tryz.f3) DisLists3.S.params DisLists3.S.objs DisLists3.S.res DisLists3.S.outs ds os := by
  intro ds os; kernel_rfl
theorem DisLists3.dr : DrOk Tryz.prog DisLists3.A (codeOf Tryz.f3) := ⟨by kernel_rfl, by kernel_rfl⟩
theorem DisLists3.ok (k : Nat) : SoundAt Tryz.prog k DisLists3.S :=
  runF_sound (X := ⟨types, DisLists3.G, DisLists3.A, k, 0, []⟩) types_ok (mem_all (⟨Check6.ok k, ⟨Equal12.ok k, ⟨EqualFunc9.ok k, ⟨Lines10.ok k, ⟨Lines11.ok k, ⟨List13.ok k, ⟨List14.ok k, ⟨Names15.ok k, ⟨Names16.ok k, ⟨told5.ok k, trivial⟩⟩⟩⟩⟩⟩⟩⟩⟩⟩)) (fn := Tryz.f3) (c := codeOf Tryz.f3) rfl (by kernel_rfl) rfl rfl DisLists3.dr (DisLists3.eq k)
end Go.Proofs.YtcppmlgnceldmaaGreatDoor.Di

/- What is left of a Go function, in the long run: rounds, loops, lists, numbers. No program in sight. -/
set_option linter.unusedVariables false
noncomputable section
namespace Go.Proofs.YtcppmlgnceldmaaGreatDoor.Gp
open Go

/-- from some fuel on, f answers v -/
def Ev {α : Type} (f : Nat → Option α) (v : α) : Prop := ∃ n, ∀ k, n ≤ k → f k = some v
/-- .. a loop, from some fuel on and with enough rounds -/
def Lp {S R : Type} (body : Nat → S → Option (S ⊕ R)) (s : S) (r : R) : Prop := ∃ n m, ∀ k, n ≤ k → ∀ j, m ≤ j → loopN (body k) j s = some r

theorem Ev.ex {α : Type} {f : Nat → Option α} {v : α} (h : Ev f v) : ∃ k, f k = some v := by
  obtain ⟨n, h⟩ := h
  exact ⟨n, h n (Nat.le_refl _)⟩
theorem Ev.now {α : Type} (v : α) : Ev (fun _ => some v) v := ⟨0, fun _ _ => rfl⟩
theorem Ev.now' {α : Type} {v w : α} (h : v = w) : Ev (fun _ => some v) w := h ▸ .now v
/-- what hangs on no fuel -/
theorem Ev.const {α : Type} {o : Option α} {v : α} (h : o = some v) : Ev (fun _ => o) v := ⟨0, fun _ _ => h⟩
theorem Ev.to {α : Type} {f : Nat → Option α} {v w : α} (h : Ev f v) (e : v = w) : Ev f w := e ▸ h
theorem Ev.of {α : Type} {f g : Nat → Option α} {v : α} (h : Ev f v) (e : ∀ k, g k = f k) : Ev g v := by
  obtain ⟨n, h⟩ := h
  exact ⟨n, fun k hk => (e k).trans (h k hk)⟩
theorem Ev.bind {α β : Type} {f : Nat → Option α} {g : Nat → α → Option β} {a : α} {b : β} (h : Ev f a) (h2 : Ev (fun k => g k a) b) : Ev (fun k => (f k).bind (g k)) b := by
  obtain ⟨n, h⟩ := h
  obtain ⟨m, h2⟩ := h2
  refine ⟨max n m, fun k hk => ?_⟩
  show (f k).bind (g k) = _
  rw [h k (by omega)]
  exact h2 k (by omega)
/-- a value that hangs on no fuel -/
theorem Ev.val {α β : Type} {o : Option α} {g : Nat → α → Option β} {a : α} {b : β} (h : o = some a) (h2 : Ev (fun k => g k a) b) : Ev (fun k => o.bind (g k)) b := by
  subst h
  exact h2
theorem Ev.joinL {S α β : Type} {f : Nat → Option (α ⊕ β)} {g : Nat → α → Option β} {a : α} {b : β} (h : Ev f (.inl a)) (h2 : Ev (fun k => g k a) b) : Ev (fun k => (f k).bind (joined (g k))) b :=
  Ev.bind (g := fun k => joined (g k)) h h2
theorem Ev.joinR {α β : Type} {f : Nat → Option (α ⊕ β)} {g : Nat → α → Option β} {b : β} (h : Ev f (.inr b)) : Ev (fun k => (f k).bind (joined (g k))) b :=
  Ev.bind (g := fun k => joined (g k)) h (.now b)
/-- a join: how it came, and what follows -/
theorem Ev.join {α β : Type} {f : Nat → Option (α ⊕ β)} {g : Nat → α → Option β} {s : α ⊕ β} {b : β} (h : Ev f s) (h1 : ∀ a, s = .inl a → Ev (fun k => g k a) b) (h2 : ∀ r, s = .inr r → r = b) : Ev (fun k => (f k).bind (joined (g k))) b := by
  cases s with
  | inl a => exact Ev.bind (g := fun k => joined (g k)) h (h1 a rfl)
  | inr r => exact Ev.bind (g := fun k => joined (g k)) h (.now' (h2 r rfl))
theorem Ev.cnd {α : Type} {c : Bool} {f g : Nat → Option α} {v : α} (h1 : c = true → Ev f v) (h2 : c = false → Ev g v) : Ev (fun k => cond c (f k) (g k)) v := by
  cases c with
  | true => exact h1 rfl
  | false => exact h2 rfl
theorem Ev.yes {α : Type} {c : Bool} {f g : Nat → Option α} {v : α} (hc : c = true) (h : Ev f v) : Ev (fun k => cond c (f k) (g k)) v := by rw [hc]; exact h
theorem Ev.no {α : Type} {c : Bool} {f g : Nat → Option α} {v : α} (hc : c = false) (h : Ev g v) : Ev (fun k => cond c (f k) (g k)) v := by rw [hc]; exact h
theorem Ev.map {α β : Type} {f : Nat → Option α} {g : α → β} {a : α} (h : Ev f a) : Ev (fun k => (f k).map g) (g a) := by
  obtain ⟨n, h⟩ := h
  exact ⟨n, fun k hk => by show (f k).map g = _; rw [h k hk]; rfl⟩

theorem Lp.ev {S R : Type} {body : Nat → S → Option (S ⊕ R)} {s : S} {r : R} (h : Lp body s r) : Ev (fun k => loopN (body k) k s) r := by
  obtain ⟨n, m, h⟩ := h
  exact ⟨max n m, fun k hk => h k (by omega) k (by omega)⟩
theorem Lp.done {S R : Type} {body : Nat → S → Option (S ⊕ R)} {s : S} {r : R} (h : Ev (fun k => body k s) (.inr r)) : Lp body s r := by
  obtain ⟨n, h⟩ := h
  refine ⟨n, 1, fun k hk j hj => ?_⟩
  obtain ⟨j, rfl⟩ : ∃ i, j = i + 1 := ⟨j - 1, by omega⟩
  show (body k s).bind _ = _
  rw [show body k s = _ from h k hk]
  rfl
theorem Lp.step {S R : Type} {body : Nat → S → Option (S ⊕ R)} {s s' : S} {r : R} (h : Ev (fun k => body k s) (.inl s')) (h2 : Lp body s' r) : Lp body s r := by
  obtain ⟨n, h⟩ := h
  obtain ⟨n2, m, h2⟩ := h2
  refine ⟨max n n2, m + 1, fun k hk j hj => ?_⟩
  obtain ⟨j, rfl⟩ : ∃ i, j = i + 1 := ⟨j - 1, by omega⟩
  show (body k s).bind _ = _
  rw [show body k s = _ from h k (by omega)]
  exact h2 k (by omega) j (by omega)

/-- a walk over a list, that may end early -/
def walk {α β R : Type} (f : β → α → β ⊕ R) (fin : β → R) : List α → β → R
  | [], b => fin b
  | x :: l, b => match f b x with | .inl b' => walk f fin l b' | .inr r => r
theorem walk_cons {α β R : Type} {f : β → α → β ⊕ R} {fin : β → R} {x : α} {l : List α} {b : β} : walk f fin (x :: l) b = match f b x with | .inl b' => walk f fin l b' | .inr r => r := rfl

/-- a loop over a list by its index: 'st b i' is the loop's state -/
theorem Lp.walk {α β S R : Type} {body : Nat → S → Option (S ⊕ R)} (l : List α) (st : β → Int → S) (f : β → α → β ⊕ R) (fin : β → R) (Inv : Nat → β → Prop)
    (hs : ∀ i x b, l[i]? = some x → Inv i b → Ev (fun k => body k (st b i)) (match f b x with | .inl b' => .inl (st b' ((i : Int) + 1)) | .inr r => .inr r) ∧ ∀ b', f b x = .inl b' → Inv (i + 1) b')
    (hd : ∀ b, Inv l.length b → Ev (fun k => body k (st b l.length)) (.inr (fin b))) {b : β} (h0 : Inv 0 b) : Lp body (st b 0) (walk f fin l b) := by
  have key : ∀ (suf pre : List α) (b : β), l = pre ++ suf → Inv pre.length b → Lp body (st b (pre.length : Int)) (Gp.walk f fin suf b) := by
    intro suf
    induction suf with
    | nil =>
      intro pre b h hi
      rw [List.append_nil] at h
      subst h
      exact .done (hd b hi)
    | cons x suf ih =>
      intro pre b h hi
      have hx : l[pre.length]? = some x := by rw [h]; simp
      obtain ⟨h1, h2⟩ := hs pre.length x b hx hi
      rw [walk_cons]
      cases hf : f b x with
      | inr r => rw [hf] at h1; exact .done h1
      | inl b' =>
        rw [hf] at h1
        refine .step h1 ?_
        have := ih (pre ++ [x]) b' (by rw [h]; simp) (by simpa using h2 b' hf)
        simpa using this
  exact key l [] b rfl h0
/-- .. that always goes to its end -/
theorem Lp.fold {α β S R : Type} {body : Nat → S → Option (S ⊕ R)} (l : List α) (st : β → Int → S) (f : β → α → β) (fin : β → R) (Inv : Nat → β → Prop)
    (hs : ∀ i x b, l[i]? = some x → Inv i b → Ev (fun k => body k (st b i)) (.inl (st (f b x) ((i : Int) + 1))) ∧ Inv (i + 1) (f b x))
    (hd : ∀ b, Inv l.length b → Ev (fun k => body k (st b l.length)) (.inr (fin b))) {b : β} (h0 : Inv 0 b) : Lp body (st b 0) (fin (l.foldl f b)) := by
  have := Lp.walk (body := body) l st (fun b x => .inl (f b x)) fin Inv (fun i x b hx hi => ⟨(hs i x b hx hi).1, fun b' hb => by cases hb; exact (hs i x b hx hi).2⟩) hd h0
  have e : ∀ (l : List α) (b : β), Gp.walk (fun b x => (.inl (f b x) : β ⊕ R)) fin l b = fin (l.foldl f b) := by
    intro l
    induction l with
    | nil => intro b; rfl
    | cons x l ih => intro b; rw [walk_cons, List.foldl_cons]; exact ih _
  rwa [e] at this
/-- a loop that counts from 0 to n -/
theorem Lp.count {β S R : Type} {body : Nat → S → Option (S ⊕ R)} (n : Nat) (st : β → Int → S) (f : β → Nat → β) (fin : β → R) (Inv : Nat → β → Prop)
    (hs : ∀ i b, i < n → Inv i b → Ev (fun k => body k (st b i)) (.inl (st (f b i) ((i : Int) + 1))) ∧ Inv (i + 1) (f b i))
    (hd : ∀ b, Inv n b → Ev (fun k => body k (st b n)) (.inr (fin b))) {b : β} (h0 : Inv 0 b) : Lp body (st b 0) (fin ((List.range n).foldl f b)) := by
  refine Lp.fold (List.range n) st f fin Inv (fun i x b hx hi => ?_) (fun b hb => ?_) h0
  · obtain ⟨h1, h2⟩ := List.getElem?_eq_some_iff.1 hx
    rw [List.getElem_range] at h2
    subst h2
    exact hs i b (by simpa using h1) hi
  · rw [List.length_range] at hb ⊢
    exact hd b hb

-- numbers
theorem w64_id {x : Int} (h0 : -9223372036854775808 ≤ x) (h1 : x ≤ 9223372036854775807) : w64 x = x := by
  show IntKind.wrap .i64 x = x
  have e : (2 : Int) ^ (64 - 1) = 9223372036854775808 := by decide
  have e2 : (2 : Int) ^ 64 = 18446744073709551616 := by decide
  simp only [IntKind.wrap, IntKind.signed, IntKind.bits, Bool.true_and, decide_eq_true_eq, e, e2]
  split <;> omega
theorem w64_nat {n : Nat} (h : n ≤ 9223372036854775807) : w64 (n : Int) = n := w64_id (by omega) (by omega)
theorem w64_succ {n : Nat} (h : n < 9223372036854775807) : w64 ((n : Int) + 1) = ((n + 1 : Nat) : Int) := by rw [w64_id (by omega) (by omega)]; omega
theorem rd_nat {α : Type} (l : List α) (i : Nat) : rd l (i : Int) = l[i]? := by
  unfold rd
  rw [if_pos (by omega)]
  rfl
theorem rd_some' {α : Type} {l : List α} {i : Nat} {x : α} (h : l[i]? = some x) : rd l (i : Int) = some x := by rw [rd_nat, h]
theorem rd_at {α : Type} {l : List α} {z : Int} {i : Nat} {x : α} (hz : z = i) (h : l[i]? = some x) : rd l z = some x := by rw [hz, rd_nat, h]
theorem room_ok {n b : Nat} (h : n * b ≤ 140737488355328) : room n b = true := Nat.ble_eq_true_of_le h
theorem get_lt {α : Type} {l : List α} {i : Nat} {x : α} (h : l[i]? = some x) : i < l.length := (List.getElem?_eq_some_iff.1 h).1
theorem get_mem {α : Type} {l : List α} {i : Nat} {x : α} (h : l[i]? = some x) : x ∈ l := List.mem_of_getElem? h
theorem slc_ok {α : Type} {l : List α} {a b : Nat} (h1 : a ≤ b) (h2 : b ≤ l.length) : slc l (a : Int) (b : Int) = some ((l.take b).drop a) := by
  unfold slc
  rw [if_pos ⟨by omega, by omega, by omega⟩]
  simp
theorem slc_tail {α : Type} {l : List α} {a : Nat} (h1 : a ≤ l.length) : slc l (a : Int) (l.length : Int) = some (l.drop a) := by
  rw [slc_ok h1 (Nat.le_refl _), List.take_length]
theorem streq_iff {a b : ByteArray} : streq a b = true ↔ a = b := ⟨streq_eq, fun h => by rw [h]; exact streq_refl b⟩
theorem lit_wf {k : Int} (h : (Lit.int .i64 k).wf = true) : -9223372036854775808 ≤ k ∧ k ≤ 9223372036854775807 := by
  simp [Lit.wf, IntKind.min, IntKind.max, IntKind.signed, IntKind.bits] at h
  omega

-- bits
theorem wrap64_nat {n : Nat} (h : n < 9223372036854775808) : IntKind.wrap .i64 (n : Int) = n := w64_nat (by omega)
theorem bv_nat (a : Nat) : BitVec.ofInt 64 (a : Int) = BitVec.ofNat 64 a := BitVec.ofInt_natCast 64 a
theorem shrI_nat {a j : Nat} (hj : j ≤ 64) : shrI .i64 (a : Int) (j : Int) = ((a / 2 ^ j : Nat) : Int) := by
  unfold shrI
  simp only [IntKind.bits, Int.toNat_natCast]
  rw [Nat.min_eq_left hj, show ((2 : Int) ^ j) = ((2 ^ j : Nat) : Int) by simp, Int.fdiv_eq_ediv_of_nonneg _ (Int.natCast_nonneg _)]
  simp

-- maps
theorem foldl_snoc {α β : Type} (g : α → β) : ∀ (l : List α) (o : List β), l.foldl (fun o x => o ++ [g x]) o = o ++ l.map g
  | [], o => by simp
  | x :: l, o => by rw [List.foldl_cons, foldl_snoc g l]; simp
end Go.Proofs.YtcppmlgnceldmaaGreatDoor.Gp

/- More fuel, no other answer. -/
set_option linter.unusedVariables false
noncomputable section
namespace Go.Proofs.YtcppmlgnceldmaaGreatDoor.Gp
open Go

def Mono {α : Type} (f : Nat → Option α) : Prop := ∀ k j v, k ≤ j → f k = some v → f j = some v
theorem Mono.ev {α : Type} {f : Nat → Option α} (h : Mono f) {n : Nat} {v : α} (e : f n = some v) : Ev f v := ⟨n, fun k hk => h n k v hk e⟩
theorem Mono.const {α : Type} (o : Option α) : Mono (fun _ => o) := fun _ _ _ _ h => h
theorem Mono.bind {α β : Type} {f : Nat → Option α} {g : Nat → α → Option β} (h : Mono f) (h2 : ∀ a, Mono (fun k => g k a)) : Mono (fun k => (f k).bind (g k)) := by
  intro k j v hk he
  obtain ⟨a, ha, hb⟩ := Option.bind_eq_some_iff.1 he
  exact Option.bind_eq_some_iff.2 ⟨a, h k j a hk ha, h2 a k j v hk hb⟩
theorem Mono.cond {α : Type} {c : Bool} {f g : Nat → Option α} (h : Mono f) (h2 : Mono g) : Mono (fun k => cond c (f k) (g k)) := by
  cases c
  · exact h2
  · exact h
theorem Mono.joined {α β : Type} {f : Nat → Option (α ⊕ β)} {g : Nat → α → Option β} (h : Mono f) (h2 : ∀ a, Mono (fun k => g k a)) : Mono (fun k => (f k).bind (joined (g k))) :=
  Mono.bind (g := fun k => Gp.joined (g k)) h (fun a => by
    cases a with
    | inl a => exact h2 a
    | inr b => exact Mono.const _)
theorem Mono.loop {S R : Type} {body : Nat → S → Option (S ⊕ R)} {s : S} (h : ∀ s, Mono (fun k => body k s)) : Mono (fun k => loopN (body k) k s) := by
  have key : ∀ (n : Nat) (k j m : Nat) (s : S) (v : R), k ≤ j → n ≤ m → loopN (body k) n s = some v → loopN (body j) m s = some v := by
    intro n
    induction n with
    | zero => intro k j m s v _ _ he; cases he
    | succ n ih =>
      intro k j m s v hk hm he
      obtain ⟨m, rfl⟩ : ∃ i, m = i + 1 := ⟨m - 1, by omega⟩
      obtain ⟨a, ha, hb⟩ := Option.bind_eq_some_iff.1 (show (body k s).bind _ = some v from he)
      refine Option.bind_eq_some_iff.2 ⟨a, h s k j a hk ha, ?_⟩
      cases a with
      | inl s' => exact ih k j m s' v hk (by omega) hb
      | inr r => exact hb
  intro k j v hk he
  exact key k k j j s v hk hk he
theorem Mono.agree {α : Type} {f g : Nat → Option α} (h : Mono f) (h2 : Mono g) : Mono (fun k => agree (f k) (g k)) := by
  intro k j v hk he
  obtain ⟨a, b⟩ := agree_some he
  show Gp.agree (f j) (g j) = some v
  rw [h k j v hk a, h2 k j v hk b]
  exact agree_self _
theorem Mono.orNil {α : Type} {n : Nat} {f g : Nat → Option α} (h : Mono f) (h2 : Mono g) : Mono (fun k => orNil n (f k) (g k)) := by
  intro k j v hk he
  obtain ⟨a, b⟩ := orNil_some he
  have h3 := h2 k j v hk a
  show Gp.orNil n (f j) (g j) = some v
  rw [orNil_same (fun e => by rw [h3, h k j v hk (b e)])]
  exact h3
theorem Mono.prod {α β γ : Type} {f : Nat → α × β → Option γ} (h : ∀ a b, Mono (fun k => f k (a, b))) : ∀ x, Mono (fun k => f k x) := fun x => by
  obtain ⟨a, b⟩ := x
  exact h a b
end Go.Proofs.YtcppmlgnceldmaaGreatDoor.Gp

/- What is left of a Go function answers, and its answer has a property. No program in sight. -/
set_option linter.unusedVariables false
noncomputable section
namespace Go.Proofs.YtcppmlgnceldmaaGreatDoor.Gp
open Go

def Tot {α : Type} (f : Nat → Option α) (P : α → Prop) : Prop := ∃ v, Ev f v ∧ P v
theorem Tot.ret {α : Type} {P : α → Prop} {v : α} (h : P v) : Tot (fun _ => some v) P := ⟨v, .now _, h⟩
theorem Tot.of {α : Type} {P : α → Prop} {f : Nat → Option α} {v : α} (h : Ev f v) (hp : P v) : Tot f P := ⟨v, h, hp⟩
theorem Tot.mono {α : Type} {P Q : α → Prop} {f : Nat → Option α} (h : Tot f P) (hp : ∀ v, P v → Q v) : Tot f Q := by
  obtain ⟨v, h1, h2⟩ := h
  exact ⟨v, h1, hp v h2⟩
theorem Tot.bind {α β : Type} {P : α → Prop} {Q : β → Prop} {f : Nat → Option α} {g : Nat → α → Option β} (h : Tot f P) (h2 : ∀ a, P a → Tot (fun k => g k a) Q) : Tot (fun k => (f k).bind (g k)) Q := by
  obtain ⟨a, h, ha⟩ := h
  obtain ⟨b, h2, hb⟩ := h2 a ha
  exact ⟨b, h.bind h2, hb⟩
theorem Tot.val {α β : Type} {Q : β → Prop} {o : Option α} {g : Nat → α → Option β} {a : α} (h : o = some a) (h2 : Tot (fun k => g k a) Q) : Tot (fun k => o.bind (g k)) Q := by
  subst h
  exact h2
theorem Tot.ask {β : Type} {Q : β → Prop} {c : Prop} [Decidable c] {g : Nat → Unit → Option β} (hc : c) (h2 : Tot (fun k => g k ()) Q) : Tot (fun k => (if c then some () else none).bind (g k)) Q := Tot.val (if_pos hc) h2
theorem Tot.cnd {α : Type} {P : α → Prop} {c : Bool} {f g : Nat → Option α} (h1 : c = true → Tot f P) (h2 : c = false → Tot g P) : Tot (fun k => cond c (f k) (g k)) P := by
  cases c with
  | true => exact h1 rfl
  | false => exact h2 rfl
theorem Tot.join {α β : Type} {P : α ⊕ β → Prop} {Q : β → Prop} {f : Nat → Option (α ⊕ β)} {g : Nat → α → Option β} (h : Tot f P) (h1 : ∀ a, P (.inl a) → Tot (fun k => g k a) Q) (h2 : ∀ b, P (.inr b) → Q b) : Tot (fun k => (f k).bind (joined (g k))) Q := by
  obtain ⟨v, h, hv⟩ := h
  cases v with
  | inl a =>
    obtain ⟨b, h3, hb⟩ := h1 a hv
    exact ⟨b, Ev.joinL (S := Unit) h h3, hb⟩
  | inr b => exact ⟨b, h.joinR, h2 b hv⟩
theorem Tot.read {α β : Type} {Q : β → Prop} {l : List α} {i : Int} {g : Nat → α → Option β} (h : 0 ≤ i ∧ i < (l.length : Int)) (h2 : ∀ a, l[i.toNat]? = some a → Tot (fun k => g k a) Q) : Tot (fun k => (rd l i).bind (g k)) Q := by
  have hlt : i.toNat < l.length := by omega
  have := List.getElem?_eq_getElem hlt
  exact Tot.val (rd_at (i := i.toNat) (by omega) this) (h2 _ this)
theorem Tot.ev {α : Type} {P : α → Prop} {f : Nat → Option α} (h : Tot f P) : ∃ v, Ev f v ∧ P v := h
/-- a loop over a list -/
theorem Tot.walk {α β S R : Type} {body : Nat → S → Option (S ⊕ R)} (l : List α) (st : β → Int → S) (Inv : β → Prop) (Q : R → Prop)
    (hs : ∀ (i : Nat) x b, l[i]? = some x → Inv b → Tot (fun k => body k (st b (i : Int))) (fun y => match y with | .inl s => ∃ b', s = st b' ((i : Int) + 1) ∧ Inv b' | .inr r => Q r))
    (hd : ∀ b, Inv b → Tot (fun k => body k (st b l.length)) (fun y => match y with | .inl s => False | .inr r => Q r)) {b : β} (h0 : Inv b) : Tot (fun k => loopN (body k) k (st b 0)) Q := by
  have key : ∀ (suf pre : List α) (b : β), l = pre ++ suf → Inv b → ∃ r, Lp body (st b (pre.length : Int)) r ∧ Q r := by
    intro suf
    induction suf with
    | nil =>
      intro pre b h hi
      rw [List.append_nil] at h
      subst h
      obtain ⟨y, h1, h2⟩ := hd b hi
      cases y with
      | inl s => exact h2.elim
      | inr r => exact ⟨r, .done h1, h2⟩
    | cons x suf ih =>
      intro pre b h hi
      have hx : l[pre.length]? = some x := by rw [h]; simp
      obtain ⟨y, h1, h2⟩ := hs pre.length x b hx hi
      cases y with
      | inr r => exact ⟨r, .done h1, h2⟩
      | inl s =>
        obtain ⟨b', rfl, hb'⟩ := h2
        obtain ⟨r, h3, h4⟩ := ih (pre ++ [x]) b' (by rw [h]; simp) hb'
        refine ⟨r, .step h1 ?_, h4⟩
        rw [List.length_append] at h3
        exact h3
  obtain ⟨r, h1, h2⟩ := key l [] b rfl h0
  exact ⟨r, h1.ev, h2⟩

/-- .. with what was seen so far -/
theorem Tot.walkI {α β S R : Type} {body : Nat → S → Option (S ⊕ R)} (l : List α) (st : β → Int → S) (Inv : Nat → β → Prop) (Q : R → Prop)
    (hs : ∀ (i : Nat) x b, l[i]? = some x → Inv i b → Tot (fun k => body k (st b (i : Int))) (fun y => match y with | .inl s => ∃ b', s = st b' ((i : Int) + 1) ∧ Inv (i + 1) b' | .inr r => Q r))
    (hd : ∀ b, Inv l.length b → Tot (fun k => body k (st b l.length)) (fun y => match y with | .inl s => False | .inr r => Q r)) {b : β} (h0 : Inv 0 b) : Tot (fun k => loopN (body k) k (st b 0)) Q := by
  have key : ∀ (suf pre : List α) (b : β), l = pre ++ suf → Inv pre.length b → ∃ r, Lp body (st b (pre.length : Int)) r ∧ Q r := by
    intro suf
    induction suf with
    | nil =>
      intro pre b h hi
      rw [List.append_nil] at h
      subst h
      obtain ⟨y, h1, h2⟩ := hd b hi
      cases y with
      | inl s => exact h2.elim
      | inr r => exact ⟨r, .done h1, h2⟩
    | cons x suf ih =>
      intro pre b h hi
      have hx : l[pre.length]? = some x := by rw [h]; simp
      obtain ⟨y, h1, h2⟩ := hs pre.length x b hx hi
      cases y with
      | inr r => exact ⟨r, .done h1, h2⟩
      | inl s =>
        obtain ⟨b', rfl, hb'⟩ := h2
        obtain ⟨r, h3, h4⟩ := ih (pre ++ [x]) b' (by rw [h]; simp) (by rw [List.length_append]; exact hb')
        refine ⟨r, .step h1 ?_, h4⟩
        rw [List.length_append] at h3
        exact h3
  obtain ⟨r, h1, h2⟩ := key l [] b rfl h0
  exact ⟨r, h1.ev, h2⟩

/-- all rows of numbers have nine -/
class Nin (α : Type) where
  p : α → Prop
instance : Nin Unit := ⟨fun _ => True⟩
instance : Nin Int := ⟨fun _ => True⟩
instance : Nin Bool := ⟨fun _ => True⟩
instance : Nin (List Int) := ⟨fun l => l.length = 9⟩
instance {α β : Type} [Nin α] [Nin β] : Nin (α × β) := ⟨fun x => Nin.p x.1 ∧ Nin.p x.2⟩
instance {α β : Type} [Nin α] [Nin β] : Nin (α ⊕ β) := ⟨fun x => match x with | .inl a => Nin.p a | .inr b => Nin.p b⟩
theorem Tot.prod {α β γ : Type} [Nin α] [Nin β] {Q : γ → Prop} {f : Nat → α × β → Option γ} (h : ∀ a, Nin.p a → ∀ b, Nin.p b → Tot (fun k => f k (a, b)) Q) : ∀ x : α × β, Nin.p x → Tot (fun k => f k x) Q := fun x hx => h x.1 hx.1 x.2 hx.2
/-- it answers -/
theorem Tot.bindT {α β : Type} {Q : β → Prop} {f : Nat → Option α} {g : Nat → α → Option β} (h : Tot f (fun _ => True)) (h2 : ∀ a, Tot (fun k => g k a) Q) : Tot (fun k => (f k).bind (g k)) Q := Tot.bind h (fun a _ => h2 a)
theorem Tot.any {α : Type} {P : α → Prop} {f : Nat → Option α} (h : Tot f P) : Tot f (fun _ => True) := h.mono fun _ _ => trivial
theorem Tot.prodT {α β γ : Type} {Q : γ → Prop} {f : Nat → α × β → Option γ} (h : ∀ a b, Tot (fun k => f k (a, b)) Q) : ∀ x : α × β, Tot (fun k => f k x) Q := fun x => h x.1 x.2
theorem Tot.joinT {α β : Type} {f : Nat → Option (α ⊕ β)} {g : Nat → α → Option β} (h : Tot f (fun _ => True)) (h1 : ∀ a, Tot (fun k => g k a) (fun _ => True)) : Tot (fun k => (f k).bind (Gp.joined (g k))) (fun _ => True) :=
  Tot.join (P := fun _ => True) h (fun a _ => h1 a) (fun _ _ => trivial)
end Go.Proofs.YtcppmlgnceldmaaGreatDoor.Gp

/- What processors may do: the check. No program in sight. -/
set_option linter.unusedVariables false
set_option maxRecDepth 100000
noncomputable section
namespace Go.Proofs.YtcppmlgnceldmaaGreatDoor.Di
open Go Go.Proofs.YtcppmlgnceldmaaGreatDoor.Gp

abbrev Stp4 := Int × Int × Int × Int
abbrev Cyc := Int × Int × Int × List Stp4
abbrev Ins := Int × ByteArray × Int × List Cyc
abbrev Cpu := ByteArray × List Ins × List Cyc × List Cyc × List Cyc
theorem mm_bounds (a b x : Int) (h : a ≤ b) : a ≤ mxI a (mnI x b) ∧ mxI a (mnI x b) ≤ b := by
  unfold mxI mnI
  split <;> split <;> omega
theorem ibits_low (n : Int) {j : Nat} (hj : j ≤ 62) : ibits .and .i64 n ((2 ^ j - 1 : Nat) : Int) = n % ((2 ^ j : Nat) : Int) := by
  have hp : 2 ^ j ≤ 2 ^ 62 := Nat.pow_le_pow_right (by decide) hj
  have hpos : 0 < 2 ^ j := Nat.pow_pos (by decide)
  have e62 : (2 : Nat) ^ 62 = 4611686018427387904 := by decide
  have e64 : (2 : Nat) ^ 64 = 18446744073709551616 := by decide
  show IntKind.wrap .i64 (((BitVec.ofInt 64 n &&& BitVec.ofInt 64 ((2 ^ j - 1 : Nat) : Int)).toNat : Nat) : Int) = _
  rw [bv_nat, BitVec.toNat_and, BitVec.toNat_ofNat, Nat.mod_eq_of_lt (by omega), BitVec.toNat_ofInt, Nat.and_two_pow_sub_one_eq_mod]
  have hlt : (n % (2 ^ 64 : Nat)).toNat % 2 ^ j < 2 ^ j := Nat.mod_lt _ hpos
  rw [wrap64_nat (by omega), Int.natCast_emod, Int.toNat_of_nonneg (Int.emod_nonneg _ (by rw [e64]; decide))]
  exact Int.emod_emod_of_dvd n (Int.natCast_dvd_natCast.2 (Nat.pow_dvd_pow 2 (by omega)))
theorem low8_ev (n : Int) : Ev (fun k => Low48 k n 8) (n % 256, ()) := by
  unfold Low48
  refine .val (a := (8, ())) rfl (.val (a := shlI .i64 1 8) rfl (.now' ?_))
  have := ibits_low n (j := 8) (by decide)
  exact congrArg (fun x => (x, ())) this
theorem low16_ev (n : Int) : Ev (fun k => Low48 k n 16) (n % 65536, ()) := by
  unfold Low48
  refine .val (a := (16, ())) rfl (.val (a := shlI .i64 1 16) rfl (.now' ?_))
  have := ibits_low n (j := 16) (by decide)
  exact congrArg (fun x => (x, ())) this
def Wcyc (l : List Cyc) : Prop := l.length * 48 ≤ 140737488351232 ∧ ∀ y ∈ l, y.2.2.2.length * 32 ≤ 140737488351232
/-- no row is too long -/
structure Wc (c : Cpu) : Prop where
  len : c.2.1.length * 56 ≤ 140737488351232
  ins : ∀ x ∈ c.2.1, Wcyc x.2.2.2
  res : Wcyc c.2.2.1
  irq : Wcyc c.2.2.2.1
  nmi : Wcyc c.2.2.2.2
theorem clone_ev (s : List Cyc) (h : s.length * 48 ≤ 140737488351232) : Ev (fun k => Clone104 k s) ((), s) := by
  unfold Clone104
  have e : (if room (0 + List.length s) 48 then some () else none : Option Unit) = some () := if_pos (room_ok (by omega))
  refine Ev.const ?_
  rw [orNil_same (fun h0 => ?_)]
  · show Option.bind _ _ = _
    rw [e]; rfl
  · have := List.length_eq_zero_iff.1 h0
    subst this
    rw [e]; rfl
theorem clones_ev (s : List Stp4) (h : s.length * 32 ≤ 140737488351232) : Ev (fun k => Clone105 k s) ((), s) := by
  unfold Clone105
  have e : (if room (0 + List.length s) 32 then some () else none : Option Unit) = some () := if_pos (room_ok (by omega))
  refine Ev.const ?_
  rw [orNil_same (fun h0 => ?_)]
  · show Option.bind _ _ = _
    rw [e]; rfl
  · have := List.length_eq_zero_iff.1 h0
    subst this
    rw [e]; rfl
theorem copies_ev (l : List Cyc) (h : Wcyc l) : Ev (fun k => copies87 k l) (l, ()) := by
  have hl := h.1
  unfold copies87
  refine .bind (clone_ev l hl) (.bind (a := ((), l)) (Lp.ev ?_) (.now _))
  have := Lp.count (body := fun k => copies87.l0 k ((), l)) l.length (fun (_ : Unit) i => ((), i, l)) (fun _ _ => ()) (fun _ => ((), l)) (fun _ _ => True) (fun i b hi _ => ⟨?_, trivial⟩) (fun b _ => ?_) (b := ()) trivial
  · exact this
  · obtain ⟨x, hx⟩ : ∃ x, l[i]? = some x := ⟨l[i], List.getElem?_eq_getElem hi⟩
    have hr := rd_some' hx
    simp only [copies87.l0]
    refine .yes (decide_eq_true (by omega)) (.val hr (.val hr (.bind (clones_ev x.2.2.2 (h.2 x (get_mem hx))) (.val hr (.val hr (.now' ?_))))))
    rw [w64_id (by omega) (by omega), Int.toNat_natCast]
    have : l.set i x = l := by
      obtain ⟨h1, h2⟩ := List.getElem?_eq_some_iff.1 hx
      rw [← h2]
      exact List.set_getElem_self h1
    show (Sum.inl ((), (i : Int) + 1, l.set i x) : _ ⊕ _) = _
    rw [this]
  · simp only [copies87.l0]
    exact .no (decide_eq_false (by show ¬ (l.length : Int) < (l.length : Int); omega)) (.now _)
theorem copy_ev (x : Ins) (h : Wcyc x.2.2.2) : Ev (fun k => Copy62 k x) (x, ()) := by
  unfold Copy62
  exact .bind (copies_ev _ h) (.now _)
def findI (c : Cpu) (op : Int) : Option Ins := c.2.1.find? (fun x => x.1 == op)
theorem idx_lp {c : Cpu} (hc : Wc c) (op : Int) : ∀ (suf pre : List Ins), c.2.1 = pre ++ suf → ∃ r, Lp (fun k => IndexFunc56'.l0 k c.2.1) ((op, ()), (pre.length : Int)) r ∧
    (match suf.find? (fun x => x.1 == op) with | none => r = .inl () | some x => ∃ j : Nat, r = .inr ((j : Int), ()) ∧ c.2.1[j]? = some x) := by
  have hl := hc.len
  intro suf
  induction suf with
  | nil =>
    intro pre h
    rw [List.append_nil] at h
    refine ⟨.inl (), .done ?_, rfl⟩
    simp only [IndexFunc56'.l0]
    exact .no (decide_eq_false (by rw [h]; omega)) (.now _)
  | cons x suf ih =>
    intro pre h
    have hx : c.2.1[pre.length]? = some x := by rw [h]; simp
    have hlt := get_lt hx
    cases hp : (x.1 == op) with
    | true =>
      refine ⟨.inr ((pre.length : Int), ()), .done ?_, ?_⟩
      · simp only [IndexFunc56'.l0]
        refine .yes (decide_eq_true (by omega)) (.val (rd_some' hx) (.bind (a := (true, ())) (.const ?_) (.yes rfl (.now _))))
        show some ((x.1 == op), ()) = _
        rw [hp]
      · rw [List.find?_cons_of_pos (by exact hp)]
        exact ⟨pre.length, rfl, hx⟩
    | false =>
      obtain ⟨r, h1, h2⟩ := ih (pre ++ [x]) (by rw [h]; simp)
      refine ⟨r, .step ?_ h1, ?_⟩
      · simp only [IndexFunc56'.l0]
        refine .yes (decide_eq_true (by omega)) (.val (rd_some' hx) (.bind (a := (false, ())) (.const ?_) (.no rfl (.now' ?_))))
        · show some ((x.1 == op), ()) = _
          rw [hp]
        · rw [w64_succ (by omega)]; simp
      · rw [List.find?_cons_of_neg (by rw [hp]; decide)]
        exact h2
def none4 : Ins := (0, ByteArray.mk #[], 0, [])
def findR (c : Cpu) (op : Int) : Ins × Bool × Unit := match findI c op with | some x => (x, true, ()) | none => (none4, false, ())
theorem find_ev {c : Cpu} (hc : Wc c) (op : Int) : Ev (fun k => Find39 k c op) (findR c op, ()) := by
  unfold Find39 IndexFunc56'
  obtain ⟨r, h1, h2⟩ := idx_lp hc op c.2.1 [] rfl
  unfold findR findI
  cases hf : c.2.1.find? (fun x => x.1 == op) with
  | none =>
    rw [hf] at h2
    subst h2
    exact .bind (.joinL (S := Unit) h1.ev (.now _)) (.yes rfl (.now _))
  | some x =>
    rw [hf] at h2
    obtain ⟨j, rfl, hj⟩ := h2
    exact .bind (.joinR h1.ev) (.no (decide_eq_false (by show ¬ (j : Int) < 0; omega)) (.val (rd_some' hj) (.bind (copy_ev x (hc.ins x (get_mem hj))) (.now _))))
/-- names are no longer than texts can be -/
def Wn (c : Cpu) : Prop := c.1.size ≤ 140737488351232 ∧ ∀ x ∈ c.2.1, x.2.1.size ≤ 140737488351232
theorem bytes_len (s : ByteArray) : (bytesOf s).length = s.size := by unfold bytesOf; rw [List.length_map, Array.length_toList]; rfl
theorem name_t (s : ByteArray) (h : s.size ≤ 140737488351232) : Tot (fun k => Name25 k s) (fun _ => True) := by
  unfold Name25
  have hl := bytes_len s
  have at0 : ∀ {β : Type} {Q : β → Prop} {g : Nat → Int → Option β}, ¬ streq s (ByteArray.mk #[]) = true → (∀ a, Tot (fun k => g k a) Q) → Tot (fun k => (rd (bytesOf s) 0).bind (g k)) Q := by
    intro β Q g hne hg
    refine .read ⟨by decide, ?_⟩ fun a _ => hg a
    rw [hl]
    by_cases h0 : s.size = 0
    · exfalso
      refine hne (streq_iff.2 ?_)
      cases s with
      | mk d =>
        have hd : d.size = 0 := h0
        have := Array.size_eq_zero_iff.1 hd
        rw [this]
    · omega
  refine .bind (P := fun b => b = false → ¬ streq s (ByteArray.mk #[]) = true) (.cnd (fun _ => .ret (fun h => by cases h)) (fun h => ?_)) fun t16 h16 => .bind (P := fun _ => True) (.cnd (fun _ => .ret trivial) (fun h => at0 (h16 h) fun a => .ret trivial)) fun t21 _ => .cnd (fun _ => .ret trivial) fun _ => .joinT ?_ (fun _ => .ret trivial)
  · have hne : ¬ streq s (ByteArray.mk #[]) = true := by
      intro h2
      rw [h2] at h
      cases h
    exact at0 hne fun a => .ret (fun _ => hne)
  · refine Tot.walk (body := fun k => Name25.l0 k s) (bytesOf s) (fun (_ : Unit) i => ((), i, bytesOf s)) (fun _ => True) _ (fun i x b hx _ => ?_) (fun b _ => ?_) (b := ()) trivial
    · have hi := get_lt hx
      simp only [Name25.l0]
      refine .cnd (fun _ => .val (rd_some' hx) (.val (rd_some' hx) (.cnd (fun _ => .ret trivial) (fun _ => .ret ⟨(), ?_, trivial⟩)))) (fun h => absurd (of_decide_eq_false h) (by omega))
      rw [w64_id (by omega) (by omega)]
    · simp only [Name25.l0]
      exact .cnd (fun h => absurd (of_decide_eq_true h) (by omega)) (fun _ => .ret trivial)
theorem size_t (m : Int) : Tot (fun k => Size26 k m) (fun _ => True) := by unfold Size26; repeat' (first | with_reducible exact Tot.ret trivial | with_reducible refine Tot.cnd ?_ ?_ | with_reducible refine Tot.bindT ?_ ?_ | with_reducible refine Tot.prodT ?_ | intro _ | (dsimp only))
theorem operand_t {l : List Cyc} (h : Wcyc l) : Tot (fun k => operand30 k l) (fun _ => True) := by
  have hl := h.1
  unfold operand30
  refine .bindT ?_ fun _ => .ret trivial
  refine Tot.walk (body := fun k => operand30.l0 k l) l (fun (n : Int) i => (n, i)) (fun _ => True) _ (fun i x b hx _ => ?_) (fun b _ => ?_) (b := 0) trivial
  · have hi := get_lt hx
    simp only [operand30.l0]
    refine .cnd (fun _ => .val (rd_some' hx) (.bindT (.cnd (fun _ => .ret trivial) (fun _ => .ret trivial)) fun n => .ret ⟨n, ?_, trivial⟩)) (fun h => absurd (of_decide_eq_false h) (by omega))
    rw [w64_id (by omega) (by omega)]
  · simp only [operand30.l0]
    exact .cnd (fun h => absurd (of_decide_eq_true h) (by omega)) (fun _ => .ret trivial)
theorem there_t {s : List Ins} (h : s.length * 56 ≤ 140737488351232) (f : Ins) : Tot (fun k => ContainsFunc27 k s (f, ())) (fun _ => True) := by
  unfold ContainsFunc27 IndexFunc56''
  refine .bindT (.joinT ?_ (fun _ => .ret trivial)) fun _ => .ret trivial
  refine Tot.walk (body := fun k => IndexFunc56''.l0 k s) s (fun (_ : Unit) i => ((f, ()), i)) (fun _ => True) _ (fun i x b hx _ => ?_) (fun b _ => ?_) (b := ()) trivial
  · have hi := get_lt hx
    simp only [IndexFunc56''.l0]
    refine .cnd (fun _ => .val (rd_some' hx) (.bindT (by unfold Check128; exact .ret trivial) fun v => .cnd (fun _ => .ret trivial) (fun _ => .ret ⟨(), ?_, trivial⟩))) (fun h => absurd (of_decide_eq_false h) (by omega))
    rw [w64_id (by omega) (by omega)]
  · simp only [IndexFunc56''.l0]
    exact .cnd (fun h => absurd (of_decide_eq_true h) (by omega)) (fun _ => .ret trivial)
theorem size_in {m : Int} (h : 0 ≤ m ∧ m ≤ 8) : ∃ n : Nat, n ≤ 2 ∧ Ev (fun k => Size26 k m) ((n : Int), ()) ∧ rd ([0, 1, 1, 1, 2, 2, 2, 1, 1] : List Int) m = some (n : Int) := by
  have : m = 0 ∨ m = 1 ∨ m = 2 ∨ m = 3 ∨ m = 4 ∨ m = 5 ∨ m = 6 ∨ m = 7 ∨ m = 8 := by omega
  rcases this with rfl | rfl | rfl | rfl | rfl | rfl | rfl | rfl | rfl
  · exact ⟨0, by decide, .const rfl, rfl⟩
  · exact ⟨1, by decide, .const rfl, rfl⟩
  · exact ⟨1, by decide, .const rfl, rfl⟩
  · exact ⟨1, by decide, .const rfl, rfl⟩
  · exact ⟨2, by decide, .const rfl, rfl⟩
  · exact ⟨2, by decide, .const rfl, rfl⟩
  · exact ⟨2, by decide, .const rfl, rfl⟩
  · exact ⟨1, by decide, .const rfl, rfl⟩
  · exact ⟨1, by decide, .const rfl, rfl⟩
theorem size_out {m : Int} (h : ¬ (0 ≤ m ∧ m ≤ 8)) : Ev (fun k => Size26 k m) (-1, ()) := by
  have f : ∀ c : Int, 0 ≤ c ∧ c ≤ 8 → (m == c) = false := fun c hc => by simpa using (by omega : ¬ m = c)
  have h0 := f 0 (by decide)
  have h1 := f 1 (by decide)
  have h2 := f 2 (by decide)
  have h3 := f 3 (by decide)
  have h4 := f 4 (by decide)
  have h5 := f 5 (by decide)
  have h6 := f 6 (by decide)
  have h7 := f 7 (by decide)
  have h8 := f 8 (by decide)
  unfold Size26
  simp only [h0, h1, h2, h3, h4, h5, h6, h7, h8]
  exact .const rfl
theorem size_tt (m : Int) : Tot (fun k => Size26 k m) (fun v => 0 ≤ v.1 → 0 ≤ m ∧ m ≤ 8) := by
  by_cases h : 0 ≤ m ∧ m ≤ 8
  · obtain ⟨n, _, e, _⟩ := size_in h
    exact .of e fun _ => h
  · exact .of (size_out h) fun h => absurd h (by decide)
-- what a right step may be
def wd (i : Int) : Bool := cond (i == 7) true (i == 8)
def inR (i : Int) : Bool := cond (decide (i ≥ 0)) (decide (i < 9)) false
theorem inR_iff {i : Int} (h : inR i = true) : 0 ≤ i ∧ i < 9 := by
  unfold inR at h
  by_cases h0 : i ≥ 0
  · rw [decide_eq_true h0] at h
    exact ⟨h0, of_decide_eq_true h⟩
  · rw [decide_eq_false h0] at h; cases h
theorem wide_ev (i : Int) : Ev (fun k => Wide81 k i) (wd i, ()) := .now _
theorem reg_ev (i : Int) : Ev (fun k => register80 k i) (inR i, ()) := .now _
theorem Ev.two {α : Type} {c : Bool} {f g : Nat → Option α} {x y : α} (h1 : Ev f x) (h2 : Ev g y) : Ev (fun k => cond c (f k) (g k)) (cond c x y) := by
  cases c with
  | true => exact h1
  | false => exact h2
def fitsV (i need : Int) : Bool := cond (need == 0) (i == 0) (cond (need == 119) (cond (inR i) (wd i) false) (cond (need == 98) (cond (inR i) (!wd i) false) (inR i)))
theorem fits_ev (i need : Int) : Ev (fun k => fits95 k i need) (fitsV i need, ()) := by
  unfold fits95 fitsV
  cases need == 0 with
  | true => exact .now _
  | false =>
    cases need == 119 with
    | true =>
      refine .bind (a := cond (inR i) (wd i) false) ?_ (.now _)
      refine Ev.two ?_ (.now _)
      exact .bind (wide_ev i) (.now _)
    | false =>
      cases need == 98 with
      | true =>
        refine .bind (a := cond (inR i) (!wd i) false) ?_ (.now _)
        refine Ev.two ?_ (.now _)
        exact .bind (wide_ev i) (.now _)
      | false =>
        exact .now _
abbrev UsV := Int × Int × Bool × Unit
def mostV (d to : Int) (n : Bool) : Int := cond (!n) 0 (cond (cond (cond (d == 2) (inR to) false) (wd to) false) 65535 255)
structure Core (d to fr n : Int) (U : UsV) : Prop where
  hto : fitsV to U.1 = true
  hfr : fitsV fr U.2.1 = true
  same : U.1 = 115 → wd to = wd fr
  low : 0 ≤ n
  most : n ≤ mostV d to U.2.2.1
theorem core_t (d to fr n : Int) (U : UsV) (hu : Ev (fun k => uses94 k d) (U, ())) (h24 : d ≠ 24) : Tot (fun k => step82 k (d, to, fr, n)) (fun v => v.1 = 0 → Core d to fr n U) := by
  unfold step82
  refine .cnd (fun _ => .ret (by intro h; cases h)) fun _ => .cnd (fun h => absurd (by simpa using h) h24) fun _ => .bind (P := fun v => v = (U, ())) (.of hu rfl) fun u hu' => ?_
  subst hu'
  refine .bind (P := fun v => v = cond (d == 2) (inR to) false) (.of (Ev.two (.bind (reg_ev to) (.now _)) (.now _)) rfl) fun v hv => ?_
  subst hv
  refine .bind (P := fun v => v = cond (cond (d == 2) (inR to) false) (wd to) false) (.of (Ev.two (.bind (wide_ev to) (.now _)) (.now _)) rfl) fun v hv => ?_
  subst hv
  refine .bind (P := fun v => v = ((d, to, fr, n), cond (cond (cond (d == 2) (inR to) false) (wd to) false) 65535 255)) (.of ?_ rfl) fun v hv => ?_
  · cases cond (cond (d == 2) (inR to) false) (wd to) false with
    | true => exact .now _
    | false => exact .now _
  subst hv
  refine .bind (P := fun v => v = ((d, to, fr, n), mostV d to U.2.2.1)) (.of ?_ rfl) fun v hv => ?_
  · unfold mostV
    cases U.2.2.1 with
    | true => exact .now _
    | false => exact .now _
  subst hv
  refine .bind (P := fun v => v = (fitsV to U.1, ())) (.of (fits_ev to U.1) rfl) fun v hv => ?_
  subst hv
  refine .bind (P := fun v => v = cond (!fitsV to U.1) true (!fitsV fr U.2.1)) (.of (Ev.two (.now _) (.bind (fits_ev fr U.2.1) (.now _))) rfl) fun v hv => ?_
  subst hv
  refine .bind (P := fun v => v = cond (cond (!fitsV to U.1) true (!fitsV fr U.2.1)) true (cond (U.1 == 115) (xor true (wd to == wd fr)) false)) (.of (Ev.two (.now _) (.bind (Ev.two (.bind (wide_ev to) (.bind (wide_ev fr) (.now _))) (.now _)) (.now _))) rfl) fun v hv => ?_
  subst hv
  refine .cnd (fun _ => .ret (by intro h; cases h)) fun hc => .ret fun _ => ?_
  have orF : ∀ {a b : Bool}, cond a true b = false → a = false ∧ b = false := fun {a b} h => by cases a <;> cases b <;> first | exact ⟨rfl, rfl⟩ | cases h
  obtain ⟨hc, h1⟩ := orF hc
  obtain ⟨hc, h2⟩ := orF hc
  obtain ⟨hc, h3⟩ := orF hc
  obtain ⟨h4, h5⟩ := orF hc
  refine ⟨by simpa using h4, by simpa using h5, fun h => ?_, by have h : ¬ n < 0 := of_decide_eq_false h2; omega, by have h : ¬ n > mostV d to U.2.2.1 := of_decide_eq_false h1; omega⟩
  rw [h] at h3
  cases hx : wd to <;> cases hy : wd fr <;> rw [hx, hy] at h3 <;> first | rfl | cases h3
/-- a right step -/
structure OkS (s : Stp4) : Prop where
  d : 0 ≤ s.1 ∧ s.1 < 25
  to : s.1 ≠ 24 → 0 ≤ s.2.1 ∧ s.2.1 < 9
  fr : s.1 ≠ 24 → 0 ≤ s.2.2.1 ∧ s.2.2.1 < 9
  move : s.1 = 1 → wd s.2.1 = wd s.2.2.1
  lit : s.1 = 2 → 0 ≤ s.2.2.2 ∧ s.2.2.2 ≤ cond (wd s.2.1) 65535 255
  wb : s.1 = 18 ∨ s.1 = 19 ∨ s.1 = 22 ∨ s.1 = 23 → wd s.2.1 = true ∧ wd s.2.2.1 = false
  bw : s.1 = 20 ∨ s.1 = 21 → wd s.2.1 = false ∧ wd s.2.2.1 = true
theorem fitsV_in {i need : Int} (h : fitsV i need = true) : 0 ≤ i ∧ i < 9 := by
  unfold fitsV at h
  cases h0 : need == 0 with
  | true =>
    rw [h0] at h
    have : i = 0 := by simpa using h
    omega
  | false =>
    rw [h0] at h
    refine inR_iff ?_
    cases h1 : need == 119 <;> cases h2 : need == 98 <;> cases hr : inR i <;> rw [h1, h2, hr] at h <;> first | rfl | (simp at h; done)
theorem step_ok (s : Stp4) : Tot (fun k => step82 k s) (fun v => v.1 = 0 → OkS s) := by
  obtain ⟨d, to, fr, n⟩ := s
  by_cases hd : ¬ (0 ≤ d ∧ d < 25)
  · unfold step82
    refine .cnd (fun _ => .ret (by intro h; cases h)) fun h => ?_
    exfalso
    refine hd ?_
    by_cases h0 : d < 0
    · have : cond (decide (d < 0)) true (decide (d ≥ 25)) = true := by rw [decide_eq_true h0]; rfl
      rw [show ((d, to, fr, n) : Stp4).1 = d from rfl, this] at h; cases h
    · rw [show ((d, to, fr, n) : Stp4).1 = d from rfl, decide_eq_false h0] at h
      have h : ¬ d ≥ 25 := of_decide_eq_false h
      omega
  have hd : 0 ≤ d ∧ d < 25 := by omega
  by_cases h24 : d = 24
  · subst h24
    unfold step82
    refine .cnd (fun _ => .ret (by intro h; cases h)) fun _ => .cnd (fun _ => .cnd (fun _ => .ret (by intro h; cases h)) fun _ => .ret fun _ => ?_) (fun h => by cases h)
    exact ⟨hd, fun h => absurd rfl h, fun h => absurd rfl h, fun h => absurd h (by show ¬ (24 : Int) = 1; decide), fun h => absurd h (by show ¬ (24 : Int) = 2; decide), fun h => absurd h (by show ¬ ((24 : Int) = 18 ∨ (24 : Int) = 19 ∨ (24 : Int) = 22 ∨ (24 : Int) = 23); decide), fun h => absurd h (by show ¬ ((24 : Int) = 20 ∨ (24 : Int) = 21); decide)⟩
  have go : ∀ (U : UsV), Ev (fun k => uses94 k d) (U, ()) → (d = 1 → U.1 = 115) → (d = 2 → U.2.2.1 = true) → (d = 18 ∨ d = 19 ∨ d = 22 ∨ d = 23 → U.1 = 119 ∧ U.2.1 = 98) → (d = 20 ∨ d = 21 → U.1 = 98 ∧ U.2.1 = 119) → Tot (fun k => step82 k (d, to, fr, n)) (fun v => v.1 = 0 → OkS (d, to, fr, n)) := fun U hu g1 g2 g3 g4 => by
    refine (core_t d to fr n U hu h24).mono fun v hv h0 => ?_
    have c := hv h0
    have wF : ∀ {i : Int}, fitsV i 119 = true → wd i = true := fun {i} h => by
      have h : cond (inR i) (wd i) false = true := h
      cases hr : inR i <;> rw [hr] at h
      · cases h
      · exact h
    have bF : ∀ {i : Int}, fitsV i 98 = true → wd i = false := fun {i} h => by
      have h : cond (inR i) (!wd i) false = true := h
      cases hr : inR i <;> rw [hr] at h
      · cases h
      · simpa using h
    refine ⟨hd, fun _ => fitsV_in c.hto, fun _ => fitsV_in c.hfr, fun h => c.same (g1 h), fun h => ⟨c.low, ?_⟩, fun h => ?_, fun h => ?_⟩
    · have h : d = 2 := h
      have hm := c.most
      rw [g2 h, h] at hm
      have hm : n ≤ cond (cond (inR to) (wd to) false) 65535 255 := hm
      show n ≤ cond (wd to) 65535 255
      cases hr : inR to <;> cases hw : wd to <;> rw [hr, hw] at hm <;> simp at hm ⊢ <;> omega
    · obtain ⟨e1, e2⟩ := g3 h
      have h1 := c.hto
      have h2 := c.hfr
      rw [e1] at h1
      rw [e2] at h2
      exact ⟨wF h1, bF h2⟩
    · obtain ⟨e1, e2⟩ := g4 h
      have h1 := c.hto
      have h2 := c.hfr
      rw [e1] at h1
      rw [e2] at h2
      exact ⟨bF h1, wF h2⟩
  have hh : d = 0 ∨ d = 1 ∨ d = 2 ∨ d = 3 ∨ d = 4 ∨ d = 5 ∨ d = 6 ∨ d = 7 ∨ d = 8 ∨ d = 9 ∨ d = 10 ∨ d = 11 ∨ d = 12 ∨ d = 13 ∨ d = 14 ∨ d = 15 ∨ d = 16 ∨ d = 17 ∨ d = 18 ∨ d = 19 ∨ d = 20 ∨ d = 21 ∨ d = 22 ∨ d = 23 := by omega
  rcases hh with rfl | rfl | rfl | rfl | rfl | rfl | rfl | rfl | rfl | rfl | rfl | rfl | rfl | rfl | rfl | rfl | rfl | rfl | rfl | rfl | rfl | rfl | rfl | rfl
  · exact go (0, 0, false, ()) (.const rfl) (by decide) (by decide) (by decide) (by decide)
  · exact go (115, 115, false, ()) (.const rfl) (by decide) (by decide) (by decide) (by decide)
  · exact go (97, 0, true, ()) (.const rfl) (by decide) (by decide) (by decide) (by decide)
  · exact go (98, 0, false, ()) (.const rfl) (by decide) (by decide) (by decide) (by decide)
  · exact go (98, 98, false, ()) (.const rfl) (by decide) (by decide) (by decide) (by decide)
  · exact go (98, 98, false, ()) (.const rfl) (by decide) (by decide) (by decide) (by decide)
  · exact go (98, 98, false, ()) (.const rfl) (by decide) (by decide) (by decide) (by decide)
  · exact go (98, 98, false, ()) (.const rfl) (by decide) (by decide) (by decide) (by decide)
  · exact go (98, 98, false, ()) (.const rfl) (by decide) (by decide) (by decide) (by decide)
  · exact go (98, 98, false, ()) (.const rfl) (by decide) (by decide) (by decide) (by decide)
  · exact go (97, 0, false, ()) (.const rfl) (by decide) (by decide) (by decide) (by decide)
  · exact go (97, 0, false, ()) (.const rfl) (by decide) (by decide) (by decide) (by decide)
  · exact go (98, 0, false, ()) (.const rfl) (by decide) (by decide) (by decide) (by decide)
  · exact go (98, 0, false, ()) (.const rfl) (by decide) (by decide) (by decide) (by decide)
  · exact go (98, 0, false, ()) (.const rfl) (by decide) (by decide) (by decide) (by decide)
  · exact go (98, 0, false, ()) (.const rfl) (by decide) (by decide) (by decide) (by decide)
  · exact go (0, 0, true, ()) (.const rfl) (by decide) (by decide) (by decide) (by decide)
  · exact go (0, 0, true, ()) (.const rfl) (by decide) (by decide) (by decide) (by decide)
  · exact go (119, 98, false, ()) (.const rfl) (by decide) (by decide) (by decide) (by decide)
  · exact go (119, 98, false, ()) (.const rfl) (by decide) (by decide) (by decide) (by decide)
  · exact go (98, 119, false, ()) (.const rfl) (by decide) (by decide) (by decide) (by decide)
  · exact go (98, 119, false, ()) (.const rfl) (by decide) (by decide) (by decide) (by decide)
  · exact go (119, 98, false, ()) (.const rfl) (by decide) (by decide) (by decide) (by decide)
  · exact go (119, 98, false, ()) (.const rfl) (by decide) (by decide) (by decide) (by decide)
end Go.Proofs.YtcppmlgnceldmaaGreatDoor.Di

/- What right processors are. No program in sight. -/
set_option linter.unusedVariables false
set_option maxRecDepth 100000
noncomputable section
namespace Go.Proofs.YtcppmlgnceldmaaGreatDoor.Di
open Go Go.Proofs.YtcppmlgnceldmaaGreatDoor.Gp

structure OkC (c : Cyc) : Prop where
  bus : 0 ≤ c.1 ∧ c.1 ≤ 2
  at' : 0 ≤ c.2.1 ∧ c.2.1 < 12
  reg : 0 ≤ c.2.2.1 ∧ c.2.2.1 < 9
  low : wd c.2.2.1 = false
  len : c.2.2.2.length ≤ 6
  steps : ∀ s ∈ c.2.2.2, OkS s
structure OkL (l : List Cyc) : Prop where
  len : l.length ≤ 8
  ok : ∀ c ∈ l, OkC c
theorem cycle_ok (c : Cyc) (hw : c.2.2.2.length * 32 ≤ 140737488351232) : Tot (fun k => cycle57 k c) (fun v => v.1 = 0 → OkC c) := by
  have orF : ∀ {a b : Bool}, cond a true b = false → a = false ∧ b = false := fun {a b} h => by cases a <;> cases b <;> first | exact ⟨rfl, rfl⟩ | cases h
  unfold cycle57
  refine .cnd (fun _ => .ret (by intro h; cases h)) fun hb => .cnd (fun _ => .ret (by intro h; cases h)) fun _ => ?_
  obtain ⟨b1, b2⟩ := orF hb
  have b1 := of_decide_eq_false b1
  have b2 := of_decide_eq_false b2
  refine .bind (P := fun v => v = cond (cond (decide (c.2.1 < 0)) true (decide (c.2.1 ≥ 12))) true (!inR c.2.2.1)) (.of (Ev.two (.now _) (.bind (reg_ev c.2.2.1) (.now _))) rfl) fun v hv => ?_
  subst hv
  refine .bind (P := fun v => v = cond (cond (cond (decide (c.2.1 < 0)) true (decide (c.2.1 ≥ 12))) true (!inR c.2.2.1)) true (wd c.2.2.1)) (.of (Ev.two (.now _) (.bind (wide_ev c.2.2.1) (.now _))) rfl) fun v hv => ?_
  subst hv
  refine .cnd (fun _ => .ret (by intro h; cases h)) fun h1 => .cnd (fun _ => .ret (by intro h; cases h)) fun h2 => ?_
  obtain ⟨h1, h3⟩ := orF h1
  obtain ⟨h1, h4⟩ := orF h1
  obtain ⟨h5, h6⟩ := orF h1
  have h5 := of_decide_eq_false h5
  have h6 := of_decide_eq_false h6
  have h2 := of_decide_eq_false h2
  have hr := inR_iff (i := c.2.2.1) (by simpa using h4)
  refine .join (P := fun y => match y with | .inl _ => ∀ s ∈ c.2.2.2, OkS s | .inr v => v.1 ≠ 0) ?_ (fun _ hs => .ret fun _ => ⟨by omega, by omega, hr, h3, by omega, hs⟩) (fun _ h h0 => absurd h0 h)
  refine Tot.walkI (body := fun k => cycle57.l0 k c) c.2.2.2 (fun (_ : Unit) i => i) (fun i _ => ∀ (j : Nat) s, j < i → c.2.2.2[j]? = some s → OkS s) _ (fun i x b hx hI => ?_) (fun b hI => ?_) (b := ()) (fun j x hj => absurd hj (Nat.not_lt_zero _))
  · have hi := get_lt hx
    simp only [cycle57.l0]
    refine .cnd (fun _ => .val (rd_some' hx) (.bind (step_ok x) fun v hv => .cnd (fun h => .ret (by simpa using h)) (fun h => .ret ⟨(), ?_, fun j s hj hs => ?_⟩))) (fun h => absurd (of_decide_eq_false h) (by omega))
    · rw [w64_id (by omega) (by omega)]
    · by_cases hji : j = i
      · subst hji
        rw [hx] at hs
        cases hs
        exact hv (by simpa using h)
      · exact hI j s (by omega) hs
  · simp only [cycle57.l0]
    refine .cnd (fun h => absurd (of_decide_eq_true h) (by omega)) (fun _ => .ret fun s hs => ?_)
    obtain ⟨j, hj⟩ := List.mem_iff_getElem?.1 hs
    exact hI j s (get_lt hj) hj
theorem cycs_ok {l : List Cyc} (h : Wcyc l) : Tot (fun k => cycles29 k l) (fun v => v.1 = 0 → OkL l) := by
  have hl := h.1
  unfold cycles29
  refine .cnd (fun _ => .ret (by intro h; cases h)) fun h8 => .join (P := fun y => match y with | .inl _ => ∀ s ∈ l, OkC s | .inr v => v.1 ≠ 0) ?_ (fun _ hs => .ret fun _ => ⟨by have := of_decide_eq_false h8; omega, hs⟩) (fun _ h h0 => absurd h0 h)
  refine Tot.walkI (body := fun k => cycles29.l0 k l) l (fun (_ : Unit) i => i) (fun i _ => ∀ (j : Nat) s, j < i → l[j]? = some s → OkC s) _ (fun i x b hx hI => ?_) (fun b hI => ?_) (b := ()) (fun j x hj => absurd hj (Nat.not_lt_zero _))
  · have hi := get_lt hx
    simp only [cycles29.l0]
    refine .cnd (fun _ => .val (rd_some' hx) (.bind (cycle_ok x (h.2 x (get_mem hx))) fun v hv => .cnd (fun h => .ret (by simpa using h)) (fun h => .ret ⟨(), ?_, fun j s hj hs => ?_⟩))) (fun h => absurd (of_decide_eq_false h) (by omega))
    · rw [w64_id (by omega) (by omega)]
    · by_cases hji : j = i
      · subst hji
        rw [hx] at hs
        cases hs
        exact hv (by simpa using h)
      · exact hI j s (by omega) hs
  · simp only [cycles29.l0]
    refine .cnd (fun h => absurd (of_decide_eq_true h) (by omega)) (fun _ => .ret fun s hs => ?_)
    obtain ⟨j, hj⟩ := List.mem_iff_getElem?.1 hs
    exact hI j s (get_lt hj) hj
/-- a right instruction -/
structure OkI (x : Ins) : Prop where
  op : 0 ≤ x.1 ∧ x.1 ≤ 255
  mode : 0 ≤ x.2.2.1 ∧ x.2.2.1 ≤ 8
  cyc : OkL x.2.2.2
theorem check_ok {c : Cpu} (hc : Wc c) (hn : Wn c) : Tot (fun k => Check6 k c) (fun v => v.1 = 0 → ∀ x ∈ c.2.1, OkI x) := by
  have hl := hc.len
  have orF : ∀ {a b : Bool}, cond a true b = false → a = false ∧ b = false := fun {a b} h => by cases a <;> cases b <;> first | exact ⟨rfl, rfl⟩ | cases h
  unfold Check6
  refine .bindT (name_t _ hn.1) fun _ => .cnd (fun _ => .ret (fun h => by cases h)) fun _ => .cnd (fun _ => .ret (fun h => by cases h)) fun _ => .join (P := fun y => match y with | .inl y => y = c ∧ ∀ x ∈ c.2.1, OkI x | .inr v => v.1 ≠ 0) ?_ (fun c2 h2 => ?_) (fun _ h h0 => absurd h0 h)
  · refine Tot.walkI (body := fun k => Check6.l0 k c) c.2.1 (fun (_ : Unit) i => (c, i)) (fun i _ => ∀ (j : Nat) x, j < i → c.2.1[j]? = some x → OkI x) _ (fun i x b hx hI => ?_) (fun b hI => ?_) (b := ()) (fun j x hj => absurd hj (Nat.not_lt_zero _))
    · have hi := get_lt hx
      have hm := get_mem hx
      simp only [Check6.l0]
      refine .cnd (fun _ => .val (rd_some' hx) (.cnd (fun _ => .ret (show (1 : Int) ≠ 0 by decide)) fun hop => .bindT (.cnd (fun h => ?_) (fun _ => .ret trivial)) fun _ => .cnd (fun _ => .ret (show (9 : Int) ≠ 0 by decide)) fun _ => .bindT (name_t _ (hn.2 x hm)) fun _ => .cnd (fun _ => .ret (show (15 : Int) ≠ 0 by decide)) fun _ => .bind (size_tt _) fun sz hsz => .cnd (fun _ => .ret (show (8 : Int) ≠ 0 by decide)) fun hneg =>
        .val (a := (c.2.1.take i).drop 0) (slc_ok (a := 0) (Nat.zero_le _) (by omega)) (.bindT (there_t (by rw [List.drop_zero, List.length_take]; omega) x) fun _ => .cnd (fun _ => .ret (show (5 : Int) ≠ 0 by decide)) fun _ => .bind (cycs_ok (hc.ins x hm)) fun cy hcy0 => .cnd (fun hcy => .ret (by simpa using hcy)) fun hcy => .bindT (operand_t (hc.ins x hm)) fun _ => .bindT (size_t _) fun _ => .cnd (fun _ => .ret (show (3 : Int) ≠ 0 by decide)) fun _ => .ret ⟨(), ?_, fun j y hj hy => ?_⟩))) (fun h => absurd (of_decide_eq_false h) (by omega))
      · have h := of_decide_eq_true h
        rw [w64_id (by omega) (by omega)]
        exact .read ⟨by omega, by omega⟩ fun a _ => .ret trivial
      · rw [w64_id (by omega) (by omega)]
      · by_cases hji : j = i
        · subst hji
          rw [hx] at hy
          cases hy
          have hg : ¬ sz.1 < 0 := of_decide_eq_false hneg
          obtain ⟨o1, o2⟩ := orF hop
          have o1 := of_decide_eq_false o1
          have o2 := of_decide_eq_false o2
          exact ⟨⟨by omega, by omega⟩, hsz (by omega), hcy0 (by simpa using hcy)⟩
        · exact hI j y (by omega) hy
    · simp only [Check6.l0]
      refine .cnd (fun h => absurd (of_decide_eq_true h) (by omega)) (fun _ => .ret ⟨rfl, fun x hx => ?_⟩)
      obtain ⟨j, hj⟩ := List.mem_iff_getElem?.1 hx
      exact hI j x (get_lt hj) hj
  · obtain ⟨h2, hmode⟩ := h2
    subst h2
    refine .join (P := fun y => match y with | .inl _ => True | .inr v => v.1 ≠ 0) ?_ (fun _ _ => .ret fun _ => hmode) (fun _ h h0 => absurd h0 h)
    refine Tot.walk (body := fun k => Check6.l1 k c2) [c2.2.2.1, c2.2.2.2.1, c2.2.2.2.2] (fun (_ : Unit) i => ((), i, [c2.2.2.1, c2.2.2.2.1, c2.2.2.2.2])) (fun _ => True) _ (fun i x b hx _ => ?_) (fun b _ => ?_) (b := ()) trivial
    · have hi : i < 3 := get_lt hx
      have hw : Wcyc x := by
        have hm := get_mem hx
        simp only [List.mem_cons, List.not_mem_nil, or_false] at hm
        rcases hm with rfl | rfl | rfl
        · exact hc.res
        · exact hc.irq
        · exact hc.nmi
      simp only [Check6.l1]
      refine .cnd (fun _ => .val (rd_some' hx) (.val (rd_some' hx) (.bindT (cycs_ok hw).any fun v => .cnd (fun hv => .ret (by simpa using hv)) (fun _ => .ret ⟨(), ?_, trivial⟩)))) (fun h => absurd (of_decide_eq_false h) (by show ¬ ¬ (i : Int) < ((3 : Nat) : Int); omega))
      rw [w64_id (by omega) (by omega)]
    · simp only [Check6.l1]
      exact .cnd (fun h => absurd (of_decide_eq_true h) (by show ¬ ((3 : Nat) : Int) < ((3 : Nat) : Int); omega)) (fun _ => .ret trivial)
end Go.Proofs.YtcppmlgnceldmaaGreatDoor.Di
