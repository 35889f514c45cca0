/- Merged texts of one claim: a Go law, its functions without memory, and the plain law. The law returns true for every input; conditions: as the row says. -/
import Derived.Test.YtcppmlgnceldmaaCGt0
import Derived.Test.YtcppmlgnceldmaaCGt1
import Derived.Test.YtcppmlgnceldmaaCGt2
/- Go functions as plain Lean functions, and their contracts. -/
set_option linter.unusedVariables false
set_option maxRecDepth 100000
noncomputable section
namespace Go.Proofs.Ytcppmlgnceldmaa.Ge
open Go Go.Proofs.Ytcppmlgnceldmaa.Gp
def add97 (k : Nat) (_ : Unit) (name : ByteArray) (mode : Int) (cycles : (List (Int × (Int × (Int × (List (Int × (Int × (Int × Int))))))))) (o0 : Unit) : Option (Unit × (Unit × (List (Int × (ByteArray × (Int × (List (Int × (Int × (Int × (List (Int × (Int × (Int × Int)))))))))))))) :=
  let t24 : (List (Int × (ByteArray × (Int × (List (Int × (Int × (Int × (List (Int × (Int × (Int × Int)))))))))))) := ([((w64 (0 + 1)), name, mode, cycles)] : List (Int × (ByteArray × (Int × (List (Int × (Int × (Int × (List (Int × (Int × (Int × Int))))))))))))
  (if room (List.length t24) 56 then some () else none).bind fun _ =>
  some ((), (), t24)
def add97.A : Ann := { conds := [], blocks := [], loops := [], keeps := [], orders := [(0, [(0, .weak), (1, .strong), (2, .strong), (3, .strong), (4, .strong), (5, .strong), (6, .strong), (7, .strong), (8, .strong), (9, .strong), (10, .strong), (11, .strong), (12, .strong), (13, .strong), (14, .strong), (15, .eff true), (16, .eff false), (17, .strong), (18, .strong), (19, .eff false)])] }
def add97.S : Sig := { f := 97, params := [.ptr 0 [], .str, .int .i64, .sl (.st (.pair (.int .i64) (.pair (.int .i64) (.pair (.int .i64) (.sl (.st (.pair (.int .i64) (.pair (.int .i64) (.pair (.int .i64) (.int .i64))))))))))], objs := [.var (.st .nil)], res := .tup .unit, outs := [.var (.st (.ms 1)), .row (.st (.pair (.int .i64) (.pair .str (.pair (.int .i64) (.sl (.st (.pair (.int .i64) (.pair (.int .i64) (.pair (.int .i64) (.sl (.st (.pair (.int .i64) (.pair (.int .i64) (.pair (.int .i64) (.int .i64)))))))))))))))], fix := [], run := fun k ds os => add97 k ds.1 ds.2.1 ds.2.2.1 ds.2.2.2 os }
def add97.G : List Sig := []
theorem add97.eq (k : Nat) : ∀ ds os, add97.S.run k ds os = runF ⟨types, add97.G, add97.A, k, 0, []⟩ Try.f97 (codeOf Try.f97) add97.S.params add97.S.objs add97.S.res add97.S.outs ds os := by
  intro ds os; kernel_rfl
theorem add97.dr : DrOk Try.prog add97.A (codeOf Try.f97) := ⟨by kernel_rfl, by kernel_rfl⟩
theorem add97.ok (k : Nat) : SoundAt Try.prog k add97.S :=
  runF_sound (X := ⟨types, add97.G, add97.A, k, 0, []⟩) types_ok (fun s hs => absurd hs List.not_mem_nil) (fn := Try.f97) (c := codeOf Try.f97) rfl (by kernel_rfl) rfl rfl add97.dr (add97.eq k)

def add97' (k : Nat) (_ : Unit) (name : ByteArray) (mode : Int) (cycles : (List (Int × (Int × (Int × (List (Int × (Int × (Int × Int))))))))) (o0 : Unit) (o1 : (List (Int × (ByteArray × (Int × (List (Int × (Int × (Int × (List (Int × (Int × (Int × Int))))))))))))) : Option (Unit × (Unit × (List (Int × (ByteArray × (Int × (List (Int × (Int × (Int × (List (Int × (Int × (Int × Int)))))))))))))) :=
  let t18 : Int := (w64 ((List.length o1 : Int) + 1))
  (if room (List.length o1 + List.length [(t18, name, mode, cycles)]) 56 then some () else none).bind fun _ =>
  some ((), (), (o1 ++ [(t18, name, mode, cycles)]))
def add97'.A : Ann := { conds := [], blocks := [], loops := [], keeps := [], orders := [(0, [(0, .weak), (1, .strong), (2, .strong), (3, .strong), (4, .strong), (5, .strong), (6, .strong), (7, .strong), (8, .strong), (9, .strong), (10, .strong), (11, .strong), (12, .strong), (13, .strong), (14, .strong), (15, .eff true), (16, .eff false), (17, .strong), (18, .strong), (19, .eff false)])] }
def add97'.S : Sig := { f := 97, params := [.ptr 0 [], .str, .int .i64, .sl (.st (.pair (.int .i64) (.pair (.int .i64) (.pair (.int .i64) (.sl (.st (.pair (.int .i64) (.pair (.int .i64) (.pair (.int .i64) (.int .i64))))))))))], objs := [.var (.st (.ms 1)), .row (.st (.pair (.int .i64) (.pair .str (.pair (.int .i64) (.sl (.st (.pair (.int .i64) (.pair (.int .i64) (.pair (.int .i64) (.sl (.st (.pair (.int .i64) (.pair (.int .i64) (.pair (.int .i64) (.int .i64)))))))))))))))], res := .tup .unit, outs := [.var (.st (.ms 1)), .row (.st (.pair (.int .i64) (.pair .str (.pair (.int .i64) (.sl (.st (.pair (.int .i64) (.pair (.int .i64) (.pair (.int .i64) (.sl (.st (.pair (.int .i64) (.pair (.int .i64) (.pair (.int .i64) (.int .i64)))))))))))))))], fix := [], run := fun k ds os => add97' k ds.1 ds.2.1 ds.2.2.1 ds.2.2.2 os.1 os.2 }
def add97'.G : List Sig := []
theorem add97'.eq (k : Nat) : ∀ ds os, add97'.S.run k ds os = runF ⟨types, add97'.G, add97'.A, k, 0, []⟩ Try.f97 (codeOf Try.f97) add97'.S.params add97'.S.objs add97'.S.res add97'.S.outs ds os := by
  intro ds os; kernel_rfl
theorem add97'.dr : DrOk Try.prog add97'.A (codeOf Try.f97) := ⟨by kernel_rfl, by kernel_rfl⟩
theorem add97'.ok (k : Nat) : SoundAt Try.prog k add97'.S :=
  runF_sound (X := ⟨types, add97'.G, add97'.A, k, 0, []⟩) types_ok (fun s hs => absurd hs List.not_mem_nil) (fn := Try.f97) (c := codeOf Try.f97) rfl (by kernel_rfl) rfl rfl add97'.dr (add97'.eq k)

def loads93.l0 (k : Nat) (name : ByteArray) (reg : Int) (modes : (List Int)) : (Unit × (Int × (Unit × (List (Int × (ByteArray × (Int × (List (Int × (Int × (Int × (List (Int × (Int × (Int × Int))))))))))))))) → Option ((Unit × (Int × (Unit × (List (Int × (ByteArray × (Int × (List (Int × (Int × (Int × (List (Int × (Int × (Int × Int))))))))))))))) ⊕ (Unit × (List (Int × (ByteArray × (Int × (List (Int × (Int × (Int × (List (Int × (Int × (Int × Int))))))))))))))
  | (_, t12, _, o2) =>
    cond (decide (t12 < (List.length modes : Int)))
      ((rd modes t12).bind fun t14 =>
      (two99 k 1 reg 5).bind fun t21 =>
      (one100 k 3 reg).bind fun t23 =>
      (reads118 k t14 [t21.1, t23.1]).bind fun t25 =>
      (add97' k () name t14 t25.1 () o2).bind fun t26 =>
      some (Sum.inl ((), (w64 (t12 + 1)), (), t26.2.2)))
      (some (Sum.inr ((), o2)))
def loads93 (k : Nat) (_ : Unit) (name : ByteArray) (reg : Int) (modes : (List Int)) (o0 : Unit) : Option (Unit × (Unit × (List (Int × (ByteArray × (Int × (List (Int × (Int × (Int × (List (Int × (Int × (Int × Int)))))))))))))) :=
  Option.bind
    (loopN (loads93.l0 k name reg modes) k ((), 0, (), []) : Option (Unit × (List (Int × (ByteArray × (Int × (List (Int × (Int × (Int × (List (Int × (Int × (Int × Int)))))))))))))) fun ((_, o2_1) : (Unit × (List (Int × (ByteArray × (Int × (List (Int × (Int × (Int × (List (Int × (Int × (Int × Int)))))))))))))) =>
  some ((), (), o2_1)
def loads93.A : Ann := { conds := [], blocks := [(0, ⟨[], [(0, .var (.st (.ms 2))), (2, .row (.st (.pair (.int .i64) (.pair .str (.pair (.int .i64) (.sl (.st (.pair (.int .i64) (.pair (.int .i64) (.pair (.int .i64) (.sl (.st (.pair (.int .i64) (.pair (.int .i64) (.pair (.int .i64) (.int .i64))))))))))))))))], 3, [], 268431872⟩)], loops := [(1, ⟨[(0, .ptr 0 []), (12, .int .i64)], [(0, .var (.st (.ms 2))), (2, .row (.st (.pair (.int .i64) (.pair .str (.pair (.int .i64) (.sl (.st (.pair (.int .i64) (.pair (.int .i64) (.pair (.int .i64) (.sl (.st (.pair (.int .i64) (.pair (.int .i64) (.pair (.int .i64) (.int .i64))))))))))))))))], 3, [(2, .st (.pair (.int .i64) (.pair .str (.pair (.int .i64) (.sl (.st (.pair (.int .i64) (.pair (.int .i64) (.pair (.int .i64) (.sl (.st (.pair (.int .i64) (.pair (.int .i64) (.pair (.int .i64) (.int .i64)))))))))))))))], 268431872⟩)], keeps := [], orders := [] }
def loads93.S : Sig := { f := 93, params := [.ptr 0 [], .str, .int .i64, .sl (.int .i64)], objs := [.var (.st .nil)], res := .tup .unit, outs := [.var (.st (.ms 1)), .row (.st (.pair (.int .i64) (.pair .str (.pair (.int .i64) (.sl (.st (.pair (.int .i64) (.pair (.int .i64) (.pair (.int .i64) (.sl (.st (.pair (.int .i64) (.pair (.int .i64) (.pair (.int .i64) (.int .i64)))))))))))))))], fix := [], run := fun k ds os => loads93 k ds.1 ds.2.1 ds.2.2.1 ds.2.2.2 os }
def loads93.G : List Sig := [add97'.S, one100.S, reads118.S, two99.S]
theorem loads93.eq (k : Nat) : ∀ ds os, loads93.S.run k ds os = runF ⟨types, loads93.G, loads93.A, k, 0, []⟩ Try.f93 (codeOf Try.f93) loads93.S.params loads93.S.objs loads93.S.res loads93.S.outs ds os := by
  intro ds os; kernel_rfl
theorem loads93.dr : DrOk Try.prog loads93.A (codeOf Try.f93) := ⟨by kernel_rfl, by kernel_rfl⟩
theorem loads93.ok (k : Nat) : SoundAt Try.prog k loads93.S :=
  runF_sound (X := ⟨types, loads93.G, loads93.A, k, 0, []⟩) types_ok (mem_all (⟨add97'.ok k, ⟨one100.ok k, ⟨reads118.ok k, ⟨two99.ok k, trivial⟩⟩⟩⟩)) (fn := Try.f93) (c := codeOf Try.f93) rfl (by kernel_rfl) rfl rfl loads93.dr (loads93.eq k)

def loads93'.l0 (k : Nat) (name : ByteArray) (reg : Int) (modes : (List Int)) : (Unit × (Int × (Unit × (List (Int × (ByteArray × (Int × (List (Int × (Int × (Int × (List (Int × (Int × (Int × Int))))))))))))))) → Option ((Unit × (Int × (Unit × (List (Int × (ByteArray × (Int × (List (Int × (Int × (Int × (List (Int × (Int × (Int × Int))))))))))))))) ⊕ (Unit × (List (Int × (ByteArray × (Int × (List (Int × (Int × (Int × (List (Int × (Int × (Int × Int))))))))))))))
  | (_, t12, _, o1_1) =>
    cond (decide (t12 < (List.length modes : Int)))
      ((rd modes t12).bind fun t14 =>
      (two99 k 1 reg 5).bind fun t21 =>
      (one100 k 3 reg).bind fun t23 =>
      (reads118 k t14 [t21.1, t23.1]).bind fun t25 =>
      (add97' k () name t14 t25.1 () o1_1).bind fun t26 =>
      some (Sum.inl ((), (w64 (t12 + 1)), (), t26.2.2)))
      (some (Sum.inr ((), o1_1)))
def loads93' (k : Nat) (_ : Unit) (name : ByteArray) (reg : Int) (modes : (List Int)) (o0 : Unit) (o1 : (List (Int × (ByteArray × (Int × (List (Int × (Int × (Int × (List (Int × (Int × (Int × Int))))))))))))) : Option (Unit × (Unit × (List (Int × (ByteArray × (Int × (List (Int × (Int × (Int × (List (Int × (Int × (Int × Int)))))))))))))) :=
  Option.bind
    (loopN (loads93'.l0 k name reg modes) k ((), 0, (), o1) : Option (Unit × (List (Int × (ByteArray × (Int × (List (Int × (Int × (Int × (List (Int × (Int × (Int × Int)))))))))))))) fun ((_, o1_2) : (Unit × (List (Int × (ByteArray × (Int × (List (Int × (Int × (Int × (List (Int × (Int × (Int × Int)))))))))))))) =>
  some ((), (), o1_2)
def loads93'.A : Ann := { conds := [], blocks := [(0, ⟨[], [(0, .var (.st (.ms 1))), (1, .row (.st (.pair (.int .i64) (.pair .str (.pair (.int .i64) (.sl (.st (.pair (.int .i64) (.pair (.int .i64) (.pair (.int .i64) (.sl (.st (.pair (.int .i64) (.pair (.int .i64) (.pair (.int .i64) (.int .i64))))))))))))))))], 2, [], 268431872⟩)], loops := [(1, ⟨[(0, .ptr 0 []), (12, .int .i64)], [(0, .var (.st (.ms 1))), (1, .row (.st (.pair (.int .i64) (.pair .str (.pair (.int .i64) (.sl (.st (.pair (.int .i64) (.pair (.int .i64) (.pair (.int .i64) (.sl (.st (.pair (.int .i64) (.pair (.int .i64) (.pair (.int .i64) (.int .i64))))))))))))))))], 2, [], 268431872⟩)], keeps := [], orders := [] }
def loads93'.S : Sig := { f := 93, params := [.ptr 0 [], .str, .int .i64, .sl (.int .i64)], objs := [.var (.st (.ms 1)), .row (.st (.pair (.int .i64) (.pair .str (.pair (.int .i64) (.sl (.st (.pair (.int .i64) (.pair (.int .i64) (.pair (.int .i64) (.sl (.st (.pair (.int .i64) (.pair (.int .i64) (.pair (.int .i64) (.int .i64)))))))))))))))], res := .tup .unit, outs := [.var (.st (.ms 1)), .row (.st (.pair (.int .i64) (.pair .str (.pair (.int .i64) (.sl (.st (.pair (.int .i64) (.pair (.int .i64) (.pair (.int .i64) (.sl (.st (.pair (.int .i64) (.pair (.int .i64) (.pair (.int .i64) (.int .i64)))))))))))))))], fix := [], run := fun k ds os => loads93' k ds.1 ds.2.1 ds.2.2.1 ds.2.2.2 os.1 os.2 }
def loads93'.G : List Sig := [add97'.S, one100.S, reads118.S, two99.S]
theorem loads93'.eq (k : Nat) : ∀ ds os, loads93'.S.run k ds os = runF ⟨types, loads93'.G, loads93'.A, k, 0, []⟩ Try.f93 (codeOf Try.f93) loads93'.S.params loads93'.S.objs loads93'.S.res loads93'.S.outs ds os := by
  intro ds os; kernel_rfl
theorem loads93'.dr : DrOk Try.prog loads93'.A (codeOf Try.f93) := ⟨by kernel_rfl, by kernel_rfl⟩
theorem loads93'.ok (k : Nat) : SoundAt Try.prog k loads93'.S :=
  runF_sound (X := ⟨types, loads93'.G, loads93'.A, k, 0, []⟩) types_ok (mem_all (⟨add97'.ok k, ⟨one100.ok k, ⟨reads118.ok k, ⟨two99.ok k, trivial⟩⟩⟩⟩)) (fn := Try.f93) (c := codeOf Try.f93) rfl (by kernel_rfl) rfl rfl loads93'.dr (loads93'.eq k)

def wr101 (k : Nat) (at_ : Int) (reg : Int) (steps : (List (Int × (Int × (Int × Int))))) : Option ((Int × (Int × (Int × (List (Int × (Int × (Int × Int))))))) × Unit) :=
  some ((2, at_, reg, steps), ())
def wr101.A : Ann := { conds := [], blocks := [], loops := [], keeps := [], orders := [] }
def wr101.S : Sig := { f := 101, params := [.int .i64, .int .i64, .sl (.st (.pair (.int .i64) (.pair (.int .i64) (.pair (.int .i64) (.int .i64)))))], objs := [], res := .st (.pair (.int .i64) (.pair (.int .i64) (.pair (.int .i64) (.sl (.st (.pair (.int .i64) (.pair (.int .i64) (.pair (.int .i64) (.int .i64))))))))), outs := [], fix := [], run := fun k ds os => wr101 k ds.1 ds.2.1 ds.2.2 }
def wr101.G : List Sig := []
theorem wr101.eq (k : Nat) : ∀ ds os, wr101.S.run k ds os = runF ⟨types, wr101.G, wr101.A, k, 0, []⟩ Try.f101 (codeOf Try.f101) wr101.S.params wr101.S.objs wr101.S.res wr101.S.outs ds os := by
  intro ds os; kernel_rfl
theorem wr101.dr : DrOk Try.prog wr101.A (codeOf Try.f101) := ⟨by kernel_rfl, by kernel_rfl⟩
theorem wr101.ok (k : Nat) : SoundAt Try.prog k wr101.S :=
  runF_sound (X := ⟨types, wr101.G, wr101.A, k, 0, []⟩) types_ok (fun s hs => absurd hs List.not_mem_nil) (fn := Try.f101) (c := codeOf Try.f101) rfl (by kernel_rfl) rfl rfl wr101.dr (wr101.eq k)
end Go.Proofs.Ytcppmlgnceldmaa.Ge

/- Go functions as plain Lean functions, and their contracts. -/
set_option linter.unusedVariables false
set_option maxRecDepth 100000
noncomputable section
namespace Go.Proofs.Ytcppmlgnceldmaa.Ge
open Go Go.Proofs.Ytcppmlgnceldmaa.Gp
def stores94.l0 (k : Nat) (name : ByteArray) (reg : Int) (modes : (List Int)) : (Unit × (Int × (Unit × (List (Int × (ByteArray × (Int × (List (Int × (Int × (Int × (List (Int × (Int × (Int × Int))))))))))))))) → Option ((Unit × (Int × (Unit × (List (Int × (ByteArray × (Int × (List (Int × (Int × (Int × (List (Int × (Int × (Int × Int))))))))))))))) ⊕ (Unit × (List (Int × (ByteArray × (Int × (List (Int × (Int × (Int × (List (Int × (Int × (Int × Int))))))))))))))
  | (_, t12, _, o1_1) =>
    cond (decide (t12 < (List.length modes : Int)))
      ((rd modes t12).bind fun t14 =>
      (lead119 k t14).bind fun t20 =>
      (wr101 k 2 reg []).bind fun t22 =>
      (if room (List.length t20.2 + List.length [t22.1]) 48 then some () else none).bind fun _ =>
      (add97' k () name t14 (t20.2 ++ [t22.1]) () o1_1).bind fun t25 =>
      some (Sum.inl ((), (w64 (t12 + 1)), (), t25.2.2)))
      (some (Sum.inr ((), o1_1)))
def stores94 (k : Nat) (_ : Unit) (name : ByteArray) (reg : Int) (modes : (List Int)) (o0 : Unit) (o1 : (List (Int × (ByteArray × (Int × (List (Int × (Int × (Int × (List (Int × (Int × (Int × Int))))))))))))) : Option (Unit × (Unit × (List (Int × (ByteArray × (Int × (List (Int × (Int × (Int × (List (Int × (Int × (Int × Int)))))))))))))) :=
  Option.bind
    (loopN (stores94.l0 k name reg modes) k ((), 0, (), o1) : Option (Unit × (List (Int × (ByteArray × (Int × (List (Int × (Int × (Int × (List (Int × (Int × (Int × Int)))))))))))))) fun ((_, o1_2) : (Unit × (List (Int × (ByteArray × (Int × (List (Int × (Int × (Int × (List (Int × (Int × (Int × Int)))))))))))))) =>
  some ((), (), o1_2)
def stores94.A : Ann := { conds := [], blocks := [(0, ⟨[], [(0, .var (.st (.ms 1))), (1, .row (.st (.pair (.int .i64) (.pair .str (.pair (.int .i64) (.sl (.st (.pair (.int .i64) (.pair (.int .i64) (.pair (.int .i64) (.sl (.st (.pair (.int .i64) (.pair (.int .i64) (.pair (.int .i64) (.int .i64))))))))))))))))], 2, [], 134214144⟩)], loops := [(1, ⟨[(0, .ptr 0 []), (12, .int .i64)], [(0, .var (.st (.ms 1))), (1, .row (.st (.pair (.int .i64) (.pair .str (.pair (.int .i64) (.sl (.st (.pair (.int .i64) (.pair (.int .i64) (.pair (.int .i64) (.sl (.st (.pair (.int .i64) (.pair (.int .i64) (.pair (.int .i64) (.int .i64))))))))))))))))], 2, [], 134214144⟩)], keeps := [], orders := [] }
def stores94.S : Sig := { f := 94, params := [.ptr 0 [], .str, .int .i64, .sl (.int .i64)], objs := [.var (.st (.ms 1)), .row (.st (.pair (.int .i64) (.pair .str (.pair (.int .i64) (.sl (.st (.pair (.int .i64) (.pair (.int .i64) (.pair (.int .i64) (.sl (.st (.pair (.int .i64) (.pair (.int .i64) (.pair (.int .i64) (.int .i64)))))))))))))))], res := .tup .unit, outs := [.var (.st (.ms 1)), .row (.st (.pair (.int .i64) (.pair .str (.pair (.int .i64) (.sl (.st (.pair (.int .i64) (.pair (.int .i64) (.pair (.int .i64) (.sl (.st (.pair (.int .i64) (.pair (.int .i64) (.pair (.int .i64) (.int .i64)))))))))))))))], fix := [], run := fun k ds os => stores94 k ds.1 ds.2.1 ds.2.2.1 ds.2.2.2 os.1 os.2 }
def stores94.G : List Sig := [add97'.S, lead119.S, wr101.S]
theorem stores94.eq (k : Nat) : ∀ ds os, stores94.S.run k ds os = runF ⟨types, stores94.G, stores94.A, k, 0, []⟩ Try.f94 (codeOf Try.f94) stores94.S.params stores94.S.objs stores94.S.res stores94.S.outs ds os := by
  intro ds os; kernel_rfl
theorem stores94.dr : DrOk Try.prog stores94.A (codeOf Try.f94) := ⟨by kernel_rfl, by kernel_rfl⟩
theorem stores94.ok (k : Nat) : SoundAt Try.prog k stores94.S :=
  runF_sound (X := ⟨types, stores94.G, stores94.A, k, 0, []⟩) types_ok (mem_all (⟨add97'.ok k, ⟨lead119.ok k, ⟨wr101.ok k, trivial⟩⟩⟩)) (fn := Try.f94) (c := codeOf Try.f94) rfl (by kernel_rfl) rfl rfl stores94.dr (stores94.eq k)

def joins95.l0 (k : Nat) (name : ByteArray) (do_ : Int) (reg : Int) (modes : (List Int)) : (Unit × (Int × (Unit × (List (Int × (ByteArray × (Int × (List (Int × (Int × (Int × (List (Int × (Int × (Int × Int))))))))))))))) → Option ((Unit × (Int × (Unit × (List (Int × (ByteArray × (Int × (List (Int × (Int × (Int × (List (Int × (Int × (Int × Int))))))))))))))) ⊕ (Unit × (List (Int × (ByteArray × (Int × (List (Int × (Int × (Int × (List (Int × (Int × (Int × Int))))))))))))))
  | (_, t14, _, o1_1) =>
    cond (decide (t14 < (List.length modes : Int)))
      ((rd modes t14).bind fun t16 =>
      (two99 k do_ reg 5).bind fun t24 =>
      (reads118 k t16 [t24.1]).bind fun t26 =>
      (add97' k () name t16 t26.1 () o1_1).bind fun t27 =>
      some (Sum.inl ((), (w64 (t14 + 1)), (), t27.2.2)))
      (some (Sum.inr ((), o1_1)))
def joins95 (k : Nat) (_ : Unit) (name : ByteArray) (do_ : Int) (reg : Int) (modes : (List Int)) (o0 : Unit) (o1 : (List (Int × (ByteArray × (Int × (List (Int × (Int × (Int × (List (Int × (Int × (Int × Int))))))))))))) : Option (Unit × (Unit × (List (Int × (ByteArray × (Int × (List (Int × (Int × (Int × (List (Int × (Int × (Int × Int)))))))))))))) :=
  Option.bind
    (loopN (joins95.l0 k name do_ reg modes) k ((), 0, (), o1) : Option (Unit × (List (Int × (ByteArray × (Int × (List (Int × (Int × (Int × (List (Int × (Int × (Int × Int)))))))))))))) fun ((_, o1_2) : (Unit × (List (Int × (ByteArray × (Int × (List (Int × (Int × (Int × (List (Int × (Int × (Int × Int)))))))))))))) =>
  some ((), (), o1_2)
def joins95.A : Ann := { conds := [], blocks := [(0, ⟨[], [(0, .var (.st (.ms 1))), (1, .row (.st (.pair (.int .i64) (.pair .str (.pair (.int .i64) (.sl (.st (.pair (.int .i64) (.pair (.int .i64) (.pair (.int .i64) (.sl (.st (.pair (.int .i64) (.pair (.int .i64) (.pair (.int .i64) (.int .i64))))))))))))))))], 2, [], 536856576⟩)], loops := [(1, ⟨[(0, .ptr 0 []), (14, .int .i64)], [(0, .var (.st (.ms 1))), (1, .row (.st (.pair (.int .i64) (.pair .str (.pair (.int .i64) (.sl (.st (.pair (.int .i64) (.pair (.int .i64) (.pair (.int .i64) (.sl (.st (.pair (.int .i64) (.pair (.int .i64) (.pair (.int .i64) (.int .i64))))))))))))))))], 2, [], 536856576⟩)], keeps := [], orders := [] }
def joins95.S : Sig := { f := 95, params := [.ptr 0 [], .str, .int .i64, .int .i64, .sl (.int .i64)], objs := [.var (.st (.ms 1)), .row (.st (.pair (.int .i64) (.pair .str (.pair (.int .i64) (.sl (.st (.pair (.int .i64) (.pair (.int .i64) (.pair (.int .i64) (.sl (.st (.pair (.int .i64) (.pair (.int .i64) (.pair (.int .i64) (.int .i64)))))))))))))))], res := .tup .unit, outs := [.var (.st (.ms 1)), .row (.st (.pair (.int .i64) (.pair .str (.pair (.int .i64) (.sl (.st (.pair (.int .i64) (.pair (.int .i64) (.pair (.int .i64) (.sl (.st (.pair (.int .i64) (.pair (.int .i64) (.pair (.int .i64) (.int .i64)))))))))))))))], fix := [], run := fun k ds os => joins95 k ds.1 ds.2.1 ds.2.2.1 ds.2.2.2.1 ds.2.2.2.2 os.1 os.2 }
def joins95.G : List Sig := [add97'.S, reads118.S, two99.S]
theorem joins95.eq (k : Nat) : ∀ ds os, joins95.S.run k ds os = runF ⟨types, joins95.G, joins95.A, k, 0, []⟩ Try.f95 (codeOf Try.f95) joins95.S.params joins95.S.objs joins95.S.res joins95.S.outs ds os := by
  intro ds os; kernel_rfl
theorem joins95.dr : DrOk Try.prog joins95.A (codeOf Try.f95) := ⟨by kernel_rfl, by kernel_rfl⟩
theorem joins95.ok (k : Nat) : SoundAt Try.prog k joins95.S :=
  runF_sound (X := ⟨types, joins95.G, joins95.A, k, 0, []⟩) types_ok (mem_all (⟨add97'.ok k, ⟨reads118.ok k, ⟨two99.ok k, trivial⟩⟩⟩)) (fn := Try.f95) (c := codeOf Try.f95) rfl (by kernel_rfl) rfl rfl joins95.dr (joins95.eq k)

def turns96.l0 (k : Nat) (name : ByteArray) (do_ : Int) (modes : (List Int)) : (Unit × (Int × (Unit × (List (Int × (ByteArray × (Int × (List (Int × (Int × (Int × (List (Int × (Int × (Int × Int))))))))))))))) → Option ((Unit × (Int × (Unit × (List (Int × (ByteArray × (Int × (List (Int × (Int × (Int × (List (Int × (Int × (Int × Int))))))))))))))) ⊕ (Unit × (List (Int × (ByteArray × (Int × (List (Int × (Int × (Int × (List (Int × (Int × (Int × Int))))))))))))))
  | (_, t12, _, o1_1) =>
    cond (decide (t12 < (List.length modes : Int)))
      (Option.bind
        ((rd modes t12).bind fun t14 =>
        cond (t14 == 0)
          ((one100 k do_ 0).bind fun t22 =>
          (no98 k [t22.1]).bind fun t24 =>
          (add97' k () name t14 [t24.1] () o1_1).bind fun t26 =>
          some ((), (), t26.2.2))
          ((lead119 k t14).bind fun t31 =>
          (one100 k do_ 5).bind fun t33 =>
          (rd72'' k 2 5 [t33.1]).bind fun t35 =>
          (wr101 k 2 5 []).bind fun t36 =>
          (if room (List.length t31.2 + List.length [t35.1, t36.1]) 48 then some () else none).bind fun _ =>
          (add97' k () name t14 (t31.2 ++ [t35.1, t36.1]) () o1_1).bind fun t39 =>
          some ((), (), t39.2.2)) : Option (Unit × (Unit × (List (Int × (ByteArray × (Int × (List (Int × (Int × (Int × (List (Int × (Int × (Int × Int))))))))))))))) fun ((_, _, o1_2) : (Unit × (Unit × (List (Int × (ByteArray × (Int × (List (Int × (Int × (Int × (List (Int × (Int × (Int × Int))))))))))))))) =>
      some (Sum.inl ((), (w64 (t12 + 1)), (), o1_2)))
      (some (Sum.inr ((), o1_1)))
def turns96 (k : Nat) (_ : Unit) (name : ByteArray) (do_ : Int) (modes : (List Int)) (o0 : Unit) (o1 : (List (Int × (ByteArray × (Int × (List (Int × (Int × (Int × (List (Int × (Int × (Int × Int))))))))))))) : Option (Unit × (Unit × (List (Int × (ByteArray × (Int × (List (Int × (Int × (Int × (List (Int × (Int × (Int × Int)))))))))))))) :=
  Option.bind
    (loopN (turns96.l0 k name do_ modes) k ((), 0, (), o1) : Option (Unit × (List (Int × (ByteArray × (Int × (List (Int × (Int × (Int × (List (Int × (Int × (Int × Int)))))))))))))) fun ((_, o1_3) : (Unit × (List (Int × (ByteArray × (Int × (List (Int × (Int × (Int × (List (Int × (Int × (Int × Int)))))))))))))) =>
  some ((), (), o1_3)
def turns96.A : Ann := { conds := [], blocks := [(0, ⟨[], [(0, .var (.st (.ms 1))), (1, .row (.st (.pair (.int .i64) (.pair .str (.pair (.int .i64) (.sl (.st (.pair (.int .i64) (.pair (.int .i64) (.pair (.int .i64) (.sl (.st (.pair (.int .i64) (.pair (.int .i64) (.pair (.int .i64) (.int .i64))))))))))))))))], 2, [], 2199023251968⟩), (1, ⟨[(0, .ptr 0 [])], [(0, .var (.st (.ms 1))), (1, .row (.st (.pair (.int .i64) (.pair .str (.pair (.int .i64) (.sl (.st (.pair (.int .i64) (.pair (.int .i64) (.pair (.int .i64) (.sl (.st (.pair (.int .i64) (.pair (.int .i64) (.pair (.int .i64) (.int .i64))))))))))))))))], 2, [], 1099511611904⟩)], loops := [(1, ⟨[(0, .ptr 0 []), (12, .int .i64)], [(0, .var (.st (.ms 1))), (1, .row (.st (.pair (.int .i64) (.pair .str (.pair (.int .i64) (.sl (.st (.pair (.int .i64) (.pair (.int .i64) (.pair (.int .i64) (.sl (.st (.pair (.int .i64) (.pair (.int .i64) (.pair (.int .i64) (.int .i64))))))))))))))))], 2, [], 2199023251968⟩)], keeps := [], orders := [] }
def turns96.S : Sig := { f := 96, params := [.ptr 0 [], .str, .int .i64, .sl (.int .i64)], objs := [.var (.st (.ms 1)), .row (.st (.pair (.int .i64) (.pair .str (.pair (.int .i64) (.sl (.st (.pair (.int .i64) (.pair (.int .i64) (.pair (.int .i64) (.sl (.st (.pair (.int .i64) (.pair (.int .i64) (.pair (.int .i64) (.int .i64)))))))))))))))], res := .tup .unit, outs := [.var (.st (.ms 1)), .row (.st (.pair (.int .i64) (.pair .str (.pair (.int .i64) (.sl (.st (.pair (.int .i64) (.pair (.int .i64) (.pair (.int .i64) (.sl (.st (.pair (.int .i64) (.pair (.int .i64) (.pair (.int .i64) (.int .i64)))))))))))))))], fix := [], run := fun k ds os => turns96 k ds.1 ds.2.1 ds.2.2.1 ds.2.2.2 os.1 os.2 }
def turns96.G : List Sig := [add97'.S, lead119.S, no98.S, one100.S, rd72''.S, wr101.S]
theorem turns96.eq (k : Nat) : ∀ ds os, turns96.S.run k ds os = runF ⟨types, turns96.G, turns96.A, k, 0, []⟩ Try.f96 (codeOf Try.f96) turns96.S.params turns96.S.objs turns96.S.res turns96.S.outs ds os := by
  intro ds os; kernel_rfl
theorem turns96.dr : DrOk Try.prog turns96.A (codeOf Try.f96) := ⟨by kernel_rfl, by kernel_rfl⟩
theorem turns96.ok (k : Nat) : SoundAt Try.prog k turns96.S :=
  runF_sound (X := ⟨types, turns96.G, turns96.A, k, 0, []⟩) types_ok (mem_all (⟨add97'.ok k, ⟨lead119.ok k, ⟨no98.ok k, ⟨one100.ok k, ⟨rd72''.ok k, ⟨wr101.ok k, trivial⟩⟩⟩⟩⟩⟩)) (fn := Try.f96) (c := codeOf Try.f96) rfl (by kernel_rfl) rfl rfl turns96.dr (turns96.eq k)
end Go.Proofs.Ytcppmlgnceldmaa.Ge

/- Go functions as plain Lean functions, and their contracts. -/
set_option linter.unusedVariables false
set_option maxRecDepth 100000
noncomputable section
namespace Go.Proofs.Ytcppmlgnceldmaa.Ge
open Go Go.Proofs.Ytcppmlgnceldmaa.Gp
def memory69.l0 (k : Nat) : (Unit × (Unit × (Int × (Unit × ((List (Int × (ByteArray × (Int × (List (Int × (Int × (Int × (List (Int × (Int × (Int × Int)))))))))))) × (List (ByteArray × Int))))))) → Option ((Unit × (Unit × (Int × (Unit × ((List (Int × (ByteArray × (Int × (List (Int × (Int × (Int × (List (Int × (Int × (Int × Int)))))))))))) × (List (ByteArray × Int))))))) ⊕ (Unit × (Unit × (List (Int × (ByteArray × (Int × (List (Int × (Int × (Int × (List (Int × (Int × (Int × Int)))))))))))))))
  | (_, _, t30, _, o2, o8) =>
    cond (decide (t30 < (List.length [((ByteArray.mk #[97, 100, 99]), 4), ((ByteArray.mk #[115, 98, 99]), 5), ((ByteArray.mk #[97, 110, 100]), 7), ((ByteArray.mk #[111, 114, 97]), 8), ((ByteArray.mk #[101, 111, 114]), 9), ((ByteArray.mk #[99, 109, 112]), 6)] : Int)))
      ((rd o8 t30).bind fun _ =>
      (rd o8 t30).bind fun t33 =>
      (joins95 k () t33.1 t33.2 0 ([1, 2, 4, 5] : List Int) () o2).bind fun t40 =>
      some (Sum.inl ((), (), (w64 (t30 + 1)), (), t40.2.2, o8)))
      (some (Sum.inr ((), (), o2)))
def memory69 (k : Nat) (_ : Unit) (o0 : Unit) : Option (Unit × (Unit × (List (Int × (ByteArray × (Int × (List (Int × (Int × (Int × (List (Int × (Int × (Int × Int)))))))))))))) :=
  (loads93 k () (ByteArray.mk #[108, 100, 97]) 0 ([1, 2, 3, 4, 5, 6, 8] : List Int) o0).bind fun t6 =>
  (loads93' k () (ByteArray.mk #[108, 100, 120]) 1 ([1, 2, 4] : List Int) () t6.2.2).bind fun t9 =>
  (loads93' k () (ByteArray.mk #[108, 100, 121]) 2 ([1, 2, 4] : List Int) () t9.2.2).bind fun t12 =>
  (stores94 k () (ByteArray.mk #[115, 116, 97]) 0 ([2, 3, 4, 5, 6, 8] : List Int) () t12.2.2).bind fun t15 =>
  (stores94 k () (ByteArray.mk #[115, 116, 120]) 1 ([2, 4] : List Int) () t15.2.2).bind fun t18 =>
  (stores94 k () (ByteArray.mk #[115, 116, 121]) 2 ([2, 4] : List Int) () t18.2.2).bind fun t21 =>
  Option.bind
    (loopN (memory69.l0 k) k ((), (), 0, (), t21.2.2, [((ByteArray.mk #[97, 100, 99]), 4), ((ByteArray.mk #[115, 98, 99]), 5), ((ByteArray.mk #[97, 110, 100]), 7), ((ByteArray.mk #[111, 114, 97]), 8), ((ByteArray.mk #[101, 111, 114]), 9), ((ByteArray.mk #[99, 109, 112]), 6)]) : Option (Unit × (Unit × (List (Int × (ByteArray × (Int × (List (Int × (Int × (Int × (List (Int × (Int × (Int × Int))))))))))))))) fun ((_, _, o2_1) : (Unit × (Unit × (List (Int × (ByteArray × (Int × (List (Int × (Int × (Int × (List (Int × (Int × (Int × Int))))))))))))))) =>
  (joins95 k () (ByteArray.mk #[99, 112, 120]) 6 1 ([1, 2] : List Int) () o2_1).bind fun t44 =>
  (joins95 k () (ByteArray.mk #[99, 112, 121]) 6 2 ([1, 2] : List Int) () t44.2.2).bind fun t47 =>
  (turns96 k () (ByteArray.mk #[105, 110, 99]) 10 ([2, 4] : List Int) () t47.2.2).bind fun t50 =>
  (turns96 k () (ByteArray.mk #[100, 101, 99]) 11 ([2, 4] : List Int) () t50.2.2).bind fun t53 =>
  (turns96 k () (ByteArray.mk #[97, 115, 108]) 12 ([0, 2] : List Int) () t53.2.2).bind fun t56 =>
  (turns96 k () (ByteArray.mk #[108, 115, 114]) 13 ([0, 2] : List Int) () t56.2.2).bind fun t59 =>
  (turns96 k () (ByteArray.mk #[114, 111, 108]) 14 ([0, 2] : List Int) () t59.2.2).bind fun t62 =>
  (turns96 k () (ByteArray.mk #[114, 111, 114]) 15 ([0, 2] : List Int) () t62.2.2).bind fun t65 =>
  some ((), (), t65.2.2)
def memory69.A : Ann := { conds := [], blocks := [(0, ⟨[(0, .ptr 0 [])], [(0, .var (.st (.ms 2))), (2, .row (.st (.pair (.int .i64) (.pair .str (.pair (.int .i64) (.sl (.st (.pair (.int .i64) (.pair (.int .i64) (.pair (.int .i64) (.sl (.st (.pair (.int .i64) (.pair (.int .i64) (.pair (.int .i64) (.int .i64))))))))))))))))], 3, [], 4396972769288⟩)], loops := [(7, ⟨[(0, .ptr 0 []), (28, .ms 8), (30, .int .i64)], [(0, .var (.st (.ms 2))), (2, .row (.st (.pair (.int .i64) (.pair .str (.pair (.int .i64) (.sl (.st (.pair (.int .i64) (.pair (.int .i64) (.pair (.int .i64) (.sl (.st (.pair (.int .i64) (.pair (.int .i64) (.pair (.int .i64) (.int .i64)))))))))))))))), (8, .row (.st (.pair .str (.int .i64))))], 9, [], 4396972769288⟩)], keeps := [3], orders := [] }
def memory69.S : Sig := { f := 69, params := [.ptr 0 []], objs := [.var (.st .nil)], res := .tup .unit, outs := [.var (.st (.ms 1)), .row (.st (.pair (.int .i64) (.pair .str (.pair (.int .i64) (.sl (.st (.pair (.int .i64) (.pair (.int .i64) (.pair (.int .i64) (.sl (.st (.pair (.int .i64) (.pair (.int .i64) (.pair (.int .i64) (.int .i64)))))))))))))))], fix := [], run := fun k ds os => memory69 k ds os }
def memory69.G : List Sig := [joins95.S, loads93.S, loads93'.S, stores94.S, turns96.S]
theorem memory69.eq (k : Nat) : ∀ ds os, memory69.S.run k ds os = runF ⟨types, memory69.G, memory69.A, k, 0, []⟩ Try.f69 (codeOf Try.f69) memory69.S.params memory69.S.objs memory69.S.res memory69.S.outs ds os := by
  intro ds os; kernel_rfl
theorem memory69.dr : DrOk Try.prog memory69.A (codeOf Try.f69) := ⟨by kernel_rfl, by kernel_rfl⟩
theorem memory69.ok (k : Nat) : SoundAt Try.prog k memory69.S :=
  runF_sound (X := ⟨types, memory69.G, memory69.A, k, 0, []⟩) types_ok (mem_all (⟨joins95.ok k, ⟨loads93.ok k, ⟨loads93'.ok k, ⟨stores94.ok k, ⟨turns96.ok k, trivial⟩⟩⟩⟩⟩)) (fn := Try.f69) (c := codeOf Try.f69) rfl (by kernel_rfl) rfl rfl memory69.dr (memory69.eq k)

def alone70.l0 (k : Nat) : (Unit × (Unit × (Int × (Unit × ((List (Int × (ByteArray × (Int × (List (Int × (Int × (Int × (List (Int × (Int × (Int × Int)))))))))))) × (List (ByteArray × (Int × Int)))))))) → Option ((Unit × (Unit × (Int × (Unit × ((List (Int × (ByteArray × (Int × (List (Int × (Int × (Int × (List (Int × (Int × (Int × Int)))))))))))) × (List (ByteArray × (Int × Int)))))))) ⊕ (Unit × (Unit × (List (Int × (ByteArray × (Int × (List (Int × (Int × (Int × (List (Int × (Int × (Int × Int)))))))))))))))
  | (_, _, t11, _, o1_1, o2) =>
    cond (decide (t11 < (List.length [((ByteArray.mk #[116, 97, 120]), 1, 0), ((ByteArray.mk #[116, 97, 121]), 2, 0), ((ByteArray.mk #[116, 120, 97]), 0, 1), ((ByteArray.mk #[116, 121, 97]), 0, 2), ((ByteArray.mk #[116, 115, 120]), 1, 3)] : Int)))
      ((rd o2 t11).bind fun _ =>
      (rd o2 t11).bind fun t14 =>
      (two99 k 1 t14.2.1 t14.2.2).bind fun t22 =>
      (one100 k 3 t14.2.1).bind fun t25 =>
      (no98 k [t22.1, t25.1]).bind fun t27 =>
      (add97' k () t14.1 0 [t27.1] () o1_1).bind fun t29 =>
      some (Sum.inl ((), (), (w64 (t11 + 1)), (), t29.2.2, o2)))
      (some (Sum.inr ((), (), o1_1)))
def alone70 (k : Nat) (_ : Unit) (o0 : Unit) (o1 : (List (Int × (ByteArray × (Int × (List (Int × (Int × (Int × (List (Int × (Int × (Int × Int))))))))))))) : Option (Unit × (Unit × (List (Int × (ByteArray × (Int × (List (Int × (Int × (Int × (List (Int × (Int × (Int × Int)))))))))))))) :=
  Option.bind
    (loopN (alone70.l0 k) k ((), (), 0, (), o1, [((ByteArray.mk #[116, 97, 120]), 1, 0), ((ByteArray.mk #[116, 97, 121]), 2, 0), ((ByteArray.mk #[116, 120, 97]), 0, 1), ((ByteArray.mk #[116, 121, 97]), 0, 2), ((ByteArray.mk #[116, 115, 120]), 1, 3)]) : Option (Unit × (Unit × (List (Int × (ByteArray × (Int × (List (Int × (Int × (Int × (List (Int × (Int × (Int × Int))))))))))))))) fun ((_, _, o1_2) : (Unit × (Unit × (List (Int × (ByteArray × (Int × (List (Int × (Int × (Int × (List (Int × (Int × (Int × Int))))))))))))))) =>
  (two99 k 1 3 1).bind fun t32 =>
  (no98 k [t32.1]).bind fun t34 =>
  (add97' k () (ByteArray.mk #[116, 120, 115]) 0 [t34.1] () o1_2).bind fun t36 =>
  (one100 k 10 1).bind fun t38 =>
  (no98 k [t38.1]).bind fun t40 =>
  (add97' k () (ByteArray.mk #[105, 110, 120]) 0 [t40.1] () t36.2.2).bind fun t42 =>
  (one100 k 10 2).bind fun t44 =>
  (no98 k [t44.1]).bind fun t46 =>
  (add97' k () (ByteArray.mk #[105, 110, 121]) 0 [t46.1] () t42.2.2).bind fun t48 =>
  (one100 k 11 1).bind fun t50 =>
  (no98 k [t50.1]).bind fun t52 =>
  (add97' k () (ByteArray.mk #[100, 101, 120]) 0 [t52.1] () t48.2.2).bind fun t54 =>
  (one100 k 11 2).bind fun t56 =>
  (no98 k [t56.1]).bind fun t58 =>
  (add97' k () (ByteArray.mk #[100, 101, 121]) 0 [t58.1] () t54.2.2).bind fun t60 =>
  (no98 k [(17, 0, 0, 1)]).bind fun t64 =>
  (add97' k () (ByteArray.mk #[99, 108, 99]) 0 [t64.1] () t60.2.2).bind fun t66 =>
  (no98 k [(16, 0, 0, 1)]).bind fun t70 =>
  (add97' k () (ByteArray.mk #[115, 101, 99]) 0 [t70.1] () t66.2.2).bind fun t72 =>
  (no98 k [(17, 0, 0, 4)]).bind fun t76 =>
  (add97' k () (ByteArray.mk #[99, 108, 105]) 0 [t76.1] () t72.2.2).bind fun t78 =>
  (no98 k [(16, 0, 0, 4)]).bind fun t82 =>
  (add97' k () (ByteArray.mk #[115, 101, 105]) 0 [t82.1] () t78.2.2).bind fun t84 =>
  (no98 k []).bind fun t86 =>
  (add97' k () (ByteArray.mk #[110, 111, 112]) 0 [t86.1] () t84.2.2).bind fun t88 =>
  (wr101 k 4 0 []).bind fun t90 =>
  (add97' k () (ByteArray.mk #[112, 104, 97]) 0 [t90.1] () t88.2.2).bind fun t92 =>
  (one100 k 3 0).bind fun t94 =>
  (rd72'' k 5 0 [t94.1]).bind fun t96 =>
  (add97' k () (ByteArray.mk #[112, 108, 97]) 0 [t96.1] () t92.2.2).bind fun t98 =>
  (wr101 k 4 4 []).bind fun t100 =>
  (add97' k () (ByteArray.mk #[112, 104, 112]) 0 [t100.1] () t98.2.2).bind fun t102 =>
  (rd72'' k 5 4 []).bind fun t104 =>
  (add97' k () (ByteArray.mk #[112, 108, 112]) 0 [t104.1] () t102.2.2).bind fun t106 =>
  some ((), (), t106.2.2)
def alone70.A : Ann := { conds := [], blocks := [(0, ⟨[(0, .ptr 0 [])], [(0, .var (.st (.ms 1))), (1, .row (.st (.pair (.int .i64) (.pair .str (.pair (.int .i64) (.sl (.st (.pair (.int .i64) (.pair (.int .i64) (.pair (.int .i64) (.sl (.st (.pair (.int .i64) (.pair (.int .i64) (.pair (.int .i64) (.int .i64))))))))))))))))], 2, [], 2147481608⟩)], loops := [(1, ⟨[(0, .ptr 0 []), (9, .ms 2), (11, .int .i64)], [(0, .var (.st (.ms 1))), (1, .row (.st (.pair (.int .i64) (.pair .str (.pair (.int .i64) (.sl (.st (.pair (.int .i64) (.pair (.int .i64) (.pair (.int .i64) (.sl (.st (.pair (.int .i64) (.pair (.int .i64) (.pair (.int .i64) (.int .i64)))))))))))))))), (2, .row (.st (.pair .str (.pair (.int .i64) (.int .i64)))))], 3, [], 2147481608⟩)], keeps := [3], orders := [(3, [(0, .strong), (1, .strong), (2, .strong), (3, .strong), (4, .strong), (5, .strong), (6, .strong), (8, .strong), (9, .strong), (7, .eff true), (10, .eff true), (11, .eff true), (12, .eff true), (13, .eff true), (14, .eff false)])] }
def alone70.S : Sig := { f := 70, params := [.ptr 0 []], objs := [.var (.st (.ms 1)), .row (.st (.pair (.int .i64) (.pair .str (.pair (.int .i64) (.sl (.st (.pair (.int .i64) (.pair (.int .i64) (.pair (.int .i64) (.sl (.st (.pair (.int .i64) (.pair (.int .i64) (.pair (.int .i64) (.int .i64)))))))))))))))], res := .tup .unit, outs := [.var (.st (.ms 1)), .row (.st (.pair (.int .i64) (.pair .str (.pair (.int .i64) (.sl (.st (.pair (.int .i64) (.pair (.int .i64) (.pair (.int .i64) (.sl (.st (.pair (.int .i64) (.pair (.int .i64) (.pair (.int .i64) (.int .i64)))))))))))))))], fix := [], run := fun k ds os => alone70 k ds os.1 os.2 }
def alone70.G : List Sig := [add97'.S, no98.S, one100.S, rd72''.S, two99.S, wr101.S]
theorem alone70.eq (k : Nat) : ∀ ds os, alone70.S.run k ds os = runF ⟨types, alone70.G, alone70.A, k, 0, []⟩ Try.f70 (codeOf Try.f70) alone70.S.params alone70.S.objs alone70.S.res alone70.S.outs ds os := by
  intro ds os; kernel_rfl
theorem alone70.dr : DrOk Try.prog alone70.A (codeOf Try.f70) := ⟨by kernel_rfl, by kernel_rfl⟩
theorem alone70.ok (k : Nat) : SoundAt Try.prog k alone70.S :=
  runF_sound (X := ⟨types, alone70.G, alone70.A, k, 0, []⟩) types_ok (mem_all (⟨add97'.ok k, ⟨no98.ok k, ⟨one100.ok k, ⟨rd72''.ok k, ⟨two99.ok k, ⟨wr101.ok k, trivial⟩⟩⟩⟩⟩⟩)) (fn := Try.f70) (c := codeOf Try.f70) rfl (by kernel_rfl) rfl rfl alone70.dr (alone70.eq k)

def jump73' (k : Nat) (to : Int) : Option ((List (Int × (Int × (Int × Int)))) × Unit) :=
  (two99 k 18 to 5).bind fun t4 =>
  (two99 k 19 to 6).bind fun t6 =>
  some ([t4.1, t6.1], ())
def jump73'.A : Ann := { conds := [], blocks := [], loops := [], keeps := [], orders := [] }
def jump73'.S : Sig := { f := 73, params := [.int .i64], objs := [], res := .sl (.st (.pair (.int .i64) (.pair (.int .i64) (.pair (.int .i64) (.int .i64))))), outs := [], fix := [], run := fun k ds os => jump73' k ds }
def jump73'.G : List Sig := [two99.S]
theorem jump73'.eq (k : Nat) : ∀ ds os, jump73'.S.run k ds os = runF ⟨types, jump73'.G, jump73'.A, k, 0, []⟩ Try.f73 (codeOf Try.f73) jump73'.S.params jump73'.S.objs jump73'.S.res jump73'.S.outs ds os := by
  intro ds os; kernel_rfl
theorem jump73'.dr : DrOk Try.prog jump73'.A (codeOf Try.f73) := ⟨by kernel_rfl, by kernel_rfl⟩
theorem jump73'.ok (k : Nat) : SoundAt Try.prog k jump73'.S :=
  runF_sound (X := ⟨types, jump73'.G, jump73'.A, k, 0, []⟩) types_ok (mem_all (⟨two99.ok k, trivial⟩)) (fn := Try.f73) (c := codeOf Try.f73) rfl (by kernel_rfl) rfl rfl jump73'.dr (jump73'.eq k)
end Go.Proofs.Ytcppmlgnceldmaa.Ge

/- Go functions as plain Lean functions, and their contracts. -/
set_option linter.unusedVariables false
set_option maxRecDepth 100000
noncomputable section
namespace Go.Proofs.Ytcppmlgnceldmaa.Ge
open Go Go.Proofs.Ytcppmlgnceldmaa.Gp
def ways71.l0 (k : Nat) : (Unit × (Unit × (Int × (Unit × ((List (Int × (ByteArray × (Int × (List (Int × (Int × (Int × (List (Int × (Int × (Int × Int)))))))))))) × (List (ByteArray × (Int × Int)))))))) → Option ((Unit × (Unit × (Int × (Unit × ((List (Int × (ByteArray × (Int × (List (Int × (Int × (Int × (List (Int × (Int × (Int × Int)))))))))))) × (List (ByteArray × (Int × Int)))))))) ⊕ (Unit × (List (Int × (ByteArray × (Int × (List (Int × (Int × (Int × (List (Int × (Int × (Int × Int))))))))))))))
  | (_, _, t47, _, o1_1, o10) =>
    cond (decide (t47 < (List.length [((ByteArray.mk #[98, 101, 113]), 2, 1), ((ByteArray.mk #[98, 110, 101]), 2, 0), ((ByteArray.mk #[98, 99, 115]), 1, 1), ((ByteArray.mk #[98, 99, 99]), 1, 0), ((ByteArray.mk #[98, 109, 105]), 128, 1), ((ByteArray.mk #[98, 112, 108]), 128, 0)] : Int)))
      ((rd o10 t47).bind fun _ =>
      (rd o10 t47).bind fun t50 =>
      (rd72'' k 0 5 [(24, 0, t50.2.2, t50.2.1)]).bind fun t60 =>
      (two99 k 23 7 5).bind fun t61 =>
      (no98 k [t61.1]).bind fun t63 =>
      (add97' k () t50.1 7 [t60.1, t63.1] () o1_1).bind fun t65 =>
      some (Sum.inl ((), (), (w64 (t47 + 1)), (), t65.2.2, o10)))
      (some (Sum.inr ((), o1_1)))
def ways71 (k : Nat) (_ : Unit) (o0 : Unit) (o1 : (List (Int × (ByteArray × (Int × (List (Int × (Int × (Int × (List (Int × (Int × (Int × Int))))))))))))) : Option (Unit × (Unit × (List (Int × (ByteArray × (Int × (List (Int × (Int × (Int × (List (Int × (Int × (Int × Int)))))))))))))) :=
  (rd72'' k 0 5 []).bind fun t5 =>
  (jump73' k 7).bind fun t6 =>
  (rd72'' k 0 6 t6.1).bind fun t7 =>
  (add97' k () (ByteArray.mk #[106, 109, 112]) 4 [t5.1, t7.1] () o1).bind fun t9 =>
  (two99 k 18 8 5).bind fun t11 =>
  (rd72'' k 0 5 [t11.1]).bind fun t13 =>
  (two99 k 19 8 5).bind fun t14 =>
  (two99 k 21 5 7).bind fun t15 =>
  (rd72'' k 0 5 [t14.1, t15.1]).bind fun t17 =>
  (two99 k 20 5 7).bind fun t18 =>
  (wr101 k 4 5 [t18.1]).bind fun t20 =>
  (two99 k 1 7 8).bind fun t21 =>
  (wr101 k 4 5 [t21.1]).bind fun t23 =>
  (add97' k () (ByteArray.mk #[106, 115, 114]) 4 [t13.1, t17.1, t20.1, t23.1] () t9.2.2).bind fun t25 =>
  (rd72'' k 5 5 []).bind fun t27 =>
  (jump73' k 7).bind fun t28 =>
  (rd72'' k 5 6 t28.1).bind fun t29 =>
  (add97' k () (ByteArray.mk #[114, 116, 115]) 0 [t27.1, t29.1] () t25.2.2).bind fun t31 =>
  (rd72'' k 5 4 []).bind fun t33 =>
  (rd72'' k 5 5 []).bind fun t34 =>
  (jump73' k 7).bind fun t35 =>
  (rd72'' k 5 6 t35.1).bind fun t36 =>
  (add97' k () (ByteArray.mk #[114, 116, 105]) 0 [t33.1, t34.1, t36.1] () t31.2.2).bind fun t38 =>
  Option.bind
    (loopN (ways71.l0 k) k ((), (), 0, (), t38.2.2, [((ByteArray.mk #[98, 101, 113]), 2, 1), ((ByteArray.mk #[98, 110, 101]), 2, 0), ((ByteArray.mk #[98, 99, 115]), 1, 1), ((ByteArray.mk #[98, 99, 99]), 1, 0), ((ByteArray.mk #[98, 109, 105]), 128, 1), ((ByteArray.mk #[98, 112, 108]), 128, 0)]) : Option (Unit × (List (Int × (ByteArray × (Int × (List (Int × (Int × (Int × (List (Int × (Int × (Int × Int)))))))))))))) fun ((_, o1_2) : (Unit × (List (Int × (ByteArray × (Int × (List (Int × (Int × (Int × (List (Int × (Int × (Int × Int)))))))))))))) =>
  some ((), (), o1_2)
def ways71.A : Ann := { conds := [], blocks := [(0, ⟨[], [(0, .var (.st (.ms 1))), (1, .row (.st (.pair (.int .i64) (.pair .str (.pair (.int .i64) (.sl (.st (.pair (.int .i64) (.pair (.int .i64) (.pair (.int .i64) (.sl (.st (.pair (.int .i64) (.pair (.int .i64) (.pair (.int .i64) (.int .i64))))))))))))))))], 2, [], 147573811852188057608⟩)], loops := [(5, ⟨[(0, .ptr 0 []), (45, .ms 10), (47, .int .i64)], [(0, .var (.st (.ms 1))), (1, .row (.st (.pair (.int .i64) (.pair .str (.pair (.int .i64) (.sl (.st (.pair (.int .i64) (.pair (.int .i64) (.pair (.int .i64) (.sl (.st (.pair (.int .i64) (.pair (.int .i64) (.pair (.int .i64) (.int .i64)))))))))))))))), (10, .row (.st (.pair .str (.pair (.int .i64) (.int .i64)))))], 11, [], 147573811852188057608⟩)], keeps := [3], orders := [(7, [(0, .strong), (1, .strong), (2, .strong), (3, .strong), (4, .strong), (5, .strong), (6, .strong), (7, .strong), (8, .eff true), (9, .eff true), (10, .eff true), (11, .eff true), (12, .eff true), (13, .eff true), (14, .eff false)])] }
def ways71.S : Sig := { f := 71, params := [.ptr 0 []], objs := [.var (.st (.ms 1)), .row (.st (.pair (.int .i64) (.pair .str (.pair (.int .i64) (.sl (.st (.pair (.int .i64) (.pair (.int .i64) (.pair (.int .i64) (.sl (.st (.pair (.int .i64) (.pair (.int .i64) (.pair (.int .i64) (.int .i64)))))))))))))))], res := .tup .unit, outs := [.var (.st (.ms 1)), .row (.st (.pair (.int .i64) (.pair .str (.pair (.int .i64) (.sl (.st (.pair (.int .i64) (.pair (.int .i64) (.pair (.int .i64) (.sl (.st (.pair (.int .i64) (.pair (.int .i64) (.pair (.int .i64) (.int .i64)))))))))))))))], fix := [], run := fun k ds os => ways71 k ds os.1 os.2 }
def ways71.G : List Sig := [add97'.S, jump73'.S, no98.S, rd72''.S, two99.S, wr101.S]
theorem ways71.eq (k : Nat) : ∀ ds os, ways71.S.run k ds os = runF ⟨types, ways71.G, ways71.A, k, 0, []⟩ Try.f71 (codeOf Try.f71) ways71.S.params ways71.S.objs ways71.S.res ways71.S.outs ds os := by
  intro ds os; kernel_rfl
theorem ways71.dr : DrOk Try.prog ways71.A (codeOf Try.f71) := ⟨by kernel_rfl, by kernel_rfl⟩
theorem ways71.ok (k : Nat) : SoundAt Try.prog k ways71.S :=
  runF_sound (X := ⟨types, ways71.G, ways71.A, k, 0, []⟩) types_ok (mem_all (⟨add97'.ok k, ⟨jump73'.ok k, ⟨no98.ok k, ⟨rd72''.ok k, ⟨two99.ok k, ⟨wr101.ok k, trivial⟩⟩⟩⟩⟩⟩)) (fn := Try.f71) (c := codeOf Try.f71) rfl (by kernel_rfl) rfl rfl ways71.dr (ways71.eq k)

def answers74 (k : Nat) (low : Int) (high : Int) : Option ((List (Int × (Int × (Int × (List (Int × (Int × (Int × Int)))))))) × Unit) :=
  (two99 k 21 5 7).bind fun t5 =>
  (no98 k [t5.1]).bind fun t7 =>
  (two99 k 20 5 7).bind fun t8 =>
  (wr101 k 4 5 [t8.1]).bind fun t10 =>
  (wr101 k 4 5 []).bind fun t11 =>
  (wr101 k 4 4 [(16, 0, 0, 4)]).bind fun t14 =>
  (rd72'' k low 5 []).bind fun t16 =>
  (jump73' k 7).bind fun t18 =>
  (rd72'' k high 6 t18.1).bind fun t19 =>
  some ([t7.1, t10.1, t11.1, t14.1, t16.1, t19.1], ())
def answers74.A : Ann := { conds := [], blocks := [], loops := [], keeps := [], orders := [] }
def answers74.S : Sig := { f := 74, params := [.int .i64, .int .i64], objs := [], res := .sl (.st (.pair (.int .i64) (.pair (.int .i64) (.pair (.int .i64) (.sl (.st (.pair (.int .i64) (.pair (.int .i64) (.pair (.int .i64) (.int .i64)))))))))), outs := [], fix := [], run := fun k ds os => answers74 k ds.1 ds.2 }
def answers74.G : List Sig := [jump73'.S, no98.S, rd72''.S, two99.S, wr101.S]
theorem answers74.eq (k : Nat) : ∀ ds os, answers74.S.run k ds os = runF ⟨types, answers74.G, answers74.A, k, 0, []⟩ Try.f74 (codeOf Try.f74) answers74.S.params answers74.S.objs answers74.S.res answers74.S.outs ds os := by
  intro ds os; kernel_rfl
theorem answers74.dr : DrOk Try.prog answers74.A (codeOf Try.f74) := ⟨by kernel_rfl, by kernel_rfl⟩
theorem answers74.ok (k : Nat) : SoundAt Try.prog k answers74.S :=
  runF_sound (X := ⟨types, answers74.G, answers74.A, k, 0, []⟩) types_ok (mem_all (⟨jump73'.ok k, ⟨no98.ok k, ⟨rd72''.ok k, ⟨two99.ok k, ⟨wr101.ok k, trivial⟩⟩⟩⟩⟩)) (fn := Try.f74) (c := codeOf Try.f74) rfl (by kernel_rfl) rfl rfl answers74.dr (answers74.eq k)

def Cpu34 (k : Nat) : Option ((ByteArray × ((List (Int × (ByteArray × (Int × (List (Int × (Int × (Int × (List (Int × (Int × (Int × Int)))))))))))) × ((List (Int × (Int × (Int × (List (Int × (Int × (Int × Int)))))))) × ((List (Int × (Int × (Int × (List (Int × (Int × (Int × Int)))))))) × (List (Int × (Int × (Int × (List (Int × (Int × (Int × Int)))))))))))) × Unit) :=
  (memory69 k () ()).bind fun t6 =>
  (alone70 k () () t6.2.2).bind fun t8 =>
  (ways71 k () () t8.2.2).bind fun t10 =>
  (rd72'' k 10 5 []).bind fun t11 =>
  (jump73 k 7).bind fun t12 =>
  (if room (List.length t12.2 + List.length [(2, 3, 0, 255)]) 32 then some () else none).bind fun _ =>
  (rd72'' k 11 6 (t12.2 ++ [(2, 3, 0, 255)])).bind fun t16 =>
  (answers74 k 6 7).bind fun t23 =>
  (answers74 k 8 9).bind fun t24 =>
  some (((ByteArray.mk #[115, 116, 100]), t10.2.2, [t11.1, t16.1], t23.1, t24.1), ())
def Cpu34.A : Ann := { conds := [], blocks := [], loops := [], keeps := [], orders := [(6, [(0, .strong), (1, .strong), (2, .strong), (3, .strong), (4, .strong), (5, .eff true), (6, .eff true), (7, .strong), (8, .eff false)])], turns := [(0, [⟨0, [(1, .st (.pair (.int .i64) (.pair .str (.pair (.int .i64) (.sl (.st (.pair (.int .i64) (.pair (.int .i64) (.pair (.int .i64) (.sl (.st (.pair (.int .i64) (.pair (.int .i64) (.pair (.int .i64) (.int .i64))))))))))))))), (2, .st (.pair (.int .i64) (.pair (.int .i64) (.pair (.int .i64) (.sl (.st (.pair (.int .i64) (.pair (.int .i64) (.pair (.int .i64) (.int .i64)))))))))), (3, .st (.pair (.int .i64) (.pair (.int .i64) (.pair (.int .i64) (.sl (.st (.pair (.int .i64) (.pair (.int .i64) (.pair (.int .i64) (.int .i64)))))))))), (4, .st (.pair (.int .i64) (.pair (.int .i64) (.pair (.int .i64) (.sl (.st (.pair (.int .i64) (.pair (.int .i64) (.pair (.int .i64) (.int .i64))))))))))], .st (.pair .str (.pair (.ms 1) (.pair (.ms 2) (.pair (.ms 3) (.ms 4)))))⟩])] }
def Cpu34.S : Sig := { f := 34, params := [], objs := [], res := .st (.pair .str (.pair (.sl (.st (.pair (.int .i64) (.pair .str (.pair (.int .i64) (.sl (.st (.pair (.int .i64) (.pair (.int .i64) (.pair (.int .i64) (.sl (.st (.pair (.int .i64) (.pair (.int .i64) (.pair (.int .i64) (.int .i64)))))))))))))))) (.pair (.sl (.st (.pair (.int .i64) (.pair (.int .i64) (.pair (.int .i64) (.sl (.st (.pair (.int .i64) (.pair (.int .i64) (.pair (.int .i64) (.int .i64))))))))))) (.pair (.sl (.st (.pair (.int .i64) (.pair (.int .i64) (.pair (.int .i64) (.sl (.st (.pair (.int .i64) (.pair (.int .i64) (.pair (.int .i64) (.int .i64))))))))))) (.sl (.st (.pair (.int .i64) (.pair (.int .i64) (.pair (.int .i64) (.sl (.st (.pair (.int .i64) (.pair (.int .i64) (.pair (.int .i64) (.int .i64))))))))))))))), outs := [], fix := [], run := fun k ds os => Cpu34 k }
def Cpu34.G : List Sig := [alone70.S, answers74.S, jump73.S, memory69.S, rd72''.S, ways71.S]
theorem Cpu34.eq (k : Nat) : ∀ ds os, Cpu34.S.run k ds os = runF ⟨types, Cpu34.G, Cpu34.A, k, 0, []⟩ Try.f34 (codeOf Try.f34) Cpu34.S.params Cpu34.S.objs Cpu34.S.res Cpu34.S.outs ds os := by
  intro ds os; kernel_rfl
theorem Cpu34.dr : DrOk Try.prog Cpu34.A (codeOf Try.f34) := ⟨by kernel_rfl, by kernel_rfl⟩
theorem Cpu34.ok (k : Nat) : SoundAt Try.prog k Cpu34.S :=
  runF_sound (X := ⟨types, Cpu34.G, Cpu34.A, k, 0, []⟩) types_ok (mem_all (⟨alone70.ok k, ⟨answers74.ok k, ⟨jump73.ok k, ⟨memory69.ok k, ⟨rd72''.ok k, ⟨ways71.ok k, trivial⟩⟩⟩⟩⟩⟩)) (fn := Try.f34) (c := codeOf Try.f34) rfl (by kernel_rfl) rfl rfl Cpu34.dr (Cpu34.eq k)

def Named1102 (k : Nat) (x : (Int × (ByteArray × (Int × (List (Int × (Int × (Int × (List (Int × (Int × (Int × Int)))))))))))) (t1 : ByteArray) (t2 : Int) : Option (Bool × Unit) :=
  some ((cond (streq x.2.1 t1) (x.2.2.1 == t2) false), ())
def Named1102.A : Ann := { conds := [], blocks := [], loops := [], keeps := [3], orders := [] }
def Named1102.S : Sig := { f := 102, params := [.st (.pair (.int .i64) (.pair .str (.pair (.int .i64) (.sl (.st (.pair (.int .i64) (.pair (.int .i64) (.pair (.int .i64) (.sl (.st (.pair (.int .i64) (.pair (.int .i64) (.pair (.int .i64) (.int .i64)))))))))))))), .fp .str, .fp (.int .i64)], objs := [], res := .bool, outs := [], fix := [], run := fun k ds os => Named1102 k ds.1 ds.2.1 ds.2.2 }
def Named1102.G : List Sig := []
theorem Named1102.eq (k : Nat) : ∀ ds os, Named1102.S.run k ds os = runF ⟨types, Named1102.G, Named1102.A, k, 0, []⟩ Try.f102 (codeOf Try.f102) Named1102.S.params Named1102.S.objs Named1102.S.res Named1102.S.outs ds os := by
  intro ds os; kernel_rfl
theorem Named1102.dr : DrOk Try.prog Named1102.A (codeOf Try.f102) := ⟨by kernel_rfl, by kernel_rfl⟩
theorem Named1102.ok (k : Nat) : SoundAt Try.prog k Named1102.S :=
  runF_sound (X := ⟨types, Named1102.G, Named1102.A, k, 0, []⟩) types_ok (fun s hs => absurd hs List.not_mem_nil) (fn := Try.f102) (c := codeOf Try.f102) rfl (by kernel_rfl) rfl rfl Named1102.dr (Named1102.eq k)

def IndexFunc50.l0 (k : Nat) (s : (List (Int × (ByteArray × (Int × (List (Int × (Int × (Int × (List (Int × (Int × (Int × Int))))))))))))) : ((ByteArray × (Int × Unit)) × Int) → Option (((ByteArray × (Int × Unit)) × Int) ⊕ (Unit ⊕ (Int × Unit)))
  | (f_1, t8) =>
    cond (decide (t8 < (List.length s : Int)))
      ((rd s t8).bind fun t14 =>
      (Named1102 k t14 f_1.1 f_1.2.1).bind fun t16 =>
      cond t16.1
        (some (Sum.inr (Sum.inr (t8, ()))))
        (some (Sum.inl (f_1, (w64 (t8 + 1))))))
      (some (Sum.inr (Sum.inl ())))
def IndexFunc50 (k : Nat) (s : (List (Int × (ByteArray × (Int × (List (Int × (Int × (Int × (List (Int × (Int × (Int × Int))))))))))))) (f : (ByteArray × (Int × Unit))) : Option (Int × Unit) :=
  Option.bind
    (loopN (IndexFunc50.l0 k s) k (f, 0) : Option (Unit ⊕ (Int × Unit))) (joined fun (_ : Unit) =>
    some ((-1), ()))
def IndexFunc50.A : Ann := { conds := [], blocks := [(0, ⟨[], [], 0, [], 524080⟩)], loops := [(2, ⟨[(1, .fn 102 (.pair (.fp .str) (.pair (.fp (.int .i64)) .unit))), (8, .int .i64)], [], 0, [], 524080⟩)], keeps := [], orders := [] }
def IndexFunc50.S : Sig := { f := 50, params := [.sl (.st (.pair (.int .i64) (.pair .str (.pair (.int .i64) (.sl (.st (.pair (.int .i64) (.pair (.int .i64) (.pair (.int .i64) (.sl (.st (.pair (.int .i64) (.pair (.int .i64) (.pair (.int .i64) (.int .i64))))))))))))))), .fn 102 (.pair (.fp .str) (.pair (.fp (.int .i64)) .unit))], objs := [], res := .int .i64, outs := [], fix := [], run := fun k ds os => IndexFunc50 k ds.1 ds.2 }
def IndexFunc50.G : List Sig := [Named1102.S]
theorem IndexFunc50.eq (k : Nat) : ∀ ds os, IndexFunc50.S.run k ds os = runF ⟨types, IndexFunc50.G, IndexFunc50.A, k, 0, []⟩ Try.f50 (codeOf Try.f50) IndexFunc50.S.params IndexFunc50.S.objs IndexFunc50.S.res IndexFunc50.S.outs ds os := by
  intro ds os; kernel_rfl
theorem IndexFunc50.dr : DrOk Try.prog IndexFunc50.A (codeOf Try.f50) := ⟨by kernel_rfl, by kernel_rfl⟩
theorem IndexFunc50.ok (k : Nat) : SoundAt Try.prog k IndexFunc50.S :=
  runF_sound (X := ⟨types, IndexFunc50.G, IndexFunc50.A, k, 0, []⟩) types_ok (mem_all (⟨Named1102.ok k, trivial⟩)) (fn := Try.f50) (c := codeOf Try.f50) rfl (by kernel_rfl) rfl rfl IndexFunc50.dr (IndexFunc50.eq k)
end Go.Proofs.Ytcppmlgnceldmaa.Ge

/- Go functions as plain Lean functions, and their contracts. -/
set_option linter.unusedVariables false
set_option maxRecDepth 100000
noncomputable section
namespace Go.Proofs.Ytcppmlgnceldmaa.Ge
open Go Go.Proofs.Ytcppmlgnceldmaa.Gp
def Clone129 (k : Nat) (s : (List (Int × (Int × (Int × (List (Int × (Int × (Int × Int))))))))) : Option (Unit × (List (Int × (Int × (Int × (List (Int × (Int × (Int × Int))))))))) :=
  orNil (List.length s)
    (cond true
      (some ((), []))
      ((if room (0 + List.length s) 48 then some () else none).bind fun _ =>
      some ((), s)))
    (cond false
      (some ((), []))
      ((if room (0 + List.length s) 48 then some () else none).bind fun _ =>
      some ((), s)))
def Clone129.A : Ann := { conds := [], blocks := [], loops := [], keeps := [], orders := [] }
def Clone129.S : Sig := { f := 129, params := [.sl (.st (.pair (.int .i64) (.pair (.int .i64) (.pair (.int .i64) (.sl (.st (.pair (.int .i64) (.pair (.int .i64) (.pair (.int .i64) (.int .i64))))))))))], objs := [], res := .ms 0, outs := [.row (.st (.pair (.int .i64) (.pair (.int .i64) (.pair (.int .i64) (.sl (.st (.pair (.int .i64) (.pair (.int .i64) (.pair (.int .i64) (.int .i64))))))))))], fix := [], run := fun k ds os => Clone129 k ds }
def Clone129.G : List Sig := []
theorem Clone129.eq (k : Nat) : ∀ ds os, Clone129.S.run k ds os = runF ⟨types, Clone129.G, Clone129.A, k, 0, []⟩ Try.f129 (codeOf Try.f129) Clone129.S.params Clone129.S.objs Clone129.S.res Clone129.S.outs ds os := by
  intro ds os; kernel_rfl
theorem Clone129.dr : DrOk Try.prog Clone129.A (codeOf Try.f129) := ⟨by kernel_rfl, by kernel_rfl⟩
theorem Clone129.ok (k : Nat) : SoundAt Try.prog k Clone129.S :=
  runF_sound (X := ⟨types, Clone129.G, Clone129.A, k, 0, []⟩) types_ok (fun s hs => absurd hs List.not_mem_nil) (fn := Try.f129) (c := codeOf Try.f129) rfl (by kernel_rfl) rfl rfl Clone129.dr (Clone129.eq k)

def Clone130 (k : Nat) (s : (List (Int × (Int × (Int × Int))))) : Option (Unit × (List (Int × (Int × (Int × Int))))) :=
  orNil (List.length s)
    (cond true
      (some ((), []))
      ((if room (0 + List.length s) 32 then some () else none).bind fun _ =>
      some ((), s)))
    (cond false
      (some ((), []))
      ((if room (0 + List.length s) 32 then some () else none).bind fun _ =>
      some ((), s)))
def Clone130.A : Ann := { conds := [], blocks := [], loops := [], keeps := [], orders := [] }
def Clone130.S : Sig := { f := 130, params := [.sl (.st (.pair (.int .i64) (.pair (.int .i64) (.pair (.int .i64) (.int .i64)))))], objs := [], res := .ms 0, outs := [.row (.st (.pair (.int .i64) (.pair (.int .i64) (.pair (.int .i64) (.int .i64)))))], fix := [], run := fun k ds os => Clone130 k ds }
def Clone130.G : List Sig := []
theorem Clone130.eq (k : Nat) : ∀ ds os, Clone130.S.run k ds os = runF ⟨types, Clone130.G, Clone130.A, k, 0, []⟩ Try.f130 (codeOf Try.f130) Clone130.S.params Clone130.S.objs Clone130.S.res Clone130.S.outs ds os := by
  intro ds os; kernel_rfl
theorem Clone130.dr : DrOk Try.prog Clone130.A (codeOf Try.f130) := ⟨by kernel_rfl, by kernel_rfl⟩
theorem Clone130.ok (k : Nat) : SoundAt Try.prog k Clone130.S :=
  runF_sound (X := ⟨types, Clone130.G, Clone130.A, k, 0, []⟩) types_ok (fun s hs => absurd hs List.not_mem_nil) (fn := Try.f130) (c := codeOf Try.f130) rfl (by kernel_rfl) rfl rfl Clone130.dr (Clone130.eq k)

def copies116.l0 (k : Nat) (t6 : (Unit × (List (Int × (Int × (Int × (List (Int × (Int × (Int × Int)))))))))) : (Unit × (Int × (List (Int × (Int × (Int × (List (Int × (Int × (Int × Int)))))))))) → Option ((Unit × (Int × (List (Int × (Int × (Int × (List (Int × (Int × (Int × Int)))))))))) ⊕ (Unit × (List (Int × (Int × (Int × (List (Int × (Int × (Int × Int))))))))))
  | (_, t9, o0) =>
    cond (decide (t9 < (List.length t6.2 : Int)))
      ((rd o0 t9).bind fun _ =>
      (rd o0 t9).bind fun t18 =>
      (Clone130 k t18.2.2.2).bind fun t19 =>
      (rd o0 t9).bind fun _ =>
      (rd o0 t9).bind fun _x_2 =>
      some (Sum.inl ((), (w64 (t9 + 1)), (List.set o0 (Int.toNat t9) (_x_2.1, _x_2.2.1, _x_2.2.2.1, t19.2)))))
      (some (Sum.inr ((), o0)))
def copies116 (k : Nat) (l : (List (Int × (Int × (Int × (List (Int × (Int × (Int × Int))))))))) : Option ((List (Int × (Int × (Int × (List (Int × (Int × (Int × Int)))))))) × Unit) :=
  (Clone129 k l).bind fun t6 =>
  Option.bind
    (loopN (copies116.l0 k t6) k ((), 0, t6.2) : Option (Unit × (List (Int × (Int × (Int × (List (Int × (Int × (Int × Int)))))))))) fun ((_, o0_1) : (Unit × (List (Int × (Int × (Int × (List (Int × (Int × (Int × Int)))))))))) =>
  some (o0_1, ())
def copies116.A : Ann := { conds := [], blocks := [(0, ⟨[(3, .ms 0)], [(0, .row (.st (.pair (.int .i64) (.pair (.int .i64) (.pair (.int .i64) (.sl (.st (.pair (.int .i64) (.pair (.int .i64) (.pair (.int .i64) (.int .i64)))))))))))], 1, [], 8388112⟩)], loops := [(3, ⟨[(3, .ms 0), (9, .int .i64)], [(0, .row (.st (.pair (.int .i64) (.pair (.int .i64) (.pair (.int .i64) (.sl (.st (.pair (.int .i64) (.pair (.int .i64) (.pair (.int .i64) (.int .i64)))))))))))], 1, [], 8388112⟩)], keeps := [], orders := [] }
def copies116.S : Sig := { f := 116, params := [.sl (.st (.pair (.int .i64) (.pair (.int .i64) (.pair (.int .i64) (.sl (.st (.pair (.int .i64) (.pair (.int .i64) (.pair (.int .i64) (.int .i64))))))))))], objs := [], res := .sl (.st (.pair (.int .i64) (.pair (.int .i64) (.pair (.int .i64) (.sl (.st (.pair (.int .i64) (.pair (.int .i64) (.pair (.int .i64) (.int .i64)))))))))), outs := [], fix := [], run := fun k ds os => copies116 k ds }
def copies116.G : List Sig := [Clone129.S, Clone130.S]
theorem copies116.eq (k : Nat) : ∀ ds os, copies116.S.run k ds os = runF ⟨types, copies116.G, copies116.A, k, 0, []⟩ Try.f116 (codeOf Try.f116) copies116.S.params copies116.S.objs copies116.S.res copies116.S.outs ds os := by
  intro ds os; kernel_rfl
theorem copies116.dr : DrOk Try.prog copies116.A (codeOf Try.f116) := ⟨by kernel_rfl, by kernel_rfl⟩
theorem copies116.ok (k : Nat) : SoundAt Try.prog k copies116.S :=
  runF_sound (X := ⟨types, copies116.G, copies116.A, k, 0, []⟩) types_ok (mem_all (⟨Clone129.ok k, ⟨Clone130.ok k, trivial⟩⟩)) (fn := Try.f116) (c := codeOf Try.f116) rfl (by kernel_rfl) rfl rfl copies116.dr (copies116.eq k)

def Copy86 (k : Nat) (x : (Int × (ByteArray × (Int × (List (Int × (Int × (Int × (List (Int × (Int × (Int × Int)))))))))))) : Option ((Int × (ByteArray × (Int × (List (Int × (Int × (Int × (List (Int × (Int × (Int × Int))))))))))) × Unit) :=
  (copies116 k x.2.2.2).bind fun t5 =>
  some ((x.1, x.2.1, x.2.2.1, t5.1), ())
def Copy86.A : Ann := { conds := [], blocks := [], loops := [], keeps := [], orders := [] }
def Copy86.S : Sig := { f := 86, params := [.st (.pair (.int .i64) (.pair .str (.pair (.int .i64) (.sl (.st (.pair (.int .i64) (.pair (.int .i64) (.pair (.int .i64) (.sl (.st (.pair (.int .i64) (.pair (.int .i64) (.pair (.int .i64) (.int .i64))))))))))))))], objs := [], res := .st (.pair (.int .i64) (.pair .str (.pair (.int .i64) (.sl (.st (.pair (.int .i64) (.pair (.int .i64) (.pair (.int .i64) (.sl (.st (.pair (.int .i64) (.pair (.int .i64) (.pair (.int .i64) (.int .i64)))))))))))))), outs := [], fix := [], run := fun k ds os => Copy86 k ds }
def Copy86.G : List Sig := [copies116.S]
theorem Copy86.eq (k : Nat) : ∀ ds os, Copy86.S.run k ds os = runF ⟨types, Copy86.G, Copy86.A, k, 0, []⟩ Try.f86 (codeOf Try.f86) Copy86.S.params Copy86.S.objs Copy86.S.res Copy86.S.outs ds os := by
  intro ds os; kernel_rfl
theorem Copy86.dr : DrOk Try.prog Copy86.A (codeOf Try.f86) := ⟨by kernel_rfl, by kernel_rfl⟩
theorem Copy86.ok (k : Nat) : SoundAt Try.prog k Copy86.S :=
  runF_sound (X := ⟨types, Copy86.G, Copy86.A, k, 0, []⟩) types_ok (mem_all (⟨copies116.ok k, trivial⟩)) (fn := Try.f86) (c := codeOf Try.f86) rfl (by kernel_rfl) rfl rfl Copy86.dr (Copy86.eq k)

def Named75 (k : Nat) (c : (ByteArray × ((List (Int × (ByteArray × (Int × (List (Int × (Int × (Int × (List (Int × (Int × (Int × Int)))))))))))) × ((List (Int × (Int × (Int × (List (Int × (Int × (Int × Int)))))))) × ((List (Int × (Int × (Int × (List (Int × (Int × (Int × Int)))))))) × (List (Int × (Int × (Int × (List (Int × (Int × (Int × Int))))))))))))) (name : ByteArray) (mode : Int) : Option (((Int × (ByteArray × (Int × (List (Int × (Int × (Int × (List (Int × (Int × (Int × Int))))))))))) × (Bool × Unit)) × Unit) :=
  (IndexFunc50 k c.2.1 (name, mode, ())).bind fun t12 =>
  cond (decide (t12.1 < 0))
    (some (((0, (ByteArray.mk #[]), 0, []), false, ()), ()))
    ((rd c.2.1 t12.1).bind fun t19 =>
    (Copy86 k t19).bind fun t21 =>
    some ((t21.1, true, ()), ()))
def Named75.A : Ann := { conds := [], blocks := [], loops := [], keeps := [3, 4, 5], orders := [] }
def Named75.S : Sig := { f := 75, params := [.st (.pair .str (.pair (.sl (.st (.pair (.int .i64) (.pair .str (.pair (.int .i64) (.sl (.st (.pair (.int .i64) (.pair (.int .i64) (.pair (.int .i64) (.sl (.st (.pair (.int .i64) (.pair (.int .i64) (.pair (.int .i64) (.int .i64)))))))))))))))) (.pair (.sl (.st (.pair (.int .i64) (.pair (.int .i64) (.pair (.int .i64) (.sl (.st (.pair (.int .i64) (.pair (.int .i64) (.pair (.int .i64) (.int .i64))))))))))) (.pair (.sl (.st (.pair (.int .i64) (.pair (.int .i64) (.pair (.int .i64) (.sl (.st (.pair (.int .i64) (.pair (.int .i64) (.pair (.int .i64) (.int .i64))))))))))) (.sl (.st (.pair (.int .i64) (.pair (.int .i64) (.pair (.int .i64) (.sl (.st (.pair (.int .i64) (.pair (.int .i64) (.pair (.int .i64) (.int .i64))))))))))))))), .str, .int .i64], objs := [], res := .tup (.pair (.st (.pair (.int .i64) (.pair .str (.pair (.int .i64) (.sl (.st (.pair (.int .i64) (.pair (.int .i64) (.pair (.int .i64) (.sl (.st (.pair (.int .i64) (.pair (.int .i64) (.pair (.int .i64) (.int .i64))))))))))))))) (.pair .bool .unit)), outs := [], fix := [], run := fun k ds os => Named75 k ds.1 ds.2.1 ds.2.2 }
def Named75.G : List Sig := [Copy86.S, IndexFunc50.S]
theorem Named75.eq (k : Nat) : ∀ ds os, Named75.S.run k ds os = runF ⟨types, Named75.G, Named75.A, k, 0, []⟩ Try.f75 (codeOf Try.f75) Named75.S.params Named75.S.objs Named75.S.res Named75.S.outs ds os := by
  intro ds os; kernel_rfl
theorem Named75.dr : DrOk Try.prog Named75.A (codeOf Try.f75) := ⟨by kernel_rfl, by kernel_rfl⟩
theorem Named75.ok (k : Nat) : SoundAt Try.prog k Named75.S :=
  runF_sound (X := ⟨types, Named75.G, Named75.A, k, 0, []⟩) types_ok (mem_all (⟨Copy86.ok k, ⟨IndexFunc50.ok k, trivial⟩⟩)) (fn := Try.f75) (c := codeOf Try.f75) rfl (by kernel_rfl) rfl rfl Named75.dr (Named75.eq k)

def nop35 (k : Nat) : Option ((Int × ((List Int) × (List (ByteArray × Int)))) × Unit) :=
  (Cpu34 k).bind fun t6 =>
  (Named75 k t6.1 (ByteArray.mk #[110, 111, 112]) 0).bind fun t7 =>
  (Cpu34 k).bind fun t11 =>
  (Named75 k t11.1 (ByteArray.mk #[106, 109, 112]) 4).bind fun t12 =>
  some ((512, ([(IntKind.wrap .u8 t7.1.1.1), (IntKind.wrap .u8 t12.1.1.1), 0, 2] : List Int), []), ())
def nop35.A : Ann := { conds := [], blocks := [], loops := [], keeps := [1, 3], orders := [] }
def nop35.S : Sig := { f := 35, params := [], objs := [], res := .st (.pair (.int .i64) (.pair (.sl (.int .u8)) (.sl (.st (.pair .str (.int .i64)))))), outs := [], fix := [], run := fun k ds os => nop35 k }
def nop35.G : List Sig := [Cpu34.S, Named75.S]
theorem nop35.eq (k : Nat) : ∀ ds os, nop35.S.run k ds os = runF ⟨types, nop35.G, nop35.A, k, 0, []⟩ Try.f35 (codeOf Try.f35) nop35.S.params nop35.S.objs nop35.S.res nop35.S.outs ds os := by
  intro ds os; kernel_rfl
theorem nop35.dr : DrOk Try.prog nop35.A (codeOf Try.f35) := ⟨by kernel_rfl, by kernel_rfl⟩
theorem nop35.ok (k : Nat) : SoundAt Try.prog k nop35.S :=
  runF_sound (X := ⟨types, nop35.G, nop35.A, k, 0, []⟩) types_ok (mem_all (⟨Cpu34.ok k, ⟨Named75.ok k, trivial⟩⟩)) (fn := Try.f35) (c := codeOf Try.f35) rfl (by kernel_rfl) rfl rfl nop35.dr (nop35.eq k)

def Wide104 (k : Nat) (reg : Int) : Option (Bool × Unit) :=
  some ((cond (reg == 7) true (reg == 8)), ())
def Wide104.A : Ann := { conds := [], blocks := [], loops := [], keeps := [], orders := [] }
def Wide104.S : Sig := { f := 104, params := [.int .i64], objs := [], res := .bool, outs := [], fix := [], run := fun k ds os => Wide104 k ds }
def Wide104.G : List Sig := []
theorem Wide104.eq (k : Nat) : ∀ ds os, Wide104.S.run k ds os = runF ⟨types, Wide104.G, Wide104.A, k, 0, []⟩ Try.f104 (codeOf Try.f104) Wide104.S.params Wide104.S.objs Wide104.S.res Wide104.S.outs ds os := by
  intro ds os; kernel_rfl
theorem Wide104.dr : DrOk Try.prog Wide104.A (codeOf Try.f104) := ⟨by kernel_rfl, by kernel_rfl⟩
theorem Wide104.ok (k : Nat) : SoundAt Try.prog k Wide104.S :=
  runF_sound (X := ⟨types, Wide104.G, Wide104.A, k, 0, []⟩) types_ok (fun s hs => absurd hs List.not_mem_nil) (fn := Try.f104) (c := codeOf Try.f104) rfl (by kernel_rfl) rfl rfl Wide104.dr (Wide104.eq k)

def bits106 (k : Nat) (reg : Int) : Option (Int × Unit) :=
  (Wide104 k reg).bind fun t4 =>
  cond t4.1
    (some (16, ()))
    (some (8, ()))
def bits106.A : Ann := { conds := [], blocks := [], loops := [], keeps := [], orders := [] }
def bits106.S : Sig := { f := 106, params := [.int .i64], objs := [], res := .int .i64, outs := [], fix := [], run := fun k ds os => bits106 k ds }
def bits106.G : List Sig := [Wide104.S]
theorem bits106.eq (k : Nat) : ∀ ds os, bits106.S.run k ds os = runF ⟨types, bits106.G, bits106.A, k, 0, []⟩ Try.f106 (codeOf Try.f106) bits106.S.params bits106.S.objs bits106.S.res bits106.S.outs ds os := by
  intro ds os; kernel_rfl
theorem bits106.dr : DrOk Try.prog bits106.A (codeOf Try.f106) := ⟨by kernel_rfl, by kernel_rfl⟩
theorem bits106.ok (k : Nat) : SoundAt Try.prog k bits106.S :=
  runF_sound (X := ⟨types, bits106.G, bits106.A, k, 0, []⟩) types_ok (mem_all (⟨Wide104.ok k, trivial⟩)) (fn := Try.f106) (c := codeOf Try.f106) rfl (by kernel_rfl) rfl rfl bits106.dr (bits106.eq k)

def width84 (k : Nat) (bits : Int) : Option (Int × Unit) :=
  some ((mxI 0 (mnI bits 62)), ())
def width84.A : Ann := { conds := [], blocks := [], loops := [], keeps := [], orders := [] }
def width84.S : Sig := { f := 84, params := [.int .i64], objs := [], res := .int .i64, outs := [], fix := [], run := fun k ds os => width84 k ds }
def width84.G : List Sig := []
theorem width84.eq (k : Nat) : ∀ ds os, width84.S.run k ds os = runF ⟨types, width84.G, width84.A, k, 0, []⟩ Try.f84 (codeOf Try.f84) width84.S.params width84.S.objs width84.S.res width84.S.outs ds os := by
  intro ds os; kernel_rfl
theorem width84.dr : DrOk Try.prog width84.A (codeOf Try.f84) := ⟨by kernel_rfl, by kernel_rfl⟩
theorem width84.ok (k : Nat) : SoundAt Try.prog k width84.S :=
  runF_sound (X := ⟨types, width84.G, width84.A, k, 0, []⟩) types_ok (fun s hs => absurd hs List.not_mem_nil) (fn := Try.f84) (c := codeOf Try.f84) rfl (by kernel_rfl) rfl rfl width84.dr (width84.eq k)
end Go.Proofs.Ytcppmlgnceldmaa.Ge

/- Go functions as plain Lean functions, and their contracts. -/
set_option linter.unusedVariables false
set_option maxRecDepth 100000
noncomputable section
namespace Go.Proofs.Ytcppmlgnceldmaa.Ge
open Go Go.Proofs.Ytcppmlgnceldmaa.Gp
def Low47 (k : Nat) (n : Int) (bits : Int) : Option (Int × Unit) :=
  (width84 k bits).bind fun t7 =>
  (if t7.1 < 0 then none else some (shlI .i64 1 t7.1)).bind fun t8 =>
  some ((ibits .and .i64 n (w64 (t8 - 1))), ())
def Low47.A : Ann := { conds := [], blocks := [], loops := [], keeps := [], orders := [] }
def Low47.S : Sig := { f := 47, params := [.int .i64, .int .i64], objs := [], res := .int .i64, outs := [], fix := [], run := fun k ds os => Low47 k ds.1 ds.2 }
def Low47.G : List Sig := [width84.S]
theorem Low47.eq (k : Nat) : ∀ ds os, Low47.S.run k ds os = runF ⟨types, Low47.G, Low47.A, k, 0, []⟩ Try.f47 (codeOf Try.f47) Low47.S.params Low47.S.objs Low47.S.res Low47.S.outs ds os := by
  intro ds os; kernel_rfl
theorem Low47.dr : DrOk Try.prog Low47.A (codeOf Try.f47) := ⟨by kernel_rfl, by kernel_rfl⟩
theorem Low47.ok (k : Nat) : SoundAt Try.prog k Low47.S :=
  runF_sound (X := ⟨types, Low47.G, Low47.A, k, 0, []⟩) types_ok (mem_all (⟨width84.ok k, trivial⟩)) (fn := Try.f47) (c := codeOf Try.f47) rfl (by kernel_rfl) rfl rfl Low47.dr (Low47.eq k)

def Fit77.l0 (k : Nat) : (Unit × (Unit × (Int × ((List Int) × (List Int))))) → Option ((Unit × (Unit × (Int × ((List Int) × (List Int))))) ⊕ (Unit × (Unit × ((List Int) × (List Int)))))
  | (_, _, t4, o0, o1) =>
    cond (decide (t4 < 9))
      ((if 0 ≤ t4 ∧ t4 < 9 then some () else none).bind fun _ =>
      (rd o0 t4).bind fun t10 =>
      (bits106 k t4).bind fun t12 =>
      (Low47 k t10 t12.1).bind fun t13 =>
      (if 0 ≤ t4 ∧ t4 < 9 then some () else none).bind fun _ =>
      (rd o0 t4).bind fun _ =>
      some (Sum.inl ((), (), (w64 (t4 + 1)), (List.set o0 (Int.toNat t4) t13.1), o1)))
      (some (Sum.inr ((), (), o0, o1)))
def Fit77 (k : Nat) (r : (List Int)) : Option ((List Int) × Unit) :=
  Option.bind
    (loopN (Fit77.l0 k) k ((), (), 0, r, (List.replicate 9 0)) : Option (Unit × (Unit × ((List Int) × (List Int))))) fun ((_, _, o0_1, _) : (Unit × (Unit × ((List Int) × (List Int))))) =>
  some (o0_1, ())
def Fit77.A : Ann := { conds := [], blocks := [(0, ⟨[(1, .ptr 0 []), (2, .ptr 1 [])], [(0, .var (.arr 9 (.int .i64))), (1, .var (.arr 9 (.int .i64)))], 2, [], 65528⟩)], loops := [(2, ⟨[(1, .ptr 0 []), (2, .ptr 1 []), (4, .int .i64)], [(0, .var (.arr 9 (.int .i64))), (1, .var (.arr 9 (.int .i64)))], 2, [], 65528⟩)], keeps := [], orders := [(4, [(0, .strong), (1, .strong), (2, .strong), (3, .strong), (4, .strong), (5, .eff true), (6, .eff true), (7, .strong), (8, .eff false)])] }
def Fit77.S : Sig := { f := 77, params := [.arr 9 (.int .i64)], objs := [], res := .arr 9 (.int .i64), outs := [], fix := [], run := fun k ds os => Fit77 k ds }
def Fit77.G : List Sig := [Low47.S, bits106.S]
theorem Fit77.eq (k : Nat) : ∀ ds os, Fit77.S.run k ds os = runF ⟨types, Fit77.G, Fit77.A, k, 0, []⟩ Try.f77 (codeOf Try.f77) Fit77.S.params Fit77.S.objs Fit77.S.res Fit77.S.outs ds os := by
  intro ds os; kernel_rfl
theorem Fit77.dr : DrOk Try.prog Fit77.A (codeOf Try.f77) := ⟨by kernel_rfl, by kernel_rfl⟩
theorem Fit77.ok (k : Nat) : SoundAt Try.prog k Fit77.S :=
  runF_sound (X := ⟨types, Fit77.G, Fit77.A, k, 0, []⟩) types_ok (mem_all (⟨Low47.ok k, ⟨bits106.ok k, trivial⟩⟩)) (fn := Try.f77) (c := codeOf Try.f77) rfl (by kernel_rfl) rfl rfl Fit77.dr (Fit77.eq k)

def cycles83.l0 (k : Nat) (c : (ByteArray × ((List (Int × (ByteArray × (Int × (List (Int × (Int × (Int × (List (Int × (Int × (Int × Int)))))))))))) × ((List (Int × (Int × (Int × (List (Int × (Int × (Int × Int)))))))) × ((List (Int × (Int × (Int × (List (Int × (Int × (Int × Int)))))))) × (List (Int × (Int × (Int × (List (Int × (Int × (Int × Int))))))))))))) (op : Int) : Int → Option (Int ⊕ (Unit ⊕ ((List (Int × (Int × (Int × (List (Int × (Int × (Int × Int)))))))) × Unit)))
  | t23 =>
    cond (decide (t23 < (List.length c.2.1 : Int)))
      ((rd c.2.1 t23).bind fun t25 =>
      cond (cond (cond (t25.1 == op) (decide (op ≥ 0)) false) (decide (op ≤ 255)) false)
        (some (Sum.inr (Sum.inr (t25.2.2.2, ()))))
        (some (Sum.inl (w64 (t23 + 1)))))
      (some (Sum.inr (Sum.inl ())))
def cycles83 (k : Nat) (c : (ByteArray × ((List (Int × (ByteArray × (Int × (List (Int × (Int × (Int × (List (Int × (Int × (Int × Int)))))))))))) × ((List (Int × (Int × (Int × (List (Int × (Int × (Int × Int)))))))) × ((List (Int × (Int × (Int × (List (Int × (Int × (Int × Int)))))))) × (List (Int × (Int × (Int × (List (Int × (Int × (Int × Int))))))))))))) (op : Int) : Option ((List (Int × (Int × (Int × (List (Int × (Int × (Int × Int)))))))) × Unit) :=
  cond (op == 256)
    (some (c.2.2.2.1, ()))
    (cond (op == 257)
      (some (c.2.2.2.2, ()))
      (cond (op == 258)
        (some (c.2.2.1, ()))
        (Option.bind
          (loopN (cycles83.l0 k c op) k 0 : Option (Unit ⊕ ((List (Int × (Int × (Int × (List (Int × (Int × (Int × Int)))))))) × Unit))) (joined fun (_ : Unit) =>
          some ([], ())))))
def cycles83.A : Ann := { conds := [], blocks := [(1, ⟨[], [], 0, [], 4398038122576⟩)], loops := [(9, ⟨[(23, .int .i64)], [], 0, [], 4398038122576⟩)], keeps := [2, 6], orders := [] }
def cycles83.S : Sig := { f := 83, params := [.st (.pair .str (.pair (.sl (.st (.pair (.int .i64) (.pair .str (.pair (.int .i64) (.sl (.st (.pair (.int .i64) (.pair (.int .i64) (.pair (.int .i64) (.sl (.st (.pair (.int .i64) (.pair (.int .i64) (.pair (.int .i64) (.int .i64)))))))))))))))) (.pair (.sl (.st (.pair (.int .i64) (.pair (.int .i64) (.pair (.int .i64) (.sl (.st (.pair (.int .i64) (.pair (.int .i64) (.pair (.int .i64) (.int .i64))))))))))) (.pair (.sl (.st (.pair (.int .i64) (.pair (.int .i64) (.pair (.int .i64) (.sl (.st (.pair (.int .i64) (.pair (.int .i64) (.pair (.int .i64) (.int .i64))))))))))) (.sl (.st (.pair (.int .i64) (.pair (.int .i64) (.pair (.int .i64) (.sl (.st (.pair (.int .i64) (.pair (.int .i64) (.pair (.int .i64) (.int .i64))))))))))))))), .int .i64], objs := [], res := .sl (.st (.pair (.int .i64) (.pair (.int .i64) (.pair (.int .i64) (.sl (.st (.pair (.int .i64) (.pair (.int .i64) (.pair (.int .i64) (.int .i64)))))))))), outs := [], fix := [], run := fun k ds os => cycles83 k ds.1 ds.2 }
def cycles83.G : List Sig := []
theorem cycles83.eq (k : Nat) : ∀ ds os, cycles83.S.run k ds os = runF ⟨types, cycles83.G, cycles83.A, k, 0, []⟩ Try.f83 (codeOf Try.f83) cycles83.S.params cycles83.S.objs cycles83.S.res cycles83.S.outs ds os := by
  intro ds os; kernel_rfl
theorem cycles83.dr : DrOk Try.prog cycles83.A (codeOf Try.f83) := ⟨by kernel_rfl, by kernel_rfl⟩
theorem cycles83.ok (k : Nat) : SoundAt Try.prog k cycles83.S :=
  runF_sound (X := ⟨types, cycles83.G, cycles83.A, k, 0, []⟩) types_ok (fun s hs => absurd hs List.not_mem_nil) (fn := Try.f83) (c := codeOf Try.f83) rfl (by kernel_rfl) rfl rfl cycles83.dr (cycles83.eq k)
end Go.Proofs.Ytcppmlgnceldmaa.Ge

/- Go functions as plain Lean functions, and their contracts. -/
set_option linter.unusedVariables false
set_option maxRecDepth 100000
noncomputable section
namespace Go.Proofs.Ytcppmlgnceldmaa.Ge
open Go Go.Proofs.Ytcppmlgnceldmaa.Gp
def start78.l0 (k : Nat) (irq : Bool) : ((ByteArray × ((List (Int × (ByteArray × (Int × (List (Int × (Int × (Int × (List (Int × (Int × (Int × Int)))))))))))) × ((List (Int × (Int × (Int × (List (Int × (Int × (Int × Int)))))))) × ((List (Int × (Int × (Int × (List (Int × (Int × (Int × Int)))))))) × (List (Int × (Int × (Int × (List (Int × (Int × (Int × Int)))))))))))) × (Unit × (Unit × (Unit × (Int × (((List Int) × (Int × (Int × Bool))) × (((List Int) × (Int × (Int × Bool))) × (List Int)))))))) → Option (((ByteArray × ((List (Int × (ByteArray × (Int × (List (Int × (Int × (Int × (List (Int × (Int × (Int × Int)))))))))))) × ((List (Int × (Int × (Int × (List (Int × (Int × (Int × Int)))))))) × ((List (Int × (Int × (Int × (List (Int × (Int × (Int × Int)))))))) × (List (Int × (Int × (Int × (List (Int × (Int × (Int × Int)))))))))))) × (Unit × (Unit × (Unit × (Int × (((List Int) × (Int × (Int × Bool))) × (((List Int) × (Int × (Int × Bool))) × (List Int)))))))) ⊕ ((Unit × (Unit × (((List Int) × (Int × (Int × Bool))) × ((List Int) × (Int × (Int × Bool)))))) ⊕ (((List Int) × (Int × (Int × Bool))) × Unit)))
  | (c_1, _, _, _, t12, o0, o1, o2) =>
    cond (decide (t12 < (List.length ([257, 256] : List Int) : Int)))
      ((rd o2 t12).bind fun _ =>
      (rd o2 t12).bind fun t15 =>
      Option.bind
        (cond (t15 == 256)
          (Option.bind (cond irq
            ((if 0 ≤ 4 ∧ 4 < 9 then some () else none).bind fun _ =>
            (rd o0.1 4).bind fun t24 =>
            some ((ibits .and .i64 t24 4) == 0))
            (some false)) fun t27 =>
          some (c_1, (), (), t27, (), o0, o1, o2))
          (some (c_1, (), (), o0.2.2.2, (), o0, o1, o2)) : Option ((ByteArray × ((List (Int × (ByteArray × (Int × (List (Int × (Int × (Int × (List (Int × (Int × (Int × Int)))))))))))) × ((List (Int × (Int × (Int × (List (Int × (Int × (Int × Int)))))))) × ((List (Int × (Int × (Int × (List (Int × (Int × (Int × Int)))))))) × (List (Int × (Int × (Int × (List (Int × (Int × (Int × Int)))))))))))) × (Unit × (Unit × (Bool × (Unit × (((List Int) × (Int × (Int × Bool))) × (((List Int) × (Int × (Int × Bool))) × (List Int))))))))) fun ((c_2, _, _, waits, _, o0_1, o1_1, o2_1) : ((ByteArray × ((List (Int × (ByteArray × (Int × (List (Int × (Int × (Int × (List (Int × (Int × (Int × Int)))))))))))) × ((List (Int × (Int × (Int × (List (Int × (Int × (Int × Int)))))))) × ((List (Int × (Int × (Int × (List (Int × (Int × (Int × Int)))))))) × (List (Int × (Int × (Int × (List (Int × (Int × (Int × Int)))))))))))) × (Unit × (Unit × (Bool × (Unit × (((List Int) × (Int × (Int × Bool))) × (((List Int) × (Int × (Int × Bool))) × (List Int))))))))) =>
      Option.bind (cond waits
        ((cycles83 k c_2 t15).bind fun t32 =>
        some (decide ((List.length t32.1 : Int) > 0)))
        (some false)) fun t35 =>
      cond t35
        (Option.bind
          (cond (t15 == 257)
            (some ((), (), (o0_1.1, o0_1.2.1, o0_1.2.2.1, false), o1_1))
            (some ((), (), o0_1, o1_1)) : Option (Unit × (Unit × (((List Int) × (Int × (Int × Bool))) × ((List Int) × (Int × (Int × Bool))))))) fun ((_, _, o0_2, _) : (Unit × (Unit × (((List Int) × (Int × (Int × Bool))) × ((List Int) × (Int × (Int × Bool))))))) =>
        some (Sum.inr (Sum.inr ((o0_2.1, t15, 0, o0_2.2.2.2), ()))))
        (some (Sum.inl (c_2, (), (), (), (w64 (t12 + 1)), o0_1, o1_1, o2_1))))
      (some (Sum.inr (Sum.inl ((), (), o0, o1))))
def start78 (k : Nat) (c : (ByteArray × ((List (Int × (ByteArray × (Int × (List (Int × (Int × (Int × (List (Int × (Int × (Int × Int)))))))))))) × ((List (Int × (Int × (Int × (List (Int × (Int × (Int × Int)))))))) × ((List (Int × (Int × (Int × (List (Int × (Int × (Int × Int)))))))) × (List (Int × (Int × (Int × (List (Int × (Int × (Int × Int))))))))))))) (k_ : ((List Int) × (Int × (Int × Bool)))) (irq : Bool) : Option (((List Int) × (Int × (Int × Bool))) × Unit) :=
  Option.bind
    (loopN (start78.l0 k irq) k (c, (), (), (), 0, k_, ((List.replicate 9 0), 0, 0, false), ([257, 256] : List Int)) : Option ((Unit × (Unit × (((List Int) × (Int × (Int × Bool))) × ((List Int) × (Int × (Int × Bool)))))) ⊕ (((List Int) × (Int × (Int × Bool))) × Unit))) (joined fun ((_, _, o0_3, _) : (Unit × (Unit × (((List Int) × (Int × (Int × Bool))) × ((List Int) × (Int × (Int × Bool))))))) =>
    some (o0_3, ()))
def start78.A : Ann := { conds := [(1245190, ⟨[(3, .fp (.st (.pair .str (.pair (.sl (.st (.pair (.int .i64) (.pair .str (.pair (.int .i64) (.sl (.st (.pair (.int .i64) (.pair (.int .i64) (.pair (.int .i64) (.sl (.st (.pair (.int .i64) (.pair (.int .i64) (.pair (.int .i64) (.int .i64)))))))))))))))) (.pair (.sl (.st (.pair (.int .i64) (.pair (.int .i64) (.pair (.int .i64) (.sl (.st (.pair (.int .i64) (.pair (.int .i64) (.pair (.int .i64) (.int .i64))))))))))) (.pair (.sl (.st (.pair (.int .i64) (.pair (.int .i64) (.pair (.int .i64) (.sl (.st (.pair (.int .i64) (.pair (.int .i64) (.pair (.int .i64) (.int .i64))))))))))) (.sl (.st (.pair (.int .i64) (.pair (.int .i64) (.pair (.int .i64) (.sl (.st (.pair (.int .i64) (.pair (.int .i64) (.pair (.int .i64) (.int .i64))))))))))))))))), (4, .ptr 0 []), (6, .ptr 1 []), (9, .bool), (10, .ms 2)], [(0, .var (.st (.pair (.arr 9 (.int .i64)) (.pair (.int .i64) (.pair (.int .i64) .bool))))), (1, .var (.st (.pair (.arr 9 (.int .i64)) (.pair (.int .i64) (.pair (.int .i64) .bool))))), (2, .row (.int .i64))], 3, [], 267387392⟩), (2424841, ⟨[(4, .ptr 0 []), (6, .ptr 1 [])], [(0, .var (.st (.pair (.arr 9 (.int .i64)) (.pair (.int .i64) (.pair (.int .i64) .bool))))), (1, .var (.st (.pair (.arr 9 (.int .i64)) (.pair (.int .i64) (.pair (.int .i64) .bool)))))], 2, [], 274877906944⟩)], blocks := [(0, ⟨[(4, .ptr 0 []), (6, .ptr 1 [])], [(0, .var (.st (.pair (.arr 9 (.int .i64)) (.pair (.int .i64) (.pair (.int .i64) .bool))))), (1, .var (.st (.pair (.arr 9 (.int .i64)) (.pair (.int .i64) (.pair (.int .i64) .bool)))))], 2, [], 17592186041088⟩)], loops := [(2, ⟨[(3, .fp (.st (.pair .str (.pair (.sl (.st (.pair (.int .i64) (.pair .str (.pair (.int .i64) (.sl (.st (.pair (.int .i64) (.pair (.int .i64) (.pair (.int .i64) (.sl (.st (.pair (.int .i64) (.pair (.int .i64) (.pair (.int .i64) (.int .i64)))))))))))))))) (.pair (.sl (.st (.pair (.int .i64) (.pair (.int .i64) (.pair (.int .i64) (.sl (.st (.pair (.int .i64) (.pair (.int .i64) (.pair (.int .i64) (.int .i64))))))))))) (.pair (.sl (.st (.pair (.int .i64) (.pair (.int .i64) (.pair (.int .i64) (.sl (.st (.pair (.int .i64) (.pair (.int .i64) (.pair (.int .i64) (.int .i64))))))))))) (.sl (.st (.pair (.int .i64) (.pair (.int .i64) (.pair (.int .i64) (.sl (.st (.pair (.int .i64) (.pair (.int .i64) (.pair (.int .i64) (.int .i64))))))))))))))))), (4, .ptr 0 []), (6, .ptr 1 []), (10, .ms 2), (12, .int .i64)], [(0, .var (.st (.pair (.arr 9 (.int .i64)) (.pair (.int .i64) (.pair (.int .i64) .bool))))), (1, .var (.st (.pair (.arr 9 (.int .i64)) (.pair (.int .i64) (.pair (.int .i64) .bool))))), (2, .row (.int .i64))], 3, [], 17592186041088⟩)], keeps := [3], orders := [] }
def start78.S : Sig := { f := 78, params := [.st (.pair .str (.pair (.sl (.st (.pair (.int .i64) (.pair .str (.pair (.int .i64) (.sl (.st (.pair (.int .i64) (.pair (.int .i64) (.pair (.int .i64) (.sl (.st (.pair (.int .i64) (.pair (.int .i64) (.pair (.int .i64) (.int .i64)))))))))))))))) (.pair (.sl (.st (.pair (.int .i64) (.pair (.int .i64) (.pair (.int .i64) (.sl (.st (.pair (.int .i64) (.pair (.int .i64) (.pair (.int .i64) (.int .i64))))))))))) (.pair (.sl (.st (.pair (.int .i64) (.pair (.int .i64) (.pair (.int .i64) (.sl (.st (.pair (.int .i64) (.pair (.int .i64) (.pair (.int .i64) (.int .i64))))))))))) (.sl (.st (.pair (.int .i64) (.pair (.int .i64) (.pair (.int .i64) (.sl (.st (.pair (.int .i64) (.pair (.int .i64) (.pair (.int .i64) (.int .i64))))))))))))))), .st (.pair (.arr 9 (.int .i64)) (.pair (.int .i64) (.pair (.int .i64) .bool))), .bool], objs := [], res := .st (.pair (.arr 9 (.int .i64)) (.pair (.int .i64) (.pair (.int .i64) .bool))), outs := [], fix := [], run := fun k ds os => start78 k ds.1 ds.2.1 ds.2.2 }
def start78.G : List Sig := [cycles83.S]
theorem start78.eq (k : Nat) : ∀ ds os, start78.S.run k ds os = runF ⟨types, start78.G, start78.A, k, 0, []⟩ Try.f78 (codeOf Try.f78) start78.S.params start78.S.objs start78.S.res start78.S.outs ds os := by
  intro ds os; kernel_rfl
theorem start78.dr : DrOk Try.prog start78.A (codeOf Try.f78) := ⟨by kernel_rfl, by kernel_rfl⟩
theorem start78.ok (k : Nat) : SoundAt Try.prog k start78.S :=
  runF_sound (X := ⟨types, start78.G, start78.A, k, 0, []⟩) types_ok (mem_all (⟨cycles83.ok k, trivial⟩)) (fn := Try.f78) (c := codeOf Try.f78) rfl (by kernel_rfl) rfl rfl start78.dr (start78.eq k)

def fixed107 (k : Nat) (at_ : Int) : Option (Int × Unit) :=
  (rd ([65534, 65535, 65530, 65531, 65532, 65533] : List Int) (w64 (at_ - 6))).bind fun _ =>
  (rd ([65534, 65535, 65530, 65531, 65532, 65533] : List Int) (w64 (at_ - 6))).bind fun t7 =>
  some (t7, ())
def fixed107.A : Ann := { conds := [], blocks := [], loops := [], keeps := [], orders := [] }
def fixed107.S : Sig := { f := 107, params := [.int .i64], objs := [], res := .int .i64, outs := [], fix := [], run := fun k ds os => fixed107 k ds }
def fixed107.G : List Sig := []
theorem fixed107.eq (k : Nat) : ∀ ds os, fixed107.S.run k ds os = runF ⟨types, fixed107.G, fixed107.A, k, 0, []⟩ Try.f107 (codeOf Try.f107) fixed107.S.params fixed107.S.objs fixed107.S.res fixed107.S.outs ds os := by
  intro ds os; kernel_rfl
theorem fixed107.dr : DrOk Try.prog fixed107.A (codeOf Try.f107) := ⟨by kernel_rfl, by kernel_rfl⟩
theorem fixed107.ok (k : Nat) : SoundAt Try.prog k fixed107.S :=
  runF_sound (X := ⟨types, fixed107.G, fixed107.A, k, 0, []⟩) types_ok (fun s hs => absurd hs List.not_mem_nil) (fn := Try.f107) (c := codeOf Try.f107) rfl (by kernel_rfl) rfl rfl fixed107.dr (fixed107.eq k)

def place79 (k : Nat) (at_ : Int) (r : (List Int)) : Option ((Int × ((List Int) × Unit)) × Unit) :=
  cond (at_ == 0)
    ((if 0 ≤ 7 ∧ 7 < 9 then some () else none).bind fun _ =>
    (rd r 7).bind fun t12 =>
    (Low47 k (w64 (t12 + 1)) 16).bind fun t15 =>
    (if 0 ≤ 7 ∧ 7 < 9 then some () else none).bind fun _ =>
    (rd r 7).bind fun _ =>
    some ((t12, (List.set r (Int.toNat 7) t15.1), ()), ()))
    (cond (at_ == 1)
      ((if 0 ≤ 7 ∧ 7 < 9 then some () else none).bind fun _ =>
      (rd r 7).bind fun t22 =>
      some ((t22, r, ()), ()))
      (cond (at_ == 2)
        ((if 0 ≤ 8 ∧ 8 < 9 then some () else none).bind fun _ =>
        (rd r 8).bind fun t27 =>
        some ((t27, r, ()), ()))
        (cond (at_ == 3)
          ((if 0 ≤ 8 ∧ 8 < 9 then some () else none).bind fun _ =>
          (rd r 8).bind fun t32 =>
          (Low47 k (w64 (t32 + 1)) 16).bind fun t34 =>
          some ((t34.1, r, ()), ()))
          (cond (at_ == 4)
            ((if 0 ≤ 3 ∧ 3 < 9 then some () else none).bind fun _ =>
            (rd r 3).bind fun t39 =>
            (if 0 ≤ 3 ∧ 3 < 9 then some () else none).bind fun _ =>
            (rd r 3).bind fun t42 =>
            (Low47 k (w64 (t42 - 1)) 8).bind fun t44 =>
            (if 0 ≤ 3 ∧ 3 < 9 then some () else none).bind fun _ =>
            (rd r 3).bind fun _ =>
            some (((w64 (256 + t39)), (List.set r (Int.toNat 3) t44.1), ()), ()))
            (cond (at_ == 5)
              ((if 0 ≤ 3 ∧ 3 < 9 then some () else none).bind fun _ =>
              (rd r 3).bind fun t51 =>
              (Low47 k (w64 (t51 + 1)) 8).bind fun t53 =>
              (if 0 ≤ 3 ∧ 3 < 9 then some () else none).bind fun _ =>
              (rd r 3).bind fun _ =>
              (if 0 ≤ 3 ∧ 3 < 9 then some () else none).bind fun _ =>
              (rd (List.set r (Int.toNat 3) t53.1) 3).bind fun t56 =>
              some (((w64 (256 + t56)), (List.set r (Int.toNat 3) t53.1), ()), ()))
              (cond (cond (decide (at_ < 0)) true (decide (at_ ≥ 12)))
                (some ((0, r, ()), ()))
                ((fixed107 k at_).bind fun t67 =>
                some ((t67.1, r, ()), ()))))))))
def place79.A : Ann := { conds := [], blocks := [], loops := [], keeps := [], orders := [(5, [(0, .strong), (1, .strong), (2, .strong), (3, .eff false)]), (7, [(0, .strong), (1, .strong), (2, .strong), (3, .strong), (4, .eff false)]), (9, [(0, .strong), (1, .strong), (2, .strong), (3, .strong), (4, .eff false)]), (11, [(0, .strong), (1, .strong), (2, .strong), (4, .strong), (3, .eff true), (5, .strong), (6, .eff false)]), (15, [(0, .strong), (1, .strong), (2, .strong), (3, .eff false)]), (18, [(0, .strong), (1, .strong), (2, .strong), (3, .strong), (4, .strong), (5, .eff false)]), (20, [(0, .strong), (1, .strong), (2, .eff false)]), (21, [(0, .strong), (2, .strong), (1, .eff true), (3, .strong), (4, .eff false)])] }
def place79.S : Sig := { f := 79, params := [.int .i64, .arr 9 (.int .i64)], objs := [], res := .tup (.pair (.int .i64) (.pair (.arr 9 (.int .i64)) .unit)), outs := [], fix := [], run := fun k ds os => place79 k ds.1 ds.2 }
def place79.G : List Sig := [Low47.S, fixed107.S]
theorem place79.eq (k : Nat) : ∀ ds os, place79.S.run k ds os = runF ⟨types, place79.G, place79.A, k, 0, []⟩ Try.f79 (codeOf Try.f79) place79.S.params place79.S.objs place79.S.res place79.S.outs ds os := by
  intro ds os; kernel_rfl
theorem place79.dr : DrOk Try.prog place79.A (codeOf Try.f79) := ⟨by kernel_rfl, by kernel_rfl⟩
theorem place79.ok (k : Nat) : SoundAt Try.prog k place79.S :=
  runF_sound (X := ⟨types, place79.G, place79.A, k, 0, []⟩) types_ok (mem_all (⟨Low47.ok k, ⟨fixed107.ok k, trivial⟩⟩)) (fn := Try.f79) (c := codeOf Try.f79) rfl (by kernel_rfl) rfl rfl place79.dr (place79.eq k)
end Go.Proofs.Ytcppmlgnceldmaa.Ge

/- Go functions as plain Lean functions, and their contracts. -/
set_option linter.unusedVariables false
set_option maxRecDepth 100000
noncomputable section
namespace Go.Proofs.Ytcppmlgnceldmaa.Ge
open Go Go.Proofs.Ytcppmlgnceldmaa.Gp
def doing80 (k : Nat) (c : (ByteArray × ((List (Int × (ByteArray × (Int × (List (Int × (Int × (Int × (List (Int × (Int × (Int × Int)))))))))))) × ((List (Int × (Int × (Int × (List (Int × (Int × (Int × Int)))))))) × ((List (Int × (Int × (Int × (List (Int × (Int × (Int × Int)))))))) × (List (Int × (Int × (Int × (List (Int × (Int × (Int × Int))))))))))))) (k_ : ((List Int) × (Int × (Int × Bool)))) : Option (((Int × (Int × (Int × (List (Int × (Int × (Int × Int))))))) × (Bool × Unit)) × Unit) :=
  (cycles83 k c k_.2.1).bind fun t10 =>
  cond (cond (cond (k_.2.1 == (-1)) true (decide (k_.2.2.1 < 0))) true (decide (k_.2.2.1 ≥ (List.length t10.1 : Int))))
    (some (((0, 0, 0, []), false, ()), ()))
    ((rd t10.1 k_.2.2.1).bind fun t30 =>
    some ((t30, true, ()), ()))
def doing80.A : Ann := { conds := [], blocks := [], loops := [], keeps := [2, 3], orders := [] }
def doing80.S : Sig := { f := 80, params := [.st (.pair .str (.pair (.sl (.st (.pair (.int .i64) (.pair .str (.pair (.int .i64) (.sl (.st (.pair (.int .i64) (.pair (.int .i64) (.pair (.int .i64) (.sl (.st (.pair (.int .i64) (.pair (.int .i64) (.pair (.int .i64) (.int .i64)))))))))))))))) (.pair (.sl (.st (.pair (.int .i64) (.pair (.int .i64) (.pair (.int .i64) (.sl (.st (.pair (.int .i64) (.pair (.int .i64) (.pair (.int .i64) (.int .i64))))))))))) (.pair (.sl (.st (.pair (.int .i64) (.pair (.int .i64) (.pair (.int .i64) (.sl (.st (.pair (.int .i64) (.pair (.int .i64) (.pair (.int .i64) (.int .i64))))))))))) (.sl (.st (.pair (.int .i64) (.pair (.int .i64) (.pair (.int .i64) (.sl (.st (.pair (.int .i64) (.pair (.int .i64) (.pair (.int .i64) (.int .i64))))))))))))))), .st (.pair (.arr 9 (.int .i64)) (.pair (.int .i64) (.pair (.int .i64) .bool)))], objs := [], res := .tup (.pair (.st (.pair (.int .i64) (.pair (.int .i64) (.pair (.int .i64) (.sl (.st (.pair (.int .i64) (.pair (.int .i64) (.pair (.int .i64) (.int .i64)))))))))) (.pair .bool .unit)), outs := [], fix := [], run := fun k ds os => doing80 k ds.1 ds.2 }
def doing80.G : List Sig := [cycles83.S]
theorem doing80.eq (k : Nat) : ∀ ds os, doing80.S.run k ds os = runF ⟨types, doing80.G, doing80.A, k, 0, []⟩ Try.f80 (codeOf Try.f80) doing80.S.params doing80.S.objs doing80.S.res doing80.S.outs ds os := by
  intro ds os; kernel_rfl
theorem doing80.dr : DrOk Try.prog doing80.A (codeOf Try.f80) := ⟨by kernel_rfl, by kernel_rfl⟩
theorem doing80.ok (k : Nat) : SoundAt Try.prog k doing80.S :=
  runF_sound (X := ⟨types, doing80.G, doing80.A, k, 0, []⟩) types_ok (mem_all (⟨cycles83.ok k, trivial⟩)) (fn := Try.f80) (c := codeOf Try.f80) rfl (by kernel_rfl) rfl rfl doing80.dr (doing80.eq k)

def Ask43 (k : Nat) (c : (ByteArray × ((List (Int × (ByteArray × (Int × (List (Int × (Int × (Int × (List (Int × (Int × (Int × Int)))))))))))) × ((List (Int × (Int × (Int × (List (Int × (Int × (Int × Int)))))))) × ((List (Int × (Int × (Int × (List (Int × (Int × (Int × Int)))))))) × (List (Int × (Int × (Int × (List (Int × (Int × (Int × Int))))))))))))) (k_ : ((List Int) × (Int × (Int × Bool)))) (irq : Bool) : Option ((((List Int) × (Int × (Int × Bool))) × ((Int × (Int × Int)) × Unit)) × Unit) :=
  (Fit77 k k_.1).bind fun t15 =>
  Option.bind
    (cond (k_.2.1 == (-1))
      ((start78 k c (t15.1, k_.2) irq).bind fun t23 =>
      some (c, (), (), (), t23.1, ((List.replicate 9 0), 0, 0, false), 0, 0, 0))
      (some (c, (), (), (), (t15.1, k_.2), ((List.replicate 9 0), 0, 0, false), 0, 0, 0)) : Option ((ByteArray × ((List (Int × (ByteArray × (Int × (List (Int × (Int × (Int × (List (Int × (Int × (Int × Int)))))))))))) × ((List (Int × (Int × (Int × (List (Int × (Int × (Int × Int)))))))) × ((List (Int × (Int × (Int × (List (Int × (Int × (Int × Int)))))))) × (List (Int × (Int × (Int × (List (Int × (Int × (Int × Int)))))))))))) × (Unit × (Unit × (Unit × (((List Int) × (Int × (Int × Bool))) × (((List Int) × (Int × (Int × Bool))) × (Int × (Int × Int))))))))) fun ((c_1, _, _, _, o0, o1, o2) : ((ByteArray × ((List (Int × (ByteArray × (Int × (List (Int × (Int × (Int × (List (Int × (Int × (Int × Int)))))))))))) × ((List (Int × (Int × (Int × (List (Int × (Int × (Int × Int)))))))) × ((List (Int × (Int × (Int × (List (Int × (Int × (Int × Int)))))))) × (List (Int × (Int × (Int × (List (Int × (Int × (Int × Int)))))))))))) × (Unit × (Unit × (Unit × (((List Int) × (Int × (Int × Bool))) × (((List Int) × (Int × (Int × Bool))) × (Int × (Int × Int))))))))) =>
  cond (o0.2.1 == (-1))
    ((place79 k 0 o0.1).bind fun t30 =>
    some (((t30.1.2.1, o0.2), (1, t30.1.1, 0), ()), ()))
    ((doing80 k c_1 o0).bind fun t41 =>
    cond (cond (!t41.1.2.1) true (t41.1.1.1 == 0))
      (some ((o0, (0, 0, 0), ()), ()))
      (Option.bind
        (cond (cond (cond (t41.1.1.1 == 2) (decide (t41.1.1.2.2.1 ≥ 0)) false) (decide (t41.1.1.2.2.1 < 9)) false)
          ((if 0 ≤ t41.1.1.2.2.1 ∧ t41.1.1.2.2.1 < 9 then some () else none).bind fun _ =>
          (rd o0.1 t41.1.1.2.2.1).bind fun t73 =>
          (Low47 k t73 8).bind fun t74 =>
          some ((), (), (), t41.1.1, (), o0, o1, o2, t41.1.1.1, 0, t74.1))
          (some ((), (), (), t41.1.1, (), o0, o1, o2, t41.1.1.1, 0, 0)) : Option (Unit × (Unit × (Unit × ((Int × (Int × (Int × (List (Int × (Int × (Int × Int))))))) × (Unit × (((List Int) × (Int × (Int × Bool))) × (((List Int) × (Int × (Int × Bool))) × ((Int × (Int × Int)) × (Int × (Int × Int))))))))))) fun ((_, _, _, x, _, o0_1, _, _, o4) : (Unit × (Unit × (Unit × ((Int × (Int × (Int × (List (Int × (Int × (Int × Int))))))) × (Unit × (((List Int) × (Int × (Int × Bool))) × (((List Int) × (Int × (Int × Bool))) × ((Int × (Int × Int)) × (Int × (Int × Int))))))))))) =>
      (place79 k x.2.1 o0_1.1).bind fun t81 =>
      some (((t81.1.2.1, o0_1.2), (o4.1, t81.1.1, o4.2.2), ()), ())))
def Ask43.A : Ann := { conds := [(1245187, ⟨[(3, .fp (.st (.pair .str (.pair (.sl (.st (.pair (.int .i64) (.pair .str (.pair (.int .i64) (.sl (.st (.pair (.int .i64) (.pair (.int .i64) (.pair (.int .i64) (.sl (.st (.pair (.int .i64) (.pair (.int .i64) (.pair (.int .i64) (.int .i64)))))))))))))))) (.pair (.sl (.st (.pair (.int .i64) (.pair (.int .i64) (.pair (.int .i64) (.sl (.st (.pair (.int .i64) (.pair (.int .i64) (.pair (.int .i64) (.int .i64))))))))))) (.pair (.sl (.st (.pair (.int .i64) (.pair (.int .i64) (.pair (.int .i64) (.sl (.st (.pair (.int .i64) (.pair (.int .i64) (.pair (.int .i64) (.int .i64))))))))))) (.sl (.st (.pair (.int .i64) (.pair (.int .i64) (.pair (.int .i64) (.sl (.st (.pair (.int .i64) (.pair (.int .i64) (.pair (.int .i64) (.int .i64))))))))))))))))), (4, .ptr 0 []), (6, .ptr 1 []), (7, .ptr 2 [])], [(0, .var (.st (.pair (.arr 9 (.int .i64)) (.pair (.int .i64) (.pair (.int .i64) .bool))))), (1, .var (.st (.pair (.arr 9 (.int .i64)) (.pair (.int .i64) (.pair (.int .i64) .bool))))), (2, .var (.st (.pair (.int .i64) (.pair (.int .i64) (.int .i64)))))], 3, [], 15728640⟩), (4456461, ⟨[(4, .ptr 0 []), (6, .ptr 1 []), (7, .ptr 2 []), (10, .fp (.st (.pair (.int .i64) (.pair (.int .i64) (.pair (.int .i64) (.sl (.st (.pair (.int .i64) (.pair (.int .i64) (.pair (.int .i64) (.int .i64))))))))))), (12, .ptr 4 [])], [(0, .var (.st (.pair (.arr 9 (.int .i64)) (.pair (.int .i64) (.pair (.int .i64) .bool))))), (1, .var (.st (.pair (.arr 9 (.int .i64)) (.pair (.int .i64) (.pair (.int .i64) .bool))))), (2, .var (.st (.pair (.int .i64) (.pair (.int .i64) (.int .i64))))), (4, .var (.st (.pair (.int .i64) (.pair (.int .i64) (.int .i64)))))], 5, [], 74967567915555617767424⟩)], blocks := [], loops := [], keeps := [3, 9, 10], orders := [(15, [(0, .strong), (1, .strong), (2, .eff true), (3, .eff true)])], touches := [(15, 6)] }
def Ask43.S : Sig := { f := 43, params := [.st (.pair .str (.pair (.sl (.st (.pair (.int .i64) (.pair .str (.pair (.int .i64) (.sl (.st (.pair (.int .i64) (.pair (.int .i64) (.pair (.int .i64) (.sl (.st (.pair (.int .i64) (.pair (.int .i64) (.pair (.int .i64) (.int .i64)))))))))))))))) (.pair (.sl (.st (.pair (.int .i64) (.pair (.int .i64) (.pair (.int .i64) (.sl (.st (.pair (.int .i64) (.pair (.int .i64) (.pair (.int .i64) (.int .i64))))))))))) (.pair (.sl (.st (.pair (.int .i64) (.pair (.int .i64) (.pair (.int .i64) (.sl (.st (.pair (.int .i64) (.pair (.int .i64) (.pair (.int .i64) (.int .i64))))))))))) (.sl (.st (.pair (.int .i64) (.pair (.int .i64) (.pair (.int .i64) (.sl (.st (.pair (.int .i64) (.pair (.int .i64) (.pair (.int .i64) (.int .i64))))))))))))))), .st (.pair (.arr 9 (.int .i64)) (.pair (.int .i64) (.pair (.int .i64) .bool))), .bool], objs := [], res := .tup (.pair (.st (.pair (.arr 9 (.int .i64)) (.pair (.int .i64) (.pair (.int .i64) .bool)))) (.pair (.st (.pair (.int .i64) (.pair (.int .i64) (.int .i64)))) .unit)), outs := [], fix := [], run := fun k ds os => Ask43 k ds.1 ds.2.1 ds.2.2 }
def Ask43.G : List Sig := [Fit77.S, Low47.S, doing80.S, place79.S, start78.S]
theorem Ask43.eq (k : Nat) : ∀ ds os, Ask43.S.run k ds os = runF ⟨types, Ask43.G, Ask43.A, k, 0, []⟩ Try.f43 (codeOf Try.f43) Ask43.S.params Ask43.S.objs Ask43.S.res Ask43.S.outs ds os := by
  intro ds os; kernel_rfl
theorem Ask43.dr : DrOk Try.prog Ask43.A (codeOf Try.f43) := ⟨by kernel_rfl, by kernel_rfl⟩
theorem Ask43.ok (k : Nat) : SoundAt Try.prog k Ask43.S :=
  runF_sound (X := ⟨types, Ask43.G, Ask43.A, k, 0, []⟩) types_ok (mem_all (⟨Fit77.ok k, ⟨Low47.ok k, ⟨doing80.ok k, ⟨place79.ok k, ⟨start78.ok k, trivial⟩⟩⟩⟩⟩)) (fn := Try.f43) (c := codeOf Try.f43) rfl (by kernel_rfl) rfl rfl Ask43.dr (Ask43.eq k)

def Byte22 (k : Nat) (addr : Int) : Option (Int × Unit) :=
  (Low47 k (w64 ((w64 ((w64 (7 * addr)) + (shrI .i64 addr 8))) + 3)) 8).bind fun t9 =>
  some (t9.1, ())
def Byte22.A : Ann := { conds := [], blocks := [], loops := [], keeps := [], orders := [] }
def Byte22.S : Sig := { f := 22, params := [.int .i64], objs := [], res := .int .i64, outs := [], fix := [], run := fun k ds os => Byte22 k ds }
def Byte22.G : List Sig := [Low47.S]
theorem Byte22.eq (k : Nat) : ∀ ds os, Byte22.S.run k ds os = runF ⟨types, Byte22.G, Byte22.A, k, 0, []⟩ Try.f22 (codeOf Try.f22) Byte22.S.params Byte22.S.objs Byte22.S.res Byte22.S.outs ds os := by
  intro ds os; kernel_rfl
theorem Byte22.dr : DrOk Try.prog Byte22.A (codeOf Try.f22) := ⟨by kernel_rfl, by kernel_rfl⟩
theorem Byte22.ok (k : Nat) : SoundAt Try.prog k Byte22.S :=
  runF_sound (X := ⟨types, Byte22.G, Byte22.A, k, 0, []⟩) types_ok (mem_all (⟨Low47.ok k, trivial⟩)) (fn := Try.f22) (c := codeOf Try.f22) rfl (by kernel_rfl) rfl rfl Byte22.dr (Byte22.eq k)

def Read44 (k : Nat) (_ : Unit) (addr : Int) (o0 : ((List Int) × Unit)) (o1 : (List (Int × Int))) : Option (Int × (((List Int) × Unit) × (List (Int × Int)))) :=
  let t14 : (Option Int) := (mget (.int .i64) (.int .i64) o1 addr)
  cond (Option.isSome t14)
    (some ((Option.getD (α := Int) t14 (0 : Int)), o0, o1))
    (let t20 : Int := (w64 (addr - 512))
    cond (cond (decide (t20 ≥ 0)) (decide (t20 < (List.length o0.1 : Int))) false)
      ((rd o0.1 t20).bind fun t37 =>
      some ((w64 t37), o0, o1))
      ((Byte22 k addr).bind fun t41 =>
      some (t41.1, o0, o1)))
def Read44.A : Ann := { conds := [], blocks := [], loops := [], keeps := [], orders := [] }
def Read44.S : Sig := { f := 44, params := [.ptr 0 [], .int .i64], objs := [.var (.st (.pair (.sl (.int .u8)) (.mm 1))), .map (.int .i64) (.int .i64)], res := .int .i64, outs := [.var (.st (.pair (.sl (.int .u8)) (.mm 1))), .map (.int .i64) (.int .i64)], fix := [], run := fun k ds os => Read44 k ds.1 ds.2 os.1 os.2 }
def Read44.G : List Sig := [Byte22.S]
theorem Read44.eq (k : Nat) : ∀ ds os, Read44.S.run k ds os = runF ⟨types, Read44.G, Read44.A, k, 0, []⟩ Try.f44 (codeOf Try.f44) Read44.S.params Read44.S.objs Read44.S.res Read44.S.outs ds os := by
  intro ds os; kernel_rfl
theorem Read44.dr : DrOk Try.prog Read44.A (codeOf Try.f44) := ⟨by kernel_rfl, by kernel_rfl⟩
theorem Read44.ok (k : Nat) : SoundAt Try.prog k Read44.S :=
  runF_sound (X := ⟨types, Read44.G, Read44.A, k, 0, []⟩) types_ok (mem_all (⟨Byte22.ok k, trivial⟩)) (fn := Try.f44) (c := codeOf Try.f44) rfl (by kernel_rfl) rfl rfl Read44.dr (Read44.eq k)

def Write45 (k : Nat) (_ : Unit) (addr : Int) (data : Int) (o0 : ((List Int) × Unit)) (o1 : (List (Int × Int))) : Option (Unit × (((List Int) × Unit) × (List (Int × Int)))) :=
  some ((), o0, (mput (.int .i64) (.int .i64) o1 addr data))
def Write45.A : Ann := { conds := [], blocks := [], loops := [], keeps := [], orders := [] }
def Write45.S : Sig := { f := 45, params := [.ptr 0 [], .int .i64, .int .i64], objs := [.var (.st (.pair (.sl (.int .u8)) (.mm 1))), .map (.int .i64) (.int .i64)], res := .tup .unit, outs := [.var (.st (.pair (.sl (.int .u8)) (.mm 1))), .map (.int .i64) (.int .i64)], fix := [], run := fun k ds os => Write45 k ds.1 ds.2.1 ds.2.2 os.1 os.2 }
def Write45.G : List Sig := []
theorem Write45.eq (k : Nat) : ∀ ds os, Write45.S.run k ds os = runF ⟨types, Write45.G, Write45.A, k, 0, []⟩ Try.f45 (codeOf Try.f45) Write45.S.params Write45.S.objs Write45.S.res Write45.S.outs ds os := by
  intro ds os; kernel_rfl
theorem Write45.dr : DrOk Try.prog Write45.A (codeOf Try.f45) := ⟨by kernel_rfl, by kernel_rfl⟩
theorem Write45.ok (k : Nat) : SoundAt Try.prog k Write45.S :=
  runF_sound (X := ⟨types, Write45.G, Write45.A, k, 0, []⟩) types_ok (fun s hs => absurd hs List.not_mem_nil) (fn := Try.f45) (c := codeOf Try.f45) rfl (by kernel_rfl) rfl rfl Write45.dr (Write45.eq k)

def Find185 (k : Nat) (x : (Int × (ByteArray × (Int × (List (Int × (Int × (Int × (List (Int × (Int × (Int × Int)))))))))))) (t1 : Int) : Option (Bool × Unit) :=
  some ((x.1 == t1), ())
def Find185.A : Ann := { conds := [], blocks := [], loops := [], keeps := [2], orders := [] }
def Find185.S : Sig := { f := 85, params := [.st (.pair (.int .i64) (.pair .str (.pair (.int .i64) (.sl (.st (.pair (.int .i64) (.pair (.int .i64) (.pair (.int .i64) (.sl (.st (.pair (.int .i64) (.pair (.int .i64) (.pair (.int .i64) (.int .i64)))))))))))))), .fp (.int .i64)], objs := [], res := .bool, outs := [], fix := [], run := fun k ds os => Find185 k ds.1 ds.2 }
def Find185.G : List Sig := []
theorem Find185.eq (k : Nat) : ∀ ds os, Find185.S.run k ds os = runF ⟨types, Find185.G, Find185.A, k, 0, []⟩ Try.f85 (codeOf Try.f85) Find185.S.params Find185.S.objs Find185.S.res Find185.S.outs ds os := by
  intro ds os; kernel_rfl
theorem Find185.dr : DrOk Try.prog Find185.A (codeOf Try.f85) := ⟨by kernel_rfl, by kernel_rfl⟩
theorem Find185.ok (k : Nat) : SoundAt Try.prog k Find185.S :=
  runF_sound (X := ⟨types, Find185.G, Find185.A, k, 0, []⟩) types_ok (fun s hs => absurd hs List.not_mem_nil) (fn := Try.f85) (c := codeOf Try.f85) rfl (by kernel_rfl) rfl rfl Find185.dr (Find185.eq k)
end Go.Proofs.Ytcppmlgnceldmaa.Ge

/- Go functions as plain Lean functions, and their contracts. -/
set_option linter.unusedVariables false
set_option maxRecDepth 100000
noncomputable section
namespace Go.Proofs.Ytcppmlgnceldmaa.Ge
open Go Go.Proofs.Ytcppmlgnceldmaa.Gp
def IndexFunc50'.l0 (k : Nat) (s : (List (Int × (ByteArray × (Int × (List (Int × (Int × (Int × (List (Int × (Int × (Int × Int))))))))))))) : ((Int × Unit) × Int) → Option (((Int × Unit) × Int) ⊕ (Unit ⊕ (Int × Unit)))
  | (f_1, t8) =>
    cond (decide (t8 < (List.length s : Int)))
      ((rd s t8).bind fun t14 =>
      (Find185 k t14 f_1.1).bind fun t16 =>
      cond t16.1
        (some (Sum.inr (Sum.inr (t8, ()))))
        (some (Sum.inl (f_1, (w64 (t8 + 1))))))
      (some (Sum.inr (Sum.inl ())))
def IndexFunc50' (k : Nat) (s : (List (Int × (ByteArray × (Int × (List (Int × (Int × (Int × (List (Int × (Int × (Int × Int))))))))))))) (f : (Int × Unit)) : Option (Int × Unit) :=
  Option.bind
    (loopN (IndexFunc50'.l0 k s) k (f, 0) : Option (Unit ⊕ (Int × Unit))) (joined fun (_ : Unit) =>
    some ((-1), ()))
def IndexFunc50'.A : Ann := { conds := [], blocks := [(0, ⟨[], [], 0, [], 524080⟩)], loops := [(2, ⟨[(1, .fn 85 (.pair (.fp (.int .i64)) .unit)), (8, .int .i64)], [], 0, [], 524080⟩)], keeps := [], orders := [] }
def IndexFunc50'.S : Sig := { f := 50, params := [.sl (.st (.pair (.int .i64) (.pair .str (.pair (.int .i64) (.sl (.st (.pair (.int .i64) (.pair (.int .i64) (.pair (.int .i64) (.sl (.st (.pair (.int .i64) (.pair (.int .i64) (.pair (.int .i64) (.int .i64))))))))))))))), .fn 85 (.pair (.fp (.int .i64)) .unit)], objs := [], res := .int .i64, outs := [], fix := [], run := fun k ds os => IndexFunc50' k ds.1 ds.2 }
def IndexFunc50'.G : List Sig := [Find185.S]
theorem IndexFunc50'.eq (k : Nat) : ∀ ds os, IndexFunc50'.S.run k ds os = runF ⟨types, IndexFunc50'.G, IndexFunc50'.A, k, 0, []⟩ Try.f50 (codeOf Try.f50) IndexFunc50'.S.params IndexFunc50'.S.objs IndexFunc50'.S.res IndexFunc50'.S.outs ds os := by
  intro ds os; kernel_rfl
theorem IndexFunc50'.dr : DrOk Try.prog IndexFunc50'.A (codeOf Try.f50) := ⟨by kernel_rfl, by kernel_rfl⟩
theorem IndexFunc50'.ok (k : Nat) : SoundAt Try.prog k IndexFunc50'.S :=
  runF_sound (X := ⟨types, IndexFunc50'.G, IndexFunc50'.A, k, 0, []⟩) types_ok (mem_all (⟨Find185.ok k, trivial⟩)) (fn := Try.f50) (c := codeOf Try.f50) rfl (by kernel_rfl) rfl rfl IndexFunc50'.dr (IndexFunc50'.eq k)

def Find52 (k : Nat) (c : (ByteArray × ((List (Int × (ByteArray × (Int × (List (Int × (Int × (Int × (List (Int × (Int × (Int × Int)))))))))))) × ((List (Int × (Int × (Int × (List (Int × (Int × (Int × Int)))))))) × ((List (Int × (Int × (Int × (List (Int × (Int × (Int × Int)))))))) × (List (Int × (Int × (Int × (List (Int × (Int × (Int × Int))))))))))))) (op : Int) : Option (((Int × (ByteArray × (Int × (List (Int × (Int × (Int × (List (Int × (Int × (Int × Int))))))))))) × (Bool × Unit)) × Unit) :=
  (IndexFunc50' k c.2.1 (op, ())).bind fun t10 =>
  cond (decide (t10.1 < 0))
    (some (((0, (ByteArray.mk #[]), 0, []), false, ()), ()))
    ((rd c.2.1 t10.1).bind fun t17 =>
    (Copy86 k t17).bind fun t19 =>
    some ((t19.1, true, ()), ()))
def Find52.A : Ann := { conds := [], blocks := [], loops := [], keeps := [2, 3], orders := [] }
def Find52.S : Sig := { f := 52, params := [.st (.pair .str (.pair (.sl (.st (.pair (.int .i64) (.pair .str (.pair (.int .i64) (.sl (.st (.pair (.int .i64) (.pair (.int .i64) (.pair (.int .i64) (.sl (.st (.pair (.int .i64) (.pair (.int .i64) (.pair (.int .i64) (.int .i64)))))))))))))))) (.pair (.sl (.st (.pair (.int .i64) (.pair (.int .i64) (.pair (.int .i64) (.sl (.st (.pair (.int .i64) (.pair (.int .i64) (.pair (.int .i64) (.int .i64))))))))))) (.pair (.sl (.st (.pair (.int .i64) (.pair (.int .i64) (.pair (.int .i64) (.sl (.st (.pair (.int .i64) (.pair (.int .i64) (.pair (.int .i64) (.int .i64))))))))))) (.sl (.st (.pair (.int .i64) (.pair (.int .i64) (.pair (.int .i64) (.sl (.st (.pair (.int .i64) (.pair (.int .i64) (.pair (.int .i64) (.int .i64))))))))))))))), .int .i64], objs := [], res := .tup (.pair (.st (.pair (.int .i64) (.pair .str (.pair (.int .i64) (.sl (.st (.pair (.int .i64) (.pair (.int .i64) (.pair (.int .i64) (.sl (.st (.pair (.int .i64) (.pair (.int .i64) (.pair (.int .i64) (.int .i64))))))))))))))) (.pair .bool .unit)), outs := [], fix := [], run := fun k ds os => Find52 k ds.1 ds.2 }
def Find52.G : List Sig := [Copy86.S, IndexFunc50'.S]
theorem Find52.eq (k : Nat) : ∀ ds os, Find52.S.run k ds os = runF ⟨types, Find52.G, Find52.A, k, 0, []⟩ Try.f52 (codeOf Try.f52) Find52.S.params Find52.S.objs Find52.S.res Find52.S.outs ds os := by
  intro ds os; kernel_rfl
theorem Find52.dr : DrOk Try.prog Find52.A (codeOf Try.f52) := ⟨by kernel_rfl, by kernel_rfl⟩
theorem Find52.ok (k : Nat) : SoundAt Try.prog k Find52.S :=
  runF_sound (X := ⟨types, Find52.G, Find52.A, k, 0, []⟩) types_ok (mem_all (⟨Copy86.ok k, ⟨IndexFunc50'.ok k, trivial⟩⟩)) (fn := Try.f52) (c := codeOf Try.f52) rfl (by kernel_rfl) rfl rfl Find52.dr (Find52.eq k)

def ended81 (k : Nat) (c : (ByteArray × ((List (Int × (ByteArray × (Int × (List (Int × (Int × (Int × (List (Int × (Int × (Int × Int)))))))))))) × ((List (Int × (Int × (Int × (List (Int × (Int × (Int × Int)))))))) × ((List (Int × (Int × (Int × (List (Int × (Int × (Int × Int)))))))) × (List (Int × (Int × (Int × (List (Int × (Int × (Int × Int))))))))))))) (k_ : ((List Int) × (Int × (Int × Bool)))) : Option (((List Int) × (Int × (Int × Bool))) × Unit) :=
  Option.bind
    (cond (k_.2.1 != 259)
      (some ((), (), (k_.1, (-1), 0, k_.2.2.2), (List.replicate 9 0), 0, 0, false))
      (some ((), (), k_, (List.replicate 9 0), 0, 0, false)) : Option (Unit × (Unit × (((List Int) × (Int × (Int × Bool))) × ((List Int) × (Int × (Int × Bool))))))) fun ((_, _, o0, _) : (Unit × (Unit × (((List Int) × (Int × (Int × Bool))) × ((List Int) × (Int × (Int × Bool))))))) =>
  some (o0, ())
def ended81.A : Ann := { conds := [(458754, ⟨[(3, .ptr 0 []), (4, .ptr 1 [])], [(0, .var (.st (.pair (.arr 9 (.int .i64)) (.pair (.int .i64) (.pair (.int .i64) .bool))))), (1, .var (.st (.pair (.arr 9 (.int .i64)) (.pair (.int .i64) (.pair (.int .i64) .bool)))))], 2, [], 768⟩)], blocks := [], loops := [], keeps := [2], orders := [] }
def ended81.S : Sig := { f := 81, params := [.st (.pair .str (.pair (.sl (.st (.pair (.int .i64) (.pair .str (.pair (.int .i64) (.sl (.st (.pair (.int .i64) (.pair (.int .i64) (.pair (.int .i64) (.sl (.st (.pair (.int .i64) (.pair (.int .i64) (.pair (.int .i64) (.int .i64)))))))))))))))) (.pair (.sl (.st (.pair (.int .i64) (.pair (.int .i64) (.pair (.int .i64) (.sl (.st (.pair (.int .i64) (.pair (.int .i64) (.pair (.int .i64) (.int .i64))))))))))) (.pair (.sl (.st (.pair (.int .i64) (.pair (.int .i64) (.pair (.int .i64) (.sl (.st (.pair (.int .i64) (.pair (.int .i64) (.pair (.int .i64) (.int .i64))))))))))) (.sl (.st (.pair (.int .i64) (.pair (.int .i64) (.pair (.int .i64) (.sl (.st (.pair (.int .i64) (.pair (.int .i64) (.pair (.int .i64) (.int .i64))))))))))))))), .st (.pair (.arr 9 (.int .i64)) (.pair (.int .i64) (.pair (.int .i64) .bool)))], objs := [], res := .st (.pair (.arr 9 (.int .i64)) (.pair (.int .i64) (.pair (.int .i64) .bool))), outs := [], fix := [], run := fun k ds os => ended81 k ds.1 ds.2 }
def ended81.G : List Sig := []
theorem ended81.eq (k : Nat) : ∀ ds os, ended81.S.run k ds os = runF ⟨types, ended81.G, ended81.A, k, 0, []⟩ Try.f81 (codeOf Try.f81) ended81.S.params ended81.S.objs ended81.S.res ended81.S.outs ds os := by
  intro ds os; kernel_rfl
theorem ended81.dr : DrOk Try.prog ended81.A (codeOf Try.f81) := ⟨by kernel_rfl, by kernel_rfl⟩
theorem ended81.ok (k : Nat) : SoundAt Try.prog k ended81.S :=
  runF_sound (X := ⟨types, ended81.G, ended81.A, k, 0, []⟩) types_ok (fun s hs => absurd hs List.not_mem_nil) (fn := Try.f81) (c := codeOf Try.f81) rfl (by kernel_rfl) rfl rfl ended81.dr (ended81.eq k)

def index108 (k : Nat) (reg : Int) : Option (Int × Unit) :=
  some ((mxI 0 (mnI reg 8)), ())
def index108.A : Ann := { conds := [], blocks := [], loops := [], keeps := [], orders := [] }
def index108.S : Sig := { f := 108, params := [.int .i64], objs := [], res := .int .i64, outs := [], fix := [], run := fun k ds os => index108 k ds }
def index108.G : List Sig := []
theorem index108.eq (k : Nat) : ∀ ds os, index108.S.run k ds os = runF ⟨types, index108.G, index108.A, k, 0, []⟩ Try.f108 (codeOf Try.f108) index108.S.params index108.S.objs index108.S.res index108.S.outs ds os := by
  intro ds os; kernel_rfl
theorem index108.dr : DrOk Try.prog index108.A (codeOf Try.f108) := ⟨by kernel_rfl, by kernel_rfl⟩
theorem index108.ok (k : Nat) : SoundAt Try.prog k index108.S :=
  runF_sound (X := ⟨types, index108.G, index108.A, k, 0, []⟩) types_ok (fun s hs => absurd hs List.not_mem_nil) (fn := Try.f108) (c := codeOf Try.f108) rfl (by kernel_rfl) rfl rfl index108.dr (index108.eq k)

def flag112 (k : Nat) (r : (List Int)) (f : Int) (on : Bool) : Option ((List Int) × Unit) :=
  (if 0 ≤ 4 ∧ 4 < 9 then some () else none).bind fun _ =>
  (rd r 4).bind fun t8 =>
  let t10 : Int := (ibits .andNot .i64 t8 f)
  (if 0 ≤ 4 ∧ 4 < 9 then some () else none).bind fun _ =>
  (rd r 4).bind fun _ =>
  Option.bind
    (cond on
      ((if 0 ≤ 4 ∧ 4 < 9 then some () else none).bind fun _ =>
      (rd (List.set r (Int.toNat 4) t10) 4).bind fun t14 =>
      (if 0 ≤ 4 ∧ 4 < 9 then some () else none).bind fun _ =>
      (rd (List.set r (Int.toNat 4) t10) 4).bind fun _ =>
      some ((), (), (List.set (List.set r (Int.toNat 4) t10) (Int.toNat 4) (ibits .or .i64 t14 f)), (List.replicate 9 0)))
      (some ((), (), (List.set r (Int.toNat 4) t10), (List.replicate 9 0))) : Option (Unit × (Unit × ((List Int) × (List Int))))) fun ((_, _, o0, _) : (Unit × (Unit × ((List Int) × (List Int))))) =>
  some (o0, ())
def flag112.A : Ann := { conds := [(786435, ⟨[(3, .ptr 0 []), (6, .ptr 1 [])], [(0, .var (.arr 9 (.int .i64))), (1, .var (.arr 9 (.int .i64)))], 2, [], 253952⟩)], blocks := [], loops := [], keeps := [], orders := [] }
def flag112.S : Sig := { f := 112, params := [.arr 9 (.int .i64), .int .i64, .bool], objs := [], res := .arr 9 (.int .i64), outs := [], fix := [], run := fun k ds os => flag112 k ds.1 ds.2.1 ds.2.2 }
def flag112.G : List Sig := []
theorem flag112.eq (k : Nat) : ∀ ds os, flag112.S.run k ds os = runF ⟨types, flag112.G, flag112.A, k, 0, []⟩ Try.f112 (codeOf Try.f112) flag112.S.params flag112.S.objs flag112.S.res flag112.S.outs ds os := by
  intro ds os; kernel_rfl
theorem flag112.dr : DrOk Try.prog flag112.A (codeOf Try.f112) := ⟨by kernel_rfl, by kernel_rfl⟩
theorem flag112.ok (k : Nat) : SoundAt Try.prog k flag112.S :=
  runF_sound (X := ⟨types, flag112.G, flag112.A, k, 0, []⟩) types_ok (fun s hs => absurd hs List.not_mem_nil) (fn := Try.f112) (c := codeOf Try.f112) rfl (by kernel_rfl) rfl rfl flag112.dr (flag112.eq k)

def nz109 (k : Nat) (r : (List Int)) (n : Int) : Option ((List Int) × Unit) :=
  (flag112 k r 2 (n == 0)).bind fun t8 =>
  (flag112 k t8.1 128 (decide (n ≥ 128))).bind fun t11 =>
  some (t11.1, ())
def nz109.A : Ann := { conds := [], blocks := [], loops := [], keeps := [2], orders := [] }
def nz109.S : Sig := { f := 109, params := [.arr 9 (.int .i64), .int .i64], objs := [], res := .arr 9 (.int .i64), outs := [], fix := [], run := fun k ds os => nz109 k ds.1 ds.2 }
def nz109.G : List Sig := [flag112.S]
theorem nz109.eq (k : Nat) : ∀ ds os, nz109.S.run k ds os = runF ⟨types, nz109.G, nz109.A, k, 0, []⟩ Try.f109 (codeOf Try.f109) nz109.S.params nz109.S.objs nz109.S.res nz109.S.outs ds os := by
  intro ds os; kernel_rfl
theorem nz109.dr : DrOk Try.prog nz109.A (codeOf Try.f109) := ⟨by kernel_rfl, by kernel_rfl⟩
theorem nz109.ok (k : Nat) : SoundAt Try.prog k nz109.S :=
  runF_sound (X := ⟨types, nz109.G, nz109.A, k, 0, []⟩) types_ok (mem_all (⟨flag112.ok k, trivial⟩)) (fn := Try.f109) (c := codeOf Try.f109) rfl (by kernel_rfl) rfl rfl nz109.dr (nz109.eq k)

def carry123 (k : Nat) (r : (List Int)) : Option (Int × Unit) :=
  (rd r 4).bind fun t3 =>
  some ((ibits .and .i64 t3 1), ())
def carry123.A : Ann := { conds := [], blocks := [], loops := [], keeps := [1], orders := [] }
def carry123.S : Sig := { f := 123, params := [.arr 9 (.int .i64)], objs := [], res := .int .i64, outs := [], fix := [], run := fun k ds os => carry123 k ds }
def carry123.G : List Sig := []
theorem carry123.eq (k : Nat) : ∀ ds os, carry123.S.run k ds os = runF ⟨types, carry123.G, carry123.A, k, 0, []⟩ Try.f123 (codeOf Try.f123) carry123.S.params carry123.S.objs carry123.S.res carry123.S.outs ds os := by
  intro ds os; kernel_rfl
theorem carry123.dr : DrOk Try.prog carry123.A (codeOf Try.f123) := ⟨by kernel_rfl, by kernel_rfl⟩
theorem carry123.ok (k : Nat) : SoundAt Try.prog k carry123.S :=
  runF_sound (X := ⟨types, carry123.G, carry123.A, k, 0, []⟩) types_ok (fun s hs => absurd hs List.not_mem_nil) (fn := Try.f123) (c := codeOf Try.f123) rfl (by kernel_rfl) rfl rfl carry123.dr (carry123.eq k)

def Add122 (k : Nat) (a : Int) (b : Int) (carry : Int) (bits : Int) : Option ((Int × (Int × Unit)) × Unit) :=
  (width84 k bits).bind fun t12 =>
  (Low47 k a t12.1).bind fun t15 =>
  (Low47 k b t12.1).bind fun t18 =>
  let t22 : Int := (w64 ((w64 (t15.1 + t18.1)) + (ibits .and .i64 carry 1)))
  (if t12.1 < 0 then none else some (shrI .i64 t22 t12.1)).bind fun t28 =>
  (Low47 k t22 t12.1).bind fun t25 =>
  some ((t25.1, t28, ()), ())
def Add122.A : Ann := { conds := [], blocks := [], loops := [], keeps := [], orders := [(3, [(0, .strong), (1, .strong), (3, .strong), (4, .strong), (5, .strong), (2, .eff true), (6, .strong), (7, .strong)])] }
def Add122.S : Sig := { f := 122, params := [.int .i64, .int .i64, .int .i64, .int .i64], objs := [], res := .tup (.pair (.int .i64) (.pair (.int .i64) .unit)), outs := [], fix := [], run := fun k ds os => Add122 k ds.1 ds.2.1 ds.2.2.1 ds.2.2.2 }
def Add122.G : List Sig := [Low47.S, width84.S]
theorem Add122.eq (k : Nat) : ∀ ds os, Add122.S.run k ds os = runF ⟨types, Add122.G, Add122.A, k, 0, []⟩ Try.f122 (codeOf Try.f122) Add122.S.params Add122.S.objs Add122.S.res Add122.S.outs ds os := by
  intro ds os; kernel_rfl
theorem Add122.dr : DrOk Try.prog Add122.A (codeOf Try.f122) := ⟨by kernel_rfl, by kernel_rfl⟩
theorem Add122.ok (k : Nat) : SoundAt Try.prog k Add122.S :=
  runF_sound (X := ⟨types, Add122.G, Add122.A, k, 0, []⟩) types_ok (mem_all (⟨Low47.ok k, ⟨width84.ok k, trivial⟩⟩)) (fn := Try.f122) (c := codeOf Try.f122) rfl (by kernel_rfl) rfl rfl Add122.dr (Add122.eq k)
end Go.Proofs.Ytcppmlgnceldmaa.Ge

/- Go functions as plain Lean functions, and their contracts. -/
set_option linter.unusedVariables false
set_option maxRecDepth 100000
noncomputable section
namespace Go.Proofs.Ytcppmlgnceldmaa.Ge
open Go Go.Proofs.Ytcppmlgnceldmaa.Gp
def result124 (k : Nat) (r : (List Int)) (to : Int) (n : Int) (c : Int) : Option ((List Int) × Unit) :=
  (nz109 k r n).bind fun t11 =>
  (flag112 k t11.1 1 (c == 1)).bind fun t14 =>
  (if 0 ≤ to ∧ to < 9 then some () else none).bind fun _ =>
  (rd t14.1 to).bind fun _ =>
  some ((List.set t14.1 (Int.toNat to) n), ())
def result124.A : Ann := { conds := [], blocks := [], loops := [], keeps := [], orders := [] }
def result124.S : Sig := { f := 124, params := [.arr 9 (.int .i64), .int .i64, .int .i64, .int .i64], objs := [], res := .arr 9 (.int .i64), outs := [], fix := [], run := fun k ds os => result124 k ds.1 ds.2.1 ds.2.2.1 ds.2.2.2 }
def result124.G : List Sig := [flag112.S, nz109.S]
theorem result124.eq (k : Nat) : ∀ ds os, result124.S.run k ds os = runF ⟨types, result124.G, result124.A, k, 0, []⟩ Try.f124 (codeOf Try.f124) result124.S.params result124.S.objs result124.S.res result124.S.outs ds os := by
  intro ds os; kernel_rfl
theorem result124.dr : DrOk Try.prog result124.A (codeOf Try.f124) := ⟨by kernel_rfl, by kernel_rfl⟩
theorem result124.ok (k : Nat) : SoundAt Try.prog k result124.S :=
  runF_sound (X := ⟨types, result124.G, result124.A, k, 0, []⟩) types_ok (mem_all (⟨flag112.ok k, ⟨nz109.ok k, trivial⟩⟩)) (fn := Try.f124) (c := codeOf Try.f124) rfl (by kernel_rfl) rfl rfl result124.dr (result124.eq k)

def Sub125 (k : Nat) (a : Int) (b : Int) (borrow : Int) (bits : Int) : Option ((Int × (Int × Unit)) × Unit) :=
  (width84 k bits).bind fun t12 =>
  (Low47 k a t12.1).bind fun t15 =>
  (Low47 k b t12.1).bind fun t18 =>
  let t22 : Int := (w64 ((w64 (t15.1 - t18.1)) - (ibits .and .i64 borrow 1)))
  cond (decide (t22 < 0))
    ((if t12.1 < 0 then none else some (shlI .i64 1 t12.1)).bind fun t27 =>
    some (((w64 (t22 + t27)), 1, ()), ()))
    (some ((t22, 0, ()), ()))
def Sub125.A : Ann := { conds := [], blocks := [], loops := [], keeps := [], orders := [] }
def Sub125.S : Sig := { f := 125, params := [.int .i64, .int .i64, .int .i64, .int .i64], objs := [], res := .tup (.pair (.int .i64) (.pair (.int .i64) .unit)), outs := [], fix := [], run := fun k ds os => Sub125 k ds.1 ds.2.1 ds.2.2.1 ds.2.2.2 }
def Sub125.G : List Sig := [Low47.S, width84.S]
theorem Sub125.eq (k : Nat) : ∀ ds os, Sub125.S.run k ds os = runF ⟨types, Sub125.G, Sub125.A, k, 0, []⟩ Try.f125 (codeOf Try.f125) Sub125.S.params Sub125.S.objs Sub125.S.res Sub125.S.outs ds os := by
  intro ds os; kernel_rfl
theorem Sub125.dr : DrOk Try.prog Sub125.A (codeOf Try.f125) := ⟨by kernel_rfl, by kernel_rfl⟩
theorem Sub125.ok (k : Nat) : SoundAt Try.prog k Sub125.S :=
  runF_sound (X := ⟨types, Sub125.G, Sub125.A, k, 0, []⟩) types_ok (mem_all (⟨Low47.ok k, ⟨width84.ok k, trivial⟩⟩)) (fn := Try.f125) (c := codeOf Try.f125) rfl (by kernel_rfl) rfl rfl Sub125.dr (Sub125.eq k)

def binary110 (k : Nat) (do_ : Int) (to : Int) (from_ : Int) (r : (List Int)) : Option ((List Int) × Unit) :=
  (if 0 ≤ to ∧ to < 9 then some () else none).bind fun _ =>
  (rd r to).bind fun t19 =>
  (if 0 ≤ from_ ∧ from_ < 9 then some () else none).bind fun _ =>
  (rd r from_).bind fun t23 =>
  (Low47 k t19 8).bind fun t20 =>
  (Low47 k t23 8).bind fun t24 =>
  cond (do_ == 4)
    ((carry123 k r).bind fun t35 =>
    (Add122 k t20.1 t24.1 t35.1 8).bind fun t36 =>
    (result124 k r to t36.1.1 t36.1.2.1).bind fun t43 =>
    some (t43.1, ()))
    (cond (do_ == 5)
      ((carry123 k r).bind fun t50 =>
      (Sub125 k t20.1 t24.1 (w64 (1 - t50.1)) 8).bind fun t52 =>
      (result124 k r to t52.1.1 (w64 (1 - t52.1.2.1))).bind fun t60 =>
      some (t60.1, ()))
      (cond (do_ == 6)
        ((Sub125 k t20.1 t24.1 0 8).bind fun t66 =>
        (nz109 k r t66.1.1).bind fun t71 =>
        (flag112 k t71.1 1 (t66.1.2.1 == 0)).bind fun t74 =>
        some (t74.1, ()))
        (Option.bind
          (cond (do_ == 7)
            (some ((), (), (ibits .and .i64 t20.1 t24.1), r, (List.replicate 9 0)))
            (Option.bind
              (cond (do_ == 8)
                (some ((), (), (ibits .or .i64 t20.1 t24.1), r, (List.replicate 9 0)))
                (some ((), (), (ibits .xor .i64 t20.1 t24.1), r, (List.replicate 9 0))) : Option (Unit × (Unit × (Int × ((List Int) × (List Int)))))) fun ((_, _, a, o0, o1) : (Unit × (Unit × (Int × ((List Int) × (List Int)))))) =>
            some ((), (), a, o0, o1)) : Option (Unit × (Unit × (Int × ((List Int) × (List Int)))))) fun ((_, _, a_1, o0_1, _) : (Unit × (Unit × (Int × ((List Int) × (List Int)))))) =>
        (nz109 k o0_1 a_1).bind fun t87 =>
        (if 0 ≤ to ∧ to < 9 then some () else none).bind fun _ =>
        (rd t87.1 to).bind fun _ =>
        some ((List.set t87.1 (Int.toNat to) a_1), ()))))
def binary110.A : Ann := { conds := [(4915214, ⟨[(7, .ptr 0 []), (8, .ptr 1 []), (9, .int .i64)], [(0, .var (.arr 9 (.int .i64))), (1, .var (.arr 9 (.int .i64)))], 2, [], 38534510500216305413521920⟩), (5242896, ⟨[(7, .ptr 0 []), (8, .ptr 1 []), (9, .int .i64)], [(0, .var (.arr 9 (.int .i64))), (1, .var (.arr 9 (.int .i64)))], 2, [], 33849922949209617361535488⟩)], blocks := [], loops := [], keeps := [], orders := [(1, [(0, .strong), (1, .strong), (2, .strong), (4, .strong), (5, .strong), (6, .strong), (3, .eff true), (7, .eff true), (8, .strong), (9, .strong)])] }
def binary110.S : Sig := { f := 110, params := [.int .i64, .int .i64, .int .i64, .arr 9 (.int .i64)], objs := [], res := .arr 9 (.int .i64), outs := [], fix := [], run := fun k ds os => binary110 k ds.1 ds.2.1 ds.2.2.1 ds.2.2.2 }
def binary110.G : List Sig := [Add122.S, Low47.S, Sub125.S, carry123.S, flag112.S, nz109.S, result124.S]
theorem binary110.eq (k : Nat) : ∀ ds os, binary110.S.run k ds os = runF ⟨types, binary110.G, binary110.A, k, 0, []⟩ Try.f110 (codeOf Try.f110) binary110.S.params binary110.S.objs binary110.S.res binary110.S.outs ds os := by
  intro ds os; kernel_rfl
theorem binary110.dr : DrOk Try.prog binary110.A (codeOf Try.f110) := ⟨by kernel_rfl, by kernel_rfl⟩
theorem binary110.ok (k : Nat) : SoundAt Try.prog k binary110.S :=
  runF_sound (X := ⟨types, binary110.G, binary110.A, k, 0, []⟩) types_ok (mem_all (⟨Add122.ok k, ⟨Low47.ok k, ⟨Sub125.ok k, ⟨carry123.ok k, ⟨flag112.ok k, ⟨nz109.ok k, ⟨result124.ok k, trivial⟩⟩⟩⟩⟩⟩⟩)) (fn := Try.f110) (c := codeOf Try.f110) rfl (by kernel_rfl) rfl rfl binary110.dr (binary110.eq k)

def Rol126 (k : Nat) (n : Int) (carry : Int) (bits : Int) : Option ((Int × (Int × Unit)) × Unit) :=
  (width84 k bits).bind fun t9 =>
  (Low47 k n t9.1).bind fun t12 =>
  let t16 : Int := (ibits .or .i64 (shlI .i64 t12.1 1) (ibits .and .i64 carry 1))
  (if t9.1 < 0 then none else some (shrI .i64 t16 t9.1)).bind fun t22 =>
  (Low47 k t16 t9.1).bind fun t19 =>
  some ((t19.1, t22, ()), ())
def Rol126.A : Ann := { conds := [], blocks := [], loops := [], keeps := [], orders := [(3, [(0, .strong), (1, .strong), (3, .strong), (4, .strong), (5, .strong), (2, .eff true), (6, .strong), (7, .strong)])] }
def Rol126.S : Sig := { f := 126, params := [.int .i64, .int .i64, .int .i64], objs := [], res := .tup (.pair (.int .i64) (.pair (.int .i64) .unit)), outs := [], fix := [], run := fun k ds os => Rol126 k ds.1 ds.2.1 ds.2.2 }
def Rol126.G : List Sig := [Low47.S, width84.S]
theorem Rol126.eq (k : Nat) : ∀ ds os, Rol126.S.run k ds os = runF ⟨types, Rol126.G, Rol126.A, k, 0, []⟩ Try.f126 (codeOf Try.f126) Rol126.S.params Rol126.S.objs Rol126.S.res Rol126.S.outs ds os := by
  intro ds os; kernel_rfl
theorem Rol126.dr : DrOk Try.prog Rol126.A (codeOf Try.f126) := ⟨by kernel_rfl, by kernel_rfl⟩
theorem Rol126.ok (k : Nat) : SoundAt Try.prog k Rol126.S :=
  runF_sound (X := ⟨types, Rol126.G, Rol126.A, k, 0, []⟩) types_ok (mem_all (⟨Low47.ok k, ⟨width84.ok k, trivial⟩⟩)) (fn := Try.f126) (c := codeOf Try.f126) rfl (by kernel_rfl) rfl rfl Rol126.dr (Rol126.eq k)

def Ror127 (k : Nat) (n : Int) (carry : Int) (bits : Int) : Option ((Int × (Int × Unit)) × Unit) :=
  (width84 k bits).bind fun t9 =>
  (if t9.1 < 0 then none else some (shlI .i64 (ibits .and .i64 carry 1) t9.1)).bind fun t16 =>
  (Low47 k n t9.1).bind fun t12 =>
  let t17 : Int := (ibits .or .i64 t12.1 t16)
  some (((shrI .i64 t17 1), (ibits .and .i64 t17 1), ()), ())
def Ror127.A : Ann := { conds := [], blocks := [], loops := [], keeps := [], orders := [(2, [(0, .strong), (1, .strong), (3, .strong), (4, .strong), (5, .strong), (6, .strong), (2, .eff true), (7, .strong), (8, .strong)])] }
def Ror127.S : Sig := { f := 127, params := [.int .i64, .int .i64, .int .i64], objs := [], res := .tup (.pair (.int .i64) (.pair (.int .i64) .unit)), outs := [], fix := [], run := fun k ds os => Ror127 k ds.1 ds.2.1 ds.2.2 }
def Ror127.G : List Sig := [Low47.S, width84.S]
theorem Ror127.eq (k : Nat) : ∀ ds os, Ror127.S.run k ds os = runF ⟨types, Ror127.G, Ror127.A, k, 0, []⟩ Try.f127 (codeOf Try.f127) Ror127.S.params Ror127.S.objs Ror127.S.res Ror127.S.outs ds os := by
  intro ds os; kernel_rfl
theorem Ror127.dr : DrOk Try.prog Ror127.A (codeOf Try.f127) := ⟨by kernel_rfl, by kernel_rfl⟩
theorem Ror127.ok (k : Nat) : SoundAt Try.prog k Ror127.S :=
  runF_sound (X := ⟨types, Ror127.G, Ror127.A, k, 0, []⟩) types_ok (mem_all (⟨Low47.ok k, ⟨width84.ok k, trivial⟩⟩)) (fn := Try.f127) (c := codeOf Try.f127) rfl (by kernel_rfl) rfl rfl Ror127.dr (Ror127.eq k)

def shift111 (k : Nat) (do_ : Int) (to : Int) (r : (List Int)) : Option ((List Int) × Unit) :=
  (carry123 k r).bind fun t13 =>
  Option.bind
    (cond (cond (do_ == 12) true (do_ == 13))
      (some (r, (), 0, (List.replicate 9 0)))
      (some (r, (), t13.1, (List.replicate 9 0))) : Option ((List Int) × (Unit × (Int × (List Int))))) fun ((r_1, _, c, _) : ((List Int) × (Unit × (Int × (List Int))))) =>
  cond (cond (do_ == 12) true (do_ == 14))
    ((rd r_1 to).bind fun t28 =>
    (Rol126 k t28 c 8).bind fun t31 =>
    (result124 k r_1 to t31.1.1 t31.1.2.1).bind fun t38 =>
    some (t38.1, ()))
    ((rd r_1 to).bind fun t41 =>
    (Ror127 k t41 c 8).bind fun t44 =>
    (result124 k r_1 to t44.1.1 t44.1.2.1).bind fun t51 =>
    some (t51.1, ()))
def shift111.A : Ann := { conds := [(1245187, ⟨[(5, .fp (.arr 9 (.int .i64))), (6, .ptr 0 []), (7, .int .i64)], [(0, .var (.arr 9 (.int .i64)))], 1, [], 128⟩)], blocks := [], loops := [], keeps := [5], orders := [] }
def shift111.S : Sig := { f := 111, params := [.int .i64, .int .i64, .arr 9 (.int .i64)], objs := [], res := .arr 9 (.int .i64), outs := [], fix := [], run := fun k ds os => shift111 k ds.1 ds.2.1 ds.2.2 }
def shift111.G : List Sig := [Rol126.S, Ror127.S, carry123.S, result124.S]
theorem shift111.eq (k : Nat) : ∀ ds os, shift111.S.run k ds os = runF ⟨types, shift111.G, shift111.A, k, 0, []⟩ Try.f111 (codeOf Try.f111) shift111.S.params shift111.S.objs shift111.S.res shift111.S.outs ds os := by
  intro ds os; kernel_rfl
theorem shift111.dr : DrOk Try.prog shift111.A (codeOf Try.f111) := ⟨by kernel_rfl, by kernel_rfl⟩
theorem shift111.ok (k : Nat) : SoundAt Try.prog k shift111.S :=
  runF_sound (X := ⟨types, shift111.G, shift111.A, k, 0, []⟩) types_ok (mem_all (⟨Rol126.ok k, ⟨Ror127.ok k, ⟨carry123.ok k, ⟨result124.ok k, trivial⟩⟩⟩⟩)) (fn := Try.f111) (c := codeOf Try.f111) rfl (by kernel_rfl) rfl rfl shift111.dr (shift111.eq k)

def place128 (k : Nat) (at_ : Int) (size : Int) : Option ((Int × (Int × Unit)) × Unit) :=
  (width84 k at_).bind fun t7 =>
  some ((t7.1, (mxI 0 (mnI size (w64 (62 - t7.1)))), ()), ())
def place128.A : Ann := { conds := [], blocks := [], loops := [], keeps := [], orders := [] }
def place128.S : Sig := { f := 128, params := [.int .i64, .int .i64], objs := [], res := .tup (.pair (.int .i64) (.pair (.int .i64) .unit)), outs := [], fix := [], run := fun k ds os => place128 k ds.1 ds.2 }
def place128.G : List Sig := [width84.S]
theorem place128.eq (k : Nat) : ∀ ds os, place128.S.run k ds os = runF ⟨types, place128.G, place128.A, k, 0, []⟩ Try.f128 (codeOf Try.f128) place128.S.params place128.S.objs place128.S.res place128.S.outs ds os := by
  intro ds os; kernel_rfl
theorem place128.dr : DrOk Try.prog place128.A (codeOf Try.f128) := ⟨by kernel_rfl, by kernel_rfl⟩
theorem place128.ok (k : Nat) : SoundAt Try.prog k place128.S :=
  runF_sound (X := ⟨types, place128.G, place128.A, k, 0, []⟩) types_ok (mem_all (⟨width84.ok k, trivial⟩)) (fn := Try.f128) (c := codeOf Try.f128) rfl (by kernel_rfl) rfl rfl place128.dr (place128.eq k)

def Put113 (k : Nat) (n : Int) (at_ : Int) (size : Int) (v : Int) : Option (Int × Unit) :=
  (place128 k at_ size).bind fun t13 =>
  (if t13.1.2.1 < 0 then none else some (shlI .i64 1 t13.1.2.1)).bind fun t17 =>
  (if t13.1.1 < 0 then none else some (shlI .i64 (w64 (t17 - 1)) t13.1.1)).bind fun t20 =>
  (Low47 k n 62).bind fun t22 =>
  (Low47 k v t13.1.2.1).bind fun t27 =>
  (if t13.1.1 < 0 then none else some (shlI .i64 t27.1 t13.1.1)).bind fun t29 =>
  some ((ibits .or .i64 (ibits .andNot .i64 t22.1 t20) t29), ())
def Put113.A : Ann := { conds := [], blocks := [], loops := [], keeps := [], orders := [] }
def Put113.S : Sig := { f := 113, params := [.int .i64, .int .i64, .int .i64, .int .i64], objs := [], res := .int .i64, outs := [], fix := [], run := fun k ds os => Put113 k ds.1 ds.2.1 ds.2.2.1 ds.2.2.2 }
def Put113.G : List Sig := [Low47.S, place128.S]
theorem Put113.eq (k : Nat) : ∀ ds os, Put113.S.run k ds os = runF ⟨types, Put113.G, Put113.A, k, 0, []⟩ Try.f113 (codeOf Try.f113) Put113.S.params Put113.S.objs Put113.S.res Put113.S.outs ds os := by
  intro ds os; kernel_rfl
theorem Put113.dr : DrOk Try.prog Put113.A (codeOf Try.f113) := ⟨by kernel_rfl, by kernel_rfl⟩
theorem Put113.ok (k : Nat) : SoundAt Try.prog k Put113.S :=
  runF_sound (X := ⟨types, Put113.G, Put113.A, k, 0, []⟩) types_ok (mem_all (⟨Low47.ok k, ⟨place128.ok k, trivial⟩⟩)) (fn := Try.f113) (c := codeOf Try.f113) rfl (by kernel_rfl) rfl rfl Put113.dr (Put113.eq k)

def Get114 (k : Nat) (n : Int) (at_ : Int) (size : Int) : Option (Int × Unit) :=
  (place128 k at_ size).bind fun t10 =>
  (Low47 k n 62).bind fun t14 =>
  (if t10.1.1 < 0 then none else some (shrI .i64 t14.1 t10.1.1)).bind fun t16 =>
  (Low47 k t16 t10.1.2.1).bind fun t18 =>
  some (t18.1, ())
def Get114.A : Ann := { conds := [], blocks := [], loops := [], keeps := [], orders := [] }
def Get114.S : Sig := { f := 114, params := [.int .i64, .int .i64, .int .i64], objs := [], res := .int .i64, outs := [], fix := [], run := fun k ds os => Get114 k ds.1 ds.2.1 ds.2.2 }
def Get114.G : List Sig := [Low47.S, place128.S]
theorem Get114.eq (k : Nat) : ∀ ds os, Get114.S.run k ds os = runF ⟨types, Get114.G, Get114.A, k, 0, []⟩ Try.f114 (codeOf Try.f114) Get114.S.params Get114.S.objs Get114.S.res Get114.S.outs ds os := by
  intro ds os; kernel_rfl
theorem Get114.dr : DrOk Try.prog Get114.A (codeOf Try.f114) := ⟨by kernel_rfl, by kernel_rfl⟩
theorem Get114.ok (k : Nat) : SoundAt Try.prog k Get114.S :=
  runF_sound (X := ⟨types, Get114.G, Get114.A, k, 0, []⟩) types_ok (mem_all (⟨Low47.ok k, ⟨place128.ok k, trivial⟩⟩)) (fn := Try.f114) (c := codeOf Try.f114) rfl (by kernel_rfl) rfl rfl Get114.dr (Get114.eq k)
end Go.Proofs.Ytcppmlgnceldmaa.Ge

/- Go functions as plain Lean functions, and their contracts. -/
set_option linter.unusedVariables false
set_option maxRecDepth 100000
noncomputable section
namespace Go.Proofs.Ytcppmlgnceldmaa.Ge
open Go Go.Proofs.Ytcppmlgnceldmaa.Gp
def Signed115 (k : Nat) (n : Int) (bits : Int) : Option (Int × Unit) :=
  (width84 k bits).bind fun t6 =>
  (Low47 k n t6.1).bind fun t9 =>
  Option.bind (cond (decide (t6.1 > 0))
    (let t15 : Int := (w64 (t6.1 - 1))
    (if t15 < 0 then none else some (shrI .i64 t9.1 t15)).bind fun t16 =>
    some (t16 == 1))
    (some false)) fun t18 =>
  Option.bind
    (cond t18
      ((if t6.1 < 0 then none else some (shlI .i64 1 t6.1)).bind fun t21 =>
      some (w64 (t9.1 - t21)))
      (some t9.1) : Option Int) fun (n_1 : Int) =>
  some (n_1, ())
def Signed115.A : Ann := { conds := [(1179652, ⟨[(0, .int .i64)], [], 0, [], 7864321⟩)], blocks := [], loops := [], keeps := [], orders := [] }
def Signed115.S : Sig := { f := 115, params := [.int .i64, .int .i64], objs := [], res := .int .i64, outs := [], fix := [], run := fun k ds os => Signed115 k ds.1 ds.2 }
def Signed115.G : List Sig := [Low47.S, width84.S]
theorem Signed115.eq (k : Nat) : ∀ ds os, Signed115.S.run k ds os = runF ⟨types, Signed115.G, Signed115.A, k, 0, []⟩ Try.f115 (codeOf Try.f115) Signed115.S.params Signed115.S.objs Signed115.S.res Signed115.S.outs ds os := by
  intro ds os; kernel_rfl
theorem Signed115.dr : DrOk Try.prog Signed115.A (codeOf Try.f115) := ⟨by kernel_rfl, by kernel_rfl⟩
theorem Signed115.ok (k : Nat) : SoundAt Try.prog k Signed115.S :=
  runF_sound (X := ⟨types, Signed115.G, Signed115.A, k, 0, []⟩) types_ok (mem_all (⟨Low47.ok k, ⟨width84.ok k, trivial⟩⟩)) (fn := Try.f115) (c := codeOf Try.f115) rfl (by kernel_rfl) rfl rfl Signed115.dr (Signed115.eq k)
end Go.Proofs.Ytcppmlgnceldmaa.Ge

/- Go functions as plain Lean functions, and their contracts. -/
set_option linter.unusedVariables false
set_option maxRecDepth 100000
noncomputable section
namespace Go.Proofs.Ytcppmlgnceldmaa.Ge
open Go Go.Proofs.Ytcppmlgnceldmaa.Gp
def Do82 (k : Nat) (s : (Int × (Int × (Int × Int)))) (r : (List Int)) : Option (((List Int) × (Bool × Unit)) × Unit) :=
  (index108 k s.2.1).bind fun t11 =>
  (index108 k s.2.2.1).bind fun t14 =>
  (Fit77 k r).bind fun t16 =>
  Option.bind
    (cond (s.1 == 1)
      ((if 0 ≤ t14.1 ∧ t14.1 < 9 then some () else none).bind fun _ =>
      (rd t16.1 t14.1).bind fun t24 =>
      (if 0 ≤ t11.1 ∧ t11.1 < 9 then some () else none).bind fun _ =>
      (rd t16.1 t11.1).bind fun _ =>
      some (Sum.inl ((), (), (List.set t16.1 (Int.toNat t11.1) t24), (List.replicate 9 0))))
      (Option.bind
        (cond (s.1 == 2)
          ((if 0 ≤ t11.1 ∧ t11.1 < 9 then some () else none).bind fun _ =>
          (rd t16.1 t11.1).bind fun _ =>
          some (Sum.inl ((), (), (List.set t16.1 (Int.toNat t11.1) s.2.2.2), (List.replicate 9 0))))
          (Option.bind
            (cond (s.1 == 3)
              ((if 0 ≤ t11.1 ∧ t11.1 < 9 then some () else none).bind fun _ =>
              (rd t16.1 t11.1).bind fun t37 =>
              (Low47 k t37 8).bind fun t38 =>
              (nz109 k t16.1 t38.1).bind fun t39 =>
              some (Sum.inl ((), (), t39.1, (List.replicate 9 0))))
              (Option.bind
                (cond (s.1 == 4)
                  (some (s, (), (), (s.1 == 4), t16.1, (List.replicate 9 0)))
                  (Option.bind
                    (cond (s.1 == 5)
                      (some (s, (), (), (s.1 == 5), t16.1, (List.replicate 9 0)))
                      (Option.bind
                        (cond (s.1 == 6)
                          (some (s, (), (), (s.1 == 6), t16.1, (List.replicate 9 0)))
                          (Option.bind
                            (cond (s.1 == 7)
                              (some (s, (), (), (s.1 == 7), t16.1, (List.replicate 9 0)))
                              (Option.bind
                                (cond (s.1 == 8)
                                  (some (s, (), (), (s.1 == 8), t16.1, (List.replicate 9 0)))
                                  (some (s, (), (), (s.1 == 9), t16.1, (List.replicate 9 0))) : Option ((Int × (Int × (Int × Int))) × (Unit × (Unit × (Bool × ((List Int) × (List Int))))))) fun ((s_1, _, _, t40, o0, o1) : ((Int × (Int × (Int × Int))) × (Unit × (Unit × (Bool × ((List Int) × (List Int))))))) =>
                              some (s_1, (), (), t40, o0, o1)) : Option ((Int × (Int × (Int × Int))) × (Unit × (Unit × (Bool × ((List Int) × (List Int))))))) fun ((s_2, _, _, t40_1, o0_1, o1_1) : ((Int × (Int × (Int × Int))) × (Unit × (Unit × (Bool × ((List Int) × (List Int))))))) =>
                          some (s_2, (), (), t40_1, o0_1, o1_1)) : Option ((Int × (Int × (Int × Int))) × (Unit × (Unit × (Bool × ((List Int) × (List Int))))))) fun ((s_3, _, _, t40_2, o0_2, o1_2) : ((Int × (Int × (Int × Int))) × (Unit × (Unit × (Bool × ((List Int) × (List Int))))))) =>
                      some (s_3, (), (), t40_2, o0_2, o1_2)) : Option ((Int × (Int × (Int × Int))) × (Unit × (Unit × (Bool × ((List Int) × (List Int))))))) fun ((s_4, _, _, t40_3, o0_3, o1_3) : ((Int × (Int × (Int × Int))) × (Unit × (Unit × (Bool × ((List Int) × (List Int))))))) =>
                  some (s_4, (), (), t40_3, o0_3, o1_3)) : Option ((Int × (Int × (Int × Int))) × (Unit × (Unit × (Bool × ((List Int) × (List Int))))))) fun ((s_5, _, _, t40_4, o0_4, o1_4) : ((Int × (Int × (Int × Int))) × (Unit × (Unit × (Bool × ((List Int) × (List Int))))))) =>
              Option.bind
                (cond t40_4
                  ((binary110 k s_5.1 t11.1 t14.1 o0_4).bind fun t52 =>
                  some (Sum.inl ((), (), t52.1, o1_4)))
                  (Option.bind
                    (cond (s.1 == 10)
                      (some (s_5, (), (), (s.1 == 10), o0_4, o1_4))
                      (some (s_5, (), (), (s.1 == 11), o0_4, o1_4)) : Option ((Int × (Int × (Int × Int))) × (Unit × (Unit × (Bool × ((List Int) × (List Int))))))) fun ((s_6, _, _, t53, o0_5, o1_5) : ((Int × (Int × (Int × Int))) × (Unit × (Unit × (Bool × ((List Int) × (List Int))))))) =>
                  Option.bind
                    (cond t53
                      ((if 0 ≤ t11.1 ∧ t11.1 < 9 then some () else none).bind fun _ =>
                      (rd o0_5 t11.1).bind fun t58 =>
                      (bits106 k t11.1).bind fun t66 =>
                      (Low47 k (w64 ((w64 (t58 + 1)) - (w64 (2 * (w64 (s_6.1 - 10)))))) t66.1).bind fun t67 =>
                      (Wide104 k t11.1).bind fun t69 =>
                      Option.bind
                        (cond (!t69.1)
                          ((nz109 k o0_5 t67.1).bind fun t73 =>
                          some ((), (), t73.1, o1_5))
                          (some ((), (), o0_5, o1_5)) : Option (Unit × (Unit × ((List Int) × (List Int))))) fun ((_, _, o0_6, o1_6) : (Unit × (Unit × ((List Int) × (List Int))))) =>
                      (if 0 ≤ t11.1 ∧ t11.1 < 9 then some () else none).bind fun _ =>
                      (rd o0_6 t11.1).bind fun _ =>
                      some (Sum.inl ((), (), (List.set o0_6 (Int.toNat t11.1) t67.1), o1_6)))
                      (Option.bind
                        (cond (s.1 == 12)
                          (some (s_6, (), (), (s.1 == 12), o0_5, o1_5))
                          (Option.bind
                            (cond (s.1 == 13)
                              (some (s_6, (), (), (s.1 == 13), o0_5, o1_5))
                              (Option.bind
                                (cond (s.1 == 14)
                                  (some (s_6, (), (), (s.1 == 14), o0_5, o1_5))
                                  (some (s_6, (), (), (s.1 == 15), o0_5, o1_5)) : Option ((Int × (Int × (Int × Int))) × (Unit × (Unit × (Bool × ((List Int) × (List Int))))))) fun ((s_7, _, _, t77, o0_7, o1_7) : ((Int × (Int × (Int × Int))) × (Unit × (Unit × (Bool × ((List Int) × (List Int))))))) =>
                              some (s_7, (), (), t77, o0_7, o1_7)) : Option ((Int × (Int × (Int × Int))) × (Unit × (Unit × (Bool × ((List Int) × (List Int))))))) fun ((s_8, _, _, t77_1, o0_8, o1_8) : ((Int × (Int × (Int × Int))) × (Unit × (Unit × (Bool × ((List Int) × (List Int))))))) =>
                          some (s_8, (), (), t77_1, o0_8, o1_8)) : Option ((Int × (Int × (Int × Int))) × (Unit × (Unit × (Bool × ((List Int) × (List Int))))))) fun ((s_9, _, _, t77_2, o0_9, o1_9) : ((Int × (Int × (Int × Int))) × (Unit × (Unit × (Bool × ((List Int) × (List Int))))))) =>
                      Option.bind
                        (cond t77_2
                          ((shift111 k s_9.1 t11.1 o0_9).bind fun t86 =>
                          some (Sum.inl ((), (), t86.1, o1_9)))
                          (Option.bind
                            (cond (s.1 == 16)
                              (some (s_9, (), (), (s.1 == 16), o0_9, o1_9))
                              (some (s_9, (), (), (s.1 == 17), o0_9, o1_9)) : Option ((Int × (Int × (Int × Int))) × (Unit × (Unit × (Bool × ((List Int) × (List Int))))))) fun ((s_10, _, _, t87, o0_10, o1_10) : ((Int × (Int × (Int × Int))) × (Unit × (Unit × (Bool × ((List Int) × (List Int))))))) =>
                          Option.bind
                            (cond t87
                              ((Low47 k s_10.2.2.2 8).bind fun t93 =>
                              (flag112 k o0_10 t93.1 (s_10.1 == 16)).bind fun t97 =>
                              some (Sum.inl ((), (), t97.1, o1_10)))
                              (Option.bind
                                (cond (s.1 == 18)
                                  (some (s_10, (), (), (s.1 == 18), o0_10, o1_10))
                                  (some (s_10, (), (), (s.1 == 19), o0_10, o1_10)) : Option ((Int × (Int × (Int × Int))) × (Unit × (Unit × (Bool × ((List Int) × (List Int))))))) fun ((s_11, _, _, t98, o0_11, o1_11) : ((Int × (Int × (Int × Int))) × (Unit × (Unit × (Bool × ((List Int) × (List Int))))))) =>
                              Option.bind
                                (cond t98
                                  ((if 0 ≤ t11.1 ∧ t11.1 < 9 then some () else none).bind fun _ =>
                                  (rd o0_11 t11.1).bind fun t104 =>
                                  (if 0 ≤ t14.1 ∧ t14.1 < 9 then some () else none).bind fun _ =>
                                  (rd o0_11 t14.1).bind fun t111 =>
                                  (Put113 k t104 (w64 (8 * (w64 (s_11.1 - 18)))) 8 t111).bind fun t112 =>
                                  (if 0 ≤ t11.1 ∧ t11.1 < 9 then some () else none).bind fun _ =>
                                  (rd o0_11 t11.1).bind fun _ =>
                                  some (Sum.inl ((), (), (List.set o0_11 (Int.toNat t11.1) t112.1), o1_11)))
                                  (Option.bind
                                    (cond (s.1 == 20)
                                      (some (s_11, (), (), (s.1 == 20), o0_11, o1_11))
                                      (some (s_11, (), (), (s.1 == 21), o0_11, o1_11)) : Option ((Int × (Int × (Int × Int))) × (Unit × (Unit × (Bool × ((List Int) × (List Int))))))) fun ((s_12, _, _, t114, o0_12, o1_12) : ((Int × (Int × (Int × Int))) × (Unit × (Unit × (Bool × ((List Int) × (List Int))))))) =>
                                  Option.bind
                                    (cond t114
                                      ((if 0 ≤ t14.1 ∧ t14.1 < 9 then some () else none).bind fun _ =>
                                      (rd o0_12 t14.1).bind fun t120 =>
                                      (Get114 k t120 (w64 (8 * (w64 (s_12.1 - 20)))) 8).bind fun t125 =>
                                      (if 0 ≤ t11.1 ∧ t11.1 < 9 then some () else none).bind fun _ =>
                                      (rd o0_12 t11.1).bind fun _ =>
                                      some (Sum.inl ((), (), (List.set o0_12 (Int.toNat t11.1) t125.1), o1_12)))
                                      (Option.bind
                                        (cond (s.1 == 22)
                                          ((if 0 ≤ t11.1 ∧ t11.1 < 9 then some () else none).bind fun _ =>
                                          (rd o0_12 t11.1).bind fun t131 =>
                                          (if 0 ≤ t14.1 ∧ t14.1 < 9 then some () else none).bind fun _ =>
                                          (rd o0_12 t14.1).bind fun t134 =>
                                          (Low47 k t134 8).bind fun t135 =>
                                          (if 0 ≤ t11.1 ∧ t11.1 < 9 then some () else none).bind fun _ =>
                                          (rd o0_12 t11.1).bind fun _ =>
                                          some (Sum.inl ((), (), (List.set o0_12 (Int.toNat t11.1) (w64 (t131 + t135.1))), o1_12)))
                                          (Option.bind
                                            (cond (s.1 == 23)
                                              ((if 0 ≤ t11.1 ∧ t11.1 < 9 then some () else none).bind fun _ =>
                                              (rd o0_12 t11.1).bind fun t142 =>
                                              (if 0 ≤ t14.1 ∧ t14.1 < 9 then some () else none).bind fun _ =>
                                              (rd o0_12 t14.1).bind fun t145 =>
                                              (Signed115 k t145 8).bind fun t146 =>
                                              (if 0 ≤ t11.1 ∧ t11.1 < 9 then some () else none).bind fun _ =>
                                              (rd o0_12 t11.1).bind fun _ =>
                                              some (Sum.inl ((), (), (List.set o0_12 (Int.toNat t11.1) (w64 (t142 + t146.1))), o1_12)))
                                              (cond (s.1 == 24)
                                                ((if 0 ≤ 4 ∧ 4 < 9 then some () else none).bind fun _ =>
                                                (rd o0_12 4).bind fun t153 =>
                                                (Low47 k s_12.2.2.2 8).bind fun t156 =>
                                                some (Sum.inr (Sum.inr (Sum.inr (Sum.inr (Sum.inr (Sum.inr (Sum.inr (Sum.inr (Sum.inr (Sum.inr (Sum.inr ((o0_12, (xor true (((ibits .and .i64 t153 t156.1) != 0) == (s_12.2.2.1 == 1))), ()), ())))))))))))))
                                                (some (Sum.inl ((), (), o0_12, o1_12)))) : Option ((Unit × (Unit × ((List Int) × (List Int)))) ⊕ ((Unit × (Unit × ((List Int) × (List Int)))) ⊕ ((Unit × (Unit × ((List Int) × (List Int)))) ⊕ ((Unit × (Unit × ((List Int) × (List Int)))) ⊕ ((Unit × (Unit × ((List Int) × (List Int)))) ⊕ ((Unit × (Unit × ((List Int) × (List Int)))) ⊕ ((Unit × (Unit × ((List Int) × (List Int)))) ⊕ ((Unit × (Unit × ((List Int) × (List Int)))) ⊕ ((Unit × (Unit × ((List Int) × (List Int)))) ⊕ ((Unit × (Unit × ((List Int) × (List Int)))) ⊕ ((Unit × (Unit × ((List Int) × (List Int)))) ⊕ (((List Int) × (Bool × Unit)) × Unit))))))))))))) (joined fun ((_, _, o0_13, o1_13) : (Unit × (Unit × ((List Int) × (List Int))))) =>
                                            some (Sum.inl ((), (), o0_13, o1_13)))) : Option ((Unit × (Unit × ((List Int) × (List Int)))) ⊕ ((Unit × (Unit × ((List Int) × (List Int)))) ⊕ ((Unit × (Unit × ((List Int) × (List Int)))) ⊕ ((Unit × (Unit × ((List Int) × (List Int)))) ⊕ ((Unit × (Unit × ((List Int) × (List Int)))) ⊕ ((Unit × (Unit × ((List Int) × (List Int)))) ⊕ ((Unit × (Unit × ((List Int) × (List Int)))) ⊕ ((Unit × (Unit × ((List Int) × (List Int)))) ⊕ ((Unit × (Unit × ((List Int) × (List Int)))) ⊕ ((Unit × (Unit × ((List Int) × (List Int)))) ⊕ (((List Int) × (Bool × Unit)) × Unit)))))))))))) (joined fun ((_, _, o0_14, o1_14) : (Unit × (Unit × ((List Int) × (List Int))))) =>
                                        some (Sum.inl ((), (), o0_14, o1_14)))) : Option ((Unit × (Unit × ((List Int) × (List Int)))) ⊕ ((Unit × (Unit × ((List Int) × (List Int)))) ⊕ ((Unit × (Unit × ((List Int) × (List Int)))) ⊕ ((Unit × (Unit × ((List Int) × (List Int)))) ⊕ ((Unit × (Unit × ((List Int) × (List Int)))) ⊕ ((Unit × (Unit × ((List Int) × (List Int)))) ⊕ ((Unit × (Unit × ((List Int) × (List Int)))) ⊕ ((Unit × (Unit × ((List Int) × (List Int)))) ⊕ ((Unit × (Unit × ((List Int) × (List Int)))) ⊕ (((List Int) × (Bool × Unit)) × Unit))))))))))) (joined fun ((_, _, o0_15, o1_15) : (Unit × (Unit × ((List Int) × (List Int))))) =>
                                    some (Sum.inl ((), (), o0_15, o1_15)))) : Option ((Unit × (Unit × ((List Int) × (List Int)))) ⊕ ((Unit × (Unit × ((List Int) × (List Int)))) ⊕ ((Unit × (Unit × ((List Int) × (List Int)))) ⊕ ((Unit × (Unit × ((List Int) × (List Int)))) ⊕ ((Unit × (Unit × ((List Int) × (List Int)))) ⊕ ((Unit × (Unit × ((List Int) × (List Int)))) ⊕ ((Unit × (Unit × ((List Int) × (List Int)))) ⊕ ((Unit × (Unit × ((List Int) × (List Int)))) ⊕ (((List Int) × (Bool × Unit)) × Unit)))))))))) (joined fun ((_, _, o0_16, o1_16) : (Unit × (Unit × ((List Int) × (List Int))))) =>
                                some (Sum.inl ((), (), o0_16, o1_16)))) : Option ((Unit × (Unit × ((List Int) × (List Int)))) ⊕ ((Unit × (Unit × ((List Int) × (List Int)))) ⊕ ((Unit × (Unit × ((List Int) × (List Int)))) ⊕ ((Unit × (Unit × ((List Int) × (List Int)))) ⊕ ((Unit × (Unit × ((List Int) × (List Int)))) ⊕ ((Unit × (Unit × ((List Int) × (List Int)))) ⊕ ((Unit × (Unit × ((List Int) × (List Int)))) ⊕ (((List Int) × (Bool × Unit)) × Unit))))))))) (joined fun ((_, _, o0_17, o1_17) : (Unit × (Unit × ((List Int) × (List Int))))) =>
                            some (Sum.inl ((), (), o0_17, o1_17)))) : Option ((Unit × (Unit × ((List Int) × (List Int)))) ⊕ ((Unit × (Unit × ((List Int) × (List Int)))) ⊕ ((Unit × (Unit × ((List Int) × (List Int)))) ⊕ ((Unit × (Unit × ((List Int) × (List Int)))) ⊕ ((Unit × (Unit × ((List Int) × (List Int)))) ⊕ ((Unit × (Unit × ((List Int) × (List Int)))) ⊕ (((List Int) × (Bool × Unit)) × Unit)))))))) (joined fun ((_, _, o0_18, o1_18) : (Unit × (Unit × ((List Int) × (List Int))))) =>
                        some (Sum.inl ((), (), o0_18, o1_18)))) : Option ((Unit × (Unit × ((List Int) × (List Int)))) ⊕ ((Unit × (Unit × ((List Int) × (List Int)))) ⊕ ((Unit × (Unit × ((List Int) × (List Int)))) ⊕ ((Unit × (Unit × ((List Int) × (List Int)))) ⊕ ((Unit × (Unit × ((List Int) × (List Int)))) ⊕ (((List Int) × (Bool × Unit)) × Unit))))))) (joined fun ((_, _, o0_19, o1_19) : (Unit × (Unit × ((List Int) × (List Int))))) =>
                    some (Sum.inl ((), (), o0_19, o1_19)))) : Option ((Unit × (Unit × ((List Int) × (List Int)))) ⊕ ((Unit × (Unit × ((List Int) × (List Int)))) ⊕ ((Unit × (Unit × ((List Int) × (List Int)))) ⊕ ((Unit × (Unit × ((List Int) × (List Int)))) ⊕ (((List Int) × (Bool × Unit)) × Unit)))))) (joined fun ((_, _, o0_20, o1_20) : (Unit × (Unit × ((List Int) × (List Int))))) =>
                some (Sum.inl ((), (), o0_20, o1_20)))) : Option ((Unit × (Unit × ((List Int) × (List Int)))) ⊕ ((Unit × (Unit × ((List Int) × (List Int)))) ⊕ ((Unit × (Unit × ((List Int) × (List Int)))) ⊕ (((List Int) × (Bool × Unit)) × Unit))))) (joined fun ((_, _, o0_21, o1_21) : (Unit × (Unit × ((List Int) × (List Int))))) =>
            some (Sum.inl ((), (), o0_21, o1_21)))) : Option ((Unit × (Unit × ((List Int) × (List Int)))) ⊕ ((Unit × (Unit × ((List Int) × (List Int)))) ⊕ (((List Int) × (Bool × Unit)) × Unit)))) (joined fun ((_, _, o0_22, o1_22) : (Unit × (Unit × ((List Int) × (List Int))))) =>
        some (Sum.inl ((), (), o0_22, o1_22)))) : Option ((Unit × (Unit × ((List Int) × (List Int)))) ⊕ (((List Int) × (Bool × Unit)) × Unit))) (joined fun ((_, _, o0_23, _) : (Unit × (Unit × ((List Int) × (List Int))))) =>
    (Fit77 k o0_23).bind fun t164 =>
    some ((t164.1, false, ()), ()))
def Do82.A : Ann := { conds := [(1245189, ⟨[(3, .ptr 0 []), (4, .ptr 1 [])], [(0, .var (.arr 9 (.int .i64))), (1, .var (.arr 9 (.int .i64)))], 2, [], 11692013098647223345629478661730264157247458246944⟩), (1703943, ⟨[(3, .ptr 0 []), (4, .ptr 1 [])], [(0, .var (.arr 9 (.int .i64))), (1, .var (.arr 9 (.int .i64)))], 2, [], 11692013098647223345629478661730264157247191908640⟩), (2097161, ⟨[(3, .ptr 0 []), (4, .ptr 1 [])], [(0, .var (.arr 9 (.int .i64))), (1, .var (.arr 9 (.int .i64)))], 2, [], 11692013098647223345629478661730264157230280474912⟩), (2621451, ⟨[(2, .fp (.st (.pair (.int .i64) (.pair (.int .i64) (.pair (.int .i64) (.int .i64)))))), (3, .ptr 0 []), (4, .ptr 1 []), (40, .bool)], [(0, .var (.arr 9 (.int .i64))), (1, .var (.arr 9 (.int .i64)))], 2, [], 137438953472000⟩), (2621452, ⟨[(2, .fp (.st (.pair (.int .i64) (.pair (.int .i64) (.pair (.int .i64) (.int .i64)))))), (3, .ptr 0 []), (4, .ptr 1 []), (40, .bool)], [(0, .var (.arr 9 (.int .i64))), (1, .var (.arr 9 (.int .i64)))], 2, [], 133040906960896⟩), (2621453, ⟨[(2, .fp (.st (.pair (.int .i64) (.pair (.int .i64) (.pair (.int .i64) (.int .i64)))))), (3, .ptr 0 []), (4, .ptr 1 []), (40, .bool)], [(0, .var (.arr 9 (.int .i64))), (1, .var (.arr 9 (.int .i64)))], 2, [], 124244813938688⟩), (2621454, ⟨[(2, .fp (.st (.pair (.int .i64) (.pair (.int .i64) (.pair (.int .i64) (.int .i64)))))), (3, .ptr 0 []), (4, .ptr 1 []), (40, .bool)], [(0, .var (.arr 9 (.int .i64))), (1, .var (.arr 9 (.int .i64)))], 2, [], 106652627894272⟩), (2621455, ⟨[(2, .fp (.st (.pair (.int .i64) (.pair (.int .i64) (.pair (.int .i64) (.int .i64)))))), (3, .ptr 0 []), (4, .ptr 1 []), (40, .bool)], [(0, .var (.arr 9 (.int .i64))), (1, .var (.arr 9 (.int .i64)))], 2, [], 71468255805440⟩), (2621456, ⟨[(3, .ptr 0 []), (4, .ptr 1 [])], [(0, .var (.arr 9 (.int .i64))), (1, .var (.arr 9 (.int .i64)))], 2, [], 11692013098647223345629478661730264016509971988768⟩), (3473426, ⟨[(2, .fp (.st (.pair (.int .i64) (.pair (.int .i64) (.pair (.int .i64) (.int .i64)))))), (3, .ptr 0 []), (4, .ptr 1 []), (53, .bool)], [(0, .var (.arr 9 (.int .i64))), (1, .var (.arr 9 (.int .i64)))], 2, [], 45035996273704960⟩), (3473427, ⟨[(3, .ptr 0 []), (4, .ptr 1 [])], [(0, .var (.arr 9 (.int .i64))), (1, .var (.arr 9 (.int .i64)))], 2, [], 11692013098647223345629478661730192099653422416160⟩), (4587541, ⟨[(3, .ptr 0 []), (4, .ptr 1 [])], [(0, .var (.arr 9 (.int .i64))), (1, .var (.arr 9 (.int .i64)))], 2, [], 16528282690043758247936⟩), (5046296, ⟨[(2, .fp (.st (.pair (.int .i64) (.pair (.int .i64) (.pair (.int .i64) (.int .i64)))))), (3, .ptr 0 []), (4, .ptr 1 []), (77, .bool)], [(0, .var (.arr 9 (.int .i64))), (1, .var (.arr 9 (.int .i64)))], 2, [], 4382356096103030758309888⟩), (5046297, ⟨[(2, .fp (.st (.pair (.int .i64) (.pair (.int .i64) (.pair (.int .i64) (.int .i64)))))), (3, .ptr 0 []), (4, .ptr 1 []), (77, .bool)], [(0, .var (.arr 9 (.int .i64))), (1, .var (.arr 9 (.int .i64)))], 2, [], 3777893186295716170956800⟩), (5046298, ⟨[(2, .fp (.st (.pair (.int .i64) (.pair (.int .i64) (.pair (.int .i64) (.int .i64)))))), (3, .ptr 0 []), (4, .ptr 1 []), (77, .bool)], [(0, .var (.arr 9 (.int .i64))), (1, .var (.arr 9 (.int .i64)))], 2, [], 2568967366681086996250624⟩), (5046299, ⟨[(3, .ptr 0 []), (4, .ptr 1 [])], [(0, .var (.arr 9 (.int .i64))), (1, .var (.arr 9 (.int .i64)))], 2, [], 11692013098647223345629473826026985698730761519136⟩), (5701661, ⟨[(2, .fp (.st (.pair (.int .i64) (.pair (.int .i64) (.pair (.int .i64) (.int .i64)))))), (3, .ptr 0 []), (4, .ptr 1 []), (87, .bool)], [(0, .var (.arr 9 (.int .i64))), (1, .var (.arr 9 (.int .i64)))], 2, [], 773712524553362671811952640⟩), (5701662, ⟨[(3, .ptr 0 []), (4, .ptr 1 [])], [(0, .var (.arr 9 (.int .i64))), (1, .var (.arr 9 (.int .i64)))], 2, [], 11692013098647223345628240721690978776972561219616⟩), (6422560, ⟨[(2, .fp (.st (.pair (.int .i64) (.pair (.int .i64) (.pair (.int .i64) (.int .i64)))))), (3, .ptr 0 []), (4, .ptr 1 []), (98, .bool)], [(0, .var (.arr 9 (.int .i64))), (1, .var (.arr 9 (.int .i64)))], 2, [], 1584563250285286751870879006720⟩), (6422561, ⟨[(3, .ptr 0 []), (4, .ptr 1 [])], [(0, .var (.arr 9 (.int .i64))), (1, .var (.arr 9 (.int .i64)))], 2, [], 11692013098647223343094177461273805354254053933088⟩), (7471139, ⟨[(2, .fp (.st (.pair (.int .i64) (.pair (.int .i64) (.pair (.int .i64) (.int .i64)))))), (3, .ptr 0 []), (4, .ptr 1 []), (114, .bool)], [(0, .var (.arr 9 (.int .i64))), (1, .var (.arr 9 (.int .i64)))], 2, [], 103845937170696552570609926584401920⟩), (7471140, ⟨[(3, .ptr 0 []), (4, .ptr 1 [])], [(0, .var (.arr 9 (.int .i64))), (1, .var (.arr 9 (.int .i64)))], 2, [], 11692013098647057192130005547246151181364925300768⟩), (8323110, ⟨[(3, .ptr 0 []), (4, .ptr 1 [])], [(0, .var (.arr 9 (.int .i64))), (1, .var (.arr 9 (.int .i64)))], 2, [], 11692013097966658611787601734803514942383923920928⟩), (9044008, ⟨[(3, .ptr 0 []), (4, .ptr 1 [])], [(0, .var (.arr 9 (.int .i64))), (1, .var (.arr 9 (.int .i64)))], 2, [], 11692011704850648437465532315747872116724866220064⟩)], blocks := [], loops := [], keeps := [2], orders := [(1, [(0, .strong), (1, .strong), (3, .strong), (4, .strong), (2, .eff true), (5, .eff true), (6, .strong), (7, .strong)]), (9, [(0, .strong), (1, .strong), (2, .strong), (3, .strong), (4, .eff true), (5, .eff true), (6, .eff false)]), (19, [(0, .strong), (1, .strong), (2, .strong), (3, .strong), (4, .strong), (5, .strong), (6, .strong), (7, .strong), (8, .strong), (9, .strong), (10, .eff true), (11, .eff true), (12, .strong)]), (30, [(0, .strong), (1, .strong), (2, .strong), (4, .strong), (5, .strong), (6, .strong), (3, .eff true), (7, .eff true), (8, .eff false)]), (33, [(0, .strong), (1, .strong), (2, .strong), (3, .strong), (4, .strong), (5, .strong), (6, .strong), (7, .strong), (8, .strong), (9, .strong), (10, .strong), (11, .eff true), (12, .strong), (13, .eff false)]), (36, [(0, .strong), (1, .strong), (2, .strong), (3, .strong), (4, .strong), (5, .strong), (6, .strong), (7, .strong), (8, .eff true), (9, .strong), (10, .eff false)]), (38, [(0, .strong), (1, .strong), (2, .strong), (3, .strong), (4, .strong), (5, .strong), (6, .eff true), (7, .strong), (8, .strong), (9, .eff false)]), (40, [(0, .strong), (1, .strong), (2, .strong), (3, .strong), (4, .strong), (5, .strong), (6, .eff true), (7, .strong), (8, .strong), (9, .eff false)]), (42, [(0, .strong), (1, .strong), (2, .strong), (3, .strong), (4, .strong), (8, .strong), (9, .strong), (10, .strong), (5, .eff true), (6, .strong), (7, .strong), (11, .strong), (12, .eff true), (13, .strong)])], touches := [(42, 2)] }
def Do82.S : Sig := { f := 82, params := [.st (.pair (.int .i64) (.pair (.int .i64) (.pair (.int .i64) (.int .i64)))), .arr 9 (.int .i64)], objs := [], res := .tup (.pair (.arr 9 (.int .i64)) (.pair .bool .unit)), outs := [], fix := [], run := fun k ds os => Do82 k ds.1 ds.2 }
def Do82.G : List Sig := [Fit77.S, Get114.S, Low47.S, Put113.S, Signed115.S, Wide104.S, binary110.S, bits106.S, flag112.S, index108.S, nz109.S, shift111.S]
theorem Do82.eq (k : Nat) : ∀ ds os, Do82.S.run k ds os = runF ⟨types, Do82.G, Do82.A, k, 0, []⟩ Try.f82 (codeOf Try.f82) Do82.S.params Do82.S.objs Do82.S.res Do82.S.outs ds os := by
  intro ds os; kernel_rfl
theorem Do82.dr : DrOk Try.prog Do82.A (codeOf Try.f82) := ⟨by kernel_rfl, by kernel_rfl⟩
theorem Do82.ok (k : Nat) : SoundAt Try.prog k Do82.S :=
  runF_sound (X := ⟨types, Do82.G, Do82.A, k, 0, []⟩) types_ok (mem_all (⟨Fit77.ok k, ⟨Get114.ok k, ⟨Low47.ok k, ⟨Put113.ok k, ⟨Signed115.ok k, ⟨Wide104.ok k, ⟨binary110.ok k, ⟨bits106.ok k, ⟨flag112.ok k, ⟨index108.ok k, ⟨nz109.ok k, ⟨shift111.ok k, trivial⟩⟩⟩⟩⟩⟩⟩⟩⟩⟩⟩⟩)) (fn := Try.f82) (c := codeOf Try.f82) rfl (by kernel_rfl) rfl rfl Do82.dr (Do82.eq k)
end Go.Proofs.Ytcppmlgnceldmaa.Ge

/- Go functions as plain Lean functions, and their contracts. -/
set_option linter.unusedVariables false
set_option maxRecDepth 100000
noncomputable section
namespace Go.Proofs.Ytcppmlgnceldmaa.Ge
open Go Go.Proofs.Ytcppmlgnceldmaa.Gp
def Tell46.l0 (k : Nat) (x : (Int × (Int × (Int × (List (Int × (Int × (Int × Int)))))))) : ((ByteArray × ((List (Int × (ByteArray × (Int × (List (Int × (Int × (Int × (List (Int × (Int × (Int × Int)))))))))))) × ((List (Int × (Int × (Int × (List (Int × (Int × (Int × Int)))))))) × ((List (Int × (Int × (Int × (List (Int × (Int × (Int × Int)))))))) × (List (Int × (Int × (Int × (List (Int × (Int × (Int × Int)))))))))))) × (Unit × (Unit × (Int × (((List Int) × (Int × (Int × Bool))) × ((List Int) × (Int × (Int × Bool)))))))) → Option (((ByteArray × ((List (Int × (ByteArray × (Int × (List (Int × (Int × (Int × (List (Int × (Int × (Int × Int)))))))))))) × ((List (Int × (Int × (Int × (List (Int × (Int × (Int × Int)))))))) × ((List (Int × (Int × (Int × (List (Int × (Int × (Int × Int)))))))) × (List (Int × (Int × (Int × (List (Int × (Int × (Int × Int)))))))))))) × (Unit × (Unit × (Int × (((List Int) × (Int × (Int × Bool))) × ((List Int) × (Int × (Int × Bool)))))))) ⊕ (((ByteArray × ((List (Int × (ByteArray × (Int × (List (Int × (Int × (Int × (List (Int × (Int × (Int × Int)))))))))))) × ((List (Int × (Int × (Int × (List (Int × (Int × (Int × Int)))))))) × ((List (Int × (Int × (Int × (List (Int × (Int × (Int × Int)))))))) × (List (Int × (Int × (Int × (List (Int × (Int × (Int × Int)))))))))))) × (Unit × (Unit × (((List Int) × (Int × (Int × Bool))) × ((List Int) × (Int × (Int × Bool))))))) ⊕ (((List Int) × (Int × (Int × Bool))) × Unit)))
  | (c_2, _, _, t79, o0_3, o1_3) =>
    cond (decide (t79 < (List.length x.2.2.2 : Int)))
      ((rd x.2.2.2 t79).bind fun t81 =>
      (Do82 k t81 o0_3.1).bind fun t87 =>
      cond t87.1.2.1
        (some (Sum.inr (Sum.inr ((t87.1.1, (-1), 0, o0_3.2.2.2), ()))))
        (some (Sum.inl (c_2, (), (), (w64 (t79 + 1)), (t87.1.1, o0_3.2), o1_3))))
      (some (Sum.inr (Sum.inl (c_2, (), (), o0_3, o1_3))))
def Tell46 (k : Nat) (c : (ByteArray × ((List (Int × (ByteArray × (Int × (List (Int × (Int × (Int × (List (Int × (Int × (Int × Int)))))))))))) × ((List (Int × (Int × (Int × (List (Int × (Int × (Int × Int)))))))) × ((List (Int × (Int × (Int × (List (Int × (Int × (Int × Int)))))))) × (List (Int × (Int × (Int × (List (Int × (Int × (Int × Int))))))))))))) (k_ : ((List Int) × (Int × (Int × Bool)))) (data : Int) : Option (((List Int) × (Int × (Int × Bool))) × Unit) :=
  (Low47 k data 8).bind fun t16 =>
  (Fit77 k k_.1).bind fun t19 =>
  cond (k_.2.1 == (-1))
    ((Find52 k c t16.1).bind fun t27 =>
    Option.bind
      (cond (!t27.1.2.1)
        (some ((), (), (t19.1, 259, k_.2.2), (List.replicate 9 0), 0, 0, false))
        (Option.bind
          (cond (decide ((List.length t27.1.1.2.2.2 : Int) > 0))
            (some ((), (), (t19.1, t16.1, k_.2.2), (List.replicate 9 0), 0, 0, false))
            (some ((), (), (t19.1, k_.2), (List.replicate 9 0), 0, 0, false)) : Option (Unit × (Unit × (((List Int) × (Int × (Int × Bool))) × ((List Int) × (Int × (Int × Bool))))))) fun ((_, _, o0, o1) : (Unit × (Unit × (((List Int) × (Int × (Int × Bool))) × ((List Int) × (Int × (Int × Bool))))))) =>
        some ((), (), o0, o1)) : Option (Unit × (Unit × (((List Int) × (Int × (Int × Bool))) × ((List Int) × (Int × (Int × Bool))))))) fun ((_, _, o0_1, _) : (Unit × (Unit × (((List Int) × (Int × (Int × Bool))) × ((List Int) × (Int × (Int × Bool))))))) =>
    some ((o0_1.1, o0_1.2.1, 0, o0_1.2.2.2), ()))
    ((doing80 k c (t19.1, k_.2)).bind fun t46 =>
    cond (!t46.1.2.1)
      ((ended81 k c (t19.1, k_.2)).bind fun t53 =>
      some (t53.1, ()))
      (Option.bind
        (cond (cond (cond (t46.1.1.1 == 1) (decide (t46.1.1.2.2.1 ≥ 0)) false) (decide (t46.1.1.2.2.1 < 9)) false)
          ((if 0 ≤ t46.1.1.2.2.1 ∧ t46.1.1.2.2.1 < 9 then some () else none).bind fun _ =>
          (rd t19.1 t46.1.1.2.2.1).bind fun _ =>
          some (c, (), (), t46.1.1, ((List.set t19.1 (Int.toNat t46.1.1.2.2.1) t16.1), k_.2), (List.replicate 9 0), 0, 0, false))
          (some (c, (), (), t46.1.1, (t19.1, k_.2), (List.replicate 9 0), 0, 0, false)) : Option ((ByteArray × ((List (Int × (ByteArray × (Int × (List (Int × (Int × (Int × (List (Int × (Int × (Int × Int)))))))))))) × ((List (Int × (Int × (Int × (List (Int × (Int × (Int × Int)))))))) × ((List (Int × (Int × (Int × (List (Int × (Int × (Int × Int)))))))) × (List (Int × (Int × (Int × (List (Int × (Int × (Int × Int)))))))))))) × (Unit × (Unit × ((Int × (Int × (Int × (List (Int × (Int × (Int × Int))))))) × (((List Int) × (Int × (Int × Bool))) × ((List Int) × (Int × (Int × Bool))))))))) fun ((c_1, _, _, x, o0_2, o1_2) : ((ByteArray × ((List (Int × (ByteArray × (Int × (List (Int × (Int × (Int × (List (Int × (Int × (Int × Int)))))))))))) × ((List (Int × (Int × (Int × (List (Int × (Int × (Int × Int)))))))) × ((List (Int × (Int × (Int × (List (Int × (Int × (Int × Int)))))))) × (List (Int × (Int × (Int × (List (Int × (Int × (Int × Int)))))))))))) × (Unit × (Unit × ((Int × (Int × (Int × (List (Int × (Int × (Int × Int))))))) × (((List Int) × (Int × (Int × Bool))) × ((List Int) × (Int × (Int × Bool))))))))) =>
      Option.bind
        (loopN (Tell46.l0 k x) k (c_1, (), (), 0, (o0_2.1, o0_2.2.1, (w64 (o0_2.2.2.1 + 1)), o0_2.2.2.2), o1_2) : Option (((ByteArray × ((List (Int × (ByteArray × (Int × (List (Int × (Int × (Int × (List (Int × (Int × (Int × Int)))))))))))) × ((List (Int × (Int × (Int × (List (Int × (Int × (Int × Int)))))))) × ((List (Int × (Int × (Int × (List (Int × (Int × (Int × Int)))))))) × (List (Int × (Int × (Int × (List (Int × (Int × (Int × Int)))))))))))) × (Unit × (Unit × (((List Int) × (Int × (Int × Bool))) × ((List Int) × (Int × (Int × Bool))))))) ⊕ (((List Int) × (Int × (Int × Bool))) × Unit))) (joined fun ((c_3, _, _, o0_4, o1_4) : ((ByteArray × ((List (Int × (ByteArray × (Int × (List (Int × (Int × (Int × (List (Int × (Int × (Int × Int)))))))))))) × ((List (Int × (Int × (Int × (List (Int × (Int × (Int × Int)))))))) × ((List (Int × (Int × (Int × (List (Int × (Int × (Int × Int)))))))) × (List (Int × (Int × (Int × (List (Int × (Int × (Int × Int)))))))))))) × (Unit × (Unit × (((List Int) × (Int × (Int × Bool))) × ((List Int) × (Int × (Int × Bool)))))))) =>
        (cycles83 k c_3 o0_4.2.1).bind fun t102 =>
        Option.bind
          (cond (decide (o0_4.2.2.1 ≥ (List.length t102.1 : Int)))
            (some ((), (), (o0_4.1, (-1), 0, o0_4.2.2.2), o1_4))
            (some ((), (), o0_4, o1_4)) : Option (Unit × (Unit × (((List Int) × (Int × (Int × Bool))) × ((List Int) × (Int × (Int × Bool))))))) fun ((_, _, o0_5, _) : (Unit × (Unit × (((List Int) × (Int × (Int × Bool))) × ((List Int) × (Int × (Int × Bool))))))) =>
        some (o0_5, ()))))
def Tell46.A : Ann := { conds := [(1966086, ⟨[(4, .ptr 0 []), (6, .ptr 1 [])], [(0, .var (.st (.pair (.arr 9 (.int .i64)) (.pair (.int .i64) (.pair (.int .i64) .bool))))), (1, .var (.st (.pair (.arr 9 (.int .i64)) (.pair (.int .i64) (.pair (.int .i64) .bool)))))], 2, [], 2190433320960⟩), (2228232, ⟨[(4, .ptr 0 []), (6, .ptr 1 [])], [(0, .var (.st (.pair (.arr 9 (.int .i64)) (.pair (.int .i64) (.pair (.int .i64) .bool))))), (1, .var (.st (.pair (.arr 9 (.int .i64)) (.pair (.int .i64) (.pair (.int .i64) .bool)))))], 2, [], 1649267441664⟩), (4325391, ⟨[(3, .fp (.st (.pair .str (.pair (.sl (.st (.pair (.int .i64) (.pair .str (.pair (.int .i64) (.sl (.st (.pair (.int .i64) (.pair (.int .i64) (.pair (.int .i64) (.sl (.st (.pair (.int .i64) (.pair (.int .i64) (.pair (.int .i64) (.int .i64)))))))))))))))) (.pair (.sl (.st (.pair (.int .i64) (.pair (.int .i64) (.pair (.int .i64) (.sl (.st (.pair (.int .i64) (.pair (.int .i64) (.pair (.int .i64) (.int .i64))))))))))) (.pair (.sl (.st (.pair (.int .i64) (.pair (.int .i64) (.pair (.int .i64) (.sl (.st (.pair (.int .i64) (.pair (.int .i64) (.pair (.int .i64) (.int .i64))))))))))) (.sl (.st (.pair (.int .i64) (.pair (.int .i64) (.pair (.int .i64) (.sl (.st (.pair (.int .i64) (.pair (.int .i64) (.pair (.int .i64) (.int .i64))))))))))))))))), (4, .ptr 0 []), (6, .ptr 1 []), (9, .fp (.st (.pair (.int .i64) (.pair (.int .i64) (.pair (.int .i64) (.sl (.st (.pair (.int .i64) (.pair (.int .i64) (.pair (.int .i64) (.int .i64)))))))))))], [(0, .var (.st (.pair (.arr 9 (.int .i64)) (.pair (.int .i64) (.pair (.int .i64) .bool))))), (1, .var (.st (.pair (.arr 9 (.int .i64)) (.pair (.int .i64) (.pair (.int .i64) .bool)))))], 2, [], 4574792530279968800768⟩), (6815771, ⟨[(4, .ptr 0 []), (6, .ptr 1 [])], [(0, .var (.st (.pair (.arr 9 (.int .i64)) (.pair (.int .i64) (.pair (.int .i64) .bool))))), (1, .var (.st (.pair (.arr 9 (.int .i64)) (.pair (.int .i64) (.pair (.int .i64) .bool)))))], 2, [], 121694457621910022543683507716096⟩)], blocks := [(1, ⟨[(3, .fp (.st (.pair .str (.pair (.sl (.st (.pair (.int .i64) (.pair .str (.pair (.int .i64) (.sl (.st (.pair (.int .i64) (.pair (.int .i64) (.pair (.int .i64) (.sl (.st (.pair (.int .i64) (.pair (.int .i64) (.pair (.int .i64) (.int .i64)))))))))))))))) (.pair (.sl (.st (.pair (.int .i64) (.pair (.int .i64) (.pair (.int .i64) (.sl (.st (.pair (.int .i64) (.pair (.int .i64) (.pair (.int .i64) (.int .i64))))))))))) (.pair (.sl (.st (.pair (.int .i64) (.pair (.int .i64) (.pair (.int .i64) (.sl (.st (.pair (.int .i64) (.pair (.int .i64) (.pair (.int .i64) (.int .i64))))))))))) (.sl (.st (.pair (.int .i64) (.pair (.int .i64) (.pair (.int .i64) (.sl (.st (.pair (.int .i64) (.pair (.int .i64) (.pair (.int .i64) (.int .i64))))))))))))))))), (4, .ptr 0 []), (6, .ptr 1 [])], [(0, .var (.st (.pair (.arr 9 (.int .i64)) (.pair (.int .i64) (.pair (.int .i64) .bool))))), (1, .var (.st (.pair (.arr 9 (.int .i64)) (.pair (.int .i64) (.pair (.int .i64) .bool)))))], 2, [], 158455720565618867872500576256⟩)], loops := [(18, ⟨[(3, .fp (.st (.pair .str (.pair (.sl (.st (.pair (.int .i64) (.pair .str (.pair (.int .i64) (.sl (.st (.pair (.int .i64) (.pair (.int .i64) (.pair (.int .i64) (.sl (.st (.pair (.int .i64) (.pair (.int .i64) (.pair (.int .i64) (.int .i64)))))))))))))))) (.pair (.sl (.st (.pair (.int .i64) (.pair (.int .i64) (.pair (.int .i64) (.sl (.st (.pair (.int .i64) (.pair (.int .i64) (.pair (.int .i64) (.int .i64))))))))))) (.pair (.sl (.st (.pair (.int .i64) (.pair (.int .i64) (.pair (.int .i64) (.sl (.st (.pair (.int .i64) (.pair (.int .i64) (.pair (.int .i64) (.int .i64))))))))))) (.sl (.st (.pair (.int .i64) (.pair (.int .i64) (.pair (.int .i64) (.sl (.st (.pair (.int .i64) (.pair (.int .i64) (.pair (.int .i64) (.int .i64))))))))))))))))), (4, .ptr 0 []), (6, .ptr 1 []), (79, .int .i64)], [(0, .var (.st (.pair (.arr 9 (.int .i64)) (.pair (.int .i64) (.pair (.int .i64) .bool))))), (1, .var (.st (.pair (.arr 9 (.int .i64)) (.pair (.int .i64) (.pair (.int .i64) .bool)))))], 2, [], 158455720565618867872500576256⟩)], keeps := [3, 7, 9, 12, 13], orders := [(26, [(0, .strong), (1, .strong), (2, .strong), (3, .strong), (4, .strong), (5, .eff true), (6, .strong), (7, .strong)])] }
def Tell46.S : Sig := { f := 46, params := [.st (.pair .str (.pair (.sl (.st (.pair (.int .i64) (.pair .str (.pair (.int .i64) (.sl (.st (.pair (.int .i64) (.pair (.int .i64) (.pair (.int .i64) (.sl (.st (.pair (.int .i64) (.pair (.int .i64) (.pair (.int .i64) (.int .i64)))))))))))))))) (.pair (.sl (.st (.pair (.int .i64) (.pair (.int .i64) (.pair (.int .i64) (.sl (.st (.pair (.int .i64) (.pair (.int .i64) (.pair (.int .i64) (.int .i64))))))))))) (.pair (.sl (.st (.pair (.int .i64) (.pair (.int .i64) (.pair (.int .i64) (.sl (.st (.pair (.int .i64) (.pair (.int .i64) (.pair (.int .i64) (.int .i64))))))))))) (.sl (.st (.pair (.int .i64) (.pair (.int .i64) (.pair (.int .i64) (.sl (.st (.pair (.int .i64) (.pair (.int .i64) (.pair (.int .i64) (.int .i64))))))))))))))), .st (.pair (.arr 9 (.int .i64)) (.pair (.int .i64) (.pair (.int .i64) .bool))), .int .i64], objs := [], res := .st (.pair (.arr 9 (.int .i64)) (.pair (.int .i64) (.pair (.int .i64) .bool))), outs := [], fix := [], run := fun k ds os => Tell46 k ds.1 ds.2.1 ds.2.2 }
def Tell46.G : List Sig := [Do82.S, Find52.S, Fit77.S, Low47.S, cycles83.S, doing80.S, ended81.S]
theorem Tell46.eq (k : Nat) : ∀ ds os, Tell46.S.run k ds os = runF ⟨types, Tell46.G, Tell46.A, k, 0, []⟩ Try.f46 (codeOf Try.f46) Tell46.S.params Tell46.S.objs Tell46.S.res Tell46.S.outs ds os := by
  intro ds os; kernel_rfl
theorem Tell46.dr : DrOk Try.prog Tell46.A (codeOf Try.f46) := ⟨by kernel_rfl, by kernel_rfl⟩
theorem Tell46.ok (k : Nat) : SoundAt Try.prog k Tell46.S :=
  runF_sound (X := ⟨types, Tell46.G, Tell46.A, k, 0, []⟩) types_ok (mem_all (⟨Do82.ok k, ⟨Find52.ok k, ⟨Fit77.ok k, ⟨Low47.ok k, ⟨cycles83.ok k, ⟨doing80.ok k, ⟨ended81.ok k, trivial⟩⟩⟩⟩⟩⟩⟩)) (fn := Try.f46) (c := codeOf Try.f46) rfl (by kernel_rfl) rfl rfl Tell46.dr (Tell46.eq k)
end Go.Proofs.Ytcppmlgnceldmaa.Ge

/- Go functions as plain Lean functions, and their contracts. -/
set_option linter.unusedVariables false
set_option maxRecDepth 100000
noncomputable section
namespace Go.Proofs.Ytcppmlgnceldmaa.Ge
open Go Go.Proofs.Ytcppmlgnceldmaa.Gp
def Run20.l0 (k : Nat) : ((ByteArray × ((List (Int × (ByteArray × (Int × (List (Int × (Int × (Int × (List (Int × (Int × (Int × Int)))))))))))) × ((List (Int × (Int × (Int × (List (Int × (Int × (Int × Int)))))))) × ((List (Int × (Int × (Int × (List (Int × (Int × (Int × Int)))))))) × (List (Int × (Int × (Int × (List (Int × (Int × (Int × Int)))))))))))) × (Unit × (Unit × (Unit × (Int × ((List (Int × Int)) × (((List Int) × Unit) × (((List Int) × (Int × (Int × Bool))) × (List (Int × (Int × Int))))))))))) → Option (((ByteArray × ((List (Int × (ByteArray × (Int × (List (Int × (Int × (Int × (List (Int × (Int × (Int × Int)))))))))))) × ((List (Int × (Int × (Int × (List (Int × (Int × (Int × Int)))))))) × ((List (Int × (Int × (Int × (List (Int × (Int × (Int × Int)))))))) × (List (Int × (Int × (Int × (List (Int × (Int × (Int × Int)))))))))))) × (Unit × (Unit × (Unit × (Int × ((List (Int × Int)) × (((List Int) × Unit) × (((List Int) × (Int × (Int × Bool))) × (List (Int × (Int × Int))))))))))) ⊕ (Unit × (List (Int × (Int × Int)))))
  | (c_1, _, _, _, t20, o0, o1, o2, o6) =>
    cond (decide (t20 < 40))
      ((Ask43 k c_1 o2 false).bind fun t25 =>
      Option.bind
        (cond (t25.1.2.1.1 == 1)
          ((Read44 k () t25.1.2.1.2.1 (o1.1, ()) o0).bind fun t35 =>
          some (c_1, (), (), (), t25.1.1, (), t35.2.2, (t35.2.1.1, t35.2.1.2), o2, o6, t25.1.2.1.1, t25.1.2.1.2.1, t35.1))
          (Option.bind
            (cond (t25.1.2.1.1 == 2)
              ((Write45 k () t25.1.2.1.2.1 t25.1.2.1.2.2 (o1.1, ()) o0).bind fun t44 =>
              some (c_1, (), (), (), t25.1.1, (), t44.2.2, (t44.2.1.1, t44.2.1.2), o2, o6, t25.1.2.1))
              (some (c_1, (), (), (), t25.1.1, (), o0, o1, o2, o6, t25.1.2.1)) : Option ((ByteArray × ((List (Int × (ByteArray × (Int × (List (Int × (Int × (Int × (List (Int × (Int × (Int × Int)))))))))))) × ((List (Int × (Int × (Int × (List (Int × (Int × (Int × Int)))))))) × ((List (Int × (Int × (Int × (List (Int × (Int × (Int × Int)))))))) × (List (Int × (Int × (Int × (List (Int × (Int × (Int × Int)))))))))))) × (Unit × (Unit × (Unit × (((List Int) × (Int × (Int × Bool))) × (Unit × ((List (Int × Int)) × (((List Int) × Unit) × (((List Int) × (Int × (Int × Bool))) × ((List (Int × (Int × Int))) × (Int × (Int × Int))))))))))))) fun ((c_2, _, _, _, k0, _, o0_1, o1_1, o2_1, o6_1, o8) : ((ByteArray × ((List (Int × (ByteArray × (Int × (List (Int × (Int × (Int × (List (Int × (Int × (Int × Int)))))))))))) × ((List (Int × (Int × (Int × (List (Int × (Int × (Int × Int)))))))) × ((List (Int × (Int × (Int × (List (Int × (Int × (Int × Int)))))))) × (List (Int × (Int × (Int × (List (Int × (Int × (Int × Int)))))))))))) × (Unit × (Unit × (Unit × (((List Int) × (Int × (Int × Bool))) × (Unit × ((List (Int × Int)) × (((List Int) × Unit) × (((List Int) × (Int × (Int × Bool))) × ((List (Int × (Int × Int))) × (Int × (Int × Int))))))))))))) =>
          some (c_2, (), (), (), k0, (), o0_1, o1_1, o2_1, o6_1, o8)) : Option ((ByteArray × ((List (Int × (ByteArray × (Int × (List (Int × (Int × (Int × (List (Int × (Int × (Int × Int)))))))))))) × ((List (Int × (Int × (Int × (List (Int × (Int × (Int × Int)))))))) × ((List (Int × (Int × (Int × (List (Int × (Int × (Int × Int)))))))) × (List (Int × (Int × (Int × (List (Int × (Int × (Int × Int)))))))))))) × (Unit × (Unit × (Unit × (((List Int) × (Int × (Int × Bool))) × (Unit × ((List (Int × Int)) × (((List Int) × Unit) × (((List Int) × (Int × (Int × Bool))) × ((List (Int × (Int × Int))) × (Int × (Int × Int))))))))))))) fun ((c_3, _, _, _, k0_1, _, o0_2, o1_2, _, o6_2, o8_1) : ((ByteArray × ((List (Int × (ByteArray × (Int × (List (Int × (Int × (Int × (List (Int × (Int × (Int × Int)))))))))))) × ((List (Int × (Int × (Int × (List (Int × (Int × (Int × Int)))))))) × ((List (Int × (Int × (Int × (List (Int × (Int × (Int × Int)))))))) × (List (Int × (Int × (Int × (List (Int × (Int × (Int × Int)))))))))))) × (Unit × (Unit × (Unit × (((List Int) × (Int × (Int × Bool))) × (Unit × ((List (Int × Int)) × (((List Int) × Unit) × (((List Int) × (Int × (Int × Bool))) × ((List (Int × (Int × Int))) × (Int × (Int × Int))))))))))))) =>
      (Tell46 k c_3 k0_1 o8_1.2.2).bind fun t49 =>
      (if room (List.length o6_2 + List.length [o8_1]) 24 then some () else none).bind fun _ =>
      some (Sum.inl (c_3, (), (), (), (w64 (t20 + 1)), o0_2, o1_2, t49.1, (o6_2 ++ [o8_1]))))
      (some (Sum.inr ((), o6)))
def Run20 (k : Nat) (c : (ByteArray × ((List (Int × (ByteArray × (Int × (List (Int × (Int × (Int × (List (Int × (Int × (Int × Int)))))))))))) × ((List (Int × (Int × (Int × (List (Int × (Int × (Int × Int)))))))) × ((List (Int × (Int × (Int × (List (Int × (Int × (Int × Int)))))))) × (List (Int × (Int × (Int × (List (Int × (Int × (Int × Int))))))))))))) (t : ((List Int) × (List Int))) : Option ((List (Int × (Int × Int))) × Unit) :=
  (if 0 ≤ 7 ∧ 7 < 9 then some () else none).bind fun _ =>
  (rd t.2 7).bind fun _ =>
  Option.bind
    (loopN (Run20.l0 k) k (c, (), (), (), 0, ([] : (List (Int × Int))), (t.1, ()), ((List.set t.2 (Int.toNat 7) 512), (-1), 0, false), []) : Option (Unit × (List (Int × (Int × Int))))) fun ((_, o6_3) : (Unit × (List (Int × (Int × Int))))) =>
  some (o6_3, ())
def Run20.A : Ann := { conds := [(1966090, ⟨[(2, .fp (.st (.pair .str (.pair (.sl (.st (.pair (.int .i64) (.pair .str (.pair (.int .i64) (.sl (.st (.pair (.int .i64) (.pair (.int .i64) (.pair (.int .i64) (.sl (.st (.pair (.int .i64) (.pair (.int .i64) (.pair (.int .i64) (.int .i64)))))))))))))))) (.pair (.sl (.st (.pair (.int .i64) (.pair (.int .i64) (.pair (.int .i64) (.sl (.st (.pair (.int .i64) (.pair (.int .i64) (.pair (.int .i64) (.int .i64))))))))))) (.pair (.sl (.st (.pair (.int .i64) (.pair (.int .i64) (.pair (.int .i64) (.sl (.st (.pair (.int .i64) (.pair (.int .i64) (.pair (.int .i64) (.int .i64))))))))))) (.sl (.st (.pair (.int .i64) (.pair (.int .i64) (.pair (.int .i64) (.sl (.st (.pair (.int .i64) (.pair (.int .i64) (.pair (.int .i64) (.int .i64))))))))))))))))), (5, .ptr 1 []), (6, .ptr 2 []), (7, .ms 6), (8, .fp (.st (.pair (.arr 9 (.int .i64)) (.pair (.int .i64) (.pair (.int .i64) .bool))))), (9, .ptr 8 [])], [(0, .map (.int .i64) (.int .i64)), (1, .var (.st (.pair (.sl (.int .u8)) (.mm 0)))), (2, .var (.st (.pair (.arr 9 (.int .i64)) (.pair (.int .i64) (.pair (.int .i64) .bool))))), (6, .row (.st (.pair (.int .i64) (.pair (.int .i64) (.int .i64))))), (8, .var (.st (.pair (.int .i64) (.pair (.int .i64) (.int .i64)))))], 9, [], 35180077121536⟩), (2424844, ⟨[(2, .fp (.st (.pair .str (.pair (.sl (.st (.pair (.int .i64) (.pair .str (.pair (.int .i64) (.sl (.st (.pair (.int .i64) (.pair (.int .i64) (.pair (.int .i64) (.sl (.st (.pair (.int .i64) (.pair (.int .i64) (.pair (.int .i64) (.int .i64)))))))))))))))) (.pair (.sl (.st (.pair (.int .i64) (.pair (.int .i64) (.pair (.int .i64) (.sl (.st (.pair (.int .i64) (.pair (.int .i64) (.pair (.int .i64) (.int .i64))))))))))) (.pair (.sl (.st (.pair (.int .i64) (.pair (.int .i64) (.pair (.int .i64) (.sl (.st (.pair (.int .i64) (.pair (.int .i64) (.pair (.int .i64) (.int .i64))))))))))) (.sl (.st (.pair (.int .i64) (.pair (.int .i64) (.pair (.int .i64) (.sl (.st (.pair (.int .i64) (.pair (.int .i64) (.pair (.int .i64) (.int .i64))))))))))))))))), (5, .ptr 1 []), (6, .ptr 2 []), (7, .ms 6), (8, .fp (.st (.pair (.arr 9 (.int .i64)) (.pair (.int .i64) (.pair (.int .i64) .bool))))), (9, .ptr 8 [])], [(0, .map (.int .i64) (.int .i64)), (1, .var (.st (.pair (.sl (.int .u8)) (.mm 0)))), (2, .var (.st (.pair (.arr 9 (.int .i64)) (.pair (.int .i64) (.pair (.int .i64) .bool))))), (6, .row (.st (.pair (.int .i64) (.pair (.int .i64) (.int .i64))))), (8, .var (.st (.pair (.int .i64) (.pair (.int .i64) (.int .i64)))))], 9, [], 34634616274944⟩)], blocks := [(0, ⟨[(7, .ms 6)], [(6, .row (.st (.pair (.int .i64) (.pair (.int .i64) (.int .i64)))))], 7, [], 36028797017916288⟩)], loops := [(6, ⟨[(2, .fp (.st (.pair .str (.pair (.sl (.st (.pair (.int .i64) (.pair .str (.pair (.int .i64) (.sl (.st (.pair (.int .i64) (.pair (.int .i64) (.pair (.int .i64) (.sl (.st (.pair (.int .i64) (.pair (.int .i64) (.pair (.int .i64) (.int .i64)))))))))))))))) (.pair (.sl (.st (.pair (.int .i64) (.pair (.int .i64) (.pair (.int .i64) (.sl (.st (.pair (.int .i64) (.pair (.int .i64) (.pair (.int .i64) (.int .i64))))))))))) (.pair (.sl (.st (.pair (.int .i64) (.pair (.int .i64) (.pair (.int .i64) (.sl (.st (.pair (.int .i64) (.pair (.int .i64) (.pair (.int .i64) (.int .i64))))))))))) (.sl (.st (.pair (.int .i64) (.pair (.int .i64) (.pair (.int .i64) (.sl (.st (.pair (.int .i64) (.pair (.int .i64) (.pair (.int .i64) (.int .i64))))))))))))))))), (5, .ptr 1 []), (6, .ptr 2 []), (7, .ms 6), (20, .int .i64)], [(0, .map (.int .i64) (.int .i64)), (1, .var (.st (.pair (.sl (.int .u8)) (.mm 0)))), (2, .var (.st (.pair (.arr 9 (.int .i64)) (.pair (.int .i64) (.pair (.int .i64) .bool))))), (6, .row (.st (.pair (.int .i64) (.pair (.int .i64) (.int .i64)))))], 7, [(6, .st (.pair (.int .i64) (.pair (.int .i64) (.int .i64))))], 36028797017916288⟩)], keeps := [2, 3, 8], orders := [] }
def Run20.S : Sig := { f := 20, params := [.st (.pair .str (.pair (.sl (.st (.pair (.int .i64) (.pair .str (.pair (.int .i64) (.sl (.st (.pair (.int .i64) (.pair (.int .i64) (.pair (.int .i64) (.sl (.st (.pair (.int .i64) (.pair (.int .i64) (.pair (.int .i64) (.int .i64)))))))))))))))) (.pair (.sl (.st (.pair (.int .i64) (.pair (.int .i64) (.pair (.int .i64) (.sl (.st (.pair (.int .i64) (.pair (.int .i64) (.pair (.int .i64) (.int .i64))))))))))) (.pair (.sl (.st (.pair (.int .i64) (.pair (.int .i64) (.pair (.int .i64) (.sl (.st (.pair (.int .i64) (.pair (.int .i64) (.pair (.int .i64) (.int .i64))))))))))) (.sl (.st (.pair (.int .i64) (.pair (.int .i64) (.pair (.int .i64) (.sl (.st (.pair (.int .i64) (.pair (.int .i64) (.pair (.int .i64) (.int .i64))))))))))))))), .st (.pair (.sl (.int .u8)) (.arr 9 (.int .i64)))], objs := [], res := .sl (.st (.pair (.int .i64) (.pair (.int .i64) (.int .i64)))), outs := [], fix := [], run := fun k ds os => Run20 k ds.1 ds.2 }
def Run20.G : List Sig := [Ask43.S, Read44.S, Tell46.S, Write45.S]
theorem Run20.eq (k : Nat) : ∀ ds os, Run20.S.run k ds os = runF ⟨types, Run20.G, Run20.A, k, 0, []⟩ Try.f20 (codeOf Try.f20) Run20.S.params Run20.S.objs Run20.S.res Run20.S.outs ds os := by
  intro ds os; kernel_rfl
theorem Run20.dr : DrOk Try.prog Run20.A (codeOf Try.f20) := ⟨by kernel_rfl, by kernel_rfl⟩
theorem Run20.ok (k : Nat) : SoundAt Try.prog k Run20.S :=
  runF_sound (X := ⟨types, Run20.G, Run20.A, k, 0, []⟩) types_ok (mem_all (⟨Ask43.ok k, ⟨Read44.ok k, ⟨Tell46.ok k, ⟨Write45.ok k, trivial⟩⟩⟩⟩)) (fn := Try.f20) (c := codeOf Try.f20) rfl (by kernel_rfl) rfl rfl Run20.dr (Run20.eq k)

def generated17 (k : Nat) : Option (Bool × Unit) :=
  (Cpu34 k).bind fun t2 =>
  (nop35 k).bind fun t3 =>
  (Run20 k t2.1 (t3.1.2.1, (List.replicate 9 0))).bind fun t6 =>
  Option.bind (cond ((List.length t6.1 : Int) == 40)
    ((rd t6.1 0).bind fun t12 =>
    (nop35 k).bind fun t14 =>
    (rd t14.1.2.1 0).bind fun t16 =>
    some (xor false (eqB (.st (.pair (.int .i64) (.pair (.int .i64) (.int .i64)))) t12 ((1, 512, (w64 t16)) : (Int × (Int × Int))))))
    (some false)) fun t21 =>
  some (t21, ())
def generated17.A : Ann := { conds := [], blocks := [], loops := [], keeps := [], orders := [(2, [(0, .strong), (1, .strong), (2, .strong), (3, .strong), (4, .strong), (5, .strong), (6, .strong), (7, .eff true), (8, .strong), (9, .strong), (10, .strong), (11, .strong), (12, .strong), (13, .strong), (14, .strong), (15, .strong)])] }
def generated17.S : Sig := { f := 17, params := [], objs := [], res := .bool, outs := [], fix := [], run := fun k ds os => generated17 k }
def generated17.G : List Sig := [Cpu34.S, Run20.S, nop35.S]
theorem generated17.eq (k : Nat) : ∀ ds os, generated17.S.run k ds os = runF ⟨types, generated17.G, generated17.A, k, 0, []⟩ Try.f17 (codeOf Try.f17) generated17.S.params generated17.S.objs generated17.S.res generated17.S.outs ds os := by
  intro ds os; kernel_rfl
theorem generated17.dr : DrOk Try.prog generated17.A (codeOf Try.f17) := ⟨by kernel_rfl, by kernel_rfl⟩
theorem generated17.ok (k : Nat) : SoundAt Try.prog k generated17.S :=
  runF_sound (X := ⟨types, generated17.G, generated17.A, k, 0, []⟩) types_ok (mem_all (⟨Cpu34.ok k, ⟨Run20.ok k, ⟨nop35.ok k, trivial⟩⟩⟩)) (fn := Try.f17) (c := codeOf Try.f17) rfl (by kernel_rfl) rfl rfl generated17.dr (generated17.eq k)

def Name36.l0 (k : Nat) (s : ByteArray) : (Unit × (Int × (List Int))) → Option ((Unit × (Int × (List Int))) ⊕ (Unit ⊕ (Bool × Unit)))
  | (_, t25, o0) =>
    cond (decide (t25 < (List.length (bytesOf s) : Int)))
      ((rd o0 t25).bind fun _ =>
      (rd o0 t25).bind fun t28 =>
      cond (!(cond (cond (cond (decide (t28 ≥ 97)) (decide (t28 ≤ 122)) false) true (cond (decide (t28 ≥ 48)) (decide (t28 ≤ 57)) false)) true (t28 == 45)))
        (some (Sum.inr (Sum.inr (false, ()))))
        (some (Sum.inl ((), (w64 (t25 + 1)), o0))))
      (some (Sum.inr (Sum.inl ())))
def Name36 (k : Nat) (s : ByteArray) : Option (Bool × Unit) :=
  Option.bind (cond (cond (streq s (ByteArray.mk #[])) true (decide ((ByteArray.size s : Int) > 20)))
    (some true)
    ((rd (bytesOf s) 0).bind fun t14 =>
    some (decide (t14 < 97)))) fun t16 =>
  Option.bind (cond t16
    (some true)
    ((rd (bytesOf s) 0).bind fun t19 =>
    some (decide (t19 > 122)))) fun t21 =>
  cond t21
    (some (false, ()))
    (Option.bind
      (loopN (Name36.l0 k s) k ((), 0, (bytesOf s)) : Option (Unit ⊕ (Bool × Unit))) (joined fun (_ : Unit) =>
      some (true, ())))
def Name36.A : Ann := { conds := [], blocks := [(0, ⟨[], [], 0, [], 562949919866900⟩)], loops := [(4, ⟨[(23, .ms 0), (25, .int .i64)], [(0, .row (.int .u8))], 1, [], 562949919866900⟩)], keeps := [], orders := [] }
def Name36.S : Sig := { f := 36, params := [.str], objs := [], res := .bool, outs := [], fix := [], run := fun k ds os => Name36 k ds }
def Name36.G : List Sig := []
theorem Name36.eq (k : Nat) : ∀ ds os, Name36.S.run k ds os = runF ⟨types, Name36.G, Name36.A, k, 0, []⟩ Try.f36 (codeOf Try.f36) Name36.S.params Name36.S.objs Name36.S.res Name36.S.outs ds os := by
  intro ds os; kernel_rfl
theorem Name36.dr : DrOk Try.prog Name36.A (codeOf Try.f36) := ⟨by kernel_rfl, by kernel_rfl⟩
theorem Name36.ok (k : Nat) : SoundAt Try.prog k Name36.S :=
  runF_sound (X := ⟨types, Name36.G, Name36.A, k, 0, []⟩) types_ok (fun s hs => absurd hs List.not_mem_nil) (fn := Try.f36) (c := codeOf Try.f36) rfl (by kernel_rfl) rfl rfl Name36.dr (Name36.eq k)
end Go.Proofs.Ytcppmlgnceldmaa.Ge

/- Go functions as plain Lean functions, and their contracts. -/
set_option linter.unusedVariables false
set_option maxRecDepth 100000
noncomputable section
namespace Go.Proofs.Ytcppmlgnceldmaa.Ge
open Go Go.Proofs.Ytcppmlgnceldmaa.Gp
def Size37 (k : Nat) (mode : Int) : Option (Int × Unit) :=
  cond (mode == 0)
    (some (0, ()))
    (Option.bind
      (cond (mode == 4)
        (some (mode == 4))
        (Option.bind
          (cond (mode == 5)
            (some (mode == 5))
            (some (mode == 6)) : Option Bool) fun (t6 : Bool) =>
        some t6) : Option Bool) fun (t6_1 : Bool) =>
    cond t6_1
      (some (2, ()))
      (Option.bind
        (cond (mode == 1)
          (some (mode == 1))
          (Option.bind
            (cond (mode == 2)
              (some (mode == 2))
              (Option.bind
                (cond (mode == 3)
                  (some (mode == 3))
                  (Option.bind
                    (cond (mode == 7)
                      (some (mode == 7))
                      (some (mode == 8)) : Option Bool) fun (t10 : Bool) =>
                  some t10) : Option Bool) fun (t10_1 : Bool) =>
              some t10_1) : Option Bool) fun (t10_2 : Bool) =>
          some t10_2) : Option Bool) fun (t10_3 : Bool) =>
      cond t10_3
        (some (1, ()))
        (some ((-1), ()))))
def Size37.A : Ann := { conds := [(393221, ⟨[(6, .bool)], [], 0, [], 832⟩), (393222, ⟨[(6, .bool)], [], 0, [], 576⟩), (655369, ⟨[(10, .bool)], [], 0, [], 62464⟩), (655370, ⟨[(10, .bool)], [], 0, [], 58368⟩), (655371, ⟨[(10, .bool)], [], 0, [], 50176⟩), (655372, ⟨[(10, .bool)], [], 0, [], 33792⟩)], blocks := [], loops := [], keeps := [], orders := [] }
def Size37.S : Sig := { f := 37, params := [.int .i64], objs := [], res := .int .i64, outs := [], fix := [], run := fun k ds os => Size37 k ds }
def Size37.G : List Sig := []
theorem Size37.eq (k : Nat) : ∀ ds os, Size37.S.run k ds os = runF ⟨types, Size37.G, Size37.A, k, 0, []⟩ Try.f37 (codeOf Try.f37) Size37.S.params Size37.S.objs Size37.S.res Size37.S.outs ds os := by
  intro ds os; kernel_rfl
theorem Size37.dr : DrOk Try.prog Size37.A (codeOf Try.f37) := ⟨by kernel_rfl, by kernel_rfl⟩
theorem Size37.ok (k : Nat) : SoundAt Try.prog k Size37.S :=
  runF_sound (X := ⟨types, Size37.G, Size37.A, k, 0, []⟩) types_ok (fun s hs => absurd hs List.not_mem_nil) (fn := Try.f37) (c := codeOf Try.f37) rfl (by kernel_rfl) rfl rfl Size37.dr (Size37.eq k)

def Check139 (k : Nat) (y : (Int × (ByteArray × (Int × (List (Int × (Int × (Int × (List (Int × (Int × (Int × Int)))))))))))) (t1 : (Int × (ByteArray × (Int × (List (Int × (Int × (Int × (List (Int × (Int × (Int × Int)))))))))))) : Option (Bool × Unit) :=
  some ((cond (streq y.2.1 t1.2.1) (y.2.2.1 == t1.2.2.1) false), ())
def Check139.A : Ann := { conds := [], blocks := [], loops := [], keeps := [2], orders := [] }
def Check139.S : Sig := { f := 39, params := [.st (.pair (.int .i64) (.pair .str (.pair (.int .i64) (.sl (.st (.pair (.int .i64) (.pair (.int .i64) (.pair (.int .i64) (.sl (.st (.pair (.int .i64) (.pair (.int .i64) (.pair (.int .i64) (.int .i64)))))))))))))), .fp (.st (.pair (.int .i64) (.pair .str (.pair (.int .i64) (.sl (.st (.pair (.int .i64) (.pair (.int .i64) (.pair (.int .i64) (.sl (.st (.pair (.int .i64) (.pair (.int .i64) (.pair (.int .i64) (.int .i64)))))))))))))))], objs := [], res := .bool, outs := [], fix := [], run := fun k ds os => Check139 k ds.1 ds.2 }
def Check139.G : List Sig := []
theorem Check139.eq (k : Nat) : ∀ ds os, Check139.S.run k ds os = runF ⟨types, Check139.G, Check139.A, k, 0, []⟩ Try.f39 (codeOf Try.f39) Check139.S.params Check139.S.objs Check139.S.res Check139.S.outs ds os := by
  intro ds os; kernel_rfl
theorem Check139.dr : DrOk Try.prog Check139.A (codeOf Try.f39) := ⟨by kernel_rfl, by kernel_rfl⟩
theorem Check139.ok (k : Nat) : SoundAt Try.prog k Check139.S :=
  runF_sound (X := ⟨types, Check139.G, Check139.A, k, 0, []⟩) types_ok (fun s hs => absurd hs List.not_mem_nil) (fn := Try.f39) (c := codeOf Try.f39) rfl (by kernel_rfl) rfl rfl Check139.dr (Check139.eq k)

def IndexFunc50''.l0 (k : Nat) (s : (List (Int × (ByteArray × (Int × (List (Int × (Int × (Int × (List (Int × (Int × (Int × Int))))))))))))) : (((Int × (ByteArray × (Int × (List (Int × (Int × (Int × (List (Int × (Int × (Int × Int))))))))))) × Unit) × Int) → Option ((((Int × (ByteArray × (Int × (List (Int × (Int × (Int × (List (Int × (Int × (Int × Int))))))))))) × Unit) × Int) ⊕ (Unit ⊕ (Int × Unit)))
  | (f_1, t8) =>
    cond (decide (t8 < (List.length s : Int)))
      ((rd s t8).bind fun t14 =>
      (Check139 k t14 f_1.1).bind fun t16 =>
      cond t16.1
        (some (Sum.inr (Sum.inr (t8, ()))))
        (some (Sum.inl (f_1, (w64 (t8 + 1))))))
      (some (Sum.inr (Sum.inl ())))
def IndexFunc50'' (k : Nat) (s : (List (Int × (ByteArray × (Int × (List (Int × (Int × (Int × (List (Int × (Int × (Int × Int))))))))))))) (f : ((Int × (ByteArray × (Int × (List (Int × (Int × (Int × (List (Int × (Int × (Int × Int))))))))))) × Unit)) : Option (Int × Unit) :=
  Option.bind
    (loopN (IndexFunc50''.l0 k s) k (f, 0) : Option (Unit ⊕ (Int × Unit))) (joined fun (_ : Unit) =>
    some ((-1), ()))
def IndexFunc50''.A : Ann := { conds := [], blocks := [(0, ⟨[], [], 0, [], 524080⟩)], loops := [(2, ⟨[(1, .fn 39 (.pair (.fp (.st (.pair (.int .i64) (.pair .str (.pair (.int .i64) (.sl (.st (.pair (.int .i64) (.pair (.int .i64) (.pair (.int .i64) (.sl (.st (.pair (.int .i64) (.pair (.int .i64) (.pair (.int .i64) (.int .i64)))))))))))))))) .unit)), (8, .int .i64)], [], 0, [], 524080⟩)], keeps := [], orders := [] }
def IndexFunc50''.S : Sig := { f := 50, params := [.sl (.st (.pair (.int .i64) (.pair .str (.pair (.int .i64) (.sl (.st (.pair (.int .i64) (.pair (.int .i64) (.pair (.int .i64) (.sl (.st (.pair (.int .i64) (.pair (.int .i64) (.pair (.int .i64) (.int .i64))))))))))))))), .fn 39 (.pair (.fp (.st (.pair (.int .i64) (.pair .str (.pair (.int .i64) (.sl (.st (.pair (.int .i64) (.pair (.int .i64) (.pair (.int .i64) (.sl (.st (.pair (.int .i64) (.pair (.int .i64) (.pair (.int .i64) (.int .i64)))))))))))))))) .unit)], objs := [], res := .int .i64, outs := [], fix := [], run := fun k ds os => IndexFunc50'' k ds.1 ds.2 }
def IndexFunc50''.G : List Sig := [Check139.S]
theorem IndexFunc50''.eq (k : Nat) : ∀ ds os, IndexFunc50''.S.run k ds os = runF ⟨types, IndexFunc50''.G, IndexFunc50''.A, k, 0, []⟩ Try.f50 (codeOf Try.f50) IndexFunc50''.S.params IndexFunc50''.S.objs IndexFunc50''.S.res IndexFunc50''.S.outs ds os := by
  intro ds os; kernel_rfl
theorem IndexFunc50''.dr : DrOk Try.prog IndexFunc50''.A (codeOf Try.f50) := ⟨by kernel_rfl, by kernel_rfl⟩
theorem IndexFunc50''.ok (k : Nat) : SoundAt Try.prog k IndexFunc50''.S :=
  runF_sound (X := ⟨types, IndexFunc50''.G, IndexFunc50''.A, k, 0, []⟩) types_ok (mem_all (⟨Check139.ok k, trivial⟩)) (fn := Try.f50) (c := codeOf Try.f50) rfl (by kernel_rfl) rfl rfl IndexFunc50''.dr (IndexFunc50''.eq k)

def ContainsFunc38 (k : Nat) (s : (List (Int × (ByteArray × (Int × (List (Int × (Int × (Int × (List (Int × (Int × (Int × Int))))))))))))) (f : ((Int × (ByteArray × (Int × (List (Int × (Int × (Int × (List (Int × (Int × (Int × Int))))))))))) × Unit)) : Option (Bool × Unit) :=
  (IndexFunc50'' k s f).bind fun t7 =>
  some ((decide (t7.1 ≥ 0)), ())
def ContainsFunc38.A : Ann := { conds := [], blocks := [], loops := [], keeps := [], orders := [] }
def ContainsFunc38.S : Sig := { f := 38, params := [.sl (.st (.pair (.int .i64) (.pair .str (.pair (.int .i64) (.sl (.st (.pair (.int .i64) (.pair (.int .i64) (.pair (.int .i64) (.sl (.st (.pair (.int .i64) (.pair (.int .i64) (.pair (.int .i64) (.int .i64))))))))))))))), .fn 39 (.pair (.fp (.st (.pair (.int .i64) (.pair .str (.pair (.int .i64) (.sl (.st (.pair (.int .i64) (.pair (.int .i64) (.pair (.int .i64) (.sl (.st (.pair (.int .i64) (.pair (.int .i64) (.pair (.int .i64) (.int .i64)))))))))))))))) .unit)], objs := [], res := .bool, outs := [], fix := [], run := fun k ds os => ContainsFunc38 k ds.1 ds.2 }
def ContainsFunc38.G : List Sig := [IndexFunc50''.S]
theorem ContainsFunc38.eq (k : Nat) : ∀ ds os, ContainsFunc38.S.run k ds os = runF ⟨types, ContainsFunc38.G, ContainsFunc38.A, k, 0, []⟩ Try.f38 (codeOf Try.f38) ContainsFunc38.S.params ContainsFunc38.S.objs ContainsFunc38.S.res ContainsFunc38.S.outs ds os := by
  intro ds os; kernel_rfl
theorem ContainsFunc38.dr : DrOk Try.prog ContainsFunc38.A (codeOf Try.f38) := ⟨by kernel_rfl, by kernel_rfl⟩
theorem ContainsFunc38.ok (k : Nat) : SoundAt Try.prog k ContainsFunc38.S :=
  runF_sound (X := ⟨types, ContainsFunc38.G, ContainsFunc38.A, k, 0, []⟩) types_ok (mem_all (⟨IndexFunc50''.ok k, trivial⟩)) (fn := Try.f38) (c := codeOf Try.f38) rfl (by kernel_rfl) rfl rfl ContainsFunc38.dr (ContainsFunc38.eq k)

def register103 (k : Nat) (reg : Int) : Option (Bool × Unit) :=
  some ((cond (decide (reg ≥ 0)) (decide (reg < 9)) false), ())
def register103.A : Ann := { conds := [], blocks := [], loops := [], keeps := [], orders := [] }
def register103.S : Sig := { f := 103, params := [.int .i64], objs := [], res := .bool, outs := [], fix := [], run := fun k ds os => register103 k ds }
def register103.G : List Sig := []
theorem register103.eq (k : Nat) : ∀ ds os, register103.S.run k ds os = runF ⟨types, register103.G, register103.A, k, 0, []⟩ Try.f103 (codeOf Try.f103) register103.S.params register103.S.objs register103.S.res register103.S.outs ds os := by
  intro ds os; kernel_rfl
theorem register103.dr : DrOk Try.prog register103.A (codeOf Try.f103) := ⟨by kernel_rfl, by kernel_rfl⟩
theorem register103.ok (k : Nat) : SoundAt Try.prog k register103.S :=
  runF_sound (X := ⟨types, register103.G, register103.A, k, 0, []⟩) types_ok (fun s hs => absurd hs List.not_mem_nil) (fn := Try.f103) (c := codeOf Try.f103) rfl (by kernel_rfl) rfl rfl register103.dr (register103.eq k)

def uses120 (k : Nat) (do_ : Int) : Option ((Int × (Int × (Bool × Unit))) × Unit) :=
  cond (do_ == 1)
    (some ((115, 115, false, ()), ()))
    (cond (do_ == 2)
      (some ((97, 0, true, ()), ()))
      (Option.bind
        (cond (do_ == 3)
          (some (do_ == 3))
          (Option.bind
            (cond (do_ == 12)
              (some (do_ == 12))
              (Option.bind
                (cond (do_ == 13)
                  (some (do_ == 13))
                  (Option.bind
                    (cond (do_ == 14)
                      (some (do_ == 14))
                      (some (do_ == 15)) : Option Bool) fun (t10 : Bool) =>
                  some t10) : Option Bool) fun (t10_1 : Bool) =>
              some t10_1) : Option Bool) fun (t10_2 : Bool) =>
          some t10_2) : Option Bool) fun (t10_3 : Bool) =>
      cond t10_3
        (some ((98, 0, false, ()), ()))
        (Option.bind
          (cond (do_ == 4)
            (some (do_ == 4))
            (Option.bind
              (cond (do_ == 5)
                (some (do_ == 5))
                (Option.bind
                  (cond (do_ == 6)
                    (some (do_ == 6))
                    (Option.bind
                      (cond (do_ == 7)
                        (some (do_ == 7))
                        (Option.bind
                          (cond (do_ == 8)
                            (some (do_ == 8))
                            (some (do_ == 9)) : Option Bool) fun (t16 : Bool) =>
                        some t16) : Option Bool) fun (t16_1 : Bool) =>
                    some t16_1) : Option Bool) fun (t16_2 : Bool) =>
                some t16_2) : Option Bool) fun (t16_3 : Bool) =>
            some t16_3) : Option Bool) fun (t16_4 : Bool) =>
        cond t16_4
          (some ((98, 98, false, ()), ()))
          (Option.bind
            (cond (do_ == 10)
              (some (do_ == 10))
              (some (do_ == 11)) : Option Bool) fun (t23 : Bool) =>
          cond t23
            (some ((97, 0, false, ()), ()))
            (Option.bind
              (cond (do_ == 16)
                (some (do_ == 16))
                (some (do_ == 17)) : Option Bool) fun (t26 : Bool) =>
            cond t26
              (some ((0, 0, true, ()), ()))
              (Option.bind
                (cond (do_ == 18)
                  (some (do_ == 18))
                  (Option.bind
                    (cond (do_ == 19)
                      (some (do_ == 19))
                      (Option.bind
                        (cond (do_ == 22)
                          (some (do_ == 22))
                          (some (do_ == 23)) : Option Bool) fun (t29 : Bool) =>
                      some t29) : Option Bool) fun (t29_1 : Bool) =>
                  some t29_1) : Option Bool) fun (t29_2 : Bool) =>
              cond t29_2
                (some ((119, 98, false, ()), ()))
                (Option.bind
                  (cond (do_ == 20)
                    (some (do_ == 20))
                    (some (do_ == 21)) : Option Bool) fun (t34 : Bool) =>
                cond t34
                  (some ((98, 119, false, ()), ()))
                  (some ((0, 0, false, ()), ())))))))))
def uses120.A : Ann := { conds := [(655367, ⟨[(10, .bool)], [], 0, [], 62464⟩), (655368, ⟨[(10, .bool)], [], 0, [], 58368⟩), (655369, ⟨[(10, .bool)], [], 0, [], 50176⟩), (655370, ⟨[(10, .bool)], [], 0, [], 33792⟩), (1048589, ⟨[(16, .bool)], [], 0, [], 8192000⟩), (1048590, ⟨[(16, .bool)], [], 0, [], 7929856⟩), (1048591, ⟨[(16, .bool)], [], 0, [], 7405568⟩), (1048592, ⟨[(16, .bool)], [], 0, [], 6356992⟩), (1048593, ⟨[(16, .bool)], [], 0, [], 4259840⟩), (1507348, ⟨[(23, .bool)], [], 0, [], 41943040⟩), (1703959, ⟨[(26, .bool)], [], 0, [], 335544320⟩), (1900570, ⟨[(29, .bool)], [], 0, [], 15569256448⟩), (1900571, ⟨[(29, .bool)], [], 0, [], 13421772800⟩), (1900572, ⟨[(29, .bool)], [], 0, [], 9126805504⟩), (2228255, ⟨[(34, .bool)], [], 0, [], 85899345920⟩)], blocks := [], loops := [], keeps := [], orders := [] }
def uses120.S : Sig := { f := 120, params := [.int .i64], objs := [], res := .tup (.pair (.int .u8) (.pair (.int .u8) (.pair .bool .unit))), outs := [], fix := [], run := fun k ds os => uses120 k ds }
def uses120.G : List Sig := []
theorem uses120.eq (k : Nat) : ∀ ds os, uses120.S.run k ds os = runF ⟨types, uses120.G, uses120.A, k, 0, []⟩ Try.f120 (codeOf Try.f120) uses120.S.params uses120.S.objs uses120.S.res uses120.S.outs ds os := by
  intro ds os; kernel_rfl
theorem uses120.dr : DrOk Try.prog uses120.A (codeOf Try.f120) := ⟨by kernel_rfl, by kernel_rfl⟩
theorem uses120.ok (k : Nat) : SoundAt Try.prog k uses120.S :=
  runF_sound (X := ⟨types, uses120.G, uses120.A, k, 0, []⟩) types_ok (fun s hs => absurd hs List.not_mem_nil) (fn := Try.f120) (c := codeOf Try.f120) rfl (by kernel_rfl) rfl rfl uses120.dr (uses120.eq k)
end Go.Proofs.Ytcppmlgnceldmaa.Ge

/- Go functions as plain Lean functions, and their contracts. -/
set_option linter.unusedVariables false
set_option maxRecDepth 100000
noncomputable section
namespace Go.Proofs.Ytcppmlgnceldmaa.Ge
open Go Go.Proofs.Ytcppmlgnceldmaa.Gp
def fits121 (k : Nat) (reg : Int) (need : Int) : Option (Bool × Unit) :=
  cond (need == 0)
    (some ((reg == 0), ()))
    (cond (need == 119)
      ((register103 k reg).bind fun t13 =>
      Option.bind (cond t13.1
        ((Wide104 k reg).bind fun t16 =>
        some t16.1)
        (some false)) fun t17 =>
      some (t17, ()))
      (cond (need == 98)
        ((register103 k reg).bind fun t21 =>
        Option.bind (cond t21.1
          ((Wide104 k reg).bind fun t24 =>
          some (!t24.1))
          (some false)) fun t26 =>
        some (t26, ()))
        ((register103 k reg).bind fun t28 =>
        some (t28.1, ()))))
def fits121.A : Ann := { conds := [], blocks := [], loops := [], keeps := [], orders := [] }
def fits121.S : Sig := { f := 121, params := [.int .i64, .int .u8], objs := [], res := .bool, outs := [], fix := [], run := fun k ds os => fits121 k ds.1 ds.2 }
def fits121.G : List Sig := [Wide104.S, register103.S]
theorem fits121.eq (k : Nat) : ∀ ds os, fits121.S.run k ds os = runF ⟨types, fits121.G, fits121.A, k, 0, []⟩ Try.f121 (codeOf Try.f121) fits121.S.params fits121.S.objs fits121.S.res fits121.S.outs ds os := by
  intro ds os; kernel_rfl
theorem fits121.dr : DrOk Try.prog fits121.A (codeOf Try.f121) := ⟨by kernel_rfl, by kernel_rfl⟩
theorem fits121.ok (k : Nat) : SoundAt Try.prog k fits121.S :=
  runF_sound (X := ⟨types, fits121.G, fits121.A, k, 0, []⟩) types_ok (mem_all (⟨Wide104.ok k, ⟨register103.ok k, trivial⟩⟩)) (fn := Try.f121) (c := codeOf Try.f121) rfl (by kernel_rfl) rfl rfl fits121.dr (fits121.eq k)

def step105 (k : Nat) (s : (Int × (Int × (Int × Int)))) : Option (Int × Unit) :=
  cond (cond (decide (s.1 < 0)) true (decide (s.1 ≥ 25)))
    (some (8, ()))
    (cond (s.1 == 24)
      (cond (cond (cond (cond (cond (s.2.1 != 0) true (decide (s.2.2.1 < 0))) true (decide (s.2.2.1 > 1))) true (decide (s.2.2.2 < 0))) true (decide (s.2.2.2 > 255)))
        (some (1, ()))
        (some (0, ())))
      ((uses120 k s.1).bind fun t44 =>
      Option.bind (cond (s.1 == 2)
        ((register103 k s.2.1).bind fun t54 =>
        some t54.1)
        (some false)) fun t55 =>
      Option.bind (cond t55
        ((Wide104 k s.2.1).bind fun t59 =>
        some t59.1)
        (some false)) fun t60 =>
      Option.bind
        (cond t60
          (some (s, 65535))
          (some (s, 255)) : Option ((Int × (Int × (Int × Int))) × Int)) fun ((s_1, most) : ((Int × (Int × (Int × Int))) × Int)) =>
      Option.bind
        (cond (!t44.1.2.2.1)
          (some (s_1, 0))
          (some (s_1, most)) : Option ((Int × (Int × (Int × Int))) × Int)) fun ((s_2, most_1) : ((Int × (Int × (Int × Int))) × Int)) =>
      (fits121 k s_2.2.1 t44.1.1).bind fun t66 =>
      Option.bind (cond (!t66.1)
        (some true)
        ((fits121 k s_2.2.2.1 t44.1.2.1).bind fun t72 =>
        some (!t72.1))) fun t74 =>
      Option.bind (cond t74
        (some true)
        (Option.bind (cond (t44.1.1 == 115)
          ((Wide104 k s_2.2.1).bind fun t81 =>
          (Wide104 k s_2.2.2.1).bind fun t84 =>
          some (xor true (t81.1 == t84.1)))
          (some false)) fun t86 =>
        some t86)) fun t87 =>
      cond (cond (cond t87 true (decide (s_2.2.2.2 < 0))) true (decide (s_2.2.2.2 > most_1)))
        (some (1, ()))
        (some (0, ()))))
def step105.A : Ann := { conds := [(3932170, ⟨[(1, .fp (.st (.pair (.int .i64) (.pair (.int .i64) (.pair (.int .i64) (.int .i64)))))), (6, .int .i64)], [], 0, [], 64⟩), (4063244, ⟨[(1, .fp (.st (.pair (.int .i64) (.pair (.int .i64) (.pair (.int .i64) (.int .i64)))))), (6, .int .i64)], [], 0, [], 64⟩)], blocks := [], loops := [], keeps := [1], orders := [(13, [(0, .strong), (1, .strong), (2, .strong), (3, .eff true), (4, .strong), (5, .strong), (6, .strong), (7, .strong), (8, .strong), (9, .eff true), (10, .strong), (11, .strong), (12, .strong), (13, .strong), (14, .strong), (15, .strong), (16, .strong), (17, .strong), (19, .strong), (20, .strong), (18, .eff true), (21, .eff true), (22, .strong), (23, .strong), (24, .strong), (25, .strong), (26, .strong), (27, .strong), (28, .strong), (29, .strong), (30, .strong), (31, .strong), (32, .strong), (33, .strong), (34, .strong), (35, .strong)])] }
def step105.S : Sig := { f := 105, params := [.st (.pair (.int .i64) (.pair (.int .i64) (.pair (.int .i64) (.int .i64))))], objs := [], res := .int .i64, outs := [], fix := [], run := fun k ds os => step105 k ds }
def step105.G : List Sig := [Wide104.S, fits121.S, register103.S, uses120.S]
theorem step105.eq (k : Nat) : ∀ ds os, step105.S.run k ds os = runF ⟨types, step105.G, step105.A, k, 0, []⟩ Try.f105 (codeOf Try.f105) step105.S.params step105.S.objs step105.S.res step105.S.outs ds os := by
  intro ds os; kernel_rfl
theorem step105.dr : DrOk Try.prog step105.A (codeOf Try.f105) := ⟨by kernel_rfl, by kernel_rfl⟩
theorem step105.ok (k : Nat) : SoundAt Try.prog k step105.S :=
  runF_sound (X := ⟨types, step105.G, step105.A, k, 0, []⟩) types_ok (mem_all (⟨Wide104.ok k, ⟨fits121.ok k, ⟨register103.ok k, ⟨uses120.ok k, trivial⟩⟩⟩⟩)) (fn := Try.f105) (c := codeOf Try.f105) rfl (by kernel_rfl) rfl rfl step105.dr (step105.eq k)

def cycle76.l0 (k : Nat) (c : (Int × (Int × (Int × (List (Int × (Int × (Int × Int)))))))) : Int → Option (Int ⊕ (Unit ⊕ (Int × Unit)))
  | t57 =>
    cond (decide (t57 < (List.length c.2.2.2 : Int)))
      ((rd c.2.2.2 t57).bind fun t59 =>
      (step105 k t59).bind fun t62 =>
      cond (t62.1 != 0)
        (some (Sum.inr (Sum.inr (t62.1, ()))))
        (some (Sum.inl (w64 (t57 + 1)))))
      (some (Sum.inr (Sum.inl ())))
def cycle76 (k : Nat) (c : (Int × (Int × (Int × (List (Int × (Int × (Int × Int)))))))) : Option (Int × Unit) :=
  cond (cond (decide (c.1 < 0)) true (decide (c.1 > 2)))
    (some (8, ()))
    (cond (cond (c.1 == 0) (cond (c.2.1 != 0) true (c.2.2.1 != 0)) false)
      (some (3, ()))
      (Option.bind (cond (cond (decide (c.2.1 < 0)) true (decide (c.2.1 ≥ 12)))
        (some true)
        ((register103 k c.2.2.1).bind fun t41 =>
        some (!t41.1))) fun t43 =>
      Option.bind (cond t43
        (some true)
        ((Wide104 k c.2.2.1).bind fun t47 =>
        some t47.1)) fun t48 =>
      cond t48
        (some (1, ()))
        (cond (decide ((List.length c.2.2.2 : Int) > 6))
          (some (2, ()))
          (Option.bind
            (loopN (cycle76.l0 k c) k 0 : Option (Unit ⊕ (Int × Unit))) (joined fun (_ : Unit) =>
            some (0, ()))))))
def cycle76.A : Ann := { conds := [], blocks := [(1, ⟨[], [], 0, [], 147429837401600557108⟩)], loops := [(10, ⟨[(57, .int .i64)], [], 0, [], 147429837401600557108⟩)], keeps := [1, 4], orders := [] }
def cycle76.S : Sig := { f := 76, params := [.st (.pair (.int .i64) (.pair (.int .i64) (.pair (.int .i64) (.sl (.st (.pair (.int .i64) (.pair (.int .i64) (.pair (.int .i64) (.int .i64)))))))))], objs := [], res := .int .i64, outs := [], fix := [], run := fun k ds os => cycle76 k ds }
def cycle76.G : List Sig := [Wide104.S, register103.S, step105.S]
theorem cycle76.eq (k : Nat) : ∀ ds os, cycle76.S.run k ds os = runF ⟨types, cycle76.G, cycle76.A, k, 0, []⟩ Try.f76 (codeOf Try.f76) cycle76.S.params cycle76.S.objs cycle76.S.res cycle76.S.outs ds os := by
  intro ds os; kernel_rfl
theorem cycle76.dr : DrOk Try.prog cycle76.A (codeOf Try.f76) := ⟨by kernel_rfl, by kernel_rfl⟩
theorem cycle76.ok (k : Nat) : SoundAt Try.prog k cycle76.S :=
  runF_sound (X := ⟨types, cycle76.G, cycle76.A, k, 0, []⟩) types_ok (mem_all (⟨Wide104.ok k, ⟨register103.ok k, ⟨step105.ok k, trivial⟩⟩⟩)) (fn := Try.f76) (c := codeOf Try.f76) rfl (by kernel_rfl) rfl rfl cycle76.dr (cycle76.eq k)

def cycles40.l0 (k : Nat) (l : (List (Int × (Int × (Int × (List (Int × (Int × (Int × Int))))))))) : Int → Option (Int ⊕ (Unit ⊕ (Int × Unit)))
  | t11 =>
    cond (decide (t11 < (List.length l : Int)))
      ((rd l t11).bind fun t13 =>
      (cycle76 k t13).bind fun t16 =>
      cond (t16.1 != 0)
        (some (Sum.inr (Sum.inr (t16.1, ()))))
        (some (Sum.inl (w64 (t11 + 1)))))
      (some (Sum.inr (Sum.inl ())))
def cycles40 (k : Nat) (l : (List (Int × (Int × (Int × (List (Int × (Int × (Int × Int))))))))) : Option (Int × Unit) :=
  cond (decide ((List.length l : Int) > 8))
    (some (2, ()))
    (Option.bind
      (loopN (cycles40.l0 k l) k 0 : Option (Unit ⊕ (Int × Unit))) (joined fun (_ : Unit) =>
      some (0, ())))
def cycles40.A : Ann := { conds := [], blocks := [(0, ⟨[], [], 0, [], 2095156⟩)], loops := [(4, ⟨[(11, .int .i64)], [], 0, [], 2095156⟩)], keeps := [4], orders := [] }
def cycles40.S : Sig := { f := 40, params := [.sl (.st (.pair (.int .i64) (.pair (.int .i64) (.pair (.int .i64) (.sl (.st (.pair (.int .i64) (.pair (.int .i64) (.pair (.int .i64) (.int .i64))))))))))], objs := [], res := .int .i64, outs := [], fix := [], run := fun k ds os => cycles40 k ds }
def cycles40.G : List Sig := [cycle76.S]
theorem cycles40.eq (k : Nat) : ∀ ds os, cycles40.S.run k ds os = runF ⟨types, cycles40.G, cycles40.A, k, 0, []⟩ Try.f40 (codeOf Try.f40) cycles40.S.params cycles40.S.objs cycles40.S.res cycles40.S.outs ds os := by
  intro ds os; kernel_rfl
theorem cycles40.dr : DrOk Try.prog cycles40.A (codeOf Try.f40) := ⟨by kernel_rfl, by kernel_rfl⟩
theorem cycles40.ok (k : Nat) : SoundAt Try.prog k cycles40.S :=
  runF_sound (X := ⟨types, cycles40.G, cycles40.A, k, 0, []⟩) types_ok (mem_all (⟨cycle76.ok k, trivial⟩)) (fn := Try.f40) (c := codeOf Try.f40) rfl (by kernel_rfl) rfl rfl cycles40.dr (cycles40.eq k)

def operand41.l0 (k : Nat) (l : (List (Int × (Int × (Int × (List (Int × (Int × (Int × Int))))))))) : (Int × Int) → Option ((Int × Int) ⊕ Int)
  | (n, t8) =>
    cond (decide (t8 < (List.length l : Int)))
      ((rd l t8).bind fun t10 =>
      Option.bind
        (cond (cond (t10.1 == 1) (t10.2.1 == 0) false)
          (some (w64 (n + 1)))
          (some n) : Option Int) fun (n_1 : Int) =>
      some (Sum.inl (n_1, (w64 (t8 + 1)))))
      (some (Sum.inr n))
def operand41 (k : Nat) (l : (List (Int × (Int × (Int × (List (Int × (Int × (Int × Int))))))))) : Option (Int × Unit) :=
  Option.bind
    (loopN (operand41.l0 k l) k (0, 0) : Option Int) fun (n_2 : Int) =>
  some (n_2, ())
def operand41.A : Ann := { conds := [(1245190, ⟨[(3, .int .i64)], [], 0, [], 3145736⟩)], blocks := [(0, ⟨[(3, .int .i64)], [], 0, [], 8388392⟩)], loops := [(3, ⟨[(3, .int .i64), (8, .int .i64)], [], 0, [], 8388392⟩)], keeps := [5], orders := [] }
def operand41.S : Sig := { f := 41, params := [.sl (.st (.pair (.int .i64) (.pair (.int .i64) (.pair (.int .i64) (.sl (.st (.pair (.int .i64) (.pair (.int .i64) (.pair (.int .i64) (.int .i64))))))))))], objs := [], res := .int .i64, outs := [], fix := [], run := fun k ds os => operand41 k ds }
def operand41.G : List Sig := []
theorem operand41.eq (k : Nat) : ∀ ds os, operand41.S.run k ds os = runF ⟨types, operand41.G, operand41.A, k, 0, []⟩ Try.f41 (codeOf Try.f41) operand41.S.params operand41.S.objs operand41.S.res operand41.S.outs ds os := by
  intro ds os; kernel_rfl
theorem operand41.dr : DrOk Try.prog operand41.A (codeOf Try.f41) := ⟨by kernel_rfl, by kernel_rfl⟩
theorem operand41.ok (k : Nat) : SoundAt Try.prog k operand41.S :=
  runF_sound (X := ⟨types, operand41.G, operand41.A, k, 0, []⟩) types_ok (fun s hs => absurd hs List.not_mem_nil) (fn := Try.f41) (c := codeOf Try.f41) rfl (by kernel_rfl) rfl rfl operand41.dr (operand41.eq k)
end Go.Proofs.Ytcppmlgnceldmaa.Ge

/- Go functions as plain Lean functions, and their contracts. -/
set_option linter.unusedVariables false
set_option maxRecDepth 100000
noncomputable section
namespace Go.Proofs.Ytcppmlgnceldmaa.Ge
open Go Go.Proofs.Ytcppmlgnceldmaa.Gp
def Check18.l0 (k : Nat) (c : (ByteArray × ((List (Int × (ByteArray × (Int × (List (Int × (Int × (Int × (List (Int × (Int × (Int × Int)))))))))))) × ((List (Int × (Int × (Int × (List (Int × (Int × (Int × Int)))))))) × ((List (Int × (Int × (Int × (List (Int × (Int × (Int × Int)))))))) × (List (Int × (Int × (Int × (List (Int × (Int × (Int × Int))))))))))))) : ((ByteArray × ((List (Int × (ByteArray × (Int × (List (Int × (Int × (Int × (List (Int × (Int × (Int × Int)))))))))))) × ((List (Int × (Int × (Int × (List (Int × (Int × (Int × Int)))))))) × ((List (Int × (Int × (Int × (List (Int × (Int × (Int × Int)))))))) × (List (Int × (Int × (Int × (List (Int × (Int × (Int × Int)))))))))))) × Int) → Option (((ByteArray × ((List (Int × (ByteArray × (Int × (List (Int × (Int × (Int × (List (Int × (Int × (Int × Int)))))))))))) × ((List (Int × (Int × (Int × (List (Int × (Int × (Int × Int)))))))) × ((List (Int × (Int × (Int × (List (Int × (Int × (Int × Int)))))))) × (List (Int × (Int × (Int × (List (Int × (Int × (Int × Int)))))))))))) × Int) ⊕ ((ByteArray × ((List (Int × (ByteArray × (Int × (List (Int × (Int × (Int × (List (Int × (Int × (Int × Int)))))))))))) × ((List (Int × (Int × (Int × (List (Int × (Int × (Int × Int)))))))) × ((List (Int × (Int × (Int × (List (Int × (Int × (Int × Int)))))))) × (List (Int × (Int × (Int × (List (Int × (Int × (Int × Int)))))))))))) ⊕ (Int × Unit)))
  | (c_1, t22) =>
    cond (decide (t22 < (List.length c.2.1 : Int)))
      ((rd c.2.1 t22).bind fun t25 =>
      cond (cond (decide (t25.1 < 0)) true (decide (t25.1 > 255)))
        (some (Sum.inr (Sum.inr (1, ()))))
        (Option.bind (cond (decide (t22 > 0))
          ((rd c_1.2.1 (w64 (t22 - 1))).bind fun t46 =>
          some (decide (t25.1 ≤ t46.1)))
          (some false)) fun t50 =>
        cond t50
          (some (Sum.inr (Sum.inr (9, ()))))
          ((Name36 k t25.2.1).bind fun t54 =>
          cond (!t54.1)
            (some (Sum.inr (Sum.inr (15, ()))))
            ((Size37 k t25.2.2.1).bind fun t59 =>
            cond (decide (t59.1 < 0))
              (some (Sum.inr (Sum.inr (8, ()))))
              ((slc c_1.2.1 0 t22).bind fun t65 =>
              (ContainsFunc38 k t65 (t25, ())).bind fun t67 =>
              cond t67.1
                (some (Sum.inr (Sum.inr (5, ()))))
                ((cycles40 k t25.2.2.2).bind fun t70 =>
                cond (t70.1 != 0)
                  (some (Sum.inr (Sum.inr (t70.1, ()))))
                  ((operand41 k t25.2.2.2).bind fun t76 =>
                  (Size37 k t25.2.2.1).bind fun t79 =>
                  cond (t76.1 != t79.1)
                    (some (Sum.inr (Sum.inr (3, ()))))
                    (some (Sum.inl (c_1, (w64 (t22 + 1))))))))))))
      (some (Sum.inr (Sum.inl c_1)))
def Check18.l1 (k : Nat) (c_2 : (ByteArray × ((List (Int × (ByteArray × (Int × (List (Int × (Int × (Int × (List (Int × (Int × (Int × Int)))))))))))) × ((List (Int × (Int × (Int × (List (Int × (Int × (Int × Int)))))))) × ((List (Int × (Int × (Int × (List (Int × (Int × (Int × Int)))))))) × (List (Int × (Int × (Int × (List (Int × (Int × (Int × Int))))))))))))) : (Unit × (Int × (List (List (Int × (Int × (Int × (List (Int × (Int × (Int × Int))))))))))) → Option ((Unit × (Int × (List (List (Int × (Int × (Int × (List (Int × (Int × (Int × Int))))))))))) ⊕ (Unit ⊕ (Int × Unit)))
  | (_, t90, o0) =>
    cond (decide (t90 < (List.length [c_2.2.2.1, c_2.2.2.2.1, c_2.2.2.2.2] : Int)))
      ((rd o0 t90).bind fun _ =>
      (rd o0 t90).bind fun t93 =>
      (cycles40 k t93).bind fun t95 =>
      cond (t95.1 != 0)
        (some (Sum.inr (Sum.inr (t95.1, ()))))
        (some (Sum.inl ((), (w64 (t90 + 1)), o0))))
      (some (Sum.inr (Sum.inl ())))
def Check18 (k : Nat) (c : (ByteArray × ((List (Int × (ByteArray × (Int × (List (Int × (Int × (Int × (List (Int × (Int × (Int × Int)))))))))))) × ((List (Int × (Int × (Int × (List (Int × (Int × (Int × Int)))))))) × ((List (Int × (Int × (Int × (List (Int × (Int × (Int × Int)))))))) × (List (Int × (Int × (Int × (List (Int × (Int × (Int × Int))))))))))))) : Option (Int × Unit) :=
  (Name36 k c.1).bind fun t12 =>
  cond (!t12.1)
    (some (15, ()))
    (cond (decide ((List.length c.2.1 : Int) > 256))
      (some (2, ()))
      (Option.bind
        (loopN (Check18.l0 k c) k (c, 0) : Option ((ByteArray × ((List (Int × (ByteArray × (Int × (List (Int × (Int × (Int × (List (Int × (Int × (Int × Int)))))))))))) × ((List (Int × (Int × (Int × (List (Int × (Int × (Int × Int)))))))) × ((List (Int × (Int × (Int × (List (Int × (Int × (Int × Int)))))))) × (List (Int × (Int × (Int × (List (Int × (Int × (Int × Int)))))))))))) ⊕ (Int × Unit))) (joined fun (c_2 : (ByteArray × ((List (Int × (ByteArray × (Int × (List (Int × (Int × (Int × (List (Int × (Int × (Int × Int)))))))))))) × ((List (Int × (Int × (Int × (List (Int × (Int × (Int × Int)))))))) × ((List (Int × (Int × (Int × (List (Int × (Int × (Int × Int)))))))) × (List (Int × (Int × (Int × (List (Int × (Int × (Int × Int))))))))))))) =>
        Option.bind
          (loopN (Check18.l1 k c_2) k ((), 0, [c_2.2.2.1, c_2.2.2.2.1, c_2.2.2.2.2]) : Option (Unit ⊕ (Int × Unit))) (joined fun (_ : Unit) =>
          some (0, ())))))
def Check18.A : Ann := { conds := [], blocks := [(1, ⟨[(1, .fp (.st (.pair .str (.pair (.sl (.st (.pair (.int .i64) (.pair .str (.pair (.int .i64) (.sl (.st (.pair (.int .i64) (.pair (.int .i64) (.pair (.int .i64) (.sl (.st (.pair (.int .i64) (.pair (.int .i64) (.pair (.int .i64) (.int .i64)))))))))))))))) (.pair (.sl (.st (.pair (.int .i64) (.pair (.int .i64) (.pair (.int .i64) (.sl (.st (.pair (.int .i64) (.pair (.int .i64) (.pair (.int .i64) (.int .i64))))))))))) (.pair (.sl (.st (.pair (.int .i64) (.pair (.int .i64) (.pair (.int .i64) (.sl (.st (.pair (.int .i64) (.pair (.int .i64) (.pair (.int .i64) (.int .i64))))))))))) (.sl (.st (.pair (.int .i64) (.pair (.int .i64) (.pair (.int .i64) (.sl (.st (.pair (.int .i64) (.pair (.int .i64) (.pair (.int .i64) (.int .i64)))))))))))))))))], [], 0, [], 4835703278458516694630460⟩), (4, ⟨[], [], 0, [], 1266412660188944021221804081540⟩)], loops := [(6, ⟨[(1, .fp (.st (.pair .str (.pair (.sl (.st (.pair (.int .i64) (.pair .str (.pair (.int .i64) (.sl (.st (.pair (.int .i64) (.pair (.int .i64) (.pair (.int .i64) (.sl (.st (.pair (.int .i64) (.pair (.int .i64) (.pair (.int .i64) (.int .i64)))))))))))))))) (.pair (.sl (.st (.pair (.int .i64) (.pair (.int .i64) (.pair (.int .i64) (.sl (.st (.pair (.int .i64) (.pair (.int .i64) (.pair (.int .i64) (.int .i64))))))))))) (.pair (.sl (.st (.pair (.int .i64) (.pair (.int .i64) (.pair (.int .i64) (.sl (.st (.pair (.int .i64) (.pair (.int .i64) (.pair (.int .i64) (.int .i64))))))))))) (.sl (.st (.pair (.int .i64) (.pair (.int .i64) (.pair (.int .i64) (.sl (.st (.pair (.int .i64) (.pair (.int .i64) (.pair (.int .i64) (.int .i64))))))))))))))))), (22, .int .i64)], [], 0, [], 4835703278458516694630460⟩), (25, ⟨[(88, .ms 0), (90, .int .i64)], [(0, .row (.sl (.st (.pair (.int .i64) (.pair (.int .i64) (.pair (.int .i64) (.sl (.st (.pair (.int .i64) (.pair (.int .i64) (.pair (.int .i64) (.int .i64))))))))))))], 1, [], 1266412660188944021221804081540⟩)], keeps := [1, 4], orders := [(10, [(0, .strong), (1, .strong), (2, .strong), (3, .strong), (4, .strong), (5, .strong), (6, .strong), (7, .strong), (8, .strong), (9, .strong), (10, .strong), (11, .strong), (12, .strong), (13, .strong), (14, .strong)]), (21, [(0, .strong), (1, .strong), (3, .strong), (4, .strong), (2, .eff true), (5, .eff true), (6, .strong)])] }
def Check18.S : Sig := { f := 18, params := [.st (.pair .str (.pair (.sl (.st (.pair (.int .i64) (.pair .str (.pair (.int .i64) (.sl (.st (.pair (.int .i64) (.pair (.int .i64) (.pair (.int .i64) (.sl (.st (.pair (.int .i64) (.pair (.int .i64) (.pair (.int .i64) (.int .i64)))))))))))))))) (.pair (.sl (.st (.pair (.int .i64) (.pair (.int .i64) (.pair (.int .i64) (.sl (.st (.pair (.int .i64) (.pair (.int .i64) (.pair (.int .i64) (.int .i64))))))))))) (.pair (.sl (.st (.pair (.int .i64) (.pair (.int .i64) (.pair (.int .i64) (.sl (.st (.pair (.int .i64) (.pair (.int .i64) (.pair (.int .i64) (.int .i64))))))))))) (.sl (.st (.pair (.int .i64) (.pair (.int .i64) (.pair (.int .i64) (.sl (.st (.pair (.int .i64) (.pair (.int .i64) (.pair (.int .i64) (.int .i64)))))))))))))))], objs := [], res := .int .i64, outs := [], fix := [], run := fun k ds os => Check18 k ds }
def Check18.G : List Sig := [ContainsFunc38.S, Name36.S, Size37.S, cycles40.S, operand41.S]
theorem Check18.eq (k : Nat) : ∀ ds os, Check18.S.run k ds os = runF ⟨types, Check18.G, Check18.A, k, 0, []⟩ Try.f18 (codeOf Try.f18) Check18.S.params Check18.S.objs Check18.S.res Check18.S.outs ds os := by
  intro ds os; kernel_rfl
theorem Check18.dr : DrOk Try.prog Check18.A (codeOf Try.f18) := ⟨by kernel_rfl, by kernel_rfl⟩
theorem Check18.ok (k : Nat) : SoundAt Try.prog k Check18.S :=
  runF_sound (X := ⟨types, Check18.G, Check18.A, k, 0, []⟩) types_ok (mem_all (⟨ContainsFunc38.ok k, ⟨Name36.ok k, ⟨Size37.ok k, ⟨cycles40.ok k, ⟨operand41.ok k, trivial⟩⟩⟩⟩⟩)) (fn := Try.f18) (c := codeOf Try.f18) rfl (by kernel_rfl) rfl rfl Check18.dr (Check18.eq k)

def Read149 (k : Nat) (_ : Unit) (addr : Int) (o0 : (Unit × (List Int))) (o1 : (List (Int × Int))) : Option (Int × ((Unit × (List Int)) × (List (Int × Int)))) :=
  let t13 : (Option Int) := (mget (.int .i64) (.int .i64) o1 addr)
  cond (Option.isSome t13)
    (some ((Option.getD (α := Int) t13 (0 : Int)), o0, o1))
    (some ((Int.tmod (w64 ((w64 ((w64 (7 * addr)) + (quoI .i64 addr 256))) + 3)) 256), o0, o1))
def Read149.A : Ann := { conds := [], blocks := [], loops := [], keeps := [], orders := [] }
def Read149.S : Sig := { f := 149, params := [.ptr 0 [.fld 0 0], .int .i64], objs := [.var (.st (.pair (.st (.mm 1)) (.sl (.int .u8)))), .map (.int .i64) (.int .i64)], res := .int .i64, outs := [.var (.st (.pair (.st (.mm 1)) (.sl (.int .u8)))), .map (.int .i64) (.int .i64)], fix := [], run := fun k ds os => Read149 k ds.1 ds.2 os.1 os.2 }
def Read149.G : List Sig := []
theorem Read149.eq (k : Nat) : ∀ ds os, Read149.S.run k ds os = runF ⟨types, Read149.G, Read149.A, k, 0, []⟩ Try.f149 (codeOf Try.f149) Read149.S.params Read149.S.objs Read149.S.res Read149.S.outs ds os := by
  intro ds os; kernel_rfl
theorem Read149.dr : DrOk Try.prog Read149.A (codeOf Try.f149) := ⟨by kernel_rfl, by kernel_rfl⟩
theorem Read149.ok (k : Nat) : SoundAt Try.prog k Read149.S :=
  runF_sound (X := ⟨types, Read149.G, Read149.A, k, 0, []⟩) types_ok (fun s hs => absurd hs List.not_mem_nil) (fn := Try.f149) (c := codeOf Try.f149) rfl (by kernel_rfl) rfl rfl Read149.dr (Read149.eq k)

def Read147 (k : Nat) (_ : Unit) (addr : Int) (o0 : (Unit × (List Int))) (o1 : (List (Int × Int))) : Option (Int × ((Unit × (List Int)) × (List (Int × Int)))) :=
  cond (cond (cond (!(Option.isSome (mget (.int .i64) (.int .i64) o1 addr))) (decide (addr ≥ 512)) false) (decide (addr < (w64 (512 + (List.length o0.2 : Int))))) false)
    ((rd o0.2 (w64 (addr - 512))).bind fun t39 =>
    some ((w64 t39), o0, o1))
    ((Read149 k () addr o0 o1).bind fun t46 =>
    some (t46.1, t46.2.1, t46.2.2))
def Read147.A : Ann := { conds := [], blocks := [], loops := [], keeps := [], orders := [] }
def Read147.S : Sig := { f := 147, params := [.ptr 0 [], .int .i64], objs := [.var (.st (.pair (.st (.mm 1)) (.sl (.int .u8)))), .map (.int .i64) (.int .i64)], res := .int .i64, outs := [.var (.st (.pair (.st (.mm 1)) (.sl (.int .u8)))), .map (.int .i64) (.int .i64)], fix := [], run := fun k ds os => Read147 k ds.1 ds.2 os.1 os.2 }
def Read147.G : List Sig := [Read149.S]
theorem Read147.eq (k : Nat) : ∀ ds os, Read147.S.run k ds os = runF ⟨types, Read147.G, Read147.A, k, 0, []⟩ Try.f147 (codeOf Try.f147) Read147.S.params Read147.S.objs Read147.S.res Read147.S.outs ds os := by
  intro ds os; kernel_rfl
theorem Read147.dr : DrOk Try.prog Read147.A (codeOf Try.f147) := ⟨by kernel_rfl, by kernel_rfl⟩
theorem Read147.ok (k : Nat) : SoundAt Try.prog k Read147.S :=
  runF_sound (X := ⟨types, Read147.G, Read147.A, k, 0, []⟩) types_ok (mem_all (⟨Read149.ok k, trivial⟩)) (fn := Try.f147) (c := codeOf Try.f147) rfl (by kernel_rfl) rfl rfl Read147.dr (Read147.eq k)

def Write148 (k : Nat) (_ : Unit) (addr : Int) (data : Int) (o0 : (Unit × (List Int))) (o1 : (List (Int × Int))) : Option (Unit × ((Unit × (List Int)) × (List (Int × Int)))) :=
  some ((), o0, (mput (.int .i64) (.int .i64) o1 addr data))
def Write148.A : Ann := { conds := [], blocks := [], loops := [], keeps := [], orders := [] }
def Write148.S : Sig := { f := 148, params := [.ptr 0 [.fld 0 0], .int .i64, .int .i64], objs := [.var (.st (.pair (.st (.mm 1)) (.sl (.int .u8)))), .map (.int .i64) (.int .i64)], res := .tup .unit, outs := [.var (.st (.pair (.st (.mm 1)) (.sl (.int .u8)))), .map (.int .i64) (.int .i64)], fix := [], run := fun k ds os => Write148 k ds.1 ds.2.1 ds.2.2 os.1 os.2 }
def Write148.G : List Sig := []
theorem Write148.eq (k : Nat) : ∀ ds os, Write148.S.run k ds os = runF ⟨types, Write148.G, Write148.A, k, 0, []⟩ Try.f148 (codeOf Try.f148) Write148.S.params Write148.S.objs Write148.S.res Write148.S.outs ds os := by
  intro ds os; kernel_rfl
theorem Write148.dr : DrOk Try.prog Write148.A (codeOf Try.f148) := ⟨by kernel_rfl, by kernel_rfl⟩
theorem Write148.ok (k : Nat) : SoundAt Try.prog k Write148.S :=
  runF_sound (X := ⟨types, Write148.G, Write148.A, k, 0, []⟩) types_ok (fun s hs => absurd hs List.not_mem_nil) (fn := Try.f148) (c := codeOf Try.f148) rfl (by kernel_rfl) rfl rfl Write148.dr (Write148.eq k)
end Go.Proofs.Ytcppmlgnceldmaa.Ge
