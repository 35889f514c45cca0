/- Merged texts of one claim: a Go law, its functions without memory, and the plain law. The law returns true for every input; conditions: as the row says. -/
import Derived.Test.YtcppmlgnceldmaaGreatCFl0
import Derived.Test.YtcppmlgnceldmaaGreatCFl1
import Derived.Test.YtcppmlgnceldmaaGreatCFl2
import Derived.Test.YtcppmlgnceldmaaGreatCFl3
/- Go functions as plain Lean functions, and their contracts. -/
set_option linter.unusedVariables false
set_option maxRecDepth 100000
noncomputable section
namespace Go.Proofs.YtcppmlgnceldmaaGreat.Fl
open Go Go.Proofs.YtcppmlgnceldmaaGreat.Gp
def Cpu39 (k : Nat) : Option ((ByteArray × ((List (Int × (ByteArray × (Int × (List (Int × (Int × (Int × (List (Int × (Int × (Int × Int)))))))))))) × ((List (Int × (Int × (Int × (List (Int × (Int × (Int × Int)))))))) × ((List (Int × (Int × (Int × (List (Int × (Int × (Int × Int)))))))) × (List (Int × (Int × (Int × (List (Int × (Int × (Int × Int)))))))))))) × Unit) :=
  (memory78 k () () []).bind fun t6 =>
  (alone79 k () () t6.2.2).bind fun t8 =>
  (ways80 k () () t8.2.2).bind fun t10 =>
  (rd81'' k 10 5 []).bind fun t11 =>
  (jump82 k 7).bind fun t12 =>
  (if room (List.length t12.2 + List.length [(2, 3, 0, 255)]) 32 then some () else none).bind fun _ =>
  (rd81'' k 11 6 (t12.2 ++ [(2, 3, 0, 255)])).bind fun t16 =>
  (answers83 k 6 7).bind fun t23 =>
  (answers83 k 8 9).bind fun t24 =>
  some (((ByteArray.mk #[115, 116, 100]), t10.2.2, [t11.1, t16.1], t23.1, t24.1), ())
def Cpu39.A : Ann := { conds := [], blocks := [], loops := [], keeps := [], orders := [(6, [(0, .strong), (1, .strong), (2, .strong), (3, .strong), (4, .strong), (5, .eff true), (6, .eff true), (7, .strong), (8, .eff false)])], turns := [(0, [⟨0, [(1, .st (.pair (.int .i64) (.pair .str (.pair (.int .i64) (.sl (.st (.pair (.int .i64) (.pair (.int .i64) (.pair (.int .i64) (.sl (.st (.pair (.int .i64) (.pair (.int .i64) (.pair (.int .i64) (.int .i64))))))))))))))), (2, .st (.pair (.int .i64) (.pair (.int .i64) (.pair (.int .i64) (.sl (.st (.pair (.int .i64) (.pair (.int .i64) (.pair (.int .i64) (.int .i64)))))))))), (3, .st (.pair (.int .i64) (.pair (.int .i64) (.pair (.int .i64) (.sl (.st (.pair (.int .i64) (.pair (.int .i64) (.pair (.int .i64) (.int .i64)))))))))), (4, .st (.pair (.int .i64) (.pair (.int .i64) (.pair (.int .i64) (.sl (.st (.pair (.int .i64) (.pair (.int .i64) (.pair (.int .i64) (.int .i64))))))))))], .st (.pair .str (.pair (.ms 1) (.pair (.ms 2) (.pair (.ms 3) (.ms 4)))))⟩]), (1, [⟨5, [(6, .st (.pair (.int .i64) (.pair .str (.pair (.int .i64) (.sl (.st (.pair (.int .i64) (.pair (.int .i64) (.pair (.int .i64) (.sl (.st (.pair (.int .i64) (.pair (.int .i64) (.pair (.int .i64) (.int .i64)))))))))))))))], .st (.ms 6)⟩])] }
def Cpu39.S : Sig := { f := 39, params := [], objs := [], res := .st (.pair .str (.pair (.sl (.st (.pair (.int .i64) (.pair .str (.pair (.int .i64) (.sl (.st (.pair (.int .i64) (.pair (.int .i64) (.pair (.int .i64) (.sl (.st (.pair (.int .i64) (.pair (.int .i64) (.pair (.int .i64) (.int .i64)))))))))))))))) (.pair (.sl (.st (.pair (.int .i64) (.pair (.int .i64) (.pair (.int .i64) (.sl (.st (.pair (.int .i64) (.pair (.int .i64) (.pair (.int .i64) (.int .i64))))))))))) (.pair (.sl (.st (.pair (.int .i64) (.pair (.int .i64) (.pair (.int .i64) (.sl (.st (.pair (.int .i64) (.pair (.int .i64) (.pair (.int .i64) (.int .i64))))))))))) (.sl (.st (.pair (.int .i64) (.pair (.int .i64) (.pair (.int .i64) (.sl (.st (.pair (.int .i64) (.pair (.int .i64) (.pair (.int .i64) (.int .i64))))))))))))))), outs := [], fix := [], run := fun k ds os => Cpu39 k }
def Cpu39.G : List Sig := [alone79.S, answers83.S, jump82.S, memory78.S, rd81''.S, ways80.S]
theorem Cpu39.eq (k : Nat) : ∀ ds os, Cpu39.S.run k ds os = runF ⟨types, Cpu39.G, Cpu39.A, k, 0, []⟩ Tryz.f39 (codeOf Tryz.f39) Cpu39.S.params Cpu39.S.objs Cpu39.S.res Cpu39.S.outs ds os := by
  intro ds os; kernel_rfl
theorem Cpu39.dr : DrOk Tryz.prog Cpu39.A (codeOf Tryz.f39) := ⟨by kernel_rfl, by kernel_rfl⟩
theorem Cpu39.ok (k : Nat) : SoundAt Tryz.prog k Cpu39.S :=
  runF_sound (X := ⟨types, Cpu39.G, Cpu39.A, k, 0, []⟩) types_ok (mem_all (⟨alone79.ok k, ⟨answers83.ok k, ⟨jump82.ok k, ⟨memory78.ok k, ⟨rd81''.ok k, ⟨ways80.ok k, trivial⟩⟩⟩⟩⟩⟩)) (fn := Tryz.f39) (c := codeOf Tryz.f39) rfl (by kernel_rfl) rfl rfl Cpu39.dr (Cpu39.eq k)

def Named1121 (k : Nat) (x : (Int × (ByteArray × (Int × (List (Int × (Int × (Int × (List (Int × (Int × (Int × Int)))))))))))) (t1 : ByteArray) (t2 : Int) : Option (Bool × Unit) :=
  some ((cond (streq x.2.1 t1) (x.2.2.1 == t2) false), ())
def Named1121.A : Ann := { conds := [], blocks := [], loops := [], keeps := [3], orders := [] }
def Named1121.S : Sig := { f := 121, params := [.st (.pair (.int .i64) (.pair .str (.pair (.int .i64) (.sl (.st (.pair (.int .i64) (.pair (.int .i64) (.pair (.int .i64) (.sl (.st (.pair (.int .i64) (.pair (.int .i64) (.pair (.int .i64) (.int .i64)))))))))))))), .fp .str, .fp (.int .i64)], objs := [], res := .bool, outs := [], fix := [], run := fun k ds os => Named1121 k ds.1 ds.2.1 ds.2.2 }
def Named1121.G : List Sig := []
theorem Named1121.eq (k : Nat) : ∀ ds os, Named1121.S.run k ds os = runF ⟨types, Named1121.G, Named1121.A, k, 0, []⟩ Tryz.f121 (codeOf Tryz.f121) Named1121.S.params Named1121.S.objs Named1121.S.res Named1121.S.outs ds os := by
  intro ds os; kernel_rfl
theorem Named1121.dr : DrOk Tryz.prog Named1121.A (codeOf Tryz.f121) := ⟨by kernel_rfl, by kernel_rfl⟩
theorem Named1121.ok (k : Nat) : SoundAt Tryz.prog k Named1121.S :=
  runF_sound (X := ⟨types, Named1121.G, Named1121.A, k, 0, []⟩) types_ok (fun s hs => absurd hs List.not_mem_nil) (fn := Tryz.f121) (c := codeOf Tryz.f121) rfl (by kernel_rfl) rfl rfl Named1121.dr (Named1121.eq k)

def IndexFunc42''.l0 (k : Nat) (s : (List (Int × (ByteArray × (Int × (List (Int × (Int × (Int × (List (Int × (Int × (Int × Int))))))))))))) : ((ByteArray × (Int × Unit)) × Int) → Option (((ByteArray × (Int × Unit)) × Int) ⊕ (Unit ⊕ (Int × Unit)))
  | (f_1, t8) =>
    cond (decide (t8 < (List.length s : Int)))
      ((rd s t8).bind fun t14 =>
      (Named1121 k t14 f_1.1 f_1.2.1).bind fun t16 =>
      cond t16.1
        (some (Sum.inr (Sum.inr (t8, ()))))
        (some (Sum.inl (f_1, (w64 (t8 + 1))))))
      (some (Sum.inr (Sum.inl ())))
def IndexFunc42'' (k : Nat) (s : (List (Int × (ByteArray × (Int × (List (Int × (Int × (Int × (List (Int × (Int × (Int × Int))))))))))))) (f : (ByteArray × (Int × Unit))) : Option (Int × Unit) :=
  Option.bind
    (loopN (IndexFunc42''.l0 k s) k (f, 0) : Option (Unit ⊕ (Int × Unit))) (joined fun (_ : Unit) =>
    some ((-1), ()))
def IndexFunc42''.A : Ann := { conds := [], blocks := [(0, ⟨[], [], 0, [], 524080⟩)], loops := [(2, ⟨[(1, .fn 121 (.pair (.fp .str) (.pair (.fp (.int .i64)) .unit))), (8, .int .i64)], [], 0, [], 524080⟩)], keeps := [], orders := [] }
def IndexFunc42''.S : Sig := { f := 42, params := [.sl (.st (.pair (.int .i64) (.pair .str (.pair (.int .i64) (.sl (.st (.pair (.int .i64) (.pair (.int .i64) (.pair (.int .i64) (.sl (.st (.pair (.int .i64) (.pair (.int .i64) (.pair (.int .i64) (.int .i64))))))))))))))), .fn 121 (.pair (.fp .str) (.pair (.fp (.int .i64)) .unit))], objs := [], res := .int .i64, outs := [], fix := [], run := fun k ds os => IndexFunc42'' k ds.1 ds.2 }
def IndexFunc42''.G : List Sig := [Named1121.S]
theorem IndexFunc42''.eq (k : Nat) : ∀ ds os, IndexFunc42''.S.run k ds os = runF ⟨types, IndexFunc42''.G, IndexFunc42''.A, k, 0, []⟩ Tryz.f42 (codeOf Tryz.f42) IndexFunc42''.S.params IndexFunc42''.S.objs IndexFunc42''.S.res IndexFunc42''.S.outs ds os := by
  intro ds os; kernel_rfl
theorem IndexFunc42''.dr : DrOk Tryz.prog IndexFunc42''.A (codeOf Tryz.f42) := ⟨by kernel_rfl, by kernel_rfl⟩
theorem IndexFunc42''.ok (k : Nat) : SoundAt Tryz.prog k IndexFunc42''.S :=
  runF_sound (X := ⟨types, IndexFunc42''.G, IndexFunc42''.A, k, 0, []⟩) types_ok (mem_all (⟨Named1121.ok k, trivial⟩)) (fn := Tryz.f42) (c := codeOf Tryz.f42) rfl (by kernel_rfl) rfl rfl IndexFunc42''.dr (IndexFunc42''.eq k)

def Named84 (k : Nat) (c : (ByteArray × ((List (Int × (ByteArray × (Int × (List (Int × (Int × (Int × (List (Int × (Int × (Int × Int)))))))))))) × ((List (Int × (Int × (Int × (List (Int × (Int × (Int × Int)))))))) × ((List (Int × (Int × (Int × (List (Int × (Int × (Int × Int)))))))) × (List (Int × (Int × (Int × (List (Int × (Int × (Int × Int))))))))))))) (name : ByteArray) (mode : Int) : Option (((Int × (ByteArray × (Int × (List (Int × (Int × (Int × (List (Int × (Int × (Int × Int))))))))))) × (Bool × Unit)) × Unit) :=
  (IndexFunc42'' k c.2.1 (name, mode, ())).bind fun t12 =>
  cond (decide (t12.1 < 0))
    (some (((0, (ByteArray.mk #[]), 0, []), false, ()), ()))
    ((rd c.2.1 t12.1).bind fun t19 =>
    (Copy44 k t19).bind fun t21 =>
    some ((t21.1, true, ()), ()))
def Named84.A : Ann := { conds := [], blocks := [], loops := [], keeps := [3, 4, 5], orders := [] }
def Named84.S : Sig := { f := 84, params := [.st (.pair .str (.pair (.sl (.st (.pair (.int .i64) (.pair .str (.pair (.int .i64) (.sl (.st (.pair (.int .i64) (.pair (.int .i64) (.pair (.int .i64) (.sl (.st (.pair (.int .i64) (.pair (.int .i64) (.pair (.int .i64) (.int .i64)))))))))))))))) (.pair (.sl (.st (.pair (.int .i64) (.pair (.int .i64) (.pair (.int .i64) (.sl (.st (.pair (.int .i64) (.pair (.int .i64) (.pair (.int .i64) (.int .i64))))))))))) (.pair (.sl (.st (.pair (.int .i64) (.pair (.int .i64) (.pair (.int .i64) (.sl (.st (.pair (.int .i64) (.pair (.int .i64) (.pair (.int .i64) (.int .i64))))))))))) (.sl (.st (.pair (.int .i64) (.pair (.int .i64) (.pair (.int .i64) (.sl (.st (.pair (.int .i64) (.pair (.int .i64) (.pair (.int .i64) (.int .i64))))))))))))))), .str, .int .i64], objs := [], res := .tup (.pair (.st (.pair (.int .i64) (.pair .str (.pair (.int .i64) (.sl (.st (.pair (.int .i64) (.pair (.int .i64) (.pair (.int .i64) (.sl (.st (.pair (.int .i64) (.pair (.int .i64) (.pair (.int .i64) (.int .i64))))))))))))))) (.pair .bool .unit)), outs := [], fix := [], run := fun k ds os => Named84 k ds.1 ds.2.1 ds.2.2 }
def Named84.G : List Sig := [Copy44.S, IndexFunc42''.S]
theorem Named84.eq (k : Nat) : ∀ ds os, Named84.S.run k ds os = runF ⟨types, Named84.G, Named84.A, k, 0, []⟩ Tryz.f84 (codeOf Tryz.f84) Named84.S.params Named84.S.objs Named84.S.res Named84.S.outs ds os := by
  intro ds os; kernel_rfl
theorem Named84.dr : DrOk Tryz.prog Named84.A (codeOf Tryz.f84) := ⟨by kernel_rfl, by kernel_rfl⟩
theorem Named84.ok (k : Nat) : SoundAt Tryz.prog k Named84.S :=
  runF_sound (X := ⟨types, Named84.G, Named84.A, k, 0, []⟩) types_ok (mem_all (⟨Copy44.ok k, ⟨IndexFunc42''.ok k, trivial⟩⟩)) (fn := Tryz.f84) (c := codeOf Tryz.f84) rfl (by kernel_rfl) rfl rfl Named84.dr (Named84.eq k)

def nop40 (k : Nat) : Option ((Int × ((List Int) × (List (ByteArray × Int)))) × Unit) :=
  (Cpu39 k).bind fun t6 =>
  (Named84 k t6.1 (ByteArray.mk #[110, 111, 112]) 0).bind fun t7 =>
  (Cpu39 k).bind fun t11 =>
  (Named84 k t11.1 (ByteArray.mk #[106, 109, 112]) 4).bind fun t12 =>
  some ((512, ([(IntKind.wrap .u8 t7.1.1.1), (IntKind.wrap .u8 t12.1.1.1), 0, 2] : List Int), []), ())
def nop40.A : Ann := { conds := [], blocks := [], loops := [], keeps := [1, 3], orders := [] }
def nop40.S : Sig := { f := 40, params := [], objs := [], res := .st (.pair (.int .i64) (.pair (.sl (.int .u8)) (.sl (.st (.pair .str (.int .i64)))))), outs := [], fix := [], run := fun k ds os => nop40 k }
def nop40.G : List Sig := [Cpu39.S, Named84.S]
theorem nop40.eq (k : Nat) : ∀ ds os, nop40.S.run k ds os = runF ⟨types, nop40.G, nop40.A, k, 0, []⟩ Tryz.f40 (codeOf Tryz.f40) nop40.S.params nop40.S.objs nop40.S.res nop40.S.outs ds os := by
  intro ds os; kernel_rfl
theorem nop40.dr : DrOk Tryz.prog nop40.A (codeOf Tryz.f40) := ⟨by kernel_rfl, by kernel_rfl⟩
theorem nop40.ok (k : Nat) : SoundAt Tryz.prog k nop40.S :=
  runF_sound (X := ⟨types, nop40.G, nop40.A, k, 0, []⟩) types_ok (mem_all (⟨Cpu39.ok k, ⟨Named84.ok k, trivial⟩⟩)) (fn := Tryz.f40) (c := codeOf Tryz.f40) rfl (by kernel_rfl) rfl rfl nop40.dr (nop40.eq k)

def Equal56.l0 (k : Nat) (s1 : (List Int)) (s2 : (List Int)) : Int → Option (Int ⊕ (Unit ⊕ (Bool × Unit)))
  | t13 =>
    cond (decide (t13 < (List.length s1 : Int)))
      ((rd s1 t13).bind fun t18 =>
      (rd s2 t13).bind fun t22 =>
      cond (t18 != t22)
        (some (Sum.inr (Sum.inr (false, ()))))
        (some (Sum.inl (w64 (t13 + 1)))))
      (some (Sum.inr (Sum.inl ())))
def Equal56 (k : Nat) (s1 : (List Int)) (s2 : (List Int)) : Option (Bool × Unit) :=
  cond ((List.length s1 : Int) != (List.length s2 : Int))
    (some (false, ()))
    (Option.bind
      (loopN (Equal56.l0 k s1 s2) k 0 : Option (Unit ⊕ (Bool × Unit))) (joined fun (_ : Unit) =>
      some (true, ())))
def Equal56.A : Ann := { conds := [], blocks := [(0, ⟨[], [], 0, [], 67100720⟩)], loops := [(4, ⟨[(13, .int .i64)], [], 0, [], 67100720⟩)], keeps := [], orders := [(6, [(0, .strong), (1, .strong), (2, .strong), (3, .strong), (4, .strong), (5, .strong), (6, .strong), (7, .strong), (8, .strong)])] }
def Equal56.S : Sig := { f := 56, params := [.sl (.int .i64), .sl (.int .i64)], objs := [], res := .bool, outs := [], fix := [], run := fun k ds os => Equal56 k ds.1 ds.2 }
def Equal56.G : List Sig := []
theorem Equal56.eq (k : Nat) : ∀ ds os, Equal56.S.run k ds os = runF ⟨types, Equal56.G, Equal56.A, k, 0, []⟩ Tryz.f56 (codeOf Tryz.f56) Equal56.S.params Equal56.S.objs Equal56.S.res Equal56.S.outs ds os := by
  intro ds os; kernel_rfl
theorem Equal56.dr : DrOk Tryz.prog Equal56.A (codeOf Tryz.f56) := ⟨by kernel_rfl, by kernel_rfl⟩
theorem Equal56.ok (k : Nat) : SoundAt Tryz.prog k Equal56.S :=
  runF_sound (X := ⟨types, Equal56.G, Equal56.A, k, 0, []⟩) types_ok (fun s hs => absurd hs List.not_mem_nil) (fn := Tryz.f56) (c := codeOf Tryz.f56) rfl (by kernel_rfl) rfl rfl Equal56.dr (Equal56.eq k)

def led19 (k : Nat) : Option (Bool × Unit) :=
  (Cpu39 k).bind fun t4 =>
  (nop40 k).bind fun t5 =>
  (Next18 k t4.1 t5.1 513).bind fun t6 =>
  Option.bind (cond (cond (t6.1.2.1 == 0) (t6.1.1.1 == 3) false)
    ((Equal56 k t6.1.1.2.1 ([512] : List Int)).bind fun t20 =>
    some t20.1)
    (some false)) fun t21 =>
  some (t21, ())
def led19.A : Ann := { conds := [], blocks := [], loops := [], keeps := [1], orders := [] }
def led19.S : Sig := { f := 19, params := [], objs := [], res := .bool, outs := [], fix := [], run := fun k ds os => led19 k }
def led19.G : List Sig := [Cpu39.S, Equal56.S, Next18.S, nop40.S]
theorem led19.eq (k : Nat) : ∀ ds os, led19.S.run k ds os = runF ⟨types, led19.G, led19.A, k, 0, []⟩ Tryz.f19 (codeOf Tryz.f19) led19.S.params led19.S.objs led19.S.res led19.S.outs ds os := by
  intro ds os; kernel_rfl
theorem led19.dr : DrOk Tryz.prog led19.A (codeOf Tryz.f19) := ⟨by kernel_rfl, by kernel_rfl⟩
theorem led19.ok (k : Nat) : SoundAt Tryz.prog k led19.S :=
  runF_sound (X := ⟨types, led19.G, led19.A, k, 0, []⟩) types_ok (mem_all (⟨Cpu39.ok k, ⟨Equal56.ok k, ⟨Next18.ok k, ⟨nop40.ok k, trivial⟩⟩⟩⟩)) (fn := Tryz.f19) (c := codeOf Tryz.f19) rfl (by kernel_rfl) rfl rfl led19.dr (led19.eq k)
end Go.Proofs.YtcppmlgnceldmaaGreat.Fl

/- Go functions as plain Lean functions, and their contracts. -/
set_option linter.unusedVariables false
set_option maxRecDepth 100000
noncomputable section
namespace Go.Proofs.YtcppmlgnceldmaaGreat.Fl
open Go Go.Proofs.YtcppmlgnceldmaaGreat.Gp
def operands49 (k : Nat) : Option (((List Int) × ((List ByteArray) × Unit)) × Unit) :=
  some ((([0, 1, 1, 1, 2, 2, 2, 1, 1] : List Int), ([(ByteArray.mk #[]), (ByteArray.mk #[32, 35, 63]), (ByteArray.mk #[32, 42, 63]), (ByteArray.mk #[32, 42, 63, 44, 120]), (ByteArray.mk #[32, 63]), (ByteArray.mk #[32, 63, 44, 120]), (ByteArray.mk #[32, 63, 44, 121]), (ByteArray.mk #[32, 64, 63]), (ByteArray.mk #[32, 40, 63, 41, 44, 121])] : List ByteArray), ()), ())
def operands49.A : Ann := { conds := [], blocks := [], loops := [], keeps := [], orders := [] }
def operands49.S : Sig := { f := 49, params := [], objs := [], res := .tup (.pair (.sl (.int .i64)) (.pair (.sl .str) .unit)), outs := [], fix := [], run := fun k ds os => operands49 k }
def operands49.G : List Sig := []
theorem operands49.eq (k : Nat) : ∀ ds os, operands49.S.run k ds os = runF ⟨types, operands49.G, operands49.A, k, 0, []⟩ Tryz.f49 (codeOf Tryz.f49) operands49.S.params operands49.S.objs operands49.S.res operands49.S.outs ds os := by
  intro ds os; kernel_rfl
theorem operands49.dr : DrOk Tryz.prog operands49.A (codeOf Tryz.f49) := ⟨by kernel_rfl, by kernel_rfl⟩
theorem operands49.ok (k : Nat) : SoundAt Tryz.prog k operands49.S :=
  runF_sound (X := ⟨types, operands49.G, operands49.A, k, 0, []⟩) types_ok (fun s hs => absurd hs List.not_mem_nil) (fn := Tryz.f49) (c := codeOf Tryz.f49) rfl (by kernel_rfl) rfl rfl operands49.dr (operands49.eq k)

def with50.l0 (k : Nat) (c : (ByteArray × ((List (Int × (ByteArray × (Int × (List (Int × (Int × (Int × (List (Int × (Int × (Int × Int)))))))))))) × ((List (Int × (Int × (Int × (List (Int × (Int × (Int × Int)))))))) × ((List (Int × (Int × (Int × (List (Int × (Int × (Int × Int)))))))) × (List (Int × (Int × (Int × (List (Int × (Int × (Int × Int))))))))))))) (op : Int) : (Unit × (Int × (Int × (ByteArray × (Int × Unit))))) → Option ((Unit × (Int × (Int × (ByteArray × (Int × Unit))))) ⊕ ((Unit × (Int × (ByteArray × (Int × Unit)))) ⊕ (((Int × (ByteArray × (Int × (List (Int × (Int × (Int × (List (Int × (Int × (Int × Int))))))))))) × (Bool × Unit)) × Unit)))
  | (_, t11, o0) =>
    cond (decide (t11 < (List.length c.2.1 : Int)))
      ((rd c.2.1 t11).bind fun t13 =>
      cond (t13.1 == op)
        (some (Sum.inr (Sum.inr ((t13, true, ()), ()))))
        (some (Sum.inl ((), (w64 (t11 + 1)), o0))))
      (some (Sum.inr (Sum.inl ((), o0))))
def with50 (k : Nat) (c : (ByteArray × ((List (Int × (ByteArray × (Int × (List (Int × (Int × (Int × (List (Int × (Int × (Int × Int)))))))))))) × ((List (Int × (Int × (Int × (List (Int × (Int × (Int × Int)))))))) × ((List (Int × (Int × (Int × (List (Int × (Int × (Int × Int)))))))) × (List (Int × (Int × (Int × (List (Int × (Int × (Int × Int))))))))))))) (op : Int) : Option (((Int × (ByteArray × (Int × (List (Int × (Int × (Int × (List (Int × (Int × (Int × Int))))))))))) × (Bool × Unit)) × Unit) :=
  Option.bind
    (loopN (with50.l0 k c op) k ((), 0, 0, (ByteArray.mk #[]), 0, ()) : Option ((Unit × (Int × (ByteArray × (Int × Unit)))) ⊕ (((Int × (ByteArray × (Int × (List (Int × (Int × (Int × (List (Int × (Int × (Int × Int))))))))))) × (Bool × Unit)) × Unit))) (joined fun ((_, _) : (Unit × (Int × (ByteArray × (Int × Unit))))) =>
    some (((0, (ByteArray.mk #[]), 0, []), false, ()), ()))
def with50.A : Ann := { conds := [], blocks := [(0, ⟨[(4, .ptr 0 [])], [(0, .var (.st (.pair (.int .i64) (.pair .str (.pair (.int .i64) .nil)))))], 1, [], 2095264⟩)], loops := [(2, ⟨[(4, .ptr 0 []), (11, .int .i64)], [(0, .var (.st (.pair (.int .i64) (.pair .str (.pair (.int .i64) .nil)))))], 1, [], 2095264⟩)], keeps := [2, 7], orders := [] }
def with50.S : Sig := { f := 50, params := [.st (.pair .str (.pair (.sl (.st (.pair (.int .i64) (.pair .str (.pair (.int .i64) (.sl (.st (.pair (.int .i64) (.pair (.int .i64) (.pair (.int .i64) (.sl (.st (.pair (.int .i64) (.pair (.int .i64) (.pair (.int .i64) (.int .i64)))))))))))))))) (.pair (.sl (.st (.pair (.int .i64) (.pair (.int .i64) (.pair (.int .i64) (.sl (.st (.pair (.int .i64) (.pair (.int .i64) (.pair (.int .i64) (.int .i64))))))))))) (.pair (.sl (.st (.pair (.int .i64) (.pair (.int .i64) (.pair (.int .i64) (.sl (.st (.pair (.int .i64) (.pair (.int .i64) (.pair (.int .i64) (.int .i64))))))))))) (.sl (.st (.pair (.int .i64) (.pair (.int .i64) (.pair (.int .i64) (.sl (.st (.pair (.int .i64) (.pair (.int .i64) (.pair (.int .i64) (.int .i64))))))))))))))), .int .i64], objs := [], res := .tup (.pair (.st (.pair (.int .i64) (.pair .str (.pair (.int .i64) (.sl (.st (.pair (.int .i64) (.pair (.int .i64) (.pair (.int .i64) (.sl (.st (.pair (.int .i64) (.pair (.int .i64) (.pair (.int .i64) (.int .i64))))))))))))))) (.pair .bool .unit)), outs := [], fix := [], run := fun k ds os => with50 k ds.1 ds.2 }
def with50.G : List Sig := []
theorem with50.eq (k : Nat) : ∀ ds os, with50.S.run k ds os = runF ⟨types, with50.G, with50.A, k, 0, []⟩ Tryz.f50 (codeOf Tryz.f50) with50.S.params with50.S.objs with50.S.res with50.S.outs ds os := by
  intro ds os; kernel_rfl
theorem with50.dr : DrOk Tryz.prog with50.A (codeOf Tryz.f50) := ⟨by kernel_rfl, by kernel_rfl⟩
theorem with50.ok (k : Nat) : SoundAt Tryz.prog k with50.S :=
  runF_sound (X := ⟨types, with50.G, with50.A, k, 0, []⟩) types_ok (fun s hs => absurd hs List.not_mem_nil) (fn := Tryz.f50) (c := codeOf Tryz.f50) rfl (by kernel_rfl) rfl rfl with50.dr (with50.eq k)

def starts57 (k : Nat) (c : (ByteArray × ((List (Int × (ByteArray × (Int × (List (Int × (Int × (Int × (List (Int × (Int × (Int × Int)))))))))))) × ((List (Int × (Int × (Int × (List (Int × (Int × (Int × Int)))))))) × ((List (Int × (Int × (Int × (List (Int × (Int × (Int × Int)))))))) × (List (Int × (Int × (Int × (List (Int × (Int × (Int × Int))))))))))))) (code : (Int × ((List Int) × (List (ByteArray × Int))))) (addr : Int) : Option (((Int × (ByteArray × (Int × (List (Int × (Int × (Int × (List (Int × (Int × (Int × Int))))))))))) × (Int × Unit)) × Unit) :=
  (operands49 k).bind fun t13 =>
  cond (cond (decide (addr < code.1)) true (decide (addr ≥ (w64 (code.1 + (List.length code.2.1 : Int))))))
    (some (((0, (ByteArray.mk #[]), 0, []), 19, ()), ()))
    (Option.bind
      ((rd code.2.1 (w64 (addr - code.1))).bind fun t39 =>
      agree
        ((with50 k c (w64 t39)).bind fun t42 =>
        some (code, (), t42.1.1, t42.1.2.1, 0, (ByteArray.mk #[]), 0, ()))
        ((with50 k c (w64 t39)).bind fun t42_1 =>
        some (code, (), t42_1.1.1, t42_1.1.2.1, 0, (ByteArray.mk #[]), 0, ())) : Option ((Int × ((List Int) × (List (ByteArray × Int)))) × (Unit × ((Int × (ByteArray × (Int × (List (Int × (Int × (Int × (List (Int × (Int × (Int × Int))))))))))) × (Bool × (Int × (ByteArray × (Int × Unit)))))))) fun ((code_1, _, x, ok, _) : ((Int × ((List Int) × (List (ByteArray × Int)))) × (Unit × ((Int × (ByteArray × (Int × (List (Int × (Int × (Int × (List (Int × (Int × (Int × Int))))))))))) × (Bool × (Int × (ByteArray × (Int × Unit)))))))) =>
    cond (!ok)
      (some (((0, (ByteArray.mk #[]), 0, []), 4, ()), ()))
      ((rd t13.1.1 x.2.2.1).bind fun t54 =>
      cond (decide ((w64 (addr + t54)) ≥ (w64 (code_1.1 + (List.length code_1.2.1 : Int)))))
        (some (((0, (ByteArray.mk #[]), 0, []), 13, ()), ()))
        (some ((x, 0, ()), ()))))
def starts57.A : Ann := { conds := [], blocks := [], loops := [], keeps := [3, 4, 10], orders := [(7, [(0, .strong), (1, .strong), (2, .strong), (3, .strong), (4, .strong), (5, .strong), (6, .strong), (7, .strong), (8, .strong), (9, .strong), (10, .strong), (11, .strong), (12, .strong), (13, .strong), (14, .strong)])], alts := [(4, ((.op 0 .strong (.op 1 .strong (.op 2 .strong (.op 3 .strong (.op 4 .strong (.op 5 .strong (.op 6 .strong (.op 7 .strong (.op 8 .strong (.op 9 .strong (.alt (.op 10 (.eff true) (.op 11 .strong (.op 12 .strong (.op 13 .weak (.op 14 (.eff true) (.op 15 (.eff false) (.op 16 .strong (.leaf [])))))))) (.op 14 (.eff true) (.op 10 (.eff true) (.op 11 .strong (.op 12 .strong (.op 13 .weak (.op 15 (.eff false) (.op 16 .strong (.leaf []))))))))))))))))))), ⟨[(4, .fp (.st (.pair (.int .i64) (.pair (.sl (.int .u8)) (.sl (.st (.pair .str (.int .i64)))))))), (6, .ptr 0 []), (10, .fp (.st (.pair (.int .i64) (.pair .str (.pair (.int .i64) (.sl (.st (.pair (.int .i64) (.pair (.int .i64) (.pair (.int .i64) (.sl (.st (.pair (.int .i64) (.pair (.int .i64) (.pair (.int .i64) (.int .i64)))))))))))))))), (11, .bool)], [(0, .var (.st (.pair (.int .i64) (.pair .str (.pair (.int .i64) .nil)))))], 1, [], 35182224608256⟩))] }
def starts57.S : Sig := { f := 57, params := [.st (.pair .str (.pair (.sl (.st (.pair (.int .i64) (.pair .str (.pair (.int .i64) (.sl (.st (.pair (.int .i64) (.pair (.int .i64) (.pair (.int .i64) (.sl (.st (.pair (.int .i64) (.pair (.int .i64) (.pair (.int .i64) (.int .i64)))))))))))))))) (.pair (.sl (.st (.pair (.int .i64) (.pair (.int .i64) (.pair (.int .i64) (.sl (.st (.pair (.int .i64) (.pair (.int .i64) (.pair (.int .i64) (.int .i64))))))))))) (.pair (.sl (.st (.pair (.int .i64) (.pair (.int .i64) (.pair (.int .i64) (.sl (.st (.pair (.int .i64) (.pair (.int .i64) (.pair (.int .i64) (.int .i64))))))))))) (.sl (.st (.pair (.int .i64) (.pair (.int .i64) (.pair (.int .i64) (.sl (.st (.pair (.int .i64) (.pair (.int .i64) (.pair (.int .i64) (.int .i64))))))))))))))), .st (.pair (.int .i64) (.pair (.sl (.int .u8)) (.sl (.st (.pair .str (.int .i64)))))), .int .i64], objs := [], res := .tup (.pair (.st (.pair (.int .i64) (.pair .str (.pair (.int .i64) (.sl (.st (.pair (.int .i64) (.pair (.int .i64) (.pair (.int .i64) (.sl (.st (.pair (.int .i64) (.pair (.int .i64) (.pair (.int .i64) (.int .i64))))))))))))))) (.pair (.int .i64) .unit)), outs := [], fix := [], run := fun k ds os => starts57 k ds.1 ds.2.1 ds.2.2 }
def starts57.G : List Sig := [operands49.S, with50.S]
theorem starts57.eq (k : Nat) : ∀ ds os, starts57.S.run k ds os = runF ⟨types, starts57.G, starts57.A, k, 0, []⟩ Tryz.f57 (codeOf Tryz.f57) starts57.S.params starts57.S.objs starts57.S.res starts57.S.outs ds os := by
  intro ds os; kernel_rfl
theorem starts57.dr : DrOk Tryz.prog starts57.A (codeOf Tryz.f57) := ⟨by kernel_rfl, by kernel_rfl⟩
theorem starts57.ok (k : Nat) : SoundAt Tryz.prog k starts57.S :=
  runF_sound (X := ⟨types, starts57.G, starts57.A, k, 0, []⟩) types_ok (mem_all (⟨operands49.ok k, ⟨with50.ok k, trivial⟩⟩)) (fn := Tryz.f57) (c := codeOf Tryz.f57) rfl (by kernel_rfl) rfl rfl starts57.dr (starts57.eq k)

def known94 (k : Nat) (n : Int) (bits : Int) : Option ((Int × Bool) × Unit) :=
  (if bits < 0 then none else some (shlI .i64 1 bits)).bind fun t7 =>
  (if t7 = 0 then none else some (Int.tmod n t7)).bind fun t8 =>
  (if bits < 0 then none else some (shlI .i64 1 bits)).bind fun t10 =>
  (if bits < 0 then none else some (shlI .i64 1 bits)).bind fun t13 =>
  (if t13 = 0 then none else some (Int.tmod (w64 (t8 + t10)) t13)).bind fun t14 =>
  some ((t14, true), ())
def known94.A : Ann := { conds := [], blocks := [], loops := [], keeps := [], orders := [(1, [(0, .strong), (1, .strong), (2, .strong), (3, .strong), (4, .strong), (5, .strong), (6, .strong), (7, .strong), (8, .strong), (9, .strong), (10, .strong), (11, .eff false)])] }
def known94.S : Sig := { f := 94, params := [.int .i64, .int .i64], objs := [], res := .st (.pair (.int .i64) .bool), outs := [], fix := [], run := fun k ds os => known94 k ds.1 ds.2 }
def known94.G : List Sig := []
theorem known94.eq (k : Nat) : ∀ ds os, known94.S.run k ds os = runF ⟨types, known94.G, known94.A, k, 0, []⟩ Tryz.f94 (codeOf Tryz.f94) known94.S.params known94.S.objs known94.S.res known94.S.outs ds os := by
  intro ds os; kernel_rfl
theorem known94.dr : DrOk Tryz.prog known94.A (codeOf Tryz.f94) := ⟨by kernel_rfl, by kernel_rfl⟩
theorem known94.ok (k : Nat) : SoundAt Tryz.prog k known94.S :=
  runF_sound (X := ⟨types, known94.G, known94.A, k, 0, []⟩) types_ok (fun s hs => absurd hs List.not_mem_nil) (fn := Tryz.f94) (c := codeOf Tryz.f94) rfl (by kernel_rfl) rfl rfl known94.dr (known94.eq k)

def put1130 (k : Nat) (l : (List Int)) : Option (Int × Unit) :=
  (rd l 0).bind fun t4 =>
  some (t4, ())
def put1130.A : Ann := { conds := [], blocks := [], loops := [], keeps := [], orders := [] }
def put1130.S : Sig := { f := 130, params := [.sl (.int .i64)], objs := [], res := .int .i64, outs := [], fix := [], run := fun k ds os => put1130 k ds }
def put1130.G : List Sig := []
theorem put1130.eq (k : Nat) : ∀ ds os, put1130.S.run k ds os = runF ⟨types, put1130.G, put1130.A, k, 0, []⟩ Tryz.f130 (codeOf Tryz.f130) put1130.S.params put1130.S.objs put1130.S.res put1130.S.outs ds os := by
  intro ds os; kernel_rfl
theorem put1130.dr : DrOk Tryz.prog put1130.A (codeOf Tryz.f130) := ⟨by kernel_rfl, by kernel_rfl⟩
theorem put1130.ok (k : Nat) : SoundAt Tryz.prog k put1130.S :=
  runF_sound (X := ⟨types, put1130.G, put1130.A, k, 0, []⟩) types_ok (fun s hs => absurd hs List.not_mem_nil) (fn := Tryz.f130) (c := codeOf Tryz.f130) rfl (by kernel_rfl) rfl rfl put1130.dr (put1130.eq k)
end Go.Proofs.YtcppmlgnceldmaaGreat.Fl

/- Go functions as plain Lean functions, and their contracts. -/
set_option linter.unusedVariables false
set_option maxRecDepth 100000
noncomputable section
namespace Go.Proofs.YtcppmlgnceldmaaGreat.Fl
open Go Go.Proofs.YtcppmlgnceldmaaGreat.Gp
def then129.l0 (k : Nat) (l : (List (Int × Bool))) : (Unit × (Unit × (Unit × (Int × ((Int × Bool) × (List Int)))))) → Option ((Unit × (Unit × (Unit × (Int × ((Int × Bool) × (List Int)))))) ⊕ ((Unit × (Unit × (Unit × ((Int × Bool) × (List Int))))) ⊕ ((Int × Bool) × Unit)))
  | (_, _, _, t12, o0, o3) =>
    cond (decide (t12 < (List.length l : Int)))
      ((rd l t12).bind fun t14 =>
      cond (!t14.2)
        (some (Sum.inr (Sum.inr ((0, false), ()))))
        ((if room (List.length o3 + List.length ([t14.1] : List Int)) 8 then some () else none).bind fun _ =>
        some (Sum.inl ((), (), (), (w64 (t12 + 1)), o0, (o3 ++ ([t14.1] : List Int))))))
      (some (Sum.inr (Sum.inl ((), (), (), o0, o3))))
def then129 (k : Nat) (bits : Int) (_ : Unit) (l : (List (Int × Bool))) : Option ((Int × Bool) × Unit) :=
  Option.bind
    (loopN (then129.l0 k l) k ((), (), (), 0, (0, false), []) : Option ((Unit × (Unit × (Unit × ((Int × Bool) × (List Int))))) ⊕ ((Int × Bool) × Unit))) (joined fun ((_, _, _, _, o3_1) : (Unit × (Unit × (Unit × ((Int × Bool) × (List Int)))))) =>
    (put1130 k o3_1).bind fun t28 =>
    (known94 k t28.1 bits).bind fun t30 =>
    some (t30.1, ()))
def then129.A : Ann := { conds := [], blocks := [(0, ⟨[(1, .fn 130 .unit), (6, .ptr 0 []), (7, .ms 3)], [(0, .var (.st (.pair (.int .i64) .bool))), (3, .row (.int .i64))], 4, [], 67105408⟩)], loops := [(3, ⟨[(1, .fn 130 .unit), (6, .ptr 0 []), (7, .ms 3), (12, .int .i64)], [(0, .var (.st (.pair (.int .i64) .bool))), (3, .row (.int .i64))], 4, [(3, .int .i64)], 67105408⟩)], keeps := [9], orders := [] }
def then129.S : Sig := { f := 129, params := [.int .i64, .fn 130 .unit, .sl (.st (.pair (.int .i64) .bool))], objs := [], res := .st (.pair (.int .i64) .bool), outs := [], fix := [], run := fun k ds os => then129 k ds.1 ds.2.1 ds.2.2 }
def then129.G : List Sig := [known94.S, put1130.S]
theorem then129.eq (k : Nat) : ∀ ds os, then129.S.run k ds os = runF ⟨types, then129.G, then129.A, k, 0, []⟩ Tryz.f129 (codeOf Tryz.f129) then129.S.params then129.S.objs then129.S.res then129.S.outs ds os := by
  intro ds os; kernel_rfl
theorem then129.dr : DrOk Tryz.prog then129.A (codeOf Tryz.f129) := ⟨by kernel_rfl, by kernel_rfl⟩
theorem then129.ok (k : Nat) : SoundAt Tryz.prog k then129.S :=
  runF_sound (X := ⟨types, then129.G, then129.A, k, 0, []⟩) types_ok (mem_all (⟨known94.ok k, ⟨put1130.ok k, trivial⟩⟩)) (fn := Tryz.f129) (c := codeOf Tryz.f129) rfl (by kernel_rfl) rfl rfl then129.dr (then129.eq k)

def wide131 (k : Nat) (reg : Int) : Option (Bool × Unit) :=
  some ((decide (reg ≥ 7)), ())
def wide131.A : Ann := { conds := [], blocks := [], loops := [], keeps := [], orders := [] }
def wide131.S : Sig := { f := 131, params := [.int .i64], objs := [], res := .bool, outs := [], fix := [], run := fun k ds os => wide131 k ds }
def wide131.G : List Sig := []
theorem wide131.eq (k : Nat) : ∀ ds os, wide131.S.run k ds os = runF ⟨types, wide131.G, wide131.A, k, 0, []⟩ Tryz.f131 (codeOf Tryz.f131) wide131.S.params wide131.S.objs wide131.S.res wide131.S.outs ds os := by
  intro ds os; kernel_rfl
theorem wide131.dr : DrOk Tryz.prog wide131.A (codeOf Tryz.f131) := ⟨by kernel_rfl, by kernel_rfl⟩
theorem wide131.ok (k : Nat) : SoundAt Tryz.prog k wide131.S :=
  runF_sound (X := ⟨types, wide131.G, wide131.A, k, 0, []⟩) types_ok (fun s hs => absurd hs List.not_mem_nil) (fn := Tryz.f131) (c := codeOf Tryz.f131) rfl (by kernel_rfl) rfl rfl wide131.dr (wide131.eq k)

def put2132 (k : Nat) (l : (List Int)) : Option (Int × Unit) :=
  (rd l 0).bind fun t4 =>
  some ((quoI .i64 t4 256), ())
def put2132.A : Ann := { conds := [], blocks := [], loops := [], keeps := [], orders := [] }
def put2132.S : Sig := { f := 132, params := [.sl (.int .i64)], objs := [], res := .int .i64, outs := [], fix := [], run := fun k ds os => put2132 k ds }
def put2132.G : List Sig := []
theorem put2132.eq (k : Nat) : ∀ ds os, put2132.S.run k ds os = runF ⟨types, put2132.G, put2132.A, k, 0, []⟩ Tryz.f132 (codeOf Tryz.f132) put2132.S.params put2132.S.objs put2132.S.res put2132.S.outs ds os := by
  intro ds os; kernel_rfl
theorem put2132.dr : DrOk Tryz.prog put2132.A (codeOf Tryz.f132) := ⟨by kernel_rfl, by kernel_rfl⟩
theorem put2132.ok (k : Nat) : SoundAt Tryz.prog k put2132.S :=
  runF_sound (X := ⟨types, put2132.G, put2132.A, k, 0, []⟩) types_ok (fun s hs => absurd hs List.not_mem_nil) (fn := Tryz.f132) (c := codeOf Tryz.f132) rfl (by kernel_rfl) rfl rfl put2132.dr (put2132.eq k)

def then129'.l0 (k : Nat) (l : (List (Int × Bool))) : (Unit × (Unit × (Unit × (Int × ((Int × Bool) × (List Int)))))) → Option ((Unit × (Unit × (Unit × (Int × ((Int × Bool) × (List Int)))))) ⊕ ((Unit × (Unit × (Unit × ((Int × Bool) × (List Int))))) ⊕ ((Int × Bool) × Unit)))
  | (_, _, _, t12, o0, o3) =>
    cond (decide (t12 < (List.length l : Int)))
      ((rd l t12).bind fun t14 =>
      cond (!t14.2)
        (some (Sum.inr (Sum.inr ((0, false), ()))))
        ((if room (List.length o3 + List.length ([t14.1] : List Int)) 8 then some () else none).bind fun _ =>
        some (Sum.inl ((), (), (), (w64 (t12 + 1)), o0, (o3 ++ ([t14.1] : List Int))))))
      (some (Sum.inr (Sum.inl ((), (), (), o0, o3))))
def then129' (k : Nat) (bits : Int) (_ : Unit) (l : (List (Int × Bool))) : Option ((Int × Bool) × Unit) :=
  Option.bind
    (loopN (then129'.l0 k l) k ((), (), (), 0, (0, false), []) : Option ((Unit × (Unit × (Unit × ((Int × Bool) × (List Int))))) ⊕ ((Int × Bool) × Unit))) (joined fun ((_, _, _, _, o3_1) : (Unit × (Unit × (Unit × ((Int × Bool) × (List Int)))))) =>
    (put2132 k o3_1).bind fun t28 =>
    (known94 k t28.1 bits).bind fun t30 =>
    some (t30.1, ()))
def then129'.A : Ann := { conds := [], blocks := [(0, ⟨[(1, .fn 132 .unit), (6, .ptr 0 []), (7, .ms 3)], [(0, .var (.st (.pair (.int .i64) .bool))), (3, .row (.int .i64))], 4, [], 67105408⟩)], loops := [(3, ⟨[(1, .fn 132 .unit), (6, .ptr 0 []), (7, .ms 3), (12, .int .i64)], [(0, .var (.st (.pair (.int .i64) .bool))), (3, .row (.int .i64))], 4, [(3, .int .i64)], 67105408⟩)], keeps := [9], orders := [] }
def then129'.S : Sig := { f := 129, params := [.int .i64, .fn 132 .unit, .sl (.st (.pair (.int .i64) .bool))], objs := [], res := .st (.pair (.int .i64) .bool), outs := [], fix := [], run := fun k ds os => then129' k ds.1 ds.2.1 ds.2.2 }
def then129'.G : List Sig := [known94.S, put2132.S]
theorem then129'.eq (k : Nat) : ∀ ds os, then129'.S.run k ds os = runF ⟨types, then129'.G, then129'.A, k, 0, []⟩ Tryz.f129 (codeOf Tryz.f129) then129'.S.params then129'.S.objs then129'.S.res then129'.S.outs ds os := by
  intro ds os; kernel_rfl
theorem then129'.dr : DrOk Tryz.prog then129'.A (codeOf Tryz.f129) := ⟨by kernel_rfl, by kernel_rfl⟩
theorem then129'.ok (k : Nat) : SoundAt Tryz.prog k then129'.S :=
  runF_sound (X := ⟨types, then129'.G, then129'.A, k, 0, []⟩) types_ok (mem_all (⟨known94.ok k, ⟨put2132.ok k, trivial⟩⟩)) (fn := Tryz.f129) (c := codeOf Tryz.f129) rfl (by kernel_rfl) rfl rfl then129'.dr (then129'.eq k)

def put93 (k : Nat) (_ : Unit) (reg : Int) (v : (Int × Bool)) (o0 : (List (Int × Bool))) : Option (Unit × (List (Int × Bool))) :=
  (then129 k 8 () [v]).bind fun t11 =>
  (if 0 ≤ (w64 (2 * reg)) ∧ (w64 (2 * reg)) < 18 then some () else none).bind fun _ =>
  (rd o0 (w64 (2 * reg))).bind fun _ =>
  (wide131 k reg).bind fun t15 =>
  Option.bind
    (cond t15.1
      (let t19 : Int := (w64 ((w64 (2 * reg)) + 1))
      (then129' k 8 () [v]).bind fun t22 =>
      (if 0 ≤ t19 ∧ t19 < 18 then some () else none).bind fun _ =>
      (rd (List.set o0 (Int.toNat (w64 (2 * reg))) t11.1) t19).bind fun _ =>
      some (List.set (List.set o0 (Int.toNat (w64 (2 * reg))) t11.1) (Int.toNat t19) t22.1))
      (some (List.set o0 (Int.toNat (w64 (2 * reg))) t11.1)) : Option (List (Int × Bool))) fun (o0_1 : (List (Int × Bool))) =>
  some ((), o0_1)
def put93.A : Ann := { conds := [(983043, ⟨[], [(0, .var (.arr 18 (.st (.pair (.int .i64) .bool))))], 1, [], 33488896⟩)], blocks := [], loops := [], keeps := [5], orders := [(1, [(0, .strong), (1, .strong), (2, .strong), (3, .strong), (6, .strong), (4, .eff true), (5, .eff true), (7, .strong), (8, .eff false)]), (3, [(0, .strong), (1, .strong), (2, .strong), (3, .strong), (4, .strong), (7, .strong), (5, .eff true), (6, .eff true), (8, .strong), (9, .eff false)])] }
def put93.S : Sig := { f := 93, params := [.ptr 0 [], .int .i64, .st (.pair (.int .i64) .bool)], objs := [.var (.arr 18 (.st (.pair (.int .i64) .bool)))], res := .tup .unit, outs := [.var (.arr 18 (.st (.pair (.int .i64) .bool)))], fix := [], run := fun k ds os => put93 k ds.1 ds.2.1 ds.2.2 os }
def put93.G : List Sig := [then129.S, then129'.S, wide131.S]
theorem put93.eq (k : Nat) : ∀ ds os, put93.S.run k ds os = runF ⟨types, put93.G, put93.A, k, 0, []⟩ Tryz.f93 (codeOf Tryz.f93) put93.S.params put93.S.objs put93.S.res put93.S.outs ds os := by
  intro ds os; kernel_rfl
theorem put93.dr : DrOk Tryz.prog put93.A (codeOf Tryz.f93) := ⟨by kernel_rfl, by kernel_rfl⟩
theorem put93.ok (k : Nat) : SoundAt Tryz.prog k put93.S :=
  runF_sound (X := ⟨types, put93.G, put93.A, k, 0, []⟩) types_ok (mem_all (⟨then129.ok k, ⟨then129'.ok k, ⟨wide131.ok k, trivial⟩⟩⟩)) (fn := Tryz.f93) (c := codeOf Tryz.f93) rfl (by kernel_rfl) rfl rfl put93.dr (put93.eq k)

def get1136 (k : Nat) (l : (List Int)) : Option (Int × Unit) :=
  (rd l 0).bind fun t4 =>
  (rd l 1).bind fun t7 =>
  some ((w64 (t4 + (w64 (256 * t7)))), ())
def get1136.A : Ann := { conds := [], blocks := [], loops := [], keeps := [], orders := [(1, [(0, .strong), (1, .strong), (2, .strong), (3, .strong), (4, .strong), (5, .strong), (6, .strong), (7, .strong), (8, .strong)])] }
def get1136.S : Sig := { f := 136, params := [.sl (.int .i64)], objs := [], res := .int .i64, outs := [], fix := [], run := fun k ds os => get1136 k ds }
def get1136.G : List Sig := []
theorem get1136.eq (k : Nat) : ∀ ds os, get1136.S.run k ds os = runF ⟨types, get1136.G, get1136.A, k, 0, []⟩ Tryz.f136 (codeOf Tryz.f136) get1136.S.params get1136.S.objs get1136.S.res get1136.S.outs ds os := by
  intro ds os; kernel_rfl
theorem get1136.dr : DrOk Tryz.prog get1136.A (codeOf Tryz.f136) := ⟨by kernel_rfl, by kernel_rfl⟩
theorem get1136.ok (k : Nat) : SoundAt Tryz.prog k get1136.S :=
  runF_sound (X := ⟨types, get1136.G, get1136.A, k, 0, []⟩) types_ok (fun s hs => absurd hs List.not_mem_nil) (fn := Tryz.f136) (c := codeOf Tryz.f136) rfl (by kernel_rfl) rfl rfl get1136.dr (get1136.eq k)

def then129''.l0 (k : Nat) (l : (List (Int × Bool))) : (Unit × (Unit × (Unit × (Int × ((Int × Bool) × (List Int)))))) → Option ((Unit × (Unit × (Unit × (Int × ((Int × Bool) × (List Int)))))) ⊕ ((Unit × (Unit × (Unit × ((Int × Bool) × (List Int))))) ⊕ ((Int × Bool) × Unit)))
  | (_, _, _, t12, o0, o3) =>
    cond (decide (t12 < (List.length l : Int)))
      ((rd l t12).bind fun t14 =>
      cond (!t14.2)
        (some (Sum.inr (Sum.inr ((0, false), ()))))
        ((if room (List.length o3 + List.length ([t14.1] : List Int)) 8 then some () else none).bind fun _ =>
        some (Sum.inl ((), (), (), (w64 (t12 + 1)), o0, (o3 ++ ([t14.1] : List Int))))))
      (some (Sum.inr (Sum.inl ((), (), (), o0, o3))))
def then129'' (k : Nat) (bits : Int) (_ : Unit) (l : (List (Int × Bool))) : Option ((Int × Bool) × Unit) :=
  Option.bind
    (loopN (then129''.l0 k l) k ((), (), (), 0, (0, false), []) : Option ((Unit × (Unit × (Unit × ((Int × Bool) × (List Int))))) ⊕ ((Int × Bool) × Unit))) (joined fun ((_, _, _, _, o3_1) : (Unit × (Unit × (Unit × ((Int × Bool) × (List Int)))))) =>
    (get1136 k o3_1).bind fun t28 =>
    (known94 k t28.1 bits).bind fun t30 =>
    some (t30.1, ()))
def then129''.A : Ann := { conds := [], blocks := [(0, ⟨[(1, .fn 136 .unit), (6, .ptr 0 []), (7, .ms 3)], [(0, .var (.st (.pair (.int .i64) .bool))), (3, .row (.int .i64))], 4, [], 67105408⟩)], loops := [(3, ⟨[(1, .fn 136 .unit), (6, .ptr 0 []), (7, .ms 3), (12, .int .i64)], [(0, .var (.st (.pair (.int .i64) .bool))), (3, .row (.int .i64))], 4, [(3, .int .i64)], 67105408⟩)], keeps := [9], orders := [] }
def then129''.S : Sig := { f := 129, params := [.int .i64, .fn 136 .unit, .sl (.st (.pair (.int .i64) .bool))], objs := [], res := .st (.pair (.int .i64) .bool), outs := [], fix := [], run := fun k ds os => then129'' k ds.1 ds.2.1 ds.2.2 }
def then129''.G : List Sig := [get1136.S, known94.S]
theorem then129''.eq (k : Nat) : ∀ ds os, then129''.S.run k ds os = runF ⟨types, then129''.G, then129''.A, k, 0, []⟩ Tryz.f129 (codeOf Tryz.f129) then129''.S.params then129''.S.objs then129''.S.res then129''.S.outs ds os := by
  intro ds os; kernel_rfl
theorem then129''.dr : DrOk Tryz.prog then129''.A (codeOf Tryz.f129) := ⟨by kernel_rfl, by kernel_rfl⟩
theorem then129''.ok (k : Nat) : SoundAt Tryz.prog k then129''.S :=
  runF_sound (X := ⟨types, then129''.G, then129''.A, k, 0, []⟩) types_ok (mem_all (⟨get1136.ok k, ⟨known94.ok k, trivial⟩⟩)) (fn := Tryz.f129) (c := codeOf Tryz.f129) rfl (by kernel_rfl) rfl rfl then129''.dr (then129''.eq k)
end Go.Proofs.YtcppmlgnceldmaaGreat.Fl

/- Go functions as plain Lean functions, and their contracts. -/
set_option linter.unusedVariables false
set_option maxRecDepth 100000
noncomputable section
namespace Go.Proofs.YtcppmlgnceldmaaGreat.Fl
open Go Go.Proofs.YtcppmlgnceldmaaGreat.Gp
def get96 (k : Nat) (_ : Unit) (reg : Int) (o0 : ((List (Int × Bool)) × Unit)) (o1 : (List (Int × Bool))) : Option ((Int × Bool) × (((List (Int × Bool)) × Unit) × (List (Int × Bool)))) :=
  (wide131 k reg).bind fun t6 =>
  cond (!t6.1)
    ((if 0 ≤ (w64 (2 * reg)) ∧ (w64 (2 * reg)) < 18 then some () else none).bind fun _ =>
    (rd o0.1 (w64 (2 * reg))).bind fun t13 =>
    some (t13, o0, o1))
    ((if 0 ≤ (w64 (2 * reg)) ∧ (w64 (2 * reg)) < 18 then some () else none).bind fun _ =>
    (rd o0.1 (w64 (2 * reg))).bind fun t19 =>
    let t23 : Int := (w64 ((w64 (2 * reg)) + 1))
    (if 0 ≤ t23 ∧ t23 < 18 then some () else none).bind fun _ =>
    (rd o0.1 t23).bind fun t26 =>
    (then129'' k 16 () [t19, t26]).bind fun t28 =>
    some (t28.1, o0, o1))
def get96.A : Ann := { conds := [], blocks := [], loops := [], keeps := [], orders := [(3, [(0, .strong), (1, .strong), (2, .strong), (3, .strong), (4, .strong), (5, .strong), (6, .strong), (7, .strong), (8, .strong), (9, .strong), (10, .strong), (11, .strong), (12, .strong), (13, .eff true), (14, .eff true), (15, .eff false)])] }
def get96.S : Sig := { f := 96, params := [.ptr 0 [.fld 0 0], .int .i64], objs := [.var (.st (.pair (.arr 18 (.st (.pair (.int .i64) .bool))) (.ms 1))), .row (.st (.pair (.int .i64) .bool))], res := .st (.pair (.int .i64) .bool), outs := [.var (.st (.pair (.arr 18 (.st (.pair (.int .i64) .bool))) (.ms 1))), .row (.st (.pair (.int .i64) .bool))], fix := [], run := fun k ds os => get96 k ds.1 ds.2 os.1 os.2 }
def get96.G : List Sig := [then129''.S, wide131.S]
theorem get96.eq (k : Nat) : ∀ ds os, get96.S.run k ds os = runF ⟨types, get96.G, get96.A, k, 0, []⟩ Tryz.f96 (codeOf Tryz.f96) get96.S.params get96.S.objs get96.S.res get96.S.outs ds os := by
  intro ds os; kernel_rfl
theorem get96.dr : DrOk Tryz.prog get96.A (codeOf Tryz.f96) := ⟨by kernel_rfl, by kernel_rfl⟩
theorem get96.ok (k : Nat) : SoundAt Tryz.prog k get96.S :=
  runF_sound (X := ⟨types, get96.G, get96.A, k, 0, []⟩) types_ok (mem_all (⟨then129''.ok k, ⟨wide131.ok k, trivial⟩⟩)) (fn := Tryz.f96) (c := codeOf Tryz.f96) rfl (by kernel_rfl) rfl rfl get96.dr (get96.eq k)

def read167 (k : Nat) (code : (Int × ((List Int) × (List (ByteArray × Int))))) (at_ : (Int × Bool)) : Option ((Int × Bool) × Unit) :=
  cond (cond (cond (!at_.2) true (decide (at_.1 < code.1))) true (decide (at_.1 ≥ (w64 (code.1 + (List.length code.2.1 : Int))))))
    (some ((0, false), ()))
    ((rd code.2.1 (w64 (at_.1 - code.1))).bind fun t34 =>
    (known94 k (w64 t34) 8).bind fun t37 =>
    some (t37.1, ()))
def read167.A : Ann := { conds := [], blocks := [], loops := [], keeps := [2, 3], orders := [] }
def read167.S : Sig := { f := 167, params := [.st (.pair (.int .i64) (.pair (.sl (.int .u8)) (.sl (.st (.pair .str (.int .i64)))))), .st (.pair (.int .i64) .bool)], objs := [], res := .st (.pair (.int .i64) .bool), outs := [], fix := [], run := fun k ds os => read167 k ds.1 ds.2 }
def read167.G : List Sig := [known94.S]
theorem read167.eq (k : Nat) : ∀ ds os, read167.S.run k ds os = runF ⟨types, read167.G, read167.A, k, 0, []⟩ Tryz.f167 (codeOf Tryz.f167) read167.S.params read167.S.objs read167.S.res read167.S.outs ds os := by
  intro ds os; kernel_rfl
theorem read167.dr : DrOk Tryz.prog read167.A (codeOf Tryz.f167) := ⟨by kernel_rfl, by kernel_rfl⟩
theorem read167.ok (k : Nat) : SoundAt Tryz.prog k read167.S :=
  runF_sound (X := ⟨types, read167.G, read167.A, k, 0, []⟩) types_ok (mem_all (⟨known94.ok k, trivial⟩)) (fn := Tryz.f167) (c := codeOf Tryz.f167) rfl (by kernel_rfl) rfl rfl read167.dr (read167.eq k)

def size165 (k : Nat) (reg : Int) : Option (Int × Unit) :=
  (wide131 k reg).bind fun t4 =>
  cond t4.1
    (some (16, ()))
    (some (8, ()))
def size165.A : Ann := { conds := [], blocks := [], loops := [], keeps := [], orders := [] }
def size165.S : Sig := { f := 165, params := [.int .i64], objs := [], res := .int .i64, outs := [], fix := [], run := fun k ds os => size165 k ds }
def size165.G : List Sig := [wide131.S]
theorem size165.eq (k : Nat) : ∀ ds os, size165.S.run k ds os = runF ⟨types, size165.G, size165.A, k, 0, []⟩ Tryz.f165 (codeOf Tryz.f165) size165.S.params size165.S.objs size165.S.res size165.S.outs ds os := by
  intro ds os; kernel_rfl
theorem size165.dr : DrOk Tryz.prog size165.A (codeOf Tryz.f165) := ⟨by kernel_rfl, by kernel_rfl⟩
theorem size165.ok (k : Nat) : SoundAt Tryz.prog k size165.S :=
  runF_sound (X := ⟨types, size165.G, size165.A, k, 0, []⟩) types_ok (mem_all (⟨wide131.ok k, trivial⟩)) (fn := Tryz.f165) (c := codeOf Tryz.f165) rfl (by kernel_rfl) rfl rfl size165.dr (size165.eq k)

def cycle11166 (k : Nat) (l : (List Int)) (t1 : Int) : Option (Int × Unit) :=
  (rd l 0).bind fun t5 =>
  some ((w64 (t5 + t1)), ())
def cycle11166.A : Ann := { conds := [], blocks := [], loops := [], keeps := [], orders := [(1, [(0, .strong), (1, .strong), (2, .strong), (3, .strong), (4, .strong), (5, .strong)])] }
def cycle11166.S : Sig := { f := 166, params := [.sl (.int .i64), .fp (.int .i64)], objs := [], res := .int .i64, outs := [], fix := [], run := fun k ds os => cycle11166 k ds.1 ds.2 }
def cycle11166.G : List Sig := []
theorem cycle11166.eq (k : Nat) : ∀ ds os, cycle11166.S.run k ds os = runF ⟨types, cycle11166.G, cycle11166.A, k, 0, []⟩ Tryz.f166 (codeOf Tryz.f166) cycle11166.S.params cycle11166.S.objs cycle11166.S.res cycle11166.S.outs ds os := by
  intro ds os; kernel_rfl
theorem cycle11166.dr : DrOk Tryz.prog cycle11166.A (codeOf Tryz.f166) := ⟨by kernel_rfl, by kernel_rfl⟩
theorem cycle11166.ok (k : Nat) : SoundAt Tryz.prog k cycle11166.S :=
  runF_sound (X := ⟨types, cycle11166.G, cycle11166.A, k, 0, []⟩) types_ok (fun s hs => absurd hs List.not_mem_nil) (fn := Tryz.f166) (c := codeOf Tryz.f166) rfl (by kernel_rfl) rfl rfl cycle11166.dr (cycle11166.eq k)

def then129'''.l0 (k : Nat) (l : (List (Int × Bool))) : ((Int × Unit) × (Unit × (Unit × (Int × ((Int × Bool) × (List Int)))))) → Option (((Int × Unit) × (Unit × (Unit × (Int × ((Int × Bool) × (List Int)))))) ⊕ (((Int × Unit) × (Unit × (Unit × ((Int × Bool) × (List Int))))) ⊕ ((Int × Bool) × Unit)))
  | (f_1, _, _, t12, o0, o3) =>
    cond (decide (t12 < (List.length l : Int)))
      ((rd l t12).bind fun t14 =>
      cond (!t14.2)
        (some (Sum.inr (Sum.inr ((0, false), ()))))
        ((if room (List.length o3 + List.length ([t14.1] : List Int)) 8 then some () else none).bind fun _ =>
        some (Sum.inl (f_1, (), (), (w64 (t12 + 1)), o0, (o3 ++ ([t14.1] : List Int))))))
      (some (Sum.inr (Sum.inl (f_1, (), (), o0, o3))))
def then129''' (k : Nat) (bits : Int) (f : (Int × Unit)) (l : (List (Int × Bool))) : Option ((Int × Bool) × Unit) :=
  Option.bind
    (loopN (then129'''.l0 k l) k (f, (), (), 0, (0, false), []) : Option (((Int × Unit) × (Unit × (Unit × ((Int × Bool) × (List Int))))) ⊕ ((Int × Bool) × Unit))) (joined fun ((f_2, _, _, _, o3_1) : ((Int × Unit) × (Unit × (Unit × ((Int × Bool) × (List Int)))))) =>
    (cycle11166 k o3_1 f_2.1).bind fun t28 =>
    (known94 k t28.1 bits).bind fun t30 =>
    some (t30.1, ()))
def then129'''.A : Ann := { conds := [], blocks := [(0, ⟨[(1, .fn 166 (.pair (.fp (.int .i64)) .unit)), (6, .ptr 0 []), (7, .ms 3)], [(0, .var (.st (.pair (.int .i64) .bool))), (3, .row (.int .i64))], 4, [], 67105408⟩)], loops := [(3, ⟨[(1, .fn 166 (.pair (.fp (.int .i64)) .unit)), (6, .ptr 0 []), (7, .ms 3), (12, .int .i64)], [(0, .var (.st (.pair (.int .i64) .bool))), (3, .row (.int .i64))], 4, [(3, .int .i64)], 67105408⟩)], keeps := [9], orders := [] }
def then129'''.S : Sig := { f := 129, params := [.int .i64, .fn 166 (.pair (.fp (.int .i64)) .unit), .sl (.st (.pair (.int .i64) .bool))], objs := [], res := .st (.pair (.int .i64) .bool), outs := [], fix := [], run := fun k ds os => then129''' k ds.1 ds.2.1 ds.2.2 }
def then129'''.G : List Sig := [cycle11166.S, known94.S]
theorem then129'''.eq (k : Nat) : ∀ ds os, then129'''.S.run k ds os = runF ⟨types, then129'''.G, then129'''.A, k, 0, []⟩ Tryz.f129 (codeOf Tryz.f129) then129'''.S.params then129'''.S.objs then129'''.S.res then129'''.S.outs ds os := by
  intro ds os; kernel_rfl
theorem then129'''.dr : DrOk Tryz.prog then129'''.A (codeOf Tryz.f129) := ⟨by kernel_rfl, by kernel_rfl⟩
theorem then129'''.ok (k : Nat) : SoundAt Tryz.prog k then129'''.S :=
  runF_sound (X := ⟨types, then129'''.G, then129'''.A, k, 0, []⟩) types_ok (mem_all (⟨cycle11166.ok k, ⟨known94.ok k, trivial⟩⟩)) (fn := Tryz.f129) (c := codeOf Tryz.f129) rfl (by kernel_rfl) rfl rfl then129'''.dr (then129'''.eq k)

def put93' (k : Nat) (_ : Unit) (reg : Int) (v : (Int × Bool)) (o0 : ((List (Int × Bool)) × Unit)) (o1 : (List (Int × Bool))) : Option (Unit × (((List (Int × Bool)) × Unit) × (List (Int × Bool)))) :=
  (then129 k 8 () [v]).bind fun t11 =>
  (if 0 ≤ (w64 (2 * reg)) ∧ (w64 (2 * reg)) < 18 then some () else none).bind fun _ =>
  (rd o0.1 (w64 (2 * reg))).bind fun _ =>
  (wide131 k reg).bind fun t15 =>
  Option.bind
    (cond t15.1
      (let t19 : Int := (w64 ((w64 (2 * reg)) + 1))
      (then129' k 8 () [v]).bind fun t22 =>
      (if 0 ≤ t19 ∧ t19 < 18 then some () else none).bind fun _ =>
      (rd (List.set o0.1 (Int.toNat (w64 (2 * reg))) t11.1) t19).bind fun _ =>
      some (((List.set (List.set o0.1 (Int.toNat (w64 (2 * reg))) t11.1) (Int.toNat t19) t22.1), o0.2), o1))
      (some (((List.set o0.1 (Int.toNat (w64 (2 * reg))) t11.1), o0.2), o1)) : Option (((List (Int × Bool)) × Unit) × (List (Int × Bool)))) fun ((o0_1, o1_1) : (((List (Int × Bool)) × Unit) × (List (Int × Bool)))) =>
  some ((), o0_1, o1_1)
def put93'.A : Ann := { conds := [(983043, ⟨[], [(0, .var (.st (.pair (.arr 18 (.st (.pair (.int .i64) .bool))) (.ms 1)))), (1, .row (.st (.pair (.int .i64) .bool)))], 2, [], 33488896⟩)], blocks := [], loops := [], keeps := [5], orders := [(1, [(0, .strong), (1, .strong), (2, .strong), (3, .strong), (6, .strong), (4, .eff true), (5, .eff true), (7, .strong), (8, .eff false)]), (3, [(0, .strong), (1, .strong), (2, .strong), (3, .strong), (4, .strong), (7, .strong), (5, .eff true), (6, .eff true), (8, .strong), (9, .eff false)])] }
def put93'.S : Sig := { f := 93, params := [.ptr 0 [.fld 0 0], .int .i64, .st (.pair (.int .i64) .bool)], objs := [.var (.st (.pair (.arr 18 (.st (.pair (.int .i64) .bool))) (.ms 1))), .row (.st (.pair (.int .i64) .bool))], res := .tup .unit, outs := [.var (.st (.pair (.arr 18 (.st (.pair (.int .i64) .bool))) (.ms 1))), .row (.st (.pair (.int .i64) .bool))], fix := [], run := fun k ds os => put93' k ds.1 ds.2.1 ds.2.2 os.1 os.2 }
def put93'.G : List Sig := [then129.S, then129'.S, wide131.S]
theorem put93'.eq (k : Nat) : ∀ ds os, put93'.S.run k ds os = runF ⟨types, put93'.G, put93'.A, k, 0, []⟩ Tryz.f93 (codeOf Tryz.f93) put93'.S.params put93'.S.objs put93'.S.res put93'.S.outs ds os := by
  intro ds os; kernel_rfl
theorem put93'.dr : DrOk Tryz.prog put93'.A (codeOf Tryz.f93) := ⟨by kernel_rfl, by kernel_rfl⟩
theorem put93'.ok (k : Nat) : SoundAt Tryz.prog k put93'.S :=
  runF_sound (X := ⟨types, put93'.G, put93'.A, k, 0, []⟩) types_ok (mem_all (⟨then129.ok k, ⟨then129'.ok k, ⟨wide131.ok k, trivial⟩⟩⟩)) (fn := Tryz.f93) (c := codeOf Tryz.f93) rfl (by kernel_rfl) rfl rfl put93'.dr (put93'.eq k)

def cycle1164 (k : Nat) (reg : Int) (by_ : Int) (_ : Unit) (o0 : Unit) (o1 : ((List (Int × Bool)) × Unit)) (o2 : (List (Int × Bool))) : Option (Unit × (Unit × (((List (Int × Bool)) × Unit) × (List (Int × Bool))))) :=
  Option.bind
    (agree
      ((size165 k reg).bind fun t10 =>
      (get96 k o0 reg (o1.1, ()) o2).bind fun t16 =>
      (then129''' k t10.1 (by_, ()) [t16.1]).bind fun t18 =>
      (put93' k o0 reg t18.1 (t16.2.1.1, ()) t16.2.2).bind fun t19 =>
      some (o0, (t19.2.1.1, t19.2.1.2), t19.2.2))
      ((size165 k reg).bind fun t10_1 =>
      agree
        ((get96 k o0 reg (o1.1, ()) o2).bind fun t16_1 =>
        (then129''' k t10_1.1 (by_, ()) [t16_1.1]).bind fun t18_1 =>
        (put93' k o0 reg t18_1.1 (t16_1.2.1.1, ()) t16_1.2.2).bind fun t19_1 =>
        some (o0, (t19_1.2.1.1, t19_1.2.1.2), t19_1.2.2))
        ((get96 k o0 reg (o1.1, ()) o2).bind fun t16_2 =>
        (then129''' k t10_1.1 (by_, ()) [t16_2.1]).bind fun t18_2 =>
        (put93' k o0 reg t18_2.1 (t16_2.2.1.1, ()) t16_2.2.2).bind fun t19_2 =>
        some (o0, (t19_2.2.1.1, t19_2.2.1.2), t19_2.2.2))) : Option (Unit × (((List (Int × Bool)) × Unit) × (List (Int × Bool))))) fun ((_, o1_1, o2_1) : (Unit × (((List (Int × Bool)) × Unit) × (List (Int × Bool))))) =>
  some ((), (), o1_1, o2_1)
def cycle1164.A : Ann := { conds := [], blocks := [], loops := [], keeps := [4], orders := [], alts := [(1, ((.op 3 .weak (.op 4 .strong (.op 6 .weak (.op 7 .strong (.op 8 .strong (.op 9 .strong (.op 10 .strong (.alt (.op 0 (.eff true) (.op 1 .weak (.op 2 .weak (.op 5 (.eff true) (.op 11 (.eff false) (.op 12 (.eff true) (.op 13 (.eff true) (.op 14 (.eff false) (.leaf []))))))))) (.op 5 (.eff true) (.alt (.op 0 (.eff true) (.op 1 .weak (.op 2 .weak (.op 11 (.eff false) (.op 12 (.eff true) (.op 13 (.eff true) (.op 14 (.eff false) (.leaf [])))))))) (.op 11 (.eff false) (.op 0 .strong (.op 1 .strong (.op 2 .strong (.op 12 (.eff true) (.op 13 (.eff true) (.op 14 (.eff false) (.leaf [])))))))))))))))))), ⟨[], [(0, .var (.ptr 1 [])), (1, .var (.st (.pair (.arr 18 (.st (.pair (.int .i64) .bool))) (.ms 2)))), (2, .row (.st (.pair (.int .i64) .bool)))], 3, [], 1048544⟩))] }
def cycle1164.S : Sig := { f := 164, params := [.int .i64, .int .i64, .ptr 0 []], objs := [.var (.ptr 1 []), .var (.st (.pair (.arr 18 (.st (.pair (.int .i64) .bool))) (.ms 2))), .row (.st (.pair (.int .i64) .bool))], res := .tup .unit, outs := [.var (.ptr 1 []), .var (.st (.pair (.arr 18 (.st (.pair (.int .i64) .bool))) (.ms 2))), .row (.st (.pair (.int .i64) .bool))], fix := [], run := fun k ds os => cycle1164 k ds.1 ds.2.1 ds.2.2 os.1 os.2.1 os.2.2 }
def cycle1164.G : List Sig := [get96.S, put93'.S, size165.S, then129'''.S]
theorem cycle1164.eq (k : Nat) : ∀ ds os, cycle1164.S.run k ds os = runF ⟨types, cycle1164.G, cycle1164.A, k, 0, []⟩ Tryz.f164 (codeOf Tryz.f164) cycle1164.S.params cycle1164.S.objs cycle1164.S.res cycle1164.S.outs ds os := by
  intro ds os; kernel_rfl
theorem cycle1164.dr : DrOk Tryz.prog cycle1164.A (codeOf Tryz.f164) := ⟨by kernel_rfl, by kernel_rfl⟩
theorem cycle1164.ok (k : Nat) : SoundAt Tryz.prog k cycle1164.S :=
  runF_sound (X := ⟨types, cycle1164.G, cycle1164.A, k, 0, []⟩) types_ok (mem_all (⟨get96.ok k, ⟨put93'.ok k, ⟨size165.ok k, ⟨then129'''.ok k, trivial⟩⟩⟩⟩)) (fn := Tryz.f164) (c := codeOf Tryz.f164) rfl (by kernel_rfl) rfl rfl cycle1164.dr (cycle1164.eq k)
end Go.Proofs.YtcppmlgnceldmaaGreat.Fl

/- Go functions as plain Lean functions, and their contracts. -/
set_option linter.unusedVariables false
set_option maxRecDepth 100000
noncomputable section
namespace Go.Proofs.YtcppmlgnceldmaaGreat.Fl
open Go Go.Proofs.YtcppmlgnceldmaaGreat.Gp
def cycle133 (k : Nat) (_ : Unit) (code : (Int × ((List Int) × (List (ByteArray × Int))))) (c : (Int × (Int × (Int × (List (Int × (Int × (Int × Int)))))))) (o0 : ((List (Int × Bool)) × Unit)) (o1 : (List (Int × Bool))) : Option (Unit × (((List (Int × Bool)) × Unit) × (List (Int × Bool)))) :=
  cond (c.1 == 0)
    (some ((), o0, o1))
    (Option.bind
      (agree
        ((get96 k () c.2.2.1 o0 o1).bind fun t17 =>
        agree
          (some ((), code, c, t17.1, (), t17.2.1, t17.2.2, (), 0, false))
          (some ((), code, c, t17.1, (), t17.2.1, t17.2.2, (), 0, false)))
        (agree
          (agree
            ((get96 k () c.2.2.1 o0 o1).bind fun t17_1 =>
            some ((), code, c, t17_1.1, (), t17_1.2.1, t17_1.2.2, (), 0, false))
            ((get96 k () c.2.2.1 o0 o1).bind fun t17_2 =>
            some ((), code, c, t17_2.1, (), t17_2.2.1, t17_2.2.2, (), 0, false)))
          (agree
            ((get96 k () c.2.2.1 o0 o1).bind fun t17_3 =>
            some ((), code, c, t17_3.1, (), t17_3.2.1, t17_3.2.2, (), 0, false))
            ((get96 k () c.2.2.1 o0 o1).bind fun t17_4 =>
            some ((), code, c, t17_4.1, (), t17_4.2.1, t17_4.2.2, (), 0, false)))) : Option (Unit × ((Int × ((List Int) × (List (ByteArray × Int)))) × ((Int × (Int × (Int × (List (Int × (Int × (Int × Int))))))) × ((Int × Bool) × (Unit × (((List (Int × Bool)) × Unit) × ((List (Int × Bool)) × (Unit × (Int × Bool)))))))))) fun ((_, code_1, c_1, sent, _, o0_1, o1_1, _, o3) : (Unit × ((Int × ((List Int) × (List (ByteArray × Int)))) × ((Int × (Int × (Int × (List (Int × (Int × (Int × Int))))))) × ((Int × Bool) × (Unit × (((List (Int × Bool)) × Unit) × ((List (Int × Bool)) × (Unit × (Int × Bool)))))))))) =>
    Option.bind
      (cond (cond (c_1.2.1 == 0) true (c_1.2.1 == 1))
        ((get96 k () 7 o0_1 o1_1).bind fun t32 =>
        (read167 k code_1 t32.1).bind fun t33 =>
        some ((), c_1, sent, (), ((), ()), t32.2.1, t32.2.2, (), t33.1))
        (some ((), c_1, sent, (), ((), ()), o0_1, o1_1, (), o3)) : Option (Unit × ((Int × (Int × (Int × (List (Int × (Int × (Int × Int))))))) × ((Int × Bool) × (Unit × ((Unit × Unit) × (((List (Int × Bool)) × Unit) × ((List (Int × Bool)) × (Unit × (Int × Bool)))))))))) fun ((_, c_2, sent_1, _, plus, o0_2, o1_2, _, o3_1) : (Unit × ((Int × (Int × (Int × (List (Int × (Int × (Int × Int))))))) × ((Int × Bool) × (Unit × ((Unit × Unit) × (((List (Int × Bool)) × Unit) × ((List (Int × Bool)) × (Unit × (Int × Bool)))))))))) =>
    Option.bind
      (cond (c_2.2.1 == 0)
        ((cycle1164 k 7 1 plus.1 () (o0_2.1, ()) o1_2).bind fun t39 =>
        some ((), c_2, sent_1, (), (t39.2.2.1.1, t39.2.2.1.2), t39.2.2.2, t39.2.1, o3_1))
        (Option.bind
          (cond (c_2.2.1 == 4)
            ((cycle1164 k 3 (-1) plus.1 () (o0_2.1, ()) o1_2).bind fun t43 =>
            some ((), c_2, sent_1, (), (t43.2.2.1.1, t43.2.2.1.2), t43.2.2.2, t43.2.1, o3_1))
            (Option.bind
              (cond (c_2.2.1 == 5)
                ((cycle1164 k 3 1 plus.1 () (o0_2.1, ()) o1_2).bind fun t47 =>
                some ((), c_2, sent_1, (), (t47.2.2.1.1, t47.2.2.1.2), t47.2.2.2, t47.2.1, o3_1))
                (some ((), c_2, sent_1, (), o0_2, o1_2, (), o3_1)) : Option (Unit × ((Int × (Int × (Int × (List (Int × (Int × (Int × Int))))))) × ((Int × Bool) × (Unit × (((List (Int × Bool)) × Unit) × ((List (Int × Bool)) × (Unit × (Int × Bool))))))))) fun ((_, c_3, sent_2, _, o0_3, o1_3, _, o3_2) : (Unit × ((Int × (Int × (Int × (List (Int × (Int × (Int × Int))))))) × ((Int × Bool) × (Unit × (((List (Int × Bool)) × Unit) × ((List (Int × Bool)) × (Unit × (Int × Bool))))))))) =>
            some ((), c_3, sent_2, (), o0_3, o1_3, (), o3_2)) : Option (Unit × ((Int × (Int × (Int × (List (Int × (Int × (Int × Int))))))) × ((Int × Bool) × (Unit × (((List (Int × Bool)) × Unit) × ((List (Int × Bool)) × (Unit × (Int × Bool))))))))) fun ((_, c_4, sent_3, _, o0_4, o1_4, _, o3_3) : (Unit × ((Int × (Int × (Int × (List (Int × (Int × (Int × Int))))))) × ((Int × Bool) × (Unit × (((List (Int × Bool)) × Unit) × ((List (Int × Bool)) × (Unit × (Int × Bool))))))))) =>
        some ((), c_4, sent_3, (), o0_4, o1_4, (), o3_3)) : Option (Unit × ((Int × (Int × (Int × (List (Int × (Int × (Int × Int))))))) × ((Int × Bool) × (Unit × (((List (Int × Bool)) × Unit) × ((List (Int × Bool)) × (Unit × (Int × Bool))))))))) fun ((_, c_5, sent_4, _, o0_5, o1_5, _, o3_4) : (Unit × ((Int × (Int × (Int × (List (Int × (Int × (Int × Int))))))) × ((Int × Bool) × (Unit × (((List (Int × Bool)) × Unit) × ((List (Int × Bool)) × (Unit × (Int × Bool))))))))) =>
    Option.bind
      (cond (c_5.1 == 1)
        ((put93' k () c_5.2.2.1 o3_4 o0_5 o1_5).bind fun t57 =>
        some (t57.2.1, t57.2.2))
        (Option.bind
          (cond (c_5.2.1 == 4)
            (Option.bind
              (let q_ : Option (((List (Int × Bool)) × Unit) × (List (Int × Bool))) :=
                ((if room (List.length o1_5 + List.length [sent_4]) 16 then some () else none).bind fun _ =>
                some ((o0_5.1, o0_5.2), (o1_5 ++ [sent_4])))
              agree q_ (agree q_ q_) : Option (((List (Int × Bool)) × Unit) × (List (Int × Bool)))) fun ((o0_6, o1_6) : (((List (Int × Bool)) × Unit) × (List (Int × Bool)))) =>
            some (o0_6, o1_6))
            (some (o0_5, o1_5)) : Option (((List (Int × Bool)) × Unit) × (List (Int × Bool)))) fun ((o0_7, o1_7) : (((List (Int × Bool)) × Unit) × (List (Int × Bool)))) =>
        some (o0_7, o1_7)) : Option (((List (Int × Bool)) × Unit) × (List (Int × Bool)))) fun ((o0_8, o1_8) : (((List (Int × Bool)) × Unit) × (List (Int × Bool)))) =>
    some ((), o0_8, o1_8))
def cycle133.A : Ann := { conds := [(1769477, ⟨[(3, .ptr 2 []), (5, .fp (.st (.pair (.int .i64) (.pair (.int .i64) (.pair (.int .i64) (.sl (.st (.pair (.int .i64) (.pair (.int .i64) (.pair (.int .i64) (.int .i64))))))))))), (6, .fp (.st (.pair (.int .i64) .bool))), (7, .ptr 3 []), (8, .fn 164 (.pair (.ptr 2 []) .unit))], [(0, .var (.st (.pair (.arr 18 (.st (.pair (.int .i64) .bool))) (.ms 1)))), (1, .row (.st (.pair (.int .i64) .bool))), (2, .var (.ptr 0 [])), (3, .var (.st (.pair (.int .i64) .bool)))], 4, [], 16911433728⟩), (2359304, ⟨[(3, .ptr 2 []), (5, .fp (.st (.pair (.int .i64) (.pair (.int .i64) (.pair (.int .i64) (.sl (.st (.pair (.int .i64) (.pair (.int .i64) (.pair (.int .i64) (.int .i64))))))))))), (6, .fp (.st (.pair (.int .i64) .bool))), (7, .ptr 3 [])], [(0, .var (.st (.pair (.arr 18 (.st (.pair (.int .i64) .bool))) (.ms 1)))), (1, .row (.st (.pair (.int .i64) .bool))), (2, .var (.ptr 0 [])), (3, .var (.st (.pair (.int .i64) .bool)))], 4, [], 281200098803712⟩), (2621450, ⟨[(3, .ptr 2 []), (5, .fp (.st (.pair (.int .i64) (.pair (.int .i64) (.pair (.int .i64) (.sl (.st (.pair (.int .i64) (.pair (.int .i64) (.pair (.int .i64) (.int .i64))))))))))), (6, .fp (.st (.pair (.int .i64) .bool))), (7, .ptr 3 [])], [(0, .var (.st (.pair (.arr 18 (.st (.pair (.int .i64) .bool))) (.ms 1)))), (1, .row (.st (.pair (.int .i64) .bool))), (2, .var (.ptr 0 [])), (3, .var (.st (.pair (.int .i64) .bool)))], 4, [], 277076930199552⟩), (2883596, ⟨[(3, .ptr 2 []), (5, .fp (.st (.pair (.int .i64) (.pair (.int .i64) (.pair (.int .i64) (.sl (.st (.pair (.int .i64) (.pair (.int .i64) (.pair (.int .i64) (.int .i64))))))))))), (6, .fp (.st (.pair (.int .i64) .bool))), (7, .ptr 3 [])], [(0, .var (.st (.pair (.arr 18 (.st (.pair (.int .i64) .bool))) (.ms 1)))), (1, .row (.st (.pair (.int .i64) .bool))), (2, .var (.ptr 0 [])), (3, .var (.st (.pair (.int .i64) .bool)))], 4, [], 211106232532992⟩), (3276814, ⟨[], [(0, .var (.st (.pair (.arr 18 (.st (.pair (.int .i64) .bool))) (.ms 1)))), (1, .row (.st (.pair (.int .i64) .bool)))], 2, [], 2361180989635008921600⟩), (3932176, ⟨[], [(0, .var (.st (.pair (.arr 18 (.st (.pair (.int .i64) .bool))) (.ms 1)))), (1, .row (.st (.pair (.int .i64) .bool)))], 2, [], 2358877398425608912896⟩)], blocks := [], loops := [], keeps := [4, 5, 6], orders := [(5, [(0, .weak), (1, .strong), (2, .strong), (3, .strong), (4, .eff false), (5, .eff true), (6, .eff false)]), (14, [(0, .strong), (1, .strong), (2, .strong), (3, .strong), (4, .strong), (5, .strong), (6, .eff false)])], alts := [(2, ((.op 0 .strong (.op 1 .strong (.op 2 .strong (.op 3 .strong (.op 4 .strong (.op 6 .weak (.alt (.op 5 (.eff false) (.alt (.op 7 (.eff true) (.op 8 (.eff true) (.op 9 (.eff false) (.op 10 (.eff false) (.leaf [⟨4, [(3, .unit)], .nilf⟩]))))) (.op 8 (.eff true) (.op 7 (.eff true) (.op 9 (.eff false) (.op 10 (.eff false) (.leaf []))))))) (.alt (.op 7 (.eff true) (.alt (.op 5 (.eff false) (.op 8 (.eff true) (.op 9 (.eff false) (.op 10 (.eff false) (.leaf [⟨4, [(3, .unit)], .nilf⟩]))))) (.op 8 (.eff true) (.op 5 (.eff false) (.op 9 (.eff false) (.op 10 (.eff false) (.leaf [⟨4, [(3, .unit)], .nilf⟩]))))))) (.op 8 (.eff true) (.alt (.op 5 (.eff false) (.op 7 (.eff true) (.op 9 (.eff false) (.op 10 (.eff false) (.leaf []))))) (.op 7 (.eff true) (.op 5 (.eff false) (.op 9 (.eff false) (.op 10 (.eff false) (.leaf []))))))))))))))), ⟨[(3, .ptr 2 []), (4, .fp (.st (.pair (.int .i64) (.pair (.sl (.int .u8)) (.sl (.st (.pair .str (.int .i64)))))))), (5, .fp (.st (.pair (.int .i64) (.pair (.int .i64) (.pair (.int .i64) (.sl (.st (.pair (.int .i64) (.pair (.int .i64) (.pair (.int .i64) (.int .i64))))))))))), (6, .fp (.st (.pair (.int .i64) .bool))), (7, .ptr 3 [])], [(0, .var (.st (.pair (.arr 18 (.st (.pair (.int .i64) .bool))) (.ms 1)))), (1, .row (.st (.pair (.int .i64) .bool))), (2, .var (.ptr 0 [])), (3, .var (.st (.pair (.int .i64) .bool)))], 4, [], 520384⟩)), (16, ((.op 1 .strong (.op 2 .strong (.op 3 .strong (.op 4 .strong (.op 5 .strong (.alt (.op 0 (.eff true) (.op 6 (.eff true) (.op 7 (.eff false) (.op 8 .strong (.op 9 .strong (.op 10 (.eff false) (.leaf []))))))) (.op 6 (.eff true) (.alt (.op 0 (.eff true) (.op 7 (.eff false) (.op 8 .strong (.op 9 .strong (.op 10 (.eff false) (.leaf [])))))) (.op 7 (.eff false) (.op 0 .strong (.op 8 .strong (.op 9 .strong (.op 10 (.eff false) (.leaf [])))))))))))))), ⟨[], [(0, .var (.st (.pair (.arr 18 (.st (.pair (.int .i64) .bool))) (.ms 1)))), (1, .row (.st (.pair (.int .i64) .bool)))], 2, [], 2358877398425608912896⟩))] }
def cycle133.S : Sig := { f := 133, params := [.ptr 0 [], .st (.pair (.int .i64) (.pair (.sl (.int .u8)) (.sl (.st (.pair .str (.int .i64)))))), .st (.pair (.int .i64) (.pair (.int .i64) (.pair (.int .i64) (.sl (.st (.pair (.int .i64) (.pair (.int .i64) (.pair (.int .i64) (.int .i64)))))))))], objs := [.var (.st (.pair (.arr 18 (.st (.pair (.int .i64) .bool))) (.ms 1))), .row (.st (.pair (.int .i64) .bool))], res := .tup .unit, outs := [.var (.st (.pair (.arr 18 (.st (.pair (.int .i64) .bool))) (.ms 1))), .row (.st (.pair (.int .i64) .bool))], fix := [], run := fun k ds os => cycle133 k ds.1 ds.2.1 ds.2.2 os.1 os.2 }
def cycle133.G : List Sig := [cycle1164.S, get96.S, put93'.S, read167.S]
theorem cycle133.eq (k : Nat) : ∀ ds os, cycle133.S.run k ds os = runF ⟨types, cycle133.G, cycle133.A, k, 0, []⟩ Tryz.f133 (codeOf Tryz.f133) cycle133.S.params cycle133.S.objs cycle133.S.res cycle133.S.outs ds os := by
  intro ds os; kernel_rfl
theorem cycle133.dr : DrOk Tryz.prog cycle133.A (codeOf Tryz.f133) := ⟨by kernel_rfl, by kernel_rfl⟩
theorem cycle133.ok (k : Nat) : SoundAt Tryz.prog k cycle133.S :=
  runF_sound (X := ⟨types, cycle133.G, cycle133.A, k, 0, []⟩) types_ok (mem_all (⟨cycle1164.ok k, ⟨get96.ok k, ⟨put93'.ok k, ⟨read167.ok k, trivial⟩⟩⟩⟩)) (fn := Tryz.f133) (c := codeOf Tryz.f133) rfl (by kernel_rfl) rfl rfl cycle133.dr (cycle133.eq k)

def Clone134 (k : Nat) (s : (List (Int × Bool))) : Option (Unit × (List (Int × Bool))) :=
  orNil (List.length s)
    (cond true
      (some ((), []))
      ((if room (0 + List.length s) 16 then some () else none).bind fun _ =>
      some ((), s)))
    (cond false
      (some ((), []))
      ((if room (0 + List.length s) 16 then some () else none).bind fun _ =>
      some ((), s)))
def Clone134.A : Ann := { conds := [], blocks := [], loops := [], keeps := [], orders := [] }
def Clone134.S : Sig := { f := 134, params := [.sl (.st (.pair (.int .i64) .bool))], objs := [], res := .ms 0, outs := [.row (.st (.pair (.int .i64) .bool))], fix := [], run := fun k ds os => Clone134 k ds }
def Clone134.G : List Sig := []
theorem Clone134.eq (k : Nat) : ∀ ds os, Clone134.S.run k ds os = runF ⟨types, Clone134.G, Clone134.A, k, 0, []⟩ Tryz.f134 (codeOf Tryz.f134) Clone134.S.params Clone134.S.objs Clone134.S.res Clone134.S.outs ds os := by
  intro ds os; kernel_rfl
theorem Clone134.dr : DrOk Tryz.prog Clone134.A (codeOf Tryz.f134) := ⟨by kernel_rfl, by kernel_rfl⟩
theorem Clone134.ok (k : Nat) : SoundAt Tryz.prog k Clone134.S :=
  runF_sound (X := ⟨types, Clone134.G, Clone134.A, k, 0, []⟩) types_ok (fun s hs => absurd hs List.not_mem_nil) (fn := Tryz.f134) (c := codeOf Tryz.f134) rfl (by kernel_rfl) rfl rfl Clone134.dr (Clone134.eq k)

def step2169 (k : Nat) (l : (List Int)) (_ : Unit) (o0 : Int) : Option (Int × Int) :=
  (rd l 0).bind fun t5 =>
  some ((w64 (t5 + o0)), o0)
def step2169.A : Ann := { conds := [], blocks := [], loops := [], keeps := [], orders := [(1, [(0, .strong), (1, .strong), (2, .strong), (3, .strong), (4, .strong), (5, .strong)])] }
def step2169.S : Sig := { f := 169, params := [.sl (.int .i64), .ptr 0 []], objs := [.var (.int .i64)], res := .int .i64, outs := [.var (.int .i64)], fix := [], run := fun k ds os => step2169 k ds.1 ds.2 os }
def step2169.G : List Sig := []
theorem step2169.eq (k : Nat) : ∀ ds os, step2169.S.run k ds os = runF ⟨types, step2169.G, step2169.A, k, 0, []⟩ Tryz.f169 (codeOf Tryz.f169) step2169.S.params step2169.S.objs step2169.S.res step2169.S.outs ds os := by
  intro ds os; kernel_rfl
theorem step2169.dr : DrOk Tryz.prog step2169.A (codeOf Tryz.f169) := ⟨by kernel_rfl, by kernel_rfl⟩
theorem step2169.ok (k : Nat) : SoundAt Tryz.prog k step2169.S :=
  runF_sound (X := ⟨types, step2169.G, step2169.A, k, 0, []⟩) types_ok (fun s hs => absurd hs List.not_mem_nil) (fn := Tryz.f169) (c := codeOf Tryz.f169) rfl (by kernel_rfl) rfl rfl step2169.dr (step2169.eq k)
end Go.Proofs.YtcppmlgnceldmaaGreat.Fl

/- Go functions as plain Lean functions, and their contracts. -/
set_option linter.unusedVariables false
set_option maxRecDepth 100000
noncomputable section
namespace Go.Proofs.YtcppmlgnceldmaaGreat.Fl
open Go Go.Proofs.YtcppmlgnceldmaaGreat.Gp
def then129''''.l0 (k : Nat) (l : (List (Int × Bool))) : ((Unit × Unit) × (Unit × (Unit × (Int × (Int × ((Int × Bool) × (List Int))))))) → Option (((Unit × Unit) × (Unit × (Unit × (Int × (Int × ((Int × Bool) × (List Int))))))) ⊕ (((Unit × Unit) × (Unit × (Unit × (Int × ((Int × Bool) × (List Int)))))) ⊕ ((Int × Bool) × Int)))
  | (f_1, _, _, t12, o0_1, o1, o4) =>
    cond (decide (t12 < (List.length l : Int)))
      ((rd l t12).bind fun t14 =>
      cond (!t14.2)
        (some (Sum.inr (Sum.inr ((0, false), o0_1))))
        ((if room (List.length o4 + List.length ([t14.1] : List Int)) 8 then some () else none).bind fun _ =>
        some (Sum.inl (f_1, (), (), (w64 (t12 + 1)), o0_1, o1, (o4 ++ ([t14.1] : List Int))))))
      (some (Sum.inr (Sum.inl (f_1, (), (), o0_1, o1, o4))))
def then129'''' (k : Nat) (bits : Int) (f : (Unit × Unit)) (l : (List (Int × Bool))) (o0 : Int) : Option ((Int × Bool) × Int) :=
  Option.bind
    (loopN (then129''''.l0 k l) k (f, (), (), 0, o0, (0, false), []) : Option (((Unit × Unit) × (Unit × (Unit × (Int × ((Int × Bool) × (List Int)))))) ⊕ ((Int × Bool) × Int))) (joined fun ((f_2, _, _, o0_2, _, o4_1) : ((Unit × Unit) × (Unit × (Unit × (Int × ((Int × Bool) × (List Int))))))) =>
    (step2169 k o4_1 f_2.1 o0_2).bind fun t28 =>
    (known94 k t28.1 bits).bind fun t30 =>
    some (t30.1, t28.2))
def then129''''.A : Ann := { conds := [], blocks := [(0, ⟨[(1, .fn 169 (.pair (.ptr 0 []) .unit)), (6, .ptr 1 []), (7, .ms 4)], [(0, .var (.int .i64)), (1, .var (.st (.pair (.int .i64) .bool))), (4, .row (.int .i64))], 5, [], 67105408⟩)], loops := [(3, ⟨[(1, .fn 169 (.pair (.ptr 0 []) .unit)), (6, .ptr 1 []), (7, .ms 4), (12, .int .i64)], [(0, .var (.int .i64)), (1, .var (.st (.pair (.int .i64) .bool))), (4, .row (.int .i64))], 5, [(4, .int .i64)], 67105408⟩)], keeps := [9], orders := [] }
def then129''''.S : Sig := { f := 129, params := [.int .i64, .fn 169 (.pair (.ptr 0 []) .unit), .sl (.st (.pair (.int .i64) .bool))], objs := [.var (.int .i64)], res := .st (.pair (.int .i64) .bool), outs := [.var (.int .i64)], fix := [], run := fun k ds os => then129'''' k ds.1 ds.2.1 ds.2.2 os }
def then129''''.G : List Sig := [known94.S, step2169.S]
theorem then129''''.eq (k : Nat) : ∀ ds os, then129''''.S.run k ds os = runF ⟨types, then129''''.G, then129''''.A, k, 0, []⟩ Tryz.f129 (codeOf Tryz.f129) then129''''.S.params then129''''.S.objs then129''''.S.res then129''''.S.outs ds os := by
  intro ds os; kernel_rfl
theorem then129''''.dr : DrOk Tryz.prog then129''''.A (codeOf Tryz.f129) := ⟨by kernel_rfl, by kernel_rfl⟩
theorem then129''''.ok (k : Nat) : SoundAt Tryz.prog k then129''''.S :=
  runF_sound (X := ⟨types, then129''''.G, then129''''.A, k, 0, []⟩) types_ok (mem_all (⟨known94.ok k, ⟨step2169.ok k, trivial⟩⟩)) (fn := Tryz.f129) (c := codeOf Tryz.f129) rfl (by kernel_rfl) rfl rfl then129''''.dr (then129''''.eq k)

def step3170 (k : Nat) (l : (List Int)) : Option (Int × Unit) :=
  (rd l 0).bind fun t4 =>
  (rd l 1).bind fun t7 =>
  some ((w64 (t4 + t7)), ())
def step3170.A : Ann := { conds := [], blocks := [], loops := [], keeps := [], orders := [(1, [(0, .strong), (1, .strong), (2, .strong), (3, .strong), (4, .strong), (5, .strong), (6, .strong), (7, .strong)])] }
def step3170.S : Sig := { f := 170, params := [.sl (.int .i64)], objs := [], res := .int .i64, outs := [], fix := [], run := fun k ds os => step3170 k ds }
def step3170.G : List Sig := []
theorem step3170.eq (k : Nat) : ∀ ds os, step3170.S.run k ds os = runF ⟨types, step3170.G, step3170.A, k, 0, []⟩ Tryz.f170 (codeOf Tryz.f170) step3170.S.params step3170.S.objs step3170.S.res step3170.S.outs ds os := by
  intro ds os; kernel_rfl
theorem step3170.dr : DrOk Tryz.prog step3170.A (codeOf Tryz.f170) := ⟨by kernel_rfl, by kernel_rfl⟩
theorem step3170.ok (k : Nat) : SoundAt Tryz.prog k step3170.S :=
  runF_sound (X := ⟨types, step3170.G, step3170.A, k, 0, []⟩) types_ok (fun s hs => absurd hs List.not_mem_nil) (fn := Tryz.f170) (c := codeOf Tryz.f170) rfl (by kernel_rfl) rfl rfl step3170.dr (step3170.eq k)

def then129'''''.l0 (k : Nat) (l : (List (Int × Bool))) : (Unit × (Unit × (Unit × (Int × ((Int × Bool) × (List Int)))))) → Option ((Unit × (Unit × (Unit × (Int × ((Int × Bool) × (List Int)))))) ⊕ ((Unit × (Unit × (Unit × ((Int × Bool) × (List Int))))) ⊕ ((Int × Bool) × Unit)))
  | (_, _, _, t12, o0, o3) =>
    cond (decide (t12 < (List.length l : Int)))
      ((rd l t12).bind fun t14 =>
      cond (!t14.2)
        (some (Sum.inr (Sum.inr ((0, false), ()))))
        ((if room (List.length o3 + List.length ([t14.1] : List Int)) 8 then some () else none).bind fun _ =>
        some (Sum.inl ((), (), (), (w64 (t12 + 1)), o0, (o3 ++ ([t14.1] : List Int))))))
      (some (Sum.inr (Sum.inl ((), (), (), o0, o3))))
def then129''''' (k : Nat) (bits : Int) (_ : Unit) (l : (List (Int × Bool))) : Option ((Int × Bool) × Unit) :=
  Option.bind
    (loopN (then129'''''.l0 k l) k ((), (), (), 0, (0, false), []) : Option ((Unit × (Unit × (Unit × ((Int × Bool) × (List Int))))) ⊕ ((Int × Bool) × Unit))) (joined fun ((_, _, _, _, o3_1) : (Unit × (Unit × (Unit × ((Int × Bool) × (List Int)))))) =>
    (step3170 k o3_1).bind fun t28 =>
    (known94 k t28.1 bits).bind fun t30 =>
    some (t30.1, ()))
def then129'''''.A : Ann := { conds := [], blocks := [(0, ⟨[(1, .fn 170 .unit), (6, .ptr 0 []), (7, .ms 3)], [(0, .var (.st (.pair (.int .i64) .bool))), (3, .row (.int .i64))], 4, [], 67105408⟩)], loops := [(3, ⟨[(1, .fn 170 .unit), (6, .ptr 0 []), (7, .ms 3), (12, .int .i64)], [(0, .var (.st (.pair (.int .i64) .bool))), (3, .row (.int .i64))], 4, [(3, .int .i64)], 67105408⟩)], keeps := [9], orders := [] }
def then129'''''.S : Sig := { f := 129, params := [.int .i64, .fn 170 .unit, .sl (.st (.pair (.int .i64) .bool))], objs := [], res := .st (.pair (.int .i64) .bool), outs := [], fix := [], run := fun k ds os => then129''''' k ds.1 ds.2.1 ds.2.2 }
def then129'''''.G : List Sig := [known94.S, step3170.S]
theorem then129'''''.eq (k : Nat) : ∀ ds os, then129'''''.S.run k ds os = runF ⟨types, then129'''''.G, then129'''''.A, k, 0, []⟩ Tryz.f129 (codeOf Tryz.f129) then129'''''.S.params then129'''''.S.objs then129'''''.S.res then129'''''.S.outs ds os := by
  intro ds os; kernel_rfl
theorem then129'''''.dr : DrOk Tryz.prog then129'''''.A (codeOf Tryz.f129) := ⟨by kernel_rfl, by kernel_rfl⟩
theorem then129'''''.ok (k : Nat) : SoundAt Tryz.prog k then129'''''.S :=
  runF_sound (X := ⟨types, then129'''''.G, then129'''''.A, k, 0, []⟩) types_ok (mem_all (⟨known94.ok k, ⟨step3170.ok k, trivial⟩⟩)) (fn := Tryz.f129) (c := codeOf Tryz.f129) rfl (by kernel_rfl) rfl rfl then129'''''.dr (then129'''''.eq k)

def step1168 (k : Nat) (n : Int) : Option (Int × Unit) :=
  cond (decide (n > 127))
    (some ((w64 (n - 256)), ()))
    (some (n, ()))
def step1168.A : Ann := { conds := [], blocks := [], loops := [], keeps := [], orders := [] }
def step1168.S : Sig := { f := 168, params := [.int .i64], objs := [], res := .int .i64, outs := [], fix := [], run := fun k ds os => step1168 k ds }
def step1168.G : List Sig := []
theorem step1168.eq (k : Nat) : ∀ ds os, step1168.S.run k ds os = runF ⟨types, step1168.G, step1168.A, k, 0, []⟩ Tryz.f168 (codeOf Tryz.f168) step1168.S.params step1168.S.objs step1168.S.res step1168.S.outs ds os := by
  intro ds os; kernel_rfl
theorem step1168.dr : DrOk Tryz.prog step1168.A (codeOf Tryz.f168) := ⟨by kernel_rfl, by kernel_rfl⟩
theorem step1168.ok (k : Nat) : SoundAt Tryz.prog k step1168.S :=
  runF_sound (X := ⟨types, step1168.G, step1168.A, k, 0, []⟩) types_ok (fun s hs => absurd hs List.not_mem_nil) (fn := Tryz.f168) (c := codeOf Tryz.f168) rfl (by kernel_rfl) rfl rfl step1168.dr (step1168.eq k)

def step4171 (k : Nat) (l : (List Int)) (_ : Unit) (o0 : Unit) : Option (Int × Unit) :=
  (rd l 0).bind fun t5 =>
  (rd l 1).bind fun t9 =>
  (step1168 k t9).bind fun t11 =>
  some ((w64 (t5 + t11.1)), o0)
def step4171.A : Ann := { conds := [], blocks := [], loops := [], keeps := [], orders := [(1, [(0, .strong), (1, .strong), (2, .strong), (3, .strong), (4, .strong), (5, .strong), (6, .strong), (7, .eff true), (8, .strong), (9, .strong)])] }
def step4171.S : Sig := { f := 171, params := [.sl (.int .i64), .ptr 0 []], objs := [.var (.fn 168 .unit)], res := .int .i64, outs := [.var (.fn 168 .unit)], fix := [], run := fun k ds os => step4171 k ds.1 ds.2 os }
def step4171.G : List Sig := [step1168.S]
theorem step4171.eq (k : Nat) : ∀ ds os, step4171.S.run k ds os = runF ⟨types, step4171.G, step4171.A, k, 0, []⟩ Tryz.f171 (codeOf Tryz.f171) step4171.S.params step4171.S.objs step4171.S.res step4171.S.outs ds os := by
  intro ds os; kernel_rfl
theorem step4171.dr : DrOk Tryz.prog step4171.A (codeOf Tryz.f171) := ⟨by kernel_rfl, by kernel_rfl⟩
theorem step4171.ok (k : Nat) : SoundAt Tryz.prog k step4171.S :=
  runF_sound (X := ⟨types, step4171.G, step4171.A, k, 0, []⟩) types_ok (mem_all (⟨step1168.ok k, trivial⟩)) (fn := Tryz.f171) (c := codeOf Tryz.f171) rfl (by kernel_rfl) rfl rfl step4171.dr (step4171.eq k)

def then129''''''.l0 (k : Nat) (l : (List (Int × Bool))) : ((Unit × Unit) × (Unit × (Unit × (Int × (Unit × ((Int × Bool) × (List Int))))))) → Option (((Unit × Unit) × (Unit × (Unit × (Int × (Unit × ((Int × Bool) × (List Int))))))) ⊕ (((Unit × Unit) × (Unit × (Unit × (Unit × ((Int × Bool) × (List Int)))))) ⊕ ((Int × Bool) × Unit)))
  | (f_1, _, _, t12, _, o1, o4) =>
    cond (decide (t12 < (List.length l : Int)))
      ((rd l t12).bind fun t14 =>
      cond (!t14.2)
        (some (Sum.inr (Sum.inr ((0, false), ()))))
        ((if room (List.length o4 + List.length ([t14.1] : List Int)) 8 then some () else none).bind fun _ =>
        some (Sum.inl (f_1, (), (), (w64 (t12 + 1)), (), o1, (o4 ++ ([t14.1] : List Int))))))
      (some (Sum.inr (Sum.inl (f_1, (), (), (), o1, o4))))
def then129'''''' (k : Nat) (bits : Int) (f : (Unit × Unit)) (l : (List (Int × Bool))) (o0 : Unit) : Option ((Int × Bool) × Unit) :=
  Option.bind
    (loopN (then129''''''.l0 k l) k (f, (), (), 0, o0, (0, false), []) : Option (((Unit × Unit) × (Unit × (Unit × (Unit × ((Int × Bool) × (List Int)))))) ⊕ ((Int × Bool) × Unit))) (joined fun ((f_2, _, _, _, _, o4_1) : ((Unit × Unit) × (Unit × (Unit × (Unit × ((Int × Bool) × (List Int))))))) =>
    (step4171 k o4_1 f_2.1 ()).bind fun t28 =>
    (known94 k t28.1 bits).bind fun t30 =>
    some (t30.1, t28.2))
def then129''''''.A : Ann := { conds := [], blocks := [(0, ⟨[(1, .fn 171 (.pair (.ptr 0 []) .unit)), (6, .ptr 1 []), (7, .ms 4)], [(0, .var (.fn 168 .unit)), (1, .var (.st (.pair (.int .i64) .bool))), (4, .row (.int .i64))], 5, [], 67105408⟩)], loops := [(3, ⟨[(1, .fn 171 (.pair (.ptr 0 []) .unit)), (6, .ptr 1 []), (7, .ms 4), (12, .int .i64)], [(0, .var (.fn 168 .unit)), (1, .var (.st (.pair (.int .i64) .bool))), (4, .row (.int .i64))], 5, [(4, .int .i64)], 67105408⟩)], keeps := [9], orders := [] }
def then129''''''.S : Sig := { f := 129, params := [.int .i64, .fn 171 (.pair (.ptr 0 []) .unit), .sl (.st (.pair (.int .i64) .bool))], objs := [.var (.fn 168 .unit)], res := .st (.pair (.int .i64) .bool), outs := [.var (.fn 168 .unit)], fix := [], run := fun k ds os => then129'''''' k ds.1 ds.2.1 ds.2.2 os }
def then129''''''.G : List Sig := [known94.S, step4171.S]
theorem then129''''''.eq (k : Nat) : ∀ ds os, then129''''''.S.run k ds os = runF ⟨types, then129''''''.G, then129''''''.A, k, 0, []⟩ Tryz.f129 (codeOf Tryz.f129) then129''''''.S.params then129''''''.S.objs then129''''''.S.res then129''''''.S.outs ds os := by
  intro ds os; kernel_rfl
theorem then129''''''.dr : DrOk Tryz.prog then129''''''.A (codeOf Tryz.f129) := ⟨by kernel_rfl, by kernel_rfl⟩
theorem then129''''''.ok (k : Nat) : SoundAt Tryz.prog k then129''''''.S :=
  runF_sound (X := ⟨types, then129''''''.G, then129''''''.A, k, 0, []⟩) types_ok (mem_all (⟨known94.ok k, ⟨step4171.ok k, trivial⟩⟩)) (fn := Tryz.f129) (c := codeOf Tryz.f129) rfl (by kernel_rfl) rfl rfl then129''''''.dr (then129''''''.eq k)
end Go.Proofs.YtcppmlgnceldmaaGreat.Fl

/- Go functions as plain Lean functions, and their contracts. -/
set_option linter.unusedVariables false
set_option maxRecDepth 100000
noncomputable section
namespace Go.Proofs.YtcppmlgnceldmaaGreat.Fl
open Go Go.Proofs.YtcppmlgnceldmaaGreat.Gp
def step135 (k : Nat) (_ : Unit) (s : (Int × (Int × (Int × Int)))) (o0 : ((List (Int × Bool)) × Unit)) (o1 : (List (Int × Bool))) : Option (Unit × (((List (Int × Bool)) × Unit) × (List (Int × Bool)))) :=
  Option.bind
    (agree
      ((get96 k () s.2.1 o0 o1).bind fun t15 =>
      agree
        ((get96 k () s.2.2.1 t15.2.1 t15.2.2).bind fun t21 =>
        agree
          (some ((), s, t15.1, t21.1, t21.2.1, t21.2.2))
          (some ((), s, t15.1, t21.1, t21.2.1, t21.2.2)))
        (agree
          (agree
            ((get96 k () s.2.2.1 t15.2.1 t15.2.2).bind fun t21_1 =>
            some ((), s, t15.1, t21_1.1, t21_1.2.1, t21_1.2.2))
            ((get96 k () s.2.2.1 t15.2.1 t15.2.2).bind fun t21_2 =>
            some ((), s, t15.1, t21_2.1, t21_2.2.1, t21_2.2.2)))
          (agree
            ((get96 k () s.2.2.1 t15.2.1 t15.2.2).bind fun t21_3 =>
            some ((), s, t15.1, t21_3.1, t21_3.2.1, t21_3.2.2))
            ((get96 k () s.2.2.1 t15.2.1 t15.2.2).bind fun t21_4 =>
            some ((), s, t15.1, t21_4.1, t21_4.2.1, t21_4.2.2)))))
      (agree
        (agree
          ((get96 k () s.2.1 o0 o1).bind fun t15_1 =>
          agree
            ((get96 k () s.2.2.1 t15_1.2.1 t15_1.2.2).bind fun t21_5 =>
            some ((), s, t15_1.1, t21_5.1, t21_5.2.1, t21_5.2.2))
            ((get96 k () s.2.2.1 t15_1.2.1 t15_1.2.2).bind fun t21_6 =>
            some ((), s, t15_1.1, t21_6.1, t21_6.2.1, t21_6.2.2)))
          ((get96 k () s.2.1 o0 o1).bind fun t15_2 =>
          (get96 k () s.2.2.1 t15_2.2.1 t15_2.2.2).bind fun t21_7 =>
          some ((), s, t15_2.1, t21_7.1, t21_7.2.1, t21_7.2.2)))
        (agree
          ((get96 k () s.2.1 o0 o1).bind fun t15_3 =>
          agree
            ((get96 k () s.2.2.1 t15_3.2.1 t15_3.2.2).bind fun t21_8 =>
            some ((), s, t15_3.1, t21_8.1, t21_8.2.1, t21_8.2.2))
            ((get96 k () s.2.2.1 t15_3.2.1 t15_3.2.2).bind fun t21_9 =>
            some ((), s, t15_3.1, t21_9.1, t21_9.2.1, t21_9.2.2)))
          ((get96 k () s.2.1 o0 o1).bind fun t15_4 =>
          (get96 k () s.2.2.1 t15_4.2.1 t15_4.2.2).bind fun t21_10 =>
          some ((), s, t15_4.1, t21_10.1, t21_10.2.1, t21_10.2.2)))) : Option (Unit × ((Int × (Int × (Int × Int))) × ((Int × Bool) × ((Int × Bool) × (((List (Int × Bool)) × Unit) × (List (Int × Bool)))))))) fun ((_, s_1, to, from_, o0_1, o1_1) : (Unit × ((Int × (Int × (Int × Int))) × ((Int × Bool) × ((Int × Bool) × (((List (Int × Bool)) × Unit) × (List (Int × Bool)))))))) =>
  cond (s_1.1 == 0)
    (some ((), o0_1, o1_1))
    (Option.bind
      (cond (s_1.1 == 3)
        (some ((), s_1, to, from_, (), (), (s_1.1 == 3), o0_1, o1_1, (), 0, false))
        (Option.bind
          (cond (s_1.1 == 6)
            (some ((), s_1, to, from_, (), (), (s_1.1 == 6), o0_1, o1_1, (), 0, false))
            (Option.bind
              (cond (s_1.1 == 16)
                (some ((), s_1, to, from_, (), (), (s_1.1 == 16), o0_1, o1_1, (), 0, false))
                (some ((), s_1, to, from_, (), (), (s_1.1 == 17), o0_1, o1_1, (), 0, false)) : Option (Unit × ((Int × (Int × (Int × Int))) × ((Int × Bool) × ((Int × Bool) × (Unit × (Unit × (Bool × (((List (Int × Bool)) × Unit) × ((List (Int × Bool)) × (Unit × (Int × Bool)))))))))))) fun ((_, s_2, to_1, from__1, _, _, t27, o0_2, o1_2, _, o3) : (Unit × ((Int × (Int × (Int × Int))) × ((Int × Bool) × ((Int × Bool) × (Unit × (Unit × (Bool × (((List (Int × Bool)) × Unit) × ((List (Int × Bool)) × (Unit × (Int × Bool)))))))))))) =>
            some ((), s_2, to_1, from__1, (), (), t27, o0_2, o1_2, (), o3)) : Option (Unit × ((Int × (Int × (Int × Int))) × ((Int × Bool) × ((Int × Bool) × (Unit × (Unit × (Bool × (((List (Int × Bool)) × Unit) × ((List (Int × Bool)) × (Unit × (Int × Bool)))))))))))) fun ((_, s_3, to_2, from__2, _, _, t27_1, o0_3, o1_3, _, o3_1) : (Unit × ((Int × (Int × (Int × Int))) × ((Int × Bool) × ((Int × Bool) × (Unit × (Unit × (Bool × (((List (Int × Bool)) × Unit) × ((List (Int × Bool)) × (Unit × (Int × Bool)))))))))))) =>
        some ((), s_3, to_2, from__2, (), (), t27_1, o0_3, o1_3, (), o3_1)) : Option (Unit × ((Int × (Int × (Int × Int))) × ((Int × Bool) × ((Int × Bool) × (Unit × (Unit × (Bool × (((List (Int × Bool)) × Unit) × ((List (Int × Bool)) × (Unit × (Int × Bool)))))))))))) fun ((_, s_4, to_3, from__3, _, _, t27_2, o0_4, o1_4, _, o3_2) : (Unit × ((Int × (Int × (Int × Int))) × ((Int × Bool) × ((Int × Bool) × (Unit × (Unit × (Bool × (((List (Int × Bool)) × Unit) × ((List (Int × Bool)) × (Unit × (Int × Bool)))))))))))) =>
    cond t27_2
      ((put93' k () 4 (0, false) o0_4 o1_4).bind fun t36 =>
      some ((), t36.2.1, t36.2.2))
      (cond (s_1.1 == 1)
        (let t42 : Int := (w64 (2 * s_4.2.1))
        let t46 : Int := (w64 (2 * s_4.2.1))
        let t51 : Int := (w64 (2 * s_4.2.2.1))
        (if 0 ≤ t51 ∧ t51 < 18 then some () else none).bind fun _ =>
        (rd o0_4.1 t51).bind fun t55 =>
        let t59 : Int := (w64 (2 * s_4.2.2.1))
        (if 0 ≤ (w64 (t59 + 1)) ∧ (w64 (t59 + 1)) < 18 then some () else none).bind fun _ =>
        (rd o0_4.1 (w64 (t59 + 1))).bind fun t64 =>
        (if 0 ≤ t42 ∧ t42 < 18 then some () else none).bind fun _ =>
        (rd o0_4.1 t42).bind fun _ =>
        (if 0 ≤ (w64 (t46 + 1)) ∧ (w64 (t46 + 1)) < 18 then some () else none).bind fun _ =>
        (rd (List.set o0_4.1 (Int.toNat t42) t55) (w64 (t46 + 1))).bind fun _ =>
        some ((), ((List.set (List.set o0_4.1 (Int.toNat t42) t55) (Int.toNat (w64 (t46 + 1))) t64), o0_4.2), o1_4))
        (Option.bind
          (cond (s_1.1 == 2)
            ((known94 k s_4.2.2.2 16).bind fun t75 =>
            some (Sum.inl ((), s_4, (), false, o0_4, o1_4, t75.1)))
            (Option.bind
              (cond (s_1.1 == 10)
                (some ((), s_4, to_3, from__3, (), (), (s_1.1 == 10), o0_4, o1_4, (), o3_2))
                (some ((), s_4, to_3, from__3, (), (), (s_1.1 == 11), o0_4, o1_4, (), o3_2)) : Option (Unit × ((Int × (Int × (Int × Int))) × ((Int × Bool) × ((Int × Bool) × (Unit × (Unit × (Bool × (((List (Int × Bool)) × Unit) × ((List (Int × Bool)) × (Unit × (Int × Bool)))))))))))) fun ((_, s_5, to_4, from__4, _, _, t76, o0_5, o1_5, _, o3_3) : (Unit × ((Int × (Int × (Int × Int))) × ((Int × Bool) × ((Int × Bool) × (Unit × (Unit × (Bool × (((List (Int × Bool)) × Unit) × ((List (Int × Bool)) × (Unit × (Int × Bool)))))))))))) =>
            Option.bind
              (cond t76
                (Option.bind
                  (cond (s_5.1 == 11)
                    (some ((), s_5, to_4, (), (), o0_5, o1_5, o3_3, (-1)))
                    (some ((), s_5, to_4, (), (), o0_5, o1_5, o3_3, 1)) : Option (Unit × ((Int × (Int × (Int × Int))) × ((Int × Bool) × (Unit × (Unit × (((List (Int × Bool)) × Unit) × ((List (Int × Bool)) × ((Int × Bool) × Int))))))))) fun ((_, s_6, to_5, _, _, o0_6, o1_6, _, o4) : (Unit × ((Int × (Int × (Int × Int))) × ((Int × Bool) × (Unit × (Unit × (((List (Int × Bool)) × Unit) × ((List (Int × Bool)) × ((Int × Bool) × Int))))))))) =>
                Option.bind
                  (agree
                    ((size165 k s_6.2.1).bind fun t84 =>
                    (then129'''' k t84.1 ((), ()) [to_5] o4).bind fun t88 =>
                    (wide131 k s_6.2.1).bind fun t91 =>
                    some ((), s_6, (), (!t91.1), o0_6, o1_6, t88.1))
                    ((size165 k s_6.2.1).bind fun t84_1 =>
                    (then129'''' k t84_1.1 ((), ()) [to_5] o4).bind fun t88_1 =>
                    (wide131 k s_6.2.1).bind fun t91_1 =>
                    some ((), s_6, (), (!t91_1.1), o0_6, o1_6, t88_1.1)) : Option (Unit × ((Int × (Int × (Int × Int))) × (Unit × (Bool × (((List (Int × Bool)) × Unit) × ((List (Int × Bool)) × (Int × Bool)))))))) fun ((_, s_7, _, flags, o0_7, o1_7, o3_5) : (Unit × ((Int × (Int × (Int × Int))) × (Unit × (Bool × (((List (Int × Bool)) × Unit) × ((List (Int × Bool)) × (Int × Bool)))))))) =>
                some (Sum.inl ((), s_7, (), flags, o0_7, o1_7, o3_5)))
                (Option.bind
                  (cond (s_1.1 == 18)
                    (some ((), s_5, to_4, from__4, (), (), (s_1.1 == 18), o0_5, o1_5, (), o3_3))
                    (some ((), s_5, to_4, from__4, (), (), (s_1.1 == 19), o0_5, o1_5, (), o3_3)) : Option (Unit × ((Int × (Int × (Int × Int))) × ((Int × Bool) × ((Int × Bool) × (Unit × (Unit × (Bool × (((List (Int × Bool)) × Unit) × ((List (Int × Bool)) × (Unit × (Int × Bool)))))))))))) fun ((_, s_8, to_6, from__5, _, _, t93, o0_8, o1_8, _, o3_6) : (Unit × ((Int × (Int × (Int × Int))) × ((Int × Bool) × ((Int × Bool) × (Unit × (Unit × (Bool × (((List (Int × Bool)) × Unit) × ((List (Int × Bool)) × (Unit × (Int × Bool)))))))))))) =>
                cond t93
                  (let t103 : Int := (w64 ((w64 ((w64 (2 * s_8.2.1)) + s_8.1)) - 18))
                  (if 0 ≤ t103 ∧ t103 < 18 then some () else none).bind fun _ =>
                  (rd o0_8.1 t103).bind fun _ =>
                  some (Sum.inr (Sum.inr ((), ((List.set o0_8.1 (Int.toNat t103) from__5), o0_8.2), o1_8))))
                  (Option.bind
                    (cond (s_1.1 == 20)
                      (some ((), s_8, to_6, from__5, (), (), (s_1.1 == 20), o0_8, o1_8, (), o3_6))
                      (some ((), s_8, to_6, from__5, (), (), (s_1.1 == 21), o0_8, o1_8, (), o3_6)) : Option (Unit × ((Int × (Int × (Int × Int))) × ((Int × Bool) × ((Int × Bool) × (Unit × (Unit × (Bool × (((List (Int × Bool)) × Unit) × ((List (Int × Bool)) × (Unit × (Int × Bool)))))))))))) fun ((_, s_9, to_7, from__6, _, _, t108, o0_9, o1_9, _, o3_7) : (Unit × ((Int × (Int × (Int × Int))) × ((Int × Bool) × ((Int × Bool) × (Unit × (Unit × (Bool × (((List (Int × Bool)) × Unit) × ((List (Int × Bool)) × (Unit × (Int × Bool)))))))))))) =>
                  Option.bind
                    (cond t108
                      (let t118 : Int := (w64 ((w64 ((w64 (2 * s_9.2.2.1)) + s_9.1)) - 20))
                      (if 0 ≤ t118 ∧ t118 < 18 then some () else none).bind fun _ =>
                      (rd o0_9.1 t118).bind fun t122 =>
                      some ((), s_9, (), false, o0_9, o1_9, t122))
                      (Option.bind
                        (cond (s_1.1 == 22)
                          ((then129''''' k 16 () [to_7, from__6]).bind fun t128 =>
                          some ((), s_9, (), false, o0_9, o1_9, t128.1))
                          (Option.bind
                            (cond (s_1.1 == 23)
                              ((then129'''''' k 16 ((), ()) [to_7, from__6] ()).bind fun t135 =>
                              some ((), s_9, (), false, o0_9, o1_9, t135.1))
                              (some ((), s_9, (), true, o0_9, o1_9, o3_7)) : Option (Unit × ((Int × (Int × (Int × Int))) × (Unit × (Bool × (((List (Int × Bool)) × Unit) × ((List (Int × Bool)) × (Int × Bool)))))))) fun ((_, s_10, _, flags_1, o0_10, o1_10, o3_8) : (Unit × ((Int × (Int × (Int × Int))) × (Unit × (Bool × (((List (Int × Bool)) × Unit) × ((List (Int × Bool)) × (Int × Bool)))))))) =>
                          some ((), s_10, (), flags_1, o0_10, o1_10, o3_8)) : Option (Unit × ((Int × (Int × (Int × Int))) × (Unit × (Bool × (((List (Int × Bool)) × Unit) × ((List (Int × Bool)) × (Int × Bool)))))))) fun ((_, s_11, _, flags_2, o0_11, o1_11, o3_9) : (Unit × ((Int × (Int × (Int × Int))) × (Unit × (Bool × (((List (Int × Bool)) × Unit) × ((List (Int × Bool)) × (Int × Bool)))))))) =>
                      some ((), s_11, (), flags_2, o0_11, o1_11, o3_9)) : Option (Unit × ((Int × (Int × (Int × Int))) × (Unit × (Bool × (((List (Int × Bool)) × Unit) × ((List (Int × Bool)) × (Int × Bool)))))))) fun ((_, s_12, _, flags_3, o0_12, o1_12, o3_10) : (Unit × ((Int × (Int × (Int × Int))) × (Unit × (Bool × (((List (Int × Bool)) × Unit) × ((List (Int × Bool)) × (Int × Bool)))))))) =>
                  some (Sum.inl ((), s_12, (), flags_3, o0_12, o1_12, o3_10)))) : Option ((Unit × ((Int × (Int × (Int × Int))) × (Unit × (Bool × (((List (Int × Bool)) × Unit) × ((List (Int × Bool)) × (Int × Bool))))))) ⊕ ((Unit × ((Int × (Int × (Int × Int))) × (Unit × (Bool × (((List (Int × Bool)) × Unit) × ((List (Int × Bool)) × (Int × Bool))))))) ⊕ (Unit × (((List (Int × Bool)) × Unit) × (List (Int × Bool))))))) (joined fun ((_, s_13, _, flags_4, o0_13, o1_13, o3_11) : (Unit × ((Int × (Int × (Int × Int))) × (Unit × (Bool × (((List (Int × Bool)) × Unit) × ((List (Int × Bool)) × (Int × Bool)))))))) =>
              some (Sum.inl ((), s_13, (), flags_4, o0_13, o1_13, o3_11)))) : Option ((Unit × ((Int × (Int × (Int × Int))) × (Unit × (Bool × (((List (Int × Bool)) × Unit) × ((List (Int × Bool)) × (Int × Bool))))))) ⊕ (Unit × (((List (Int × Bool)) × Unit) × (List (Int × Bool)))))) (joined fun ((_, s_14, _, flags_5, o0_14, o1_14, o3_12) : (Unit × ((Int × (Int × (Int × Int))) × (Unit × (Bool × (((List (Int × Bool)) × Unit) × ((List (Int × Bool)) × (Int × Bool)))))))) =>
          (put93' k () s_14.2.1 o3_12 o0_14 o1_14).bind fun t142 =>
          Option.bind
            (cond flags_5
              ((put93' k () 4 (0, false) t142.2.1 t142.2.2).bind fun t148 =>
              some (t148.2.1, t148.2.2))
              (some (t142.2.1, t142.2.2)) : Option (((List (Int × Bool)) × Unit) × (List (Int × Bool)))) fun ((o0_15, o1_15) : (((List (Int × Bool)) × Unit) × (List (Int × Bool)))) =>
          some ((), o0_15, o1_15)))))
def step135.A : Ann := { conds := [(1769479, ⟨[(0, .ptr 0 []), (3, .fp (.st (.pair (.int .i64) (.pair (.int .i64) (.pair (.int .i64) (.int .i64)))))), (4, .fp (.st (.pair (.int .i64) .bool))), (5, .fp (.st (.pair (.int .i64) .bool))), (6, .ptr 2 []), (7, .ptr 3 []), (27, .bool)], [(0, .var (.st (.pair (.arr 18 (.st (.pair (.int .i64) .bool))) (.ms 1)))), (1, .row (.st (.pair (.int .i64) .bool))), (2, .var (.fn 168 .unit)), (3, .var (.st (.pair (.int .i64) .bool)))], 4, [], 3892314112⟩), (1769480, ⟨[(0, .ptr 0 []), (3, .fp (.st (.pair (.int .i64) (.pair (.int .i64) (.pair (.int .i64) (.int .i64)))))), (4, .fp (.st (.pair (.int .i64) .bool))), (5, .fp (.st (.pair (.int .i64) .bool))), (6, .ptr 2 []), (7, .ptr 3 []), (27, .bool)], [(0, .var (.st (.pair (.arr 18 (.st (.pair (.int .i64) .bool))) (.ms 1)))), (1, .row (.st (.pair (.int .i64) .bool))), (2, .var (.fn 168 .unit)), (3, .var (.st (.pair (.int .i64) .bool)))], 4, [], 3355443200⟩), (1769481, ⟨[(0, .ptr 0 []), (3, .fp (.st (.pair (.int .i64) (.pair (.int .i64) (.pair (.int .i64) (.int .i64)))))), (4, .fp (.st (.pair (.int .i64) .bool))), (5, .fp (.st (.pair (.int .i64) .bool))), (6, .ptr 2 []), (7, .ptr 3 []), (27, .bool)], [(0, .var (.st (.pair (.arr 18 (.st (.pair (.int .i64) .bool))) (.ms 1)))), (1, .row (.st (.pair (.int .i64) .bool))), (2, .var (.fn 168 .unit)), (3, .var (.st (.pair (.int .i64) .bool)))], 4, [], 2281701376⟩), (4653070, ⟨[(0, .ptr 0 []), (3, .fp (.st (.pair (.int .i64) (.pair (.int .i64) (.pair (.int .i64) (.int .i64)))))), (7, .ptr 3 []), (8, .bool)], [(0, .var (.st (.pair (.arr 18 (.st (.pair (.int .i64) .bool))) (.ms 1)))), (1, .row (.st (.pair (.int .i64) .bool))), (3, .var (.st (.pair (.int .i64) .bool)))], 4, [], 87112285931760246637179166536793371706112⟩), (4980752, ⟨[(0, .ptr 0 []), (3, .fp (.st (.pair (.int .i64) (.pair (.int .i64) (.pair (.int .i64) (.int .i64)))))), (4, .fp (.st (.pair (.int .i64) .bool))), (5, .fp (.st (.pair (.int .i64) .bool))), (6, .ptr 2 []), (7, .ptr 3 []), (76, .bool)], [(0, .var (.st (.pair (.arr 18 (.st (.pair (.int .i64) .bool))) (.ms 1)))), (1, .row (.st (.pair (.int .i64) .bool))), (2, .var (.fn 168 .unit)), (3, .var (.st (.pair (.int .i64) .bool)))], 4, [], 377789318629571617095680⟩), (4980753, ⟨[(0, .ptr 0 []), (3, .fp (.st (.pair (.int .i64) (.pair (.int .i64) (.pair (.int .i64) (.int .i64)))))), (7, .ptr 3 []), (8, .bool)], [(0, .var (.st (.pair (.arr 18 (.st (.pair (.int .i64) .bool))) (.ms 1)))), (1, .row (.st (.pair (.int .i64) .bool))), (3, .var (.st (.pair (.int .i64) .bool)))], 4, [], 87112285931760246042160989695218074780416⟩), (5308435, ⟨[(0, .ptr 0 []), (3, .fp (.st (.pair (.int .i64) (.pair (.int .i64) (.pair (.int .i64) (.int .i64)))))), (4, .fp (.st (.pair (.int .i64) .bool))), (7, .ptr 3 []), (9, .ptr 4 [])], [(0, .var (.st (.pair (.arr 18 (.st (.pair (.int .i64) .bool))) (.ms 1)))), (1, .row (.st (.pair (.int .i64) .bool))), (3, .var (.st (.pair (.int .i64) .bool))), (4, .var (.int .i64))], 5, [], 0⟩), (6094870, ⟨[(0, .ptr 0 []), (3, .fp (.st (.pair (.int .i64) (.pair (.int .i64) (.pair (.int .i64) (.int .i64)))))), (4, .fp (.st (.pair (.int .i64) .bool))), (5, .fp (.st (.pair (.int .i64) .bool))), (6, .ptr 2 []), (7, .ptr 3 []), (93, .bool)], [(0, .var (.st (.pair (.arr 18 (.st (.pair (.int .i64) .bool))) (.ms 1)))), (1, .row (.st (.pair (.int .i64) .bool))), (2, .var (.fn 168 .unit)), (3, .var (.st (.pair (.int .i64) .bool)))], 4, [], 49517601571415210995964968960⟩), (7077913, ⟨[(0, .ptr 0 []), (3, .fp (.st (.pair (.int .i64) (.pair (.int .i64) (.pair (.int .i64) (.int .i64)))))), (4, .fp (.st (.pair (.int .i64) .bool))), (5, .fp (.st (.pair (.int .i64) .bool))), (6, .ptr 2 []), (7, .ptr 3 []), (108, .bool)], [(0, .var (.st (.pair (.arr 18 (.st (.pair (.int .i64) .bool))) (.ms 1)))), (1, .row (.st (.pair (.int .i64) .bool))), (2, .var (.fn 168 .unit)), (3, .var (.st (.pair (.int .i64) .bool)))], 4, [], 1622592768292133633915780102881280⟩), (7077914, ⟨[(0, .ptr 0 []), (3, .fp (.st (.pair (.int .i64) (.pair (.int .i64) (.pair (.int .i64) (.int .i64)))))), (7, .ptr 3 []), (8, .bool)], [(0, .var (.st (.pair (.arr 18 (.st (.pair (.int .i64) .bool))) (.ms 1)))), (1, .row (.st (.pair (.int .i64) .bool))), (3, .var (.st (.pair (.int .i64) .bool)))], 4, [], 87112283335611817379210085237284497522944⟩), (8060956, ⟨[(0, .ptr 0 []), (3, .fp (.st (.pair (.int .i64) (.pair (.int .i64) (.pair (.int .i64) (.int .i64)))))), (7, .ptr 3 []), (8, .bool)], [(0, .var (.st (.pair (.arr 18 (.st (.pair (.int .i64) .bool))) (.ms 1)))), (1, .row (.st (.pair (.int .i64) .bool))), (3, .var (.st (.pair (.int .i64) .bool)))], 4, [], 87069750635895129338690977676603691106560⟩), (8454174, ⟨[(0, .ptr 0 []), (3, .fp (.st (.pair (.int .i64) (.pair (.int .i64) (.pair (.int .i64) (.int .i64)))))), (7, .ptr 3 []), (8, .bool)], [(0, .var (.st (.pair (.arr 18 (.st (.pair (.int .i64) .bool))) (.ms 1)))), (1, .row (.st (.pair (.int .i64) .bool))), (3, .var (.st (.pair (.int .i64) .bool)))], 4, [], 84390026996392738938916902643078516441344⟩), (9371681, ⟨[], [(0, .var (.st (.pair (.arr 18 (.st (.pair (.int .i64) .bool))) (.ms 1)))), (1, .row (.st (.pair (.int .i64) .bool)))], 2, [], 691323101154449317387607266452099206685392896⟩)], blocks := [], loops := [], keeps := [3, 4, 5], orders := [(12, [(0, .strong), (1, .strong), (2, .strong), (3, .strong), (4, .weak), (5, .weak), (6, .weak), (7, .weak), (8, .weak), (9, .strong), (10, .strong), (11, .strong), (12, .strong), (13, .strong), (14, .strong), (15, .strong), (16, .strong), (17, .strong), (18, .strong), (19, .strong), (20, .strong), (21, .strong), (22, .strong), (23, .strong), (24, .strong), (25, .strong), (26, .strong), (27, .strong), (28, .strong), (30, .weak), (31, .weak), (29, .eff false), (32, .strong), (33, .eff false)]), (23, [(0, .strong), (1, .strong), (2, .strong), (3, .strong), (4, .strong), (5, .strong), (6, .strong), (7, .strong), (8, .strong), (9, .strong), (10, .strong), (11, .strong), (12, .eff false)]), (26, [(0, .strong), (1, .strong), (2, .strong), (3, .strong), (4, .strong), (5, .strong), (6, .strong), (7, .strong), (8, .strong), (9, .strong), (10, .strong), (11, .strong), (12, .eff false), (13, .strong)]), (31, [(0, .strong), (1, .strong), (2, .strong), (3, .strong), (4, .strong), (5, .strong), (6, .eff false)])], alts := [(1, ((.op 0 .strong (.op 1 .strong (.op 2 .strong (.op 3 .strong (.op 4 .strong (.op 6 .weak (.op 7 .weak (.op 8 .weak (.op 9 .weak (.op 10 .weak (.alt (.op 5 (.eff false) (.alt (.op 11 (.eff false) (.alt (.op 12 (.eff true) (.op 13 (.eff true) (.op 14 (.eff false) (.op 15 (.eff false) (.leaf []))))) (.op 13 (.eff true) (.op 12 (.eff true) (.op 14 (.eff false) (.op 15 (.eff false) (.leaf []))))))) (.alt (.op 12 (.eff true) (.alt (.op 11 (.eff false) (.op 13 (.eff true) (.op 14 (.eff false) (.op 15 (.eff false) (.leaf []))))) (.op 13 (.eff true) (.op 11 (.eff false) (.op 14 (.eff false) (.op 15 (.eff false) (.leaf []))))))) (.op 13 (.eff true) (.alt (.op 11 (.eff false) (.op 12 (.eff true) (.op 14 (.eff false) (.op 15 (.eff false) (.leaf []))))) (.op 12 (.eff true) (.op 11 (.eff false) (.op 14 (.eff false) (.op 15 (.eff false) (.leaf [])))))))))) (.alt (.op 12 (.eff true) (.alt (.op 5 (.eff false) (.alt (.op 11 (.eff false) (.op 13 (.eff true) (.op 14 (.eff false) (.op 15 (.eff false) (.leaf []))))) (.op 13 (.eff true) (.op 11 (.eff false) (.op 14 (.eff false) (.op 15 (.eff false) (.leaf []))))))) (.op 13 (.eff true) (.op 5 (.eff false) (.op 11 (.eff false) (.op 14 (.eff false) (.op 15 (.eff false) (.leaf [])))))))) (.op 13 (.eff true) (.alt (.op 5 (.eff false) (.alt (.op 11 (.eff false) (.op 12 (.eff true) (.op 14 (.eff false) (.op 15 (.eff false) (.leaf []))))) (.op 12 (.eff true) (.op 11 (.eff false) (.op 14 (.eff false) (.op 15 (.eff false) (.leaf []))))))) (.op 12 (.eff true) (.op 5 (.eff false) (.op 11 (.eff false) (.op 14 (.eff false) (.op 15 (.eff false) (.leaf [])))))))))))))))))))), ⟨[(0, .ptr 0 []), (3, .fp (.st (.pair (.int .i64) (.pair (.int .i64) (.pair (.int .i64) (.int .i64)))))), (4, .fp (.st (.pair (.int .i64) .bool))), (5, .fp (.st (.pair (.int .i64) .bool)))], [(0, .var (.st (.pair (.arr 18 (.st (.pair (.int .i64) .bool))) (.ms 1)))), (1, .row (.st (.pair (.int .i64) .bool)))], 2, [], 4193328⟩)), (20, ((.op 0 .strong (.op 1 .strong (.op 3 .strong (.op 4 .strong (.op 7 .weak (.op 8 .weak (.alt (.op 2 (.eff true) (.op 5 (.eff true) (.op 6 (.eff false) (.op 9 (.eff true) (.op 10 .weak (.op 11 (.eff false) (.op 12 .strong (.leaf [])))))))) (.op 5 (.eff true) (.op 2 (.eff true) (.op 6 (.eff false) (.op 9 (.eff true) (.op 10 .weak (.op 11 (.eff false) (.op 12 .strong (.leaf []))))))))))))))), ⟨[(0, .ptr 0 []), (3, .fp (.st (.pair (.int .i64) (.pair (.int .i64) (.pair (.int .i64) (.int .i64)))))), (7, .ptr 3 []), (8, .bool)], [(0, .var (.st (.pair (.arr 18 (.st (.pair (.int .i64) .bool))) (.ms 1)))), (1, .row (.st (.pair (.int .i64) .bool))), (3, .var (.st (.pair (.int .i64) .bool)))], 4, [], 9898684611004583682494169344⟩))] }
def step135.S : Sig := { f := 135, params := [.ptr 0 [], .st (.pair (.int .i64) (.pair (.int .i64) (.pair (.int .i64) (.int .i64))))], objs := [.var (.st (.pair (.arr 18 (.st (.pair (.int .i64) .bool))) (.ms 1))), .row (.st (.pair (.int .i64) .bool))], res := .tup .unit, outs := [.var (.st (.pair (.arr 18 (.st (.pair (.int .i64) .bool))) (.ms 1))), .row (.st (.pair (.int .i64) .bool))], fix := [], run := fun k ds os => step135 k ds.1 ds.2 os.1 os.2 }
def step135.G : List Sig := [get96.S, known94.S, put93'.S, size165.S, then129''''.S, then129'''''.S, then129''''''.S, wide131.S]
theorem step135.eq (k : Nat) : ∀ ds os, step135.S.run k ds os = runF ⟨types, step135.G, step135.A, k, 0, []⟩ Tryz.f135 (codeOf Tryz.f135) step135.S.params step135.S.objs step135.S.res step135.S.outs ds os := by
  intro ds os; kernel_rfl
theorem step135.dr : DrOk Tryz.prog step135.A (codeOf Tryz.f135) := ⟨by kernel_rfl, by kernel_rfl⟩
theorem step135.ok (k : Nat) : SoundAt Tryz.prog k step135.S :=
  runF_sound (X := ⟨types, step135.G, step135.A, k, 0, []⟩) types_ok (mem_all (⟨get96.ok k, ⟨known94.ok k, ⟨put93'.ok k, ⟨size165.ok k, ⟨then129''''.ok k, ⟨then129'''''.ok k, ⟨then129''''''.ok k, ⟨wide131.ok k, trivial⟩⟩⟩⟩⟩⟩⟩⟩)) (fn := Tryz.f135) (c := codeOf Tryz.f135) rfl (by kernel_rfl) rfl rfl step135.dr (step135.eq k)
end Go.Proofs.YtcppmlgnceldmaaGreat.Fl

/- Go functions as plain Lean functions, and their contracts. -/
set_option linter.unusedVariables false
set_option maxRecDepth 100000
noncomputable section
namespace Go.Proofs.YtcppmlgnceldmaaGreat.Fl
open Go Go.Proofs.YtcppmlgnceldmaaGreat.Gp
def finish95.l0 (k : Nat) (t16 : (Int × (Int × (Int × (List (Int × (Int × (Int × Int)))))))) : ((Int × ((List Int) × (List (ByteArray × Int)))) × (Unit × (Unit × (Int × (((List (Int × Bool)) × Unit) × ((List (Int × Bool)) × (List ((List (Int × Bool)) × (List (Int × Bool)))))))))) → Option (((Int × ((List Int) × (List (ByteArray × Int)))) × (Unit × (Unit × (Int × (((List (Int × Bool)) × Unit) × ((List (Int × Bool)) × (List ((List (Int × Bool)) × (List (Int × Bool)))))))))) ⊕ ((Int × ((List Int) × (List (ByteArray × Int)))) × (Unit × (Unit × (((List (Int × Bool)) × Unit) × ((List (Int × Bool)) × (List ((List (Int × Bool)) × (List (Int × Bool))))))))))
  | (code_2, _, _, t24, o0_1, o1_1, o5_1) =>
    cond (decide (t24 < (List.length t16.2.2.2 : Int)))
      ((rd t16.2.2.2 t24).bind fun t26 =>
      Option.bind
        (cond (t26.1 == 24)
          ((Clone134 k o1_1).bind fun t36 =>
          (if room (List.length o5_1 + List.length [(o0_1.1, t36.2)]) 312 then some () else none).bind fun _ =>
          some (code_2, (), (), o0_1, o1_1, (o5_1 ++ [(o0_1.1, t36.2)])))
          ((step135 k () t26 o0_1 o1_1).bind fun t41 =>
          some (code_2, (), (), t41.2.1, t41.2.2, o5_1)) : Option ((Int × ((List Int) × (List (ByteArray × Int)))) × (Unit × (Unit × (((List (Int × Bool)) × Unit) × ((List (Int × Bool)) × (List ((List (Int × Bool)) × (List (Int × Bool)))))))))) fun ((code_3, _, _, o0_2, o1_2, o5_2) : ((Int × ((List Int) × (List (ByteArray × Int)))) × (Unit × (Unit × (((List (Int × Bool)) × Unit) × ((List (Int × Bool)) × (List ((List (Int × Bool)) × (List (Int × Bool)))))))))) =>
      some (Sum.inl (code_3, (), (), (w64 (t24 + 1)), o0_2, o1_2, o5_2)))
      (some (Sum.inr (code_2, (), (), o0_1, o1_1, o5_1)))
def finish95.l1 (k : Nat) (l : (List (Int × (Int × (Int × (List (Int × (Int × (Int × Int))))))))) : ((Int × ((List Int) × (List (ByteArray × Int)))) × (Unit × (Unit × (Int × (((List (Int × Bool)) × Unit) × ((List (Int × Bool)) × (List ((List (Int × Bool)) × (List (Int × Bool)))))))))) → Option (((Int × ((List Int) × (List (ByteArray × Int)))) × (Unit × (Unit × (Int × (((List (Int × Bool)) × Unit) × ((List (Int × Bool)) × (List ((List (Int × Bool)) × (List (Int × Bool)))))))))) ⊕ (Unit × (Unit × (((List (Int × Bool)) × Unit) × ((List (Int × Bool)) × (List ((List (Int × Bool)) × (List (Int × Bool)))))))))
  | (code_1, _, _, t14, o0, o1, o5) =>
    cond (decide (t14 < (List.length l : Int)))
      ((rd l t14).bind fun t16 =>
      (cycle133 k () code_1 t16 o0 o1).bind fun t20 =>
      Option.bind
        (loopN (finish95.l0 k t16) k (code_1, (), (), 0, t20.2.1, t20.2.2, o5) : Option ((Int × ((List Int) × (List (ByteArray × Int)))) × (Unit × (Unit × (((List (Int × Bool)) × Unit) × ((List (Int × Bool)) × (List ((List (Int × Bool)) × (List (Int × Bool)))))))))) fun ((code_4, _, _, o0_3, o1_3, o5_3) : ((Int × ((List Int) × (List (ByteArray × Int)))) × (Unit × (Unit × (((List (Int × Bool)) × Unit) × ((List (Int × Bool)) × (List ((List (Int × Bool)) × (List (Int × Bool)))))))))) =>
      some (Sum.inl (code_4, (), (), (w64 (t14 + 1)), o0_3, o1_3, o5_3)))
      (some (Sum.inr ((), (), o0, o1, o5)))
def finish95 (k : Nat) (code : (Int × ((List Int) × (List (ByteArray × Int))))) (l : (List (Int × (Int × (Int × (List (Int × (Int × (Int × Int))))))))) (w : ((List (Int × Bool)) × Unit)) : Option ((List ((List (Int × Bool)) × (List (Int × Bool)))) × Unit) :=
  Option.bind
    (loopN (finish95.l1 k l) k (code, (), (), 0, w, [], []) : Option (Unit × (Unit × (((List (Int × Bool)) × Unit) × ((List (Int × Bool)) × (List ((List (Int × Bool)) × (List (Int × Bool))))))))) fun ((_, _, o0_4, o1_4, o5_4) : (Unit × (Unit × (((List (Int × Bool)) × Unit) × ((List (Int × Bool)) × (List ((List (Int × Bool)) × (List (Int × Bool))))))))) =>
  (if room (List.length o5_4 + List.length [(o0_4.1, o1_4)]) 312 then some () else none).bind fun _ =>
  some ((o5_4 ++ [(o0_4.1, o1_4)]), ())
def finish95.A : Ann := { conds := [(1966090, ⟨[(3, .fp (.st (.pair (.int .i64) (.pair (.sl (.int .u8)) (.sl (.st (.pair .str (.int .i64)))))))), (5, .ptr 0 []), (7, .ms 5)], [(0, .var (.st (.pair (.arr 18 (.st (.pair (.int .i64) .bool))) (.ms 1)))), (1, .row (.st (.pair (.int .i64) .bool))), (5, .row (.st (.pair (.arr 18 (.st (.pair (.int .i64) .bool))) (.sl (.st (.pair (.int .i64) .bool))))))], 6, [], 4395899027584⟩)], blocks := [(0, ⟨[(5, .ptr 0 []), (7, .ms 5)], [(0, .var (.st (.pair (.arr 18 (.st (.pair (.int .i64) .bool))) (.ms 1)))), (1, .row (.st (.pair (.int .i64) .bool))), (5, .row (.st (.pair (.arr 18 (.st (.pair (.int .i64) .bool))) (.sl (.st (.pair (.int .i64) .bool))))))], 6, [], 17592186030720⟩), (2, ⟨[(3, .fp (.st (.pair (.int .i64) (.pair (.sl (.int .u8)) (.sl (.st (.pair .str (.int .i64)))))))), (5, .ptr 0 []), (7, .ms 5)], [(0, .var (.st (.pair (.arr 18 (.st (.pair (.int .i64) .bool))) (.ms 1)))), (1, .row (.st (.pair (.int .i64) .bool))), (5, .row (.st (.pair (.arr 18 (.st (.pair (.int .i64) .bool))) (.sl (.st (.pair (.int .i64) .bool))))))], 6, [], 8796076247168⟩)], loops := [(3, ⟨[(3, .fp (.st (.pair (.int .i64) (.pair (.sl (.int .u8)) (.sl (.st (.pair .str (.int .i64)))))))), (5, .ptr 0 []), (7, .ms 5), (14, .int .i64)], [(0, .var (.st (.pair (.arr 18 (.st (.pair (.int .i64) .bool))) (.ms 1)))), (1, .row (.st (.pair (.int .i64) .bool))), (5, .row (.st (.pair (.arr 18 (.st (.pair (.int .i64) .bool))) (.sl (.st (.pair (.int .i64) .bool))))))], 6, [(5, .st (.pair (.arr 18 (.st (.pair (.int .i64) .bool))) (.sl (.st (.pair (.int .i64) .bool)))))], 17592186030720⟩), (7, ⟨[(3, .fp (.st (.pair (.int .i64) (.pair (.sl (.int .u8)) (.sl (.st (.pair .str (.int .i64)))))))), (5, .ptr 0 []), (7, .ms 5), (24, .int .i64)], [(0, .var (.st (.pair (.arr 18 (.st (.pair (.int .i64) .bool))) (.ms 1)))), (1, .row (.st (.pair (.int .i64) .bool))), (5, .row (.st (.pair (.arr 18 (.st (.pair (.int .i64) .bool))) (.sl (.st (.pair (.int .i64) .bool))))))], 6, [], 8796076247168⟩)], keeps := [3, 9, 11], orders := [(10, [(0, .strong), (1, .strong), (2, .strong), (3, .strong), (4, .strong), (5, .eff true), (6, .strong), (7, .eff true), (8, .eff false), (9, .strong)])], turns := [(0, [⟨0, [(1, .st (.pair (.int .i64) .bool))], .st (.pair (.arr 18 (.st (.pair (.int .i64) .bool))) (.ms 1))⟩])] }
def finish95.S : Sig := { f := 95, params := [.st (.pair (.int .i64) (.pair (.sl (.int .u8)) (.sl (.st (.pair .str (.int .i64)))))), .sl (.st (.pair (.int .i64) (.pair (.int .i64) (.pair (.int .i64) (.sl (.st (.pair (.int .i64) (.pair (.int .i64) (.pair (.int .i64) (.int .i64)))))))))), .st (.pair (.arr 18 (.st (.pair (.int .i64) .bool))) .nil)], objs := [], res := .sl (.st (.pair (.arr 18 (.st (.pair (.int .i64) .bool))) (.sl (.st (.pair (.int .i64) .bool))))), outs := [], fix := [], run := fun k ds os => finish95 k ds.1 ds.2.1 ds.2.2 }
def finish95.G : List Sig := [Clone134.S, cycle133.S, step135.S]
theorem finish95.eq (k : Nat) : ∀ ds os, finish95.S.run k ds os = runF ⟨types, finish95.G, finish95.A, k, 0, []⟩ Tryz.f95 (codeOf Tryz.f95) finish95.S.params finish95.S.objs finish95.S.res finish95.S.outs ds os := by
  intro ds os; kernel_rfl
theorem finish95.dr : DrOk Tryz.prog finish95.A (codeOf Tryz.f95) := ⟨by kernel_rfl, by kernel_rfl⟩
theorem finish95.ok (k : Nat) : SoundAt Tryz.prog k finish95.S :=
  runF_sound (X := ⟨types, finish95.G, finish95.A, k, 0, []⟩) types_ok (mem_all (⟨Clone134.ok k, ⟨cycle133.ok k, ⟨step135.ok k, trivial⟩⟩⟩)) (fn := Tryz.f95) (c := codeOf Tryz.f95) rfl (by kernel_rfl) rfl rfl finish95.dr (finish95.eq k)

def get96' (k : Nat) (_ : Unit) (reg : Int) (o0 : ((List (Int × Bool)) × (List (Int × Bool)))) : Option ((Int × Bool) × ((List (Int × Bool)) × (List (Int × Bool)))) :=
  (wide131 k reg).bind fun t6 =>
  cond (!t6.1)
    ((if 0 ≤ (w64 (2 * reg)) ∧ (w64 (2 * reg)) < 18 then some () else none).bind fun _ =>
    (rd o0.1 (w64 (2 * reg))).bind fun t13 =>
    some (t13, o0))
    ((if 0 ≤ (w64 (2 * reg)) ∧ (w64 (2 * reg)) < 18 then some () else none).bind fun _ =>
    (rd o0.1 (w64 (2 * reg))).bind fun t19 =>
    let t23 : Int := (w64 ((w64 (2 * reg)) + 1))
    (if 0 ≤ t23 ∧ t23 < 18 then some () else none).bind fun _ =>
    (rd o0.1 t23).bind fun t26 =>
    (then129'' k 16 () [t19, t26]).bind fun t28 =>
    some (t28.1, o0))
def get96'.A : Ann := { conds := [], blocks := [], loops := [], keeps := [], orders := [(3, [(0, .strong), (1, .strong), (2, .strong), (3, .strong), (4, .strong), (5, .strong), (6, .strong), (7, .strong), (8, .strong), (9, .strong), (10, .strong), (11, .strong), (12, .strong), (13, .eff true), (14, .eff true), (15, .eff false)])] }
def get96'.S : Sig := { f := 96, params := [.ptr 0 [.fld 0 0], .int .i64], objs := [.var (.st (.pair (.arr 18 (.st (.pair (.int .i64) .bool))) (.sl (.st (.pair (.int .i64) .bool)))))], res := .st (.pair (.int .i64) .bool), outs := [.var (.st (.pair (.arr 18 (.st (.pair (.int .i64) .bool))) (.sl (.st (.pair (.int .i64) .bool)))))], fix := [], run := fun k ds os => get96' k ds.1 ds.2 os }
def get96'.G : List Sig := [then129''.S, wide131.S]
theorem get96'.eq (k : Nat) : ∀ ds os, get96'.S.run k ds os = runF ⟨types, get96'.G, get96'.A, k, 0, []⟩ Tryz.f96 (codeOf Tryz.f96) get96'.S.params get96'.S.objs get96'.S.res get96'.S.outs ds os := by
  intro ds os; kernel_rfl
theorem get96'.dr : DrOk Tryz.prog get96'.A (codeOf Tryz.f96) := ⟨by kernel_rfl, by kernel_rfl⟩
theorem get96'.ok (k : Nat) : SoundAt Tryz.prog k get96'.S :=
  runF_sound (X := ⟨types, get96'.G, get96'.A, k, 0, []⟩) types_ok (mem_all (⟨then129''.ok k, ⟨wide131.ok k, trivial⟩⟩)) (fn := Tryz.f96) (c := codeOf Tryz.f96) rfl (by kernel_rfl) rfl rfl get96'.dr (get96'.eq k)

def Index137.l0 (k : Nat) (s : (List Int)) (v : Int) : Int → Option (Int ⊕ (Unit ⊕ (Int × Unit)))
  | t8 =>
    cond (decide (t8 < (List.length s : Int)))
      ((rd s t8).bind fun t14 =>
      cond (v == t14)
        (some (Sum.inr (Sum.inr (t8, ()))))
        (some (Sum.inl (w64 (t8 + 1)))))
      (some (Sum.inr (Sum.inl ())))
def Index137 (k : Nat) (s : (List Int)) (v : Int) : Option (Int × Unit) :=
  Option.bind
    (loopN (Index137.l0 k s v) k 0 : Option (Unit ⊕ (Int × Unit))) (joined fun (_ : Unit) =>
    some ((-1), ()))
def Index137.A : Ann := { conds := [], blocks := [(0, ⟨[], [], 0, [], 524080⟩)], loops := [(2, ⟨[(8, .int .i64)], [], 0, [], 524080⟩)], keeps := [], orders := [] }
def Index137.S : Sig := { f := 137, params := [.sl (.int .i64), .int .i64], objs := [], res := .int .i64, outs := [], fix := [], run := fun k ds os => Index137 k ds.1 ds.2 }
def Index137.G : List Sig := []
theorem Index137.eq (k : Nat) : ∀ ds os, Index137.S.run k ds os = runF ⟨types, Index137.G, Index137.A, k, 0, []⟩ Tryz.f137 (codeOf Tryz.f137) Index137.S.params Index137.S.objs Index137.S.res Index137.S.outs ds os := by
  intro ds os; kernel_rfl
theorem Index137.dr : DrOk Tryz.prog Index137.A (codeOf Tryz.f137) := ⟨by kernel_rfl, by kernel_rfl⟩
theorem Index137.ok (k : Nat) : SoundAt Tryz.prog k Index137.S :=
  runF_sound (X := ⟨types, Index137.G, Index137.A, k, 0, []⟩) types_ok (fun s hs => absurd hs List.not_mem_nil) (fn := Tryz.f137) (c := codeOf Tryz.f137) rfl (by kernel_rfl) rfl rfl Index137.dr (Index137.eq k)

def Contains97 (k : Nat) (s : (List Int)) (v : Int) : Option (Bool × Unit) :=
  (Index137 k s v).bind fun t7 =>
  some ((decide (t7.1 ≥ 0)), ())
def Contains97.A : Ann := { conds := [], blocks := [], loops := [], keeps := [], orders := [] }
def Contains97.S : Sig := { f := 97, params := [.sl (.int .i64), .int .i64], objs := [], res := .bool, outs := [], fix := [], run := fun k ds os => Contains97 k ds.1 ds.2 }
def Contains97.G : List Sig := [Index137.S]
theorem Contains97.eq (k : Nat) : ∀ ds os, Contains97.S.run k ds os = runF ⟨types, Contains97.G, Contains97.A, k, 0, []⟩ Tryz.f97 (codeOf Tryz.f97) Contains97.S.params Contains97.S.objs Contains97.S.res Contains97.S.outs ds os := by
  intro ds os; kernel_rfl
theorem Contains97.dr : DrOk Tryz.prog Contains97.A (codeOf Tryz.f97) := ⟨by kernel_rfl, by kernel_rfl⟩
theorem Contains97.ok (k : Nat) : SoundAt Tryz.prog k Contains97.S :=
  runF_sound (X := ⟨types, Contains97.G, Contains97.A, k, 0, []⟩) types_ok (mem_all (⟨Index137.ok k, trivial⟩)) (fn := Tryz.f97) (c := codeOf Tryz.f97) rfl (by kernel_rfl) rfl rfl Contains97.dr (Contains97.eq k)
end Go.Proofs.YtcppmlgnceldmaaGreat.Fl

/- Go functions as plain Lean functions, and their contracts. -/
set_option linter.unusedVariables false
set_option maxRecDepth 100000
noncomputable section
namespace Go.Proofs.YtcppmlgnceldmaaGreat.Fl
open Go Go.Proofs.YtcppmlgnceldmaaGreat.Gp
def way58.l0 (k : Nat) (t40 : ((Int × Bool) × Unit)) (t47 : ((List ((List (Int × Bool)) × (List (Int × Bool)))) × Unit)) : (Unit × (Unit × (Unit × (Int × ((Int × (Unit × (Bool × Bool))) × ((List Int) × ((Int × (Unit × (Bool × Bool))) × ((List Int) × (List Int))))))))) → Option ((Unit × (Unit × (Unit × (Int × ((Int × (Unit × (Bool × Bool))) × ((List Int) × ((Int × (Unit × (Bool × Bool))) × ((List Int) × (List Int))))))))) ⊕ (Unit × (Unit × (Unit × ((Int × (Unit × (Bool × Bool))) × ((List Int) × ((Int × (Unit × (Bool × Bool))) × ((List Int) × (List Int)))))))))
  | (_, _, _, t50, o1, o2, o3, o4, o8) =>
    cond (decide (t50 < (List.length t47.1 : Int)))
      ((rd t47.1 t50).bind fun t52 =>
      (get96' k () 7 t52).bind fun t55 =>
      Option.bind
        (cond t55.1.2
          ((if room (List.length o8 + List.length ([t55.1.1] : List Int)) 8 then some () else none).bind fun _ =>
          some ((), (), (), (), o1, o2, o3, o4, (o8 ++ ([t55.1.1] : List Int)), t55.2))
          (some ((), (), (), (), o1, o2, (o3.1, o3.2.1, true, o3.2.2.2), o4, o8, t55.2)) : Option (Unit × (Unit × (Unit × (Unit × ((Int × (Unit × (Bool × Bool))) × ((List Int) × ((Int × (Unit × (Bool × Bool))) × ((List Int) × ((List Int) × ((List (Int × Bool)) × (List (Int × Bool))))))))))))) fun ((_, _, _, _, o1_1, o2_1, o3_1, o4_1, o8_1, o9) : (Unit × (Unit × (Unit × (Unit × ((Int × (Unit × (Bool × Bool))) × ((List Int) × ((Int × (Unit × (Bool × Bool))) × ((List Int) × ((List Int) × ((List (Int × Bool)) × (List (Int × Bool))))))))))))) =>
      Option.bind (cond (decide ((List.length o9.2 : Int) > 1))
        ((rd o9.2 (w64 ((List.length o9.2 : Int) - 2))).bind fun t74 =>
        (known94 k (quoI .i64 t40.1.1 256) 8).bind fun t78 =>
        some (xor false (eqB (.st (.pair (.int .i64) .bool)) t74 t78.1)))
        (some false)) fun t80 =>
      Option.bind (cond t80
        ((rd o9.2 (w64 ((List.length o9.2 : Int) - 1))).bind fun t86 =>
        (known94 k t40.1.1 8).bind fun t89 =>
        some (xor false (eqB (.st (.pair (.int .i64) .bool)) t86 t89.1)))
        (some false)) fun t91 =>
      Option.bind
        (cond t91
          (some ((), (), (), o1_1, o2_1, (o3_1.1, o3_1.2.1, o3_1.2.2.1, true), o4_1, o8_1))
          (some ((), (), (), o1_1, o2_1, o3_1, o4_1, o8_1)) : Option (Unit × (Unit × (Unit × ((Int × (Unit × (Bool × Bool))) × ((List Int) × ((Int × (Unit × (Bool × Bool))) × ((List Int) × (List Int))))))))) fun ((_, _, _, o1_2, o2_2, o3_2, o4_2, o8_2) : (Unit × (Unit × (Unit × ((Int × (Unit × (Bool × Bool))) × ((List Int) × ((Int × (Unit × (Bool × Bool))) × ((List Int) × (List Int))))))))) =>
      some (Sum.inl ((), (), (), (w64 (t50 + 1)), o1_2, o2_2, o3_2, o4_2, o8_2)))
      (some (Sum.inr ((), (), (), o1, o2, o3, o4, o8)))
def way58.l1 (k : Nat) : (Unit × (Unit × (Unit × (Int × ((Int × (Unit × (Bool × Bool))) × ((List Int) × ((Int × (Unit × (Bool × Bool))) × ((List Int) × (List Int))))))))) → Option ((Unit × (Unit × (Unit × (Int × ((Int × (Unit × (Bool × Bool))) × ((List Int) × ((Int × (Unit × (Bool × Bool))) × ((List Int) × (List Int))))))))) ⊕ (Unit × (Unit × ((Int × (Unit × (Bool × Bool))) × ((List Int) × ((Int × (Unit × (Bool × Bool))) × (List Int)))))))
  | (_, _, _, t94, o1_4, o2_4, o3_4, o4_4, o8_4) =>
    cond (decide (t94 < 65536))
      ((Contains97 k o8_4 t94).bind fun t99 =>
      Option.bind
        (cond t99.1
          ((if room (List.length o4_4 + List.length ([t94] : List Int)) 8 then some () else none).bind fun _ =>
          some ((), (), (), o1_4, o2_4, (o3_4.1, o3_4.2.1, o3_4.2.2), (o4_4 ++ ([t94] : List Int)), o8_4))
          (some ((), (), (), o1_4, o2_4, o3_4, o4_4, o8_4)) : Option (Unit × (Unit × (Unit × ((Int × (Unit × (Bool × Bool))) × ((List Int) × ((Int × (Unit × (Bool × Bool))) × ((List Int) × (List Int))))))))) fun ((_, _, _, o1_5, o2_5, o3_5, o4_5, o8_5) : (Unit × (Unit × (Unit × ((Int × (Unit × (Bool × Bool))) × ((List Int) × ((Int × (Unit × (Bool × Bool))) × ((List Int) × (List Int))))))))) =>
      cond ((List.length o4_5 : Int) == (List.length o8_5 : Int))
        (some (Sum.inr ((), (), o1_5, o2_5, o3_5, o4_5)))
        (some (Sum.inl ((), (), (), (w64 (t94 + 1)), o1_5, o2_5, o3_5, o4_5, o8_5))))
      (some (Sum.inr ((), (), o1_4, o2_4, o3_4, o4_4)))
def way58 (k : Nat) (code : (Int × ((List Int) × (List (ByteArray × Int))))) (x : (Int × (ByteArray × (Int × (List (Int × (Int × (Int × (List (Int × (Int × (Int × Int)))))))))))) (addr : Int) (r : (List (Int × Bool))) : Option (((Int × ((List Int) × (Bool × Bool))) × ((List ((List (Int × Bool)) × (List (Int × Bool)))) × Unit)) × Unit) :=
  (operands49 k).bind fun t22 =>
  (known94 k (w64 (addr + 1)) 16).bind fun t27 =>
  (put93 k () 7 t27.1 r).bind fun t28 =>
  (rd t22.1.1 x.2.2.1).bind fun t32 =>
  (known94 k (w64 (addr + (w64 (1 + t32)))) 16).bind fun t40 =>
  (finish95 k code x.2.2.2 (t28.2, ())).bind fun t47 =>
  Option.bind
    (loopN (way58.l0 k t40 t47) k ((), (), (), 0, (0, (), false, false), [], ((w64 (1 + t32)), (), false, false), [], []) : Option (Unit × (Unit × (Unit × ((Int × (Unit × (Bool × Bool))) × ((List Int) × ((Int × (Unit × (Bool × Bool))) × ((List Int) × (List Int))))))))) fun ((_, _, _, o1_3, o2_3, o3_3, o4_3, o8_3) : (Unit × (Unit × (Unit × ((Int × (Unit × (Bool × Bool))) × ((List Int) × ((Int × (Unit × (Bool × Bool))) × ((List Int) × (List Int))))))))) =>
  Option.bind
    (loopN (way58.l1 k) k ((), (), (), 0, o1_3, o2_3, o3_3, o4_3, o8_3) : Option (Unit × (Unit × ((Int × (Unit × (Bool × Bool))) × ((List Int) × ((Int × (Unit × (Bool × Bool))) × (List Int))))))) fun ((_, _, _, _, o3_6, o4_6) : (Unit × (Unit × ((Int × (Unit × (Bool × Bool))) × ((List Int) × ((Int × (Unit × (Bool × Bool))) × (List Int))))))) =>
  some (((o3_6.1, o4_6, o3_6.2.2), t47.1, ()), ())
def way58.A : Ann := { conds := [(3735564, ⟨[(8, .ptr 1 []), (12, .ptr 3 []), (15, .ms 8), (17, .ptr 9 [])], [(1, .var (.st (.pair (.int .i64) (.pair (.ms 2) (.pair .bool .bool))))), (2, .row (.int .i64)), (3, .var (.st (.pair (.int .i64) (.pair (.ms 4) (.pair .bool .bool))))), (4, .row (.int .i64)), (8, .row (.int .i64)), (9, .var (.st (.pair (.arr 18 (.st (.pair (.int .i64) .bool))) (.sl (.st (.pair (.int .i64) .bool))))))], 10, [], 18158513697557872640⟩), (5963792, ⟨[(8, .ptr 1 []), (12, .ptr 3 []), (15, .ms 8)], [(1, .var (.st (.pair (.int .i64) (.pair (.ms 2) (.pair .bool .bool))))), (2, .row (.int .i64)), (3, .var (.st (.pair (.int .i64) (.pair (.ms 4) (.pair .bool .bool))))), (4, .row (.int .i64)), (8, .row (.int .i64))], 9, [], 4951760157141521099596496896⟩), (6488086, ⟨[(8, .ptr 1 []), (12, .ptr 3 []), (15, .ms 8)], [(1, .var (.st (.pair (.int .i64) (.pair (.ms 2) (.pair .bool .bool))))), (2, .row (.int .i64)), (3, .var (.st (.pair (.int .i64) (.pair (.ms 4) (.pair .bool .bool))))), (4, .row (.int .i64)), (8, .row (.int .i64))], 9, [], 79861987814378452294292301938688⟩)], blocks := [(0, ⟨[(8, .ptr 1 []), (12, .ptr 3 []), (15, .ms 8)], [(1, .var (.st (.pair (.int .i64) (.pair (.ms 2) (.pair .bool .bool))))), (2, .row (.int .i64)), (3, .var (.st (.pair (.int .i64) (.pair (.ms 4) (.pair .bool .bool))))), (4, .row (.int .i64)), (8, .row (.int .i64))], 9, [], 19807040628564958498480095232⟩), (2, ⟨[(8, .ptr 1 []), (12, .ptr 3 [])], [(1, .var (.st (.pair (.int .i64) (.pair (.ms 2) (.pair .bool .bool))))), (2, .row (.int .i64)), (3, .var (.st (.pair (.int .i64) (.pair (.ms 4) (.pair .bool .bool))))), (4, .row (.int .i64))], 5, [], 10384573910029026690976594273501184⟩)], loops := [(8, ⟨[(8, .ptr 1 []), (12, .ptr 3 []), (15, .ms 8), (50, .int .i64)], [(1, .var (.st (.pair (.int .i64) (.pair (.ms 2) (.pair .bool .bool))))), (2, .row (.int .i64)), (3, .var (.st (.pair (.int .i64) (.pair (.ms 4) (.pair .bool .bool))))), (4, .row (.int .i64)), (8, .row (.int .i64))], 9, [(8, .int .i64)], 19807040628564958498480095232⟩), (19, ⟨[(8, .ptr 1 []), (12, .ptr 3 []), (15, .ms 8), (94, .int .i64)], [(1, .var (.st (.pair (.int .i64) (.pair (.ms 2) (.pair .bool .bool))))), (2, .row (.int .i64)), (3, .var (.st (.pair (.int .i64) (.pair (.ms 4) (.pair .bool .bool))))), (4, .row (.int .i64)), (8, .row (.int .i64))], 9, [], 10384573910029026690976594273501184⟩)], keeps := [4, 5, 18], orders := [(15, [(0, .strong), (1, .strong), (2, .strong), (3, .strong), (4, .strong), (5, .strong), (6, .strong), (7, .strong), (8, .strong), (9, .strong), (10, .strong), (11, .eff true), (12, .strong), (13, .strong), (14, .strong), (15, .strong), (16, .strong), (17, .strong), (18, .strong), (19, .strong), (20, .strong), (21, .strong), (22, .eff true), (23, .strong), (24, .strong)])], turns := [(0, [⟨1, [(2, .int .i64)], .st (.pair (.int .i64) (.pair (.ms 2) (.pair .bool .bool)))⟩]), (3, [⟨3, [(4, .int .i64)], .st (.pair (.int .i64) (.pair (.ms 4) (.pair .bool .bool)))⟩])] }
def way58.S : Sig := { f := 58, params := [.st (.pair (.int .i64) (.pair (.sl (.int .u8)) (.sl (.st (.pair .str (.int .i64)))))), .st (.pair (.int .i64) (.pair .str (.pair (.int .i64) (.sl (.st (.pair (.int .i64) (.pair (.int .i64) (.pair (.int .i64) (.sl (.st (.pair (.int .i64) (.pair (.int .i64) (.pair (.int .i64) (.int .i64)))))))))))))), .int .i64, .arr 18 (.st (.pair (.int .i64) .bool))], objs := [], res := .tup (.pair (.st (.pair (.int .i64) (.pair (.sl (.int .i64)) (.pair .bool .bool)))) (.pair (.sl (.st (.pair (.arr 18 (.st (.pair (.int .i64) .bool))) (.sl (.st (.pair (.int .i64) .bool)))))) .unit)), outs := [], fix := [], run := fun k ds os => way58 k ds.1 ds.2.1 ds.2.2.1 ds.2.2.2 }
def way58.G : List Sig := [Contains97.S, finish95.S, get96'.S, known94.S, operands49.S, put93.S]
theorem way58.eq (k : Nat) : ∀ ds os, way58.S.run k ds os = runF ⟨types, way58.G, way58.A, k, 0, []⟩ Tryz.f58 (codeOf Tryz.f58) way58.S.params way58.S.objs way58.S.res way58.S.outs ds os := by
  intro ds os; kernel_rfl
theorem way58.dr : DrOk Tryz.prog way58.A (codeOf Tryz.f58) := ⟨by kernel_rfl, by kernel_rfl⟩
theorem way58.ok (k : Nat) : SoundAt Tryz.prog k way58.S :=
  runF_sound (X := ⟨types, way58.G, way58.A, k, 0, []⟩) types_ok (mem_all (⟨Contains97.ok k, ⟨finish95.ok k, ⟨get96'.ok k, ⟨known94.ok k, ⟨operands49.ok k, ⟨put93.ok k, trivial⟩⟩⟩⟩⟩⟩)) (fn := Tryz.f58) (c := codeOf Tryz.f58) rfl (by kernel_rfl) rfl rfl way58.dr (way58.eq k)

def NextWay21 (k : Nat) (c : (ByteArray × ((List (Int × (ByteArray × (Int × (List (Int × (Int × (Int × (List (Int × (Int × (Int × Int)))))))))))) × ((List (Int × (Int × (Int × (List (Int × (Int × (Int × Int)))))))) × ((List (Int × (Int × (Int × (List (Int × (Int × (Int × Int)))))))) × (List (Int × (Int × (Int × (List (Int × (Int × (Int × Int))))))))))))) (code : (Int × ((List Int) × (List (ByteArray × Int))))) (addr : Int) : Option (((Int × ((List Int) × (Bool × Bool))) × (Int × Unit)) × Unit) :=
  (starts57 k c code addr).bind fun t16 =>
  cond (t16.1.2.1 != 0)
    (some (((0, [], false, false), t16.1.2.1, ()), ()))
    ((way58 k code t16.1.1 addr [(0, false), (0, false), (0, false), (0, false), (0, false), (0, false), (0, false), (0, false), (0, false), (0, false), (0, false), (0, false), (0, false), (0, false), (0, false), (0, false), (0, false), (0, false)]).bind fun t28 =>
    some ((t28.1.1, 0, ()), ()))
def NextWay21.A : Ann := { conds := [], blocks := [], loops := [], keeps := [3, 4, 8, 10], orders := [] }
def NextWay21.S : Sig := { f := 21, params := [.st (.pair .str (.pair (.sl (.st (.pair (.int .i64) (.pair .str (.pair (.int .i64) (.sl (.st (.pair (.int .i64) (.pair (.int .i64) (.pair (.int .i64) (.sl (.st (.pair (.int .i64) (.pair (.int .i64) (.pair (.int .i64) (.int .i64)))))))))))))))) (.pair (.sl (.st (.pair (.int .i64) (.pair (.int .i64) (.pair (.int .i64) (.sl (.st (.pair (.int .i64) (.pair (.int .i64) (.pair (.int .i64) (.int .i64))))))))))) (.pair (.sl (.st (.pair (.int .i64) (.pair (.int .i64) (.pair (.int .i64) (.sl (.st (.pair (.int .i64) (.pair (.int .i64) (.pair (.int .i64) (.int .i64))))))))))) (.sl (.st (.pair (.int .i64) (.pair (.int .i64) (.pair (.int .i64) (.sl (.st (.pair (.int .i64) (.pair (.int .i64) (.pair (.int .i64) (.int .i64))))))))))))))), .st (.pair (.int .i64) (.pair (.sl (.int .u8)) (.sl (.st (.pair .str (.int .i64)))))), .int .i64], objs := [], res := .tup (.pair (.st (.pair (.int .i64) (.pair (.sl (.int .i64)) (.pair .bool .bool)))) (.pair (.int .i64) .unit)), outs := [], fix := [], run := fun k ds os => NextWay21 k ds.1 ds.2.1 ds.2.2 }
def NextWay21.G : List Sig := [starts57.S, way58.S]
theorem NextWay21.eq (k : Nat) : ∀ ds os, NextWay21.S.run k ds os = runF ⟨types, NextWay21.G, NextWay21.A, k, 0, []⟩ Tryz.f21 (codeOf Tryz.f21) NextWay21.S.params NextWay21.S.objs NextWay21.S.res NextWay21.S.outs ds os := by
  intro ds os; kernel_rfl
theorem NextWay21.dr : DrOk Tryz.prog NextWay21.A (codeOf Tryz.f21) := ⟨by kernel_rfl, by kernel_rfl⟩
theorem NextWay21.ok (k : Nat) : SoundAt Tryz.prog k NextWay21.S :=
  runF_sound (X := ⟨types, NextWay21.G, NextWay21.A, k, 0, []⟩) types_ok (mem_all (⟨starts57.ok k, ⟨way58.ok k, trivial⟩⟩)) (fn := Tryz.f21) (c := codeOf Tryz.f21) rfl (by kernel_rfl) rfl rfl NextWay21.dr (NextWay21.eq k)

def sameWay22 (k : Nat) (a : (Int × ((List Int) × (Bool × Bool)))) (b : (Int × ((List Int) × (Bool × Bool)))) : Option (Bool × Unit) :=
  Option.bind (cond (cond (cond (a.1 == b.1) (xor false (a.2.2.1 == b.2.2.1)) false) (xor false (a.2.2.2 == b.2.2.2)) false)
    ((Equal56 k a.2.1 b.2.1).bind fun t29 =>
    some t29.1)
    (some false)) fun t30 =>
  some (t30, ())
def sameWay22.A : Ann := { conds := [], blocks := [], loops := [], keeps := [2, 3], orders := [] }
def sameWay22.S : Sig := { f := 22, params := [.st (.pair (.int .i64) (.pair (.sl (.int .i64)) (.pair .bool .bool))), .st (.pair (.int .i64) (.pair (.sl (.int .i64)) (.pair .bool .bool)))], objs := [], res := .bool, outs := [], fix := [], run := fun k ds os => sameWay22 k ds.1 ds.2 }
def sameWay22.G : List Sig := [Equal56.S]
theorem sameWay22.eq (k : Nat) : ∀ ds os, sameWay22.S.run k ds os = runF ⟨types, sameWay22.G, sameWay22.A, k, 0, []⟩ Tryz.f22 (codeOf Tryz.f22) sameWay22.S.params sameWay22.S.objs sameWay22.S.res sameWay22.S.outs ds os := by
  intro ds os; kernel_rfl
theorem sameWay22.dr : DrOk Tryz.prog sameWay22.A (codeOf Tryz.f22) := ⟨by kernel_rfl, by kernel_rfl⟩
theorem sameWay22.ok (k : Nat) : SoundAt Tryz.prog k sameWay22.S :=
  runF_sound (X := ⟨types, sameWay22.G, sameWay22.A, k, 0, []⟩) types_ok (mem_all (⟨Equal56.ok k, trivial⟩)) (fn := Tryz.f22) (c := codeOf Tryz.f22) rfl (by kernel_rfl) rfl rfl sameWay22.dr (sameWay22.eq k)
end Go.Proofs.YtcppmlgnceldmaaGreat.Fl

/- Go functions as plain Lean functions, and their contracts. -/
set_option linter.unusedVariables false
set_option maxRecDepth 100000
noncomputable section
namespace Go.Proofs.YtcppmlgnceldmaaGreat.Fl
open Go Go.Proofs.YtcppmlgnceldmaaGreat.Gp
def FlowNexts4 (k : Nat) (c : (ByteArray × ((List (Int × (ByteArray × (Int × (List (Int × (Int × (Int × (List (Int × (Int × (Int × Int)))))))))))) × ((List (Int × (Int × (Int × (List (Int × (Int × (Int × Int)))))))) × ((List (Int × (Int × (Int × (List (Int × (Int × (Int × Int)))))))) × (List (Int × (Int × (Int × (List (Int × (Int × (Int × Int))))))))))))) (code : (Int × ((List Int) × (List (ByteArray × Int))))) (addr : Int) : Option (Bool × Unit) :=
  (FlowFault17 k c code).bind fun t13 =>
  (Next18 k c code addr).bind fun t18 =>
  (led19 k).bind fun t21 =>
  Option.bind (cond (!t21.1)
    (some true)
    ((Check20 k c code).bind fun t26 =>
    some (t26.1 != t13.1))) fun t29 =>
  cond t29
    (some (false, ()))
    (Option.bind
      (cond (t13.1 == 0)
        ((NextWay21 k c code addr).bind fun t36 =>
        some (t36.1.2.1, t18.1.1, (), t36.1.1))
        (some (t13.1, t18.1.1, (), 0, [], false, false)) : Option (Int × ((Int × ((List Int) × (Bool × Bool))) × (Unit × (Int × ((List Int) × (Bool × Bool))))))) fun ((f, w, _, o1) : (Int × ((Int × ((List Int) × (Bool × Bool))) × (Unit × (Int × ((List Int) × (Bool × Bool))))))) =>
    Option.bind (cond (t18.1.2.1 == f)
      ((sameWay22 k w o1).bind fun t45 =>
      some t45.1)
      (some false)) fun t46 =>
    some (t46, ()))
def FlowNexts4.A : Ann := { conds := [(2031623, ⟨[(7, .int .i64), (8, .fp (.st (.pair (.int .i64) (.pair (.sl (.int .i64)) (.pair .bool .bool))))), (10, .ptr 1 [])], [(1, .var (.st (.pair (.int .i64) (.pair (.sl (.int .i64)) (.pair .bool .bool)))))], 2, [], 545460846720⟩)], blocks := [], loops := [], keeps := [3, 4, 8], orders := [] }
def FlowNexts4.S : Sig := { f := 4, params := [.st (.pair .str (.pair (.sl (.st (.pair (.int .i64) (.pair .str (.pair (.int .i64) (.sl (.st (.pair (.int .i64) (.pair (.int .i64) (.pair (.int .i64) (.sl (.st (.pair (.int .i64) (.pair (.int .i64) (.pair (.int .i64) (.int .i64)))))))))))))))) (.pair (.sl (.st (.pair (.int .i64) (.pair (.int .i64) (.pair (.int .i64) (.sl (.st (.pair (.int .i64) (.pair (.int .i64) (.pair (.int .i64) (.int .i64))))))))))) (.pair (.sl (.st (.pair (.int .i64) (.pair (.int .i64) (.pair (.int .i64) (.sl (.st (.pair (.int .i64) (.pair (.int .i64) (.pair (.int .i64) (.int .i64))))))))))) (.sl (.st (.pair (.int .i64) (.pair (.int .i64) (.pair (.int .i64) (.sl (.st (.pair (.int .i64) (.pair (.int .i64) (.pair (.int .i64) (.int .i64))))))))))))))), .st (.pair (.int .i64) (.pair (.sl (.int .u8)) (.sl (.st (.pair .str (.int .i64)))))), .int .i64], objs := [], res := .bool, outs := [], fix := [], run := fun k ds os => FlowNexts4 k ds.1 ds.2.1 ds.2.2 }
def FlowNexts4.G : List Sig := [Check20.S, FlowFault17.S, Next18.S, NextWay21.S, led19.S, sameWay22.S]
theorem FlowNexts4.eq (k : Nat) : ∀ ds os, FlowNexts4.S.run k ds os = runF ⟨types, FlowNexts4.G, FlowNexts4.A, k, 0, []⟩ Tryz.f4 (codeOf Tryz.f4) FlowNexts4.S.params FlowNexts4.S.objs FlowNexts4.S.res FlowNexts4.S.outs ds os := by
  intro ds os; kernel_rfl
theorem FlowNexts4.dr : DrOk Tryz.prog FlowNexts4.A (codeOf Tryz.f4) := ⟨by kernel_rfl, by kernel_rfl⟩
theorem FlowNexts4.ok (k : Nat) : SoundAt Tryz.prog k FlowNexts4.S :=
  runF_sound (X := ⟨types, FlowNexts4.G, FlowNexts4.A, k, 0, []⟩) types_ok (mem_all (⟨Check20.ok k, ⟨FlowFault17.ok k, ⟨Next18.ok k, ⟨NextWay21.ok k, ⟨led19.ok k, ⟨sameWay22.ok k, trivial⟩⟩⟩⟩⟩⟩)) (fn := Tryz.f4) (c := codeOf Tryz.f4) rfl (by kernel_rfl) rfl rfl FlowNexts4.dr (FlowNexts4.eq k)

def Clone98' (k : Nat) (s : (List (Int × (Int × (Int × Int))))) : Option ((List (Int × (Int × (Int × Int)))) × Unit) :=
  orNil (List.length s)
    (cond true
      (some ([], ()))
      ((if room (0 + List.length s) 32 then some () else none).bind fun _ =>
      some (s, ())))
    (cond false
      (some ([], ()))
      ((if room (0 + List.length s) 32 then some () else none).bind fun _ =>
      some (s, ())))
def Clone98'.A : Ann := { conds := [], blocks := [], loops := [], keeps := [], orders := [] }
def Clone98'.S : Sig := { f := 98, params := [.sl (.st (.pair (.int .i64) (.pair (.int .i64) (.pair (.int .i64) (.int .i64)))))], objs := [], res := .sl (.st (.pair (.int .i64) (.pair (.int .i64) (.pair (.int .i64) (.int .i64))))), outs := [], fix := [], run := fun k ds os => Clone98' k ds }
def Clone98'.G : List Sig := []
theorem Clone98'.eq (k : Nat) : ∀ ds os, Clone98'.S.run k ds os = runF ⟨types, Clone98'.G, Clone98'.A, k, 0, []⟩ Tryz.f98 (codeOf Tryz.f98) Clone98'.S.params Clone98'.S.objs Clone98'.S.res Clone98'.S.outs ds os := by
  intro ds os; kernel_rfl
theorem Clone98'.dr : DrOk Tryz.prog Clone98'.A (codeOf Tryz.f98) := ⟨by kernel_rfl, by kernel_rfl⟩
theorem Clone98'.ok (k : Nat) : SoundAt Tryz.prog k Clone98'.S :=
  runF_sound (X := ⟨types, Clone98'.G, Clone98'.A, k, 0, []⟩) types_ok (fun s hs => absurd hs List.not_mem_nil) (fn := Tryz.f98) (c := codeOf Tryz.f98) rfl (by kernel_rfl) rfl rfl Clone98'.dr (Clone98'.eq k)

end Go.Proofs.YtcppmlgnceldmaaGreat.Fl

/- What is left of a Go function, in the long run: rounds, loops, lists, numbers. No program in sight. -/
set_option linter.unusedVariables false
noncomputable section
namespace Go.Proofs.YtcppmlgnceldmaaGreat.Gp
open Go

/-- from some fuel on, f answers v -/
def Ev {α : Type} (f : Nat → Option α) (v : α) : Prop := ∃ n, ∀ k, n ≤ k → f k = some v
/-- .. a loop, from some fuel on and with enough rounds -/
def Lp {S R : Type} (body : Nat → S → Option (S ⊕ R)) (s : S) (r : R) : Prop := ∃ n m, ∀ k, n ≤ k → ∀ j, m ≤ j → loopN (body k) j s = some r

theorem Ev.ex {α : Type} {f : Nat → Option α} {v : α} (h : Ev f v) : ∃ k, f k = some v := by
  obtain ⟨n, h⟩ := h
  exact ⟨n, h n (Nat.le_refl _)⟩
theorem Ev.now {α : Type} (v : α) : Ev (fun _ => some v) v := ⟨0, fun _ _ => rfl⟩
theorem Ev.now' {α : Type} {v w : α} (h : v = w) : Ev (fun _ => some v) w := h ▸ .now v
/-- what hangs on no fuel -/
theorem Ev.const {α : Type} {o : Option α} {v : α} (h : o = some v) : Ev (fun _ => o) v := ⟨0, fun _ _ => h⟩
theorem Ev.to {α : Type} {f : Nat → Option α} {v w : α} (h : Ev f v) (e : v = w) : Ev f w := e ▸ h
theorem Ev.of {α : Type} {f g : Nat → Option α} {v : α} (h : Ev f v) (e : ∀ k, g k = f k) : Ev g v := by
  obtain ⟨n, h⟩ := h
  exact ⟨n, fun k hk => (e k).trans (h k hk)⟩
theorem Ev.bind {α β : Type} {f : Nat → Option α} {g : Nat → α → Option β} {a : α} {b : β} (h : Ev f a) (h2 : Ev (fun k => g k a) b) : Ev (fun k => (f k).bind (g k)) b := by
  obtain ⟨n, h⟩ := h
  obtain ⟨m, h2⟩ := h2
  refine ⟨max n m, fun k hk => ?_⟩
  show (f k).bind (g k) = _
  rw [h k (by omega)]
  exact h2 k (by omega)
/-- a value that hangs on no fuel -/
theorem Ev.val {α β : Type} {o : Option α} {g : Nat → α → Option β} {a : α} {b : β} (h : o = some a) (h2 : Ev (fun k => g k a) b) : Ev (fun k => o.bind (g k)) b := by
  subst h
  exact h2
theorem Ev.joinL {S α β : Type} {f : Nat → Option (α ⊕ β)} {g : Nat → α → Option β} {a : α} {b : β} (h : Ev f (.inl a)) (h2 : Ev (fun k => g k a) b) : Ev (fun k => (f k).bind (joined (g k))) b :=
  Ev.bind (g := fun k => joined (g k)) h h2
theorem Ev.joinR {α β : Type} {f : Nat → Option (α ⊕ β)} {g : Nat → α → Option β} {b : β} (h : Ev f (.inr b)) : Ev (fun k => (f k).bind (joined (g k))) b :=
  Ev.bind (g := fun k => joined (g k)) h (.now b)
/-- a join: how it came, and what follows -/
theorem Ev.join {α β : Type} {f : Nat → Option (α ⊕ β)} {g : Nat → α → Option β} {s : α ⊕ β} {b : β} (h : Ev f s) (h1 : ∀ a, s = .inl a → Ev (fun k => g k a) b) (h2 : ∀ r, s = .inr r → r = b) : Ev (fun k => (f k).bind (joined (g k))) b := by
  cases s with
  | inl a => exact Ev.bind (g := fun k => joined (g k)) h (h1 a rfl)
  | inr r => exact Ev.bind (g := fun k => joined (g k)) h (.now' (h2 r rfl))
theorem Ev.cnd {α : Type} {c : Bool} {f g : Nat → Option α} {v : α} (h1 : c = true → Ev f v) (h2 : c = false → Ev g v) : Ev (fun k => cond c (f k) (g k)) v := by
  cases c with
  | true => exact h1 rfl
  | false => exact h2 rfl
theorem Ev.yes {α : Type} {c : Bool} {f g : Nat → Option α} {v : α} (hc : c = true) (h : Ev f v) : Ev (fun k => cond c (f k) (g k)) v := by rw [hc]; exact h
theorem Ev.no {α : Type} {c : Bool} {f g : Nat → Option α} {v : α} (hc : c = false) (h : Ev g v) : Ev (fun k => cond c (f k) (g k)) v := by rw [hc]; exact h
theorem Ev.map {α β : Type} {f : Nat → Option α} {g : α → β} {a : α} (h : Ev f a) : Ev (fun k => (f k).map g) (g a) := by
  obtain ⟨n, h⟩ := h
  exact ⟨n, fun k hk => by show (f k).map g = _; rw [h k hk]; rfl⟩

theorem Lp.ev {S R : Type} {body : Nat → S → Option (S ⊕ R)} {s : S} {r : R} (h : Lp body s r) : Ev (fun k => loopN (body k) k s) r := by
  obtain ⟨n, m, h⟩ := h
  exact ⟨max n m, fun k hk => h k (by omega) k (by omega)⟩
theorem Lp.done {S R : Type} {body : Nat → S → Option (S ⊕ R)} {s : S} {r : R} (h : Ev (fun k => body k s) (.inr r)) : Lp body s r := by
  obtain ⟨n, h⟩ := h
  refine ⟨n, 1, fun k hk j hj => ?_⟩
  obtain ⟨j, rfl⟩ : ∃ i, j = i + 1 := ⟨j - 1, by omega⟩
  show (body k s).bind _ = _
  rw [show body k s = _ from h k hk]
  rfl
theorem Lp.step {S R : Type} {body : Nat → S → Option (S ⊕ R)} {s s' : S} {r : R} (h : Ev (fun k => body k s) (.inl s')) (h2 : Lp body s' r) : Lp body s r := by
  obtain ⟨n, h⟩ := h
  obtain ⟨n2, m, h2⟩ := h2
  refine ⟨max n n2, m + 1, fun k hk j hj => ?_⟩
  obtain ⟨j, rfl⟩ : ∃ i, j = i + 1 := ⟨j - 1, by omega⟩
  show (body k s).bind _ = _
  rw [show body k s = _ from h k (by omega)]
  exact h2 k (by omega) j (by omega)

/-- a walk over a list, that may end early -/
def walk {α β R : Type} (f : β → α → β ⊕ R) (fin : β → R) : List α → β → R
  | [], b => fin b
  | x :: l, b => match f b x with | .inl b' => walk f fin l b' | .inr r => r
theorem walk_cons {α β R : Type} {f : β → α → β ⊕ R} {fin : β → R} {x : α} {l : List α} {b : β} : walk f fin (x :: l) b = match f b x with | .inl b' => walk f fin l b' | .inr r => r := rfl

/-- a loop over a list by its index: 'st b i' is the loop's state -/
theorem Lp.walk {α β S R : Type} {body : Nat → S → Option (S ⊕ R)} (l : List α) (st : β → Int → S) (f : β → α → β ⊕ R) (fin : β → R) (Inv : Nat → β → Prop)
    (hs : ∀ i x b, l[i]? = some x → Inv i b → Ev (fun k => body k (st b i)) (match f b x with | .inl b' => .inl (st b' ((i : Int) + 1)) | .inr r => .inr r) ∧ ∀ b', f b x = .inl b' → Inv (i + 1) b')
    (hd : ∀ b, Inv l.length b → Ev (fun k => body k (st b l.length)) (.inr (fin b))) {b : β} (h0 : Inv 0 b) : Lp body (st b 0) (walk f fin l b) := by
  have key : ∀ (suf pre : List α) (b : β), l = pre ++ suf → Inv pre.length b → Lp body (st b (pre.length : Int)) (Gp.walk f fin suf b) := by
    intro suf
    induction suf with
    | nil =>
      intro pre b h hi
      rw [List.append_nil] at h
      subst h
      exact .done (hd b hi)
    | cons x suf ih =>
      intro pre b h hi
      have hx : l[pre.length]? = some x := by rw [h]; simp
      obtain ⟨h1, h2⟩ := hs pre.length x b hx hi
      rw [walk_cons]
      cases hf : f b x with
      | inr r => rw [hf] at h1; exact .done h1
      | inl b' =>
        rw [hf] at h1
        refine .step h1 ?_
        have := ih (pre ++ [x]) b' (by rw [h]; simp) (by simpa using h2 b' hf)
        simpa using this
  exact key l [] b rfl h0
/-- .. that always goes to its end -/
theorem Lp.fold {α β S R : Type} {body : Nat → S → Option (S ⊕ R)} (l : List α) (st : β → Int → S) (f : β → α → β) (fin : β → R) (Inv : Nat → β → Prop)
    (hs : ∀ i x b, l[i]? = some x → Inv i b → Ev (fun k => body k (st b i)) (.inl (st (f b x) ((i : Int) + 1))) ∧ Inv (i + 1) (f b x))
    (hd : ∀ b, Inv l.length b → Ev (fun k => body k (st b l.length)) (.inr (fin b))) {b : β} (h0 : Inv 0 b) : Lp body (st b 0) (fin (l.foldl f b)) := by
  have := Lp.walk (body := body) l st (fun b x => .inl (f b x)) fin Inv (fun i x b hx hi => ⟨(hs i x b hx hi).1, fun b' hb => by cases hb; exact (hs i x b hx hi).2⟩) hd h0
  have e : ∀ (l : List α) (b : β), Gp.walk (fun b x => (.inl (f b x) : β ⊕ R)) fin l b = fin (l.foldl f b) := by
    intro l
    induction l with
    | nil => intro b; rfl
    | cons x l ih => intro b; rw [walk_cons, List.foldl_cons]; exact ih _
  rwa [e] at this
/-- a loop that counts from 0 to n -/
theorem Lp.count {β S R : Type} {body : Nat → S → Option (S ⊕ R)} (n : Nat) (st : β → Int → S) (f : β → Nat → β) (fin : β → R) (Inv : Nat → β → Prop)
    (hs : ∀ i b, i < n → Inv i b → Ev (fun k => body k (st b i)) (.inl (st (f b i) ((i : Int) + 1))) ∧ Inv (i + 1) (f b i))
    (hd : ∀ b, Inv n b → Ev (fun k => body k (st b n)) (.inr (fin b))) {b : β} (h0 : Inv 0 b) : Lp body (st b 0) (fin ((List.range n).foldl f b)) := by
  refine Lp.fold (List.range n) st f fin Inv (fun i x b hx hi => ?_) (fun b hb => ?_) h0
  · obtain ⟨h1, h2⟩ := List.getElem?_eq_some_iff.1 hx
    rw [List.getElem_range] at h2
    subst h2
    exact hs i b (by simpa using h1) hi
  · rw [List.length_range] at hb ⊢
    exact hd b hb

-- numbers
theorem w64_id {x : Int} (h0 : -9223372036854775808 ≤ x) (h1 : x ≤ 9223372036854775807) : w64 x = x := by
  show IntKind.wrap .i64 x = x
  have e : (2 : Int) ^ (64 - 1) = 9223372036854775808 := by decide
  have e2 : (2 : Int) ^ 64 = 18446744073709551616 := by decide
  simp only [IntKind.wrap, IntKind.signed, IntKind.bits, Bool.true_and, decide_eq_true_eq, e, e2]
  split <;> omega
theorem w64_nat {n : Nat} (h : n ≤ 9223372036854775807) : w64 (n : Int) = n := w64_id (by omega) (by omega)
theorem w64_succ {n : Nat} (h : n < 9223372036854775807) : w64 ((n : Int) + 1) = ((n + 1 : Nat) : Int) := by rw [w64_id (by omega) (by omega)]; omega
theorem rd_nat {α : Type} (l : List α) (i : Nat) : rd l (i : Int) = l[i]? := by
  unfold rd
  rw [if_pos (by omega)]
  rfl
theorem rd_some' {α : Type} {l : List α} {i : Nat} {x : α} (h : l[i]? = some x) : rd l (i : Int) = some x := by rw [rd_nat, h]
theorem rd_at {α : Type} {l : List α} {z : Int} {i : Nat} {x : α} (hz : z = i) (h : l[i]? = some x) : rd l z = some x := by rw [hz, rd_nat, h]
theorem room_ok {n b : Nat} (h : n * b ≤ 140737488355328) : room n b = true := Nat.ble_eq_true_of_le h
theorem get_lt {α : Type} {l : List α} {i : Nat} {x : α} (h : l[i]? = some x) : i < l.length := (List.getElem?_eq_some_iff.1 h).1
theorem get_mem {α : Type} {l : List α} {i : Nat} {x : α} (h : l[i]? = some x) : x ∈ l := List.mem_of_getElem? h
theorem slc_ok {α : Type} {l : List α} {a b : Nat} (h1 : a ≤ b) (h2 : b ≤ l.length) : slc l (a : Int) (b : Int) = some ((l.take b).drop a) := by
  unfold slc
  rw [if_pos ⟨by omega, by omega, by omega⟩]
  simp
theorem eqB_iff {k : K} (hc : k.cmp = true) {x y : k.den} : eqB k x y = true ↔ x = y := ⟨eqB_eq hc, fun h => by rw [h]; exact eqB_refl hc⟩
theorem streq_iff {a b : ByteArray} : streq a b = true ↔ a = b := ⟨streq_eq, fun h => by rw [h]; exact streq_refl b⟩
theorem lit_wf {k : Int} (h : (Lit.int .i64 k).wf = true) : -9223372036854775808 ≤ k ∧ k ≤ 9223372036854775807 := by
  simp [Lit.wf, IntKind.min, IntKind.max, IntKind.signed, IntKind.bits] at h
  omega

-- bits
theorem wrap64_nat {n : Nat} (h : n < 9223372036854775808) : IntKind.wrap .i64 (n : Int) = n := w64_nat (by omega)
theorem bv_nat (a : Nat) : BitVec.ofInt 64 (a : Int) = BitVec.ofNat 64 a := BitVec.ofInt_natCast 64 a
theorem shrI_nat {a j : Nat} (hj : j ≤ 64) : shrI .i64 (a : Int) (j : Int) = ((a / 2 ^ j : Nat) : Int) := by
  unfold shrI
  simp only [IntKind.bits, Int.toNat_natCast]
  rw [Nat.min_eq_left hj, show ((2 : Int) ^ j) = ((2 ^ j : Nat) : Int) by simp, Int.fdiv_eq_ediv_of_nonneg _ (Int.natCast_nonneg _)]
  simp

-- maps
end Go.Proofs.YtcppmlgnceldmaaGreat.Gp

/- More fuel, no other answer. -/
set_option linter.unusedVariables false
noncomputable section
namespace Go.Proofs.YtcppmlgnceldmaaGreat.Gp
open Go

def Mono {α : Type} (f : Nat → Option α) : Prop := ∀ k j v, k ≤ j → f k = some v → f j = some v
theorem Mono.ev {α : Type} {f : Nat → Option α} (h : Mono f) {n : Nat} {v : α} (e : f n = some v) : Ev f v := ⟨n, fun k hk => h n k v hk e⟩
theorem Mono.const {α : Type} (o : Option α) : Mono (fun _ => o) := fun _ _ _ _ h => h
theorem Mono.bind {α β : Type} {f : Nat → Option α} {g : Nat → α → Option β} (h : Mono f) (h2 : ∀ a, Mono (fun k => g k a)) : Mono (fun k => (f k).bind (g k)) := by
  intro k j v hk he
  obtain ⟨a, ha, hb⟩ := Option.bind_eq_some_iff.1 he
  exact Option.bind_eq_some_iff.2 ⟨a, h k j a hk ha, h2 a k j v hk hb⟩
theorem Mono.cond {α : Type} {c : Bool} {f g : Nat → Option α} (h : Mono f) (h2 : Mono g) : Mono (fun k => cond c (f k) (g k)) := by
  cases c
  · exact h2
  · exact h
theorem Mono.joined {α β : Type} {f : Nat → Option (α ⊕ β)} {g : Nat → α → Option β} (h : Mono f) (h2 : ∀ a, Mono (fun k => g k a)) : Mono (fun k => (f k).bind (joined (g k))) :=
  Mono.bind (g := fun k => Gp.joined (g k)) h (fun a => by
    cases a with
    | inl a => exact h2 a
    | inr b => exact Mono.const _)
theorem Mono.loop {S R : Type} {body : Nat → S → Option (S ⊕ R)} {s : S} (h : ∀ s, Mono (fun k => body k s)) : Mono (fun k => loopN (body k) k s) := by
  have key : ∀ (n : Nat) (k j m : Nat) (s : S) (v : R), k ≤ j → n ≤ m → loopN (body k) n s = some v → loopN (body j) m s = some v := by
    intro n
    induction n with
    | zero => intro k j m s v _ _ he; cases he
    | succ n ih =>
      intro k j m s v hk hm he
      obtain ⟨m, rfl⟩ : ∃ i, m = i + 1 := ⟨m - 1, by omega⟩
      obtain ⟨a, ha, hb⟩ := Option.bind_eq_some_iff.1 (show (body k s).bind _ = some v from he)
      refine Option.bind_eq_some_iff.2 ⟨a, h s k j a hk ha, ?_⟩
      cases a with
      | inl s' => exact ih k j m s' v hk (by omega) hb
      | inr r => exact hb
  intro k j v hk he
  exact key k k j j s v hk hk he
theorem Mono.agree {α : Type} {f g : Nat → Option α} (h : Mono f) (h2 : Mono g) : Mono (fun k => agree (f k) (g k)) := by
  intro k j v hk he
  obtain ⟨a, b⟩ := agree_some he
  show Gp.agree (f j) (g j) = some v
  rw [h k j v hk a, h2 k j v hk b]
  exact agree_self _
theorem Mono.orNil {α : Type} {n : Nat} {f g : Nat → Option α} (h : Mono f) (h2 : Mono g) : Mono (fun k => orNil n (f k) (g k)) := by
  intro k j v hk he
  obtain ⟨a, b⟩ := orNil_some he
  have h3 := h2 k j v hk a
  show Gp.orNil n (f j) (g j) = some v
  rw [orNil_same (fun e => by rw [h3, h k j v hk (b e)])]
  exact h3
theorem Mono.prod {α β γ : Type} {f : Nat → α × β → Option γ} (h : ∀ a b, Mono (fun k => f k (a, b))) : ∀ x, Mono (fun k => f k x) := fun x => by
  obtain ⟨a, b⟩ := x
  exact h a b
end Go.Proofs.YtcppmlgnceldmaaGreat.Gp

/- What is left of a Go function answers, and its answer has a property. No program in sight. -/
set_option linter.unusedVariables false
noncomputable section
namespace Go.Proofs.YtcppmlgnceldmaaGreat.Gp
open Go

def Tot {α : Type} (f : Nat → Option α) (P : α → Prop) : Prop := ∃ v, Ev f v ∧ P v
theorem Tot.ret {α : Type} {P : α → Prop} {v : α} (h : P v) : Tot (fun _ => some v) P := ⟨v, .now _, h⟩
theorem Tot.of {α : Type} {P : α → Prop} {f : Nat → Option α} {v : α} (h : Ev f v) (hp : P v) : Tot f P := ⟨v, h, hp⟩
theorem Tot.mono {α : Type} {P Q : α → Prop} {f : Nat → Option α} (h : Tot f P) (hp : ∀ v, P v → Q v) : Tot f Q := by
  obtain ⟨v, h1, h2⟩ := h
  exact ⟨v, h1, hp v h2⟩
theorem Tot.bind {α β : Type} {P : α → Prop} {Q : β → Prop} {f : Nat → Option α} {g : Nat → α → Option β} (h : Tot f P) (h2 : ∀ a, P a → Tot (fun k => g k a) Q) : Tot (fun k => (f k).bind (g k)) Q := by
  obtain ⟨a, h, ha⟩ := h
  obtain ⟨b, h2, hb⟩ := h2 a ha
  exact ⟨b, h.bind h2, hb⟩
theorem Tot.val {α β : Type} {Q : β → Prop} {o : Option α} {g : Nat → α → Option β} {a : α} (h : o = some a) (h2 : Tot (fun k => g k a) Q) : Tot (fun k => o.bind (g k)) Q := by
  subst h
  exact h2
theorem Tot.ask {β : Type} {Q : β → Prop} {c : Prop} [Decidable c] {g : Nat → Unit → Option β} (hc : c) (h2 : Tot (fun k => g k ()) Q) : Tot (fun k => (if c then some () else none).bind (g k)) Q := Tot.val (if_pos hc) h2
theorem Tot.cnd {α : Type} {P : α → Prop} {c : Bool} {f g : Nat → Option α} (h1 : c = true → Tot f P) (h2 : c = false → Tot g P) : Tot (fun k => cond c (f k) (g k)) P := by
  cases c with
  | true => exact h1 rfl
  | false => exact h2 rfl
theorem Tot.join {α β : Type} {P : α ⊕ β → Prop} {Q : β → Prop} {f : Nat → Option (α ⊕ β)} {g : Nat → α → Option β} (h : Tot f P) (h1 : ∀ a, P (.inl a) → Tot (fun k => g k a) Q) (h2 : ∀ b, P (.inr b) → Q b) : Tot (fun k => (f k).bind (joined (g k))) Q := by
  obtain ⟨v, h, hv⟩ := h
  cases v with
  | inl a =>
    obtain ⟨b, h3, hb⟩ := h1 a hv
    exact ⟨b, Ev.joinL (S := Unit) h h3, hb⟩
  | inr b => exact ⟨b, h.joinR, h2 b hv⟩
theorem Tot.read {α β : Type} {Q : β → Prop} {l : List α} {i : Int} {g : Nat → α → Option β} (h : 0 ≤ i ∧ i < (l.length : Int)) (h2 : ∀ a, l[i.toNat]? = some a → Tot (fun k => g k a) Q) : Tot (fun k => (rd l i).bind (g k)) Q := by
  have hlt : i.toNat < l.length := by omega
  have := List.getElem?_eq_getElem hlt
  exact Tot.val (rd_at (i := i.toNat) (by omega) this) (h2 _ this)
theorem Tot.ev {α : Type} {P : α → Prop} {f : Nat → Option α} (h : Tot f P) : ∃ v, Ev f v ∧ P v := h
/-- a loop over a list -/
theorem Tot.walk {α β S R : Type} {body : Nat → S → Option (S ⊕ R)} (l : List α) (st : β → Int → S) (Inv : β → Prop) (Q : R → Prop)
    (hs : ∀ (i : Nat) x b, l[i]? = some x → Inv b → Tot (fun k => body k (st b (i : Int))) (fun y => match y with | .inl s => ∃ b', s = st b' ((i : Int) + 1) ∧ Inv b' | .inr r => Q r))
    (hd : ∀ b, Inv b → Tot (fun k => body k (st b l.length)) (fun y => match y with | .inl s => False | .inr r => Q r)) {b : β} (h0 : Inv b) : Tot (fun k => loopN (body k) k (st b 0)) Q := by
  have key : ∀ (suf pre : List α) (b : β), l = pre ++ suf → Inv b → ∃ r, Lp body (st b (pre.length : Int)) r ∧ Q r := by
    intro suf
    induction suf with
    | nil =>
      intro pre b h hi
      rw [List.append_nil] at h
      subst h
      obtain ⟨y, h1, h2⟩ := hd b hi
      cases y with
      | inl s => exact h2.elim
      | inr r => exact ⟨r, .done h1, h2⟩
    | cons x suf ih =>
      intro pre b h hi
      have hx : l[pre.length]? = some x := by rw [h]; simp
      obtain ⟨y, h1, h2⟩ := hs pre.length x b hx hi
      cases y with
      | inr r => exact ⟨r, .done h1, h2⟩
      | inl s =>
        obtain ⟨b', rfl, hb'⟩ := h2
        obtain ⟨r, h3, h4⟩ := ih (pre ++ [x]) b' (by rw [h]; simp) hb'
        refine ⟨r, .step h1 ?_, h4⟩
        rw [List.length_append] at h3
        exact h3
  obtain ⟨r, h1, h2⟩ := key l [] b rfl h0
  exact ⟨r, h1.ev, h2⟩

/-- .. with what was seen so far -/
theorem Tot.walkI {α β S R : Type} {body : Nat → S → Option (S ⊕ R)} (l : List α) (st : β → Int → S) (Inv : Nat → β → Prop) (Q : R → Prop)
    (hs : ∀ (i : Nat) x b, l[i]? = some x → Inv i b → Tot (fun k => body k (st b (i : Int))) (fun y => match y with | .inl s => ∃ b', s = st b' ((i : Int) + 1) ∧ Inv (i + 1) b' | .inr r => Q r))
    (hd : ∀ b, Inv l.length b → Tot (fun k => body k (st b l.length)) (fun y => match y with | .inl s => False | .inr r => Q r)) {b : β} (h0 : Inv 0 b) : Tot (fun k => loopN (body k) k (st b 0)) Q := by
  have key : ∀ (suf pre : List α) (b : β), l = pre ++ suf → Inv pre.length b → ∃ r, Lp body (st b (pre.length : Int)) r ∧ Q r := by
    intro suf
    induction suf with
    | nil =>
      intro pre b h hi
      rw [List.append_nil] at h
      subst h
      obtain ⟨y, h1, h2⟩ := hd b hi
      cases y with
      | inl s => exact h2.elim
      | inr r => exact ⟨r, .done h1, h2⟩
    | cons x suf ih =>
      intro pre b h hi
      have hx : l[pre.length]? = some x := by rw [h]; simp
      obtain ⟨y, h1, h2⟩ := hs pre.length x b hx hi
      cases y with
      | inr r => exact ⟨r, .done h1, h2⟩
      | inl s =>
        obtain ⟨b', rfl, hb'⟩ := h2
        obtain ⟨r, h3, h4⟩ := ih (pre ++ [x]) b' (by rw [h]; simp) (by rw [List.length_append]; exact hb')
        refine ⟨r, .step h1 ?_, h4⟩
        rw [List.length_append] at h3
        exact h3
  obtain ⟨r, h1, h2⟩ := key l [] b rfl h0
  exact ⟨r, h1.ev, h2⟩

/-- all rows of numbers have nine -/
class Nin (α : Type) where
  p : α → Prop
instance : Nin Unit := ⟨fun _ => True⟩
instance : Nin Int := ⟨fun _ => True⟩
instance : Nin Bool := ⟨fun _ => True⟩
instance : Nin (List Int) := ⟨fun l => l.length = 9⟩
instance {α β : Type} [Nin α] [Nin β] : Nin (α × β) := ⟨fun x => Nin.p x.1 ∧ Nin.p x.2⟩
instance {α β : Type} [Nin α] [Nin β] : Nin (α ⊕ β) := ⟨fun x => match x with | .inl a => Nin.p a | .inr b => Nin.p b⟩
theorem Tot.prod {α β γ : Type} [Nin α] [Nin β] {Q : γ → Prop} {f : Nat → α × β → Option γ} (h : ∀ a, Nin.p a → ∀ b, Nin.p b → Tot (fun k => f k (a, b)) Q) : ∀ x : α × β, Nin.p x → Tot (fun k => f k x) Q := fun x hx => h x.1 hx.1 x.2 hx.2
/-- it answers -/
theorem Tot.bindT {α β : Type} {Q : β → Prop} {f : Nat → Option α} {g : Nat → α → Option β} (h : Tot f (fun _ => True)) (h2 : ∀ a, Tot (fun k => g k a) Q) : Tot (fun k => (f k).bind (g k)) Q := Tot.bind h (fun a _ => h2 a)
theorem Tot.any {α : Type} {P : α → Prop} {f : Nat → Option α} (h : Tot f P) : Tot f (fun _ => True) := h.mono fun _ _ => trivial
theorem Tot.prodT {α β γ : Type} {Q : γ → Prop} {f : Nat → α × β → Option γ} (h : ∀ a b, Tot (fun k => f k (a, b)) Q) : ∀ x : α × β, Tot (fun k => f k x) Q := fun x => h x.1 x.2
theorem Tot.joinT {α β : Type} {f : Nat → Option (α ⊕ β)} {g : Nat → α → Option β} (h : Tot f (fun _ => True)) (h1 : ∀ a, Tot (fun k => g k a) (fun _ => True)) : Tot (fun k => (f k).bind (Gp.joined (g k))) (fun _ => True) :=
  Tot.join (P := fun _ => True) h (fun a _ => h1 a) (fun _ _ => trivial)
end Go.Proofs.YtcppmlgnceldmaaGreat.Gp

/- What processors may do: the check. No program in sight. -/
set_option linter.unusedVariables false
set_option maxRecDepth 100000
noncomputable section
namespace Go.Proofs.YtcppmlgnceldmaaGreat.Fl
open Go Go.Proofs.YtcppmlgnceldmaaGreat.Gp

abbrev Stp4 := Int × Int × Int × Int
abbrev Cyc := Int × Int × Int × List Stp4
abbrev Ins := Int × ByteArray × Int × List Cyc
abbrev Cpu := ByteArray × List Ins × List Cyc × List Cyc × List Cyc
theorem ibits_low (n : Int) {j : Nat} (hj : j ≤ 62) : ibits .and .i64 n ((2 ^ j - 1 : Nat) : Int) = n % ((2 ^ j : Nat) : Int) := by
  have hp : 2 ^ j ≤ 2 ^ 62 := Nat.pow_le_pow_right (by decide) hj
  have hpos : 0 < 2 ^ j := Nat.pow_pos (by decide)
  have e62 : (2 : Nat) ^ 62 = 4611686018427387904 := by decide
  have e64 : (2 : Nat) ^ 64 = 18446744073709551616 := by decide
  show IntKind.wrap .i64 (((BitVec.ofInt 64 n &&& BitVec.ofInt 64 ((2 ^ j - 1 : Nat) : Int)).toNat : Nat) : Int) = _
  rw [bv_nat, BitVec.toNat_and, BitVec.toNat_ofNat, Nat.mod_eq_of_lt (by omega), BitVec.toNat_ofInt, Nat.and_two_pow_sub_one_eq_mod]
  have hlt : (n % (2 ^ 64 : Nat)).toNat % 2 ^ j < 2 ^ j := Nat.mod_lt _ hpos
  rw [wrap64_nat (by omega), Int.natCast_emod, Int.toNat_of_nonneg (Int.emod_nonneg _ (by rw [e64]; decide))]
  exact Int.emod_emod_of_dvd n (Int.natCast_dvd_natCast.2 (Nat.pow_dvd_pow 2 (by omega)))
theorem low8_ev (n : Int) : Ev (fun k => Low70 k n 8) (n % 256, ()) := by
  unfold Low70
  refine .val (a := (8, ())) rfl (.val (a := shlI .i64 1 8) rfl (.now' ?_))
  have := ibits_low n (j := 8) (by decide)
  exact congrArg (fun x => (x, ())) this
theorem low16_ev (n : Int) : Ev (fun k => Low70 k n 16) (n % 65536, ()) := by
  unfold Low70
  refine .val (a := (16, ())) rfl (.val (a := shlI .i64 1 16) rfl (.now' ?_))
  have := ibits_low n (j := 16) (by decide)
  exact congrArg (fun x => (x, ())) this
def Wcyc (l : List Cyc) : Prop := l.length * 48 ≤ 140737488351232 ∧ ∀ y ∈ l, y.2.2.2.length * 32 ≤ 140737488351232
/-- no row is too long -/
structure Wc (c : Cpu) : Prop where
  len : c.2.1.length * 56 ≤ 140737488351232
  ins : ∀ x ∈ c.2.1, Wcyc x.2.2.2
  res : Wcyc c.2.2.1
  irq : Wcyc c.2.2.2.1
  nmi : Wcyc c.2.2.2.2
theorem clone_ev (s : List Cyc) (h : s.length * 48 ≤ 140737488351232) : Ev (fun k => Clone122 k s) ((), s) := by
  unfold Clone122
  have e : (if room (0 + List.length s) 48 then some () else none : Option Unit) = some () := if_pos (room_ok (by omega))
  refine Ev.const ?_
  rw [orNil_same (fun h0 => ?_)]
  · show Option.bind _ _ = _
    rw [e]; rfl
  · have := List.length_eq_zero_iff.1 h0
    subst this
    rw [e]; rfl
theorem clones_ev (s : List Stp4) (h : s.length * 32 ≤ 140737488351232) : Ev (fun k => Clone98 k s) ((), s) := by
  unfold Clone98
  have e : (if room (0 + List.length s) 32 then some () else none : Option Unit) = some () := if_pos (room_ok (by omega))
  refine Ev.const ?_
  rw [orNil_same (fun h0 => ?_)]
  · show Option.bind _ _ = _
    rw [e]; rfl
  · have := List.length_eq_zero_iff.1 h0
    subst this
    rw [e]; rfl
theorem copies_ev (l : List Cyc) (h : Wcyc l) : Ev (fun k => copies85 k l) (l, ()) := by
  have hl := h.1
  unfold copies85
  refine .bind (clone_ev l hl) (.bind (a := ((), l)) (Lp.ev ?_) (.now _))
  have := Lp.count (body := fun k => copies85.l0 k ((), l)) l.length (fun (_ : Unit) i => ((), i, l)) (fun _ _ => ()) (fun _ => ((), l)) (fun _ _ => True) (fun i b hi _ => ⟨?_, trivial⟩) (fun b _ => ?_) (b := ()) trivial
  · exact this
  · obtain ⟨x, hx⟩ : ∃ x, l[i]? = some x := ⟨l[i], List.getElem?_eq_getElem hi⟩
    have hr := rd_some' hx
    simp only [copies85.l0]
    refine .yes (decide_eq_true (by omega)) (.val hr (.val hr (.bind (clones_ev x.2.2.2 (h.2 x (get_mem hx))) (.val hr (.val hr (.now' ?_))))))
    rw [w64_id (by omega) (by omega), Int.toNat_natCast]
    have : l.set i x = l := by
      obtain ⟨h1, h2⟩ := List.getElem?_eq_some_iff.1 hx
      rw [← h2]
      exact List.set_getElem_self h1
    show (Sum.inl ((), (i : Int) + 1, l.set i x) : _ ⊕ _) = _
    rw [this]
  · simp only [copies85.l0]
    exact .no (decide_eq_false (by show ¬ (l.length : Int) < (l.length : Int); omega)) (.now _)
theorem copy_ev (x : Ins) (h : Wcyc x.2.2.2) : Ev (fun k => Copy44 k x) (x, ()) := by
  unfold Copy44
  exact .bind (copies_ev _ h) (.now _)
def findI (c : Cpu) (op : Int) : Option Ins := c.2.1.find? (fun x => x.1 == op)
theorem idx_lp {c : Cpu} (hc : Wc c) (op : Int) : ∀ (suf pre : List Ins), c.2.1 = pre ++ suf → ∃ r, Lp (fun k => IndexFunc42'.l0 k c.2.1) ((op, ()), (pre.length : Int)) r ∧
    (match suf.find? (fun x => x.1 == op) with | none => r = .inl () | some x => ∃ j : Nat, r = .inr ((j : Int), ()) ∧ c.2.1[j]? = some x) := by
  have hl := hc.len
  intro suf
  induction suf with
  | nil =>
    intro pre h
    rw [List.append_nil] at h
    refine ⟨.inl (), .done ?_, rfl⟩
    simp only [IndexFunc42'.l0]
    exact .no (decide_eq_false (by rw [h]; omega)) (.now _)
  | cons x suf ih =>
    intro pre h
    have hx : c.2.1[pre.length]? = some x := by rw [h]; simp
    have hlt := get_lt hx
    cases hp : (x.1 == op) with
    | true =>
      refine ⟨.inr ((pre.length : Int), ()), .done ?_, ?_⟩
      · simp only [IndexFunc42'.l0]
        refine .yes (decide_eq_true (by omega)) (.val (rd_some' hx) (.bind (a := (true, ())) (.const ?_) (.yes rfl (.now _))))
        show some ((x.1 == op), ()) = _
        rw [hp]
      · rw [List.find?_cons_of_pos (by exact hp)]
        exact ⟨pre.length, rfl, hx⟩
    | false =>
      obtain ⟨r, h1, h2⟩ := ih (pre ++ [x]) (by rw [h]; simp)
      refine ⟨r, .step ?_ h1, ?_⟩
      · simp only [IndexFunc42'.l0]
        refine .yes (decide_eq_true (by omega)) (.val (rd_some' hx) (.bind (a := (false, ())) (.const ?_) (.no rfl (.now' ?_))))
        · show some ((x.1 == op), ()) = _
          rw [hp]
        · rw [w64_succ (by omega)]; simp
      · rw [List.find?_cons_of_neg (by rw [hp]; decide)]
        exact h2
def none4 : Ins := (0, ByteArray.mk #[], 0, [])
def findR (c : Cpu) (op : Int) : Ins × Bool × Unit := match findI c op with | some x => (x, true, ()) | none => (none4, false, ())
theorem find_ev {c : Cpu} (hc : Wc c) (op : Int) : Ev (fun k => Find11 k c op) (findR c op, ()) := by
  unfold Find11 IndexFunc42'
  obtain ⟨r, h1, h2⟩ := idx_lp hc op c.2.1 [] rfl
  unfold findR findI
  cases hf : c.2.1.find? (fun x => x.1 == op) with
  | none =>
    rw [hf] at h2
    subst h2
    exact .bind (.joinL (S := Unit) h1.ev (.now _)) (.yes rfl (.now _))
  | some x =>
    rw [hf] at h2
    obtain ⟨j, rfl, hj⟩ := h2
    exact .bind (.joinR h1.ev) (.no (decide_eq_false (by show ¬ (j : Int) < 0; omega)) (.val (rd_some' hj) (.bind (copy_ev x (hc.ins x (get_mem hj))) (.now _))))
/-- names are no longer than texts can be -/
def Wn (c : Cpu) : Prop := c.1.size ≤ 140737488351232 ∧ ∀ x ∈ c.2.1, x.2.1.size ≤ 140737488351232
theorem bytes_len (s : ByteArray) : (bytesOf s).length = s.size := by unfold bytesOf; rw [List.length_map, Array.length_toList]; rfl
theorem name_t (s : ByteArray) (h : s.size ≤ 140737488351232) : Tot (fun k => Name32 k s) (fun _ => True) := by
  unfold Name32
  have hl := bytes_len s
  have at0 : ∀ {β : Type} {Q : β → Prop} {g : Nat → Int → Option β}, ¬ streq s (ByteArray.mk #[]) = true → (∀ a, Tot (fun k => g k a) Q) → Tot (fun k => (rd (bytesOf s) 0).bind (g k)) Q := by
    intro β Q g hne hg
    refine .read ⟨by decide, ?_⟩ fun a _ => hg a
    rw [hl]
    by_cases h0 : s.size = 0
    · exfalso
      refine hne (streq_iff.2 ?_)
      cases s with
      | mk d =>
        have hd : d.size = 0 := h0
        have := Array.size_eq_zero_iff.1 hd
        rw [this]
    · omega
  refine .bind (P := fun b => b = false → ¬ streq s (ByteArray.mk #[]) = true) (.cnd (fun _ => .ret (fun h => by cases h)) (fun h => ?_)) fun t16 h16 => .bind (P := fun _ => True) (.cnd (fun _ => .ret trivial) (fun h => at0 (h16 h) fun a => .ret trivial)) fun t21 _ => .cnd (fun _ => .ret trivial) fun _ => .joinT ?_ (fun _ => .ret trivial)
  · have hne : ¬ streq s (ByteArray.mk #[]) = true := by
      intro h2
      rw [h2] at h
      cases h
    exact at0 hne fun a => .ret (fun _ => hne)
  · refine Tot.walk (body := fun k => Name32.l0 k s) (bytesOf s) (fun (_ : Unit) i => ((), i, bytesOf s)) (fun _ => True) _ (fun i x b hx _ => ?_) (fun b _ => ?_) (b := ()) trivial
    · have hi := get_lt hx
      simp only [Name32.l0]
      refine .cnd (fun _ => .val (rd_some' hx) (.val (rd_some' hx) (.cnd (fun _ => .ret trivial) (fun _ => .ret ⟨(), ?_, trivial⟩)))) (fun h => absurd (of_decide_eq_false h) (by omega))
      rw [w64_id (by omega) (by omega)]
    · simp only [Name32.l0]
      exact .cnd (fun h => absurd (of_decide_eq_true h) (by omega)) (fun _ => .ret trivial)
theorem size_t (m : Int) : Tot (fun k => Size33 k m) (fun _ => True) := by unfold Size33; repeat' (first | with_reducible exact Tot.ret trivial | with_reducible refine Tot.cnd ?_ ?_ | with_reducible refine Tot.bindT ?_ ?_ | with_reducible refine Tot.prodT ?_ | intro _ | (dsimp only))
theorem operand_t {l : List Cyc} (h : Wcyc l) : Tot (fun k => operand37 k l) (fun _ => True) := by
  have hl := h.1
  unfold operand37
  refine .bindT ?_ fun _ => .ret trivial
  refine Tot.walk (body := fun k => operand37.l0 k l) l (fun (n : Int) i => (n, i)) (fun _ => True) _ (fun i x b hx _ => ?_) (fun b _ => ?_) (b := 0) trivial
  · have hi := get_lt hx
    simp only [operand37.l0]
    refine .cnd (fun _ => .val (rd_some' hx) (.bindT (.cnd (fun _ => .ret trivial) (fun _ => .ret trivial)) fun n => .ret ⟨n, ?_, trivial⟩)) (fun h => absurd (of_decide_eq_false h) (by omega))
    rw [w64_id (by omega) (by omega)]
  · simp only [operand37.l0]
    exact .cnd (fun h => absurd (of_decide_eq_true h) (by omega)) (fun _ => .ret trivial)
theorem there_t {s : List Ins} (h : s.length * 56 ≤ 140737488351232) (f : Ins) : Tot (fun k => ContainsFunc34 k s (f, ())) (fun _ => True) := by
  unfold ContainsFunc34 IndexFunc42
  refine .bindT (.joinT ?_ (fun _ => .ret trivial)) fun _ => .ret trivial
  refine Tot.walk (body := fun k => IndexFunc42.l0 k s) s (fun (_ : Unit) i => ((f, ()), i)) (fun _ => True) _ (fun i x b hx _ => ?_) (fun b _ => ?_) (b := ()) trivial
  · have hi := get_lt hx
    simp only [IndexFunc42.l0]
    refine .cnd (fun _ => .val (rd_some' hx) (.bindT (by unfold Check135; exact .ret trivial) fun v => .cnd (fun _ => .ret trivial) (fun _ => .ret ⟨(), ?_, trivial⟩))) (fun h => absurd (of_decide_eq_false h) (by omega))
    rw [w64_id (by omega) (by omega)]
  · simp only [IndexFunc42.l0]
    exact .cnd (fun h => absurd (of_decide_eq_true h) (by omega)) (fun _ => .ret trivial)
theorem size_in {m : Int} (h : 0 ≤ m ∧ m ≤ 8) : ∃ n : Nat, n ≤ 2 ∧ Ev (fun k => Size33 k m) ((n : Int), ()) ∧ rd ([0, 1, 1, 1, 2, 2, 2, 1, 1] : List Int) m = some (n : Int) := by
  have : m = 0 ∨ m = 1 ∨ m = 2 ∨ m = 3 ∨ m = 4 ∨ m = 5 ∨ m = 6 ∨ m = 7 ∨ m = 8 := by omega
  rcases this with rfl | rfl | rfl | rfl | rfl | rfl | rfl | rfl | rfl
  · exact ⟨0, by decide, .const rfl, rfl⟩
  · exact ⟨1, by decide, .const rfl, rfl⟩
  · exact ⟨1, by decide, .const rfl, rfl⟩
  · exact ⟨1, by decide, .const rfl, rfl⟩
  · exact ⟨2, by decide, .const rfl, rfl⟩
  · exact ⟨2, by decide, .const rfl, rfl⟩
  · exact ⟨2, by decide, .const rfl, rfl⟩
  · exact ⟨1, by decide, .const rfl, rfl⟩
  · exact ⟨1, by decide, .const rfl, rfl⟩
theorem size_out {m : Int} (h : ¬ (0 ≤ m ∧ m ≤ 8)) : Ev (fun k => Size33 k m) (-1, ()) := by
  have f : ∀ c : Int, 0 ≤ c ∧ c ≤ 8 → (m == c) = false := fun c hc => by simpa using (by omega : ¬ m = c)
  have h0 := f 0 (by decide)
  have h1 := f 1 (by decide)
  have h2 := f 2 (by decide)
  have h3 := f 3 (by decide)
  have h4 := f 4 (by decide)
  have h5 := f 5 (by decide)
  have h6 := f 6 (by decide)
  have h7 := f 7 (by decide)
  have h8 := f 8 (by decide)
  unfold Size33
  simp only [h0, h1, h2, h3, h4, h5, h6, h7, h8]
  exact .const rfl
theorem size_tt (m : Int) : Tot (fun k => Size33 k m) (fun v => 0 ≤ v.1 → 0 ≤ m ∧ m ≤ 8) := by
  by_cases h : 0 ≤ m ∧ m ≤ 8
  · obtain ⟨n, _, e, _⟩ := size_in h
    exact .of e fun _ => h
  · exact .of (size_out h) fun h => absurd h (by decide)
-- what a right step may be
def wd (i : Int) : Bool := cond (i == 7) true (i == 8)
def inR (i : Int) : Bool := cond (decide (i ≥ 0)) (decide (i < 9)) false
theorem inR_iff {i : Int} (h : inR i = true) : 0 ≤ i ∧ i < 9 := by
  unfold inR at h
  by_cases h0 : i ≥ 0
  · rw [decide_eq_true h0] at h
    exact ⟨h0, of_decide_eq_true h⟩
  · rw [decide_eq_false h0] at h; cases h
theorem wide_ev (i : Int) : Ev (fun k => Wide102 k i) (wd i, ()) := .now _
theorem reg_ev (i : Int) : Ev (fun k => register101 k i) (inR i, ()) := .now _
theorem Ev.two {α : Type} {c : Bool} {f g : Nat → Option α} {x y : α} (h1 : Ev f x) (h2 : Ev g y) : Ev (fun k => cond c (f k) (g k)) (cond c x y) := by
  cases c with
  | true => exact h1
  | false => exact h2
def fitsV (i need : Int) : Bool := cond (need == 0) (i == 0) (cond (need == 119) (cond (inR i) (wd i) false) (cond (need == 98) (cond (inR i) (!wd i) false) (inR i)))
theorem fits_ev (i need : Int) : Ev (fun k => fits139 k i need) (fitsV i need, ()) := by
  unfold fits139 fitsV
  cases need == 0 with
  | true => exact .now _
  | false =>
    cases need == 119 with
    | true =>
      refine .bind (a := cond (inR i) (wd i) false) ?_ (.now _)
      refine Ev.two ?_ (.now _)
      exact .bind (wide_ev i) (.now _)
    | false =>
      cases need == 98 with
      | true =>
        refine .bind (a := cond (inR i) (!wd i) false) ?_ (.now _)
        refine Ev.two ?_ (.now _)
        exact .bind (wide_ev i) (.now _)
      | false =>
        exact .now _
abbrev UsV := Int × Int × Bool × Unit
def mostV (d to : Int) (n : Bool) : Int := cond (!n) 0 (cond (cond (cond (d == 2) (inR to) false) (wd to) false) 65535 255)
structure Core (d to fr n : Int) (U : UsV) : Prop where
  hto : fitsV to U.1 = true
  hfr : fitsV fr U.2.1 = true
  same : U.1 = 115 → wd to = wd fr
  low : 0 ≤ n
  most : n ≤ mostV d to U.2.2.1
theorem core_t (d to fr n : Int) (U : UsV) (hu : Ev (fun k => uses138 k d) (U, ())) (h24 : d ≠ 24) : Tot (fun k => step103 k (d, to, fr, n)) (fun v => v.1 = 0 → Core d to fr n U) := by
  unfold step103
  refine .cnd (fun _ => .ret (by intro h; cases h)) fun _ => .cnd (fun h => absurd (by simpa using h) h24) fun _ => .bind (P := fun v => v = (U, ())) (.of hu rfl) fun u hu' => ?_
  subst hu'
  refine .bind (P := fun v => v = cond (d == 2) (inR to) false) (.of (Ev.two (.bind (reg_ev to) (.now _)) (.now _)) rfl) fun v hv => ?_
  subst hv
  refine .bind (P := fun v => v = cond (cond (d == 2) (inR to) false) (wd to) false) (.of (Ev.two (.bind (wide_ev to) (.now _)) (.now _)) rfl) fun v hv => ?_
  subst hv
  refine .bind (P := fun v => v = ((d, to, fr, n), cond (cond (cond (d == 2) (inR to) false) (wd to) false) 65535 255)) (.of ?_ rfl) fun v hv => ?_
  · cases cond (cond (d == 2) (inR to) false) (wd to) false with
    | true => exact .now _
    | false => exact .now _
  subst hv
  refine .bind (P := fun v => v = ((d, to, fr, n), mostV d to U.2.2.1)) (.of ?_ rfl) fun v hv => ?_
  · unfold mostV
    cases U.2.2.1 with
    | true => exact .now _
    | false => exact .now _
  subst hv
  refine .bind (P := fun v => v = (fitsV to U.1, ())) (.of (fits_ev to U.1) rfl) fun v hv => ?_
  subst hv
  refine .bind (P := fun v => v = cond (!fitsV to U.1) true (!fitsV fr U.2.1)) (.of (Ev.two (.now _) (.bind (fits_ev fr U.2.1) (.now _))) rfl) fun v hv => ?_
  subst hv
  refine .bind (P := fun v => v = cond (cond (!fitsV to U.1) true (!fitsV fr U.2.1)) true (cond (U.1 == 115) (xor true (wd to == wd fr)) false)) (.of (Ev.two (.now _) (.bind (Ev.two (.bind (wide_ev to) (.bind (wide_ev fr) (.now _))) (.now _)) (.now _))) rfl) fun v hv => ?_
  subst hv
  refine .cnd (fun _ => .ret (by intro h; cases h)) fun hc => .ret fun _ => ?_
  have orF : ∀ {a b : Bool}, cond a true b = false → a = false ∧ b = false := fun {a b} h => by cases a <;> cases b <;> first | exact ⟨rfl, rfl⟩ | cases h
  obtain ⟨hc, h1⟩ := orF hc
  obtain ⟨hc, h2⟩ := orF hc
  obtain ⟨hc, h3⟩ := orF hc
  obtain ⟨h4, h5⟩ := orF hc
  refine ⟨by simpa using h4, by simpa using h5, fun h => ?_, by have h : ¬ n < 0 := of_decide_eq_false h2; omega, by have h : ¬ n > mostV d to U.2.2.1 := of_decide_eq_false h1; omega⟩
  rw [h] at h3
  cases hx : wd to <;> cases hy : wd fr <;> rw [hx, hy] at h3 <;> first | rfl | cases h3
/-- a right step -/
structure OkS (s : Stp4) : Prop where
  d : 0 ≤ s.1 ∧ s.1 < 25
  to : s.1 ≠ 24 → 0 ≤ s.2.1 ∧ s.2.1 < 9
  fr : s.1 ≠ 24 → 0 ≤ s.2.2.1 ∧ s.2.2.1 < 9
  move : s.1 = 1 → wd s.2.1 = wd s.2.2.1
  lit : s.1 = 2 → 0 ≤ s.2.2.2 ∧ s.2.2.2 ≤ cond (wd s.2.1) 65535 255
  wb : s.1 = 18 ∨ s.1 = 19 ∨ s.1 = 22 ∨ s.1 = 23 → wd s.2.1 = true ∧ wd s.2.2.1 = false
  bw : s.1 = 20 ∨ s.1 = 21 → wd s.2.1 = false ∧ wd s.2.2.1 = true
theorem fitsV_in {i need : Int} (h : fitsV i need = true) : 0 ≤ i ∧ i < 9 := by
  unfold fitsV at h
  cases h0 : need == 0 with
  | true =>
    rw [h0] at h
    have : i = 0 := by simpa using h
    omega
  | false =>
    rw [h0] at h
    refine inR_iff ?_
    cases h1 : need == 119 <;> cases h2 : need == 98 <;> cases hr : inR i <;> rw [h1, h2, hr] at h <;> first | rfl | (simp at h; done)
theorem step_ok (s : Stp4) : Tot (fun k => step103 k s) (fun v => v.1 = 0 → OkS s) := by
  obtain ⟨d, to, fr, n⟩ := s
  by_cases hd : ¬ (0 ≤ d ∧ d < 25)
  · unfold step103
    refine .cnd (fun _ => .ret (by intro h; cases h)) fun h => ?_
    exfalso
    refine hd ?_
    by_cases h0 : d < 0
    · have : cond (decide (d < 0)) true (decide (d ≥ 25)) = true := by rw [decide_eq_true h0]; rfl
      rw [show ((d, to, fr, n) : Stp4).1 = d from rfl, this] at h; cases h
    · rw [show ((d, to, fr, n) : Stp4).1 = d from rfl, decide_eq_false h0] at h
      have h : ¬ d ≥ 25 := of_decide_eq_false h
      omega
  have hd : 0 ≤ d ∧ d < 25 := by omega
  by_cases h24 : d = 24
  · subst h24
    unfold step103
    refine .cnd (fun _ => .ret (by intro h; cases h)) fun _ => .cnd (fun _ => .cnd (fun _ => .ret (by intro h; cases h)) fun _ => .ret fun _ => ?_) (fun h => by cases h)
    exact ⟨hd, fun h => absurd rfl h, fun h => absurd rfl h, fun h => absurd h (by show ¬ (24 : Int) = 1; decide), fun h => absurd h (by show ¬ (24 : Int) = 2; decide), fun h => absurd h (by show ¬ ((24 : Int) = 18 ∨ (24 : Int) = 19 ∨ (24 : Int) = 22 ∨ (24 : Int) = 23); decide), fun h => absurd h (by show ¬ ((24 : Int) = 20 ∨ (24 : Int) = 21); decide)⟩
  have go : ∀ (U : UsV), Ev (fun k => uses138 k d) (U, ()) → (d = 1 → U.1 = 115) → (d = 2 → U.2.2.1 = true) → (d = 18 ∨ d = 19 ∨ d = 22 ∨ d = 23 → U.1 = 119 ∧ U.2.1 = 98) → (d = 20 ∨ d = 21 → U.1 = 98 ∧ U.2.1 = 119) → Tot (fun k => step103 k (d, to, fr, n)) (fun v => v.1 = 0 → OkS (d, to, fr, n)) := fun U hu g1 g2 g3 g4 => by
    refine (core_t d to fr n U hu h24).mono fun v hv h0 => ?_
    have c := hv h0
    have wF : ∀ {i : Int}, fitsV i 119 = true → wd i = true := fun {i} h => by
      have h : cond (inR i) (wd i) false = true := h
      cases hr : inR i <;> rw [hr] at h
      · cases h
      · exact h
    have bF : ∀ {i : Int}, fitsV i 98 = true → wd i = false := fun {i} h => by
      have h : cond (inR i) (!wd i) false = true := h
      cases hr : inR i <;> rw [hr] at h
      · cases h
      · simpa using h
    refine ⟨hd, fun _ => fitsV_in c.hto, fun _ => fitsV_in c.hfr, fun h => c.same (g1 h), fun h => ⟨c.low, ?_⟩, fun h => ?_, fun h => ?_⟩
    · have h : d = 2 := h
      have hm := c.most
      rw [g2 h, h] at hm
      have hm : n ≤ cond (cond (inR to) (wd to) false) 65535 255 := hm
      show n ≤ cond (wd to) 65535 255
      cases hr : inR to <;> cases hw : wd to <;> rw [hr, hw] at hm <;> simp at hm ⊢ <;> omega
    · obtain ⟨e1, e2⟩ := g3 h
      have h1 := c.hto
      have h2 := c.hfr
      rw [e1] at h1
      rw [e2] at h2
      exact ⟨wF h1, bF h2⟩
    · obtain ⟨e1, e2⟩ := g4 h
      have h1 := c.hto
      have h2 := c.hfr
      rw [e1] at h1
      rw [e2] at h2
      exact ⟨bF h1, wF h2⟩
  have hh : d = 0 ∨ d = 1 ∨ d = 2 ∨ d = 3 ∨ d = 4 ∨ d = 5 ∨ d = 6 ∨ d = 7 ∨ d = 8 ∨ d = 9 ∨ d = 10 ∨ d = 11 ∨ d = 12 ∨ d = 13 ∨ d = 14 ∨ d = 15 ∨ d = 16 ∨ d = 17 ∨ d = 18 ∨ d = 19 ∨ d = 20 ∨ d = 21 ∨ d = 22 ∨ d = 23 := by omega
  rcases hh with rfl | rfl | rfl | rfl | rfl | rfl | rfl | rfl | rfl | rfl | rfl | rfl | rfl | rfl | rfl | rfl | rfl | rfl | rfl | rfl | rfl | rfl | rfl | rfl
  · exact go (0, 0, false, ()) (.const rfl) (by decide) (by decide) (by decide) (by decide)
  · exact go (115, 115, false, ()) (.const rfl) (by decide) (by decide) (by decide) (by decide)
  · exact go (97, 0, true, ()) (.const rfl) (by decide) (by decide) (by decide) (by decide)
  · exact go (98, 0, false, ()) (.const rfl) (by decide) (by decide) (by decide) (by decide)
  · exact go (98, 98, false, ()) (.const rfl) (by decide) (by decide) (by decide) (by decide)
  · exact go (98, 98, false, ()) (.const rfl) (by decide) (by decide) (by decide) (by decide)
  · exact go (98, 98, false, ()) (.const rfl) (by decide) (by decide) (by decide) (by decide)
  · exact go (98, 98, false, ()) (.const rfl) (by decide) (by decide) (by decide) (by decide)
  · exact go (98, 98, false, ()) (.const rfl) (by decide) (by decide) (by decide) (by decide)
  · exact go (98, 98, false, ()) (.const rfl) (by decide) (by decide) (by decide) (by decide)
  · exact go (97, 0, false, ()) (.const rfl) (by decide) (by decide) (by decide) (by decide)
  · exact go (97, 0, false, ()) (.const rfl) (by decide) (by decide) (by decide) (by decide)
  · exact go (98, 0, false, ()) (.const rfl) (by decide) (by decide) (by decide) (by decide)
  · exact go (98, 0, false, ()) (.const rfl) (by decide) (by decide) (by decide) (by decide)
  · exact go (98, 0, false, ()) (.const rfl) (by decide) (by decide) (by decide) (by decide)
  · exact go (98, 0, false, ()) (.const rfl) (by decide) (by decide) (by decide) (by decide)
  · exact go (0, 0, true, ()) (.const rfl) (by decide) (by decide) (by decide) (by decide)
  · exact go (0, 0, true, ()) (.const rfl) (by decide) (by decide) (by decide) (by decide)
  · exact go (119, 98, false, ()) (.const rfl) (by decide) (by decide) (by decide) (by decide)
  · exact go (119, 98, false, ()) (.const rfl) (by decide) (by decide) (by decide) (by decide)
  · exact go (98, 119, false, ()) (.const rfl) (by decide) (by decide) (by decide) (by decide)
  · exact go (98, 119, false, ()) (.const rfl) (by decide) (by decide) (by decide) (by decide)
  · exact go (119, 98, false, ()) (.const rfl) (by decide) (by decide) (by decide) (by decide)
  · exact go (119, 98, false, ()) (.const rfl) (by decide) (by decide) (by decide) (by decide)
end Go.Proofs.YtcppmlgnceldmaaGreat.Fl

/- What right processors are. No program in sight. -/
set_option linter.unusedVariables false
set_option maxRecDepth 100000
noncomputable section
namespace Go.Proofs.YtcppmlgnceldmaaGreat.Fl
open Go Go.Proofs.YtcppmlgnceldmaaGreat.Gp

structure OkC (c : Cyc) : Prop where
  bus : 0 ≤ c.1 ∧ c.1 ≤ 2
  at' : 0 ≤ c.2.1 ∧ c.2.1 < 12
  reg : 0 ≤ c.2.2.1 ∧ c.2.2.1 < 9
  low : wd c.2.2.1 = false
  len : c.2.2.2.length ≤ 6
  steps : ∀ s ∈ c.2.2.2, OkS s
structure OkL (l : List Cyc) : Prop where
  len : l.length ≤ 8
  ok : ∀ c ∈ l, OkC c
theorem cycle_ok (c : Cyc) (hw : c.2.2.2.length * 32 ≤ 140737488351232) : Tot (fun k => cycle73 k c) (fun v => v.1 = 0 → OkC c) := by
  have orF : ∀ {a b : Bool}, cond a true b = false → a = false ∧ b = false := fun {a b} h => by cases a <;> cases b <;> first | exact ⟨rfl, rfl⟩ | cases h
  unfold cycle73
  refine .cnd (fun _ => .ret (by intro h; cases h)) fun hb => .cnd (fun _ => .ret (by intro h; cases h)) fun _ => ?_
  obtain ⟨b1, b2⟩ := orF hb
  have b1 := of_decide_eq_false b1
  have b2 := of_decide_eq_false b2
  refine .bind (P := fun v => v = cond (cond (decide (c.2.1 < 0)) true (decide (c.2.1 ≥ 12))) true (!inR c.2.2.1)) (.of (Ev.two (.now _) (.bind (reg_ev c.2.2.1) (.now _))) rfl) fun v hv => ?_
  subst hv
  refine .bind (P := fun v => v = cond (cond (cond (decide (c.2.1 < 0)) true (decide (c.2.1 ≥ 12))) true (!inR c.2.2.1)) true (wd c.2.2.1)) (.of (Ev.two (.now _) (.bind (wide_ev c.2.2.1) (.now _))) rfl) fun v hv => ?_
  subst hv
  refine .cnd (fun _ => .ret (by intro h; cases h)) fun h1 => .cnd (fun _ => .ret (by intro h; cases h)) fun h2 => ?_
  obtain ⟨h1, h3⟩ := orF h1
  obtain ⟨h1, h4⟩ := orF h1
  obtain ⟨h5, h6⟩ := orF h1
  have h5 := of_decide_eq_false h5
  have h6 := of_decide_eq_false h6
  have h2 := of_decide_eq_false h2
  have hr := inR_iff (i := c.2.2.1) (by simpa using h4)
  refine .join (P := fun y => match y with | .inl _ => ∀ s ∈ c.2.2.2, OkS s | .inr v => v.1 ≠ 0) ?_ (fun _ hs => .ret fun _ => ⟨by omega, by omega, hr, h3, by omega, hs⟩) (fun _ h h0 => absurd h0 h)
  refine Tot.walkI (body := fun k => cycle73.l0 k c) c.2.2.2 (fun (_ : Unit) i => i) (fun i _ => ∀ (j : Nat) s, j < i → c.2.2.2[j]? = some s → OkS s) _ (fun i x b hx hI => ?_) (fun b hI => ?_) (b := ()) (fun j x hj => absurd hj (Nat.not_lt_zero _))
  · have hi := get_lt hx
    simp only [cycle73.l0]
    refine .cnd (fun _ => .val (rd_some' hx) (.bind (step_ok x) fun v hv => .cnd (fun h => .ret (by simpa using h)) (fun h => .ret ⟨(), ?_, fun j s hj hs => ?_⟩))) (fun h => absurd (of_decide_eq_false h) (by omega))
    · rw [w64_id (by omega) (by omega)]
    · by_cases hji : j = i
      · subst hji
        rw [hx] at hs
        cases hs
        exact hv (by simpa using h)
      · exact hI j s (by omega) hs
  · simp only [cycle73.l0]
    refine .cnd (fun h => absurd (of_decide_eq_true h) (by omega)) (fun _ => .ret fun s hs => ?_)
    obtain ⟨j, hj⟩ := List.mem_iff_getElem?.1 hs
    exact hI j s (get_lt hj) hj
theorem cycs_ok {l : List Cyc} (h : Wcyc l) : Tot (fun k => cycles36 k l) (fun v => v.1 = 0 → OkL l) := by
  have hl := h.1
  unfold cycles36
  refine .cnd (fun _ => .ret (by intro h; cases h)) fun h8 => .join (P := fun y => match y with | .inl _ => ∀ s ∈ l, OkC s | .inr v => v.1 ≠ 0) ?_ (fun _ hs => .ret fun _ => ⟨by have := of_decide_eq_false h8; omega, hs⟩) (fun _ h h0 => absurd h0 h)
  refine Tot.walkI (body := fun k => cycles36.l0 k l) l (fun (_ : Unit) i => i) (fun i _ => ∀ (j : Nat) s, j < i → l[j]? = some s → OkC s) _ (fun i x b hx hI => ?_) (fun b hI => ?_) (b := ()) (fun j x hj => absurd hj (Nat.not_lt_zero _))
  · have hi := get_lt hx
    simp only [cycles36.l0]
    refine .cnd (fun _ => .val (rd_some' hx) (.bind (cycle_ok x (h.2 x (get_mem hx))) fun v hv => .cnd (fun h => .ret (by simpa using h)) (fun h => .ret ⟨(), ?_, fun j s hj hs => ?_⟩))) (fun h => absurd (of_decide_eq_false h) (by omega))
    · rw [w64_id (by omega) (by omega)]
    · by_cases hji : j = i
      · subst hji
        rw [hx] at hs
        cases hs
        exact hv (by simpa using h)
      · exact hI j s (by omega) hs
  · simp only [cycles36.l0]
    refine .cnd (fun h => absurd (of_decide_eq_true h) (by omega)) (fun _ => .ret fun s hs => ?_)
    obtain ⟨j, hj⟩ := List.mem_iff_getElem?.1 hs
    exact hI j s (get_lt hj) hj
/-- a right instruction -/
structure OkI (x : Ins) : Prop where
  op : 0 ≤ x.1 ∧ x.1 ≤ 255
  mode : 0 ≤ x.2.2.1 ∧ x.2.2.1 ≤ 8
  cyc : OkL x.2.2.2
theorem check_ok {c : Cpu} (hc : Wc c) (hn : Wn c) : Tot (fun k => Check8 k c) (fun v => v.1 = 0 → ∀ x ∈ c.2.1, OkI x) := by
  have hl := hc.len
  have orF : ∀ {a b : Bool}, cond a true b = false → a = false ∧ b = false := fun {a b} h => by cases a <;> cases b <;> first | exact ⟨rfl, rfl⟩ | cases h
  unfold Check8
  refine .bindT (name_t _ hn.1) fun _ => .cnd (fun _ => .ret (fun h => by cases h)) fun _ => .cnd (fun _ => .ret (fun h => by cases h)) fun _ => .join (P := fun y => match y with | .inl y => y = c ∧ ∀ x ∈ c.2.1, OkI x | .inr v => v.1 ≠ 0) ?_ (fun c2 h2 => ?_) (fun _ h h0 => absurd h0 h)
  · refine Tot.walkI (body := fun k => Check8.l0 k c) c.2.1 (fun (_ : Unit) i => (c, i)) (fun i _ => ∀ (j : Nat) x, j < i → c.2.1[j]? = some x → OkI x) _ (fun i x b hx hI => ?_) (fun b hI => ?_) (b := ()) (fun j x hj => absurd hj (Nat.not_lt_zero _))
    · have hi := get_lt hx
      have hm := get_mem hx
      simp only [Check8.l0]
      refine .cnd (fun _ => .val (rd_some' hx) (.cnd (fun _ => .ret (show (1 : Int) ≠ 0 by decide)) fun hop => .bindT (.cnd (fun h => ?_) (fun _ => .ret trivial)) fun _ => .cnd (fun _ => .ret (show (9 : Int) ≠ 0 by decide)) fun _ => .bindT (name_t _ (hn.2 x hm)) fun _ => .cnd (fun _ => .ret (show (15 : Int) ≠ 0 by decide)) fun _ => .bind (size_tt _) fun sz hsz => .cnd (fun _ => .ret (show (8 : Int) ≠ 0 by decide)) fun hneg =>
        .val (a := (c.2.1.take i).drop 0) (slc_ok (a := 0) (Nat.zero_le _) (by omega)) (.bindT (there_t (by rw [List.drop_zero, List.length_take]; omega) x) fun _ => .cnd (fun _ => .ret (show (5 : Int) ≠ 0 by decide)) fun _ => .bind (cycs_ok (hc.ins x hm)) fun cy hcy0 => .cnd (fun hcy => .ret (by simpa using hcy)) fun hcy => .bindT (operand_t (hc.ins x hm)) fun _ => .bindT (size_t _) fun _ => .cnd (fun _ => .ret (show (3 : Int) ≠ 0 by decide)) fun _ => .ret ⟨(), ?_, fun j y hj hy => ?_⟩))) (fun h => absurd (of_decide_eq_false h) (by omega))
      · have h := of_decide_eq_true h
        rw [w64_id (by omega) (by omega)]
        exact .read ⟨by omega, by omega⟩ fun a _ => .ret trivial
      · rw [w64_id (by omega) (by omega)]
      · by_cases hji : j = i
        · subst hji
          rw [hx] at hy
          cases hy
          have hg : ¬ sz.1 < 0 := of_decide_eq_false hneg
          obtain ⟨o1, o2⟩ := orF hop
          have o1 := of_decide_eq_false o1
          have o2 := of_decide_eq_false o2
          exact ⟨⟨by omega, by omega⟩, hsz (by omega), hcy0 (by simpa using hcy)⟩
        · exact hI j y (by omega) hy
    · simp only [Check8.l0]
      refine .cnd (fun h => absurd (of_decide_eq_true h) (by omega)) (fun _ => .ret ⟨rfl, fun x hx => ?_⟩)
      obtain ⟨j, hj⟩ := List.mem_iff_getElem?.1 hx
      exact hI j x (get_lt hj) hj
  · obtain ⟨h2, hmode⟩ := h2
    subst h2
    refine .join (P := fun y => match y with | .inl _ => True | .inr v => v.1 ≠ 0) ?_ (fun _ _ => .ret fun _ => hmode) (fun _ h h0 => absurd h0 h)
    refine Tot.walk (body := fun k => Check8.l1 k c2) [c2.2.2.1, c2.2.2.2.1, c2.2.2.2.2] (fun (_ : Unit) i => ((), i, [c2.2.2.1, c2.2.2.2.1, c2.2.2.2.2])) (fun _ => True) _ (fun i x b hx _ => ?_) (fun b _ => ?_) (b := ()) trivial
    · have hi : i < 3 := get_lt hx
      have hw : Wcyc x := by
        have hm := get_mem hx
        simp only [List.mem_cons, List.not_mem_nil, or_false] at hm
        rcases hm with rfl | rfl | rfl
        · exact hc.res
        · exact hc.irq
        · exact hc.nmi
      simp only [Check8.l1]
      refine .cnd (fun _ => .val (rd_some' hx) (.val (rd_some' hx) (.bindT (cycs_ok hw).any fun v => .cnd (fun hv => .ret (by simpa using hv)) (fun _ => .ret ⟨(), ?_, trivial⟩)))) (fun h => absurd (of_decide_eq_false h) (by show ¬ ¬ (i : Int) < ((3 : Nat) : Int); omega))
      rw [w64_id (by omega) (by omega)]
    · simp only [Check8.l1]
      exact .cnd (fun h => absurd (of_decide_eq_true h) (by show ¬ ((3 : Nat) : Int) < ((3 : Nat) : Int); omega)) (fun _ => .ret trivial)
/-- what both checks of a processor and a program say -/
structure OkP (c : Cpu) (code : Int × List Int × List (ByteArray × Int)) : Prop where
  ins : ∀ x ∈ c.2.1, OkI x
  len : code.2.1.length ≤ 65536
  base : 0 ≤ code.1 ∧ code.1 ≤ 65536 - (code.2.1.length : Int)
theorem fault_ok {c : Cpu} (hc : Wc c) (hn : Wn c) (code : Int × List Int × List (ByteArray × Int)) : ∃ e : Int, Ev (fun k => FlowFault17 k c code) (e, ()) ∧ Ev (fun k => Check20 k c code) (e, ()) ∧ (e = 0 → OkP c code) := by
  have orF : ∀ {a b : Bool}, cond a true b = false → a = false ∧ b = false := fun {a b} h => by cases a <;> cases b <;> first | exact ⟨rfl, rfl⟩ | cases h
  obtain ⟨v, hv, hp⟩ := check_ok hc hn
  unfold FlowFault17 Check20
  by_cases h0 : v.1 = 0
  · by_cases h1 : (code.2.1.length : Int) > 4096
    · exact ⟨2, .bind hv (.no (by rw [h0]; rfl) (.yes (decide_eq_true h1) (.now _))), .bind hv (.no (by rw [h0]; rfl) (.yes (decide_eq_true h1) (.now _))), fun h => by cases h⟩
    · have hw : w64 (65536 - (code.2.1.length : Int)) = 65536 - (code.2.1.length : Int) := w64_id (by omega) (by omega)
      cases hb : cond (decide (code.1 < 0)) true (decide (code.1 > (w64 (65536 - (code.2.1.length : Int))))) with
      | true => exact ⟨1, .bind hv (.no (by rw [h0]; rfl) (.no (decide_eq_false h1) (.yes rfl (.now _)))), .bind hv (.no (by rw [h0]; rfl) (.no (decide_eq_false h1) (.yes rfl (.now _)))), fun h => by cases h⟩
      | false =>
        refine ⟨0, .bind hv (.no (by rw [h0]; rfl) (.no (decide_eq_false h1) (.no rfl (.now _)))), .bind hv (.no (by rw [h0]; rfl) (.no (decide_eq_false h1) (.no rfl (.now _)))), fun _ => ⟨hp h0, by omega, ?_⟩⟩
        obtain ⟨b1, b2⟩ := orF hb
        have b1 := of_decide_eq_false b1
        have b2 := of_decide_eq_false b2
        rw [hw] at b2
        omega
  · exact ⟨v.1, .bind hv (.yes (bne_iff_ne.2 h0) (.now _)), .bind hv (.yes (bne_iff_ne.2 h0) (.now _)), fun h => absurd h h0⟩
end Go.Proofs.YtcppmlgnceldmaaGreat.Fl

/- What is known of registers: the program's. No program in sight. -/
set_option linter.unusedVariables false
set_option maxRecDepth 100000
noncomputable section
namespace Go.Proofs.YtcppmlgnceldmaaGreat.Fl
open Go Go.Proofs.YtcppmlgnceldmaaGreat.Gp

/-- what is known of each register: its two bytes -/
abbrev Rg := Nat → Option Nat × Option Nat
abbrev Nums := List (Int × Int)
abbrev Cod := Int × List Int × List (ByteArray × Int)
abbrev RunU := Cod × Nums × Unit
def eP : Option Nat → Int
  | none => -1
  | some n => (n : Int)
def wdN (i : Nat) : Bool := wd (i : Int)
def wholeA (A : Rg) (i : Nat) : Option Nat := if wdN i = true then (match (A i).1, (A i).2 with | some l, some h => some (l + 256 * h) | _, _ => none) else (A i).1
def putA (A : Rg) (i : Nat) (x : Option Nat × Option Nat) : Rg := fun j => if j = i then x else A j
def setA (A : Rg) (i : Nat) (v : Option Nat) : Rg := putA A i (v.map (· % 256), v.map (fun n => n / 256 % 256))
def addA (A : Rg) (i : Nat) (b : Int) : Rg := setA A i ((wholeA A i).map fun n => (((n : Int) + b) % 65536).toNat)
def By (v : Option Nat) : Prop := ∀ n, v = some n → n < 256
def Inv (A : Rg) : Prop := ∀ i, By (A i).1 ∧ By (A i).2
theorem by_none : By none := fun n h => by cases h
theorem by_mod {v : Option Nat} {f : Nat → Nat} : By (v.map fun n => f n % 256) := fun n h => by
  cases v with
  | none => cases h
  | some m => cases h; exact Nat.mod_lt _ (by decide)
theorem Inv.put {A : Rg} (h : Inv A) (i : Nat) {x : Option Nat × Option Nat} (h1 : By x.1) (h2 : By x.2) : Inv (putA A i x) := fun j => by
  unfold putA
  split
  · exact ⟨h1, h2⟩
  · exact h j
theorem Inv.set {A : Rg} (h : Inv A) (i : Nat) (v : Option Nat) : Inv (setA A i v) := h.put i (by_mod (f := fun n => n)) (by_mod (f := fun n => n / 256))
theorem Inv.add {A : Rg} (h : Inv A) (i : Nat) (b : Int) : Inv (addA A i b) := h.set i _
theorem whole_lt {A : Rg} (h : Inv A) {i n : Nat} (hn : wholeA A i = some n) : n < 65536 := by
  unfold wholeA at hn
  obtain ⟨h1, h2⟩ := h i
  split at hn
  · split at hn
    · rename_i l hh e1 e2
      cases hn
      have := h1 l e1
      have := h2 hh e2
      omega
    · cases hn
  · have := h1 n hn
    omega
theorem narrow_lt {A : Rg} (h : Inv A) {i n : Nat} (hw : wdN i = false) (hn : wholeA A i = some n) : n < 256 := by
  unfold wholeA at hn
  rw [if_neg (by rw [hw]; decide)] at hn
  exact (h i).1 n hn
/-- the program's registers -/
structure RelP (A : Rg) (r : Nums) : Prop where
  len : r.length = 9
  reg : ∀ i, i < 9 → r[i]? = some (eP (A i).1, if wdN i = true then eP (A i).2 else 0)
theorem RelP.put {A : Rg} {r : Nums} (h : RelP A r) {i : Nat} (hi : i < 9) {x : Option Nat × Option Nat} {y : Int × Int} (hy : y = (eP x.1, if wdN i = true then eP x.2 else 0)) : RelP (putA A i x) (r.set i y) := by
  refine ⟨by rw [List.length_set]; exact h.len, fun j hj => ?_⟩
  unfold putA
  by_cases hji : j = i
  · subst hji
    rw [if_pos rfl, List.getElem?_set_self (by rw [h.len]; exact hi), hy]
  · rw [if_neg hji, List.getElem?_set_ne (fun e => hji e.symm)]
    exact h.reg j hj
theorem shr8 {n : Nat} (h : n < 65536) : shrI .i64 ((n : Nat) : Int) 8 = ((n / 256 : Nat) : Int) := shrI_nat (j := 8) (by decide)
theorem low62_ev (n : Nat) (h : n < 65536) : Ev (fun k => Low70 k (n : Int) 62) ((n : Int), ()) := by
  unfold Low70
  refine .val (a := (62, ())) rfl (.val (a := shlI .i64 1 62) rfl (.now' ?_))
  have := ibits_low (n : Int) (j := 62) (by decide)
  have e : (2 : Nat) ^ 62 = 4611686018427387904 := by decide
  refine congrArg (fun x => (x, ())) (this.trans ?_)
  rw [e]; omega
theorem get_ev (n : Nat) (h : n < 65536) : Ev (fun k => Get123 k (n : Int) 8 8) (((n / 256 % 256 : Nat) : Int), ()) := by
  unfold Get123
  refine .val (a := ((8, 8, ()), ())) rfl (.bind (low62_ev n h) (.val (a := ((n / 256 : Nat) : Int)) ?_ (.bind (low8_ev _) (.now' ?_))))
  · rw [← shr8 h]; rfl
  · show (((n / 256 : Nat) : Int) % 256, ()) = _
    rw [Int.natCast_emod]; rfl
section
variable {A : Rg} {r : Nums} {c0 : Cod} {u : Unit} {o1 : List Int}
theorem reg_in {i : Nat} (hi : i < 9) : (if 0 ≤ (i : Int) ∧ (i : Int) < 9 then some () else none) = some () := if_pos ⟨by omega, by omega⟩
theorem whole_p (h : RelP A r) (hA : Inv A) {i : Nat} (hi : i < 9) : Ev (fun k => whole90 k () (i : Int) (c0, r, u) o1) (eP (wholeA A i), (c0, r, u), o1) := by
  have hr := h.reg i hi
  obtain ⟨b1, b2⟩ := hA i
  unfold whole90 wholeA
  refine .val (reg_in hi) (.val (rd_some' hr) ?_)
  cases h1 : (A i).1 with
  | none =>
    refine .bind (a := true) (.yes rfl (.now _)) (.yes rfl (.now' ?_))
    cases wdN i <;> rfl
  | some l =>
    have hl := b1 l h1
    have hne : (((l : Nat) : Int) == (-1)) = false := beq_false_of_ne (by omega)
    cases hw : wdN i with
    | false =>
      have hw' : wd (i : Int) = false := hw
      refine .bind (a := false) (.no hne (.bind (wide_ev _) (.now' (by rw [hw']; rfl)))) (.no rfl (.now' ?_))
      show (w64 ((l : Int) + (w64 (256 * 0))), _) = _
      rw [show w64 (256 * 0) = 0 from rfl, w64_id (by omega) (by omega), Int.add_zero]
      rfl
    | true =>
      have hw' : wd (i : Int) = true := hw
      cases h2 : (A i).2 with
      | none =>
        refine .bind (a := true) (.no hne (.bind (wide_ev _) (.now' (by rw [hw', if_pos rfl]; rfl)))) (.yes rfl (.now _))
      | some hh =>
        have hl2 := b2 hh h2
        refine .bind (a := false) (.no hne (.bind (wide_ev _) (.now' ?_))) (.no rfl (.now' ?_))
        · rw [hw', if_pos rfl]
          exact beq_false_of_ne (by show (hh : Int) ≠ -1; omega)
        · rw [if_pos rfl]
          show (w64 ((l : Int) + (w64 (256 * (hh : Int)))), _) = _
          rw [w64_id (x := 256 * (hh : Int)) (by omega) (by omega), w64_id (by omega) (by omega)]
          show ((l : Int) + 256 * (hh : Int), _) = (((l + 256 * hh : Nat) : Int), _)
          rw [Int.natCast_add, Int.natCast_mul]; rfl
theorem set_p (h : RelP A r) {i : Nat} (hi : i < 9) {v : Option Nat} (hv : ∀ n, v = some n → n < 65536) : ∃ r', RelP (setA A i v) r' ∧ Ev (fun k => set88' k () (i : Int) (eP v) (c0, r, u) o1) ((), (c0, r', u), o1) := by
  have hr := h.reg i hi
  unfold set88'
  cases v with
  | none =>
    refine ⟨r.set i (-1, if wdN i = true then -1 else 0), h.put hi ?_, ?_⟩
    · cases wdN i <;> rfl
    · refine .bind (a := wd (i : Int)) (.yes rfl (.bind (wide_ev _) (.now _))) ?_
      cases hw : wdN i with
      | true =>
        have hw' : wd (i : Int) = true := hw
        rw [hw']
        exact .bind (a := ((c0, r.set i (-1, -1), u), o1)) (.yes rfl (.val (reg_in hi) (.val (rd_some' hr) (.now' (by rw [Int.toNat_natCast]))))) (.now _)
      | false =>
        have hw' : wd (i : Int) = false := hw
        rw [hw']
        exact .bind (a := ((c0, r.set i (-1, 0), u), o1)) (.no rfl (.bind (a := ((c0, r.set i (-1, 0), u), o1)) (.yes rfl (.val (reg_in hi) (.val (rd_some' hr) (.now' (by rw [Int.toNat_natCast]))))) (.now _))) (.now _)
  | some n =>
    have hn := hv n rfl
    have hne : (((n : Nat) : Int) == (-1)) = false := beq_false_of_ne (by omega)
    have e8 : ((n : Int) % 256) = ((n % 256 : Nat) : Int) := by rw [Int.natCast_emod]; rfl
    refine ⟨r.set i ((n : Int) % 256, if wdN i = true then ((n / 256 % 256 : Nat) : Int) else 0), h.put hi ?_, ?_⟩
    · rw [e8]; rfl
    · refine .bind (a := false) (.no hne (.now _)) (.bind (a := ((c0, r.set i ((n : Int) % 256, if wdN i = true then ((n / 256 % 256 : Nat) : Int) else 0), u), o1)) (.no rfl (.bind (a := ((c0, r.set i ((n : Int) % 256, if wdN i = true then ((n / 256 % 256 : Nat) : Int) else 0), u), o1)) (.no hne (.bind (wide_ev _) (.bind (a := ((c0, r.set i ((n : Int) % 256, if wdN i = true then ((n / 256 % 256 : Nat) : Int) else 0), u), o1)) ?_ (.now _)))) (.now _))) (.now _))
      cases hw : wdN i with
      | true =>
        have hw' : wd (i : Int) = true := hw
        refine .yes hw' (.bind (low8_ev _) (.bind (get_ev n hn) (.val (reg_in hi) (.val (rd_some' hr) (.now' ?_)))))
        rw [Int.toNat_natCast]; rfl
      | false =>
        have hw' : wd (i : Int) = false := hw
        refine .no hw' (.bind (low8_ev _) (.val (reg_in hi) (.val (rd_some' hr) (.now' ?_))))
        rw [Int.toNat_natCast]; rfl
theorem add_p (h : RelP A r) (hA : Inv A) {i : Nat} (hi : i < 9) {b : Int} (hb : -70000 ≤ b ∧ b ≤ 70000) : ∃ r', RelP (addA A i b) r' ∧ Ev (fun k => add152 k () (i : Int) b (c0, r, u) o1) ((), (c0, r', u), o1) := by
  obtain ⟨r', h1, h2⟩ := set_p (c0 := c0) (u := u) (o1 := o1) h hi (v := (wholeA A i).map fun n => (((n : Int) + b) % 65536).toNat) (fun n hn => by
    cases hw : wholeA A i with
    | none => rw [hw] at hn; cases hn
    | some m => rw [hw] at hn; cases hn; show (((m : Int) + b) % 65536).toNat < 65536; omega)
  refine ⟨r', h1, ?_⟩
  unfold add152
  refine .bind (whole_p h hA hi) ?_
  cases hw : wholeA A i with
  | none =>
    rw [hw] at h2
    exact .bind (a := ((), -1, (c0, r, u), o1)) (.no rfl (.now _)) (.bind h2 (.now _))
  | some m =>
    have hm := whole_lt hA hw
    rw [hw] at h2
    have hne : ((eP (some m)) != (-1)) = true := bne_iff_ne.2 (by show (m : Int) ≠ -1; omega)
    refine .bind (a := ((), eP (some (((m : Int) + b) % 65536).toNat), (c0, r, u), o1)) (.yes hne (.bind (low16_ev _) (.now' ?_))) (.bind h2 (.now _))
    show ((), w64 ((m : Int) + b) % 65536, _) = ((), (((((m : Int) + b) % 65536).toNat : Nat) : Int), _)
    rw [w64_id (by omega) (by omega), Int.toNat_of_nonneg (by omega)]
end
end Go.Proofs.YtcppmlgnceldmaaGreat.Fl

/- What is known of registers: the program's bus and steps. No program in sight. -/
set_option linter.unusedVariables false
set_option maxRecDepth 100000
noncomputable section
namespace Go.Proofs.YtcppmlgnceldmaaGreat.Fl
open Go Go.Proofs.YtcppmlgnceldmaaGreat.Gp

/-- the byte of a program -/
def atI (code : Cod) (x : Int) : Option Nat := if 0 ≤ x ∧ code.1 ≤ x ∧ x < code.1 + (code.2.1.length : Int) then some (code.2.1.getD (x - code.1).toNat 0).toNat else none
structure OkD (code : Cod) : Prop where
  len : code.2.1.length ≤ 65536
  base : 0 ≤ code.1 ∧ code.1 ≤ 65536 - (code.2.1.length : Int)
  byte : ∀ x ∈ code.2.1, 0 ≤ x ∧ x < 256
theorem at_ev {code : Cod} (h : OkD code) {x : Int} (hx : -9223372036854775808 ≤ x ∧ x ≤ 9223372036854775807) : Ev (fun k => at87 k code x) (eP (atI code x), ()) := by
  obtain ⟨b0, b1⟩ := h.base
  have hl := h.len
  unfold at87 atI
  by_cases h0 : x ≥ 0
  · have hw : w64 (x - code.1) = x - code.1 := w64_id (by omega) (by omega)
    simp only [hw]
    by_cases h1 : code.1 ≤ x ∧ x < code.1 + (code.2.1.length : Int)
    · rw [if_pos ⟨h0, h1.1, h1.2⟩]
      have hg : code.2.1[(x - code.1).toNat]? = some (code.2.1.getD (x - code.1).toNat 0) := by
        rw [List.getD_eq_getElem?_getD, List.getElem?_eq_getElem (by omega)]; rfl
      have hb := h.byte _ (get_mem hg)
      refine .yes ?_ (.val (rd_at (i := (x - code.1).toNat) (by omega) hg) (.now' ?_))
      · rw [decide_eq_true h0, decide_eq_true (show x - code.1 ≥ 0 by omega)]
        exact decide_eq_true (by omega)
      · rw [w64_id (by omega) (by omega)]
        show (_, ()) = (((code.2.1.getD (x - code.1).toNat 0).toNat : Int), ())
        rw [Int.toNat_of_nonneg hb.1]
    · rw [if_neg (fun h => h1 h.2)]
      refine .no ?_ (.now _)
      rw [decide_eq_true h0]
      by_cases h2 : x - code.1 ≥ 0
      · rw [decide_eq_true h2]
        exact decide_eq_false (by omega)
      · rw [decide_eq_false h2]; rfl
  · rw [if_neg (fun h => h0 h.1)]
    refine .no ?_ (.now _)
    rw [decide_eq_false h0]; rfl
theorem at_lt {code : Cod} (h : OkD code) {x : Int} {n : Nat} (hn : atI code x = some n) : n < 256 := by
  have hl := h.len
  unfold atI at hn
  split at hn
  · cases hn
    rename_i hx
    have hg : code.2.1[(x - code.1).toNat]? = some (code.2.1.getD (x - code.1).toNat 0) := by
      rw [List.getD_eq_getElem?_getD, List.getElem?_eq_getElem (by omega)]; rfl
    have hb := h.byte _ (get_mem hg)
    omega
  · cases hn
theorem Ev.agr {α : Type} {f g : Nat → Option α} {v : α} (h1 : Ev f v) (h2 : Ev g v) : Ev (fun k => agree (f k) (g k)) v := by
  obtain ⟨a, h1⟩ := h1
  obtain ⟨b, h2⟩ := h2
  refine ⟨max a b, fun k hk => ?_⟩
  show agree (f k) (g k) = some v
  rw [h1 k (by omega), h2 k (by omega)]
  exact agree_self _
abbrev Psh := List (Option Nat)
def dataA (code : Cod) (A : Rg) (at_ : Int) : Option Nat := if at_ = 0 ∨ at_ = 1 then atI code (eP (wholeA A 7)) else none
def movA (A : Rg) (at_ : Int) : Rg := if at_ = 0 then addA A 7 1 else if at_ = 4 then addA A 3 (-1) else if at_ = 5 then addA A 3 1 else A
def busA (code : Cod) (A : Rg) (P : Psh) (c : Cyc) : Rg × Psh :=
  (if c.1 = 1 then setA (movA A c.2.1) c.2.2.1.toNat (dataA code A c.2.1) else movA A c.2.1, if c.1 = 2 ∧ c.2.1 = 4 then P ++ [wholeA A c.2.2.1.toNat] else P)
theorem eP_int {A : Rg} (h : Inv A) {i : Nat} : -9223372036854775808 ≤ eP (wholeA A i) ∧ eP (wholeA A i) ≤ 9223372036854775807 := by
  cases hw : wholeA A i with
  | none => exact ⟨by decide, by decide⟩
  | some n =>
    have := whole_lt h hw
    show -9223372036854775808 ≤ (n : Int) ∧ (n : Int) ≤ 9223372036854775807
    omega
theorem data_lt {code : Cod} (hd : OkD code) {A : Rg} {a : Int} {n : Nat} (hn : dataA code A a = some n) : n < 65536 := by
  unfold dataA at hn
  split at hn
  · have := at_lt hd hn; omega
  · cases hn
theorem Inv.mov {A : Rg} (h : Inv A) (a : Int) : Inv (movA A a) := by
  unfold movA
  split
  · exact h.add 7 1
  · split
    · exact h.add 3 (-1)
    · split
      · exact h.add 3 1
      · exact h
theorem Inv.bus {code : Cod} {A : Rg} (h : Inv A) (P : Psh) (c : Cyc) : Inv (busA code A P c).1 := by
  unfold busA
  show Inv (if c.1 = 1 then _ else _)
  split
  · exact (h.mov _).set _ _
  · exact h.mov _
section
variable {A : Rg} {r : Nums} {code : Cod} {u : Unit} {P : Psh}
theorem bus_p (hd : OkD code) (h : RelP A r) (hA : Inv A) {c : Cyc} (hc : OkC c) (hP : P.length ≤ 1000) : ∃ r', RelP (busA code A P c).1 r' ∧ Ev (fun k => bus124 k () c (code, r, u) (P.map eP)) ((), (code, r', u), (busA code A P c).2.map eP) := by
  obtain ⟨bus, at_, reg, steps⟩ := c
  have hreg : 0 ≤ reg ∧ reg < 9 := hc.reg
  obtain ⟨i, rfl⟩ : ∃ i : Nat, reg = (i : Int) := ⟨reg.toNat, by omega⟩
  have hi : i < 9 := by omega
  have hbus : 0 ≤ bus ∧ bus ≤ 2 := hc.bus
  have hat : 0 ≤ at_ ∧ at_ < 12 := hc.at'
  have w0 := whole_p (c0 := code) (u := u) (o1 := P.map eP) h hA hi
  have w7 := whole_p (c0 := code) (u := u) (o1 := P.map eP) h hA (i := 7) (by decide)
  have hat7 := at_ev hd (eP_int hA (i := 7))
  obtain ⟨ra, ha1, ha2⟩ := add_p (c0 := code) (u := u) (o1 := P.map eP) h hA (i := 7) (by decide) (b := 1) (by decide)
  obtain ⟨rb, hb1, hb2⟩ := add_p (c0 := code) (u := u) (o1 := P.map eP) h hA (i := 3) (by decide) (b := -1) (by decide)
  obtain ⟨rc, hc1, hc2⟩ := add_p (c0 := code) (u := u) (o1 := P.map eP) h hA (i := 3) (by decide) (b := 1) (by decide)
  have fin : ∀ r1, RelP (movA A at_) r1 → ∃ r', RelP (busA code A P (bus, at_, (i : Int), steps)).1 r' ∧ Ev (fun k => (Option.bind
    (cond (cond (bus == 2) (at_ == 4) false)
      ((if room (List.length (P.map eP) + List.length ([eP (wholeA A i)] : List Int)) 8 then some () else none).bind fun _ =>
      some ((), ((bus, at_, (i : Int), steps) : Cyc), ((code, r1, u) : RunU), (P.map eP ++ ([eP (wholeA A i)] : List Int))))
      (some ((), (bus, at_, (i : Int), steps), (code, r1, u), P.map eP)) : Option (Unit × (Cyc × (RunU × List Int)))) fun ((_, c_7, o0_7, o1_7) : (Unit × (Cyc × (RunU × List Int)))) =>
    Option.bind
      (cond (c_7.1 == 1)
        ((set88' k () c_7.2.2.1 (eP (dataA code A at_)) o0_7 o1_7).bind fun t79 =>
        some (t79.2.1, t79.2.2))
        (some (o0_7, o1_7)) : Option (RunU × List Int)) fun ((o0_8, o1_8) : (RunU × List Int)) =>
    some ((), o0_8, o1_8))) ((), (code, r', u), (busA code A P (bus, at_, (i : Int), steps)).2.map eP) := by
    intro r1 hr1
    have eB : busA code A P (bus, at_, (i : Int), steps) = (if bus = 1 then setA (movA A at_) i (dataA code A at_) else movA A at_, if bus = 2 ∧ at_ = 4 then P ++ [wholeA A i] else P) := by
      unfold busA
      show (if bus = 1 then setA (movA A at_) (i : Int).toNat (dataA code A at_) else movA A at_, if bus = 2 ∧ at_ = 4 then P ++ [wholeA A (i : Int).toNat] else P) = _
      rw [Int.toNat_natCast]
    rw [eB]
    by_cases h1 : bus = 1
    · subst h1
      obtain ⟨r2, g1, g2⟩ := set_p (c0 := code) (u := u) (o1 := P.map eP) hr1 hi (v := dataA code A at_) (fun n hn => data_lt hd hn)
      refine ⟨r2, by rw [if_pos rfl]; exact g1, .bind (a := ((), (1, at_, (i : Int), steps), (code, r1, u), P.map eP)) (.no rfl (.now _)) (.bind (a := ((code, r2, u), P.map eP)) (.yes rfl (.bind g2 (.now _))) (.now' ?_))⟩
      show ((), (code, r2, u), P.map eP) = ((), (code, r2, u), (if (1 : Int) = 2 ∧ at_ = 4 then P ++ [wholeA A i] else P).map eP)
      rw [if_neg (by omega)]
    · have hn1 : (bus == 1) = false := beq_false_of_ne h1
      refine ⟨r1, by rw [if_neg h1]; exact hr1, ?_⟩
      by_cases h2 : bus = 2 ∧ at_ = 4
      · rw [if_pos h2]
        refine .bind (a := ((), (bus, at_, (i : Int), steps), (code, r1, u), P.map eP ++ [eP (wholeA A i)])) (.yes (by rw [h2.1, h2.2]; rfl) (.val (a := ()) (if_pos (room_ok (by rw [List.length_map]; simp only [List.length_cons, List.length_nil]; omega))) (.now _))) (.bind (a := ((code, r1, u), P.map eP ++ [eP (wholeA A i)])) (.no hn1 (.now _)) (.now' ?_))
        rw [List.map_append]; rfl
      · rw [if_neg h2]
        refine .bind (a := ((), (bus, at_, (i : Int), steps), (code, r1, u), P.map eP)) (.no ?_ (.now _)) (.bind (a := ((code, r1, u), P.map eP)) (.no hn1 (.now _)) (.now _))
        by_cases hb2 : bus = 2
        · rw [hb2]; exact beq_false_of_ne (fun e => h2 ⟨hb2, e⟩)
        · rw [beq_false_of_ne hb2]; rfl
  unfold bus124
  by_cases h0 : at_ = 0
  · subst h0
    obtain ⟨r', g1, g2⟩ := fin ra ha1
    exact ⟨r', g1, .bind w0 (.bind (a := ((), (bus, 0, (i : Int), steps), eP (dataA code A 0), (code, ra, u), P.map eP)) (.yes rfl (.bind (a := ((), (bus, 0, (i : Int), steps), eP (atI code (eP (wholeA A 7))), (code, r, u), P.map eP)) (Ev.agr (.bind w7 (.bind hat7 (.now _))) (.bind w7 (.bind hat7 (.now _)))) (.bind ha2 (.now _)))) g2)⟩
  have n0 : (at_ == 0) = false := beq_false_of_ne h0
  by_cases h1 : at_ = 1
  · subst h1
    obtain ⟨r', g1, g2⟩ := fin r h
    exact ⟨r', g1, .bind w0 (.bind (a := ((), (bus, 1, (i : Int), steps), eP (dataA code A 1), (code, r, u), P.map eP)) (.no rfl (.bind (a := ((), (bus, 1, (i : Int), steps), eP (dataA code A 1), (code, r, u), P.map eP)) (.yes rfl (.bind (a := ((), (bus, 1, (i : Int), steps), eP (atI code (eP (wholeA A 7))), (code, r, u), P.map eP)) (Ev.agr (.bind w7 (.bind hat7 (.now _))) (.bind w7 (.bind hat7 (.now _)))) (.now _))) (.now _))) g2)⟩
  have n1 : (at_ == 1) = false := beq_false_of_ne h1
  have hdat : dataA code A at_ = none := if_neg (by omega)
  by_cases h4 : at_ = 4
  · subst h4
    obtain ⟨r', g1, g2⟩ := fin rb hb1
    exact ⟨r', g1, .bind w0 (.bind (a := ((), (bus, 4, (i : Int), steps), eP (dataA code A 4), (code, rb, u), P.map eP)) (.no rfl (.bind (a := ((), (bus, 4, (i : Int), steps), -1, (code, rb, u), P.map eP)) (.no rfl (.bind (a := ((), (bus, 4, (i : Int), steps), (code, rb, u), P.map eP)) (.yes rfl (.bind hb2 (.now _))) (.now _))) (.now _))) g2)⟩
  have n4 : (at_ == 4) = false := beq_false_of_ne h4
  by_cases h5 : at_ = 5
  · subst h5
    obtain ⟨r', g1, g2⟩ := fin rc hc1
    exact ⟨r', g1, .bind w0 (.bind (a := ((), (bus, 5, (i : Int), steps), eP (dataA code A 5), (code, rc, u), P.map eP)) (.no rfl (.bind (a := ((), (bus, 5, (i : Int), steps), -1, (code, rc, u), P.map eP)) (.no rfl (.bind (a := ((), (bus, 5, (i : Int), steps), (code, rc, u), P.map eP)) (.no rfl (.bind (a := ((), (bus, 5, (i : Int), steps), (code, rc, u), P.map eP)) (.yes rfl (.bind hc2 (.now _))) (.now _))) (.now _))) (.now _))) g2)⟩
  have n5 : (at_ == 5) = false := beq_false_of_ne h5
  have hmov : movA A at_ = A := by unfold movA; rw [if_neg h0, if_neg h4, if_neg h5]
  obtain ⟨r', g1, g2⟩ := fin r (by rw [hmov]; exact h)
  rw [hdat] at g2
  exact ⟨r', g1, .bind w0 (.bind (a := ((), (bus, at_, (i : Int), steps), -1, (code, r, u), P.map eP)) (.no n0 (.bind (a := ((), (bus, at_, (i : Int), steps), -1, (code, r, u), P.map eP)) (.no n1 (.bind (a := ((), (bus, at_, (i : Int), steps), (code, r, u), P.map eP)) (.no n4 (.bind (a := ((), (bus, at_, (i : Int), steps), (code, r, u), P.map eP)) (.no n5 (.now _)) (.now _))) (.now _))) (.now _))) g2)⟩
end
end Go.Proofs.YtcppmlgnceldmaaGreat.Fl

/- What is known of registers: the program's steps and ends. No program in sight. -/
set_option linter.unusedVariables false
set_option maxRecDepth 100000
noncomputable section
namespace Go.Proofs.YtcppmlgnceldmaaGreat.Fl
open Go Go.Proofs.YtcppmlgnceldmaaGreat.Gp

def sgn (n : Nat) : Int := if n ≥ 128 then (n : Int) - 256 else n
def stepA (A : Rg) (s : Stp4) : Rg :=
  if s.1 = 0 then A
  else if s.1 = 3 ∨ s.1 = 6 ∨ s.1 = 16 ∨ s.1 = 17 then setA A 4 none
  else if s.1 = 1 then putA A s.2.1.toNat (A s.2.2.1.toNat)
  else if s.1 = 2 then setA A s.2.1.toNat (some s.2.2.2.toNat)
  else if s.1 = 10 ∨ s.1 = 11 then (if wdN s.2.1.toNat = true then addA A s.2.1.toNat (if s.1 = 10 then 1 else -1) else setA (addA A s.2.1.toNat (if s.1 = 10 then 1 else -1)) 4 none)
  else if s.1 = 18 then putA A s.2.1.toNat ((A s.2.2.1.toNat).1, (A s.2.1.toNat).2)
  else if s.1 = 19 then putA A s.2.1.toNat ((A s.2.1.toNat).1, (A s.2.2.1.toNat).1)
  else if s.1 = 20 then putA A s.2.1.toNat ((A s.2.2.1.toNat).1, some 0)
  else if s.1 = 21 then putA A s.2.1.toNat ((A s.2.2.1.toNat).2, some 0)
  else if s.1 = 22 ∨ s.1 = 23 then (match wholeA A s.2.1.toNat, wholeA A s.2.2.1.toNat with
    | some _, some b => addA A s.2.1.toNat (if s.1 = 23 then sgn b else (b : Int))
    | _, _ => setA A s.2.1.toNat none)
  else setA (setA A s.2.1.toNat none) 4 none
theorem Inv.ite {c : Prop} [Decidable c] {a b : Rg} (h1 : Inv a) (h2 : Inv b) : Inv (if c then a else b) := by
  by_cases h : c
  · rw [if_pos h]; exact h1
  · rw [if_neg h]; exact h2
theorem Inv.step {A : Rg} (h : Inv A) (s : Stp4) : Inv (stepA A s) := by
  unfold stepA
  refine .ite h (.ite (h.set _ _) (.ite (h.put _ (h _).1 (h _).2) (.ite (h.set _ _) (.ite (.ite (h.add _ _) ((h.add _ _).set _ _)) (.ite (h.put _ (h _).1 (h _).2) (.ite (h.put _ (h _).1 (h _).1) (.ite (h.put _ (h _).1 (fun n hn => by cases hn; decide)) (.ite (h.put _ (h _).2 (fun n hn => by cases hn; decide)) (.ite ?_ ((h.set _ _).set _ _))))))))))
  cases wholeA A s.2.1.toNat with
  | none => exact h.set _ _
  | some a =>
    cases wholeA A s.2.2.1.toNat with
    | none => exact h.set _ _
    | some b => exact h.add _ _
theorem signed_ev {n : Nat} (h : n < 256) : Ev (fun k => Signed148 k (n : Int) 8) (sgn n, ()) := by
  unfold Signed148 sgn
  have e8 : (n : Int) % 256 = (n : Int) := by omega
  refine .val (a := (8, ())) rfl (.bind (low8_ev _) (.bind (a := decide (n ≥ 128)) (.yes rfl (.val (a := ((n / 128 : Nat) : Int)) ?_ (.now' ?_))) ?_))
  · show some (shrI .i64 ((n : Int) % 256) 7) = _
    rw [e8]
    exact congrArg some (shrI_nat (j := 7) (by decide))
  · by_cases h1 : n ≥ 128
    · rw [decide_eq_true h1, show n / 128 = 1 by omega]; rfl
    · rw [decide_eq_false h1, show n / 128 = 0 by omega]; rfl
  · by_cases h1 : n ≥ 128
    · rw [if_pos h1]
      refine .bind (a := (n : Int) - 256) (.yes (decide_eq_true h1) (.val (a := 256) rfl (.now' ?_))) (.now _)
      show w64 ((n : Int) % 256 - 256) = _
      rw [e8, w64_id (by omega) (by omega)]
    · rw [if_neg h1]
      refine .bind (a := (n : Int)) (.no (decide_eq_false h1) (.now' ?_)) (.now _)
      exact e8
section
variable {A : Rg} {r : Nums} {c0 : Cod} {u : Unit} {o1 : List Int}
theorem step_p (h : RelP A r) (hA : Inv A) {s : Stp4} (hs : OkS s) (h24 : s.1 ≠ 24) : ∃ r', RelP (stepA A s) r' ∧ Ev (fun k => step126 k () s (c0, r, u) o1) ((), (c0, r', u), o1) := by
  obtain ⟨d, to, fr, n⟩ := s
  have hto : 0 ≤ to ∧ to < 9 := hs.to h24
  have hfr : 0 ≤ fr ∧ fr < 9 := hs.fr h24
  obtain ⟨i, rfl⟩ : ∃ i : Nat, to = (i : Int) := ⟨to.toNat, by omega⟩
  obtain ⟨j, rfl⟩ : ∃ j : Nat, fr = (j : Int) := ⟨fr.toNat, by omega⟩
  have hi : i < 9 := by omega
  have hj : j < 9 := by omega
  have hd : 0 ≤ d ∧ d < 25 := hs.d
  have h24 : d ≠ 24 := h24
  have wt := whole_p (c0 := c0) (u := u) (o1 := o1) h hA hi
  have wf := whole_p (c0 := c0) (u := u) (o1 := o1) h hA hj
  have ri := h.reg i hi
  have rj := h.reg j hj
  have flag : ∀ {A1 : Rg} {r1 : Nums}, RelP A1 r1 → ∃ r', RelP (setA A1 4 none) r' ∧ Ev (fun k => set88' k () 4 (-1) (c0, r1, u) o1) ((), (c0, r', u), o1) := fun h1 => set_p (c0 := c0) (u := u) (o1 := o1) h1 (i := 4) (by decide) (v := none) (fun n hn => by cases hn)
  have unk : ∃ r', RelP (setA A i none) r' ∧ Ev (fun k => set88' k () (i : Int) (-1) (c0, r, u) o1) ((), (c0, r', u), o1) := set_p (c0 := c0) (u := u) (o1 := o1) h hi (v := none) (fun n hn => by cases hn)
  have hh : d = 0 ∨ d = 1 ∨ d = 2 ∨ d = 3 ∨ d = 4 ∨ d = 5 ∨ d = 6 ∨ d = 7 ∨ d = 8 ∨ d = 9 ∨ d = 10 ∨ d = 11 ∨ d = 12 ∨ d = 13 ∨ d = 14 ∨ d = 15 ∨ d = 16 ∨ d = 17 ∨ d = 18 ∨ d = 19 ∨ d = 20 ∨ d = 21 ∨ d = 22 ∨ d = 23 := by omega
  have dflt : ∃ r', RelP (setA (setA A i none) 4 none) r' ∧ Ev (fun k => (whole90 k () (i : Int) (c0, r, u) o1).bind fun t13 => (whole90 k () (j : Int) t13.2.1 t13.2.2).bind fun t19 => (set88' k () (i : Int) (-1) t19.2.1 t19.2.2).bind fun t27 => (set88' k () 4 (-1) t27.2.1 t27.2.2).bind fun t182 => (some ((), t182.2.1, t182.2.2) : Option (Unit × (RunU × List Int)))) ((), (c0, r', u), o1) := by
    obtain ⟨r1, g1, g2⟩ := unk
    obtain ⟨r2, g3, g4⟩ := flag g1
    exact ⟨r2, g3, .bind wt (.bind wf (.bind g2 (.bind g4 (.now _))))⟩
  rcases hh with rfl | rfl | rfl | rfl | rfl | rfl | rfl | rfl | rfl | rfl | rfl | rfl | rfl | rfl | rfl | rfl | rfl | rfl | rfl | rfl | rfl | rfl | rfl | rfl <;> simp only [step126, Int.reduceBEq, cond_true, cond_false, Option.bind_some, Option.bind_assoc]
  · exact ⟨r, h, .bind wt (.bind wf (.now _))⟩
  · have hw : wdN i = wdN j := hs.move rfl
    refine ⟨r.set i (eP (A j).1, if wdN j = true then eP (A j).2 else 0), h.put hi (x := A j) (by rw [hw]), .bind wt (.bind wf (.val (reg_in hj) (.val (rd_some' rj) (.val (reg_in hi) (.val (rd_some' ri) (.now' ?_))))))⟩
    rw [Int.toNat_natCast]
  · have hl : 0 ≤ n ∧ n ≤ cond (wd (i : Int)) 65535 255 := hs.lit rfl
    have hn : n < 65536 := by
      have := hl.2
      cases hw : wd (i : Int) <;> rw [hw] at this <;> simp at this <;> omega
    obtain ⟨r', g1, g2⟩ := set_p (c0 := c0) (u := u) (o1 := o1) h hi (v := some n.toNat) (fun m hm => by cases hm; omega)
    have en : eP (some n.toNat) = n := by show ((n.toNat : Nat) : Int) = n; omega
    rw [en] at g2
    exact ⟨r', g1, .bind wt (.bind wf (.bind g2 (.now _)))⟩
  · obtain ⟨r', g1, g2⟩ := flag h
    exact ⟨r', g1, .bind wt (.bind wf (.bind g2 (.now _)))⟩
  · exact dflt
  · exact dflt
  · obtain ⟨r', g1, g2⟩ := flag h
    exact ⟨r', g1, .bind wt (.bind wf (.bind g2 (.now _)))⟩
  · exact dflt
  · exact dflt
  · exact dflt
  · obtain ⟨r1, g1, g2⟩ := add_p (c0 := c0) (u := u) (o1 := o1) h hA hi (b := 1) (by decide)
    rw [show w64 (1 - w64 (2 * w64 (10 - 10))) = 1 by decide]
    show ∃ r', RelP (if wdN i = true then addA A i (1) else setA (addA A i (1)) 4 none) r' ∧ _
    cases hw : wdN i with
    | true =>
      have hw' : wd (i : Int) = true := hw
      exact ⟨r1, g1, .bind wt (.bind wf (.bind g2 (.bind (wide_ev _) (.bind (a := ((c0, r1, u), o1)) (.no (by rw [hw']; rfl) (.now _)) (.now _)))))⟩
    | false =>
      have hw' : wd (i : Int) = false := hw
      obtain ⟨r2, g3, g4⟩ := flag g1
      exact ⟨r2, g3, .bind wt (.bind wf (.bind g2 (.bind (wide_ev _) (.bind (a := ((c0, r2, u), o1)) (.yes (by rw [hw']; rfl) (.bind g4 (.now _))) (.now _)))))⟩
  · obtain ⟨r1, g1, g2⟩ := add_p (c0 := c0) (u := u) (o1 := o1) h hA hi (b := -1) (by decide)
    rw [show w64 (1 - w64 (2 * w64 (11 - 10))) = -1 by decide]
    show ∃ r', RelP (if wdN i = true then addA A i (-1) else setA (addA A i (-1)) 4 none) r' ∧ _
    cases hw : wdN i with
    | true =>
      have hw' : wd (i : Int) = true := hw
      exact ⟨r1, g1, .bind wt (.bind wf (.bind g2 (.bind (wide_ev _) (.bind (a := ((c0, r1, u), o1)) (.no (by rw [hw']; rfl) (.now _)) (.now _)))))⟩
    | false =>
      have hw' : wd (i : Int) = false := hw
      obtain ⟨r2, g3, g4⟩ := flag g1
      exact ⟨r2, g3, .bind wt (.bind wf (.bind g2 (.bind (wide_ev _) (.bind (a := ((c0, r2, u), o1)) (.yes (by rw [hw']; rfl) (.bind g4 (.now _))) (.now _)))))⟩
  · exact dflt
  · exact dflt
  · exact dflt
  · exact dflt
  · obtain ⟨r', g1, g2⟩ := flag h
    exact ⟨r', g1, .bind wt (.bind wf (.bind g2 (.now _)))⟩
  · obtain ⟨r', g1, g2⟩ := flag h
    exact ⟨r', g1, .bind wt (.bind wf (.bind g2 (.now _)))⟩
  · refine ⟨r.set i (eP (A j).1, if wdN i = true then eP (A i).2 else 0), h.put hi (x := ((A j).1, (A i).2)) rfl, .bind wt (.bind wf (.val (reg_in hj) (.val (rd_some' rj) (.val (reg_in hi) (.val (rd_some' ri) (.now' ?_))))))⟩
    rw [Int.toNat_natCast]
  · have hw : wdN i = true := (hs.wb (.inr (.inl rfl))).1
    refine ⟨r.set i (eP (A i).1, eP (A j).1), h.put hi (x := ((A i).1, (A j).1)) (by rw [if_pos hw]), .bind wt (.bind wf (.val (reg_in hj) (.val (rd_some' rj) (.val (reg_in hi) (.val (rd_some' ri) (.now' ?_))))))⟩
    rw [Int.toNat_natCast]
  · have hw : wdN i = false := (hs.bw (.inl rfl)).1
    refine ⟨r.set i (eP (A j).1, 0), h.put hi (x := ((A j).1, some 0)) (by rw [if_neg (by rw [hw]; decide)]), .bind wt (.bind wf (.val (reg_in hj) (.val (rd_some' rj) (.val (reg_in hi) (.val (rd_some' ri) (.now' ?_))))))⟩
    rw [Int.toNat_natCast]
  · have hw : wdN i = false := (hs.bw (.inr rfl)).1
    have hw2 : wdN j = true := (hs.bw (.inr rfl)).2
    refine ⟨r.set i (eP (A j).2, 0), h.put hi (x := ((A j).2, some 0)) (by rw [if_neg (by rw [hw]; decide)]), .bind wt (.bind wf (.val (reg_in hj) (.val (rd_some' rj) (.val (reg_in hi) (.val (rd_some' ri) (.now' ?_))))))⟩
    rw [Int.toNat_natCast, if_pos hw2]
  · have hw2 : wdN j = false := (hs.wb (.inr (.inr (.inl rfl)))).2
    show ∃ r', RelP (match wholeA A i, wholeA A j with | some _, some b => addA A i (b : Int) | _, _ => setA A i none) r' ∧ _
    cases hti : wholeA A i with
    | none =>
      rw [hti] at wt
      obtain ⟨r', g1, g2⟩ := unk
      refine ⟨r', g1, .bind wt (.bind wf (.bind (a := ((), (c0, r', u), o1)) (.yes ?_ (.bind g2 (.now _))) (.now _)))⟩
      show cond (eP (wholeA A j) == -1) true true = true
      cases eP (wholeA A j) == -1 <;> rfl
    | some a =>
      rw [hti] at wt
      cases htj : wholeA A j with
      | none =>
        rw [htj] at wf
        obtain ⟨r', g1, g2⟩ := unk
        exact ⟨r', g1, .bind wt (.bind wf (.bind (a := ((), (c0, r', u), o1)) (.yes rfl (.bind g2 (.now _))) (.now _)))⟩
      | some b =>
        rw [htj] at wf
        have hb := narrow_lt hA hw2 htj
        obtain ⟨r', g1, g2⟩ := add_p (c0 := c0) (u := u) (o1 := o1) h hA hi (b := (b : Int)) ⟨by omega, by omega⟩
        refine ⟨r', g1, .bind wt (.bind wf (.bind (a := ((), (c0, r', u), o1)) (.no ?_ (.bind g2 (.now _))) (.now _)))⟩
        show cond (((b : Nat) : Int) == -1) true (((a : Nat) : Int) == -1) = false
        rw [beq_false_of_ne (by omega)]
        exact beq_false_of_ne (by omega)
  · have hw2 : wdN j = false := (hs.wb (.inr (.inr (.inr rfl)))).2
    show ∃ r', RelP (match wholeA A i, wholeA A j with | some _, some b => addA A i (sgn b) | _, _ => setA A i none) r' ∧ _
    cases htj : wholeA A j with
    | none =>
      rw [htj] at wf
      obtain ⟨r', g1, g2⟩ := unk
      have e : (match wholeA A i, (none : Option Nat) with | some _, some b => addA A i (sgn b) | _, _ => setA A i none) = setA A i none := by cases wholeA A i <;> rfl
      rw [e]
      exact ⟨r', g1, .bind wt (.bind wf (.bind (a := ((), (23, (i : Int), (j : Int), n), -1, (c0, r, u), o1)) (.no rfl (.now _)) (.bind (a := ((), (c0, r', u), o1)) (.yes rfl (.bind g2 (.now _))) (.now _))))⟩
    | some b =>
      rw [htj] at wf
      have hb := narrow_lt hA hw2 htj
      have hne : (((b : Nat) : Int) == -1) = false := beq_false_of_ne (by omega)
      have hne2 : (((b : Nat) : Int) != -1) = true := bne_iff_ne.2 (by omega)
      cases hti : wholeA A i with
      | none =>
        rw [hti] at wt
        obtain ⟨r', g1, g2⟩ := unk
        refine ⟨r', g1, .bind wt (.bind wf (.bind (a := ((), (23, (i : Int), (j : Int), n), sgn b, (c0, r, u), o1)) (.yes hne2 (.bind (signed_ev hb) (.now _))) (.bind (a := ((), (c0, r', u), o1)) (.yes ?_ (.bind g2 (.now _))) (.now _))))⟩
        show cond (((b : Nat) : Int) == -1) true true = true
        rw [hne]; rfl
      | some a =>
        rw [hti] at wt
        obtain ⟨r', g1, g2⟩ := add_p (c0 := c0) (u := u) (o1 := o1) h hA hi (b := sgn b) (by unfold sgn; split <;> omega)
        refine ⟨r', g1, .bind wt (.bind wf (.bind (a := ((), (23, (i : Int), (j : Int), n), sgn b, (c0, r, u), o1)) (.yes hne2 (.bind (signed_ev hb) (.now _))) (.bind (a := ((), (c0, r', u), o1)) (.no ?_ (.bind g2 (.now _))) (.now _))))⟩
        show cond (((b : Nat) : Int) == -1) true (((a : Nat) : Int) == -1) = false
        rw [hne]
        exact beq_false_of_ne (by omega)
end
end Go.Proofs.YtcppmlgnceldmaaGreat.Fl
