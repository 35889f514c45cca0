/- Merged texts of one claim: a Go law, its functions without memory, and the plain law. The law returns true for every input; conditions: as the row says. -/
import Derived.Test.YtcppmlgnceldmaaGreatCGf0
import Derived.Test.YtcppmlgnceldmaaGreatCGf1
import Derived.Test.YtcppmlgnceldmaaGreatCGf2
/- Go functions as plain Lean functions, and their contracts. -/
set_option linter.unusedVariables false
set_option maxRecDepth 100000
noncomputable section
namespace Go.Proofs.YtcppmlgnceldmaaGreat.Gf
open Go Go.Proofs.YtcppmlgnceldmaaGreat.Gp
def Name32.l0 (k : Nat) (s : ByteArray) : (Unit × (Int × (List Int))) → Option ((Unit × (Int × (List Int))) ⊕ (Unit ⊕ (Bool × Unit)))
  | (_, t25, o0) =>
    cond (decide (t25 < (List.length (bytesOf s) : Int)))
      ((rd o0 t25).bind fun _ =>
      (rd o0 t25).bind fun t28 =>
      cond (!(cond (cond (cond (decide (t28 ≥ 97)) (decide (t28 ≤ 122)) false) true (cond (decide (t28 ≥ 48)) (decide (t28 ≤ 57)) false)) true (t28 == 45)))
        (some (Sum.inr (Sum.inr (false, ()))))
        (some (Sum.inl ((), (w64 (t25 + 1)), o0))))
      (some (Sum.inr (Sum.inl ())))
def Name32 (k : Nat) (s : ByteArray) : Option (Bool × Unit) :=
  Option.bind (cond (cond (streq s (ByteArray.mk #[])) true (decide ((ByteArray.size s : Int) > 20)))
    (some true)
    ((rd (bytesOf s) 0).bind fun t14 =>
    some (decide (t14 < 97)))) fun t16 =>
  Option.bind (cond t16
    (some true)
    ((rd (bytesOf s) 0).bind fun t19 =>
    some (decide (t19 > 122)))) fun t21 =>
  cond t21
    (some (false, ()))
    (Option.bind
      (loopN (Name32.l0 k s) k ((), 0, (bytesOf s)) : Option (Unit ⊕ (Bool × Unit))) (joined fun (_ : Unit) =>
      some (true, ())))
def Name32.A : Ann := { conds := [], blocks := [(0, ⟨[], [], 0, [], 562949919866900⟩)], loops := [(4, ⟨[(23, .ms 0), (25, .int .i64)], [(0, .row (.int .u8))], 1, [], 562949919866900⟩)], keeps := [], orders := [] }
def Name32.S : Sig := { f := 32, params := [.str], objs := [], res := .bool, outs := [], fix := [], run := fun k ds os => Name32 k ds }
def Name32.G : List Sig := []
theorem Name32.eq (k : Nat) : ∀ ds os, Name32.S.run k ds os = runF ⟨types, Name32.G, Name32.A, k, 0, []⟩ Tryz.f32 (codeOf Tryz.f32) Name32.S.params Name32.S.objs Name32.S.res Name32.S.outs ds os := by
  intro ds os; kernel_rfl
theorem Name32.dr : DrOk Tryz.prog Name32.A (codeOf Tryz.f32) := ⟨by kernel_rfl, by kernel_rfl⟩
theorem Name32.ok (k : Nat) : SoundAt Tryz.prog k Name32.S :=
  runF_sound (X := ⟨types, Name32.G, Name32.A, k, 0, []⟩) types_ok (fun s hs => absurd hs List.not_mem_nil) (fn := Tryz.f32) (c := codeOf Tryz.f32) rfl (by kernel_rfl) rfl rfl Name32.dr (Name32.eq k)

def Size33 (k : Nat) (mode : Int) : Option (Int × Unit) :=
  cond (mode == 0)
    (some (0, ()))
    (Option.bind
      (cond (mode == 4)
        (some (mode == 4))
        (Option.bind
          (cond (mode == 5)
            (some (mode == 5))
            (some (mode == 6)) : Option Bool) fun (t6 : Bool) =>
        some t6) : Option Bool) fun (t6_1 : Bool) =>
    cond t6_1
      (some (2, ()))
      (Option.bind
        (cond (mode == 1)
          (some (mode == 1))
          (Option.bind
            (cond (mode == 2)
              (some (mode == 2))
              (Option.bind
                (cond (mode == 3)
                  (some (mode == 3))
                  (Option.bind
                    (cond (mode == 7)
                      (some (mode == 7))
                      (some (mode == 8)) : Option Bool) fun (t10 : Bool) =>
                  some t10) : Option Bool) fun (t10_1 : Bool) =>
              some t10_1) : Option Bool) fun (t10_2 : Bool) =>
          some t10_2) : Option Bool) fun (t10_3 : Bool) =>
      cond t10_3
        (some (1, ()))
        (some ((-1), ()))))
def Size33.A : Ann := { conds := [(393221, ⟨[(6, .bool)], [], 0, [], 832⟩), (393222, ⟨[(6, .bool)], [], 0, [], 576⟩), (655369, ⟨[(10, .bool)], [], 0, [], 62464⟩), (655370, ⟨[(10, .bool)], [], 0, [], 58368⟩), (655371, ⟨[(10, .bool)], [], 0, [], 50176⟩), (655372, ⟨[(10, .bool)], [], 0, [], 33792⟩)], blocks := [], loops := [], keeps := [], orders := [] }
def Size33.S : Sig := { f := 33, params := [.int .i64], objs := [], res := .int .i64, outs := [], fix := [], run := fun k ds os => Size33 k ds }
def Size33.G : List Sig := []
theorem Size33.eq (k : Nat) : ∀ ds os, Size33.S.run k ds os = runF ⟨types, Size33.G, Size33.A, k, 0, []⟩ Tryz.f33 (codeOf Tryz.f33) Size33.S.params Size33.S.objs Size33.S.res Size33.S.outs ds os := by
  intro ds os; kernel_rfl
theorem Size33.dr : DrOk Tryz.prog Size33.A (codeOf Tryz.f33) := ⟨by kernel_rfl, by kernel_rfl⟩
theorem Size33.ok (k : Nat) : SoundAt Tryz.prog k Size33.S :=
  runF_sound (X := ⟨types, Size33.G, Size33.A, k, 0, []⟩) types_ok (fun s hs => absurd hs List.not_mem_nil) (fn := Tryz.f33) (c := codeOf Tryz.f33) rfl (by kernel_rfl) rfl rfl Size33.dr (Size33.eq k)

def Check135 (k : Nat) (y : (Int × (ByteArray × (Int × (List (Int × (Int × (Int × (List (Int × (Int × (Int × Int)))))))))))) (t1 : (Int × (ByteArray × (Int × (List (Int × (Int × (Int × (List (Int × (Int × (Int × Int)))))))))))) : Option (Bool × Unit) :=
  some ((cond (streq y.2.1 t1.2.1) (y.2.2.1 == t1.2.2.1) false), ())
def Check135.A : Ann := { conds := [], blocks := [], loops := [], keeps := [2], orders := [] }
def Check135.S : Sig := { f := 35, params := [.st (.pair (.int .i64) (.pair .str (.pair (.int .i64) (.sl (.st (.pair (.int .i64) (.pair (.int .i64) (.pair (.int .i64) (.sl (.st (.pair (.int .i64) (.pair (.int .i64) (.pair (.int .i64) (.int .i64)))))))))))))), .fp (.st (.pair (.int .i64) (.pair .str (.pair (.int .i64) (.sl (.st (.pair (.int .i64) (.pair (.int .i64) (.pair (.int .i64) (.sl (.st (.pair (.int .i64) (.pair (.int .i64) (.pair (.int .i64) (.int .i64)))))))))))))))], objs := [], res := .bool, outs := [], fix := [], run := fun k ds os => Check135 k ds.1 ds.2 }
def Check135.G : List Sig := []
theorem Check135.eq (k : Nat) : ∀ ds os, Check135.S.run k ds os = runF ⟨types, Check135.G, Check135.A, k, 0, []⟩ Tryz.f35 (codeOf Tryz.f35) Check135.S.params Check135.S.objs Check135.S.res Check135.S.outs ds os := by
  intro ds os; kernel_rfl
theorem Check135.dr : DrOk Tryz.prog Check135.A (codeOf Tryz.f35) := ⟨by kernel_rfl, by kernel_rfl⟩
theorem Check135.ok (k : Nat) : SoundAt Tryz.prog k Check135.S :=
  runF_sound (X := ⟨types, Check135.G, Check135.A, k, 0, []⟩) types_ok (fun s hs => absurd hs List.not_mem_nil) (fn := Tryz.f35) (c := codeOf Tryz.f35) rfl (by kernel_rfl) rfl rfl Check135.dr (Check135.eq k)

def IndexFunc42.l0 (k : Nat) (s : (List (Int × (ByteArray × (Int × (List (Int × (Int × (Int × (List (Int × (Int × (Int × Int))))))))))))) : (((Int × (ByteArray × (Int × (List (Int × (Int × (Int × (List (Int × (Int × (Int × Int))))))))))) × Unit) × Int) → Option ((((Int × (ByteArray × (Int × (List (Int × (Int × (Int × (List (Int × (Int × (Int × Int))))))))))) × Unit) × Int) ⊕ (Unit ⊕ (Int × Unit)))
  | (f_1, t8) =>
    cond (decide (t8 < (List.length s : Int)))
      ((rd s t8).bind fun t14 =>
      (Check135 k t14 f_1.1).bind fun t16 =>
      cond t16.1
        (some (Sum.inr (Sum.inr (t8, ()))))
        (some (Sum.inl (f_1, (w64 (t8 + 1))))))
      (some (Sum.inr (Sum.inl ())))
def IndexFunc42 (k : Nat) (s : (List (Int × (ByteArray × (Int × (List (Int × (Int × (Int × (List (Int × (Int × (Int × Int))))))))))))) (f : ((Int × (ByteArray × (Int × (List (Int × (Int × (Int × (List (Int × (Int × (Int × Int))))))))))) × Unit)) : Option (Int × Unit) :=
  Option.bind
    (loopN (IndexFunc42.l0 k s) k (f, 0) : Option (Unit ⊕ (Int × Unit))) (joined fun (_ : Unit) =>
    some ((-1), ()))
def IndexFunc42.A : Ann := { conds := [], blocks := [(0, ⟨[], [], 0, [], 524080⟩)], loops := [(2, ⟨[(1, .fn 35 (.pair (.fp (.st (.pair (.int .i64) (.pair .str (.pair (.int .i64) (.sl (.st (.pair (.int .i64) (.pair (.int .i64) (.pair (.int .i64) (.sl (.st (.pair (.int .i64) (.pair (.int .i64) (.pair (.int .i64) (.int .i64)))))))))))))))) .unit)), (8, .int .i64)], [], 0, [], 524080⟩)], keeps := [], orders := [] }
def IndexFunc42.S : Sig := { f := 42, params := [.sl (.st (.pair (.int .i64) (.pair .str (.pair (.int .i64) (.sl (.st (.pair (.int .i64) (.pair (.int .i64) (.pair (.int .i64) (.sl (.st (.pair (.int .i64) (.pair (.int .i64) (.pair (.int .i64) (.int .i64))))))))))))))), .fn 35 (.pair (.fp (.st (.pair (.int .i64) (.pair .str (.pair (.int .i64) (.sl (.st (.pair (.int .i64) (.pair (.int .i64) (.pair (.int .i64) (.sl (.st (.pair (.int .i64) (.pair (.int .i64) (.pair (.int .i64) (.int .i64)))))))))))))))) .unit)], objs := [], res := .int .i64, outs := [], fix := [], run := fun k ds os => IndexFunc42 k ds.1 ds.2 }
def IndexFunc42.G : List Sig := [Check135.S]
theorem IndexFunc42.eq (k : Nat) : ∀ ds os, IndexFunc42.S.run k ds os = runF ⟨types, IndexFunc42.G, IndexFunc42.A, k, 0, []⟩ Tryz.f42 (codeOf Tryz.f42) IndexFunc42.S.params IndexFunc42.S.objs IndexFunc42.S.res IndexFunc42.S.outs ds os := by
  intro ds os; kernel_rfl
theorem IndexFunc42.dr : DrOk Tryz.prog IndexFunc42.A (codeOf Tryz.f42) := ⟨by kernel_rfl, by kernel_rfl⟩
theorem IndexFunc42.ok (k : Nat) : SoundAt Tryz.prog k IndexFunc42.S :=
  runF_sound (X := ⟨types, IndexFunc42.G, IndexFunc42.A, k, 0, []⟩) types_ok (mem_all (⟨Check135.ok k, trivial⟩)) (fn := Tryz.f42) (c := codeOf Tryz.f42) rfl (by kernel_rfl) rfl rfl IndexFunc42.dr (IndexFunc42.eq k)

def ContainsFunc34 (k : Nat) (s : (List (Int × (ByteArray × (Int × (List (Int × (Int × (Int × (List (Int × (Int × (Int × Int))))))))))))) (f : ((Int × (ByteArray × (Int × (List (Int × (Int × (Int × (List (Int × (Int × (Int × Int))))))))))) × Unit)) : Option (Bool × Unit) :=
  (IndexFunc42 k s f).bind fun t7 =>
  some ((decide (t7.1 ≥ 0)), ())
def ContainsFunc34.A : Ann := { conds := [], blocks := [], loops := [], keeps := [], orders := [] }
def ContainsFunc34.S : Sig := { f := 34, params := [.sl (.st (.pair (.int .i64) (.pair .str (.pair (.int .i64) (.sl (.st (.pair (.int .i64) (.pair (.int .i64) (.pair (.int .i64) (.sl (.st (.pair (.int .i64) (.pair (.int .i64) (.pair (.int .i64) (.int .i64))))))))))))))), .fn 35 (.pair (.fp (.st (.pair (.int .i64) (.pair .str (.pair (.int .i64) (.sl (.st (.pair (.int .i64) (.pair (.int .i64) (.pair (.int .i64) (.sl (.st (.pair (.int .i64) (.pair (.int .i64) (.pair (.int .i64) (.int .i64)))))))))))))))) .unit)], objs := [], res := .bool, outs := [], fix := [], run := fun k ds os => ContainsFunc34 k ds.1 ds.2 }
def ContainsFunc34.G : List Sig := [IndexFunc42.S]
theorem ContainsFunc34.eq (k : Nat) : ∀ ds os, ContainsFunc34.S.run k ds os = runF ⟨types, ContainsFunc34.G, ContainsFunc34.A, k, 0, []⟩ Tryz.f34 (codeOf Tryz.f34) ContainsFunc34.S.params ContainsFunc34.S.objs ContainsFunc34.S.res ContainsFunc34.S.outs ds os := by
  intro ds os; kernel_rfl
theorem ContainsFunc34.dr : DrOk Tryz.prog ContainsFunc34.A (codeOf Tryz.f34) := ⟨by kernel_rfl, by kernel_rfl⟩
theorem ContainsFunc34.ok (k : Nat) : SoundAt Tryz.prog k ContainsFunc34.S :=
  runF_sound (X := ⟨types, ContainsFunc34.G, ContainsFunc34.A, k, 0, []⟩) types_ok (mem_all (⟨IndexFunc42.ok k, trivial⟩)) (fn := Tryz.f34) (c := codeOf Tryz.f34) rfl (by kernel_rfl) rfl rfl ContainsFunc34.dr (ContainsFunc34.eq k)

def register101 (k : Nat) (reg : Int) : Option (Bool × Unit) :=
  some ((cond (decide (reg ≥ 0)) (decide (reg < 9)) false), ())
def register101.A : Ann := { conds := [], blocks := [], loops := [], keeps := [], orders := [] }
def register101.S : Sig := { f := 101, params := [.int .i64], objs := [], res := .bool, outs := [], fix := [], run := fun k ds os => register101 k ds }
def register101.G : List Sig := []
theorem register101.eq (k : Nat) : ∀ ds os, register101.S.run k ds os = runF ⟨types, register101.G, register101.A, k, 0, []⟩ Tryz.f101 (codeOf Tryz.f101) register101.S.params register101.S.objs register101.S.res register101.S.outs ds os := by
  intro ds os; kernel_rfl
theorem register101.dr : DrOk Tryz.prog register101.A (codeOf Tryz.f101) := ⟨by kernel_rfl, by kernel_rfl⟩
theorem register101.ok (k : Nat) : SoundAt Tryz.prog k register101.S :=
  runF_sound (X := ⟨types, register101.G, register101.A, k, 0, []⟩) types_ok (fun s hs => absurd hs List.not_mem_nil) (fn := Tryz.f101) (c := codeOf Tryz.f101) rfl (by kernel_rfl) rfl rfl register101.dr (register101.eq k)

def Wide102 (k : Nat) (reg : Int) : Option (Bool × Unit) :=
  some ((cond (reg == 7) true (reg == 8)), ())
def Wide102.A : Ann := { conds := [], blocks := [], loops := [], keeps := [], orders := [] }
def Wide102.S : Sig := { f := 102, params := [.int .i64], objs := [], res := .bool, outs := [], fix := [], run := fun k ds os => Wide102 k ds }
def Wide102.G : List Sig := []
theorem Wide102.eq (k : Nat) : ∀ ds os, Wide102.S.run k ds os = runF ⟨types, Wide102.G, Wide102.A, k, 0, []⟩ Tryz.f102 (codeOf Tryz.f102) Wide102.S.params Wide102.S.objs Wide102.S.res Wide102.S.outs ds os := by
  intro ds os; kernel_rfl
theorem Wide102.dr : DrOk Tryz.prog Wide102.A (codeOf Tryz.f102) := ⟨by kernel_rfl, by kernel_rfl⟩
theorem Wide102.ok (k : Nat) : SoundAt Tryz.prog k Wide102.S :=
  runF_sound (X := ⟨types, Wide102.G, Wide102.A, k, 0, []⟩) types_ok (fun s hs => absurd hs List.not_mem_nil) (fn := Tryz.f102) (c := codeOf Tryz.f102) rfl (by kernel_rfl) rfl rfl Wide102.dr (Wide102.eq k)
end Go.Proofs.YtcppmlgnceldmaaGreat.Gf

/- Go functions as plain Lean functions, and their contracts. -/
set_option linter.unusedVariables false
set_option maxRecDepth 100000
noncomputable section
namespace Go.Proofs.YtcppmlgnceldmaaGreat.Gf
open Go Go.Proofs.YtcppmlgnceldmaaGreat.Gp
def uses138 (k : Nat) (do_ : Int) : Option ((Int × (Int × (Bool × Unit))) × Unit) :=
  cond (do_ == 1)
    (some ((115, 115, false, ()), ()))
    (cond (do_ == 2)
      (some ((97, 0, true, ()), ()))
      (Option.bind
        (cond (do_ == 3)
          (some (do_ == 3))
          (Option.bind
            (cond (do_ == 12)
              (some (do_ == 12))
              (Option.bind
                (cond (do_ == 13)
                  (some (do_ == 13))
                  (Option.bind
                    (cond (do_ == 14)
                      (some (do_ == 14))
                      (some (do_ == 15)) : Option Bool) fun (t10 : Bool) =>
                  some t10) : Option Bool) fun (t10_1 : Bool) =>
              some t10_1) : Option Bool) fun (t10_2 : Bool) =>
          some t10_2) : Option Bool) fun (t10_3 : Bool) =>
      cond t10_3
        (some ((98, 0, false, ()), ()))
        (Option.bind
          (cond (do_ == 4)
            (some (do_ == 4))
            (Option.bind
              (cond (do_ == 5)
                (some (do_ == 5))
                (Option.bind
                  (cond (do_ == 6)
                    (some (do_ == 6))
                    (Option.bind
                      (cond (do_ == 7)
                        (some (do_ == 7))
                        (Option.bind
                          (cond (do_ == 8)
                            (some (do_ == 8))
                            (some (do_ == 9)) : Option Bool) fun (t16 : Bool) =>
                        some t16) : Option Bool) fun (t16_1 : Bool) =>
                    some t16_1) : Option Bool) fun (t16_2 : Bool) =>
                some t16_2) : Option Bool) fun (t16_3 : Bool) =>
            some t16_3) : Option Bool) fun (t16_4 : Bool) =>
        cond t16_4
          (some ((98, 98, false, ()), ()))
          (Option.bind
            (cond (do_ == 10)
              (some (do_ == 10))
              (some (do_ == 11)) : Option Bool) fun (t23 : Bool) =>
          cond t23
            (some ((97, 0, false, ()), ()))
            (Option.bind
              (cond (do_ == 16)
                (some (do_ == 16))
                (some (do_ == 17)) : Option Bool) fun (t26 : Bool) =>
            cond t26
              (some ((0, 0, true, ()), ()))
              (Option.bind
                (cond (do_ == 18)
                  (some (do_ == 18))
                  (Option.bind
                    (cond (do_ == 19)
                      (some (do_ == 19))
                      (Option.bind
                        (cond (do_ == 22)
                          (some (do_ == 22))
                          (some (do_ == 23)) : Option Bool) fun (t29 : Bool) =>
                      some t29) : Option Bool) fun (t29_1 : Bool) =>
                  some t29_1) : Option Bool) fun (t29_2 : Bool) =>
              cond t29_2
                (some ((119, 98, false, ()), ()))
                (Option.bind
                  (cond (do_ == 20)
                    (some (do_ == 20))
                    (some (do_ == 21)) : Option Bool) fun (t34 : Bool) =>
                cond t34
                  (some ((98, 119, false, ()), ()))
                  (some ((0, 0, false, ()), ())))))))))
def uses138.A : Ann := { conds := [(655367, ⟨[(10, .bool)], [], 0, [], 62464⟩), (655368, ⟨[(10, .bool)], [], 0, [], 58368⟩), (655369, ⟨[(10, .bool)], [], 0, [], 50176⟩), (655370, ⟨[(10, .bool)], [], 0, [], 33792⟩), (1048589, ⟨[(16, .bool)], [], 0, [], 8192000⟩), (1048590, ⟨[(16, .bool)], [], 0, [], 7929856⟩), (1048591, ⟨[(16, .bool)], [], 0, [], 7405568⟩), (1048592, ⟨[(16, .bool)], [], 0, [], 6356992⟩), (1048593, ⟨[(16, .bool)], [], 0, [], 4259840⟩), (1507348, ⟨[(23, .bool)], [], 0, [], 41943040⟩), (1703959, ⟨[(26, .bool)], [], 0, [], 335544320⟩), (1900570, ⟨[(29, .bool)], [], 0, [], 15569256448⟩), (1900571, ⟨[(29, .bool)], [], 0, [], 13421772800⟩), (1900572, ⟨[(29, .bool)], [], 0, [], 9126805504⟩), (2228255, ⟨[(34, .bool)], [], 0, [], 85899345920⟩)], blocks := [], loops := [], keeps := [], orders := [] }
def uses138.S : Sig := { f := 138, params := [.int .i64], objs := [], res := .tup (.pair (.int .u8) (.pair (.int .u8) (.pair .bool .unit))), outs := [], fix := [], run := fun k ds os => uses138 k ds }
def uses138.G : List Sig := []
theorem uses138.eq (k : Nat) : ∀ ds os, uses138.S.run k ds os = runF ⟨types, uses138.G, uses138.A, k, 0, []⟩ Tryz.f138 (codeOf Tryz.f138) uses138.S.params uses138.S.objs uses138.S.res uses138.S.outs ds os := by
  intro ds os; kernel_rfl
theorem uses138.dr : DrOk Tryz.prog uses138.A (codeOf Tryz.f138) := ⟨by kernel_rfl, by kernel_rfl⟩
theorem uses138.ok (k : Nat) : SoundAt Tryz.prog k uses138.S :=
  runF_sound (X := ⟨types, uses138.G, uses138.A, k, 0, []⟩) types_ok (fun s hs => absurd hs List.not_mem_nil) (fn := Tryz.f138) (c := codeOf Tryz.f138) rfl (by kernel_rfl) rfl rfl uses138.dr (uses138.eq k)

def fits139 (k : Nat) (reg : Int) (need : Int) : Option (Bool × Unit) :=
  cond (need == 0)
    (some ((reg == 0), ()))
    (cond (need == 119)
      ((register101 k reg).bind fun t13 =>
      Option.bind (cond t13.1
        ((Wide102 k reg).bind fun t16 =>
        some t16.1)
        (some false)) fun t17 =>
      some (t17, ()))
      (cond (need == 98)
        ((register101 k reg).bind fun t21 =>
        Option.bind (cond t21.1
          ((Wide102 k reg).bind fun t24 =>
          some (!t24.1))
          (some false)) fun t26 =>
        some (t26, ()))
        ((register101 k reg).bind fun t28 =>
        some (t28.1, ()))))
def fits139.A : Ann := { conds := [], blocks := [], loops := [], keeps := [], orders := [] }
def fits139.S : Sig := { f := 139, params := [.int .i64, .int .u8], objs := [], res := .bool, outs := [], fix := [], run := fun k ds os => fits139 k ds.1 ds.2 }
def fits139.G : List Sig := [Wide102.S, register101.S]
theorem fits139.eq (k : Nat) : ∀ ds os, fits139.S.run k ds os = runF ⟨types, fits139.G, fits139.A, k, 0, []⟩ Tryz.f139 (codeOf Tryz.f139) fits139.S.params fits139.S.objs fits139.S.res fits139.S.outs ds os := by
  intro ds os; kernel_rfl
theorem fits139.dr : DrOk Tryz.prog fits139.A (codeOf Tryz.f139) := ⟨by kernel_rfl, by kernel_rfl⟩
theorem fits139.ok (k : Nat) : SoundAt Tryz.prog k fits139.S :=
  runF_sound (X := ⟨types, fits139.G, fits139.A, k, 0, []⟩) types_ok (mem_all (⟨Wide102.ok k, ⟨register101.ok k, trivial⟩⟩)) (fn := Tryz.f139) (c := codeOf Tryz.f139) rfl (by kernel_rfl) rfl rfl fits139.dr (fits139.eq k)

def step103 (k : Nat) (s : (Int × (Int × (Int × Int)))) : Option (Int × Unit) :=
  cond (cond (decide (s.1 < 0)) true (decide (s.1 ≥ 25)))
    (some (8, ()))
    (cond (s.1 == 24)
      (cond (cond (cond (cond (cond (s.2.1 != 0) true (decide (s.2.2.1 < 0))) true (decide (s.2.2.1 > 1))) true (decide (s.2.2.2 < 0))) true (decide (s.2.2.2 > 255)))
        (some (1, ()))
        (some (0, ())))
      ((uses138 k s.1).bind fun t44 =>
      Option.bind (cond (s.1 == 2)
        ((register101 k s.2.1).bind fun t54 =>
        some t54.1)
        (some false)) fun t55 =>
      Option.bind (cond t55
        ((Wide102 k s.2.1).bind fun t59 =>
        some t59.1)
        (some false)) fun t60 =>
      Option.bind
        (cond t60
          (some (s, 65535))
          (some (s, 255)) : Option ((Int × (Int × (Int × Int))) × Int)) fun ((s_1, most) : ((Int × (Int × (Int × Int))) × Int)) =>
      Option.bind
        (cond (!t44.1.2.2.1)
          (some (s_1, 0))
          (some (s_1, most)) : Option ((Int × (Int × (Int × Int))) × Int)) fun ((s_2, most_1) : ((Int × (Int × (Int × Int))) × Int)) =>
      (fits139 k s_2.2.1 t44.1.1).bind fun t66 =>
      Option.bind (cond (!t66.1)
        (some true)
        ((fits139 k s_2.2.2.1 t44.1.2.1).bind fun t72 =>
        some (!t72.1))) fun t74 =>
      Option.bind (cond t74
        (some true)
        (Option.bind (cond (t44.1.1 == 115)
          ((Wide102 k s_2.2.1).bind fun t81 =>
          (Wide102 k s_2.2.2.1).bind fun t84 =>
          some (xor true (t81.1 == t84.1)))
          (some false)) fun t86 =>
        some t86)) fun t87 =>
      cond (cond (cond t87 true (decide (s_2.2.2.2 < 0))) true (decide (s_2.2.2.2 > most_1)))
        (some (1, ()))
        (some (0, ()))))
def step103.A : Ann := { conds := [(3932170, ⟨[(1, .fp (.st (.pair (.int .i64) (.pair (.int .i64) (.pair (.int .i64) (.int .i64)))))), (6, .int .i64)], [], 0, [], 64⟩), (4063244, ⟨[(1, .fp (.st (.pair (.int .i64) (.pair (.int .i64) (.pair (.int .i64) (.int .i64)))))), (6, .int .i64)], [], 0, [], 64⟩)], blocks := [], loops := [], keeps := [1], orders := [(13, [(0, .strong), (1, .strong), (2, .strong), (3, .eff true), (4, .strong), (5, .strong), (6, .strong), (7, .strong), (8, .strong), (9, .eff true), (10, .strong), (11, .strong), (12, .strong), (13, .strong), (14, .strong), (15, .strong), (16, .strong), (17, .strong), (19, .strong), (20, .strong), (18, .eff true), (21, .eff true), (22, .strong), (23, .strong), (24, .strong), (25, .strong), (26, .strong), (27, .strong), (28, .strong), (29, .strong), (30, .strong), (31, .strong), (32, .strong), (33, .strong), (34, .strong), (35, .strong)])] }
def step103.S : Sig := { f := 103, params := [.st (.pair (.int .i64) (.pair (.int .i64) (.pair (.int .i64) (.int .i64))))], objs := [], res := .int .i64, outs := [], fix := [], run := fun k ds os => step103 k ds }
def step103.G : List Sig := [Wide102.S, fits139.S, register101.S, uses138.S]
theorem step103.eq (k : Nat) : ∀ ds os, step103.S.run k ds os = runF ⟨types, step103.G, step103.A, k, 0, []⟩ Tryz.f103 (codeOf Tryz.f103) step103.S.params step103.S.objs step103.S.res step103.S.outs ds os := by
  intro ds os; kernel_rfl
theorem step103.dr : DrOk Tryz.prog step103.A (codeOf Tryz.f103) := ⟨by kernel_rfl, by kernel_rfl⟩
theorem step103.ok (k : Nat) : SoundAt Tryz.prog k step103.S :=
  runF_sound (X := ⟨types, step103.G, step103.A, k, 0, []⟩) types_ok (mem_all (⟨Wide102.ok k, ⟨fits139.ok k, ⟨register101.ok k, ⟨uses138.ok k, trivial⟩⟩⟩⟩)) (fn := Tryz.f103) (c := codeOf Tryz.f103) rfl (by kernel_rfl) rfl rfl step103.dr (step103.eq k)

def cycle73.l0 (k : Nat) (c : (Int × (Int × (Int × (List (Int × (Int × (Int × Int)))))))) : Int → Option (Int ⊕ (Unit ⊕ (Int × Unit)))
  | t57 =>
    cond (decide (t57 < (List.length c.2.2.2 : Int)))
      ((rd c.2.2.2 t57).bind fun t59 =>
      (step103 k t59).bind fun t62 =>
      cond (t62.1 != 0)
        (some (Sum.inr (Sum.inr (t62.1, ()))))
        (some (Sum.inl (w64 (t57 + 1)))))
      (some (Sum.inr (Sum.inl ())))
def cycle73 (k : Nat) (c : (Int × (Int × (Int × (List (Int × (Int × (Int × Int)))))))) : Option (Int × Unit) :=
  cond (cond (decide (c.1 < 0)) true (decide (c.1 > 2)))
    (some (8, ()))
    (cond (cond (c.1 == 0) (cond (c.2.1 != 0) true (c.2.2.1 != 0)) false)
      (some (3, ()))
      (Option.bind (cond (cond (decide (c.2.1 < 0)) true (decide (c.2.1 ≥ 12)))
        (some true)
        ((register101 k c.2.2.1).bind fun t41 =>
        some (!t41.1))) fun t43 =>
      Option.bind (cond t43
        (some true)
        ((Wide102 k c.2.2.1).bind fun t47 =>
        some t47.1)) fun t48 =>
      cond t48
        (some (1, ()))
        (cond (decide ((List.length c.2.2.2 : Int) > 6))
          (some (2, ()))
          (Option.bind
            (loopN (cycle73.l0 k c) k 0 : Option (Unit ⊕ (Int × Unit))) (joined fun (_ : Unit) =>
            some (0, ()))))))
def cycle73.A : Ann := { conds := [], blocks := [(1, ⟨[], [], 0, [], 147429837401600557108⟩)], loops := [(10, ⟨[(57, .int .i64)], [], 0, [], 147429837401600557108⟩)], keeps := [1, 4], orders := [] }
def cycle73.S : Sig := { f := 73, params := [.st (.pair (.int .i64) (.pair (.int .i64) (.pair (.int .i64) (.sl (.st (.pair (.int .i64) (.pair (.int .i64) (.pair (.int .i64) (.int .i64)))))))))], objs := [], res := .int .i64, outs := [], fix := [], run := fun k ds os => cycle73 k ds }
def cycle73.G : List Sig := [Wide102.S, register101.S, step103.S]
theorem cycle73.eq (k : Nat) : ∀ ds os, cycle73.S.run k ds os = runF ⟨types, cycle73.G, cycle73.A, k, 0, []⟩ Tryz.f73 (codeOf Tryz.f73) cycle73.S.params cycle73.S.objs cycle73.S.res cycle73.S.outs ds os := by
  intro ds os; kernel_rfl
theorem cycle73.dr : DrOk Tryz.prog cycle73.A (codeOf Tryz.f73) := ⟨by kernel_rfl, by kernel_rfl⟩
theorem cycle73.ok (k : Nat) : SoundAt Tryz.prog k cycle73.S :=
  runF_sound (X := ⟨types, cycle73.G, cycle73.A, k, 0, []⟩) types_ok (mem_all (⟨Wide102.ok k, ⟨register101.ok k, ⟨step103.ok k, trivial⟩⟩⟩)) (fn := Tryz.f73) (c := codeOf Tryz.f73) rfl (by kernel_rfl) rfl rfl cycle73.dr (cycle73.eq k)

def cycles36.l0 (k : Nat) (l : (List (Int × (Int × (Int × (List (Int × (Int × (Int × Int))))))))) : Int → Option (Int ⊕ (Unit ⊕ (Int × Unit)))
  | t11 =>
    cond (decide (t11 < (List.length l : Int)))
      ((rd l t11).bind fun t13 =>
      (cycle73 k t13).bind fun t16 =>
      cond (t16.1 != 0)
        (some (Sum.inr (Sum.inr (t16.1, ()))))
        (some (Sum.inl (w64 (t11 + 1)))))
      (some (Sum.inr (Sum.inl ())))
def cycles36 (k : Nat) (l : (List (Int × (Int × (Int × (List (Int × (Int × (Int × Int))))))))) : Option (Int × Unit) :=
  cond (decide ((List.length l : Int) > 8))
    (some (2, ()))
    (Option.bind
      (loopN (cycles36.l0 k l) k 0 : Option (Unit ⊕ (Int × Unit))) (joined fun (_ : Unit) =>
      some (0, ())))
def cycles36.A : Ann := { conds := [], blocks := [(0, ⟨[], [], 0, [], 2095156⟩)], loops := [(4, ⟨[(11, .int .i64)], [], 0, [], 2095156⟩)], keeps := [4], orders := [] }
def cycles36.S : Sig := { f := 36, params := [.sl (.st (.pair (.int .i64) (.pair (.int .i64) (.pair (.int .i64) (.sl (.st (.pair (.int .i64) (.pair (.int .i64) (.pair (.int .i64) (.int .i64))))))))))], objs := [], res := .int .i64, outs := [], fix := [], run := fun k ds os => cycles36 k ds }
def cycles36.G : List Sig := [cycle73.S]
theorem cycles36.eq (k : Nat) : ∀ ds os, cycles36.S.run k ds os = runF ⟨types, cycles36.G, cycles36.A, k, 0, []⟩ Tryz.f36 (codeOf Tryz.f36) cycles36.S.params cycles36.S.objs cycles36.S.res cycles36.S.outs ds os := by
  intro ds os; kernel_rfl
theorem cycles36.dr : DrOk Tryz.prog cycles36.A (codeOf Tryz.f36) := ⟨by kernel_rfl, by kernel_rfl⟩
theorem cycles36.ok (k : Nat) : SoundAt Tryz.prog k cycles36.S :=
  runF_sound (X := ⟨types, cycles36.G, cycles36.A, k, 0, []⟩) types_ok (mem_all (⟨cycle73.ok k, trivial⟩)) (fn := Tryz.f36) (c := codeOf Tryz.f36) rfl (by kernel_rfl) rfl rfl cycles36.dr (cycles36.eq k)
end Go.Proofs.YtcppmlgnceldmaaGreat.Gf

/- Go functions as plain Lean functions, and their contracts. -/
set_option linter.unusedVariables false
set_option maxRecDepth 100000
noncomputable section
namespace Go.Proofs.YtcppmlgnceldmaaGreat.Gf
open Go Go.Proofs.YtcppmlgnceldmaaGreat.Gp
def operand37.l0 (k : Nat) (l : (List (Int × (Int × (Int × (List (Int × (Int × (Int × Int))))))))) : (Int × Int) → Option ((Int × Int) ⊕ Int)
  | (n, t8) =>
    cond (decide (t8 < (List.length l : Int)))
      ((rd l t8).bind fun t10 =>
      Option.bind
        (cond (cond (t10.1 == 1) (t10.2.1 == 0) false)
          (some (w64 (n + 1)))
          (some n) : Option Int) fun (n_1 : Int) =>
      some (Sum.inl (n_1, (w64 (t8 + 1)))))
      (some (Sum.inr n))
def operand37 (k : Nat) (l : (List (Int × (Int × (Int × (List (Int × (Int × (Int × Int))))))))) : Option (Int × Unit) :=
  Option.bind
    (loopN (operand37.l0 k l) k (0, 0) : Option Int) fun (n_2 : Int) =>
  some (n_2, ())
def operand37.A : Ann := { conds := [(1245190, ⟨[(3, .int .i64)], [], 0, [], 3145736⟩)], blocks := [(0, ⟨[(3, .int .i64)], [], 0, [], 8388392⟩)], loops := [(3, ⟨[(3, .int .i64), (8, .int .i64)], [], 0, [], 8388392⟩)], keeps := [5], orders := [] }
def operand37.S : Sig := { f := 37, params := [.sl (.st (.pair (.int .i64) (.pair (.int .i64) (.pair (.int .i64) (.sl (.st (.pair (.int .i64) (.pair (.int .i64) (.pair (.int .i64) (.int .i64))))))))))], objs := [], res := .int .i64, outs := [], fix := [], run := fun k ds os => operand37 k ds }
def operand37.G : List Sig := []
theorem operand37.eq (k : Nat) : ∀ ds os, operand37.S.run k ds os = runF ⟨types, operand37.G, operand37.A, k, 0, []⟩ Tryz.f37 (codeOf Tryz.f37) operand37.S.params operand37.S.objs operand37.S.res operand37.S.outs ds os := by
  intro ds os; kernel_rfl
theorem operand37.dr : DrOk Tryz.prog operand37.A (codeOf Tryz.f37) := ⟨by kernel_rfl, by kernel_rfl⟩
theorem operand37.ok (k : Nat) : SoundAt Tryz.prog k operand37.S :=
  runF_sound (X := ⟨types, operand37.G, operand37.A, k, 0, []⟩) types_ok (fun s hs => absurd hs List.not_mem_nil) (fn := Tryz.f37) (c := codeOf Tryz.f37) rfl (by kernel_rfl) rfl rfl operand37.dr (operand37.eq k)

def Check8.l0 (k : Nat) (c : (ByteArray × ((List (Int × (ByteArray × (Int × (List (Int × (Int × (Int × (List (Int × (Int × (Int × Int)))))))))))) × ((List (Int × (Int × (Int × (List (Int × (Int × (Int × Int)))))))) × ((List (Int × (Int × (Int × (List (Int × (Int × (Int × Int)))))))) × (List (Int × (Int × (Int × (List (Int × (Int × (Int × Int))))))))))))) : ((ByteArray × ((List (Int × (ByteArray × (Int × (List (Int × (Int × (Int × (List (Int × (Int × (Int × Int)))))))))))) × ((List (Int × (Int × (Int × (List (Int × (Int × (Int × Int)))))))) × ((List (Int × (Int × (Int × (List (Int × (Int × (Int × Int)))))))) × (List (Int × (Int × (Int × (List (Int × (Int × (Int × Int)))))))))))) × Int) → Option (((ByteArray × ((List (Int × (ByteArray × (Int × (List (Int × (Int × (Int × (List (Int × (Int × (Int × Int)))))))))))) × ((List (Int × (Int × (Int × (List (Int × (Int × (Int × Int)))))))) × ((List (Int × (Int × (Int × (List (Int × (Int × (Int × Int)))))))) × (List (Int × (Int × (Int × (List (Int × (Int × (Int × Int)))))))))))) × Int) ⊕ ((ByteArray × ((List (Int × (ByteArray × (Int × (List (Int × (Int × (Int × (List (Int × (Int × (Int × Int)))))))))))) × ((List (Int × (Int × (Int × (List (Int × (Int × (Int × Int)))))))) × ((List (Int × (Int × (Int × (List (Int × (Int × (Int × Int)))))))) × (List (Int × (Int × (Int × (List (Int × (Int × (Int × Int)))))))))))) ⊕ (Int × Unit)))
  | (c_1, t22) =>
    cond (decide (t22 < (List.length c.2.1 : Int)))
      ((rd c.2.1 t22).bind fun t25 =>
      cond (cond (decide (t25.1 < 0)) true (decide (t25.1 > 255)))
        (some (Sum.inr (Sum.inr (1, ()))))
        (Option.bind (cond (decide (t22 > 0))
          ((rd c_1.2.1 (w64 (t22 - 1))).bind fun t46 =>
          some (decide (t25.1 ≤ t46.1)))
          (some false)) fun t50 =>
        cond t50
          (some (Sum.inr (Sum.inr (9, ()))))
          ((Name32 k t25.2.1).bind fun t54 =>
          cond (!t54.1)
            (some (Sum.inr (Sum.inr (15, ()))))
            ((Size33 k t25.2.2.1).bind fun t59 =>
            cond (decide (t59.1 < 0))
              (some (Sum.inr (Sum.inr (8, ()))))
              ((slc c_1.2.1 0 t22).bind fun t65 =>
              (ContainsFunc34 k t65 (t25, ())).bind fun t67 =>
              cond t67.1
                (some (Sum.inr (Sum.inr (5, ()))))
                ((cycles36 k t25.2.2.2).bind fun t70 =>
                cond (t70.1 != 0)
                  (some (Sum.inr (Sum.inr (t70.1, ()))))
                  ((operand37 k t25.2.2.2).bind fun t76 =>
                  (Size33 k t25.2.2.1).bind fun t79 =>
                  cond (t76.1 != t79.1)
                    (some (Sum.inr (Sum.inr (3, ()))))
                    (some (Sum.inl (c_1, (w64 (t22 + 1))))))))))))
      (some (Sum.inr (Sum.inl c_1)))
def Check8.l1 (k : Nat) (c_2 : (ByteArray × ((List (Int × (ByteArray × (Int × (List (Int × (Int × (Int × (List (Int × (Int × (Int × Int)))))))))))) × ((List (Int × (Int × (Int × (List (Int × (Int × (Int × Int)))))))) × ((List (Int × (Int × (Int × (List (Int × (Int × (Int × Int)))))))) × (List (Int × (Int × (Int × (List (Int × (Int × (Int × Int))))))))))))) : (Unit × (Int × (List (List (Int × (Int × (Int × (List (Int × (Int × (Int × Int))))))))))) → Option ((Unit × (Int × (List (List (Int × (Int × (Int × (List (Int × (Int × (Int × Int))))))))))) ⊕ (Unit ⊕ (Int × Unit)))
  | (_, t90, o0) =>
    cond (decide (t90 < (List.length [c_2.2.2.1, c_2.2.2.2.1, c_2.2.2.2.2] : Int)))
      ((rd o0 t90).bind fun _ =>
      (rd o0 t90).bind fun t93 =>
      (cycles36 k t93).bind fun t95 =>
      cond (t95.1 != 0)
        (some (Sum.inr (Sum.inr (t95.1, ()))))
        (some (Sum.inl ((), (w64 (t90 + 1)), o0))))
      (some (Sum.inr (Sum.inl ())))
def Check8 (k : Nat) (c : (ByteArray × ((List (Int × (ByteArray × (Int × (List (Int × (Int × (Int × (List (Int × (Int × (Int × Int)))))))))))) × ((List (Int × (Int × (Int × (List (Int × (Int × (Int × Int)))))))) × ((List (Int × (Int × (Int × (List (Int × (Int × (Int × Int)))))))) × (List (Int × (Int × (Int × (List (Int × (Int × (Int × Int))))))))))))) : Option (Int × Unit) :=
  (Name32 k c.1).bind fun t12 =>
  cond (!t12.1)
    (some (15, ()))
    (cond (decide ((List.length c.2.1 : Int) > 256))
      (some (2, ()))
      (Option.bind
        (loopN (Check8.l0 k c) k (c, 0) : Option ((ByteArray × ((List (Int × (ByteArray × (Int × (List (Int × (Int × (Int × (List (Int × (Int × (Int × Int)))))))))))) × ((List (Int × (Int × (Int × (List (Int × (Int × (Int × Int)))))))) × ((List (Int × (Int × (Int × (List (Int × (Int × (Int × Int)))))))) × (List (Int × (Int × (Int × (List (Int × (Int × (Int × Int)))))))))))) ⊕ (Int × Unit))) (joined fun (c_2 : (ByteArray × ((List (Int × (ByteArray × (Int × (List (Int × (Int × (Int × (List (Int × (Int × (Int × Int)))))))))))) × ((List (Int × (Int × (Int × (List (Int × (Int × (Int × Int)))))))) × ((List (Int × (Int × (Int × (List (Int × (Int × (Int × Int)))))))) × (List (Int × (Int × (Int × (List (Int × (Int × (Int × Int))))))))))))) =>
        Option.bind
          (loopN (Check8.l1 k c_2) k ((), 0, [c_2.2.2.1, c_2.2.2.2.1, c_2.2.2.2.2]) : Option (Unit ⊕ (Int × Unit))) (joined fun (_ : Unit) =>
          some (0, ())))))
def Check8.A : Ann := { conds := [], blocks := [(1, ⟨[(1, .fp (.st (.pair .str (.pair (.sl (.st (.pair (.int .i64) (.pair .str (.pair (.int .i64) (.sl (.st (.pair (.int .i64) (.pair (.int .i64) (.pair (.int .i64) (.sl (.st (.pair (.int .i64) (.pair (.int .i64) (.pair (.int .i64) (.int .i64)))))))))))))))) (.pair (.sl (.st (.pair (.int .i64) (.pair (.int .i64) (.pair (.int .i64) (.sl (.st (.pair (.int .i64) (.pair (.int .i64) (.pair (.int .i64) (.int .i64))))))))))) (.pair (.sl (.st (.pair (.int .i64) (.pair (.int .i64) (.pair (.int .i64) (.sl (.st (.pair (.int .i64) (.pair (.int .i64) (.pair (.int .i64) (.int .i64))))))))))) (.sl (.st (.pair (.int .i64) (.pair (.int .i64) (.pair (.int .i64) (.sl (.st (.pair (.int .i64) (.pair (.int .i64) (.pair (.int .i64) (.int .i64)))))))))))))))))], [], 0, [], 4835703278458516694630460⟩), (4, ⟨[], [], 0, [], 1266412660188944021221804081540⟩)], loops := [(6, ⟨[(1, .fp (.st (.pair .str (.pair (.sl (.st (.pair (.int .i64) (.pair .str (.pair (.int .i64) (.sl (.st (.pair (.int .i64) (.pair (.int .i64) (.pair (.int .i64) (.sl (.st (.pair (.int .i64) (.pair (.int .i64) (.pair (.int .i64) (.int .i64)))))))))))))))) (.pair (.sl (.st (.pair (.int .i64) (.pair (.int .i64) (.pair (.int .i64) (.sl (.st (.pair (.int .i64) (.pair (.int .i64) (.pair (.int .i64) (.int .i64))))))))))) (.pair (.sl (.st (.pair (.int .i64) (.pair (.int .i64) (.pair (.int .i64) (.sl (.st (.pair (.int .i64) (.pair (.int .i64) (.pair (.int .i64) (.int .i64))))))))))) (.sl (.st (.pair (.int .i64) (.pair (.int .i64) (.pair (.int .i64) (.sl (.st (.pair (.int .i64) (.pair (.int .i64) (.pair (.int .i64) (.int .i64))))))))))))))))), (22, .int .i64)], [], 0, [], 4835703278458516694630460⟩), (25, ⟨[(88, .ms 0), (90, .int .i64)], [(0, .row (.sl (.st (.pair (.int .i64) (.pair (.int .i64) (.pair (.int .i64) (.sl (.st (.pair (.int .i64) (.pair (.int .i64) (.pair (.int .i64) (.int .i64))))))))))))], 1, [], 1266412660188944021221804081540⟩)], keeps := [1, 4], orders := [(10, [(0, .strong), (1, .strong), (2, .strong), (3, .strong), (4, .strong), (5, .strong), (6, .strong), (7, .strong), (8, .strong), (9, .strong), (10, .strong), (11, .strong), (12, .strong), (13, .strong), (14, .strong)]), (21, [(0, .strong), (1, .strong), (3, .strong), (4, .strong), (2, .eff true), (5, .eff true), (6, .strong)])] }
def Check8.S : Sig := { f := 8, params := [.st (.pair .str (.pair (.sl (.st (.pair (.int .i64) (.pair .str (.pair (.int .i64) (.sl (.st (.pair (.int .i64) (.pair (.int .i64) (.pair (.int .i64) (.sl (.st (.pair (.int .i64) (.pair (.int .i64) (.pair (.int .i64) (.int .i64)))))))))))))))) (.pair (.sl (.st (.pair (.int .i64) (.pair (.int .i64) (.pair (.int .i64) (.sl (.st (.pair (.int .i64) (.pair (.int .i64) (.pair (.int .i64) (.int .i64))))))))))) (.pair (.sl (.st (.pair (.int .i64) (.pair (.int .i64) (.pair (.int .i64) (.sl (.st (.pair (.int .i64) (.pair (.int .i64) (.pair (.int .i64) (.int .i64))))))))))) (.sl (.st (.pair (.int .i64) (.pair (.int .i64) (.pair (.int .i64) (.sl (.st (.pair (.int .i64) (.pair (.int .i64) (.pair (.int .i64) (.int .i64)))))))))))))))], objs := [], res := .int .i64, outs := [], fix := [], run := fun k ds os => Check8 k ds }
def Check8.G : List Sig := [ContainsFunc34.S, Name32.S, Size33.S, cycles36.S, operand37.S]
theorem Check8.eq (k : Nat) : ∀ ds os, Check8.S.run k ds os = runF ⟨types, Check8.G, Check8.A, k, 0, []⟩ Tryz.f8 (codeOf Tryz.f8) Check8.S.params Check8.S.objs Check8.S.res Check8.S.outs ds os := by
  intro ds os; kernel_rfl
theorem Check8.dr : DrOk Tryz.prog Check8.A (codeOf Tryz.f8) := ⟨by kernel_rfl, by kernel_rfl⟩
theorem Check8.ok (k : Nat) : SoundAt Tryz.prog k Check8.S :=
  runF_sound (X := ⟨types, Check8.G, Check8.A, k, 0, []⟩) types_ok (mem_all (⟨ContainsFunc34.ok k, ⟨Name32.ok k, ⟨Size33.ok k, ⟨cycles36.ok k, ⟨operand37.ok k, trivial⟩⟩⟩⟩⟩)) (fn := Tryz.f8) (c := codeOf Tryz.f8) rfl (by kernel_rfl) rfl rfl Check8.dr (Check8.eq k)

def Find143 (k : Nat) (x : (Int × (ByteArray × (Int × (List (Int × (Int × (Int × (List (Int × (Int × (Int × Int)))))))))))) (t1 : Int) : Option (Bool × Unit) :=
  some ((x.1 == t1), ())
def Find143.A : Ann := { conds := [], blocks := [], loops := [], keeps := [2], orders := [] }
def Find143.S : Sig := { f := 43, params := [.st (.pair (.int .i64) (.pair .str (.pair (.int .i64) (.sl (.st (.pair (.int .i64) (.pair (.int .i64) (.pair (.int .i64) (.sl (.st (.pair (.int .i64) (.pair (.int .i64) (.pair (.int .i64) (.int .i64)))))))))))))), .fp (.int .i64)], objs := [], res := .bool, outs := [], fix := [], run := fun k ds os => Find143 k ds.1 ds.2 }
def Find143.G : List Sig := []
theorem Find143.eq (k : Nat) : ∀ ds os, Find143.S.run k ds os = runF ⟨types, Find143.G, Find143.A, k, 0, []⟩ Tryz.f43 (codeOf Tryz.f43) Find143.S.params Find143.S.objs Find143.S.res Find143.S.outs ds os := by
  intro ds os; kernel_rfl
theorem Find143.dr : DrOk Tryz.prog Find143.A (codeOf Tryz.f43) := ⟨by kernel_rfl, by kernel_rfl⟩
theorem Find143.ok (k : Nat) : SoundAt Tryz.prog k Find143.S :=
  runF_sound (X := ⟨types, Find143.G, Find143.A, k, 0, []⟩) types_ok (fun s hs => absurd hs List.not_mem_nil) (fn := Tryz.f43) (c := codeOf Tryz.f43) rfl (by kernel_rfl) rfl rfl Find143.dr (Find143.eq k)

def IndexFunc42'.l0 (k : Nat) (s : (List (Int × (ByteArray × (Int × (List (Int × (Int × (Int × (List (Int × (Int × (Int × Int))))))))))))) : ((Int × Unit) × Int) → Option (((Int × Unit) × Int) ⊕ (Unit ⊕ (Int × Unit)))
  | (f_1, t8) =>
    cond (decide (t8 < (List.length s : Int)))
      ((rd s t8).bind fun t14 =>
      (Find143 k t14 f_1.1).bind fun t16 =>
      cond t16.1
        (some (Sum.inr (Sum.inr (t8, ()))))
        (some (Sum.inl (f_1, (w64 (t8 + 1))))))
      (some (Sum.inr (Sum.inl ())))
def IndexFunc42' (k : Nat) (s : (List (Int × (ByteArray × (Int × (List (Int × (Int × (Int × (List (Int × (Int × (Int × Int))))))))))))) (f : (Int × Unit)) : Option (Int × Unit) :=
  Option.bind
    (loopN (IndexFunc42'.l0 k s) k (f, 0) : Option (Unit ⊕ (Int × Unit))) (joined fun (_ : Unit) =>
    some ((-1), ()))
def IndexFunc42'.A : Ann := { conds := [], blocks := [(0, ⟨[], [], 0, [], 524080⟩)], loops := [(2, ⟨[(1, .fn 43 (.pair (.fp (.int .i64)) .unit)), (8, .int .i64)], [], 0, [], 524080⟩)], keeps := [], orders := [] }
def IndexFunc42'.S : Sig := { f := 42, params := [.sl (.st (.pair (.int .i64) (.pair .str (.pair (.int .i64) (.sl (.st (.pair (.int .i64) (.pair (.int .i64) (.pair (.int .i64) (.sl (.st (.pair (.int .i64) (.pair (.int .i64) (.pair (.int .i64) (.int .i64))))))))))))))), .fn 43 (.pair (.fp (.int .i64)) .unit)], objs := [], res := .int .i64, outs := [], fix := [], run := fun k ds os => IndexFunc42' k ds.1 ds.2 }
def IndexFunc42'.G : List Sig := [Find143.S]
theorem IndexFunc42'.eq (k : Nat) : ∀ ds os, IndexFunc42'.S.run k ds os = runF ⟨types, IndexFunc42'.G, IndexFunc42'.A, k, 0, []⟩ Tryz.f42 (codeOf Tryz.f42) IndexFunc42'.S.params IndexFunc42'.S.objs IndexFunc42'.S.res IndexFunc42'.S.outs ds os := by
  intro ds os; kernel_rfl
theorem IndexFunc42'.dr : DrOk Tryz.prog IndexFunc42'.A (codeOf Tryz.f42) := ⟨by kernel_rfl, by kernel_rfl⟩
theorem IndexFunc42'.ok (k : Nat) : SoundAt Tryz.prog k IndexFunc42'.S :=
  runF_sound (X := ⟨types, IndexFunc42'.G, IndexFunc42'.A, k, 0, []⟩) types_ok (mem_all (⟨Find143.ok k, trivial⟩)) (fn := Tryz.f42) (c := codeOf Tryz.f42) rfl (by kernel_rfl) rfl rfl IndexFunc42'.dr (IndexFunc42'.eq k)
end Go.Proofs.YtcppmlgnceldmaaGreat.Gf

/- Go functions as plain Lean functions, and their contracts. -/
set_option linter.unusedVariables false
set_option maxRecDepth 100000
noncomputable section
namespace Go.Proofs.YtcppmlgnceldmaaGreat.Gf
open Go Go.Proofs.YtcppmlgnceldmaaGreat.Gp
def Clone122 (k : Nat) (s : (List (Int × (Int × (Int × (List (Int × (Int × (Int × Int))))))))) : Option (Unit × (List (Int × (Int × (Int × (List (Int × (Int × (Int × Int))))))))) :=
  orNil (List.length s)
    (cond true
      (some ((), []))
      ((if room (0 + List.length s) 48 then some () else none).bind fun _ =>
      some ((), s)))
    (cond false
      (some ((), []))
      ((if room (0 + List.length s) 48 then some () else none).bind fun _ =>
      some ((), s)))
def Clone122.A : Ann := { conds := [], blocks := [], loops := [], keeps := [], orders := [] }
def Clone122.S : Sig := { f := 122, params := [.sl (.st (.pair (.int .i64) (.pair (.int .i64) (.pair (.int .i64) (.sl (.st (.pair (.int .i64) (.pair (.int .i64) (.pair (.int .i64) (.int .i64))))))))))], objs := [], res := .ms 0, outs := [.row (.st (.pair (.int .i64) (.pair (.int .i64) (.pair (.int .i64) (.sl (.st (.pair (.int .i64) (.pair (.int .i64) (.pair (.int .i64) (.int .i64))))))))))], fix := [], run := fun k ds os => Clone122 k ds }
def Clone122.G : List Sig := []
theorem Clone122.eq (k : Nat) : ∀ ds os, Clone122.S.run k ds os = runF ⟨types, Clone122.G, Clone122.A, k, 0, []⟩ Tryz.f122 (codeOf Tryz.f122) Clone122.S.params Clone122.S.objs Clone122.S.res Clone122.S.outs ds os := by
  intro ds os; kernel_rfl
theorem Clone122.dr : DrOk Tryz.prog Clone122.A (codeOf Tryz.f122) := ⟨by kernel_rfl, by kernel_rfl⟩
theorem Clone122.ok (k : Nat) : SoundAt Tryz.prog k Clone122.S :=
  runF_sound (X := ⟨types, Clone122.G, Clone122.A, k, 0, []⟩) types_ok (fun s hs => absurd hs List.not_mem_nil) (fn := Tryz.f122) (c := codeOf Tryz.f122) rfl (by kernel_rfl) rfl rfl Clone122.dr (Clone122.eq k)

def Clone98 (k : Nat) (s : (List (Int × (Int × (Int × Int))))) : Option (Unit × (List (Int × (Int × (Int × Int))))) :=
  orNil (List.length s)
    (cond true
      (some ((), []))
      ((if room (0 + List.length s) 32 then some () else none).bind fun _ =>
      some ((), s)))
    (cond false
      (some ((), []))
      ((if room (0 + List.length s) 32 then some () else none).bind fun _ =>
      some ((), s)))
def Clone98.A : Ann := { conds := [], blocks := [], loops := [], keeps := [], orders := [] }
def Clone98.S : Sig := { f := 98, params := [.sl (.st (.pair (.int .i64) (.pair (.int .i64) (.pair (.int .i64) (.int .i64)))))], objs := [], res := .ms 0, outs := [.row (.st (.pair (.int .i64) (.pair (.int .i64) (.pair (.int .i64) (.int .i64)))))], fix := [], run := fun k ds os => Clone98 k ds }
def Clone98.G : List Sig := []
theorem Clone98.eq (k : Nat) : ∀ ds os, Clone98.S.run k ds os = runF ⟨types, Clone98.G, Clone98.A, k, 0, []⟩ Tryz.f98 (codeOf Tryz.f98) Clone98.S.params Clone98.S.objs Clone98.S.res Clone98.S.outs ds os := by
  intro ds os; kernel_rfl
theorem Clone98.dr : DrOk Tryz.prog Clone98.A (codeOf Tryz.f98) := ⟨by kernel_rfl, by kernel_rfl⟩
theorem Clone98.ok (k : Nat) : SoundAt Tryz.prog k Clone98.S :=
  runF_sound (X := ⟨types, Clone98.G, Clone98.A, k, 0, []⟩) types_ok (fun s hs => absurd hs List.not_mem_nil) (fn := Tryz.f98) (c := codeOf Tryz.f98) rfl (by kernel_rfl) rfl rfl Clone98.dr (Clone98.eq k)

def copies85.l0 (k : Nat) (t6 : (Unit × (List (Int × (Int × (Int × (List (Int × (Int × (Int × Int)))))))))) : (Unit × (Int × (List (Int × (Int × (Int × (List (Int × (Int × (Int × Int)))))))))) → Option ((Unit × (Int × (List (Int × (Int × (Int × (List (Int × (Int × (Int × Int)))))))))) ⊕ (Unit × (List (Int × (Int × (Int × (List (Int × (Int × (Int × Int))))))))))
  | (_, t9, o0) =>
    cond (decide (t9 < (List.length t6.2 : Int)))
      ((rd o0 t9).bind fun _ =>
      (rd o0 t9).bind fun t18 =>
      (Clone98 k t18.2.2.2).bind fun t19 =>
      (rd o0 t9).bind fun _ =>
      (rd o0 t9).bind fun _x_2 =>
      some (Sum.inl ((), (w64 (t9 + 1)), (List.set o0 (Int.toNat t9) (_x_2.1, _x_2.2.1, _x_2.2.2.1, t19.2)))))
      (some (Sum.inr ((), o0)))
def copies85 (k : Nat) (l : (List (Int × (Int × (Int × (List (Int × (Int × (Int × Int))))))))) : Option ((List (Int × (Int × (Int × (List (Int × (Int × (Int × Int)))))))) × Unit) :=
  (Clone122 k l).bind fun t6 =>
  Option.bind
    (loopN (copies85.l0 k t6) k ((), 0, t6.2) : Option (Unit × (List (Int × (Int × (Int × (List (Int × (Int × (Int × Int)))))))))) fun ((_, o0_1) : (Unit × (List (Int × (Int × (Int × (List (Int × (Int × (Int × Int)))))))))) =>
  some (o0_1, ())
def copies85.A : Ann := { conds := [], blocks := [(0, ⟨[(3, .ms 0)], [(0, .row (.st (.pair (.int .i64) (.pair (.int .i64) (.pair (.int .i64) (.sl (.st (.pair (.int .i64) (.pair (.int .i64) (.pair (.int .i64) (.int .i64)))))))))))], 1, [], 8388112⟩)], loops := [(3, ⟨[(3, .ms 0), (9, .int .i64)], [(0, .row (.st (.pair (.int .i64) (.pair (.int .i64) (.pair (.int .i64) (.sl (.st (.pair (.int .i64) (.pair (.int .i64) (.pair (.int .i64) (.int .i64)))))))))))], 1, [], 8388112⟩)], keeps := [], orders := [] }
def copies85.S : Sig := { f := 85, params := [.sl (.st (.pair (.int .i64) (.pair (.int .i64) (.pair (.int .i64) (.sl (.st (.pair (.int .i64) (.pair (.int .i64) (.pair (.int .i64) (.int .i64))))))))))], objs := [], res := .sl (.st (.pair (.int .i64) (.pair (.int .i64) (.pair (.int .i64) (.sl (.st (.pair (.int .i64) (.pair (.int .i64) (.pair (.int .i64) (.int .i64)))))))))), outs := [], fix := [], run := fun k ds os => copies85 k ds }
def copies85.G : List Sig := [Clone122.S, Clone98.S]
theorem copies85.eq (k : Nat) : ∀ ds os, copies85.S.run k ds os = runF ⟨types, copies85.G, copies85.A, k, 0, []⟩ Tryz.f85 (codeOf Tryz.f85) copies85.S.params copies85.S.objs copies85.S.res copies85.S.outs ds os := by
  intro ds os; kernel_rfl
theorem copies85.dr : DrOk Tryz.prog copies85.A (codeOf Tryz.f85) := ⟨by kernel_rfl, by kernel_rfl⟩
theorem copies85.ok (k : Nat) : SoundAt Tryz.prog k copies85.S :=
  runF_sound (X := ⟨types, copies85.G, copies85.A, k, 0, []⟩) types_ok (mem_all (⟨Clone122.ok k, ⟨Clone98.ok k, trivial⟩⟩)) (fn := Tryz.f85) (c := codeOf Tryz.f85) rfl (by kernel_rfl) rfl rfl copies85.dr (copies85.eq k)

def Copy44 (k : Nat) (x : (Int × (ByteArray × (Int × (List (Int × (Int × (Int × (List (Int × (Int × (Int × Int)))))))))))) : Option ((Int × (ByteArray × (Int × (List (Int × (Int × (Int × (List (Int × (Int × (Int × Int))))))))))) × Unit) :=
  (copies85 k x.2.2.2).bind fun t5 =>
  some ((x.1, x.2.1, x.2.2.1, t5.1), ())
def Copy44.A : Ann := { conds := [], blocks := [], loops := [], keeps := [], orders := [] }
def Copy44.S : Sig := { f := 44, params := [.st (.pair (.int .i64) (.pair .str (.pair (.int .i64) (.sl (.st (.pair (.int .i64) (.pair (.int .i64) (.pair (.int .i64) (.sl (.st (.pair (.int .i64) (.pair (.int .i64) (.pair (.int .i64) (.int .i64))))))))))))))], objs := [], res := .st (.pair (.int .i64) (.pair .str (.pair (.int .i64) (.sl (.st (.pair (.int .i64) (.pair (.int .i64) (.pair (.int .i64) (.sl (.st (.pair (.int .i64) (.pair (.int .i64) (.pair (.int .i64) (.int .i64)))))))))))))), outs := [], fix := [], run := fun k ds os => Copy44 k ds }
def Copy44.G : List Sig := [copies85.S]
theorem Copy44.eq (k : Nat) : ∀ ds os, Copy44.S.run k ds os = runF ⟨types, Copy44.G, Copy44.A, k, 0, []⟩ Tryz.f44 (codeOf Tryz.f44) Copy44.S.params Copy44.S.objs Copy44.S.res Copy44.S.outs ds os := by
  intro ds os; kernel_rfl
theorem Copy44.dr : DrOk Tryz.prog Copy44.A (codeOf Tryz.f44) := ⟨by kernel_rfl, by kernel_rfl⟩
theorem Copy44.ok (k : Nat) : SoundAt Tryz.prog k Copy44.S :=
  runF_sound (X := ⟨types, Copy44.G, Copy44.A, k, 0, []⟩) types_ok (mem_all (⟨copies85.ok k, trivial⟩)) (fn := Tryz.f44) (c := codeOf Tryz.f44) rfl (by kernel_rfl) rfl rfl Copy44.dr (Copy44.eq k)

def Find11 (k : Nat) (c : (ByteArray × ((List (Int × (ByteArray × (Int × (List (Int × (Int × (Int × (List (Int × (Int × (Int × Int)))))))))))) × ((List (Int × (Int × (Int × (List (Int × (Int × (Int × Int)))))))) × ((List (Int × (Int × (Int × (List (Int × (Int × (Int × Int)))))))) × (List (Int × (Int × (Int × (List (Int × (Int × (Int × Int))))))))))))) (op : Int) : Option (((Int × (ByteArray × (Int × (List (Int × (Int × (Int × (List (Int × (Int × (Int × Int))))))))))) × (Bool × Unit)) × Unit) :=
  (IndexFunc42' k c.2.1 (op, ())).bind fun t10 =>
  cond (decide (t10.1 < 0))
    (some (((0, (ByteArray.mk #[]), 0, []), false, ()), ()))
    ((rd c.2.1 t10.1).bind fun t17 =>
    (Copy44 k t17).bind fun t19 =>
    some ((t19.1, true, ()), ()))
def Find11.A : Ann := { conds := [], blocks := [], loops := [], keeps := [2, 3], orders := [] }
def Find11.S : Sig := { f := 11, params := [.st (.pair .str (.pair (.sl (.st (.pair (.int .i64) (.pair .str (.pair (.int .i64) (.sl (.st (.pair (.int .i64) (.pair (.int .i64) (.pair (.int .i64) (.sl (.st (.pair (.int .i64) (.pair (.int .i64) (.pair (.int .i64) (.int .i64)))))))))))))))) (.pair (.sl (.st (.pair (.int .i64) (.pair (.int .i64) (.pair (.int .i64) (.sl (.st (.pair (.int .i64) (.pair (.int .i64) (.pair (.int .i64) (.int .i64))))))))))) (.pair (.sl (.st (.pair (.int .i64) (.pair (.int .i64) (.pair (.int .i64) (.sl (.st (.pair (.int .i64) (.pair (.int .i64) (.pair (.int .i64) (.int .i64))))))))))) (.sl (.st (.pair (.int .i64) (.pair (.int .i64) (.pair (.int .i64) (.sl (.st (.pair (.int .i64) (.pair (.int .i64) (.pair (.int .i64) (.int .i64))))))))))))))), .int .i64], objs := [], res := .tup (.pair (.st (.pair (.int .i64) (.pair .str (.pair (.int .i64) (.sl (.st (.pair (.int .i64) (.pair (.int .i64) (.pair (.int .i64) (.sl (.st (.pair (.int .i64) (.pair (.int .i64) (.pair (.int .i64) (.int .i64))))))))))))))) (.pair .bool .unit)), outs := [], fix := [], run := fun k ds os => Find11 k ds.1 ds.2 }
def Find11.G : List Sig := [Copy44.S, IndexFunc42'.S]
theorem Find11.eq (k : Nat) : ∀ ds os, Find11.S.run k ds os = runF ⟨types, Find11.G, Find11.A, k, 0, []⟩ Tryz.f11 (codeOf Tryz.f11) Find11.S.params Find11.S.objs Find11.S.res Find11.S.outs ds os := by
  intro ds os; kernel_rfl
theorem Find11.dr : DrOk Tryz.prog Find11.A (codeOf Tryz.f11) := ⟨by kernel_rfl, by kernel_rfl⟩
theorem Find11.ok (k : Nat) : SoundAt Tryz.prog k Find11.S :=
  runF_sound (X := ⟨types, Find11.G, Find11.A, k, 0, []⟩) types_ok (mem_all (⟨Copy44.ok k, ⟨IndexFunc42'.ok k, trivial⟩⟩)) (fn := Tryz.f11) (c := codeOf Tryz.f11) rfl (by kernel_rfl) rfl rfl Find11.dr (Find11.eq k)

def Equal69.l0 (k : Nat) (s1 : (List (Int × (Int × (Int × Int))))) (s2 : (List (Int × (Int × (Int × Int))))) : Int → Option (Int ⊕ (Unit ⊕ (Bool × Unit)))
  | t13 =>
    cond (decide (t13 < (List.length s1 : Int)))
      ((rd s1 t13).bind fun t18 =>
      (rd s2 t13).bind fun t22 =>
      cond (xor true (eqB (.st (.pair (.int .i64) (.pair (.int .i64) (.pair (.int .i64) (.int .i64))))) t18 t22))
        (some (Sum.inr (Sum.inr (false, ()))))
        (some (Sum.inl (w64 (t13 + 1)))))
      (some (Sum.inr (Sum.inl ())))
def Equal69 (k : Nat) (s1 : (List (Int × (Int × (Int × Int))))) (s2 : (List (Int × (Int × (Int × Int))))) : Option (Bool × Unit) :=
  cond ((List.length s1 : Int) != (List.length s2 : Int))
    (some (false, ()))
    (Option.bind
      (loopN (Equal69.l0 k s1 s2) k 0 : Option (Unit ⊕ (Bool × Unit))) (joined fun (_ : Unit) =>
      some (true, ())))
def Equal69.A : Ann := { conds := [], blocks := [(0, ⟨[], [], 0, [], 67100720⟩)], loops := [(4, ⟨[(13, .int .i64)], [], 0, [], 67100720⟩)], keeps := [], orders := [(6, [(0, .strong), (1, .strong), (2, .strong), (3, .strong), (4, .strong), (5, .strong), (6, .strong), (7, .strong), (8, .strong)])] }
def Equal69.S : Sig := { f := 69, params := [.sl (.st (.pair (.int .i64) (.pair (.int .i64) (.pair (.int .i64) (.int .i64))))), .sl (.st (.pair (.int .i64) (.pair (.int .i64) (.pair (.int .i64) (.int .i64)))))], objs := [], res := .bool, outs := [], fix := [], run := fun k ds os => Equal69 k ds.1 ds.2 }
def Equal69.G : List Sig := []
theorem Equal69.eq (k : Nat) : ∀ ds os, Equal69.S.run k ds os = runF ⟨types, Equal69.G, Equal69.A, k, 0, []⟩ Tryz.f69 (codeOf Tryz.f69) Equal69.S.params Equal69.S.objs Equal69.S.res Equal69.S.outs ds os := by
  intro ds os; kernel_rfl
theorem Equal69.dr : DrOk Tryz.prog Equal69.A (codeOf Tryz.f69) := ⟨by kernel_rfl, by kernel_rfl⟩
theorem Equal69.ok (k : Nat) : SoundAt Tryz.prog k Equal69.S :=
  runF_sound (X := ⟨types, Equal69.G, Equal69.A, k, 0, []⟩) types_ok (fun s hs => absurd hs List.not_mem_nil) (fn := Tryz.f69) (c := codeOf Tryz.f69) rfl (by kernel_rfl) rfl rfl Equal69.dr (Equal69.eq k)

def alike168 (k : Nat) (c : (Int × (Int × (Int × (List (Int × (Int × (Int × Int)))))))) (d : (Int × (Int × (Int × (List (Int × (Int × (Int × Int)))))))) : Option (Bool × Unit) :=
  Option.bind (cond (cond (cond (c.1 == d.1) (c.2.1 == d.2.1) false) (c.2.2.1 == d.2.2.1) false)
    ((Equal69 k c.2.2.2 d.2.2.2).bind fun t29 =>
    some t29.1)
    (some false)) fun t30 =>
  some (t30, ())
def alike168.A : Ann := { conds := [], blocks := [], loops := [], keeps := [2, 3], orders := [] }
def alike168.S : Sig := { f := 68, params := [.st (.pair (.int .i64) (.pair (.int .i64) (.pair (.int .i64) (.sl (.st (.pair (.int .i64) (.pair (.int .i64) (.pair (.int .i64) (.int .i64))))))))), .st (.pair (.int .i64) (.pair (.int .i64) (.pair (.int .i64) (.sl (.st (.pair (.int .i64) (.pair (.int .i64) (.pair (.int .i64) (.int .i64)))))))))], objs := [], res := .bool, outs := [], fix := [], run := fun k ds os => alike168 k ds.1 ds.2 }
def alike168.G : List Sig := [Equal69.S]
theorem alike168.eq (k : Nat) : ∀ ds os, alike168.S.run k ds os = runF ⟨types, alike168.G, alike168.A, k, 0, []⟩ Tryz.f68 (codeOf Tryz.f68) alike168.S.params alike168.S.objs alike168.S.res alike168.S.outs ds os := by
  intro ds os; kernel_rfl
theorem alike168.dr : DrOk Tryz.prog alike168.A (codeOf Tryz.f68) := ⟨by kernel_rfl, by kernel_rfl⟩
theorem alike168.ok (k : Nat) : SoundAt Tryz.prog k alike168.S :=
  runF_sound (X := ⟨types, alike168.G, alike168.A, k, 0, []⟩) types_ok (mem_all (⟨Equal69.ok k, trivial⟩)) (fn := Tryz.f68) (c := codeOf Tryz.f68) rfl (by kernel_rfl) rfl rfl alike168.dr (alike168.eq k)
end Go.Proofs.YtcppmlgnceldmaaGreat.Gf

/- Go functions as plain Lean functions, and their contracts. -/
set_option linter.unusedVariables false
set_option maxRecDepth 100000
noncomputable section
namespace Go.Proofs.YtcppmlgnceldmaaGreat.Gf
open Go Go.Proofs.YtcppmlgnceldmaaGreat.Gp
def EqualFunc67.l0 (k : Nat) (s1 : (List (Int × (Int × (Int × (List (Int × (Int × (Int × Int))))))))) (s2 : (List (Int × (Int × (Int × (List (Int × (Int × (Int × Int))))))))) : (Unit × Int) → Option ((Unit × Int) ⊕ (Unit ⊕ (Bool × Unit)))
  | (_, t17) =>
    cond (decide (t17 < (List.length s1 : Int)))
      ((rd s1 t17).bind fun t20 =>
      (rd s2 t17).bind fun t24 =>
      (alike168 k t20 t24).bind fun t29 =>
      cond (!t29.1)
        (some (Sum.inr (Sum.inr (false, ()))))
        (some (Sum.inl ((), (w64 (t17 + 1))))))
      (some (Sum.inr (Sum.inl ())))
def EqualFunc67 (k : Nat) (s1 : (List (Int × (Int × (Int × (List (Int × (Int × (Int × Int))))))))) (s2 : (List (Int × (Int × (Int × (List (Int × (Int × (Int × Int))))))))) (_ : Unit) : Option (Bool × Unit) :=
  cond ((List.length s1 : Int) != (List.length s2 : Int))
    (some (false, ()))
    (Option.bind
      (loopN (EqualFunc67.l0 k s1 s2) k ((), 0) : Option (Unit ⊕ (Bool × Unit))) (joined fun (_ : Unit) =>
      some (true, ())))
def EqualFunc67.A : Ann := { conds := [], blocks := [(0, ⟨[], [], 0, [], 4294837184⟩)], loops := [(4, ⟨[(2, .fn 68 .unit), (17, .int .i64)], [], 0, [], 4294837184⟩)], keeps := [8, 9], orders := [] }
def EqualFunc67.S : Sig := { f := 67, params := [.sl (.st (.pair (.int .i64) (.pair (.int .i64) (.pair (.int .i64) (.sl (.st (.pair (.int .i64) (.pair (.int .i64) (.pair (.int .i64) (.int .i64)))))))))), .sl (.st (.pair (.int .i64) (.pair (.int .i64) (.pair (.int .i64) (.sl (.st (.pair (.int .i64) (.pair (.int .i64) (.pair (.int .i64) (.int .i64)))))))))), .fn 68 .unit], objs := [], res := .bool, outs := [], fix := [], run := fun k ds os => EqualFunc67 k ds.1 ds.2.1 ds.2.2 }
def EqualFunc67.G : List Sig := [alike168.S]
theorem EqualFunc67.eq (k : Nat) : ∀ ds os, EqualFunc67.S.run k ds os = runF ⟨types, EqualFunc67.G, EqualFunc67.A, k, 0, []⟩ Tryz.f67 (codeOf Tryz.f67) EqualFunc67.S.params EqualFunc67.S.objs EqualFunc67.S.res EqualFunc67.S.outs ds os := by
  intro ds os; kernel_rfl
theorem EqualFunc67.dr : DrOk Tryz.prog EqualFunc67.A (codeOf Tryz.f67) := ⟨by kernel_rfl, by kernel_rfl⟩
theorem EqualFunc67.ok (k : Nat) : SoundAt Tryz.prog k EqualFunc67.S :=
  runF_sound (X := ⟨types, EqualFunc67.G, EqualFunc67.A, k, 0, []⟩) types_ok (mem_all (⟨alike168.ok k, trivial⟩)) (fn := Tryz.f67) (c := codeOf Tryz.f67) rfl (by kernel_rfl) rfl rfl EqualFunc67.dr (EqualFunc67.eq k)

def alike29 (k : Nat) (x : (Int × (ByteArray × (Int × (List (Int × (Int × (Int × (List (Int × (Int × (Int × Int)))))))))))) (y : (Int × (ByteArray × (Int × (List (Int × (Int × (Int × (List (Int × (Int × (Int × Int)))))))))))) : Option (Bool × Unit) :=
  (EqualFunc67 k x.2.2.2 y.2.2.2 ()).bind fun t9 =>
  some (t9.1, ())
def alike29.A : Ann := { conds := [], blocks := [], loops := [], keeps := [2, 3], orders := [] }
def alike29.S : Sig := { f := 29, params := [.st (.pair (.int .i64) (.pair .str (.pair (.int .i64) (.sl (.st (.pair (.int .i64) (.pair (.int .i64) (.pair (.int .i64) (.sl (.st (.pair (.int .i64) (.pair (.int .i64) (.pair (.int .i64) (.int .i64)))))))))))))), .st (.pair (.int .i64) (.pair .str (.pair (.int .i64) (.sl (.st (.pair (.int .i64) (.pair (.int .i64) (.pair (.int .i64) (.sl (.st (.pair (.int .i64) (.pair (.int .i64) (.pair (.int .i64) (.int .i64))))))))))))))], objs := [], res := .bool, outs := [], fix := [], run := fun k ds os => alike29 k ds.1 ds.2 }
def alike29.G : List Sig := [EqualFunc67.S]
theorem alike29.eq (k : Nat) : ∀ ds os, alike29.S.run k ds os = runF ⟨types, alike29.G, alike29.A, k, 0, []⟩ Tryz.f29 (codeOf Tryz.f29) alike29.S.params alike29.S.objs alike29.S.res alike29.S.outs ds os := by
  intro ds os; kernel_rfl
theorem alike29.dr : DrOk Tryz.prog alike29.A (codeOf Tryz.f29) := ⟨by kernel_rfl, by kernel_rfl⟩
theorem alike29.ok (k : Nat) : SoundAt Tryz.prog k alike29.S :=
  runF_sound (X := ⟨types, alike29.G, alike29.A, k, 0, []⟩) types_ok (mem_all (⟨EqualFunc67.ok k, trivial⟩)) (fn := Tryz.f29) (c := codeOf Tryz.f29) rfl (by kernel_rfl) rfl rfl alike29.dr (alike29.eq k)

def width100 (k : Nat) (bits : Int) : Option (Int × Unit) :=
  some ((mxI 0 (mnI bits 62)), ())
def width100.A : Ann := { conds := [], blocks := [], loops := [], keeps := [], orders := [] }
def width100.S : Sig := { f := 100, params := [.int .i64], objs := [], res := .int .i64, outs := [], fix := [], run := fun k ds os => width100 k ds }
def width100.G : List Sig := []
theorem width100.eq (k : Nat) : ∀ ds os, width100.S.run k ds os = runF ⟨types, width100.G, width100.A, k, 0, []⟩ Tryz.f100 (codeOf Tryz.f100) width100.S.params width100.S.objs width100.S.res width100.S.outs ds os := by
  intro ds os; kernel_rfl
theorem width100.dr : DrOk Tryz.prog width100.A (codeOf Tryz.f100) := ⟨by kernel_rfl, by kernel_rfl⟩
theorem width100.ok (k : Nat) : SoundAt Tryz.prog k width100.S :=
  runF_sound (X := ⟨types, width100.G, width100.A, k, 0, []⟩) types_ok (fun s hs => absurd hs List.not_mem_nil) (fn := Tryz.f100) (c := codeOf Tryz.f100) rfl (by kernel_rfl) rfl rfl width100.dr (width100.eq k)

def Low70 (k : Nat) (n : Int) (bits : Int) : Option (Int × Unit) :=
  (width100 k bits).bind fun t7 =>
  (if t7.1 < 0 then none else some (shlI .i64 1 t7.1)).bind fun t8 =>
  some ((ibits .and .i64 n (w64 (t8 - 1))), ())
def Low70.A : Ann := { conds := [], blocks := [], loops := [], keeps := [], orders := [] }
def Low70.S : Sig := { f := 70, params := [.int .i64, .int .i64], objs := [], res := .int .i64, outs := [], fix := [], run := fun k ds os => Low70 k ds.1 ds.2 }
def Low70.G : List Sig := [width100.S]
theorem Low70.eq (k : Nat) : ∀ ds os, Low70.S.run k ds os = runF ⟨types, Low70.G, Low70.A, k, 0, []⟩ Tryz.f70 (codeOf Tryz.f70) Low70.S.params Low70.S.objs Low70.S.res Low70.S.outs ds os := by
  intro ds os; kernel_rfl
theorem Low70.dr : DrOk Tryz.prog Low70.A (codeOf Tryz.f70) := ⟨by kernel_rfl, by kernel_rfl⟩
theorem Low70.ok (k : Nat) : SoundAt Tryz.prog k Low70.S :=
  runF_sound (X := ⟨types, Low70.G, Low70.A, k, 0, []⟩) types_ok (mem_all (⟨width100.ok k, trivial⟩)) (fn := Tryz.f70) (c := codeOf Tryz.f70) rfl (by kernel_rfl) rfl rfl Low70.dr (Low70.eq k)

def Starts71.l0 (k : Nat) (t12 : Int) : (Unit × (Unit × (Unit × (Int × ((List Int) × ((List (List Int)) × (List Int))))))) → Option ((Unit × (Unit × (Unit × (Int × ((List Int) × ((List (List Int)) × (List Int))))))) ⊕ (Unit × (Unit × ((List Int) × (List (List Int))))))
  | (_, _, _, t15, o0_1, o4_1, o5) =>
    cond (decide (t15 < (List.length ([0, 1, 2, 128, 131] : List Int) : Int)))
      ((rd o5 t15).bind fun _ =>
      (rd o5 t15).bind fun t18 =>
      (Low70 k (w64 ((w64 (3 * t12)) + 1)) 8).bind fun t23 =>
      (Low70 k (w64 ((w64 (5 * t12)) + 2)) 8).bind fun t27 =>
      (if 0 ≤ 0 ∧ 0 < 9 then some () else none).bind fun _ =>
      (rd (List.replicate 9 0) 0).bind fun _ =>
      (if 0 ≤ 1 ∧ 1 < 9 then some () else none).bind fun _ =>
      (rd (List.set (List.replicate 9 0) (Int.toNat 0) t12) 1).bind fun _ =>
      (if 0 ≤ 2 ∧ 2 < 9 then some () else none).bind fun _ =>
      (rd (List.set (List.set (List.replicate 9 0) (Int.toNat 0) t12) (Int.toNat 1) t23.1) 2).bind fun _ =>
      (if 0 ≤ 3 ∧ 3 < 9 then some () else none).bind fun _ =>
      (rd (List.set (List.set (List.set (List.replicate 9 0) (Int.toNat 0) t12) (Int.toNat 1) t23.1) (Int.toNat 2) t27.1) 3).bind fun _ =>
      (if 0 ≤ 4 ∧ 4 < 9 then some () else none).bind fun _ =>
      (rd (List.set (List.set (List.set (List.set (List.replicate 9 0) (Int.toNat 0) t12) (Int.toNat 1) t23.1) (Int.toNat 2) t27.1) (Int.toNat 3) 240) 4).bind fun _ =>
      (if room (List.length o4_1 + List.length [(List.set (List.set (List.set (List.set (List.set (List.replicate 9 0) (Int.toNat 0) t12) (Int.toNat 1) t23.1) (Int.toNat 2) t27.1) (Int.toNat 3) 240) (Int.toNat 4) t18)]) 72 then some () else none).bind fun _ =>
      some (Sum.inl ((), (), (), (w64 (t15 + 1)), o0_1, (o4_1 ++ [(List.set (List.set (List.set (List.set (List.set (List.replicate 9 0) (Int.toNat 0) t12) (Int.toNat 1) t23.1) (Int.toNat 2) t27.1) (Int.toNat 3) 240) (Int.toNat 4) t18)]), o5)))
      (some (Sum.inr ((), (), o0_1, o4_1)))
def Starts71.l1 (k : Nat) : (Unit × (Unit × (Int × ((List Int) × (List (List Int)))))) → Option ((Unit × (Unit × (Int × ((List Int) × (List (List Int)))))) ⊕ (Unit × (List (List Int))))
  | (_, _, t9, o0, o4) =>
    cond (decide (t9 < (List.length ([0, 1, 127, 128, 255] : List Int) : Int)))
      ((rd o0 t9).bind fun _ =>
      (rd o0 t9).bind fun t12 =>
      Option.bind
        (loopN (Starts71.l0 k t12) k ((), (), (), 0, o0, o4, ([0, 1, 2, 128, 131] : List Int)) : Option (Unit × (Unit × ((List Int) × (List (List Int)))))) fun ((_, _, o0_2, o4_2) : (Unit × (Unit × ((List Int) × (List (List Int)))))) =>
      some (Sum.inl ((), (), (w64 (t9 + 1)), o0_2, o4_2)))
      (some (Sum.inr ((), o4)))
def Starts71 (k : Nat) : Option ((List (List Int)) × Unit) :=
  Option.bind
    (loopN (Starts71.l1 k) k ((), (), 0, ([0, 1, 127, 128, 255] : List Int), []) : Option (Unit × (List (List Int)))) fun ((_, o4_3) : (Unit × (List (List Int)))) =>
  some (o4_3, ())
def Starts71.A : Ann := { conds := [], blocks := [(0, ⟨[(1, .ms 4)], [(4, .row (.arr 9 (.int .i64)))], 5, [], 1099511627370⟩), (2, ⟨[(1, .ms 4), (7, .ms 0)], [(0, .row (.int .i64)), (4, .row (.arr 9 (.int .i64)))], 5, [], 549755781218⟩)], loops := [(3, ⟨[(1, .ms 4), (7, .ms 0), (9, .int .i64)], [(0, .row (.int .i64)), (4, .row (.arr 9 (.int .i64)))], 5, [(4, .arr 9 (.int .i64))], 1099511627370⟩), (6, ⟨[(1, .ms 4), (7, .ms 0), (13, .ms 5), (15, .int .i64)], [(0, .row (.int .i64)), (4, .row (.arr 9 (.int .i64))), (5, .row (.int .i64))], 6, [], 549755781218⟩)], keeps := [], orders := [] }
def Starts71.S : Sig := { f := 71, params := [], objs := [], res := .sl (.arr 9 (.int .i64)), outs := [], fix := [], run := fun k ds os => Starts71 k }
def Starts71.G : List Sig := [Low70.S]
theorem Starts71.eq (k : Nat) : ∀ ds os, Starts71.S.run k ds os = runF ⟨types, Starts71.G, Starts71.A, k, 0, []⟩ Tryz.f71 (codeOf Tryz.f71) Starts71.S.params Starts71.S.objs Starts71.S.res Starts71.S.outs ds os := by
  intro ds os; kernel_rfl
theorem Starts71.dr : DrOk Tryz.prog Starts71.A (codeOf Tryz.f71) := ⟨by kernel_rfl, by kernel_rfl⟩
theorem Starts71.ok (k : Nat) : SoundAt Tryz.prog k Starts71.S :=
  runF_sound (X := ⟨types, Starts71.G, Starts71.A, k, 0, []⟩) types_ok (mem_all (⟨Low70.ok k, trivial⟩)) (fn := Tryz.f71) (c := codeOf Tryz.f71) rfl (by kernel_rfl) rfl rfl Starts71.dr (Starts71.eq k)

def Named1121 (k : Nat) (x : (Int × (ByteArray × (Int × (List (Int × (Int × (Int × (List (Int × (Int × (Int × Int)))))))))))) (t1 : ByteArray) (t2 : Int) : Option (Bool × Unit) :=
  some ((cond (streq x.2.1 t1) (x.2.2.1 == t2) false), ())
def Named1121.A : Ann := { conds := [], blocks := [], loops := [], keeps := [3], orders := [] }
def Named1121.S : Sig := { f := 121, params := [.st (.pair (.int .i64) (.pair .str (.pair (.int .i64) (.sl (.st (.pair (.int .i64) (.pair (.int .i64) (.pair (.int .i64) (.sl (.st (.pair (.int .i64) (.pair (.int .i64) (.pair (.int .i64) (.int .i64)))))))))))))), .fp .str, .fp (.int .i64)], objs := [], res := .bool, outs := [], fix := [], run := fun k ds os => Named1121 k ds.1 ds.2.1 ds.2.2 }
def Named1121.G : List Sig := []
theorem Named1121.eq (k : Nat) : ∀ ds os, Named1121.S.run k ds os = runF ⟨types, Named1121.G, Named1121.A, k, 0, []⟩ Tryz.f121 (codeOf Tryz.f121) Named1121.S.params Named1121.S.objs Named1121.S.res Named1121.S.outs ds os := by
  intro ds os; kernel_rfl
theorem Named1121.dr : DrOk Tryz.prog Named1121.A (codeOf Tryz.f121) := ⟨by kernel_rfl, by kernel_rfl⟩
theorem Named1121.ok (k : Nat) : SoundAt Tryz.prog k Named1121.S :=
  runF_sound (X := ⟨types, Named1121.G, Named1121.A, k, 0, []⟩) types_ok (fun s hs => absurd hs List.not_mem_nil) (fn := Tryz.f121) (c := codeOf Tryz.f121) rfl (by kernel_rfl) rfl rfl Named1121.dr (Named1121.eq k)

def IndexFunc42''.l0 (k : Nat) (s : (List (Int × (ByteArray × (Int × (List (Int × (Int × (Int × (List (Int × (Int × (Int × Int))))))))))))) : ((ByteArray × (Int × Unit)) × Int) → Option (((ByteArray × (Int × Unit)) × Int) ⊕ (Unit ⊕ (Int × Unit)))
  | (f_1, t8) =>
    cond (decide (t8 < (List.length s : Int)))
      ((rd s t8).bind fun t14 =>
      (Named1121 k t14 f_1.1 f_1.2.1).bind fun t16 =>
      cond t16.1
        (some (Sum.inr (Sum.inr (t8, ()))))
        (some (Sum.inl (f_1, (w64 (t8 + 1))))))
      (some (Sum.inr (Sum.inl ())))
def IndexFunc42'' (k : Nat) (s : (List (Int × (ByteArray × (Int × (List (Int × (Int × (Int × (List (Int × (Int × (Int × Int))))))))))))) (f : (ByteArray × (Int × Unit))) : Option (Int × Unit) :=
  Option.bind
    (loopN (IndexFunc42''.l0 k s) k (f, 0) : Option (Unit ⊕ (Int × Unit))) (joined fun (_ : Unit) =>
    some ((-1), ()))
def IndexFunc42''.A : Ann := { conds := [], blocks := [(0, ⟨[], [], 0, [], 524080⟩)], loops := [(2, ⟨[(1, .fn 121 (.pair (.fp .str) (.pair (.fp (.int .i64)) .unit))), (8, .int .i64)], [], 0, [], 524080⟩)], keeps := [], orders := [] }
def IndexFunc42''.S : Sig := { f := 42, params := [.sl (.st (.pair (.int .i64) (.pair .str (.pair (.int .i64) (.sl (.st (.pair (.int .i64) (.pair (.int .i64) (.pair (.int .i64) (.sl (.st (.pair (.int .i64) (.pair (.int .i64) (.pair (.int .i64) (.int .i64))))))))))))))), .fn 121 (.pair (.fp .str) (.pair (.fp (.int .i64)) .unit))], objs := [], res := .int .i64, outs := [], fix := [], run := fun k ds os => IndexFunc42'' k ds.1 ds.2 }
def IndexFunc42''.G : List Sig := [Named1121.S]
theorem IndexFunc42''.eq (k : Nat) : ∀ ds os, IndexFunc42''.S.run k ds os = runF ⟨types, IndexFunc42''.G, IndexFunc42''.A, k, 0, []⟩ Tryz.f42 (codeOf Tryz.f42) IndexFunc42''.S.params IndexFunc42''.S.objs IndexFunc42''.S.res IndexFunc42''.S.outs ds os := by
  intro ds os; kernel_rfl
theorem IndexFunc42''.dr : DrOk Tryz.prog IndexFunc42''.A (codeOf Tryz.f42) := ⟨by kernel_rfl, by kernel_rfl⟩
theorem IndexFunc42''.ok (k : Nat) : SoundAt Tryz.prog k IndexFunc42''.S :=
  runF_sound (X := ⟨types, IndexFunc42''.G, IndexFunc42''.A, k, 0, []⟩) types_ok (mem_all (⟨Named1121.ok k, trivial⟩)) (fn := Tryz.f42) (c := codeOf Tryz.f42) rfl (by kernel_rfl) rfl rfl IndexFunc42''.dr (IndexFunc42''.eq k)
end Go.Proofs.YtcppmlgnceldmaaGreat.Gf

/- Go functions as plain Lean functions, and their contracts. -/
set_option linter.unusedVariables false
set_option maxRecDepth 100000
noncomputable section
namespace Go.Proofs.YtcppmlgnceldmaaGreat.Gf
open Go Go.Proofs.YtcppmlgnceldmaaGreat.Gp
def Grow48 (k : Nat) (_ : Unit) (n : Int) : Option (Unit × (List ((List Int) × (List Int)))) :=
  Option.bind
    (cond (decide (n < 0))
      (none)
      (some ()) : Option Unit) fun (_ : Unit) =>
  let t14 : Int := (w64 (n - (w64 (0 - 0))))
  Option.bind
    (cond (decide (t14 > 0))
      ((if (0 : Int) = 0 ∧ 0 = 0 then some () else none).bind fun _ =>
      (if 0 < t14 ∧ t14 * 96 ≤ 140737488355328 then some () else none).bind fun _ =>
      (slc (List.replicate (Int.toNat t14) ([], (List.replicate 9 0))) 0 0).bind fun t25 =>
      some ((), t25))
      (some ((), [])) : Option (Unit × (List ((List Int) × (List Int))))) fun ((_, o0) : (Unit × (List ((List Int) × (List Int))))) =>
  some ((), o0)
def Grow48.A : Ann := { conds := [(393218, ⟨[(0, .nil)], [], 0, [], 128⟩), (1048581, ⟨[(0, .ms 0)], [(0, .row (.st (.pair (.sl (.int .u8)) (.arr 9 (.int .i64)))))], 1, [(0, .st (.pair (.sl (.int .u8)) (.arr 9 (.int .i64))))], 66977793⟩)], blocks := [], loops := [], keeps := [], orders := [] }
def Grow48.S : Sig := { f := 48, params := [.nil, .int .i64], objs := [], res := .ms 0, outs := [.row (.st (.pair (.sl (.int .u8)) (.arr 9 (.int .i64))))], fix := [], run := fun k ds os => Grow48 k ds.1 ds.2 }
def Grow48.G : List Sig := []
theorem Grow48.eq (k : Nat) : ∀ ds os, Grow48.S.run k ds os = runF ⟨types, Grow48.G, Grow48.A, k, 0, []⟩ Tryz.f48 (codeOf Tryz.f48) Grow48.S.params Grow48.S.objs Grow48.S.res Grow48.S.outs ds os := by
  intro ds os; kernel_rfl
theorem Grow48.dr : DrOk Tryz.prog Grow48.A (codeOf Tryz.f48) := ⟨by kernel_rfl, by kernel_rfl⟩
theorem Grow48.ok (k : Nat) : SoundAt Tryz.prog k Grow48.S :=
  runF_sound (X := ⟨types, Grow48.G, Grow48.A, k, 0, []⟩) types_ok (fun s hs => absurd hs List.not_mem_nil) (fn := Tryz.f48) (c := codeOf Tryz.f48) rfl (by kernel_rfl) rfl rfl Grow48.dr (Grow48.eq k)

def Concat13.l0 (k : Nat) (slices : (List (List ((List Int) × (List Int))))) : (Int × Int) → Option ((Int × Int) ⊕ Int)
  | (size, t11) =>
    cond (decide (t11 < (List.length slices : Int)))
      ((rd slices t11).bind fun t13 =>
      let t18 : Int := (w64 (size + (List.length t13 : Int)))
      Option.bind
        (cond (decide (t18 < 0))
          (none)
          (some ()) : Option Unit) fun (_ : Unit) =>
      some (Sum.inl (t18, (w64 (t11 + 1)))))
      (some (Sum.inr size))
def Concat13.l1 (k : Nat) (slices : (List (List ((List Int) × (List Int))))) : (Unit × (Int × (List ((List Int) × (List Int))))) → Option ((Unit × (Int × (List ((List Int) × (List Int))))) ⊕ (Unit × (List ((List Int) × (List Int)))))
  | (_, t27, o0) =>
    cond (decide (t27 < (List.length slices : Int)))
      ((rd slices t27).bind fun t29 =>
      (if room (List.length o0 + List.length t29) 96 then some () else none).bind fun _ =>
      some (Sum.inl ((), (w64 (t27 + 1)), (o0 ++ t29))))
      (some (Sum.inr ((), o0)))
def Concat13 (k : Nat) (slices : (List (List ((List Int) × (List Int))))) : Option ((List ((List Int) × (List Int))) × Unit) :=
  Option.bind
    (loopN (Concat13.l0 k slices) k (0, 0) : Option Int) fun (size_1 : Int) =>
  (Grow48 k () size_1).bind fun t24 =>
  Option.bind
    (loopN (Concat13.l1 k slices) k ((), 0, t24.2) : Option (Unit × (List ((List Int) × (List Int))))) fun ((_, o0_1) : (Unit × (List ((List Int) × (List Int))))) =>
  some (o0_1, ())
def Concat13.A : Ann := { conds := [(1310727, ⟨[], [], 0, [], 2097152⟩)], blocks := [(0, ⟨[(3, .int .i64)], [], 0, [], 8386600⟩), (2, ⟨[(6, .ms 0)], [(0, .row (.st (.pair (.sl (.int .u8)) (.arr 9 (.int .i64)))))], 1, [], 34225520960⟩)], loops := [(3, ⟨[(3, .int .i64), (11, .int .i64)], [], 0, [], 8386600⟩), (11, ⟨[(6, .ms 0), (27, .int .i64)], [(0, .row (.st (.pair (.sl (.int .u8)) (.arr 9 (.int .i64)))))], 1, [], 34225520960⟩)], keeps := [], orders := [] }
def Concat13.S : Sig := { f := 13, params := [.sl (.sl (.st (.pair (.sl (.int .u8)) (.arr 9 (.int .i64)))))], objs := [], res := .sl (.st (.pair (.sl (.int .u8)) (.arr 9 (.int .i64)))), outs := [], fix := [], run := fun k ds os => Concat13 k ds }
def Concat13.G : List Sig := [Grow48.S]
theorem Concat13.eq (k : Nat) : ∀ ds os, Concat13.S.run k ds os = runF ⟨types, Concat13.G, Concat13.A, k, 0, []⟩ Tryz.f13 (codeOf Tryz.f13) Concat13.S.params Concat13.S.objs Concat13.S.res Concat13.S.outs ds os := by
  intro ds os; kernel_rfl
theorem Concat13.dr : DrOk Tryz.prog Concat13.A (codeOf Tryz.f13) := ⟨by kernel_rfl, by kernel_rfl⟩
theorem Concat13.ok (k : Nat) : SoundAt Tryz.prog k Concat13.S :=
  runF_sound (X := ⟨types, Concat13.G, Concat13.A, k, 0, []⟩) types_ok (mem_all (⟨Grow48.ok k, trivial⟩)) (fn := Tryz.f13) (c := codeOf Tryz.f13) rfl (by kernel_rfl) rfl rfl Concat13.dr (Concat13.eq k)

def bits140 (k : Nat) (reg : Int) : Option (Int × Unit) :=
  (Wide102 k reg).bind fun t4 =>
  cond t4.1
    (some (16, ()))
    (some (8, ()))
def bits140.A : Ann := { conds := [], blocks := [], loops := [], keeps := [], orders := [] }
def bits140.S : Sig := { f := 140, params := [.int .i64], objs := [], res := .int .i64, outs := [], fix := [], run := fun k ds os => bits140 k ds }
def bits140.G : List Sig := [Wide102.S]
theorem bits140.eq (k : Nat) : ∀ ds os, bits140.S.run k ds os = runF ⟨types, bits140.G, bits140.A, k, 0, []⟩ Tryz.f140 (codeOf Tryz.f140) bits140.S.params bits140.S.objs bits140.S.res bits140.S.outs ds os := by
  intro ds os; kernel_rfl
theorem bits140.dr : DrOk Tryz.prog bits140.A (codeOf Tryz.f140) := ⟨by kernel_rfl, by kernel_rfl⟩
theorem bits140.ok (k : Nat) : SoundAt Tryz.prog k bits140.S :=
  runF_sound (X := ⟨types, bits140.G, bits140.A, k, 0, []⟩) types_ok (mem_all (⟨Wide102.ok k, trivial⟩)) (fn := Tryz.f140) (c := codeOf Tryz.f140) rfl (by kernel_rfl) rfl rfl bits140.dr (bits140.eq k)

def Fit104.l0 (k : Nat) : (Unit × (Unit × (Int × ((List Int) × (List Int))))) → Option ((Unit × (Unit × (Int × ((List Int) × (List Int))))) ⊕ (Unit × (Unit × ((List Int) × (List Int)))))
  | (_, _, t4, o0, o1) =>
    cond (decide (t4 < 9))
      ((if 0 ≤ t4 ∧ t4 < 9 then some () else none).bind fun _ =>
      (rd o0 t4).bind fun t10 =>
      (bits140 k t4).bind fun t12 =>
      (Low70 k t10 t12.1).bind fun t13 =>
      (if 0 ≤ t4 ∧ t4 < 9 then some () else none).bind fun _ =>
      (rd o0 t4).bind fun _ =>
      some (Sum.inl ((), (), (w64 (t4 + 1)), (List.set o0 (Int.toNat t4) t13.1), o1)))
      (some (Sum.inr ((), (), o0, o1)))
def Fit104 (k : Nat) (r : (List Int)) : Option ((List Int) × Unit) :=
  Option.bind
    (loopN (Fit104.l0 k) k ((), (), 0, r, (List.replicate 9 0)) : Option (Unit × (Unit × ((List Int) × (List Int))))) fun ((_, _, o0_1, _) : (Unit × (Unit × ((List Int) × (List Int))))) =>
  some (o0_1, ())
def Fit104.A : Ann := { conds := [], blocks := [(0, ⟨[(1, .ptr 0 []), (2, .ptr 1 [])], [(0, .var (.arr 9 (.int .i64))), (1, .var (.arr 9 (.int .i64)))], 2, [], 65528⟩)], loops := [(2, ⟨[(1, .ptr 0 []), (2, .ptr 1 []), (4, .int .i64)], [(0, .var (.arr 9 (.int .i64))), (1, .var (.arr 9 (.int .i64)))], 2, [], 65528⟩)], keeps := [], orders := [(4, [(0, .strong), (1, .strong), (2, .strong), (3, .strong), (4, .strong), (5, .eff true), (6, .eff true), (7, .strong), (8, .eff false)])] }
def Fit104.S : Sig := { f := 104, params := [.arr 9 (.int .i64)], objs := [], res := .arr 9 (.int .i64), outs := [], fix := [], run := fun k ds os => Fit104 k ds }
def Fit104.G : List Sig := [Low70.S, bits140.S]
theorem Fit104.eq (k : Nat) : ∀ ds os, Fit104.S.run k ds os = runF ⟨types, Fit104.G, Fit104.A, k, 0, []⟩ Tryz.f104 (codeOf Tryz.f104) Fit104.S.params Fit104.S.objs Fit104.S.res Fit104.S.outs ds os := by
  intro ds os; kernel_rfl
theorem Fit104.dr : DrOk Tryz.prog Fit104.A (codeOf Tryz.f104) := ⟨by kernel_rfl, by kernel_rfl⟩
theorem Fit104.ok (k : Nat) : SoundAt Tryz.prog k Fit104.S :=
  runF_sound (X := ⟨types, Fit104.G, Fit104.A, k, 0, []⟩) types_ok (mem_all (⟨Low70.ok k, ⟨bits140.ok k, trivial⟩⟩)) (fn := Tryz.f104) (c := codeOf Tryz.f104) rfl (by kernel_rfl) rfl rfl Fit104.dr (Fit104.eq k)

def cycles111.l0 (k : Nat) (c : (ByteArray × ((List (Int × (ByteArray × (Int × (List (Int × (Int × (Int × (List (Int × (Int × (Int × Int)))))))))))) × ((List (Int × (Int × (Int × (List (Int × (Int × (Int × Int)))))))) × ((List (Int × (Int × (Int × (List (Int × (Int × (Int × Int)))))))) × (List (Int × (Int × (Int × (List (Int × (Int × (Int × Int))))))))))))) (op : Int) : Int → Option (Int ⊕ (Unit ⊕ ((List (Int × (Int × (Int × (List (Int × (Int × (Int × Int)))))))) × Unit)))
  | t23 =>
    cond (decide (t23 < (List.length c.2.1 : Int)))
      ((rd c.2.1 t23).bind fun t25 =>
      cond (cond (cond (t25.1 == op) (decide (op ≥ 0)) false) (decide (op ≤ 255)) false)
        (some (Sum.inr (Sum.inr (t25.2.2.2, ()))))
        (some (Sum.inl (w64 (t23 + 1)))))
      (some (Sum.inr (Sum.inl ())))
def cycles111 (k : Nat) (c : (ByteArray × ((List (Int × (ByteArray × (Int × (List (Int × (Int × (Int × (List (Int × (Int × (Int × Int)))))))))))) × ((List (Int × (Int × (Int × (List (Int × (Int × (Int × Int)))))))) × ((List (Int × (Int × (Int × (List (Int × (Int × (Int × Int)))))))) × (List (Int × (Int × (Int × (List (Int × (Int × (Int × Int))))))))))))) (op : Int) : Option ((List (Int × (Int × (Int × (List (Int × (Int × (Int × Int)))))))) × Unit) :=
  cond (op == 256)
    (some (c.2.2.2.1, ()))
    (cond (op == 257)
      (some (c.2.2.2.2, ()))
      (cond (op == 258)
        (some (c.2.2.1, ()))
        (Option.bind
          (loopN (cycles111.l0 k c op) k 0 : Option (Unit ⊕ ((List (Int × (Int × (Int × (List (Int × (Int × (Int × Int)))))))) × Unit))) (joined fun (_ : Unit) =>
          some ([], ())))))
def cycles111.A : Ann := { conds := [], blocks := [(1, ⟨[], [], 0, [], 4398038122576⟩)], loops := [(9, ⟨[(23, .int .i64)], [], 0, [], 4398038122576⟩)], keeps := [2, 6], orders := [] }
def cycles111.S : Sig := { f := 111, params := [.st (.pair .str (.pair (.sl (.st (.pair (.int .i64) (.pair .str (.pair (.int .i64) (.sl (.st (.pair (.int .i64) (.pair (.int .i64) (.pair (.int .i64) (.sl (.st (.pair (.int .i64) (.pair (.int .i64) (.pair (.int .i64) (.int .i64)))))))))))))))) (.pair (.sl (.st (.pair (.int .i64) (.pair (.int .i64) (.pair (.int .i64) (.sl (.st (.pair (.int .i64) (.pair (.int .i64) (.pair (.int .i64) (.int .i64))))))))))) (.pair (.sl (.st (.pair (.int .i64) (.pair (.int .i64) (.pair (.int .i64) (.sl (.st (.pair (.int .i64) (.pair (.int .i64) (.pair (.int .i64) (.int .i64))))))))))) (.sl (.st (.pair (.int .i64) (.pair (.int .i64) (.pair (.int .i64) (.sl (.st (.pair (.int .i64) (.pair (.int .i64) (.pair (.int .i64) (.int .i64))))))))))))))), .int .i64], objs := [], res := .sl (.st (.pair (.int .i64) (.pair (.int .i64) (.pair (.int .i64) (.sl (.st (.pair (.int .i64) (.pair (.int .i64) (.pair (.int .i64) (.int .i64)))))))))), outs := [], fix := [], run := fun k ds os => cycles111 k ds.1 ds.2 }
def cycles111.G : List Sig := []
theorem cycles111.eq (k : Nat) : ∀ ds os, cycles111.S.run k ds os = runF ⟨types, cycles111.G, cycles111.A, k, 0, []⟩ Tryz.f111 (codeOf Tryz.f111) cycles111.S.params cycles111.S.objs cycles111.S.res cycles111.S.outs ds os := by
  intro ds os; kernel_rfl
theorem cycles111.dr : DrOk Tryz.prog cycles111.A (codeOf Tryz.f111) := ⟨by kernel_rfl, by kernel_rfl⟩
theorem cycles111.ok (k : Nat) : SoundAt Tryz.prog k cycles111.S :=
  runF_sound (X := ⟨types, cycles111.G, cycles111.A, k, 0, []⟩) types_ok (fun s hs => absurd hs List.not_mem_nil) (fn := Tryz.f111) (c := codeOf Tryz.f111) rfl (by kernel_rfl) rfl rfl cycles111.dr (cycles111.eq k)
end Go.Proofs.YtcppmlgnceldmaaGreat.Gf

/- Go functions as plain Lean functions, and their contracts. -/
set_option linter.unusedVariables false
set_option maxRecDepth 100000
noncomputable section
namespace Go.Proofs.YtcppmlgnceldmaaGreat.Gf
open Go Go.Proofs.YtcppmlgnceldmaaGreat.Gp
def Named84 (k : Nat) (c : (ByteArray × ((List (Int × (ByteArray × (Int × (List (Int × (Int × (Int × (List (Int × (Int × (Int × Int)))))))))))) × ((List (Int × (Int × (Int × (List (Int × (Int × (Int × Int)))))))) × ((List (Int × (Int × (Int × (List (Int × (Int × (Int × Int)))))))) × (List (Int × (Int × (Int × (List (Int × (Int × (Int × Int))))))))))))) (name : ByteArray) (mode : Int) : Option (((Int × (ByteArray × (Int × (List (Int × (Int × (Int × (List (Int × (Int × (Int × Int))))))))))) × (Bool × Unit)) × Unit) :=
  (IndexFunc42'' k c.2.1 (name, mode, ())).bind fun t12 =>
  cond (decide (t12.1 < 0))
    (some (((0, (ByteArray.mk #[]), 0, []), false, ()), ()))
    ((rd c.2.1 t12.1).bind fun t19 =>
    (Copy44 k t19).bind fun t21 =>
    some ((t21.1, true, ()), ()))
def Named84.A : Ann := { conds := [], blocks := [], loops := [], keeps := [3, 4, 5], orders := [] }
def Named84.S : Sig := { f := 84, params := [.st (.pair .str (.pair (.sl (.st (.pair (.int .i64) (.pair .str (.pair (.int .i64) (.sl (.st (.pair (.int .i64) (.pair (.int .i64) (.pair (.int .i64) (.sl (.st (.pair (.int .i64) (.pair (.int .i64) (.pair (.int .i64) (.int .i64)))))))))))))))) (.pair (.sl (.st (.pair (.int .i64) (.pair (.int .i64) (.pair (.int .i64) (.sl (.st (.pair (.int .i64) (.pair (.int .i64) (.pair (.int .i64) (.int .i64))))))))))) (.pair (.sl (.st (.pair (.int .i64) (.pair (.int .i64) (.pair (.int .i64) (.sl (.st (.pair (.int .i64) (.pair (.int .i64) (.pair (.int .i64) (.int .i64))))))))))) (.sl (.st (.pair (.int .i64) (.pair (.int .i64) (.pair (.int .i64) (.sl (.st (.pair (.int .i64) (.pair (.int .i64) (.pair (.int .i64) (.int .i64))))))))))))))), .str, .int .i64], objs := [], res := .tup (.pair (.st (.pair (.int .i64) (.pair .str (.pair (.int .i64) (.sl (.st (.pair (.int .i64) (.pair (.int .i64) (.pair (.int .i64) (.sl (.st (.pair (.int .i64) (.pair (.int .i64) (.pair (.int .i64) (.int .i64))))))))))))))) (.pair .bool .unit)), outs := [], fix := [], run := fun k ds os => Named84 k ds.1 ds.2.1 ds.2.2 }
def Named84.G : List Sig := [Copy44.S, IndexFunc42''.S]
theorem Named84.eq (k : Nat) : ∀ ds os, Named84.S.run k ds os = runF ⟨types, Named84.G, Named84.A, k, 0, []⟩ Tryz.f84 (codeOf Tryz.f84) Named84.S.params Named84.S.objs Named84.S.res Named84.S.outs ds os := by
  intro ds os; kernel_rfl
theorem Named84.dr : DrOk Tryz.prog Named84.A (codeOf Tryz.f84) := ⟨by kernel_rfl, by kernel_rfl⟩
theorem Named84.ok (k : Nat) : SoundAt Tryz.prog k Named84.S :=
  runF_sound (X := ⟨types, Named84.G, Named84.A, k, 0, []⟩) types_ok (mem_all (⟨Copy44.ok k, ⟨IndexFunc42''.ok k, trivial⟩⟩)) (fn := Tryz.f84) (c := codeOf Tryz.f84) rfl (by kernel_rfl) rfl rfl Named84.dr (Named84.eq k)

def tail72.l0 (k : Nat) : ((ByteArray × ((List (Int × (ByteArray × (Int × (List (Int × (Int × (Int × (List (Int × (Int × (Int × Int)))))))))))) × ((List (Int × (Int × (Int × (List (Int × (Int × (Int × Int)))))))) × ((List (Int × (Int × (Int × (List (Int × (Int × (Int × Int)))))))) × (List (Int × (Int × (Int × (List (Int × (Int × (Int × Int)))))))))))) × (Unit × (Unit × (Int × ((List ByteArray) × (List Int)))))) → Option (((ByteArray × ((List (Int × (ByteArray × (Int × (List (Int × (Int × (Int × (List (Int × (Int × (Int × Int)))))))))))) × ((List (Int × (Int × (Int × (List (Int × (Int × (Int × Int)))))))) × ((List (Int × (Int × (Int × (List (Int × (Int × (Int × Int)))))))) × (List (Int × (Int × (Int × (List (Int × (Int × (Int × Int)))))))))))) × (Unit × (Unit × (Int × ((List ByteArray) × (List Int)))))) ⊕ (Unit × (List Int)))
  | (c_1, _, _, t11, o0, o3) =>
    cond (decide (t11 < (List.length [(ByteArray.mk #[112, 104, 112]), (ByteArray.mk #[112, 104, 97]), (ByteArray.mk #[115, 116, 97]), (ByteArray.mk #[115, 116, 120]), (ByteArray.mk #[115, 116, 121])] : Int)))
      ((rd o0 t11).bind fun _ =>
      (rd o0 t11).bind fun t14 =>
      (rd (bytesOf t14) 0).bind fun t16 =>
      Option.bind
        (cond (t16 == 115)
          (some (c_1, (), 2, (), o0, o3))
          (some (c_1, (), 0, (), o0, o3)) : Option ((ByteArray × ((List (Int × (ByteArray × (Int × (List (Int × (Int × (Int × (List (Int × (Int × (Int × Int)))))))))))) × ((List (Int × (Int × (Int × (List (Int × (Int × (Int × Int)))))))) × ((List (Int × (Int × (Int × (List (Int × (Int × (Int × Int)))))))) × (List (Int × (Int × (Int × (List (Int × (Int × (Int × Int)))))))))))) × (Unit × (Int × (Unit × ((List ByteArray) × (List Int))))))) fun ((c_2, _, mode, _, o0_1, o3_1) : ((ByteArray × ((List (Int × (ByteArray × (Int × (List (Int × (Int × (Int × (List (Int × (Int × (Int × Int)))))))))))) × ((List (Int × (Int × (Int × (List (Int × (Int × (Int × Int)))))))) × ((List (Int × (Int × (Int × (List (Int × (Int × (Int × Int)))))))) × (List (Int × (Int × (Int × (List (Int × (Int × (Int × Int)))))))))))) × (Unit × (Int × (Unit × ((List ByteArray) × (List Int))))))) =>
      (Named84 k c_2 t14 mode).bind fun t22 =>
      Option.bind
        (cond t22.1.2.1
          (let t29 : Int := (IntKind.wrap .u8 t22.1.1.1)
          (if room (List.length o3_1 + List.length ([t29] : List Int)) 1 then some () else none).bind fun _ =>
          let t31 : (List Int) := (o3_1 ++ ([t29] : List Int))
          Option.bind
            (cond (mode == 2)
              (let t38 : Int := (IntKind.wrap .u8 (w64 (16 + (List.length t31 : Int))))
              (if room (List.length t31 + List.length ([t38] : List Int)) 1 then some () else none).bind fun _ =>
              some (c_2, (), (), o0_1, (t31 ++ ([t38] : List Int))))
              (some (c_2, (), (), o0_1, t31)) : Option ((ByteArray × ((List (Int × (ByteArray × (Int × (List (Int × (Int × (Int × (List (Int × (Int × (Int × Int)))))))))))) × ((List (Int × (Int × (Int × (List (Int × (Int × (Int × Int)))))))) × ((List (Int × (Int × (Int × (List (Int × (Int × (Int × Int)))))))) × (List (Int × (Int × (Int × (List (Int × (Int × (Int × Int)))))))))))) × (Unit × (Unit × ((List ByteArray) × (List Int)))))) fun ((c_3, _, _, o0_2, o3_2) : ((ByteArray × ((List (Int × (ByteArray × (Int × (List (Int × (Int × (Int × (List (Int × (Int × (Int × Int)))))))))))) × ((List (Int × (Int × (Int × (List (Int × (Int × (Int × Int)))))))) × ((List (Int × (Int × (Int × (List (Int × (Int × (Int × Int)))))))) × (List (Int × (Int × (Int × (List (Int × (Int × (Int × Int)))))))))))) × (Unit × (Unit × ((List ByteArray) × (List Int)))))) =>
          some (c_3, (), (), o0_2, o3_2))
          (some (c_2, (), (), o0_1, o3_1)) : Option ((ByteArray × ((List (Int × (ByteArray × (Int × (List (Int × (Int × (Int × (List (Int × (Int × (Int × Int)))))))))))) × ((List (Int × (Int × (Int × (List (Int × (Int × (Int × Int)))))))) × ((List (Int × (Int × (Int × (List (Int × (Int × (Int × Int)))))))) × (List (Int × (Int × (Int × (List (Int × (Int × (Int × Int)))))))))))) × (Unit × (Unit × ((List ByteArray) × (List Int)))))) fun ((c_4, _, _, o0_3, o3_3) : ((ByteArray × ((List (Int × (ByteArray × (Int × (List (Int × (Int × (Int × (List (Int × (Int × (Int × Int)))))))))))) × ((List (Int × (Int × (Int × (List (Int × (Int × (Int × Int)))))))) × ((List (Int × (Int × (Int × (List (Int × (Int × (Int × Int)))))))) × (List (Int × (Int × (Int × (List (Int × (Int × (Int × Int)))))))))))) × (Unit × (Unit × ((List ByteArray) × (List Int)))))) =>
      some (Sum.inl (c_4, (), (), (w64 (t11 + 1)), o0_3, o3_3)))
      (some (Sum.inr ((), o3)))
def tail72 (k : Nat) (c : (ByteArray × ((List (Int × (ByteArray × (Int × (List (Int × (Int × (Int × (List (Int × (Int × (Int × Int)))))))))))) × ((List (Int × (Int × (Int × (List (Int × (Int × (Int × Int)))))))) × ((List (Int × (Int × (Int × (List (Int × (Int × (Int × Int)))))))) × (List (Int × (Int × (Int × (List (Int × (Int × (Int × Int))))))))))))) : Option ((List Int) × Unit) :=
  Option.bind
    (loopN (tail72.l0 k) k (c, (), (), 0, [(ByteArray.mk #[112, 104, 112]), (ByteArray.mk #[112, 104, 97]), (ByteArray.mk #[115, 116, 97]), (ByteArray.mk #[115, 116, 120]), (ByteArray.mk #[115, 116, 121])], []) : Option (Unit × (List Int))) fun ((_, o3_4) : (Unit × (List Int))) =>
  some (o3_4, ())
def tail72.A : Ann := { conds := [(1114119, ⟨[(1, .fp (.st (.pair .str (.pair (.sl (.st (.pair (.int .i64) (.pair .str (.pair (.int .i64) (.sl (.st (.pair (.int .i64) (.pair (.int .i64) (.pair (.int .i64) (.sl (.st (.pair (.int .i64) (.pair (.int .i64) (.pair (.int .i64) (.int .i64)))))))))))))))) (.pair (.sl (.st (.pair (.int .i64) (.pair (.int .i64) (.pair (.int .i64) (.sl (.st (.pair (.int .i64) (.pair (.int .i64) (.pair (.int .i64) (.int .i64))))))))))) (.pair (.sl (.st (.pair (.int .i64) (.pair (.int .i64) (.pair (.int .i64) (.sl (.st (.pair (.int .i64) (.pair (.int .i64) (.pair (.int .i64) (.int .i64))))))))))) (.sl (.st (.pair (.int .i64) (.pair (.int .i64) (.pair (.int .i64) (.sl (.st (.pair (.int .i64) (.pair (.int .i64) (.pair (.int .i64) (.int .i64))))))))))))))))), (3, .ms 3), (6, .int .i64), (9, .ms 0)], [(0, .row .str), (3, .row (.int .u8))], 4, [], 64⟩), (1638410, ⟨[(1, .fp (.st (.pair .str (.pair (.sl (.st (.pair (.int .i64) (.pair .str (.pair (.int .i64) (.sl (.st (.pair (.int .i64) (.pair (.int .i64) (.pair (.int .i64) (.sl (.st (.pair (.int .i64) (.pair (.int .i64) (.pair (.int .i64) (.int .i64)))))))))))))))) (.pair (.sl (.st (.pair (.int .i64) (.pair (.int .i64) (.pair (.int .i64) (.sl (.st (.pair (.int .i64) (.pair (.int .i64) (.pair (.int .i64) (.int .i64))))))))))) (.pair (.sl (.st (.pair (.int .i64) (.pair (.int .i64) (.pair (.int .i64) (.sl (.st (.pair (.int .i64) (.pair (.int .i64) (.pair (.int .i64) (.int .i64))))))))))) (.sl (.st (.pair (.int .i64) (.pair (.int .i64) (.pair (.int .i64) (.sl (.st (.pair (.int .i64) (.pair (.int .i64) (.pair (.int .i64) (.int .i64))))))))))))))))), (3, .ms 3), (9, .ms 0)], [(0, .row .str), (3, .row (.int .u8))], 4, [], 2198956146696⟩), (2162700, ⟨[(1, .fp (.st (.pair .str (.pair (.sl (.st (.pair (.int .i64) (.pair .str (.pair (.int .i64) (.sl (.st (.pair (.int .i64) (.pair (.int .i64) (.pair (.int .i64) (.sl (.st (.pair (.int .i64) (.pair (.int .i64) (.pair (.int .i64) (.int .i64)))))))))))))))) (.pair (.sl (.st (.pair (.int .i64) (.pair (.int .i64) (.pair (.int .i64) (.sl (.st (.pair (.int .i64) (.pair (.int .i64) (.pair (.int .i64) (.int .i64))))))))))) (.pair (.sl (.st (.pair (.int .i64) (.pair (.int .i64) (.pair (.int .i64) (.sl (.st (.pair (.int .i64) (.pair (.int .i64) (.pair (.int .i64) (.int .i64))))))))))) (.sl (.st (.pair (.int .i64) (.pair (.int .i64) (.pair (.int .i64) (.sl (.st (.pair (.int .i64) (.pair (.int .i64) (.pair (.int .i64) (.int .i64))))))))))))))))), (3, .ms 3), (9, .ms 0)], [(0, .row .str), (3, .row (.int .u8))], 4, [], 2181843386376⟩)], blocks := [(0, ⟨[(3, .ms 3)], [(3, .row (.int .u8))], 4, [], 4398046509544⟩)], loops := [(3, ⟨[(1, .fp (.st (.pair .str (.pair (.sl (.st (.pair (.int .i64) (.pair .str (.pair (.int .i64) (.sl (.st (.pair (.int .i64) (.pair (.int .i64) (.pair (.int .i64) (.sl (.st (.pair (.int .i64) (.pair (.int .i64) (.pair (.int .i64) (.int .i64)))))))))))))))) (.pair (.sl (.st (.pair (.int .i64) (.pair (.int .i64) (.pair (.int .i64) (.sl (.st (.pair (.int .i64) (.pair (.int .i64) (.pair (.int .i64) (.int .i64))))))))))) (.pair (.sl (.st (.pair (.int .i64) (.pair (.int .i64) (.pair (.int .i64) (.sl (.st (.pair (.int .i64) (.pair (.int .i64) (.pair (.int .i64) (.int .i64))))))))))) (.sl (.st (.pair (.int .i64) (.pair (.int .i64) (.pair (.int .i64) (.sl (.st (.pair (.int .i64) (.pair (.int .i64) (.pair (.int .i64) (.int .i64))))))))))))))))), (3, .ms 3), (9, .ms 0), (11, .int .i64)], [(0, .row .str), (3, .row (.int .u8))], 4, [(3, .int .u8)], 4398046509544⟩)], keeps := [1, 7], orders := [] }
def tail72.S : Sig := { f := 72, params := [.st (.pair .str (.pair (.sl (.st (.pair (.int .i64) (.pair .str (.pair (.int .i64) (.sl (.st (.pair (.int .i64) (.pair (.int .i64) (.pair (.int .i64) (.sl (.st (.pair (.int .i64) (.pair (.int .i64) (.pair (.int .i64) (.int .i64)))))))))))))))) (.pair (.sl (.st (.pair (.int .i64) (.pair (.int .i64) (.pair (.int .i64) (.sl (.st (.pair (.int .i64) (.pair (.int .i64) (.pair (.int .i64) (.int .i64))))))))))) (.pair (.sl (.st (.pair (.int .i64) (.pair (.int .i64) (.pair (.int .i64) (.sl (.st (.pair (.int .i64) (.pair (.int .i64) (.pair (.int .i64) (.int .i64))))))))))) (.sl (.st (.pair (.int .i64) (.pair (.int .i64) (.pair (.int .i64) (.sl (.st (.pair (.int .i64) (.pair (.int .i64) (.pair (.int .i64) (.int .i64)))))))))))))))], objs := [], res := .sl (.int .u8), outs := [], fix := [], run := fun k ds os => tail72 k ds }
def tail72.G : List Sig := [Named84.S]
theorem tail72.eq (k : Nat) : ∀ ds os, tail72.S.run k ds os = runF ⟨types, tail72.G, tail72.A, k, 0, []⟩ Tryz.f72 (codeOf Tryz.f72) tail72.S.params tail72.S.objs tail72.S.res tail72.S.outs ds os := by
  intro ds os; kernel_rfl
theorem tail72.dr : DrOk Tryz.prog tail72.A (codeOf Tryz.f72) := ⟨by kernel_rfl, by kernel_rfl⟩
theorem tail72.ok (k : Nat) : SoundAt Tryz.prog k tail72.S :=
  runF_sound (X := ⟨types, tail72.G, tail72.A, k, 0, []⟩) types_ok (mem_all (⟨Named84.ok k, trivial⟩)) (fn := Tryz.f72) (c := codeOf Tryz.f72) rfl (by kernel_rfl) rfl rfl tail72.dr (tail72.eq k)
end Go.Proofs.YtcppmlgnceldmaaGreat.Gf

/- Go functions as plain Lean functions, and their contracts. -/
set_option linter.unusedVariables false
set_option maxRecDepth 100000
noncomputable section
namespace Go.Proofs.YtcppmlgnceldmaaGreat.Gf
open Go Go.Proofs.YtcppmlgnceldmaaGreat.Gp
def Tests30.l0 (k : Nat) (n : Int) (t38 : Int) : ((ByteArray × ((List (Int × (ByteArray × (Int × (List (Int × (Int × (Int × (List (Int × (Int × (Int × Int)))))))))))) × ((List (Int × (Int × (Int × (List (Int × (Int × (Int × Int)))))))) × ((List (Int × (Int × (Int × (List (Int × (Int × (Int × Int)))))))) × (List (Int × (Int × (Int × (List (Int × (Int × (Int × Int)))))))))))) × (Unit × ((List Int) × (Unit × (Unit × (Int × ((List ((List Int) × (List Int))) × ((List Int) × (List Int))))))))) → Option (((ByteArray × ((List (Int × (ByteArray × (Int × (List (Int × (Int × (Int × (List (Int × (Int × (Int × Int)))))))))))) × ((List (Int × (Int × (Int × (List (Int × (Int × (Int × Int)))))))) × ((List (Int × (Int × (Int × (List (Int × (Int × (Int × Int)))))))) × (List (Int × (Int × (Int × (List (Int × (Int × (Int × Int)))))))))))) × (Unit × ((List Int) × (Unit × (Unit × (Int × ((List ((List Int) × (List Int))) × ((List Int) × (List Int))))))))) ⊕ ((ByteArray × ((List (Int × (ByteArray × (Int × (List (Int × (Int × (Int × (List (Int × (Int × (Int × Int)))))))))))) × ((List (Int × (Int × (Int × (List (Int × (Int × (Int × Int)))))))) × ((List (Int × (Int × (Int × (List (Int × (Int × (Int × Int)))))))) × (List (Int × (Int × (Int × (List (Int × (Int × (Int × Int)))))))))))) × (Unit × ((List Int) × (Unit × (Unit × ((List ((List Int) × (List Int))) × ((List Int) × (List Int)))))))))
  | (c_4, _, r_1, _, _, t43, o4_2, o6_1, o7) =>
    cond (decide (t43 < n))
      ((if (w64 (t43 * 3)) < 0 then none else some (shrI .i64 t38 (w64 (t43 * 3)))).bind fun t50 =>
      let t51 : Int := (IntKind.wrap .u8 t50)
      (if room (List.length o7 + List.length ([t51] : List Int)) 1 then some () else none).bind fun _ =>
      some (Sum.inl (c_4, (), r_1, (), (), (w64 (t43 + 1)), o4_2, o6_1, (o7 ++ ([t51] : List Int)))))
      (some (Sum.inr (c_4, (), r_1, (), (), o4_2, o6_1, o7)))
def Tests30.l1 (k : Nat) (t16 : (Int × Unit)) (n : Int) : ((ByteArray × ((List (Int × (ByteArray × (Int × (List (Int × (Int × (Int × (List (Int × (Int × (Int × Int)))))))))))) × ((List (Int × (Int × (Int × (List (Int × (Int × (Int × Int)))))))) × ((List (Int × (Int × (Int × (List (Int × (Int × (Int × Int)))))))) × (List (Int × (Int × (Int × (List (Int × (Int × (Int × Int)))))))))))) × (Unit × ((List Int) × (Unit × (Int × ((List ((List Int) × (List Int))) × (List Int))))))) → Option (((ByteArray × ((List (Int × (ByteArray × (Int × (List (Int × (Int × (Int × (List (Int × (Int × (Int × Int)))))))))))) × ((List (Int × (Int × (Int × (List (Int × (Int × (Int × Int)))))))) × ((List (Int × (Int × (Int × (List (Int × (Int × (Int × Int)))))))) × (List (Int × (Int × (Int × (List (Int × (Int × (Int × Int)))))))))))) × (Unit × ((List Int) × (Unit × (Int × ((List ((List Int) × (List Int))) × (List Int))))))) ⊕ ((ByteArray × ((List (Int × (ByteArray × (Int × (List (Int × (Int × (Int × (List (Int × (Int × (Int × Int)))))))))))) × ((List (Int × (Int × (Int × (List (Int × (Int × (Int × Int)))))))) × ((List (Int × (Int × (Int × (List (Int × (Int × (Int × Int)))))))) × (List (Int × (Int × (Int × (List (Int × (Int × (Int × Int)))))))))))) × (Unit × (List ((List Int) × (List Int))))))
  | (c_3, _, r, _, t35, o4_1, o6) =>
    cond (decide (t35 < (List.length ([0, 1, 6, 128, 255] : List Int) : Int)))
      ((rd o6 t35).bind fun _ =>
      (rd o6 t35).bind fun t38 =>
      Option.bind
        (loopN (Tests30.l0 k n t38) k (c_3, (), r, (), (), 0, o4_1, o6, ([(IntKind.wrap .u8 t16.1)] : List Int)) : Option ((ByteArray × ((List (Int × (ByteArray × (Int × (List (Int × (Int × (Int × (List (Int × (Int × (Int × Int)))))))))))) × ((List (Int × (Int × (Int × (List (Int × (Int × (Int × Int)))))))) × ((List (Int × (Int × (Int × (List (Int × (Int × (Int × Int)))))))) × (List (Int × (Int × (Int × (List (Int × (Int × (Int × Int)))))))))))) × (Unit × ((List Int) × (Unit × (Unit × ((List ((List Int) × (List Int))) × ((List Int) × (List Int))))))))) fun ((c_5, _, r_2, _, _, o4_3, o6_2, o7_1) : ((ByteArray × ((List (Int × (ByteArray × (Int × (List (Int × (Int × (Int × (List (Int × (Int × (Int × Int)))))))))))) × ((List (Int × (Int × (Int × (List (Int × (Int × (Int × Int)))))))) × ((List (Int × (Int × (Int × (List (Int × (Int × (Int × Int)))))))) × (List (Int × (Int × (Int × (List (Int × (Int × (Int × Int)))))))))))) × (Unit × ((List Int) × (Unit × (Unit × ((List ((List Int) × (List Int))) × ((List Int) × (List Int))))))))) =>
      (tail72 k c_5).bind fun t58 =>
      (if room (List.length o7_1 + List.length t58.1) 1 then some () else none).bind fun _ =>
      (if room (List.length o4_3 + List.length [((o7_1 ++ t58.1), r_2)]) 96 then some () else none).bind fun _ =>
      some (Sum.inl (c_5, (), r_2, (), (w64 (t35 + 1)), (o4_3 ++ [((o7_1 ++ t58.1), r_2)]), o6_2)))
      (some (Sum.inr (c_3, (), o4_1)))
def Tests30.l2 (k : Nat) (t16 : (Int × Unit)) (n : Int) (t27 : ((List (List Int)) × Unit)) : ((ByteArray × ((List (Int × (ByteArray × (Int × (List (Int × (Int × (Int × (List (Int × (Int × (Int × Int)))))))))))) × ((List (Int × (Int × (Int × (List (Int × (Int × (Int × Int)))))))) × ((List (Int × (Int × (Int × (List (Int × (Int × (Int × Int)))))))) × (List (Int × (Int × (Int × (List (Int × (Int × (Int × Int)))))))))))) × (Unit × (Int × (List ((List Int) × (List Int)))))) → Option (((ByteArray × ((List (Int × (ByteArray × (Int × (List (Int × (Int × (Int × (List (Int × (Int × (Int × Int)))))))))))) × ((List (Int × (Int × (Int × (List (Int × (Int × (Int × Int)))))))) × ((List (Int × (Int × (Int × (List (Int × (Int × (Int × Int)))))))) × (List (Int × (Int × (Int × (List (Int × (Int × (Int × Int)))))))))))) × (Unit × (Int × (List ((List Int) × (List Int)))))) ⊕ (Unit × (List ((List Int) × (List Int)))))
  | (c_2, _, t29, o4) =>
    cond (decide (t29 < (List.length t27.1 : Int)))
      ((rd t27.1 t29).bind fun t31 =>
      Option.bind
        (loopN (Tests30.l1 k t16 n) k (c_2, (), t31, (), 0, o4, ([0, 1, 6, 128, 255] : List Int)) : Option ((ByteArray × ((List (Int × (ByteArray × (Int × (List (Int × (Int × (Int × (List (Int × (Int × (Int × Int)))))))))))) × ((List (Int × (Int × (Int × (List (Int × (Int × (Int × Int)))))))) × ((List (Int × (Int × (Int × (List (Int × (Int × (Int × Int)))))))) × (List (Int × (Int × (Int × (List (Int × (Int × (Int × Int)))))))))))) × (Unit × (List ((List Int) × (List Int)))))) fun ((c_6, _, o4_4) : ((ByteArray × ((List (Int × (ByteArray × (Int × (List (Int × (Int × (Int × (List (Int × (Int × (Int × Int)))))))))))) × ((List (Int × (Int × (Int × (List (Int × (Int × (Int × Int)))))))) × ((List (Int × (Int × (Int × (List (Int × (Int × (Int × Int)))))))) × (List (Int × (Int × (Int × (List (Int × (Int × (Int × Int)))))))))))) × (Unit × (List ((List Int) × (List Int)))))) =>
      some (Sum.inl (c_6, (), (w64 (t29 + 1)), o4_4)))
      (some (Sum.inr ((), o4)))
def Tests30 (k : Nat) (c : (ByteArray × ((List (Int × (ByteArray × (Int × (List (Int × (Int × (Int × (List (Int × (Int × (Int × Int)))))))))))) × ((List (Int × (Int × (Int × (List (Int × (Int × (Int × Int)))))))) × ((List (Int × (Int × (Int × (List (Int × (Int × (Int × Int)))))))) × (List (Int × (Int × (Int × (List (Int × (Int × (Int × Int))))))))))))) (op : Int) : Option ((List ((List Int) × (List Int))) × Unit) :=
  (Low70 k op 8).bind fun t16 =>
  (Find11 k c t16.1).bind fun t20 =>
  Option.bind
    (cond t20.1.2.1
      ((Size33 k t20.1.1.2.2.1).bind fun t26 =>
      some (c, t26.1))
      (some (c, 2)) : Option ((ByteArray × ((List (Int × (ByteArray × (Int × (List (Int × (Int × (Int × (List (Int × (Int × (Int × Int)))))))))))) × ((List (Int × (Int × (Int × (List (Int × (Int × (Int × Int)))))))) × ((List (Int × (Int × (Int × (List (Int × (Int × (Int × Int)))))))) × (List (Int × (Int × (Int × (List (Int × (Int × (Int × Int)))))))))))) × Int)) fun ((c_1, n) : ((ByteArray × ((List (Int × (ByteArray × (Int × (List (Int × (Int × (Int × (List (Int × (Int × (Int × Int)))))))))))) × ((List (Int × (Int × (Int × (List (Int × (Int × (Int × Int)))))))) × ((List (Int × (Int × (Int × (List (Int × (Int × (Int × Int)))))))) × (List (Int × (Int × (Int × (List (Int × (Int × (Int × Int)))))))))))) × Int)) =>
  (Starts71 k).bind fun t27 =>
  Option.bind
    (loopN (Tests30.l2 k t16 n t27) k (c_1, (), 0, []) : Option (Unit × (List ((List Int) × (List Int))))) fun ((_, o4_5) : (Unit × (List ((List Int) × (List Int))))) =>
  some (o4_5, ())
def Tests30.A : Ann := { conds := [(1507333, ⟨[(2, .fp (.st (.pair .str (.pair (.sl (.st (.pair (.int .i64) (.pair .str (.pair (.int .i64) (.sl (.st (.pair (.int .i64) (.pair (.int .i64) (.pair (.int .i64) (.sl (.st (.pair (.int .i64) (.pair (.int .i64) (.pair (.int .i64) (.int .i64)))))))))))))))) (.pair (.sl (.st (.pair (.int .i64) (.pair (.int .i64) (.pair (.int .i64) (.sl (.st (.pair (.int .i64) (.pair (.int .i64) (.pair (.int .i64) (.int .i64))))))))))) (.pair (.sl (.st (.pair (.int .i64) (.pair (.int .i64) (.pair (.int .i64) (.sl (.st (.pair (.int .i64) (.pair (.int .i64) (.pair (.int .i64) (.int .i64))))))))))) (.sl (.st (.pair (.int .i64) (.pair (.int .i64) (.pair (.int .i64) (.sl (.st (.pair (.int .i64) (.pair (.int .i64) (.pair (.int .i64) (.int .i64))))))))))))))))), (5, .int .i64)], [], 0, [], 117440544⟩)], blocks := [(0, ⟨[(8, .ms 4)], [(4, .row (.st (.pair (.sl (.int .u8)) (.arr 9 (.int .i64)))))], 5, [], 73786976294301365504⟩), (2, ⟨[(2, .fp (.st (.pair .str (.pair (.sl (.st (.pair (.int .i64) (.pair .str (.pair (.int .i64) (.sl (.st (.pair (.int .i64) (.pair (.int .i64) (.pair (.int .i64) (.sl (.st (.pair (.int .i64) (.pair (.int .i64) (.pair (.int .i64) (.int .i64)))))))))))))))) (.pair (.sl (.st (.pair (.int .i64) (.pair (.int .i64) (.pair (.int .i64) (.sl (.st (.pair (.int .i64) (.pair (.int .i64) (.pair (.int .i64) (.int .i64))))))))))) (.pair (.sl (.st (.pair (.int .i64) (.pair (.int .i64) (.pair (.int .i64) (.sl (.st (.pair (.int .i64) (.pair (.int .i64) (.pair (.int .i64) (.int .i64))))))))))) (.sl (.st (.pair (.int .i64) (.pair (.int .i64) (.pair (.int .i64) (.sl (.st (.pair (.int .i64) (.pair (.int .i64) (.pair (.int .i64) (.int .i64))))))))))))))))), (8, .ms 4)], [(4, .row (.st (.pair (.sl (.int .u8)) (.arr 9 (.int .i64)))))], 5, [], 36893488113059393792⟩), (4, ⟨[(2, .fp (.st (.pair .str (.pair (.sl (.st (.pair (.int .i64) (.pair .str (.pair (.int .i64) (.sl (.st (.pair (.int .i64) (.pair (.int .i64) (.pair (.int .i64) (.sl (.st (.pair (.int .i64) (.pair (.int .i64) (.pair (.int .i64) (.int .i64)))))))))))))))) (.pair (.sl (.st (.pair (.int .i64) (.pair (.int .i64) (.pair (.int .i64) (.sl (.st (.pair (.int .i64) (.pair (.int .i64) (.pair (.int .i64) (.int .i64))))))))))) (.pair (.sl (.st (.pair (.int .i64) (.pair (.int .i64) (.pair (.int .i64) (.sl (.st (.pair (.int .i64) (.pair (.int .i64) (.pair (.int .i64) (.int .i64))))))))))) (.sl (.st (.pair (.int .i64) (.pair (.int .i64) (.pair (.int .i64) (.sl (.st (.pair (.int .i64) (.pair (.int .i64) (.pair (.int .i64) (.int .i64))))))))))))))))), (8, .ms 4), (10, .fp (.arr 9 (.int .i64))), (13, .ms 7), (33, .ms 6)], [(4, .row (.st (.pair (.sl (.int .u8)) (.arr 9 (.int .i64))))), (6, .row (.int .i64)), (7, .row (.int .u8))], 8, [], 36020000925966336⟩)], loops := [(8, ⟨[(2, .fp (.st (.pair .str (.pair (.sl (.st (.pair (.int .i64) (.pair .str (.pair (.int .i64) (.sl (.st (.pair (.int .i64) (.pair (.int .i64) (.pair (.int .i64) (.sl (.st (.pair (.int .i64) (.pair (.int .i64) (.pair (.int .i64) (.int .i64)))))))))))))))) (.pair (.sl (.st (.pair (.int .i64) (.pair (.int .i64) (.pair (.int .i64) (.sl (.st (.pair (.int .i64) (.pair (.int .i64) (.pair (.int .i64) (.int .i64))))))))))) (.pair (.sl (.st (.pair (.int .i64) (.pair (.int .i64) (.pair (.int .i64) (.sl (.st (.pair (.int .i64) (.pair (.int .i64) (.pair (.int .i64) (.int .i64))))))))))) (.sl (.st (.pair (.int .i64) (.pair (.int .i64) (.pair (.int .i64) (.sl (.st (.pair (.int .i64) (.pair (.int .i64) (.pair (.int .i64) (.int .i64))))))))))))))))), (8, .ms 4), (29, .int .i64)], [(4, .row (.st (.pair (.sl (.int .u8)) (.arr 9 (.int .i64)))))], 5, [(4, .st (.pair (.sl (.int .u8)) (.arr 9 (.int .i64))))], 73786976294301365504⟩), (11, ⟨[(2, .fp (.st (.pair .str (.pair (.sl (.st (.pair (.int .i64) (.pair .str (.pair (.int .i64) (.sl (.st (.pair (.int .i64) (.pair (.int .i64) (.pair (.int .i64) (.sl (.st (.pair (.int .i64) (.pair (.int .i64) (.pair (.int .i64) (.int .i64)))))))))))))))) (.pair (.sl (.st (.pair (.int .i64) (.pair (.int .i64) (.pair (.int .i64) (.sl (.st (.pair (.int .i64) (.pair (.int .i64) (.pair (.int .i64) (.int .i64))))))))))) (.pair (.sl (.st (.pair (.int .i64) (.pair (.int .i64) (.pair (.int .i64) (.sl (.st (.pair (.int .i64) (.pair (.int .i64) (.pair (.int .i64) (.int .i64))))))))))) (.sl (.st (.pair (.int .i64) (.pair (.int .i64) (.pair (.int .i64) (.sl (.st (.pair (.int .i64) (.pair (.int .i64) (.pair (.int .i64) (.int .i64))))))))))))))))), (8, .ms 4), (10, .fp (.arr 9 (.int .i64))), (33, .ms 6), (35, .int .i64)], [(4, .row (.st (.pair (.sl (.int .u8)) (.arr 9 (.int .i64))))), (6, .row (.int .i64))], 7, [], 36893488113059393792⟩), (15, ⟨[(2, .fp (.st (.pair .str (.pair (.sl (.st (.pair (.int .i64) (.pair .str (.pair (.int .i64) (.sl (.st (.pair (.int .i64) (.pair (.int .i64) (.pair (.int .i64) (.sl (.st (.pair (.int .i64) (.pair (.int .i64) (.pair (.int .i64) (.int .i64)))))))))))))))) (.pair (.sl (.st (.pair (.int .i64) (.pair (.int .i64) (.pair (.int .i64) (.sl (.st (.pair (.int .i64) (.pair (.int .i64) (.pair (.int .i64) (.int .i64))))))))))) (.pair (.sl (.st (.pair (.int .i64) (.pair (.int .i64) (.pair (.int .i64) (.sl (.st (.pair (.int .i64) (.pair (.int .i64) (.pair (.int .i64) (.int .i64))))))))))) (.sl (.st (.pair (.int .i64) (.pair (.int .i64) (.pair (.int .i64) (.sl (.st (.pair (.int .i64) (.pair (.int .i64) (.pair (.int .i64) (.int .i64))))))))))))))))), (8, .ms 4), (10, .fp (.arr 9 (.int .i64))), (13, .ms 7), (33, .ms 6), (43, .int .i64)], [(4, .row (.st (.pair (.sl (.int .u8)) (.arr 9 (.int .i64))))), (6, .row (.int .i64)), (7, .row (.int .u8))], 8, [], 36020000925966336⟩)], keeps := [2, 6, 10], orders := [(19, [(0, .weak), (1, .strong), (2, .strong), (5, .weak), (3, .eff true), (4, .eff false), (6, .strong), (7, .eff true), (8, .eff false), (9, .strong)])] }
def Tests30.S : Sig := { f := 30, params := [.st (.pair .str (.pair (.sl (.st (.pair (.int .i64) (.pair .str (.pair (.int .i64) (.sl (.st (.pair (.int .i64) (.pair (.int .i64) (.pair (.int .i64) (.sl (.st (.pair (.int .i64) (.pair (.int .i64) (.pair (.int .i64) (.int .i64)))))))))))))))) (.pair (.sl (.st (.pair (.int .i64) (.pair (.int .i64) (.pair (.int .i64) (.sl (.st (.pair (.int .i64) (.pair (.int .i64) (.pair (.int .i64) (.int .i64))))))))))) (.pair (.sl (.st (.pair (.int .i64) (.pair (.int .i64) (.pair (.int .i64) (.sl (.st (.pair (.int .i64) (.pair (.int .i64) (.pair (.int .i64) (.int .i64))))))))))) (.sl (.st (.pair (.int .i64) (.pair (.int .i64) (.pair (.int .i64) (.sl (.st (.pair (.int .i64) (.pair (.int .i64) (.pair (.int .i64) (.int .i64))))))))))))))), .int .i64], objs := [], res := .sl (.st (.pair (.sl (.int .u8)) (.arr 9 (.int .i64)))), outs := [], fix := [], run := fun k ds os => Tests30 k ds.1 ds.2 }
def Tests30.G : List Sig := [Find11.S, Low70.S, Size33.S, Starts71.S, tail72.S]
theorem Tests30.eq (k : Nat) : ∀ ds os, Tests30.S.run k ds os = runF ⟨types, Tests30.G, Tests30.A, k, 0, []⟩ Tryz.f30 (codeOf Tryz.f30) Tests30.S.params Tests30.S.objs Tests30.S.res Tests30.S.outs ds os := by
  intro ds os; kernel_rfl
theorem Tests30.dr : DrOk Tryz.prog Tests30.A (codeOf Tryz.f30) := ⟨by kernel_rfl, by kernel_rfl⟩
theorem Tests30.ok (k : Nat) : SoundAt Tryz.prog k Tests30.S :=
  runF_sound (X := ⟨types, Tests30.G, Tests30.A, k, 0, []⟩) types_ok (mem_all (⟨Find11.ok k, ⟨Low70.ok k, ⟨Size33.ok k, ⟨Starts71.ok k, ⟨tail72.ok k, trivial⟩⟩⟩⟩⟩)) (fn := Tryz.f30) (c := codeOf Tryz.f30) rfl (by kernel_rfl) rfl rfl Tests30.dr (Tests30.eq k)
end Go.Proofs.YtcppmlgnceldmaaGreat.Gf

/- Go functions as plain Lean functions, and their contracts. -/
set_option linter.unusedVariables false
set_option maxRecDepth 100000
noncomputable section
namespace Go.Proofs.YtcppmlgnceldmaaGreat.Gf
open Go Go.Proofs.YtcppmlgnceldmaaGreat.Gp
def start105.l0 (k : Nat) (irq : Bool) : ((ByteArray × ((List (Int × (ByteArray × (Int × (List (Int × (Int × (Int × (List (Int × (Int × (Int × Int)))))))))))) × ((List (Int × (Int × (Int × (List (Int × (Int × (Int × Int)))))))) × ((List (Int × (Int × (Int × (List (Int × (Int × (Int × Int)))))))) × (List (Int × (Int × (Int × (List (Int × (Int × (Int × Int)))))))))))) × (Unit × (Unit × (Unit × (Int × (((List Int) × (Int × (Int × Bool))) × (((List Int) × (Int × (Int × Bool))) × (List Int)))))))) → Option (((ByteArray × ((List (Int × (ByteArray × (Int × (List (Int × (Int × (Int × (List (Int × (Int × (Int × Int)))))))))))) × ((List (Int × (Int × (Int × (List (Int × (Int × (Int × Int)))))))) × ((List (Int × (Int × (Int × (List (Int × (Int × (Int × Int)))))))) × (List (Int × (Int × (Int × (List (Int × (Int × (Int × Int)))))))))))) × (Unit × (Unit × (Unit × (Int × (((List Int) × (Int × (Int × Bool))) × (((List Int) × (Int × (Int × Bool))) × (List Int)))))))) ⊕ ((Unit × (Unit × (((List Int) × (Int × (Int × Bool))) × ((List Int) × (Int × (Int × Bool)))))) ⊕ (((List Int) × (Int × (Int × Bool))) × Unit)))
  | (c_1, _, _, _, t12, o0, o1, o2) =>
    cond (decide (t12 < (List.length ([257, 256] : List Int) : Int)))
      ((rd o2 t12).bind fun _ =>
      (rd o2 t12).bind fun t15 =>
      Option.bind
        (cond (t15 == 256)
          (Option.bind (cond irq
            ((if 0 ≤ 4 ∧ 4 < 9 then some () else none).bind fun _ =>
            (rd o0.1 4).bind fun t24 =>
            some ((ibits .and .i64 t24 4) == 0))
            (some false)) fun t27 =>
          some (c_1, (), (), t27, (), o0, o1, o2))
          (some (c_1, (), (), o0.2.2.2, (), o0, o1, o2)) : Option ((ByteArray × ((List (Int × (ByteArray × (Int × (List (Int × (Int × (Int × (List (Int × (Int × (Int × Int)))))))))))) × ((List (Int × (Int × (Int × (List (Int × (Int × (Int × Int)))))))) × ((List (Int × (Int × (Int × (List (Int × (Int × (Int × Int)))))))) × (List (Int × (Int × (Int × (List (Int × (Int × (Int × Int)))))))))))) × (Unit × (Unit × (Bool × (Unit × (((List Int) × (Int × (Int × Bool))) × (((List Int) × (Int × (Int × Bool))) × (List Int))))))))) fun ((c_2, _, _, waits, _, o0_1, o1_1, o2_1) : ((ByteArray × ((List (Int × (ByteArray × (Int × (List (Int × (Int × (Int × (List (Int × (Int × (Int × Int)))))))))))) × ((List (Int × (Int × (Int × (List (Int × (Int × (Int × Int)))))))) × ((List (Int × (Int × (Int × (List (Int × (Int × (Int × Int)))))))) × (List (Int × (Int × (Int × (List (Int × (Int × (Int × Int)))))))))))) × (Unit × (Unit × (Bool × (Unit × (((List Int) × (Int × (Int × Bool))) × (((List Int) × (Int × (Int × Bool))) × (List Int))))))))) =>
      Option.bind (cond waits
        ((cycles111 k c_2 t15).bind fun t32 =>
        some (decide ((List.length t32.1 : Int) > 0)))
        (some false)) fun t35 =>
      cond t35
        (Option.bind
          (cond (t15 == 257)
            (some ((), (), (o0_1.1, o0_1.2.1, o0_1.2.2.1, false), o1_1))
            (some ((), (), o0_1, o1_1)) : Option (Unit × (Unit × (((List Int) × (Int × (Int × Bool))) × ((List Int) × (Int × (Int × Bool))))))) fun ((_, _, o0_2, _) : (Unit × (Unit × (((List Int) × (Int × (Int × Bool))) × ((List Int) × (Int × (Int × Bool))))))) =>
        some (Sum.inr (Sum.inr ((o0_2.1, t15, 0, o0_2.2.2.2), ()))))
        (some (Sum.inl (c_2, (), (), (), (w64 (t12 + 1)), o0_1, o1_1, o2_1))))
      (some (Sum.inr (Sum.inl ((), (), o0, o1))))
def start105 (k : Nat) (c : (ByteArray × ((List (Int × (ByteArray × (Int × (List (Int × (Int × (Int × (List (Int × (Int × (Int × Int)))))))))))) × ((List (Int × (Int × (Int × (List (Int × (Int × (Int × Int)))))))) × ((List (Int × (Int × (Int × (List (Int × (Int × (Int × Int)))))))) × (List (Int × (Int × (Int × (List (Int × (Int × (Int × Int))))))))))))) (k_ : ((List Int) × (Int × (Int × Bool)))) (irq : Bool) : Option (((List Int) × (Int × (Int × Bool))) × Unit) :=
  Option.bind
    (loopN (start105.l0 k irq) k (c, (), (), (), 0, k_, ((List.replicate 9 0), 0, 0, false), ([257, 256] : List Int)) : Option ((Unit × (Unit × (((List Int) × (Int × (Int × Bool))) × ((List Int) × (Int × (Int × Bool)))))) ⊕ (((List Int) × (Int × (Int × Bool))) × Unit))) (joined fun ((_, _, o0_3, _) : (Unit × (Unit × (((List Int) × (Int × (Int × Bool))) × ((List Int) × (Int × (Int × Bool))))))) =>
    some (o0_3, ()))
def start105.A : Ann := { conds := [(1245190, ⟨[(3, .fp (.st (.pair .str (.pair (.sl (.st (.pair (.int .i64) (.pair .str (.pair (.int .i64) (.sl (.st (.pair (.int .i64) (.pair (.int .i64) (.pair (.int .i64) (.sl (.st (.pair (.int .i64) (.pair (.int .i64) (.pair (.int .i64) (.int .i64)))))))))))))))) (.pair (.sl (.st (.pair (.int .i64) (.pair (.int .i64) (.pair (.int .i64) (.sl (.st (.pair (.int .i64) (.pair (.int .i64) (.pair (.int .i64) (.int .i64))))))))))) (.pair (.sl (.st (.pair (.int .i64) (.pair (.int .i64) (.pair (.int .i64) (.sl (.st (.pair (.int .i64) (.pair (.int .i64) (.pair (.int .i64) (.int .i64))))))))))) (.sl (.st (.pair (.int .i64) (.pair (.int .i64) (.pair (.int .i64) (.sl (.st (.pair (.int .i64) (.pair (.int .i64) (.pair (.int .i64) (.int .i64))))))))))))))))), (4, .ptr 0 []), (6, .ptr 1 []), (9, .bool), (10, .ms 2)], [(0, .var (.st (.pair (.arr 9 (.int .i64)) (.pair (.int .i64) (.pair (.int .i64) .bool))))), (1, .var (.st (.pair (.arr 9 (.int .i64)) (.pair (.int .i64) (.pair (.int .i64) .bool))))), (2, .row (.int .i64))], 3, [], 267387392⟩), (2424841, ⟨[(4, .ptr 0 []), (6, .ptr 1 [])], [(0, .var (.st (.pair (.arr 9 (.int .i64)) (.pair (.int .i64) (.pair (.int .i64) .bool))))), (1, .var (.st (.pair (.arr 9 (.int .i64)) (.pair (.int .i64) (.pair (.int .i64) .bool)))))], 2, [], 274877906944⟩)], blocks := [(0, ⟨[(4, .ptr 0 []), (6, .ptr 1 [])], [(0, .var (.st (.pair (.arr 9 (.int .i64)) (.pair (.int .i64) (.pair (.int .i64) .bool))))), (1, .var (.st (.pair (.arr 9 (.int .i64)) (.pair (.int .i64) (.pair (.int .i64) .bool)))))], 2, [], 17592186041088⟩)], loops := [(2, ⟨[(3, .fp (.st (.pair .str (.pair (.sl (.st (.pair (.int .i64) (.pair .str (.pair (.int .i64) (.sl (.st (.pair (.int .i64) (.pair (.int .i64) (.pair (.int .i64) (.sl (.st (.pair (.int .i64) (.pair (.int .i64) (.pair (.int .i64) (.int .i64)))))))))))))))) (.pair (.sl (.st (.pair (.int .i64) (.pair (.int .i64) (.pair (.int .i64) (.sl (.st (.pair (.int .i64) (.pair (.int .i64) (.pair (.int .i64) (.int .i64))))))))))) (.pair (.sl (.st (.pair (.int .i64) (.pair (.int .i64) (.pair (.int .i64) (.sl (.st (.pair (.int .i64) (.pair (.int .i64) (.pair (.int .i64) (.int .i64))))))))))) (.sl (.st (.pair (.int .i64) (.pair (.int .i64) (.pair (.int .i64) (.sl (.st (.pair (.int .i64) (.pair (.int .i64) (.pair (.int .i64) (.int .i64))))))))))))))))), (4, .ptr 0 []), (6, .ptr 1 []), (10, .ms 2), (12, .int .i64)], [(0, .var (.st (.pair (.arr 9 (.int .i64)) (.pair (.int .i64) (.pair (.int .i64) .bool))))), (1, .var (.st (.pair (.arr 9 (.int .i64)) (.pair (.int .i64) (.pair (.int .i64) .bool))))), (2, .row (.int .i64))], 3, [], 17592186041088⟩)], keeps := [3], orders := [] }
def start105.S : Sig := { f := 105, params := [.st (.pair .str (.pair (.sl (.st (.pair (.int .i64) (.pair .str (.pair (.int .i64) (.sl (.st (.pair (.int .i64) (.pair (.int .i64) (.pair (.int .i64) (.sl (.st (.pair (.int .i64) (.pair (.int .i64) (.pair (.int .i64) (.int .i64)))))))))))))))) (.pair (.sl (.st (.pair (.int .i64) (.pair (.int .i64) (.pair (.int .i64) (.sl (.st (.pair (.int .i64) (.pair (.int .i64) (.pair (.int .i64) (.int .i64))))))))))) (.pair (.sl (.st (.pair (.int .i64) (.pair (.int .i64) (.pair (.int .i64) (.sl (.st (.pair (.int .i64) (.pair (.int .i64) (.pair (.int .i64) (.int .i64))))))))))) (.sl (.st (.pair (.int .i64) (.pair (.int .i64) (.pair (.int .i64) (.sl (.st (.pair (.int .i64) (.pair (.int .i64) (.pair (.int .i64) (.int .i64))))))))))))))), .st (.pair (.arr 9 (.int .i64)) (.pair (.int .i64) (.pair (.int .i64) .bool))), .bool], objs := [], res := .st (.pair (.arr 9 (.int .i64)) (.pair (.int .i64) (.pair (.int .i64) .bool))), outs := [], fix := [], run := fun k ds os => start105 k ds.1 ds.2.1 ds.2.2 }
def start105.G : List Sig := [cycles111.S]
theorem start105.eq (k : Nat) : ∀ ds os, start105.S.run k ds os = runF ⟨types, start105.G, start105.A, k, 0, []⟩ Tryz.f105 (codeOf Tryz.f105) start105.S.params start105.S.objs start105.S.res start105.S.outs ds os := by
  intro ds os; kernel_rfl
theorem start105.dr : DrOk Tryz.prog start105.A (codeOf Tryz.f105) := ⟨by kernel_rfl, by kernel_rfl⟩
theorem start105.ok (k : Nat) : SoundAt Tryz.prog k start105.S :=
  runF_sound (X := ⟨types, start105.G, start105.A, k, 0, []⟩) types_ok (mem_all (⟨cycles111.ok k, trivial⟩)) (fn := Tryz.f105) (c := codeOf Tryz.f105) rfl (by kernel_rfl) rfl rfl start105.dr (start105.eq k)

def fixed141 (k : Nat) (at_ : Int) : Option (Int × Unit) :=
  (rd ([65534, 65535, 65530, 65531, 65532, 65533] : List Int) (w64 (at_ - 6))).bind fun _ =>
  (rd ([65534, 65535, 65530, 65531, 65532, 65533] : List Int) (w64 (at_ - 6))).bind fun t7 =>
  some (t7, ())
def fixed141.A : Ann := { conds := [], blocks := [], loops := [], keeps := [], orders := [] }
def fixed141.S : Sig := { f := 141, params := [.int .i64], objs := [], res := .int .i64, outs := [], fix := [], run := fun k ds os => fixed141 k ds }
def fixed141.G : List Sig := []
theorem fixed141.eq (k : Nat) : ∀ ds os, fixed141.S.run k ds os = runF ⟨types, fixed141.G, fixed141.A, k, 0, []⟩ Tryz.f141 (codeOf Tryz.f141) fixed141.S.params fixed141.S.objs fixed141.S.res fixed141.S.outs ds os := by
  intro ds os; kernel_rfl
theorem fixed141.dr : DrOk Tryz.prog fixed141.A (codeOf Tryz.f141) := ⟨by kernel_rfl, by kernel_rfl⟩
theorem fixed141.ok (k : Nat) : SoundAt Tryz.prog k fixed141.S :=
  runF_sound (X := ⟨types, fixed141.G, fixed141.A, k, 0, []⟩) types_ok (fun s hs => absurd hs List.not_mem_nil) (fn := Tryz.f141) (c := codeOf Tryz.f141) rfl (by kernel_rfl) rfl rfl fixed141.dr (fixed141.eq k)

def place106 (k : Nat) (at_ : Int) (r : (List Int)) : Option ((Int × ((List Int) × Unit)) × Unit) :=
  cond (at_ == 0)
    ((if 0 ≤ 7 ∧ 7 < 9 then some () else none).bind fun _ =>
    (rd r 7).bind fun t12 =>
    (Low70 k (w64 (t12 + 1)) 16).bind fun t15 =>
    (if 0 ≤ 7 ∧ 7 < 9 then some () else none).bind fun _ =>
    (rd r 7).bind fun _ =>
    some ((t12, (List.set r (Int.toNat 7) t15.1), ()), ()))
    (cond (at_ == 1)
      ((if 0 ≤ 7 ∧ 7 < 9 then some () else none).bind fun _ =>
      (rd r 7).bind fun t22 =>
      some ((t22, r, ()), ()))
      (cond (at_ == 2)
        ((if 0 ≤ 8 ∧ 8 < 9 then some () else none).bind fun _ =>
        (rd r 8).bind fun t27 =>
        some ((t27, r, ()), ()))
        (cond (at_ == 3)
          ((if 0 ≤ 8 ∧ 8 < 9 then some () else none).bind fun _ =>
          (rd r 8).bind fun t32 =>
          (Low70 k (w64 (t32 + 1)) 16).bind fun t34 =>
          some ((t34.1, r, ()), ()))
          (cond (at_ == 4)
            ((if 0 ≤ 3 ∧ 3 < 9 then some () else none).bind fun _ =>
            (rd r 3).bind fun t39 =>
            (if 0 ≤ 3 ∧ 3 < 9 then some () else none).bind fun _ =>
            (rd r 3).bind fun t42 =>
            (Low70 k (w64 (t42 - 1)) 8).bind fun t44 =>
            (if 0 ≤ 3 ∧ 3 < 9 then some () else none).bind fun _ =>
            (rd r 3).bind fun _ =>
            some (((w64 (256 + t39)), (List.set r (Int.toNat 3) t44.1), ()), ()))
            (cond (at_ == 5)
              ((if 0 ≤ 3 ∧ 3 < 9 then some () else none).bind fun _ =>
              (rd r 3).bind fun t51 =>
              (Low70 k (w64 (t51 + 1)) 8).bind fun t53 =>
              (if 0 ≤ 3 ∧ 3 < 9 then some () else none).bind fun _ =>
              (rd r 3).bind fun _ =>
              (if 0 ≤ 3 ∧ 3 < 9 then some () else none).bind fun _ =>
              (rd (List.set r (Int.toNat 3) t53.1) 3).bind fun t56 =>
              some (((w64 (256 + t56)), (List.set r (Int.toNat 3) t53.1), ()), ()))
              (cond (cond (decide (at_ < 0)) true (decide (at_ ≥ 12)))
                (some ((0, r, ()), ()))
                ((fixed141 k at_).bind fun t67 =>
                some ((t67.1, r, ()), ()))))))))
def place106.A : Ann := { conds := [], blocks := [], loops := [], keeps := [], orders := [(5, [(0, .strong), (1, .strong), (2, .strong), (3, .eff false)]), (7, [(0, .strong), (1, .strong), (2, .strong), (3, .strong), (4, .eff false)]), (9, [(0, .strong), (1, .strong), (2, .strong), (3, .strong), (4, .eff false)]), (11, [(0, .strong), (1, .strong), (2, .strong), (4, .strong), (3, .eff true), (5, .strong), (6, .eff false)]), (15, [(0, .strong), (1, .strong), (2, .strong), (3, .eff false)]), (18, [(0, .strong), (1, .strong), (2, .strong), (3, .strong), (4, .strong), (5, .eff false)]), (20, [(0, .strong), (1, .strong), (2, .eff false)]), (21, [(0, .strong), (2, .strong), (1, .eff true), (3, .strong), (4, .eff false)])] }
def place106.S : Sig := { f := 106, params := [.int .i64, .arr 9 (.int .i64)], objs := [], res := .tup (.pair (.int .i64) (.pair (.arr 9 (.int .i64)) .unit)), outs := [], fix := [], run := fun k ds os => place106 k ds.1 ds.2 }
def place106.G : List Sig := [Low70.S, fixed141.S]
theorem place106.eq (k : Nat) : ∀ ds os, place106.S.run k ds os = runF ⟨types, place106.G, place106.A, k, 0, []⟩ Tryz.f106 (codeOf Tryz.f106) place106.S.params place106.S.objs place106.S.res place106.S.outs ds os := by
  intro ds os; kernel_rfl
theorem place106.dr : DrOk Tryz.prog place106.A (codeOf Tryz.f106) := ⟨by kernel_rfl, by kernel_rfl⟩
theorem place106.ok (k : Nat) : SoundAt Tryz.prog k place106.S :=
  runF_sound (X := ⟨types, place106.G, place106.A, k, 0, []⟩) types_ok (mem_all (⟨Low70.ok k, ⟨fixed141.ok k, trivial⟩⟩)) (fn := Tryz.f106) (c := codeOf Tryz.f106) rfl (by kernel_rfl) rfl rfl place106.dr (place106.eq k)
end Go.Proofs.YtcppmlgnceldmaaGreat.Gf

/- Go functions as plain Lean functions, and their contracts. -/
set_option linter.unusedVariables false
set_option maxRecDepth 100000
noncomputable section
namespace Go.Proofs.YtcppmlgnceldmaaGreat.Gf
open Go Go.Proofs.YtcppmlgnceldmaaGreat.Gp
def doing107 (k : Nat) (c : (ByteArray × ((List (Int × (ByteArray × (Int × (List (Int × (Int × (Int × (List (Int × (Int × (Int × Int)))))))))))) × ((List (Int × (Int × (Int × (List (Int × (Int × (Int × Int)))))))) × ((List (Int × (Int × (Int × (List (Int × (Int × (Int × Int)))))))) × (List (Int × (Int × (Int × (List (Int × (Int × (Int × Int))))))))))))) (k_ : ((List Int) × (Int × (Int × Bool)))) : Option (((Int × (Int × (Int × (List (Int × (Int × (Int × Int))))))) × (Bool × Unit)) × Unit) :=
  (cycles111 k c k_.2.1).bind fun t10 =>
  cond (cond (cond (k_.2.1 == (-1)) true (decide (k_.2.2.1 < 0))) true (decide (k_.2.2.1 ≥ (List.length t10.1 : Int))))
    (some (((0, 0, 0, []), false, ()), ()))
    ((rd t10.1 k_.2.2.1).bind fun t30 =>
    some ((t30, true, ()), ()))
def doing107.A : Ann := { conds := [], blocks := [], loops := [], keeps := [2, 3], orders := [] }
def doing107.S : Sig := { f := 107, params := [.st (.pair .str (.pair (.sl (.st (.pair (.int .i64) (.pair .str (.pair (.int .i64) (.sl (.st (.pair (.int .i64) (.pair (.int .i64) (.pair (.int .i64) (.sl (.st (.pair (.int .i64) (.pair (.int .i64) (.pair (.int .i64) (.int .i64)))))))))))))))) (.pair (.sl (.st (.pair (.int .i64) (.pair (.int .i64) (.pair (.int .i64) (.sl (.st (.pair (.int .i64) (.pair (.int .i64) (.pair (.int .i64) (.int .i64))))))))))) (.pair (.sl (.st (.pair (.int .i64) (.pair (.int .i64) (.pair (.int .i64) (.sl (.st (.pair (.int .i64) (.pair (.int .i64) (.pair (.int .i64) (.int .i64))))))))))) (.sl (.st (.pair (.int .i64) (.pair (.int .i64) (.pair (.int .i64) (.sl (.st (.pair (.int .i64) (.pair (.int .i64) (.pair (.int .i64) (.int .i64))))))))))))))), .st (.pair (.arr 9 (.int .i64)) (.pair (.int .i64) (.pair (.int .i64) .bool)))], objs := [], res := .tup (.pair (.st (.pair (.int .i64) (.pair (.int .i64) (.pair (.int .i64) (.sl (.st (.pair (.int .i64) (.pair (.int .i64) (.pair (.int .i64) (.int .i64)))))))))) (.pair .bool .unit)), outs := [], fix := [], run := fun k ds os => doing107 k ds.1 ds.2 }
def doing107.G : List Sig := [cycles111.S]
theorem doing107.eq (k : Nat) : ∀ ds os, doing107.S.run k ds os = runF ⟨types, doing107.G, doing107.A, k, 0, []⟩ Tryz.f107 (codeOf Tryz.f107) doing107.S.params doing107.S.objs doing107.S.res doing107.S.outs ds os := by
  intro ds os; kernel_rfl
theorem doing107.dr : DrOk Tryz.prog doing107.A (codeOf Tryz.f107) := ⟨by kernel_rfl, by kernel_rfl⟩
theorem doing107.ok (k : Nat) : SoundAt Tryz.prog k doing107.S :=
  runF_sound (X := ⟨types, doing107.G, doing107.A, k, 0, []⟩) types_ok (mem_all (⟨cycles111.ok k, trivial⟩)) (fn := Tryz.f107) (c := codeOf Tryz.f107) rfl (by kernel_rfl) rfl rfl doing107.dr (doing107.eq k)

def Ask74 (k : Nat) (c : (ByteArray × ((List (Int × (ByteArray × (Int × (List (Int × (Int × (Int × (List (Int × (Int × (Int × Int)))))))))))) × ((List (Int × (Int × (Int × (List (Int × (Int × (Int × Int)))))))) × ((List (Int × (Int × (Int × (List (Int × (Int × (Int × Int)))))))) × (List (Int × (Int × (Int × (List (Int × (Int × (Int × Int))))))))))))) (k_ : ((List Int) × (Int × (Int × Bool)))) (irq : Bool) : Option ((((List Int) × (Int × (Int × Bool))) × ((Int × (Int × Int)) × Unit)) × Unit) :=
  (Fit104 k k_.1).bind fun t15 =>
  Option.bind
    (cond (k_.2.1 == (-1))
      ((start105 k c (t15.1, k_.2) irq).bind fun t23 =>
      some (c, (), (), (), t23.1, ((List.replicate 9 0), 0, 0, false), 0, 0, 0))
      (some (c, (), (), (), (t15.1, k_.2), ((List.replicate 9 0), 0, 0, false), 0, 0, 0)) : Option ((ByteArray × ((List (Int × (ByteArray × (Int × (List (Int × (Int × (Int × (List (Int × (Int × (Int × Int)))))))))))) × ((List (Int × (Int × (Int × (List (Int × (Int × (Int × Int)))))))) × ((List (Int × (Int × (Int × (List (Int × (Int × (Int × Int)))))))) × (List (Int × (Int × (Int × (List (Int × (Int × (Int × Int)))))))))))) × (Unit × (Unit × (Unit × (((List Int) × (Int × (Int × Bool))) × (((List Int) × (Int × (Int × Bool))) × (Int × (Int × Int))))))))) fun ((c_1, _, _, _, o0, o1, o2) : ((ByteArray × ((List (Int × (ByteArray × (Int × (List (Int × (Int × (Int × (List (Int × (Int × (Int × Int)))))))))))) × ((List (Int × (Int × (Int × (List (Int × (Int × (Int × Int)))))))) × ((List (Int × (Int × (Int × (List (Int × (Int × (Int × Int)))))))) × (List (Int × (Int × (Int × (List (Int × (Int × (Int × Int)))))))))))) × (Unit × (Unit × (Unit × (((List Int) × (Int × (Int × Bool))) × (((List Int) × (Int × (Int × Bool))) × (Int × (Int × Int))))))))) =>
  cond (o0.2.1 == (-1))
    ((place106 k 0 o0.1).bind fun t30 =>
    some (((t30.1.2.1, o0.2), (1, t30.1.1, 0), ()), ()))
    ((doing107 k c_1 o0).bind fun t41 =>
    cond (cond (!t41.1.2.1) true (t41.1.1.1 == 0))
      (some ((o0, (0, 0, 0), ()), ()))
      (Option.bind
        (cond (cond (cond (t41.1.1.1 == 2) (decide (t41.1.1.2.2.1 ≥ 0)) false) (decide (t41.1.1.2.2.1 < 9)) false)
          ((if 0 ≤ t41.1.1.2.2.1 ∧ t41.1.1.2.2.1 < 9 then some () else none).bind fun _ =>
          (rd o0.1 t41.1.1.2.2.1).bind fun t73 =>
          (Low70 k t73 8).bind fun t74 =>
          some ((), (), (), t41.1.1, (), o0, o1, o2, t41.1.1.1, 0, t74.1))
          (some ((), (), (), t41.1.1, (), o0, o1, o2, t41.1.1.1, 0, 0)) : Option (Unit × (Unit × (Unit × ((Int × (Int × (Int × (List (Int × (Int × (Int × Int))))))) × (Unit × (((List Int) × (Int × (Int × Bool))) × (((List Int) × (Int × (Int × Bool))) × ((Int × (Int × Int)) × (Int × (Int × Int))))))))))) fun ((_, _, _, x, _, o0_1, _, _, o4) : (Unit × (Unit × (Unit × ((Int × (Int × (Int × (List (Int × (Int × (Int × Int))))))) × (Unit × (((List Int) × (Int × (Int × Bool))) × (((List Int) × (Int × (Int × Bool))) × ((Int × (Int × Int)) × (Int × (Int × Int))))))))))) =>
      (place106 k x.2.1 o0_1.1).bind fun t81 =>
      some (((t81.1.2.1, o0_1.2), (o4.1, t81.1.1, o4.2.2), ()), ())))
def Ask74.A : Ann := { conds := [(1245187, ⟨[(3, .fp (.st (.pair .str (.pair (.sl (.st (.pair (.int .i64) (.pair .str (.pair (.int .i64) (.sl (.st (.pair (.int .i64) (.pair (.int .i64) (.pair (.int .i64) (.sl (.st (.pair (.int .i64) (.pair (.int .i64) (.pair (.int .i64) (.int .i64)))))))))))))))) (.pair (.sl (.st (.pair (.int .i64) (.pair (.int .i64) (.pair (.int .i64) (.sl (.st (.pair (.int .i64) (.pair (.int .i64) (.pair (.int .i64) (.int .i64))))))))))) (.pair (.sl (.st (.pair (.int .i64) (.pair (.int .i64) (.pair (.int .i64) (.sl (.st (.pair (.int .i64) (.pair (.int .i64) (.pair (.int .i64) (.int .i64))))))))))) (.sl (.st (.pair (.int .i64) (.pair (.int .i64) (.pair (.int .i64) (.sl (.st (.pair (.int .i64) (.pair (.int .i64) (.pair (.int .i64) (.int .i64))))))))))))))))), (4, .ptr 0 []), (6, .ptr 1 []), (7, .ptr 2 [])], [(0, .var (.st (.pair (.arr 9 (.int .i64)) (.pair (.int .i64) (.pair (.int .i64) .bool))))), (1, .var (.st (.pair (.arr 9 (.int .i64)) (.pair (.int .i64) (.pair (.int .i64) .bool))))), (2, .var (.st (.pair (.int .i64) (.pair (.int .i64) (.int .i64)))))], 3, [], 15728640⟩), (4456461, ⟨[(4, .ptr 0 []), (6, .ptr 1 []), (7, .ptr 2 []), (10, .fp (.st (.pair (.int .i64) (.pair (.int .i64) (.pair (.int .i64) (.sl (.st (.pair (.int .i64) (.pair (.int .i64) (.pair (.int .i64) (.int .i64))))))))))), (12, .ptr 4 [])], [(0, .var (.st (.pair (.arr 9 (.int .i64)) (.pair (.int .i64) (.pair (.int .i64) .bool))))), (1, .var (.st (.pair (.arr 9 (.int .i64)) (.pair (.int .i64) (.pair (.int .i64) .bool))))), (2, .var (.st (.pair (.int .i64) (.pair (.int .i64) (.int .i64))))), (4, .var (.st (.pair (.int .i64) (.pair (.int .i64) (.int .i64)))))], 5, [], 74967567915555617767424⟩)], blocks := [], loops := [], keeps := [3, 9, 10], orders := [(15, [(0, .strong), (1, .strong), (2, .eff true), (3, .eff true)])], touches := [(15, 6)] }
def Ask74.S : Sig := { f := 74, params := [.st (.pair .str (.pair (.sl (.st (.pair (.int .i64) (.pair .str (.pair (.int .i64) (.sl (.st (.pair (.int .i64) (.pair (.int .i64) (.pair (.int .i64) (.sl (.st (.pair (.int .i64) (.pair (.int .i64) (.pair (.int .i64) (.int .i64)))))))))))))))) (.pair (.sl (.st (.pair (.int .i64) (.pair (.int .i64) (.pair (.int .i64) (.sl (.st (.pair (.int .i64) (.pair (.int .i64) (.pair (.int .i64) (.int .i64))))))))))) (.pair (.sl (.st (.pair (.int .i64) (.pair (.int .i64) (.pair (.int .i64) (.sl (.st (.pair (.int .i64) (.pair (.int .i64) (.pair (.int .i64) (.int .i64))))))))))) (.sl (.st (.pair (.int .i64) (.pair (.int .i64) (.pair (.int .i64) (.sl (.st (.pair (.int .i64) (.pair (.int .i64) (.pair (.int .i64) (.int .i64))))))))))))))), .st (.pair (.arr 9 (.int .i64)) (.pair (.int .i64) (.pair (.int .i64) .bool))), .bool], objs := [], res := .tup (.pair (.st (.pair (.arr 9 (.int .i64)) (.pair (.int .i64) (.pair (.int .i64) .bool)))) (.pair (.st (.pair (.int .i64) (.pair (.int .i64) (.int .i64)))) .unit)), outs := [], fix := [], run := fun k ds os => Ask74 k ds.1 ds.2.1 ds.2.2 }
def Ask74.G : List Sig := [Fit104.S, Low70.S, doing107.S, place106.S, start105.S]
theorem Ask74.eq (k : Nat) : ∀ ds os, Ask74.S.run k ds os = runF ⟨types, Ask74.G, Ask74.A, k, 0, []⟩ Tryz.f74 (codeOf Tryz.f74) Ask74.S.params Ask74.S.objs Ask74.S.res Ask74.S.outs ds os := by
  intro ds os; kernel_rfl
theorem Ask74.dr : DrOk Tryz.prog Ask74.A (codeOf Tryz.f74) := ⟨by kernel_rfl, by kernel_rfl⟩
theorem Ask74.ok (k : Nat) : SoundAt Tryz.prog k Ask74.S :=
  runF_sound (X := ⟨types, Ask74.G, Ask74.A, k, 0, []⟩) types_ok (mem_all (⟨Fit104.ok k, ⟨Low70.ok k, ⟨doing107.ok k, ⟨place106.ok k, ⟨start105.ok k, trivial⟩⟩⟩⟩⟩)) (fn := Tryz.f74) (c := codeOf Tryz.f74) rfl (by kernel_rfl) rfl rfl Ask74.dr (Ask74.eq k)

def Byte108 (k : Nat) (addr : Int) : Option (Int × Unit) :=
  (Low70 k (w64 ((w64 ((w64 (7 * addr)) + (shrI .i64 addr 8))) + 3)) 8).bind fun t9 =>
  some (t9.1, ())
def Byte108.A : Ann := { conds := [], blocks := [], loops := [], keeps := [], orders := [] }
def Byte108.S : Sig := { f := 108, params := [.int .i64], objs := [], res := .int .i64, outs := [], fix := [], run := fun k ds os => Byte108 k ds }
def Byte108.G : List Sig := [Low70.S]
theorem Byte108.eq (k : Nat) : ∀ ds os, Byte108.S.run k ds os = runF ⟨types, Byte108.G, Byte108.A, k, 0, []⟩ Tryz.f108 (codeOf Tryz.f108) Byte108.S.params Byte108.S.objs Byte108.S.res Byte108.S.outs ds os := by
  intro ds os; kernel_rfl
theorem Byte108.dr : DrOk Tryz.prog Byte108.A (codeOf Tryz.f108) := ⟨by kernel_rfl, by kernel_rfl⟩
theorem Byte108.ok (k : Nat) : SoundAt Tryz.prog k Byte108.S :=
  runF_sound (X := ⟨types, Byte108.G, Byte108.A, k, 0, []⟩) types_ok (mem_all (⟨Low70.ok k, trivial⟩)) (fn := Tryz.f108) (c := codeOf Tryz.f108) rfl (by kernel_rfl) rfl rfl Byte108.dr (Byte108.eq k)

def Read75 (k : Nat) (_ : Unit) (addr : Int) (o0 : ((List Int) × Unit)) (o1 : (List (Int × Int))) : Option (Int × (((List Int) × Unit) × (List (Int × Int)))) :=
  let t14 : (Option Int) := (mget (.int .i64) (.int .i64) o1 addr)
  cond (Option.isSome t14)
    (some ((Option.getD (α := Int) t14 (0 : Int)), o0, o1))
    (let t20 : Int := (w64 (addr - 512))
    cond (cond (decide (t20 ≥ 0)) (decide (t20 < (List.length o0.1 : Int))) false)
      ((rd o0.1 t20).bind fun t37 =>
      some ((w64 t37), o0, o1))
      ((Byte108 k addr).bind fun t41 =>
      some (t41.1, o0, o1)))
def Read75.A : Ann := { conds := [], blocks := [], loops := [], keeps := [], orders := [] }
def Read75.S : Sig := { f := 75, params := [.ptr 0 [], .int .i64], objs := [.var (.st (.pair (.sl (.int .u8)) (.mm 1))), .map (.int .i64) (.int .i64)], res := .int .i64, outs := [.var (.st (.pair (.sl (.int .u8)) (.mm 1))), .map (.int .i64) (.int .i64)], fix := [], run := fun k ds os => Read75 k ds.1 ds.2 os.1 os.2 }
def Read75.G : List Sig := [Byte108.S]
theorem Read75.eq (k : Nat) : ∀ ds os, Read75.S.run k ds os = runF ⟨types, Read75.G, Read75.A, k, 0, []⟩ Tryz.f75 (codeOf Tryz.f75) Read75.S.params Read75.S.objs Read75.S.res Read75.S.outs ds os := by
  intro ds os; kernel_rfl
theorem Read75.dr : DrOk Tryz.prog Read75.A (codeOf Tryz.f75) := ⟨by kernel_rfl, by kernel_rfl⟩
theorem Read75.ok (k : Nat) : SoundAt Tryz.prog k Read75.S :=
  runF_sound (X := ⟨types, Read75.G, Read75.A, k, 0, []⟩) types_ok (mem_all (⟨Byte108.ok k, trivial⟩)) (fn := Tryz.f75) (c := codeOf Tryz.f75) rfl (by kernel_rfl) rfl rfl Read75.dr (Read75.eq k)

def Write76 (k : Nat) (_ : Unit) (addr : Int) (data : Int) (o0 : ((List Int) × Unit)) (o1 : (List (Int × Int))) : Option (Unit × (((List Int) × Unit) × (List (Int × Int)))) :=
  some ((), o0, (mput (.int .i64) (.int .i64) o1 addr data))
def Write76.A : Ann := { conds := [], blocks := [], loops := [], keeps := [], orders := [] }
def Write76.S : Sig := { f := 76, params := [.ptr 0 [], .int .i64, .int .i64], objs := [.var (.st (.pair (.sl (.int .u8)) (.mm 1))), .map (.int .i64) (.int .i64)], res := .tup .unit, outs := [.var (.st (.pair (.sl (.int .u8)) (.mm 1))), .map (.int .i64) (.int .i64)], fix := [], run := fun k ds os => Write76 k ds.1 ds.2.1 ds.2.2 os.1 os.2 }
def Write76.G : List Sig := []
theorem Write76.eq (k : Nat) : ∀ ds os, Write76.S.run k ds os = runF ⟨types, Write76.G, Write76.A, k, 0, []⟩ Tryz.f76 (codeOf Tryz.f76) Write76.S.params Write76.S.objs Write76.S.res Write76.S.outs ds os := by
  intro ds os; kernel_rfl
theorem Write76.dr : DrOk Tryz.prog Write76.A (codeOf Tryz.f76) := ⟨by kernel_rfl, by kernel_rfl⟩
theorem Write76.ok (k : Nat) : SoundAt Tryz.prog k Write76.S :=
  runF_sound (X := ⟨types, Write76.G, Write76.A, k, 0, []⟩) types_ok (fun s hs => absurd hs List.not_mem_nil) (fn := Tryz.f76) (c := codeOf Tryz.f76) rfl (by kernel_rfl) rfl rfl Write76.dr (Write76.eq k)
end Go.Proofs.YtcppmlgnceldmaaGreat.Gf

/- Go functions as plain Lean functions, and their contracts. -/
set_option linter.unusedVariables false
set_option maxRecDepth 100000
noncomputable section
namespace Go.Proofs.YtcppmlgnceldmaaGreat.Gf
open Go Go.Proofs.YtcppmlgnceldmaaGreat.Gp
def ended109 (k : Nat) (c : (ByteArray × ((List (Int × (ByteArray × (Int × (List (Int × (Int × (Int × (List (Int × (Int × (Int × Int)))))))))))) × ((List (Int × (Int × (Int × (List (Int × (Int × (Int × Int)))))))) × ((List (Int × (Int × (Int × (List (Int × (Int × (Int × Int)))))))) × (List (Int × (Int × (Int × (List (Int × (Int × (Int × Int))))))))))))) (k_ : ((List Int) × (Int × (Int × Bool)))) : Option (((List Int) × (Int × (Int × Bool))) × Unit) :=
  Option.bind
    (cond (k_.2.1 != 259)
      (some ((), (), (k_.1, (-1), 0, k_.2.2.2), (List.replicate 9 0), 0, 0, false))
      (some ((), (), k_, (List.replicate 9 0), 0, 0, false)) : Option (Unit × (Unit × (((List Int) × (Int × (Int × Bool))) × ((List Int) × (Int × (Int × Bool))))))) fun ((_, _, o0, _) : (Unit × (Unit × (((List Int) × (Int × (Int × Bool))) × ((List Int) × (Int × (Int × Bool))))))) =>
  some (o0, ())
def ended109.A : Ann := { conds := [(458754, ⟨[(3, .ptr 0 []), (4, .ptr 1 [])], [(0, .var (.st (.pair (.arr 9 (.int .i64)) (.pair (.int .i64) (.pair (.int .i64) .bool))))), (1, .var (.st (.pair (.arr 9 (.int .i64)) (.pair (.int .i64) (.pair (.int .i64) .bool)))))], 2, [], 768⟩)], blocks := [], loops := [], keeps := [2], orders := [] }
def ended109.S : Sig := { f := 109, params := [.st (.pair .str (.pair (.sl (.st (.pair (.int .i64) (.pair .str (.pair (.int .i64) (.sl (.st (.pair (.int .i64) (.pair (.int .i64) (.pair (.int .i64) (.sl (.st (.pair (.int .i64) (.pair (.int .i64) (.pair (.int .i64) (.int .i64)))))))))))))))) (.pair (.sl (.st (.pair (.int .i64) (.pair (.int .i64) (.pair (.int .i64) (.sl (.st (.pair (.int .i64) (.pair (.int .i64) (.pair (.int .i64) (.int .i64))))))))))) (.pair (.sl (.st (.pair (.int .i64) (.pair (.int .i64) (.pair (.int .i64) (.sl (.st (.pair (.int .i64) (.pair (.int .i64) (.pair (.int .i64) (.int .i64))))))))))) (.sl (.st (.pair (.int .i64) (.pair (.int .i64) (.pair (.int .i64) (.sl (.st (.pair (.int .i64) (.pair (.int .i64) (.pair (.int .i64) (.int .i64))))))))))))))), .st (.pair (.arr 9 (.int .i64)) (.pair (.int .i64) (.pair (.int .i64) .bool)))], objs := [], res := .st (.pair (.arr 9 (.int .i64)) (.pair (.int .i64) (.pair (.int .i64) .bool))), outs := [], fix := [], run := fun k ds os => ended109 k ds.1 ds.2 }
def ended109.G : List Sig := []
theorem ended109.eq (k : Nat) : ∀ ds os, ended109.S.run k ds os = runF ⟨types, ended109.G, ended109.A, k, 0, []⟩ Tryz.f109 (codeOf Tryz.f109) ended109.S.params ended109.S.objs ended109.S.res ended109.S.outs ds os := by
  intro ds os; kernel_rfl
theorem ended109.dr : DrOk Tryz.prog ended109.A (codeOf Tryz.f109) := ⟨by kernel_rfl, by kernel_rfl⟩
theorem ended109.ok (k : Nat) : SoundAt Tryz.prog k ended109.S :=
  runF_sound (X := ⟨types, ended109.G, ended109.A, k, 0, []⟩) types_ok (fun s hs => absurd hs List.not_mem_nil) (fn := Tryz.f109) (c := codeOf Tryz.f109) rfl (by kernel_rfl) rfl rfl ended109.dr (ended109.eq k)

def index142 (k : Nat) (reg : Int) : Option (Int × Unit) :=
  some ((mxI 0 (mnI reg 8)), ())
def index142.A : Ann := { conds := [], blocks := [], loops := [], keeps := [], orders := [] }
def index142.S : Sig := { f := 142, params := [.int .i64], objs := [], res := .int .i64, outs := [], fix := [], run := fun k ds os => index142 k ds }
def index142.G : List Sig := []
theorem index142.eq (k : Nat) : ∀ ds os, index142.S.run k ds os = runF ⟨types, index142.G, index142.A, k, 0, []⟩ Tryz.f142 (codeOf Tryz.f142) index142.S.params index142.S.objs index142.S.res index142.S.outs ds os := by
  intro ds os; kernel_rfl
theorem index142.dr : DrOk Tryz.prog index142.A (codeOf Tryz.f142) := ⟨by kernel_rfl, by kernel_rfl⟩
theorem index142.ok (k : Nat) : SoundAt Tryz.prog k index142.S :=
  runF_sound (X := ⟨types, index142.G, index142.A, k, 0, []⟩) types_ok (fun s hs => absurd hs List.not_mem_nil) (fn := Tryz.f142) (c := codeOf Tryz.f142) rfl (by kernel_rfl) rfl rfl index142.dr (index142.eq k)

def flag146 (k : Nat) (r : (List Int)) (f : Int) (on : Bool) : Option ((List Int) × Unit) :=
  (if 0 ≤ 4 ∧ 4 < 9 then some () else none).bind fun _ =>
  (rd r 4).bind fun t8 =>
  let t10 : Int := (ibits .andNot .i64 t8 f)
  (if 0 ≤ 4 ∧ 4 < 9 then some () else none).bind fun _ =>
  (rd r 4).bind fun _ =>
  Option.bind
    (cond on
      ((if 0 ≤ 4 ∧ 4 < 9 then some () else none).bind fun _ =>
      (rd (List.set r (Int.toNat 4) t10) 4).bind fun t14 =>
      (if 0 ≤ 4 ∧ 4 < 9 then some () else none).bind fun _ =>
      (rd (List.set r (Int.toNat 4) t10) 4).bind fun _ =>
      some ((), (), (List.set (List.set r (Int.toNat 4) t10) (Int.toNat 4) (ibits .or .i64 t14 f)), (List.replicate 9 0)))
      (some ((), (), (List.set r (Int.toNat 4) t10), (List.replicate 9 0))) : Option (Unit × (Unit × ((List Int) × (List Int))))) fun ((_, _, o0, _) : (Unit × (Unit × ((List Int) × (List Int))))) =>
  some (o0, ())
def flag146.A : Ann := { conds := [(786435, ⟨[(3, .ptr 0 []), (6, .ptr 1 [])], [(0, .var (.arr 9 (.int .i64))), (1, .var (.arr 9 (.int .i64)))], 2, [], 253952⟩)], blocks := [], loops := [], keeps := [], orders := [] }
def flag146.S : Sig := { f := 146, params := [.arr 9 (.int .i64), .int .i64, .bool], objs := [], res := .arr 9 (.int .i64), outs := [], fix := [], run := fun k ds os => flag146 k ds.1 ds.2.1 ds.2.2 }
def flag146.G : List Sig := []
theorem flag146.eq (k : Nat) : ∀ ds os, flag146.S.run k ds os = runF ⟨types, flag146.G, flag146.A, k, 0, []⟩ Tryz.f146 (codeOf Tryz.f146) flag146.S.params flag146.S.objs flag146.S.res flag146.S.outs ds os := by
  intro ds os; kernel_rfl
theorem flag146.dr : DrOk Tryz.prog flag146.A (codeOf Tryz.f146) := ⟨by kernel_rfl, by kernel_rfl⟩
theorem flag146.ok (k : Nat) : SoundAt Tryz.prog k flag146.S :=
  runF_sound (X := ⟨types, flag146.G, flag146.A, k, 0, []⟩) types_ok (fun s hs => absurd hs List.not_mem_nil) (fn := Tryz.f146) (c := codeOf Tryz.f146) rfl (by kernel_rfl) rfl rfl flag146.dr (flag146.eq k)

def nz143 (k : Nat) (r : (List Int)) (n : Int) : Option ((List Int) × Unit) :=
  (flag146 k r 2 (n == 0)).bind fun t8 =>
  (flag146 k t8.1 128 (decide (n ≥ 128))).bind fun t11 =>
  some (t11.1, ())
def nz143.A : Ann := { conds := [], blocks := [], loops := [], keeps := [2], orders := [] }
def nz143.S : Sig := { f := 143, params := [.arr 9 (.int .i64), .int .i64], objs := [], res := .arr 9 (.int .i64), outs := [], fix := [], run := fun k ds os => nz143 k ds.1 ds.2 }
def nz143.G : List Sig := [flag146.S]
theorem nz143.eq (k : Nat) : ∀ ds os, nz143.S.run k ds os = runF ⟨types, nz143.G, nz143.A, k, 0, []⟩ Tryz.f143 (codeOf Tryz.f143) nz143.S.params nz143.S.objs nz143.S.res nz143.S.outs ds os := by
  intro ds os; kernel_rfl
theorem nz143.dr : DrOk Tryz.prog nz143.A (codeOf Tryz.f143) := ⟨by kernel_rfl, by kernel_rfl⟩
theorem nz143.ok (k : Nat) : SoundAt Tryz.prog k nz143.S :=
  runF_sound (X := ⟨types, nz143.G, nz143.A, k, 0, []⟩) types_ok (mem_all (⟨flag146.ok k, trivial⟩)) (fn := Tryz.f143) (c := codeOf Tryz.f143) rfl (by kernel_rfl) rfl rfl nz143.dr (nz143.eq k)

def carry173 (k : Nat) (r : (List Int)) : Option (Int × Unit) :=
  (rd r 4).bind fun t3 =>
  some ((ibits .and .i64 t3 1), ())
def carry173.A : Ann := { conds := [], blocks := [], loops := [], keeps := [1], orders := [] }
def carry173.S : Sig := { f := 173, params := [.arr 9 (.int .i64)], objs := [], res := .int .i64, outs := [], fix := [], run := fun k ds os => carry173 k ds }
def carry173.G : List Sig := []
theorem carry173.eq (k : Nat) : ∀ ds os, carry173.S.run k ds os = runF ⟨types, carry173.G, carry173.A, k, 0, []⟩ Tryz.f173 (codeOf Tryz.f173) carry173.S.params carry173.S.objs carry173.S.res carry173.S.outs ds os := by
  intro ds os; kernel_rfl
theorem carry173.dr : DrOk Tryz.prog carry173.A (codeOf Tryz.f173) := ⟨by kernel_rfl, by kernel_rfl⟩
theorem carry173.ok (k : Nat) : SoundAt Tryz.prog k carry173.S :=
  runF_sound (X := ⟨types, carry173.G, carry173.A, k, 0, []⟩) types_ok (fun s hs => absurd hs List.not_mem_nil) (fn := Tryz.f173) (c := codeOf Tryz.f173) rfl (by kernel_rfl) rfl rfl carry173.dr (carry173.eq k)

def Add172 (k : Nat) (a : Int) (b : Int) (carry : Int) (bits : Int) : Option ((Int × (Int × Unit)) × Unit) :=
  (width100 k bits).bind fun t12 =>
  (Low70 k a t12.1).bind fun t15 =>
  (Low70 k b t12.1).bind fun t18 =>
  let t22 : Int := (w64 ((w64 (t15.1 + t18.1)) + (ibits .and .i64 carry 1)))
  (if t12.1 < 0 then none else some (shrI .i64 t22 t12.1)).bind fun t28 =>
  (Low70 k t22 t12.1).bind fun t25 =>
  some ((t25.1, t28, ()), ())
def Add172.A : Ann := { conds := [], blocks := [], loops := [], keeps := [], orders := [(3, [(0, .strong), (1, .strong), (3, .strong), (4, .strong), (5, .strong), (2, .eff true), (6, .strong), (7, .strong)])] }
def Add172.S : Sig := { f := 172, params := [.int .i64, .int .i64, .int .i64, .int .i64], objs := [], res := .tup (.pair (.int .i64) (.pair (.int .i64) .unit)), outs := [], fix := [], run := fun k ds os => Add172 k ds.1 ds.2.1 ds.2.2.1 ds.2.2.2 }
def Add172.G : List Sig := [Low70.S, width100.S]
theorem Add172.eq (k : Nat) : ∀ ds os, Add172.S.run k ds os = runF ⟨types, Add172.G, Add172.A, k, 0, []⟩ Tryz.f172 (codeOf Tryz.f172) Add172.S.params Add172.S.objs Add172.S.res Add172.S.outs ds os := by
  intro ds os; kernel_rfl
theorem Add172.dr : DrOk Tryz.prog Add172.A (codeOf Tryz.f172) := ⟨by kernel_rfl, by kernel_rfl⟩
theorem Add172.ok (k : Nat) : SoundAt Tryz.prog k Add172.S :=
  runF_sound (X := ⟨types, Add172.G, Add172.A, k, 0, []⟩) types_ok (mem_all (⟨Low70.ok k, ⟨width100.ok k, trivial⟩⟩)) (fn := Tryz.f172) (c := codeOf Tryz.f172) rfl (by kernel_rfl) rfl rfl Add172.dr (Add172.eq k)

def result174 (k : Nat) (r : (List Int)) (to : Int) (n : Int) (c : Int) : Option ((List Int) × Unit) :=
  (nz143 k r n).bind fun t11 =>
  (flag146 k t11.1 1 (c == 1)).bind fun t14 =>
  (if 0 ≤ to ∧ to < 9 then some () else none).bind fun _ =>
  (rd t14.1 to).bind fun _ =>
  some ((List.set t14.1 (Int.toNat to) n), ())
def result174.A : Ann := { conds := [], blocks := [], loops := [], keeps := [], orders := [] }
def result174.S : Sig := { f := 174, params := [.arr 9 (.int .i64), .int .i64, .int .i64, .int .i64], objs := [], res := .arr 9 (.int .i64), outs := [], fix := [], run := fun k ds os => result174 k ds.1 ds.2.1 ds.2.2.1 ds.2.2.2 }
def result174.G : List Sig := [flag146.S, nz143.S]
theorem result174.eq (k : Nat) : ∀ ds os, result174.S.run k ds os = runF ⟨types, result174.G, result174.A, k, 0, []⟩ Tryz.f174 (codeOf Tryz.f174) result174.S.params result174.S.objs result174.S.res result174.S.outs ds os := by
  intro ds os; kernel_rfl
theorem result174.dr : DrOk Tryz.prog result174.A (codeOf Tryz.f174) := ⟨by kernel_rfl, by kernel_rfl⟩
theorem result174.ok (k : Nat) : SoundAt Tryz.prog k result174.S :=
  runF_sound (X := ⟨types, result174.G, result174.A, k, 0, []⟩) types_ok (mem_all (⟨flag146.ok k, ⟨nz143.ok k, trivial⟩⟩)) (fn := Tryz.f174) (c := codeOf Tryz.f174) rfl (by kernel_rfl) rfl rfl result174.dr (result174.eq k)

def Sub175 (k : Nat) (a : Int) (b : Int) (borrow : Int) (bits : Int) : Option ((Int × (Int × Unit)) × Unit) :=
  (width100 k bits).bind fun t12 =>
  (Low70 k a t12.1).bind fun t15 =>
  (Low70 k b t12.1).bind fun t18 =>
  let t22 : Int := (w64 ((w64 (t15.1 - t18.1)) - (ibits .and .i64 borrow 1)))
  cond (decide (t22 < 0))
    ((if t12.1 < 0 then none else some (shlI .i64 1 t12.1)).bind fun t27 =>
    some (((w64 (t22 + t27)), 1, ()), ()))
    (some ((t22, 0, ()), ()))
def Sub175.A : Ann := { conds := [], blocks := [], loops := [], keeps := [], orders := [] }
def Sub175.S : Sig := { f := 175, params := [.int .i64, .int .i64, .int .i64, .int .i64], objs := [], res := .tup (.pair (.int .i64) (.pair (.int .i64) .unit)), outs := [], fix := [], run := fun k ds os => Sub175 k ds.1 ds.2.1 ds.2.2.1 ds.2.2.2 }
def Sub175.G : List Sig := [Low70.S, width100.S]
theorem Sub175.eq (k : Nat) : ∀ ds os, Sub175.S.run k ds os = runF ⟨types, Sub175.G, Sub175.A, k, 0, []⟩ Tryz.f175 (codeOf Tryz.f175) Sub175.S.params Sub175.S.objs Sub175.S.res Sub175.S.outs ds os := by
  intro ds os; kernel_rfl
theorem Sub175.dr : DrOk Tryz.prog Sub175.A (codeOf Tryz.f175) := ⟨by kernel_rfl, by kernel_rfl⟩
theorem Sub175.ok (k : Nat) : SoundAt Tryz.prog k Sub175.S :=
  runF_sound (X := ⟨types, Sub175.G, Sub175.A, k, 0, []⟩) types_ok (mem_all (⟨Low70.ok k, ⟨width100.ok k, trivial⟩⟩)) (fn := Tryz.f175) (c := codeOf Tryz.f175) rfl (by kernel_rfl) rfl rfl Sub175.dr (Sub175.eq k)
end Go.Proofs.YtcppmlgnceldmaaGreat.Gf

/- Go functions as plain Lean functions, and their contracts. -/
set_option linter.unusedVariables false
set_option maxRecDepth 100000
noncomputable section
namespace Go.Proofs.YtcppmlgnceldmaaGreat.Gf
open Go Go.Proofs.YtcppmlgnceldmaaGreat.Gp
def binary144 (k : Nat) (do_ : Int) (to : Int) (from_ : Int) (r : (List Int)) : Option ((List Int) × Unit) :=
  (if 0 ≤ to ∧ to < 9 then some () else none).bind fun _ =>
  (rd r to).bind fun t19 =>
  (if 0 ≤ from_ ∧ from_ < 9 then some () else none).bind fun _ =>
  (rd r from_).bind fun t23 =>
  (Low70 k t19 8).bind fun t20 =>
  (Low70 k t23 8).bind fun t24 =>
  cond (do_ == 4)
    ((carry173 k r).bind fun t35 =>
    (Add172 k t20.1 t24.1 t35.1 8).bind fun t36 =>
    (result174 k r to t36.1.1 t36.1.2.1).bind fun t43 =>
    some (t43.1, ()))
    (cond (do_ == 5)
      ((carry173 k r).bind fun t50 =>
      (Sub175 k t20.1 t24.1 (w64 (1 - t50.1)) 8).bind fun t52 =>
      (result174 k r to t52.1.1 (w64 (1 - t52.1.2.1))).bind fun t60 =>
      some (t60.1, ()))
      (cond (do_ == 6)
        ((Sub175 k t20.1 t24.1 0 8).bind fun t66 =>
        (nz143 k r t66.1.1).bind fun t71 =>
        (flag146 k t71.1 1 (t66.1.2.1 == 0)).bind fun t74 =>
        some (t74.1, ()))
        (Option.bind
          (cond (do_ == 7)
            (some ((), (), (ibits .and .i64 t20.1 t24.1), r, (List.replicate 9 0)))
            (Option.bind
              (cond (do_ == 8)
                (some ((), (), (ibits .or .i64 t20.1 t24.1), r, (List.replicate 9 0)))
                (some ((), (), (ibits .xor .i64 t20.1 t24.1), r, (List.replicate 9 0))) : Option (Unit × (Unit × (Int × ((List Int) × (List Int)))))) fun ((_, _, a, o0, o1) : (Unit × (Unit × (Int × ((List Int) × (List Int)))))) =>
            some ((), (), a, o0, o1)) : Option (Unit × (Unit × (Int × ((List Int) × (List Int)))))) fun ((_, _, a_1, o0_1, _) : (Unit × (Unit × (Int × ((List Int) × (List Int)))))) =>
        (nz143 k o0_1 a_1).bind fun t87 =>
        (if 0 ≤ to ∧ to < 9 then some () else none).bind fun _ =>
        (rd t87.1 to).bind fun _ =>
        some ((List.set t87.1 (Int.toNat to) a_1), ()))))
def binary144.A : Ann := { conds := [(4915214, ⟨[(7, .ptr 0 []), (8, .ptr 1 []), (9, .int .i64)], [(0, .var (.arr 9 (.int .i64))), (1, .var (.arr 9 (.int .i64)))], 2, [], 38534510500216305413521920⟩), (5242896, ⟨[(7, .ptr 0 []), (8, .ptr 1 []), (9, .int .i64)], [(0, .var (.arr 9 (.int .i64))), (1, .var (.arr 9 (.int .i64)))], 2, [], 33849922949209617361535488⟩)], blocks := [], loops := [], keeps := [], orders := [(1, [(0, .strong), (1, .strong), (2, .strong), (4, .strong), (5, .strong), (6, .strong), (3, .eff true), (7, .eff true), (8, .strong), (9, .strong)])] }
def binary144.S : Sig := { f := 144, params := [.int .i64, .int .i64, .int .i64, .arr 9 (.int .i64)], objs := [], res := .arr 9 (.int .i64), outs := [], fix := [], run := fun k ds os => binary144 k ds.1 ds.2.1 ds.2.2.1 ds.2.2.2 }
def binary144.G : List Sig := [Add172.S, Low70.S, Sub175.S, carry173.S, flag146.S, nz143.S, result174.S]
theorem binary144.eq (k : Nat) : ∀ ds os, binary144.S.run k ds os = runF ⟨types, binary144.G, binary144.A, k, 0, []⟩ Tryz.f144 (codeOf Tryz.f144) binary144.S.params binary144.S.objs binary144.S.res binary144.S.outs ds os := by
  intro ds os; kernel_rfl
theorem binary144.dr : DrOk Tryz.prog binary144.A (codeOf Tryz.f144) := ⟨by kernel_rfl, by kernel_rfl⟩
theorem binary144.ok (k : Nat) : SoundAt Tryz.prog k binary144.S :=
  runF_sound (X := ⟨types, binary144.G, binary144.A, k, 0, []⟩) types_ok (mem_all (⟨Add172.ok k, ⟨Low70.ok k, ⟨Sub175.ok k, ⟨carry173.ok k, ⟨flag146.ok k, ⟨nz143.ok k, ⟨result174.ok k, trivial⟩⟩⟩⟩⟩⟩⟩)) (fn := Tryz.f144) (c := codeOf Tryz.f144) rfl (by kernel_rfl) rfl rfl binary144.dr (binary144.eq k)

def Rol176 (k : Nat) (n : Int) (carry : Int) (bits : Int) : Option ((Int × (Int × Unit)) × Unit) :=
  (width100 k bits).bind fun t9 =>
  (Low70 k n t9.1).bind fun t12 =>
  let t16 : Int := (ibits .or .i64 (shlI .i64 t12.1 1) (ibits .and .i64 carry 1))
  (if t9.1 < 0 then none else some (shrI .i64 t16 t9.1)).bind fun t22 =>
  (Low70 k t16 t9.1).bind fun t19 =>
  some ((t19.1, t22, ()), ())
def Rol176.A : Ann := { conds := [], blocks := [], loops := [], keeps := [], orders := [(3, [(0, .strong), (1, .strong), (3, .strong), (4, .strong), (5, .strong), (2, .eff true), (6, .strong), (7, .strong)])] }
def Rol176.S : Sig := { f := 176, params := [.int .i64, .int .i64, .int .i64], objs := [], res := .tup (.pair (.int .i64) (.pair (.int .i64) .unit)), outs := [], fix := [], run := fun k ds os => Rol176 k ds.1 ds.2.1 ds.2.2 }
def Rol176.G : List Sig := [Low70.S, width100.S]
theorem Rol176.eq (k : Nat) : ∀ ds os, Rol176.S.run k ds os = runF ⟨types, Rol176.G, Rol176.A, k, 0, []⟩ Tryz.f176 (codeOf Tryz.f176) Rol176.S.params Rol176.S.objs Rol176.S.res Rol176.S.outs ds os := by
  intro ds os; kernel_rfl
theorem Rol176.dr : DrOk Tryz.prog Rol176.A (codeOf Tryz.f176) := ⟨by kernel_rfl, by kernel_rfl⟩
theorem Rol176.ok (k : Nat) : SoundAt Tryz.prog k Rol176.S :=
  runF_sound (X := ⟨types, Rol176.G, Rol176.A, k, 0, []⟩) types_ok (mem_all (⟨Low70.ok k, ⟨width100.ok k, trivial⟩⟩)) (fn := Tryz.f176) (c := codeOf Tryz.f176) rfl (by kernel_rfl) rfl rfl Rol176.dr (Rol176.eq k)

def Ror177 (k : Nat) (n : Int) (carry : Int) (bits : Int) : Option ((Int × (Int × Unit)) × Unit) :=
  (width100 k bits).bind fun t9 =>
  (if t9.1 < 0 then none else some (shlI .i64 (ibits .and .i64 carry 1) t9.1)).bind fun t16 =>
  (Low70 k n t9.1).bind fun t12 =>
  let t17 : Int := (ibits .or .i64 t12.1 t16)
  some (((shrI .i64 t17 1), (ibits .and .i64 t17 1), ()), ())
def Ror177.A : Ann := { conds := [], blocks := [], loops := [], keeps := [], orders := [(2, [(0, .strong), (1, .strong), (3, .strong), (4, .strong), (5, .strong), (6, .strong), (2, .eff true), (7, .strong), (8, .strong)])] }
def Ror177.S : Sig := { f := 177, params := [.int .i64, .int .i64, .int .i64], objs := [], res := .tup (.pair (.int .i64) (.pair (.int .i64) .unit)), outs := [], fix := [], run := fun k ds os => Ror177 k ds.1 ds.2.1 ds.2.2 }
def Ror177.G : List Sig := [Low70.S, width100.S]
theorem Ror177.eq (k : Nat) : ∀ ds os, Ror177.S.run k ds os = runF ⟨types, Ror177.G, Ror177.A, k, 0, []⟩ Tryz.f177 (codeOf Tryz.f177) Ror177.S.params Ror177.S.objs Ror177.S.res Ror177.S.outs ds os := by
  intro ds os; kernel_rfl
theorem Ror177.dr : DrOk Tryz.prog Ror177.A (codeOf Tryz.f177) := ⟨by kernel_rfl, by kernel_rfl⟩
theorem Ror177.ok (k : Nat) : SoundAt Tryz.prog k Ror177.S :=
  runF_sound (X := ⟨types, Ror177.G, Ror177.A, k, 0, []⟩) types_ok (mem_all (⟨Low70.ok k, ⟨width100.ok k, trivial⟩⟩)) (fn := Tryz.f177) (c := codeOf Tryz.f177) rfl (by kernel_rfl) rfl rfl Ror177.dr (Ror177.eq k)

def shift145 (k : Nat) (do_ : Int) (to : Int) (r : (List Int)) : Option ((List Int) × Unit) :=
  (carry173 k r).bind fun t13 =>
  Option.bind
    (cond (cond (do_ == 12) true (do_ == 13))
      (some (r, (), 0, (List.replicate 9 0)))
      (some (r, (), t13.1, (List.replicate 9 0))) : Option ((List Int) × (Unit × (Int × (List Int))))) fun ((r_1, _, c, _) : ((List Int) × (Unit × (Int × (List Int))))) =>
  cond (cond (do_ == 12) true (do_ == 14))
    ((rd r_1 to).bind fun t28 =>
    (Rol176 k t28 c 8).bind fun t31 =>
    (result174 k r_1 to t31.1.1 t31.1.2.1).bind fun t38 =>
    some (t38.1, ()))
    ((rd r_1 to).bind fun t41 =>
    (Ror177 k t41 c 8).bind fun t44 =>
    (result174 k r_1 to t44.1.1 t44.1.2.1).bind fun t51 =>
    some (t51.1, ()))
def shift145.A : Ann := { conds := [(1245187, ⟨[(5, .fp (.arr 9 (.int .i64))), (6, .ptr 0 []), (7, .int .i64)], [(0, .var (.arr 9 (.int .i64)))], 1, [], 128⟩)], blocks := [], loops := [], keeps := [5], orders := [] }
def shift145.S : Sig := { f := 145, params := [.int .i64, .int .i64, .arr 9 (.int .i64)], objs := [], res := .arr 9 (.int .i64), outs := [], fix := [], run := fun k ds os => shift145 k ds.1 ds.2.1 ds.2.2 }
def shift145.G : List Sig := [Rol176.S, Ror177.S, carry173.S, result174.S]
theorem shift145.eq (k : Nat) : ∀ ds os, shift145.S.run k ds os = runF ⟨types, shift145.G, shift145.A, k, 0, []⟩ Tryz.f145 (codeOf Tryz.f145) shift145.S.params shift145.S.objs shift145.S.res shift145.S.outs ds os := by
  intro ds os; kernel_rfl
theorem shift145.dr : DrOk Tryz.prog shift145.A (codeOf Tryz.f145) := ⟨by kernel_rfl, by kernel_rfl⟩
theorem shift145.ok (k : Nat) : SoundAt Tryz.prog k shift145.S :=
  runF_sound (X := ⟨types, shift145.G, shift145.A, k, 0, []⟩) types_ok (mem_all (⟨Rol176.ok k, ⟨Ror177.ok k, ⟨carry173.ok k, ⟨result174.ok k, trivial⟩⟩⟩⟩)) (fn := Tryz.f145) (c := codeOf Tryz.f145) rfl (by kernel_rfl) rfl rfl shift145.dr (shift145.eq k)

def place151 (k : Nat) (at_ : Int) (size : Int) : Option ((Int × (Int × Unit)) × Unit) :=
  (width100 k at_).bind fun t7 =>
  some ((t7.1, (mxI 0 (mnI size (w64 (62 - t7.1)))), ()), ())
def place151.A : Ann := { conds := [], blocks := [], loops := [], keeps := [], orders := [] }
def place151.S : Sig := { f := 151, params := [.int .i64, .int .i64], objs := [], res := .tup (.pair (.int .i64) (.pair (.int .i64) .unit)), outs := [], fix := [], run := fun k ds os => place151 k ds.1 ds.2 }
def place151.G : List Sig := [width100.S]
theorem place151.eq (k : Nat) : ∀ ds os, place151.S.run k ds os = runF ⟨types, place151.G, place151.A, k, 0, []⟩ Tryz.f151 (codeOf Tryz.f151) place151.S.params place151.S.objs place151.S.res place151.S.outs ds os := by
  intro ds os; kernel_rfl
theorem place151.dr : DrOk Tryz.prog place151.A (codeOf Tryz.f151) := ⟨by kernel_rfl, by kernel_rfl⟩
theorem place151.ok (k : Nat) : SoundAt Tryz.prog k place151.S :=
  runF_sound (X := ⟨types, place151.G, place151.A, k, 0, []⟩) types_ok (mem_all (⟨width100.ok k, trivial⟩)) (fn := Tryz.f151) (c := codeOf Tryz.f151) rfl (by kernel_rfl) rfl rfl place151.dr (place151.eq k)

def Put147 (k : Nat) (n : Int) (at_ : Int) (size : Int) (v : Int) : Option (Int × Unit) :=
  (place151 k at_ size).bind fun t13 =>
  (if t13.1.2.1 < 0 then none else some (shlI .i64 1 t13.1.2.1)).bind fun t17 =>
  (if t13.1.1 < 0 then none else some (shlI .i64 (w64 (t17 - 1)) t13.1.1)).bind fun t20 =>
  (Low70 k n 62).bind fun t22 =>
  (Low70 k v t13.1.2.1).bind fun t27 =>
  (if t13.1.1 < 0 then none else some (shlI .i64 t27.1 t13.1.1)).bind fun t29 =>
  some ((ibits .or .i64 (ibits .andNot .i64 t22.1 t20) t29), ())
def Put147.A : Ann := { conds := [], blocks := [], loops := [], keeps := [], orders := [] }
def Put147.S : Sig := { f := 147, params := [.int .i64, .int .i64, .int .i64, .int .i64], objs := [], res := .int .i64, outs := [], fix := [], run := fun k ds os => Put147 k ds.1 ds.2.1 ds.2.2.1 ds.2.2.2 }
def Put147.G : List Sig := [Low70.S, place151.S]
theorem Put147.eq (k : Nat) : ∀ ds os, Put147.S.run k ds os = runF ⟨types, Put147.G, Put147.A, k, 0, []⟩ Tryz.f147 (codeOf Tryz.f147) Put147.S.params Put147.S.objs Put147.S.res Put147.S.outs ds os := by
  intro ds os; kernel_rfl
theorem Put147.dr : DrOk Tryz.prog Put147.A (codeOf Tryz.f147) := ⟨by kernel_rfl, by kernel_rfl⟩
theorem Put147.ok (k : Nat) : SoundAt Tryz.prog k Put147.S :=
  runF_sound (X := ⟨types, Put147.G, Put147.A, k, 0, []⟩) types_ok (mem_all (⟨Low70.ok k, ⟨place151.ok k, trivial⟩⟩)) (fn := Tryz.f147) (c := codeOf Tryz.f147) rfl (by kernel_rfl) rfl rfl Put147.dr (Put147.eq k)

def Get123 (k : Nat) (n : Int) (at_ : Int) (size : Int) : Option (Int × Unit) :=
  (place151 k at_ size).bind fun t10 =>
  (Low70 k n 62).bind fun t14 =>
  (if t10.1.1 < 0 then none else some (shrI .i64 t14.1 t10.1.1)).bind fun t16 =>
  (Low70 k t16 t10.1.2.1).bind fun t18 =>
  some (t18.1, ())
def Get123.A : Ann := { conds := [], blocks := [], loops := [], keeps := [], orders := [] }
def Get123.S : Sig := { f := 123, params := [.int .i64, .int .i64, .int .i64], objs := [], res := .int .i64, outs := [], fix := [], run := fun k ds os => Get123 k ds.1 ds.2.1 ds.2.2 }
def Get123.G : List Sig := [Low70.S, place151.S]
theorem Get123.eq (k : Nat) : ∀ ds os, Get123.S.run k ds os = runF ⟨types, Get123.G, Get123.A, k, 0, []⟩ Tryz.f123 (codeOf Tryz.f123) Get123.S.params Get123.S.objs Get123.S.res Get123.S.outs ds os := by
  intro ds os; kernel_rfl
theorem Get123.dr : DrOk Tryz.prog Get123.A (codeOf Tryz.f123) := ⟨by kernel_rfl, by kernel_rfl⟩
theorem Get123.ok (k : Nat) : SoundAt Tryz.prog k Get123.S :=
  runF_sound (X := ⟨types, Get123.G, Get123.A, k, 0, []⟩) types_ok (mem_all (⟨Low70.ok k, ⟨place151.ok k, trivial⟩⟩)) (fn := Tryz.f123) (c := codeOf Tryz.f123) rfl (by kernel_rfl) rfl rfl Get123.dr (Get123.eq k)

def Signed148 (k : Nat) (n : Int) (bits : Int) : Option (Int × Unit) :=
  (width100 k bits).bind fun t6 =>
  (Low70 k n t6.1).bind fun t9 =>
  Option.bind (cond (decide (t6.1 > 0))
    (let t15 : Int := (w64 (t6.1 - 1))
    (if t15 < 0 then none else some (shrI .i64 t9.1 t15)).bind fun t16 =>
    some (t16 == 1))
    (some false)) fun t18 =>
  Option.bind
    (cond t18
      ((if t6.1 < 0 then none else some (shlI .i64 1 t6.1)).bind fun t21 =>
      some (w64 (t9.1 - t21)))
      (some t9.1) : Option Int) fun (n_1 : Int) =>
  some (n_1, ())
def Signed148.A : Ann := { conds := [(1179652, ⟨[(0, .int .i64)], [], 0, [], 7864321⟩)], blocks := [], loops := [], keeps := [], orders := [] }
def Signed148.S : Sig := { f := 148, params := [.int .i64, .int .i64], objs := [], res := .int .i64, outs := [], fix := [], run := fun k ds os => Signed148 k ds.1 ds.2 }
def Signed148.G : List Sig := [Low70.S, width100.S]
theorem Signed148.eq (k : Nat) : ∀ ds os, Signed148.S.run k ds os = runF ⟨types, Signed148.G, Signed148.A, k, 0, []⟩ Tryz.f148 (codeOf Tryz.f148) Signed148.S.params Signed148.S.objs Signed148.S.res Signed148.S.outs ds os := by
  intro ds os; kernel_rfl
theorem Signed148.dr : DrOk Tryz.prog Signed148.A (codeOf Tryz.f148) := ⟨by kernel_rfl, by kernel_rfl⟩
theorem Signed148.ok (k : Nat) : SoundAt Tryz.prog k Signed148.S :=
  runF_sound (X := ⟨types, Signed148.G, Signed148.A, k, 0, []⟩) types_ok (mem_all (⟨Low70.ok k, ⟨width100.ok k, trivial⟩⟩)) (fn := Tryz.f148) (c := codeOf Tryz.f148) rfl (by kernel_rfl) rfl rfl Signed148.dr (Signed148.eq k)
end Go.Proofs.YtcppmlgnceldmaaGreat.Gf

/- Go functions as plain Lean functions, and their contracts. -/
set_option linter.unusedVariables false
set_option maxRecDepth 100000
noncomputable section
namespace Go.Proofs.YtcppmlgnceldmaaGreat.Gf
open Go Go.Proofs.YtcppmlgnceldmaaGreat.Gp
def Do110 (k : Nat) (s : (Int × (Int × (Int × Int)))) (r : (List Int)) : Option (((List Int) × (Bool × Unit)) × Unit) :=
  (index142 k s.2.1).bind fun t11 =>
  (index142 k s.2.2.1).bind fun t14 =>
  (Fit104 k r).bind fun t16 =>
  Option.bind
    (cond (s.1 == 1)
      ((if 0 ≤ t14.1 ∧ t14.1 < 9 then some () else none).bind fun _ =>
      (rd t16.1 t14.1).bind fun t24 =>
      (if 0 ≤ t11.1 ∧ t11.1 < 9 then some () else none).bind fun _ =>
      (rd t16.1 t11.1).bind fun _ =>
      some (Sum.inl ((), (), (List.set t16.1 (Int.toNat t11.1) t24), (List.replicate 9 0))))
      (Option.bind
        (cond (s.1 == 2)
          ((if 0 ≤ t11.1 ∧ t11.1 < 9 then some () else none).bind fun _ =>
          (rd t16.1 t11.1).bind fun _ =>
          some (Sum.inl ((), (), (List.set t16.1 (Int.toNat t11.1) s.2.2.2), (List.replicate 9 0))))
          (Option.bind
            (cond (s.1 == 3)
              ((if 0 ≤ t11.1 ∧ t11.1 < 9 then some () else none).bind fun _ =>
              (rd t16.1 t11.1).bind fun t37 =>
              (Low70 k t37 8).bind fun t38 =>
              (nz143 k t16.1 t38.1).bind fun t39 =>
              some (Sum.inl ((), (), t39.1, (List.replicate 9 0))))
              (Option.bind
                (cond (s.1 == 4)
                  (some (s, (), (), (s.1 == 4), t16.1, (List.replicate 9 0)))
                  (Option.bind
                    (cond (s.1 == 5)
                      (some (s, (), (), (s.1 == 5), t16.1, (List.replicate 9 0)))
                      (Option.bind
                        (cond (s.1 == 6)
                          (some (s, (), (), (s.1 == 6), t16.1, (List.replicate 9 0)))
                          (Option.bind
                            (cond (s.1 == 7)
                              (some (s, (), (), (s.1 == 7), t16.1, (List.replicate 9 0)))
                              (Option.bind
                                (cond (s.1 == 8)
                                  (some (s, (), (), (s.1 == 8), t16.1, (List.replicate 9 0)))
                                  (some (s, (), (), (s.1 == 9), t16.1, (List.replicate 9 0))) : Option ((Int × (Int × (Int × Int))) × (Unit × (Unit × (Bool × ((List Int) × (List Int))))))) fun ((s_1, _, _, t40, o0, o1) : ((Int × (Int × (Int × Int))) × (Unit × (Unit × (Bool × ((List Int) × (List Int))))))) =>
                              some (s_1, (), (), t40, o0, o1)) : Option ((Int × (Int × (Int × Int))) × (Unit × (Unit × (Bool × ((List Int) × (List Int))))))) fun ((s_2, _, _, t40_1, o0_1, o1_1) : ((Int × (Int × (Int × Int))) × (Unit × (Unit × (Bool × ((List Int) × (List Int))))))) =>
                          some (s_2, (), (), t40_1, o0_1, o1_1)) : Option ((Int × (Int × (Int × Int))) × (Unit × (Unit × (Bool × ((List Int) × (List Int))))))) fun ((s_3, _, _, t40_2, o0_2, o1_2) : ((Int × (Int × (Int × Int))) × (Unit × (Unit × (Bool × ((List Int) × (List Int))))))) =>
                      some (s_3, (), (), t40_2, o0_2, o1_2)) : Option ((Int × (Int × (Int × Int))) × (Unit × (Unit × (Bool × ((List Int) × (List Int))))))) fun ((s_4, _, _, t40_3, o0_3, o1_3) : ((Int × (Int × (Int × Int))) × (Unit × (Unit × (Bool × ((List Int) × (List Int))))))) =>
                  some (s_4, (), (), t40_3, o0_3, o1_3)) : Option ((Int × (Int × (Int × Int))) × (Unit × (Unit × (Bool × ((List Int) × (List Int))))))) fun ((s_5, _, _, t40_4, o0_4, o1_4) : ((Int × (Int × (Int × Int))) × (Unit × (Unit × (Bool × ((List Int) × (List Int))))))) =>
              Option.bind
                (cond t40_4
                  ((binary144 k s_5.1 t11.1 t14.1 o0_4).bind fun t52 =>
                  some (Sum.inl ((), (), t52.1, o1_4)))
                  (Option.bind
                    (cond (s.1 == 10)
                      (some (s_5, (), (), (s.1 == 10), o0_4, o1_4))
                      (some (s_5, (), (), (s.1 == 11), o0_4, o1_4)) : Option ((Int × (Int × (Int × Int))) × (Unit × (Unit × (Bool × ((List Int) × (List Int))))))) fun ((s_6, _, _, t53, o0_5, o1_5) : ((Int × (Int × (Int × Int))) × (Unit × (Unit × (Bool × ((List Int) × (List Int))))))) =>
                  Option.bind
                    (cond t53
                      ((if 0 ≤ t11.1 ∧ t11.1 < 9 then some () else none).bind fun _ =>
                      (rd o0_5 t11.1).bind fun t58 =>
                      (bits140 k t11.1).bind fun t66 =>
                      (Low70 k (w64 ((w64 (t58 + 1)) - (w64 (2 * (w64 (s_6.1 - 10)))))) t66.1).bind fun t67 =>
                      (Wide102 k t11.1).bind fun t69 =>
                      Option.bind
                        (cond (!t69.1)
                          ((nz143 k o0_5 t67.1).bind fun t73 =>
                          some ((), (), t73.1, o1_5))
                          (some ((), (), o0_5, o1_5)) : Option (Unit × (Unit × ((List Int) × (List Int))))) fun ((_, _, o0_6, o1_6) : (Unit × (Unit × ((List Int) × (List Int))))) =>
                      (if 0 ≤ t11.1 ∧ t11.1 < 9 then some () else none).bind fun _ =>
                      (rd o0_6 t11.1).bind fun _ =>
                      some (Sum.inl ((), (), (List.set o0_6 (Int.toNat t11.1) t67.1), o1_6)))
                      (Option.bind
                        (cond (s.1 == 12)
                          (some (s_6, (), (), (s.1 == 12), o0_5, o1_5))
                          (Option.bind
                            (cond (s.1 == 13)
                              (some (s_6, (), (), (s.1 == 13), o0_5, o1_5))
                              (Option.bind
                                (cond (s.1 == 14)
                                  (some (s_6, (), (), (s.1 == 14), o0_5, o1_5))
                                  (some (s_6, (), (), (s.1 == 15), o0_5, o1_5)) : Option ((Int × (Int × (Int × Int))) × (Unit × (Unit × (Bool × ((List Int) × (List Int))))))) fun ((s_7, _, _, t77, o0_7, o1_7) : ((Int × (Int × (Int × Int))) × (Unit × (Unit × (Bool × ((List Int) × (List Int))))))) =>
                              some (s_7, (), (), t77, o0_7, o1_7)) : Option ((Int × (Int × (Int × Int))) × (Unit × (Unit × (Bool × ((List Int) × (List Int))))))) fun ((s_8, _, _, t77_1, o0_8, o1_8) : ((Int × (Int × (Int × Int))) × (Unit × (Unit × (Bool × ((List Int) × (List Int))))))) =>
                          some (s_8, (), (), t77_1, o0_8, o1_8)) : Option ((Int × (Int × (Int × Int))) × (Unit × (Unit × (Bool × ((List Int) × (List Int))))))) fun ((s_9, _, _, t77_2, o0_9, o1_9) : ((Int × (Int × (Int × Int))) × (Unit × (Unit × (Bool × ((List Int) × (List Int))))))) =>
                      Option.bind
                        (cond t77_2
                          ((shift145 k s_9.1 t11.1 o0_9).bind fun t86 =>
                          some (Sum.inl ((), (), t86.1, o1_9)))
                          (Option.bind
                            (cond (s.1 == 16)
                              (some (s_9, (), (), (s.1 == 16), o0_9, o1_9))
                              (some (s_9, (), (), (s.1 == 17), o0_9, o1_9)) : Option ((Int × (Int × (Int × Int))) × (Unit × (Unit × (Bool × ((List Int) × (List Int))))))) fun ((s_10, _, _, t87, o0_10, o1_10) : ((Int × (Int × (Int × Int))) × (Unit × (Unit × (Bool × ((List Int) × (List Int))))))) =>
                          Option.bind
                            (cond t87
                              ((Low70 k s_10.2.2.2 8).bind fun t93 =>
                              (flag146 k o0_10 t93.1 (s_10.1 == 16)).bind fun t97 =>
                              some (Sum.inl ((), (), t97.1, o1_10)))
                              (Option.bind
                                (cond (s.1 == 18)
                                  (some (s_10, (), (), (s.1 == 18), o0_10, o1_10))
                                  (some (s_10, (), (), (s.1 == 19), o0_10, o1_10)) : Option ((Int × (Int × (Int × Int))) × (Unit × (Unit × (Bool × ((List Int) × (List Int))))))) fun ((s_11, _, _, t98, o0_11, o1_11) : ((Int × (Int × (Int × Int))) × (Unit × (Unit × (Bool × ((List Int) × (List Int))))))) =>
                              Option.bind
                                (cond t98
                                  ((if 0 ≤ t11.1 ∧ t11.1 < 9 then some () else none).bind fun _ =>
                                  (rd o0_11 t11.1).bind fun t104 =>
                                  (if 0 ≤ t14.1 ∧ t14.1 < 9 then some () else none).bind fun _ =>
                                  (rd o0_11 t14.1).bind fun t111 =>
                                  (Put147 k t104 (w64 (8 * (w64 (s_11.1 - 18)))) 8 t111).bind fun t112 =>
                                  (if 0 ≤ t11.1 ∧ t11.1 < 9 then some () else none).bind fun _ =>
                                  (rd o0_11 t11.1).bind fun _ =>
                                  some (Sum.inl ((), (), (List.set o0_11 (Int.toNat t11.1) t112.1), o1_11)))
                                  (Option.bind
                                    (cond (s.1 == 20)
                                      (some (s_11, (), (), (s.1 == 20), o0_11, o1_11))
                                      (some (s_11, (), (), (s.1 == 21), o0_11, o1_11)) : Option ((Int × (Int × (Int × Int))) × (Unit × (Unit × (Bool × ((List Int) × (List Int))))))) fun ((s_12, _, _, t114, o0_12, o1_12) : ((Int × (Int × (Int × Int))) × (Unit × (Unit × (Bool × ((List Int) × (List Int))))))) =>
                                  Option.bind
                                    (cond t114
                                      ((if 0 ≤ t14.1 ∧ t14.1 < 9 then some () else none).bind fun _ =>
                                      (rd o0_12 t14.1).bind fun t120 =>
                                      (Get123 k t120 (w64 (8 * (w64 (s_12.1 - 20)))) 8).bind fun t125 =>
                                      (if 0 ≤ t11.1 ∧ t11.1 < 9 then some () else none).bind fun _ =>
                                      (rd o0_12 t11.1).bind fun _ =>
                                      some (Sum.inl ((), (), (List.set o0_12 (Int.toNat t11.1) t125.1), o1_12)))
                                      (Option.bind
                                        (cond (s.1 == 22)
                                          ((if 0 ≤ t11.1 ∧ t11.1 < 9 then some () else none).bind fun _ =>
                                          (rd o0_12 t11.1).bind fun t131 =>
                                          (if 0 ≤ t14.1 ∧ t14.1 < 9 then some () else none).bind fun _ =>
                                          (rd o0_12 t14.1).bind fun t134 =>
                                          (Low70 k t134 8).bind fun t135 =>
                                          (if 0 ≤ t11.1 ∧ t11.1 < 9 then some () else none).bind fun _ =>
                                          (rd o0_12 t11.1).bind fun _ =>
                                          some (Sum.inl ((), (), (List.set o0_12 (Int.toNat t11.1) (w64 (t131 + t135.1))), o1_12)))
                                          (Option.bind
                                            (cond (s.1 == 23)
                                              ((if 0 ≤ t11.1 ∧ t11.1 < 9 then some () else none).bind fun _ =>
                                              (rd o0_12 t11.1).bind fun t142 =>
                                              (if 0 ≤ t14.1 ∧ t14.1 < 9 then some () else none).bind fun _ =>
                                              (rd o0_12 t14.1).bind fun t145 =>
                                              (Signed148 k t145 8).bind fun t146 =>
                                              (if 0 ≤ t11.1 ∧ t11.1 < 9 then some () else none).bind fun _ =>
                                              (rd o0_12 t11.1).bind fun _ =>
                                              some (Sum.inl ((), (), (List.set o0_12 (Int.toNat t11.1) (w64 (t142 + t146.1))), o1_12)))
                                              (cond (s.1 == 24)
                                                ((if 0 ≤ 4 ∧ 4 < 9 then some () else none).bind fun _ =>
                                                (rd o0_12 4).bind fun t153 =>
                                                (Low70 k s_12.2.2.2 8).bind fun t156 =>
                                                some (Sum.inr (Sum.inr (Sum.inr (Sum.inr (Sum.inr (Sum.inr (Sum.inr (Sum.inr (Sum.inr (Sum.inr (Sum.inr ((o0_12, (xor true (((ibits .and .i64 t153 t156.1) != 0) == (s_12.2.2.1 == 1))), ()), ())))))))))))))
                                                (some (Sum.inl ((), (), o0_12, o1_12)))) : Option ((Unit × (Unit × ((List Int) × (List Int)))) ⊕ ((Unit × (Unit × ((List Int) × (List Int)))) ⊕ ((Unit × (Unit × ((List Int) × (List Int)))) ⊕ ((Unit × (Unit × ((List Int) × (List Int)))) ⊕ ((Unit × (Unit × ((List Int) × (List Int)))) ⊕ ((Unit × (Unit × ((List Int) × (List Int)))) ⊕ ((Unit × (Unit × ((List Int) × (List Int)))) ⊕ ((Unit × (Unit × ((List Int) × (List Int)))) ⊕ ((Unit × (Unit × ((List Int) × (List Int)))) ⊕ ((Unit × (Unit × ((List Int) × (List Int)))) ⊕ ((Unit × (Unit × ((List Int) × (List Int)))) ⊕ (((List Int) × (Bool × Unit)) × Unit))))))))))))) (joined fun ((_, _, o0_13, o1_13) : (Unit × (Unit × ((List Int) × (List Int))))) =>
                                            some (Sum.inl ((), (), o0_13, o1_13)))) : Option ((Unit × (Unit × ((List Int) × (List Int)))) ⊕ ((Unit × (Unit × ((List Int) × (List Int)))) ⊕ ((Unit × (Unit × ((List Int) × (List Int)))) ⊕ ((Unit × (Unit × ((List Int) × (List Int)))) ⊕ ((Unit × (Unit × ((List Int) × (List Int)))) ⊕ ((Unit × (Unit × ((List Int) × (List Int)))) ⊕ ((Unit × (Unit × ((List Int) × (List Int)))) ⊕ ((Unit × (Unit × ((List Int) × (List Int)))) ⊕ ((Unit × (Unit × ((List Int) × (List Int)))) ⊕ ((Unit × (Unit × ((List Int) × (List Int)))) ⊕ (((List Int) × (Bool × Unit)) × Unit)))))))))))) (joined fun ((_, _, o0_14, o1_14) : (Unit × (Unit × ((List Int) × (List Int))))) =>
                                        some (Sum.inl ((), (), o0_14, o1_14)))) : Option ((Unit × (Unit × ((List Int) × (List Int)))) ⊕ ((Unit × (Unit × ((List Int) × (List Int)))) ⊕ ((Unit × (Unit × ((List Int) × (List Int)))) ⊕ ((Unit × (Unit × ((List Int) × (List Int)))) ⊕ ((Unit × (Unit × ((List Int) × (List Int)))) ⊕ ((Unit × (Unit × ((List Int) × (List Int)))) ⊕ ((Unit × (Unit × ((List Int) × (List Int)))) ⊕ ((Unit × (Unit × ((List Int) × (List Int)))) ⊕ ((Unit × (Unit × ((List Int) × (List Int)))) ⊕ (((List Int) × (Bool × Unit)) × Unit))))))))))) (joined fun ((_, _, o0_15, o1_15) : (Unit × (Unit × ((List Int) × (List Int))))) =>
                                    some (Sum.inl ((), (), o0_15, o1_15)))) : Option ((Unit × (Unit × ((List Int) × (List Int)))) ⊕ ((Unit × (Unit × ((List Int) × (List Int)))) ⊕ ((Unit × (Unit × ((List Int) × (List Int)))) ⊕ ((Unit × (Unit × ((List Int) × (List Int)))) ⊕ ((Unit × (Unit × ((List Int) × (List Int)))) ⊕ ((Unit × (Unit × ((List Int) × (List Int)))) ⊕ ((Unit × (Unit × ((List Int) × (List Int)))) ⊕ ((Unit × (Unit × ((List Int) × (List Int)))) ⊕ (((List Int) × (Bool × Unit)) × Unit)))))))))) (joined fun ((_, _, o0_16, o1_16) : (Unit × (Unit × ((List Int) × (List Int))))) =>
                                some (Sum.inl ((), (), o0_16, o1_16)))) : Option ((Unit × (Unit × ((List Int) × (List Int)))) ⊕ ((Unit × (Unit × ((List Int) × (List Int)))) ⊕ ((Unit × (Unit × ((List Int) × (List Int)))) ⊕ ((Unit × (Unit × ((List Int) × (List Int)))) ⊕ ((Unit × (Unit × ((List Int) × (List Int)))) ⊕ ((Unit × (Unit × ((List Int) × (List Int)))) ⊕ ((Unit × (Unit × ((List Int) × (List Int)))) ⊕ (((List Int) × (Bool × Unit)) × Unit))))))))) (joined fun ((_, _, o0_17, o1_17) : (Unit × (Unit × ((List Int) × (List Int))))) =>
                            some (Sum.inl ((), (), o0_17, o1_17)))) : Option ((Unit × (Unit × ((List Int) × (List Int)))) ⊕ ((Unit × (Unit × ((List Int) × (List Int)))) ⊕ ((Unit × (Unit × ((List Int) × (List Int)))) ⊕ ((Unit × (Unit × ((List Int) × (List Int)))) ⊕ ((Unit × (Unit × ((List Int) × (List Int)))) ⊕ ((Unit × (Unit × ((List Int) × (List Int)))) ⊕ (((List Int) × (Bool × Unit)) × Unit)))))))) (joined fun ((_, _, o0_18, o1_18) : (Unit × (Unit × ((List Int) × (List Int))))) =>
                        some (Sum.inl ((), (), o0_18, o1_18)))) : Option ((Unit × (Unit × ((List Int) × (List Int)))) ⊕ ((Unit × (Unit × ((List Int) × (List Int)))) ⊕ ((Unit × (Unit × ((List Int) × (List Int)))) ⊕ ((Unit × (Unit × ((List Int) × (List Int)))) ⊕ ((Unit × (Unit × ((List Int) × (List Int)))) ⊕ (((List Int) × (Bool × Unit)) × Unit))))))) (joined fun ((_, _, o0_19, o1_19) : (Unit × (Unit × ((List Int) × (List Int))))) =>
                    some (Sum.inl ((), (), o0_19, o1_19)))) : Option ((Unit × (Unit × ((List Int) × (List Int)))) ⊕ ((Unit × (Unit × ((List Int) × (List Int)))) ⊕ ((Unit × (Unit × ((List Int) × (List Int)))) ⊕ ((Unit × (Unit × ((List Int) × (List Int)))) ⊕ (((List Int) × (Bool × Unit)) × Unit)))))) (joined fun ((_, _, o0_20, o1_20) : (Unit × (Unit × ((List Int) × (List Int))))) =>
                some (Sum.inl ((), (), o0_20, o1_20)))) : Option ((Unit × (Unit × ((List Int) × (List Int)))) ⊕ ((Unit × (Unit × ((List Int) × (List Int)))) ⊕ ((Unit × (Unit × ((List Int) × (List Int)))) ⊕ (((List Int) × (Bool × Unit)) × Unit))))) (joined fun ((_, _, o0_21, o1_21) : (Unit × (Unit × ((List Int) × (List Int))))) =>
            some (Sum.inl ((), (), o0_21, o1_21)))) : Option ((Unit × (Unit × ((List Int) × (List Int)))) ⊕ ((Unit × (Unit × ((List Int) × (List Int)))) ⊕ (((List Int) × (Bool × Unit)) × Unit)))) (joined fun ((_, _, o0_22, o1_22) : (Unit × (Unit × ((List Int) × (List Int))))) =>
        some (Sum.inl ((), (), o0_22, o1_22)))) : Option ((Unit × (Unit × ((List Int) × (List Int)))) ⊕ (((List Int) × (Bool × Unit)) × Unit))) (joined fun ((_, _, o0_23, _) : (Unit × (Unit × ((List Int) × (List Int))))) =>
    (Fit104 k o0_23).bind fun t164 =>
    some ((t164.1, false, ()), ()))
def Do110.A : Ann := { conds := [(1245189, ⟨[(3, .ptr 0 []), (4, .ptr 1 [])], [(0, .var (.arr 9 (.int .i64))), (1, .var (.arr 9 (.int .i64)))], 2, [], 11692013098647223345629478661730264157247458246944⟩), (1703943, ⟨[(3, .ptr 0 []), (4, .ptr 1 [])], [(0, .var (.arr 9 (.int .i64))), (1, .var (.arr 9 (.int .i64)))], 2, [], 11692013098647223345629478661730264157247191908640⟩), (2097161, ⟨[(3, .ptr 0 []), (4, .ptr 1 [])], [(0, .var (.arr 9 (.int .i64))), (1, .var (.arr 9 (.int .i64)))], 2, [], 11692013098647223345629478661730264157230280474912⟩), (2621451, ⟨[(2, .fp (.st (.pair (.int .i64) (.pair (.int .i64) (.pair (.int .i64) (.int .i64)))))), (3, .ptr 0 []), (4, .ptr 1 []), (40, .bool)], [(0, .var (.arr 9 (.int .i64))), (1, .var (.arr 9 (.int .i64)))], 2, [], 137438953472000⟩), (2621452, ⟨[(2, .fp (.st (.pair (.int .i64) (.pair (.int .i64) (.pair (.int .i64) (.int .i64)))))), (3, .ptr 0 []), (4, .ptr 1 []), (40, .bool)], [(0, .var (.arr 9 (.int .i64))), (1, .var (.arr 9 (.int .i64)))], 2, [], 133040906960896⟩), (2621453, ⟨[(2, .fp (.st (.pair (.int .i64) (.pair (.int .i64) (.pair (.int .i64) (.int .i64)))))), (3, .ptr 0 []), (4, .ptr 1 []), (40, .bool)], [(0, .var (.arr 9 (.int .i64))), (1, .var (.arr 9 (.int .i64)))], 2, [], 124244813938688⟩), (2621454, ⟨[(2, .fp (.st (.pair (.int .i64) (.pair (.int .i64) (.pair (.int .i64) (.int .i64)))))), (3, .ptr 0 []), (4, .ptr 1 []), (40, .bool)], [(0, .var (.arr 9 (.int .i64))), (1, .var (.arr 9 (.int .i64)))], 2, [], 106652627894272⟩), (2621455, ⟨[(2, .fp (.st (.pair (.int .i64) (.pair (.int .i64) (.pair (.int .i64) (.int .i64)))))), (3, .ptr 0 []), (4, .ptr 1 []), (40, .bool)], [(0, .var (.arr 9 (.int .i64))), (1, .var (.arr 9 (.int .i64)))], 2, [], 71468255805440⟩), (2621456, ⟨[(3, .ptr 0 []), (4, .ptr 1 [])], [(0, .var (.arr 9 (.int .i64))), (1, .var (.arr 9 (.int .i64)))], 2, [], 11692013098647223345629478661730264016509971988768⟩), (3473426, ⟨[(2, .fp (.st (.pair (.int .i64) (.pair (.int .i64) (.pair (.int .i64) (.int .i64)))))), (3, .ptr 0 []), (4, .ptr 1 []), (53, .bool)], [(0, .var (.arr 9 (.int .i64))), (1, .var (.arr 9 (.int .i64)))], 2, [], 45035996273704960⟩), (3473427, ⟨[(3, .ptr 0 []), (4, .ptr 1 [])], [(0, .var (.arr 9 (.int .i64))), (1, .var (.arr 9 (.int .i64)))], 2, [], 11692013098647223345629478661730192099653422416160⟩), (4587541, ⟨[(3, .ptr 0 []), (4, .ptr 1 [])], [(0, .var (.arr 9 (.int .i64))), (1, .var (.arr 9 (.int .i64)))], 2, [], 16528282690043758247936⟩), (5046296, ⟨[(2, .fp (.st (.pair (.int .i64) (.pair (.int .i64) (.pair (.int .i64) (.int .i64)))))), (3, .ptr 0 []), (4, .ptr 1 []), (77, .bool)], [(0, .var (.arr 9 (.int .i64))), (1, .var (.arr 9 (.int .i64)))], 2, [], 4382356096103030758309888⟩), (5046297, ⟨[(2, .fp (.st (.pair (.int .i64) (.pair (.int .i64) (.pair (.int .i64) (.int .i64)))))), (3, .ptr 0 []), (4, .ptr 1 []), (77, .bool)], [(0, .var (.arr 9 (.int .i64))), (1, .var (.arr 9 (.int .i64)))], 2, [], 3777893186295716170956800⟩), (5046298, ⟨[(2, .fp (.st (.pair (.int .i64) (.pair (.int .i64) (.pair (.int .i64) (.int .i64)))))), (3, .ptr 0 []), (4, .ptr 1 []), (77, .bool)], [(0, .var (.arr 9 (.int .i64))), (1, .var (.arr 9 (.int .i64)))], 2, [], 2568967366681086996250624⟩), (5046299, ⟨[(3, .ptr 0 []), (4, .ptr 1 [])], [(0, .var (.arr 9 (.int .i64))), (1, .var (.arr 9 (.int .i64)))], 2, [], 11692013098647223345629473826026985698730761519136⟩), (5701661, ⟨[(2, .fp (.st (.pair (.int .i64) (.pair (.int .i64) (.pair (.int .i64) (.int .i64)))))), (3, .ptr 0 []), (4, .ptr 1 []), (87, .bool)], [(0, .var (.arr 9 (.int .i64))), (1, .var (.arr 9 (.int .i64)))], 2, [], 773712524553362671811952640⟩), (5701662, ⟨[(3, .ptr 0 []), (4, .ptr 1 [])], [(0, .var (.arr 9 (.int .i64))), (1, .var (.arr 9 (.int .i64)))], 2, [], 11692013098647223345628240721690978776972561219616⟩), (6422560, ⟨[(2, .fp (.st (.pair (.int .i64) (.pair (.int .i64) (.pair (.int .i64) (.int .i64)))))), (3, .ptr 0 []), (4, .ptr 1 []), (98, .bool)], [(0, .var (.arr 9 (.int .i64))), (1, .var (.arr 9 (.int .i64)))], 2, [], 1584563250285286751870879006720⟩), (6422561, ⟨[(3, .ptr 0 []), (4, .ptr 1 [])], [(0, .var (.arr 9 (.int .i64))), (1, .var (.arr 9 (.int .i64)))], 2, [], 11692013098647223343094177461273805354254053933088⟩), (7471139, ⟨[(2, .fp (.st (.pair (.int .i64) (.pair (.int .i64) (.pair (.int .i64) (.int .i64)))))), (3, .ptr 0 []), (4, .ptr 1 []), (114, .bool)], [(0, .var (.arr 9 (.int .i64))), (1, .var (.arr 9 (.int .i64)))], 2, [], 103845937170696552570609926584401920⟩), (7471140, ⟨[(3, .ptr 0 []), (4, .ptr 1 [])], [(0, .var (.arr 9 (.int .i64))), (1, .var (.arr 9 (.int .i64)))], 2, [], 11692013098647057192130005547246151181364925300768⟩), (8323110, ⟨[(3, .ptr 0 []), (4, .ptr 1 [])], [(0, .var (.arr 9 (.int .i64))), (1, .var (.arr 9 (.int .i64)))], 2, [], 11692013097966658611787601734803514942383923920928⟩), (9044008, ⟨[(3, .ptr 0 []), (4, .ptr 1 [])], [(0, .var (.arr 9 (.int .i64))), (1, .var (.arr 9 (.int .i64)))], 2, [], 11692011704850648437465532315747872116724866220064⟩)], blocks := [], loops := [], keeps := [2], orders := [(1, [(0, .strong), (1, .strong), (3, .strong), (4, .strong), (2, .eff true), (5, .eff true), (6, .strong), (7, .strong)]), (9, [(0, .strong), (1, .strong), (2, .strong), (3, .strong), (4, .eff true), (5, .eff true), (6, .eff false)]), (19, [(0, .strong), (1, .strong), (2, .strong), (3, .strong), (4, .strong), (5, .strong), (6, .strong), (7, .strong), (8, .strong), (9, .strong), (10, .eff true), (11, .eff true), (12, .strong)]), (30, [(0, .strong), (1, .strong), (2, .strong), (4, .strong), (5, .strong), (6, .strong), (3, .eff true), (7, .eff true), (8, .eff false)]), (33, [(0, .strong), (1, .strong), (2, .strong), (3, .strong), (4, .strong), (5, .strong), (6, .strong), (7, .strong), (8, .strong), (9, .strong), (10, .strong), (11, .eff true), (12, .strong), (13, .eff false)]), (36, [(0, .strong), (1, .strong), (2, .strong), (3, .strong), (4, .strong), (5, .strong), (6, .strong), (7, .strong), (8, .eff true), (9, .strong), (10, .eff false)]), (38, [(0, .strong), (1, .strong), (2, .strong), (3, .strong), (4, .strong), (5, .strong), (6, .eff true), (7, .strong), (8, .strong), (9, .eff false)]), (40, [(0, .strong), (1, .strong), (2, .strong), (3, .strong), (4, .strong), (5, .strong), (6, .eff true), (7, .strong), (8, .strong), (9, .eff false)]), (42, [(0, .strong), (1, .strong), (2, .strong), (3, .strong), (4, .strong), (8, .strong), (9, .strong), (10, .strong), (5, .eff true), (6, .strong), (7, .strong), (11, .strong), (12, .eff true), (13, .strong)])], touches := [(42, 2)] }
def Do110.S : Sig := { f := 110, params := [.st (.pair (.int .i64) (.pair (.int .i64) (.pair (.int .i64) (.int .i64)))), .arr 9 (.int .i64)], objs := [], res := .tup (.pair (.arr 9 (.int .i64)) (.pair .bool .unit)), outs := [], fix := [], run := fun k ds os => Do110 k ds.1 ds.2 }
def Do110.G : List Sig := [Fit104.S, Get123.S, Low70.S, Put147.S, Signed148.S, Wide102.S, binary144.S, bits140.S, flag146.S, index142.S, nz143.S, shift145.S]
theorem Do110.eq (k : Nat) : ∀ ds os, Do110.S.run k ds os = runF ⟨types, Do110.G, Do110.A, k, 0, []⟩ Tryz.f110 (codeOf Tryz.f110) Do110.S.params Do110.S.objs Do110.S.res Do110.S.outs ds os := by
  intro ds os; kernel_rfl
theorem Do110.dr : DrOk Tryz.prog Do110.A (codeOf Tryz.f110) := ⟨by kernel_rfl, by kernel_rfl⟩
theorem Do110.ok (k : Nat) : SoundAt Tryz.prog k Do110.S :=
  runF_sound (X := ⟨types, Do110.G, Do110.A, k, 0, []⟩) types_ok (mem_all (⟨Fit104.ok k, ⟨Get123.ok k, ⟨Low70.ok k, ⟨Put147.ok k, ⟨Signed148.ok k, ⟨Wide102.ok k, ⟨binary144.ok k, ⟨bits140.ok k, ⟨flag146.ok k, ⟨index142.ok k, ⟨nz143.ok k, ⟨shift145.ok k, trivial⟩⟩⟩⟩⟩⟩⟩⟩⟩⟩⟩⟩)) (fn := Tryz.f110) (c := codeOf Tryz.f110) rfl (by kernel_rfl) rfl rfl Do110.dr (Do110.eq k)
end Go.Proofs.YtcppmlgnceldmaaGreat.Gf

/- Go functions as plain Lean functions, and their contracts. -/
set_option linter.unusedVariables false
set_option maxRecDepth 100000
noncomputable section
namespace Go.Proofs.YtcppmlgnceldmaaGreat.Gf
open Go Go.Proofs.YtcppmlgnceldmaaGreat.Gp
def Tell77.l0 (k : Nat) (x : (Int × (Int × (Int × (List (Int × (Int × (Int × Int)))))))) : ((ByteArray × ((List (Int × (ByteArray × (Int × (List (Int × (Int × (Int × (List (Int × (Int × (Int × Int)))))))))))) × ((List (Int × (Int × (Int × (List (Int × (Int × (Int × Int)))))))) × ((List (Int × (Int × (Int × (List (Int × (Int × (Int × Int)))))))) × (List (Int × (Int × (Int × (List (Int × (Int × (Int × Int)))))))))))) × (Unit × (Unit × (Int × (((List Int) × (Int × (Int × Bool))) × ((List Int) × (Int × (Int × Bool)))))))) → Option (((ByteArray × ((List (Int × (ByteArray × (Int × (List (Int × (Int × (Int × (List (Int × (Int × (Int × Int)))))))))))) × ((List (Int × (Int × (Int × (List (Int × (Int × (Int × Int)))))))) × ((List (Int × (Int × (Int × (List (Int × (Int × (Int × Int)))))))) × (List (Int × (Int × (Int × (List (Int × (Int × (Int × Int)))))))))))) × (Unit × (Unit × (Int × (((List Int) × (Int × (Int × Bool))) × ((List Int) × (Int × (Int × Bool)))))))) ⊕ (((ByteArray × ((List (Int × (ByteArray × (Int × (List (Int × (Int × (Int × (List (Int × (Int × (Int × Int)))))))))))) × ((List (Int × (Int × (Int × (List (Int × (Int × (Int × Int)))))))) × ((List (Int × (Int × (Int × (List (Int × (Int × (Int × Int)))))))) × (List (Int × (Int × (Int × (List (Int × (Int × (Int × Int)))))))))))) × (Unit × (Unit × (((List Int) × (Int × (Int × Bool))) × ((List Int) × (Int × (Int × Bool))))))) ⊕ (((List Int) × (Int × (Int × Bool))) × Unit)))
  | (c_2, _, _, t79, o0_3, o1_3) =>
    cond (decide (t79 < (List.length x.2.2.2 : Int)))
      ((rd x.2.2.2 t79).bind fun t81 =>
      (Do110 k t81 o0_3.1).bind fun t87 =>
      cond t87.1.2.1
        (some (Sum.inr (Sum.inr ((t87.1.1, (-1), 0, o0_3.2.2.2), ()))))
        (some (Sum.inl (c_2, (), (), (w64 (t79 + 1)), (t87.1.1, o0_3.2), o1_3))))
      (some (Sum.inr (Sum.inl (c_2, (), (), o0_3, o1_3))))
def Tell77 (k : Nat) (c : (ByteArray × ((List (Int × (ByteArray × (Int × (List (Int × (Int × (Int × (List (Int × (Int × (Int × Int)))))))))))) × ((List (Int × (Int × (Int × (List (Int × (Int × (Int × Int)))))))) × ((List (Int × (Int × (Int × (List (Int × (Int × (Int × Int)))))))) × (List (Int × (Int × (Int × (List (Int × (Int × (Int × Int))))))))))))) (k_ : ((List Int) × (Int × (Int × Bool)))) (data : Int) : Option (((List Int) × (Int × (Int × Bool))) × Unit) :=
  (Low70 k data 8).bind fun t16 =>
  (Fit104 k k_.1).bind fun t19 =>
  cond (k_.2.1 == (-1))
    ((Find11 k c t16.1).bind fun t27 =>
    Option.bind
      (cond (!t27.1.2.1)
        (some ((), (), (t19.1, 259, k_.2.2), (List.replicate 9 0), 0, 0, false))
        (Option.bind
          (cond (decide ((List.length t27.1.1.2.2.2 : Int) > 0))
            (some ((), (), (t19.1, t16.1, k_.2.2), (List.replicate 9 0), 0, 0, false))
            (some ((), (), (t19.1, k_.2), (List.replicate 9 0), 0, 0, false)) : Option (Unit × (Unit × (((List Int) × (Int × (Int × Bool))) × ((List Int) × (Int × (Int × Bool))))))) fun ((_, _, o0, o1) : (Unit × (Unit × (((List Int) × (Int × (Int × Bool))) × ((List Int) × (Int × (Int × Bool))))))) =>
        some ((), (), o0, o1)) : Option (Unit × (Unit × (((List Int) × (Int × (Int × Bool))) × ((List Int) × (Int × (Int × Bool))))))) fun ((_, _, o0_1, _) : (Unit × (Unit × (((List Int) × (Int × (Int × Bool))) × ((List Int) × (Int × (Int × Bool))))))) =>
    some ((o0_1.1, o0_1.2.1, 0, o0_1.2.2.2), ()))
    ((doing107 k c (t19.1, k_.2)).bind fun t46 =>
    cond (!t46.1.2.1)
      ((ended109 k c (t19.1, k_.2)).bind fun t53 =>
      some (t53.1, ()))
      (Option.bind
        (cond (cond (cond (t46.1.1.1 == 1) (decide (t46.1.1.2.2.1 ≥ 0)) false) (decide (t46.1.1.2.2.1 < 9)) false)
          ((if 0 ≤ t46.1.1.2.2.1 ∧ t46.1.1.2.2.1 < 9 then some () else none).bind fun _ =>
          (rd t19.1 t46.1.1.2.2.1).bind fun _ =>
          some (c, (), (), t46.1.1, ((List.set t19.1 (Int.toNat t46.1.1.2.2.1) t16.1), k_.2), (List.replicate 9 0), 0, 0, false))
          (some (c, (), (), t46.1.1, (t19.1, k_.2), (List.replicate 9 0), 0, 0, false)) : Option ((ByteArray × ((List (Int × (ByteArray × (Int × (List (Int × (Int × (Int × (List (Int × (Int × (Int × Int)))))))))))) × ((List (Int × (Int × (Int × (List (Int × (Int × (Int × Int)))))))) × ((List (Int × (Int × (Int × (List (Int × (Int × (Int × Int)))))))) × (List (Int × (Int × (Int × (List (Int × (Int × (Int × Int)))))))))))) × (Unit × (Unit × ((Int × (Int × (Int × (List (Int × (Int × (Int × Int))))))) × (((List Int) × (Int × (Int × Bool))) × ((List Int) × (Int × (Int × Bool))))))))) fun ((c_1, _, _, x, o0_2, o1_2) : ((ByteArray × ((List (Int × (ByteArray × (Int × (List (Int × (Int × (Int × (List (Int × (Int × (Int × Int)))))))))))) × ((List (Int × (Int × (Int × (List (Int × (Int × (Int × Int)))))))) × ((List (Int × (Int × (Int × (List (Int × (Int × (Int × Int)))))))) × (List (Int × (Int × (Int × (List (Int × (Int × (Int × Int)))))))))))) × (Unit × (Unit × ((Int × (Int × (Int × (List (Int × (Int × (Int × Int))))))) × (((List Int) × (Int × (Int × Bool))) × ((List Int) × (Int × (Int × Bool))))))))) =>
      Option.bind
        (loopN (Tell77.l0 k x) k (c_1, (), (), 0, (o0_2.1, o0_2.2.1, (w64 (o0_2.2.2.1 + 1)), o0_2.2.2.2), o1_2) : Option (((ByteArray × ((List (Int × (ByteArray × (Int × (List (Int × (Int × (Int × (List (Int × (Int × (Int × Int)))))))))))) × ((List (Int × (Int × (Int × (List (Int × (Int × (Int × Int)))))))) × ((List (Int × (Int × (Int × (List (Int × (Int × (Int × Int)))))))) × (List (Int × (Int × (Int × (List (Int × (Int × (Int × Int)))))))))))) × (Unit × (Unit × (((List Int) × (Int × (Int × Bool))) × ((List Int) × (Int × (Int × Bool))))))) ⊕ (((List Int) × (Int × (Int × Bool))) × Unit))) (joined fun ((c_3, _, _, o0_4, o1_4) : ((ByteArray × ((List (Int × (ByteArray × (Int × (List (Int × (Int × (Int × (List (Int × (Int × (Int × Int)))))))))))) × ((List (Int × (Int × (Int × (List (Int × (Int × (Int × Int)))))))) × ((List (Int × (Int × (Int × (List (Int × (Int × (Int × Int)))))))) × (List (Int × (Int × (Int × (List (Int × (Int × (Int × Int)))))))))))) × (Unit × (Unit × (((List Int) × (Int × (Int × Bool))) × ((List Int) × (Int × (Int × Bool)))))))) =>
        (cycles111 k c_3 o0_4.2.1).bind fun t102 =>
        Option.bind
          (cond (decide (o0_4.2.2.1 ≥ (List.length t102.1 : Int)))
            (some ((), (), (o0_4.1, (-1), 0, o0_4.2.2.2), o1_4))
            (some ((), (), o0_4, o1_4)) : Option (Unit × (Unit × (((List Int) × (Int × (Int × Bool))) × ((List Int) × (Int × (Int × Bool))))))) fun ((_, _, o0_5, _) : (Unit × (Unit × (((List Int) × (Int × (Int × Bool))) × ((List Int) × (Int × (Int × Bool))))))) =>
        some (o0_5, ()))))
def Tell77.A : Ann := { conds := [(1966086, ⟨[(4, .ptr 0 []), (6, .ptr 1 [])], [(0, .var (.st (.pair (.arr 9 (.int .i64)) (.pair (.int .i64) (.pair (.int .i64) .bool))))), (1, .var (.st (.pair (.arr 9 (.int .i64)) (.pair (.int .i64) (.pair (.int .i64) .bool)))))], 2, [], 2190433320960⟩), (2228232, ⟨[(4, .ptr 0 []), (6, .ptr 1 [])], [(0, .var (.st (.pair (.arr 9 (.int .i64)) (.pair (.int .i64) (.pair (.int .i64) .bool))))), (1, .var (.st (.pair (.arr 9 (.int .i64)) (.pair (.int .i64) (.pair (.int .i64) .bool)))))], 2, [], 1649267441664⟩), (4325391, ⟨[(3, .fp (.st (.pair .str (.pair (.sl (.st (.pair (.int .i64) (.pair .str (.pair (.int .i64) (.sl (.st (.pair (.int .i64) (.pair (.int .i64) (.pair (.int .i64) (.sl (.st (.pair (.int .i64) (.pair (.int .i64) (.pair (.int .i64) (.int .i64)))))))))))))))) (.pair (.sl (.st (.pair (.int .i64) (.pair (.int .i64) (.pair (.int .i64) (.sl (.st (.pair (.int .i64) (.pair (.int .i64) (.pair (.int .i64) (.int .i64))))))))))) (.pair (.sl (.st (.pair (.int .i64) (.pair (.int .i64) (.pair (.int .i64) (.sl (.st (.pair (.int .i64) (.pair (.int .i64) (.pair (.int .i64) (.int .i64))))))))))) (.sl (.st (.pair (.int .i64) (.pair (.int .i64) (.pair (.int .i64) (.sl (.st (.pair (.int .i64) (.pair (.int .i64) (.pair (.int .i64) (.int .i64))))))))))))))))), (4, .ptr 0 []), (6, .ptr 1 []), (9, .fp (.st (.pair (.int .i64) (.pair (.int .i64) (.pair (.int .i64) (.sl (.st (.pair (.int .i64) (.pair (.int .i64) (.pair (.int .i64) (.int .i64)))))))))))], [(0, .var (.st (.pair (.arr 9 (.int .i64)) (.pair (.int .i64) (.pair (.int .i64) .bool))))), (1, .var (.st (.pair (.arr 9 (.int .i64)) (.pair (.int .i64) (.pair (.int .i64) .bool)))))], 2, [], 4574792530279968800768⟩), (6815771, ⟨[(4, .ptr 0 []), (6, .ptr 1 [])], [(0, .var (.st (.pair (.arr 9 (.int .i64)) (.pair (.int .i64) (.pair (.int .i64) .bool))))), (1, .var (.st (.pair (.arr 9 (.int .i64)) (.pair (.int .i64) (.pair (.int .i64) .bool)))))], 2, [], 121694457621910022543683507716096⟩)], blocks := [(1, ⟨[(3, .fp (.st (.pair .str (.pair (.sl (.st (.pair (.int .i64) (.pair .str (.pair (.int .i64) (.sl (.st (.pair (.int .i64) (.pair (.int .i64) (.pair (.int .i64) (.sl (.st (.pair (.int .i64) (.pair (.int .i64) (.pair (.int .i64) (.int .i64)))))))))))))))) (.pair (.sl (.st (.pair (.int .i64) (.pair (.int .i64) (.pair (.int .i64) (.sl (.st (.pair (.int .i64) (.pair (.int .i64) (.pair (.int .i64) (.int .i64))))))))))) (.pair (.sl (.st (.pair (.int .i64) (.pair (.int .i64) (.pair (.int .i64) (.sl (.st (.pair (.int .i64) (.pair (.int .i64) (.pair (.int .i64) (.int .i64))))))))))) (.sl (.st (.pair (.int .i64) (.pair (.int .i64) (.pair (.int .i64) (.sl (.st (.pair (.int .i64) (.pair (.int .i64) (.pair (.int .i64) (.int .i64))))))))))))))))), (4, .ptr 0 []), (6, .ptr 1 [])], [(0, .var (.st (.pair (.arr 9 (.int .i64)) (.pair (.int .i64) (.pair (.int .i64) .bool))))), (1, .var (.st (.pair (.arr 9 (.int .i64)) (.pair (.int .i64) (.pair (.int .i64) .bool)))))], 2, [], 158455720565618867872500576256⟩)], loops := [(18, ⟨[(3, .fp (.st (.pair .str (.pair (.sl (.st (.pair (.int .i64) (.pair .str (.pair (.int .i64) (.sl (.st (.pair (.int .i64) (.pair (.int .i64) (.pair (.int .i64) (.sl (.st (.pair (.int .i64) (.pair (.int .i64) (.pair (.int .i64) (.int .i64)))))))))))))))) (.pair (.sl (.st (.pair (.int .i64) (.pair (.int .i64) (.pair (.int .i64) (.sl (.st (.pair (.int .i64) (.pair (.int .i64) (.pair (.int .i64) (.int .i64))))))))))) (.pair (.sl (.st (.pair (.int .i64) (.pair (.int .i64) (.pair (.int .i64) (.sl (.st (.pair (.int .i64) (.pair (.int .i64) (.pair (.int .i64) (.int .i64))))))))))) (.sl (.st (.pair (.int .i64) (.pair (.int .i64) (.pair (.int .i64) (.sl (.st (.pair (.int .i64) (.pair (.int .i64) (.pair (.int .i64) (.int .i64))))))))))))))))), (4, .ptr 0 []), (6, .ptr 1 []), (79, .int .i64)], [(0, .var (.st (.pair (.arr 9 (.int .i64)) (.pair (.int .i64) (.pair (.int .i64) .bool))))), (1, .var (.st (.pair (.arr 9 (.int .i64)) (.pair (.int .i64) (.pair (.int .i64) .bool)))))], 2, [], 158455720565618867872500576256⟩)], keeps := [3, 7, 9, 12, 13], orders := [(26, [(0, .strong), (1, .strong), (2, .strong), (3, .strong), (4, .strong), (5, .eff true), (6, .strong), (7, .strong)])] }
def Tell77.S : Sig := { f := 77, params := [.st (.pair .str (.pair (.sl (.st (.pair (.int .i64) (.pair .str (.pair (.int .i64) (.sl (.st (.pair (.int .i64) (.pair (.int .i64) (.pair (.int .i64) (.sl (.st (.pair (.int .i64) (.pair (.int .i64) (.pair (.int .i64) (.int .i64)))))))))))))))) (.pair (.sl (.st (.pair (.int .i64) (.pair (.int .i64) (.pair (.int .i64) (.sl (.st (.pair (.int .i64) (.pair (.int .i64) (.pair (.int .i64) (.int .i64))))))))))) (.pair (.sl (.st (.pair (.int .i64) (.pair (.int .i64) (.pair (.int .i64) (.sl (.st (.pair (.int .i64) (.pair (.int .i64) (.pair (.int .i64) (.int .i64))))))))))) (.sl (.st (.pair (.int .i64) (.pair (.int .i64) (.pair (.int .i64) (.sl (.st (.pair (.int .i64) (.pair (.int .i64) (.pair (.int .i64) (.int .i64))))))))))))))), .st (.pair (.arr 9 (.int .i64)) (.pair (.int .i64) (.pair (.int .i64) .bool))), .int .i64], objs := [], res := .st (.pair (.arr 9 (.int .i64)) (.pair (.int .i64) (.pair (.int .i64) .bool))), outs := [], fix := [], run := fun k ds os => Tell77 k ds.1 ds.2.1 ds.2.2 }
def Tell77.G : List Sig := [Do110.S, Find11.S, Fit104.S, Low70.S, cycles111.S, doing107.S, ended109.S]
theorem Tell77.eq (k : Nat) : ∀ ds os, Tell77.S.run k ds os = runF ⟨types, Tell77.G, Tell77.A, k, 0, []⟩ Tryz.f77 (codeOf Tryz.f77) Tell77.S.params Tell77.S.objs Tell77.S.res Tell77.S.outs ds os := by
  intro ds os; kernel_rfl
theorem Tell77.dr : DrOk Tryz.prog Tell77.A (codeOf Tryz.f77) := ⟨by kernel_rfl, by kernel_rfl⟩
theorem Tell77.ok (k : Nat) : SoundAt Tryz.prog k Tell77.S :=
  runF_sound (X := ⟨types, Tell77.G, Tell77.A, k, 0, []⟩) types_ok (mem_all (⟨Do110.ok k, ⟨Find11.ok k, ⟨Fit104.ok k, ⟨Low70.ok k, ⟨cycles111.ok k, ⟨doing107.ok k, ⟨ended109.ok k, trivial⟩⟩⟩⟩⟩⟩⟩)) (fn := Tryz.f77) (c := codeOf Tryz.f77) rfl (by kernel_rfl) rfl rfl Tell77.dr (Tell77.eq k)
end Go.Proofs.YtcppmlgnceldmaaGreat.Gf

/- Go functions as plain Lean functions, and their contracts. -/
set_option linter.unusedVariables false
set_option maxRecDepth 100000
noncomputable section
namespace Go.Proofs.YtcppmlgnceldmaaGreat.Gf
open Go Go.Proofs.YtcppmlgnceldmaaGreat.Gp
def Run38.l0 (k : Nat) : ((ByteArray × ((List (Int × (ByteArray × (Int × (List (Int × (Int × (Int × (List (Int × (Int × (Int × Int)))))))))))) × ((List (Int × (Int × (Int × (List (Int × (Int × (Int × Int)))))))) × ((List (Int × (Int × (Int × (List (Int × (Int × (Int × Int)))))))) × (List (Int × (Int × (Int × (List (Int × (Int × (Int × Int)))))))))))) × (Unit × (Unit × (Unit × (Int × ((List (Int × Int)) × (((List Int) × Unit) × (((List Int) × (Int × (Int × Bool))) × (List (Int × (Int × Int))))))))))) → Option (((ByteArray × ((List (Int × (ByteArray × (Int × (List (Int × (Int × (Int × (List (Int × (Int × (Int × Int)))))))))))) × ((List (Int × (Int × (Int × (List (Int × (Int × (Int × Int)))))))) × ((List (Int × (Int × (Int × (List (Int × (Int × (Int × Int)))))))) × (List (Int × (Int × (Int × (List (Int × (Int × (Int × Int)))))))))))) × (Unit × (Unit × (Unit × (Int × ((List (Int × Int)) × (((List Int) × Unit) × (((List Int) × (Int × (Int × Bool))) × (List (Int × (Int × Int))))))))))) ⊕ (Unit × (List (Int × (Int × Int)))))
  | (c_1, _, _, _, t20, o0, o1, o2, o6) =>
    cond (decide (t20 < 40))
      ((Ask74 k c_1 o2 false).bind fun t25 =>
      Option.bind
        (cond (t25.1.2.1.1 == 1)
          ((Read75 k () t25.1.2.1.2.1 (o1.1, ()) o0).bind fun t35 =>
          some (c_1, (), (), (), t25.1.1, (), t35.2.2, (t35.2.1.1, t35.2.1.2), o2, o6, t25.1.2.1.1, t25.1.2.1.2.1, t35.1))
          (Option.bind
            (cond (t25.1.2.1.1 == 2)
              ((Write76 k () t25.1.2.1.2.1 t25.1.2.1.2.2 (o1.1, ()) o0).bind fun t44 =>
              some (c_1, (), (), (), t25.1.1, (), t44.2.2, (t44.2.1.1, t44.2.1.2), o2, o6, t25.1.2.1))
              (some (c_1, (), (), (), t25.1.1, (), o0, o1, o2, o6, t25.1.2.1)) : Option ((ByteArray × ((List (Int × (ByteArray × (Int × (List (Int × (Int × (Int × (List (Int × (Int × (Int × Int)))))))))))) × ((List (Int × (Int × (Int × (List (Int × (Int × (Int × Int)))))))) × ((List (Int × (Int × (Int × (List (Int × (Int × (Int × Int)))))))) × (List (Int × (Int × (Int × (List (Int × (Int × (Int × Int)))))))))))) × (Unit × (Unit × (Unit × (((List Int) × (Int × (Int × Bool))) × (Unit × ((List (Int × Int)) × (((List Int) × Unit) × (((List Int) × (Int × (Int × Bool))) × ((List (Int × (Int × Int))) × (Int × (Int × Int))))))))))))) fun ((c_2, _, _, _, k0, _, o0_1, o1_1, o2_1, o6_1, o8) : ((ByteArray × ((List (Int × (ByteArray × (Int × (List (Int × (Int × (Int × (List (Int × (Int × (Int × Int)))))))))))) × ((List (Int × (Int × (Int × (List (Int × (Int × (Int × Int)))))))) × ((List (Int × (Int × (Int × (List (Int × (Int × (Int × Int)))))))) × (List (Int × (Int × (Int × (List (Int × (Int × (Int × Int)))))))))))) × (Unit × (Unit × (Unit × (((List Int) × (Int × (Int × Bool))) × (Unit × ((List (Int × Int)) × (((List Int) × Unit) × (((List Int) × (Int × (Int × Bool))) × ((List (Int × (Int × Int))) × (Int × (Int × Int))))))))))))) =>
          some (c_2, (), (), (), k0, (), o0_1, o1_1, o2_1, o6_1, o8)) : Option ((ByteArray × ((List (Int × (ByteArray × (Int × (List (Int × (Int × (Int × (List (Int × (Int × (Int × Int)))))))))))) × ((List (Int × (Int × (Int × (List (Int × (Int × (Int × Int)))))))) × ((List (Int × (Int × (Int × (List (Int × (Int × (Int × Int)))))))) × (List (Int × (Int × (Int × (List (Int × (Int × (Int × Int)))))))))))) × (Unit × (Unit × (Unit × (((List Int) × (Int × (Int × Bool))) × (Unit × ((List (Int × Int)) × (((List Int) × Unit) × (((List Int) × (Int × (Int × Bool))) × ((List (Int × (Int × Int))) × (Int × (Int × Int))))))))))))) fun ((c_3, _, _, _, k0_1, _, o0_2, o1_2, _, o6_2, o8_1) : ((ByteArray × ((List (Int × (ByteArray × (Int × (List (Int × (Int × (Int × (List (Int × (Int × (Int × Int)))))))))))) × ((List (Int × (Int × (Int × (List (Int × (Int × (Int × Int)))))))) × ((List (Int × (Int × (Int × (List (Int × (Int × (Int × Int)))))))) × (List (Int × (Int × (Int × (List (Int × (Int × (Int × Int)))))))))))) × (Unit × (Unit × (Unit × (((List Int) × (Int × (Int × Bool))) × (Unit × ((List (Int × Int)) × (((List Int) × Unit) × (((List Int) × (Int × (Int × Bool))) × ((List (Int × (Int × Int))) × (Int × (Int × Int))))))))))))) =>
      (Tell77 k c_3 k0_1 o8_1.2.2).bind fun t49 =>
      (if room (List.length o6_2 + List.length [o8_1]) 24 then some () else none).bind fun _ =>
      some (Sum.inl (c_3, (), (), (), (w64 (t20 + 1)), o0_2, o1_2, t49.1, (o6_2 ++ [o8_1]))))
      (some (Sum.inr ((), o6)))
def Run38 (k : Nat) (c : (ByteArray × ((List (Int × (ByteArray × (Int × (List (Int × (Int × (Int × (List (Int × (Int × (Int × Int)))))))))))) × ((List (Int × (Int × (Int × (List (Int × (Int × (Int × Int)))))))) × ((List (Int × (Int × (Int × (List (Int × (Int × (Int × Int)))))))) × (List (Int × (Int × (Int × (List (Int × (Int × (Int × Int))))))))))))) (t : ((List Int) × (List Int))) : Option ((List (Int × (Int × Int))) × Unit) :=
  (if 0 ≤ 7 ∧ 7 < 9 then some () else none).bind fun _ =>
  (rd t.2 7).bind fun _ =>
  Option.bind
    (loopN (Run38.l0 k) k (c, (), (), (), 0, ([] : (List (Int × Int))), (t.1, ()), ((List.set t.2 (Int.toNat 7) 512), (-1), 0, false), []) : Option (Unit × (List (Int × (Int × Int))))) fun ((_, o6_3) : (Unit × (List (Int × (Int × Int))))) =>
  some (o6_3, ())
def Run38.A : Ann := { conds := [(1966090, ⟨[(2, .fp (.st (.pair .str (.pair (.sl (.st (.pair (.int .i64) (.pair .str (.pair (.int .i64) (.sl (.st (.pair (.int .i64) (.pair (.int .i64) (.pair (.int .i64) (.sl (.st (.pair (.int .i64) (.pair (.int .i64) (.pair (.int .i64) (.int .i64)))))))))))))))) (.pair (.sl (.st (.pair (.int .i64) (.pair (.int .i64) (.pair (.int .i64) (.sl (.st (.pair (.int .i64) (.pair (.int .i64) (.pair (.int .i64) (.int .i64))))))))))) (.pair (.sl (.st (.pair (.int .i64) (.pair (.int .i64) (.pair (.int .i64) (.sl (.st (.pair (.int .i64) (.pair (.int .i64) (.pair (.int .i64) (.int .i64))))))))))) (.sl (.st (.pair (.int .i64) (.pair (.int .i64) (.pair (.int .i64) (.sl (.st (.pair (.int .i64) (.pair (.int .i64) (.pair (.int .i64) (.int .i64))))))))))))))))), (5, .ptr 1 []), (6, .ptr 2 []), (7, .ms 6), (8, .fp (.st (.pair (.arr 9 (.int .i64)) (.pair (.int .i64) (.pair (.int .i64) .bool))))), (9, .ptr 8 [])], [(0, .map (.int .i64) (.int .i64)), (1, .var (.st (.pair (.sl (.int .u8)) (.mm 0)))), (2, .var (.st (.pair (.arr 9 (.int .i64)) (.pair (.int .i64) (.pair (.int .i64) .bool))))), (6, .row (.st (.pair (.int .i64) (.pair (.int .i64) (.int .i64))))), (8, .var (.st (.pair (.int .i64) (.pair (.int .i64) (.int .i64)))))], 9, [], 35180077121536⟩), (2424844, ⟨[(2, .fp (.st (.pair .str (.pair (.sl (.st (.pair (.int .i64) (.pair .str (.pair (.int .i64) (.sl (.st (.pair (.int .i64) (.pair (.int .i64) (.pair (.int .i64) (.sl (.st (.pair (.int .i64) (.pair (.int .i64) (.pair (.int .i64) (.int .i64)))))))))))))))) (.pair (.sl (.st (.pair (.int .i64) (.pair (.int .i64) (.pair (.int .i64) (.sl (.st (.pair (.int .i64) (.pair (.int .i64) (.pair (.int .i64) (.int .i64))))))))))) (.pair (.sl (.st (.pair (.int .i64) (.pair (.int .i64) (.pair (.int .i64) (.sl (.st (.pair (.int .i64) (.pair (.int .i64) (.pair (.int .i64) (.int .i64))))))))))) (.sl (.st (.pair (.int .i64) (.pair (.int .i64) (.pair (.int .i64) (.sl (.st (.pair (.int .i64) (.pair (.int .i64) (.pair (.int .i64) (.int .i64))))))))))))))))), (5, .ptr 1 []), (6, .ptr 2 []), (7, .ms 6), (8, .fp (.st (.pair (.arr 9 (.int .i64)) (.pair (.int .i64) (.pair (.int .i64) .bool))))), (9, .ptr 8 [])], [(0, .map (.int .i64) (.int .i64)), (1, .var (.st (.pair (.sl (.int .u8)) (.mm 0)))), (2, .var (.st (.pair (.arr 9 (.int .i64)) (.pair (.int .i64) (.pair (.int .i64) .bool))))), (6, .row (.st (.pair (.int .i64) (.pair (.int .i64) (.int .i64))))), (8, .var (.st (.pair (.int .i64) (.pair (.int .i64) (.int .i64)))))], 9, [], 34634616274944⟩)], blocks := [(0, ⟨[(7, .ms 6)], [(6, .row (.st (.pair (.int .i64) (.pair (.int .i64) (.int .i64)))))], 7, [], 36028797017916288⟩)], loops := [(6, ⟨[(2, .fp (.st (.pair .str (.pair (.sl (.st (.pair (.int .i64) (.pair .str (.pair (.int .i64) (.sl (.st (.pair (.int .i64) (.pair (.int .i64) (.pair (.int .i64) (.sl (.st (.pair (.int .i64) (.pair (.int .i64) (.pair (.int .i64) (.int .i64)))))))))))))))) (.pair (.sl (.st (.pair (.int .i64) (.pair (.int .i64) (.pair (.int .i64) (.sl (.st (.pair (.int .i64) (.pair (.int .i64) (.pair (.int .i64) (.int .i64))))))))))) (.pair (.sl (.st (.pair (.int .i64) (.pair (.int .i64) (.pair (.int .i64) (.sl (.st (.pair (.int .i64) (.pair (.int .i64) (.pair (.int .i64) (.int .i64))))))))))) (.sl (.st (.pair (.int .i64) (.pair (.int .i64) (.pair (.int .i64) (.sl (.st (.pair (.int .i64) (.pair (.int .i64) (.pair (.int .i64) (.int .i64))))))))))))))))), (5, .ptr 1 []), (6, .ptr 2 []), (7, .ms 6), (20, .int .i64)], [(0, .map (.int .i64) (.int .i64)), (1, .var (.st (.pair (.sl (.int .u8)) (.mm 0)))), (2, .var (.st (.pair (.arr 9 (.int .i64)) (.pair (.int .i64) (.pair (.int .i64) .bool))))), (6, .row (.st (.pair (.int .i64) (.pair (.int .i64) (.int .i64)))))], 7, [(6, .st (.pair (.int .i64) (.pair (.int .i64) (.int .i64))))], 36028797017916288⟩)], keeps := [2, 3, 8], orders := [] }
def Run38.S : Sig := { f := 38, params := [.st (.pair .str (.pair (.sl (.st (.pair (.int .i64) (.pair .str (.pair (.int .i64) (.sl (.st (.pair (.int .i64) (.pair (.int .i64) (.pair (.int .i64) (.sl (.st (.pair (.int .i64) (.pair (.int .i64) (.pair (.int .i64) (.int .i64)))))))))))))))) (.pair (.sl (.st (.pair (.int .i64) (.pair (.int .i64) (.pair (.int .i64) (.sl (.st (.pair (.int .i64) (.pair (.int .i64) (.pair (.int .i64) (.int .i64))))))))))) (.pair (.sl (.st (.pair (.int .i64) (.pair (.int .i64) (.pair (.int .i64) (.sl (.st (.pair (.int .i64) (.pair (.int .i64) (.pair (.int .i64) (.int .i64))))))))))) (.sl (.st (.pair (.int .i64) (.pair (.int .i64) (.pair (.int .i64) (.sl (.st (.pair (.int .i64) (.pair (.int .i64) (.pair (.int .i64) (.int .i64))))))))))))))), .st (.pair (.sl (.int .u8)) (.arr 9 (.int .i64)))], objs := [], res := .sl (.st (.pair (.int .i64) (.pair (.int .i64) (.int .i64)))), outs := [], fix := [], run := fun k ds os => Run38 k ds.1 ds.2 }
def Run38.G : List Sig := [Ask74.S, Read75.S, Tell77.S, Write76.S]
theorem Run38.eq (k : Nat) : ∀ ds os, Run38.S.run k ds os = runF ⟨types, Run38.G, Run38.A, k, 0, []⟩ Tryz.f38 (codeOf Tryz.f38) Run38.S.params Run38.S.objs Run38.S.res Run38.S.outs ds os := by
  intro ds os; kernel_rfl
theorem Run38.dr : DrOk Tryz.prog Run38.A (codeOf Tryz.f38) := ⟨by kernel_rfl, by kernel_rfl⟩
theorem Run38.ok (k : Nat) : SoundAt Tryz.prog k Run38.S :=
  runF_sound (X := ⟨types, Run38.G, Run38.A, k, 0, []⟩) types_ok (mem_all (⟨Ask74.ok k, ⟨Read75.ok k, ⟨Tell77.ok k, ⟨Write76.ok k, trivial⟩⟩⟩⟩)) (fn := Tryz.f38) (c := codeOf Tryz.f38) rfl (by kernel_rfl) rfl rfl Run38.dr (Run38.eq k)

def Tells31.l0 (k : Nat) (t12 : ((List (Int × (Int × Int))) × Unit)) (t15 : ((List (Int × (Int × Int))) × Unit)) : Int → Option (Int ⊕ (Unit ⊕ (Int × Unit)))
  | t18 =>
    cond (decide (t18 < (List.length t12.1 : Int)))
      ((rd t12.1 t18).bind fun t23 =>
      (rd t15.1 t18).bind fun t27 =>
      cond (xor true (eqB (.st (.pair (.int .i64) (.pair (.int .i64) (.int .i64)))) t23 t27))
        (some (Sum.inr (Sum.inr (t18, ()))))
        (some (Sum.inl (w64 (t18 + 1)))))
      (some (Sum.inr (Sum.inl ())))
def Tells31 (k : Nat) (a : (ByteArray × ((List (Int × (ByteArray × (Int × (List (Int × (Int × (Int × (List (Int × (Int × (Int × Int)))))))))))) × ((List (Int × (Int × (Int × (List (Int × (Int × (Int × Int)))))))) × ((List (Int × (Int × (Int × (List (Int × (Int × (Int × Int)))))))) × (List (Int × (Int × (Int × (List (Int × (Int × (Int × Int))))))))))))) (b : (ByteArray × ((List (Int × (ByteArray × (Int × (List (Int × (Int × (Int × (List (Int × (Int × (Int × Int)))))))))))) × ((List (Int × (Int × (Int × (List (Int × (Int × (Int × Int)))))))) × ((List (Int × (Int × (Int × (List (Int × (Int × (Int × Int)))))))) × (List (Int × (Int × (Int × (List (Int × (Int × (Int × Int))))))))))))) (t : ((List Int) × (List Int))) : Option (Int × Unit) :=
  (Run38 k a t).bind fun t12 =>
  (Run38 k b t).bind fun t15 =>
  Option.bind
    (loopN (Tells31.l0 k t12 t15) k 0 : Option (Unit ⊕ (Int × Unit))) (joined fun (_ : Unit) =>
    some ((-1), ()))
def Tells31.A : Ann := { conds := [], blocks := [(0, ⟨[], [], 0, [], 4294705728⟩)], loops := [(3, ⟨[(18, .int .i64)], [], 0, [], 4294705728⟩)], keeps := [3, 4, 5], orders := [(1, [(0, .strong), (1, .strong), (3, .strong), (4, .strong), (2, .eff true), (5, .eff true), (6, .strong), (7, .strong)]), (5, [(0, .strong), (1, .strong), (2, .strong), (3, .strong), (4, .strong), (5, .strong), (6, .strong), (7, .strong), (8, .strong)])] }
def Tells31.S : Sig := { f := 31, params := [.st (.pair .str (.pair (.sl (.st (.pair (.int .i64) (.pair .str (.pair (.int .i64) (.sl (.st (.pair (.int .i64) (.pair (.int .i64) (.pair (.int .i64) (.sl (.st (.pair (.int .i64) (.pair (.int .i64) (.pair (.int .i64) (.int .i64)))))))))))))))) (.pair (.sl (.st (.pair (.int .i64) (.pair (.int .i64) (.pair (.int .i64) (.sl (.st (.pair (.int .i64) (.pair (.int .i64) (.pair (.int .i64) (.int .i64))))))))))) (.pair (.sl (.st (.pair (.int .i64) (.pair (.int .i64) (.pair (.int .i64) (.sl (.st (.pair (.int .i64) (.pair (.int .i64) (.pair (.int .i64) (.int .i64))))))))))) (.sl (.st (.pair (.int .i64) (.pair (.int .i64) (.pair (.int .i64) (.sl (.st (.pair (.int .i64) (.pair (.int .i64) (.pair (.int .i64) (.int .i64))))))))))))))), .st (.pair .str (.pair (.sl (.st (.pair (.int .i64) (.pair .str (.pair (.int .i64) (.sl (.st (.pair (.int .i64) (.pair (.int .i64) (.pair (.int .i64) (.sl (.st (.pair (.int .i64) (.pair (.int .i64) (.pair (.int .i64) (.int .i64)))))))))))))))) (.pair (.sl (.st (.pair (.int .i64) (.pair (.int .i64) (.pair (.int .i64) (.sl (.st (.pair (.int .i64) (.pair (.int .i64) (.pair (.int .i64) (.int .i64))))))))))) (.pair (.sl (.st (.pair (.int .i64) (.pair (.int .i64) (.pair (.int .i64) (.sl (.st (.pair (.int .i64) (.pair (.int .i64) (.pair (.int .i64) (.int .i64))))))))))) (.sl (.st (.pair (.int .i64) (.pair (.int .i64) (.pair (.int .i64) (.sl (.st (.pair (.int .i64) (.pair (.int .i64) (.pair (.int .i64) (.int .i64))))))))))))))), .st (.pair (.sl (.int .u8)) (.arr 9 (.int .i64)))], objs := [], res := .int .i64, outs := [], fix := [], run := fun k ds os => Tells31 k ds.1 ds.2.1 ds.2.2 }
def Tells31.G : List Sig := [Run38.S]
theorem Tells31.eq (k : Nat) : ∀ ds os, Tells31.S.run k ds os = runF ⟨types, Tells31.G, Tells31.A, k, 0, []⟩ Tryz.f31 (codeOf Tryz.f31) Tells31.S.params Tells31.S.objs Tells31.S.res Tells31.S.outs ds os := by
  intro ds os; kernel_rfl
theorem Tells31.dr : DrOk Tryz.prog Tells31.A (codeOf Tryz.f31) := ⟨by kernel_rfl, by kernel_rfl⟩
theorem Tells31.ok (k : Nat) : SoundAt Tryz.prog k Tells31.S :=
  runF_sound (X := ⟨types, Tells31.G, Tells31.A, k, 0, []⟩) types_ok (mem_all (⟨Run38.ok k, trivial⟩)) (fn := Tryz.f31) (c := codeOf Tryz.f31) rfl (by kernel_rfl) rfl rfl Tells31.dr (Tells31.eq k)
end Go.Proofs.YtcppmlgnceldmaaGreat.Gf
