/- Merged texts of one claim: a Go law, its functions without memory, and the plain law. The law returns true for every input; conditions: as the row says. -/
import Derived.Shelf.Sort.Plain
import Derived.Shelf.Slices.In.SortNone
import Derived.Shelf.Slices.CompactI
import Derived.Test.YtcppmlgnceldmaaGreatProg
import Derived.Test.YtcppmlgnceldmaaGreatChecked
import Derived.KernelRfl
import Derived.Test.YtcppmlgnceldmaaGreatCTm0
import Derived.Test.YtcppmlgnceldmaaGreatCTm1
import Derived.Test.YtcppmlgnceldmaaGreatCTm2
/- Go functions as plain Lean functions, and their contracts. -/
set_option linter.unusedVariables false
set_option maxRecDepth 100000
noncomputable section
namespace Go.Proofs.YtcppmlgnceldmaaGreat.Fl
open Go Go.Proofs.YtcppmlgnceldmaaGreat.Gp
def Name32.l0 (k : Nat) (s : ByteArray) : (Unit × (Int × tY115)) → Option ((Unit × (Int × tY115)) ⊕ tY106)
  | (_, t25, o0) =>
    cond (decide (t25 < (List.length (bytesOf s) : Int)))
      ((rd o0 t25).bind fun _ =>
      (rd o0 t25).bind fun t28 =>
      cond (!(cond (cond (cond (decide (t28 ≥ 97)) (decide (t28 ≤ 122)) false) true (cond (decide (t28 ≥ 48)) (decide (t28 ≤ 57)) false)) true (t28 == 45)))
        (some (Sum.inr (Sum.inr (false, ()))))
        (some (Sum.inl ((), (w64 (t25 + 1)), o0))))
      (some (Sum.inr (Sum.inl ())))
def Name32 (k : Nat) (s : ByteArray) : Option tY112 :=
  Option.bind (cond (cond (streq s (ByteArray.mk #[])) true (decide ((ByteArray.size s : Int) > 20)))
    (some true)
    ((rd (bytesOf s) 0).bind fun t14 =>
    some (decide (t14 < 97)))) fun t16 =>
  Option.bind (cond t16
    (some true)
    ((rd (bytesOf s) 0).bind fun t19 =>
    some (decide (t19 > 122)))) fun t21 =>
  cond t21
    (some (false, ()))
    (Option.bind
      (loopN (Name32.l0 k s) k ((), 0, (bytesOf s)) : Option tY106) (joined fun (_ : Unit) =>
      some (true, ())))
def Name32.A : Ann := { conds := [], blocks := [(0, ⟨[], [], 0, [], 562949919866900⟩)], loops := [(4, ⟨[(23, .ms 0), (25, .int .i64)], [(0, .row kY52)], 1, [], 562949919866900⟩)], keeps := [], orders := [] }
def Name32.S : Sig := { f := 32, params := [.str], objs := [], res := .bool, outs := [], fix := [], run := fun k ds os => Name32 k ds }
def Name32.G : List Sig := []
theorem Name32.eq (k : Nat) : ∀ ds os, Name32.S.run k ds os = runF ⟨types, Name32.G, Name32.A, k, 0, []⟩ Tryz.f32 (codeOf Tryz.f32) Name32.S.params Name32.S.objs Name32.S.res Name32.S.outs ds os := by
  intro ds os; kernel_rfl
theorem Name32.dr : DrOk Tryz.prog Name32.A (codeOf Tryz.f32) := ⟨by kernel_rfl, by kernel_rfl⟩
theorem Name32.ok (k : Nat) : SoundAt Tryz.prog k Name32.S :=
  runF_sound (X := ⟨types, Name32.G, Name32.A, k, 0, []⟩) types_ok (fun s hs => absurd hs List.not_mem_nil) (fn := Tryz.f32) (c := codeOf Tryz.f32) rfl (by kernel_rfl) rfl rfl Name32.dr (Name32.eq k)

def Size33 (k : Nat) (mode : Int) : Option tY113 :=
  cond (mode == 0)
    (some (0, ()))
    (Option.bind
      (cond (mode == 4)
        (some (mode == 4))
        (Option.bind
          (cond (mode == 5)
            (some (mode == 5))
            (some (mode == 6)) : Option Bool) fun (t6 : Bool) =>
        some t6) : Option Bool) fun (t6_1 : Bool) =>
    cond t6_1
      (some (2, ()))
      (Option.bind
        (cond (mode == 1)
          (some (mode == 1))
          (Option.bind
            (cond (mode == 2)
              (some (mode == 2))
              (Option.bind
                (cond (mode == 3)
                  (some (mode == 3))
                  (Option.bind
                    (cond (mode == 7)
                      (some (mode == 7))
                      (some (mode == 8)) : Option Bool) fun (t10 : Bool) =>
                  some t10) : Option Bool) fun (t10_1 : Bool) =>
              some t10_1) : Option Bool) fun (t10_2 : Bool) =>
          some t10_2) : Option Bool) fun (t10_3 : Bool) =>
      cond t10_3
        (some (1, ()))
        (some ((-1), ()))))
def Size33.A : Ann := { conds := [(393221, ⟨[(6, .bool)], [], 0, [], 832⟩), (393222, ⟨[(6, .bool)], [], 0, [], 576⟩), (655369, ⟨[(10, .bool)], [], 0, [], 62464⟩), (655370, ⟨[(10, .bool)], [], 0, [], 58368⟩), (655371, ⟨[(10, .bool)], [], 0, [], 50176⟩), (655372, ⟨[(10, .bool)], [], 0, [], 33792⟩)], blocks := [], loops := [], keeps := [], orders := [] }
def Size33.S : Sig := { f := 33, params := [.int .i64], objs := [], res := .int .i64, outs := [], fix := [], run := fun k ds os => Size33 k ds }
def Size33.G : List Sig := []
theorem Size33.eq (k : Nat) : ∀ ds os, Size33.S.run k ds os = runF ⟨types, Size33.G, Size33.A, k, 0, []⟩ Tryz.f33 (codeOf Tryz.f33) Size33.S.params Size33.S.objs Size33.S.res Size33.S.outs ds os := by
  intro ds os; kernel_rfl
theorem Size33.dr : DrOk Tryz.prog Size33.A (codeOf Tryz.f33) := ⟨by kernel_rfl, by kernel_rfl⟩
theorem Size33.ok (k : Nat) : SoundAt Tryz.prog k Size33.S :=
  runF_sound (X := ⟨types, Size33.G, Size33.A, k, 0, []⟩) types_ok (fun s hs => absurd hs List.not_mem_nil) (fn := Tryz.f33) (c := codeOf Tryz.f33) rfl (by kernel_rfl) rfl rfl Size33.dr (Size33.eq k)

def Check135 (k : Nat) (y : tY61) (t1 : tY61) : Option tY112 :=
  some ((cond (streq y.2.1 t1.2.1) (y.2.2.1 == t1.2.2.1) false), ())
def Check135.A : Ann := { conds := [], blocks := [], loops := [], keeps := [2], orders := [] }
def Check135.S : Sig := { f := 35, params := [.st kY9, .fp kY8], objs := [], res := .bool, outs := [], fix := [], run := fun k ds os => Check135 k ds.1 ds.2 }
def Check135.G : List Sig := []
theorem Check135.eq (k : Nat) : ∀ ds os, Check135.S.run k ds os = runF ⟨types, Check135.G, Check135.A, k, 0, []⟩ Tryz.f35 (codeOf Tryz.f35) Check135.S.params Check135.S.objs Check135.S.res Check135.S.outs ds os := by
  intro ds os; kernel_rfl
theorem Check135.dr : DrOk Tryz.prog Check135.A (codeOf Tryz.f35) := ⟨by kernel_rfl, by kernel_rfl⟩
theorem Check135.ok (k : Nat) : SoundAt Tryz.prog k Check135.S :=
  runF_sound (X := ⟨types, Check135.G, Check135.A, k, 0, []⟩) types_ok (fun s hs => absurd hs List.not_mem_nil) (fn := Tryz.f35) (c := codeOf Tryz.f35) rfl (by kernel_rfl) rfl rfl Check135.dr (Check135.eq k)

def IndexFunc42.l0 (k : Nat) (s : tY57) : tY51 → Option (tY51 ⊕ tY107)
  | (f_1, t8) =>
    cond (decide (t8 < (List.length s : Int)))
      ((rd s t8).bind fun t14 =>
      (Check135 k t14 f_1.1).bind fun t16 =>
      cond t16.1
        (some (Sum.inr (Sum.inr (t8, ()))))
        (some (Sum.inl (f_1, (w64 (t8 + 1))))))
      (some (Sum.inr (Sum.inl ())))
def IndexFunc42 (k : Nat) (s : tY57) (f : tY55) : Option tY113 :=
  Option.bind
    (loopN (IndexFunc42.l0 k s) k (f, 0) : Option tY107) (joined fun (_ : Unit) =>
    some ((-1), ()))
def IndexFunc42.A : Ann := { conds := [], blocks := [(0, ⟨[], [], 0, [], 524080⟩)], loops := [(2, ⟨[(1, .fn 35 kY7), (8, .int .i64)], [], 0, [], 524080⟩)], keeps := [], orders := [] }
def IndexFunc42.S : Sig := { f := 42, params := [.sl kY8, .fn 35 kY7], objs := [], res := .int .i64, outs := [], fix := [], run := fun k ds os => IndexFunc42 k ds.1 ds.2 }
def IndexFunc42.G : List Sig := [Check135.S]
theorem IndexFunc42.eq (k : Nat) : ∀ ds os, IndexFunc42.S.run k ds os = runF ⟨types, IndexFunc42.G, IndexFunc42.A, k, 0, []⟩ Tryz.f42 (codeOf Tryz.f42) IndexFunc42.S.params IndexFunc42.S.objs IndexFunc42.S.res IndexFunc42.S.outs ds os := by
  intro ds os; kernel_rfl
theorem IndexFunc42.dr : DrOk Tryz.prog IndexFunc42.A (codeOf Tryz.f42) := ⟨by kernel_rfl, by kernel_rfl⟩
theorem IndexFunc42.ok (k : Nat) : SoundAt Tryz.prog k IndexFunc42.S :=
  runF_sound (X := ⟨types, IndexFunc42.G, IndexFunc42.A, k, 0, []⟩) types_ok (mem_all (⟨Check135.ok k, trivial⟩)) (fn := Tryz.f42) (c := codeOf Tryz.f42) rfl (by kernel_rfl) rfl rfl IndexFunc42.dr (IndexFunc42.eq k)

def ContainsFunc34 (k : Nat) (s : tY57) (f : tY55) : Option tY112 :=
  (IndexFunc42 k s f).bind fun t7 =>
  some ((decide (t7.1 ≥ 0)), ())
def ContainsFunc34.A : Ann := { conds := [], blocks := [], loops := [], keeps := [], orders := [] }
def ContainsFunc34.S : Sig := { f := 34, params := [.sl kY8, .fn 35 kY7], objs := [], res := .bool, outs := [], fix := [], run := fun k ds os => ContainsFunc34 k ds.1 ds.2 }
def ContainsFunc34.G : List Sig := [IndexFunc42.S]
theorem ContainsFunc34.eq (k : Nat) : ∀ ds os, ContainsFunc34.S.run k ds os = runF ⟨types, ContainsFunc34.G, ContainsFunc34.A, k, 0, []⟩ Tryz.f34 (codeOf Tryz.f34) ContainsFunc34.S.params ContainsFunc34.S.objs ContainsFunc34.S.res ContainsFunc34.S.outs ds os := by
  intro ds os; kernel_rfl
theorem ContainsFunc34.dr : DrOk Tryz.prog ContainsFunc34.A (codeOf Tryz.f34) := ⟨by kernel_rfl, by kernel_rfl⟩
theorem ContainsFunc34.ok (k : Nat) : SoundAt Tryz.prog k ContainsFunc34.S :=
  runF_sound (X := ⟨types, ContainsFunc34.G, ContainsFunc34.A, k, 0, []⟩) types_ok (mem_all (⟨IndexFunc42.ok k, trivial⟩)) (fn := Tryz.f34) (c := codeOf Tryz.f34) rfl (by kernel_rfl) rfl rfl ContainsFunc34.dr (ContainsFunc34.eq k)

def register101 (k : Nat) (reg : Int) : Option tY112 :=
  some ((cond (decide (reg ≥ 0)) (decide (reg < 9)) false), ())
def register101.A : Ann := { conds := [], blocks := [], loops := [], keeps := [], orders := [] }
def register101.S : Sig := { f := 101, params := [.int .i64], objs := [], res := .bool, outs := [], fix := [], run := fun k ds os => register101 k ds }
def register101.G : List Sig := []
theorem register101.eq (k : Nat) : ∀ ds os, register101.S.run k ds os = runF ⟨types, register101.G, register101.A, k, 0, []⟩ Tryz.f101 (codeOf Tryz.f101) register101.S.params register101.S.objs register101.S.res register101.S.outs ds os := by
  intro ds os; kernel_rfl
theorem register101.dr : DrOk Tryz.prog register101.A (codeOf Tryz.f101) := ⟨by kernel_rfl, by kernel_rfl⟩
theorem register101.ok (k : Nat) : SoundAt Tryz.prog k register101.S :=
  runF_sound (X := ⟨types, register101.G, register101.A, k, 0, []⟩) types_ok (fun s hs => absurd hs List.not_mem_nil) (fn := Tryz.f101) (c := codeOf Tryz.f101) rfl (by kernel_rfl) rfl rfl register101.dr (register101.eq k)

def Wide102 (k : Nat) (reg : Int) : Option tY112 :=
  some ((cond (reg == 7) true (reg == 8)), ())
def Wide102.A : Ann := { conds := [], blocks := [], loops := [], keeps := [], orders := [] }
def Wide102.S : Sig := { f := 102, params := [.int .i64], objs := [], res := .bool, outs := [], fix := [], run := fun k ds os => Wide102 k ds }
def Wide102.G : List Sig := []
theorem Wide102.eq (k : Nat) : ∀ ds os, Wide102.S.run k ds os = runF ⟨types, Wide102.G, Wide102.A, k, 0, []⟩ Tryz.f102 (codeOf Tryz.f102) Wide102.S.params Wide102.S.objs Wide102.S.res Wide102.S.outs ds os := by
  intro ds os; kernel_rfl
theorem Wide102.dr : DrOk Tryz.prog Wide102.A (codeOf Tryz.f102) := ⟨by kernel_rfl, by kernel_rfl⟩
theorem Wide102.ok (k : Nat) : SoundAt Tryz.prog k Wide102.S :=
  runF_sound (X := ⟨types, Wide102.G, Wide102.A, k, 0, []⟩) types_ok (fun s hs => absurd hs List.not_mem_nil) (fn := Tryz.f102) (c := codeOf Tryz.f102) rfl (by kernel_rfl) rfl rfl Wide102.dr (Wide102.eq k)
end Go.Proofs.YtcppmlgnceldmaaGreat.Fl

/- Go functions as plain Lean functions, and their contracts. -/
set_option linter.unusedVariables false
set_option maxRecDepth 100000
noncomputable section
namespace Go.Proofs.YtcppmlgnceldmaaGreat.Fl
open Go Go.Proofs.YtcppmlgnceldmaaGreat.Gp
def uses138 (k : Nat) (do_ : Int) : Option ((Int × (Int × tY112)) × Unit) :=
  cond (do_ == 1)
    (some ((115, 115, false, ()), ()))
    (cond (do_ == 2)
      (some ((97, 0, true, ()), ()))
      (Option.bind
        (cond (do_ == 3)
          (some (do_ == 3))
          (Option.bind
            (cond (do_ == 12)
              (some (do_ == 12))
              (Option.bind
                (cond (do_ == 13)
                  (some (do_ == 13))
                  (Option.bind
                    (cond (do_ == 14)
                      (some (do_ == 14))
                      (some (do_ == 15)) : Option Bool) fun (t10 : Bool) =>
                  some t10) : Option Bool) fun (t10_1 : Bool) =>
              some t10_1) : Option Bool) fun (t10_2 : Bool) =>
          some t10_2) : Option Bool) fun (t10_3 : Bool) =>
      cond t10_3
        (some ((98, 0, false, ()), ()))
        (Option.bind
          (cond (do_ == 4)
            (some (do_ == 4))
            (Option.bind
              (cond (do_ == 5)
                (some (do_ == 5))
                (Option.bind
                  (cond (do_ == 6)
                    (some (do_ == 6))
                    (Option.bind
                      (cond (do_ == 7)
                        (some (do_ == 7))
                        (Option.bind
                          (cond (do_ == 8)
                            (some (do_ == 8))
                            (some (do_ == 9)) : Option Bool) fun (t16 : Bool) =>
                        some t16) : Option Bool) fun (t16_1 : Bool) =>
                    some t16_1) : Option Bool) fun (t16_2 : Bool) =>
                some t16_2) : Option Bool) fun (t16_3 : Bool) =>
            some t16_3) : Option Bool) fun (t16_4 : Bool) =>
        cond t16_4
          (some ((98, 98, false, ()), ()))
          (Option.bind
            (cond (do_ == 10)
              (some (do_ == 10))
              (some (do_ == 11)) : Option Bool) fun (t23 : Bool) =>
          cond t23
            (some ((97, 0, false, ()), ()))
            (Option.bind
              (cond (do_ == 16)
                (some (do_ == 16))
                (some (do_ == 17)) : Option Bool) fun (t26 : Bool) =>
            cond t26
              (some ((0, 0, true, ()), ()))
              (Option.bind
                (cond (do_ == 18)
                  (some (do_ == 18))
                  (Option.bind
                    (cond (do_ == 19)
                      (some (do_ == 19))
                      (Option.bind
                        (cond (do_ == 22)
                          (some (do_ == 22))
                          (some (do_ == 23)) : Option Bool) fun (t29 : Bool) =>
                      some t29) : Option Bool) fun (t29_1 : Bool) =>
                  some t29_1) : Option Bool) fun (t29_2 : Bool) =>
              cond t29_2
                (some ((119, 98, false, ()), ()))
                (Option.bind
                  (cond (do_ == 20)
                    (some (do_ == 20))
                    (some (do_ == 21)) : Option Bool) fun (t34 : Bool) =>
                cond t34
                  (some ((98, 119, false, ()), ()))
                  (some ((0, 0, false, ()), ())))))))))
def uses138.A : Ann := { conds := [(655367, ⟨[(10, .bool)], [], 0, [], 62464⟩), (655368, ⟨[(10, .bool)], [], 0, [], 58368⟩), (655369, ⟨[(10, .bool)], [], 0, [], 50176⟩), (655370, ⟨[(10, .bool)], [], 0, [], 33792⟩), (1048589, ⟨[(16, .bool)], [], 0, [], 8192000⟩), (1048590, ⟨[(16, .bool)], [], 0, [], 7929856⟩), (1048591, ⟨[(16, .bool)], [], 0, [], 7405568⟩), (1048592, ⟨[(16, .bool)], [], 0, [], 6356992⟩), (1048593, ⟨[(16, .bool)], [], 0, [], 4259840⟩), (1507348, ⟨[(23, .bool)], [], 0, [], 41943040⟩), (1703959, ⟨[(26, .bool)], [], 0, [], 335544320⟩), (1900570, ⟨[(29, .bool)], [], 0, [], 15569256448⟩), (1900571, ⟨[(29, .bool)], [], 0, [], 13421772800⟩), (1900572, ⟨[(29, .bool)], [], 0, [], 9126805504⟩), (2228255, ⟨[(34, .bool)], [], 0, [], 85899345920⟩)], blocks := [], loops := [], keeps := [], orders := [] }
def uses138.S : Sig := { f := 138, params := [.int .i64], objs := [], res := .tup (.pair kY52 (.pair kY52 (.pair .bool .unit))), outs := [], fix := [], run := fun k ds os => uses138 k ds }
def uses138.G : List Sig := []
theorem uses138.eq (k : Nat) : ∀ ds os, uses138.S.run k ds os = runF ⟨types, uses138.G, uses138.A, k, 0, []⟩ Tryz.f138 (codeOf Tryz.f138) uses138.S.params uses138.S.objs uses138.S.res uses138.S.outs ds os := by
  intro ds os; kernel_rfl
theorem uses138.dr : DrOk Tryz.prog uses138.A (codeOf Tryz.f138) := ⟨by kernel_rfl, by kernel_rfl⟩
theorem uses138.ok (k : Nat) : SoundAt Tryz.prog k uses138.S :=
  runF_sound (X := ⟨types, uses138.G, uses138.A, k, 0, []⟩) types_ok (fun s hs => absurd hs List.not_mem_nil) (fn := Tryz.f138) (c := codeOf Tryz.f138) rfl (by kernel_rfl) rfl rfl uses138.dr (uses138.eq k)

def fits139 (k : Nat) (reg : Int) (need : Int) : Option tY112 :=
  cond (need == 0)
    (some ((reg == 0), ()))
    (cond (need == 119)
      ((register101 k reg).bind fun t13 =>
      Option.bind (cond t13.1
        ((Wide102 k reg).bind fun t16 =>
        some t16.1)
        (some false)) fun t17 =>
      some (t17, ()))
      (cond (need == 98)
        ((register101 k reg).bind fun t21 =>
        Option.bind (cond t21.1
          ((Wide102 k reg).bind fun t24 =>
          some (!t24.1))
          (some false)) fun t26 =>
        some (t26, ()))
        ((register101 k reg).bind fun t28 =>
        some (t28.1, ()))))
def fits139.A : Ann := { conds := [], blocks := [], loops := [], keeps := [], orders := [] }
def fits139.S : Sig := { f := 139, params := [.int .i64, .int .u8], objs := [], res := .bool, outs := [], fix := [], run := fun k ds os => fits139 k ds.1 ds.2 }
def fits139.G : List Sig := [Wide102.S, register101.S]
theorem fits139.eq (k : Nat) : ∀ ds os, fits139.S.run k ds os = runF ⟨types, fits139.G, fits139.A, k, 0, []⟩ Tryz.f139 (codeOf Tryz.f139) fits139.S.params fits139.S.objs fits139.S.res fits139.S.outs ds os := by
  intro ds os; kernel_rfl
theorem fits139.dr : DrOk Tryz.prog fits139.A (codeOf Tryz.f139) := ⟨by kernel_rfl, by kernel_rfl⟩
theorem fits139.ok (k : Nat) : SoundAt Tryz.prog k fits139.S :=
  runF_sound (X := ⟨types, fits139.G, fits139.A, k, 0, []⟩) types_ok (mem_all (⟨Wide102.ok k, ⟨register101.ok k, trivial⟩⟩)) (fn := Tryz.f139) (c := codeOf Tryz.f139) rfl (by kernel_rfl) rfl rfl fits139.dr (fits139.eq k)

def step103 (k : Nat) (s : tY104) : Option tY113 :=
  cond (cond (decide (s.1 < 0)) true (decide (s.1 ≥ 25)))
    (some (8, ()))
    (cond (s.1 == 24)
      (cond (cond (cond (cond (cond (s.2.1 != 0) true (decide (s.2.2.1 < 0))) true (decide (s.2.2.1 > 1))) true (decide (s.2.2.2 < 0))) true (decide (s.2.2.2 > 255)))
        (some (1, ()))
        (some (0, ())))
      ((uses138 k s.1).bind fun t44 =>
      Option.bind (cond (s.1 == 2)
        ((register101 k s.2.1).bind fun t54 =>
        some t54.1)
        (some false)) fun t55 =>
      Option.bind (cond t55
        ((Wide102 k s.2.1).bind fun t59 =>
        some t59.1)
        (some false)) fun t60 =>
      Option.bind
        (cond t60
          (some (s, 65535))
          (some (s, 255)) : Option tY98) fun ((s_1, most) : tY98) =>
      Option.bind
        (cond (!t44.1.2.2.1)
          (some (s_1, 0))
          (some (s_1, most)) : Option tY98) fun ((s_2, most_1) : tY98) =>
      (fits139 k s_2.2.1 t44.1.1).bind fun t66 =>
      Option.bind (cond (!t66.1)
        (some true)
        ((fits139 k s_2.2.2.1 t44.1.2.1).bind fun t72 =>
        some (!t72.1))) fun t74 =>
      Option.bind (cond t74
        (some true)
        (Option.bind (cond (t44.1.1 == 115)
          ((Wide102 k s_2.2.1).bind fun t81 =>
          (Wide102 k s_2.2.2.1).bind fun t84 =>
          some (xor true (t81.1 == t84.1)))
          (some false)) fun t86 =>
        some t86)) fun t87 =>
      cond (cond (cond t87 true (decide (s_2.2.2.2 < 0))) true (decide (s_2.2.2.2 > most_1)))
        (some (1, ()))
        (some (0, ()))))
def step103.A : Ann := { conds := [(3932170, ⟨[(1, .fp kY25), (6, .int .i64)], [], 0, [], 64⟩), (4063244, ⟨[(1, .fp kY25), (6, .int .i64)], [], 0, [], 64⟩)], blocks := [], loops := [], keeps := [1], orders := [(13, [(0, .strong), (1, .strong), (2, .strong), (3, .eff true), (4, .strong), (5, .strong), (6, .strong), (7, .strong), (8, .strong), (9, .eff true), (10, .strong), (11, .strong), (12, .strong), (13, .strong), (14, .strong), (15, .strong), (16, .strong), (17, .strong), (19, .strong), (20, .strong), (18, .eff true), (21, .eff true), (22, .strong), (23, .strong), (24, .strong), (25, .strong), (26, .strong), (27, .strong), (28, .strong), (29, .strong), (30, .strong), (31, .strong), (32, .strong), (33, .strong), (34, .strong), (35, .strong)])] }
def step103.S : Sig := { f := 103, params := [.st kY27], objs := [], res := .int .i64, outs := [], fix := [], run := fun k ds os => step103 k ds }
def step103.G : List Sig := [Wide102.S, fits139.S, register101.S, uses138.S]
theorem step103.eq (k : Nat) : ∀ ds os, step103.S.run k ds os = runF ⟨types, step103.G, step103.A, k, 0, []⟩ Tryz.f103 (codeOf Tryz.f103) step103.S.params step103.S.objs step103.S.res step103.S.outs ds os := by
  intro ds os; kernel_rfl
theorem step103.dr : DrOk Tryz.prog step103.A (codeOf Tryz.f103) := ⟨by kernel_rfl, by kernel_rfl⟩
theorem step103.ok (k : Nat) : SoundAt Tryz.prog k step103.S :=
  runF_sound (X := ⟨types, step103.G, step103.A, k, 0, []⟩) types_ok (mem_all (⟨Wide102.ok k, ⟨fits139.ok k, ⟨register101.ok k, ⟨uses138.ok k, trivial⟩⟩⟩⟩)) (fn := Tryz.f103) (c := codeOf Tryz.f103) rfl (by kernel_rfl) rfl rfl step103.dr (step103.eq k)

def cycle73.l0 (k : Nat) (c : tY88) : Int → Option tY101
  | t57 =>
    cond (decide (t57 < (List.length c.2.2.2 : Int)))
      ((rd c.2.2.2 t57).bind fun t59 =>
      (step103 k t59).bind fun t62 =>
      cond (t62.1 != 0)
        (some (Sum.inr (Sum.inr (t62.1, ()))))
        (some (Sum.inl (w64 (t57 + 1)))))
      (some (Sum.inr (Sum.inl ())))
def cycle73 (k : Nat) (c : tY88) : Option tY113 :=
  cond (cond (decide (c.1 < 0)) true (decide (c.1 > 2)))
    (some (8, ()))
    (cond (cond (c.1 == 0) (cond (c.2.1 != 0) true (c.2.2.1 != 0)) false)
      (some (3, ()))
      (Option.bind (cond (cond (decide (c.2.1 < 0)) true (decide (c.2.1 ≥ 12)))
        (some true)
        ((register101 k c.2.2.1).bind fun t41 =>
        some (!t41.1))) fun t43 =>
      Option.bind (cond t43
        (some true)
        ((Wide102 k c.2.2.1).bind fun t47 =>
        some t47.1)) fun t48 =>
      cond t48
        (some (1, ()))
        (cond (decide ((List.length c.2.2.2 : Int) > 6))
          (some (2, ()))
          (Option.bind
            (loopN (cycle73.l0 k c) k 0 : Option tY107) (joined fun (_ : Unit) =>
            some (0, ()))))))
def cycle73.A : Ann := { conds := [], blocks := [(1, ⟨[], [], 0, [], 147429837401600557108⟩)], loops := [(10, ⟨[(57, .int .i64)], [], 0, [], 147429837401600557108⟩)], keeps := [1, 4], orders := [] }
def cycle73.S : Sig := { f := 73, params := [.st kY17], objs := [], res := .int .i64, outs := [], fix := [], run := fun k ds os => cycle73 k ds }
def cycle73.G : List Sig := [Wide102.S, register101.S, step103.S]
theorem cycle73.eq (k : Nat) : ∀ ds os, cycle73.S.run k ds os = runF ⟨types, cycle73.G, cycle73.A, k, 0, []⟩ Tryz.f73 (codeOf Tryz.f73) cycle73.S.params cycle73.S.objs cycle73.S.res cycle73.S.outs ds os := by
  intro ds os; kernel_rfl
theorem cycle73.dr : DrOk Tryz.prog cycle73.A (codeOf Tryz.f73) := ⟨by kernel_rfl, by kernel_rfl⟩
theorem cycle73.ok (k : Nat) : SoundAt Tryz.prog k cycle73.S :=
  runF_sound (X := ⟨types, cycle73.G, cycle73.A, k, 0, []⟩) types_ok (mem_all (⟨Wide102.ok k, ⟨register101.ok k, ⟨step103.ok k, trivial⟩⟩⟩)) (fn := Tryz.f73) (c := codeOf Tryz.f73) rfl (by kernel_rfl) rfl rfl cycle73.dr (cycle73.eq k)

def cycles36.l0 (k : Nat) (l : tY82) : Int → Option tY101
  | t11 =>
    cond (decide (t11 < (List.length l : Int)))
      ((rd l t11).bind fun t13 =>
      (cycle73 k t13).bind fun t16 =>
      cond (t16.1 != 0)
        (some (Sum.inr (Sum.inr (t16.1, ()))))
        (some (Sum.inl (w64 (t11 + 1)))))
      (some (Sum.inr (Sum.inl ())))
def cycles36 (k : Nat) (l : tY82) : Option tY113 :=
  cond (decide ((List.length l : Int) > 8))
    (some (2, ()))
    (Option.bind
      (loopN (cycles36.l0 k l) k 0 : Option tY107) (joined fun (_ : Unit) =>
      some (0, ())))
def cycles36.A : Ann := { conds := [], blocks := [(0, ⟨[], [], 0, [], 2095156⟩)], loops := [(4, ⟨[(11, .int .i64)], [], 0, [], 2095156⟩)], keeps := [4], orders := [] }
def cycles36.S : Sig := { f := 36, params := [.sl kY16], objs := [], res := .int .i64, outs := [], fix := [], run := fun k ds os => cycles36 k ds }
def cycles36.G : List Sig := [cycle73.S]
theorem cycles36.eq (k : Nat) : ∀ ds os, cycles36.S.run k ds os = runF ⟨types, cycles36.G, cycles36.A, k, 0, []⟩ Tryz.f36 (codeOf Tryz.f36) cycles36.S.params cycles36.S.objs cycles36.S.res cycles36.S.outs ds os := by
  intro ds os; kernel_rfl
theorem cycles36.dr : DrOk Tryz.prog cycles36.A (codeOf Tryz.f36) := ⟨by kernel_rfl, by kernel_rfl⟩
theorem cycles36.ok (k : Nat) : SoundAt Tryz.prog k cycles36.S :=
  runF_sound (X := ⟨types, cycles36.G, cycles36.A, k, 0, []⟩) types_ok (mem_all (⟨cycle73.ok k, trivial⟩)) (fn := Tryz.f36) (c := codeOf Tryz.f36) rfl (by kernel_rfl) rfl rfl cycles36.dr (cycles36.eq k)
end Go.Proofs.YtcppmlgnceldmaaGreat.Fl

/- Go functions as plain Lean functions, and their contracts. -/
set_option linter.unusedVariables false
set_option maxRecDepth 100000
noncomputable section
namespace Go.Proofs.YtcppmlgnceldmaaGreat.Fl
open Go Go.Proofs.YtcppmlgnceldmaaGreat.Gp
def operand37.l0 (k : Nat) (l : tY82) : (Int × Int) → Option ((Int × Int) ⊕ Int)
  | (n, t8) =>
    cond (decide (t8 < (List.length l : Int)))
      ((rd l t8).bind fun t10 =>
      Option.bind
        (cond (cond (t10.1 == 1) (t10.2.1 == 0) false)
          (some (w64 (n + 1)))
          (some n) : Option Int) fun (n_1 : Int) =>
      some (Sum.inl (n_1, (w64 (t8 + 1)))))
      (some (Sum.inr n))
def operand37 (k : Nat) (l : tY82) : Option tY113 :=
  Option.bind
    (loopN (operand37.l0 k l) k (0, 0) : Option Int) fun (n_2 : Int) =>
  some (n_2, ())
def operand37.A : Ann := { conds := [(1245190, ⟨[(3, .int .i64)], [], 0, [], 3145736⟩)], blocks := [(0, ⟨[(3, .int .i64)], [], 0, [], 8388392⟩)], loops := [(3, ⟨[(3, .int .i64), (8, .int .i64)], [], 0, [], 8388392⟩)], keeps := [5], orders := [] }
def operand37.S : Sig := { f := 37, params := [.sl kY16], objs := [], res := .int .i64, outs := [], fix := [], run := fun k ds os => operand37 k ds }
def operand37.G : List Sig := []
theorem operand37.eq (k : Nat) : ∀ ds os, operand37.S.run k ds os = runF ⟨types, operand37.G, operand37.A, k, 0, []⟩ Tryz.f37 (codeOf Tryz.f37) operand37.S.params operand37.S.objs operand37.S.res operand37.S.outs ds os := by
  intro ds os; kernel_rfl
theorem operand37.dr : DrOk Tryz.prog operand37.A (codeOf Tryz.f37) := ⟨by kernel_rfl, by kernel_rfl⟩
theorem operand37.ok (k : Nat) : SoundAt Tryz.prog k operand37.S :=
  runF_sound (X := ⟨types, operand37.G, operand37.A, k, 0, []⟩) types_ok (fun s hs => absurd hs List.not_mem_nil) (fn := Tryz.f37) (c := codeOf Tryz.f37) rfl (by kernel_rfl) rfl rfl operand37.dr (operand37.eq k)

def Check8.l0 (k : Nat) (c : tY12) : tY11 → Option (tY11 ⊕ tY10)
  | (c_1, t22) =>
    cond (decide (t22 < (List.length c.2.1 : Int)))
      ((rd c.2.1 t22).bind fun t25 =>
      cond (cond (decide (t25.1 < 0)) true (decide (t25.1 > 255)))
        (some (Sum.inr (Sum.inr (1, ()))))
        (Option.bind (cond (decide (t22 > 0))
          ((rd c_1.2.1 (w64 (t22 - 1))).bind fun t46 =>
          some (decide (t25.1 ≤ t46.1)))
          (some false)) fun t50 =>
        cond t50
          (some (Sum.inr (Sum.inr (9, ()))))
          ((Name32 k t25.2.1).bind fun t54 =>
          cond (!t54.1)
            (some (Sum.inr (Sum.inr (15, ()))))
            ((Size33 k t25.2.2.1).bind fun t59 =>
            cond (decide (t59.1 < 0))
              (some (Sum.inr (Sum.inr (8, ()))))
              ((slc c_1.2.1 0 t22).bind fun t65 =>
              (ContainsFunc34 k t65 (t25, ())).bind fun t67 =>
              cond t67.1
                (some (Sum.inr (Sum.inr (5, ()))))
                ((cycles36 k t25.2.2.2).bind fun t70 =>
                cond (t70.1 != 0)
                  (some (Sum.inr (Sum.inr (t70.1, ()))))
                  ((operand37 k t25.2.2.2).bind fun t76 =>
                  (Size33 k t25.2.2.1).bind fun t79 =>
                  cond (t76.1 != t79.1)
                    (some (Sum.inr (Sum.inr (3, ()))))
                    (some (Sum.inl (c_1, (w64 (t22 + 1))))))))))))
      (some (Sum.inr (Sum.inl c_1)))
def Check8.l1 (k : Nat) (c_2 : tY12) : tY64 → Option (tY64 ⊕ tY107)
  | (_, t90, o0) =>
    cond (decide (t90 < (List.length [c_2.2.2.1, c_2.2.2.2.1, c_2.2.2.2.2] : Int)))
      ((rd o0 t90).bind fun _ =>
      (rd o0 t90).bind fun t93 =>
      (cycles36 k t93).bind fun t95 =>
      cond (t95.1 != 0)
        (some (Sum.inr (Sum.inr (t95.1, ()))))
        (some (Sum.inl ((), (w64 (t90 + 1)), o0))))
      (some (Sum.inr (Sum.inl ())))
def Check8 (k : Nat) (c : tY12) : Option tY113 :=
  (Name32 k c.1).bind fun t12 =>
  cond (!t12.1)
    (some (15, ()))
    (cond (decide ((List.length c.2.1 : Int) > 256))
      (some (2, ()))
      (Option.bind
        (loopN (Check8.l0 k c) k (c, 0) : Option tY10) (joined fun (c_2 : tY12) =>
        Option.bind
          (loopN (Check8.l1 k c_2) k ((), 0, [c_2.2.2.1, c_2.2.2.2.1, c_2.2.2.2.2]) : Option tY107) (joined fun (_ : Unit) =>
          some (0, ())))))
def Check8.A : Ann := { conds := [], blocks := [(1, ⟨[(1, .fp kY0)], [], 0, [], 4835703278458516694630460⟩), (4, ⟨[], [], 0, [], 1266412660188944021221804081540⟩)], loops := [(6, ⟨[(1, .fp kY0), (22, .int .i64)], [], 0, [], 4835703278458516694630460⟩), (25, ⟨[(88, .ms 0), (90, .int .i64)], [(0, .row kY15)], 1, [], 1266412660188944021221804081540⟩)], keeps := [1, 4], orders := [(10, [(0, .strong), (1, .strong), (2, .strong), (3, .strong), (4, .strong), (5, .strong), (6, .strong), (7, .strong), (8, .strong), (9, .strong), (10, .strong), (11, .strong), (12, .strong), (13, .strong), (14, .strong)]), (21, [(0, .strong), (1, .strong), (3, .strong), (4, .strong), (2, .eff true), (5, .eff true), (6, .strong)])] }
def Check8.S : Sig := { f := 8, params := [.st kY1], objs := [], res := .int .i64, outs := [], fix := [], run := fun k ds os => Check8 k ds }
def Check8.G : List Sig := [ContainsFunc34.S, Name32.S, Size33.S, cycles36.S, operand37.S]
theorem Check8.eq (k : Nat) : ∀ ds os, Check8.S.run k ds os = runF ⟨types, Check8.G, Check8.A, k, 0, []⟩ Tryz.f8 (codeOf Tryz.f8) Check8.S.params Check8.S.objs Check8.S.res Check8.S.outs ds os := by
  intro ds os; kernel_rfl
theorem Check8.dr : DrOk Tryz.prog Check8.A (codeOf Tryz.f8) := ⟨by kernel_rfl, by kernel_rfl⟩
theorem Check8.ok (k : Nat) : SoundAt Tryz.prog k Check8.S :=
  runF_sound (X := ⟨types, Check8.G, Check8.A, k, 0, []⟩) types_ok (mem_all (⟨ContainsFunc34.ok k, ⟨Name32.ok k, ⟨Size33.ok k, ⟨cycles36.ok k, ⟨operand37.ok k, trivial⟩⟩⟩⟩⟩)) (fn := Tryz.f8) (c := codeOf Tryz.f8) rfl (by kernel_rfl) rfl rfl Check8.dr (Check8.eq k)

def FlowFault17 (k : Nat) (c : tY12) (code : tY92) : Option tY113 :=
  (Check8 k c).bind fun t8 =>
  cond (t8.1 != 0)
    (some (t8.1, ()))
    (cond (decide ((List.length code.2.1 : Int) > 4096))
      (some (2, ()))
      (cond (cond (decide (code.1 < 0)) true (decide (code.1 > (w64 (65536 - (List.length code.2.1 : Int))))))
        (some (1, ()))
        (some (0, ()))))
def FlowFault17.A : Ann := { conds := [], blocks := [], loops := [], keeps := [2, 3], orders := [] }
def FlowFault17.S : Sig := { f := 17, params := [.st kY1, .st kY24], objs := [], res := .int .i64, outs := [], fix := [], run := fun k ds os => FlowFault17 k ds.1 ds.2 }
def FlowFault17.G : List Sig := [Check8.S]
theorem FlowFault17.eq (k : Nat) : ∀ ds os, FlowFault17.S.run k ds os = runF ⟨types, FlowFault17.G, FlowFault17.A, k, 0, []⟩ Tryz.f17 (codeOf Tryz.f17) FlowFault17.S.params FlowFault17.S.objs FlowFault17.S.res FlowFault17.S.outs ds os := by
  intro ds os; kernel_rfl
theorem FlowFault17.dr : DrOk Tryz.prog FlowFault17.A (codeOf Tryz.f17) := ⟨by kernel_rfl, by kernel_rfl⟩
theorem FlowFault17.ok (k : Nat) : SoundAt Tryz.prog k FlowFault17.S :=
  runF_sound (X := ⟨types, FlowFault17.G, FlowFault17.A, k, 0, []⟩) types_ok (mem_all (⟨Check8.ok k, trivial⟩)) (fn := Tryz.f17) (c := codeOf Tryz.f17) rfl (by kernel_rfl) rfl rfl FlowFault17.dr (FlowFault17.eq k)
end Go.Proofs.YtcppmlgnceldmaaGreat.Fl

/- Go functions as plain Lean functions, and their contracts. -/
set_option linter.unusedVariables false
set_option maxRecDepth 100000
noncomputable section
namespace Go.Proofs.YtcppmlgnceldmaaGreat.Fl
open Go Go.Proofs.YtcppmlgnceldmaaGreat.Gp
def Check20 (k : Nat) (c : tY12) (code : tY92) : Option tY113 :=
  (Check8 k c).bind fun t7 =>
  cond (t7.1 != 0)
    (some (t7.1, ()))
    (cond (decide ((List.length code.2.1 : Int) > 4096))
      (some (2, ()))
      (cond (cond (decide (code.1 < 0)) true (decide (code.1 > (w64 (65536 - (List.length code.2.1 : Int))))))
        (some (1, ()))
        (some (0, ()))))
def Check20.A : Ann := { conds := [], blocks := [], loops := [], keeps := [2, 3], orders := [] }
def Check20.S : Sig := { f := 20, params := [.st kY1, .st kY24], objs := [], res := .int .i64, outs := [], fix := [], run := fun k ds os => Check20 k ds.1 ds.2 }
def Check20.G : List Sig := [Check8.S]
theorem Check20.eq (k : Nat) : ∀ ds os, Check20.S.run k ds os = runF ⟨types, Check20.G, Check20.A, k, 0, []⟩ Tryz.f20 (codeOf Tryz.f20) Check20.S.params Check20.S.objs Check20.S.res Check20.S.outs ds os := by
  intro ds os; kernel_rfl
theorem Check20.dr : DrOk Tryz.prog Check20.A (codeOf Tryz.f20) := ⟨by kernel_rfl, by kernel_rfl⟩
theorem Check20.ok (k : Nat) : SoundAt Tryz.prog k Check20.S :=
  runF_sound (X := ⟨types, Check20.G, Check20.A, k, 0, []⟩) types_ok (mem_all (⟨Check8.ok k, trivial⟩)) (fn := Tryz.f20) (c := codeOf Tryz.f20) rfl (by kernel_rfl) rfl rfl Check20.dr (Check20.eq k)

def at87 (k : Nat) (code : tY92) (addr : Int) : Option tY113 :=
  let t9 : Int := (w64 (addr - code.1))
  cond (cond (cond (decide (addr ≥ 0)) (decide (t9 ≥ 0)) false) (decide (t9 < (List.length code.2.1 : Int))) false)
    ((rd code.2.1 t9).bind fun t26 =>
    some ((w64 t26), ()))
    (some ((-1), ()))
def at87.A : Ann := { conds := [], blocks := [], loops := [], keeps := [2], orders := [] }
def at87.S : Sig := { f := 87, params := [.st kY24, .int .i64], objs := [], res := .int .i64, outs := [], fix := [], run := fun k ds os => at87 k ds.1 ds.2 }
def at87.G : List Sig := []
theorem at87.eq (k : Nat) : ∀ ds os, at87.S.run k ds os = runF ⟨types, at87.G, at87.A, k, 0, []⟩ Tryz.f87 (codeOf Tryz.f87) at87.S.params at87.S.objs at87.S.res at87.S.outs ds os := by
  intro ds os; kernel_rfl
theorem at87.dr : DrOk Tryz.prog at87.A (codeOf Tryz.f87) := ⟨by kernel_rfl, by kernel_rfl⟩
theorem at87.ok (k : Nat) : SoundAt Tryz.prog k at87.S :=
  runF_sound (X := ⟨types, at87.G, at87.A, k, 0, []⟩) types_ok (fun s hs => absurd hs List.not_mem_nil) (fn := Tryz.f87) (c := codeOf Tryz.f87) rfl (by kernel_rfl) rfl rfl at87.dr (at87.eq k)

def Find143 (k : Nat) (x : tY61) (t1 : Int) : Option tY112 :=
  some ((x.1 == t1), ())
def Find143.A : Ann := { conds := [], blocks := [], loops := [], keeps := [2], orders := [] }
def Find143.S : Sig := { f := 43, params := [.st kY9, .fp kY51], objs := [], res := .bool, outs := [], fix := [], run := fun k ds os => Find143 k ds.1 ds.2 }
def Find143.G : List Sig := []
theorem Find143.eq (k : Nat) : ∀ ds os, Find143.S.run k ds os = runF ⟨types, Find143.G, Find143.A, k, 0, []⟩ Tryz.f43 (codeOf Tryz.f43) Find143.S.params Find143.S.objs Find143.S.res Find143.S.outs ds os := by
  intro ds os; kernel_rfl
theorem Find143.dr : DrOk Tryz.prog Find143.A (codeOf Tryz.f43) := ⟨by kernel_rfl, by kernel_rfl⟩
theorem Find143.ok (k : Nat) : SoundAt Tryz.prog k Find143.S :=
  runF_sound (X := ⟨types, Find143.G, Find143.A, k, 0, []⟩) types_ok (fun s hs => absurd hs List.not_mem_nil) (fn := Tryz.f43) (c := codeOf Tryz.f43) rfl (by kernel_rfl) rfl rfl Find143.dr (Find143.eq k)

def IndexFunc42'.l0 (k : Nat) (s : tY57) : (tY113 × Int) → Option ((tY113 × Int) ⊕ tY107)
  | (f_1, t8) =>
    cond (decide (t8 < (List.length s : Int)))
      ((rd s t8).bind fun t14 =>
      (Find143 k t14 f_1.1).bind fun t16 =>
      cond t16.1
        (some (Sum.inr (Sum.inr (t8, ()))))
        (some (Sum.inl (f_1, (w64 (t8 + 1))))))
      (some (Sum.inr (Sum.inl ())))
def IndexFunc42' (k : Nat) (s : tY57) (f : tY113) : Option tY113 :=
  Option.bind
    (loopN (IndexFunc42'.l0 k s) k (f, 0) : Option tY107) (joined fun (_ : Unit) =>
    some ((-1), ()))
def IndexFunc42'.A : Ann := { conds := [], blocks := [(0, ⟨[], [], 0, [], 524080⟩)], loops := [(2, ⟨[(1, .fn 43 kY46), (8, .int .i64)], [], 0, [], 524080⟩)], keeps := [], orders := [] }
def IndexFunc42'.S : Sig := { f := 42, params := [.sl kY8, .fn 43 kY46], objs := [], res := .int .i64, outs := [], fix := [], run := fun k ds os => IndexFunc42' k ds.1 ds.2 }
def IndexFunc42'.G : List Sig := [Find143.S]
theorem IndexFunc42'.eq (k : Nat) : ∀ ds os, IndexFunc42'.S.run k ds os = runF ⟨types, IndexFunc42'.G, IndexFunc42'.A, k, 0, []⟩ Tryz.f42 (codeOf Tryz.f42) IndexFunc42'.S.params IndexFunc42'.S.objs IndexFunc42'.S.res IndexFunc42'.S.outs ds os := by
  intro ds os; kernel_rfl
theorem IndexFunc42'.dr : DrOk Tryz.prog IndexFunc42'.A (codeOf Tryz.f42) := ⟨by kernel_rfl, by kernel_rfl⟩
theorem IndexFunc42'.ok (k : Nat) : SoundAt Tryz.prog k IndexFunc42'.S :=
  runF_sound (X := ⟨types, IndexFunc42'.G, IndexFunc42'.A, k, 0, []⟩) types_ok (mem_all (⟨Find143.ok k, trivial⟩)) (fn := Tryz.f42) (c := codeOf Tryz.f42) rfl (by kernel_rfl) rfl rfl IndexFunc42'.dr (IndexFunc42'.eq k)

def Clone122 (k : Nat) (s : tY82) : Option tY75 :=
  orNil (List.length s)
    (cond true
      (some ((), []))
      ((if room (0 + List.length s) 48 then some () else none).bind fun _ =>
      some ((), s)))
    (cond false
      (some ((), []))
      ((if room (0 + List.length s) 48 then some () else none).bind fun _ =>
      some ((), s)))
def Clone122.A : Ann := { conds := [], blocks := [], loops := [], keeps := [], orders := [] }
def Clone122.S : Sig := { f := 122, params := [.sl kY16], objs := [], res := .ms 0, outs := [.row kY16], fix := [], run := fun k ds os => Clone122 k ds }
def Clone122.G : List Sig := []
theorem Clone122.eq (k : Nat) : ∀ ds os, Clone122.S.run k ds os = runF ⟨types, Clone122.G, Clone122.A, k, 0, []⟩ Tryz.f122 (codeOf Tryz.f122) Clone122.S.params Clone122.S.objs Clone122.S.res Clone122.S.outs ds os := by
  intro ds os; kernel_rfl
theorem Clone122.dr : DrOk Tryz.prog Clone122.A (codeOf Tryz.f122) := ⟨by kernel_rfl, by kernel_rfl⟩
theorem Clone122.ok (k : Nat) : SoundAt Tryz.prog k Clone122.S :=
  runF_sound (X := ⟨types, Clone122.G, Clone122.A, k, 0, []⟩) types_ok (fun s hs => absurd hs List.not_mem_nil) (fn := Tryz.f122) (c := codeOf Tryz.f122) rfl (by kernel_rfl) rfl rfl Clone122.dr (Clone122.eq k)

def Clone98 (k : Nat) (s : tY99) : Option tY93 :=
  orNil (List.length s)
    (cond true
      (some ((), []))
      ((if room (0 + List.length s) 32 then some () else none).bind fun _ =>
      some ((), s)))
    (cond false
      (some ((), []))
      ((if room (0 + List.length s) 32 then some () else none).bind fun _ =>
      some ((), s)))
def Clone98.A : Ann := { conds := [], blocks := [], loops := [], keeps := [], orders := [] }
def Clone98.S : Sig := { f := 98, params := [.sl kY25], objs := [], res := .ms 0, outs := [.row kY25], fix := [], run := fun k ds os => Clone98 k ds }
def Clone98.G : List Sig := []
theorem Clone98.eq (k : Nat) : ∀ ds os, Clone98.S.run k ds os = runF ⟨types, Clone98.G, Clone98.A, k, 0, []⟩ Tryz.f98 (codeOf Tryz.f98) Clone98.S.params Clone98.S.objs Clone98.S.res Clone98.S.outs ds os := by
  intro ds os; kernel_rfl
theorem Clone98.dr : DrOk Tryz.prog Clone98.A (codeOf Tryz.f98) := ⟨by kernel_rfl, by kernel_rfl⟩
theorem Clone98.ok (k : Nat) : SoundAt Tryz.prog k Clone98.S :=
  runF_sound (X := ⟨types, Clone98.G, Clone98.A, k, 0, []⟩) types_ok (fun s hs => absurd hs List.not_mem_nil) (fn := Tryz.f98) (c := codeOf Tryz.f98) rfl (by kernel_rfl) rfl rfl Clone98.dr (Clone98.eq k)

def copies85.l0 (k : Nat) (t6 : tY75) : tY69 → Option (tY69 ⊕ tY75)
  | (_, t9, o0) =>
    cond (decide (t9 < (List.length t6.2 : Int)))
      ((rd o0 t9).bind fun _ =>
      (rd o0 t9).bind fun t18 =>
      (Clone98 k t18.2.2.2).bind fun t19 =>
      (rd o0 t9).bind fun _ =>
      (rd o0 t9).bind fun _x_2 =>
      some (Sum.inl ((), (w64 (t9 + 1)), (List.set o0 (Int.toNat t9) (_x_2.1, _x_2.2.1, _x_2.2.2.1, t19.2)))))
      (some (Sum.inr ((), o0)))
def copies85 (k : Nat) (l : tY82) : Option tY76 :=
  (Clone122 k l).bind fun t6 =>
  Option.bind
    (loopN (copies85.l0 k t6) k ((), 0, t6.2) : Option tY75) fun ((_, o0_1) : tY75) =>
  some (o0_1, ())
def copies85.A : Ann := { conds := [], blocks := [(0, ⟨[(3, .ms 0)], [(0, .row kY16)], 1, [], 8388112⟩)], loops := [(3, ⟨[(3, .ms 0), (9, .int .i64)], [(0, .row kY16)], 1, [], 8388112⟩)], keeps := [], orders := [] }
def copies85.S : Sig := { f := 85, params := [.sl kY16], objs := [], res := .sl kY16, outs := [], fix := [], run := fun k ds os => copies85 k ds }
def copies85.G : List Sig := [Clone122.S, Clone98.S]
theorem copies85.eq (k : Nat) : ∀ ds os, copies85.S.run k ds os = runF ⟨types, copies85.G, copies85.A, k, 0, []⟩ Tryz.f85 (codeOf Tryz.f85) copies85.S.params copies85.S.objs copies85.S.res copies85.S.outs ds os := by
  intro ds os; kernel_rfl
theorem copies85.dr : DrOk Tryz.prog copies85.A (codeOf Tryz.f85) := ⟨by kernel_rfl, by kernel_rfl⟩
theorem copies85.ok (k : Nat) : SoundAt Tryz.prog k copies85.S :=
  runF_sound (X := ⟨types, copies85.G, copies85.A, k, 0, []⟩) types_ok (mem_all (⟨Clone122.ok k, ⟨Clone98.ok k, trivial⟩⟩)) (fn := Tryz.f85) (c := codeOf Tryz.f85) rfl (by kernel_rfl) rfl rfl copies85.dr (copies85.eq k)

def Copy44 (k : Nat) (x : tY61) : Option tY55 :=
  (copies85 k x.2.2.2).bind fun t5 =>
  some ((x.1, x.2.1, x.2.2.1, t5.1), ())
def Copy44.A : Ann := { conds := [], blocks := [], loops := [], keeps := [], orders := [] }
def Copy44.S : Sig := { f := 44, params := [.st kY9], objs := [], res := .st kY9, outs := [], fix := [], run := fun k ds os => Copy44 k ds }
def Copy44.G : List Sig := [copies85.S]
theorem Copy44.eq (k : Nat) : ∀ ds os, Copy44.S.run k ds os = runF ⟨types, Copy44.G, Copy44.A, k, 0, []⟩ Tryz.f44 (codeOf Tryz.f44) Copy44.S.params Copy44.S.objs Copy44.S.res Copy44.S.outs ds os := by
  intro ds os; kernel_rfl
theorem Copy44.dr : DrOk Tryz.prog Copy44.A (codeOf Tryz.f44) := ⟨by kernel_rfl, by kernel_rfl⟩
theorem Copy44.ok (k : Nat) : SoundAt Tryz.prog k Copy44.S :=
  runF_sound (X := ⟨types, Copy44.G, Copy44.A, k, 0, []⟩) types_ok (mem_all (⟨copies85.ok k, trivial⟩)) (fn := Tryz.f44) (c := codeOf Tryz.f44) rfl (by kernel_rfl) rfl rfl Copy44.dr (Copy44.eq k)
end Go.Proofs.YtcppmlgnceldmaaGreat.Fl

/- Go functions as plain Lean functions, and their contracts. -/
set_option linter.unusedVariables false
set_option maxRecDepth 100000
noncomputable section
namespace Go.Proofs.YtcppmlgnceldmaaGreat.Fl
open Go Go.Proofs.YtcppmlgnceldmaaGreat.Gp
def Find11 (k : Nat) (c : tY12) (op : Int) : Option tY45 :=
  (IndexFunc42' k c.2.1 (op, ())).bind fun t10 =>
  cond (decide (t10.1 < 0))
    (some (((0, (ByteArray.mk #[]), 0, []), false, ()), ()))
    ((rd c.2.1 t10.1).bind fun t17 =>
    (Copy44 k t17).bind fun t19 =>
    some ((t19.1, true, ()), ()))
def Find11.A : Ann := { conds := [], blocks := [], loops := [], keeps := [2, 3], orders := [] }
def Find11.S : Sig := { f := 11, params := [.st kY1, .int .i64], objs := [], res := .tup kY6, outs := [], fix := [], run := fun k ds os => Find11 k ds.1 ds.2 }
def Find11.G : List Sig := [Copy44.S, IndexFunc42'.S]
theorem Find11.eq (k : Nat) : ∀ ds os, Find11.S.run k ds os = runF ⟨types, Find11.G, Find11.A, k, 0, []⟩ Tryz.f11 (codeOf Tryz.f11) Find11.S.params Find11.S.objs Find11.S.res Find11.S.outs ds os := by
  intro ds os; kernel_rfl
theorem Find11.dr : DrOk Tryz.prog Find11.A (codeOf Tryz.f11) := ⟨by kernel_rfl, by kernel_rfl⟩
theorem Find11.ok (k : Nat) : SoundAt Tryz.prog k Find11.S :=
  runF_sound (X := ⟨types, Find11.G, Find11.A, k, 0, []⟩) types_ok (mem_all (⟨Copy44.ok k, ⟨IndexFunc42'.ok k, trivial⟩⟩)) (fn := Tryz.f11) (c := codeOf Tryz.f11) rfl (by kernel_rfl) rfl rfl Find11.dr (Find11.eq k)

def begun53 (k : Nat) (c : tY12) (code : tY92) (addr : Int) : Option tY46 :=
  (at87 k code addr).bind fun t13 =>
  cond (t13.1 == (-1))
    (some (((0, (ByteArray.mk #[]), 0, []), 19, ()), ()))
    ((Find11 k c t13.1).bind fun t20 =>
    cond (!t20.1.2.1)
      (some (((0, (ByteArray.mk #[]), 0, []), 4, ()), ()))
      ((Size33 k t20.1.1.2.2.1).bind fun t30 =>
      (at87 k code (w64 (addr + t30.1))).bind fun t32 =>
      cond (t32.1 == (-1))
        (some (((0, (ByteArray.mk #[]), 0, []), 13, ()), ()))
        (some ((t20.1.1, 0, ()), ()))))
def begun53.A : Ann := { conds := [], blocks := [], loops := [], keeps := [3, 4, 9], orders := [(7, [(0, .strong), (1, .strong), (2, .strong), (3, .strong), (4, .eff true), (5, .strong), (6, .eff true), (7, .strong)])] }
def begun53.S : Sig := { f := 53, params := [.st kY1, .st kY24, .int .i64], objs := [], res := .tup kY5, outs := [], fix := [], run := fun k ds os => begun53 k ds.1 ds.2.1 ds.2.2 }
def begun53.G : List Sig := [Find11.S, Size33.S, at87.S]
theorem begun53.eq (k : Nat) : ∀ ds os, begun53.S.run k ds os = runF ⟨types, begun53.G, begun53.A, k, 0, []⟩ Tryz.f53 (codeOf Tryz.f53) begun53.S.params begun53.S.objs begun53.S.res begun53.S.outs ds os := by
  intro ds os; kernel_rfl
theorem begun53.dr : DrOk Tryz.prog begun53.A (codeOf Tryz.f53) := ⟨by kernel_rfl, by kernel_rfl⟩
theorem begun53.ok (k : Nat) : SoundAt Tryz.prog k begun53.S :=
  runF_sound (X := ⟨types, begun53.G, begun53.A, k, 0, []⟩) types_ok (mem_all (⟨Find11.ok k, ⟨Size33.ok k, ⟨at87.ok k, trivial⟩⟩⟩)) (fn := Tryz.f53) (c := codeOf Tryz.f53) rfl (by kernel_rfl) rfl rfl begun53.dr (begun53.eq k)

def width100 (k : Nat) (bits : Int) : Option tY113 :=
  some ((mxI 0 (mnI bits 62)), ())
def width100.A : Ann := { conds := [], blocks := [], loops := [], keeps := [], orders := [] }
def width100.S : Sig := { f := 100, params := [.int .i64], objs := [], res := .int .i64, outs := [], fix := [], run := fun k ds os => width100 k ds }
def width100.G : List Sig := []
theorem width100.eq (k : Nat) : ∀ ds os, width100.S.run k ds os = runF ⟨types, width100.G, width100.A, k, 0, []⟩ Tryz.f100 (codeOf Tryz.f100) width100.S.params width100.S.objs width100.S.res width100.S.outs ds os := by
  intro ds os; kernel_rfl
theorem width100.dr : DrOk Tryz.prog width100.A (codeOf Tryz.f100) := ⟨by kernel_rfl, by kernel_rfl⟩
theorem width100.ok (k : Nat) : SoundAt Tryz.prog k width100.S :=
  runF_sound (X := ⟨types, width100.G, width100.A, k, 0, []⟩) types_ok (fun s hs => absurd hs List.not_mem_nil) (fn := Tryz.f100) (c := codeOf Tryz.f100) rfl (by kernel_rfl) rfl rfl width100.dr (width100.eq k)

def Low70 (k : Nat) (n : Int) (bits : Int) : Option tY113 :=
  (width100 k bits).bind fun t7 =>
  (if t7.1 < 0 then none else some (shlI .i64 1 t7.1)).bind fun t8 =>
  some ((ibits .and .i64 n (w64 (t8 - 1))), ())
def Low70.A : Ann := { conds := [], blocks := [], loops := [], keeps := [], orders := [] }
def Low70.S : Sig := { f := 70, params := [.int .i64, .int .i64], objs := [], res := .int .i64, outs := [], fix := [], run := fun k ds os => Low70 k ds.1 ds.2 }
def Low70.G : List Sig := [width100.S]
theorem Low70.eq (k : Nat) : ∀ ds os, Low70.S.run k ds os = runF ⟨types, Low70.G, Low70.A, k, 0, []⟩ Tryz.f70 (codeOf Tryz.f70) Low70.S.params Low70.S.objs Low70.S.res Low70.S.outs ds os := by
  intro ds os; kernel_rfl
theorem Low70.dr : DrOk Tryz.prog Low70.A (codeOf Tryz.f70) := ⟨by kernel_rfl, by kernel_rfl⟩
theorem Low70.ok (k : Nat) : SoundAt Tryz.prog k Low70.S :=
  runF_sound (X := ⟨types, Low70.G, Low70.A, k, 0, []⟩) types_ok (mem_all (⟨width100.ok k, trivial⟩)) (fn := Tryz.f70) (c := codeOf Tryz.f70) rfl (by kernel_rfl) rfl rfl Low70.dr (Low70.eq k)

def place151 (k : Nat) (at_ : Int) (size : Int) : Option ((Int × tY113) × Unit) :=
  (width100 k at_).bind fun t7 =>
  some ((t7.1, (mxI 0 (mnI size (w64 (62 - t7.1)))), ()), ())
def place151.A : Ann := { conds := [], blocks := [], loops := [], keeps := [], orders := [] }
def place151.S : Sig := { f := 151, params := [.int .i64, .int .i64], objs := [], res := .tup (.pair kY51 (.pair kY51 .unit)), outs := [], fix := [], run := fun k ds os => place151 k ds.1 ds.2 }
def place151.G : List Sig := [width100.S]
theorem place151.eq (k : Nat) : ∀ ds os, place151.S.run k ds os = runF ⟨types, place151.G, place151.A, k, 0, []⟩ Tryz.f151 (codeOf Tryz.f151) place151.S.params place151.S.objs place151.S.res place151.S.outs ds os := by
  intro ds os; kernel_rfl
theorem place151.dr : DrOk Tryz.prog place151.A (codeOf Tryz.f151) := ⟨by kernel_rfl, by kernel_rfl⟩
theorem place151.ok (k : Nat) : SoundAt Tryz.prog k place151.S :=
  runF_sound (X := ⟨types, place151.G, place151.A, k, 0, []⟩) types_ok (mem_all (⟨width100.ok k, trivial⟩)) (fn := Tryz.f151) (c := codeOf Tryz.f151) rfl (by kernel_rfl) rfl rfl place151.dr (place151.eq k)

def Get123 (k : Nat) (n : Int) (at_ : Int) (size : Int) : Option tY113 :=
  (place151 k at_ size).bind fun t10 =>
  (Low70 k n 62).bind fun t14 =>
  (if t10.1.1 < 0 then none else some (shrI .i64 t14.1 t10.1.1)).bind fun t16 =>
  (Low70 k t16 t10.1.2.1).bind fun t18 =>
  some (t18.1, ())
def Get123.A : Ann := { conds := [], blocks := [], loops := [], keeps := [], orders := [] }
def Get123.S : Sig := { f := 123, params := [.int .i64, .int .i64, .int .i64], objs := [], res := .int .i64, outs := [], fix := [], run := fun k ds os => Get123 k ds.1 ds.2.1 ds.2.2 }
def Get123.G : List Sig := [Low70.S, place151.S]
theorem Get123.eq (k : Nat) : ∀ ds os, Get123.S.run k ds os = runF ⟨types, Get123.G, Get123.A, k, 0, []⟩ Tryz.f123 (codeOf Tryz.f123) Get123.S.params Get123.S.objs Get123.S.res Get123.S.outs ds os := by
  intro ds os; kernel_rfl
theorem Get123.dr : DrOk Tryz.prog Get123.A (codeOf Tryz.f123) := ⟨by kernel_rfl, by kernel_rfl⟩
theorem Get123.ok (k : Nat) : SoundAt Tryz.prog k Get123.S :=
  runF_sound (X := ⟨types, Get123.G, Get123.A, k, 0, []⟩) types_ok (mem_all (⟨Low70.ok k, ⟨place151.ok k, trivial⟩⟩)) (fn := Tryz.f123) (c := codeOf Tryz.f123) rfl (by kernel_rfl) rfl rfl Get123.dr (Get123.eq k)

def set88 (k : Nat) (_ : Unit) (reg : Int) (n : Int) (o0 : tY110) : Option (Unit × tY110) :=
  Option.bind (cond (n == (-1))
    ((Wide102 k reg).bind fun t18 =>
    some t18.1)
    (some false)) fun t19 =>
  Option.bind
    (cond t19
      ((if 0 ≤ reg ∧ reg < 9 then some () else none).bind fun _ =>
      (rd o0 reg).bind fun _ =>
      some (List.set o0 (Int.toNat reg) ((-1), (-1))))
      (Option.bind
        (cond (n == (-1))
          ((if 0 ≤ reg ∧ reg < 9 then some () else none).bind fun _ =>
          (rd o0 reg).bind fun _ =>
          some (List.set o0 (Int.toNat reg) ((-1), 0)))
          ((Wide102 k reg).bind fun t35 =>
          Option.bind
            (cond t35.1
              ((Low70 k n 8).bind fun t39 =>
              (Get123 k n 8 8).bind fun t41 =>
              (if 0 ≤ reg ∧ reg < 9 then some () else none).bind fun _ =>
              (rd o0 reg).bind fun _ =>
              some (List.set o0 (Int.toNat reg) (t39.1, t41.1)))
              ((Low70 k n 8).bind fun t9 =>
              (if 0 ≤ reg ∧ reg < 9 then some () else none).bind fun _ =>
              (rd o0 reg).bind fun _ =>
              some (List.set o0 (Int.toNat reg) (t9.1, 0))) : Option tY110) fun (o0_1 : tY110) =>
          some o0_1) : Option tY110) fun (o0_2 : tY110) =>
      some o0_2) : Option tY110) fun (o0_3 : tY110) =>
  some ((), o0_3)
def set88.A : Ann := { conds := [(851970, ⟨[], [(0, .var kY41)], 1, [], 35184371048384⟩), (1638404, ⟨[], [(0, .var kY41)], 1, [], 35184103661504⟩), (2162694, ⟨[], [(0, .var kY41)], 1, [], 35115652620224⟩)], blocks := [], loops := [], keeps := [], orders := [(0, [(0, .strong), (1, .strong), (2, .strong), (5, .strong), (3, .eff true), (4, .strong), (6, .strong), (7, .eff false)]), (6, [(0, .strong), (1, .strong), (2, .strong), (4, .strong), (7, .strong), (3, .eff true), (5, .eff true), (6, .strong), (8, .strong), (9, .eff false)])] }
def set88.S : Sig := { f := 88, params := [.ptr 0 [], .int .i64, .int .i64], objs := [.var kY41], res := .tup .unit, outs := [.var kY41], fix := [], run := fun k ds os => set88 k ds.1 ds.2.1 ds.2.2 os }
def set88.G : List Sig := [Get123.S, Low70.S, Wide102.S]
theorem set88.eq (k : Nat) : ∀ ds os, set88.S.run k ds os = runF ⟨types, set88.G, set88.A, k, 0, []⟩ Tryz.f88 (codeOf Tryz.f88) set88.S.params set88.S.objs set88.S.res set88.S.outs ds os := by
  intro ds os; kernel_rfl
theorem set88.dr : DrOk Tryz.prog set88.A (codeOf Tryz.f88) := ⟨by kernel_rfl, by kernel_rfl⟩
theorem set88.ok (k : Nat) : SoundAt Tryz.prog k set88.S :=
  runF_sound (X := ⟨types, set88.G, set88.A, k, 0, []⟩) types_ok (mem_all (⟨Get123.ok k, ⟨Low70.ok k, ⟨Wide102.ok k, trivial⟩⟩⟩)) (fn := Tryz.f88) (c := codeOf Tryz.f88) rfl (by kernel_rfl) rfl rfl set88.dr (set88.eq k)
end Go.Proofs.YtcppmlgnceldmaaGreat.Fl

/- Go functions as plain Lean functions, and their contracts. -/
set_option linter.unusedVariables false
set_option maxRecDepth 100000
noncomputable section
namespace Go.Proofs.YtcppmlgnceldmaaGreat.Fl
open Go Go.Proofs.YtcppmlgnceldmaaGreat.Gp
def none55.l0 (k : Nat) : tY79 → Option (tY79 ⊕ tY86)
  | (_, _, t3, o0, o1) =>
    cond (decide (t3 < 9))
      ((set88 k () t3 (-1) o1).bind fun t7 =>
      some (Sum.inl ((), (), (w64 (t3 + 1)), o0, t7.2)))
      (some (Sum.inr ((), (), o0, o1)))
def none55 (k : Nat) : Option (tY110 × Unit) :=
  Option.bind
    (loopN (none55.l0 k) k ((), (), 0, (List.replicate 9 (0, 0)), (List.replicate 9 (0, 0))) : Option tY86) fun ((_, _, _, o1_1) : tY86) =>
  some (o1_1, ())
def none55.A : Ann := { conds := [], blocks := [(0, ⟨[(0, .ptr 0 []), (1, .ptr 1 [])], [(0, .var kY41), (1, .var kY41)], 2, [], 508⟩)], loops := [(3, ⟨[(0, .ptr 0 []), (1, .ptr 1 []), (3, .int .i64)], [(0, .var kY41), (1, .var kY41)], 2, [], 508⟩)], keeps := [], orders := [] }
def none55.S : Sig := { f := 55, params := [], objs := [], res := .arr 9 kY44, outs := [], fix := [], run := fun k ds os => none55 k }
def none55.G : List Sig := [set88.S]
theorem none55.eq (k : Nat) : ∀ ds os, none55.S.run k ds os = runF ⟨types, none55.G, none55.A, k, 0, []⟩ Tryz.f55 (codeOf Tryz.f55) none55.S.params none55.S.objs none55.S.res none55.S.outs ds os := by
  intro ds os; kernel_rfl
theorem none55.dr : DrOk Tryz.prog none55.A (codeOf Tryz.f55) := ⟨by kernel_rfl, by kernel_rfl⟩
theorem none55.ok (k : Nat) : SoundAt Tryz.prog k none55.S :=
  runF_sound (X := ⟨types, none55.G, none55.A, k, 0, []⟩) types_ok (mem_all (⟨set88.ok k, trivial⟩)) (fn := Tryz.f55) (c := codeOf Tryz.f55) rfl (by kernel_rfl) rfl rfl none55.dr (none55.eq k)

def whole90 (k : Nat) (_ : Unit) (reg : Int) (o0 : tY73) (o1 : tY115) : Option (Int × tY62) :=
  (if 0 ≤ reg ∧ reg < 9 then some () else none).bind fun _ =>
  (rd o0.2.1 reg).bind fun t10 =>
  Option.bind (cond (t10.1 == (-1))
    (some true)
    ((Wide102 k reg).bind fun t16 =>
    some (cond t16.1 (t10.2 == (-1)) false))) fun t22 =>
  cond t22
    (some ((-1), o0, o1))
    (some ((w64 (t10.1 + (w64 (256 * t10.2)))), o0, o1))
def whole90.A : Ann := { conds := [], blocks := [], loops := [], keeps := [5], orders := [] }
def whole90.S : Sig := { f := 90, params := [.ptr 0 [.fld 1 3], .int .i64], objs := [.var kY12, .row kY51], res := .int .i64, outs := [.var kY12, .row kY51], fix := [], run := fun k ds os => whole90 k ds.1 ds.2 os.1 os.2 }
def whole90.G : List Sig := [Wide102.S]
theorem whole90.eq (k : Nat) : ∀ ds os, whole90.S.run k ds os = runF ⟨types, whole90.G, whole90.A, k, 0, []⟩ Tryz.f90 (codeOf Tryz.f90) whole90.S.params whole90.S.objs whole90.S.res whole90.S.outs ds os := by
  intro ds os; kernel_rfl
theorem whole90.dr : DrOk Tryz.prog whole90.A (codeOf Tryz.f90) := ⟨by kernel_rfl, by kernel_rfl⟩
theorem whole90.ok (k : Nat) : SoundAt Tryz.prog k whole90.S :=
  runF_sound (X := ⟨types, whole90.G, whole90.A, k, 0, []⟩) types_ok (mem_all (⟨Wide102.ok k, trivial⟩)) (fn := Tryz.f90) (c := codeOf Tryz.f90) rfl (by kernel_rfl) rfl rfl whole90.dr (whole90.eq k)

def set88' (k : Nat) (_ : Unit) (reg : Int) (n : Int) (o0 : tY73) (o1 : tY115) : Option tY56 :=
  Option.bind (cond (n == (-1))
    ((Wide102 k reg).bind fun t18 =>
    some t18.1)
    (some false)) fun t19 =>
  Option.bind
    (cond t19
      ((if 0 ≤ reg ∧ reg < 9 then some () else none).bind fun _ =>
      (rd o0.2.1 reg).bind fun _ =>
      some ((o0.1, (List.set o0.2.1 (Int.toNat reg) ((-1), (-1))), o0.2.2), o1))
      (Option.bind
        (cond (n == (-1))
          ((if 0 ≤ reg ∧ reg < 9 then some () else none).bind fun _ =>
          (rd o0.2.1 reg).bind fun _ =>
          some ((o0.1, (List.set o0.2.1 (Int.toNat reg) ((-1), 0)), o0.2.2), o1))
          ((Wide102 k reg).bind fun t35 =>
          Option.bind
            (cond t35.1
              ((Low70 k n 8).bind fun t39 =>
              (Get123 k n 8 8).bind fun t41 =>
              (if 0 ≤ reg ∧ reg < 9 then some () else none).bind fun _ =>
              (rd o0.2.1 reg).bind fun _ =>
              some ((o0.1, (List.set o0.2.1 (Int.toNat reg) (t39.1, t41.1)), o0.2.2), o1))
              ((Low70 k n 8).bind fun t9 =>
              (if 0 ≤ reg ∧ reg < 9 then some () else none).bind fun _ =>
              (rd o0.2.1 reg).bind fun _ =>
              some ((o0.1, (List.set o0.2.1 (Int.toNat reg) (t9.1, 0)), o0.2.2), o1)) : Option tY62) fun ((o0_1, o1_1) : tY62) =>
          some (o0_1, o1_1)) : Option tY62) fun ((o0_2, o1_2) : tY62) =>
      some (o0_2, o1_2)) : Option tY62) fun ((o0_3, o1_3) : tY62) =>
  some ((), o0_3, o1_3)
def set88'.A : Ann := { conds := [(851970, ⟨[], [(0, .var kY12), (1, .row kY51)], 2, [], 35184371048384⟩), (1638404, ⟨[], [(0, .var kY12), (1, .row kY51)], 2, [], 35184103661504⟩), (2162694, ⟨[], [(0, .var kY12), (1, .row kY51)], 2, [], 35115652620224⟩)], blocks := [], loops := [], keeps := [], orders := [(0, [(0, .strong), (1, .strong), (2, .strong), (5, .strong), (3, .eff true), (4, .strong), (6, .strong), (7, .eff false)]), (6, [(0, .strong), (1, .strong), (2, .strong), (4, .strong), (7, .strong), (3, .eff true), (5, .eff true), (6, .strong), (8, .strong), (9, .eff false)])] }
def set88'.S : Sig := { f := 88, params := [.ptr 0 [.fld 1 3], .int .i64, .int .i64], objs := [.var kY12, .row kY51], res := .tup .unit, outs := [.var kY12, .row kY51], fix := [], run := fun k ds os => set88' k ds.1 ds.2.1 ds.2.2 os.1 os.2 }
def set88'.G : List Sig := [Get123.S, Low70.S, Wide102.S]
theorem set88'.eq (k : Nat) : ∀ ds os, set88'.S.run k ds os = runF ⟨types, set88'.G, set88'.A, k, 0, []⟩ Tryz.f88 (codeOf Tryz.f88) set88'.S.params set88'.S.objs set88'.S.res set88'.S.outs ds os := by
  intro ds os; kernel_rfl
theorem set88'.dr : DrOk Tryz.prog set88'.A (codeOf Tryz.f88) := ⟨by kernel_rfl, by kernel_rfl⟩
theorem set88'.ok (k : Nat) : SoundAt Tryz.prog k set88'.S :=
  runF_sound (X := ⟨types, set88'.G, set88'.A, k, 0, []⟩) types_ok (mem_all (⟨Get123.ok k, ⟨Low70.ok k, ⟨Wide102.ok k, trivial⟩⟩⟩)) (fn := Tryz.f88) (c := codeOf Tryz.f88) rfl (by kernel_rfl) rfl rfl set88'.dr (set88'.eq k)

def add152 (k : Nat) (_ : Unit) (reg : Int) (by_ : Int) (o0 : tY73) (o1 : tY115) : Option tY56 :=
  (whole90 k () reg o0 o1).bind fun t9 =>
  Option.bind
    (cond (t9.1 != (-1))
      ((Low70 k (w64 (t9.1 + by_)) 16).bind fun t15 =>
      some ((), t15.1, t9.2.1, t9.2.2))
      (some ((), (-1), t9.2.1, t9.2.2)) : Option tY53) fun ((_, by__1, o0_1, o1_1) : tY53) =>
  (set88' k () reg by__1 o0_1 o1_1).bind fun t19 =>
  some ((), t19.2.1, t19.2.2)
def add152.A : Ann := { conds := [(720898, ⟨[(0, .ptr 0 [.fld 1 3]), (2, .int .i64)], [(0, .var kY12), (1, .row kY51)], 2, [], 61444⟩)], blocks := [], loops := [], keeps := [], orders := [] }
def add152.S : Sig := { f := 152, params := [.ptr 0 [.fld 1 3], .int .i64, .int .i64], objs := [.var kY12, .row kY51], res := .tup .unit, outs := [.var kY12, .row kY51], fix := [], run := fun k ds os => add152 k ds.1 ds.2.1 ds.2.2 os.1 os.2 }
def add152.G : List Sig := [Low70.S, set88'.S, whole90.S]
theorem add152.eq (k : Nat) : ∀ ds os, add152.S.run k ds os = runF ⟨types, add152.G, add152.A, k, 0, []⟩ Tryz.f152 (codeOf Tryz.f152) add152.S.params add152.S.objs add152.S.res add152.S.outs ds os := by
  intro ds os; kernel_rfl
theorem add152.dr : DrOk Tryz.prog add152.A (codeOf Tryz.f152) := ⟨by kernel_rfl, by kernel_rfl⟩
theorem add152.ok (k : Nat) : SoundAt Tryz.prog k add152.S :=
  runF_sound (X := ⟨types, add152.G, add152.A, k, 0, []⟩) types_ok (mem_all (⟨Low70.ok k, ⟨set88'.ok k, ⟨whole90.ok k, trivial⟩⟩⟩)) (fn := Tryz.f152) (c := codeOf Tryz.f152) rfl (by kernel_rfl) rfl rfl add152.dr (add152.eq k)
end Go.Proofs.YtcppmlgnceldmaaGreat.Fl

/- Go functions as plain Lean functions, and their contracts. -/
set_option linter.unusedVariables false
set_option maxRecDepth 100000
noncomputable section
namespace Go.Proofs.YtcppmlgnceldmaaGreat.Fl
open Go Go.Proofs.YtcppmlgnceldmaaGreat.Gp
def bus124 (k : Nat) (_ : Unit) (c : tY88) (o0 : tY73) (o1 : tY115) : Option tY56 :=
  (whole90 k () c.2.2.1 o0 o1).bind fun t11 =>
  Option.bind
    (cond (c.2.1 == 0)
      (Option.bind
        (agree
          ((whole90 k () 7 t11.2.1 t11.2.2).bind fun t23 =>
          (at87 k t11.2.1.1 t23.1).bind fun t24 =>
          some ((), c, t24.1, t23.2.1, t23.2.2))
          ((whole90 k () 7 t11.2.1 t11.2.2).bind fun t23_1 =>
          (at87 k t23_1.2.1.1 t23_1.1).bind fun t24_1 =>
          some ((), c, t24_1.1, t23_1.2.1, t23_1.2.2)) : Option tY29) fun ((_, c_1, data, o0_1, o1_1) : tY29) =>
      (add152 k () 7 1 o0_1 o1_1).bind fun t28 =>
      some ((), c_1, data, t28.2.1, t28.2.2))
      (Option.bind
        (cond (c.2.1 == 1)
          (Option.bind
            (agree
              ((whole90 k () 7 t11.2.1 t11.2.2).bind fun t38 =>
              (at87 k t11.2.1.1 t38.1).bind fun t39 =>
              some ((), c, t39.1, t38.2.1, t38.2.2))
              ((whole90 k () 7 t11.2.1 t11.2.2).bind fun t38_1 =>
              (at87 k t38_1.2.1.1 t38_1.1).bind fun t39_1 =>
              some ((), c, t39_1.1, t38_1.2.1, t38_1.2.2)) : Option tY29) fun ((_, c_2, data_1, o0_2, o1_2) : tY29) =>
          some ((), c_2, data_1, o0_2, o1_2))
          (Option.bind
            (cond (c.2.1 == 4)
              ((add152 k () 3 (-1) t11.2.1 t11.2.2).bind fun t45 =>
              some ((), c, t45.2.1, t45.2.2))
              (Option.bind
                (cond (c.2.1 == 5)
                  ((add152 k () 3 1 t11.2.1 t11.2.2).bind fun t51 =>
                  some ((), c, t51.2.1, t51.2.2))
                  (some ((), c, t11.2.1, t11.2.2)) : Option tY32) fun ((_, c_3, o0_3, o1_3) : tY32) =>
              some ((), c_3, o0_3, o1_3)) : Option tY32) fun ((_, c_4, o0_4, o1_4) : tY32) =>
          some ((), c_4, (-1), o0_4, o1_4)) : Option tY29) fun ((_, c_5, data_2, o0_5, o1_5) : tY29) =>
      some ((), c_5, data_2, o0_5, o1_5)) : Option tY29) fun ((_, c_6, data_3, o0_6, o1_6) : tY29) =>
  Option.bind
    (cond (cond (c_6.1 == 2) (c_6.2.1 == 4) false)
      ((if room (List.length o1_6 + List.length ([t11.1] : List Int)) 8 then some () else none).bind fun _ =>
      some ((), c_6, (o0_6.1, o0_6.2.1, o0_6.2.2), (o1_6 ++ ([t11.1] : List Int))))
      (some ((), c_6, o0_6, o1_6)) : Option tY32) fun ((_, c_7, o0_7, o1_7) : tY32) =>
  Option.bind
    (cond (c_7.1 == 1)
      ((set88' k () c_7.2.2.1 data_3 o0_7 o1_7).bind fun t79 =>
      some (t79.2.1, t79.2.2))
      (some (o0_7, o1_7)) : Option tY62) fun ((o0_8, o1_8) : tY62) =>
  some ((), o0_8, o1_8)
def bus124.A : Ann := { conds := [(917508, ⟨[(0, .ptr 0 []), (3, .fp kY16), (4, .int .i64)], [(0, .var kY12), (1, .row kY51)], 2, [], 4503599627304976⟩), (1900551, ⟨[(0, .ptr 0 []), (3, .fp kY16), (4, .int .i64)], [(0, .var kY12), (1, .row kY51)], 2, [], 4503597479886864⟩), (2621449, ⟨[(0, .ptr 0 []), (3, .fp kY16)], [(0, .var kY12), (1, .row kY51)], 2, [], 4499201580859392⟩), (3014667, ⟨[(0, .ptr 0 []), (3, .fp kY16)], [(0, .var kY12), (1, .row kY51)], 2, [], 4222124650659840⟩), (3866637, ⟨[(0, .ptr 0 []), (3, .fp kY16)], [(0, .var kY12), (1, .row kY51)], 2, [], 1179438699212804456448⟩), (4718607, ⟨[], [(0, .var kY12), (1, .row kY51)], 2, [], 1199481086648889884278784⟩)], blocks := [], loops := [], keeps := [3], orders := [(1, [(0, .strong), (1, .strong), (2, .strong), (3, .strong), (4, .strong), (5, .eff false), (6, .strong), (7, .strong)]), (15, [(0, .strong), (1, .strong), (2, .strong), (3, .strong), (4, .strong), (5, .strong), (6, .eff false)])], alts := [(4, ((.op 0 .weak (.op 1 .weak (.op 2 .weak (.op 4 .strong (.op 5 .strong (.op 6 .strong (.alt (.op 3 (.eff true) (.op 7 (.eff false) (.op 8 (.eff true) (.op 9 .strong (.leaf []))))) (.op 7 (.eff false) (.op 3 .strong (.op 8 (.eff true) (.op 9 .strong (.leaf [])))))))))))), ⟨[(0, .ptr 0 []), (3, .fp kY16), (4, .int .i64)], [(0, .var kY12), (1, .row kY51)], 2, [], 33488912⟩)), (7, ((.op 0 .weak (.op 1 .weak (.op 2 .weak (.op 4 .strong (.op 5 .strong (.op 6 .strong (.alt (.op 3 (.eff true) (.op 7 (.eff false) (.op 8 (.eff true) (.op 9 .strong (.leaf []))))) (.op 7 (.eff false) (.op 3 .strong (.op 8 (.eff true) (.op 9 .strong (.leaf [])))))))))))), ⟨[(0, .ptr 0 []), (3, .fp kY16), (4, .int .i64)], [(0, .var kY12), (1, .row kY51)], 2, [], 1097364144144⟩))] }
def bus124.S : Sig := { f := 124, params := [.ptr 0 [], .st kY17], objs := [.var kY12, .row kY51], res := .tup .unit, outs := [.var kY12, .row kY51], fix := [], run := fun k ds os => bus124 k ds.1 ds.2 os.1 os.2 }
def bus124.G : List Sig := [add152.S, at87.S, set88'.S, whole90.S]
theorem bus124.eq (k : Nat) : ∀ ds os, bus124.S.run k ds os = runF ⟨types, bus124.G, bus124.A, k, 0, []⟩ Tryz.f124 (codeOf Tryz.f124) bus124.S.params bus124.S.objs bus124.S.res bus124.S.outs ds os := by
  intro ds os; kernel_rfl
theorem bus124.dr : DrOk Tryz.prog bus124.A (codeOf Tryz.f124) := ⟨by kernel_rfl, by kernel_rfl⟩
theorem bus124.ok (k : Nat) : SoundAt Tryz.prog k bus124.S :=
  runF_sound (X := ⟨types, bus124.G, bus124.A, k, 0, []⟩) types_ok (mem_all (⟨add152.ok k, ⟨at87.ok k, ⟨set88'.ok k, ⟨whole90.ok k, trivial⟩⟩⟩⟩)) (fn := Tryz.f124) (c := codeOf Tryz.f124) rfl (by kernel_rfl) rfl rfl bus124.dr (bus124.eq k)

def Clone125 (k : Nat) (s : tY115) : Option (Unit × tY115) :=
  orNil (List.length s)
    (cond true
      (some ((), []))
      ((if room (0 + List.length s) 8 then some () else none).bind fun _ =>
      some ((), s)))
    (cond false
      (some ((), []))
      ((if room (0 + List.length s) 8 then some () else none).bind fun _ =>
      some ((), s)))
def Clone125.A : Ann := { conds := [], blocks := [], loops := [], keeps := [], orders := [] }
def Clone125.S : Sig := { f := 125, params := [.sl kY51], objs := [], res := .ms 0, outs := [.row kY51], fix := [], run := fun k ds os => Clone125 k ds }
def Clone125.G : List Sig := []
theorem Clone125.eq (k : Nat) : ∀ ds os, Clone125.S.run k ds os = runF ⟨types, Clone125.G, Clone125.A, k, 0, []⟩ Tryz.f125 (codeOf Tryz.f125) Clone125.S.params Clone125.S.objs Clone125.S.res Clone125.S.outs ds os := by
  intro ds os; kernel_rfl
theorem Clone125.dr : DrOk Tryz.prog Clone125.A (codeOf Tryz.f125) := ⟨by kernel_rfl, by kernel_rfl⟩
theorem Clone125.ok (k : Nat) : SoundAt Tryz.prog k Clone125.S :=
  runF_sound (X := ⟨types, Clone125.G, Clone125.A, k, 0, []⟩) types_ok (fun s hs => absurd hs List.not_mem_nil) (fn := Tryz.f125) (c := codeOf Tryz.f125) rfl (by kernel_rfl) rfl rfl Clone125.dr (Clone125.eq k)

def Signed148 (k : Nat) (n : Int) (bits : Int) : Option tY113 :=
  (width100 k bits).bind fun t6 =>
  (Low70 k n t6.1).bind fun t9 =>
  Option.bind (cond (decide (t6.1 > 0))
    (let t15 : Int := (w64 (t6.1 - 1))
    (if t15 < 0 then none else some (shrI .i64 t9.1 t15)).bind fun t16 =>
    some (t16 == 1))
    (some false)) fun t18 =>
  Option.bind
    (cond t18
      ((if t6.1 < 0 then none else some (shlI .i64 1 t6.1)).bind fun t21 =>
      some (w64 (t9.1 - t21)))
      (some t9.1) : Option Int) fun (n_1 : Int) =>
  some (n_1, ())
def Signed148.A : Ann := { conds := [(1179652, ⟨[(0, .int .i64)], [], 0, [], 7864321⟩)], blocks := [], loops := [], keeps := [], orders := [] }
def Signed148.S : Sig := { f := 148, params := [.int .i64, .int .i64], objs := [], res := .int .i64, outs := [], fix := [], run := fun k ds os => Signed148 k ds.1 ds.2 }
def Signed148.G : List Sig := [Low70.S, width100.S]
theorem Signed148.eq (k : Nat) : ∀ ds os, Signed148.S.run k ds os = runF ⟨types, Signed148.G, Signed148.A, k, 0, []⟩ Tryz.f148 (codeOf Tryz.f148) Signed148.S.params Signed148.S.objs Signed148.S.res Signed148.S.outs ds os := by
  intro ds os; kernel_rfl
theorem Signed148.dr : DrOk Tryz.prog Signed148.A (codeOf Tryz.f148) := ⟨by kernel_rfl, by kernel_rfl⟩
theorem Signed148.ok (k : Nat) : SoundAt Tryz.prog k Signed148.S :=
  runF_sound (X := ⟨types, Signed148.G, Signed148.A, k, 0, []⟩) types_ok (mem_all (⟨Low70.ok k, ⟨width100.ok k, trivial⟩⟩)) (fn := Tryz.f148) (c := codeOf Tryz.f148) rfl (by kernel_rfl) rfl rfl Signed148.dr (Signed148.eq k)
end Go.Proofs.YtcppmlgnceldmaaGreat.Fl

/- Go functions as plain Lean functions, and their contracts. -/
set_option linter.unusedVariables false
set_option maxRecDepth 100000
noncomputable section
namespace Go.Proofs.YtcppmlgnceldmaaGreat.Fl
open Go Go.Proofs.YtcppmlgnceldmaaGreat.Gp
def step126 (k : Nat) (_ : Unit) (s : tY104) (o0 : tY73) (o1 : tY115) : Option tY56 :=
  (whole90 k () s.2.1 o0 o1).bind fun t13 =>
  (whole90 k () s.2.2.1 t13.2.1 t13.2.2).bind fun t19 =>
  cond (s.1 == 0)
    (some ((), t19.2.1, t19.2.2))
    (Option.bind
      (cond (s.1 == 3)
        (some ((), s, (s.1 == 3), t19.2.1, t19.2.2))
        (Option.bind
          (cond (s.1 == 6)
            (some ((), s, (s.1 == 6), t19.2.1, t19.2.2))
            (Option.bind
              (cond (s.1 == 16)
                (some ((), s, (s.1 == 16), t19.2.1, t19.2.2))
                (some ((), s, (s.1 == 17), t19.2.1, t19.2.2)) : Option tY37) fun ((_, s_1, t30, o0_1, o1_1) : tY37) =>
            some ((), s_1, t30, o0_1, o1_1)) : Option tY37) fun ((_, s_2, t30_1, o0_2, o1_2) : tY37) =>
        some ((), s_2, t30_1, o0_2, o1_2)) : Option tY37) fun ((_, s_3, t30_2, o0_3, o1_3) : tY37) =>
    Option.bind
      (cond t30_2
        (some ((), true, o0_3, o1_3))
        (Option.bind
          (cond (s.1 == 1)
            ((if 0 ≤ s_3.2.2.1 ∧ s_3.2.2.1 < 9 then some () else none).bind fun _ =>
            (rd o0_3.2.1 s_3.2.2.1).bind fun t46 =>
            (if 0 ≤ s_3.2.1 ∧ s_3.2.1 < 9 then some () else none).bind fun _ =>
            (rd o0_3.2.1 s_3.2.1).bind fun _ =>
            some ((), false, (o0_3.1, (List.set o0_3.2.1 (Int.toNat s_3.2.1) t46), o0_3.2.2), o1_3))
            (Option.bind
              (cond (s.1 == 2)
                ((set88' k () s_3.2.1 s_3.2.2.2 o0_3 o1_3).bind fun t59 =>
                some ((), false, t59.2.1, t59.2.2))
                (Option.bind
                  (cond (s.1 == 10)
                    (some ((), s_3, (s.1 == 10), o0_3, o1_3))
                    (some ((), s_3, (s.1 == 11), o0_3, o1_3)) : Option tY37) fun ((_, s_4, t60, o0_4, o1_4) : tY37) =>
                Option.bind
                  (cond t60
                    ((add152 k () s_4.2.1 (w64 (1 - (w64 (2 * (w64 (s_4.1 - 10)))))) o0_4 o1_4).bind fun t73 =>
                    (Wide102 k s_4.2.1).bind fun t76 =>
                    some ((), (!t76.1), t73.2.1, t73.2.2))
                    (Option.bind
                      (cond (s.1 == 18)
                        ((if 0 ≤ s_4.2.2.1 ∧ s_4.2.2.1 < 9 then some () else none).bind fun _ =>
                        (rd o0_4.2.1 s_4.2.2.1).bind fun t90 =>
                        (if 0 ≤ s_4.2.1 ∧ s_4.2.1 < 9 then some () else none).bind fun _ =>
                        (rd o0_4.2.1 s_4.2.1).bind fun _x_5 =>
                        some ((), false, (o0_4.1, (List.set o0_4.2.1 (Int.toNat s_4.2.1) (t90.1, _x_5.2)), o0_4.2.2), o1_4))
                        (Option.bind
                          (cond (s.1 == 19)
                            ((if 0 ≤ s_4.2.2.1 ∧ s_4.2.2.1 < 9 then some () else none).bind fun _ =>
                            (rd o0_4.2.1 s_4.2.2.1).bind fun t107 =>
                            (if 0 ≤ s_4.2.1 ∧ s_4.2.1 < 9 then some () else none).bind fun _ =>
                            (rd o0_4.2.1 s_4.2.1).bind fun _x_8 =>
                            some ((), false, (o0_4.1, (List.set o0_4.2.1 (Int.toNat s_4.2.1) (_x_8.1, t107.1)), o0_4.2.2), o1_4))
                            (Option.bind
                              (cond (s.1 == 20)
                                ((if 0 ≤ s_4.2.2.1 ∧ s_4.2.2.1 < 9 then some () else none).bind fun _ =>
                                (rd o0_4.2.1 s_4.2.2.1).bind fun t124 =>
                                (if 0 ≤ s_4.2.1 ∧ s_4.2.1 < 9 then some () else none).bind fun _ =>
                                (rd o0_4.2.1 s_4.2.1).bind fun _ =>
                                some ((), false, (o0_4.1, (List.set o0_4.2.1 (Int.toNat s_4.2.1) (t124.1, 0)), o0_4.2.2), o1_4))
                                (Option.bind
                                  (cond (s.1 == 21)
                                    ((if 0 ≤ s_4.2.2.1 ∧ s_4.2.2.1 < 9 then some () else none).bind fun _ =>
                                    (rd o0_4.2.1 s_4.2.2.1).bind fun t141 =>
                                    (if 0 ≤ s_4.2.1 ∧ s_4.2.1 < 9 then some () else none).bind fun _ =>
                                    (rd o0_4.2.1 s_4.2.1).bind fun _ =>
                                    some ((), false, (o0_4.1, (List.set o0_4.2.1 (Int.toNat s_4.2.1) (t141.2, 0)), o0_4.2.2), o1_4))
                                    (Option.bind
                                      (cond (s.1 == 22)
                                        (some ((), s_4, (s.1 == 22), o0_4, o1_4))
                                        (some ((), s_4, (s.1 == 23), o0_4, o1_4)) : Option tY37) fun ((_, s_5, t146, o0_5, o1_5) : tY37) =>
                                    Option.bind
                                      (cond t146
                                        (Option.bind
                                          (cond (cond (s_5.1 == 23) (t19.1 != (-1)) false)
                                            ((Signed148 k t19.1 8).bind fun t158 =>
                                            some ((), s_5, t158.1, o0_5, o1_5))
                                            (some ((), s_5, t19.1, o0_5, o1_5)) : Option tY38) fun ((_, s_6, by_, o0_6, o1_6) : tY38) =>
                                        Option.bind
                                          (cond (cond (t19.1 == (-1)) true (t13.1 == (-1)))
                                            ((set88' k () s_6.2.1 (-1) o0_6 o1_6).bind fun t170 =>
                                            some ((), t170.2.1, t170.2.2))
                                            ((add152 k () s_6.2.1 by_ o0_6 o1_6).bind fun t177 =>
                                            some ((), t177.2.1, t177.2.2)) : Option tY56) fun ((_, o0_7, o1_7) : tY56) =>
                                        some ((), false, o0_7, o1_7))
                                        ((set88' k () s_5.2.1 (-1) o0_5 o1_5).bind fun t27 =>
                                        some ((), true, t27.2.1, t27.2.2)) : Option tY52) fun ((_, flags, o0_8, o1_8) : tY52) =>
                                    some ((), flags, o0_8, o1_8)) : Option tY52) fun ((_, flags_1, o0_9, o1_9) : tY52) =>
                                some ((), flags_1, o0_9, o1_9)) : Option tY52) fun ((_, flags_2, o0_10, o1_10) : tY52) =>
                            some ((), flags_2, o0_10, o1_10)) : Option tY52) fun ((_, flags_3, o0_11, o1_11) : tY52) =>
                        some ((), flags_3, o0_11, o1_11)) : Option tY52) fun ((_, flags_4, o0_12, o1_12) : tY52) =>
                    some ((), flags_4, o0_12, o1_12)) : Option tY52) fun ((_, flags_5, o0_13, o1_13) : tY52) =>
                some ((), flags_5, o0_13, o1_13)) : Option tY52) fun ((_, flags_6, o0_14, o1_14) : tY52) =>
            some ((), flags_6, o0_14, o1_14)) : Option tY52) fun ((_, flags_7, o0_15, o1_15) : tY52) =>
        some ((), flags_7, o0_15, o1_15)) : Option tY52) fun ((_, flags_8, o0_16, o1_16) : tY52) =>
    Option.bind
      (cond flags_8
        ((set88' k () 4 (-1) o0_16 o1_16).bind fun t182 =>
        some (t182.2.1, t182.2.2))
        (some (o0_16, o1_16)) : Option tY62) fun ((o0_17, o1_17) : tY62) =>
    some ((), o0_17, o1_17))
def step126.A : Ann := { conds := [(1966088, ⟨[(0, .ptr 0 []), (3, .fp kY25), (30, .bool)], [(0, .var kY12), (1, .row kY51)], 2, [], 31138512896⟩), (1966089, ⟨[(0, .ptr 0 []), (3, .fp kY25), (30, .bool)], [(0, .var kY12), (1, .row kY51)], 2, [], 26843545600⟩), (1966090, ⟨[(0, .ptr 0 []), (3, .fp kY25), (30, .bool)], [(0, .var kY12), (1, .row kY51)], 2, [], 18253611008⟩), (1966091, ⟨[(0, .ptr 0 []), (6, .bool)], [(0, .var kY12), (1, .row kY51)], 2, [], 383123885216472214589586756787577295904684746450403520⟩), (2293773, ⟨[(0, .ptr 0 []), (6, .bool)], [(0, .var kY12), (1, .row kY51)], 2, [], 383123885216472214589586756787577295904684643371188416⟩), (3276815, ⟨[(0, .ptr 0 []), (6, .bool)], [(0, .var kY12), (1, .row kY51)], 2, [], 383123885216472214589586756787577295900181181182771392⟩), (3932177, ⟨[(0, .ptr 0 []), (3, .fp kY25), (60, .bool)], [(0, .var kY12), (1, .row kY51)], 2, [], 5764607523034234880⟩), (3932178, ⟨[(0, .ptr 0 []), (6, .bool)], [(0, .var kY12), (1, .row kY51)], 2, [], 383123885216472214589586756787577286681312743955366080⟩), (5111829, ⟨[(0, .ptr 0 []), (6, .bool)], [(0, .var kY12), (1, .row kY51)], 2, [], 383123885216472214589586756786368370085070151635435712⟩), (6225943, ⟨[(0, .ptr 0 []), (6, .bool)], [(0, .var kY12), (1, .row kY51)], 2, [], 383123885216472214589586598331252267376009593722241216⟩), (7340057, ⟨[(0, .ptr 0 []), (6, .bool)], [(0, .var kY12), (1, .row kY51)], 2, [], 383123885216472214568817569353437985390562795493261504⟩), (8454171, ⟨[(0, .ptr 0 []), (6, .bool)], [(0, .var kY12), (1, .row kY51)], 2, [], 383123885216469492330651389279869588907825326664450240⟩), (9568285, ⟨[(0, .ptr 0 []), (3, .fp kY25), (146, .bool)], [(0, .var kY12), (1, .row kY51)], 2, [], 446014903970612462830714365452967230119608320⟩), (9568286, ⟨[(0, .ptr 0 []), (6, .bool)], [(0, .var kY12), (1, .row kY51)], 2, [], 383123884502848368236606816258434311179937212618768576⟩), (10223648, ⟨[(0, .ptr 0 []), (3, .fp kY25), (7, .int .i64)], [(0, .var kY12), (1, .row kY51)], 2, [], 548063113999088594326381812268606132370974703744⟩), (10747938, ⟨[(0, .ptr 0 [])], [(0, .var kY12), (1, .row kY51)], 2, [], 383077117164077625696204238872930374848055790704525312⟩), (11665445, ⟨[], [(0, .var kY12), (1, .row kY51)], 2, [], 11493716556494166437687602703627318877140543416377016320⟩)], blocks := [], loops := [], keeps := [3], orders := [(1, [(0, .strong), (1, .strong), (2, .strong), (3, .strong), (4, .strong), (6, .weak), (7, .weak), (8, .weak), (9, .weak), (10, .weak), (5, .eff false), (11, .eff false), (12, .strong), (13, .strong)]), (4, [(0, .strong), (1, .strong), (2, .strong), (3, .strong), (4, .strong), (5, .eff false)]), (13, [(0, .strong), (1, .strong), (2, .strong), (3, .strong), (4, .strong), (5, .strong), (6, .strong), (7, .strong), (8, .strong), (9, .strong), (10, .strong), (11, .strong), (12, .strong), (13, .eff false)]), (15, [(0, .strong), (1, .strong), (2, .strong), (3, .strong), (4, .strong), (5, .strong), (6, .strong), (7, .eff false)]), (18, [(0, .strong), (1, .strong), (2, .strong), (3, .strong), (4, .strong), (5, .strong), (6, .strong), (7, .strong), (8, .strong), (9, .strong), (10, .eff false)]), (21, [(0, .strong), (1, .strong), (2, .strong), (3, .strong), (4, .strong), (5, .strong), (6, .strong), (7, .strong), (8, .strong), (9, .strong), (10, .strong), (11, .strong), (12, .strong), (13, .strong), (14, .strong), (15, .eff false)]), (23, [(0, .strong), (1, .strong), (2, .strong), (3, .strong), (4, .strong), (5, .strong), (6, .strong), (7, .strong), (8, .strong), (9, .strong), (10, .strong), (11, .strong), (12, .strong), (13, .strong), (14, .strong), (15, .eff false)]), (25, [(0, .strong), (1, .strong), (2, .strong), (3, .strong), (4, .strong), (5, .strong), (6, .strong), (7, .strong), (8, .strong), (9, .strong), (10, .strong), (11, .strong), (12, .strong), (13, .strong), (14, .strong), (15, .eff false)]), (27, [(0, .strong), (1, .strong), (2, .strong), (3, .strong), (4, .strong), (5, .strong), (6, .strong), (7, .strong), (8, .strong), (9, .strong), (10, .strong), (11, .strong), (12, .strong), (13, .strong), (14, .strong), (15, .eff false)]), (34, [(0, .strong), (1, .strong), (2, .strong), (3, .strong), (4, .strong), (5, .eff false)]), (35, [(0, .strong), (1, .strong), (2, .strong), (3, .strong), (4, .strong), (5, .strong), (6, .eff false)])] }
def step126.S : Sig := { f := 126, params := [.ptr 0 [], .st kY27], objs := [.var kY12, .row kY51], res := .tup .unit, outs := [.var kY12, .row kY51], fix := [], run := fun k ds os => step126 k ds.1 ds.2 os.1 os.2 }
def step126.G : List Sig := [Signed148.S, Wide102.S, add152.S, set88'.S, whole90.S]
theorem step126.eq (k : Nat) : ∀ ds os, step126.S.run k ds os = runF ⟨types, step126.G, step126.A, k, 0, []⟩ Tryz.f126 (codeOf Tryz.f126) step126.S.params step126.S.objs step126.S.res step126.S.outs ds os := by
  intro ds os; kernel_rfl
theorem step126.dr : DrOk Tryz.prog step126.A (codeOf Tryz.f126) := ⟨by kernel_rfl, by kernel_rfl⟩
theorem step126.ok (k : Nat) : SoundAt Tryz.prog k step126.S :=
  runF_sound (X := ⟨types, step126.G, step126.A, k, 0, []⟩) types_ok (mem_all (⟨Signed148.ok k, ⟨Wide102.ok k, ⟨add152.ok k, ⟨set88'.ok k, ⟨whole90.ok k, trivial⟩⟩⟩⟩⟩)) (fn := Tryz.f126) (c := codeOf Tryz.f126) rfl (by kernel_rfl) rfl rfl step126.dr (step126.eq k)
end Go.Proofs.YtcppmlgnceldmaaGreat.Fl

/- Go functions as plain Lean functions, and their contracts. -/
set_option linter.unusedVariables false
set_option maxRecDepth 100000
noncomputable section
namespace Go.Proofs.YtcppmlgnceldmaaGreat.Fl
open Go Go.Proofs.YtcppmlgnceldmaaGreat.Gp
def ends89.l0 (k : Nat) (c : tY88) : tY16 → Option tY9
  | (_, _, t30, o0_2, o1_2, o5_2) =>
    cond (decide (t30 < (List.length c.2.2.2 : Int)))
      (Option.bind
        ((rd c.2.2.2 t30).bind fun t32 =>
        cond (t32.1 == 24)
          ((Clone125 k o1_2).bind fun t42 =>
          (if room (List.length o5_2 + List.length ([((0, [], []), o0_2.2.1, t42.2)] : List tY66)) 224 then some () else none).bind fun _ =>
          some ((), (), o0_2, o1_2, (o5_2 ++ ([((0, [], []), o0_2.2.1, t42.2)] : List tY66))))
          ((step126 k () t32 o0_2 o1_2).bind fun t47 =>
          some ((), (), t47.2.1, t47.2.2, o5_2)) : Option tY18) fun ((_, _, o0_3, o1_3, o5_3) : tY18) =>
      some (Sum.inl ((), (), (w64 (t30 + 1)), o0_3, o1_3, o5_3)))
      (some (Sum.inr ((), (), o0_2, o1_2, o5_2)))
def ends89.l1 (k : Nat) (l : tY82) : tY16 → Option tY9
  | (_, _, t18, o0, o1, o5) =>
    cond (decide (t18 < (List.length l : Int)))
      ((rd l t18).bind fun t20 =>
      Option.bind
        (cond (t20.1 != 0)
          ((bus124 k () t20 o0 o1).bind fun t26 =>
          some ((), (), t20, t26.2.1, t26.2.2, o5))
          (some ((), (), t20, o0, o1, o5)) : Option tY13) fun ((_, _, c, o0_1, o1_1, o5_1) : tY13) =>
      Option.bind
        (loopN (ends89.l0 k c) k ((), (), 0, o0_1, o1_1, o5_1) : Option tY18) fun ((_, _, o0_4, o1_4, o5_4) : tY18) =>
      some (Sum.inl ((), (), (w64 (t18 + 1)), o0_4, o1_4, o5_4)))
      (some (Sum.inr ((), (), o0, o1, o5)))
def ends89 (k : Nat) (code : tY92) (l : tY82) (r : tY110) : Option tY58 :=
  Option.bind
    (loopN (ends89.l1 k l) k ((), (), 0, (code, r, ()), [], []) : Option tY18) fun ((_, _, o0_5, o1_5, o5_5) : tY18) =>
  (if room (List.length o5_5 + List.length [(o0_5.1, o0_5.2.1, o1_5)]) 224 then some () else none).bind fun _ =>
  some ((o5_5 ++ [(o0_5.1, o0_5.2.1, o1_5)]), ())
def ends89.A : Ann := { conds := [(1572871, ⟨[(7, .ptr 0 []), (8, .ms 5), (10, .fp kY16)], [(0, .var kY12), (1, .row kY51), (5, .row kY10)], 6, [], 100663296⟩)], blocks := [(0, ⟨[(7, .ptr 0 []), (8, .ms 5)], [(0, .var kY12), (1, .row kY51), (5, .row kY10)], 6, [], 1125899906585856⟩), (2, ⟨[(7, .ptr 0 []), (8, .ms 5)], [(0, .var kY12), (1, .row kY51), (5, .row kY10)], 6, [], 562948879683840⟩), (3, ⟨[(7, .ptr 0 []), (8, .ms 5)], [(0, .var kY12), (1, .row kY51), (5, .row kY10)], 6, [], 281470681747712⟩)], loops := [(4, ⟨[(7, .ptr 0 []), (8, .ms 5), (18, .int .i64)], [(0, .var kY12), (1, .row kY51), (5, .row kY10)], 6, [(5, .st kY11)], 1125899906585856⟩), (9, ⟨[(7, .ptr 0 []), (8, .ms 5), (30, .int .i64)], [(0, .var kY12), (1, .row kY51), (5, .row kY10)], 6, [], 562948879683840⟩)], keeps := [3, 5, 10, 12], orders := [(12, [(0, .strong), (1, .strong), (2, .strong), (3, .strong), (4, .strong), (5, .eff true), (6, .strong), (7, .eff true), (8, .eff false), (9, .strong)])], turns := [(1, [⟨0, [(1, .int .i64)], .st (.pair kY20 (.pair kY41 (.ms 1)))⟩])] }
def ends89.S : Sig := { f := 89, params := [.st kY24, .sl kY16, .arr 9 kY44], objs := [], res := .sl kY10, outs := [], fix := [], run := fun k ds os => ends89 k ds.1 ds.2.1 ds.2.2 }
def ends89.G : List Sig := [Clone125.S, bus124.S, step126.S]
theorem ends89.eq (k : Nat) : ∀ ds os, ends89.S.run k ds os = runF ⟨types, ends89.G, ends89.A, k, 0, []⟩ Tryz.f89 (codeOf Tryz.f89) ends89.S.params ends89.S.objs ends89.S.res ends89.S.outs ds os := by
  intro ds os; kernel_rfl
theorem ends89.dr : DrOk Tryz.prog ends89.A (codeOf Tryz.f89) := ⟨by kernel_rfl, by kernel_rfl⟩
theorem ends89.ok (k : Nat) : SoundAt Tryz.prog k ends89.S :=
  runF_sound (X := ⟨types, ends89.G, ends89.A, k, 0, []⟩) types_ok (mem_all (⟨Clone125.ok k, ⟨bus124.ok k, ⟨step126.ok k, trivial⟩⟩⟩)) (fn := Tryz.f89) (c := codeOf Tryz.f89) rfl (by kernel_rfl) rfl rfl ends89.dr (ends89.eq k)

def whole90' (k : Nat) (_ : Unit) (reg : Int) (o0 : tY66) : Option (Int × tY66) :=
  (if 0 ≤ reg ∧ reg < 9 then some () else none).bind fun _ =>
  (rd o0.2.1 reg).bind fun t10 =>
  Option.bind (cond (t10.1 == (-1))
    (some true)
    ((Wide102 k reg).bind fun t16 =>
    some (cond t16.1 (t10.2 == (-1)) false))) fun t22 =>
  cond t22
    (some ((-1), o0))
    (some ((w64 (t10.1 + (w64 (256 * t10.2)))), o0))
def whole90'.A : Ann := { conds := [], blocks := [], loops := [], keeps := [5], orders := [] }
def whole90'.S : Sig := { f := 90, params := [.ptr 0 [.fld 1 3], .int .i64], objs := [.var kY10], res := .int .i64, outs := [.var kY10], fix := [], run := fun k ds os => whole90' k ds.1 ds.2 os }
def whole90'.G : List Sig := [Wide102.S]
theorem whole90'.eq (k : Nat) : ∀ ds os, whole90'.S.run k ds os = runF ⟨types, whole90'.G, whole90'.A, k, 0, []⟩ Tryz.f90 (codeOf Tryz.f90) whole90'.S.params whole90'.S.objs whole90'.S.res whole90'.S.outs ds os := by
  intro ds os; kernel_rfl
theorem whole90'.dr : DrOk Tryz.prog whole90'.A (codeOf Tryz.f90) := ⟨by kernel_rfl, by kernel_rfl⟩
theorem whole90'.ok (k : Nat) : SoundAt Tryz.prog k whole90'.S :=
  runF_sound (X := ⟨types, whole90'.G, whole90'.A, k, 0, []⟩) types_ok (mem_all (⟨Wide102.ok k, trivial⟩)) (fn := Tryz.f90) (c := codeOf Tryz.f90) rfl (by kernel_rfl) rfl rfl whole90'.dr (whole90'.eq k)
end Go.Proofs.YtcppmlgnceldmaaGreat.Fl

/- Sorting a row of ints in place: the library's contract as one of ours. -/
set_option linter.unusedVariables false
noncomputable section
namespace Go.Proofs.YtcppmlgnceldmaaGreat.Gp
open Go Go.Sort Go.RowKit Go.Shelf

def sortI (l : List Int) : List Int := l.mergeSort fun x y => decide (x ≤ y)
theorem lvI {H : Hp} {L : Ls} : ∀ {l : List Int} {vs : List Value}, LvL (Lv H L (.int .i64)) l vs ↔ vs = l.map (Value.int .i64)
  | [], vs => Iff.rfl
  | x :: r, vs => by
    constructor
    · rintro ⟨a, b, rfl, h1, h2⟩
      rw [lvI.1 h2, show a = [Value.int .i64 x] from h1]
      rfl
    · intro h
      exact ⟨[Value.int .i64 x], r.map (Value.int .i64), h, rfl, lvI.2 rfl⟩
theorem sortI_len (l : List Int) : (sortI l).length = l.length := List.length_mergeSort l
def sortS (f : Nat) : Sig := { f := f, params := [.ms 0], objs := [.row (.int .i64)], res := .tup .unit, outs := [.row (.int .i64)], fix := [0], run := fun _ _ os => if os.length < 4611686018427387904 then some ((), sortI os) else none }
theorem putCells_toList (off : Nat) (l : List Int) (c : Array Value) (h : off + l.length ≤ c.size) : ((putCells (Value.int .i64) off l.toArray c).toList.drop off).take l.length = l.map (Value.int .i64) := by
  refine List.ext_getElem? fun i => ?_
  rw [List.getElem?_take, List.getElem?_map]
  by_cases hi : i < l.length
  · rw [if_pos hi, List.getElem?_drop, Array.getElem?_toList]
    unfold putCells
    rw [Array.getElem?_mapIdx, Array.getElem?_eq_getElem (by omega), Option.map_some, if_pos ⟨by omega, by simpa using hi⟩, show off + i - off = i by omega, List.getElem?_eq_getElem hi, Option.map_some]
    congr 2
    rw [getElem!_pos l.toArray i (by simpa using hi)]
    simp
  · rw [if_neg hi, List.getElem?_eq_none (by omega)]
    rfl
/-- the memory behind and ahead of the sort -/
def rowO (l : List Int) : Nat → O := assoc O.dead (objsFrom 0 [OK.row (.int .i64)] l)
theorem rowO_own {l l' : List Int} {L : Ls} {b : Nat} : Own (rowO l) L b ↔ Own (rowO l') L b := by
  have key : ∀ (l l' : List Int) (b : Nat), Own (rowO l) L b → Own (rowO l') L b := by
    rintro l l' b ⟨i, h1, h2⟩
    refine ⟨i, ?_, h2⟩
    cases i with
    | zero => exact h1
    | succ i => exact h1
  exact ⟨key l l' b, key l' l b⟩
theorem sort_sound {P : Program} {ρ : Ren} (Ly : Lays.n189 P ρ) {f : Nat} (hf : ρ.f 189 = f) (hfn : ∃ fn c, P.funcs[f]? = some fn ∧ (fn.name == "runtime.NumGoroutine") = false ∧ fn.body = some c) (k : Nat) : SoundAt P k (sortS f) := by
  subst hf
  refine ⟨hfn, fun ds (os : List Int) q hq xs w H L hx hp hl => ?_⟩
  have hq : (if os.length < 4611686018427387904 then some ((), sortI os) else none) = some q := hq
  split at hq
  case isFalse => cases hq
  rename_i hbig
  cases hq
  have o0 : OR H L w (L 0) (.row (.int .i64)) os := hp.obj 0
  obtain ⟨hpur, hlen, h⟩ := o0
  have hlen : (L 0).len = os.length := hlen
  have hxs : xs = #[(L 0).hdr] := by
    have hx : SRs H L [⟨.ms 0, ds⟩] xs.toList := hx
    generalize hl' : xs.toList = l at hx
    cases hx with
    | cons h1 h2 =>
      cases h2
      obtain ⟨us, ⟨hus, _⟩, rfl⟩ := h1
      subst hus
      rw [← Array.toArray_toList (xs := xs), hl']
      rfl
  have hlive : (L 0).live = true := by
    have hx : SRs H L [⟨.ms 0, ds⟩] xs.toList := hx
    generalize hl' : xs.toList = l at hx
    cases hx with
    | cons h1 h2 =>
      obtain ⟨us, ⟨_, h⟩, _⟩ := h1
      exact h
  have hsr : ∀ v, v = Value.tuple #[] → SR H L ⟨.tup .unit, ()⟩ v := fun v hv => ⟨[], hv, rfl⟩
  by_cases h0 : os.length = 0
  · have hos : os = ([] : List Int) := List.eq_nil_of_length_eq_zero h0
    subst hos
    have hh : ∃ p cap, (L 0).hdr = .slice p 0 cap := by
      unfold Loc.hdr
      split
      · exact ⟨_, _, rfl⟩
      · rw [hlen]; exact ⟨_, _, rfl⟩
    obtain ⟨p, cap, hh⟩ := hh
    rw [hxs, hh]
    refine (Any.slices_Sort_int_none Ly p cap w).mono ?_
    rintro e w' ⟨rfl, rfl⟩
    have hs : sortI [] = [] := by unfold sortI; simp
    refine ⟨_, H, L, rfl, hsr _ rfl, ?_, hl, ⟨?_, fun i hi hv => ?_, fun i _ => ⟨rfl, rfl, rfl, id⟩⟩⟩
    · show HeapOk (rowO (sortI [])) H L w'
      rw [hs]
      exact hp
    · show Fr (Own (rowO []) L) H w' (Own (rowO (sortI [])) L) H w'
      rw [hs]
      exact Fr.refl _ _ _
    · have : i = 0 := by have hi : i < 1 := hi; omega
      subst this
      cases hv
  · rcases h with ⟨_, h1, _⟩ | ⟨hnil, hcap, cs, e, z, hb, hz, hsz, hv⟩
    · exact absurd h1 h0
    have hcap : os.length ≤ (L 0).cap := hcap
    have hsz : (L 0).off + (L 0).cap * 1 ≤ cs.size := hsz
    have hv : (cs.toList.drop (L 0).off).take (os.length * 1) = os.map (Value.int .i64) := lvI.1 hv
    rw [Nat.mul_one] at hv hsz
    have hblk : (L 0).blk < w.heap.size := by
      rcases Nat.lt_or_ge (L 0).blk w.heap.size with h | h
      · exact h
      · rw [Array.getElem?_eq_none h] at hb; cases hb
    have hH : Holds (Value.int .i64) w (L 0).blk (L 0).off os.toArray := by
      intro j hj
      have hj : j < os.length := by simpa using hj
      refine ⟨?_, ?_⟩
      · unfold World.cell?
        show (match w.heap[(L 0).blk]? with | some (.cells c _ _) => if false = true then none else c[(L 0).off + j]? | _ => none) = _
        rw [hb]
        show cs[(L 0).off + j]? = _
        have hg : (os.map (Value.int .i64))[j]? = some (Value.int .i64 os[j]) := by rw [List.getElem?_map, List.getElem?_eq_getElem hj]; rfl
        rw [← hv, List.getElem?_take, if_pos hj, List.getElem?_drop, Array.getElem?_toList] at hg
        rw [hg, getElem!_pos os.toArray j (by simpa using hj)]
        simp
      · unfold World.frozen?
        show (match w.heap[(L 0).blk]? with | some (.cells _ _ (lo, hi)) => lo ≤ (L 0).off + j && (L 0).off + j < hi | _ => false) = false
        rw [hb]
        have := hz ((L 0).off + j) (by omega)
        show (decide (z.1 ≤ (L 0).off + j) && decide ((L 0).off + j < z.2)) = false
        rw [← Bool.decide_and]
        exact decide_eq_false this
    have hhdr : (L 0).hdr = .slice (some ⟨(L 0).blk, (L 0).off, none⟩) (os.length) (L 0).cap := by
      unfold Loc.hdr
      rw [hnil, hlen]; rfl
    rw [hxs, hhdr]
    refine (Any.slices_Sort_int Ly (L 0).blk (L 0).off (L 0).cap os w hH hblk hbig).mono ?_
    rintro e' w' ⟨rfl, n, os', rfl⟩
    have hF : ∀ b, b < w.heap.size → (grow (putRow (Value.int .i64) (Sort.ahead w n) (L 0).blk (L 0).off (sortI os).toArray) os').heap[b]? = if (L 0).blk = b then (w.heap[b]?).map (onCells (putCells (Value.int .i64) (L 0).off (sortI os).toArray)) else w.heap[b]? := fun b hb => by
      show (w.heap.modify (L 0).blk (onCells (putCells (Value.int .i64) (L 0).off (sortI os).toArray)) ++ os')[b]? = _
      rw [Array.getElem?_append_left (by rw [Array.size_modify]; exact hb), Array.getElem?_modify]
    have hsl := sortI_len os
    have hnone : H (L 0).blk = none := hp.apart 0 hnil
    have hne : ∀ b o, H b = some o → (L 0).blk ≠ b := fun b o h e => by rw [← e, hnone] at h; cases h
    have hcells : (grow (putRow (Value.int .i64) (Sort.ahead w n) (L 0).blk (L 0).off (sortI os).toArray) os').heap[(L 0).blk]? = some (.cells (putCells (Value.int .i64) (L 0).off (sortI os).toArray cs) e z) := by
      rw [hF _ hblk, if_pos rfl, hb]; rfl
    have hps : (putCells (Value.int .i64) (L 0).off (sortI os).toArray cs).size = cs.size := by unfold putCells; rw [Array.size_mapIdx]
    refine ⟨_, H, L, rfl, hsr _ rfl, ?_, hl, ⟨?_, fun i hi hv => ?_, fun i _ => ⟨rfl, rfl, rfl, id⟩⟩⟩
    · refine ⟨fun i => ?_, fun b o h => ?_, fun i h => ?_, fun i j h h' he => ?_⟩
      · cases i with
        | zero =>
          refine ⟨hpur, hlen.trans hsl.symm, .inr ⟨hnil, ?_, _, e, z, hcells, ?_, ?_, ?_⟩⟩
          · show (sortI os).length ≤ (L 0).cap
            omega
          · intro o ho
            exact hz o (by omega)
          · show (L 0).off + (L 0).cap * 1 ≤ _
            omega
          · refine lvI.2 ?_
            show (((putCells (Value.int .i64) (L 0).off (sortI os).toArray cs).toList.drop (L 0).off).take ((sortI os).length * 1)) = _
            rw [Nat.mul_one]
            exact putCells_toList _ _ _ (by omega)
        | succ i => exact trivial
      · refine (hF b (by
          have := hp.agree b o h
          rcases Nat.lt_or_ge b w.heap.size with h1 | h1
          · exact h1
          · rw [Array.getElem?_eq_none h1] at this; cases this)).trans ?_
        rw [if_neg (hne b o h)]
        exact hp.agree b o h
      · cases i with
        | zero => exact hnone
        | succ i => exact absurd h id
      · cases i with
        | zero =>
          cases j with
          | zero => rfl
          | succ j => exact absurd h' id
        | succ i => exact absurd h id
    · refine ⟨fun _ _ h => h, fun b hb' ho => ?_, fun _ _ h => .inl h, fun b h => .inl (rowO_own.1 h), ?_, rfl, rfl, rfl⟩
      · refine (hF b hb').trans ?_
        rw [if_neg (fun e => ho ⟨0, hnil, e⟩)]
      · show w.heap.size ≤ (w.heap.modify (L 0).blk _ ++ os').size
        rw [Array.size_append, Array.size_modify]
        omega
    · have : i = 0 := by have hi : i < 1 := hi; omega
      subst this
      cases hv
/-- equal neighbours once -/
abbrev compI (l : List Int) : List Int := Lib.compact l
def compactS (f : Nat) : Sig := { f := f, params := [.ms 0], objs := [.row (.int .i64)], res := .ms 0, outs := [.row (.int .i64)], fix := [], run := fun _ _ os => if os.length < 4611686018427387904 then some ((), compI os) else none }
theorem compact_sound {P : Program} {ρ : Ren} (Ly : Lays2.n20 P ρ) {f : Nat} (hf : ρ.f 20 = f) (hfn : ∃ fn c, P.funcs[f]? = some fn ∧ (fn.name == "runtime.NumGoroutine") = false ∧ fn.body = some c) (k : Nat) : SoundAt P k (compactS f) := by
  subst hf
  refine ⟨hfn, fun ds (os : List Int) q hq xs w H L hx hp hl => ?_⟩
  have hq : (if os.length < 4611686018427387904 then some ((), Lib.compact os) else none) = some q := hq
  split at hq
  case isFalse => cases hq
  rename_i hbig
  cases hq
  have o0 : OR H L w (L 0) (.row (.int .i64)) os := hp.obj 0
  obtain ⟨hpur, hlen, h⟩ := o0
  have hlen : (L 0).len = os.length := hlen
  have hxs : xs = #[(L 0).hdr] := by
    have hx : SRs H L [⟨.ms 0, ds⟩] xs.toList := hx
    generalize hl' : xs.toList = l at hx
    cases hx with
    | cons h1 h2 =>
      cases h2
      obtain ⟨us, ⟨hus, _⟩, rfl⟩ := h1
      subst hus
      rw [← Array.toArray_toList (xs := xs), hl']
      rfl
  have hlive : (L 0).live = true := by
    have hx : SRs H L [⟨.ms 0, ds⟩] xs.toList := hx
    generalize hl' : xs.toList = l at hx
    cases hx with
    | cons h1 h2 =>
      obtain ⟨us, ⟨_, h⟩, _⟩ := h1
      exact h
  by_cases h0 : os.length = 0
  · have hos : os = ([] : List Int) := List.eq_nil_of_length_eq_zero h0
    subst hos
    have hh : ∃ p cap, (L 0).hdr = .slice p 0 cap := by
      unfold Loc.hdr
      split
      · exact ⟨_, _, rfl⟩
      · rw [hlen]; exact ⟨_, _, rfl⟩
    obtain ⟨p, cap, hh⟩ := hh
    rw [hxs, hh]
    refine (Any.slices_Compact_int_empty Ly p cap w).mono ?_
    rintro e w' ⟨rfl, rfl⟩
    have hs : Lib.compact ([] : List Int) = [] := rfl
    refine ⟨_, H, L, rfl, ⟨_, ⟨rfl, hlive⟩, hh.symm⟩, ?_, hl, ⟨?_, fun i hi hv => ?_, fun i h => by cases h⟩⟩
    · show HeapOk (rowO (Lib.compact [])) H L w'
      rw [hs]
      exact hp
    · show Fr (Own (rowO []) L) H w' (Own (rowO (Lib.compact [])) L) H w'
      rw [hs]
      exact Fr.refl _ _ _
    · have : i = 0 := by have hi : i < 1 := hi; omega
      subst this
      cases hv
  · rcases h with ⟨_, h1, _⟩ | ⟨hnil, hcap, cs, e, z, hb, hz, hsz, hv⟩
    · exact absurd h1 h0
    have hcap : os.length ≤ (L 0).cap := hcap
    have hsz : (L 0).off + (L 0).cap * 1 ≤ cs.size := hsz
    have hv : (cs.toList.drop (L 0).off).take (os.length * 1) = os.map (Value.int .i64) := lvI.1 hv
    rw [Nat.mul_one] at hv hsz
    have hblk : (L 0).blk < w.heap.size := by
      rcases Nat.lt_or_ge (L 0).blk w.heap.size with h | h
      · exact h
      · rw [Array.getElem?_eq_none h] at hb; cases hb
    have hH : Holds (Value.int .i64) w (L 0).blk (L 0).off os.toArray := by
      intro j hj
      have hj : j < os.length := by simpa using hj
      refine ⟨?_, ?_⟩
      · unfold World.cell?
        show (match w.heap[(L 0).blk]? with | some (.cells c _ _) => if false = true then none else c[(L 0).off + j]? | _ => none) = _
        rw [hb]
        show cs[(L 0).off + j]? = _
        have hg : (os.map (Value.int .i64))[j]? = some (Value.int .i64 os[j]) := by rw [List.getElem?_map, List.getElem?_eq_getElem hj]; rfl
        rw [← hv, List.getElem?_take, if_pos hj, List.getElem?_drop, Array.getElem?_toList] at hg
        rw [hg, getElem!_pos os.toArray j (by simpa using hj)]
        simp
      · unfold World.frozen?
        show (match w.heap[(L 0).blk]? with | some (.cells _ _ (lo, hi)) => lo ≤ (L 0).off + j && (L 0).off + j < hi | _ => false) = false
        rw [hb]
        have := hz ((L 0).off + j) (by omega)
        show (decide (z.1 ≤ (L 0).off + j) && decide ((L 0).off + j < z.2)) = false
        rw [← Bool.decide_and]
        exact decide_eq_false this
    have hhdr : (L 0).hdr = .slice (some ⟨(L 0).blk, (L 0).off, none⟩) (os.length) (L 0).cap := by
      unfold Loc.hdr
      rw [hnil, hlen]; rfl
    rw [hxs, hhdr]
    have hsl : (Lib.compact os).length ≤ os.length := by
      unfold Lib.compact Lib.compactUpTo
      rw [List.length_map]
      exact Nat.le_trans (List.length_filter_le _ _) (by rw [List.length_range]; exact Nat.le_refl _)
    refine (Any.slices_Compact_int Ly (L 0).blk (L 0).off (L 0).cap os w hH (by omega) hcap).mono ?_
    rintro e' w' ⟨rfl, n, rfl⟩
    generalize hD : Lib.compact os ++ List.replicate (os.length - (Lib.compact os).length) 0 = D
    have hDl : D.length = os.length := by rw [← hD, List.length_append, List.length_replicate]; omega
    have hF : ∀ b, b < w.heap.size → (putRow (Value.int .i64) (Sort.ahead w n) (L 0).blk (L 0).off D.toArray).heap[b]? = if (L 0).blk = b then (w.heap[b]?).map (onCells (putCells (Value.int .i64) (L 0).off D.toArray)) else w.heap[b]? := fun b hb => by
      show (w.heap.modify (L 0).blk (onCells (putCells (Value.int .i64) (L 0).off D.toArray)))[b]? = _
      rw [Array.getElem?_modify]
    have hnone : H (L 0).blk = none := hp.apart 0 hnil
    have hne : ∀ b o, H b = some o → (L 0).blk ≠ b := fun b o h e => by rw [← e, hnone] at h; cases h
    have hcells : (putRow (Value.int .i64) (Sort.ahead w n) (L 0).blk (L 0).off D.toArray).heap[(L 0).blk]? = some (.cells (putCells (Value.int .i64) (L 0).off D.toArray cs) e z) := by
      rw [hF _ hblk, if_pos rfl, hb]; rfl
    have hps : (putCells (Value.int .i64) (L 0).off D.toArray cs).size = cs.size := by unfold putCells; rw [Array.size_mapIdx]
    let L' : Ls := fun i => if i = 0 then { L 0 with len := (Lib.compact os).length } else L i
    have hL0 : L' 0 = { L 0 with len := (Lib.compact os).length } := rfl
    have hdr' : (L' 0).hdr = .slice (some ⟨(L 0).blk, (L 0).off, none⟩) (Lib.compact os).length (L 0).cap := by
      rw [hL0]
      unfold Loc.hdr
      show (if (L 0).nil then _ else _) = _
      rw [hnil]; rfl
    have hown : ∀ b, Own (rowO (Lib.compact os)) L' b → b = (L 0).blk := by
      rintro b ⟨i, h1, h2⟩
      cases i with
      | zero => exact h2.symm
      | succ i => exact absurd h1 id
    refine ⟨_, H, L', rfl, ⟨_, ⟨rfl, hlive⟩, hdr'.symm⟩, ?_, fun i h => ?_, ⟨?_, fun i hi hv => ?_, fun i h => by cases h⟩⟩
    · refine ⟨fun i => ?_, fun b o h => ?_, fun i h => ?_, fun i j h h' he => ?_⟩
      · cases i with
        | zero =>
          refine ⟨hpur, rfl, .inr ⟨hnil, ?_, _, e, z, hcells, ?_, ?_, ?_⟩⟩
          · show (Lib.compact os).length ≤ (L 0).cap
            omega
          · intro o ho
            exact hz o (by omega)
          · show (L 0).off + (L 0).cap * 1 ≤ _
            omega
          · refine lvI.2 ?_
            show (((putCells (Value.int .i64) (L 0).off D.toArray cs).toList.drop (L 0).off).take ((Lib.compact os).length * 1)) = _
            have h1 := putCells_toList (L 0).off D cs (by omega)
            have h2 := congrArg (List.take (Lib.compact os).length) h1
            rw [List.take_take, Nat.min_eq_left (by omega), ← List.map_take, ← hD, List.take_left] at h2
            rw [Nat.mul_one, ← hD]
            exact h2
        | succ i => exact trivial
      · refine (hF b (by
          have := hp.agree b o h
          rcases Nat.lt_or_ge b w.heap.size with h1 | h1
          · exact h1
          · rw [Array.getElem?_eq_none h1] at this; cases this)).trans ?_
        rw [if_neg (hne b o h)]
        exact hp.agree b o h
      · cases i with
        | zero => exact hnone
        | succ i => exact absurd h id
      · cases i with
        | zero =>
          cases j with
          | zero => rfl
          | succ j => exact absurd h' id
        | succ i => exact absurd h id
    · cases i with
      | zero => exact Nat.zero_lt_one
      | succ i => exact hl (i + 1) h
    · refine ⟨fun _ _ h => h, fun b hb' ho => ?_, fun _ _ h => .inl h, fun b h => .inl ⟨0, hnil, (hown b h).symm⟩, ?_, rfl, rfl, rfl⟩
      · refine (hF b hb').trans ?_
        rw [if_neg (fun e => ho ⟨0, hnil, e⟩)]
      · show w.heap.size ≤ (w.heap.modify (L 0).blk _).size
        rw [Array.size_modify]
        exact Nat.le_refl _
    · have : i = 0 := by have hi : i < 1 := hi; omega
      subst this
      cases hv
end Go.Proofs.YtcppmlgnceldmaaGreat.Gp

/-
  DERIVED: THE SHELF's CONTRACTS AT THIS DUMP, IN PLAIN WORDS (tools/lay-plain.mjs out of 'YtcppmlgnceldmaaGreatShelf.lean', which tools/lay-shelf.mjs wrote): THE SAME DECLARATIONS UNDER THE SAME NAMES: 'import', 'namespace', 'open', 'def', 'theorem' AND NOTHING ELSE: no command of the shelf's: FOR A HAND-IN. Each laying: the table of numbers ('.._ren') and one theorem, a field a fact of the dump's own or the kernel's comparison; each contract: ONE APPLICATION.
-/
namespace Go.Proofs
open Go.Shelf
def Tryz.lays189_ren : Go.Shelf.Ren := ⟨fun | 189 => 91 | 125 => 128 | 257 => 127 | 128 => 162 | 129 => 163 | 294 => 153 | 295 => 154 | 296 => 155 | 297 => 156 | 298 => 157 | 299 => 158 | 216 => 159 | 300 => 160 | 301 => 161 | 328 => 179 | 329 => 180 | 330 => 181 | 331 => 182 | 332 => 183 | 215 => 184 | 343 => 185 | n => n, fun | 28 => 54 | 3 => 3 | 46 => 160 | 0 => 0 | 51 => 231 | 53 => 233 | 4 => 4 | 183 => 224 | 182 => 223 | 131 => 180 | 5 => 5 | 9 => 9 | 218 => 241 | 222 => 245 | 228 => 247 | 229 => 219 | n => n, fun | n => n⟩
theorem Tryz.lays189 : Go.Proofs.Lays.n189 Tryz.prog Tryz.lays189_ren := {
  mixed := by kernel_rfl
  f125 := Tryz.func128.trans (congrArg some (by kernel_rfl))
  f128 := Tryz.func162.trans (congrArg some (by kernel_rfl))
  f129 := Tryz.func163.trans (congrArg some (by kernel_rfl))
  f189 := Tryz.func91.trans (congrArg some (by kernel_rfl))
  f215 := Tryz.func184.trans (congrArg some (by kernel_rfl))
  f216 := Tryz.func159.trans (congrArg some (by kernel_rfl))
  f257 := Tryz.func127.trans (congrArg some (by kernel_rfl))
  f294 := Tryz.func153.trans (congrArg some (by kernel_rfl))
  f295 := Tryz.func154.trans (congrArg some (by kernel_rfl))
  f296 := Tryz.func155.trans (congrArg some (by kernel_rfl))
  f297 := Tryz.func156.trans (congrArg some (by kernel_rfl))
  f298 := Tryz.func157.trans (congrArg some (by kernel_rfl))
  f299 := Tryz.func158.trans (congrArg some (by kernel_rfl))
  f300 := Tryz.func160.trans (congrArg some (by kernel_rfl))
  f301 := Tryz.func161.trans (congrArg some (by kernel_rfl))
  f328 := Tryz.func179.trans (congrArg some (by kernel_rfl))
  f329 := Tryz.func180.trans (congrArg some (by kernel_rfl))
  f330 := Tryz.func181.trans (congrArg some (by kernel_rfl))
  f331 := Tryz.func182.trans (congrArg some (by kernel_rfl))
  f332 := Tryz.func183.trans (congrArg some (by kernel_rfl))
  f343 := Tryz.func185.trans (congrArg some (by kernel_rfl))
  t0 := Tryz.underlying0
  a0 := Tryz.isAgg0
  z0 := Tryz.sizeOf0
  v0 := Tryz.zeroValue0
  t3 := Tryz.underlying3
  a3 := Tryz.isAgg3
  z3 := Tryz.sizeOf3
  v3 := Tryz.zeroValue3
  t4 := Tryz.underlying4
  a4 := Tryz.isAgg4
  z4 := Tryz.sizeOf4
  v4 := Tryz.zeroValue4
  t5 := Tryz.underlying5
  a5 := Tryz.isAgg5
  z5 := Tryz.sizeOf5
  v5 := Tryz.zeroValue5
  t9 := Tryz.underlying9
  a9 := Tryz.isAgg9
  z9 := Tryz.sizeOf9
  v9 := Tryz.zeroValue9
  t28 := Tryz.underlying54
  a28 := Tryz.isAgg54
  z28 := Tryz.sizeOf54
  v28 := Tryz.zeroValue54
  t46 := Tryz.underlying160
  a46 := Tryz.isAgg160
  z46 := Tryz.sizeOf160
  v46 := Tryz.zeroValue160
  t51 := Tryz.underlying231
  a51 := Tryz.isAgg231
  z51 := Tryz.sizeOf231
  v51 := Tryz.zeroValue231
  t53 := Tryz.underlying233
  a53 := Tryz.isAgg233
  z53 := Tryz.sizeOf233
  v53 := Tryz.zeroValue233
  t131 := Tryz.underlying180
  a131 := Tryz.isAgg180
  z131 := Tryz.sizeOf180
  v131 := Tryz.zeroValue180
  t182 := Tryz.underlying223
  a182 := Tryz.isAgg223
  z182 := Tryz.sizeOf223
  v182 := Tryz.zeroValue223
  t183 := Tryz.underlying224
  a183 := Tryz.isAgg224
  z183 := Tryz.sizeOf224
  v183 := Tryz.zeroValue224
  t218 := Tryz.underlying241
  a218 := Tryz.isAgg241
  z218 := Tryz.sizeOf241
  v218 := Tryz.zeroValue241
  t222 := Tryz.underlying245
  a222 := Tryz.isAgg245
  z222 := Tryz.sizeOf245
  v222 := Tryz.zeroValue245
  t228 := Tryz.underlying247
  a228 := Tryz.isAgg247
  z228 := Tryz.sizeOf247
  v228 := Tryz.zeroValue247
  t229 := Tryz.underlying219
  a229 := Tryz.isAgg219
  z229 := Tryz.sizeOf219
  v229 := Tryz.zeroValue219 }
def Tryz.lays2_20_ren : Go.Shelf.Ren := ⟨fun | 20 => 92 | n => n, fun | 22 => 54 | 3 => 3 | 4 => 4 | 0 => 0 | n => n, fun | n => n⟩
theorem Tryz.lays2_20 : Go.Proofs.Lays2.n20 Tryz.prog Tryz.lays2_20_ren := {
  mixed := by kernel_rfl
  f20 := Tryz.func92.trans (congrArg some (by kernel_rfl))
  t0 := Tryz.underlying0
  a0 := Tryz.isAgg0
  z0 := Tryz.sizeOf0
  v0 := Tryz.zeroValue0
  t3 := Tryz.underlying3
  a3 := Tryz.isAgg3
  z3 := Tryz.sizeOf3
  v3 := Tryz.zeroValue3
  t4 := Tryz.underlying4
  a4 := Tryz.isAgg4
  z4 := Tryz.sizeOf4
  v4 := Tryz.zeroValue4
  t22 := Tryz.underlying54
  a22 := Tryz.isAgg54
  z22 := Tryz.sizeOf54
  v22 := Tryz.zeroValue54
  i3 := by kernel_rfl }
end Go.Proofs

/- Given contracts. -/
set_option linter.unusedVariables false
set_option maxRecDepth 100000
noncomputable section
namespace Go.Proofs.YtcppmlgnceldmaaGreat.Fl
open Go Go.Proofs.YtcppmlgnceldmaaGreat.Gp
def Sort91 (k : Nat) (_ : Unit) (o0 : List Int) : Option (Unit × List Int) := if o0.length < 4611686018427387904 then some ((), sortI o0) else none
def Sort91.S : Sig := sortS 91
theorem Sort91.ok (k : Nat) : SoundAt Tryz.prog k Sort91.S := sort_sound Tryz.lays189 rfl ⟨Tryz.f91, codeOf Tryz.f91, rfl, by kernel_rfl, rfl⟩ k

def Compact92 (k : Nat) (_ : Unit) (o0 : List Int) : Option (Unit × List Int) := if o0.length < 4611686018427387904 then some ((), compI o0) else none
def Compact92.S : Sig := compactS 92
theorem Compact92.ok (k : Nat) : SoundAt Tryz.prog k Compact92.S := compact_sound Tryz.lays2_20 rfl ⟨Tryz.f92, codeOf Tryz.f92, rfl, by kernel_rfl, rfl⟩ k
end Go.Proofs.YtcppmlgnceldmaaGreat.Fl

/- Go functions as plain Lean functions, and their contracts. -/
set_option linter.unusedVariables false
set_option maxRecDepth 100000
noncomputable section
namespace Go.Proofs.YtcppmlgnceldmaaGreat.Fl
open Go Go.Proofs.YtcppmlgnceldmaaGreat.Gp
def leads54.l0 (k : Nat) (t30 : tY113) (t35 : tY58) : tY47 → Option (tY47 ⊕ tY50)
  | (_, _, t38, o1, o2, o3, o4) =>
    cond (decide (t38 < (List.length t35.1 : Int)))
      ((rd t35.1 t38).bind fun t40 =>
      (whole90' k () 7 t40).bind fun t43 =>
      Option.bind
        (cond (t43.1 == (-1))
          (some ((), (), (), o1, o2, (o3.1, o3.2.1, true, o3.2.2.2), o4, t43.2))
          ((if room (List.length o4 + List.length ([t43.1] : List Int)) 8 then some () else none).bind fun _ =>
          some ((), (), (), o1, o2, (o3.1, o3.2.1, o3.2.2), (o4 ++ ([t43.1] : List Int)), t43.2)) : Option tY17) fun ((_, _, _, o1_1, o2_1, o3_1, o4_1, o5) : tY17) =>
      Option.bind (cond (decide ((List.length o5.2.2 : Int) ≥ 2))
        ((rd o5.2.2 (w64 ((List.length o5.2.2 : Int) - 2))).bind fun t63 =>
        some (t63 == (shrI .i64 t30.1 8)))
        (some false)) fun t68 =>
      Option.bind (cond t68
        ((rd o5.2.2 (w64 ((List.length o5.2.2 : Int) - 1))).bind fun t74 =>
        some (t74 == (ibits .and .i64 t30.1 255)))
        (some false)) fun t79 =>
      Option.bind
        (cond t79
          (some ((), (), o1_1, o2_1, (o3_1.1, o3_1.2.1, o3_1.2.2.1, true), o4_1))
          (some ((), (), o1_1, o2_1, o3_1, o4_1)) : Option tY50) fun ((_, _, o1_2, o2_2, o3_2, o4_2) : tY50) =>
      some (Sum.inl ((), (), (w64 (t38 + 1)), o1_2, o2_2, o3_2, o4_2)))
      (some (Sum.inr ((), (), o1, o2, o3, o4)))
def leads54 (k : Nat) (code : tY92) (x : tY61) (addr : Int) (r : tY110) : Option ((tY96 × tY58) × Unit) :=
  (Low70 k (w64 (addr + 1)) 16).bind fun t19 =>
  (set88 k () 7 t19.1 r).bind fun t20 =>
  (Size33 k x.2.2.1).bind fun t23 =>
  let t24 : Int := (w64 (1 + t23.1))
  (Low70 k (w64 (addr + t24)) 16).bind fun t30 =>
  (ends89 k code x.2.2.2 t20.2).bind fun t35 =>
  Option.bind
    (loopN (leads54.l0 k t30 t35) k ((), (), 0, (0, (), false, false), [], (t24, (), false, false), []) : Option tY50) fun ((_, _, _, _, o3_3, o4_3) : tY50) =>
  (Sort91 k () o4_3).bind fun t84 =>
  (Compact92 k () t84.2).bind fun t87 =>
  some (((o3_3.1, t87.2, o3_3.2.2), t35.1, ()), ())
def leads54.A : Ann := { conds := [(2949130, ⟨[(8, .ptr 1 []), (10, .ptr 3 []), (14, .ptr 5 [])], [(1, .var kY33), (2, .row kY51), (3, .var kY34), (4, .row kY51), (5, .var kY10)], 6, [], 8936830510563328⟩), (5177358, ⟨[(8, .ptr 1 []), (10, .ptr 3 [])], [(1, .var kY33), (2, .row kY51), (3, .var kY34), (4, .row kY51)], 5, [], 1208925819614629174706176⟩)], blocks := [(0, ⟨[(8, .ptr 1 []), (10, .ptr 3 [])], [(1, .var kY33), (2, .row kY51), (3, .var kY34), (4, .row kY51)], 5, [], 4835703278458241821032448⟩)], loops := [(6, ⟨[(8, .ptr 1 []), (10, .ptr 3 []), (38, .int .i64)], [(1, .var kY33), (2, .row kY51), (3, .var kY34), (4, .row kY51)], 5, [], 4835703278458241821032448⟩)], keeps := [4, 5], orders := [], turns := [(0, [⟨1, [(2, .int .i64)], .st kY35⟩]), (2, [⟨3, [(4, .int .i64)], .st kY36⟩])] }
def leads54.S : Sig := { f := 54, params := [.st kY24, .st kY9, .int .i64, .arr 9 kY44], objs := [], res := .tup (.pair kY28 (.pair (.sl kY10) .unit)), outs := [], fix := [], run := fun k ds os => leads54 k ds.1 ds.2.1 ds.2.2.1 ds.2.2.2 }
def leads54.G : List Sig := [Compact92.S, Low70.S, Size33.S, Sort91.S, ends89.S, set88.S, whole90'.S]
theorem leads54.eq (k : Nat) : ∀ ds os, leads54.S.run k ds os = runF ⟨types, leads54.G, leads54.A, k, 0, []⟩ Tryz.f54 (codeOf Tryz.f54) leads54.S.params leads54.S.objs leads54.S.res leads54.S.outs ds os := by
  intro ds os; kernel_rfl
theorem leads54.dr : DrOk Tryz.prog leads54.A (codeOf Tryz.f54) := ⟨by kernel_rfl, by kernel_rfl⟩
theorem leads54.ok (k : Nat) : SoundAt Tryz.prog k leads54.S :=
  runF_sound (X := ⟨types, leads54.G, leads54.A, k, 0, []⟩) types_ok (mem_all (⟨Compact92.ok k, ⟨Low70.ok k, ⟨Size33.ok k, ⟨Sort91.ok k, ⟨ends89.ok k, ⟨set88.ok k, ⟨whole90'.ok k, trivial⟩⟩⟩⟩⟩⟩⟩)) (fn := Tryz.f54) (c := codeOf Tryz.f54) rfl (by kernel_rfl) rfl rfl leads54.dr (leads54.eq k)

def Next18 (k : Nat) (c : tY12) (code : tY92) (addr : Int) : Option tY83 :=
  (Check20 k c code).bind fun t15 =>
  cond (t15.1 != 0)
    (some (((0, [], false, false), t15.1, ()), ()))
    ((begun53 k c code addr).bind fun t24 =>
    cond (t24.1.2.1 != 0)
      (some (((0, [], false, false), t24.1.2.1, ()), ()))
      (Option.bind
        (agree
          ((none55 k).bind fun t35 =>
          agree
            ((leads54 k code t24.1.1 addr t35.1).bind fun t36 =>
            some ((), t36.1.1, 0, (), false, false))
            ((leads54 k code t24.1.1 addr t35.1).bind fun t36_1 =>
            some ((), t36_1.1.1, 0, (), false, false)))
          ((none55 k).bind fun t35_1 =>
          (leads54 k code t24.1.1 addr t35_1.1).bind fun t36_2 =>
          some ((), t36_2.1.1, 0, (), false, false)) : Option tY70) fun ((_, w, _) : tY70) =>
      some ((w, 0, ()), ())))
def Next18.A : Ann := { conds := [], blocks := [], loops := [], keeps := [3, 4, 9, 11], orders := [], alts := [(7, ((.op 0 .strong (.op 1 .strong (.op 2 .strong (.alt (.op 3 (.eff true) (.alt (.op 4 (.eff true) (.op 5 .strong (.op 6 .strong (.op 7 .weak (.op 8 (.eff true) (.op 9 (.eff false) (.op 10 .strong (.leaf [])))))))) (.op 8 (.eff true) (.op 4 (.eff true) (.op 5 .strong (.op 6 .strong (.op 7 .weak (.op 9 (.eff false) (.op 10 .strong (.leaf [])))))))))) (.op 8 (.eff true) (.op 3 (.eff true) (.op 4 (.eff true) (.op 5 .strong (.op 6 .strong (.op 7 .weak (.op 9 (.eff false) (.op 10 .strong (.leaf []))))))))))))), ⟨[(6, .ptr 0 []), (11, .fp kY28)], [(0, .var (.st kY38))], 1, [], 547608336384⟩))] }
def Next18.S : Sig := { f := 18, params := [.st kY1, .st kY24, .int .i64], objs := [], res := .tup kY18, outs := [], fix := [], run := fun k ds os => Next18 k ds.1 ds.2.1 ds.2.2 }
def Next18.G : List Sig := [Check20.S, begun53.S, leads54.S, none55.S]
theorem Next18.eq (k : Nat) : ∀ ds os, Next18.S.run k ds os = runF ⟨types, Next18.G, Next18.A, k, 0, []⟩ Tryz.f18 (codeOf Tryz.f18) Next18.S.params Next18.S.objs Next18.S.res Next18.S.outs ds os := by
  intro ds os; kernel_rfl
theorem Next18.dr : DrOk Tryz.prog Next18.A (codeOf Tryz.f18) := ⟨by kernel_rfl, by kernel_rfl⟩
theorem Next18.ok (k : Nat) : SoundAt Tryz.prog k Next18.S :=
  runF_sound (X := ⟨types, Next18.G, Next18.A, k, 0, []⟩) types_ok (mem_all (⟨Check20.ok k, ⟨begun53.ok k, ⟨leads54.ok k, ⟨none55.ok k, trivial⟩⟩⟩⟩)) (fn := Tryz.f18) (c := codeOf Tryz.f18) rfl (by kernel_rfl) rfl rfl Next18.dr (Next18.eq k)

def two118 (k : Nat) (do_ : Int) (to : Int) (from_ : Int) : Option tY97 :=
  some ((do_, to, from_, 0), ())
def two118.A : Ann := { conds := [], blocks := [], loops := [], keeps := [], orders := [] }
def two118.S : Sig := { f := 118, params := [.int .i64, .int .i64, .int .i64], objs := [], res := .st kY27, outs := [], fix := [], run := fun k ds os => two118 k ds.1 ds.2.1 ds.2.2 }
def two118.G : List Sig := []
theorem two118.eq (k : Nat) : ∀ ds os, two118.S.run k ds os = runF ⟨types, two118.G, two118.A, k, 0, []⟩ Tryz.f118 (codeOf Tryz.f118) two118.S.params two118.S.objs two118.S.res two118.S.outs ds os := by
  intro ds os; kernel_rfl
theorem two118.dr : DrOk Tryz.prog two118.A (codeOf Tryz.f118) := ⟨by kernel_rfl, by kernel_rfl⟩
theorem two118.ok (k : Nat) : SoundAt Tryz.prog k two118.S :=
  runF_sound (X := ⟨types, two118.G, two118.A, k, 0, []⟩) types_ok (fun s hs => absurd hs List.not_mem_nil) (fn := Tryz.f118) (c := codeOf Tryz.f118) rfl (by kernel_rfl) rfl rfl two118.dr (two118.eq k)

def one119 (k : Nat) (do_ : Int) (to : Int) : Option tY97 :=
  some ((do_, to, 0, 0), ())
def one119.A : Ann := { conds := [], blocks := [], loops := [], keeps := [], orders := [] }
def one119.S : Sig := { f := 119, params := [.int .i64, .int .i64], objs := [], res := .st kY27, outs := [], fix := [], run := fun k ds os => one119 k ds.1 ds.2 }
def one119.G : List Sig := []
theorem one119.eq (k : Nat) : ∀ ds os, one119.S.run k ds os = runF ⟨types, one119.G, one119.A, k, 0, []⟩ Tryz.f119 (codeOf Tryz.f119) one119.S.params one119.S.objs one119.S.res one119.S.outs ds os := by
  intro ds os; kernel_rfl
theorem one119.dr : DrOk Tryz.prog one119.A (codeOf Tryz.f119) := ⟨by kernel_rfl, by kernel_rfl⟩
theorem one119.ok (k : Nat) : SoundAt Tryz.prog k one119.S :=
  runF_sound (X := ⟨types, one119.G, one119.A, k, 0, []⟩) types_ok (fun s hs => absurd hs List.not_mem_nil) (fn := Tryz.f119) (c := codeOf Tryz.f119) rfl (by kernel_rfl) rfl rfl one119.dr (one119.eq k)

def zero178 (k : Nat) : Option tY97 :=
  some ((2, 8, 0, 0), ())
def zero178.A : Ann := { conds := [], blocks := [], loops := [], keeps := [], orders := [] }
def zero178.S : Sig := { f := 178, params := [], objs := [], res := .st kY27, outs := [], fix := [], run := fun k ds os => zero178 k }
def zero178.G : List Sig := []
theorem zero178.eq (k : Nat) : ∀ ds os, zero178.S.run k ds os = runF ⟨types, zero178.G, zero178.A, k, 0, []⟩ Tryz.f178 (codeOf Tryz.f178) zero178.S.params zero178.S.objs zero178.S.res zero178.S.outs ds os := by
  intro ds os; kernel_rfl
theorem zero178.dr : DrOk Tryz.prog zero178.A (codeOf Tryz.f178) := ⟨by kernel_rfl, by kernel_rfl⟩
theorem zero178.ok (k : Nat) : SoundAt Tryz.prog k zero178.S :=
  runF_sound (X := ⟨types, zero178.G, zero178.A, k, 0, []⟩) types_ok (fun s hs => absurd hs List.not_mem_nil) (fn := Tryz.f178) (c := codeOf Tryz.f178) rfl (by kernel_rfl) rfl rfl zero178.dr (zero178.eq k)
end Go.Proofs.YtcppmlgnceldmaaGreat.Fl

/- Go functions as plain Lean functions, and their contracts. -/
set_option linter.unusedVariables false
set_option maxRecDepth 100000
noncomputable section
namespace Go.Proofs.YtcppmlgnceldmaaGreat.Fl
open Go Go.Proofs.YtcppmlgnceldmaaGreat.Gp
def rd81 (k : Nat) (at_ : Int) (reg : Int) (_ : Unit) (o0 : tY99) : Option (tY102 × tY99) :=
  some ((1, at_, reg, ()), o0)
def rd81.A : Ann := { conds := [], blocks := [], loops := [], keeps := [], orders := [] }
def rd81.S : Sig := { f := 81, params := [.int .i64, .int .i64, .ms 0], objs := [.row kY25], res := .st (.pair kY51 (.pair kY51 (.pair kY51 (.ms 0)))), outs := [.row kY25], fix := [], run := fun k ds os => rd81 k ds.1 ds.2.1 ds.2.2 os }
def rd81.G : List Sig := []
theorem rd81.eq (k : Nat) : ∀ ds os, rd81.S.run k ds os = runF ⟨types, rd81.G, rd81.A, k, 0, []⟩ Tryz.f81 (codeOf Tryz.f81) rd81.S.params rd81.S.objs rd81.S.res rd81.S.outs ds os := by
  intro ds os; kernel_rfl
theorem rd81.dr : DrOk Tryz.prog rd81.A (codeOf Tryz.f81) := ⟨by kernel_rfl, by kernel_rfl⟩
theorem rd81.ok (k : Nat) : SoundAt Tryz.prog k rd81.S :=
  runF_sound (X := ⟨types, rd81.G, rd81.A, k, 0, []⟩) types_ok (fun s hs => absurd hs List.not_mem_nil) (fn := Tryz.f81) (c := codeOf Tryz.f81) rfl (by kernel_rfl) rfl rfl rd81.dr (rd81.eq k)

def no117 (k : Nat) (steps : tY99) : Option tY80 :=
  some ((0, 0, 0, steps), ())
def no117.A : Ann := { conds := [], blocks := [], loops := [], keeps := [], orders := [] }
def no117.S : Sig := { f := 117, params := [.sl kY25], objs := [], res := .st kY17, outs := [], fix := [], run := fun k ds os => no117 k ds }
def no117.G : List Sig := []
theorem no117.eq (k : Nat) : ∀ ds os, no117.S.run k ds os = runF ⟨types, no117.G, no117.A, k, 0, []⟩ Tryz.f117 (codeOf Tryz.f117) no117.S.params no117.S.objs no117.S.res no117.S.outs ds os := by
  intro ds os; kernel_rfl
theorem no117.dr : DrOk Tryz.prog no117.A (codeOf Tryz.f117) := ⟨by kernel_rfl, by kernel_rfl⟩
theorem no117.ok (k : Nat) : SoundAt Tryz.prog k no117.S :=
  runF_sound (X := ⟨types, no117.G, no117.A, k, 0, []⟩) types_ok (fun s hs => absurd hs List.not_mem_nil) (fn := Tryz.f117) (c := codeOf Tryz.f117) rfl (by kernel_rfl) rfl rfl no117.dr (no117.eq k)

def rd81' (k : Nat) (at_ : Int) (reg : Int) (steps : tY99) : Option tY80 :=
  some ((1, at_, reg, steps), ())
def rd81'.A : Ann := { conds := [], blocks := [], loops := [], keeps := [], orders := [] }
def rd81'.S : Sig := { f := 81, params := [.int .i64, .int .i64, .sl kY25], objs := [], res := .st kY17, outs := [], fix := [], run := fun k ds os => rd81' k ds.1 ds.2.1 ds.2.2 }
def rd81'.G : List Sig := []
theorem rd81'.eq (k : Nat) : ∀ ds os, rd81'.S.run k ds os = runF ⟨types, rd81'.G, rd81'.A, k, 0, []⟩ Tryz.f81 (codeOf Tryz.f81) rd81'.S.params rd81'.S.objs rd81'.S.res rd81'.S.outs ds os := by
  intro ds os; kernel_rfl
theorem rd81'.dr : DrOk Tryz.prog rd81'.A (codeOf Tryz.f81) := ⟨by kernel_rfl, by kernel_rfl⟩
theorem rd81'.ok (k : Nat) : SoundAt Tryz.prog k rd81'.S :=
  runF_sound (X := ⟨types, rd81'.G, rd81'.A, k, 0, []⟩) types_ok (fun s hs => absurd hs List.not_mem_nil) (fn := Tryz.f81) (c := codeOf Tryz.f81) rfl (by kernel_rfl) rfl rfl rd81'.dr (rd81'.eq k)

def jump82 (k : Nat) (to : Int) : Option tY93 :=
  (two118 k 18 to 5).bind fun t4 =>
  (two118 k 19 to 6).bind fun t6 =>
  some ((), [t4.1, t6.1])
def jump82.A : Ann := { conds := [], blocks := [], loops := [], keeps := [], orders := [] }
def jump82.S : Sig := { f := 82, params := [.int .i64], objs := [], res := .ms 0, outs := [.row kY25], fix := [], run := fun k ds os => jump82 k ds }
def jump82.G : List Sig := [two118.S]
theorem jump82.eq (k : Nat) : ∀ ds os, jump82.S.run k ds os = runF ⟨types, jump82.G, jump82.A, k, 0, []⟩ Tryz.f82 (codeOf Tryz.f82) jump82.S.params jump82.S.objs jump82.S.res jump82.S.outs ds os := by
  intro ds os; kernel_rfl
theorem jump82.dr : DrOk Tryz.prog jump82.A (codeOf Tryz.f82) := ⟨by kernel_rfl, by kernel_rfl⟩
theorem jump82.ok (k : Nat) : SoundAt Tryz.prog k jump82.S :=
  runF_sound (X := ⟨types, jump82.G, jump82.A, k, 0, []⟩) types_ok (mem_all (⟨two118.ok k, trivial⟩)) (fn := Tryz.f82) (c := codeOf Tryz.f82) rfl (by kernel_rfl) rfl rfl jump82.dr (jump82.eq k)

def lead150 (k : Nat) (mode : Int) : Option tY75 :=
  (zero178 k).bind fun t6 =>
  (two118 k 18 8 5).bind fun t7 =>
  (rd81 k 0 5 () [t6.1, t7.1]).bind fun t9 =>
  (two118 k 18 8 5).bind fun t10 =>
  (rd81 k 0 5 () [t10.1]).bind fun t12 =>
  (two118 k 19 8 5).bind fun t13 =>
  (rd81 k 0 5 () [t13.1]).bind fun t15 =>
  cond (mode == 2)
    (some ((), [(t9.1.1, t9.1.2.1, t9.1.2.2.1, t9.2)]))
    (cond (mode == 3)
      ((two118 k 22 8 1).bind fun t25 =>
      (if room (List.length t9.2 + List.length [t25.1]) 32 then some () else none).bind fun _ =>
      (two118 k 20 5 8).bind fun t30 =>
      (zero178 k).bind fun t31 =>
      (two118 k 18 8 5).bind fun t32 =>
      (no117 k [t30.1, t31.1, t32.1]).bind fun t34 =>
      some ((), [(t9.1.1, t9.1.2.1, t9.1.2.2.1, (t9.2 ++ [t25.1])), t34.1]))
      (cond (mode == 4)
        (some ((), [(t12.1.1, t12.1.2.1, t12.1.2.2.1, t12.2), (t15.1.1, t15.1.2.1, t15.1.2.2.1, t15.2)]))
        (cond (mode == 5)
          ((two118 k 22 8 1).bind fun t45 =>
          (no117 k [t45.1]).bind fun t47 =>
          some ((), [(t12.1.1, t12.1.2.1, t12.1.2.2.1, t12.2), (t15.1.1, t15.1.2.1, t15.1.2.2.1, t15.2), t47.1]))
          (cond (mode == 6)
            ((two118 k 22 8 2).bind fun t53 =>
            (no117 k [t53.1]).bind fun t55 =>
            some ((), [(t12.1.1, t12.1.2.1, t12.1.2.2.1, t12.2), (t15.1.1, t15.1.2.1, t15.1.2.2.1, t15.2), t55.1]))
            (cond (mode == 8)
              ((rd81' k 2 5 []).bind fun t60 =>
              (jump82 k 8).bind fun t61 =>
              (two118 k 22 8 2).bind fun t62 =>
              (if room (List.length t61.2 + List.length [t62.1]) 32 then some () else none).bind fun _ =>
              (rd81 k 3 6 () (t61.2 ++ [t62.1])).bind fun t65 =>
              some ((), [(t9.1.1, t9.1.2.1, t9.1.2.2.1, t9.2), t60.1, (t65.1.1, t65.1.2.1, t65.1.2.2.1, t65.2)]))
              (some ((), [])))))))
def lead150.A : Ann := { conds := [], blocks := [], loops := [], keeps := [], orders := [(8, [(0, .strong), (1, .strong), (2, .eff true), (3, .eff true), (4, .eff false), (5, .strong), (6, .eff false)]), (9, [(0, .strong), (1, .eff true), (2, .eff true), (3, .eff true), (4, .eff true), (5, .eff true), (6, .eff true), (7, .strong)]), (13, [(0, .strong), (1, .strong), (2, .eff true), (3, .eff true), (4, .eff true), (5, .eff true), (6, .strong)]), (15, [(0, .strong), (1, .strong), (2, .eff true), (3, .eff true), (4, .eff true), (5, .eff true), (6, .strong)]), (17, [(0, .weak), (1, .eff true), (2, .eff true), (3, .eff true), (4, .eff true), (5, .eff false), (6, .eff false), (7, .eff true), (8, .strong)])], turns := [(16, [⟨1, [(0, .unit)], .undef⟩])] }
def lead150.S : Sig := { f := 150, params := [.int .i64], objs := [], res := .ms 0, outs := [.row kY16], fix := [], run := fun k ds os => lead150 k ds }
def lead150.G : List Sig := [jump82.S, no117.S, rd81.S, rd81'.S, two118.S, zero178.S]
theorem lead150.eq (k : Nat) : ∀ ds os, lead150.S.run k ds os = runF ⟨types, lead150.G, lead150.A, k, 0, []⟩ Tryz.f150 (codeOf Tryz.f150) lead150.S.params lead150.S.objs lead150.S.res lead150.S.outs ds os := by
  intro ds os; kernel_rfl
theorem lead150.dr : DrOk Tryz.prog lead150.A (codeOf Tryz.f150) := ⟨by kernel_rfl, by kernel_rfl⟩
theorem lead150.ok (k : Nat) : SoundAt Tryz.prog k lead150.S :=
  runF_sound (X := ⟨types, lead150.G, lead150.A, k, 0, []⟩) types_ok (mem_all (⟨jump82.ok k, ⟨no117.ok k, ⟨rd81.ok k, ⟨rd81'.ok k, ⟨two118.ok k, ⟨zero178.ok k, trivial⟩⟩⟩⟩⟩⟩)) (fn := Tryz.f150) (c := codeOf Tryz.f150) rfl (by kernel_rfl) rfl rfl lead150.dr (lead150.eq k)

def rd81'' (k : Nat) (at_ : Int) (reg : Int) (steps : tY99) : Option tY80 :=
  some ((1, at_, reg, steps), ())
def rd81''.A : Ann := { conds := [], blocks := [], loops := [], keeps := [], orders := [] }
def rd81''.S : Sig := { f := 81, params := [.int .i64, .int .i64, .sl kY25], objs := [], res := .st kY17, outs := [], fix := [], run := fun k ds os => rd81'' k ds.1 ds.2.1 ds.2.2 }
def rd81''.G : List Sig := []
theorem rd81''.eq (k : Nat) : ∀ ds os, rd81''.S.run k ds os = runF ⟨types, rd81''.G, rd81''.A, k, 0, []⟩ Tryz.f81 (codeOf Tryz.f81) rd81''.S.params rd81''.S.objs rd81''.S.res rd81''.S.outs ds os := by
  intro ds os; kernel_rfl
theorem rd81''.dr : DrOk Tryz.prog rd81''.A (codeOf Tryz.f81) := ⟨by kernel_rfl, by kernel_rfl⟩
theorem rd81''.ok (k : Nat) : SoundAt Tryz.prog k rd81''.S :=
  runF_sound (X := ⟨types, rd81''.G, rd81''.A, k, 0, []⟩) types_ok (fun s hs => absurd hs List.not_mem_nil) (fn := Tryz.f81) (c := codeOf Tryz.f81) rfl (by kernel_rfl) rfl rfl rd81''.dr (rd81''.eq k)

def reads149 (k : Nat) (mode : Int) (steps : tY99) : Option tY76 :=
  Option.bind
    (cond (mode == 1)
      (some 0)
      (some 2) : Option Int) fun (at_ : Int) =>
  (lead150 k mode).bind fun t9 =>
  (rd81'' k at_ 5 steps).bind fun t12 =>
  (if room (List.length t9.2 + List.length [t12.1]) 48 then some () else none).bind fun _ =>
  some ((t9.2 ++ [t12.1]), ())
def reads149.A : Ann := { conds := [(458755, ⟨[(5, .int .i64)], [], 0, [], 32⟩)], blocks := [], loops := [], keeps := [], orders := [] }
def reads149.S : Sig := { f := 149, params := [.int .i64, .sl kY25], objs := [], res := .sl kY16, outs := [], fix := [], run := fun k ds os => reads149 k ds.1 ds.2 }
def reads149.G : List Sig := [lead150.S, rd81''.S]
theorem reads149.eq (k : Nat) : ∀ ds os, reads149.S.run k ds os = runF ⟨types, reads149.G, reads149.A, k, 0, []⟩ Tryz.f149 (codeOf Tryz.f149) reads149.S.params reads149.S.objs reads149.S.res reads149.S.outs ds os := by
  intro ds os; kernel_rfl
theorem reads149.dr : DrOk Tryz.prog reads149.A (codeOf Tryz.f149) := ⟨by kernel_rfl, by kernel_rfl⟩
theorem reads149.ok (k : Nat) : SoundAt Tryz.prog k reads149.S :=
  runF_sound (X := ⟨types, reads149.G, reads149.A, k, 0, []⟩) types_ok (mem_all (⟨lead150.ok k, ⟨rd81''.ok k, trivial⟩⟩)) (fn := Tryz.f149) (c := codeOf Tryz.f149) rfl (by kernel_rfl) rfl rfl reads149.dr (reads149.eq k)

def add116 (k : Nat) (_ : Unit) (name : ByteArray) (mode : Int) (cycles : tY82) (o0 : Unit) (o1 : tY57) : Option tY48 :=
  let t18 : Int := (w64 ((List.length o1 : Int) + 1))
  (if room (List.length o1 + List.length [(t18, name, mode, cycles)]) 56 then some () else none).bind fun _ =>
  some ((), (), (o1 ++ [(t18, name, mode, cycles)]))
def add116.A : Ann := { conds := [], blocks := [], loops := [], keeps := [], orders := [(0, [(0, .weak), (1, .strong), (2, .strong), (3, .strong), (4, .strong), (5, .strong), (6, .strong), (7, .strong), (8, .strong), (9, .strong), (10, .strong), (11, .strong), (12, .strong), (13, .strong), (14, .strong), (15, .eff true), (16, .eff false), (17, .strong), (18, .strong), (19, .eff false)])] }
def add116.S : Sig := { f := 116, params := [.ptr 0 [], .str, .int .i64, .sl kY16], objs := [.var kY50, .row kY8], res := .tup .unit, outs := [.var kY50, .row kY8], fix := [], run := fun k ds os => add116 k ds.1 ds.2.1 ds.2.2.1 ds.2.2.2 os.1 os.2 }
def add116.G : List Sig := []
theorem add116.eq (k : Nat) : ∀ ds os, add116.S.run k ds os = runF ⟨types, add116.G, add116.A, k, 0, []⟩ Tryz.f116 (codeOf Tryz.f116) add116.S.params add116.S.objs add116.S.res add116.S.outs ds os := by
  intro ds os; kernel_rfl
theorem add116.dr : DrOk Tryz.prog add116.A (codeOf Tryz.f116) := ⟨by kernel_rfl, by kernel_rfl⟩
theorem add116.ok (k : Nat) : SoundAt Tryz.prog k add116.S :=
  runF_sound (X := ⟨types, add116.G, add116.A, k, 0, []⟩) types_ok (fun s hs => absurd hs List.not_mem_nil) (fn := Tryz.f116) (c := codeOf Tryz.f116) rfl (by kernel_rfl) rfl rfl add116.dr (add116.eq k)
end Go.Proofs.YtcppmlgnceldmaaGreat.Fl

/- Go functions as plain Lean functions, and their contracts. -/
set_option linter.unusedVariables false
set_option maxRecDepth 100000
noncomputable section
namespace Go.Proofs.YtcppmlgnceldmaaGreat.Fl
open Go Go.Proofs.YtcppmlgnceldmaaGreat.Gp
def loads112.l0 (k : Nat) (name : ByteArray) (reg : Int) (modes : tY115) : tY41 → Option tY14
  | (_, t12, _, o1_1) =>
    cond (decide (t12 < (List.length modes : Int)))
      ((rd modes t12).bind fun t14 =>
      (two118 k 1 reg 5).bind fun t21 =>
      (one119 k 3 reg).bind fun t23 =>
      (reads149 k t14 [t21.1, t23.1]).bind fun t25 =>
      (add116 k () name t14 t25.1 () o1_1).bind fun t26 =>
      some (Sum.inl ((), (w64 (t12 + 1)), (), t26.2.2)))
      (some (Sum.inr ((), o1_1)))
def loads112 (k : Nat) (_ : Unit) (name : ByteArray) (reg : Int) (modes : tY115) (o0 : Unit) (o1 : tY57) : Option tY48 :=
  Option.bind
    (loopN (loads112.l0 k name reg modes) k ((), 0, (), o1) : Option tY54) fun ((_, o1_2) : tY54) =>
  some ((), (), o1_2)
def loads112.A : Ann := { conds := [], blocks := [(0, ⟨[], [(0, .var kY50), (1, .row kY8)], 2, [], 268431872⟩)], loops := [(1, ⟨[(0, .ptr 0 []), (12, .int .i64)], [(0, .var kY50), (1, .row kY8)], 2, [], 268431872⟩)], keeps := [], orders := [] }
def loads112.S : Sig := { f := 112, params := [.ptr 0 [], .str, .int .i64, .sl kY51], objs := [.var kY50, .row kY8], res := .tup .unit, outs := [.var kY50, .row kY8], fix := [], run := fun k ds os => loads112 k ds.1 ds.2.1 ds.2.2.1 ds.2.2.2 os.1 os.2 }
def loads112.G : List Sig := [add116.S, one119.S, reads149.S, two118.S]
theorem loads112.eq (k : Nat) : ∀ ds os, loads112.S.run k ds os = runF ⟨types, loads112.G, loads112.A, k, 0, []⟩ Tryz.f112 (codeOf Tryz.f112) loads112.S.params loads112.S.objs loads112.S.res loads112.S.outs ds os := by
  intro ds os; kernel_rfl
theorem loads112.dr : DrOk Tryz.prog loads112.A (codeOf Tryz.f112) := ⟨by kernel_rfl, by kernel_rfl⟩
theorem loads112.ok (k : Nat) : SoundAt Tryz.prog k loads112.S :=
  runF_sound (X := ⟨types, loads112.G, loads112.A, k, 0, []⟩) types_ok (mem_all (⟨add116.ok k, ⟨one119.ok k, ⟨reads149.ok k, ⟨two118.ok k, trivial⟩⟩⟩⟩)) (fn := Tryz.f112) (c := codeOf Tryz.f112) rfl (by kernel_rfl) rfl rfl loads112.dr (loads112.eq k)

def wr120 (k : Nat) (at_ : Int) (reg : Int) (steps : tY99) : Option tY80 :=
  some ((2, at_, reg, steps), ())
def wr120.A : Ann := { conds := [], blocks := [], loops := [], keeps := [], orders := [] }
def wr120.S : Sig := { f := 120, params := [.int .i64, .int .i64, .sl kY25], objs := [], res := .st kY17, outs := [], fix := [], run := fun k ds os => wr120 k ds.1 ds.2.1 ds.2.2 }
def wr120.G : List Sig := []
theorem wr120.eq (k : Nat) : ∀ ds os, wr120.S.run k ds os = runF ⟨types, wr120.G, wr120.A, k, 0, []⟩ Tryz.f120 (codeOf Tryz.f120) wr120.S.params wr120.S.objs wr120.S.res wr120.S.outs ds os := by
  intro ds os; kernel_rfl
theorem wr120.dr : DrOk Tryz.prog wr120.A (codeOf Tryz.f120) := ⟨by kernel_rfl, by kernel_rfl⟩
theorem wr120.ok (k : Nat) : SoundAt Tryz.prog k wr120.S :=
  runF_sound (X := ⟨types, wr120.G, wr120.A, k, 0, []⟩) types_ok (fun s hs => absurd hs List.not_mem_nil) (fn := Tryz.f120) (c := codeOf Tryz.f120) rfl (by kernel_rfl) rfl rfl wr120.dr (wr120.eq k)

def stores113.l0 (k : Nat) (name : ByteArray) (reg : Int) (modes : tY115) : tY41 → Option tY14
  | (_, t12, _, o1_1) =>
    cond (decide (t12 < (List.length modes : Int)))
      ((rd modes t12).bind fun t14 =>
      (lead150 k t14).bind fun t20 =>
      (wr120 k 2 reg []).bind fun t22 =>
      (if room (List.length t20.2 + List.length [t22.1]) 48 then some () else none).bind fun _ =>
      (add116 k () name t14 (t20.2 ++ [t22.1]) () o1_1).bind fun t25 =>
      some (Sum.inl ((), (w64 (t12 + 1)), (), t25.2.2)))
      (some (Sum.inr ((), o1_1)))
def stores113 (k : Nat) (_ : Unit) (name : ByteArray) (reg : Int) (modes : tY115) (o0 : Unit) (o1 : tY57) : Option tY48 :=
  Option.bind
    (loopN (stores113.l0 k name reg modes) k ((), 0, (), o1) : Option tY54) fun ((_, o1_2) : tY54) =>
  some ((), (), o1_2)
def stores113.A : Ann := { conds := [], blocks := [(0, ⟨[], [(0, .var kY50), (1, .row kY8)], 2, [], 134214144⟩)], loops := [(1, ⟨[(0, .ptr 0 []), (12, .int .i64)], [(0, .var kY50), (1, .row kY8)], 2, [], 134214144⟩)], keeps := [], orders := [] }
def stores113.S : Sig := { f := 113, params := [.ptr 0 [], .str, .int .i64, .sl kY51], objs := [.var kY50, .row kY8], res := .tup .unit, outs := [.var kY50, .row kY8], fix := [], run := fun k ds os => stores113 k ds.1 ds.2.1 ds.2.2.1 ds.2.2.2 os.1 os.2 }
def stores113.G : List Sig := [add116.S, lead150.S, wr120.S]
theorem stores113.eq (k : Nat) : ∀ ds os, stores113.S.run k ds os = runF ⟨types, stores113.G, stores113.A, k, 0, []⟩ Tryz.f113 (codeOf Tryz.f113) stores113.S.params stores113.S.objs stores113.S.res stores113.S.outs ds os := by
  intro ds os; kernel_rfl
theorem stores113.dr : DrOk Tryz.prog stores113.A (codeOf Tryz.f113) := ⟨by kernel_rfl, by kernel_rfl⟩
theorem stores113.ok (k : Nat) : SoundAt Tryz.prog k stores113.S :=
  runF_sound (X := ⟨types, stores113.G, stores113.A, k, 0, []⟩) types_ok (mem_all (⟨add116.ok k, ⟨lead150.ok k, ⟨wr120.ok k, trivial⟩⟩⟩)) (fn := Tryz.f113) (c := codeOf Tryz.f113) rfl (by kernel_rfl) rfl rfl stores113.dr (stores113.eq k)

def joins114.l0 (k : Nat) (name : ByteArray) (do_ : Int) (reg : Int) (modes : tY115) : tY41 → Option tY14
  | (_, t14, _, o1_1) =>
    cond (decide (t14 < (List.length modes : Int)))
      ((rd modes t14).bind fun t16 =>
      (two118 k do_ reg 5).bind fun t24 =>
      (reads149 k t16 [t24.1]).bind fun t26 =>
      (add116 k () name t16 t26.1 () o1_1).bind fun t27 =>
      some (Sum.inl ((), (w64 (t14 + 1)), (), t27.2.2)))
      (some (Sum.inr ((), o1_1)))
def joins114 (k : Nat) (_ : Unit) (name : ByteArray) (do_ : Int) (reg : Int) (modes : tY115) (o0 : Unit) (o1 : tY57) : Option tY48 :=
  Option.bind
    (loopN (joins114.l0 k name do_ reg modes) k ((), 0, (), o1) : Option tY54) fun ((_, o1_2) : tY54) =>
  some ((), (), o1_2)
def joins114.A : Ann := { conds := [], blocks := [(0, ⟨[], [(0, .var kY50), (1, .row kY8)], 2, [], 536856576⟩)], loops := [(1, ⟨[(0, .ptr 0 []), (14, .int .i64)], [(0, .var kY50), (1, .row kY8)], 2, [], 536856576⟩)], keeps := [], orders := [] }
def joins114.S : Sig := { f := 114, params := [.ptr 0 [], .str, .int .i64, .int .i64, .sl kY51], objs := [.var kY50, .row kY8], res := .tup .unit, outs := [.var kY50, .row kY8], fix := [], run := fun k ds os => joins114 k ds.1 ds.2.1 ds.2.2.1 ds.2.2.2.1 ds.2.2.2.2 os.1 os.2 }
def joins114.G : List Sig := [add116.S, reads149.S, two118.S]
theorem joins114.eq (k : Nat) : ∀ ds os, joins114.S.run k ds os = runF ⟨types, joins114.G, joins114.A, k, 0, []⟩ Tryz.f114 (codeOf Tryz.f114) joins114.S.params joins114.S.objs joins114.S.res joins114.S.outs ds os := by
  intro ds os; kernel_rfl
theorem joins114.dr : DrOk Tryz.prog joins114.A (codeOf Tryz.f114) := ⟨by kernel_rfl, by kernel_rfl⟩
theorem joins114.ok (k : Nat) : SoundAt Tryz.prog k joins114.S :=
  runF_sound (X := ⟨types, joins114.G, joins114.A, k, 0, []⟩) types_ok (mem_all (⟨add116.ok k, ⟨reads149.ok k, ⟨two118.ok k, trivial⟩⟩⟩)) (fn := Tryz.f114) (c := codeOf Tryz.f114) rfl (by kernel_rfl) rfl rfl joins114.dr (joins114.eq k)
end Go.Proofs.YtcppmlgnceldmaaGreat.Fl

/- Go functions as plain Lean functions, and their contracts. -/
set_option linter.unusedVariables false
set_option maxRecDepth 100000
noncomputable section
namespace Go.Proofs.YtcppmlgnceldmaaGreat.Fl
open Go Go.Proofs.YtcppmlgnceldmaaGreat.Gp
def turns115.l0 (k : Nat) (name : ByteArray) (do_ : Int) (modes : tY115) : tY41 → Option tY14
  | (_, t12, _, o1_1) =>
    cond (decide (t12 < (List.length modes : Int)))
      (Option.bind
        ((rd modes t12).bind fun t14 =>
        cond (t14 == 0)
          ((one119 k do_ 0).bind fun t22 =>
          (no117 k [t22.1]).bind fun t24 =>
          (add116 k () name t14 [t24.1] () o1_1).bind fun t26 =>
          some ((), (), t26.2.2))
          ((lead150 k t14).bind fun t31 =>
          (one119 k do_ 5).bind fun t33 =>
          (rd81'' k 2 5 [t33.1]).bind fun t35 =>
          (wr120 k 2 5 []).bind fun t36 =>
          (if room (List.length t31.2 + List.length [t35.1, t36.1]) 48 then some () else none).bind fun _ =>
          (add116 k () name t14 (t31.2 ++ [t35.1, t36.1]) () o1_1).bind fun t39 =>
          some ((), (), t39.2.2)) : Option tY48) fun ((_, _, o1_2) : tY48) =>
      some (Sum.inl ((), (w64 (t12 + 1)), (), o1_2)))
      (some (Sum.inr ((), o1_1)))
def turns115 (k : Nat) (_ : Unit) (name : ByteArray) (do_ : Int) (modes : tY115) (o0 : Unit) (o1 : tY57) : Option tY48 :=
  Option.bind
    (loopN (turns115.l0 k name do_ modes) k ((), 0, (), o1) : Option tY54) fun ((_, o1_3) : tY54) =>
  some ((), (), o1_3)
def turns115.A : Ann := { conds := [], blocks := [(0, ⟨[], [(0, .var kY50), (1, .row kY8)], 2, [], 2199023251968⟩), (1, ⟨[(0, .ptr 0 [])], [(0, .var kY50), (1, .row kY8)], 2, [], 1099511611904⟩)], loops := [(1, ⟨[(0, .ptr 0 []), (12, .int .i64)], [(0, .var kY50), (1, .row kY8)], 2, [], 2199023251968⟩)], keeps := [], orders := [] }
def turns115.S : Sig := { f := 115, params := [.ptr 0 [], .str, .int .i64, .sl kY51], objs := [.var kY50, .row kY8], res := .tup .unit, outs := [.var kY50, .row kY8], fix := [], run := fun k ds os => turns115 k ds.1 ds.2.1 ds.2.2.1 ds.2.2.2 os.1 os.2 }
def turns115.G : List Sig := [add116.S, lead150.S, no117.S, one119.S, rd81''.S, wr120.S]
theorem turns115.eq (k : Nat) : ∀ ds os, turns115.S.run k ds os = runF ⟨types, turns115.G, turns115.A, k, 0, []⟩ Tryz.f115 (codeOf Tryz.f115) turns115.S.params turns115.S.objs turns115.S.res turns115.S.outs ds os := by
  intro ds os; kernel_rfl
theorem turns115.dr : DrOk Tryz.prog turns115.A (codeOf Tryz.f115) := ⟨by kernel_rfl, by kernel_rfl⟩
theorem turns115.ok (k : Nat) : SoundAt Tryz.prog k turns115.S :=
  runF_sound (X := ⟨types, turns115.G, turns115.A, k, 0, []⟩) types_ok (mem_all (⟨add116.ok k, ⟨lead150.ok k, ⟨no117.ok k, ⟨one119.ok k, ⟨rd81''.ok k, ⟨wr120.ok k, trivial⟩⟩⟩⟩⟩⟩)) (fn := Tryz.f115) (c := codeOf Tryz.f115) rfl (by kernel_rfl) rfl rfl turns115.dr (turns115.eq k)

def memory78.l0 (k : Nat) : tY33 → Option (tY33 ⊕ tY48)
  | (_, _, t30, _, o1_1, o8) =>
    cond (decide (t30 < (List.length [((ByteArray.mk #[97, 100, 99]), 4), ((ByteArray.mk #[115, 98, 99]), 5), ((ByteArray.mk #[97, 110, 100]), 7), ((ByteArray.mk #[111, 114, 97]), 8), ((ByteArray.mk #[101, 111, 114]), 9), ((ByteArray.mk #[99, 109, 112]), 6)] : Int)))
      ((rd o8 t30).bind fun _ =>
      (rd o8 t30).bind fun t33 =>
      (joins114 k () t33.1 t33.2 0 ([1, 2, 4, 5] : List Int) () o1_1).bind fun t40 =>
      some (Sum.inl ((), (), (w64 (t30 + 1)), (), t40.2.2, o8)))
      (some (Sum.inr ((), (), o1_1)))
def memory78 (k : Nat) (_ : Unit) (o0 : Unit) (o1 : tY57) : Option tY48 :=
  (loads112 k () (ByteArray.mk #[108, 100, 97]) 0 ([1, 2, 3, 4, 5, 6, 8] : List Int) () o1).bind fun t6 =>
  (loads112 k () (ByteArray.mk #[108, 100, 120]) 1 ([1, 2, 4] : List Int) () t6.2.2).bind fun t9 =>
  (loads112 k () (ByteArray.mk #[108, 100, 121]) 2 ([1, 2, 4] : List Int) () t9.2.2).bind fun t12 =>
  (stores113 k () (ByteArray.mk #[115, 116, 97]) 0 ([2, 3, 4, 5, 6, 8] : List Int) () t12.2.2).bind fun t15 =>
  (stores113 k () (ByteArray.mk #[115, 116, 120]) 1 ([2, 4] : List Int) () t15.2.2).bind fun t18 =>
  (stores113 k () (ByteArray.mk #[115, 116, 121]) 2 ([2, 4] : List Int) () t18.2.2).bind fun t21 =>
  Option.bind
    (loopN (memory78.l0 k) k ((), (), 0, (), t21.2.2, [((ByteArray.mk #[97, 100, 99]), 4), ((ByteArray.mk #[115, 98, 99]), 5), ((ByteArray.mk #[97, 110, 100]), 7), ((ByteArray.mk #[111, 114, 97]), 8), ((ByteArray.mk #[101, 111, 114]), 9), ((ByteArray.mk #[99, 109, 112]), 6)]) : Option tY48) fun ((_, _, o1_2) : tY48) =>
  (joins114 k () (ByteArray.mk #[99, 112, 120]) 6 1 ([1, 2] : List Int) () o1_2).bind fun t44 =>
  (joins114 k () (ByteArray.mk #[99, 112, 121]) 6 2 ([1, 2] : List Int) () t44.2.2).bind fun t47 =>
  (turns115 k () (ByteArray.mk #[105, 110, 99]) 10 ([2, 4] : List Int) () t47.2.2).bind fun t50 =>
  (turns115 k () (ByteArray.mk #[100, 101, 99]) 11 ([2, 4] : List Int) () t50.2.2).bind fun t53 =>
  (turns115 k () (ByteArray.mk #[97, 115, 108]) 12 ([0, 2] : List Int) () t53.2.2).bind fun t56 =>
  (turns115 k () (ByteArray.mk #[108, 115, 114]) 13 ([0, 2] : List Int) () t56.2.2).bind fun t59 =>
  (turns115 k () (ByteArray.mk #[114, 111, 108]) 14 ([0, 2] : List Int) () t59.2.2).bind fun t62 =>
  (turns115 k () (ByteArray.mk #[114, 111, 114]) 15 ([0, 2] : List Int) () t62.2.2).bind fun t65 =>
  some ((), (), t65.2.2)
def memory78.A : Ann := { conds := [], blocks := [(0, ⟨[(0, .ptr 0 [])], [(0, .var kY50), (1, .row kY8)], 2, [], 4396972769288⟩)], loops := [(7, ⟨[(0, .ptr 0 []), (28, .ms 8), (30, .int .i64)], [(0, .var kY50), (1, .row kY8), (8, .row (.st kY48))], 9, [], 4396972769288⟩)], keeps := [3], orders := [] }
def memory78.S : Sig := { f := 78, params := [.ptr 0 []], objs := [.var kY50, .row kY8], res := .tup .unit, outs := [.var kY50, .row kY8], fix := [], run := fun k ds os => memory78 k ds os.1 os.2 }
def memory78.G : List Sig := [joins114.S, loads112.S, stores113.S, turns115.S]
theorem memory78.eq (k : Nat) : ∀ ds os, memory78.S.run k ds os = runF ⟨types, memory78.G, memory78.A, k, 0, []⟩ Tryz.f78 (codeOf Tryz.f78) memory78.S.params memory78.S.objs memory78.S.res memory78.S.outs ds os := by
  intro ds os; kernel_rfl
theorem memory78.dr : DrOk Tryz.prog memory78.A (codeOf Tryz.f78) := ⟨by kernel_rfl, by kernel_rfl⟩
theorem memory78.ok (k : Nat) : SoundAt Tryz.prog k memory78.S :=
  runF_sound (X := ⟨types, memory78.G, memory78.A, k, 0, []⟩) types_ok (mem_all (⟨joins114.ok k, ⟨loads112.ok k, ⟨stores113.ok k, ⟨turns115.ok k, trivial⟩⟩⟩⟩)) (fn := Tryz.f78) (c := codeOf Tryz.f78) rfl (by kernel_rfl) rfl rfl memory78.dr (memory78.eq k)
end Go.Proofs.YtcppmlgnceldmaaGreat.Fl

/- Go functions as plain Lean functions, and their contracts. -/
set_option linter.unusedVariables false
set_option maxRecDepth 100000
noncomputable section
namespace Go.Proofs.YtcppmlgnceldmaaGreat.Fl
open Go Go.Proofs.YtcppmlgnceldmaaGreat.Gp
def alone79.l0 (k : Nat) : tY30 → Option (tY30 ⊕ tY48)
  | (_, _, t11, _, o1_1, o2) =>
    cond (decide (t11 < (List.length [((ByteArray.mk #[116, 97, 120]), 1, 0), ((ByteArray.mk #[116, 97, 121]), 2, 0), ((ByteArray.mk #[116, 120, 97]), 0, 1), ((ByteArray.mk #[116, 121, 97]), 0, 2), ((ByteArray.mk #[116, 115, 120]), 1, 3)] : Int)))
      ((rd o2 t11).bind fun _ =>
      (rd o2 t11).bind fun t14 =>
      (two118 k 1 t14.2.1 t14.2.2).bind fun t22 =>
      (one119 k 3 t14.2.1).bind fun t25 =>
      (no117 k [t22.1, t25.1]).bind fun t27 =>
      (add116 k () t14.1 0 [t27.1] () o1_1).bind fun t29 =>
      some (Sum.inl ((), (), (w64 (t11 + 1)), (), t29.2.2, o2)))
      (some (Sum.inr ((), (), o1_1)))
def alone79 (k : Nat) (_ : Unit) (o0 : Unit) (o1 : tY57) : Option tY48 :=
  Option.bind
    (loopN (alone79.l0 k) k ((), (), 0, (), o1, [((ByteArray.mk #[116, 97, 120]), 1, 0), ((ByteArray.mk #[116, 97, 121]), 2, 0), ((ByteArray.mk #[116, 120, 97]), 0, 1), ((ByteArray.mk #[116, 121, 97]), 0, 2), ((ByteArray.mk #[116, 115, 120]), 1, 3)]) : Option tY48) fun ((_, _, o1_2) : tY48) =>
  (two118 k 1 3 1).bind fun t32 =>
  (no117 k [t32.1]).bind fun t34 =>
  (add116 k () (ByteArray.mk #[116, 120, 115]) 0 [t34.1] () o1_2).bind fun t36 =>
  (one119 k 10 1).bind fun t38 =>
  (no117 k [t38.1]).bind fun t40 =>
  (add116 k () (ByteArray.mk #[105, 110, 120]) 0 [t40.1] () t36.2.2).bind fun t42 =>
  (one119 k 10 2).bind fun t44 =>
  (no117 k [t44.1]).bind fun t46 =>
  (add116 k () (ByteArray.mk #[105, 110, 121]) 0 [t46.1] () t42.2.2).bind fun t48 =>
  (one119 k 11 1).bind fun t50 =>
  (no117 k [t50.1]).bind fun t52 =>
  (add116 k () (ByteArray.mk #[100, 101, 120]) 0 [t52.1] () t48.2.2).bind fun t54 =>
  (one119 k 11 2).bind fun t56 =>
  (no117 k [t56.1]).bind fun t58 =>
  (add116 k () (ByteArray.mk #[100, 101, 121]) 0 [t58.1] () t54.2.2).bind fun t60 =>
  (no117 k [(17, 0, 0, 1)]).bind fun t64 =>
  (add116 k () (ByteArray.mk #[99, 108, 99]) 0 [t64.1] () t60.2.2).bind fun t66 =>
  (no117 k [(16, 0, 0, 1)]).bind fun t70 =>
  (add116 k () (ByteArray.mk #[115, 101, 99]) 0 [t70.1] () t66.2.2).bind fun t72 =>
  (no117 k [(17, 0, 0, 4)]).bind fun t76 =>
  (add116 k () (ByteArray.mk #[99, 108, 105]) 0 [t76.1] () t72.2.2).bind fun t78 =>
  (no117 k [(16, 0, 0, 4)]).bind fun t82 =>
  (add116 k () (ByteArray.mk #[115, 101, 105]) 0 [t82.1] () t78.2.2).bind fun t84 =>
  (no117 k []).bind fun t86 =>
  (add116 k () (ByteArray.mk #[110, 111, 112]) 0 [t86.1] () t84.2.2).bind fun t88 =>
  (wr120 k 4 0 []).bind fun t90 =>
  (add116 k () (ByteArray.mk #[112, 104, 97]) 0 [t90.1] () t88.2.2).bind fun t92 =>
  (one119 k 3 0).bind fun t94 =>
  (rd81'' k 5 0 [t94.1]).bind fun t96 =>
  (add116 k () (ByteArray.mk #[112, 108, 97]) 0 [t96.1] () t92.2.2).bind fun t98 =>
  (wr120 k 4 4 []).bind fun t100 =>
  (add116 k () (ByteArray.mk #[112, 104, 112]) 0 [t100.1] () t98.2.2).bind fun t102 =>
  (rd81'' k 5 4 []).bind fun t104 =>
  (add116 k () (ByteArray.mk #[112, 108, 112]) 0 [t104.1] () t102.2.2).bind fun t106 =>
  some ((), (), t106.2.2)
def alone79.A : Ann := { conds := [], blocks := [(0, ⟨[(0, .ptr 0 [])], [(0, .var kY50), (1, .row kY8)], 2, [], 2147481608⟩)], loops := [(1, ⟨[(0, .ptr 0 []), (9, .ms 2), (11, .int .i64)], [(0, .var kY50), (1, .row kY8), (2, .row kY39)], 3, [], 2147481608⟩)], keeps := [3], orders := [(3, [(0, .strong), (1, .strong), (2, .strong), (3, .strong), (4, .strong), (5, .strong), (6, .strong), (8, .strong), (9, .strong), (7, .eff true), (10, .eff true), (11, .eff true), (12, .eff true), (13, .eff true), (14, .eff false)])] }
def alone79.S : Sig := { f := 79, params := [.ptr 0 []], objs := [.var kY50, .row kY8], res := .tup .unit, outs := [.var kY50, .row kY8], fix := [], run := fun k ds os => alone79 k ds os.1 os.2 }
def alone79.G : List Sig := [add116.S, no117.S, one119.S, rd81''.S, two118.S, wr120.S]
theorem alone79.eq (k : Nat) : ∀ ds os, alone79.S.run k ds os = runF ⟨types, alone79.G, alone79.A, k, 0, []⟩ Tryz.f79 (codeOf Tryz.f79) alone79.S.params alone79.S.objs alone79.S.res alone79.S.outs ds os := by
  intro ds os; kernel_rfl
theorem alone79.dr : DrOk Tryz.prog alone79.A (codeOf Tryz.f79) := ⟨by kernel_rfl, by kernel_rfl⟩
theorem alone79.ok (k : Nat) : SoundAt Tryz.prog k alone79.S :=
  runF_sound (X := ⟨types, alone79.G, alone79.A, k, 0, []⟩) types_ok (mem_all (⟨add116.ok k, ⟨no117.ok k, ⟨one119.ok k, ⟨rd81''.ok k, ⟨two118.ok k, ⟨wr120.ok k, trivial⟩⟩⟩⟩⟩⟩)) (fn := Tryz.f79) (c := codeOf Tryz.f79) rfl (by kernel_rfl) rfl rfl alone79.dr (alone79.eq k)

def jump82' (k : Nat) (to : Int) : Option tY94 :=
  (two118 k 18 to 5).bind fun t4 =>
  (two118 k 19 to 6).bind fun t6 =>
  some ([t4.1, t6.1], ())
def jump82'.A : Ann := { conds := [], blocks := [], loops := [], keeps := [], orders := [] }
def jump82'.S : Sig := { f := 82, params := [.int .i64], objs := [], res := .sl kY25, outs := [], fix := [], run := fun k ds os => jump82' k ds }
def jump82'.G : List Sig := [two118.S]
theorem jump82'.eq (k : Nat) : ∀ ds os, jump82'.S.run k ds os = runF ⟨types, jump82'.G, jump82'.A, k, 0, []⟩ Tryz.f82 (codeOf Tryz.f82) jump82'.S.params jump82'.S.objs jump82'.S.res jump82'.S.outs ds os := by
  intro ds os; kernel_rfl
theorem jump82'.dr : DrOk Tryz.prog jump82'.A (codeOf Tryz.f82) := ⟨by kernel_rfl, by kernel_rfl⟩
theorem jump82'.ok (k : Nat) : SoundAt Tryz.prog k jump82'.S :=
  runF_sound (X := ⟨types, jump82'.G, jump82'.A, k, 0, []⟩) types_ok (mem_all (⟨two118.ok k, trivial⟩)) (fn := Tryz.f82) (c := codeOf Tryz.f82) rfl (by kernel_rfl) rfl rfl jump82'.dr (jump82'.eq k)

def ways80.l0 (k : Nat) : tY30 → Option (tY30 ⊕ tY54)
  | (_, _, t47, _, o1_1, o10) =>
    cond (decide (t47 < (List.length [((ByteArray.mk #[98, 101, 113]), 2, 1), ((ByteArray.mk #[98, 110, 101]), 2, 0), ((ByteArray.mk #[98, 99, 115]), 1, 1), ((ByteArray.mk #[98, 99, 99]), 1, 0), ((ByteArray.mk #[98, 109, 105]), 128, 1), ((ByteArray.mk #[98, 112, 108]), 128, 0)] : Int)))
      ((rd o10 t47).bind fun _ =>
      (rd o10 t47).bind fun t50 =>
      (rd81'' k 0 5 [(24, 0, t50.2.2, t50.2.1)]).bind fun t60 =>
      (two118 k 23 7 5).bind fun t61 =>
      (no117 k [t61.1]).bind fun t63 =>
      (add116 k () t50.1 7 [t60.1, t63.1] () o1_1).bind fun t65 =>
      some (Sum.inl ((), (), (w64 (t47 + 1)), (), t65.2.2, o10)))
      (some (Sum.inr ((), o1_1)))
def ways80 (k : Nat) (_ : Unit) (o0 : Unit) (o1 : tY57) : Option tY48 :=
  (rd81'' k 0 5 []).bind fun t5 =>
  (jump82' k 7).bind fun t6 =>
  (rd81'' k 0 6 t6.1).bind fun t7 =>
  (add116 k () (ByteArray.mk #[106, 109, 112]) 4 [t5.1, t7.1] () o1).bind fun t9 =>
  (two118 k 18 8 5).bind fun t11 =>
  (rd81'' k 0 5 [t11.1]).bind fun t13 =>
  (two118 k 19 8 5).bind fun t14 =>
  (two118 k 21 5 7).bind fun t15 =>
  (rd81'' k 0 5 [t14.1, t15.1]).bind fun t17 =>
  (two118 k 20 5 7).bind fun t18 =>
  (wr120 k 4 5 [t18.1]).bind fun t20 =>
  (two118 k 1 7 8).bind fun t21 =>
  (wr120 k 4 5 [t21.1]).bind fun t23 =>
  (add116 k () (ByteArray.mk #[106, 115, 114]) 4 [t13.1, t17.1, t20.1, t23.1] () t9.2.2).bind fun t25 =>
  (rd81'' k 5 5 []).bind fun t27 =>
  (jump82' k 7).bind fun t28 =>
  (rd81'' k 5 6 t28.1).bind fun t29 =>
  (add116 k () (ByteArray.mk #[114, 116, 115]) 0 [t27.1, t29.1] () t25.2.2).bind fun t31 =>
  (rd81'' k 5 4 []).bind fun t33 =>
  (rd81'' k 5 5 []).bind fun t34 =>
  (jump82' k 7).bind fun t35 =>
  (rd81'' k 5 6 t35.1).bind fun t36 =>
  (add116 k () (ByteArray.mk #[114, 116, 105]) 0 [t33.1, t34.1, t36.1] () t31.2.2).bind fun t38 =>
  Option.bind
    (loopN (ways80.l0 k) k ((), (), 0, (), t38.2.2, [((ByteArray.mk #[98, 101, 113]), 2, 1), ((ByteArray.mk #[98, 110, 101]), 2, 0), ((ByteArray.mk #[98, 99, 115]), 1, 1), ((ByteArray.mk #[98, 99, 99]), 1, 0), ((ByteArray.mk #[98, 109, 105]), 128, 1), ((ByteArray.mk #[98, 112, 108]), 128, 0)]) : Option tY54) fun ((_, o1_2) : tY54) =>
  some ((), (), o1_2)
def ways80.A : Ann := { conds := [], blocks := [(0, ⟨[], [(0, .var kY50), (1, .row kY8)], 2, [], 147573811852188057608⟩)], loops := [(5, ⟨[(0, .ptr 0 []), (45, .ms 10), (47, .int .i64)], [(0, .var kY50), (1, .row kY8), (10, .row kY39)], 11, [], 147573811852188057608⟩)], keeps := [3], orders := [(7, [(0, .strong), (1, .strong), (2, .strong), (3, .strong), (4, .strong), (5, .strong), (6, .strong), (7, .strong), (8, .eff true), (9, .eff true), (10, .eff true), (11, .eff true), (12, .eff true), (13, .eff true), (14, .eff false)])] }
def ways80.S : Sig := { f := 80, params := [.ptr 0 []], objs := [.var kY50, .row kY8], res := .tup .unit, outs := [.var kY50, .row kY8], fix := [], run := fun k ds os => ways80 k ds os.1 os.2 }
def ways80.G : List Sig := [add116.S, jump82'.S, no117.S, rd81''.S, two118.S, wr120.S]
theorem ways80.eq (k : Nat) : ∀ ds os, ways80.S.run k ds os = runF ⟨types, ways80.G, ways80.A, k, 0, []⟩ Tryz.f80 (codeOf Tryz.f80) ways80.S.params ways80.S.objs ways80.S.res ways80.S.outs ds os := by
  intro ds os; kernel_rfl
theorem ways80.dr : DrOk Tryz.prog ways80.A (codeOf Tryz.f80) := ⟨by kernel_rfl, by kernel_rfl⟩
theorem ways80.ok (k : Nat) : SoundAt Tryz.prog k ways80.S :=
  runF_sound (X := ⟨types, ways80.G, ways80.A, k, 0, []⟩) types_ok (mem_all (⟨add116.ok k, ⟨jump82'.ok k, ⟨no117.ok k, ⟨rd81''.ok k, ⟨two118.ok k, ⟨wr120.ok k, trivial⟩⟩⟩⟩⟩⟩)) (fn := Tryz.f80) (c := codeOf Tryz.f80) rfl (by kernel_rfl) rfl rfl ways80.dr (ways80.eq k)

def answers83 (k : Nat) (low : Int) (high : Int) : Option tY76 :=
  (two118 k 21 5 7).bind fun t5 =>
  (no117 k [t5.1]).bind fun t7 =>
  (two118 k 20 5 7).bind fun t8 =>
  (wr120 k 4 5 [t8.1]).bind fun t10 =>
  (wr120 k 4 5 []).bind fun t11 =>
  (wr120 k 4 4 [(16, 0, 0, 4)]).bind fun t14 =>
  (rd81'' k low 5 []).bind fun t16 =>
  (jump82' k 7).bind fun t18 =>
  (rd81'' k high 6 t18.1).bind fun t19 =>
  some ([t7.1, t10.1, t11.1, t14.1, t16.1, t19.1], ())
def answers83.A : Ann := { conds := [], blocks := [], loops := [], keeps := [], orders := [] }
def answers83.S : Sig := { f := 83, params := [.int .i64, .int .i64], objs := [], res := .sl kY16, outs := [], fix := [], run := fun k ds os => answers83 k ds.1 ds.2 }
def answers83.G : List Sig := [jump82'.S, no117.S, rd81''.S, two118.S, wr120.S]
theorem answers83.eq (k : Nat) : ∀ ds os, answers83.S.run k ds os = runF ⟨types, answers83.G, answers83.A, k, 0, []⟩ Tryz.f83 (codeOf Tryz.f83) answers83.S.params answers83.S.objs answers83.S.res answers83.S.outs ds os := by
  intro ds os; kernel_rfl
theorem answers83.dr : DrOk Tryz.prog answers83.A (codeOf Tryz.f83) := ⟨by kernel_rfl, by kernel_rfl⟩
theorem answers83.ok (k : Nat) : SoundAt Tryz.prog k answers83.S :=
  runF_sound (X := ⟨types, answers83.G, answers83.A, k, 0, []⟩) types_ok (mem_all (⟨jump82'.ok k, ⟨no117.ok k, ⟨rd81''.ok k, ⟨two118.ok k, ⟨wr120.ok k, trivial⟩⟩⟩⟩⟩)) (fn := Tryz.f83) (c := codeOf Tryz.f83) rfl (by kernel_rfl) rfl rfl answers83.dr (answers83.eq k)
end Go.Proofs.YtcppmlgnceldmaaGreat.Fl

/- Go functions as plain Lean functions, and their contracts. -/
set_option linter.unusedVariables false
set_option maxRecDepth 100000
noncomputable section
namespace Go.Proofs.YtcppmlgnceldmaaGreat.Fl
open Go Go.Proofs.YtcppmlgnceldmaaGreat.Gp
def Cpu39 (k : Nat) : Option (tY12 × Unit) :=
  (memory78 k () () []).bind fun t6 =>
  (alone79 k () () t6.2.2).bind fun t8 =>
  (ways80 k () () t8.2.2).bind fun t10 =>
  (rd81'' k 10 5 []).bind fun t11 =>
  (jump82 k 7).bind fun t12 =>
  (if room (List.length t12.2 + List.length [(2, 3, 0, 255)]) 32 then some () else none).bind fun _ =>
  (rd81'' k 11 6 (t12.2 ++ [(2, 3, 0, 255)])).bind fun t16 =>
  (answers83 k 6 7).bind fun t23 =>
  (answers83 k 8 9).bind fun t24 =>
  some (((ByteArray.mk #[115, 116, 100]), t10.2.2, [t11.1, t16.1], t23.1, t24.1), ())
def Cpu39.A : Ann := { conds := [], blocks := [], loops := [], keeps := [], orders := [(6, [(0, .strong), (1, .strong), (2, .strong), (3, .strong), (4, .strong), (5, .eff true), (6, .eff true), (7, .strong), (8, .eff false)])], turns := [(0, [⟨0, [(1, .st kY9), (2, .st kY17), (3, .st kY17), (4, .st kY17)], .st (.pair .str (.pair (.ms 1) (.pair (.ms 2) (.pair (.ms 3) (.ms 4)))))⟩]), (1, [⟨5, [(6, .st kY9)], .st (.ms 6)⟩])] }
def Cpu39.S : Sig := { f := 39, params := [], objs := [], res := .st kY1, outs := [], fix := [], run := fun k ds os => Cpu39 k }
def Cpu39.G : List Sig := [alone79.S, answers83.S, jump82.S, memory78.S, rd81''.S, ways80.S]
theorem Cpu39.eq (k : Nat) : ∀ ds os, Cpu39.S.run k ds os = runF ⟨types, Cpu39.G, Cpu39.A, k, 0, []⟩ Tryz.f39 (codeOf Tryz.f39) Cpu39.S.params Cpu39.S.objs Cpu39.S.res Cpu39.S.outs ds os := by
  intro ds os; kernel_rfl
theorem Cpu39.dr : DrOk Tryz.prog Cpu39.A (codeOf Tryz.f39) := ⟨by kernel_rfl, by kernel_rfl⟩
theorem Cpu39.ok (k : Nat) : SoundAt Tryz.prog k Cpu39.S :=
  runF_sound (X := ⟨types, Cpu39.G, Cpu39.A, k, 0, []⟩) types_ok (mem_all (⟨alone79.ok k, ⟨answers83.ok k, ⟨jump82.ok k, ⟨memory78.ok k, ⟨rd81''.ok k, ⟨ways80.ok k, trivial⟩⟩⟩⟩⟩⟩)) (fn := Tryz.f39) (c := codeOf Tryz.f39) rfl (by kernel_rfl) rfl rfl Cpu39.dr (Cpu39.eq k)

def Named1121 (k : Nat) (x : tY61) (t1 : ByteArray) (t2 : Int) : Option tY112 :=
  some ((cond (streq x.2.1 t1) (x.2.2.1 == t2) false), ())
def Named1121.A : Ann := { conds := [], blocks := [], loops := [], keeps := [3], orders := [] }
def Named1121.S : Sig := { f := 121, params := [.st kY9, .fp .str, .fp kY51], objs := [], res := .bool, outs := [], fix := [], run := fun k ds os => Named1121 k ds.1 ds.2.1 ds.2.2 }
def Named1121.G : List Sig := []
theorem Named1121.eq (k : Nat) : ∀ ds os, Named1121.S.run k ds os = runF ⟨types, Named1121.G, Named1121.A, k, 0, []⟩ Tryz.f121 (codeOf Tryz.f121) Named1121.S.params Named1121.S.objs Named1121.S.res Named1121.S.outs ds os := by
  intro ds os; kernel_rfl
theorem Named1121.dr : DrOk Tryz.prog Named1121.A (codeOf Tryz.f121) := ⟨by kernel_rfl, by kernel_rfl⟩
theorem Named1121.ok (k : Nat) : SoundAt Tryz.prog k Named1121.S :=
  runF_sound (X := ⟨types, Named1121.G, Named1121.A, k, 0, []⟩) types_ok (fun s hs => absurd hs List.not_mem_nil) (fn := Tryz.f121) (c := codeOf Tryz.f121) rfl (by kernel_rfl) rfl rfl Named1121.dr (Named1121.eq k)

def IndexFunc42''.l0 (k : Nat) (s : tY57) : (tY105 × Int) → Option ((tY105 × Int) ⊕ tY107)
  | (f_1, t8) =>
    cond (decide (t8 < (List.length s : Int)))
      ((rd s t8).bind fun t14 =>
      (Named1121 k t14 f_1.1 f_1.2.1).bind fun t16 =>
      cond t16.1
        (some (Sum.inr (Sum.inr (t8, ()))))
        (some (Sum.inl (f_1, (w64 (t8 + 1))))))
      (some (Sum.inr (Sum.inl ())))
def IndexFunc42'' (k : Nat) (s : tY57) (f : tY105) : Option tY113 :=
  Option.bind
    (loopN (IndexFunc42''.l0 k s) k (f, 0) : Option tY107) (joined fun (_ : Unit) =>
    some ((-1), ()))
def IndexFunc42''.A : Ann := { conds := [], blocks := [(0, ⟨[], [], 0, [], 524080⟩)], loops := [(2, ⟨[(1, .fn 121 kY40), (8, .int .i64)], [], 0, [], 524080⟩)], keeps := [], orders := [] }
def IndexFunc42''.S : Sig := { f := 42, params := [.sl kY8, .fn 121 kY40], objs := [], res := .int .i64, outs := [], fix := [], run := fun k ds os => IndexFunc42'' k ds.1 ds.2 }
def IndexFunc42''.G : List Sig := [Named1121.S]
theorem IndexFunc42''.eq (k : Nat) : ∀ ds os, IndexFunc42''.S.run k ds os = runF ⟨types, IndexFunc42''.G, IndexFunc42''.A, k, 0, []⟩ Tryz.f42 (codeOf Tryz.f42) IndexFunc42''.S.params IndexFunc42''.S.objs IndexFunc42''.S.res IndexFunc42''.S.outs ds os := by
  intro ds os; kernel_rfl
theorem IndexFunc42''.dr : DrOk Tryz.prog IndexFunc42''.A (codeOf Tryz.f42) := ⟨by kernel_rfl, by kernel_rfl⟩
theorem IndexFunc42''.ok (k : Nat) : SoundAt Tryz.prog k IndexFunc42''.S :=
  runF_sound (X := ⟨types, IndexFunc42''.G, IndexFunc42''.A, k, 0, []⟩) types_ok (mem_all (⟨Named1121.ok k, trivial⟩)) (fn := Tryz.f42) (c := codeOf Tryz.f42) rfl (by kernel_rfl) rfl rfl IndexFunc42''.dr (IndexFunc42''.eq k)

def Named84 (k : Nat) (c : tY12) (name : ByteArray) (mode : Int) : Option tY45 :=
  (IndexFunc42'' k c.2.1 (name, mode, ())).bind fun t12 =>
  cond (decide (t12.1 < 0))
    (some (((0, (ByteArray.mk #[]), 0, []), false, ()), ()))
    ((rd c.2.1 t12.1).bind fun t19 =>
    (Copy44 k t19).bind fun t21 =>
    some ((t21.1, true, ()), ()))
def Named84.A : Ann := { conds := [], blocks := [], loops := [], keeps := [3, 4, 5], orders := [] }
def Named84.S : Sig := { f := 84, params := [.st kY1, .str, .int .i64], objs := [], res := .tup kY6, outs := [], fix := [], run := fun k ds os => Named84 k ds.1 ds.2.1 ds.2.2 }
def Named84.G : List Sig := [Copy44.S, IndexFunc42''.S]
theorem Named84.eq (k : Nat) : ∀ ds os, Named84.S.run k ds os = runF ⟨types, Named84.G, Named84.A, k, 0, []⟩ Tryz.f84 (codeOf Tryz.f84) Named84.S.params Named84.S.objs Named84.S.res Named84.S.outs ds os := by
  intro ds os; kernel_rfl
theorem Named84.dr : DrOk Tryz.prog Named84.A (codeOf Tryz.f84) := ⟨by kernel_rfl, by kernel_rfl⟩
theorem Named84.ok (k : Nat) : SoundAt Tryz.prog k Named84.S :=
  runF_sound (X := ⟨types, Named84.G, Named84.A, k, 0, []⟩) types_ok (mem_all (⟨Copy44.ok k, ⟨IndexFunc42''.ok k, trivial⟩⟩)) (fn := Tryz.f84) (c := codeOf Tryz.f84) rfl (by kernel_rfl) rfl rfl Named84.dr (Named84.eq k)

def nop40 (k : Nat) : Option (tY92 × Unit) :=
  (Cpu39 k).bind fun t6 =>
  (Named84 k t6.1 (ByteArray.mk #[110, 111, 112]) 0).bind fun t7 =>
  (Cpu39 k).bind fun t11 =>
  (Named84 k t11.1 (ByteArray.mk #[106, 109, 112]) 4).bind fun t12 =>
  some ((512, ([(IntKind.wrap .u8 t7.1.1.1), (IntKind.wrap .u8 t12.1.1.1), 0, 2] : List Int), []), ())
def nop40.A : Ann := { conds := [], blocks := [], loops := [], keeps := [1, 3], orders := [] }
def nop40.S : Sig := { f := 40, params := [], objs := [], res := .st kY24, outs := [], fix := [], run := fun k ds os => nop40 k }
def nop40.G : List Sig := [Cpu39.S, Named84.S]
theorem nop40.eq (k : Nat) : ∀ ds os, nop40.S.run k ds os = runF ⟨types, nop40.G, nop40.A, k, 0, []⟩ Tryz.f40 (codeOf Tryz.f40) nop40.S.params nop40.S.objs nop40.S.res nop40.S.outs ds os := by
  intro ds os; kernel_rfl
theorem nop40.dr : DrOk Tryz.prog nop40.A (codeOf Tryz.f40) := ⟨by kernel_rfl, by kernel_rfl⟩
theorem nop40.ok (k : Nat) : SoundAt Tryz.prog k nop40.S :=
  runF_sound (X := ⟨types, nop40.G, nop40.A, k, 0, []⟩) types_ok (mem_all (⟨Cpu39.ok k, ⟨Named84.ok k, trivial⟩⟩)) (fn := Tryz.f40) (c := codeOf Tryz.f40) rfl (by kernel_rfl) rfl rfl nop40.dr (nop40.eq k)

def Equal56.l0 (k : Nat) (s1 : tY115) (s2 : tY115) : Int → Option tY100
  | t13 =>
    cond (decide (t13 < (List.length s1 : Int)))
      ((rd s1 t13).bind fun t18 =>
      (rd s2 t13).bind fun t22 =>
      cond (t18 != t22)
        (some (Sum.inr (Sum.inr (false, ()))))
        (some (Sum.inl (w64 (t13 + 1)))))
      (some (Sum.inr (Sum.inl ())))
def Equal56 (k : Nat) (s1 : tY115) (s2 : tY115) : Option tY112 :=
  cond ((List.length s1 : Int) != (List.length s2 : Int))
    (some (false, ()))
    (Option.bind
      (loopN (Equal56.l0 k s1 s2) k 0 : Option tY106) (joined fun (_ : Unit) =>
      some (true, ())))
def Equal56.A : Ann := { conds := [], blocks := [(0, ⟨[], [], 0, [], 67100720⟩)], loops := [(4, ⟨[(13, .int .i64)], [], 0, [], 67100720⟩)], keeps := [], orders := [(6, [(0, .strong), (1, .strong), (2, .strong), (3, .strong), (4, .strong), (5, .strong), (6, .strong), (7, .strong), (8, .strong)])] }
def Equal56.S : Sig := { f := 56, params := [.sl kY51, .sl kY51], objs := [], res := .bool, outs := [], fix := [], run := fun k ds os => Equal56 k ds.1 ds.2 }
def Equal56.G : List Sig := []
theorem Equal56.eq (k : Nat) : ∀ ds os, Equal56.S.run k ds os = runF ⟨types, Equal56.G, Equal56.A, k, 0, []⟩ Tryz.f56 (codeOf Tryz.f56) Equal56.S.params Equal56.S.objs Equal56.S.res Equal56.S.outs ds os := by
  intro ds os; kernel_rfl
theorem Equal56.dr : DrOk Tryz.prog Equal56.A (codeOf Tryz.f56) := ⟨by kernel_rfl, by kernel_rfl⟩
theorem Equal56.ok (k : Nat) : SoundAt Tryz.prog k Equal56.S :=
  runF_sound (X := ⟨types, Equal56.G, Equal56.A, k, 0, []⟩) types_ok (fun s hs => absurd hs List.not_mem_nil) (fn := Tryz.f56) (c := codeOf Tryz.f56) rfl (by kernel_rfl) rfl rfl Equal56.dr (Equal56.eq k)

end Go.Proofs.YtcppmlgnceldmaaGreat.Fl

/- Go functions as plain Lean functions, and their contracts. -/
set_option linter.unusedVariables false
set_option maxRecDepth 100000
noncomputable section
namespace Go.Proofs.YtcppmlgnceldmaaGreat.Fl
open Go Go.Proofs.YtcppmlgnceldmaaGreat.Gp
def operands49 (k : Nat) : Option ((tY115 × ((List ByteArray) × Unit)) × Unit) :=
  some ((([0, 1, 1, 1, 2, 2, 2, 1, 1] : List Int), ([(ByteArray.mk #[]), (ByteArray.mk #[32, 35, 63]), (ByteArray.mk #[32, 42, 63]), (ByteArray.mk #[32, 42, 63, 44, 120]), (ByteArray.mk #[32, 63]), (ByteArray.mk #[32, 63, 44, 120]), (ByteArray.mk #[32, 63, 44, 121]), (ByteArray.mk #[32, 64, 63]), (ByteArray.mk #[32, 40, 63, 41, 44, 121])] : List ByteArray), ()), ())
def operands49.A : Ann := { conds := [], blocks := [], loops := [], keeps := [], orders := [] }
def operands49.S : Sig := { f := 49, params := [], objs := [], res := .tup (.pair (.sl kY51) (.pair (.sl .str) .unit)), outs := [], fix := [], run := fun k ds os => operands49 k }
def operands49.G : List Sig := []
theorem operands49.eq (k : Nat) : ∀ ds os, operands49.S.run k ds os = runF ⟨types, operands49.G, operands49.A, k, 0, []⟩ Tryz.f49 (codeOf Tryz.f49) operands49.S.params operands49.S.objs operands49.S.res operands49.S.outs ds os := by
  intro ds os; kernel_rfl
theorem operands49.dr : DrOk Tryz.prog operands49.A (codeOf Tryz.f49) := ⟨by kernel_rfl, by kernel_rfl⟩
theorem operands49.ok (k : Nat) : SoundAt Tryz.prog k operands49.S :=
  runF_sound (X := ⟨types, operands49.G, operands49.A, k, 0, []⟩) types_ok (fun s hs => absurd hs List.not_mem_nil) (fn := Tryz.f49) (c := codeOf Tryz.f49) rfl (by kernel_rfl) rfl rfl operands49.dr (operands49.eq k)

def with50.l0 (k : Nat) (c : tY12) (op : Int) : tY91 → Option (tY91 ⊕ tY31)
  | (_, t11, o0) =>
    cond (decide (t11 < (List.length c.2.1 : Int)))
      ((rd c.2.1 t11).bind fun t13 =>
      cond (t13.1 == op)
        (some (Sum.inr (Sum.inr ((t13, true, ()), ()))))
        (some (Sum.inl ((), (w64 (t11 + 1)), o0))))
      (some (Sum.inr (Sum.inl ((), o0))))
def with50 (k : Nat) (c : tY12) (op : Int) : Option tY45 :=
  Option.bind
    (loopN (with50.l0 k c op) k ((), 0, 0, (ByteArray.mk #[]), 0, ()) : Option tY31) (joined fun ((_, _) : (Unit × (Int × tY105))) =>
    some (((0, (ByteArray.mk #[]), 0, []), false, ()), ()))
def with50.A : Ann := { conds := [], blocks := [(0, ⟨[(4, .ptr 0 [])], [(0, .var kY30)], 1, [], 2095264⟩)], loops := [(2, ⟨[(4, .ptr 0 []), (11, .int .i64)], [(0, .var kY30)], 1, [], 2095264⟩)], keeps := [2, 7], orders := [] }
def with50.S : Sig := { f := 50, params := [.st kY1, .int .i64], objs := [], res := .tup kY6, outs := [], fix := [], run := fun k ds os => with50 k ds.1 ds.2 }
def with50.G : List Sig := []
theorem with50.eq (k : Nat) : ∀ ds os, with50.S.run k ds os = runF ⟨types, with50.G, with50.A, k, 0, []⟩ Tryz.f50 (codeOf Tryz.f50) with50.S.params with50.S.objs with50.S.res with50.S.outs ds os := by
  intro ds os; kernel_rfl
theorem with50.dr : DrOk Tryz.prog with50.A (codeOf Tryz.f50) := ⟨by kernel_rfl, by kernel_rfl⟩
theorem with50.ok (k : Nat) : SoundAt Tryz.prog k with50.S :=
  runF_sound (X := ⟨types, with50.G, with50.A, k, 0, []⟩) types_ok (fun s hs => absurd hs List.not_mem_nil) (fn := Tryz.f50) (c := codeOf Tryz.f50) rfl (by kernel_rfl) rfl rfl with50.dr (with50.eq k)

def starts57 (k : Nat) (c : tY12) (code : tY92) (addr : Int) : Option tY46 :=
  (operands49 k).bind fun t13 =>
  cond (cond (decide (addr < code.1)) true (decide (addr ≥ (w64 (code.1 + (List.length code.2.1 : Int))))))
    (some (((0, (ByteArray.mk #[]), 0, []), 19, ()), ()))
    (Option.bind
      ((rd code.2.1 (w64 (addr - code.1))).bind fun t39 =>
      agree
        ((with50 k c (w64 t39)).bind fun t42 =>
        some (code, (), t42.1.1, t42.1.2.1, 0, (ByteArray.mk #[]), 0, ()))
        ((with50 k c (w64 t39)).bind fun t42_1 =>
        some (code, (), t42_1.1.1, t42_1.1.2.1, 0, (ByteArray.mk #[]), 0, ())) : Option tY19) fun ((code_1, _, x, ok, _) : tY19) =>
    cond (!ok)
      (some (((0, (ByteArray.mk #[]), 0, []), 4, ()), ()))
      ((rd t13.1.1 x.2.2.1).bind fun t54 =>
      cond (decide ((w64 (addr + t54)) ≥ (w64 (code_1.1 + (List.length code_1.2.1 : Int)))))
        (some (((0, (ByteArray.mk #[]), 0, []), 13, ()), ()))
        (some ((x, 0, ()), ()))))
def starts57.A : Ann := { conds := [], blocks := [], loops := [], keeps := [3, 4, 10], orders := [(7, [(0, .strong), (1, .strong), (2, .strong), (3, .strong), (4, .strong), (5, .strong), (6, .strong), (7, .strong), (8, .strong), (9, .strong), (10, .strong), (11, .strong), (12, .strong), (13, .strong), (14, .strong)])], alts := [(4, ((.op 0 .strong (.op 1 .strong (.op 2 .strong (.op 3 .strong (.op 4 .strong (.op 5 .strong (.op 6 .strong (.op 7 .strong (.op 8 .strong (.op 9 .strong (.alt (.op 10 (.eff true) (.op 11 .strong (.op 12 .strong (.op 13 .weak (.op 14 (.eff true) (.op 15 (.eff false) (.op 16 .strong (.leaf [])))))))) (.op 14 (.eff true) (.op 10 (.eff true) (.op 11 .strong (.op 12 .strong (.op 13 .weak (.op 15 (.eff false) (.op 16 .strong (.leaf []))))))))))))))))))), ⟨[(4, .fp kY20), (6, .ptr 0 []), (10, .fp kY8), (11, .bool)], [(0, .var kY30)], 1, [], 35182224608256⟩))] }
def starts57.S : Sig := { f := 57, params := [.st kY1, .st kY24, .int .i64], objs := [], res := .tup kY5, outs := [], fix := [], run := fun k ds os => starts57 k ds.1 ds.2.1 ds.2.2 }
def starts57.G : List Sig := [operands49.S, with50.S]
theorem starts57.eq (k : Nat) : ∀ ds os, starts57.S.run k ds os = runF ⟨types, starts57.G, starts57.A, k, 0, []⟩ Tryz.f57 (codeOf Tryz.f57) starts57.S.params starts57.S.objs starts57.S.res starts57.S.outs ds os := by
  intro ds os; kernel_rfl
theorem starts57.dr : DrOk Tryz.prog starts57.A (codeOf Tryz.f57) := ⟨by kernel_rfl, by kernel_rfl⟩
theorem starts57.ok (k : Nat) : SoundAt Tryz.prog k starts57.S :=
  runF_sound (X := ⟨types, starts57.G, starts57.A, k, 0, []⟩) types_ok (mem_all (⟨operands49.ok k, ⟨with50.ok k, trivial⟩⟩)) (fn := Tryz.f57) (c := codeOf Tryz.f57) rfl (by kernel_rfl) rfl rfl starts57.dr (starts57.eq k)

def known94 (k : Nat) (n : Int) (bits : Int) : Option tY108 :=
  (if bits < 0 then none else some (shlI .i64 1 bits)).bind fun t7 =>
  (if t7 = 0 then none else some (Int.tmod n t7)).bind fun t8 =>
  (if bits < 0 then none else some (shlI .i64 1 bits)).bind fun t10 =>
  (if bits < 0 then none else some (shlI .i64 1 bits)).bind fun t13 =>
  (if t13 = 0 then none else some (Int.tmod (w64 (t8 + t10)) t13)).bind fun t14 =>
  some ((t14, true), ())
def known94.A : Ann := { conds := [], blocks := [], loops := [], keeps := [], orders := [(1, [(0, .strong), (1, .strong), (2, .strong), (3, .strong), (4, .strong), (5, .strong), (6, .strong), (7, .strong), (8, .strong), (9, .strong), (10, .strong), (11, .eff false)])] }
def known94.S : Sig := { f := 94, params := [.int .i64, .int .i64], objs := [], res := .st kY47, outs := [], fix := [], run := fun k ds os => known94 k ds.1 ds.2 }
def known94.G : List Sig := []
theorem known94.eq (k : Nat) : ∀ ds os, known94.S.run k ds os = runF ⟨types, known94.G, known94.A, k, 0, []⟩ Tryz.f94 (codeOf Tryz.f94) known94.S.params known94.S.objs known94.S.res known94.S.outs ds os := by
  intro ds os; kernel_rfl
theorem known94.dr : DrOk Tryz.prog known94.A (codeOf Tryz.f94) := ⟨by kernel_rfl, by kernel_rfl⟩
theorem known94.ok (k : Nat) : SoundAt Tryz.prog k known94.S :=
  runF_sound (X := ⟨types, known94.G, known94.A, k, 0, []⟩) types_ok (fun s hs => absurd hs List.not_mem_nil) (fn := Tryz.f94) (c := codeOf Tryz.f94) rfl (by kernel_rfl) rfl rfl known94.dr (known94.eq k)

def put1130 (k : Nat) (l : tY115) : Option tY113 :=
  (rd l 0).bind fun t4 =>
  some (t4, ())
def put1130.A : Ann := { conds := [], blocks := [], loops := [], keeps := [], orders := [] }
def put1130.S : Sig := { f := 130, params := [.sl kY51], objs := [], res := .int .i64, outs := [], fix := [], run := fun k ds os => put1130 k ds }
def put1130.G : List Sig := []
theorem put1130.eq (k : Nat) : ∀ ds os, put1130.S.run k ds os = runF ⟨types, put1130.G, put1130.A, k, 0, []⟩ Tryz.f130 (codeOf Tryz.f130) put1130.S.params put1130.S.objs put1130.S.res put1130.S.outs ds os := by
  intro ds os; kernel_rfl
theorem put1130.dr : DrOk Tryz.prog put1130.A (codeOf Tryz.f130) := ⟨by kernel_rfl, by kernel_rfl⟩
theorem put1130.ok (k : Nat) : SoundAt Tryz.prog k put1130.S :=
  runF_sound (X := ⟨types, put1130.G, put1130.A, k, 0, []⟩) types_ok (fun s hs => absurd hs List.not_mem_nil) (fn := Tryz.f130) (c := codeOf Tryz.f130) rfl (by kernel_rfl) rfl rfl put1130.dr (put1130.eq k)
end Go.Proofs.YtcppmlgnceldmaaGreat.Fl

/- Go functions as plain Lean functions, and their contracts. -/
set_option linter.unusedVariables false
set_option maxRecDepth 100000
noncomputable section
namespace Go.Proofs.YtcppmlgnceldmaaGreat.Fl
open Go Go.Proofs.YtcppmlgnceldmaaGreat.Gp
def then129.l0 (k : Nat) (l : tY109) : tY84 → Option tY35
  | (_, _, _, t12, o0, o3) =>
    cond (decide (t12 < (List.length l : Int)))
      ((rd l t12).bind fun t14 =>
      cond (!t14.2)
        (some (Sum.inr (Sum.inr ((0, false), ()))))
        ((if room (List.length o3 + List.length ([t14.1] : List Int)) 8 then some () else none).bind fun _ =>
        some (Sum.inl ((), (), (), (w64 (t12 + 1)), o0, (o3 ++ ([t14.1] : List Int))))))
      (some (Sum.inr (Sum.inl ((), (), (), o0, o3))))
def then129 (k : Nat) (bits : Int) (_ : Unit) (l : tY109) : Option tY108 :=
  Option.bind
    (loopN (then129.l0 k l) k ((), (), (), 0, (0, false), []) : Option tY71) (joined fun ((_, _, _, _, o3_1) : tY89) =>
    (put1130 k o3_1).bind fun t28 =>
    (known94 k t28.1 bits).bind fun t30 =>
    some (t30.1, ()))
def then129.A : Ann := { conds := [], blocks := [(0, ⟨[(1, .fn 130 .unit), (6, .ptr 0 []), (7, .ms 3)], [(0, .var kY45), (3, .row kY51)], 4, [], 67105408⟩)], loops := [(3, ⟨[(1, .fn 130 .unit), (6, .ptr 0 []), (7, .ms 3), (12, .int .i64)], [(0, .var kY45), (3, .row kY51)], 4, [(3, .int .i64)], 67105408⟩)], keeps := [9], orders := [] }
def then129.S : Sig := { f := 129, params := [.int .i64, .fn 130 .unit, .sl kY45], objs := [], res := .st kY47, outs := [], fix := [], run := fun k ds os => then129 k ds.1 ds.2.1 ds.2.2 }
def then129.G : List Sig := [known94.S, put1130.S]
theorem then129.eq (k : Nat) : ∀ ds os, then129.S.run k ds os = runF ⟨types, then129.G, then129.A, k, 0, []⟩ Tryz.f129 (codeOf Tryz.f129) then129.S.params then129.S.objs then129.S.res then129.S.outs ds os := by
  intro ds os; kernel_rfl
theorem then129.dr : DrOk Tryz.prog then129.A (codeOf Tryz.f129) := ⟨by kernel_rfl, by kernel_rfl⟩
theorem then129.ok (k : Nat) : SoundAt Tryz.prog k then129.S :=
  runF_sound (X := ⟨types, then129.G, then129.A, k, 0, []⟩) types_ok (mem_all (⟨known94.ok k, ⟨put1130.ok k, trivial⟩⟩)) (fn := Tryz.f129) (c := codeOf Tryz.f129) rfl (by kernel_rfl) rfl rfl then129.dr (then129.eq k)

def wide131 (k : Nat) (reg : Int) : Option tY112 :=
  some ((decide (reg ≥ 7)), ())
def wide131.A : Ann := { conds := [], blocks := [], loops := [], keeps := [], orders := [] }
def wide131.S : Sig := { f := 131, params := [.int .i64], objs := [], res := .bool, outs := [], fix := [], run := fun k ds os => wide131 k ds }
def wide131.G : List Sig := []
theorem wide131.eq (k : Nat) : ∀ ds os, wide131.S.run k ds os = runF ⟨types, wide131.G, wide131.A, k, 0, []⟩ Tryz.f131 (codeOf Tryz.f131) wide131.S.params wide131.S.objs wide131.S.res wide131.S.outs ds os := by
  intro ds os; kernel_rfl
theorem wide131.dr : DrOk Tryz.prog wide131.A (codeOf Tryz.f131) := ⟨by kernel_rfl, by kernel_rfl⟩
theorem wide131.ok (k : Nat) : SoundAt Tryz.prog k wide131.S :=
  runF_sound (X := ⟨types, wide131.G, wide131.A, k, 0, []⟩) types_ok (fun s hs => absurd hs List.not_mem_nil) (fn := Tryz.f131) (c := codeOf Tryz.f131) rfl (by kernel_rfl) rfl rfl wide131.dr (wide131.eq k)

def put2132 (k : Nat) (l : tY115) : Option tY113 :=
  (rd l 0).bind fun t4 =>
  some ((quoI .i64 t4 256), ())
def put2132.A : Ann := { conds := [], blocks := [], loops := [], keeps := [], orders := [] }
def put2132.S : Sig := { f := 132, params := [.sl kY51], objs := [], res := .int .i64, outs := [], fix := [], run := fun k ds os => put2132 k ds }
def put2132.G : List Sig := []
theorem put2132.eq (k : Nat) : ∀ ds os, put2132.S.run k ds os = runF ⟨types, put2132.G, put2132.A, k, 0, []⟩ Tryz.f132 (codeOf Tryz.f132) put2132.S.params put2132.S.objs put2132.S.res put2132.S.outs ds os := by
  intro ds os; kernel_rfl
theorem put2132.dr : DrOk Tryz.prog put2132.A (codeOf Tryz.f132) := ⟨by kernel_rfl, by kernel_rfl⟩
theorem put2132.ok (k : Nat) : SoundAt Tryz.prog k put2132.S :=
  runF_sound (X := ⟨types, put2132.G, put2132.A, k, 0, []⟩) types_ok (fun s hs => absurd hs List.not_mem_nil) (fn := Tryz.f132) (c := codeOf Tryz.f132) rfl (by kernel_rfl) rfl rfl put2132.dr (put2132.eq k)

def then129'.l0 (k : Nat) (l : tY109) : tY84 → Option tY35
  | (_, _, _, t12, o0, o3) =>
    cond (decide (t12 < (List.length l : Int)))
      ((rd l t12).bind fun t14 =>
      cond (!t14.2)
        (some (Sum.inr (Sum.inr ((0, false), ()))))
        ((if room (List.length o3 + List.length ([t14.1] : List Int)) 8 then some () else none).bind fun _ =>
        some (Sum.inl ((), (), (), (w64 (t12 + 1)), o0, (o3 ++ ([t14.1] : List Int))))))
      (some (Sum.inr (Sum.inl ((), (), (), o0, o3))))
def then129' (k : Nat) (bits : Int) (_ : Unit) (l : tY109) : Option tY108 :=
  Option.bind
    (loopN (then129'.l0 k l) k ((), (), (), 0, (0, false), []) : Option tY71) (joined fun ((_, _, _, _, o3_1) : tY89) =>
    (put2132 k o3_1).bind fun t28 =>
    (known94 k t28.1 bits).bind fun t30 =>
    some (t30.1, ()))
def then129'.A : Ann := { conds := [], blocks := [(0, ⟨[(1, .fn 132 .unit), (6, .ptr 0 []), (7, .ms 3)], [(0, .var kY45), (3, .row kY51)], 4, [], 67105408⟩)], loops := [(3, ⟨[(1, .fn 132 .unit), (6, .ptr 0 []), (7, .ms 3), (12, .int .i64)], [(0, .var kY45), (3, .row kY51)], 4, [(3, .int .i64)], 67105408⟩)], keeps := [9], orders := [] }
def then129'.S : Sig := { f := 129, params := [.int .i64, .fn 132 .unit, .sl kY45], objs := [], res := .st kY47, outs := [], fix := [], run := fun k ds os => then129' k ds.1 ds.2.1 ds.2.2 }
def then129'.G : List Sig := [known94.S, put2132.S]
theorem then129'.eq (k : Nat) : ∀ ds os, then129'.S.run k ds os = runF ⟨types, then129'.G, then129'.A, k, 0, []⟩ Tryz.f129 (codeOf Tryz.f129) then129'.S.params then129'.S.objs then129'.S.res then129'.S.outs ds os := by
  intro ds os; kernel_rfl
theorem then129'.dr : DrOk Tryz.prog then129'.A (codeOf Tryz.f129) := ⟨by kernel_rfl, by kernel_rfl⟩
theorem then129'.ok (k : Nat) : SoundAt Tryz.prog k then129'.S :=
  runF_sound (X := ⟨types, then129'.G, then129'.A, k, 0, []⟩) types_ok (mem_all (⟨known94.ok k, ⟨put2132.ok k, trivial⟩⟩)) (fn := Tryz.f129) (c := codeOf Tryz.f129) rfl (by kernel_rfl) rfl rfl then129'.dr (then129'.eq k)

def put93 (k : Nat) (_ : Unit) (reg : Int) (v : tY114) (o0 : tY109) : Option (Unit × tY109) :=
  (then129 k 8 () [v]).bind fun t11 =>
  (if 0 ≤ (w64 (2 * reg)) ∧ (w64 (2 * reg)) < 18 then some () else none).bind fun _ =>
  (rd o0 (w64 (2 * reg))).bind fun _ =>
  (wide131 k reg).bind fun t15 =>
  Option.bind
    (cond t15.1
      (let t19 : Int := (w64 ((w64 (2 * reg)) + 1))
      (then129' k 8 () [v]).bind fun t22 =>
      (if 0 ≤ t19 ∧ t19 < 18 then some () else none).bind fun _ =>
      (rd (List.set o0 (Int.toNat (w64 (2 * reg))) t11.1) t19).bind fun _ =>
      some (List.set (List.set o0 (Int.toNat (w64 (2 * reg))) t11.1) (Int.toNat t19) t22.1))
      (some (List.set o0 (Int.toNat (w64 (2 * reg))) t11.1)) : Option tY109) fun (o0_1 : tY109) =>
  some ((), o0_1)
def put93.A : Ann := { conds := [(983043, ⟨[], [(0, .var kY43)], 1, [], 33488896⟩)], blocks := [], loops := [], keeps := [5], orders := [(1, [(0, .strong), (1, .strong), (2, .strong), (3, .strong), (6, .strong), (4, .eff true), (5, .eff true), (7, .strong), (8, .eff false)]), (3, [(0, .strong), (1, .strong), (2, .strong), (3, .strong), (4, .strong), (7, .strong), (5, .eff true), (6, .eff true), (8, .strong), (9, .eff false)])] }
def put93.S : Sig := { f := 93, params := [.ptr 0 [], .int .i64, .st kY47], objs := [.var kY43], res := .tup .unit, outs := [.var kY43], fix := [], run := fun k ds os => put93 k ds.1 ds.2.1 ds.2.2 os }
def put93.G : List Sig := [then129.S, then129'.S, wide131.S]
theorem put93.eq (k : Nat) : ∀ ds os, put93.S.run k ds os = runF ⟨types, put93.G, put93.A, k, 0, []⟩ Tryz.f93 (codeOf Tryz.f93) put93.S.params put93.S.objs put93.S.res put93.S.outs ds os := by
  intro ds os; kernel_rfl
theorem put93.dr : DrOk Tryz.prog put93.A (codeOf Tryz.f93) := ⟨by kernel_rfl, by kernel_rfl⟩
theorem put93.ok (k : Nat) : SoundAt Tryz.prog k put93.S :=
  runF_sound (X := ⟨types, put93.G, put93.A, k, 0, []⟩) types_ok (mem_all (⟨then129.ok k, ⟨then129'.ok k, ⟨wide131.ok k, trivial⟩⟩⟩)) (fn := Tryz.f93) (c := codeOf Tryz.f93) rfl (by kernel_rfl) rfl rfl put93.dr (put93.eq k)

def get1136 (k : Nat) (l : tY115) : Option tY113 :=
  (rd l 0).bind fun t4 =>
  (rd l 1).bind fun t7 =>
  some ((w64 (t4 + (w64 (256 * t7)))), ())
def get1136.A : Ann := { conds := [], blocks := [], loops := [], keeps := [], orders := [(1, [(0, .strong), (1, .strong), (2, .strong), (3, .strong), (4, .strong), (5, .strong), (6, .strong), (7, .strong), (8, .strong)])] }
def get1136.S : Sig := { f := 136, params := [.sl kY51], objs := [], res := .int .i64, outs := [], fix := [], run := fun k ds os => get1136 k ds }
def get1136.G : List Sig := []
theorem get1136.eq (k : Nat) : ∀ ds os, get1136.S.run k ds os = runF ⟨types, get1136.G, get1136.A, k, 0, []⟩ Tryz.f136 (codeOf Tryz.f136) get1136.S.params get1136.S.objs get1136.S.res get1136.S.outs ds os := by
  intro ds os; kernel_rfl
theorem get1136.dr : DrOk Tryz.prog get1136.A (codeOf Tryz.f136) := ⟨by kernel_rfl, by kernel_rfl⟩
theorem get1136.ok (k : Nat) : SoundAt Tryz.prog k get1136.S :=
  runF_sound (X := ⟨types, get1136.G, get1136.A, k, 0, []⟩) types_ok (fun s hs => absurd hs List.not_mem_nil) (fn := Tryz.f136) (c := codeOf Tryz.f136) rfl (by kernel_rfl) rfl rfl get1136.dr (get1136.eq k)

def then129''.l0 (k : Nat) (l : tY109) : tY84 → Option tY35
  | (_, _, _, t12, o0, o3) =>
    cond (decide (t12 < (List.length l : Int)))
      ((rd l t12).bind fun t14 =>
      cond (!t14.2)
        (some (Sum.inr (Sum.inr ((0, false), ()))))
        ((if room (List.length o3 + List.length ([t14.1] : List Int)) 8 then some () else none).bind fun _ =>
        some (Sum.inl ((), (), (), (w64 (t12 + 1)), o0, (o3 ++ ([t14.1] : List Int))))))
      (some (Sum.inr (Sum.inl ((), (), (), o0, o3))))
def then129'' (k : Nat) (bits : Int) (_ : Unit) (l : tY109) : Option tY108 :=
  Option.bind
    (loopN (then129''.l0 k l) k ((), (), (), 0, (0, false), []) : Option tY71) (joined fun ((_, _, _, _, o3_1) : tY89) =>
    (get1136 k o3_1).bind fun t28 =>
    (known94 k t28.1 bits).bind fun t30 =>
    some (t30.1, ()))
def then129''.A : Ann := { conds := [], blocks := [(0, ⟨[(1, .fn 136 .unit), (6, .ptr 0 []), (7, .ms 3)], [(0, .var kY45), (3, .row kY51)], 4, [], 67105408⟩)], loops := [(3, ⟨[(1, .fn 136 .unit), (6, .ptr 0 []), (7, .ms 3), (12, .int .i64)], [(0, .var kY45), (3, .row kY51)], 4, [(3, .int .i64)], 67105408⟩)], keeps := [9], orders := [] }
def then129''.S : Sig := { f := 129, params := [.int .i64, .fn 136 .unit, .sl kY45], objs := [], res := .st kY47, outs := [], fix := [], run := fun k ds os => then129'' k ds.1 ds.2.1 ds.2.2 }
def then129''.G : List Sig := [get1136.S, known94.S]
theorem then129''.eq (k : Nat) : ∀ ds os, then129''.S.run k ds os = runF ⟨types, then129''.G, then129''.A, k, 0, []⟩ Tryz.f129 (codeOf Tryz.f129) then129''.S.params then129''.S.objs then129''.S.res then129''.S.outs ds os := by
  intro ds os; kernel_rfl
theorem then129''.dr : DrOk Tryz.prog then129''.A (codeOf Tryz.f129) := ⟨by kernel_rfl, by kernel_rfl⟩
theorem then129''.ok (k : Nat) : SoundAt Tryz.prog k then129''.S :=
  runF_sound (X := ⟨types, then129''.G, then129''.A, k, 0, []⟩) types_ok (mem_all (⟨get1136.ok k, ⟨known94.ok k, trivial⟩⟩)) (fn := Tryz.f129) (c := codeOf Tryz.f129) rfl (by kernel_rfl) rfl rfl then129''.dr (then129''.eq k)
end Go.Proofs.YtcppmlgnceldmaaGreat.Fl

/- Go functions as plain Lean functions, and their contracts. -/
set_option linter.unusedVariables false
set_option maxRecDepth 100000
noncomputable section
namespace Go.Proofs.YtcppmlgnceldmaaGreat.Fl
open Go Go.Proofs.YtcppmlgnceldmaaGreat.Gp
def get96 (k : Nat) (_ : Unit) (reg : Int) (o0 : tY103) (o1 : tY109) : Option (tY114 × tY90) :=
  (wide131 k reg).bind fun t6 =>
  cond (!t6.1)
    ((if 0 ≤ (w64 (2 * reg)) ∧ (w64 (2 * reg)) < 18 then some () else none).bind fun _ =>
    (rd o0.1 (w64 (2 * reg))).bind fun t13 =>
    some (t13, o0, o1))
    ((if 0 ≤ (w64 (2 * reg)) ∧ (w64 (2 * reg)) < 18 then some () else none).bind fun _ =>
    (rd o0.1 (w64 (2 * reg))).bind fun t19 =>
    let t23 : Int := (w64 ((w64 (2 * reg)) + 1))
    (if 0 ≤ t23 ∧ t23 < 18 then some () else none).bind fun _ =>
    (rd o0.1 t23).bind fun t26 =>
    (then129'' k 16 () [t19, t26]).bind fun t28 =>
    some (t28.1, o0, o1))
def get96.A : Ann := { conds := [], blocks := [], loops := [], keeps := [], orders := [(3, [(0, .strong), (1, .strong), (2, .strong), (3, .strong), (4, .strong), (5, .strong), (6, .strong), (7, .strong), (8, .strong), (9, .strong), (10, .strong), (11, .strong), (12, .strong), (13, .eff true), (14, .eff true), (15, .eff false)])] }
def get96.S : Sig := { f := 96, params := [.ptr 0 [.fld 0 0], .int .i64], objs := [.var kY31, .row kY45], res := .st kY47, outs := [.var kY31, .row kY45], fix := [], run := fun k ds os => get96 k ds.1 ds.2 os.1 os.2 }
def get96.G : List Sig := [then129''.S, wide131.S]
theorem get96.eq (k : Nat) : ∀ ds os, get96.S.run k ds os = runF ⟨types, get96.G, get96.A, k, 0, []⟩ Tryz.f96 (codeOf Tryz.f96) get96.S.params get96.S.objs get96.S.res get96.S.outs ds os := by
  intro ds os; kernel_rfl
theorem get96.dr : DrOk Tryz.prog get96.A (codeOf Tryz.f96) := ⟨by kernel_rfl, by kernel_rfl⟩
theorem get96.ok (k : Nat) : SoundAt Tryz.prog k get96.S :=
  runF_sound (X := ⟨types, get96.G, get96.A, k, 0, []⟩) types_ok (mem_all (⟨then129''.ok k, ⟨wide131.ok k, trivial⟩⟩)) (fn := Tryz.f96) (c := codeOf Tryz.f96) rfl (by kernel_rfl) rfl rfl get96.dr (get96.eq k)

def read167 (k : Nat) (code : tY92) (at_ : tY114) : Option tY108 :=
  cond (cond (cond (!at_.2) true (decide (at_.1 < code.1))) true (decide (at_.1 ≥ (w64 (code.1 + (List.length code.2.1 : Int))))))
    (some ((0, false), ()))
    ((rd code.2.1 (w64 (at_.1 - code.1))).bind fun t34 =>
    (known94 k (w64 t34) 8).bind fun t37 =>
    some (t37.1, ()))
def read167.A : Ann := { conds := [], blocks := [], loops := [], keeps := [2, 3], orders := [] }
def read167.S : Sig := { f := 167, params := [.st kY24, .st kY47], objs := [], res := .st kY47, outs := [], fix := [], run := fun k ds os => read167 k ds.1 ds.2 }
def read167.G : List Sig := [known94.S]
theorem read167.eq (k : Nat) : ∀ ds os, read167.S.run k ds os = runF ⟨types, read167.G, read167.A, k, 0, []⟩ Tryz.f167 (codeOf Tryz.f167) read167.S.params read167.S.objs read167.S.res read167.S.outs ds os := by
  intro ds os; kernel_rfl
theorem read167.dr : DrOk Tryz.prog read167.A (codeOf Tryz.f167) := ⟨by kernel_rfl, by kernel_rfl⟩
theorem read167.ok (k : Nat) : SoundAt Tryz.prog k read167.S :=
  runF_sound (X := ⟨types, read167.G, read167.A, k, 0, []⟩) types_ok (mem_all (⟨known94.ok k, trivial⟩)) (fn := Tryz.f167) (c := codeOf Tryz.f167) rfl (by kernel_rfl) rfl rfl read167.dr (read167.eq k)

def size165 (k : Nat) (reg : Int) : Option tY113 :=
  (wide131 k reg).bind fun t4 =>
  cond t4.1
    (some (16, ()))
    (some (8, ()))
def size165.A : Ann := { conds := [], blocks := [], loops := [], keeps := [], orders := [] }
def size165.S : Sig := { f := 165, params := [.int .i64], objs := [], res := .int .i64, outs := [], fix := [], run := fun k ds os => size165 k ds }
def size165.G : List Sig := [wide131.S]
theorem size165.eq (k : Nat) : ∀ ds os, size165.S.run k ds os = runF ⟨types, size165.G, size165.A, k, 0, []⟩ Tryz.f165 (codeOf Tryz.f165) size165.S.params size165.S.objs size165.S.res size165.S.outs ds os := by
  intro ds os; kernel_rfl
theorem size165.dr : DrOk Tryz.prog size165.A (codeOf Tryz.f165) := ⟨by kernel_rfl, by kernel_rfl⟩
theorem size165.ok (k : Nat) : SoundAt Tryz.prog k size165.S :=
  runF_sound (X := ⟨types, size165.G, size165.A, k, 0, []⟩) types_ok (mem_all (⟨wide131.ok k, trivial⟩)) (fn := Tryz.f165) (c := codeOf Tryz.f165) rfl (by kernel_rfl) rfl rfl size165.dr (size165.eq k)

def cycle11166 (k : Nat) (l : tY115) (t1 : Int) : Option tY113 :=
  (rd l 0).bind fun t5 =>
  some ((w64 (t5 + t1)), ())
def cycle11166.A : Ann := { conds := [], blocks := [], loops := [], keeps := [], orders := [(1, [(0, .strong), (1, .strong), (2, .strong), (3, .strong), (4, .strong), (5, .strong)])] }
def cycle11166.S : Sig := { f := 166, params := [.sl kY51, .fp kY51], objs := [], res := .int .i64, outs := [], fix := [], run := fun k ds os => cycle11166 k ds.1 ds.2 }
def cycle11166.G : List Sig := []
theorem cycle11166.eq (k : Nat) : ∀ ds os, cycle11166.S.run k ds os = runF ⟨types, cycle11166.G, cycle11166.A, k, 0, []⟩ Tryz.f166 (codeOf Tryz.f166) cycle11166.S.params cycle11166.S.objs cycle11166.S.res cycle11166.S.outs ds os := by
  intro ds os; kernel_rfl
theorem cycle11166.dr : DrOk Tryz.prog cycle11166.A (codeOf Tryz.f166) := ⟨by kernel_rfl, by kernel_rfl⟩
theorem cycle11166.ok (k : Nat) : SoundAt Tryz.prog k cycle11166.S :=
  runF_sound (X := ⟨types, cycle11166.G, cycle11166.A, k, 0, []⟩) types_ok (fun s hs => absurd hs List.not_mem_nil) (fn := Tryz.f166) (c := codeOf Tryz.f166) rfl (by kernel_rfl) rfl rfl cycle11166.dr (cycle11166.eq k)

def then129'''.l0 (k : Nat) (l : tY109) : tY78 → Option (tY78 ⊕ tY65)
  | (f_1, _, _, t12, o0, o3) =>
    cond (decide (t12 < (List.length l : Int)))
      ((rd l t12).bind fun t14 =>
      cond (!t14.2)
        (some (Sum.inr (Sum.inr ((0, false), ()))))
        ((if room (List.length o3 + List.length ([t14.1] : List Int)) 8 then some () else none).bind fun _ =>
        some (Sum.inl (f_1, (), (), (w64 (t12 + 1)), o0, (o3 ++ ([t14.1] : List Int))))))
      (some (Sum.inr (Sum.inl (f_1, (), (), o0, o3))))
def then129''' (k : Nat) (bits : Int) (f : tY113) (l : tY109) : Option tY108 :=
  Option.bind
    (loopN (then129'''.l0 k l) k (f, (), (), 0, (0, false), []) : Option tY65) (joined fun ((f_2, _, _, _, o3_1) : (tY113 × (Unit × (Unit × (tY114 × tY115))))) =>
    (cycle11166 k o3_1 f_2.1).bind fun t28 =>
    (known94 k t28.1 bits).bind fun t30 =>
    some (t30.1, ()))
def then129'''.A : Ann := { conds := [], blocks := [(0, ⟨[(1, .fn 166 kY46), (6, .ptr 0 []), (7, .ms 3)], [(0, .var kY45), (3, .row kY51)], 4, [], 67105408⟩)], loops := [(3, ⟨[(1, .fn 166 kY46), (6, .ptr 0 []), (7, .ms 3), (12, .int .i64)], [(0, .var kY45), (3, .row kY51)], 4, [(3, .int .i64)], 67105408⟩)], keeps := [9], orders := [] }
def then129'''.S : Sig := { f := 129, params := [.int .i64, .fn 166 kY46, .sl kY45], objs := [], res := .st kY47, outs := [], fix := [], run := fun k ds os => then129''' k ds.1 ds.2.1 ds.2.2 }
def then129'''.G : List Sig := [cycle11166.S, known94.S]
theorem then129'''.eq (k : Nat) : ∀ ds os, then129'''.S.run k ds os = runF ⟨types, then129'''.G, then129'''.A, k, 0, []⟩ Tryz.f129 (codeOf Tryz.f129) then129'''.S.params then129'''.S.objs then129'''.S.res then129'''.S.outs ds os := by
  intro ds os; kernel_rfl
theorem then129'''.dr : DrOk Tryz.prog then129'''.A (codeOf Tryz.f129) := ⟨by kernel_rfl, by kernel_rfl⟩
theorem then129'''.ok (k : Nat) : SoundAt Tryz.prog k then129'''.S :=
  runF_sound (X := ⟨types, then129'''.G, then129'''.A, k, 0, []⟩) types_ok (mem_all (⟨cycle11166.ok k, ⟨known94.ok k, trivial⟩⟩)) (fn := Tryz.f129) (c := codeOf Tryz.f129) rfl (by kernel_rfl) rfl rfl then129'''.dr (then129'''.eq k)

def put93' (k : Nat) (_ : Unit) (reg : Int) (v : tY114) (o0 : tY103) (o1 : tY109) : Option tY85 :=
  (then129 k 8 () [v]).bind fun t11 =>
  (if 0 ≤ (w64 (2 * reg)) ∧ (w64 (2 * reg)) < 18 then some () else none).bind fun _ =>
  (rd o0.1 (w64 (2 * reg))).bind fun _ =>
  (wide131 k reg).bind fun t15 =>
  Option.bind
    (cond t15.1
      (let t19 : Int := (w64 ((w64 (2 * reg)) + 1))
      (then129' k 8 () [v]).bind fun t22 =>
      (if 0 ≤ t19 ∧ t19 < 18 then some () else none).bind fun _ =>
      (rd (List.set o0.1 (Int.toNat (w64 (2 * reg))) t11.1) t19).bind fun _ =>
      some (((List.set (List.set o0.1 (Int.toNat (w64 (2 * reg))) t11.1) (Int.toNat t19) t22.1), o0.2), o1))
      (some (((List.set o0.1 (Int.toNat (w64 (2 * reg))) t11.1), o0.2), o1)) : Option tY90) fun ((o0_1, o1_1) : tY90) =>
  some ((), o0_1, o1_1)
def put93'.A : Ann := { conds := [(983043, ⟨[], [(0, .var kY31), (1, .row kY45)], 2, [], 33488896⟩)], blocks := [], loops := [], keeps := [5], orders := [(1, [(0, .strong), (1, .strong), (2, .strong), (3, .strong), (6, .strong), (4, .eff true), (5, .eff true), (7, .strong), (8, .eff false)]), (3, [(0, .strong), (1, .strong), (2, .strong), (3, .strong), (4, .strong), (7, .strong), (5, .eff true), (6, .eff true), (8, .strong), (9, .eff false)])] }
def put93'.S : Sig := { f := 93, params := [.ptr 0 [.fld 0 0], .int .i64, .st kY47], objs := [.var kY31, .row kY45], res := .tup .unit, outs := [.var kY31, .row kY45], fix := [], run := fun k ds os => put93' k ds.1 ds.2.1 ds.2.2 os.1 os.2 }
def put93'.G : List Sig := [then129.S, then129'.S, wide131.S]
theorem put93'.eq (k : Nat) : ∀ ds os, put93'.S.run k ds os = runF ⟨types, put93'.G, put93'.A, k, 0, []⟩ Tryz.f93 (codeOf Tryz.f93) put93'.S.params put93'.S.objs put93'.S.res put93'.S.outs ds os := by
  intro ds os; kernel_rfl
theorem put93'.dr : DrOk Tryz.prog put93'.A (codeOf Tryz.f93) := ⟨by kernel_rfl, by kernel_rfl⟩
theorem put93'.ok (k : Nat) : SoundAt Tryz.prog k put93'.S :=
  runF_sound (X := ⟨types, put93'.G, put93'.A, k, 0, []⟩) types_ok (mem_all (⟨then129.ok k, ⟨then129'.ok k, ⟨wide131.ok k, trivial⟩⟩⟩)) (fn := Tryz.f93) (c := codeOf Tryz.f93) rfl (by kernel_rfl) rfl rfl put93'.dr (put93'.eq k)

def cycle1164 (k : Nat) (reg : Int) (by_ : Int) (_ : Unit) (o0 : Unit) (o1 : tY103) (o2 : tY109) : Option (Unit × tY85) :=
  Option.bind
    (agree
      ((size165 k reg).bind fun t10 =>
      (get96 k o0 reg (o1.1, ()) o2).bind fun t16 =>
      (then129''' k t10.1 (by_, ()) [t16.1]).bind fun t18 =>
      (put93' k o0 reg t18.1 (t16.2.1.1, ()) t16.2.2).bind fun t19 =>
      some (o0, (t19.2.1.1, t19.2.1.2), t19.2.2))
      ((size165 k reg).bind fun t10_1 =>
      agree
        ((get96 k o0 reg (o1.1, ()) o2).bind fun t16_1 =>
        (then129''' k t10_1.1 (by_, ()) [t16_1.1]).bind fun t18_1 =>
        (put93' k o0 reg t18_1.1 (t16_1.2.1.1, ()) t16_1.2.2).bind fun t19_1 =>
        some (o0, (t19_1.2.1.1, t19_1.2.1.2), t19_1.2.2))
        ((get96 k o0 reg (o1.1, ()) o2).bind fun t16_2 =>
        (then129''' k t10_1.1 (by_, ()) [t16_2.1]).bind fun t18_2 =>
        (put93' k o0 reg t18_2.1 (t16_2.2.1.1, ()) t16_2.2.2).bind fun t19_2 =>
        some (o0, (t19_2.2.1.1, t19_2.2.1.2), t19_2.2.2))) : Option tY85) fun ((_, o1_1, o2_1) : tY85) =>
  some ((), (), o1_1, o2_1)
def cycle1164.A : Ann := { conds := [], blocks := [], loops := [], keeps := [4], orders := [], alts := [(1, ((.op 3 .weak (.op 4 .strong (.op 6 .weak (.op 7 .strong (.op 8 .strong (.op 9 .strong (.op 10 .strong (.alt (.op 0 (.eff true) (.op 1 .weak (.op 2 .weak (.op 5 (.eff true) (.op 11 (.eff false) (.op 12 (.eff true) (.op 13 (.eff true) (.op 14 (.eff false) (.leaf []))))))))) (.op 5 (.eff true) (.alt (.op 0 (.eff true) (.op 1 .weak (.op 2 .weak (.op 11 (.eff false) (.op 12 (.eff true) (.op 13 (.eff true) (.op 14 (.eff false) (.leaf [])))))))) (.op 11 (.eff false) (.op 0 .strong (.op 1 .strong (.op 2 .strong (.op 12 (.eff true) (.op 13 (.eff true) (.op 14 (.eff false) (.leaf [])))))))))))))))))), ⟨[], [(0, .var (.ptr 1 [])), (1, .var kY32), (2, .row kY45)], 3, [], 1048544⟩))] }
def cycle1164.S : Sig := { f := 164, params := [.int .i64, .int .i64, .ptr 0 []], objs := [.var (.ptr 1 []), .var kY32, .row kY45], res := .tup .unit, outs := [.var (.ptr 1 []), .var kY32, .row kY45], fix := [], run := fun k ds os => cycle1164 k ds.1 ds.2.1 ds.2.2 os.1 os.2.1 os.2.2 }
def cycle1164.G : List Sig := [get96.S, put93'.S, size165.S, then129'''.S]
theorem cycle1164.eq (k : Nat) : ∀ ds os, cycle1164.S.run k ds os = runF ⟨types, cycle1164.G, cycle1164.A, k, 0, []⟩ Tryz.f164 (codeOf Tryz.f164) cycle1164.S.params cycle1164.S.objs cycle1164.S.res cycle1164.S.outs ds os := by
  intro ds os; kernel_rfl
theorem cycle1164.dr : DrOk Tryz.prog cycle1164.A (codeOf Tryz.f164) := ⟨by kernel_rfl, by kernel_rfl⟩
theorem cycle1164.ok (k : Nat) : SoundAt Tryz.prog k cycle1164.S :=
  runF_sound (X := ⟨types, cycle1164.G, cycle1164.A, k, 0, []⟩) types_ok (mem_all (⟨get96.ok k, ⟨put93'.ok k, ⟨size165.ok k, ⟨then129'''.ok k, trivial⟩⟩⟩⟩)) (fn := Tryz.f164) (c := codeOf Tryz.f164) rfl (by kernel_rfl) rfl rfl cycle1164.dr (cycle1164.eq k)
end Go.Proofs.YtcppmlgnceldmaaGreat.Fl

/- Go functions as plain Lean functions, and their contracts. -/
set_option linter.unusedVariables false
set_option maxRecDepth 100000
noncomputable section
namespace Go.Proofs.YtcppmlgnceldmaaGreat.Fl
open Go Go.Proofs.YtcppmlgnceldmaaGreat.Gp
def cycle133 (k : Nat) (_ : Unit) (code : tY92) (c : tY88) (o0 : tY103) (o1 : tY109) : Option tY85 :=
  cond (c.1 == 0)
    (some ((), o0, o1))
    (Option.bind
      (agree
        ((get96 k () c.2.2.1 o0 o1).bind fun t17 =>
        agree
          (some ((), code, c, t17.1, (), t17.2.1, t17.2.2, (), 0, false))
          (some ((), code, c, t17.1, (), t17.2.1, t17.2.2, (), 0, false)))
        (agree
          (agree
            ((get96 k () c.2.2.1 o0 o1).bind fun t17_1 =>
            some ((), code, c, t17_1.1, (), t17_1.2.1, t17_1.2.2, (), 0, false))
            ((get96 k () c.2.2.1 o0 o1).bind fun t17_2 =>
            some ((), code, c, t17_2.1, (), t17_2.2.1, t17_2.2.2, (), 0, false)))
          (agree
            ((get96 k () c.2.2.1 o0 o1).bind fun t17_3 =>
            some ((), code, c, t17_3.1, (), t17_3.2.1, t17_3.2.2, (), 0, false))
            ((get96 k () c.2.2.1 o0 o1).bind fun t17_4 =>
            some ((), code, c, t17_4.1, (), t17_4.2.1, t17_4.2.2, (), 0, false)))) : Option tY15) fun ((_, code_1, c_1, sent, _, o0_1, o1_1, _, o3) : tY15) =>
    Option.bind
      (cond (cond (c_1.2.1 == 0) true (c_1.2.1 == 1))
        ((get96 k () 7 o0_1 o1_1).bind fun t32 =>
        (read167 k code_1 t32.1).bind fun t33 =>
        some ((), c_1, sent, (), ((), ()), t32.2.1, t32.2.2, (), t33.1))
        (some ((), c_1, sent, (), ((), ()), o0_1, o1_1, (), o3)) : Option tY20) fun ((_, c_2, sent_1, _, plus, o0_2, o1_2, _, o3_1) : tY20) =>
    Option.bind
      (cond (c_2.2.1 == 0)
        ((cycle1164 k 7 1 plus.1 () (o0_2.1, ()) o1_2).bind fun t39 =>
        some ((), c_2, sent_1, (), (t39.2.2.1.1, t39.2.2.1.2), t39.2.2.2, t39.2.1, o3_1))
        (Option.bind
          (cond (c_2.2.1 == 4)
            ((cycle1164 k 3 (-1) plus.1 () (o0_2.1, ()) o1_2).bind fun t43 =>
            some ((), c_2, sent_1, (), (t43.2.2.1.1, t43.2.2.1.2), t43.2.2.2, t43.2.1, o3_1))
            (Option.bind
              (cond (c_2.2.1 == 5)
                ((cycle1164 k 3 1 plus.1 () (o0_2.1, ()) o1_2).bind fun t47 =>
                some ((), c_2, sent_1, (), (t47.2.2.1.1, t47.2.2.1.2), t47.2.2.2, t47.2.1, o3_1))
                (some ((), c_2, sent_1, (), o0_2, o1_2, (), o3_1)) : Option tY28) fun ((_, c_3, sent_2, _, o0_3, o1_3, _, o3_2) : tY28) =>
            some ((), c_3, sent_2, (), o0_3, o1_3, (), o3_2)) : Option tY28) fun ((_, c_4, sent_3, _, o0_4, o1_4, _, o3_3) : tY28) =>
        some ((), c_4, sent_3, (), o0_4, o1_4, (), o3_3)) : Option tY28) fun ((_, c_5, sent_4, _, o0_5, o1_5, _, o3_4) : tY28) =>
    Option.bind
      (cond (c_5.1 == 1)
        ((put93' k () c_5.2.2.1 o3_4 o0_5 o1_5).bind fun t57 =>
        some (t57.2.1, t57.2.2))
        (Option.bind
          (cond (c_5.2.1 == 4)
            (Option.bind
              (let q_ : Option tY90 :=
                ((if room (List.length o1_5 + List.length [sent_4]) 16 then some () else none).bind fun _ =>
                some ((o0_5.1, o0_5.2), (o1_5 ++ [sent_4])))
              agree q_ (agree q_ q_) : Option tY90) fun ((o0_6, o1_6) : tY90) =>
            some (o0_6, o1_6))
            (some (o0_5, o1_5)) : Option tY90) fun ((o0_7, o1_7) : tY90) =>
        some (o0_7, o1_7)) : Option tY90) fun ((o0_8, o1_8) : tY90) =>
    some ((), o0_8, o1_8))
def cycle133.A : Ann := { conds := [(1769477, ⟨[(3, .ptr 2 []), (5, .fp kY16), (6, .fp kY45), (7, .ptr 3 []), (8, .fn 164 (.pair (.ptr 2 []) .unit))], [(0, .var kY31), (1, .row kY45), (2, .var (.ptr 0 [])), (3, .var kY45)], 4, [], 16911433728⟩), (2359304, ⟨[(3, .ptr 2 []), (5, .fp kY16), (6, .fp kY45), (7, .ptr 3 [])], [(0, .var kY31), (1, .row kY45), (2, .var (.ptr 0 [])), (3, .var kY45)], 4, [], 281200098803712⟩), (2621450, ⟨[(3, .ptr 2 []), (5, .fp kY16), (6, .fp kY45), (7, .ptr 3 [])], [(0, .var kY31), (1, .row kY45), (2, .var (.ptr 0 [])), (3, .var kY45)], 4, [], 277076930199552⟩), (2883596, ⟨[(3, .ptr 2 []), (5, .fp kY16), (6, .fp kY45), (7, .ptr 3 [])], [(0, .var kY31), (1, .row kY45), (2, .var (.ptr 0 [])), (3, .var kY45)], 4, [], 211106232532992⟩), (3276814, ⟨[], [(0, .var kY31), (1, .row kY45)], 2, [], 2361180989635008921600⟩), (3932176, ⟨[], [(0, .var kY31), (1, .row kY45)], 2, [], 2358877398425608912896⟩)], blocks := [], loops := [], keeps := [4, 5, 6], orders := [(5, [(0, .weak), (1, .strong), (2, .strong), (3, .strong), (4, .eff false), (5, .eff true), (6, .eff false)]), (14, [(0, .strong), (1, .strong), (2, .strong), (3, .strong), (4, .strong), (5, .strong), (6, .eff false)])], alts := [(2, ((.op 0 .strong (.op 1 .strong (.op 2 .strong (.op 3 .strong (.op 4 .strong (.op 6 .weak (.alt (.op 5 (.eff false) (.alt (.op 7 (.eff true) (.op 8 (.eff true) (.op 9 (.eff false) (.op 10 (.eff false) (.leaf [⟨4, [(3, .unit)], .nilf⟩]))))) (.op 8 (.eff true) (.op 7 (.eff true) (.op 9 (.eff false) (.op 10 (.eff false) (.leaf []))))))) (.alt (.op 7 (.eff true) (.alt (.op 5 (.eff false) (.op 8 (.eff true) (.op 9 (.eff false) (.op 10 (.eff false) (.leaf [⟨4, [(3, .unit)], .nilf⟩]))))) (.op 8 (.eff true) (.op 5 (.eff false) (.op 9 (.eff false) (.op 10 (.eff false) (.leaf [⟨4, [(3, .unit)], .nilf⟩]))))))) (.op 8 (.eff true) (.alt (.op 5 (.eff false) (.op 7 (.eff true) (.op 9 (.eff false) (.op 10 (.eff false) (.leaf []))))) (.op 7 (.eff true) (.op 5 (.eff false) (.op 9 (.eff false) (.op 10 (.eff false) (.leaf []))))))))))))))), ⟨[(3, .ptr 2 []), (4, .fp kY20), (5, .fp kY16), (6, .fp kY45), (7, .ptr 3 [])], [(0, .var kY31), (1, .row kY45), (2, .var (.ptr 0 [])), (3, .var kY45)], 4, [], 520384⟩)), (16, ((.op 1 .strong (.op 2 .strong (.op 3 .strong (.op 4 .strong (.op 5 .strong (.alt (.op 0 (.eff true) (.op 6 (.eff true) (.op 7 (.eff false) (.op 8 .strong (.op 9 .strong (.op 10 (.eff false) (.leaf []))))))) (.op 6 (.eff true) (.alt (.op 0 (.eff true) (.op 7 (.eff false) (.op 8 .strong (.op 9 .strong (.op 10 (.eff false) (.leaf [])))))) (.op 7 (.eff false) (.op 0 .strong (.op 8 .strong (.op 9 .strong (.op 10 (.eff false) (.leaf [])))))))))))))), ⟨[], [(0, .var kY31), (1, .row kY45)], 2, [], 2358877398425608912896⟩))] }
def cycle133.S : Sig := { f := 133, params := [.ptr 0 [], .st kY24, .st kY17], objs := [.var kY31, .row kY45], res := .tup .unit, outs := [.var kY31, .row kY45], fix := [], run := fun k ds os => cycle133 k ds.1 ds.2.1 ds.2.2 os.1 os.2 }
def cycle133.G : List Sig := [cycle1164.S, get96.S, put93'.S, read167.S]
theorem cycle133.eq (k : Nat) : ∀ ds os, cycle133.S.run k ds os = runF ⟨types, cycle133.G, cycle133.A, k, 0, []⟩ Tryz.f133 (codeOf Tryz.f133) cycle133.S.params cycle133.S.objs cycle133.S.res cycle133.S.outs ds os := by
  intro ds os; kernel_rfl
theorem cycle133.dr : DrOk Tryz.prog cycle133.A (codeOf Tryz.f133) := ⟨by kernel_rfl, by kernel_rfl⟩
theorem cycle133.ok (k : Nat) : SoundAt Tryz.prog k cycle133.S :=
  runF_sound (X := ⟨types, cycle133.G, cycle133.A, k, 0, []⟩) types_ok (mem_all (⟨cycle1164.ok k, ⟨get96.ok k, ⟨put93'.ok k, ⟨read167.ok k, trivial⟩⟩⟩⟩)) (fn := Tryz.f133) (c := codeOf Tryz.f133) rfl (by kernel_rfl) rfl rfl cycle133.dr (cycle133.eq k)

def Clone134 (k : Nat) (s : tY109) : Option (Unit × tY109) :=
  orNil (List.length s)
    (cond true
      (some ((), []))
      ((if room (0 + List.length s) 16 then some () else none).bind fun _ =>
      some ((), s)))
    (cond false
      (some ((), []))
      ((if room (0 + List.length s) 16 then some () else none).bind fun _ =>
      some ((), s)))
def Clone134.A : Ann := { conds := [], blocks := [], loops := [], keeps := [], orders := [] }
def Clone134.S : Sig := { f := 134, params := [.sl kY45], objs := [], res := .ms 0, outs := [.row kY45], fix := [], run := fun k ds os => Clone134 k ds }
def Clone134.G : List Sig := []
theorem Clone134.eq (k : Nat) : ∀ ds os, Clone134.S.run k ds os = runF ⟨types, Clone134.G, Clone134.A, k, 0, []⟩ Tryz.f134 (codeOf Tryz.f134) Clone134.S.params Clone134.S.objs Clone134.S.res Clone134.S.outs ds os := by
  intro ds os; kernel_rfl
theorem Clone134.dr : DrOk Tryz.prog Clone134.A (codeOf Tryz.f134) := ⟨by kernel_rfl, by kernel_rfl⟩
theorem Clone134.ok (k : Nat) : SoundAt Tryz.prog k Clone134.S :=
  runF_sound (X := ⟨types, Clone134.G, Clone134.A, k, 0, []⟩) types_ok (fun s hs => absurd hs List.not_mem_nil) (fn := Tryz.f134) (c := codeOf Tryz.f134) rfl (by kernel_rfl) rfl rfl Clone134.dr (Clone134.eq k)

def step2169 (k : Nat) (l : tY115) (_ : Unit) (o0 : Int) : Option (Int × Int) :=
  (rd l 0).bind fun t5 =>
  some ((w64 (t5 + o0)), o0)
def step2169.A : Ann := { conds := [], blocks := [], loops := [], keeps := [], orders := [(1, [(0, .strong), (1, .strong), (2, .strong), (3, .strong), (4, .strong), (5, .strong)])] }
def step2169.S : Sig := { f := 169, params := [.sl kY51, .ptr 0 []], objs := [.var kY51], res := .int .i64, outs := [.var kY51], fix := [], run := fun k ds os => step2169 k ds.1 ds.2 os }
def step2169.G : List Sig := []
theorem step2169.eq (k : Nat) : ∀ ds os, step2169.S.run k ds os = runF ⟨types, step2169.G, step2169.A, k, 0, []⟩ Tryz.f169 (codeOf Tryz.f169) step2169.S.params step2169.S.objs step2169.S.res step2169.S.outs ds os := by
  intro ds os; kernel_rfl
theorem step2169.dr : DrOk Tryz.prog step2169.A (codeOf Tryz.f169) := ⟨by kernel_rfl, by kernel_rfl⟩
theorem step2169.ok (k : Nat) : SoundAt Tryz.prog k step2169.S :=
  runF_sound (X := ⟨types, step2169.G, step2169.A, k, 0, []⟩) types_ok (fun s hs => absurd hs List.not_mem_nil) (fn := Tryz.f169) (c := codeOf Tryz.f169) rfl (by kernel_rfl) rfl rfl step2169.dr (step2169.eq k)
end Go.Proofs.YtcppmlgnceldmaaGreat.Fl

/- Go functions as plain Lean functions, and their contracts. -/
set_option linter.unusedVariables false
set_option maxRecDepth 100000
noncomputable section
namespace Go.Proofs.YtcppmlgnceldmaaGreat.Fl
open Go Go.Proofs.YtcppmlgnceldmaaGreat.Gp
def then129''''.l0 (k : Nat) (l : tY109) : tY74 → Option (tY74 ⊕ tY60)
  | (f_1, _, _, t12, o0_1, o1, o4) =>
    cond (decide (t12 < (List.length l : Int)))
      ((rd l t12).bind fun t14 =>
      cond (!t14.2)
        (some (Sum.inr (Sum.inr ((0, false), o0_1))))
        ((if room (List.length o4 + List.length ([t14.1] : List Int)) 8 then some () else none).bind fun _ =>
        some (Sum.inl (f_1, (), (), (w64 (t12 + 1)), o0_1, o1, (o4 ++ ([t14.1] : List Int))))))
      (some (Sum.inr (Sum.inl (f_1, (), (), o0_1, o1, o4))))
def then129'''' (k : Nat) (bits : Int) (f : tY111) (l : tY109) (o0 : Int) : Option (tY114 × Int) :=
  Option.bind
    (loopN (then129''''.l0 k l) k (f, (), (), 0, o0, (0, false), []) : Option tY60) (joined fun ((f_2, _, _, o0_2, _, o4_1) : (tY111 × (Unit × (Unit × (Int × (tY114 × tY115)))))) =>
    (step2169 k o4_1 f_2.1 o0_2).bind fun t28 =>
    (known94 k t28.1 bits).bind fun t30 =>
    some (t30.1, t28.2))
def then129''''.A : Ann := { conds := [], blocks := [(0, ⟨[(1, .fn 169 (.pair (.ptr 0 []) .unit)), (6, .ptr 1 []), (7, .ms 4)], [(0, .var kY51), (1, .var kY45), (4, .row kY51)], 5, [], 67105408⟩)], loops := [(3, ⟨[(1, .fn 169 (.pair (.ptr 0 []) .unit)), (6, .ptr 1 []), (7, .ms 4), (12, .int .i64)], [(0, .var kY51), (1, .var kY45), (4, .row kY51)], 5, [(4, .int .i64)], 67105408⟩)], keeps := [9], orders := [] }
def then129''''.S : Sig := { f := 129, params := [.int .i64, .fn 169 (.pair (.ptr 0 []) .unit), .sl kY45], objs := [.var kY51], res := .st kY47, outs := [.var kY51], fix := [], run := fun k ds os => then129'''' k ds.1 ds.2.1 ds.2.2 os }
def then129''''.G : List Sig := [known94.S, step2169.S]
theorem then129''''.eq (k : Nat) : ∀ ds os, then129''''.S.run k ds os = runF ⟨types, then129''''.G, then129''''.A, k, 0, []⟩ Tryz.f129 (codeOf Tryz.f129) then129''''.S.params then129''''.S.objs then129''''.S.res then129''''.S.outs ds os := by
  intro ds os; kernel_rfl
theorem then129''''.dr : DrOk Tryz.prog then129''''.A (codeOf Tryz.f129) := ⟨by kernel_rfl, by kernel_rfl⟩
theorem then129''''.ok (k : Nat) : SoundAt Tryz.prog k then129''''.S :=
  runF_sound (X := ⟨types, then129''''.G, then129''''.A, k, 0, []⟩) types_ok (mem_all (⟨known94.ok k, ⟨step2169.ok k, trivial⟩⟩)) (fn := Tryz.f129) (c := codeOf Tryz.f129) rfl (by kernel_rfl) rfl rfl then129''''.dr (then129''''.eq k)

def step3170 (k : Nat) (l : tY115) : Option tY113 :=
  (rd l 0).bind fun t4 =>
  (rd l 1).bind fun t7 =>
  some ((w64 (t4 + t7)), ())
def step3170.A : Ann := { conds := [], blocks := [], loops := [], keeps := [], orders := [(1, [(0, .strong), (1, .strong), (2, .strong), (3, .strong), (4, .strong), (5, .strong), (6, .strong), (7, .strong)])] }
def step3170.S : Sig := { f := 170, params := [.sl kY51], objs := [], res := .int .i64, outs := [], fix := [], run := fun k ds os => step3170 k ds }
def step3170.G : List Sig := []
theorem step3170.eq (k : Nat) : ∀ ds os, step3170.S.run k ds os = runF ⟨types, step3170.G, step3170.A, k, 0, []⟩ Tryz.f170 (codeOf Tryz.f170) step3170.S.params step3170.S.objs step3170.S.res step3170.S.outs ds os := by
  intro ds os; kernel_rfl
theorem step3170.dr : DrOk Tryz.prog step3170.A (codeOf Tryz.f170) := ⟨by kernel_rfl, by kernel_rfl⟩
theorem step3170.ok (k : Nat) : SoundAt Tryz.prog k step3170.S :=
  runF_sound (X := ⟨types, step3170.G, step3170.A, k, 0, []⟩) types_ok (fun s hs => absurd hs List.not_mem_nil) (fn := Tryz.f170) (c := codeOf Tryz.f170) rfl (by kernel_rfl) rfl rfl step3170.dr (step3170.eq k)

def then129'''''.l0 (k : Nat) (l : tY109) : tY84 → Option tY35
  | (_, _, _, t12, o0, o3) =>
    cond (decide (t12 < (List.length l : Int)))
      ((rd l t12).bind fun t14 =>
      cond (!t14.2)
        (some (Sum.inr (Sum.inr ((0, false), ()))))
        ((if room (List.length o3 + List.length ([t14.1] : List Int)) 8 then some () else none).bind fun _ =>
        some (Sum.inl ((), (), (), (w64 (t12 + 1)), o0, (o3 ++ ([t14.1] : List Int))))))
      (some (Sum.inr (Sum.inl ((), (), (), o0, o3))))
def then129''''' (k : Nat) (bits : Int) (_ : Unit) (l : tY109) : Option tY108 :=
  Option.bind
    (loopN (then129'''''.l0 k l) k ((), (), (), 0, (0, false), []) : Option tY71) (joined fun ((_, _, _, _, o3_1) : tY89) =>
    (step3170 k o3_1).bind fun t28 =>
    (known94 k t28.1 bits).bind fun t30 =>
    some (t30.1, ()))
def then129'''''.A : Ann := { conds := [], blocks := [(0, ⟨[(1, .fn 170 .unit), (6, .ptr 0 []), (7, .ms 3)], [(0, .var kY45), (3, .row kY51)], 4, [], 67105408⟩)], loops := [(3, ⟨[(1, .fn 170 .unit), (6, .ptr 0 []), (7, .ms 3), (12, .int .i64)], [(0, .var kY45), (3, .row kY51)], 4, [(3, .int .i64)], 67105408⟩)], keeps := [9], orders := [] }
def then129'''''.S : Sig := { f := 129, params := [.int .i64, .fn 170 .unit, .sl kY45], objs := [], res := .st kY47, outs := [], fix := [], run := fun k ds os => then129''''' k ds.1 ds.2.1 ds.2.2 }
def then129'''''.G : List Sig := [known94.S, step3170.S]
theorem then129'''''.eq (k : Nat) : ∀ ds os, then129'''''.S.run k ds os = runF ⟨types, then129'''''.G, then129'''''.A, k, 0, []⟩ Tryz.f129 (codeOf Tryz.f129) then129'''''.S.params then129'''''.S.objs then129'''''.S.res then129'''''.S.outs ds os := by
  intro ds os; kernel_rfl
theorem then129'''''.dr : DrOk Tryz.prog then129'''''.A (codeOf Tryz.f129) := ⟨by kernel_rfl, by kernel_rfl⟩
theorem then129'''''.ok (k : Nat) : SoundAt Tryz.prog k then129'''''.S :=
  runF_sound (X := ⟨types, then129'''''.G, then129'''''.A, k, 0, []⟩) types_ok (mem_all (⟨known94.ok k, ⟨step3170.ok k, trivial⟩⟩)) (fn := Tryz.f129) (c := codeOf Tryz.f129) rfl (by kernel_rfl) rfl rfl then129'''''.dr (then129'''''.eq k)

def step1168 (k : Nat) (n : Int) : Option tY113 :=
  cond (decide (n > 127))
    (some ((w64 (n - 256)), ()))
    (some (n, ()))
def step1168.A : Ann := { conds := [], blocks := [], loops := [], keeps := [], orders := [] }
def step1168.S : Sig := { f := 168, params := [.int .i64], objs := [], res := .int .i64, outs := [], fix := [], run := fun k ds os => step1168 k ds }
def step1168.G : List Sig := []
theorem step1168.eq (k : Nat) : ∀ ds os, step1168.S.run k ds os = runF ⟨types, step1168.G, step1168.A, k, 0, []⟩ Tryz.f168 (codeOf Tryz.f168) step1168.S.params step1168.S.objs step1168.S.res step1168.S.outs ds os := by
  intro ds os; kernel_rfl
theorem step1168.dr : DrOk Tryz.prog step1168.A (codeOf Tryz.f168) := ⟨by kernel_rfl, by kernel_rfl⟩
theorem step1168.ok (k : Nat) : SoundAt Tryz.prog k step1168.S :=
  runF_sound (X := ⟨types, step1168.G, step1168.A, k, 0, []⟩) types_ok (fun s hs => absurd hs List.not_mem_nil) (fn := Tryz.f168) (c := codeOf Tryz.f168) rfl (by kernel_rfl) rfl rfl step1168.dr (step1168.eq k)

def step4171 (k : Nat) (l : tY115) (_ : Unit) (o0 : Unit) : Option tY113 :=
  (rd l 0).bind fun t5 =>
  (rd l 1).bind fun t9 =>
  (step1168 k t9).bind fun t11 =>
  some ((w64 (t5 + t11.1)), o0)
def step4171.A : Ann := { conds := [], blocks := [], loops := [], keeps := [], orders := [(1, [(0, .strong), (1, .strong), (2, .strong), (3, .strong), (4, .strong), (5, .strong), (6, .strong), (7, .eff true), (8, .strong), (9, .strong)])] }
def step4171.S : Sig := { f := 171, params := [.sl kY51, .ptr 0 []], objs := [.var kY49], res := .int .i64, outs := [.var kY49], fix := [], run := fun k ds os => step4171 k ds.1 ds.2 os }
def step4171.G : List Sig := [step1168.S]
theorem step4171.eq (k : Nat) : ∀ ds os, step4171.S.run k ds os = runF ⟨types, step4171.G, step4171.A, k, 0, []⟩ Tryz.f171 (codeOf Tryz.f171) step4171.S.params step4171.S.objs step4171.S.res step4171.S.outs ds os := by
  intro ds os; kernel_rfl
theorem step4171.dr : DrOk Tryz.prog step4171.A (codeOf Tryz.f171) := ⟨by kernel_rfl, by kernel_rfl⟩
theorem step4171.ok (k : Nat) : SoundAt Tryz.prog k step4171.S :=
  runF_sound (X := ⟨types, step4171.G, step4171.A, k, 0, []⟩) types_ok (mem_all (⟨step1168.ok k, trivial⟩)) (fn := Tryz.f171) (c := codeOf Tryz.f171) rfl (by kernel_rfl) rfl rfl step4171.dr (step4171.eq k)

def then129''''''.l0 (k : Nat) (l : tY109) : tY72 → Option (tY72 ⊕ tY59)
  | (f_1, _, _, t12, _, o1, o4) =>
    cond (decide (t12 < (List.length l : Int)))
      ((rd l t12).bind fun t14 =>
      cond (!t14.2)
        (some (Sum.inr (Sum.inr ((0, false), ()))))
        ((if room (List.length o4 + List.length ([t14.1] : List Int)) 8 then some () else none).bind fun _ =>
        some (Sum.inl (f_1, (), (), (w64 (t12 + 1)), (), o1, (o4 ++ ([t14.1] : List Int))))))
      (some (Sum.inr (Sum.inl (f_1, (), (), (), o1, o4))))
def then129'''''' (k : Nat) (bits : Int) (f : tY111) (l : tY109) (o0 : Unit) : Option tY108 :=
  Option.bind
    (loopN (then129''''''.l0 k l) k (f, (), (), 0, o0, (0, false), []) : Option tY59) (joined fun ((f_2, _, _, _, _, o4_1) : (tY111 × tY89)) =>
    (step4171 k o4_1 f_2.1 ()).bind fun t28 =>
    (known94 k t28.1 bits).bind fun t30 =>
    some (t30.1, t28.2))
def then129''''''.A : Ann := { conds := [], blocks := [(0, ⟨[(1, .fn 171 (.pair (.ptr 0 []) .unit)), (6, .ptr 1 []), (7, .ms 4)], [(0, .var kY49), (1, .var kY45), (4, .row kY51)], 5, [], 67105408⟩)], loops := [(3, ⟨[(1, .fn 171 (.pair (.ptr 0 []) .unit)), (6, .ptr 1 []), (7, .ms 4), (12, .int .i64)], [(0, .var kY49), (1, .var kY45), (4, .row kY51)], 5, [(4, .int .i64)], 67105408⟩)], keeps := [9], orders := [] }
def then129''''''.S : Sig := { f := 129, params := [.int .i64, .fn 171 (.pair (.ptr 0 []) .unit), .sl kY45], objs := [.var kY49], res := .st kY47, outs := [.var kY49], fix := [], run := fun k ds os => then129'''''' k ds.1 ds.2.1 ds.2.2 os }
def then129''''''.G : List Sig := [known94.S, step4171.S]
theorem then129''''''.eq (k : Nat) : ∀ ds os, then129''''''.S.run k ds os = runF ⟨types, then129''''''.G, then129''''''.A, k, 0, []⟩ Tryz.f129 (codeOf Tryz.f129) then129''''''.S.params then129''''''.S.objs then129''''''.S.res then129''''''.S.outs ds os := by
  intro ds os; kernel_rfl
theorem then129''''''.dr : DrOk Tryz.prog then129''''''.A (codeOf Tryz.f129) := ⟨by kernel_rfl, by kernel_rfl⟩
theorem then129''''''.ok (k : Nat) : SoundAt Tryz.prog k then129''''''.S :=
  runF_sound (X := ⟨types, then129''''''.G, then129''''''.A, k, 0, []⟩) types_ok (mem_all (⟨known94.ok k, ⟨step4171.ok k, trivial⟩⟩)) (fn := Tryz.f129) (c := codeOf Tryz.f129) rfl (by kernel_rfl) rfl rfl then129''''''.dr (then129''''''.eq k)
end Go.Proofs.YtcppmlgnceldmaaGreat.Fl
