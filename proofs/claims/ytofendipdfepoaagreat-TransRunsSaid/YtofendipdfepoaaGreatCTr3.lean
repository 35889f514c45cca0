/- Merged texts of one claim: a Go law, its functions without memory, and the plain law. The law returns true for every input; conditions: as the row says. -/
import Derived.Shelf.Sort.Plain
import Derived.Shelf.Slices.In.SortNone
import Derived.Shelf.Slices.CompactI
import Derived.Shelf.LaysM
import Derived.Test.YtofendipdfepoaaGreatProg
import Derived.Test.YtofendipdfepoaaGreatChecked
import Derived.KernelRfl
import Derived.Test.YtofendipdfepoaaGreatCTr0
import Derived.Test.YtofendipdfepoaaGreatCTr1
import Derived.Test.YtofendipdfepoaaGreatCTr2
/- Go functions as plain Lean functions, and their contracts. -/
set_option linter.unusedVariables false
set_option maxRecDepth 100000
noncomputable section
namespace Go.Proofs.YtofendipdfepoaaGreat.Tr
open Go Go.Proofs.YtofendipdfepoaaGreat.Gp
def Find146 (k : Nat) (x : tY61) (t1 : Int) : Option tY107 :=
  some ((x.1 == t1), ())
def Find146.A : Ann := { conds := [], blocks := [], loops := [], keeps := [2], orders := [] }
def Find146.S : Sig := { f := 46, params := [.st kY7, .fp kY46], objs := [], res := .bool, outs := [], fix := [], run := fun k ds os => Find146 k ds.1 ds.2 }
def Find146.G : List Sig := []
theorem Find146.eq (k : Nat) : ∀ ds os, Find146.S.run k ds os = runF ⟨types, Find146.G, Find146.A, k, 0, []⟩ Tryz.f46 (codeOf Tryz.f46) Find146.S.params Find146.S.objs Find146.S.res Find146.S.outs ds os := by
  intro ds os; kernel_rfl
theorem Find146.dr : DrOk Tryz.prog Find146.A (codeOf Tryz.f46) := ⟨by kernel_rfl, by kernel_rfl⟩
theorem Find146.ok (k : Nat) : SoundAt Tryz.prog k Find146.S :=
  runF_sound (X := ⟨types, Find146.G, Find146.A, k, 0, []⟩) types_ok (fun s hs => absurd hs List.not_mem_nil) (fn := Tryz.f46) (c := codeOf Tryz.f46) rfl (by kernel_rfl) rfl rfl Find146.dr (Find146.eq k)

def IndexFunc45'.l0 (k : Nat) (s : tY59) : (tY108 × Int) → Option ((tY108 × Int) ⊕ tY103)
  | (f_1, t8) =>
    cond (decide (t8 < (List.length s : Int)))
      ((rd s t8).bind fun t14 =>
      (Find146 k t14 f_1.1).bind fun t16 =>
      cond t16.1
        (some (Sum.inr (Sum.inr (t8, ()))))
        (some (Sum.inl (f_1, (w64 (t8 + 1))))))
      (some (Sum.inr (Sum.inl ())))
def IndexFunc45' (k : Nat) (s : tY59) (f : tY108) : Option tY108 :=
  Option.bind
    (loopN (IndexFunc45'.l0 k s) k (f, 0) : Option tY103) (joined fun (_ : Unit) =>
    some ((-1), ()))
def IndexFunc45'.A : Ann := { conds := [], blocks := [(0, ⟨[], [], 0, [], 524080⟩)], loops := [(2, ⟨[(1, .fn 46 (.pair (.fp kY46) .unit)), (8, .int .i64)], [], 0, [], 524080⟩)], keeps := [], orders := [] }
def IndexFunc45'.S : Sig := { f := 45, params := [.sl kY6, .fn 46 (.pair (.fp kY46) .unit)], objs := [], res := .int .i64, outs := [], fix := [], run := fun k ds os => IndexFunc45' k ds.1 ds.2 }
def IndexFunc45'.G : List Sig := [Find146.S]
theorem IndexFunc45'.eq (k : Nat) : ∀ ds os, IndexFunc45'.S.run k ds os = runF ⟨types, IndexFunc45'.G, IndexFunc45'.A, k, 0, []⟩ Tryz.f45 (codeOf Tryz.f45) IndexFunc45'.S.params IndexFunc45'.S.objs IndexFunc45'.S.res IndexFunc45'.S.outs ds os := by
  intro ds os; kernel_rfl
theorem IndexFunc45'.dr : DrOk Tryz.prog IndexFunc45'.A (codeOf Tryz.f45) := ⟨by kernel_rfl, by kernel_rfl⟩
theorem IndexFunc45'.ok (k : Nat) : SoundAt Tryz.prog k IndexFunc45'.S :=
  runF_sound (X := ⟨types, IndexFunc45'.G, IndexFunc45'.A, k, 0, []⟩) types_ok (mem_all (⟨Find146.ok k, trivial⟩)) (fn := Tryz.f45) (c := codeOf Tryz.f45) rfl (by kernel_rfl) rfl rfl IndexFunc45'.dr (IndexFunc45'.eq k)

def Clone137 (k : Nat) (s : tY80) : Option tY73 :=
  orNil (List.length s)
    (cond true
      (some ((), []))
      ((if room (0 + List.length s) 48 then some () else none).bind fun _ =>
      some ((), s)))
    (cond false
      (some ((), []))
      ((if room (0 + List.length s) 48 then some () else none).bind fun _ =>
      some ((), s)))
def Clone137.A : Ann := { conds := [], blocks := [], loops := [], keeps := [], orders := [] }
def Clone137.S : Sig := { f := 137, params := [.sl kY15], objs := [], res := .ms 0, outs := [.row kY15], fix := [], run := fun k ds os => Clone137 k ds }
def Clone137.G : List Sig := []
theorem Clone137.eq (k : Nat) : ∀ ds os, Clone137.S.run k ds os = runF ⟨types, Clone137.G, Clone137.A, k, 0, []⟩ Tryz.f137 (codeOf Tryz.f137) Clone137.S.params Clone137.S.objs Clone137.S.res Clone137.S.outs ds os := by
  intro ds os; kernel_rfl
theorem Clone137.dr : DrOk Tryz.prog Clone137.A (codeOf Tryz.f137) := ⟨by kernel_rfl, by kernel_rfl⟩
theorem Clone137.ok (k : Nat) : SoundAt Tryz.prog k Clone137.S :=
  runF_sound (X := ⟨types, Clone137.G, Clone137.A, k, 0, []⟩) types_ok (fun s hs => absurd hs List.not_mem_nil) (fn := Tryz.f137) (c := codeOf Tryz.f137) rfl (by kernel_rfl) rfl rfl Clone137.dr (Clone137.eq k)

def Clone48 (k : Nat) (s : tY95) : Option tY87 :=
  orNil (List.length s)
    (cond true
      (some ((), []))
      ((if room (0 + List.length s) 32 then some () else none).bind fun _ =>
      some ((), s)))
    (cond false
      (some ((), []))
      ((if room (0 + List.length s) 32 then some () else none).bind fun _ =>
      some ((), s)))
def Clone48.A : Ann := { conds := [], blocks := [], loops := [], keeps := [], orders := [] }
def Clone48.S : Sig := { f := 48, params := [.sl kY21], objs := [], res := .ms 0, outs := [.row kY21], fix := [], run := fun k ds os => Clone48 k ds }
def Clone48.G : List Sig := []
theorem Clone48.eq (k : Nat) : ∀ ds os, Clone48.S.run k ds os = runF ⟨types, Clone48.G, Clone48.A, k, 0, []⟩ Tryz.f48 (codeOf Tryz.f48) Clone48.S.params Clone48.S.objs Clone48.S.res Clone48.S.outs ds os := by
  intro ds os; kernel_rfl
theorem Clone48.dr : DrOk Tryz.prog Clone48.A (codeOf Tryz.f48) := ⟨by kernel_rfl, by kernel_rfl⟩
theorem Clone48.ok (k : Nat) : SoundAt Tryz.prog k Clone48.S :=
  runF_sound (X := ⟨types, Clone48.G, Clone48.A, k, 0, []⟩) types_ok (fun s hs => absurd hs List.not_mem_nil) (fn := Tryz.f48) (c := codeOf Tryz.f48) rfl (by kernel_rfl) rfl rfl Clone48.dr (Clone48.eq k)

def copies90.l0 (k : Nat) (t6 : tY73) : tY70 → Option (tY70 ⊕ tY73)
  | (_, t9, o0) =>
    cond (decide (t9 < (List.length t6.2 : Int)))
      ((rd o0 t9).bind fun _ =>
      (rd o0 t9).bind fun t18 =>
      (Clone48 k t18.2.2.2).bind fun t19 =>
      (rd o0 t9).bind fun _ =>
      (rd o0 t9).bind fun _x_2 =>
      some (Sum.inl ((), (w64 (t9 + 1)), (List.set o0 (Int.toNat t9) (_x_2.1, _x_2.2.1, _x_2.2.2.1, t19.2)))))
      (some (Sum.inr ((), o0)))
def copies90 (k : Nat) (l : tY80) : Option tY74 :=
  (Clone137 k l).bind fun t6 =>
  Option.bind
    (loopN (copies90.l0 k t6) k ((), 0, t6.2) : Option tY73) fun ((_, o0_1) : tY73) =>
  some (o0_1, ())
def copies90.A : Ann := { conds := [], blocks := [(0, ⟨[(3, .ms 0)], [(0, .row kY15)], 1, [], 8388112⟩)], loops := [(3, ⟨[(3, .ms 0), (9, .int .i64)], [(0, .row kY15)], 1, [], 8388112⟩)], keeps := [], orders := [] }
def copies90.S : Sig := { f := 90, params := [.sl kY15], objs := [], res := .sl kY15, outs := [], fix := [], run := fun k ds os => copies90 k ds }
def copies90.G : List Sig := [Clone137.S, Clone48.S]
theorem copies90.eq (k : Nat) : ∀ ds os, copies90.S.run k ds os = runF ⟨types, copies90.G, copies90.A, k, 0, []⟩ Tryz.f90 (codeOf Tryz.f90) copies90.S.params copies90.S.objs copies90.S.res copies90.S.outs ds os := by
  intro ds os; kernel_rfl
theorem copies90.dr : DrOk Tryz.prog copies90.A (codeOf Tryz.f90) := ⟨by kernel_rfl, by kernel_rfl⟩
theorem copies90.ok (k : Nat) : SoundAt Tryz.prog k copies90.S :=
  runF_sound (X := ⟨types, copies90.G, copies90.A, k, 0, []⟩) types_ok (mem_all (⟨Clone137.ok k, ⟨Clone48.ok k, trivial⟩⟩)) (fn := Tryz.f90) (c := codeOf Tryz.f90) rfl (by kernel_rfl) rfl rfl copies90.dr (copies90.eq k)

def Copy47 (k : Nat) (x : tY61) : Option tY57 :=
  (copies90 k x.2.2.2).bind fun t5 =>
  some ((x.1, x.2.1, x.2.2.1, t5.1), ())
def Copy47.A : Ann := { conds := [], blocks := [], loops := [], keeps := [], orders := [] }
def Copy47.S : Sig := { f := 47, params := [.st kY7], objs := [], res := .st kY7, outs := [], fix := [], run := fun k ds os => Copy47 k ds }
def Copy47.G : List Sig := [copies90.S]
theorem Copy47.eq (k : Nat) : ∀ ds os, Copy47.S.run k ds os = runF ⟨types, Copy47.G, Copy47.A, k, 0, []⟩ Tryz.f47 (codeOf Tryz.f47) Copy47.S.params Copy47.S.objs Copy47.S.res Copy47.S.outs ds os := by
  intro ds os; kernel_rfl
theorem Copy47.dr : DrOk Tryz.prog Copy47.A (codeOf Tryz.f47) := ⟨by kernel_rfl, by kernel_rfl⟩
theorem Copy47.ok (k : Nat) : SoundAt Tryz.prog k Copy47.S :=
  runF_sound (X := ⟨types, Copy47.G, Copy47.A, k, 0, []⟩) types_ok (mem_all (⟨copies90.ok k, trivial⟩)) (fn := Tryz.f47) (c := codeOf Tryz.f47) rfl (by kernel_rfl) rfl rfl Copy47.dr (Copy47.eq k)

def Find20 (k : Nat) (c : tY19) (op : Int) : Option tY47 :=
  (IndexFunc45' k c.2.1 (op, ())).bind fun t10 =>
  cond (decide (t10.1 < 0))
    (some (((0, (ByteArray.mk #[]), 0, []), false, ()), ()))
    ((rd c.2.1 t10.1).bind fun t17 =>
    (Copy47 k t17).bind fun t19 =>
    some ((t19.1, true, ()), ()))
def Find20.A : Ann := { conds := [], blocks := [], loops := [], keeps := [2, 3], orders := [] }
def Find20.S : Sig := { f := 20, params := [.st kY1, .int .i64], objs := [], res := .tup kY4, outs := [], fix := [], run := fun k ds os => Find20 k ds.1 ds.2 }
def Find20.G : List Sig := [Copy47.S, IndexFunc45'.S]
theorem Find20.eq (k : Nat) : ∀ ds os, Find20.S.run k ds os = runF ⟨types, Find20.G, Find20.A, k, 0, []⟩ Tryz.f20 (codeOf Tryz.f20) Find20.S.params Find20.S.objs Find20.S.res Find20.S.outs ds os := by
  intro ds os; kernel_rfl
theorem Find20.dr : DrOk Tryz.prog Find20.A (codeOf Tryz.f20) := ⟨by kernel_rfl, by kernel_rfl⟩
theorem Find20.ok (k : Nat) : SoundAt Tryz.prog k Find20.S :=
  runF_sound (X := ⟨types, Find20.G, Find20.A, k, 0, []⟩) types_ok (mem_all (⟨Copy47.ok k, ⟨IndexFunc45'.ok k, trivial⟩⟩)) (fn := Tryz.f20) (c := codeOf Tryz.f20) rfl (by kernel_rfl) rfl rfl Find20.dr (Find20.eq k)
end Go.Proofs.YtofendipdfepoaaGreat.Tr

/- Go functions as plain Lean functions, and their contracts. -/
set_option linter.unusedVariables false
set_option maxRecDepth 100000
noncomputable section
namespace Go.Proofs.YtofendipdfepoaaGreat.Tr
open Go Go.Proofs.YtofendipdfepoaaGreat.Gp
def Name64.l0 (k : Nat) (s : ByteArray) : (Unit × (Int × tY109)) → Option ((Unit × (Int × tY109)) ⊕ tY102)
  | (_, t25, o0) =>
    cond (decide (t25 < (List.length (bytesOf s) : Int)))
      ((rd o0 t25).bind fun _ =>
      (rd o0 t25).bind fun t28 =>
      cond (!(cond (cond (cond (decide (t28 ≥ 97)) (decide (t28 ≤ 122)) false) true (cond (decide (t28 ≥ 48)) (decide (t28 ≤ 57)) false)) true (t28 == 45)))
        (some (Sum.inr (Sum.inr (false, ()))))
        (some (Sum.inl ((), (w64 (t25 + 1)), o0))))
      (some (Sum.inr (Sum.inl ())))
def Name64 (k : Nat) (s : ByteArray) : Option tY107 :=
  Option.bind (cond (cond (streq s (ByteArray.mk #[])) true (decide ((ByteArray.size s : Int) > 20)))
    (some true)
    ((rd (bytesOf s) 0).bind fun t14 =>
    some (decide (t14 < 97)))) fun t16 =>
  Option.bind (cond t16
    (some true)
    ((rd (bytesOf s) 0).bind fun t19 =>
    some (decide (t19 > 122)))) fun t21 =>
  cond t21
    (some (false, ()))
    (Option.bind
      (loopN (Name64.l0 k s) k ((), 0, (bytesOf s)) : Option tY102) (joined fun (_ : Unit) =>
      some (true, ())))
def Name64.A : Ann := { conds := [], blocks := [(0, ⟨[], [], 0, [], 562949919866900⟩)], loops := [(4, ⟨[(23, .ms 0), (25, .int .i64)], [(0, .row kY47)], 1, [], 562949919866900⟩)], keeps := [], orders := [] }
def Name64.S : Sig := { f := 64, params := [.str], objs := [], res := .bool, outs := [], fix := [], run := fun k ds os => Name64 k ds }
def Name64.G : List Sig := []
theorem Name64.eq (k : Nat) : ∀ ds os, Name64.S.run k ds os = runF ⟨types, Name64.G, Name64.A, k, 0, []⟩ Tryz.f64 (codeOf Tryz.f64) Name64.S.params Name64.S.objs Name64.S.res Name64.S.outs ds os := by
  intro ds os; kernel_rfl
theorem Name64.dr : DrOk Tryz.prog Name64.A (codeOf Tryz.f64) := ⟨by kernel_rfl, by kernel_rfl⟩
theorem Name64.ok (k : Nat) : SoundAt Tryz.prog k Name64.S :=
  runF_sound (X := ⟨types, Name64.G, Name64.A, k, 0, []⟩) types_ok (fun s hs => absurd hs List.not_mem_nil) (fn := Tryz.f64) (c := codeOf Tryz.f64) rfl (by kernel_rfl) rfl rfl Name64.dr (Name64.eq k)

def Size65 (k : Nat) (mode : Int) : Option tY108 :=
  cond (mode == 0)
    (some (0, ()))
    (Option.bind
      (cond (mode == 4)
        (some (mode == 4))
        (Option.bind
          (cond (mode == 5)
            (some (mode == 5))
            (some (mode == 6)) : Option Bool) fun (t6 : Bool) =>
        some t6) : Option Bool) fun (t6_1 : Bool) =>
    cond t6_1
      (some (2, ()))
      (Option.bind
        (cond (mode == 1)
          (some (mode == 1))
          (Option.bind
            (cond (mode == 2)
              (some (mode == 2))
              (Option.bind
                (cond (mode == 3)
                  (some (mode == 3))
                  (Option.bind
                    (cond (mode == 7)
                      (some (mode == 7))
                      (some (mode == 8)) : Option Bool) fun (t10 : Bool) =>
                  some t10) : Option Bool) fun (t10_1 : Bool) =>
              some t10_1) : Option Bool) fun (t10_2 : Bool) =>
          some t10_2) : Option Bool) fun (t10_3 : Bool) =>
      cond t10_3
        (some (1, ()))
        (some ((-1), ()))))
def Size65.A : Ann := { conds := [(393221, ⟨[(6, .bool)], [], 0, [], 832⟩), (393222, ⟨[(6, .bool)], [], 0, [], 576⟩), (655369, ⟨[(10, .bool)], [], 0, [], 62464⟩), (655370, ⟨[(10, .bool)], [], 0, [], 58368⟩), (655371, ⟨[(10, .bool)], [], 0, [], 50176⟩), (655372, ⟨[(10, .bool)], [], 0, [], 33792⟩)], blocks := [], loops := [], keeps := [], orders := [] }
def Size65.S : Sig := { f := 65, params := [.int .i64], objs := [], res := .int .i64, outs := [], fix := [], run := fun k ds os => Size65 k ds }
def Size65.G : List Sig := []
theorem Size65.eq (k : Nat) : ∀ ds os, Size65.S.run k ds os = runF ⟨types, Size65.G, Size65.A, k, 0, []⟩ Tryz.f65 (codeOf Tryz.f65) Size65.S.params Size65.S.objs Size65.S.res Size65.S.outs ds os := by
  intro ds os; kernel_rfl
theorem Size65.dr : DrOk Tryz.prog Size65.A (codeOf Tryz.f65) := ⟨by kernel_rfl, by kernel_rfl⟩
theorem Size65.ok (k : Nat) : SoundAt Tryz.prog k Size65.S :=
  runF_sound (X := ⟨types, Size65.G, Size65.A, k, 0, []⟩) types_ok (fun s hs => absurd hs List.not_mem_nil) (fn := Tryz.f65) (c := codeOf Tryz.f65) rfl (by kernel_rfl) rfl rfl Size65.dr (Size65.eq k)

def Check167 (k : Nat) (y : tY61) (t1 : tY61) : Option tY107 :=
  some ((cond (streq y.2.1 t1.2.1) (y.2.2.1 == t1.2.2.1) false), ())
def Check167.A : Ann := { conds := [], blocks := [], loops := [], keeps := [2], orders := [] }
def Check167.S : Sig := { f := 67, params := [.st kY7, .fp kY6], objs := [], res := .bool, outs := [], fix := [], run := fun k ds os => Check167 k ds.1 ds.2 }
def Check167.G : List Sig := []
theorem Check167.eq (k : Nat) : ∀ ds os, Check167.S.run k ds os = runF ⟨types, Check167.G, Check167.A, k, 0, []⟩ Tryz.f67 (codeOf Tryz.f67) Check167.S.params Check167.S.objs Check167.S.res Check167.S.outs ds os := by
  intro ds os; kernel_rfl
theorem Check167.dr : DrOk Tryz.prog Check167.A (codeOf Tryz.f67) := ⟨by kernel_rfl, by kernel_rfl⟩
theorem Check167.ok (k : Nat) : SoundAt Tryz.prog k Check167.S :=
  runF_sound (X := ⟨types, Check167.G, Check167.A, k, 0, []⟩) types_ok (fun s hs => absurd hs List.not_mem_nil) (fn := Tryz.f67) (c := codeOf Tryz.f67) rfl (by kernel_rfl) rfl rfl Check167.dr (Check167.eq k)

def IndexFunc45.l0 (k : Nat) (s : tY59) : tY52 → Option (tY52 ⊕ tY103)
  | (f_1, t8) =>
    cond (decide (t8 < (List.length s : Int)))
      ((rd s t8).bind fun t14 =>
      (Check167 k t14 f_1.1).bind fun t16 =>
      cond t16.1
        (some (Sum.inr (Sum.inr (t8, ()))))
        (some (Sum.inl (f_1, (w64 (t8 + 1))))))
      (some (Sum.inr (Sum.inl ())))
def IndexFunc45 (k : Nat) (s : tY59) (f : tY57) : Option tY108 :=
  Option.bind
    (loopN (IndexFunc45.l0 k s) k (f, 0) : Option tY103) (joined fun (_ : Unit) =>
    some ((-1), ()))
def IndexFunc45.A : Ann := { conds := [], blocks := [(0, ⟨[], [], 0, [], 524080⟩)], loops := [(2, ⟨[(1, .fn 67 kY5), (8, .int .i64)], [], 0, [], 524080⟩)], keeps := [], orders := [] }
def IndexFunc45.S : Sig := { f := 45, params := [.sl kY6, .fn 67 kY5], objs := [], res := .int .i64, outs := [], fix := [], run := fun k ds os => IndexFunc45 k ds.1 ds.2 }
def IndexFunc45.G : List Sig := [Check167.S]
theorem IndexFunc45.eq (k : Nat) : ∀ ds os, IndexFunc45.S.run k ds os = runF ⟨types, IndexFunc45.G, IndexFunc45.A, k, 0, []⟩ Tryz.f45 (codeOf Tryz.f45) IndexFunc45.S.params IndexFunc45.S.objs IndexFunc45.S.res IndexFunc45.S.outs ds os := by
  intro ds os; kernel_rfl
theorem IndexFunc45.dr : DrOk Tryz.prog IndexFunc45.A (codeOf Tryz.f45) := ⟨by kernel_rfl, by kernel_rfl⟩
theorem IndexFunc45.ok (k : Nat) : SoundAt Tryz.prog k IndexFunc45.S :=
  runF_sound (X := ⟨types, IndexFunc45.G, IndexFunc45.A, k, 0, []⟩) types_ok (mem_all (⟨Check167.ok k, trivial⟩)) (fn := Tryz.f45) (c := codeOf Tryz.f45) rfl (by kernel_rfl) rfl rfl IndexFunc45.dr (IndexFunc45.eq k)

def ContainsFunc66 (k : Nat) (s : tY59) (f : tY57) : Option tY107 :=
  (IndexFunc45 k s f).bind fun t7 =>
  some ((decide (t7.1 ≥ 0)), ())
def ContainsFunc66.A : Ann := { conds := [], blocks := [], loops := [], keeps := [], orders := [] }
def ContainsFunc66.S : Sig := { f := 66, params := [.sl kY6, .fn 67 kY5], objs := [], res := .bool, outs := [], fix := [], run := fun k ds os => ContainsFunc66 k ds.1 ds.2 }
def ContainsFunc66.G : List Sig := [IndexFunc45.S]
theorem ContainsFunc66.eq (k : Nat) : ∀ ds os, ContainsFunc66.S.run k ds os = runF ⟨types, ContainsFunc66.G, ContainsFunc66.A, k, 0, []⟩ Tryz.f66 (codeOf Tryz.f66) ContainsFunc66.S.params ContainsFunc66.S.objs ContainsFunc66.S.res ContainsFunc66.S.outs ds os := by
  intro ds os; kernel_rfl
theorem ContainsFunc66.dr : DrOk Tryz.prog ContainsFunc66.A (codeOf Tryz.f66) := ⟨by kernel_rfl, by kernel_rfl⟩
theorem ContainsFunc66.ok (k : Nat) : SoundAt Tryz.prog k ContainsFunc66.S :=
  runF_sound (X := ⟨types, ContainsFunc66.G, ContainsFunc66.A, k, 0, []⟩) types_ok (mem_all (⟨IndexFunc45.ok k, trivial⟩)) (fn := Tryz.f66) (c := codeOf Tryz.f66) rfl (by kernel_rfl) rfl rfl ContainsFunc66.dr (ContainsFunc66.eq k)

def register148 (k : Nat) (reg : Int) : Option tY107 :=
  some ((cond (decide (reg ≥ 0)) (decide (reg < 9)) false), ())
def register148.A : Ann := { conds := [], blocks := [], loops := [], keeps := [], orders := [] }
def register148.S : Sig := { f := 148, params := [.int .i64], objs := [], res := .bool, outs := [], fix := [], run := fun k ds os => register148 k ds }
def register148.G : List Sig := []
theorem register148.eq (k : Nat) : ∀ ds os, register148.S.run k ds os = runF ⟨types, register148.G, register148.A, k, 0, []⟩ Tryz.f148 (codeOf Tryz.f148) register148.S.params register148.S.objs register148.S.res register148.S.outs ds os := by
  intro ds os; kernel_rfl
theorem register148.dr : DrOk Tryz.prog register148.A (codeOf Tryz.f148) := ⟨by kernel_rfl, by kernel_rfl⟩
theorem register148.ok (k : Nat) : SoundAt Tryz.prog k register148.S :=
  runF_sound (X := ⟨types, register148.G, register148.A, k, 0, []⟩) types_ok (fun s hs => absurd hs List.not_mem_nil) (fn := Tryz.f148) (c := codeOf Tryz.f148) rfl (by kernel_rfl) rfl rfl register148.dr (register148.eq k)

def Wide76 (k : Nat) (reg : Int) : Option tY107 :=
  some ((cond (reg == 7) true (reg == 8)), ())
def Wide76.A : Ann := { conds := [], blocks := [], loops := [], keeps := [], orders := [] }
def Wide76.S : Sig := { f := 76, params := [.int .i64], objs := [], res := .bool, outs := [], fix := [], run := fun k ds os => Wide76 k ds }
def Wide76.G : List Sig := []
theorem Wide76.eq (k : Nat) : ∀ ds os, Wide76.S.run k ds os = runF ⟨types, Wide76.G, Wide76.A, k, 0, []⟩ Tryz.f76 (codeOf Tryz.f76) Wide76.S.params Wide76.S.objs Wide76.S.res Wide76.S.outs ds os := by
  intro ds os; kernel_rfl
theorem Wide76.dr : DrOk Tryz.prog Wide76.A (codeOf Tryz.f76) := ⟨by kernel_rfl, by kernel_rfl⟩
theorem Wide76.ok (k : Nat) : SoundAt Tryz.prog k Wide76.S :=
  runF_sound (X := ⟨types, Wide76.G, Wide76.A, k, 0, []⟩) types_ok (fun s hs => absurd hs List.not_mem_nil) (fn := Tryz.f76) (c := codeOf Tryz.f76) rfl (by kernel_rfl) rfl rfl Wide76.dr (Wide76.eq k)
end Go.Proofs.YtofendipdfepoaaGreat.Tr

/- Go functions as plain Lean functions, and their contracts. -/
set_option linter.unusedVariables false
set_option maxRecDepth 100000
noncomputable section
namespace Go.Proofs.YtofendipdfepoaaGreat.Tr
open Go Go.Proofs.YtofendipdfepoaaGreat.Gp
def uses174 (k : Nat) (do_ : Int) : Option ((Int × (Int × tY107)) × Unit) :=
  cond (do_ == 1)
    (some ((115, 115, false, ()), ()))
    (cond (do_ == 2)
      (some ((97, 0, true, ()), ()))
      (Option.bind
        (cond (do_ == 3)
          (some (do_ == 3))
          (Option.bind
            (cond (do_ == 12)
              (some (do_ == 12))
              (Option.bind
                (cond (do_ == 13)
                  (some (do_ == 13))
                  (Option.bind
                    (cond (do_ == 14)
                      (some (do_ == 14))
                      (some (do_ == 15)) : Option Bool) fun (t10 : Bool) =>
                  some t10) : Option Bool) fun (t10_1 : Bool) =>
              some t10_1) : Option Bool) fun (t10_2 : Bool) =>
          some t10_2) : Option Bool) fun (t10_3 : Bool) =>
      cond t10_3
        (some ((98, 0, false, ()), ()))
        (Option.bind
          (cond (do_ == 4)
            (some (do_ == 4))
            (Option.bind
              (cond (do_ == 5)
                (some (do_ == 5))
                (Option.bind
                  (cond (do_ == 6)
                    (some (do_ == 6))
                    (Option.bind
                      (cond (do_ == 7)
                        (some (do_ == 7))
                        (Option.bind
                          (cond (do_ == 8)
                            (some (do_ == 8))
                            (some (do_ == 9)) : Option Bool) fun (t16 : Bool) =>
                        some t16) : Option Bool) fun (t16_1 : Bool) =>
                    some t16_1) : Option Bool) fun (t16_2 : Bool) =>
                some t16_2) : Option Bool) fun (t16_3 : Bool) =>
            some t16_3) : Option Bool) fun (t16_4 : Bool) =>
        cond t16_4
          (some ((98, 98, false, ()), ()))
          (Option.bind
            (cond (do_ == 10)
              (some (do_ == 10))
              (some (do_ == 11)) : Option Bool) fun (t23 : Bool) =>
          cond t23
            (some ((97, 0, false, ()), ()))
            (Option.bind
              (cond (do_ == 16)
                (some (do_ == 16))
                (some (do_ == 17)) : Option Bool) fun (t26 : Bool) =>
            cond t26
              (some ((0, 0, true, ()), ()))
              (Option.bind
                (cond (do_ == 18)
                  (some (do_ == 18))
                  (Option.bind
                    (cond (do_ == 19)
                      (some (do_ == 19))
                      (Option.bind
                        (cond (do_ == 22)
                          (some (do_ == 22))
                          (some (do_ == 23)) : Option Bool) fun (t29 : Bool) =>
                      some t29) : Option Bool) fun (t29_1 : Bool) =>
                  some t29_1) : Option Bool) fun (t29_2 : Bool) =>
              cond t29_2
                (some ((119, 98, false, ()), ()))
                (Option.bind
                  (cond (do_ == 20)
                    (some (do_ == 20))
                    (some (do_ == 21)) : Option Bool) fun (t34 : Bool) =>
                cond t34
                  (some ((98, 119, false, ()), ()))
                  (some ((0, 0, false, ()), ())))))))))
def uses174.A : Ann := { conds := [(655367, ⟨[(10, .bool)], [], 0, [], 62464⟩), (655368, ⟨[(10, .bool)], [], 0, [], 58368⟩), (655369, ⟨[(10, .bool)], [], 0, [], 50176⟩), (655370, ⟨[(10, .bool)], [], 0, [], 33792⟩), (1048589, ⟨[(16, .bool)], [], 0, [], 8192000⟩), (1048590, ⟨[(16, .bool)], [], 0, [], 7929856⟩), (1048591, ⟨[(16, .bool)], [], 0, [], 7405568⟩), (1048592, ⟨[(16, .bool)], [], 0, [], 6356992⟩), (1048593, ⟨[(16, .bool)], [], 0, [], 4259840⟩), (1507348, ⟨[(23, .bool)], [], 0, [], 41943040⟩), (1703959, ⟨[(26, .bool)], [], 0, [], 335544320⟩), (1900570, ⟨[(29, .bool)], [], 0, [], 15569256448⟩), (1900571, ⟨[(29, .bool)], [], 0, [], 13421772800⟩), (1900572, ⟨[(29, .bool)], [], 0, [], 9126805504⟩), (2228255, ⟨[(34, .bool)], [], 0, [], 85899345920⟩)], blocks := [], loops := [], keeps := [], orders := [] }
def uses174.S : Sig := { f := 174, params := [.int .i64], objs := [], res := .tup (.pair kY47 (.pair kY47 kY43)), outs := [], fix := [], run := fun k ds os => uses174 k ds }
def uses174.G : List Sig := []
theorem uses174.eq (k : Nat) : ∀ ds os, uses174.S.run k ds os = runF ⟨types, uses174.G, uses174.A, k, 0, []⟩ Tryz.f174 (codeOf Tryz.f174) uses174.S.params uses174.S.objs uses174.S.res uses174.S.outs ds os := by
  intro ds os; kernel_rfl
theorem uses174.dr : DrOk Tryz.prog uses174.A (codeOf Tryz.f174) := ⟨by kernel_rfl, by kernel_rfl⟩
theorem uses174.ok (k : Nat) : SoundAt Tryz.prog k uses174.S :=
  runF_sound (X := ⟨types, uses174.G, uses174.A, k, 0, []⟩) types_ok (fun s hs => absurd hs List.not_mem_nil) (fn := Tryz.f174) (c := codeOf Tryz.f174) rfl (by kernel_rfl) rfl rfl uses174.dr (uses174.eq k)

def fits175 (k : Nat) (reg : Int) (need : Int) : Option tY107 :=
  cond (need == 0)
    (some ((reg == 0), ()))
    (cond (need == 119)
      ((register148 k reg).bind fun t13 =>
      Option.bind (cond t13.1
        ((Wide76 k reg).bind fun t16 =>
        some t16.1)
        (some false)) fun t17 =>
      some (t17, ()))
      (cond (need == 98)
        ((register148 k reg).bind fun t21 =>
        Option.bind (cond t21.1
          ((Wide76 k reg).bind fun t24 =>
          some (!t24.1))
          (some false)) fun t26 =>
        some (t26, ()))
        ((register148 k reg).bind fun t28 =>
        some (t28.1, ()))))
def fits175.A : Ann := { conds := [], blocks := [], loops := [], keeps := [], orders := [] }
def fits175.S : Sig := { f := 175, params := [.int .i64, .int .u8], objs := [], res := .bool, outs := [], fix := [], run := fun k ds os => fits175 k ds.1 ds.2 }
def fits175.G : List Sig := [Wide76.S, register148.S]
theorem fits175.eq (k : Nat) : ∀ ds os, fits175.S.run k ds os = runF ⟨types, fits175.G, fits175.A, k, 0, []⟩ Tryz.f175 (codeOf Tryz.f175) fits175.S.params fits175.S.objs fits175.S.res fits175.S.outs ds os := by
  intro ds os; kernel_rfl
theorem fits175.dr : DrOk Tryz.prog fits175.A (codeOf Tryz.f175) := ⟨by kernel_rfl, by kernel_rfl⟩
theorem fits175.ok (k : Nat) : SoundAt Tryz.prog k fits175.S :=
  runF_sound (X := ⟨types, fits175.G, fits175.A, k, 0, []⟩) types_ok (mem_all (⟨Wide76.ok k, ⟨register148.ok k, trivial⟩⟩)) (fn := Tryz.f175) (c := codeOf Tryz.f175) rfl (by kernel_rfl) rfl rfl fits175.dr (fits175.eq k)

def step149 (k : Nat) (s : tY98) : Option tY108 :=
  cond (cond (decide (s.1 < 0)) true (decide (s.1 ≥ 25)))
    (some (8, ()))
    (cond (s.1 == 24)
      (cond (cond (cond (cond (cond (s.2.1 != 0) true (decide (s.2.2.1 < 0))) true (decide (s.2.2.1 > 1))) true (decide (s.2.2.2 < 0))) true (decide (s.2.2.2 > 255)))
        (some (1, ()))
        (some (0, ())))
      ((uses174 k s.1).bind fun t44 =>
      Option.bind (cond (s.1 == 2)
        ((register148 k s.2.1).bind fun t54 =>
        some t54.1)
        (some false)) fun t55 =>
      Option.bind (cond t55
        ((Wide76 k s.2.1).bind fun t59 =>
        some t59.1)
        (some false)) fun t60 =>
      Option.bind
        (cond t60
          (some (s, 65535))
          (some (s, 255)) : Option tY94) fun ((s_1, most) : tY94) =>
      Option.bind
        (cond (!t44.1.2.2.1)
          (some (s_1, 0))
          (some (s_1, most)) : Option tY94) fun ((s_2, most_1) : tY94) =>
      (fits175 k s_2.2.1 t44.1.1).bind fun t66 =>
      Option.bind (cond (!t66.1)
        (some true)
        ((fits175 k s_2.2.2.1 t44.1.2.1).bind fun t72 =>
        some (!t72.1))) fun t74 =>
      Option.bind (cond t74
        (some true)
        (Option.bind (cond (t44.1.1 == 115)
          ((Wide76 k s_2.2.1).bind fun t81 =>
          (Wide76 k s_2.2.2.1).bind fun t84 =>
          some (xor true (t81.1 == t84.1)))
          (some false)) fun t86 =>
        some t86)) fun t87 =>
      cond (cond (cond t87 true (decide (s_2.2.2.2 < 0))) true (decide (s_2.2.2.2 > most_1)))
        (some (1, ()))
        (some (0, ()))))
def step149.A : Ann := { conds := [(3932170, ⟨[(1, .fp kY21), (6, .int .i64)], [], 0, [], 64⟩), (4063244, ⟨[(1, .fp kY21), (6, .int .i64)], [], 0, [], 64⟩)], blocks := [], loops := [], keeps := [1], orders := [(13, [(0, .strong), (1, .strong), (2, .strong), (3, .eff true), (4, .strong), (5, .strong), (6, .strong), (7, .strong), (8, .strong), (9, .eff true), (10, .strong), (11, .strong), (12, .strong), (13, .strong), (14, .strong), (15, .strong), (16, .strong), (17, .strong), (19, .strong), (20, .strong), (18, .eff true), (21, .eff true), (22, .strong), (23, .strong), (24, .strong), (25, .strong), (26, .strong), (27, .strong), (28, .strong), (29, .strong), (30, .strong), (31, .strong), (32, .strong), (33, .strong), (34, .strong), (35, .strong)])] }
def step149.S : Sig := { f := 149, params := [.st kY24], objs := [], res := .int .i64, outs := [], fix := [], run := fun k ds os => step149 k ds }
def step149.G : List Sig := [Wide76.S, fits175.S, register148.S, uses174.S]
theorem step149.eq (k : Nat) : ∀ ds os, step149.S.run k ds os = runF ⟨types, step149.G, step149.A, k, 0, []⟩ Tryz.f149 (codeOf Tryz.f149) step149.S.params step149.S.objs step149.S.res step149.S.outs ds os := by
  intro ds os; kernel_rfl
theorem step149.dr : DrOk Tryz.prog step149.A (codeOf Tryz.f149) := ⟨by kernel_rfl, by kernel_rfl⟩
theorem step149.ok (k : Nat) : SoundAt Tryz.prog k step149.S :=
  runF_sound (X := ⟨types, step149.G, step149.A, k, 0, []⟩) types_ok (mem_all (⟨Wide76.ok k, ⟨fits175.ok k, ⟨register148.ok k, ⟨uses174.ok k, trivial⟩⟩⟩⟩)) (fn := Tryz.f149) (c := codeOf Tryz.f149) rfl (by kernel_rfl) rfl rfl step149.dr (step149.eq k)

def cycle116.l0 (k : Nat) (c : tY82) : Int → Option (Int ⊕ tY103)
  | t57 =>
    cond (decide (t57 < (List.length c.2.2.2 : Int)))
      ((rd c.2.2.2 t57).bind fun t59 =>
      (step149 k t59).bind fun t62 =>
      cond (t62.1 != 0)
        (some (Sum.inr (Sum.inr (t62.1, ()))))
        (some (Sum.inl (w64 (t57 + 1)))))
      (some (Sum.inr (Sum.inl ())))
def cycle116 (k : Nat) (c : tY82) : Option tY108 :=
  cond (cond (decide (c.1 < 0)) true (decide (c.1 > 2)))
    (some (8, ()))
    (cond (cond (c.1 == 0) (cond (c.2.1 != 0) true (c.2.2.1 != 0)) false)
      (some (3, ()))
      (Option.bind (cond (cond (decide (c.2.1 < 0)) true (decide (c.2.1 ≥ 12)))
        (some true)
        ((register148 k c.2.2.1).bind fun t41 =>
        some (!t41.1))) fun t43 =>
      Option.bind (cond t43
        (some true)
        ((Wide76 k c.2.2.1).bind fun t47 =>
        some t47.1)) fun t48 =>
      cond t48
        (some (1, ()))
        (cond (decide ((List.length c.2.2.2 : Int) > 6))
          (some (2, ()))
          (Option.bind
            (loopN (cycle116.l0 k c) k 0 : Option tY103) (joined fun (_ : Unit) =>
            some (0, ()))))))
def cycle116.A : Ann := { conds := [], blocks := [(1, ⟨[], [], 0, [], 147429837401600557108⟩)], loops := [(10, ⟨[(57, .int .i64)], [], 0, [], 147429837401600557108⟩)], keeps := [1, 4], orders := [] }
def cycle116.S : Sig := { f := 116, params := [.st kY16], objs := [], res := .int .i64, outs := [], fix := [], run := fun k ds os => cycle116 k ds }
def cycle116.G : List Sig := [Wide76.S, register148.S, step149.S]
theorem cycle116.eq (k : Nat) : ∀ ds os, cycle116.S.run k ds os = runF ⟨types, cycle116.G, cycle116.A, k, 0, []⟩ Tryz.f116 (codeOf Tryz.f116) cycle116.S.params cycle116.S.objs cycle116.S.res cycle116.S.outs ds os := by
  intro ds os; kernel_rfl
theorem cycle116.dr : DrOk Tryz.prog cycle116.A (codeOf Tryz.f116) := ⟨by kernel_rfl, by kernel_rfl⟩
theorem cycle116.ok (k : Nat) : SoundAt Tryz.prog k cycle116.S :=
  runF_sound (X := ⟨types, cycle116.G, cycle116.A, k, 0, []⟩) types_ok (mem_all (⟨Wide76.ok k, ⟨register148.ok k, ⟨step149.ok k, trivial⟩⟩⟩)) (fn := Tryz.f116) (c := codeOf Tryz.f116) rfl (by kernel_rfl) rfl rfl cycle116.dr (cycle116.eq k)

def cycles68.l0 (k : Nat) (l : tY80) : Int → Option (Int ⊕ tY103)
  | t11 =>
    cond (decide (t11 < (List.length l : Int)))
      ((rd l t11).bind fun t13 =>
      (cycle116 k t13).bind fun t16 =>
      cond (t16.1 != 0)
        (some (Sum.inr (Sum.inr (t16.1, ()))))
        (some (Sum.inl (w64 (t11 + 1)))))
      (some (Sum.inr (Sum.inl ())))
def cycles68 (k : Nat) (l : tY80) : Option tY108 :=
  cond (decide ((List.length l : Int) > 8))
    (some (2, ()))
    (Option.bind
      (loopN (cycles68.l0 k l) k 0 : Option tY103) (joined fun (_ : Unit) =>
      some (0, ())))
def cycles68.A : Ann := { conds := [], blocks := [(0, ⟨[], [], 0, [], 2095156⟩)], loops := [(4, ⟨[(11, .int .i64)], [], 0, [], 2095156⟩)], keeps := [4], orders := [] }
def cycles68.S : Sig := { f := 68, params := [.sl kY15], objs := [], res := .int .i64, outs := [], fix := [], run := fun k ds os => cycles68 k ds }
def cycles68.G : List Sig := [cycle116.S]
theorem cycles68.eq (k : Nat) : ∀ ds os, cycles68.S.run k ds os = runF ⟨types, cycles68.G, cycles68.A, k, 0, []⟩ Tryz.f68 (codeOf Tryz.f68) cycles68.S.params cycles68.S.objs cycles68.S.res cycles68.S.outs ds os := by
  intro ds os; kernel_rfl
theorem cycles68.dr : DrOk Tryz.prog cycles68.A (codeOf Tryz.f68) := ⟨by kernel_rfl, by kernel_rfl⟩
theorem cycles68.ok (k : Nat) : SoundAt Tryz.prog k cycles68.S :=
  runF_sound (X := ⟨types, cycles68.G, cycles68.A, k, 0, []⟩) types_ok (mem_all (⟨cycle116.ok k, trivial⟩)) (fn := Tryz.f68) (c := codeOf Tryz.f68) rfl (by kernel_rfl) rfl rfl cycles68.dr (cycles68.eq k)
end Go.Proofs.YtofendipdfepoaaGreat.Tr

/- Go functions as plain Lean functions, and their contracts. -/
set_option linter.unusedVariables false
set_option maxRecDepth 100000
noncomputable section
namespace Go.Proofs.YtofendipdfepoaaGreat.Tr
open Go Go.Proofs.YtofendipdfepoaaGreat.Gp
def operand69.l0 (k : Nat) (l : tY80) : (Int × Int) → Option ((Int × Int) ⊕ Int)
  | (n, t8) =>
    cond (decide (t8 < (List.length l : Int)))
      ((rd l t8).bind fun t10 =>
      Option.bind
        (cond (cond (t10.1 == 1) (t10.2.1 == 0) false)
          (some (w64 (n + 1)))
          (some n) : Option Int) fun (n_1 : Int) =>
      some (Sum.inl (n_1, (w64 (t8 + 1)))))
      (some (Sum.inr n))
def operand69 (k : Nat) (l : tY80) : Option tY108 :=
  Option.bind
    (loopN (operand69.l0 k l) k (0, 0) : Option Int) fun (n_2 : Int) =>
  some (n_2, ())
def operand69.A : Ann := { conds := [(1245190, ⟨[(3, .int .i64)], [], 0, [], 3145736⟩)], blocks := [(0, ⟨[(3, .int .i64)], [], 0, [], 8388392⟩)], loops := [(3, ⟨[(3, .int .i64), (8, .int .i64)], [], 0, [], 8388392⟩)], keeps := [5], orders := [] }
def operand69.S : Sig := { f := 69, params := [.sl kY15], objs := [], res := .int .i64, outs := [], fix := [], run := fun k ds os => operand69 k ds }
def operand69.G : List Sig := []
theorem operand69.eq (k : Nat) : ∀ ds os, operand69.S.run k ds os = runF ⟨types, operand69.G, operand69.A, k, 0, []⟩ Tryz.f69 (codeOf Tryz.f69) operand69.S.params operand69.S.objs operand69.S.res operand69.S.outs ds os := by
  intro ds os; kernel_rfl
theorem operand69.dr : DrOk Tryz.prog operand69.A (codeOf Tryz.f69) := ⟨by kernel_rfl, by kernel_rfl⟩
theorem operand69.ok (k : Nat) : SoundAt Tryz.prog k operand69.S :=
  runF_sound (X := ⟨types, operand69.G, operand69.A, k, 0, []⟩) types_ok (fun s hs => absurd hs List.not_mem_nil) (fn := Tryz.f69) (c := codeOf Tryz.f69) rfl (by kernel_rfl) rfl rfl operand69.dr (operand69.eq k)

def Check30.l0 (k : Nat) (c : tY19) : tY18 → Option (tY18 ⊕ tY17)
  | (c_1, t22) =>
    cond (decide (t22 < (List.length c.2.1 : Int)))
      ((rd c.2.1 t22).bind fun t25 =>
      cond (cond (decide (t25.1 < 0)) true (decide (t25.1 > 255)))
        (some (Sum.inr (Sum.inr (1, ()))))
        (Option.bind (cond (decide (t22 > 0))
          ((rd c_1.2.1 (w64 (t22 - 1))).bind fun t46 =>
          some (decide (t25.1 ≤ t46.1)))
          (some false)) fun t50 =>
        cond t50
          (some (Sum.inr (Sum.inr (9, ()))))
          ((Name64 k t25.2.1).bind fun t54 =>
          cond (!t54.1)
            (some (Sum.inr (Sum.inr (15, ()))))
            ((Size65 k t25.2.2.1).bind fun t59 =>
            cond (decide (t59.1 < 0))
              (some (Sum.inr (Sum.inr (8, ()))))
              ((slc c_1.2.1 0 t22).bind fun t65 =>
              (ContainsFunc66 k t65 (t25, ())).bind fun t67 =>
              cond t67.1
                (some (Sum.inr (Sum.inr (5, ()))))
                ((cycles68 k t25.2.2.2).bind fun t70 =>
                cond (t70.1 != 0)
                  (some (Sum.inr (Sum.inr (t70.1, ()))))
                  ((operand69 k t25.2.2.2).bind fun t76 =>
                  (Size65 k t25.2.2.1).bind fun t79 =>
                  cond (t76.1 != t79.1)
                    (some (Sum.inr (Sum.inr (3, ()))))
                    (some (Sum.inl (c_1, (w64 (t22 + 1))))))))))))
      (some (Sum.inr (Sum.inl c_1)))
def Check30.l1 (k : Nat) (c_2 : tY19) : tY65 → Option (tY65 ⊕ tY103)
  | (_, t90, o0) =>
    cond (decide (t90 < (List.length [c_2.2.2.1, c_2.2.2.2.1, c_2.2.2.2.2] : Int)))
      ((rd o0 t90).bind fun _ =>
      (rd o0 t90).bind fun t93 =>
      (cycles68 k t93).bind fun t95 =>
      cond (t95.1 != 0)
        (some (Sum.inr (Sum.inr (t95.1, ()))))
        (some (Sum.inl ((), (w64 (t90 + 1)), o0))))
      (some (Sum.inr (Sum.inl ())))
def Check30 (k : Nat) (c : tY19) : Option tY108 :=
  (Name64 k c.1).bind fun t12 =>
  cond (!t12.1)
    (some (15, ()))
    (cond (decide ((List.length c.2.1 : Int) > 256))
      (some (2, ()))
      (Option.bind
        (loopN (Check30.l0 k c) k (c, 0) : Option tY17) (joined fun (c_2 : tY19) =>
        Option.bind
          (loopN (Check30.l1 k c_2) k ((), 0, [c_2.2.2.1, c_2.2.2.2.1, c_2.2.2.2.2]) : Option tY103) (joined fun (_ : Unit) =>
          some (0, ())))))
def Check30.A : Ann := { conds := [], blocks := [(1, ⟨[(1, .fp kY0)], [], 0, [], 4835703278458516694630460⟩), (4, ⟨[], [], 0, [], 1266412660188944021221804081540⟩)], loops := [(6, ⟨[(1, .fp kY0), (22, .int .i64)], [], 0, [], 4835703278458516694630460⟩), (25, ⟨[(88, .ms 0), (90, .int .i64)], [(0, .row kY14)], 1, [], 1266412660188944021221804081540⟩)], keeps := [1, 4], orders := [(10, [(0, .strong), (1, .strong), (2, .strong), (3, .strong), (4, .strong), (5, .strong), (6, .strong), (7, .strong), (8, .strong), (9, .strong), (10, .strong), (11, .strong), (12, .strong), (13, .strong), (14, .strong)]), (21, [(0, .strong), (1, .strong), (3, .strong), (4, .strong), (2, .eff true), (5, .eff true), (6, .strong)])] }
def Check30.S : Sig := { f := 30, params := [.st kY1], objs := [], res := .int .i64, outs := [], fix := [], run := fun k ds os => Check30 k ds }
def Check30.G : List Sig := [ContainsFunc66.S, Name64.S, Size65.S, cycles68.S, operand69.S]
theorem Check30.eq (k : Nat) : ∀ ds os, Check30.S.run k ds os = runF ⟨types, Check30.G, Check30.A, k, 0, []⟩ Tryz.f30 (codeOf Tryz.f30) Check30.S.params Check30.S.objs Check30.S.res Check30.S.outs ds os := by
  intro ds os; kernel_rfl
theorem Check30.dr : DrOk Tryz.prog Check30.A (codeOf Tryz.f30) := ⟨by kernel_rfl, by kernel_rfl⟩
theorem Check30.ok (k : Nat) : SoundAt Tryz.prog k Check30.S :=
  runF_sound (X := ⟨types, Check30.G, Check30.A, k, 0, []⟩) types_ok (mem_all (⟨ContainsFunc66.ok k, ⟨Name64.ok k, ⟨Size65.ok k, ⟨cycles68.ok k, ⟨operand69.ok k, trivial⟩⟩⟩⟩⟩)) (fn := Tryz.f30) (c := codeOf Tryz.f30) rfl (by kernel_rfl) rfl rfl Check30.dr (Check30.eq k)

def Check43 (k : Nat) (c : tY19) (code : tY84) : Option tY108 :=
  (Check30 k c).bind fun t7 =>
  cond (t7.1 != 0)
    (some (t7.1, ()))
    (cond (decide ((List.length code.2.1 : Int) > 4096))
      (some (2, ()))
      (cond (cond (decide (code.1 < 0)) true (decide (code.1 > (w64 (65536 - (List.length code.2.1 : Int))))))
        (some (1, ()))
        (some (0, ()))))
def Check43.A : Ann := { conds := [], blocks := [], loops := [], keeps := [2, 3], orders := [] }
def Check43.S : Sig := { f := 43, params := [.st kY1, .st kY19], objs := [], res := .int .i64, outs := [], fix := [], run := fun k ds os => Check43 k ds.1 ds.2 }
def Check43.G : List Sig := [Check30.S]
theorem Check43.eq (k : Nat) : ∀ ds os, Check43.S.run k ds os = runF ⟨types, Check43.G, Check43.A, k, 0, []⟩ Tryz.f43 (codeOf Tryz.f43) Check43.S.params Check43.S.objs Check43.S.res Check43.S.outs ds os := by
  intro ds os; kernel_rfl
theorem Check43.dr : DrOk Tryz.prog Check43.A (codeOf Tryz.f43) := ⟨by kernel_rfl, by kernel_rfl⟩
theorem Check43.ok (k : Nat) : SoundAt Tryz.prog k Check43.S :=
  runF_sound (X := ⟨types, Check43.G, Check43.A, k, 0, []⟩) types_ok (mem_all (⟨Check30.ok k, trivial⟩)) (fn := Tryz.f43) (c := codeOf Tryz.f43) rfl (by kernel_rfl) rfl rfl Check43.dr (Check43.eq k)

def at70 (k : Nat) (code : tY84) (addr : Int) : Option tY108 :=
  let t9 : Int := (w64 (addr - code.1))
  cond (cond (cond (decide (addr ≥ 0)) (decide (t9 ≥ 0)) false) (decide (t9 < (List.length code.2.1 : Int))) false)
    ((rd code.2.1 t9).bind fun t26 =>
    some ((w64 t26), ()))
    (some ((-1), ()))
def at70.A : Ann := { conds := [], blocks := [], loops := [], keeps := [2], orders := [] }
def at70.S : Sig := { f := 70, params := [.st kY19, .int .i64], objs := [], res := .int .i64, outs := [], fix := [], run := fun k ds os => at70 k ds.1 ds.2 }
def at70.G : List Sig := []
theorem at70.eq (k : Nat) : ∀ ds os, at70.S.run k ds os = runF ⟨types, at70.G, at70.A, k, 0, []⟩ Tryz.f70 (codeOf Tryz.f70) at70.S.params at70.S.objs at70.S.res at70.S.outs ds os := by
  intro ds os; kernel_rfl
theorem at70.dr : DrOk Tryz.prog at70.A (codeOf Tryz.f70) := ⟨by kernel_rfl, by kernel_rfl⟩
theorem at70.ok (k : Nat) : SoundAt Tryz.prog k at70.S :=
  runF_sound (X := ⟨types, at70.G, at70.A, k, 0, []⟩) types_ok (fun s hs => absurd hs List.not_mem_nil) (fn := Tryz.f70) (c := codeOf Tryz.f70) rfl (by kernel_rfl) rfl rfl at70.dr (at70.eq k)
end Go.Proofs.YtofendipdfepoaaGreat.Tr

/- Go functions as plain Lean functions, and their contracts. -/
set_option linter.unusedVariables false
set_option maxRecDepth 100000
noncomputable section
namespace Go.Proofs.YtofendipdfepoaaGreat.Tr
open Go Go.Proofs.YtofendipdfepoaaGreat.Gp
def begun33 (k : Nat) (c : tY19) (code : tY84) (addr : Int) : Option ((tY61 × tY108) × Unit) :=
  (at70 k code addr).bind fun t13 =>
  cond (t13.1 == (-1))
    (some (((0, (ByteArray.mk #[]), 0, []), 19, ()), ()))
    ((Find20 k c t13.1).bind fun t20 =>
    cond (!t20.1.2.1)
      (some (((0, (ByteArray.mk #[]), 0, []), 4, ()), ()))
      ((Size65 k t20.1.1.2.2.1).bind fun t30 =>
      (at70 k code (w64 (addr + t30.1))).bind fun t32 =>
      cond (t32.1 == (-1))
        (some (((0, (ByteArray.mk #[]), 0, []), 13, ()), ()))
        (some ((t20.1.1, 0, ()), ()))))
def begun33.A : Ann := { conds := [], blocks := [], loops := [], keeps := [3, 4, 9], orders := [(7, [(0, .strong), (1, .strong), (2, .strong), (3, .strong), (4, .eff true), (5, .strong), (6, .eff true), (7, .strong)])] }
def begun33.S : Sig := { f := 33, params := [.st kY1, .st kY19, .int .i64], objs := [], res := .tup (.pair kY6 kY40), outs := [], fix := [], run := fun k ds os => begun33 k ds.1 ds.2.1 ds.2.2 }
def begun33.G : List Sig := [Find20.S, Size65.S, at70.S]
theorem begun33.eq (k : Nat) : ∀ ds os, begun33.S.run k ds os = runF ⟨types, begun33.G, begun33.A, k, 0, []⟩ Tryz.f33 (codeOf Tryz.f33) begun33.S.params begun33.S.objs begun33.S.res begun33.S.outs ds os := by
  intro ds os; kernel_rfl
theorem begun33.dr : DrOk Tryz.prog begun33.A (codeOf Tryz.f33) := ⟨by kernel_rfl, by kernel_rfl⟩
theorem begun33.ok (k : Nat) : SoundAt Tryz.prog k begun33.S :=
  runF_sound (X := ⟨types, begun33.G, begun33.A, k, 0, []⟩) types_ok (mem_all (⟨Find20.ok k, ⟨Size65.ok k, ⟨at70.ok k, trivial⟩⟩⟩)) (fn := Tryz.f33) (c := codeOf Tryz.f33) rfl (by kernel_rfl) rfl rfl begun33.dr (begun33.eq k)

def width56 (k : Nat) (bits : Int) : Option tY108 :=
  some ((mxI 0 (mnI bits 62)), ())
def width56.A : Ann := { conds := [], blocks := [], loops := [], keeps := [], orders := [] }
def width56.S : Sig := { f := 56, params := [.int .i64], objs := [], res := .int .i64, outs := [], fix := [], run := fun k ds os => width56 k ds }
def width56.G : List Sig := []
theorem width56.eq (k : Nat) : ∀ ds os, width56.S.run k ds os = runF ⟨types, width56.G, width56.A, k, 0, []⟩ Tryz.f56 (codeOf Tryz.f56) width56.S.params width56.S.objs width56.S.res width56.S.outs ds os := by
  intro ds os; kernel_rfl
theorem width56.dr : DrOk Tryz.prog width56.A (codeOf Tryz.f56) := ⟨by kernel_rfl, by kernel_rfl⟩
theorem width56.ok (k : Nat) : SoundAt Tryz.prog k width56.S :=
  runF_sound (X := ⟨types, width56.G, width56.A, k, 0, []⟩) types_ok (fun s hs => absurd hs List.not_mem_nil) (fn := Tryz.f56) (c := codeOf Tryz.f56) rfl (by kernel_rfl) rfl rfl width56.dr (width56.eq k)

def Low25 (k : Nat) (n : Int) (bits : Int) : Option tY108 :=
  (width56 k bits).bind fun t7 =>
  (if t7.1 < 0 then none else some (shlI .i64 1 t7.1)).bind fun t8 =>
  some ((ibits .and .i64 n (w64 (t8 - 1))), ())
def Low25.A : Ann := { conds := [], blocks := [], loops := [], keeps := [], orders := [] }
def Low25.S : Sig := { f := 25, params := [.int .i64, .int .i64], objs := [], res := .int .i64, outs := [], fix := [], run := fun k ds os => Low25 k ds.1 ds.2 }
def Low25.G : List Sig := [width56.S]
theorem Low25.eq (k : Nat) : ∀ ds os, Low25.S.run k ds os = runF ⟨types, Low25.G, Low25.A, k, 0, []⟩ Tryz.f25 (codeOf Tryz.f25) Low25.S.params Low25.S.objs Low25.S.res Low25.S.outs ds os := by
  intro ds os; kernel_rfl
theorem Low25.dr : DrOk Tryz.prog Low25.A (codeOf Tryz.f25) := ⟨by kernel_rfl, by kernel_rfl⟩
theorem Low25.ok (k : Nat) : SoundAt Tryz.prog k Low25.S :=
  runF_sound (X := ⟨types, Low25.G, Low25.A, k, 0, []⟩) types_ok (mem_all (⟨width56.ok k, trivial⟩)) (fn := Tryz.f25) (c := codeOf Tryz.f25) rfl (by kernel_rfl) rfl rfl Low25.dr (Low25.eq k)

def place146 (k : Nat) (at_ : Int) (size : Int) : Option tY96 :=
  (width56 k at_).bind fun t7 =>
  some ((t7.1, (mxI 0 (mnI size (w64 (62 - t7.1)))), ()), ())
def place146.A : Ann := { conds := [], blocks := [], loops := [], keeps := [], orders := [] }
def place146.S : Sig := { f := 146, params := [.int .i64, .int .i64], objs := [], res := .tup kY37, outs := [], fix := [], run := fun k ds os => place146 k ds.1 ds.2 }
def place146.G : List Sig := [width56.S]
theorem place146.eq (k : Nat) : ∀ ds os, place146.S.run k ds os = runF ⟨types, place146.G, place146.A, k, 0, []⟩ Tryz.f146 (codeOf Tryz.f146) place146.S.params place146.S.objs place146.S.res place146.S.outs ds os := by
  intro ds os; kernel_rfl
theorem place146.dr : DrOk Tryz.prog place146.A (codeOf Tryz.f146) := ⟨by kernel_rfl, by kernel_rfl⟩
theorem place146.ok (k : Nat) : SoundAt Tryz.prog k place146.S :=
  runF_sound (X := ⟨types, place146.G, place146.A, k, 0, []⟩) types_ok (mem_all (⟨width56.ok k, trivial⟩)) (fn := Tryz.f146) (c := codeOf Tryz.f146) rfl (by kernel_rfl) rfl rfl place146.dr (place146.eq k)

def Get109 (k : Nat) (n : Int) (at_ : Int) (size : Int) : Option tY108 :=
  (place146 k at_ size).bind fun t10 =>
  (Low25 k n 62).bind fun t14 =>
  (if t10.1.1 < 0 then none else some (shrI .i64 t14.1 t10.1.1)).bind fun t16 =>
  (Low25 k t16 t10.1.2.1).bind fun t18 =>
  some (t18.1, ())
def Get109.A : Ann := { conds := [], blocks := [], loops := [], keeps := [], orders := [] }
def Get109.S : Sig := { f := 109, params := [.int .i64, .int .i64, .int .i64], objs := [], res := .int .i64, outs := [], fix := [], run := fun k ds os => Get109 k ds.1 ds.2.1 ds.2.2 }
def Get109.G : List Sig := [Low25.S, place146.S]
theorem Get109.eq (k : Nat) : ∀ ds os, Get109.S.run k ds os = runF ⟨types, Get109.G, Get109.A, k, 0, []⟩ Tryz.f109 (codeOf Tryz.f109) Get109.S.params Get109.S.objs Get109.S.res Get109.S.outs ds os := by
  intro ds os; kernel_rfl
theorem Get109.dr : DrOk Tryz.prog Get109.A (codeOf Tryz.f109) := ⟨by kernel_rfl, by kernel_rfl⟩
theorem Get109.ok (k : Nat) : SoundAt Tryz.prog k Get109.S :=
  runF_sound (X := ⟨types, Get109.G, Get109.A, k, 0, []⟩) types_ok (mem_all (⟨Low25.ok k, ⟨place146.ok k, trivial⟩⟩)) (fn := Tryz.f109) (c := codeOf Tryz.f109) rfl (by kernel_rfl) rfl rfl Get109.dr (Get109.eq k)

def set72 (k : Nat) (_ : Unit) (reg : Int) (n : Int) (o0 : tY106) : Option tY99 :=
  Option.bind (cond (n == (-1))
    ((Wide76 k reg).bind fun t18 =>
    some t18.1)
    (some false)) fun t19 =>
  Option.bind
    (cond t19
      ((if 0 ≤ reg ∧ reg < 9 then some () else none).bind fun _ =>
      (rd o0 reg).bind fun _ =>
      some (List.set o0 (Int.toNat reg) ((-1), (-1))))
      (Option.bind
        (cond (n == (-1))
          ((if 0 ≤ reg ∧ reg < 9 then some () else none).bind fun _ =>
          (rd o0 reg).bind fun _ =>
          some (List.set o0 (Int.toNat reg) ((-1), 0)))
          ((Wide76 k reg).bind fun t35 =>
          Option.bind
            (cond t35.1
              ((Low25 k n 8).bind fun t39 =>
              (Get109 k n 8 8).bind fun t41 =>
              (if 0 ≤ reg ∧ reg < 9 then some () else none).bind fun _ =>
              (rd o0 reg).bind fun _ =>
              some (List.set o0 (Int.toNat reg) (t39.1, t41.1)))
              ((Low25 k n 8).bind fun t9 =>
              (if 0 ≤ reg ∧ reg < 9 then some () else none).bind fun _ =>
              (rd o0 reg).bind fun _ =>
              some (List.set o0 (Int.toNat reg) (t9.1, 0))) : Option tY106) fun (o0_1 : tY106) =>
          some o0_1) : Option tY106) fun (o0_2 : tY106) =>
      some o0_2) : Option tY106) fun (o0_3 : tY106) =>
  some ((), o0_3)
def set72.A : Ann := { conds := [(851970, ⟨[], [(0, .var kY36)], 1, [], 35184371048384⟩), (1638404, ⟨[], [(0, .var kY36)], 1, [], 35184103661504⟩), (2162694, ⟨[], [(0, .var kY36)], 1, [], 35115652620224⟩)], blocks := [], loops := [], keeps := [], orders := [(0, [(0, .strong), (1, .strong), (2, .strong), (5, .strong), (3, .eff true), (4, .strong), (6, .strong), (7, .eff false)]), (6, [(0, .strong), (1, .strong), (2, .strong), (4, .strong), (7, .strong), (3, .eff true), (5, .eff true), (6, .strong), (8, .strong), (9, .eff false)])] }
def set72.S : Sig := { f := 72, params := [.ptr 0 [], .int .i64, .int .i64], objs := [.var kY36], res := .tup .unit, outs := [.var kY36], fix := [], run := fun k ds os => set72 k ds.1 ds.2.1 ds.2.2 os }
def set72.G : List Sig := [Get109.S, Low25.S, Wide76.S]
theorem set72.eq (k : Nat) : ∀ ds os, set72.S.run k ds os = runF ⟨types, set72.G, set72.A, k, 0, []⟩ Tryz.f72 (codeOf Tryz.f72) set72.S.params set72.S.objs set72.S.res set72.S.outs ds os := by
  intro ds os; kernel_rfl
theorem set72.dr : DrOk Tryz.prog set72.A (codeOf Tryz.f72) := ⟨by kernel_rfl, by kernel_rfl⟩
theorem set72.ok (k : Nat) : SoundAt Tryz.prog k set72.S :=
  runF_sound (X := ⟨types, set72.G, set72.A, k, 0, []⟩) types_ok (mem_all (⟨Get109.ok k, ⟨Low25.ok k, ⟨Wide76.ok k, trivial⟩⟩⟩)) (fn := Tryz.f72) (c := codeOf Tryz.f72) rfl (by kernel_rfl) rfl rfl set72.dr (set72.eq k)

def none44.l0 (k : Nat) : tY77 → Option (tY77 ⊕ tY81)
  | (_, _, t3, o0, o1) =>
    cond (decide (t3 < 9))
      ((set72 k () t3 (-1) o1).bind fun t7 =>
      some (Sum.inl ((), (), (w64 (t3 + 1)), o0, t7.2)))
      (some (Sum.inr ((), (), o0, o1)))
def none44 (k : Nat) : Option (tY106 × Unit) :=
  Option.bind
    (loopN (none44.l0 k) k ((), (), 0, (List.replicate 9 (0, 0)), (List.replicate 9 (0, 0))) : Option tY81) fun ((_, _, _, o1_1) : tY81) =>
  some (o1_1, ())
def none44.A : Ann := { conds := [], blocks := [(0, ⟨[(0, .ptr 0 []), (1, .ptr 1 [])], [(0, .var kY36), (1, .var kY36)], 2, [], 508⟩)], loops := [(3, ⟨[(0, .ptr 0 []), (1, .ptr 1 []), (3, .int .i64)], [(0, .var kY36), (1, .var kY36)], 2, [], 508⟩)], keeps := [], orders := [] }
def none44.S : Sig := { f := 44, params := [], objs := [], res := .arr 9 kY39, outs := [], fix := [], run := fun k ds os => none44 k }
def none44.G : List Sig := [set72.S]
theorem none44.eq (k : Nat) : ∀ ds os, none44.S.run k ds os = runF ⟨types, none44.G, none44.A, k, 0, []⟩ Tryz.f44 (codeOf Tryz.f44) none44.S.params none44.S.objs none44.S.res none44.S.outs ds os := by
  intro ds os; kernel_rfl
theorem none44.dr : DrOk Tryz.prog none44.A (codeOf Tryz.f44) := ⟨by kernel_rfl, by kernel_rfl⟩
theorem none44.ok (k : Nat) : SoundAt Tryz.prog k none44.S :=
  runF_sound (X := ⟨types, none44.G, none44.A, k, 0, []⟩) types_ok (mem_all (⟨set72.ok k, trivial⟩)) (fn := Tryz.f44) (c := codeOf Tryz.f44) rfl (by kernel_rfl) rfl rfl none44.dr (none44.eq k)

def whole34 (k : Nat) (_ : Unit) (reg : Int) (o0 : tY72) (o1 : tY109) : Option (Int × tY62) :=
  (if 0 ≤ reg ∧ reg < 9 then some () else none).bind fun _ =>
  (rd o0.2.1 reg).bind fun t10 =>
  Option.bind (cond (t10.1 == (-1))
    (some true)
    ((Wide76 k reg).bind fun t16 =>
    some (cond t16.1 (t10.2 == (-1)) false))) fun t22 =>
  cond t22
    (some ((-1), o0, o1))
    (some ((w64 (t10.1 + (w64 (256 * t10.2)))), o0, o1))
def whole34.A : Ann := { conds := [], blocks := [], loops := [], keeps := [5], orders := [] }
def whole34.S : Sig := { f := 34, params := [.ptr 0 [.fld 1 3], .int .i64], objs := [.var kY10, .row kY46], res := .int .i64, outs := [.var kY10, .row kY46], fix := [], run := fun k ds os => whole34 k ds.1 ds.2 os.1 os.2 }
def whole34.G : List Sig := [Wide76.S]
theorem whole34.eq (k : Nat) : ∀ ds os, whole34.S.run k ds os = runF ⟨types, whole34.G, whole34.A, k, 0, []⟩ Tryz.f34 (codeOf Tryz.f34) whole34.S.params whole34.S.objs whole34.S.res whole34.S.outs ds os := by
  intro ds os; kernel_rfl
theorem whole34.dr : DrOk Tryz.prog whole34.A (codeOf Tryz.f34) := ⟨by kernel_rfl, by kernel_rfl⟩
theorem whole34.ok (k : Nat) : SoundAt Tryz.prog k whole34.S :=
  runF_sound (X := ⟨types, whole34.G, whole34.A, k, 0, []⟩) types_ok (mem_all (⟨Wide76.ok k, trivial⟩)) (fn := Tryz.f34) (c := codeOf Tryz.f34) rfl (by kernel_rfl) rfl rfl whole34.dr (whole34.eq k)
end Go.Proofs.YtofendipdfepoaaGreat.Tr

/- Go functions as plain Lean functions, and their contracts. -/
set_option linter.unusedVariables false
set_option maxRecDepth 100000
noncomputable section
namespace Go.Proofs.YtofendipdfepoaaGreat.Tr
open Go Go.Proofs.YtofendipdfepoaaGreat.Gp
def set72' (k : Nat) (_ : Unit) (reg : Int) (n : Int) (o0 : tY72) (o1 : tY109) : Option tY58 :=
  Option.bind (cond (n == (-1))
    ((Wide76 k reg).bind fun t18 =>
    some t18.1)
    (some false)) fun t19 =>
  Option.bind
    (cond t19
      ((if 0 ≤ reg ∧ reg < 9 then some () else none).bind fun _ =>
      (rd o0.2.1 reg).bind fun _ =>
      some ((o0.1, (List.set o0.2.1 (Int.toNat reg) ((-1), (-1))), o0.2.2), o1))
      (Option.bind
        (cond (n == (-1))
          ((if 0 ≤ reg ∧ reg < 9 then some () else none).bind fun _ =>
          (rd o0.2.1 reg).bind fun _ =>
          some ((o0.1, (List.set o0.2.1 (Int.toNat reg) ((-1), 0)), o0.2.2), o1))
          ((Wide76 k reg).bind fun t35 =>
          Option.bind
            (cond t35.1
              ((Low25 k n 8).bind fun t39 =>
              (Get109 k n 8 8).bind fun t41 =>
              (if 0 ≤ reg ∧ reg < 9 then some () else none).bind fun _ =>
              (rd o0.2.1 reg).bind fun _ =>
              some ((o0.1, (List.set o0.2.1 (Int.toNat reg) (t39.1, t41.1)), o0.2.2), o1))
              ((Low25 k n 8).bind fun t9 =>
              (if 0 ≤ reg ∧ reg < 9 then some () else none).bind fun _ =>
              (rd o0.2.1 reg).bind fun _ =>
              some ((o0.1, (List.set o0.2.1 (Int.toNat reg) (t9.1, 0)), o0.2.2), o1)) : Option tY62) fun ((o0_1, o1_1) : tY62) =>
          some (o0_1, o1_1)) : Option tY62) fun ((o0_2, o1_2) : tY62) =>
      some (o0_2, o1_2)) : Option tY62) fun ((o0_3, o1_3) : tY62) =>
  some ((), o0_3, o1_3)
def set72'.A : Ann := { conds := [(851970, ⟨[], [(0, .var kY10), (1, .row kY46)], 2, [], 35184371048384⟩), (1638404, ⟨[], [(0, .var kY10), (1, .row kY46)], 2, [], 35184103661504⟩), (2162694, ⟨[], [(0, .var kY10), (1, .row kY46)], 2, [], 35115652620224⟩)], blocks := [], loops := [], keeps := [], orders := [(0, [(0, .strong), (1, .strong), (2, .strong), (5, .strong), (3, .eff true), (4, .strong), (6, .strong), (7, .eff false)]), (6, [(0, .strong), (1, .strong), (2, .strong), (4, .strong), (7, .strong), (3, .eff true), (5, .eff true), (6, .strong), (8, .strong), (9, .eff false)])] }
def set72'.S : Sig := { f := 72, params := [.ptr 0 [.fld 1 3], .int .i64, .int .i64], objs := [.var kY10, .row kY46], res := .tup .unit, outs := [.var kY10, .row kY46], fix := [], run := fun k ds os => set72' k ds.1 ds.2.1 ds.2.2 os.1 os.2 }
def set72'.G : List Sig := [Get109.S, Low25.S, Wide76.S]
theorem set72'.eq (k : Nat) : ∀ ds os, set72'.S.run k ds os = runF ⟨types, set72'.G, set72'.A, k, 0, []⟩ Tryz.f72 (codeOf Tryz.f72) set72'.S.params set72'.S.objs set72'.S.res set72'.S.outs ds os := by
  intro ds os; kernel_rfl
theorem set72'.dr : DrOk Tryz.prog set72'.A (codeOf Tryz.f72) := ⟨by kernel_rfl, by kernel_rfl⟩
theorem set72'.ok (k : Nat) : SoundAt Tryz.prog k set72'.S :=
  runF_sound (X := ⟨types, set72'.G, set72'.A, k, 0, []⟩) types_ok (mem_all (⟨Get109.ok k, ⟨Low25.ok k, ⟨Wide76.ok k, trivial⟩⟩⟩)) (fn := Tryz.f72) (c := codeOf Tryz.f72) rfl (by kernel_rfl) rfl rfl set72'.dr (set72'.eq k)

def add164 (k : Nat) (_ : Unit) (reg : Int) (by_ : Int) (o0 : tY72) (o1 : tY109) : Option tY58 :=
  (whole34 k () reg o0 o1).bind fun t9 =>
  Option.bind
    (cond (t9.1 != (-1))
      ((Low25 k (w64 (t9.1 + by_)) 16).bind fun t15 =>
      some ((), t15.1, t9.2.1, t9.2.2))
      (some ((), (-1), t9.2.1, t9.2.2)) : Option tY54) fun ((_, by__1, o0_1, o1_1) : tY54) =>
  (set72' k () reg by__1 o0_1 o1_1).bind fun t19 =>
  some ((), t19.2.1, t19.2.2)
def add164.A : Ann := { conds := [(720898, ⟨[(0, .ptr 0 [.fld 1 3]), (2, .int .i64)], [(0, .var kY10), (1, .row kY46)], 2, [], 61444⟩)], blocks := [], loops := [], keeps := [], orders := [] }
def add164.S : Sig := { f := 164, params := [.ptr 0 [.fld 1 3], .int .i64, .int .i64], objs := [.var kY10, .row kY46], res := .tup .unit, outs := [.var kY10, .row kY46], fix := [], run := fun k ds os => add164 k ds.1 ds.2.1 ds.2.2 os.1 os.2 }
def add164.G : List Sig := [Low25.S, set72'.S, whole34.S]
theorem add164.eq (k : Nat) : ∀ ds os, add164.S.run k ds os = runF ⟨types, add164.G, add164.A, k, 0, []⟩ Tryz.f164 (codeOf Tryz.f164) add164.S.params add164.S.objs add164.S.res add164.S.outs ds os := by
  intro ds os; kernel_rfl
theorem add164.dr : DrOk Tryz.prog add164.A (codeOf Tryz.f164) := ⟨by kernel_rfl, by kernel_rfl⟩
theorem add164.ok (k : Nat) : SoundAt Tryz.prog k add164.S :=
  runF_sound (X := ⟨types, add164.G, add164.A, k, 0, []⟩) types_ok (mem_all (⟨Low25.ok k, ⟨set72'.ok k, ⟨whole34.ok k, trivial⟩⟩⟩)) (fn := Tryz.f164) (c := codeOf Tryz.f164) rfl (by kernel_rfl) rfl rfl add164.dr (add164.eq k)
end Go.Proofs.YtofendipdfepoaaGreat.Tr

/- Go functions as plain Lean functions, and their contracts. -/
set_option linter.unusedVariables false
set_option maxRecDepth 100000
noncomputable section
namespace Go.Proofs.YtofendipdfepoaaGreat.Tr
open Go Go.Proofs.YtofendipdfepoaaGreat.Gp
def bus128 (k : Nat) (_ : Unit) (c : tY82) (o0 : tY72) (o1 : tY109) : Option tY58 :=
  (whole34 k () c.2.2.1 o0 o1).bind fun t11 =>
  Option.bind
    (cond (c.2.1 == 0)
      (Option.bind
        (agree
          ((whole34 k () 7 t11.2.1 t11.2.2).bind fun t23 =>
          (at70 k t11.2.1.1 t23.1).bind fun t24 =>
          some ((), c, t24.1, t23.2.1, t23.2.2))
          ((whole34 k () 7 t11.2.1 t11.2.2).bind fun t23_1 =>
          (at70 k t23_1.2.1.1 t23_1.1).bind fun t24_1 =>
          some ((), c, t24_1.1, t23_1.2.1, t23_1.2.2)) : Option tY34) fun ((_, c_1, data, o0_1, o1_1) : tY34) =>
      (add164 k () 7 1 o0_1 o1_1).bind fun t28 =>
      some ((), c_1, data, t28.2.1, t28.2.2))
      (Option.bind
        (cond (c.2.1 == 1)
          (Option.bind
            (agree
              ((whole34 k () 7 t11.2.1 t11.2.2).bind fun t38 =>
              (at70 k t11.2.1.1 t38.1).bind fun t39 =>
              some ((), c, t39.1, t38.2.1, t38.2.2))
              ((whole34 k () 7 t11.2.1 t11.2.2).bind fun t38_1 =>
              (at70 k t38_1.2.1.1 t38_1.1).bind fun t39_1 =>
              some ((), c, t39_1.1, t38_1.2.1, t38_1.2.2)) : Option tY34) fun ((_, c_2, data_1, o0_2, o1_2) : tY34) =>
          some ((), c_2, data_1, o0_2, o1_2))
          (Option.bind
            (cond (c.2.1 == 4)
              ((add164 k () 3 (-1) t11.2.1 t11.2.2).bind fun t45 =>
              some ((), c, t45.2.1, t45.2.2))
              (Option.bind
                (cond (c.2.1 == 5)
                  ((add164 k () 3 1 t11.2.1 t11.2.2).bind fun t51 =>
                  some ((), c, t51.2.1, t51.2.2))
                  (some ((), c, t11.2.1, t11.2.2)) : Option tY36) fun ((_, c_3, o0_3, o1_3) : tY36) =>
              some ((), c_3, o0_3, o1_3)) : Option tY36) fun ((_, c_4, o0_4, o1_4) : tY36) =>
          some ((), c_4, (-1), o0_4, o1_4)) : Option tY34) fun ((_, c_5, data_2, o0_5, o1_5) : tY34) =>
      some ((), c_5, data_2, o0_5, o1_5)) : Option tY34) fun ((_, c_6, data_3, o0_6, o1_6) : tY34) =>
  Option.bind
    (cond (cond (c_6.1 == 2) (c_6.2.1 == 4) false)
      ((if room (List.length o1_6 + List.length ([t11.1] : List Int)) 8 then some () else none).bind fun _ =>
      some ((), c_6, (o0_6.1, o0_6.2.1, o0_6.2.2), (o1_6 ++ ([t11.1] : List Int))))
      (some ((), c_6, o0_6, o1_6)) : Option tY36) fun ((_, c_7, o0_7, o1_7) : tY36) =>
  Option.bind
    (cond (c_7.1 == 1)
      ((set72' k () c_7.2.2.1 data_3 o0_7 o1_7).bind fun t79 =>
      some (t79.2.1, t79.2.2))
      (some (o0_7, o1_7)) : Option tY62) fun ((o0_8, o1_8) : tY62) =>
  some ((), o0_8, o1_8)
def bus128.A : Ann := { conds := [(917508, ⟨[(0, .ptr 0 []), (3, .fp kY15), (4, .int .i64)], [(0, .var kY10), (1, .row kY46)], 2, [], 4503599627304976⟩), (1900551, ⟨[(0, .ptr 0 []), (3, .fp kY15), (4, .int .i64)], [(0, .var kY10), (1, .row kY46)], 2, [], 4503597479886864⟩), (2621449, ⟨[(0, .ptr 0 []), (3, .fp kY15)], [(0, .var kY10), (1, .row kY46)], 2, [], 4499201580859392⟩), (3014667, ⟨[(0, .ptr 0 []), (3, .fp kY15)], [(0, .var kY10), (1, .row kY46)], 2, [], 4222124650659840⟩), (3866637, ⟨[(0, .ptr 0 []), (3, .fp kY15)], [(0, .var kY10), (1, .row kY46)], 2, [], 1179438699212804456448⟩), (4718607, ⟨[], [(0, .var kY10), (1, .row kY46)], 2, [], 1199481086648889884278784⟩)], blocks := [], loops := [], keeps := [3], orders := [(1, [(0, .strong), (1, .strong), (2, .strong), (3, .strong), (4, .strong), (5, .eff false), (6, .strong), (7, .strong)]), (15, [(0, .strong), (1, .strong), (2, .strong), (3, .strong), (4, .strong), (5, .strong), (6, .eff false)])], alts := [(4, ((.op 0 .weak (.op 1 .weak (.op 2 .weak (.op 4 .strong (.op 5 .strong (.op 6 .strong (.alt (.op 3 (.eff true) (.op 7 (.eff false) (.op 8 (.eff true) (.op 9 .strong (.leaf []))))) (.op 7 (.eff false) (.op 3 .strong (.op 8 (.eff true) (.op 9 .strong (.leaf [])))))))))))), ⟨[(0, .ptr 0 []), (3, .fp kY15), (4, .int .i64)], [(0, .var kY10), (1, .row kY46)], 2, [], 33488912⟩)), (7, ((.op 0 .weak (.op 1 .weak (.op 2 .weak (.op 4 .strong (.op 5 .strong (.op 6 .strong (.alt (.op 3 (.eff true) (.op 7 (.eff false) (.op 8 (.eff true) (.op 9 .strong (.leaf []))))) (.op 7 (.eff false) (.op 3 .strong (.op 8 (.eff true) (.op 9 .strong (.leaf [])))))))))))), ⟨[(0, .ptr 0 []), (3, .fp kY15), (4, .int .i64)], [(0, .var kY10), (1, .row kY46)], 2, [], 1097364144144⟩))] }
def bus128.S : Sig := { f := 128, params := [.ptr 0 [], .st kY16], objs := [.var kY10, .row kY46], res := .tup .unit, outs := [.var kY10, .row kY46], fix := [], run := fun k ds os => bus128 k ds.1 ds.2 os.1 os.2 }
def bus128.G : List Sig := [add164.S, at70.S, set72'.S, whole34.S]
theorem bus128.eq (k : Nat) : ∀ ds os, bus128.S.run k ds os = runF ⟨types, bus128.G, bus128.A, k, 0, []⟩ Tryz.f128 (codeOf Tryz.f128) bus128.S.params bus128.S.objs bus128.S.res bus128.S.outs ds os := by
  intro ds os; kernel_rfl
theorem bus128.dr : DrOk Tryz.prog bus128.A (codeOf Tryz.f128) := ⟨by kernel_rfl, by kernel_rfl⟩
theorem bus128.ok (k : Nat) : SoundAt Tryz.prog k bus128.S :=
  runF_sound (X := ⟨types, bus128.G, bus128.A, k, 0, []⟩) types_ok (mem_all (⟨add164.ok k, ⟨at70.ok k, ⟨set72'.ok k, ⟨whole34.ok k, trivial⟩⟩⟩⟩)) (fn := Tryz.f128) (c := codeOf Tryz.f128) rfl (by kernel_rfl) rfl rfl bus128.dr (bus128.eq k)

def Clone129 (k : Nat) (s : tY109) : Option (Unit × tY109) :=
  orNil (List.length s)
    (cond true
      (some ((), []))
      ((if room (0 + List.length s) 8 then some () else none).bind fun _ =>
      some ((), s)))
    (cond false
      (some ((), []))
      ((if room (0 + List.length s) 8 then some () else none).bind fun _ =>
      some ((), s)))
def Clone129.A : Ann := { conds := [], blocks := [], loops := [], keeps := [], orders := [] }
def Clone129.S : Sig := { f := 129, params := [.sl kY46], objs := [], res := .ms 0, outs := [.row kY46], fix := [], run := fun k ds os => Clone129 k ds }
def Clone129.G : List Sig := []
theorem Clone129.eq (k : Nat) : ∀ ds os, Clone129.S.run k ds os = runF ⟨types, Clone129.G, Clone129.A, k, 0, []⟩ Tryz.f129 (codeOf Tryz.f129) Clone129.S.params Clone129.S.objs Clone129.S.res Clone129.S.outs ds os := by
  intro ds os; kernel_rfl
theorem Clone129.dr : DrOk Tryz.prog Clone129.A (codeOf Tryz.f129) := ⟨by kernel_rfl, by kernel_rfl⟩
theorem Clone129.ok (k : Nat) : SoundAt Tryz.prog k Clone129.S :=
  runF_sound (X := ⟨types, Clone129.G, Clone129.A, k, 0, []⟩) types_ok (fun s hs => absurd hs List.not_mem_nil) (fn := Tryz.f129) (c := codeOf Tryz.f129) rfl (by kernel_rfl) rfl rfl Clone129.dr (Clone129.eq k)

def Signed110 (k : Nat) (n : Int) (bits : Int) : Option tY108 :=
  (width56 k bits).bind fun t6 =>
  (Low25 k n t6.1).bind fun t9 =>
  Option.bind (cond (decide (t6.1 > 0))
    (let t15 : Int := (w64 (t6.1 - 1))
    (if t15 < 0 then none else some (shrI .i64 t9.1 t15)).bind fun t16 =>
    some (t16 == 1))
    (some false)) fun t18 =>
  Option.bind
    (cond t18
      ((if t6.1 < 0 then none else some (shlI .i64 1 t6.1)).bind fun t21 =>
      some (w64 (t9.1 - t21)))
      (some t9.1) : Option Int) fun (n_1 : Int) =>
  some (n_1, ())
def Signed110.A : Ann := { conds := [(1179652, ⟨[(0, .int .i64)], [], 0, [], 7864321⟩)], blocks := [], loops := [], keeps := [], orders := [] }
def Signed110.S : Sig := { f := 110, params := [.int .i64, .int .i64], objs := [], res := .int .i64, outs := [], fix := [], run := fun k ds os => Signed110 k ds.1 ds.2 }
def Signed110.G : List Sig := [Low25.S, width56.S]
theorem Signed110.eq (k : Nat) : ∀ ds os, Signed110.S.run k ds os = runF ⟨types, Signed110.G, Signed110.A, k, 0, []⟩ Tryz.f110 (codeOf Tryz.f110) Signed110.S.params Signed110.S.objs Signed110.S.res Signed110.S.outs ds os := by
  intro ds os; kernel_rfl
theorem Signed110.dr : DrOk Tryz.prog Signed110.A (codeOf Tryz.f110) := ⟨by kernel_rfl, by kernel_rfl⟩
theorem Signed110.ok (k : Nat) : SoundAt Tryz.prog k Signed110.S :=
  runF_sound (X := ⟨types, Signed110.G, Signed110.A, k, 0, []⟩) types_ok (mem_all (⟨Low25.ok k, ⟨width56.ok k, trivial⟩⟩)) (fn := Tryz.f110) (c := codeOf Tryz.f110) rfl (by kernel_rfl) rfl rfl Signed110.dr (Signed110.eq k)
end Go.Proofs.YtofendipdfepoaaGreat.Tr

/- Go functions as plain Lean functions, and their contracts. -/
set_option linter.unusedVariables false
set_option maxRecDepth 100000
noncomputable section
namespace Go.Proofs.YtofendipdfepoaaGreat.Tr
open Go Go.Proofs.YtofendipdfepoaaGreat.Gp
def step130 (k : Nat) (_ : Unit) (s : tY98) (o0 : tY72) (o1 : tY109) : Option tY58 :=
  (whole34 k () s.2.1 o0 o1).bind fun t13 =>
  (whole34 k () s.2.2.1 t13.2.1 t13.2.2).bind fun t19 =>
  cond (s.1 == 0)
    (some ((), t19.2.1, t19.2.2))
    (Option.bind
      (cond (s.1 == 3)
        (some ((), s, (s.1 == 3), t19.2.1, t19.2.2))
        (Option.bind
          (cond (s.1 == 6)
            (some ((), s, (s.1 == 6), t19.2.1, t19.2.2))
            (Option.bind
              (cond (s.1 == 16)
                (some ((), s, (s.1 == 16), t19.2.1, t19.2.2))
                (some ((), s, (s.1 == 17), t19.2.1, t19.2.2)) : Option tY40) fun ((_, s_1, t30, o0_1, o1_1) : tY40) =>
            some ((), s_1, t30, o0_1, o1_1)) : Option tY40) fun ((_, s_2, t30_1, o0_2, o1_2) : tY40) =>
        some ((), s_2, t30_1, o0_2, o1_2)) : Option tY40) fun ((_, s_3, t30_2, o0_3, o1_3) : tY40) =>
    Option.bind
      (cond t30_2
        (some ((), true, o0_3, o1_3))
        (Option.bind
          (cond (s.1 == 1)
            ((if 0 ≤ s_3.2.2.1 ∧ s_3.2.2.1 < 9 then some () else none).bind fun _ =>
            (rd o0_3.2.1 s_3.2.2.1).bind fun t46 =>
            (if 0 ≤ s_3.2.1 ∧ s_3.2.1 < 9 then some () else none).bind fun _ =>
            (rd o0_3.2.1 s_3.2.1).bind fun _ =>
            some ((), false, (o0_3.1, (List.set o0_3.2.1 (Int.toNat s_3.2.1) t46), o0_3.2.2), o1_3))
            (Option.bind
              (cond (s.1 == 2)
                ((set72' k () s_3.2.1 s_3.2.2.2 o0_3 o1_3).bind fun t59 =>
                some ((), false, t59.2.1, t59.2.2))
                (Option.bind
                  (cond (s.1 == 10)
                    (some ((), s_3, (s.1 == 10), o0_3, o1_3))
                    (some ((), s_3, (s.1 == 11), o0_3, o1_3)) : Option tY40) fun ((_, s_4, t60, o0_4, o1_4) : tY40) =>
                Option.bind
                  (cond t60
                    ((add164 k () s_4.2.1 (w64 (1 - (w64 (2 * (w64 (s_4.1 - 10)))))) o0_4 o1_4).bind fun t73 =>
                    (Wide76 k s_4.2.1).bind fun t76 =>
                    some ((), (!t76.1), t73.2.1, t73.2.2))
                    (Option.bind
                      (cond (s.1 == 18)
                        ((if 0 ≤ s_4.2.2.1 ∧ s_4.2.2.1 < 9 then some () else none).bind fun _ =>
                        (rd o0_4.2.1 s_4.2.2.1).bind fun t90 =>
                        (if 0 ≤ s_4.2.1 ∧ s_4.2.1 < 9 then some () else none).bind fun _ =>
                        (rd o0_4.2.1 s_4.2.1).bind fun _x_5 =>
                        some ((), false, (o0_4.1, (List.set o0_4.2.1 (Int.toNat s_4.2.1) (t90.1, _x_5.2)), o0_4.2.2), o1_4))
                        (Option.bind
                          (cond (s.1 == 19)
                            ((if 0 ≤ s_4.2.2.1 ∧ s_4.2.2.1 < 9 then some () else none).bind fun _ =>
                            (rd o0_4.2.1 s_4.2.2.1).bind fun t107 =>
                            (if 0 ≤ s_4.2.1 ∧ s_4.2.1 < 9 then some () else none).bind fun _ =>
                            (rd o0_4.2.1 s_4.2.1).bind fun _x_8 =>
                            some ((), false, (o0_4.1, (List.set o0_4.2.1 (Int.toNat s_4.2.1) (_x_8.1, t107.1)), o0_4.2.2), o1_4))
                            (Option.bind
                              (cond (s.1 == 20)
                                ((if 0 ≤ s_4.2.2.1 ∧ s_4.2.2.1 < 9 then some () else none).bind fun _ =>
                                (rd o0_4.2.1 s_4.2.2.1).bind fun t124 =>
                                (if 0 ≤ s_4.2.1 ∧ s_4.2.1 < 9 then some () else none).bind fun _ =>
                                (rd o0_4.2.1 s_4.2.1).bind fun _ =>
                                some ((), false, (o0_4.1, (List.set o0_4.2.1 (Int.toNat s_4.2.1) (t124.1, 0)), o0_4.2.2), o1_4))
                                (Option.bind
                                  (cond (s.1 == 21)
                                    ((if 0 ≤ s_4.2.2.1 ∧ s_4.2.2.1 < 9 then some () else none).bind fun _ =>
                                    (rd o0_4.2.1 s_4.2.2.1).bind fun t141 =>
                                    (if 0 ≤ s_4.2.1 ∧ s_4.2.1 < 9 then some () else none).bind fun _ =>
                                    (rd o0_4.2.1 s_4.2.1).bind fun _ =>
                                    some ((), false, (o0_4.1, (List.set o0_4.2.1 (Int.toNat s_4.2.1) (t141.2, 0)), o0_4.2.2), o1_4))
                                    (Option.bind
                                      (cond (s.1 == 22)
                                        (some ((), s_4, (s.1 == 22), o0_4, o1_4))
                                        (some ((), s_4, (s.1 == 23), o0_4, o1_4)) : Option tY40) fun ((_, s_5, t146, o0_5, o1_5) : tY40) =>
                                    Option.bind
                                      (cond t146
                                        (Option.bind
                                          (cond (cond (s_5.1 == 23) (t19.1 != (-1)) false)
                                            ((Signed110 k t19.1 8).bind fun t158 =>
                                            some ((), s_5, t158.1, o0_5, o1_5))
                                            (some ((), s_5, t19.1, o0_5, o1_5)) : Option tY41) fun ((_, s_6, by_, o0_6, o1_6) : tY41) =>
                                        Option.bind
                                          (cond (cond (t19.1 == (-1)) true (t13.1 == (-1)))
                                            ((set72' k () s_6.2.1 (-1) o0_6 o1_6).bind fun t170 =>
                                            some ((), t170.2.1, t170.2.2))
                                            ((add164 k () s_6.2.1 by_ o0_6 o1_6).bind fun t177 =>
                                            some ((), t177.2.1, t177.2.2)) : Option tY58) fun ((_, o0_7, o1_7) : tY58) =>
                                        some ((), false, o0_7, o1_7))
                                        ((set72' k () s_5.2.1 (-1) o0_5 o1_5).bind fun t27 =>
                                        some ((), true, t27.2.1, t27.2.2)) : Option tY53) fun ((_, flags, o0_8, o1_8) : tY53) =>
                                    some ((), flags, o0_8, o1_8)) : Option tY53) fun ((_, flags_1, o0_9, o1_9) : tY53) =>
                                some ((), flags_1, o0_9, o1_9)) : Option tY53) fun ((_, flags_2, o0_10, o1_10) : tY53) =>
                            some ((), flags_2, o0_10, o1_10)) : Option tY53) fun ((_, flags_3, o0_11, o1_11) : tY53) =>
                        some ((), flags_3, o0_11, o1_11)) : Option tY53) fun ((_, flags_4, o0_12, o1_12) : tY53) =>
                    some ((), flags_4, o0_12, o1_12)) : Option tY53) fun ((_, flags_5, o0_13, o1_13) : tY53) =>
                some ((), flags_5, o0_13, o1_13)) : Option tY53) fun ((_, flags_6, o0_14, o1_14) : tY53) =>
            some ((), flags_6, o0_14, o1_14)) : Option tY53) fun ((_, flags_7, o0_15, o1_15) : tY53) =>
        some ((), flags_7, o0_15, o1_15)) : Option tY53) fun ((_, flags_8, o0_16, o1_16) : tY53) =>
    Option.bind
      (cond flags_8
        ((set72' k () 4 (-1) o0_16 o1_16).bind fun t182 =>
        some (t182.2.1, t182.2.2))
        (some (o0_16, o1_16)) : Option tY62) fun ((o0_17, o1_17) : tY62) =>
    some ((), o0_17, o1_17))
def step130.A : Ann := { conds := [(1966088, ⟨[(0, .ptr 0 []), (3, .fp kY21), (30, .bool)], [(0, .var kY10), (1, .row kY46)], 2, [], 31138512896⟩), (1966089, ⟨[(0, .ptr 0 []), (3, .fp kY21), (30, .bool)], [(0, .var kY10), (1, .row kY46)], 2, [], 26843545600⟩), (1966090, ⟨[(0, .ptr 0 []), (3, .fp kY21), (30, .bool)], [(0, .var kY10), (1, .row kY46)], 2, [], 18253611008⟩), (1966091, ⟨[(0, .ptr 0 []), (6, .bool)], [(0, .var kY10), (1, .row kY46)], 2, [], 383123885216472214589586756787577295904684746450403520⟩), (2293773, ⟨[(0, .ptr 0 []), (6, .bool)], [(0, .var kY10), (1, .row kY46)], 2, [], 383123885216472214589586756787577295904684643371188416⟩), (3276815, ⟨[(0, .ptr 0 []), (6, .bool)], [(0, .var kY10), (1, .row kY46)], 2, [], 383123885216472214589586756787577295900181181182771392⟩), (3932177, ⟨[(0, .ptr 0 []), (3, .fp kY21), (60, .bool)], [(0, .var kY10), (1, .row kY46)], 2, [], 5764607523034234880⟩), (3932178, ⟨[(0, .ptr 0 []), (6, .bool)], [(0, .var kY10), (1, .row kY46)], 2, [], 383123885216472214589586756787577286681312743955366080⟩), (5111829, ⟨[(0, .ptr 0 []), (6, .bool)], [(0, .var kY10), (1, .row kY46)], 2, [], 383123885216472214589586756786368370085070151635435712⟩), (6225943, ⟨[(0, .ptr 0 []), (6, .bool)], [(0, .var kY10), (1, .row kY46)], 2, [], 383123885216472214589586598331252267376009593722241216⟩), (7340057, ⟨[(0, .ptr 0 []), (6, .bool)], [(0, .var kY10), (1, .row kY46)], 2, [], 383123885216472214568817569353437985390562795493261504⟩), (8454171, ⟨[(0, .ptr 0 []), (6, .bool)], [(0, .var kY10), (1, .row kY46)], 2, [], 383123885216469492330651389279869588907825326664450240⟩), (9568285, ⟨[(0, .ptr 0 []), (3, .fp kY21), (146, .bool)], [(0, .var kY10), (1, .row kY46)], 2, [], 446014903970612462830714365452967230119608320⟩), (9568286, ⟨[(0, .ptr 0 []), (6, .bool)], [(0, .var kY10), (1, .row kY46)], 2, [], 383123884502848368236606816258434311179937212618768576⟩), (10223648, ⟨[(0, .ptr 0 []), (3, .fp kY21), (7, .int .i64)], [(0, .var kY10), (1, .row kY46)], 2, [], 548063113999088594326381812268606132370974703744⟩), (10747938, ⟨[(0, .ptr 0 [])], [(0, .var kY10), (1, .row kY46)], 2, [], 383077117164077625696204238872930374848055790704525312⟩), (11665445, ⟨[], [(0, .var kY10), (1, .row kY46)], 2, [], 11493716556494166437687602703627318877140543416377016320⟩)], blocks := [], loops := [], keeps := [3], orders := [(1, [(0, .strong), (1, .strong), (2, .strong), (3, .strong), (4, .strong), (6, .weak), (7, .weak), (8, .weak), (9, .weak), (10, .weak), (5, .eff false), (11, .eff false), (12, .strong), (13, .strong)]), (4, [(0, .strong), (1, .strong), (2, .strong), (3, .strong), (4, .strong), (5, .eff false)]), (13, [(0, .strong), (1, .strong), (2, .strong), (3, .strong), (4, .strong), (5, .strong), (6, .strong), (7, .strong), (8, .strong), (9, .strong), (10, .strong), (11, .strong), (12, .strong), (13, .eff false)]), (15, [(0, .strong), (1, .strong), (2, .strong), (3, .strong), (4, .strong), (5, .strong), (6, .strong), (7, .eff false)]), (18, [(0, .strong), (1, .strong), (2, .strong), (3, .strong), (4, .strong), (5, .strong), (6, .strong), (7, .strong), (8, .strong), (9, .strong), (10, .eff false)]), (21, [(0, .strong), (1, .strong), (2, .strong), (3, .strong), (4, .strong), (5, .strong), (6, .strong), (7, .strong), (8, .strong), (9, .strong), (10, .strong), (11, .strong), (12, .strong), (13, .strong), (14, .strong), (15, .eff false)]), (23, [(0, .strong), (1, .strong), (2, .strong), (3, .strong), (4, .strong), (5, .strong), (6, .strong), (7, .strong), (8, .strong), (9, .strong), (10, .strong), (11, .strong), (12, .strong), (13, .strong), (14, .strong), (15, .eff false)]), (25, [(0, .strong), (1, .strong), (2, .strong), (3, .strong), (4, .strong), (5, .strong), (6, .strong), (7, .strong), (8, .strong), (9, .strong), (10, .strong), (11, .strong), (12, .strong), (13, .strong), (14, .strong), (15, .eff false)]), (27, [(0, .strong), (1, .strong), (2, .strong), (3, .strong), (4, .strong), (5, .strong), (6, .strong), (7, .strong), (8, .strong), (9, .strong), (10, .strong), (11, .strong), (12, .strong), (13, .strong), (14, .strong), (15, .eff false)]), (34, [(0, .strong), (1, .strong), (2, .strong), (3, .strong), (4, .strong), (5, .eff false)]), (35, [(0, .strong), (1, .strong), (2, .strong), (3, .strong), (4, .strong), (5, .strong), (6, .eff false)])] }
def step130.S : Sig := { f := 130, params := [.ptr 0 [], .st kY24], objs := [.var kY10, .row kY46], res := .tup .unit, outs := [.var kY10, .row kY46], fix := [], run := fun k ds os => step130 k ds.1 ds.2 os.1 os.2 }
def step130.G : List Sig := [Signed110.S, Wide76.S, add164.S, set72'.S, whole34.S]
theorem step130.eq (k : Nat) : ∀ ds os, step130.S.run k ds os = runF ⟨types, step130.G, step130.A, k, 0, []⟩ Tryz.f130 (codeOf Tryz.f130) step130.S.params step130.S.objs step130.S.res step130.S.outs ds os := by
  intro ds os; kernel_rfl
theorem step130.dr : DrOk Tryz.prog step130.A (codeOf Tryz.f130) := ⟨by kernel_rfl, by kernel_rfl⟩
theorem step130.ok (k : Nat) : SoundAt Tryz.prog k step130.S :=
  runF_sound (X := ⟨types, step130.G, step130.A, k, 0, []⟩) types_ok (mem_all (⟨Signed110.ok k, ⟨Wide76.ok k, ⟨add164.ok k, ⟨set72'.ok k, ⟨whole34.ok k, trivial⟩⟩⟩⟩⟩)) (fn := Tryz.f130) (c := codeOf Tryz.f130) rfl (by kernel_rfl) rfl rfl step130.dr (step130.eq k)
end Go.Proofs.YtofendipdfepoaaGreat.Tr

/- Go functions as plain Lean functions, and their contracts. -/
set_option linter.unusedVariables false
set_option maxRecDepth 100000
noncomputable section
namespace Go.Proofs.YtofendipdfepoaaGreat.Tr
open Go Go.Proofs.YtofendipdfepoaaGreat.Gp
def ends79.l0 (k : Nat) (c : tY82) : tY27 → Option tY15
  | (_, _, t30, o0_2, o1_2, o5_2) =>
    cond (decide (t30 < (List.length c.2.2.2 : Int)))
      (Option.bind
        ((rd c.2.2.2 t30).bind fun t32 =>
        cond (t32.1 == 24)
          ((Clone129 k o1_2).bind fun t42 =>
          (if room (List.length o5_2 + List.length ([((0, [], []), o0_2.2.1, t42.2)] : List tY66)) 224 then some () else none).bind fun _ =>
          some ((), (), o0_2, o1_2, (o5_2 ++ ([((0, [], []), o0_2.2.1, t42.2)] : List tY66))))
          ((step130 k () t32 o0_2 o1_2).bind fun t47 =>
          some ((), (), t47.2.1, t47.2.2, o5_2)) : Option tY30) fun ((_, _, o0_3, o1_3, o5_3) : tY30) =>
      some (Sum.inl ((), (), (w64 (t30 + 1)), o0_3, o1_3, o5_3)))
      (some (Sum.inr ((), (), o0_2, o1_2, o5_2)))
def ends79.l1 (k : Nat) (l : tY80) : tY27 → Option tY15
  | (_, _, t18, o0, o1, o5) =>
    cond (decide (t18 < (List.length l : Int)))
      ((rd l t18).bind fun t20 =>
      Option.bind
        (cond (t20.1 != 0)
          ((bus128 k () t20 o0 o1).bind fun t26 =>
          some ((), (), t20, t26.2.1, t26.2.2, o5))
          (some ((), (), t20, o0, o1, o5)) : Option tY21) fun ((_, _, c, o0_1, o1_1, o5_1) : tY21) =>
      Option.bind
        (loopN (ends79.l0 k c) k ((), (), 0, o0_1, o1_1, o5_1) : Option tY30) fun ((_, _, o0_4, o1_4, o5_4) : tY30) =>
      some (Sum.inl ((), (), (w64 (t18 + 1)), o0_4, o1_4, o5_4)))
      (some (Sum.inr ((), (), o0, o1, o5)))
def ends79 (k : Nat) (code : tY84) (l : tY80) (r : tY106) : Option tY60 :=
  Option.bind
    (loopN (ends79.l1 k l) k ((), (), 0, (code, r, ()), [], []) : Option tY30) fun ((_, _, o0_5, o1_5, o5_5) : tY30) =>
  (if room (List.length o5_5 + List.length [(o0_5.1, o0_5.2.1, o1_5)]) 224 then some () else none).bind fun _ =>
  some ((o5_5 ++ [(o0_5.1, o0_5.2.1, o1_5)]), ())
def ends79.A : Ann := { conds := [(1572871, ⟨[(7, .ptr 0 []), (8, .ms 5), (10, .fp kY15)], [(0, .var kY10), (1, .row kY46), (5, .row kY8)], 6, [], 100663296⟩)], blocks := [(0, ⟨[(7, .ptr 0 []), (8, .ms 5)], [(0, .var kY10), (1, .row kY46), (5, .row kY8)], 6, [], 1125899906585856⟩), (2, ⟨[(7, .ptr 0 []), (8, .ms 5)], [(0, .var kY10), (1, .row kY46), (5, .row kY8)], 6, [], 562948879683840⟩), (3, ⟨[(7, .ptr 0 []), (8, .ms 5)], [(0, .var kY10), (1, .row kY46), (5, .row kY8)], 6, [], 281470681747712⟩)], loops := [(4, ⟨[(7, .ptr 0 []), (8, .ms 5), (18, .int .i64)], [(0, .var kY10), (1, .row kY46), (5, .row kY8)], 6, [(5, .st kY9)], 1125899906585856⟩), (9, ⟨[(7, .ptr 0 []), (8, .ms 5), (30, .int .i64)], [(0, .var kY10), (1, .row kY46), (5, .row kY8)], 6, [], 562948879683840⟩)], keeps := [3, 5, 10, 12], orders := [(12, [(0, .strong), (1, .strong), (2, .strong), (3, .strong), (4, .strong), (5, .eff true), (6, .strong), (7, .eff true), (8, .eff false), (9, .strong)])], turns := [(1, [⟨0, [(1, .int .i64)], .st (.pair kY17 (.pair kY36 (.ms 1)))⟩])] }
def ends79.S : Sig := { f := 79, params := [.st kY19, .sl kY15, .arr 9 kY39], objs := [], res := .sl kY8, outs := [], fix := [], run := fun k ds os => ends79 k ds.1 ds.2.1 ds.2.2 }
def ends79.G : List Sig := [Clone129.S, bus128.S, step130.S]
theorem ends79.eq (k : Nat) : ∀ ds os, ends79.S.run k ds os = runF ⟨types, ends79.G, ends79.A, k, 0, []⟩ Tryz.f79 (codeOf Tryz.f79) ends79.S.params ends79.S.objs ends79.S.res ends79.S.outs ds os := by
  intro ds os; kernel_rfl
theorem ends79.dr : DrOk Tryz.prog ends79.A (codeOf Tryz.f79) := ⟨by kernel_rfl, by kernel_rfl⟩
theorem ends79.ok (k : Nat) : SoundAt Tryz.prog k ends79.S :=
  runF_sound (X := ⟨types, ends79.G, ends79.A, k, 0, []⟩) types_ok (mem_all (⟨Clone129.ok k, ⟨bus128.ok k, ⟨step130.ok k, trivial⟩⟩⟩)) (fn := Tryz.f79) (c := codeOf Tryz.f79) rfl (by kernel_rfl) rfl rfl ends79.dr (ends79.eq k)

def whole34' (k : Nat) (_ : Unit) (reg : Int) (o0 : tY66) : Option (Int × tY66) :=
  (if 0 ≤ reg ∧ reg < 9 then some () else none).bind fun _ =>
  (rd o0.2.1 reg).bind fun t10 =>
  Option.bind (cond (t10.1 == (-1))
    (some true)
    ((Wide76 k reg).bind fun t16 =>
    some (cond t16.1 (t10.2 == (-1)) false))) fun t22 =>
  cond t22
    (some ((-1), o0))
    (some ((w64 (t10.1 + (w64 (256 * t10.2)))), o0))
def whole34'.A : Ann := { conds := [], blocks := [], loops := [], keeps := [5], orders := [] }
def whole34'.S : Sig := { f := 34, params := [.ptr 0 [.fld 1 3], .int .i64], objs := [.var kY8], res := .int .i64, outs := [.var kY8], fix := [], run := fun k ds os => whole34' k ds.1 ds.2 os }
def whole34'.G : List Sig := [Wide76.S]
theorem whole34'.eq (k : Nat) : ∀ ds os, whole34'.S.run k ds os = runF ⟨types, whole34'.G, whole34'.A, k, 0, []⟩ Tryz.f34 (codeOf Tryz.f34) whole34'.S.params whole34'.S.objs whole34'.S.res whole34'.S.outs ds os := by
  intro ds os; kernel_rfl
theorem whole34'.dr : DrOk Tryz.prog whole34'.A (codeOf Tryz.f34) := ⟨by kernel_rfl, by kernel_rfl⟩
theorem whole34'.ok (k : Nat) : SoundAt Tryz.prog k whole34'.S :=
  runF_sound (X := ⟨types, whole34'.G, whole34'.A, k, 0, []⟩) types_ok (mem_all (⟨Wide76.ok k, trivial⟩)) (fn := Tryz.f34) (c := codeOf Tryz.f34) rfl (by kernel_rfl) rfl rfl whole34'.dr (whole34'.eq k)
end Go.Proofs.YtofendipdfepoaaGreat.Tr

/- Sorting a row of ints in place: the library's contract as one of ours. -/
set_option linter.unusedVariables false
noncomputable section
namespace Go.Proofs.YtofendipdfepoaaGreat.Gp
open Go Go.Sort Go.RowKit Go.Shelf

def sortI (l : List Int) : List Int := l.mergeSort fun x y => decide (x ≤ y)
theorem lvI {H : Hp} {L : Ls} : ∀ {l : List Int} {vs : List Value}, LvL (Lv H L (.int .i64)) l vs ↔ vs = l.map (Value.int .i64)
  | [], vs => Iff.rfl
  | x :: r, vs => by
    constructor
    · rintro ⟨a, b, rfl, h1, h2⟩
      rw [lvI.1 h2, show a = [Value.int .i64 x] from h1]
      rfl
    · intro h
      exact ⟨[Value.int .i64 x], r.map (Value.int .i64), h, rfl, lvI.2 rfl⟩
theorem sortI_len (l : List Int) : (sortI l).length = l.length := List.length_mergeSort l
def sortS (f : Nat) : Sig := { f := f, params := [.ms 0], objs := [.row (.int .i64)], res := .tup .unit, outs := [.row (.int .i64)], fix := [0], run := fun _ _ os => if os.length < 4611686018427387904 then some ((), sortI os) else none }
theorem putCells_toList (off : Nat) (l : List Int) (c : Array Value) (h : off + l.length ≤ c.size) : ((putCells (Value.int .i64) off l.toArray c).toList.drop off).take l.length = l.map (Value.int .i64) := by
  refine List.ext_getElem? fun i => ?_
  rw [List.getElem?_take, List.getElem?_map]
  by_cases hi : i < l.length
  · rw [if_pos hi, List.getElem?_drop, Array.getElem?_toList]
    unfold putCells
    rw [Array.getElem?_mapIdx, Array.getElem?_eq_getElem (by omega), Option.map_some, if_pos ⟨by omega, by simpa using hi⟩, show off + i - off = i by omega, List.getElem?_eq_getElem hi, Option.map_some]
    congr 2
    rw [getElem!_pos l.toArray i (by simpa using hi)]
    simp
  · rw [if_neg hi, List.getElem?_eq_none (by omega)]
    rfl
/-- the memory behind and ahead of the sort -/
def rowO (l : List Int) : Nat → O := assoc O.dead (objsFrom 0 [OK.row (.int .i64)] l)
theorem rowO_own {l l' : List Int} {L : Ls} {b : Nat} : Own (rowO l) L b ↔ Own (rowO l') L b := by
  have key : ∀ (l l' : List Int) (b : Nat), Own (rowO l) L b → Own (rowO l') L b := by
    rintro l l' b ⟨i, h1, h2⟩
    refine ⟨i, ?_, h2⟩
    cases i with
    | zero => exact h1
    | succ i => exact h1
  exact ⟨key l l' b, key l' l b⟩
theorem sort_sound {P : Program} {ρ : Ren} (Ly : Lays.n189 P ρ) {f : Nat} (hf : ρ.f 189 = f) (hfn : ∃ fn c, P.funcs[f]? = some fn ∧ (fn.name == "runtime.NumGoroutine") = false ∧ fn.body = some c) (k : Nat) : SoundAt P k (sortS f) := by
  subst hf
  refine ⟨hfn, fun ds (os : List Int) q hq xs w H L hx hp hl => ?_⟩
  have hq : (if os.length < 4611686018427387904 then some ((), sortI os) else none) = some q := hq
  split at hq
  case isFalse => cases hq
  rename_i hbig
  cases hq
  have o0 : OR H L w (L 0) (.row (.int .i64)) os := hp.obj 0
  obtain ⟨hpur, hlen, h⟩ := o0
  have hlen : (L 0).len = os.length := hlen
  have hxs : xs = #[(L 0).hdr] := by
    have hx : SRs H L [⟨.ms 0, ds⟩] xs.toList := hx
    generalize hl' : xs.toList = l at hx
    cases hx with
    | cons h1 h2 =>
      cases h2
      obtain ⟨us, ⟨hus, _⟩, rfl⟩ := h1
      subst hus
      rw [← Array.toArray_toList (xs := xs), hl']
      rfl
  have hlive : (L 0).live = true := by
    have hx : SRs H L [⟨.ms 0, ds⟩] xs.toList := hx
    generalize hl' : xs.toList = l at hx
    cases hx with
    | cons h1 h2 =>
      obtain ⟨us, ⟨_, h⟩, _⟩ := h1
      exact h
  have hsr : ∀ v, v = Value.tuple #[] → SR H L ⟨.tup .unit, ()⟩ v := fun v hv => ⟨[], hv, rfl⟩
  by_cases h0 : os.length = 0
  · have hos : os = ([] : List Int) := List.eq_nil_of_length_eq_zero h0
    subst hos
    have hh : ∃ p cap, (L 0).hdr = .slice p 0 cap := by
      unfold Loc.hdr
      split
      · exact ⟨_, _, rfl⟩
      · rw [hlen]; exact ⟨_, _, rfl⟩
    obtain ⟨p, cap, hh⟩ := hh
    rw [hxs, hh]
    refine (Any.slices_Sort_int_none Ly p cap w).mono ?_
    rintro e w' ⟨rfl, rfl⟩
    have hs : sortI [] = [] := by unfold sortI; simp
    refine ⟨_, H, L, rfl, hsr _ rfl, ?_, hl, ⟨?_, fun i hi hv => ?_, fun i _ => ⟨rfl, rfl, rfl, id⟩⟩⟩
    · show HeapOk (rowO (sortI [])) H L w'
      rw [hs]
      exact hp
    · show Fr (Own (rowO []) L) H w' (Own (rowO (sortI [])) L) H w'
      rw [hs]
      exact Fr.refl _ _ _
    · have : i = 0 := by have hi : i < 1 := hi; omega
      subst this
      cases hv
  · rcases h with ⟨_, h1, _⟩ | ⟨hnil, hcap, cs, e, z, hb, hz, hsz, hv⟩
    · exact absurd h1 h0
    have hcap : os.length ≤ (L 0).cap := hcap
    have hsz : (L 0).off + (L 0).cap * 1 ≤ cs.size := hsz
    have hv : (cs.toList.drop (L 0).off).take (os.length * 1) = os.map (Value.int .i64) := lvI.1 hv
    rw [Nat.mul_one] at hv hsz
    have hblk : (L 0).blk < w.heap.size := by
      rcases Nat.lt_or_ge (L 0).blk w.heap.size with h | h
      · exact h
      · rw [Array.getElem?_eq_none h] at hb; cases hb
    have hH : Holds (Value.int .i64) w (L 0).blk (L 0).off os.toArray := by
      intro j hj
      have hj : j < os.length := by simpa using hj
      refine ⟨?_, ?_⟩
      · unfold World.cell?
        show (match w.heap[(L 0).blk]? with | some (.cells c _ _) => if false = true then none else c[(L 0).off + j]? | _ => none) = _
        rw [hb]
        show cs[(L 0).off + j]? = _
        have hg : (os.map (Value.int .i64))[j]? = some (Value.int .i64 os[j]) := by rw [List.getElem?_map, List.getElem?_eq_getElem hj]; rfl
        rw [← hv, List.getElem?_take, if_pos hj, List.getElem?_drop, Array.getElem?_toList] at hg
        rw [hg, getElem!_pos os.toArray j (by simpa using hj)]
        simp
      · unfold World.frozen?
        show (match w.heap[(L 0).blk]? with | some (.cells _ _ (lo, hi)) => lo ≤ (L 0).off + j && (L 0).off + j < hi | _ => false) = false
        rw [hb]
        have := hz ((L 0).off + j) (by omega)
        show (decide (z.1 ≤ (L 0).off + j) && decide ((L 0).off + j < z.2)) = false
        rw [← Bool.decide_and]
        exact decide_eq_false this
    have hhdr : (L 0).hdr = .slice (some ⟨(L 0).blk, (L 0).off, none⟩) (os.length) (L 0).cap := by
      unfold Loc.hdr
      rw [hnil, hlen]; rfl
    rw [hxs, hhdr]
    refine (Any.slices_Sort_int Ly (L 0).blk (L 0).off (L 0).cap os w hH hblk hbig).mono ?_
    rintro e' w' ⟨rfl, n, os', rfl⟩
    have hF : ∀ b, b < w.heap.size → (grow (putRow (Value.int .i64) (Sort.ahead w n) (L 0).blk (L 0).off (sortI os).toArray) os').heap[b]? = if (L 0).blk = b then (w.heap[b]?).map (onCells (putCells (Value.int .i64) (L 0).off (sortI os).toArray)) else w.heap[b]? := fun b hb => by
      show (w.heap.modify (L 0).blk (onCells (putCells (Value.int .i64) (L 0).off (sortI os).toArray)) ++ os')[b]? = _
      rw [Array.getElem?_append_left (by rw [Array.size_modify]; exact hb), Array.getElem?_modify]
    have hsl := sortI_len os
    have hnone : H (L 0).blk = none := hp.apart 0 hnil
    have hne : ∀ b o, H b = some o → (L 0).blk ≠ b := fun b o h e => by rw [← e, hnone] at h; cases h
    have hcells : (grow (putRow (Value.int .i64) (Sort.ahead w n) (L 0).blk (L 0).off (sortI os).toArray) os').heap[(L 0).blk]? = some (.cells (putCells (Value.int .i64) (L 0).off (sortI os).toArray cs) e z) := by
      rw [hF _ hblk, if_pos rfl, hb]; rfl
    have hps : (putCells (Value.int .i64) (L 0).off (sortI os).toArray cs).size = cs.size := by unfold putCells; rw [Array.size_mapIdx]
    refine ⟨_, H, L, rfl, hsr _ rfl, ?_, hl, ⟨?_, fun i hi hv => ?_, fun i _ => ⟨rfl, rfl, rfl, id⟩⟩⟩
    · refine ⟨fun i => ?_, fun b o h => ?_, fun i h => ?_, fun i j h h' he => ?_, hp.glob⟩
      · cases i with
        | zero =>
          refine ⟨hpur, hlen.trans hsl.symm, .inr ⟨hnil, ?_, _, e, z, hcells, ?_, ?_, ?_⟩⟩
          · show (sortI os).length ≤ (L 0).cap
            omega
          · intro o ho
            exact hz o (by omega)
          · show (L 0).off + (L 0).cap * 1 ≤ _
            omega
          · refine lvI.2 ?_
            show (((putCells (Value.int .i64) (L 0).off (sortI os).toArray cs).toList.drop (L 0).off).take ((sortI os).length * 1)) = _
            rw [Nat.mul_one]
            exact putCells_toList _ _ _ (by omega)
        | succ i => exact trivial
      · refine (hF b (by
          have := hp.agree b o h
          rcases Nat.lt_or_ge b w.heap.size with h1 | h1
          · exact h1
          · rw [Array.getElem?_eq_none h1] at this; cases this)).trans ?_
        rw [if_neg (hne b o h)]
        exact hp.agree b o h
      · cases i with
        | zero => exact hnone
        | succ i => exact absurd h id
      · cases i with
        | zero =>
          cases j with
          | zero => rfl
          | succ j => exact absurd h' id
        | succ i => exact absurd h id
    · refine ⟨fun _ _ h => h, fun b hb' ho => ?_, fun _ _ h => .inl h, fun b h => .inl (rowO_own.1 h), ?_, rfl, rfl, rfl⟩
      · refine (hF b hb').trans ?_
        rw [if_neg (fun e => ho ⟨0, hnil, e⟩)]
      · show w.heap.size ≤ (w.heap.modify (L 0).blk _ ++ os').size
        rw [Array.size_append, Array.size_modify]
        omega
    · have : i = 0 := by have hi : i < 1 := hi; omega
      subst this
      cases hv
/-- equal neighbours once -/
abbrev compI (l : List Int) : List Int := Lib.compact l
def compactS (f : Nat) : Sig := { f := f, params := [.ms 0], objs := [.row (.int .i64)], res := .ms 0, outs := [.row (.int .i64)], fix := [], run := fun _ _ os => if os.length < 4611686018427387904 then some ((), compI os) else none }
theorem compact_sound {P : Program} {ρ : Ren} (Ly : Lays2.n20 P ρ) {f : Nat} (hf : ρ.f 20 = f) (hfn : ∃ fn c, P.funcs[f]? = some fn ∧ (fn.name == "runtime.NumGoroutine") = false ∧ fn.body = some c) (k : Nat) : SoundAt P k (compactS f) := by
  subst hf
  refine ⟨hfn, fun ds (os : List Int) q hq xs w H L hx hp hl => ?_⟩
  have hq : (if os.length < 4611686018427387904 then some ((), Lib.compact os) else none) = some q := hq
  split at hq
  case isFalse => cases hq
  rename_i hbig
  cases hq
  have o0 : OR H L w (L 0) (.row (.int .i64)) os := hp.obj 0
  obtain ⟨hpur, hlen, h⟩ := o0
  have hlen : (L 0).len = os.length := hlen
  have hxs : xs = #[(L 0).hdr] := by
    have hx : SRs H L [⟨.ms 0, ds⟩] xs.toList := hx
    generalize hl' : xs.toList = l at hx
    cases hx with
    | cons h1 h2 =>
      cases h2
      obtain ⟨us, ⟨hus, _⟩, rfl⟩ := h1
      subst hus
      rw [← Array.toArray_toList (xs := xs), hl']
      rfl
  have hlive : (L 0).live = true := by
    have hx : SRs H L [⟨.ms 0, ds⟩] xs.toList := hx
    generalize hl' : xs.toList = l at hx
    cases hx with
    | cons h1 h2 =>
      obtain ⟨us, ⟨_, h⟩, _⟩ := h1
      exact h
  by_cases h0 : os.length = 0
  · have hos : os = ([] : List Int) := List.eq_nil_of_length_eq_zero h0
    subst hos
    have hh : ∃ p cap, (L 0).hdr = .slice p 0 cap := by
      unfold Loc.hdr
      split
      · exact ⟨_, _, rfl⟩
      · rw [hlen]; exact ⟨_, _, rfl⟩
    obtain ⟨p, cap, hh⟩ := hh
    rw [hxs, hh]
    refine (Any.slices_Compact_int_empty Ly p cap w).mono ?_
    rintro e w' ⟨rfl, rfl⟩
    have hs : Lib.compact ([] : List Int) = [] := rfl
    refine ⟨_, H, L, rfl, ⟨_, ⟨rfl, hlive⟩, hh.symm⟩, ?_, hl, ⟨?_, fun i hi hv => ?_, fun i h => by cases h⟩⟩
    · show HeapOk (rowO (Lib.compact [])) H L w'
      rw [hs]
      exact hp
    · show Fr (Own (rowO []) L) H w' (Own (rowO (Lib.compact [])) L) H w'
      rw [hs]
      exact Fr.refl _ _ _
    · have : i = 0 := by have hi : i < 1 := hi; omega
      subst this
      cases hv
  · rcases h with ⟨_, h1, _⟩ | ⟨hnil, hcap, cs, e, z, hb, hz, hsz, hv⟩
    · exact absurd h1 h0
    have hcap : os.length ≤ (L 0).cap := hcap
    have hsz : (L 0).off + (L 0).cap * 1 ≤ cs.size := hsz
    have hv : (cs.toList.drop (L 0).off).take (os.length * 1) = os.map (Value.int .i64) := lvI.1 hv
    rw [Nat.mul_one] at hv hsz
    have hblk : (L 0).blk < w.heap.size := by
      rcases Nat.lt_or_ge (L 0).blk w.heap.size with h | h
      · exact h
      · rw [Array.getElem?_eq_none h] at hb; cases hb
    have hH : Holds (Value.int .i64) w (L 0).blk (L 0).off os.toArray := by
      intro j hj
      have hj : j < os.length := by simpa using hj
      refine ⟨?_, ?_⟩
      · unfold World.cell?
        show (match w.heap[(L 0).blk]? with | some (.cells c _ _) => if false = true then none else c[(L 0).off + j]? | _ => none) = _
        rw [hb]
        show cs[(L 0).off + j]? = _
        have hg : (os.map (Value.int .i64))[j]? = some (Value.int .i64 os[j]) := by rw [List.getElem?_map, List.getElem?_eq_getElem hj]; rfl
        rw [← hv, List.getElem?_take, if_pos hj, List.getElem?_drop, Array.getElem?_toList] at hg
        rw [hg, getElem!_pos os.toArray j (by simpa using hj)]
        simp
      · unfold World.frozen?
        show (match w.heap[(L 0).blk]? with | some (.cells _ _ (lo, hi)) => lo ≤ (L 0).off + j && (L 0).off + j < hi | _ => false) = false
        rw [hb]
        have := hz ((L 0).off + j) (by omega)
        show (decide (z.1 ≤ (L 0).off + j) && decide ((L 0).off + j < z.2)) = false
        rw [← Bool.decide_and]
        exact decide_eq_false this
    have hhdr : (L 0).hdr = .slice (some ⟨(L 0).blk, (L 0).off, none⟩) (os.length) (L 0).cap := by
      unfold Loc.hdr
      rw [hnil, hlen]; rfl
    rw [hxs, hhdr]
    have hsl : (Lib.compact os).length ≤ os.length := by
      unfold Lib.compact Lib.compactUpTo
      rw [List.length_map]
      exact Nat.le_trans (List.length_filter_le _ _) (by rw [List.length_range]; exact Nat.le_refl _)
    refine (Any.slices_Compact_int Ly (L 0).blk (L 0).off (L 0).cap os w hH (by omega) hcap).mono ?_
    rintro e' w' ⟨rfl, n, rfl⟩
    generalize hD : Lib.compact os ++ List.replicate (os.length - (Lib.compact os).length) 0 = D
    have hDl : D.length = os.length := by rw [← hD, List.length_append, List.length_replicate]; omega
    have hF : ∀ b, b < w.heap.size → (putRow (Value.int .i64) (Sort.ahead w n) (L 0).blk (L 0).off D.toArray).heap[b]? = if (L 0).blk = b then (w.heap[b]?).map (onCells (putCells (Value.int .i64) (L 0).off D.toArray)) else w.heap[b]? := fun b hb => by
      show (w.heap.modify (L 0).blk (onCells (putCells (Value.int .i64) (L 0).off D.toArray)))[b]? = _
      rw [Array.getElem?_modify]
    have hnone : H (L 0).blk = none := hp.apart 0 hnil
    have hne : ∀ b o, H b = some o → (L 0).blk ≠ b := fun b o h e => by rw [← e, hnone] at h; cases h
    have hcells : (putRow (Value.int .i64) (Sort.ahead w n) (L 0).blk (L 0).off D.toArray).heap[(L 0).blk]? = some (.cells (putCells (Value.int .i64) (L 0).off D.toArray cs) e z) := by
      rw [hF _ hblk, if_pos rfl, hb]; rfl
    have hps : (putCells (Value.int .i64) (L 0).off D.toArray cs).size = cs.size := by unfold putCells; rw [Array.size_mapIdx]
    let L' : Ls := fun i => if i = 0 then { L 0 with len := (Lib.compact os).length } else L i
    have hL0 : L' 0 = { L 0 with len := (Lib.compact os).length } := rfl
    have hdr' : (L' 0).hdr = .slice (some ⟨(L 0).blk, (L 0).off, none⟩) (Lib.compact os).length (L 0).cap := by
      rw [hL0]
      unfold Loc.hdr
      show (if (L 0).nil then _ else _) = _
      rw [hnil]; rfl
    have hown : ∀ b, Own (rowO (Lib.compact os)) L' b → b = (L 0).blk := by
      rintro b ⟨i, h1, h2⟩
      cases i with
      | zero => exact h2.symm
      | succ i => exact absurd h1 id
    refine ⟨_, H, L', rfl, ⟨_, ⟨rfl, hlive⟩, hdr'.symm⟩, ?_, fun i h => ?_, ⟨?_, fun i hi hv => ?_, fun i h => by cases h⟩⟩
    · refine ⟨fun i => ?_, fun b o h => ?_, fun i h => ?_, fun i j h h' he => ?_, hp.glob⟩
      · cases i with
        | zero =>
          refine ⟨hpur, rfl, .inr ⟨hnil, ?_, _, e, z, hcells, ?_, ?_, ?_⟩⟩
          · show (Lib.compact os).length ≤ (L 0).cap
            omega
          · intro o ho
            exact hz o (by omega)
          · show (L 0).off + (L 0).cap * 1 ≤ _
            omega
          · refine lvI.2 ?_
            show (((putCells (Value.int .i64) (L 0).off D.toArray cs).toList.drop (L 0).off).take ((Lib.compact os).length * 1)) = _
            have h1 := putCells_toList (L 0).off D cs (by omega)
            have h2 := congrArg (List.take (Lib.compact os).length) h1
            rw [List.take_take, Nat.min_eq_left (by omega), ← List.map_take, ← hD, List.take_left] at h2
            rw [Nat.mul_one, ← hD]
            exact h2
        | succ i => exact trivial
      · refine (hF b (by
          have := hp.agree b o h
          rcases Nat.lt_or_ge b w.heap.size with h1 | h1
          · exact h1
          · rw [Array.getElem?_eq_none h1] at this; cases this)).trans ?_
        rw [if_neg (hne b o h)]
        exact hp.agree b o h
      · cases i with
        | zero => exact hnone
        | succ i => exact absurd h id
      · cases i with
        | zero =>
          cases j with
          | zero => rfl
          | succ j => exact absurd h' id
        | succ i => exact absurd h id
    · cases i with
      | zero => exact Nat.zero_lt_one
      | succ i => exact hl (i + 1) h
    · refine ⟨fun _ _ h => h, fun b hb' ho => ?_, fun _ _ h => .inl h, fun b h => .inl ⟨0, hnil, (hown b h).symm⟩, ?_, rfl, rfl, rfl⟩
      · refine (hF b hb').trans ?_
        rw [if_neg (fun e => ho ⟨0, hnil, e⟩)]
      · show w.heap.size ≤ (w.heap.modify (L 0).blk _).size
        rw [Array.size_modify]
        exact Nat.le_refl _
    · have : i = 0 := by have hi : i < 1 := hi; omega
      subst this
      cases hv
end Go.Proofs.YtofendipdfepoaaGreat.Gp

/-
  DERIVED: THE SHELF's CONTRACTS AT THIS DUMP, IN PLAIN WORDS (tools/lay-plain.mjs out of 'YtofendipdfepoaaGreatShelf.lean', which tools/lay-shelf.mjs wrote): THE SAME DECLARATIONS UNDER THE SAME NAMES: 'import', 'namespace', 'open', 'def', 'theorem' AND NOTHING ELSE: no command of the shelf's: FOR A HAND-IN. Each laying: the table of numbers ('.._ren') and one theorem, a field a fact of the dump's own or the kernel's comparison; each contract: ONE APPLICATION.
-/
namespace Go.Proofs
open Go.Shelf
def Tryz.lays189_ren : Go.Shelf.Ren := ⟨fun | 189 => 74 | 125 => 78 | 257 => 117 | 128 => 126 | 129 => 127 | 294 => 150 | 295 => 151 | 296 => 152 | 297 => 153 | 298 => 154 | 299 => 155 | 216 => 156 | 300 => 157 | 301 => 158 | 328 => 176 | 329 => 160 | 330 => 161 | 331 => 177 | 332 => 178 | 215 => 179 | 343 => 181 | n => n, fun | 28 => 55 | 3 => 3 | 46 => 162 | 0 => 0 | 51 => 215 | 53 => 217 | 4 => 4 | 183 => 208 | 182 => 207 | 131 => 212 | 5 => 5 | 9 => 9 | 218 => 238 | 222 => 242 | 228 => 253 | 229 => 225 | n => n, fun | n => n⟩
theorem Tryz.lays189 : Go.Proofs.Lays.n189 Tryz.prog Tryz.lays189_ren := {
  mixed := by kernel_rfl
  f125 := Tryz.func78.trans (congrArg some (by kernel_rfl))
  f128 := Tryz.func126.trans (congrArg some (by kernel_rfl))
  f129 := Tryz.func127.trans (congrArg some (by kernel_rfl))
  f189 := Tryz.func74.trans (congrArg some (by kernel_rfl))
  f215 := Tryz.func179.trans (congrArg some (by kernel_rfl))
  f216 := Tryz.func156.trans (congrArg some (by kernel_rfl))
  f257 := Tryz.func117.trans (congrArg some (by kernel_rfl))
  f294 := Tryz.func150.trans (congrArg some (by kernel_rfl))
  f295 := Tryz.func151.trans (congrArg some (by kernel_rfl))
  f296 := Tryz.func152.trans (congrArg some (by kernel_rfl))
  f297 := Tryz.func153.trans (congrArg some (by kernel_rfl))
  f298 := Tryz.func154.trans (congrArg some (by kernel_rfl))
  f299 := Tryz.func155.trans (congrArg some (by kernel_rfl))
  f300 := Tryz.func157.trans (congrArg some (by kernel_rfl))
  f301 := Tryz.func158.trans (congrArg some (by kernel_rfl))
  f328 := Tryz.func176.trans (congrArg some (by kernel_rfl))
  f329 := Tryz.func160.trans (congrArg some (by kernel_rfl))
  f330 := Tryz.func161.trans (congrArg some (by kernel_rfl))
  f331 := Tryz.func177.trans (congrArg some (by kernel_rfl))
  f332 := Tryz.func178.trans (congrArg some (by kernel_rfl))
  f343 := Tryz.func181.trans (congrArg some (by kernel_rfl))
  t0 := Tryz.underlying0
  a0 := Tryz.isAgg0
  z0 := Tryz.sizeOf0
  v0 := Tryz.zeroValue0
  t3 := Tryz.underlying3
  a3 := Tryz.isAgg3
  z3 := Tryz.sizeOf3
  v3 := Tryz.zeroValue3
  t4 := Tryz.underlying4
  a4 := Tryz.isAgg4
  z4 := Tryz.sizeOf4
  v4 := Tryz.zeroValue4
  t5 := Tryz.underlying5
  a5 := Tryz.isAgg5
  z5 := Tryz.sizeOf5
  v5 := Tryz.zeroValue5
  t9 := Tryz.underlying9
  a9 := Tryz.isAgg9
  z9 := Tryz.sizeOf9
  v9 := Tryz.zeroValue9
  t28 := Tryz.underlying55
  a28 := Tryz.isAgg55
  z28 := Tryz.sizeOf55
  v28 := Tryz.zeroValue55
  t46 := Tryz.underlying162
  a46 := Tryz.isAgg162
  z46 := Tryz.sizeOf162
  v46 := Tryz.zeroValue162
  t51 := Tryz.underlying215
  a51 := Tryz.isAgg215
  z51 := Tryz.sizeOf215
  v51 := Tryz.zeroValue215
  t53 := Tryz.underlying217
  a53 := Tryz.isAgg217
  z53 := Tryz.sizeOf217
  v53 := Tryz.zeroValue217
  t131 := Tryz.underlying212
  a131 := Tryz.isAgg212
  z131 := Tryz.sizeOf212
  v131 := Tryz.zeroValue212
  t182 := Tryz.underlying207
  a182 := Tryz.isAgg207
  z182 := Tryz.sizeOf207
  v182 := Tryz.zeroValue207
  t183 := Tryz.underlying208
  a183 := Tryz.isAgg208
  z183 := Tryz.sizeOf208
  v183 := Tryz.zeroValue208
  t218 := Tryz.underlying238
  a218 := Tryz.isAgg238
  z218 := Tryz.sizeOf238
  v218 := Tryz.zeroValue238
  t222 := Tryz.underlying242
  a222 := Tryz.isAgg242
  z222 := Tryz.sizeOf242
  v222 := Tryz.zeroValue242
  t228 := Tryz.underlying253
  a228 := Tryz.isAgg253
  z228 := Tryz.sizeOf253
  v228 := Tryz.zeroValue253
  t229 := Tryz.underlying225
  a229 := Tryz.isAgg225
  z229 := Tryz.sizeOf225
  v229 := Tryz.zeroValue225 }
def Tryz.lays2_20_ren : Go.Shelf.Ren := ⟨fun | 20 => 75 | n => n, fun | 22 => 55 | 3 => 3 | 4 => 4 | 0 => 0 | n => n, fun | n => n⟩
theorem Tryz.lays2_20 : Go.Proofs.Lays2.n20 Tryz.prog Tryz.lays2_20_ren := {
  mixed := by kernel_rfl
  f20 := Tryz.func75.trans (congrArg some (by kernel_rfl))
  t0 := Tryz.underlying0
  a0 := Tryz.isAgg0
  z0 := Tryz.sizeOf0
  v0 := Tryz.zeroValue0
  t3 := Tryz.underlying3
  a3 := Tryz.isAgg3
  z3 := Tryz.sizeOf3
  v3 := Tryz.zeroValue3
  t4 := Tryz.underlying4
  a4 := Tryz.isAgg4
  z4 := Tryz.sizeOf4
  v4 := Tryz.zeroValue4
  t22 := Tryz.underlying55
  a22 := Tryz.isAgg55
  z22 := Tryz.sizeOf55
  v22 := Tryz.zeroValue55
  i3 := by kernel_rfl }
end Go.Proofs

/- Given contracts. -/
set_option linter.unusedVariables false
set_option maxRecDepth 100000
noncomputable section
namespace Go.Proofs.YtofendipdfepoaaGreat.Tr
open Go Go.Proofs.YtofendipdfepoaaGreat.Gp
def Sort74 (k : Nat) (_ : Unit) (o0 : List Int) : Option (Unit × List Int) := if o0.length < 4611686018427387904 then some ((), sortI o0) else none
def Sort74.S : Sig := sortS 74
theorem Sort74.ok (k : Nat) : SoundAt Tryz.prog k Sort74.S := sort_sound Tryz.lays189 rfl ⟨Tryz.f74, codeOf Tryz.f74, rfl, by kernel_rfl, rfl⟩ k

def Compact75 (k : Nat) (_ : Unit) (o0 : List Int) : Option (Unit × List Int) := if o0.length < 4611686018427387904 then some ((), compI o0) else none
def Compact75.S : Sig := compactS 75
theorem Compact75.ok (k : Nat) : SoundAt Tryz.prog k Compact75.S := compact_sound Tryz.lays2_20 rfl ⟨Tryz.f75, codeOf Tryz.f75, rfl, by kernel_rfl, rfl⟩ k
end Go.Proofs.YtofendipdfepoaaGreat.Tr

/- Go functions as plain Lean functions, and their contracts. -/
set_option linter.unusedVariables false
set_option maxRecDepth 100000
noncomputable section
namespace Go.Proofs.YtofendipdfepoaaGreat.Tr
open Go Go.Proofs.YtofendipdfepoaaGreat.Gp
def leads37.l0 (k : Nat) (t30 : tY108) (t35 : tY60) : tY48 → Option (tY48 ⊕ tY51)
  | (_, _, t38, o1, o2, o3, o4) =>
    cond (decide (t38 < (List.length t35.1 : Int)))
      ((rd t35.1 t38).bind fun t40 =>
      (whole34' k () 7 t40).bind fun t43 =>
      Option.bind
        (cond (t43.1 == (-1))
          (some ((), (), (), o1, o2, (o3.1, o3.2.1, true, o3.2.2.2), o4, t43.2))
          ((if room (List.length o4 + List.length ([t43.1] : List Int)) 8 then some () else none).bind fun _ =>
          some ((), (), (), o1, o2, (o3.1, o3.2.1, o3.2.2), (o4 ++ ([t43.1] : List Int)), t43.2)) : Option tY29) fun ((_, _, _, o1_1, o2_1, o3_1, o4_1, o5) : tY29) =>
      Option.bind (cond (decide ((List.length o5.2.2 : Int) ≥ 2))
        ((rd o5.2.2 (w64 ((List.length o5.2.2 : Int) - 2))).bind fun t63 =>
        some (t63 == (shrI .i64 t30.1 8)))
        (some false)) fun t68 =>
      Option.bind (cond t68
        ((rd o5.2.2 (w64 ((List.length o5.2.2 : Int) - 1))).bind fun t74 =>
        some (t74 == (ibits .and .i64 t30.1 255)))
        (some false)) fun t79 =>
      Option.bind
        (cond t79
          (some ((), (), o1_1, o2_1, (o3_1.1, o3_1.2.1, o3_1.2.2.1, true), o4_1))
          (some ((), (), o1_1, o2_1, o3_1, o4_1)) : Option tY51) fun ((_, _, o1_2, o2_2, o3_2, o4_2) : tY51) =>
      some (Sum.inl ((), (), (w64 (t38 + 1)), o1_2, o2_2, o3_2, o4_2)))
      (some (Sum.inr ((), (), o1, o2, o3, o4)))
def leads37 (k : Nat) (code : tY84) (x : tY61) (addr : Int) (r : tY106) : Option (((Int × (tY109 × (Bool × Bool))) × tY60) × Unit) :=
  (Low25 k (w64 (addr + 1)) 16).bind fun t19 =>
  (set72 k () 7 t19.1 r).bind fun t20 =>
  (Size65 k x.2.2.1).bind fun t23 =>
  let t24 : Int := (w64 (1 + t23.1))
  (Low25 k (w64 (addr + t24)) 16).bind fun t30 =>
  (ends79 k code x.2.2.2 t20.2).bind fun t35 =>
  Option.bind
    (loopN (leads37.l0 k t30 t35) k ((), (), 0, (0, (), false, false), [], (t24, (), false, false), []) : Option tY51) fun ((_, _, _, _, o3_3, o4_3) : tY51) =>
  (Sort74 k () o4_3).bind fun t84 =>
  (Compact75 k () t84.2).bind fun t87 =>
  some (((o3_3.1, t87.2, o3_3.2.2), t35.1, ()), ())
def leads37.A : Ann := { conds := [(2949130, ⟨[(8, .ptr 1 []), (10, .ptr 3 []), (14, .ptr 5 [])], [(1, .var kY28), (2, .row kY46), (3, .var kY29), (4, .row kY46), (5, .var kY8)], 6, [], 8936830510563328⟩), (5177358, ⟨[(8, .ptr 1 []), (10, .ptr 3 [])], [(1, .var kY28), (2, .row kY46), (3, .var kY29), (4, .row kY46)], 5, [], 1208925819614629174706176⟩)], blocks := [(0, ⟨[(8, .ptr 1 []), (10, .ptr 3 [])], [(1, .var kY28), (2, .row kY46), (3, .var kY29), (4, .row kY46)], 5, [], 4835703278458241821032448⟩)], loops := [(6, ⟨[(8, .ptr 1 []), (10, .ptr 3 []), (38, .int .i64)], [(1, .var kY28), (2, .row kY46), (3, .var kY29), (4, .row kY46)], 5, [], 4835703278458241821032448⟩)], keeps := [4, 5], orders := [], turns := [(0, [⟨1, [(2, .int .i64)], .st (.pair kY46 (.pair (.ms 2) (.pair .bool .bool)))⟩]), (2, [⟨3, [(4, .int .i64)], .st (.pair kY46 (.pair (.ms 4) (.pair .bool .bool)))⟩])] }
def leads37.S : Sig := { f := 37, params := [.st kY19, .st kY7, .int .i64, .arr 9 kY39], objs := [], res := .tup (.pair kY25 (.pair (.sl kY8) .unit)), outs := [], fix := [], run := fun k ds os => leads37 k ds.1 ds.2.1 ds.2.2.1 ds.2.2.2 }
def leads37.G : List Sig := [Compact75.S, Low25.S, Size65.S, Sort74.S, ends79.S, set72.S, whole34'.S]
theorem leads37.eq (k : Nat) : ∀ ds os, leads37.S.run k ds os = runF ⟨types, leads37.G, leads37.A, k, 0, []⟩ Tryz.f37 (codeOf Tryz.f37) leads37.S.params leads37.S.objs leads37.S.res leads37.S.outs ds os := by
  intro ds os; kernel_rfl
theorem leads37.dr : DrOk Tryz.prog leads37.A (codeOf Tryz.f37) := ⟨by kernel_rfl, by kernel_rfl⟩
theorem leads37.ok (k : Nat) : SoundAt Tryz.prog k leads37.S :=
  runF_sound (X := ⟨types, leads37.G, leads37.A, k, 0, []⟩) types_ok (mem_all (⟨Compact75.ok k, ⟨Low25.ok k, ⟨Size65.ok k, ⟨Sort74.ok k, ⟨ends79.ok k, ⟨set72.ok k, ⟨whole34'.ok k, trivial⟩⟩⟩⟩⟩⟩⟩)) (fn := Tryz.f37) (c := codeOf Tryz.f37) rfl (by kernel_rfl) rfl rfl leads37.dr (leads37.eq k)

def Next19 (k : Nat) (c : tY19) (code : tY84) (addr : Int) : Option (((Int × (tY109 × (Bool × Bool))) × tY108) × Unit) :=
  (Check43 k c code).bind fun t15 =>
  cond (t15.1 != 0)
    (some (((0, [], false, false), t15.1, ()), ()))
    ((begun33 k c code addr).bind fun t24 =>
    cond (t24.1.2.1 != 0)
      (some (((0, [], false, false), t24.1.2.1, ()), ()))
      (Option.bind
        (agree
          ((none44 k).bind fun t35 =>
          agree
            ((leads37 k code t24.1.1 addr t35.1).bind fun t36 =>
            some ((), t36.1.1, 0, (), false, false))
            ((leads37 k code t24.1.1 addr t35.1).bind fun t36_1 =>
            some ((), t36_1.1.1, 0, (), false, false)))
          ((none44 k).bind fun t35_1 =>
          (leads37 k code t24.1.1 addr t35_1.1).bind fun t36_2 =>
          some ((), t36_2.1.1, 0, (), false, false)) : Option tY71) fun ((_, w, _) : tY71) =>
      some ((w, 0, ()), ())))
def Next19.A : Ann := { conds := [], blocks := [], loops := [], keeps := [3, 4, 9, 11], orders := [], alts := [(7, ((.op 0 .strong (.op 1 .strong (.op 2 .strong (.alt (.op 3 (.eff true) (.alt (.op 4 (.eff true) (.op 5 .strong (.op 6 .strong (.op 7 .weak (.op 8 (.eff true) (.op 9 (.eff false) (.op 10 .strong (.leaf [])))))))) (.op 8 (.eff true) (.op 4 (.eff true) (.op 5 .strong (.op 6 .strong (.op 7 .weak (.op 9 (.eff false) (.op 10 .strong (.leaf [])))))))))) (.op 8 (.eff true) (.op 3 (.eff true) (.op 4 (.eff true) (.op 5 .strong (.op 6 .strong (.op 7 .weak (.op 9 (.eff false) (.op 10 .strong (.leaf []))))))))))))), ⟨[(6, .ptr 0 []), (11, .fp kY25)], [(0, .var (.st kY32))], 1, [], 547608336384⟩))] }
def Next19.S : Sig := { f := 19, params := [.st kY1, .st kY19, .int .i64], objs := [], res := .tup (.pair kY25 kY40), outs := [], fix := [], run := fun k ds os => Next19 k ds.1 ds.2.1 ds.2.2 }
def Next19.G : List Sig := [Check43.S, begun33.S, leads37.S, none44.S]
theorem Next19.eq (k : Nat) : ∀ ds os, Next19.S.run k ds os = runF ⟨types, Next19.G, Next19.A, k, 0, []⟩ Tryz.f19 (codeOf Tryz.f19) Next19.S.params Next19.S.objs Next19.S.res Next19.S.outs ds os := by
  intro ds os; kernel_rfl
theorem Next19.dr : DrOk Tryz.prog Next19.A (codeOf Tryz.f19) := ⟨by kernel_rfl, by kernel_rfl⟩
theorem Next19.ok (k : Nat) : SoundAt Tryz.prog k Next19.S :=
  runF_sound (X := ⟨types, Next19.G, Next19.A, k, 0, []⟩) types_ok (mem_all (⟨Check43.ok k, ⟨begun33.ok k, ⟨leads37.ok k, ⟨none44.ok k, trivial⟩⟩⟩⟩)) (fn := Tryz.f19) (c := codeOf Tryz.f19) rfl (by kernel_rfl) rfl rfl Next19.dr (Next19.eq k)

def Clone48' (k : Nat) (s : tY95) : Option tY88 :=
  orNil (List.length s)
    (cond true
      (some ([], ()))
      ((if room (0 + List.length s) 32 then some () else none).bind fun _ =>
      some (s, ())))
    (cond false
      (some ([], ()))
      ((if room (0 + List.length s) 32 then some () else none).bind fun _ =>
      some (s, ())))
def Clone48'.A : Ann := { conds := [], blocks := [], loops := [], keeps := [], orders := [] }
def Clone48'.S : Sig := { f := 48, params := [.sl kY21], objs := [], res := .sl kY21, outs := [], fix := [], run := fun k ds os => Clone48' k ds }
def Clone48'.G : List Sig := []
theorem Clone48'.eq (k : Nat) : ∀ ds os, Clone48'.S.run k ds os = runF ⟨types, Clone48'.G, Clone48'.A, k, 0, []⟩ Tryz.f48 (codeOf Tryz.f48) Clone48'.S.params Clone48'.S.objs Clone48'.S.res Clone48'.S.outs ds os := by
  intro ds os; kernel_rfl
theorem Clone48'.dr : DrOk Tryz.prog Clone48'.A (codeOf Tryz.f48) := ⟨by kernel_rfl, by kernel_rfl⟩
theorem Clone48'.ok (k : Nat) : SoundAt Tryz.prog k Clone48'.S :=
  runF_sound (X := ⟨types, Clone48'.G, Clone48'.A, k, 0, []⟩) types_ok (fun s hs => absurd hs List.not_mem_nil) (fn := Tryz.f48) (c := codeOf Tryz.f48) rfl (by kernel_rfl) rfl rfl Clone48'.dr (Clone48'.eq k)
end Go.Proofs.YtofendipdfepoaaGreat.Tr

/- Go functions as plain Lean functions, and their contracts. -/
set_option linter.unusedVariables false
set_option maxRecDepth 100000
noncomputable section
namespace Go.Proofs.YtofendipdfepoaaGreat.Tr
open Go Go.Proofs.YtofendipdfepoaaGreat.Gp
def moves21.l0 (k : Nat) (x : tY61) : tY64 → Option (tY64 ⊕ tY68)
  | (_, t11, o0) =>
    cond (decide (t11 < (List.length x.2.2.2 : Int)))
      ((rd x.2.2.2 t11).bind fun t13 =>
      (Clone48' k t13.2.2.2).bind fun t24 =>
      (if room (List.length o0 + List.length [(false, t13.1, t13.2.1, t13.2.2.1, t24.1)]) 56 then some () else none).bind fun _ =>
      some (Sum.inl ((), (w64 (t11 + 1)), (o0 ++ [(false, t13.1, t13.2.1, t13.2.2.1, t24.1)]))))
      (some (Sum.inr ((), o0)))
def moves21 (k : Nat) (x : tY61) : Option (tY75 × Unit) :=
  Option.bind
    (loopN (moves21.l0 k x) k ((), 0, ([(true, 1, 0, 0, [])] : List tY78)) : Option tY68) fun ((_, o0_1) : tY68) =>
  some (o0_1, ())
def moves21.A : Ann := { conds := [], blocks := [(0, ⟨[(3, .ms 0)], [(0, .row kY11)], 1, [], 536868904⟩)], loops := [(3, ⟨[(3, .ms 0), (11, .int .i64)], [(0, .row kY11)], 1, [], 536868904⟩)], keeps := [1, 5], orders := [(5, [(0, .strong), (1, .strong), (2, .strong), (3, .strong), (4, .strong), (5, .strong), (6, .strong), (7, .strong), (8, .strong), (9, .eff true), (10, .strong), (11, .eff true), (12, .eff false), (13, .strong)])] }
def moves21.S : Sig := { f := 21, params := [.st kY7], objs := [], res := .sl kY11, outs := [], fix := [], run := fun k ds os => moves21 k ds }
def moves21.G : List Sig := [Clone48'.S]
theorem moves21.eq (k : Nat) : ∀ ds os, moves21.S.run k ds os = runF ⟨types, moves21.G, moves21.A, k, 0, []⟩ Tryz.f21 (codeOf Tryz.f21) moves21.S.params moves21.S.objs moves21.S.res moves21.S.outs ds os := by
  intro ds os; kernel_rfl
theorem moves21.dr : DrOk Tryz.prog moves21.A (codeOf Tryz.f21) := ⟨by kernel_rfl, by kernel_rfl⟩
theorem moves21.ok (k : Nat) : SoundAt Tryz.prog k moves21.S :=
  runF_sound (X := ⟨types, moves21.G, moves21.A, k, 0, []⟩) types_ok (mem_all (⟨Clone48'.ok k, trivial⟩)) (fn := Tryz.f21) (c := codeOf Tryz.f21) rfl (by kernel_rfl) rfl rfl moves21.dr (moves21.eq k)

def Equal17.l0 (k : Nat) (s1 : tY109) (s2 : tY109) : Int → Option (Int ⊕ tY102)
  | t13 =>
    cond (decide (t13 < (List.length s1 : Int)))
      ((rd s1 t13).bind fun t18 =>
      (rd s2 t13).bind fun t22 =>
      cond (t18 != t22)
        (some (Sum.inr (Sum.inr (false, ()))))
        (some (Sum.inl (w64 (t13 + 1)))))
      (some (Sum.inr (Sum.inl ())))
def Equal17 (k : Nat) (s1 : tY109) (s2 : tY109) : Option tY107 :=
  cond ((List.length s1 : Int) != (List.length s2 : Int))
    (some (false, ()))
    (Option.bind
      (loopN (Equal17.l0 k s1 s2) k 0 : Option tY102) (joined fun (_ : Unit) =>
      some (true, ())))
def Equal17.A : Ann := { conds := [], blocks := [(0, ⟨[], [], 0, [], 67100720⟩)], loops := [(4, ⟨[(13, .int .i64)], [], 0, [], 67100720⟩)], keeps := [], orders := [(6, [(0, .strong), (1, .strong), (2, .strong), (3, .strong), (4, .strong), (5, .strong), (6, .strong), (7, .strong), (8, .strong)])] }
def Equal17.S : Sig := { f := 17, params := [.sl kY46, .sl kY46], objs := [], res := .bool, outs := [], fix := [], run := fun k ds os => Equal17 k ds.1 ds.2 }
def Equal17.G : List Sig := []
theorem Equal17.eq (k : Nat) : ∀ ds os, Equal17.S.run k ds os = runF ⟨types, Equal17.G, Equal17.A, k, 0, []⟩ Tryz.f17 (codeOf Tryz.f17) Equal17.S.params Equal17.S.objs Equal17.S.res Equal17.S.outs ds os := by
  intro ds os; kernel_rfl
theorem Equal17.dr : DrOk Tryz.prog Equal17.A (codeOf Tryz.f17) := ⟨by kernel_rfl, by kernel_rfl⟩
theorem Equal17.ok (k : Nat) : SoundAt Tryz.prog k Equal17.S :=
  runF_sound (X := ⟨types, Equal17.G, Equal17.A, k, 0, []⟩) types_ok (fun s hs => absurd hs List.not_mem_nil) (fn := Tryz.f17) (c := codeOf Tryz.f17) rfl (by kernel_rfl) rfl rfl Equal17.dr (Equal17.eq k)

def away22 (k : Nat) (c : tY19) (at_ : Int) (b : tY109) : Option tY107 :=
  (Next19 k c (at_, b, []) at_).bind fun t15 =>
  Option.bind (cond t15.1.1.2.2.1
    (some true)
    ((Low25 k (w64 (at_ + t15.1.1.1)) 16).bind fun t27 =>
    (Equal17 k t15.1.1.2.1 ([t27.1] : List Int)).bind fun t29 =>
    some (!t29.1))) fun t31 =>
  some (t31, ())
def away22.A : Ann := { conds := [], blocks := [], loops := [], keeps := [3, 7], orders := [(2, [(0, .strong), (1, .strong), (2, .strong), (3, .strong), (4, .strong), (5, .strong), (6, .strong), (7, .strong), (8, .strong), (9, .eff true), (10, .eff true), (11, .eff true), (12, .strong), (13, .strong), (14, .strong)])] }
def away22.S : Sig := { f := 22, params := [.st kY1, .int .i64, .sl kY47], objs := [], res := .bool, outs := [], fix := [], run := fun k ds os => away22 k ds.1 ds.2.1 ds.2.2 }
def away22.G : List Sig := [Equal17.S, Low25.S, Next19.S]
theorem away22.eq (k : Nat) : ∀ ds os, away22.S.run k ds os = runF ⟨types, away22.G, away22.A, k, 0, []⟩ Tryz.f22 (codeOf Tryz.f22) away22.S.params away22.S.objs away22.S.res away22.S.outs ds os := by
  intro ds os; kernel_rfl
theorem away22.dr : DrOk Tryz.prog away22.A (codeOf Tryz.f22) := ⟨by kernel_rfl, by kernel_rfl⟩
theorem away22.ok (k : Nat) : SoundAt Tryz.prog k away22.S :=
  runF_sound (X := ⟨types, away22.G, away22.A, k, 0, []⟩) types_ok (mem_all (⟨Equal17.ok k, ⟨Low25.ok k, ⟨Next19.ok k, trivial⟩⟩⟩)) (fn := Tryz.f22) (c := codeOf Tryz.f22) rfl (by kernel_rfl) rfl rfl away22.dr (away22.eq k)
end Go.Proofs.YtofendipdfepoaaGreat.Tr

/- Go functions as plain Lean functions, and their contracts. -/
set_option linter.unusedVariables false
set_option maxRecDepth 100000
noncomputable section
namespace Go.Proofs.YtofendipdfepoaaGreat.Tr
open Go Go.Proofs.YtofendipdfepoaaGreat.Gp
def Make5.l0 (k : Nat) (addr : Int) : tY4 → Option (tY4 ⊕ tY31)
  | (c_1, code_1, _, _, o0, o2, o3, o4) =>
    cond (cond (decide (o2.2.2.1 < 64)) (!o2.2.2.2.1) false)
      (let t42 : Int := (w64 (addr + (List.length o3 : Int)))
      (Next19 k c_1 code_1 t42).bind fun t47 =>
      cond (t47.1.2.1 != 0)
        (some (Sum.inr ((), (), o0, o2, o3, o4)))
        (let t55 : Int := (w64 (t42 - code_1.1))
        Option.bind
          ((rd code_1.2.1 t55).bind fun t61 =>
          agree
            ((Find20 k c_1 (w64 t61)).bind fun t64 =>
            some (c_1, code_1, (), (), t47.1.1, t64.1.1, o0, o2, o3, o4))
            ((Find20 k c_1 (w64 t61)).bind fun t64_1 =>
            some (c_1, code_1, (), (), t47.1.1, t64_1.1.1, o0, o2, o3, o4)) : Option tY0) fun ((c_2, code_2, _, _, w, x, o0_1, o2_1, o3_1, o4_1) : tY0) =>
        (slc code_2.2.1 t55 (w64 (t55 + w.1))).bind fun t76 =>
        (if room (List.length o3_1 + List.length t76) 1 then some () else none).bind fun _ =>
        (moves21 k x).bind fun t82 =>
        (if room (List.length o4_1 + List.length t82.1) 56 then some () else none).bind fun _ =>
        (slc code_2.2.1 t55 (w64 (t55 + w.1))).bind fun t98 =>
        (away22 k c_2 t42 t98).bind fun t99 =>
        some (Sum.inl (c_2, code_2, (), (), o0_1, (o2_1.1, o2_1.2.1, (w64 (o2_1.2.2.1 + 1)), t99.1, o2_1.2.2.2.2), (o3_1 ++ t76), (o4_1 ++ t82.1)))))
      (some (Sum.inr ((), (), o0, o2, o3, o4)))
def Make5 (k : Nat) (c : tY19) (code : tY84) (addr : Int) : Option tY43 :=
  (Next19 k c code addr).bind fun t21 =>
  cond (t21.1.2.1 != 0)
    (some (((0, [], 0, false, []), t21.1.2.1, ()), ()))
    (Option.bind
      (loopN (Make5.l0 k addr) k (c, code, (), (), (0, (), 0, false, ()), (addr, (), 0, false, ()), [], []) : Option tY31) fun ((_, _, _, o2_2, o3_2, o4_2) : tY31) =>
    some (((o2_2.1, o3_2, o2_2.2.2.1, o2_2.2.2.2.1, o4_2), 0, ()), ()))
def Make5.A : Ann := { conds := [], blocks := [(0, ⟨[(6, .ptr 0 []), (10, .ptr 2 [])], [(0, .var kY22), (2, .var kY18), (3, .row kY47), (4, .row kY11)], 5, [], 2535301200456458802992332797952⟩)], loops := [(5, ⟨[(3, .fp kY0), (4, .fp kY17), (6, .ptr 0 []), (10, .ptr 2 [])], [(0, .var kY22), (2, .var kY18), (3, .row kY47), (4, .row kY11)], 5, [(3, .int .u8), (4, .st kY13)], 2535301200456458802992332797952⟩)], keeps := [3, 4, 8, 12, 15], orders := [(11, [(0, .strong), (1, .strong), (2, .strong), (3, .strong), (4, .strong), (5, .strong), (6, .strong), (7, .strong), (8, .strong), (9, .strong), (10, .eff false), (11, .strong), (12, .eff false)]), (12, [(0, .strong), (1, .strong), (2, .strong), (3, .eff true), (4, .eff false), (5, .strong), (6, .eff false)]), (14, [(0, .strong), (1, .strong), (2, .strong), (3, .strong), (4, .strong), (5, .strong), (6, .strong), (7, .strong), (8, .strong), (9, .strong), (10, .eff true), (11, .strong), (12, .eff false)])], alts := [(10, ((.op 0 .strong (.op 1 .strong (.op 2 .strong (.op 3 .strong (.op 4 .strong (.op 5 .strong (.op 6 .strong (.alt (.op 7 (.eff true) (.op 8 .strong (.op 9 .strong (.op 10 .weak (.op 11 (.eff true) (.op 12 (.eff false) (.op 13 .strong (.leaf [])))))))) (.op 11 (.eff true) (.op 7 (.eff true) (.op 8 .strong (.op 9 .strong (.op 10 .weak (.op 12 (.eff false) (.op 13 .strong (.leaf [])))))))))))))))), ⟨[(3, .fp kY0), (4, .fp kY17), (6, .ptr 0 []), (10, .ptr 2 []), (12, .fp kY25), (15, .fp kY6)], [(0, .var kY22), (2, .var kY18), (3, .row kY47), (4, .row kY11)], 5, [], 147501894995638583296⟩))] }
def Make5.S : Sig := { f := 5, params := [.st kY1, .st kY19, .int .i64], objs := [], res := .tup (.pair kY2 kY40), outs := [], fix := [], run := fun k ds os => Make5 k ds.1 ds.2.1 ds.2.2 }
def Make5.G : List Sig := [Find20.S, Next19.S, away22.S, moves21.S]
theorem Make5.eq (k : Nat) : ∀ ds os, Make5.S.run k ds os = runF ⟨types, Make5.G, Make5.A, k, 0, []⟩ Tryz.f5 (codeOf Tryz.f5) Make5.S.params Make5.S.objs Make5.S.res Make5.S.outs ds os := by
  intro ds os; kernel_rfl
theorem Make5.dr : DrOk Tryz.prog Make5.A (codeOf Tryz.f5) := ⟨by kernel_rfl, by kernel_rfl⟩
theorem Make5.ok (k : Nat) : SoundAt Tryz.prog k Make5.S :=
  runF_sound (X := ⟨types, Make5.G, Make5.A, k, 0, []⟩) types_ok (mem_all (⟨Find20.ok k, ⟨Next19.ok k, ⟨away22.ok k, ⟨moves21.ok k, trivial⟩⟩⟩⟩)) (fn := Tryz.f5) (c := codeOf Tryz.f5) rfl (by kernel_rfl) rfl rfl Make5.dr (Make5.eq k)

def two97 (k : Nat) (do_ : Int) (to : Int) (from_ : Int) : Option tY91 :=
  some ((do_, to, from_, 0), ())
def two97.A : Ann := { conds := [], blocks := [], loops := [], keeps := [], orders := [] }
def two97.S : Sig := { f := 97, params := [.int .i64, .int .i64, .int .i64], objs := [], res := .st kY24, outs := [], fix := [], run := fun k ds os => two97 k ds.1 ds.2.1 ds.2.2 }
def two97.G : List Sig := []
theorem two97.eq (k : Nat) : ∀ ds os, two97.S.run k ds os = runF ⟨types, two97.G, two97.A, k, 0, []⟩ Tryz.f97 (codeOf Tryz.f97) two97.S.params two97.S.objs two97.S.res two97.S.outs ds os := by
  intro ds os; kernel_rfl
theorem two97.dr : DrOk Tryz.prog two97.A (codeOf Tryz.f97) := ⟨by kernel_rfl, by kernel_rfl⟩
theorem two97.ok (k : Nat) : SoundAt Tryz.prog k two97.S :=
  runF_sound (X := ⟨types, two97.G, two97.A, k, 0, []⟩) types_ok (fun s hs => absurd hs List.not_mem_nil) (fn := Tryz.f97) (c := codeOf Tryz.f97) rfl (by kernel_rfl) rfl rfl two97.dr (two97.eq k)

def one98 (k : Nat) (do_ : Int) (to : Int) : Option tY91 :=
  some ((do_, to, 0, 0), ())
def one98.A : Ann := { conds := [], blocks := [], loops := [], keeps := [], orders := [] }
def one98.S : Sig := { f := 98, params := [.int .i64, .int .i64], objs := [], res := .st kY24, outs := [], fix := [], run := fun k ds os => one98 k ds.1 ds.2 }
def one98.G : List Sig := []
theorem one98.eq (k : Nat) : ∀ ds os, one98.S.run k ds os = runF ⟨types, one98.G, one98.A, k, 0, []⟩ Tryz.f98 (codeOf Tryz.f98) one98.S.params one98.S.objs one98.S.res one98.S.outs ds os := by
  intro ds os; kernel_rfl
theorem one98.dr : DrOk Tryz.prog one98.A (codeOf Tryz.f98) := ⟨by kernel_rfl, by kernel_rfl⟩
theorem one98.ok (k : Nat) : SoundAt Tryz.prog k one98.S :=
  runF_sound (X := ⟨types, one98.G, one98.A, k, 0, []⟩) types_ok (fun s hs => absurd hs List.not_mem_nil) (fn := Tryz.f98) (c := codeOf Tryz.f98) rfl (by kernel_rfl) rfl rfl one98.dr (one98.eq k)
end Go.Proofs.YtofendipdfepoaaGreat.Tr

/- Go functions as plain Lean functions, and their contracts. -/
set_option linter.unusedVariables false
set_option maxRecDepth 100000
noncomputable section
namespace Go.Proofs.YtofendipdfepoaaGreat.Tr
open Go Go.Proofs.YtofendipdfepoaaGreat.Gp
def zero173 (k : Nat) : Option tY91 :=
  some ((2, 8, 0, 0), ())
def zero173.A : Ann := { conds := [], blocks := [], loops := [], keeps := [], orders := [] }
def zero173.S : Sig := { f := 173, params := [], objs := [], res := .st kY24, outs := [], fix := [], run := fun k ds os => zero173 k }
def zero173.G : List Sig := []
theorem zero173.eq (k : Nat) : ∀ ds os, zero173.S.run k ds os = runF ⟨types, zero173.G, zero173.A, k, 0, []⟩ Tryz.f173 (codeOf Tryz.f173) zero173.S.params zero173.S.objs zero173.S.res zero173.S.outs ds os := by
  intro ds os; kernel_rfl
theorem zero173.dr : DrOk Tryz.prog zero173.A (codeOf Tryz.f173) := ⟨by kernel_rfl, by kernel_rfl⟩
theorem zero173.ok (k : Nat) : SoundAt Tryz.prog k zero173.S :=
  runF_sound (X := ⟨types, zero173.G, zero173.A, k, 0, []⟩) types_ok (fun s hs => absurd hs List.not_mem_nil) (fn := Tryz.f173) (c := codeOf Tryz.f173) rfl (by kernel_rfl) rfl rfl zero173.dr (zero173.eq k)

def rd52 (k : Nat) (at_ : Int) (reg : Int) (_ : Unit) (o0 : tY95) : Option (tY97 × tY95) :=
  some ((1, at_, reg, ()), o0)
def rd52.A : Ann := { conds := [], blocks := [], loops := [], keeps := [], orders := [] }
def rd52.S : Sig := { f := 52, params := [.int .i64, .int .i64, .ms 0], objs := [.row kY21], res := .st (.pair kY46 (.pair kY46 (.pair kY46 (.ms 0)))), outs := [.row kY21], fix := [], run := fun k ds os => rd52 k ds.1 ds.2.1 ds.2.2 os }
def rd52.G : List Sig := []
theorem rd52.eq (k : Nat) : ∀ ds os, rd52.S.run k ds os = runF ⟨types, rd52.G, rd52.A, k, 0, []⟩ Tryz.f52 (codeOf Tryz.f52) rd52.S.params rd52.S.objs rd52.S.res rd52.S.outs ds os := by
  intro ds os; kernel_rfl
theorem rd52.dr : DrOk Tryz.prog rd52.A (codeOf Tryz.f52) := ⟨by kernel_rfl, by kernel_rfl⟩
theorem rd52.ok (k : Nat) : SoundAt Tryz.prog k rd52.S :=
  runF_sound (X := ⟨types, rd52.G, rd52.A, k, 0, []⟩) types_ok (fun s hs => absurd hs List.not_mem_nil) (fn := Tryz.f52) (c := codeOf Tryz.f52) rfl (by kernel_rfl) rfl rfl rd52.dr (rd52.eq k)

def no96 (k : Nat) (steps : tY95) : Option tY79 :=
  some ((0, 0, 0, steps), ())
def no96.A : Ann := { conds := [], blocks := [], loops := [], keeps := [], orders := [] }
def no96.S : Sig := { f := 96, params := [.sl kY21], objs := [], res := .st kY16, outs := [], fix := [], run := fun k ds os => no96 k ds }
def no96.G : List Sig := []
theorem no96.eq (k : Nat) : ∀ ds os, no96.S.run k ds os = runF ⟨types, no96.G, no96.A, k, 0, []⟩ Tryz.f96 (codeOf Tryz.f96) no96.S.params no96.S.objs no96.S.res no96.S.outs ds os := by
  intro ds os; kernel_rfl
theorem no96.dr : DrOk Tryz.prog no96.A (codeOf Tryz.f96) := ⟨by kernel_rfl, by kernel_rfl⟩
theorem no96.ok (k : Nat) : SoundAt Tryz.prog k no96.S :=
  runF_sound (X := ⟨types, no96.G, no96.A, k, 0, []⟩) types_ok (fun s hs => absurd hs List.not_mem_nil) (fn := Tryz.f96) (c := codeOf Tryz.f96) rfl (by kernel_rfl) rfl rfl no96.dr (no96.eq k)

def rd52' (k : Nat) (at_ : Int) (reg : Int) (steps : tY95) : Option tY79 :=
  some ((1, at_, reg, steps), ())
def rd52'.A : Ann := { conds := [], blocks := [], loops := [], keeps := [], orders := [] }
def rd52'.S : Sig := { f := 52, params := [.int .i64, .int .i64, .sl kY21], objs := [], res := .st kY16, outs := [], fix := [], run := fun k ds os => rd52' k ds.1 ds.2.1 ds.2.2 }
def rd52'.G : List Sig := []
theorem rd52'.eq (k : Nat) : ∀ ds os, rd52'.S.run k ds os = runF ⟨types, rd52'.G, rd52'.A, k, 0, []⟩ Tryz.f52 (codeOf Tryz.f52) rd52'.S.params rd52'.S.objs rd52'.S.res rd52'.S.outs ds os := by
  intro ds os; kernel_rfl
theorem rd52'.dr : DrOk Tryz.prog rd52'.A (codeOf Tryz.f52) := ⟨by kernel_rfl, by kernel_rfl⟩
theorem rd52'.ok (k : Nat) : SoundAt Tryz.prog k rd52'.S :=
  runF_sound (X := ⟨types, rd52'.G, rd52'.A, k, 0, []⟩) types_ok (fun s hs => absurd hs List.not_mem_nil) (fn := Tryz.f52) (c := codeOf Tryz.f52) rfl (by kernel_rfl) rfl rfl rd52'.dr (rd52'.eq k)

def jump53 (k : Nat) (to : Int) : Option tY87 :=
  (two97 k 18 to 5).bind fun t4 =>
  (two97 k 19 to 6).bind fun t6 =>
  some ((), [t4.1, t6.1])
def jump53.A : Ann := { conds := [], blocks := [], loops := [], keeps := [], orders := [] }
def jump53.S : Sig := { f := 53, params := [.int .i64], objs := [], res := .ms 0, outs := [.row kY21], fix := [], run := fun k ds os => jump53 k ds }
def jump53.G : List Sig := [two97.S]
theorem jump53.eq (k : Nat) : ∀ ds os, jump53.S.run k ds os = runF ⟨types, jump53.G, jump53.A, k, 0, []⟩ Tryz.f53 (codeOf Tryz.f53) jump53.S.params jump53.S.objs jump53.S.res jump53.S.outs ds os := by
  intro ds os; kernel_rfl
theorem jump53.dr : DrOk Tryz.prog jump53.A (codeOf Tryz.f53) := ⟨by kernel_rfl, by kernel_rfl⟩
theorem jump53.ok (k : Nat) : SoundAt Tryz.prog k jump53.S :=
  runF_sound (X := ⟨types, jump53.G, jump53.A, k, 0, []⟩) types_ok (mem_all (⟨two97.ok k, trivial⟩)) (fn := Tryz.f53) (c := codeOf Tryz.f53) rfl (by kernel_rfl) rfl rfl jump53.dr (jump53.eq k)

def lead139 (k : Nat) (mode : Int) : Option tY73 :=
  (zero173 k).bind fun t6 =>
  (two97 k 18 8 5).bind fun t7 =>
  (rd52 k 0 5 () [t6.1, t7.1]).bind fun t9 =>
  (two97 k 18 8 5).bind fun t10 =>
  (rd52 k 0 5 () [t10.1]).bind fun t12 =>
  (two97 k 19 8 5).bind fun t13 =>
  (rd52 k 0 5 () [t13.1]).bind fun t15 =>
  cond (mode == 2)
    (some ((), [(t9.1.1, t9.1.2.1, t9.1.2.2.1, t9.2)]))
    (cond (mode == 3)
      ((two97 k 22 8 1).bind fun t25 =>
      (if room (List.length t9.2 + List.length [t25.1]) 32 then some () else none).bind fun _ =>
      (two97 k 20 5 8).bind fun t30 =>
      (zero173 k).bind fun t31 =>
      (two97 k 18 8 5).bind fun t32 =>
      (no96 k [t30.1, t31.1, t32.1]).bind fun t34 =>
      some ((), [(t9.1.1, t9.1.2.1, t9.1.2.2.1, (t9.2 ++ [t25.1])), t34.1]))
      (cond (mode == 4)
        (some ((), [(t12.1.1, t12.1.2.1, t12.1.2.2.1, t12.2), (t15.1.1, t15.1.2.1, t15.1.2.2.1, t15.2)]))
        (cond (mode == 5)
          ((two97 k 22 8 1).bind fun t45 =>
          (no96 k [t45.1]).bind fun t47 =>
          some ((), [(t12.1.1, t12.1.2.1, t12.1.2.2.1, t12.2), (t15.1.1, t15.1.2.1, t15.1.2.2.1, t15.2), t47.1]))
          (cond (mode == 6)
            ((two97 k 22 8 2).bind fun t53 =>
            (no96 k [t53.1]).bind fun t55 =>
            some ((), [(t12.1.1, t12.1.2.1, t12.1.2.2.1, t12.2), (t15.1.1, t15.1.2.1, t15.1.2.2.1, t15.2), t55.1]))
            (cond (mode == 8)
              ((rd52' k 2 5 []).bind fun t60 =>
              (jump53 k 8).bind fun t61 =>
              (two97 k 22 8 2).bind fun t62 =>
              (if room (List.length t61.2 + List.length [t62.1]) 32 then some () else none).bind fun _ =>
              (rd52 k 3 6 () (t61.2 ++ [t62.1])).bind fun t65 =>
              some ((), [(t9.1.1, t9.1.2.1, t9.1.2.2.1, t9.2), t60.1, (t65.1.1, t65.1.2.1, t65.1.2.2.1, t65.2)]))
              (some ((), [])))))))
def lead139.A : Ann := { conds := [], blocks := [], loops := [], keeps := [], orders := [(8, [(0, .strong), (1, .strong), (2, .eff true), (3, .eff true), (4, .eff false), (5, .strong), (6, .eff false)]), (9, [(0, .strong), (1, .eff true), (2, .eff true), (3, .eff true), (4, .eff true), (5, .eff true), (6, .eff true), (7, .strong)]), (13, [(0, .strong), (1, .strong), (2, .eff true), (3, .eff true), (4, .eff true), (5, .eff true), (6, .strong)]), (15, [(0, .strong), (1, .strong), (2, .eff true), (3, .eff true), (4, .eff true), (5, .eff true), (6, .strong)]), (17, [(0, .weak), (1, .eff true), (2, .eff true), (3, .eff true), (4, .eff true), (5, .eff false), (6, .eff false), (7, .eff true), (8, .strong)])], turns := [(16, [⟨1, [(0, .unit)], .undef⟩])] }
def lead139.S : Sig := { f := 139, params := [.int .i64], objs := [], res := .ms 0, outs := [.row kY15], fix := [], run := fun k ds os => lead139 k ds }
def lead139.G : List Sig := [jump53.S, no96.S, rd52.S, rd52'.S, two97.S, zero173.S]
theorem lead139.eq (k : Nat) : ∀ ds os, lead139.S.run k ds os = runF ⟨types, lead139.G, lead139.A, k, 0, []⟩ Tryz.f139 (codeOf Tryz.f139) lead139.S.params lead139.S.objs lead139.S.res lead139.S.outs ds os := by
  intro ds os; kernel_rfl
theorem lead139.dr : DrOk Tryz.prog lead139.A (codeOf Tryz.f139) := ⟨by kernel_rfl, by kernel_rfl⟩
theorem lead139.ok (k : Nat) : SoundAt Tryz.prog k lead139.S :=
  runF_sound (X := ⟨types, lead139.G, lead139.A, k, 0, []⟩) types_ok (mem_all (⟨jump53.ok k, ⟨no96.ok k, ⟨rd52.ok k, ⟨rd52'.ok k, ⟨two97.ok k, ⟨zero173.ok k, trivial⟩⟩⟩⟩⟩⟩)) (fn := Tryz.f139) (c := codeOf Tryz.f139) rfl (by kernel_rfl) rfl rfl lead139.dr (lead139.eq k)

def rd52'' (k : Nat) (at_ : Int) (reg : Int) (steps : tY95) : Option tY79 :=
  some ((1, at_, reg, steps), ())
def rd52''.A : Ann := { conds := [], blocks := [], loops := [], keeps := [], orders := [] }
def rd52''.S : Sig := { f := 52, params := [.int .i64, .int .i64, .sl kY21], objs := [], res := .st kY16, outs := [], fix := [], run := fun k ds os => rd52'' k ds.1 ds.2.1 ds.2.2 }
def rd52''.G : List Sig := []
theorem rd52''.eq (k : Nat) : ∀ ds os, rd52''.S.run k ds os = runF ⟨types, rd52''.G, rd52''.A, k, 0, []⟩ Tryz.f52 (codeOf Tryz.f52) rd52''.S.params rd52''.S.objs rd52''.S.res rd52''.S.outs ds os := by
  intro ds os; kernel_rfl
theorem rd52''.dr : DrOk Tryz.prog rd52''.A (codeOf Tryz.f52) := ⟨by kernel_rfl, by kernel_rfl⟩
theorem rd52''.ok (k : Nat) : SoundAt Tryz.prog k rd52''.S :=
  runF_sound (X := ⟨types, rd52''.G, rd52''.A, k, 0, []⟩) types_ok (fun s hs => absurd hs List.not_mem_nil) (fn := Tryz.f52) (c := codeOf Tryz.f52) rfl (by kernel_rfl) rfl rfl rd52''.dr (rd52''.eq k)

def reads138 (k : Nat) (mode : Int) (steps : tY95) : Option tY74 :=
  Option.bind
    (cond (mode == 1)
      (some 0)
      (some 2) : Option Int) fun (at_ : Int) =>
  (lead139 k mode).bind fun t9 =>
  (rd52'' k at_ 5 steps).bind fun t12 =>
  (if room (List.length t9.2 + List.length [t12.1]) 48 then some () else none).bind fun _ =>
  some ((t9.2 ++ [t12.1]), ())
def reads138.A : Ann := { conds := [(458755, ⟨[(5, .int .i64)], [], 0, [], 32⟩)], blocks := [], loops := [], keeps := [], orders := [] }
def reads138.S : Sig := { f := 138, params := [.int .i64, .sl kY21], objs := [], res := .sl kY15, outs := [], fix := [], run := fun k ds os => reads138 k ds.1 ds.2 }
def reads138.G : List Sig := [lead139.S, rd52''.S]
theorem reads138.eq (k : Nat) : ∀ ds os, reads138.S.run k ds os = runF ⟨types, reads138.G, reads138.A, k, 0, []⟩ Tryz.f138 (codeOf Tryz.f138) reads138.S.params reads138.S.objs reads138.S.res reads138.S.outs ds os := by
  intro ds os; kernel_rfl
theorem reads138.dr : DrOk Tryz.prog reads138.A (codeOf Tryz.f138) := ⟨by kernel_rfl, by kernel_rfl⟩
theorem reads138.ok (k : Nat) : SoundAt Tryz.prog k reads138.S :=
  runF_sound (X := ⟨types, reads138.G, reads138.A, k, 0, []⟩) types_ok (mem_all (⟨lead139.ok k, ⟨rd52''.ok k, trivial⟩⟩)) (fn := Tryz.f138) (c := codeOf Tryz.f138) rfl (by kernel_rfl) rfl rfl reads138.dr (reads138.eq k)
end Go.Proofs.YtofendipdfepoaaGreat.Tr

/- Go functions as plain Lean functions, and their contracts. -/
set_option linter.unusedVariables false
set_option maxRecDepth 100000
noncomputable section
namespace Go.Proofs.YtofendipdfepoaaGreat.Tr
open Go Go.Proofs.YtofendipdfepoaaGreat.Gp
def add95 (k : Nat) (_ : Unit) (name : ByteArray) (mode : Int) (cycles : tY80) (o0 : Unit) (o1 : tY59) : Option tY49 :=
  let t18 : Int := (w64 ((List.length o1 : Int) + 1))
  (if room (List.length o1 + List.length [(t18, name, mode, cycles)]) 56 then some () else none).bind fun _ =>
  some ((), (), (o1 ++ [(t18, name, mode, cycles)]))
def add95.A : Ann := { conds := [], blocks := [], loops := [], keeps := [], orders := [(0, [(0, .weak), (1, .strong), (2, .strong), (3, .strong), (4, .strong), (5, .strong), (6, .strong), (7, .strong), (8, .strong), (9, .strong), (10, .strong), (11, .strong), (12, .strong), (13, .strong), (14, .strong), (15, .eff true), (16, .eff false), (17, .strong), (18, .strong), (19, .eff false)])] }
def add95.S : Sig := { f := 95, params := [.ptr 0 [], .str, .int .i64, .sl kY15], objs := [.var kY44, .row kY6], res := .tup .unit, outs := [.var kY44, .row kY6], fix := [], run := fun k ds os => add95 k ds.1 ds.2.1 ds.2.2.1 ds.2.2.2 os.1 os.2 }
def add95.G : List Sig := []
theorem add95.eq (k : Nat) : ∀ ds os, add95.S.run k ds os = runF ⟨types, add95.G, add95.A, k, 0, []⟩ Tryz.f95 (codeOf Tryz.f95) add95.S.params add95.S.objs add95.S.res add95.S.outs ds os := by
  intro ds os; kernel_rfl
theorem add95.dr : DrOk Tryz.prog add95.A (codeOf Tryz.f95) := ⟨by kernel_rfl, by kernel_rfl⟩
theorem add95.ok (k : Nat) : SoundAt Tryz.prog k add95.S :=
  runF_sound (X := ⟨types, add95.G, add95.A, k, 0, []⟩) types_ok (fun s hs => absurd hs List.not_mem_nil) (fn := Tryz.f95) (c := codeOf Tryz.f95) rfl (by kernel_rfl) rfl rfl add95.dr (add95.eq k)

def loads91.l0 (k : Nat) (name : ByteArray) (reg : Int) (modes : tY109) : tY46 → Option tY22
  | (_, t12, _, o1_1) =>
    cond (decide (t12 < (List.length modes : Int)))
      ((rd modes t12).bind fun t14 =>
      (two97 k 1 reg 5).bind fun t21 =>
      (one98 k 3 reg).bind fun t23 =>
      (reads138 k t14 [t21.1, t23.1]).bind fun t25 =>
      (add95 k () name t14 t25.1 () o1_1).bind fun t26 =>
      some (Sum.inl ((), (w64 (t12 + 1)), (), t26.2.2)))
      (some (Sum.inr ((), o1_1)))
def loads91 (k : Nat) (_ : Unit) (name : ByteArray) (reg : Int) (modes : tY109) (o0 : Unit) (o1 : tY59) : Option tY49 :=
  Option.bind
    (loopN (loads91.l0 k name reg modes) k ((), 0, (), o1) : Option tY55) fun ((_, o1_2) : tY55) =>
  some ((), (), o1_2)
def loads91.A : Ann := { conds := [], blocks := [(0, ⟨[], [(0, .var kY44), (1, .row kY6)], 2, [], 268431872⟩)], loops := [(1, ⟨[(0, .ptr 0 []), (12, .int .i64)], [(0, .var kY44), (1, .row kY6)], 2, [], 268431872⟩)], keeps := [], orders := [] }
def loads91.S : Sig := { f := 91, params := [.ptr 0 [], .str, .int .i64, .sl kY46], objs := [.var kY44, .row kY6], res := .tup .unit, outs := [.var kY44, .row kY6], fix := [], run := fun k ds os => loads91 k ds.1 ds.2.1 ds.2.2.1 ds.2.2.2 os.1 os.2 }
def loads91.G : List Sig := [add95.S, one98.S, reads138.S, two97.S]
theorem loads91.eq (k : Nat) : ∀ ds os, loads91.S.run k ds os = runF ⟨types, loads91.G, loads91.A, k, 0, []⟩ Tryz.f91 (codeOf Tryz.f91) loads91.S.params loads91.S.objs loads91.S.res loads91.S.outs ds os := by
  intro ds os; kernel_rfl
theorem loads91.dr : DrOk Tryz.prog loads91.A (codeOf Tryz.f91) := ⟨by kernel_rfl, by kernel_rfl⟩
theorem loads91.ok (k : Nat) : SoundAt Tryz.prog k loads91.S :=
  runF_sound (X := ⟨types, loads91.G, loads91.A, k, 0, []⟩) types_ok (mem_all (⟨add95.ok k, ⟨one98.ok k, ⟨reads138.ok k, ⟨two97.ok k, trivial⟩⟩⟩⟩)) (fn := Tryz.f91) (c := codeOf Tryz.f91) rfl (by kernel_rfl) rfl rfl loads91.dr (loads91.eq k)

def wr99 (k : Nat) (at_ : Int) (reg : Int) (steps : tY95) : Option tY79 :=
  some ((2, at_, reg, steps), ())
def wr99.A : Ann := { conds := [], blocks := [], loops := [], keeps := [], orders := [] }
def wr99.S : Sig := { f := 99, params := [.int .i64, .int .i64, .sl kY21], objs := [], res := .st kY16, outs := [], fix := [], run := fun k ds os => wr99 k ds.1 ds.2.1 ds.2.2 }
def wr99.G : List Sig := []
theorem wr99.eq (k : Nat) : ∀ ds os, wr99.S.run k ds os = runF ⟨types, wr99.G, wr99.A, k, 0, []⟩ Tryz.f99 (codeOf Tryz.f99) wr99.S.params wr99.S.objs wr99.S.res wr99.S.outs ds os := by
  intro ds os; kernel_rfl
theorem wr99.dr : DrOk Tryz.prog wr99.A (codeOf Tryz.f99) := ⟨by kernel_rfl, by kernel_rfl⟩
theorem wr99.ok (k : Nat) : SoundAt Tryz.prog k wr99.S :=
  runF_sound (X := ⟨types, wr99.G, wr99.A, k, 0, []⟩) types_ok (fun s hs => absurd hs List.not_mem_nil) (fn := Tryz.f99) (c := codeOf Tryz.f99) rfl (by kernel_rfl) rfl rfl wr99.dr (wr99.eq k)

def stores92.l0 (k : Nat) (name : ByteArray) (reg : Int) (modes : tY109) : tY46 → Option tY22
  | (_, t12, _, o1_1) =>
    cond (decide (t12 < (List.length modes : Int)))
      ((rd modes t12).bind fun t14 =>
      (lead139 k t14).bind fun t20 =>
      (wr99 k 2 reg []).bind fun t22 =>
      (if room (List.length t20.2 + List.length [t22.1]) 48 then some () else none).bind fun _ =>
      (add95 k () name t14 (t20.2 ++ [t22.1]) () o1_1).bind fun t25 =>
      some (Sum.inl ((), (w64 (t12 + 1)), (), t25.2.2)))
      (some (Sum.inr ((), o1_1)))
def stores92 (k : Nat) (_ : Unit) (name : ByteArray) (reg : Int) (modes : tY109) (o0 : Unit) (o1 : tY59) : Option tY49 :=
  Option.bind
    (loopN (stores92.l0 k name reg modes) k ((), 0, (), o1) : Option tY55) fun ((_, o1_2) : tY55) =>
  some ((), (), o1_2)
def stores92.A : Ann := { conds := [], blocks := [(0, ⟨[], [(0, .var kY44), (1, .row kY6)], 2, [], 134214144⟩)], loops := [(1, ⟨[(0, .ptr 0 []), (12, .int .i64)], [(0, .var kY44), (1, .row kY6)], 2, [], 134214144⟩)], keeps := [], orders := [] }
def stores92.S : Sig := { f := 92, params := [.ptr 0 [], .str, .int .i64, .sl kY46], objs := [.var kY44, .row kY6], res := .tup .unit, outs := [.var kY44, .row kY6], fix := [], run := fun k ds os => stores92 k ds.1 ds.2.1 ds.2.2.1 ds.2.2.2 os.1 os.2 }
def stores92.G : List Sig := [add95.S, lead139.S, wr99.S]
theorem stores92.eq (k : Nat) : ∀ ds os, stores92.S.run k ds os = runF ⟨types, stores92.G, stores92.A, k, 0, []⟩ Tryz.f92 (codeOf Tryz.f92) stores92.S.params stores92.S.objs stores92.S.res stores92.S.outs ds os := by
  intro ds os; kernel_rfl
theorem stores92.dr : DrOk Tryz.prog stores92.A (codeOf Tryz.f92) := ⟨by kernel_rfl, by kernel_rfl⟩
theorem stores92.ok (k : Nat) : SoundAt Tryz.prog k stores92.S :=
  runF_sound (X := ⟨types, stores92.G, stores92.A, k, 0, []⟩) types_ok (mem_all (⟨add95.ok k, ⟨lead139.ok k, ⟨wr99.ok k, trivial⟩⟩⟩)) (fn := Tryz.f92) (c := codeOf Tryz.f92) rfl (by kernel_rfl) rfl rfl stores92.dr (stores92.eq k)

def joins93.l0 (k : Nat) (name : ByteArray) (do_ : Int) (reg : Int) (modes : tY109) : tY46 → Option tY22
  | (_, t14, _, o1_1) =>
    cond (decide (t14 < (List.length modes : Int)))
      ((rd modes t14).bind fun t16 =>
      (two97 k do_ reg 5).bind fun t24 =>
      (reads138 k t16 [t24.1]).bind fun t26 =>
      (add95 k () name t16 t26.1 () o1_1).bind fun t27 =>
      some (Sum.inl ((), (w64 (t14 + 1)), (), t27.2.2)))
      (some (Sum.inr ((), o1_1)))
def joins93 (k : Nat) (_ : Unit) (name : ByteArray) (do_ : Int) (reg : Int) (modes : tY109) (o0 : Unit) (o1 : tY59) : Option tY49 :=
  Option.bind
    (loopN (joins93.l0 k name do_ reg modes) k ((), 0, (), o1) : Option tY55) fun ((_, o1_2) : tY55) =>
  some ((), (), o1_2)
def joins93.A : Ann := { conds := [], blocks := [(0, ⟨[], [(0, .var kY44), (1, .row kY6)], 2, [], 536856576⟩)], loops := [(1, ⟨[(0, .ptr 0 []), (14, .int .i64)], [(0, .var kY44), (1, .row kY6)], 2, [], 536856576⟩)], keeps := [], orders := [] }
def joins93.S : Sig := { f := 93, params := [.ptr 0 [], .str, .int .i64, .int .i64, .sl kY46], objs := [.var kY44, .row kY6], res := .tup .unit, outs := [.var kY44, .row kY6], fix := [], run := fun k ds os => joins93 k ds.1 ds.2.1 ds.2.2.1 ds.2.2.2.1 ds.2.2.2.2 os.1 os.2 }
def joins93.G : List Sig := [add95.S, reads138.S, two97.S]
theorem joins93.eq (k : Nat) : ∀ ds os, joins93.S.run k ds os = runF ⟨types, joins93.G, joins93.A, k, 0, []⟩ Tryz.f93 (codeOf Tryz.f93) joins93.S.params joins93.S.objs joins93.S.res joins93.S.outs ds os := by
  intro ds os; kernel_rfl
theorem joins93.dr : DrOk Tryz.prog joins93.A (codeOf Tryz.f93) := ⟨by kernel_rfl, by kernel_rfl⟩
theorem joins93.ok (k : Nat) : SoundAt Tryz.prog k joins93.S :=
  runF_sound (X := ⟨types, joins93.G, joins93.A, k, 0, []⟩) types_ok (mem_all (⟨add95.ok k, ⟨reads138.ok k, ⟨two97.ok k, trivial⟩⟩⟩)) (fn := Tryz.f93) (c := codeOf Tryz.f93) rfl (by kernel_rfl) rfl rfl joins93.dr (joins93.eq k)
end Go.Proofs.YtofendipdfepoaaGreat.Tr

/- Go functions as plain Lean functions, and their contracts. -/
set_option linter.unusedVariables false
set_option maxRecDepth 100000
noncomputable section
namespace Go.Proofs.YtofendipdfepoaaGreat.Tr
open Go Go.Proofs.YtofendipdfepoaaGreat.Gp
def turns94.l0 (k : Nat) (name : ByteArray) (do_ : Int) (modes : tY109) : tY46 → Option tY22
  | (_, t12, _, o1_1) =>
    cond (decide (t12 < (List.length modes : Int)))
      (Option.bind
        ((rd modes t12).bind fun t14 =>
        cond (t14 == 0)
          ((one98 k do_ 0).bind fun t22 =>
          (no96 k [t22.1]).bind fun t24 =>
          (add95 k () name t14 [t24.1] () o1_1).bind fun t26 =>
          some ((), (), t26.2.2))
          ((lead139 k t14).bind fun t31 =>
          (one98 k do_ 5).bind fun t33 =>
          (rd52'' k 2 5 [t33.1]).bind fun t35 =>
          (wr99 k 2 5 []).bind fun t36 =>
          (if room (List.length t31.2 + List.length [t35.1, t36.1]) 48 then some () else none).bind fun _ =>
          (add95 k () name t14 (t31.2 ++ [t35.1, t36.1]) () o1_1).bind fun t39 =>
          some ((), (), t39.2.2)) : Option tY49) fun ((_, _, o1_2) : tY49) =>
      some (Sum.inl ((), (w64 (t12 + 1)), (), o1_2)))
      (some (Sum.inr ((), o1_1)))
def turns94 (k : Nat) (_ : Unit) (name : ByteArray) (do_ : Int) (modes : tY109) (o0 : Unit) (o1 : tY59) : Option tY49 :=
  Option.bind
    (loopN (turns94.l0 k name do_ modes) k ((), 0, (), o1) : Option tY55) fun ((_, o1_3) : tY55) =>
  some ((), (), o1_3)
def turns94.A : Ann := { conds := [], blocks := [(0, ⟨[], [(0, .var kY44), (1, .row kY6)], 2, [], 2199023251968⟩), (1, ⟨[(0, .ptr 0 [])], [(0, .var kY44), (1, .row kY6)], 2, [], 1099511611904⟩)], loops := [(1, ⟨[(0, .ptr 0 []), (12, .int .i64)], [(0, .var kY44), (1, .row kY6)], 2, [], 2199023251968⟩)], keeps := [], orders := [] }
def turns94.S : Sig := { f := 94, params := [.ptr 0 [], .str, .int .i64, .sl kY46], objs := [.var kY44, .row kY6], res := .tup .unit, outs := [.var kY44, .row kY6], fix := [], run := fun k ds os => turns94 k ds.1 ds.2.1 ds.2.2.1 ds.2.2.2 os.1 os.2 }
def turns94.G : List Sig := [add95.S, lead139.S, no96.S, one98.S, rd52''.S, wr99.S]
theorem turns94.eq (k : Nat) : ∀ ds os, turns94.S.run k ds os = runF ⟨types, turns94.G, turns94.A, k, 0, []⟩ Tryz.f94 (codeOf Tryz.f94) turns94.S.params turns94.S.objs turns94.S.res turns94.S.outs ds os := by
  intro ds os; kernel_rfl
theorem turns94.dr : DrOk Tryz.prog turns94.A (codeOf Tryz.f94) := ⟨by kernel_rfl, by kernel_rfl⟩
theorem turns94.ok (k : Nat) : SoundAt Tryz.prog k turns94.S :=
  runF_sound (X := ⟨types, turns94.G, turns94.A, k, 0, []⟩) types_ok (mem_all (⟨add95.ok k, ⟨lead139.ok k, ⟨no96.ok k, ⟨one98.ok k, ⟨rd52''.ok k, ⟨wr99.ok k, trivial⟩⟩⟩⟩⟩⟩)) (fn := Tryz.f94) (c := codeOf Tryz.f94) rfl (by kernel_rfl) rfl rfl turns94.dr (turns94.eq k)

def memory49.l0 (k : Nat) : tY37 → Option (tY37 ⊕ tY49)
  | (_, _, t30, _, o1_1, o8) =>
    cond (decide (t30 < (List.length [((ByteArray.mk #[97, 100, 99]), 4), ((ByteArray.mk #[115, 98, 99]), 5), ((ByteArray.mk #[97, 110, 100]), 7), ((ByteArray.mk #[111, 114, 97]), 8), ((ByteArray.mk #[101, 111, 114]), 9), ((ByteArray.mk #[99, 109, 112]), 6)] : Int)))
      ((rd o8 t30).bind fun _ =>
      (rd o8 t30).bind fun t33 =>
      (joins93 k () t33.1 t33.2 0 ([1, 2, 4, 5] : List Int) () o1_1).bind fun t40 =>
      some (Sum.inl ((), (), (w64 (t30 + 1)), (), t40.2.2, o8)))
      (some (Sum.inr ((), (), o1_1)))
def memory49 (k : Nat) (_ : Unit) (o0 : Unit) (o1 : tY59) : Option tY49 :=
  (loads91 k () (ByteArray.mk #[108, 100, 97]) 0 ([1, 2, 3, 4, 5, 6, 8] : List Int) () o1).bind fun t6 =>
  (loads91 k () (ByteArray.mk #[108, 100, 120]) 1 ([1, 2, 4] : List Int) () t6.2.2).bind fun t9 =>
  (loads91 k () (ByteArray.mk #[108, 100, 121]) 2 ([1, 2, 4] : List Int) () t9.2.2).bind fun t12 =>
  (stores92 k () (ByteArray.mk #[115, 116, 97]) 0 ([2, 3, 4, 5, 6, 8] : List Int) () t12.2.2).bind fun t15 =>
  (stores92 k () (ByteArray.mk #[115, 116, 120]) 1 ([2, 4] : List Int) () t15.2.2).bind fun t18 =>
  (stores92 k () (ByteArray.mk #[115, 116, 121]) 2 ([2, 4] : List Int) () t18.2.2).bind fun t21 =>
  Option.bind
    (loopN (memory49.l0 k) k ((), (), 0, (), t21.2.2, [((ByteArray.mk #[97, 100, 99]), 4), ((ByteArray.mk #[115, 98, 99]), 5), ((ByteArray.mk #[97, 110, 100]), 7), ((ByteArray.mk #[111, 114, 97]), 8), ((ByteArray.mk #[101, 111, 114]), 9), ((ByteArray.mk #[99, 109, 112]), 6)]) : Option tY49) fun ((_, _, o1_2) : tY49) =>
  (joins93 k () (ByteArray.mk #[99, 112, 120]) 6 1 ([1, 2] : List Int) () o1_2).bind fun t44 =>
  (joins93 k () (ByteArray.mk #[99, 112, 121]) 6 2 ([1, 2] : List Int) () t44.2.2).bind fun t47 =>
  (turns94 k () (ByteArray.mk #[105, 110, 99]) 10 ([2, 4] : List Int) () t47.2.2).bind fun t50 =>
  (turns94 k () (ByteArray.mk #[100, 101, 99]) 11 ([2, 4] : List Int) () t50.2.2).bind fun t53 =>
  (turns94 k () (ByteArray.mk #[97, 115, 108]) 12 ([0, 2] : List Int) () t53.2.2).bind fun t56 =>
  (turns94 k () (ByteArray.mk #[108, 115, 114]) 13 ([0, 2] : List Int) () t56.2.2).bind fun t59 =>
  (turns94 k () (ByteArray.mk #[114, 111, 108]) 14 ([0, 2] : List Int) () t59.2.2).bind fun t62 =>
  (turns94 k () (ByteArray.mk #[114, 111, 114]) 15 ([0, 2] : List Int) () t62.2.2).bind fun t65 =>
  some ((), (), t65.2.2)
def memory49.A : Ann := { conds := [], blocks := [(0, ⟨[(0, .ptr 0 [])], [(0, .var kY44), (1, .row kY6)], 2, [], 4396972769288⟩)], loops := [(7, ⟨[(0, .ptr 0 []), (28, .ms 8), (30, .int .i64)], [(0, .var kY44), (1, .row kY6), (8, .row (.st kY41))], 9, [], 4396972769288⟩)], keeps := [3], orders := [] }
def memory49.S : Sig := { f := 49, params := [.ptr 0 []], objs := [.var kY44, .row kY6], res := .tup .unit, outs := [.var kY44, .row kY6], fix := [], run := fun k ds os => memory49 k ds os.1 os.2 }
def memory49.G : List Sig := [joins93.S, loads91.S, stores92.S, turns94.S]
theorem memory49.eq (k : Nat) : ∀ ds os, memory49.S.run k ds os = runF ⟨types, memory49.G, memory49.A, k, 0, []⟩ Tryz.f49 (codeOf Tryz.f49) memory49.S.params memory49.S.objs memory49.S.res memory49.S.outs ds os := by
  intro ds os; kernel_rfl
theorem memory49.dr : DrOk Tryz.prog memory49.A (codeOf Tryz.f49) := ⟨by kernel_rfl, by kernel_rfl⟩
theorem memory49.ok (k : Nat) : SoundAt Tryz.prog k memory49.S :=
  runF_sound (X := ⟨types, memory49.G, memory49.A, k, 0, []⟩) types_ok (mem_all (⟨joins93.ok k, ⟨loads91.ok k, ⟨stores92.ok k, ⟨turns94.ok k, trivial⟩⟩⟩⟩)) (fn := Tryz.f49) (c := codeOf Tryz.f49) rfl (by kernel_rfl) rfl rfl memory49.dr (memory49.eq k)
end Go.Proofs.YtofendipdfepoaaGreat.Tr

/- Go functions as plain Lean functions, and their contracts. -/
set_option linter.unusedVariables false
set_option maxRecDepth 100000
noncomputable section
namespace Go.Proofs.YtofendipdfepoaaGreat.Tr
open Go Go.Proofs.YtofendipdfepoaaGreat.Gp
def alone50.l0 (k : Nat) : tY35 → Option (tY35 ⊕ tY49)
  | (_, _, t11, _, o1_1, o2) =>
    cond (decide (t11 < (List.length [((ByteArray.mk #[116, 97, 120]), 1, 0), ((ByteArray.mk #[116, 97, 121]), 2, 0), ((ByteArray.mk #[116, 120, 97]), 0, 1), ((ByteArray.mk #[116, 121, 97]), 0, 2), ((ByteArray.mk #[116, 115, 120]), 1, 3)] : Int)))
      ((rd o2 t11).bind fun _ =>
      (rd o2 t11).bind fun t14 =>
      (two97 k 1 t14.2.1 t14.2.2).bind fun t22 =>
      (one98 k 3 t14.2.1).bind fun t25 =>
      (no96 k [t22.1, t25.1]).bind fun t27 =>
      (add95 k () t14.1 0 [t27.1] () o1_1).bind fun t29 =>
      some (Sum.inl ((), (), (w64 (t11 + 1)), (), t29.2.2, o2)))
      (some (Sum.inr ((), (), o1_1)))
def alone50 (k : Nat) (_ : Unit) (o0 : Unit) (o1 : tY59) : Option tY49 :=
  Option.bind
    (loopN (alone50.l0 k) k ((), (), 0, (), o1, [((ByteArray.mk #[116, 97, 120]), 1, 0), ((ByteArray.mk #[116, 97, 121]), 2, 0), ((ByteArray.mk #[116, 120, 97]), 0, 1), ((ByteArray.mk #[116, 121, 97]), 0, 2), ((ByteArray.mk #[116, 115, 120]), 1, 3)]) : Option tY49) fun ((_, _, o1_2) : tY49) =>
  (two97 k 1 3 1).bind fun t32 =>
  (no96 k [t32.1]).bind fun t34 =>
  (add95 k () (ByteArray.mk #[116, 120, 115]) 0 [t34.1] () o1_2).bind fun t36 =>
  (one98 k 10 1).bind fun t38 =>
  (no96 k [t38.1]).bind fun t40 =>
  (add95 k () (ByteArray.mk #[105, 110, 120]) 0 [t40.1] () t36.2.2).bind fun t42 =>
  (one98 k 10 2).bind fun t44 =>
  (no96 k [t44.1]).bind fun t46 =>
  (add95 k () (ByteArray.mk #[105, 110, 121]) 0 [t46.1] () t42.2.2).bind fun t48 =>
  (one98 k 11 1).bind fun t50 =>
  (no96 k [t50.1]).bind fun t52 =>
  (add95 k () (ByteArray.mk #[100, 101, 120]) 0 [t52.1] () t48.2.2).bind fun t54 =>
  (one98 k 11 2).bind fun t56 =>
  (no96 k [t56.1]).bind fun t58 =>
  (add95 k () (ByteArray.mk #[100, 101, 121]) 0 [t58.1] () t54.2.2).bind fun t60 =>
  (no96 k [(17, 0, 0, 1)]).bind fun t64 =>
  (add95 k () (ByteArray.mk #[99, 108, 99]) 0 [t64.1] () t60.2.2).bind fun t66 =>
  (no96 k [(16, 0, 0, 1)]).bind fun t70 =>
  (add95 k () (ByteArray.mk #[115, 101, 99]) 0 [t70.1] () t66.2.2).bind fun t72 =>
  (no96 k [(17, 0, 0, 4)]).bind fun t76 =>
  (add95 k () (ByteArray.mk #[99, 108, 105]) 0 [t76.1] () t72.2.2).bind fun t78 =>
  (no96 k [(16, 0, 0, 4)]).bind fun t82 =>
  (add95 k () (ByteArray.mk #[115, 101, 105]) 0 [t82.1] () t78.2.2).bind fun t84 =>
  (no96 k []).bind fun t86 =>
  (add95 k () (ByteArray.mk #[110, 111, 112]) 0 [t86.1] () t84.2.2).bind fun t88 =>
  (wr99 k 4 0 []).bind fun t90 =>
  (add95 k () (ByteArray.mk #[112, 104, 97]) 0 [t90.1] () t88.2.2).bind fun t92 =>
  (one98 k 3 0).bind fun t94 =>
  (rd52'' k 5 0 [t94.1]).bind fun t96 =>
  (add95 k () (ByteArray.mk #[112, 108, 97]) 0 [t96.1] () t92.2.2).bind fun t98 =>
  (wr99 k 4 4 []).bind fun t100 =>
  (add95 k () (ByteArray.mk #[112, 104, 112]) 0 [t100.1] () t98.2.2).bind fun t102 =>
  (rd52'' k 5 4 []).bind fun t104 =>
  (add95 k () (ByteArray.mk #[112, 108, 112]) 0 [t104.1] () t102.2.2).bind fun t106 =>
  some ((), (), t106.2.2)
def alone50.A : Ann := { conds := [], blocks := [(0, ⟨[(0, .ptr 0 [])], [(0, .var kY44), (1, .row kY6)], 2, [], 2147481608⟩)], loops := [(1, ⟨[(0, .ptr 0 []), (9, .ms 2), (11, .int .i64)], [(0, .var kY44), (1, .row kY6), (2, .row kY34)], 3, [], 2147481608⟩)], keeps := [3], orders := [(3, [(0, .strong), (1, .strong), (2, .strong), (3, .strong), (4, .strong), (5, .strong), (6, .strong), (8, .strong), (9, .strong), (7, .eff true), (10, .eff true), (11, .eff true), (12, .eff true), (13, .eff true), (14, .eff false)])] }
def alone50.S : Sig := { f := 50, params := [.ptr 0 []], objs := [.var kY44, .row kY6], res := .tup .unit, outs := [.var kY44, .row kY6], fix := [], run := fun k ds os => alone50 k ds os.1 os.2 }
def alone50.G : List Sig := [add95.S, no96.S, one98.S, rd52''.S, two97.S, wr99.S]
theorem alone50.eq (k : Nat) : ∀ ds os, alone50.S.run k ds os = runF ⟨types, alone50.G, alone50.A, k, 0, []⟩ Tryz.f50 (codeOf Tryz.f50) alone50.S.params alone50.S.objs alone50.S.res alone50.S.outs ds os := by
  intro ds os; kernel_rfl
theorem alone50.dr : DrOk Tryz.prog alone50.A (codeOf Tryz.f50) := ⟨by kernel_rfl, by kernel_rfl⟩
theorem alone50.ok (k : Nat) : SoundAt Tryz.prog k alone50.S :=
  runF_sound (X := ⟨types, alone50.G, alone50.A, k, 0, []⟩) types_ok (mem_all (⟨add95.ok k, ⟨no96.ok k, ⟨one98.ok k, ⟨rd52''.ok k, ⟨two97.ok k, ⟨wr99.ok k, trivial⟩⟩⟩⟩⟩⟩)) (fn := Tryz.f50) (c := codeOf Tryz.f50) rfl (by kernel_rfl) rfl rfl alone50.dr (alone50.eq k)

def jump53' (k : Nat) (to : Int) : Option tY88 :=
  (two97 k 18 to 5).bind fun t4 =>
  (two97 k 19 to 6).bind fun t6 =>
  some ([t4.1, t6.1], ())
def jump53'.A : Ann := { conds := [], blocks := [], loops := [], keeps := [], orders := [] }
def jump53'.S : Sig := { f := 53, params := [.int .i64], objs := [], res := .sl kY21, outs := [], fix := [], run := fun k ds os => jump53' k ds }
def jump53'.G : List Sig := [two97.S]
theorem jump53'.eq (k : Nat) : ∀ ds os, jump53'.S.run k ds os = runF ⟨types, jump53'.G, jump53'.A, k, 0, []⟩ Tryz.f53 (codeOf Tryz.f53) jump53'.S.params jump53'.S.objs jump53'.S.res jump53'.S.outs ds os := by
  intro ds os; kernel_rfl
theorem jump53'.dr : DrOk Tryz.prog jump53'.A (codeOf Tryz.f53) := ⟨by kernel_rfl, by kernel_rfl⟩
theorem jump53'.ok (k : Nat) : SoundAt Tryz.prog k jump53'.S :=
  runF_sound (X := ⟨types, jump53'.G, jump53'.A, k, 0, []⟩) types_ok (mem_all (⟨two97.ok k, trivial⟩)) (fn := Tryz.f53) (c := codeOf Tryz.f53) rfl (by kernel_rfl) rfl rfl jump53'.dr (jump53'.eq k)

def ways51.l0 (k : Nat) : tY35 → Option (tY35 ⊕ tY55)
  | (_, _, t47, _, o1_1, o10) =>
    cond (decide (t47 < (List.length [((ByteArray.mk #[98, 101, 113]), 2, 1), ((ByteArray.mk #[98, 110, 101]), 2, 0), ((ByteArray.mk #[98, 99, 115]), 1, 1), ((ByteArray.mk #[98, 99, 99]), 1, 0), ((ByteArray.mk #[98, 109, 105]), 128, 1), ((ByteArray.mk #[98, 112, 108]), 128, 0)] : Int)))
      ((rd o10 t47).bind fun _ =>
      (rd o10 t47).bind fun t50 =>
      (rd52'' k 0 5 [(24, 0, t50.2.2, t50.2.1)]).bind fun t60 =>
      (two97 k 23 7 5).bind fun t61 =>
      (no96 k [t61.1]).bind fun t63 =>
      (add95 k () t50.1 7 [t60.1, t63.1] () o1_1).bind fun t65 =>
      some (Sum.inl ((), (), (w64 (t47 + 1)), (), t65.2.2, o10)))
      (some (Sum.inr ((), o1_1)))
def ways51 (k : Nat) (_ : Unit) (o0 : Unit) (o1 : tY59) : Option tY49 :=
  (rd52'' k 0 5 []).bind fun t5 =>
  (jump53' k 7).bind fun t6 =>
  (rd52'' k 0 6 t6.1).bind fun t7 =>
  (add95 k () (ByteArray.mk #[106, 109, 112]) 4 [t5.1, t7.1] () o1).bind fun t9 =>
  (two97 k 18 8 5).bind fun t11 =>
  (rd52'' k 0 5 [t11.1]).bind fun t13 =>
  (two97 k 19 8 5).bind fun t14 =>
  (two97 k 21 5 7).bind fun t15 =>
  (rd52'' k 0 5 [t14.1, t15.1]).bind fun t17 =>
  (two97 k 20 5 7).bind fun t18 =>
  (wr99 k 4 5 [t18.1]).bind fun t20 =>
  (two97 k 1 7 8).bind fun t21 =>
  (wr99 k 4 5 [t21.1]).bind fun t23 =>
  (add95 k () (ByteArray.mk #[106, 115, 114]) 4 [t13.1, t17.1, t20.1, t23.1] () t9.2.2).bind fun t25 =>
  (rd52'' k 5 5 []).bind fun t27 =>
  (jump53' k 7).bind fun t28 =>
  (rd52'' k 5 6 t28.1).bind fun t29 =>
  (add95 k () (ByteArray.mk #[114, 116, 115]) 0 [t27.1, t29.1] () t25.2.2).bind fun t31 =>
  (rd52'' k 5 4 []).bind fun t33 =>
  (rd52'' k 5 5 []).bind fun t34 =>
  (jump53' k 7).bind fun t35 =>
  (rd52'' k 5 6 t35.1).bind fun t36 =>
  (add95 k () (ByteArray.mk #[114, 116, 105]) 0 [t33.1, t34.1, t36.1] () t31.2.2).bind fun t38 =>
  Option.bind
    (loopN (ways51.l0 k) k ((), (), 0, (), t38.2.2, [((ByteArray.mk #[98, 101, 113]), 2, 1), ((ByteArray.mk #[98, 110, 101]), 2, 0), ((ByteArray.mk #[98, 99, 115]), 1, 1), ((ByteArray.mk #[98, 99, 99]), 1, 0), ((ByteArray.mk #[98, 109, 105]), 128, 1), ((ByteArray.mk #[98, 112, 108]), 128, 0)]) : Option tY55) fun ((_, o1_2) : tY55) =>
  some ((), (), o1_2)
def ways51.A : Ann := { conds := [], blocks := [(0, ⟨[], [(0, .var kY44), (1, .row kY6)], 2, [], 147573811852188057608⟩)], loops := [(5, ⟨[(0, .ptr 0 []), (45, .ms 10), (47, .int .i64)], [(0, .var kY44), (1, .row kY6), (10, .row kY34)], 11, [], 147573811852188057608⟩)], keeps := [3], orders := [(7, [(0, .strong), (1, .strong), (2, .strong), (3, .strong), (4, .strong), (5, .strong), (6, .strong), (7, .strong), (8, .eff true), (9, .eff true), (10, .eff true), (11, .eff true), (12, .eff true), (13, .eff true), (14, .eff false)])] }
def ways51.S : Sig := { f := 51, params := [.ptr 0 []], objs := [.var kY44, .row kY6], res := .tup .unit, outs := [.var kY44, .row kY6], fix := [], run := fun k ds os => ways51 k ds os.1 os.2 }
def ways51.G : List Sig := [add95.S, jump53'.S, no96.S, rd52''.S, two97.S, wr99.S]
theorem ways51.eq (k : Nat) : ∀ ds os, ways51.S.run k ds os = runF ⟨types, ways51.G, ways51.A, k, 0, []⟩ Tryz.f51 (codeOf Tryz.f51) ways51.S.params ways51.S.objs ways51.S.res ways51.S.outs ds os := by
  intro ds os; kernel_rfl
theorem ways51.dr : DrOk Tryz.prog ways51.A (codeOf Tryz.f51) := ⟨by kernel_rfl, by kernel_rfl⟩
theorem ways51.ok (k : Nat) : SoundAt Tryz.prog k ways51.S :=
  runF_sound (X := ⟨types, ways51.G, ways51.A, k, 0, []⟩) types_ok (mem_all (⟨add95.ok k, ⟨jump53'.ok k, ⟨no96.ok k, ⟨rd52''.ok k, ⟨two97.ok k, ⟨wr99.ok k, trivial⟩⟩⟩⟩⟩⟩)) (fn := Tryz.f51) (c := codeOf Tryz.f51) rfl (by kernel_rfl) rfl rfl ways51.dr (ways51.eq k)

def answers54 (k : Nat) (low : Int) (high : Int) : Option tY74 :=
  (two97 k 21 5 7).bind fun t5 =>
  (no96 k [t5.1]).bind fun t7 =>
  (two97 k 20 5 7).bind fun t8 =>
  (wr99 k 4 5 [t8.1]).bind fun t10 =>
  (wr99 k 4 5 []).bind fun t11 =>
  (wr99 k 4 4 [(16, 0, 0, 4)]).bind fun t14 =>
  (rd52'' k low 5 []).bind fun t16 =>
  (jump53' k 7).bind fun t18 =>
  (rd52'' k high 6 t18.1).bind fun t19 =>
  some ([t7.1, t10.1, t11.1, t14.1, t16.1, t19.1], ())
def answers54.A : Ann := { conds := [], blocks := [], loops := [], keeps := [], orders := [] }
def answers54.S : Sig := { f := 54, params := [.int .i64, .int .i64], objs := [], res := .sl kY15, outs := [], fix := [], run := fun k ds os => answers54 k ds.1 ds.2 }
def answers54.G : List Sig := [jump53'.S, no96.S, rd52''.S, two97.S, wr99.S]
theorem answers54.eq (k : Nat) : ∀ ds os, answers54.S.run k ds os = runF ⟨types, answers54.G, answers54.A, k, 0, []⟩ Tryz.f54 (codeOf Tryz.f54) answers54.S.params answers54.S.objs answers54.S.res answers54.S.outs ds os := by
  intro ds os; kernel_rfl
theorem answers54.dr : DrOk Tryz.prog answers54.A (codeOf Tryz.f54) := ⟨by kernel_rfl, by kernel_rfl⟩
theorem answers54.ok (k : Nat) : SoundAt Tryz.prog k answers54.S :=
  runF_sound (X := ⟨types, answers54.G, answers54.A, k, 0, []⟩) types_ok (mem_all (⟨jump53'.ok k, ⟨no96.ok k, ⟨rd52''.ok k, ⟨two97.ok k, ⟨wr99.ok k, trivial⟩⟩⟩⟩⟩)) (fn := Tryz.f54) (c := codeOf Tryz.f54) rfl (by kernel_rfl) rfl rfl answers54.dr (answers54.eq k)
end Go.Proofs.YtofendipdfepoaaGreat.Tr

/- Go functions as plain Lean functions, and their contracts. -/
set_option linter.unusedVariables false
set_option maxRecDepth 100000
noncomputable section
namespace Go.Proofs.YtofendipdfepoaaGreat.Tr
open Go Go.Proofs.YtofendipdfepoaaGreat.Gp
def Cpu23 (k : Nat) : Option (tY19 × Unit) :=
  (memory49 k () () []).bind fun t6 =>
  (alone50 k () () t6.2.2).bind fun t8 =>
  (ways51 k () () t8.2.2).bind fun t10 =>
  (rd52'' k 10 5 []).bind fun t11 =>
  (jump53 k 7).bind fun t12 =>
  (if room (List.length t12.2 + List.length [(2, 3, 0, 255)]) 32 then some () else none).bind fun _ =>
  (rd52'' k 11 6 (t12.2 ++ [(2, 3, 0, 255)])).bind fun t16 =>
  (answers54 k 6 7).bind fun t23 =>
  (answers54 k 8 9).bind fun t24 =>
  some (((ByteArray.mk #[115, 116, 100]), t10.2.2, [t11.1, t16.1], t23.1, t24.1), ())
def Cpu23.A : Ann := { conds := [], blocks := [], loops := [], keeps := [], orders := [(6, [(0, .strong), (1, .strong), (2, .strong), (3, .strong), (4, .strong), (5, .eff true), (6, .eff true), (7, .strong), (8, .eff false)])], turns := [(0, [⟨0, [(1, .st kY7), (2, .st kY16), (3, .st kY16), (4, .st kY16)], .st (.pair .str (.pair (.ms 1) (.pair (.ms 2) (.pair (.ms 3) (.ms 4)))))⟩]), (1, [⟨5, [(6, .st kY7)], .st (.ms 6)⟩])] }
def Cpu23.S : Sig := { f := 23, params := [], objs := [], res := .st kY1, outs := [], fix := [], run := fun k ds os => Cpu23 k }
def Cpu23.G : List Sig := [alone50.S, answers54.S, jump53.S, memory49.S, rd52''.S, ways51.S]
theorem Cpu23.eq (k : Nat) : ∀ ds os, Cpu23.S.run k ds os = runF ⟨types, Cpu23.G, Cpu23.A, k, 0, []⟩ Tryz.f23 (codeOf Tryz.f23) Cpu23.S.params Cpu23.S.objs Cpu23.S.res Cpu23.S.outs ds os := by
  intro ds os; kernel_rfl
theorem Cpu23.dr : DrOk Tryz.prog Cpu23.A (codeOf Tryz.f23) := ⟨by kernel_rfl, by kernel_rfl⟩
theorem Cpu23.ok (k : Nat) : SoundAt Tryz.prog k Cpu23.S :=
  runF_sound (X := ⟨types, Cpu23.G, Cpu23.A, k, 0, []⟩) types_ok (mem_all (⟨alone50.ok k, ⟨answers54.ok k, ⟨jump53.ok k, ⟨memory49.ok k, ⟨rd52''.ok k, ⟨ways51.ok k, trivial⟩⟩⟩⟩⟩⟩)) (fn := Tryz.f23) (c := codeOf Tryz.f23) rfl (by kernel_rfl) rfl rfl Cpu23.dr (Cpu23.eq k)

def Named1100 (k : Nat) (x : tY61) (t1 : ByteArray) (t2 : Int) : Option tY107 :=
  some ((cond (streq x.2.1 t1) (x.2.2.1 == t2) false), ())
def Named1100.A : Ann := { conds := [], blocks := [], loops := [], keeps := [3], orders := [] }
def Named1100.S : Sig := { f := 100, params := [.st kY7, .fp .str, .fp kY46], objs := [], res := .bool, outs := [], fix := [], run := fun k ds os => Named1100 k ds.1 ds.2.1 ds.2.2 }
def Named1100.G : List Sig := []
theorem Named1100.eq (k : Nat) : ∀ ds os, Named1100.S.run k ds os = runF ⟨types, Named1100.G, Named1100.A, k, 0, []⟩ Tryz.f100 (codeOf Tryz.f100) Named1100.S.params Named1100.S.objs Named1100.S.res Named1100.S.outs ds os := by
  intro ds os; kernel_rfl
theorem Named1100.dr : DrOk Tryz.prog Named1100.A (codeOf Tryz.f100) := ⟨by kernel_rfl, by kernel_rfl⟩
theorem Named1100.ok (k : Nat) : SoundAt Tryz.prog k Named1100.S :=
  runF_sound (X := ⟨types, Named1100.G, Named1100.A, k, 0, []⟩) types_ok (fun s hs => absurd hs List.not_mem_nil) (fn := Tryz.f100) (c := codeOf Tryz.f100) rfl (by kernel_rfl) rfl rfl Named1100.dr (Named1100.eq k)

def IndexFunc45''.l0 (k : Nat) (s : tY59) : (tY100 × Int) → Option ((tY100 × Int) ⊕ tY103)
  | (f_1, t8) =>
    cond (decide (t8 < (List.length s : Int)))
      ((rd s t8).bind fun t14 =>
      (Named1100 k t14 f_1.1 f_1.2.1).bind fun t16 =>
      cond t16.1
        (some (Sum.inr (Sum.inr (t8, ()))))
        (some (Sum.inl (f_1, (w64 (t8 + 1))))))
      (some (Sum.inr (Sum.inl ())))
def IndexFunc45'' (k : Nat) (s : tY59) (f : tY100) : Option tY108 :=
  Option.bind
    (loopN (IndexFunc45''.l0 k s) k (f, 0) : Option tY103) (joined fun (_ : Unit) =>
    some ((-1), ()))
def IndexFunc45''.A : Ann := { conds := [], blocks := [(0, ⟨[], [], 0, [], 524080⟩)], loops := [(2, ⟨[(1, .fn 100 kY35), (8, .int .i64)], [], 0, [], 524080⟩)], keeps := [], orders := [] }
def IndexFunc45''.S : Sig := { f := 45, params := [.sl kY6, .fn 100 kY35], objs := [], res := .int .i64, outs := [], fix := [], run := fun k ds os => IndexFunc45'' k ds.1 ds.2 }
def IndexFunc45''.G : List Sig := [Named1100.S]
theorem IndexFunc45''.eq (k : Nat) : ∀ ds os, IndexFunc45''.S.run k ds os = runF ⟨types, IndexFunc45''.G, IndexFunc45''.A, k, 0, []⟩ Tryz.f45 (codeOf Tryz.f45) IndexFunc45''.S.params IndexFunc45''.S.objs IndexFunc45''.S.res IndexFunc45''.S.outs ds os := by
  intro ds os; kernel_rfl
theorem IndexFunc45''.dr : DrOk Tryz.prog IndexFunc45''.A (codeOf Tryz.f45) := ⟨by kernel_rfl, by kernel_rfl⟩
theorem IndexFunc45''.ok (k : Nat) : SoundAt Tryz.prog k IndexFunc45''.S :=
  runF_sound (X := ⟨types, IndexFunc45''.G, IndexFunc45''.A, k, 0, []⟩) types_ok (mem_all (⟨Named1100.ok k, trivial⟩)) (fn := Tryz.f45) (c := codeOf Tryz.f45) rfl (by kernel_rfl) rfl rfl IndexFunc45''.dr (IndexFunc45''.eq k)

def Named55 (k : Nat) (c : tY19) (name : ByteArray) (mode : Int) : Option tY47 :=
  (IndexFunc45'' k c.2.1 (name, mode, ())).bind fun t12 =>
  cond (decide (t12.1 < 0))
    (some (((0, (ByteArray.mk #[]), 0, []), false, ()), ()))
    ((rd c.2.1 t12.1).bind fun t19 =>
    (Copy47 k t19).bind fun t21 =>
    some ((t21.1, true, ()), ()))
def Named55.A : Ann := { conds := [], blocks := [], loops := [], keeps := [3, 4, 5], orders := [] }
def Named55.S : Sig := { f := 55, params := [.st kY1, .str, .int .i64], objs := [], res := .tup kY4, outs := [], fix := [], run := fun k ds os => Named55 k ds.1 ds.2.1 ds.2.2 }
def Named55.G : List Sig := [Copy47.S, IndexFunc45''.S]
theorem Named55.eq (k : Nat) : ∀ ds os, Named55.S.run k ds os = runF ⟨types, Named55.G, Named55.A, k, 0, []⟩ Tryz.f55 (codeOf Tryz.f55) Named55.S.params Named55.S.objs Named55.S.res Named55.S.outs ds os := by
  intro ds os; kernel_rfl
theorem Named55.dr : DrOk Tryz.prog Named55.A (codeOf Tryz.f55) := ⟨by kernel_rfl, by kernel_rfl⟩
theorem Named55.ok (k : Nat) : SoundAt Tryz.prog k Named55.S :=
  runF_sound (X := ⟨types, Named55.G, Named55.A, k, 0, []⟩) types_ok (mem_all (⟨Copy47.ok k, ⟨IndexFunc45''.ok k, trivial⟩⟩)) (fn := Tryz.f55) (c := codeOf Tryz.f55) rfl (by kernel_rfl) rfl rfl Named55.dr (Named55.eq k)

def nop24 (k : Nat) : Option (tY84 × Unit) :=
  (Cpu23 k).bind fun t6 =>
  (Named55 k t6.1 (ByteArray.mk #[110, 111, 112]) 0).bind fun t7 =>
  (Cpu23 k).bind fun t11 =>
  (Named55 k t11.1 (ByteArray.mk #[106, 109, 112]) 4).bind fun t12 =>
  some ((512, ([(IntKind.wrap .u8 t7.1.1.1), (IntKind.wrap .u8 t12.1.1.1), 0, 2] : List Int), []), ())
def nop24.A : Ann := { conds := [], blocks := [], loops := [], keeps := [1, 3], orders := [] }
def nop24.S : Sig := { f := 24, params := [], objs := [], res := .st kY19, outs := [], fix := [], run := fun k ds os => nop24 k }
def nop24.G : List Sig := [Cpu23.S, Named55.S]
theorem nop24.eq (k : Nat) : ∀ ds os, nop24.S.run k ds os = runF ⟨types, nop24.G, nop24.A, k, 0, []⟩ Tryz.f24 (codeOf Tryz.f24) nop24.S.params nop24.S.objs nop24.S.res nop24.S.outs ds os := by
  intro ds os; kernel_rfl
theorem nop24.dr : DrOk Tryz.prog nop24.A (codeOf Tryz.f24) := ⟨by kernel_rfl, by kernel_rfl⟩
theorem nop24.ok (k : Nat) : SoundAt Tryz.prog k nop24.S :=
  runF_sound (X := ⟨types, nop24.G, nop24.A, k, 0, []⟩) types_ok (mem_all (⟨Cpu23.ok k, ⟨Named55.ok k, trivial⟩⟩)) (fn := Tryz.f24) (c := codeOf Tryz.f24) rfl (by kernel_rfl) rfl rfl nop24.dr (nop24.eq k)

def made6 (k : Nat) : Option tY107 :=
  (Cpu23 k).bind fun t4 =>
  (nop24 k).bind fun t5 =>
  (Make5 k t4.1 t5.1 512).bind fun t6 =>
  some ((cond (cond (cond (t6.1.2.1 == 0) (t6.1.1.2.2.1 == 2) false) t6.1.1.2.2.2.1 false) ((List.length t6.1.1.2.2.2.2 : Int) == 5) false), ())
def made6.A : Ann := { conds := [], blocks := [], loops := [], keeps := [1], orders := [] }
def made6.S : Sig := { f := 6, params := [], objs := [], res := .bool, outs := [], fix := [], run := fun k ds os => made6 k }
def made6.G : List Sig := [Cpu23.S, Make5.S, nop24.S]
theorem made6.eq (k : Nat) : ∀ ds os, made6.S.run k ds os = runF ⟨types, made6.G, made6.A, k, 0, []⟩ Tryz.f6 (codeOf Tryz.f6) made6.S.params made6.S.objs made6.S.res made6.S.outs ds os := by
  intro ds os; kernel_rfl
theorem made6.dr : DrOk Tryz.prog made6.A (codeOf Tryz.f6) := ⟨by kernel_rfl, by kernel_rfl⟩
theorem made6.ok (k : Nat) : SoundAt Tryz.prog k made6.S :=
  runF_sound (X := ⟨types, made6.G, made6.A, k, 0, []⟩) types_ok (mem_all (⟨Cpu23.ok k, ⟨Make5.ok k, ⟨nop24.ok k, trivial⟩⟩⟩)) (fn := Tryz.f6) (c := codeOf Tryz.f6) rfl (by kernel_rfl) rfl rfl made6.dr (made6.eq k)

def Loaded7.l0 (k : Nat) (b : tY109) (at_ : Int) : tY85 → Option (tY85 ⊕ tY92)
  | (_, t13, o0, _) =>
    cond (decide (t13 < (List.length b : Int)))
      ((rd b t13).bind fun t16 =>
      some (Sum.inl ((), (w64 (t13 + 1)), (mput kY46 kY46 o0 (Int.tmod (w64 (at_ + t13)) 65536) (w64 t16)), ())))
      (some (Sum.inr ((), o0, ())))
def Loaded7 (k : Nat) (b : tY109) (at_ : Int) : Option (Unit × tY99) :=
  Option.bind
    (loopN (Loaded7.l0 k b at_) k ((), 0, ([] : tY106), ()) : Option tY92) fun ((_, o0_1, _) : tY92) =>
  some ((), (), o0_1)
def Loaded7.A : Ann := { conds := [], blocks := [(0, ⟨[(5, .ptr 1 [])], [(0, .map kY46 kY46), (1, .var (.st (.mm 0)))], 2, [], 536862912⟩)], loops := [(3, ⟨[(5, .ptr 1 []), (13, .int .i64)], [(0, .map kY46 kY46), (1, .var (.st (.mm 0)))], 2, [], 536862912⟩)], keeps := [], orders := [] }
def Loaded7.S : Sig := { f := 7, params := [.sl kY47, .int .i64], objs := [], res := .ptr 0 [], outs := [.var kY45, .map kY46 kY46], fix := [], run := fun k ds os => Loaded7 k ds.1 ds.2 }
def Loaded7.G : List Sig := []
theorem Loaded7.eq (k : Nat) : ∀ ds os, Loaded7.S.run k ds os = runF ⟨types, Loaded7.G, Loaded7.A, k, 0, []⟩ Tryz.f7 (codeOf Tryz.f7) Loaded7.S.params Loaded7.S.objs Loaded7.S.res Loaded7.S.outs ds os := by
  intro ds os; kernel_rfl
theorem Loaded7.dr : DrOk Tryz.prog Loaded7.A (codeOf Tryz.f7) := ⟨by kernel_rfl, by kernel_rfl⟩
theorem Loaded7.ok (k : Nat) : SoundAt Tryz.prog k Loaded7.S :=
  runF_sound (X := ⟨types, Loaded7.G, Loaded7.A, k, 0, []⟩) types_ok (fun s hs => absurd hs List.not_mem_nil) (fn := Tryz.f7) (c := codeOf Tryz.f7) rfl (by kernel_rfl) rfl rfl Loaded7.dr (Loaded7.eq k)
end Go.Proofs.YtofendipdfepoaaGreat.Tr

/- Go functions as plain Lean functions, and their contracts. -/
set_option linter.unusedVariables false
set_option maxRecDepth 100000
noncomputable section
namespace Go.Proofs.YtofendipdfepoaaGreat.Tr
open Go Go.Proofs.YtofendipdfepoaaGreat.Gp
def shaped158 (k : Nat) (x : tY78) : Option tY107 :=
  some ((cond (cond (cond (cond (cond (decide (x.2.1 < 0)) true (decide (x.2.1 > 2))) true (decide (x.2.2.1 < 0))) true (decide (x.2.2.1 ≥ 12))) true (decide (x.2.2.2.1 < 0))) true (decide (x.2.2.2.1 ≥ 9))), ())
def shaped158.A : Ann := { conds := [], blocks := [], loops := [], keeps := [1], orders := [] }
def shaped158.S : Sig := { f := 58, params := [.st kY13], objs := [], res := .bool, outs := [], fix := [], run := fun k ds os => shaped158 k ds }
def shaped158.G : List Sig := []
theorem shaped158.eq (k : Nat) : ∀ ds os, shaped158.S.run k ds os = runF ⟨types, shaped158.G, shaped158.A, k, 0, []⟩ Tryz.f58 (codeOf Tryz.f58) shaped158.S.params shaped158.S.objs shaped158.S.res shaped158.S.outs ds os := by
  intro ds os; kernel_rfl
theorem shaped158.dr : DrOk Tryz.prog shaped158.A (codeOf Tryz.f58) := ⟨by kernel_rfl, by kernel_rfl⟩
theorem shaped158.ok (k : Nat) : SoundAt Tryz.prog k shaped158.S :=
  runF_sound (X := ⟨types, shaped158.G, shaped158.A, k, 0, []⟩) types_ok (fun s hs => absurd hs List.not_mem_nil) (fn := Tryz.f58) (c := codeOf Tryz.f58) rfl (by kernel_rfl) rfl rfl shaped158.dr (shaped158.eq k)

def IndexFunc101.l0 (k : Nat) (s : tY75) : (Unit × Int) → Option ((Unit × Int) ⊕ tY103)
  | (_, t8) =>
    cond (decide (t8 < (List.length s : Int)))
      ((rd s t8).bind fun t14 =>
      (shaped158 k t14).bind fun t16 =>
      cond t16.1
        (some (Sum.inr (Sum.inr (t8, ()))))
        (some (Sum.inl ((), (w64 (t8 + 1))))))
      (some (Sum.inr (Sum.inl ())))
def IndexFunc101 (k : Nat) (s : tY75) (_ : Unit) : Option tY108 :=
  Option.bind
    (loopN (IndexFunc101.l0 k s) k ((), 0) : Option tY103) (joined fun (_ : Unit) =>
    some ((-1), ()))
def IndexFunc101.A : Ann := { conds := [], blocks := [(0, ⟨[], [], 0, [], 524080⟩)], loops := [(2, ⟨[(1, .fn 58 .unit), (8, .int .i64)], [], 0, [], 524080⟩)], keeps := [], orders := [] }
def IndexFunc101.S : Sig := { f := 101, params := [.sl kY11, .fn 58 .unit], objs := [], res := .int .i64, outs := [], fix := [], run := fun k ds os => IndexFunc101 k ds.1 ds.2 }
def IndexFunc101.G : List Sig := [shaped158.S]
theorem IndexFunc101.eq (k : Nat) : ∀ ds os, IndexFunc101.S.run k ds os = runF ⟨types, IndexFunc101.G, IndexFunc101.A, k, 0, []⟩ Tryz.f101 (codeOf Tryz.f101) IndexFunc101.S.params IndexFunc101.S.objs IndexFunc101.S.res IndexFunc101.S.outs ds os := by
  intro ds os; kernel_rfl
theorem IndexFunc101.dr : DrOk Tryz.prog IndexFunc101.A (codeOf Tryz.f101) := ⟨by kernel_rfl, by kernel_rfl⟩
theorem IndexFunc101.ok (k : Nat) : SoundAt Tryz.prog k IndexFunc101.S :=
  runF_sound (X := ⟨types, IndexFunc101.G, IndexFunc101.A, k, 0, []⟩) types_ok (mem_all (⟨shaped158.ok k, trivial⟩)) (fn := Tryz.f101) (c := codeOf Tryz.f101) rfl (by kernel_rfl) rfl rfl IndexFunc101.dr (IndexFunc101.eq k)

def ContainsFunc57 (k : Nat) (s : tY75) (_ : Unit) : Option tY107 :=
  (IndexFunc101 k s ()).bind fun t7 =>
  some ((decide (t7.1 ≥ 0)), ())
def ContainsFunc57.A : Ann := { conds := [], blocks := [], loops := [], keeps := [], orders := [] }
def ContainsFunc57.S : Sig := { f := 57, params := [.sl kY11, .fn 58 .unit], objs := [], res := .bool, outs := [], fix := [], run := fun k ds os => ContainsFunc57 k ds.1 ds.2 }
def ContainsFunc57.G : List Sig := [IndexFunc101.S]
theorem ContainsFunc57.eq (k : Nat) : ∀ ds os, ContainsFunc57.S.run k ds os = runF ⟨types, ContainsFunc57.G, ContainsFunc57.A, k, 0, []⟩ Tryz.f57 (codeOf Tryz.f57) ContainsFunc57.S.params ContainsFunc57.S.objs ContainsFunc57.S.res ContainsFunc57.S.outs ds os := by
  intro ds os; kernel_rfl
theorem ContainsFunc57.dr : DrOk Tryz.prog ContainsFunc57.A (codeOf Tryz.f57) := ⟨by kernel_rfl, by kernel_rfl⟩
theorem ContainsFunc57.ok (k : Nat) : SoundAt Tryz.prog k ContainsFunc57.S :=
  runF_sound (X := ⟨types, ContainsFunc57.G, ContainsFunc57.A, k, 0, []⟩) types_ok (mem_all (⟨IndexFunc101.ok k, trivial⟩)) (fn := Tryz.f57) (c := codeOf Tryz.f57) rfl (by kernel_rfl) rfl rfl ContainsFunc57.dr (ContainsFunc57.eq k)

def shaped26 (k : Nat) (b : tY50) : Option tY107 :=
  (ContainsFunc57 k b.2.2.2.2 ()).bind fun t5 =>
  some ((!t5.1), ())
def shaped26.A : Ann := { conds := [], blocks := [], loops := [], keeps := [1], orders := [] }
def shaped26.S : Sig := { f := 26, params := [.st kY3], objs := [], res := .bool, outs := [], fix := [], run := fun k ds os => shaped26 k ds }
def shaped26.G : List Sig := [ContainsFunc57.S]
theorem shaped26.eq (k : Nat) : ∀ ds os, shaped26.S.run k ds os = runF ⟨types, shaped26.G, shaped26.A, k, 0, []⟩ Tryz.f26 (codeOf Tryz.f26) shaped26.S.params shaped26.S.objs shaped26.S.res shaped26.S.outs ds os := by
  intro ds os; kernel_rfl
theorem shaped26.dr : DrOk Tryz.prog shaped26.A (codeOf Tryz.f26) := ⟨by kernel_rfl, by kernel_rfl⟩
theorem shaped26.ok (k : Nat) : SoundAt Tryz.prog k shaped26.S :=
  runF_sound (X := ⟨types, shaped26.G, shaped26.A, k, 0, []⟩) types_ok (mem_all (⟨ContainsFunc57.ok k, trivial⟩)) (fn := Tryz.f26) (c := codeOf Tryz.f26) rfl (by kernel_rfl) rfl rfl shaped26.dr (shaped26.eq k)

def bits59 (k : Nat) (reg : Int) : Option tY108 :=
  (Wide76 k reg).bind fun t4 =>
  cond t4.1
    (some (16, ()))
    (some (8, ()))
def bits59.A : Ann := { conds := [], blocks := [], loops := [], keeps := [], orders := [] }
def bits59.S : Sig := { f := 59, params := [.int .i64], objs := [], res := .int .i64, outs := [], fix := [], run := fun k ds os => bits59 k ds }
def bits59.G : List Sig := [Wide76.S]
theorem bits59.eq (k : Nat) : ∀ ds os, bits59.S.run k ds os = runF ⟨types, bits59.G, bits59.A, k, 0, []⟩ Tryz.f59 (codeOf Tryz.f59) bits59.S.params bits59.S.objs bits59.S.res bits59.S.outs ds os := by
  intro ds os; kernel_rfl
theorem bits59.dr : DrOk Tryz.prog bits59.A (codeOf Tryz.f59) := ⟨by kernel_rfl, by kernel_rfl⟩
theorem bits59.ok (k : Nat) : SoundAt Tryz.prog k bits59.S :=
  runF_sound (X := ⟨types, bits59.G, bits59.A, k, 0, []⟩) types_ok (mem_all (⟨Wide76.ok k, trivial⟩)) (fn := Tryz.f59) (c := codeOf Tryz.f59) rfl (by kernel_rfl) rfl rfl bits59.dr (bits59.eq k)

def Fit27.l0 (k : Nat) : tY83 → Option (tY83 ⊕ tY89)
  | (_, _, t4, o0, o1) =>
    cond (decide (t4 < 9))
      ((if 0 ≤ t4 ∧ t4 < 9 then some () else none).bind fun _ =>
      (rd o0 t4).bind fun t10 =>
      (bits59 k t4).bind fun t12 =>
      (Low25 k t10 t12.1).bind fun t13 =>
      (if 0 ≤ t4 ∧ t4 < 9 then some () else none).bind fun _ =>
      (rd o0 t4).bind fun _ =>
      some (Sum.inl ((), (), (w64 (t4 + 1)), (List.set o0 (Int.toNat t4) t13.1), o1)))
      (some (Sum.inr ((), (), o0, o1)))
def Fit27 (k : Nat) (r : tY109) : Option tY105 :=
  Option.bind
    (loopN (Fit27.l0 k) k ((), (), 0, r, (List.replicate 9 0)) : Option tY89) fun ((_, _, o0_1, _) : tY89) =>
  some (o0_1, ())
def Fit27.A : Ann := { conds := [], blocks := [(0, ⟨[(1, .ptr 0 []), (2, .ptr 1 [])], [(0, .var kY42), (1, .var kY42)], 2, [], 65528⟩)], loops := [(2, ⟨[(1, .ptr 0 []), (2, .ptr 1 []), (4, .int .i64)], [(0, .var kY42), (1, .var kY42)], 2, [], 65528⟩)], keeps := [], orders := [(4, [(0, .strong), (1, .strong), (2, .strong), (3, .strong), (4, .strong), (5, .eff true), (6, .eff true), (7, .strong), (8, .eff false)])] }
def Fit27.S : Sig := { f := 27, params := [.arr 9 kY46], objs := [], res := .arr 9 kY46, outs := [], fix := [], run := fun k ds os => Fit27 k ds }
def Fit27.G : List Sig := [Low25.S, bits59.S]
theorem Fit27.eq (k : Nat) : ∀ ds os, Fit27.S.run k ds os = runF ⟨types, Fit27.G, Fit27.A, k, 0, []⟩ Tryz.f27 (codeOf Tryz.f27) Fit27.S.params Fit27.S.objs Fit27.S.res Fit27.S.outs ds os := by
  intro ds os; kernel_rfl
theorem Fit27.dr : DrOk Tryz.prog Fit27.A (codeOf Tryz.f27) := ⟨by kernel_rfl, by kernel_rfl⟩
theorem Fit27.ok (k : Nat) : SoundAt Tryz.prog k Fit27.S :=
  runF_sound (X := ⟨types, Fit27.G, Fit27.A, k, 0, []⟩) types_ok (mem_all (⟨Low25.ok k, ⟨bits59.ok k, trivial⟩⟩)) (fn := Tryz.f27) (c := codeOf Tryz.f27) rfl (by kernel_rfl) rfl rfl Fit27.dr (Fit27.eq k)

def fixed102 (k : Nat) (at_ : Int) : Option tY108 :=
  (rd ([65534, 65535, 65530, 65531, 65532, 65533] : List Int) (w64 (at_ - 6))).bind fun _ =>
  (rd ([65534, 65535, 65530, 65531, 65532, 65533] : List Int) (w64 (at_ - 6))).bind fun t7 =>
  some (t7, ())
def fixed102.A : Ann := { conds := [], blocks := [], loops := [], keeps := [], orders := [] }
def fixed102.S : Sig := { f := 102, params := [.int .i64], objs := [], res := .int .i64, outs := [], fix := [], run := fun k ds os => fixed102 k ds }
def fixed102.G : List Sig := []
theorem fixed102.eq (k : Nat) : ∀ ds os, fixed102.S.run k ds os = runF ⟨types, fixed102.G, fixed102.A, k, 0, []⟩ Tryz.f102 (codeOf Tryz.f102) fixed102.S.params fixed102.S.objs fixed102.S.res fixed102.S.outs ds os := by
  intro ds os; kernel_rfl
theorem fixed102.dr : DrOk Tryz.prog fixed102.A (codeOf Tryz.f102) := ⟨by kernel_rfl, by kernel_rfl⟩
theorem fixed102.ok (k : Nat) : SoundAt Tryz.prog k fixed102.S :=
  runF_sound (X := ⟨types, fixed102.G, fixed102.A, k, 0, []⟩) types_ok (fun s hs => absurd hs List.not_mem_nil) (fn := Tryz.f102) (c := codeOf Tryz.f102) rfl (by kernel_rfl) rfl rfl fixed102.dr (fixed102.eq k)

def place60 (k : Nat) (at_ : Int) (r : tY109) : Option ((Int × tY105) × Unit) :=
  cond (at_ == 0)
    ((if 0 ≤ 7 ∧ 7 < 9 then some () else none).bind fun _ =>
    (rd r 7).bind fun t12 =>
    (Low25 k (w64 (t12 + 1)) 16).bind fun t15 =>
    (if 0 ≤ 7 ∧ 7 < 9 then some () else none).bind fun _ =>
    (rd r 7).bind fun _ =>
    some ((t12, (List.set r (Int.toNat 7) t15.1), ()), ()))
    (cond (at_ == 1)
      ((if 0 ≤ 7 ∧ 7 < 9 then some () else none).bind fun _ =>
      (rd r 7).bind fun t22 =>
      some ((t22, r, ()), ()))
      (cond (at_ == 2)
        ((if 0 ≤ 8 ∧ 8 < 9 then some () else none).bind fun _ =>
        (rd r 8).bind fun t27 =>
        some ((t27, r, ()), ()))
        (cond (at_ == 3)
          ((if 0 ≤ 8 ∧ 8 < 9 then some () else none).bind fun _ =>
          (rd r 8).bind fun t32 =>
          (Low25 k (w64 (t32 + 1)) 16).bind fun t34 =>
          some ((t34.1, r, ()), ()))
          (cond (at_ == 4)
            ((if 0 ≤ 3 ∧ 3 < 9 then some () else none).bind fun _ =>
            (rd r 3).bind fun t39 =>
            (if 0 ≤ 3 ∧ 3 < 9 then some () else none).bind fun _ =>
            (rd r 3).bind fun t42 =>
            (Low25 k (w64 (t42 - 1)) 8).bind fun t44 =>
            (if 0 ≤ 3 ∧ 3 < 9 then some () else none).bind fun _ =>
            (rd r 3).bind fun _ =>
            some (((w64 (256 + t39)), (List.set r (Int.toNat 3) t44.1), ()), ()))
            (cond (at_ == 5)
              ((if 0 ≤ 3 ∧ 3 < 9 then some () else none).bind fun _ =>
              (rd r 3).bind fun t51 =>
              (Low25 k (w64 (t51 + 1)) 8).bind fun t53 =>
              (if 0 ≤ 3 ∧ 3 < 9 then some () else none).bind fun _ =>
              (rd r 3).bind fun _ =>
              (if 0 ≤ 3 ∧ 3 < 9 then some () else none).bind fun _ =>
              (rd (List.set r (Int.toNat 3) t53.1) 3).bind fun t56 =>
              some (((w64 (256 + t56)), (List.set r (Int.toNat 3) t53.1), ()), ()))
              ((fixed102 k at_).bind fun t60 =>
              some ((t60.1, r, ()), ())))))))
def place60.A : Ann := { conds := [], blocks := [], loops := [], keeps := [], orders := [(5, [(0, .strong), (1, .strong), (2, .strong), (3, .eff false)]), (7, [(0, .strong), (1, .strong), (2, .strong), (3, .strong), (4, .eff false)]), (9, [(0, .strong), (1, .strong), (2, .strong), (3, .strong), (4, .eff false)]), (11, [(0, .strong), (1, .strong), (2, .strong), (4, .strong), (3, .eff true), (5, .strong), (6, .eff false)]), (15, [(0, .strong), (1, .strong), (2, .strong), (3, .eff false)]), (18, [(0, .strong), (1, .strong), (2, .strong), (3, .strong), (4, .strong), (5, .eff false)]), (19, [(0, .strong), (2, .strong), (1, .eff true), (3, .strong), (4, .eff false)])] }
def place60.S : Sig := { f := 60, params := [.int .i64, .arr 9 kY46], objs := [], res := .tup kY31, outs := [], fix := [], run := fun k ds os => place60 k ds.1 ds.2 }
def place60.G : List Sig := [Low25.S, fixed102.S]
theorem place60.eq (k : Nat) : ∀ ds os, place60.S.run k ds os = runF ⟨types, place60.G, place60.A, k, 0, []⟩ Tryz.f60 (codeOf Tryz.f60) place60.S.params place60.S.objs place60.S.res place60.S.outs ds os := by
  intro ds os; kernel_rfl
theorem place60.dr : DrOk Tryz.prog place60.A (codeOf Tryz.f60) := ⟨by kernel_rfl, by kernel_rfl⟩
theorem place60.ok (k : Nat) : SoundAt Tryz.prog k place60.S :=
  runF_sound (X := ⟨types, place60.G, place60.A, k, 0, []⟩) types_ok (mem_all (⟨Low25.ok k, ⟨fixed102.ok k, trivial⟩⟩)) (fn := Tryz.f60) (c := codeOf Tryz.f60) rfl (by kernel_rfl) rfl rfl place60.dr (place60.eq k)
end Go.Proofs.YtofendipdfepoaaGreat.Tr

/- Go functions as plain Lean functions, and their contracts. -/
set_option linter.unusedVariables false
set_option maxRecDepth 100000
noncomputable section
namespace Go.Proofs.YtofendipdfepoaaGreat.Tr
open Go Go.Proofs.YtofendipdfepoaaGreat.Gp
def Read197 (k : Nat) (_ : Unit) (addr : Int) (o0 : Unit) (o1 : tY106) : Option (Int × tY99) :=
  let t13 : (Option Int) := (mget kY46 kY46 o1 addr)
  cond (Option.isSome t13)
    (some ((Option.getD (α := Int) t13 (0 : Int)), (), o1))
    (some ((Int.tmod (w64 ((w64 ((w64 (7 * addr)) + (quoI .i64 addr 256))) + 3)) 256), (), o1))
def Read197.A : Ann := { conds := [], blocks := [], loops := [], keeps := [], orders := [] }
def Read197.S : Sig := { f := 197, params := [.ptr 0 [], .int .i64], objs := [.var kY45, .map kY46 kY46], res := .int .i64, outs := [.var kY45, .map kY46 kY46], fix := [], run := fun k ds os => Read197 k ds.1 ds.2 os.1 os.2 }
def Read197.G : List Sig := []
theorem Read197.eq (k : Nat) : ∀ ds os, Read197.S.run k ds os = runF ⟨types, Read197.G, Read197.A, k, 0, []⟩ Tryz.f197 (codeOf Tryz.f197) Read197.S.params Read197.S.objs Read197.S.res Read197.S.outs ds os := by
  intro ds os; kernel_rfl
theorem Read197.dr : DrOk Tryz.prog Read197.A (codeOf Tryz.f197) := ⟨by kernel_rfl, by kernel_rfl⟩
theorem Read197.ok (k : Nat) : SoundAt Tryz.prog k Read197.S :=
  runF_sound (X := ⟨types, Read197.G, Read197.A, k, 0, []⟩) types_ok (fun s hs => absurd hs List.not_mem_nil) (fn := Tryz.f197) (c := codeOf Tryz.f197) rfl (by kernel_rfl) rfl rfl Read197.dr (Read197.eq k)

def Write198 (k : Nat) (_ : Unit) (addr : Int) (data : Int) (o0 : Unit) (o1 : tY106) : Option (Unit × tY99) :=
  some ((), (), (mput kY46 kY46 o1 addr data))
def Write198.A : Ann := { conds := [], blocks := [], loops := [], keeps := [], orders := [] }
def Write198.S : Sig := { f := 198, params := [.ptr 0 [], .int .i64, .int .i64], objs := [.var kY45, .map kY46 kY46], res := .tup .unit, outs := [.var kY45, .map kY46 kY46], fix := [], run := fun k ds os => Write198 k ds.1 ds.2.1 ds.2.2 os.1 os.2 }
def Write198.G : List Sig := []
theorem Write198.eq (k : Nat) : ∀ ds os, Write198.S.run k ds os = runF ⟨types, Write198.G, Write198.A, k, 0, []⟩ Tryz.f198 (codeOf Tryz.f198) Write198.S.params Write198.S.objs Write198.S.res Write198.S.outs ds os := by
  intro ds os; kernel_rfl
theorem Write198.dr : DrOk Tryz.prog Write198.A (codeOf Tryz.f198) := ⟨by kernel_rfl, by kernel_rfl⟩
theorem Write198.ok (k : Nat) : SoundAt Tryz.prog k Write198.S :=
  runF_sound (X := ⟨types, Write198.G, Write198.A, k, 0, []⟩) types_ok (fun s hs => absurd hs List.not_mem_nil) (fn := Tryz.f198) (c := codeOf Tryz.f198) rfl (by kernel_rfl) rfl rfl Write198.dr (Write198.eq k)

def index103 (k : Nat) (reg : Int) : Option tY108 :=
  some ((mxI 0 (mnI reg 8)), ())
def index103.A : Ann := { conds := [], blocks := [], loops := [], keeps := [], orders := [] }
def index103.S : Sig := { f := 103, params := [.int .i64], objs := [], res := .int .i64, outs := [], fix := [], run := fun k ds os => index103 k ds }
def index103.G : List Sig := []
theorem index103.eq (k : Nat) : ∀ ds os, index103.S.run k ds os = runF ⟨types, index103.G, index103.A, k, 0, []⟩ Tryz.f103 (codeOf Tryz.f103) index103.S.params index103.S.objs index103.S.res index103.S.outs ds os := by
  intro ds os; kernel_rfl
theorem index103.dr : DrOk Tryz.prog index103.A (codeOf Tryz.f103) := ⟨by kernel_rfl, by kernel_rfl⟩
theorem index103.ok (k : Nat) : SoundAt Tryz.prog k index103.S :=
  runF_sound (X := ⟨types, index103.G, index103.A, k, 0, []⟩) types_ok (fun s hs => absurd hs List.not_mem_nil) (fn := Tryz.f103) (c := codeOf Tryz.f103) rfl (by kernel_rfl) rfl rfl index103.dr (index103.eq k)

def flag107 (k : Nat) (r : tY109) (f : Int) (on : Bool) : Option tY105 :=
  (if 0 ≤ 4 ∧ 4 < 9 then some () else none).bind fun _ =>
  (rd r 4).bind fun t8 =>
  let t10 : Int := (ibits .andNot .i64 t8 f)
  (if 0 ≤ 4 ∧ 4 < 9 then some () else none).bind fun _ =>
  (rd r 4).bind fun _ =>
  Option.bind
    (cond on
      ((if 0 ≤ 4 ∧ 4 < 9 then some () else none).bind fun _ =>
      (rd (List.set r (Int.toNat 4) t10) 4).bind fun t14 =>
      (if 0 ≤ 4 ∧ 4 < 9 then some () else none).bind fun _ =>
      (rd (List.set r (Int.toNat 4) t10) 4).bind fun _ =>
      some ((), (), (List.set (List.set r (Int.toNat 4) t10) (Int.toNat 4) (ibits .or .i64 t14 f)), (List.replicate 9 0)))
      (some ((), (), (List.set r (Int.toNat 4) t10), (List.replicate 9 0))) : Option tY89) fun ((_, _, o0, _) : tY89) =>
  some (o0, ())
def flag107.A : Ann := { conds := [(786435, ⟨[(3, .ptr 0 []), (6, .ptr 1 [])], [(0, .var kY42), (1, .var kY42)], 2, [], 253952⟩)], blocks := [], loops := [], keeps := [], orders := [] }
def flag107.S : Sig := { f := 107, params := [.arr 9 kY46, .int .i64, .bool], objs := [], res := .arr 9 kY46, outs := [], fix := [], run := fun k ds os => flag107 k ds.1 ds.2.1 ds.2.2 }
def flag107.G : List Sig := []
theorem flag107.eq (k : Nat) : ∀ ds os, flag107.S.run k ds os = runF ⟨types, flag107.G, flag107.A, k, 0, []⟩ Tryz.f107 (codeOf Tryz.f107) flag107.S.params flag107.S.objs flag107.S.res flag107.S.outs ds os := by
  intro ds os; kernel_rfl
theorem flag107.dr : DrOk Tryz.prog flag107.A (codeOf Tryz.f107) := ⟨by kernel_rfl, by kernel_rfl⟩
theorem flag107.ok (k : Nat) : SoundAt Tryz.prog k flag107.S :=
  runF_sound (X := ⟨types, flag107.G, flag107.A, k, 0, []⟩) types_ok (fun s hs => absurd hs List.not_mem_nil) (fn := Tryz.f107) (c := codeOf Tryz.f107) rfl (by kernel_rfl) rfl rfl flag107.dr (flag107.eq k)

def nz104 (k : Nat) (r : tY109) (n : Int) : Option tY105 :=
  (flag107 k r 2 (n == 0)).bind fun t8 =>
  (flag107 k t8.1 128 (decide (n ≥ 128))).bind fun t11 =>
  some (t11.1, ())
def nz104.A : Ann := { conds := [], blocks := [], loops := [], keeps := [2], orders := [] }
def nz104.S : Sig := { f := 104, params := [.arr 9 kY46, .int .i64], objs := [], res := .arr 9 kY46, outs := [], fix := [], run := fun k ds os => nz104 k ds.1 ds.2 }
def nz104.G : List Sig := [flag107.S]
theorem nz104.eq (k : Nat) : ∀ ds os, nz104.S.run k ds os = runF ⟨types, nz104.G, nz104.A, k, 0, []⟩ Tryz.f104 (codeOf Tryz.f104) nz104.S.params nz104.S.objs nz104.S.res nz104.S.outs ds os := by
  intro ds os; kernel_rfl
theorem nz104.dr : DrOk Tryz.prog nz104.A (codeOf Tryz.f104) := ⟨by kernel_rfl, by kernel_rfl⟩
theorem nz104.ok (k : Nat) : SoundAt Tryz.prog k nz104.S :=
  runF_sound (X := ⟨types, nz104.G, nz104.A, k, 0, []⟩) types_ok (mem_all (⟨flag107.ok k, trivial⟩)) (fn := Tryz.f104) (c := codeOf Tryz.f104) rfl (by kernel_rfl) rfl rfl nz104.dr (nz104.eq k)

def carry141 (k : Nat) (r : tY109) : Option tY108 :=
  (rd r 4).bind fun t3 =>
  some ((ibits .and .i64 t3 1), ())
def carry141.A : Ann := { conds := [], blocks := [], loops := [], keeps := [1], orders := [] }
def carry141.S : Sig := { f := 141, params := [.arr 9 kY46], objs := [], res := .int .i64, outs := [], fix := [], run := fun k ds os => carry141 k ds }
def carry141.G : List Sig := []
theorem carry141.eq (k : Nat) : ∀ ds os, carry141.S.run k ds os = runF ⟨types, carry141.G, carry141.A, k, 0, []⟩ Tryz.f141 (codeOf Tryz.f141) carry141.S.params carry141.S.objs carry141.S.res carry141.S.outs ds os := by
  intro ds os; kernel_rfl
theorem carry141.dr : DrOk Tryz.prog carry141.A (codeOf Tryz.f141) := ⟨by kernel_rfl, by kernel_rfl⟩
theorem carry141.ok (k : Nat) : SoundAt Tryz.prog k carry141.S :=
  runF_sound (X := ⟨types, carry141.G, carry141.A, k, 0, []⟩) types_ok (fun s hs => absurd hs List.not_mem_nil) (fn := Tryz.f141) (c := codeOf Tryz.f141) rfl (by kernel_rfl) rfl rfl carry141.dr (carry141.eq k)

def Add140 (k : Nat) (a : Int) (b : Int) (carry : Int) (bits : Int) : Option tY96 :=
  (width56 k bits).bind fun t12 =>
  (Low25 k a t12.1).bind fun t15 =>
  (Low25 k b t12.1).bind fun t18 =>
  let t22 : Int := (w64 ((w64 (t15.1 + t18.1)) + (ibits .and .i64 carry 1)))
  (if t12.1 < 0 then none else some (shrI .i64 t22 t12.1)).bind fun t28 =>
  (Low25 k t22 t12.1).bind fun t25 =>
  some ((t25.1, t28, ()), ())
def Add140.A : Ann := { conds := [], blocks := [], loops := [], keeps := [], orders := [(3, [(0, .strong), (1, .strong), (3, .strong), (4, .strong), (5, .strong), (2, .eff true), (6, .strong), (7, .strong)])] }
def Add140.S : Sig := { f := 140, params := [.int .i64, .int .i64, .int .i64, .int .i64], objs := [], res := .tup kY37, outs := [], fix := [], run := fun k ds os => Add140 k ds.1 ds.2.1 ds.2.2.1 ds.2.2.2 }
def Add140.G : List Sig := [Low25.S, width56.S]
theorem Add140.eq (k : Nat) : ∀ ds os, Add140.S.run k ds os = runF ⟨types, Add140.G, Add140.A, k, 0, []⟩ Tryz.f140 (codeOf Tryz.f140) Add140.S.params Add140.S.objs Add140.S.res Add140.S.outs ds os := by
  intro ds os; kernel_rfl
theorem Add140.dr : DrOk Tryz.prog Add140.A (codeOf Tryz.f140) := ⟨by kernel_rfl, by kernel_rfl⟩
theorem Add140.ok (k : Nat) : SoundAt Tryz.prog k Add140.S :=
  runF_sound (X := ⟨types, Add140.G, Add140.A, k, 0, []⟩) types_ok (mem_all (⟨Low25.ok k, ⟨width56.ok k, trivial⟩⟩)) (fn := Tryz.f140) (c := codeOf Tryz.f140) rfl (by kernel_rfl) rfl rfl Add140.dr (Add140.eq k)

def result142 (k : Nat) (r : tY109) (to : Int) (n : Int) (c : Int) : Option tY105 :=
  (nz104 k r n).bind fun t11 =>
  (flag107 k t11.1 1 (c == 1)).bind fun t14 =>
  (if 0 ≤ to ∧ to < 9 then some () else none).bind fun _ =>
  (rd t14.1 to).bind fun _ =>
  some ((List.set t14.1 (Int.toNat to) n), ())
def result142.A : Ann := { conds := [], blocks := [], loops := [], keeps := [], orders := [] }
def result142.S : Sig := { f := 142, params := [.arr 9 kY46, .int .i64, .int .i64, .int .i64], objs := [], res := .arr 9 kY46, outs := [], fix := [], run := fun k ds os => result142 k ds.1 ds.2.1 ds.2.2.1 ds.2.2.2 }
def result142.G : List Sig := [flag107.S, nz104.S]
theorem result142.eq (k : Nat) : ∀ ds os, result142.S.run k ds os = runF ⟨types, result142.G, result142.A, k, 0, []⟩ Tryz.f142 (codeOf Tryz.f142) result142.S.params result142.S.objs result142.S.res result142.S.outs ds os := by
  intro ds os; kernel_rfl
theorem result142.dr : DrOk Tryz.prog result142.A (codeOf Tryz.f142) := ⟨by kernel_rfl, by kernel_rfl⟩
theorem result142.ok (k : Nat) : SoundAt Tryz.prog k result142.S :=
  runF_sound (X := ⟨types, result142.G, result142.A, k, 0, []⟩) types_ok (mem_all (⟨flag107.ok k, ⟨nz104.ok k, trivial⟩⟩)) (fn := Tryz.f142) (c := codeOf Tryz.f142) rfl (by kernel_rfl) rfl rfl result142.dr (result142.eq k)

def Sub143 (k : Nat) (a : Int) (b : Int) (borrow : Int) (bits : Int) : Option tY96 :=
  (width56 k bits).bind fun t12 =>
  (Low25 k a t12.1).bind fun t15 =>
  (Low25 k b t12.1).bind fun t18 =>
  let t22 : Int := (w64 ((w64 (t15.1 - t18.1)) - (ibits .and .i64 borrow 1)))
  cond (decide (t22 < 0))
    ((if t12.1 < 0 then none else some (shlI .i64 1 t12.1)).bind fun t27 =>
    some (((w64 (t22 + t27)), 1, ()), ()))
    (some ((t22, 0, ()), ()))
def Sub143.A : Ann := { conds := [], blocks := [], loops := [], keeps := [], orders := [] }
def Sub143.S : Sig := { f := 143, params := [.int .i64, .int .i64, .int .i64, .int .i64], objs := [], res := .tup kY37, outs := [], fix := [], run := fun k ds os => Sub143 k ds.1 ds.2.1 ds.2.2.1 ds.2.2.2 }
def Sub143.G : List Sig := [Low25.S, width56.S]
theorem Sub143.eq (k : Nat) : ∀ ds os, Sub143.S.run k ds os = runF ⟨types, Sub143.G, Sub143.A, k, 0, []⟩ Tryz.f143 (codeOf Tryz.f143) Sub143.S.params Sub143.S.objs Sub143.S.res Sub143.S.outs ds os := by
  intro ds os; kernel_rfl
theorem Sub143.dr : DrOk Tryz.prog Sub143.A (codeOf Tryz.f143) := ⟨by kernel_rfl, by kernel_rfl⟩
theorem Sub143.ok (k : Nat) : SoundAt Tryz.prog k Sub143.S :=
  runF_sound (X := ⟨types, Sub143.G, Sub143.A, k, 0, []⟩) types_ok (mem_all (⟨Low25.ok k, ⟨width56.ok k, trivial⟩⟩)) (fn := Tryz.f143) (c := codeOf Tryz.f143) rfl (by kernel_rfl) rfl rfl Sub143.dr (Sub143.eq k)
end Go.Proofs.YtofendipdfepoaaGreat.Tr

/- Go functions as plain Lean functions, and their contracts. -/
set_option linter.unusedVariables false
set_option maxRecDepth 100000
noncomputable section
namespace Go.Proofs.YtofendipdfepoaaGreat.Tr
open Go Go.Proofs.YtofendipdfepoaaGreat.Gp
def binary105 (k : Nat) (do_ : Int) (to : Int) (from_ : Int) (r : tY109) : Option tY105 :=
  (if 0 ≤ to ∧ to < 9 then some () else none).bind fun _ =>
  (rd r to).bind fun t19 =>
  (if 0 ≤ from_ ∧ from_ < 9 then some () else none).bind fun _ =>
  (rd r from_).bind fun t23 =>
  (Low25 k t19 8).bind fun t20 =>
  (Low25 k t23 8).bind fun t24 =>
  cond (do_ == 4)
    ((carry141 k r).bind fun t35 =>
    (Add140 k t20.1 t24.1 t35.1 8).bind fun t36 =>
    (result142 k r to t36.1.1 t36.1.2.1).bind fun t43 =>
    some (t43.1, ()))
    (cond (do_ == 5)
      ((carry141 k r).bind fun t50 =>
      (Sub143 k t20.1 t24.1 (w64 (1 - t50.1)) 8).bind fun t52 =>
      (result142 k r to t52.1.1 (w64 (1 - t52.1.2.1))).bind fun t60 =>
      some (t60.1, ()))
      (cond (do_ == 6)
        ((Sub143 k t20.1 t24.1 0 8).bind fun t66 =>
        (nz104 k r t66.1.1).bind fun t71 =>
        (flag107 k t71.1 1 (t66.1.2.1 == 0)).bind fun t74 =>
        some (t74.1, ()))
        (Option.bind
          (cond (do_ == 7)
            (some ((), (), (ibits .and .i64 t20.1 t24.1), r, (List.replicate 9 0)))
            (Option.bind
              (cond (do_ == 8)
                (some ((), (), (ibits .or .i64 t20.1 t24.1), r, (List.replicate 9 0)))
                (some ((), (), (ibits .xor .i64 t20.1 t24.1), r, (List.replicate 9 0))) : Option tY83) fun ((_, _, a, o0, o1) : tY83) =>
            some ((), (), a, o0, o1)) : Option tY83) fun ((_, _, a_1, o0_1, _) : tY83) =>
        (nz104 k o0_1 a_1).bind fun t87 =>
        (if 0 ≤ to ∧ to < 9 then some () else none).bind fun _ =>
        (rd t87.1 to).bind fun _ =>
        some ((List.set t87.1 (Int.toNat to) a_1), ()))))
def binary105.A : Ann := { conds := [(4915214, ⟨[(7, .ptr 0 []), (8, .ptr 1 []), (9, .int .i64)], [(0, .var kY42), (1, .var kY42)], 2, [], 38534510500216305413521920⟩), (5242896, ⟨[(7, .ptr 0 []), (8, .ptr 1 []), (9, .int .i64)], [(0, .var kY42), (1, .var kY42)], 2, [], 33849922949209617361535488⟩)], blocks := [], loops := [], keeps := [], orders := [(1, [(0, .strong), (1, .strong), (2, .strong), (4, .strong), (5, .strong), (6, .strong), (3, .eff true), (7, .eff true), (8, .strong), (9, .strong)])] }
def binary105.S : Sig := { f := 105, params := [.int .i64, .int .i64, .int .i64, .arr 9 kY46], objs := [], res := .arr 9 kY46, outs := [], fix := [], run := fun k ds os => binary105 k ds.1 ds.2.1 ds.2.2.1 ds.2.2.2 }
def binary105.G : List Sig := [Add140.S, Low25.S, Sub143.S, carry141.S, flag107.S, nz104.S, result142.S]
theorem binary105.eq (k : Nat) : ∀ ds os, binary105.S.run k ds os = runF ⟨types, binary105.G, binary105.A, k, 0, []⟩ Tryz.f105 (codeOf Tryz.f105) binary105.S.params binary105.S.objs binary105.S.res binary105.S.outs ds os := by
  intro ds os; kernel_rfl
theorem binary105.dr : DrOk Tryz.prog binary105.A (codeOf Tryz.f105) := ⟨by kernel_rfl, by kernel_rfl⟩
theorem binary105.ok (k : Nat) : SoundAt Tryz.prog k binary105.S :=
  runF_sound (X := ⟨types, binary105.G, binary105.A, k, 0, []⟩) types_ok (mem_all (⟨Add140.ok k, ⟨Low25.ok k, ⟨Sub143.ok k, ⟨carry141.ok k, ⟨flag107.ok k, ⟨nz104.ok k, ⟨result142.ok k, trivial⟩⟩⟩⟩⟩⟩⟩)) (fn := Tryz.f105) (c := codeOf Tryz.f105) rfl (by kernel_rfl) rfl rfl binary105.dr (binary105.eq k)

def Rol144 (k : Nat) (n : Int) (carry : Int) (bits : Int) : Option tY96 :=
  (width56 k bits).bind fun t9 =>
  (Low25 k n t9.1).bind fun t12 =>
  let t16 : Int := (ibits .or .i64 (shlI .i64 t12.1 1) (ibits .and .i64 carry 1))
  (if t9.1 < 0 then none else some (shrI .i64 t16 t9.1)).bind fun t22 =>
  (Low25 k t16 t9.1).bind fun t19 =>
  some ((t19.1, t22, ()), ())
def Rol144.A : Ann := { conds := [], blocks := [], loops := [], keeps := [], orders := [(3, [(0, .strong), (1, .strong), (3, .strong), (4, .strong), (5, .strong), (2, .eff true), (6, .strong), (7, .strong)])] }
def Rol144.S : Sig := { f := 144, params := [.int .i64, .int .i64, .int .i64], objs := [], res := .tup kY37, outs := [], fix := [], run := fun k ds os => Rol144 k ds.1 ds.2.1 ds.2.2 }
def Rol144.G : List Sig := [Low25.S, width56.S]
theorem Rol144.eq (k : Nat) : ∀ ds os, Rol144.S.run k ds os = runF ⟨types, Rol144.G, Rol144.A, k, 0, []⟩ Tryz.f144 (codeOf Tryz.f144) Rol144.S.params Rol144.S.objs Rol144.S.res Rol144.S.outs ds os := by
  intro ds os; kernel_rfl
theorem Rol144.dr : DrOk Tryz.prog Rol144.A (codeOf Tryz.f144) := ⟨by kernel_rfl, by kernel_rfl⟩
theorem Rol144.ok (k : Nat) : SoundAt Tryz.prog k Rol144.S :=
  runF_sound (X := ⟨types, Rol144.G, Rol144.A, k, 0, []⟩) types_ok (mem_all (⟨Low25.ok k, ⟨width56.ok k, trivial⟩⟩)) (fn := Tryz.f144) (c := codeOf Tryz.f144) rfl (by kernel_rfl) rfl rfl Rol144.dr (Rol144.eq k)

def Ror145 (k : Nat) (n : Int) (carry : Int) (bits : Int) : Option tY96 :=
  (width56 k bits).bind fun t9 =>
  (if t9.1 < 0 then none else some (shlI .i64 (ibits .and .i64 carry 1) t9.1)).bind fun t16 =>
  (Low25 k n t9.1).bind fun t12 =>
  let t17 : Int := (ibits .or .i64 t12.1 t16)
  some (((shrI .i64 t17 1), (ibits .and .i64 t17 1), ()), ())
def Ror145.A : Ann := { conds := [], blocks := [], loops := [], keeps := [], orders := [(2, [(0, .strong), (1, .strong), (3, .strong), (4, .strong), (5, .strong), (6, .strong), (2, .eff true), (7, .strong), (8, .strong)])] }
def Ror145.S : Sig := { f := 145, params := [.int .i64, .int .i64, .int .i64], objs := [], res := .tup kY37, outs := [], fix := [], run := fun k ds os => Ror145 k ds.1 ds.2.1 ds.2.2 }
def Ror145.G : List Sig := [Low25.S, width56.S]
theorem Ror145.eq (k : Nat) : ∀ ds os, Ror145.S.run k ds os = runF ⟨types, Ror145.G, Ror145.A, k, 0, []⟩ Tryz.f145 (codeOf Tryz.f145) Ror145.S.params Ror145.S.objs Ror145.S.res Ror145.S.outs ds os := by
  intro ds os; kernel_rfl
theorem Ror145.dr : DrOk Tryz.prog Ror145.A (codeOf Tryz.f145) := ⟨by kernel_rfl, by kernel_rfl⟩
theorem Ror145.ok (k : Nat) : SoundAt Tryz.prog k Ror145.S :=
  runF_sound (X := ⟨types, Ror145.G, Ror145.A, k, 0, []⟩) types_ok (mem_all (⟨Low25.ok k, ⟨width56.ok k, trivial⟩⟩)) (fn := Tryz.f145) (c := codeOf Tryz.f145) rfl (by kernel_rfl) rfl rfl Ror145.dr (Ror145.eq k)

def shift106 (k : Nat) (do_ : Int) (to : Int) (r : tY109) : Option tY105 :=
  (carry141 k r).bind fun t13 =>
  Option.bind
    (cond (cond (do_ == 12) true (do_ == 13))
      (some (r, (), 0, (List.replicate 9 0)))
      (some (r, (), t13.1, (List.replicate 9 0))) : Option tY90) fun ((r_1, _, c, _) : tY90) =>
  cond (cond (do_ == 12) true (do_ == 14))
    ((rd r_1 to).bind fun t28 =>
    (Rol144 k t28 c 8).bind fun t31 =>
    (result142 k r_1 to t31.1.1 t31.1.2.1).bind fun t38 =>
    some (t38.1, ()))
    ((rd r_1 to).bind fun t41 =>
    (Ror145 k t41 c 8).bind fun t44 =>
    (result142 k r_1 to t44.1.1 t44.1.2.1).bind fun t51 =>
    some (t51.1, ()))
def shift106.A : Ann := { conds := [(1245187, ⟨[(5, .fp kY42), (6, .ptr 0 []), (7, .int .i64)], [(0, .var kY42)], 1, [], 128⟩)], blocks := [], loops := [], keeps := [5], orders := [] }
def shift106.S : Sig := { f := 106, params := [.int .i64, .int .i64, .arr 9 kY46], objs := [], res := .arr 9 kY46, outs := [], fix := [], run := fun k ds os => shift106 k ds.1 ds.2.1 ds.2.2 }
def shift106.G : List Sig := [Rol144.S, Ror145.S, carry141.S, result142.S]
theorem shift106.eq (k : Nat) : ∀ ds os, shift106.S.run k ds os = runF ⟨types, shift106.G, shift106.A, k, 0, []⟩ Tryz.f106 (codeOf Tryz.f106) shift106.S.params shift106.S.objs shift106.S.res shift106.S.outs ds os := by
  intro ds os; kernel_rfl
theorem shift106.dr : DrOk Tryz.prog shift106.A (codeOf Tryz.f106) := ⟨by kernel_rfl, by kernel_rfl⟩
theorem shift106.ok (k : Nat) : SoundAt Tryz.prog k shift106.S :=
  runF_sound (X := ⟨types, shift106.G, shift106.A, k, 0, []⟩) types_ok (mem_all (⟨Rol144.ok k, ⟨Ror145.ok k, ⟨carry141.ok k, ⟨result142.ok k, trivial⟩⟩⟩⟩)) (fn := Tryz.f106) (c := codeOf Tryz.f106) rfl (by kernel_rfl) rfl rfl shift106.dr (shift106.eq k)

def Put108 (k : Nat) (n : Int) (at_ : Int) (size : Int) (v : Int) : Option tY108 :=
  (place146 k at_ size).bind fun t13 =>
  (if t13.1.2.1 < 0 then none else some (shlI .i64 1 t13.1.2.1)).bind fun t17 =>
  (if t13.1.1 < 0 then none else some (shlI .i64 (w64 (t17 - 1)) t13.1.1)).bind fun t20 =>
  (Low25 k n 62).bind fun t22 =>
  (Low25 k v t13.1.2.1).bind fun t27 =>
  (if t13.1.1 < 0 then none else some (shlI .i64 t27.1 t13.1.1)).bind fun t29 =>
  some ((ibits .or .i64 (ibits .andNot .i64 t22.1 t20) t29), ())
def Put108.A : Ann := { conds := [], blocks := [], loops := [], keeps := [], orders := [] }
def Put108.S : Sig := { f := 108, params := [.int .i64, .int .i64, .int .i64, .int .i64], objs := [], res := .int .i64, outs := [], fix := [], run := fun k ds os => Put108 k ds.1 ds.2.1 ds.2.2.1 ds.2.2.2 }
def Put108.G : List Sig := [Low25.S, place146.S]
theorem Put108.eq (k : Nat) : ∀ ds os, Put108.S.run k ds os = runF ⟨types, Put108.G, Put108.A, k, 0, []⟩ Tryz.f108 (codeOf Tryz.f108) Put108.S.params Put108.S.objs Put108.S.res Put108.S.outs ds os := by
  intro ds os; kernel_rfl
theorem Put108.dr : DrOk Tryz.prog Put108.A (codeOf Tryz.f108) := ⟨by kernel_rfl, by kernel_rfl⟩
theorem Put108.ok (k : Nat) : SoundAt Tryz.prog k Put108.S :=
  runF_sound (X := ⟨types, Put108.G, Put108.A, k, 0, []⟩) types_ok (mem_all (⟨Low25.ok k, ⟨place146.ok k, trivial⟩⟩)) (fn := Tryz.f108) (c := codeOf Tryz.f108) rfl (by kernel_rfl) rfl rfl Put108.dr (Put108.eq k)
end Go.Proofs.YtofendipdfepoaaGreat.Tr

/- Go functions as plain Lean functions, and their contracts. -/
set_option linter.unusedVariables false
set_option maxRecDepth 100000
noncomputable section
namespace Go.Proofs.YtofendipdfepoaaGreat.Tr
open Go Go.Proofs.YtofendipdfepoaaGreat.Gp
def Do61 (k : Nat) (s : tY98) (r : tY109) : Option ((tY109 × tY107) × Unit) :=
  (index103 k s.2.1).bind fun t11 =>
  (index103 k s.2.2.1).bind fun t14 =>
  (Fit27 k r).bind fun t16 =>
  Option.bind
    (cond (s.1 == 1)
      ((if 0 ≤ t14.1 ∧ t14.1 < 9 then some () else none).bind fun _ =>
      (rd t16.1 t14.1).bind fun t24 =>
      (if 0 ≤ t11.1 ∧ t11.1 < 9 then some () else none).bind fun _ =>
      (rd t16.1 t11.1).bind fun _ =>
      some (Sum.inl ((), (), (List.set t16.1 (Int.toNat t11.1) t24), (List.replicate 9 0))))
      (Option.bind
        (cond (s.1 == 2)
          ((if 0 ≤ t11.1 ∧ t11.1 < 9 then some () else none).bind fun _ =>
          (rd t16.1 t11.1).bind fun _ =>
          some (Sum.inl ((), (), (List.set t16.1 (Int.toNat t11.1) s.2.2.2), (List.replicate 9 0))))
          (Option.bind
            (cond (s.1 == 3)
              ((if 0 ≤ t11.1 ∧ t11.1 < 9 then some () else none).bind fun _ =>
              (rd t16.1 t11.1).bind fun t37 =>
              (Low25 k t37 8).bind fun t38 =>
              (nz104 k t16.1 t38.1).bind fun t39 =>
              some (Sum.inl ((), (), t39.1, (List.replicate 9 0))))
              (Option.bind
                (cond (s.1 == 4)
                  (some (s, (), (), (s.1 == 4), t16.1, (List.replicate 9 0)))
                  (Option.bind
                    (cond (s.1 == 5)
                      (some (s, (), (), (s.1 == 5), t16.1, (List.replicate 9 0)))
                      (Option.bind
                        (cond (s.1 == 6)
                          (some (s, (), (), (s.1 == 6), t16.1, (List.replicate 9 0)))
                          (Option.bind
                            (cond (s.1 == 7)
                              (some (s, (), (), (s.1 == 7), t16.1, (List.replicate 9 0)))
                              (Option.bind
                                (cond (s.1 == 8)
                                  (some (s, (), (), (s.1 == 8), t16.1, (List.replicate 9 0)))
                                  (some (s, (), (), (s.1 == 9), t16.1, (List.replicate 9 0))) : Option tY67) fun ((s_1, _, _, t40, o0, o1) : tY67) =>
                              some (s_1, (), (), t40, o0, o1)) : Option tY67) fun ((s_2, _, _, t40_1, o0_1, o1_1) : tY67) =>
                          some (s_2, (), (), t40_1, o0_1, o1_1)) : Option tY67) fun ((s_3, _, _, t40_2, o0_2, o1_2) : tY67) =>
                      some (s_3, (), (), t40_2, o0_2, o1_2)) : Option tY67) fun ((s_4, _, _, t40_3, o0_3, o1_3) : tY67) =>
                  some (s_4, (), (), t40_3, o0_3, o1_3)) : Option tY67) fun ((s_5, _, _, t40_4, o0_4, o1_4) : tY67) =>
              Option.bind
                (cond t40_4
                  ((binary105 k s_5.1 t11.1 t14.1 o0_4).bind fun t52 =>
                  some (Sum.inl ((), (), t52.1, o1_4)))
                  (Option.bind
                    (cond (s.1 == 10)
                      (some (s_5, (), (), (s.1 == 10), o0_4, o1_4))
                      (some (s_5, (), (), (s.1 == 11), o0_4, o1_4)) : Option tY67) fun ((s_6, _, _, t53, o0_5, o1_5) : tY67) =>
                  Option.bind
                    (cond t53
                      ((if 0 ≤ t11.1 ∧ t11.1 < 9 then some () else none).bind fun _ =>
                      (rd o0_5 t11.1).bind fun t58 =>
                      (bits59 k t11.1).bind fun t66 =>
                      (Low25 k (w64 ((w64 (t58 + 1)) - (w64 (2 * (w64 (s_6.1 - 10)))))) t66.1).bind fun t67 =>
                      (Wide76 k t11.1).bind fun t69 =>
                      Option.bind
                        (cond (!t69.1)
                          ((nz104 k o0_5 t67.1).bind fun t73 =>
                          some ((), (), t73.1, o1_5))
                          (some ((), (), o0_5, o1_5)) : Option tY89) fun ((_, _, o0_6, o1_6) : tY89) =>
                      (if 0 ≤ t11.1 ∧ t11.1 < 9 then some () else none).bind fun _ =>
                      (rd o0_6 t11.1).bind fun _ =>
                      some (Sum.inl ((), (), (List.set o0_6 (Int.toNat t11.1) t67.1), o1_6)))
                      (Option.bind
                        (cond (s.1 == 12)
                          (some (s_6, (), (), (s.1 == 12), o0_5, o1_5))
                          (Option.bind
                            (cond (s.1 == 13)
                              (some (s_6, (), (), (s.1 == 13), o0_5, o1_5))
                              (Option.bind
                                (cond (s.1 == 14)
                                  (some (s_6, (), (), (s.1 == 14), o0_5, o1_5))
                                  (some (s_6, (), (), (s.1 == 15), o0_5, o1_5)) : Option tY67) fun ((s_7, _, _, t77, o0_7, o1_7) : tY67) =>
                              some (s_7, (), (), t77, o0_7, o1_7)) : Option tY67) fun ((s_8, _, _, t77_1, o0_8, o1_8) : tY67) =>
                          some (s_8, (), (), t77_1, o0_8, o1_8)) : Option tY67) fun ((s_9, _, _, t77_2, o0_9, o1_9) : tY67) =>
                      Option.bind
                        (cond t77_2
                          ((shift106 k s_9.1 t11.1 o0_9).bind fun t86 =>
                          some (Sum.inl ((), (), t86.1, o1_9)))
                          (Option.bind
                            (cond (s.1 == 16)
                              (some (s_9, (), (), (s.1 == 16), o0_9, o1_9))
                              (some (s_9, (), (), (s.1 == 17), o0_9, o1_9)) : Option tY67) fun ((s_10, _, _, t87, o0_10, o1_10) : tY67) =>
                          Option.bind
                            (cond t87
                              ((Low25 k s_10.2.2.2 8).bind fun t93 =>
                              (flag107 k o0_10 t93.1 (s_10.1 == 16)).bind fun t97 =>
                              some (Sum.inl ((), (), t97.1, o1_10)))
                              (Option.bind
                                (cond (s.1 == 18)
                                  (some (s_10, (), (), (s.1 == 18), o0_10, o1_10))
                                  (some (s_10, (), (), (s.1 == 19), o0_10, o1_10)) : Option tY67) fun ((s_11, _, _, t98, o0_11, o1_11) : tY67) =>
                              Option.bind
                                (cond t98
                                  ((if 0 ≤ t11.1 ∧ t11.1 < 9 then some () else none).bind fun _ =>
                                  (rd o0_11 t11.1).bind fun t104 =>
                                  (if 0 ≤ t14.1 ∧ t14.1 < 9 then some () else none).bind fun _ =>
                                  (rd o0_11 t14.1).bind fun t111 =>
                                  (Put108 k t104 (w64 (8 * (w64 (s_11.1 - 18)))) 8 t111).bind fun t112 =>
                                  (if 0 ≤ t11.1 ∧ t11.1 < 9 then some () else none).bind fun _ =>
                                  (rd o0_11 t11.1).bind fun _ =>
                                  some (Sum.inl ((), (), (List.set o0_11 (Int.toNat t11.1) t112.1), o1_11)))
                                  (Option.bind
                                    (cond (s.1 == 20)
                                      (some (s_11, (), (), (s.1 == 20), o0_11, o1_11))
                                      (some (s_11, (), (), (s.1 == 21), o0_11, o1_11)) : Option tY67) fun ((s_12, _, _, t114, o0_12, o1_12) : tY67) =>
                                  Option.bind
                                    (cond t114
                                      ((if 0 ≤ t14.1 ∧ t14.1 < 9 then some () else none).bind fun _ =>
                                      (rd o0_12 t14.1).bind fun t120 =>
                                      (Get109 k t120 (w64 (8 * (w64 (s_12.1 - 20)))) 8).bind fun t125 =>
                                      (if 0 ≤ t11.1 ∧ t11.1 < 9 then some () else none).bind fun _ =>
                                      (rd o0_12 t11.1).bind fun _ =>
                                      some (Sum.inl ((), (), (List.set o0_12 (Int.toNat t11.1) t125.1), o1_12)))
                                      (Option.bind
                                        (cond (s.1 == 22)
                                          ((if 0 ≤ t11.1 ∧ t11.1 < 9 then some () else none).bind fun _ =>
                                          (rd o0_12 t11.1).bind fun t131 =>
                                          (if 0 ≤ t14.1 ∧ t14.1 < 9 then some () else none).bind fun _ =>
                                          (rd o0_12 t14.1).bind fun t134 =>
                                          (Low25 k t134 8).bind fun t135 =>
                                          (if 0 ≤ t11.1 ∧ t11.1 < 9 then some () else none).bind fun _ =>
                                          (rd o0_12 t11.1).bind fun _ =>
                                          some (Sum.inl ((), (), (List.set o0_12 (Int.toNat t11.1) (w64 (t131 + t135.1))), o1_12)))
                                          (Option.bind
                                            (cond (s.1 == 23)
                                              ((if 0 ≤ t11.1 ∧ t11.1 < 9 then some () else none).bind fun _ =>
                                              (rd o0_12 t11.1).bind fun t142 =>
                                              (if 0 ≤ t14.1 ∧ t14.1 < 9 then some () else none).bind fun _ =>
                                              (rd o0_12 t14.1).bind fun t145 =>
                                              (Signed110 k t145 8).bind fun t146 =>
                                              (if 0 ≤ t11.1 ∧ t11.1 < 9 then some () else none).bind fun _ =>
                                              (rd o0_12 t11.1).bind fun _ =>
                                              some (Sum.inl ((), (), (List.set o0_12 (Int.toNat t11.1) (w64 (t142 + t146.1))), o1_12)))
                                              (cond (s.1 == 24)
                                                ((if 0 ≤ 4 ∧ 4 < 9 then some () else none).bind fun _ =>
                                                (rd o0_12 4).bind fun t153 =>
                                                (Low25 k s_12.2.2.2 8).bind fun t156 =>
                                                some (Sum.inr (Sum.inr (Sum.inr (Sum.inr (Sum.inr (Sum.inr (Sum.inr (Sum.inr (Sum.inr (Sum.inr (Sum.inr ((o0_12, (xor true (((ibits .and .i64 t153 t156.1) != 0) == (s_12.2.2.1 == 1))), ()), ())))))))))))))
                                                (some (Sum.inl ((), (), o0_12, o1_12)))) : Option (tY89 ⊕ tY7)) (joined fun ((_, _, o0_13, o1_13) : tY89) =>
                                            some (Sum.inl ((), (), o0_13, o1_13)))) : Option tY7) (joined fun ((_, _, o0_14, o1_14) : tY89) =>
                                        some (Sum.inl ((), (), o0_14, o1_14)))) : Option (tY89 ⊕ tY16)) (joined fun ((_, _, o0_15, o1_15) : tY89) =>
                                    some (Sum.inl ((), (), o0_15, o1_15)))) : Option tY16) (joined fun ((_, _, o0_16, o1_16) : tY89) =>
                                some (Sum.inl ((), (), o0_16, o1_16)))) : Option (tY89 ⊕ tY20)) (joined fun ((_, _, o0_17, o1_17) : tY89) =>
                            some (Sum.inl ((), (), o0_17, o1_17)))) : Option tY20) (joined fun ((_, _, o0_18, o1_18) : tY89) =>
                        some (Sum.inl ((), (), o0_18, o1_18)))) : Option (tY89 ⊕ tY24)) (joined fun ((_, _, o0_19, o1_19) : tY89) =>
                    some (Sum.inl ((), (), o0_19, o1_19)))) : Option tY24) (joined fun ((_, _, o0_20, o1_20) : tY89) =>
                some (Sum.inl ((), (), o0_20, o1_20)))) : Option (tY89 ⊕ tY44)) (joined fun ((_, _, o0_21, o1_21) : tY89) =>
            some (Sum.inl ((), (), o0_21, o1_21)))) : Option tY44) (joined fun ((_, _, o0_22, o1_22) : tY89) =>
        some (Sum.inl ((), (), o0_22, o1_22)))) : Option (tY89 ⊕ ((tY109 × tY107) × Unit))) (joined fun ((_, _, o0_23, _) : tY89) =>
    (Fit27 k o0_23).bind fun t164 =>
    some ((t164.1, false, ()), ()))
def Do61.A : Ann := { conds := [(1245189, ⟨[(3, .ptr 0 []), (4, .ptr 1 [])], [(0, .var kY42), (1, .var kY42)], 2, [], 11692013098647223345629478661730264157247458246944⟩), (1703943, ⟨[(3, .ptr 0 []), (4, .ptr 1 [])], [(0, .var kY42), (1, .var kY42)], 2, [], 11692013098647223345629478661730264157247191908640⟩), (2097161, ⟨[(3, .ptr 0 []), (4, .ptr 1 [])], [(0, .var kY42), (1, .var kY42)], 2, [], 11692013098647223345629478661730264157230280474912⟩), (2621451, ⟨[(2, .fp kY21), (3, .ptr 0 []), (4, .ptr 1 []), (40, .bool)], [(0, .var kY42), (1, .var kY42)], 2, [], 137438953472000⟩), (2621452, ⟨[(2, .fp kY21), (3, .ptr 0 []), (4, .ptr 1 []), (40, .bool)], [(0, .var kY42), (1, .var kY42)], 2, [], 133040906960896⟩), (2621453, ⟨[(2, .fp kY21), (3, .ptr 0 []), (4, .ptr 1 []), (40, .bool)], [(0, .var kY42), (1, .var kY42)], 2, [], 124244813938688⟩), (2621454, ⟨[(2, .fp kY21), (3, .ptr 0 []), (4, .ptr 1 []), (40, .bool)], [(0, .var kY42), (1, .var kY42)], 2, [], 106652627894272⟩), (2621455, ⟨[(2, .fp kY21), (3, .ptr 0 []), (4, .ptr 1 []), (40, .bool)], [(0, .var kY42), (1, .var kY42)], 2, [], 71468255805440⟩), (2621456, ⟨[(3, .ptr 0 []), (4, .ptr 1 [])], [(0, .var kY42), (1, .var kY42)], 2, [], 11692013098647223345629478661730264016509971988768⟩), (3473426, ⟨[(2, .fp kY21), (3, .ptr 0 []), (4, .ptr 1 []), (53, .bool)], [(0, .var kY42), (1, .var kY42)], 2, [], 45035996273704960⟩), (3473427, ⟨[(3, .ptr 0 []), (4, .ptr 1 [])], [(0, .var kY42), (1, .var kY42)], 2, [], 11692013098647223345629478661730192099653422416160⟩), (4587541, ⟨[(3, .ptr 0 []), (4, .ptr 1 [])], [(0, .var kY42), (1, .var kY42)], 2, [], 16528282690043758247936⟩), (5046296, ⟨[(2, .fp kY21), (3, .ptr 0 []), (4, .ptr 1 []), (77, .bool)], [(0, .var kY42), (1, .var kY42)], 2, [], 4382356096103030758309888⟩), (5046297, ⟨[(2, .fp kY21), (3, .ptr 0 []), (4, .ptr 1 []), (77, .bool)], [(0, .var kY42), (1, .var kY42)], 2, [], 3777893186295716170956800⟩), (5046298, ⟨[(2, .fp kY21), (3, .ptr 0 []), (4, .ptr 1 []), (77, .bool)], [(0, .var kY42), (1, .var kY42)], 2, [], 2568967366681086996250624⟩), (5046299, ⟨[(3, .ptr 0 []), (4, .ptr 1 [])], [(0, .var kY42), (1, .var kY42)], 2, [], 11692013098647223345629473826026985698730761519136⟩), (5701661, ⟨[(2, .fp kY21), (3, .ptr 0 []), (4, .ptr 1 []), (87, .bool)], [(0, .var kY42), (1, .var kY42)], 2, [], 773712524553362671811952640⟩), (5701662, ⟨[(3, .ptr 0 []), (4, .ptr 1 [])], [(0, .var kY42), (1, .var kY42)], 2, [], 11692013098647223345628240721690978776972561219616⟩), (6422560, ⟨[(2, .fp kY21), (3, .ptr 0 []), (4, .ptr 1 []), (98, .bool)], [(0, .var kY42), (1, .var kY42)], 2, [], 1584563250285286751870879006720⟩), (6422561, ⟨[(3, .ptr 0 []), (4, .ptr 1 [])], [(0, .var kY42), (1, .var kY42)], 2, [], 11692013098647223343094177461273805354254053933088⟩), (7471139, ⟨[(2, .fp kY21), (3, .ptr 0 []), (4, .ptr 1 []), (114, .bool)], [(0, .var kY42), (1, .var kY42)], 2, [], 103845937170696552570609926584401920⟩), (7471140, ⟨[(3, .ptr 0 []), (4, .ptr 1 [])], [(0, .var kY42), (1, .var kY42)], 2, [], 11692013098647057192130005547246151181364925300768⟩), (8323110, ⟨[(3, .ptr 0 []), (4, .ptr 1 [])], [(0, .var kY42), (1, .var kY42)], 2, [], 11692013097966658611787601734803514942383923920928⟩), (9044008, ⟨[(3, .ptr 0 []), (4, .ptr 1 [])], [(0, .var kY42), (1, .var kY42)], 2, [], 11692011704850648437465532315747872116724866220064⟩)], blocks := [], loops := [], keeps := [2], orders := [(1, [(0, .strong), (1, .strong), (3, .strong), (4, .strong), (2, .eff true), (5, .eff true), (6, .strong), (7, .strong)]), (9, [(0, .strong), (1, .strong), (2, .strong), (3, .strong), (4, .eff true), (5, .eff true), (6, .eff false)]), (19, [(0, .strong), (1, .strong), (2, .strong), (3, .strong), (4, .strong), (5, .strong), (6, .strong), (7, .strong), (8, .strong), (9, .strong), (10, .eff true), (11, .eff true), (12, .strong)]), (30, [(0, .strong), (1, .strong), (2, .strong), (4, .strong), (5, .strong), (6, .strong), (3, .eff true), (7, .eff true), (8, .eff false)]), (33, [(0, .strong), (1, .strong), (2, .strong), (3, .strong), (4, .strong), (5, .strong), (6, .strong), (7, .strong), (8, .strong), (9, .strong), (10, .strong), (11, .eff true), (12, .strong), (13, .eff false)]), (36, [(0, .strong), (1, .strong), (2, .strong), (3, .strong), (4, .strong), (5, .strong), (6, .strong), (7, .strong), (8, .eff true), (9, .strong), (10, .eff false)]), (38, [(0, .strong), (1, .strong), (2, .strong), (3, .strong), (4, .strong), (5, .strong), (6, .eff true), (7, .strong), (8, .strong), (9, .eff false)]), (40, [(0, .strong), (1, .strong), (2, .strong), (3, .strong), (4, .strong), (5, .strong), (6, .eff true), (7, .strong), (8, .strong), (9, .eff false)]), (42, [(0, .strong), (1, .strong), (2, .strong), (3, .strong), (4, .strong), (8, .strong), (9, .strong), (10, .strong), (5, .eff true), (6, .strong), (7, .strong), (11, .strong), (12, .eff true), (13, .strong)])], touches := [(42, 2)] }
def Do61.S : Sig := { f := 61, params := [.st kY24, .arr 9 kY46], objs := [], res := .tup (.pair kY42 kY43), outs := [], fix := [], run := fun k ds os => Do61 k ds.1 ds.2 }
def Do61.G : List Sig := [Fit27.S, Get109.S, Low25.S, Put108.S, Signed110.S, Wide76.S, binary105.S, bits59.S, flag107.S, index103.S, nz104.S, shift106.S]
theorem Do61.eq (k : Nat) : ∀ ds os, Do61.S.run k ds os = runF ⟨types, Do61.G, Do61.A, k, 0, []⟩ Tryz.f61 (codeOf Tryz.f61) Do61.S.params Do61.S.objs Do61.S.res Do61.S.outs ds os := by
  intro ds os; kernel_rfl
theorem Do61.dr : DrOk Tryz.prog Do61.A (codeOf Tryz.f61) := ⟨by kernel_rfl, by kernel_rfl⟩
theorem Do61.ok (k : Nat) : SoundAt Tryz.prog k Do61.S :=
  runF_sound (X := ⟨types, Do61.G, Do61.A, k, 0, []⟩) types_ok (mem_all (⟨Fit27.ok k, ⟨Get109.ok k, ⟨Low25.ok k, ⟨Put108.ok k, ⟨Signed110.ok k, ⟨Wide76.ok k, ⟨binary105.ok k, ⟨bits59.ok k, ⟨flag107.ok k, ⟨index103.ok k, ⟨nz104.ok k, ⟨shift106.ok k, trivial⟩⟩⟩⟩⟩⟩⟩⟩⟩⟩⟩⟩)) (fn := Tryz.f61) (c := codeOf Tryz.f61) rfl (by kernel_rfl) rfl rfl Do61.dr (Do61.eq k)
end Go.Proofs.YtofendipdfepoaaGreat.Tr
