/- Merged texts of one claim: a Go law, its functions without memory, and the plain law. The law returns true for every input; conditions: as the row says. -/
import Derived.Test.YtofendipdfepoaaGreatCTr0
import Derived.Test.YtofendipdfepoaaGreatCTr1
import Derived.Test.YtofendipdfepoaaGreatCTr2
import Derived.Test.YtofendipdfepoaaGreatCTr3
/- Go functions as plain Lean functions, and their contracts. -/
set_option linter.unusedVariables false
set_option maxRecDepth 100000
noncomputable section
namespace Go.Proofs.YtofendipdfepoaaGreat.Tr
open Go Go.Proofs.YtofendipdfepoaaGreat.Gp
def one28.l0 (k : Nat) (x_4 : tY78) : tY39 → Option (tY39 ⊕ tY23)
  | (_, _, _, _, t63, _, o1_5, o2_4, o3_4, o4_4, o5_4) =>
    cond (decide (t63 < (List.length x_4.2.2.2.2 : Int)))
      ((rd x_4.2.2.2.2 t63).bind fun t65 =>
      (Do61 k t65 o2_4).bind fun t70 =>
      cond t70.1.2.1
        (some (Sum.inr (Sum.inr ((t70.1.1, o5_4, true, ()), (), o1_5))))
        (some (Sum.inl ((), (), (), (), (w64 (t63 + 1)), (), o1_5, t70.1.1, o3_4, o4_4, o5_4))))
      (some (Sum.inr (Sum.inl ((), (), (), (), (), o1_5, o2_4, o3_4, o4_4, o5_4))))
def one28 (k : Nat) (x : tY78) (r : tY109) (_ : Unit) (o0 : Unit) (o1 : tY106) : Option ((tY109 × (tY104 × tY107)) × tY99) :=
  Option.bind
    (cond (x.2.1 != 0)
      (Option.bind
        (cond (x.2.1 == 2)
          ((if 0 ≤ x.2.2.2.1 ∧ x.2.2.2.1 < 9 then some () else none).bind fun _ =>
          (rd r x.2.2.2.1).bind fun t26 =>
          (Low25 k t26 8).bind fun t27 =>
          some ((), x, (), (), (), (), (), o1, r, (List.replicate 9 0), (0, 0, 0), x.2.1, 0, t27.1))
          (some ((), x, (), (), (), (), (), o1, r, (List.replicate 9 0), (0, 0, 0), x.2.1, 0, 0)) : Option tY25) fun ((_, x_1, _, _, _, _, _, o1_1, o2, o3, o4, o5) : tY25) =>
      (place60 k x_1.2.2.1 o2).bind fun t33 =>
      Option.bind
        (cond (x_1.2.1 == 1)
          ((Read197 k () t33.1.1 () o1_1).bind fun t43 =>
          (Low25 k t43.1 8).bind fun t44 =>
          Option.bind
            (cond (!x_1.1)
              ((if 0 ≤ x_1.2.2.2.1 ∧ x_1.2.2.2.1 < 9 then some () else none).bind fun _ =>
              (rd t33.1.2.1 x_1.2.2.2.1).bind fun _ =>
              some (x_1, (), (), (), (), (), t43.2.2, (List.set t33.1.2.1 (Int.toNat x_1.2.2.2.1) t44.1), o3, o4, o5.1, t33.1.1, t44.1))
              (some (x_1, (), (), (), (), (), t43.2.2, t33.1.2.1, o3, o4, o5.1, t33.1.1, t44.1)) : Option tY28) fun ((x_2, _, _, _, _, _, o1_2, o2_1, o3_1, o4_1, o5_1) : tY28) =>
          some (x_2, (), (), (), (), (), o1_2, o2_1, o3_1, o4_1, o5_1))
          ((Write198 k () t33.1.1 o5.2.2 () o1_1).bind fun t59 =>
          some (x_1, (), (), (), (), (), t59.2.2, t33.1.2.1, o3, o4, o5.1, t33.1.1, o5.2.2)) : Option tY28) fun ((x_3, _, _, _, _, _, o1_3, o2_2, o3_2, o4_2, o5_2) : tY28) =>
      some (x_3, (), (), (), (), (), o1_3, o2_2, o3_2, o4_2, o5_2))
      (some (x, (), (), (), (), (), o1, r, (List.replicate 9 0), (0, 0, 0), 0, 0, 0)) : Option tY28) fun ((x_4, _, _, _, _, _, o1_4, o2_3, o3_3, o4_3, o5_3) : tY28) =>
  Option.bind
    (loopN (one28.l0 k x_4) k ((), (), (), (), 0, (), o1_4, o2_3, o3_3, o4_3, o5_3) : Option tY23) (joined fun ((_, _, _, _, _, o1_6, o2_5, _, _, o5_5) : (Unit × (Unit × (Unit × (Unit × (Unit × (tY106 × (tY109 × (tY109 × (tY104 × tY104)))))))))) =>
    some ((o2_5, o5_5, false, ()), (), o1_6))
def one28.A : Ann := { conds := [(983043, ⟨[(3, .fp kY11), (4, .ptr 2 []), (6, .ptr 3 []), (7, .ptr 4 []), (9, .ptr 5 [])], [(0, .var kY45), (1, .map kY46 kY46), (2, .var kY42), (3, .var kY42), (4, .var kY30), (5, .var kY30)], 6, [], 1152921504606781440⟩), (1441797, ⟨[(2, .ifc 41 (.ptr 0 [])), (3, .fp kY11), (4, .ptr 2 []), (6, .ptr 3 []), (7, .ptr 4 []), (9, .ptr 5 [])], [(0, .var kY45), (1, .map kY46 kY46), (2, .var kY42), (3, .var kY42), (4, .var kY30), (5, .var kY30)], 6, [], 528482304⟩), (2555912, ⟨[(3, .fp kY11), (4, .ptr 2 []), (6, .ptr 3 []), (7, .ptr 4 []), (9, .ptr 5 [])], [(0, .var kY45), (1, .map kY46 kY46), (2, .var kY42), (3, .var kY42), (4, .var kY30), (5, .var kY30)], 6, [], 1152920405095219200⟩), (3145738, ⟨[(3, .fp kY11), (4, .ptr 2 []), (6, .ptr 3 []), (7, .ptr 4 []), (9, .ptr 5 [])], [(0, .var kY45), (1, .map kY46 kY46), (2, .var kY42), (3, .var kY42), (4, .var kY30), (5, .var kY30)], 6, [], 17451448556060672⟩)], blocks := [(0, ⟨[(4, .ptr 2 []), (6, .ptr 3 []), (7, .ptr 4 []), (9, .ptr 5 [])], [(0, .var kY45), (1, .map kY46 kY46), (2, .var kY42), (3, .var kY42), (4, .var kY30), (5, .var kY30)], 6, [], 151106504079791792068864⟩)], loops := [(13, ⟨[(4, .ptr 2 []), (6, .ptr 3 []), (7, .ptr 4 []), (9, .ptr 5 []), (63, .int .i64)], [(0, .var kY45), (1, .map kY46 kY46), (2, .var kY42), (3, .var kY42), (4, .var kY30), (5, .var kY30)], 6, [], 151106504079791792068864⟩)], keeps := [3, 11], orders := [(18, [(0, .strong), (1, .strong), (2, .eff true), (3, .eff true), (4, .strong)]), (20, [(0, .strong), (1, .strong), (2, .eff true), (3, .eff true), (4, .strong)])], touches := [(18, 24), (20, 24)], meths := [⟨41, "Read", 197, none⟩, ⟨41, "Write", 198, none⟩] }
def one28.S : Sig := { f := 28, params := [.st kY13, .arr 9 kY46, .ifc 41 (.ptr 0 [])], objs := [.var kY45, .map kY46 kY46], res := .tup (.pair kY42 (.pair kY30 kY43)), outs := [.var kY45, .map kY46 kY46], fix := [], run := fun k ds os => one28 k ds.1 ds.2.1 ds.2.2 os.1 os.2 }
def one28.G : List Sig := [Do61.S, Low25.S, Read197.S, Write198.S, place60.S]
theorem one28.eq (k : Nat) : ∀ ds os, one28.S.run k ds os = runF ⟨types, one28.G, one28.A, k, 0, []⟩ Tryz.f28 (codeOf Tryz.f28) one28.S.params one28.S.objs one28.S.res one28.S.outs ds os := by
  intro ds os; kernel_rfl
theorem one28.dr : DrOk Tryz.prog one28.A (codeOf Tryz.f28) := ⟨by kernel_rfl, by kernel_rfl⟩
theorem one28.ok (k : Nat) : SoundAt Tryz.prog k one28.S :=
  runF_sound (X := ⟨types, one28.G, one28.A, k, 0, []⟩) types_ok (mem_all (⟨Do61.ok k, ⟨Low25.ok k, ⟨Read197.ok k, ⟨Write198.ok k, ⟨place60.ok k, trivial⟩⟩⟩⟩⟩)) (fn := Tryz.f28) (c := codeOf Tryz.f28) rfl (by kernel_rfl) rfl rfl one28.dr (one28.eq k) (hM := by kernel_rfl)
end Go.Proofs.YtofendipdfepoaaGreat.Tr

/- Go functions as plain Lean functions, and their contracts. -/
set_option linter.unusedVariables false
set_option maxRecDepth 100000
noncomputable section
namespace Go.Proofs.YtofendipdfepoaaGreat.Tr
open Go Go.Proofs.YtofendipdfepoaaGreat.Gp
def Run8.l0 (k : Nat) (b : tY50) : tY32 → Option (tY32 ⊕ tY38)
  | (_, _, _, _, skip, t39, _, o1_1, o2, o3, o7) =>
    cond (decide (t39 < (List.length b.2.2.2.2 : Int)))
      (Option.bind
        ((rd b.2.2.2.2 t39).bind fun t41 =>
        cond (cond skip (!t41.1) false)
          (some ((), (), (), (), skip, (), o1_1, o2, o3, o7))
          ((one28 k t41 o2.1 () () o1_1).bind fun t54 =>
          (if room (List.length o7 + List.length [t54.1.2.1]) 24 then some () else none).bind fun _ =>
          some ((), (), (), (), t54.1.2.2.1, (), t54.2.2, (t54.1.1, o2.2), o3, (o7 ++ [t54.1.2.1]))) : Option tY33) fun ((_, _, _, _, skip_1, _, o1_2, o2_1, o3_1, o7_1) : tY33) =>
      some (Sum.inl ((), (), (), (), skip_1, (w64 (t39 + 1)), (), o1_2, o2_1, o3_1, o7_1)))
      (some (Sum.inr ((), (), (), (), o1_1, o2, o3, o7)))
def Run8 (k : Nat) (b : tY50) (k_ : tY93) (_ : Unit) (o0 : Unit) (o1 : tY106) : Option ((tY93 × (tY101 × tY107)) × tY99) :=
  Option.bind (cond (k_.2.1 != (-1))
    (some true)
    ((if 0 ≤ 7 ∧ 7 < 9 then some () else none).bind fun _ =>
    (rd k_.1 7).bind fun t20 =>
    (Low25 k t20 16).bind fun t21 =>
    some (t21.1 != b.1))) fun t25 =>
  Option.bind (cond t25
    (some true)
    ((shaped26 k b).bind fun t28 =>
    some (!t28.1))) fun t30 =>
  cond t30
    (some ((((List.replicate 9 0), 0, 0, false), [], false, ()), (), o1))
    ((Fit27 k k_.1).bind fun t34 =>
    Option.bind
      (loopN (Run8.l0 k b) k ((), (), (), (), false, 0, (), o1, (t34.1, k_.2), ((List.replicate 9 0), 0, 0, false), []) : Option tY38) fun ((_, _, _, _, o1_3, o2_2, _, o7_2) : tY38) =>
    some (((o2_2.1, o2_2.2.1, 0, o2_2.2.2.2), o7_2, true, ()), (), o1_3))
def Run8.A : Ann := { conds := [], blocks := [(0, ⟨[(4, .ptr 2 []), (6, .ptr 3 []), (9, .ms 7)], [(0, .var kY45), (1, .map kY46 kY46), (2, .var kY20), (3, .var kY20), (7, .row kY30)], 8, [], 18446743523953751552⟩), (1, ⟨[(2, .ifc 41 (.ptr 0 [])), (4, .ptr 2 []), (6, .ptr 3 []), (9, .ms 7), (10, .bool)], [(0, .var kY45), (1, .map kY46 kY46), (2, .var kY20), (3, .var kY20), (7, .row kY30)], 8, [], 9223369837831534080⟩)], loops := [(7, ⟨[(2, .ifc 41 (.ptr 0 [])), (4, .ptr 2 []), (6, .ptr 3 []), (9, .ms 7), (10, .bool), (39, .int .i64)], [(0, .var kY45), (1, .map kY46 kY46), (2, .var kY20), (3, .var kY20), (7, .row kY30)], 8, [(7, .st kY33)], 18446743523953751552⟩)], keeps := [3, 12], orders := [(1, [(0, .strong), (1, .strong), (2, .strong), (3, .strong), (4, .strong), (5, .strong), (6, .strong), (8, .strong), (9, .strong), (7, .eff true), (10, .strong), (11, .strong), (12, .strong), (13, .strong), (14, .eff true), (15, .strong), (16, .strong)])] }
def Run8.S : Sig := { f := 8, params := [.st kY3, .st kY23, .ifc 41 (.ptr 0 [])], objs := [.var kY45, .map kY46 kY46], res := .tup (.pair kY20 (.pair kY27 kY43)), outs := [.var kY45, .map kY46 kY46], fix := [], run := fun k ds os => Run8 k ds.1 ds.2.1 ds.2.2 os.1 os.2 }
def Run8.G : List Sig := [Fit27.S, Low25.S, one28.S, shaped26.S]
theorem Run8.eq (k : Nat) : ∀ ds os, Run8.S.run k ds os = runF ⟨types, Run8.G, Run8.A, k, 0, []⟩ Tryz.f8 (codeOf Tryz.f8) Run8.S.params Run8.S.objs Run8.S.res Run8.S.outs ds os := by
  intro ds os; kernel_rfl
theorem Run8.dr : DrOk Tryz.prog Run8.A (codeOf Tryz.f8) := ⟨by kernel_rfl, by kernel_rfl⟩
theorem Run8.ok (k : Nat) : SoundAt Tryz.prog k Run8.S :=
  runF_sound (X := ⟨types, Run8.G, Run8.A, k, 0, []⟩) types_ok (mem_all (⟨Fit27.ok k, ⟨Low25.ok k, ⟨one28.ok k, ⟨shaped26.ok k, trivial⟩⟩⟩⟩)) (fn := Tryz.f8) (c := codeOf Tryz.f8) rfl (by kernel_rfl) rfl rfl Run8.dr (Run8.eq k)

def cycles115.l0 (k : Nat) (c : tY19) (op : Int) : Int → Option (Int ⊕ tY69)
  | t23 =>
    cond (decide (t23 < (List.length c.2.1 : Int)))
      ((rd c.2.1 t23).bind fun t25 =>
      cond (cond (cond (t25.1 == op) (decide (op ≥ 0)) false) (decide (op ≤ 255)) false)
        (some (Sum.inr (Sum.inr (t25.2.2.2, ()))))
        (some (Sum.inl (w64 (t23 + 1)))))
      (some (Sum.inr (Sum.inl ())))
def cycles115 (k : Nat) (c : tY19) (op : Int) : Option tY74 :=
  cond (op == 256)
    (some (c.2.2.2.1, ()))
    (cond (op == 257)
      (some (c.2.2.2.2, ()))
      (cond (op == 258)
        (some (c.2.2.1, ()))
        (Option.bind
          (loopN (cycles115.l0 k c op) k 0 : Option tY69) (joined fun (_ : Unit) =>
          some ([], ())))))
def cycles115.A : Ann := { conds := [], blocks := [(1, ⟨[], [], 0, [], 4398038122576⟩)], loops := [(9, ⟨[(23, .int .i64)], [], 0, [], 4398038122576⟩)], keeps := [2, 6], orders := [] }
def cycles115.S : Sig := { f := 115, params := [.st kY1, .int .i64], objs := [], res := .sl kY15, outs := [], fix := [], run := fun k ds os => cycles115 k ds.1 ds.2 }
def cycles115.G : List Sig := []
theorem cycles115.eq (k : Nat) : ∀ ds os, cycles115.S.run k ds os = runF ⟨types, cycles115.G, cycles115.A, k, 0, []⟩ Tryz.f115 (codeOf Tryz.f115) cycles115.S.params cycles115.S.objs cycles115.S.res cycles115.S.outs ds os := by
  intro ds os; kernel_rfl
theorem cycles115.dr : DrOk Tryz.prog cycles115.A (codeOf Tryz.f115) := ⟨by kernel_rfl, by kernel_rfl⟩
theorem cycles115.ok (k : Nat) : SoundAt Tryz.prog k cycles115.S :=
  runF_sound (X := ⟨types, cycles115.G, cycles115.A, k, 0, []⟩) types_ok (fun s hs => absurd hs List.not_mem_nil) (fn := Tryz.f115) (c := codeOf Tryz.f115) rfl (by kernel_rfl) rfl rfl cycles115.dr (cycles115.eq k)
end Go.Proofs.YtofendipdfepoaaGreat.Tr

/- Go functions as plain Lean functions, and their contracts. -/
set_option linter.unusedVariables false
set_option maxRecDepth 100000
noncomputable section
namespace Go.Proofs.YtofendipdfepoaaGreat.Tr
open Go Go.Proofs.YtofendipdfepoaaGreat.Gp
def start111.l0 (k : Nat) (irq : Bool) : tY13 → Option (tY13 ⊕ tY42)
  | (c_1, _, _, _, t12, o0, o1, o2) =>
    cond (decide (t12 < (List.length ([257, 256] : List Int) : Int)))
      ((rd o2 t12).bind fun _ =>
      (rd o2 t12).bind fun t15 =>
      Option.bind
        (cond (t15 == 256)
          (Option.bind (cond irq
            ((if 0 ≤ 4 ∧ 4 < 9 then some () else none).bind fun _ =>
            (rd o0.1 4).bind fun t24 =>
            some ((ibits .and .i64 t24 4) == 0))
            (some false)) fun t27 =>
          some (c_1, (), (), t27, (), o0, o1, o2))
          (some (c_1, (), (), o0.2.2.2, (), o0, o1, o2)) : Option tY11) fun ((c_2, _, _, waits, _, o0_1, o1_1, o2_1) : tY11) =>
      Option.bind (cond waits
        ((cycles115 k c_2 t15).bind fun t32 =>
        some (decide ((List.length t32.1 : Int) > 0)))
        (some false)) fun t35 =>
      cond t35
        (Option.bind
          (cond (t15 == 257)
            (some ((), (), (o0_1.1, o0_1.2.1, o0_1.2.2.1, false), o1_1))
            (some ((), (), o0_1, o1_1)) : Option tY63) fun ((_, _, o0_2, _) : tY63) =>
        some (Sum.inr (Sum.inr ((o0_2.1, t15, 0, o0_2.2.2.2), ()))))
        (some (Sum.inl (c_2, (), (), (), (w64 (t12 + 1)), o0_1, o1_1, o2_1))))
      (some (Sum.inr (Sum.inl ((), (), o0, o1))))
def start111 (k : Nat) (c : tY19) (k_ : tY93) (irq : Bool) : Option tY86 :=
  Option.bind
    (loopN (start111.l0 k irq) k (c, (), (), (), 0, k_, ((List.replicate 9 0), 0, 0, false), ([257, 256] : List Int)) : Option tY42) (joined fun ((_, _, o0_3, _) : tY63) =>
    some (o0_3, ()))
def start111.A : Ann := { conds := [(1245190, ⟨[(3, .fp kY0), (4, .ptr 0 []), (6, .ptr 1 []), (9, .bool), (10, .ms 2)], [(0, .var kY20), (1, .var kY20), (2, .row kY46)], 3, [], 267387392⟩), (2424841, ⟨[(4, .ptr 0 []), (6, .ptr 1 [])], [(0, .var kY20), (1, .var kY20)], 2, [], 274877906944⟩)], blocks := [(0, ⟨[(4, .ptr 0 []), (6, .ptr 1 [])], [(0, .var kY20), (1, .var kY20)], 2, [], 17592186041088⟩)], loops := [(2, ⟨[(3, .fp kY0), (4, .ptr 0 []), (6, .ptr 1 []), (10, .ms 2), (12, .int .i64)], [(0, .var kY20), (1, .var kY20), (2, .row kY46)], 3, [], 17592186041088⟩)], keeps := [3], orders := [] }
def start111.S : Sig := { f := 111, params := [.st kY1, .st kY23, .bool], objs := [], res := .st kY23, outs := [], fix := [], run := fun k ds os => start111 k ds.1 ds.2.1 ds.2.2 }
def start111.G : List Sig := [cycles115.S]
theorem start111.eq (k : Nat) : ∀ ds os, start111.S.run k ds os = runF ⟨types, start111.G, start111.A, k, 0, []⟩ Tryz.f111 (codeOf Tryz.f111) start111.S.params start111.S.objs start111.S.res start111.S.outs ds os := by
  intro ds os; kernel_rfl
theorem start111.dr : DrOk Tryz.prog start111.A (codeOf Tryz.f111) := ⟨by kernel_rfl, by kernel_rfl⟩
theorem start111.ok (k : Nat) : SoundAt Tryz.prog k start111.S :=
  runF_sound (X := ⟨types, start111.G, start111.A, k, 0, []⟩) types_ok (mem_all (⟨cycles115.ok k, trivial⟩)) (fn := Tryz.f111) (c := codeOf Tryz.f111) rfl (by kernel_rfl) rfl rfl start111.dr (start111.eq k)

def fixed147 (k : Nat) (at_ : Int) : Option tY108 :=
  (rd ([65534, 65535, 65530, 65531, 65532, 65533] : List Int) (w64 (at_ - 6))).bind fun _ =>
  (rd ([65534, 65535, 65530, 65531, 65532, 65533] : List Int) (w64 (at_ - 6))).bind fun t7 =>
  some (t7, ())
def fixed147.A : Ann := { conds := [], blocks := [], loops := [], keeps := [], orders := [] }
def fixed147.S : Sig := { f := 147, params := [.int .i64], objs := [], res := .int .i64, outs := [], fix := [], run := fun k ds os => fixed147 k ds }
def fixed147.G : List Sig := []
theorem fixed147.eq (k : Nat) : ∀ ds os, fixed147.S.run k ds os = runF ⟨types, fixed147.G, fixed147.A, k, 0, []⟩ Tryz.f147 (codeOf Tryz.f147) fixed147.S.params fixed147.S.objs fixed147.S.res fixed147.S.outs ds os := by
  intro ds os; kernel_rfl
theorem fixed147.dr : DrOk Tryz.prog fixed147.A (codeOf Tryz.f147) := ⟨by kernel_rfl, by kernel_rfl⟩
theorem fixed147.ok (k : Nat) : SoundAt Tryz.prog k fixed147.S :=
  runF_sound (X := ⟨types, fixed147.G, fixed147.A, k, 0, []⟩) types_ok (fun s hs => absurd hs List.not_mem_nil) (fn := Tryz.f147) (c := codeOf Tryz.f147) rfl (by kernel_rfl) rfl rfl fixed147.dr (fixed147.eq k)

def place112 (k : Nat) (at_ : Int) (r : tY109) : Option ((Int × tY105) × Unit) :=
  cond (at_ == 0)
    ((if 0 ≤ 7 ∧ 7 < 9 then some () else none).bind fun _ =>
    (rd r 7).bind fun t12 =>
    (Low25 k (w64 (t12 + 1)) 16).bind fun t15 =>
    (if 0 ≤ 7 ∧ 7 < 9 then some () else none).bind fun _ =>
    (rd r 7).bind fun _ =>
    some ((t12, (List.set r (Int.toNat 7) t15.1), ()), ()))
    (cond (at_ == 1)
      ((if 0 ≤ 7 ∧ 7 < 9 then some () else none).bind fun _ =>
      (rd r 7).bind fun t22 =>
      some ((t22, r, ()), ()))
      (cond (at_ == 2)
        ((if 0 ≤ 8 ∧ 8 < 9 then some () else none).bind fun _ =>
        (rd r 8).bind fun t27 =>
        some ((t27, r, ()), ()))
        (cond (at_ == 3)
          ((if 0 ≤ 8 ∧ 8 < 9 then some () else none).bind fun _ =>
          (rd r 8).bind fun t32 =>
          (Low25 k (w64 (t32 + 1)) 16).bind fun t34 =>
          some ((t34.1, r, ()), ()))
          (cond (at_ == 4)
            ((if 0 ≤ 3 ∧ 3 < 9 then some () else none).bind fun _ =>
            (rd r 3).bind fun t39 =>
            (if 0 ≤ 3 ∧ 3 < 9 then some () else none).bind fun _ =>
            (rd r 3).bind fun t42 =>
            (Low25 k (w64 (t42 - 1)) 8).bind fun t44 =>
            (if 0 ≤ 3 ∧ 3 < 9 then some () else none).bind fun _ =>
            (rd r 3).bind fun _ =>
            some (((w64 (256 + t39)), (List.set r (Int.toNat 3) t44.1), ()), ()))
            (cond (at_ == 5)
              ((if 0 ≤ 3 ∧ 3 < 9 then some () else none).bind fun _ =>
              (rd r 3).bind fun t51 =>
              (Low25 k (w64 (t51 + 1)) 8).bind fun t53 =>
              (if 0 ≤ 3 ∧ 3 < 9 then some () else none).bind fun _ =>
              (rd r 3).bind fun _ =>
              (if 0 ≤ 3 ∧ 3 < 9 then some () else none).bind fun _ =>
              (rd (List.set r (Int.toNat 3) t53.1) 3).bind fun t56 =>
              some (((w64 (256 + t56)), (List.set r (Int.toNat 3) t53.1), ()), ()))
              (cond (cond (decide (at_ < 0)) true (decide (at_ ≥ 12)))
                (some ((0, r, ()), ()))
                ((fixed147 k at_).bind fun t67 =>
                some ((t67.1, r, ()), ()))))))))
def place112.A : Ann := { conds := [], blocks := [], loops := [], keeps := [], orders := [(5, [(0, .strong), (1, .strong), (2, .strong), (3, .eff false)]), (7, [(0, .strong), (1, .strong), (2, .strong), (3, .strong), (4, .eff false)]), (9, [(0, .strong), (1, .strong), (2, .strong), (3, .strong), (4, .eff false)]), (11, [(0, .strong), (1, .strong), (2, .strong), (4, .strong), (3, .eff true), (5, .strong), (6, .eff false)]), (15, [(0, .strong), (1, .strong), (2, .strong), (3, .eff false)]), (18, [(0, .strong), (1, .strong), (2, .strong), (3, .strong), (4, .strong), (5, .eff false)]), (20, [(0, .strong), (1, .strong), (2, .eff false)]), (21, [(0, .strong), (2, .strong), (1, .eff true), (3, .strong), (4, .eff false)])] }
def place112.S : Sig := { f := 112, params := [.int .i64, .arr 9 kY46], objs := [], res := .tup kY31, outs := [], fix := [], run := fun k ds os => place112 k ds.1 ds.2 }
def place112.G : List Sig := [Low25.S, fixed147.S]
theorem place112.eq (k : Nat) : ∀ ds os, place112.S.run k ds os = runF ⟨types, place112.G, place112.A, k, 0, []⟩ Tryz.f112 (codeOf Tryz.f112) place112.S.params place112.S.objs place112.S.res place112.S.outs ds os := by
  intro ds os; kernel_rfl
theorem place112.dr : DrOk Tryz.prog place112.A (codeOf Tryz.f112) := ⟨by kernel_rfl, by kernel_rfl⟩
theorem place112.ok (k : Nat) : SoundAt Tryz.prog k place112.S :=
  runF_sound (X := ⟨types, place112.G, place112.A, k, 0, []⟩) types_ok (mem_all (⟨Low25.ok k, ⟨fixed147.ok k, trivial⟩⟩)) (fn := Tryz.f112) (c := codeOf Tryz.f112) rfl (by kernel_rfl) rfl rfl place112.dr (place112.eq k)
end Go.Proofs.YtofendipdfepoaaGreat.Tr

/- Go functions as plain Lean functions, and their contracts. -/
set_option linter.unusedVariables false
set_option maxRecDepth 100000
noncomputable section
namespace Go.Proofs.YtofendipdfepoaaGreat.Tr
open Go Go.Proofs.YtofendipdfepoaaGreat.Gp
def doing113 (k : Nat) (c : tY19) (k_ : tY93) : Option ((tY82 × tY107) × Unit) :=
  (cycles115 k c k_.2.1).bind fun t10 =>
  cond (cond (cond (k_.2.1 == (-1)) true (decide (k_.2.2.1 < 0))) true (decide (k_.2.2.1 ≥ (List.length t10.1 : Int))))
    (some (((0, 0, 0, []), false, ()), ()))
    ((rd t10.1 k_.2.2.1).bind fun t30 =>
    some ((t30, true, ()), ()))
def doing113.A : Ann := { conds := [], blocks := [], loops := [], keeps := [2, 3], orders := [] }
def doing113.S : Sig := { f := 113, params := [.st kY1, .st kY23], objs := [], res := .tup (.pair kY15 kY43), outs := [], fix := [], run := fun k ds os => doing113 k ds.1 ds.2 }
def doing113.G : List Sig := [cycles115.S]
theorem doing113.eq (k : Nat) : ∀ ds os, doing113.S.run k ds os = runF ⟨types, doing113.G, doing113.A, k, 0, []⟩ Tryz.f113 (codeOf Tryz.f113) doing113.S.params doing113.S.objs doing113.S.res doing113.S.outs ds os := by
  intro ds os; kernel_rfl
theorem doing113.dr : DrOk Tryz.prog doing113.A (codeOf Tryz.f113) := ⟨by kernel_rfl, by kernel_rfl⟩
theorem doing113.ok (k : Nat) : SoundAt Tryz.prog k doing113.S :=
  runF_sound (X := ⟨types, doing113.G, doing113.A, k, 0, []⟩) types_ok (mem_all (⟨cycles115.ok k, trivial⟩)) (fn := Tryz.f113) (c := codeOf Tryz.f113) rfl (by kernel_rfl) rfl rfl doing113.dr (doing113.eq k)

def Ask62 (k : Nat) (c : tY19) (k_ : tY93) (irq : Bool) : Option (tY76 × Unit) :=
  (Fit27 k k_.1).bind fun t15 =>
  Option.bind
    (cond (k_.2.1 == (-1))
      ((start111 k c (t15.1, k_.2) irq).bind fun t23 =>
      some (c, (), (), (), t23.1, ((List.replicate 9 0), 0, 0, false), 0, 0, 0))
      (some (c, (), (), (), (t15.1, k_.2), ((List.replicate 9 0), 0, 0, false), 0, 0, 0)) : Option tY12) fun ((c_1, _, _, _, o0, o1, o2) : tY12) =>
  cond (o0.2.1 == (-1))
    ((place112 k 0 o0.1).bind fun t30 =>
    some (((t30.1.2.1, o0.2), (1, t30.1.1, 0), ()), ()))
    ((doing113 k c_1 o0).bind fun t41 =>
    cond (cond (!t41.1.2.1) true (t41.1.1.1 == 0))
      (some ((o0, (0, 0, 0), ()), ()))
      (Option.bind
        (cond (cond (cond (t41.1.1.1 == 2) (decide (t41.1.1.2.2.1 ≥ 0)) false) (decide (t41.1.1.2.2.1 < 9)) false)
          ((if 0 ≤ t41.1.1.2.2.1 ∧ t41.1.1.2.2.1 < 9 then some () else none).bind fun _ =>
          (rd o0.1 t41.1.1.2.2.1).bind fun t73 =>
          (Low25 k t73 8).bind fun t74 =>
          some ((), (), (), t41.1.1, (), o0, o1, o2, t41.1.1.1, 0, t74.1))
          (some ((), (), (), t41.1.1, (), o0, o1, o2, t41.1.1.1, 0, 0)) : Option tY26) fun ((_, _, _, x, _, o0_1, _, _, o4) : tY26) =>
      (place112 k x.2.1 o0_1.1).bind fun t81 =>
      some (((t81.1.2.1, o0_1.2), (o4.1, t81.1.1, o4.2.2), ()), ())))
def Ask62.A : Ann := { conds := [(1245187, ⟨[(3, .fp kY0), (4, .ptr 0 []), (6, .ptr 1 []), (7, .ptr 2 [])], [(0, .var kY20), (1, .var kY20), (2, .var kY30)], 3, [], 15728640⟩), (4456461, ⟨[(4, .ptr 0 []), (6, .ptr 1 []), (7, .ptr 2 []), (10, .fp kY15), (12, .ptr 4 [])], [(0, .var kY20), (1, .var kY20), (2, .var kY30), (4, .var kY30)], 5, [], 74967567915555617767424⟩)], blocks := [], loops := [], keeps := [3, 9, 10], orders := [(15, [(0, .strong), (1, .strong), (2, .eff true), (3, .eff true)])], touches := [(15, 6)] }
def Ask62.S : Sig := { f := 62, params := [.st kY1, .st kY23, .bool], objs := [], res := .tup kY12, outs := [], fix := [], run := fun k ds os => Ask62 k ds.1 ds.2.1 ds.2.2 }
def Ask62.G : List Sig := [Fit27.S, Low25.S, doing113.S, place112.S, start111.S]
theorem Ask62.eq (k : Nat) : ∀ ds os, Ask62.S.run k ds os = runF ⟨types, Ask62.G, Ask62.A, k, 0, []⟩ Tryz.f62 (codeOf Tryz.f62) Ask62.S.params Ask62.S.objs Ask62.S.res Ask62.S.outs ds os := by
  intro ds os; kernel_rfl
theorem Ask62.dr : DrOk Tryz.prog Ask62.A (codeOf Tryz.f62) := ⟨by kernel_rfl, by kernel_rfl⟩
theorem Ask62.ok (k : Nat) : SoundAt Tryz.prog k Ask62.S :=
  runF_sound (X := ⟨types, Ask62.G, Ask62.A, k, 0, []⟩) types_ok (mem_all (⟨Fit27.ok k, ⟨Low25.ok k, ⟨doing113.ok k, ⟨place112.ok k, ⟨start111.ok k, trivial⟩⟩⟩⟩⟩)) (fn := Tryz.f62) (c := codeOf Tryz.f62) rfl (by kernel_rfl) rfl rfl Ask62.dr (Ask62.eq k)

def ended114 (k : Nat) (c : tY19) (k_ : tY93) : Option tY86 :=
  Option.bind
    (cond (k_.2.1 != 259)
      (some ((), (), (k_.1, (-1), 0, k_.2.2.2), (List.replicate 9 0), 0, 0, false))
      (some ((), (), k_, (List.replicate 9 0), 0, 0, false)) : Option tY63) fun ((_, _, o0, _) : tY63) =>
  some (o0, ())
def ended114.A : Ann := { conds := [(458754, ⟨[(3, .ptr 0 []), (4, .ptr 1 [])], [(0, .var kY20), (1, .var kY20)], 2, [], 768⟩)], blocks := [], loops := [], keeps := [2], orders := [] }
def ended114.S : Sig := { f := 114, params := [.st kY1, .st kY23], objs := [], res := .st kY23, outs := [], fix := [], run := fun k ds os => ended114 k ds.1 ds.2 }
def ended114.G : List Sig := []
theorem ended114.eq (k : Nat) : ∀ ds os, ended114.S.run k ds os = runF ⟨types, ended114.G, ended114.A, k, 0, []⟩ Tryz.f114 (codeOf Tryz.f114) ended114.S.params ended114.S.objs ended114.S.res ended114.S.outs ds os := by
  intro ds os; kernel_rfl
theorem ended114.dr : DrOk Tryz.prog ended114.A (codeOf Tryz.f114) := ⟨by kernel_rfl, by kernel_rfl⟩
theorem ended114.ok (k : Nat) : SoundAt Tryz.prog k ended114.S :=
  runF_sound (X := ⟨types, ended114.G, ended114.A, k, 0, []⟩) types_ok (fun s hs => absurd hs List.not_mem_nil) (fn := Tryz.f114) (c := codeOf Tryz.f114) rfl (by kernel_rfl) rfl rfl ended114.dr (ended114.eq k)
end Go.Proofs.YtofendipdfepoaaGreat.Tr

/- Go functions as plain Lean functions, and their contracts. -/
set_option linter.unusedVariables false
set_option maxRecDepth 100000
noncomputable section
namespace Go.Proofs.YtofendipdfepoaaGreat.Tr
open Go Go.Proofs.YtofendipdfepoaaGreat.Gp
def Tell63.l0 (k : Nat) (x : tY82) : tY14 → Option (tY14 ⊕ tY10)
  | (c_2, _, _, t79, o0_3, o1_3) =>
    cond (decide (t79 < (List.length x.2.2.2 : Int)))
      ((rd x.2.2.2 t79).bind fun t81 =>
      (Do61 k t81 o0_3.1).bind fun t87 =>
      cond t87.1.2.1
        (some (Sum.inr (Sum.inr ((t87.1.1, (-1), 0, o0_3.2.2.2), ()))))
        (some (Sum.inl (c_2, (), (), (w64 (t79 + 1)), (t87.1.1, o0_3.2), o1_3))))
      (some (Sum.inr (Sum.inl (c_2, (), (), o0_3, o1_3))))
def Tell63 (k : Nat) (c : tY19) (k_ : tY93) (data : Int) : Option tY86 :=
  (Low25 k data 8).bind fun t16 =>
  (Fit27 k k_.1).bind fun t19 =>
  cond (k_.2.1 == (-1))
    ((Find20 k c t16.1).bind fun t27 =>
    Option.bind
      (cond (!t27.1.2.1)
        (some ((), (), (t19.1, 259, k_.2.2), (List.replicate 9 0), 0, 0, false))
        (Option.bind
          (cond (decide ((List.length t27.1.1.2.2.2 : Int) > 0))
            (some ((), (), (t19.1, t16.1, k_.2.2), (List.replicate 9 0), 0, 0, false))
            (some ((), (), (t19.1, k_.2), (List.replicate 9 0), 0, 0, false)) : Option tY63) fun ((_, _, o0, o1) : tY63) =>
        some ((), (), o0, o1)) : Option tY63) fun ((_, _, o0_1, _) : tY63) =>
    some ((o0_1.1, o0_1.2.1, 0, o0_1.2.2.2), ()))
    ((doing113 k c (t19.1, k_.2)).bind fun t46 =>
    cond (!t46.1.2.1)
      ((ended114 k c (t19.1, k_.2)).bind fun t53 =>
      some (t53.1, ()))
      (Option.bind
        (cond (cond (cond (t46.1.1.1 == 1) (decide (t46.1.1.2.2.1 ≥ 0)) false) (decide (t46.1.1.2.2.1 < 9)) false)
          ((if 0 ≤ t46.1.1.2.2.1 ∧ t46.1.1.2.2.1 < 9 then some () else none).bind fun _ =>
          (rd t19.1 t46.1.1.2.2.1).bind fun _ =>
          some (c, (), (), t46.1.1, ((List.set t19.1 (Int.toNat t46.1.1.2.2.1) t16.1), k_.2), (List.replicate 9 0), 0, 0, false))
          (some (c, (), (), t46.1.1, (t19.1, k_.2), (List.replicate 9 0), 0, 0, false)) : Option tY9) fun ((c_1, _, _, x, o0_2, o1_2) : tY9) =>
      Option.bind
        (loopN (Tell63.l0 k x) k (c_1, (), (), 0, (o0_2.1, o0_2.2.1, (w64 (o0_2.2.2.1 + 1)), o0_2.2.2.2), o1_2) : Option tY10) (joined fun ((c_3, _, _, o0_4, o1_4) : (tY19 × tY63)) =>
        (cycles115 k c_3 o0_4.2.1).bind fun t102 =>
        Option.bind
          (cond (decide (o0_4.2.2.1 ≥ (List.length t102.1 : Int)))
            (some ((), (), (o0_4.1, (-1), 0, o0_4.2.2.2), o1_4))
            (some ((), (), o0_4, o1_4)) : Option tY63) fun ((_, _, o0_5, _) : tY63) =>
        some (o0_5, ()))))
def Tell63.A : Ann := { conds := [(1966086, ⟨[(4, .ptr 0 []), (6, .ptr 1 [])], [(0, .var kY20), (1, .var kY20)], 2, [], 2190433320960⟩), (2228232, ⟨[(4, .ptr 0 []), (6, .ptr 1 [])], [(0, .var kY20), (1, .var kY20)], 2, [], 1649267441664⟩), (4325391, ⟨[(3, .fp kY0), (4, .ptr 0 []), (6, .ptr 1 []), (9, .fp kY15)], [(0, .var kY20), (1, .var kY20)], 2, [], 4574792530279968800768⟩), (6815771, ⟨[(4, .ptr 0 []), (6, .ptr 1 [])], [(0, .var kY20), (1, .var kY20)], 2, [], 121694457621910022543683507716096⟩)], blocks := [(1, ⟨[(3, .fp kY0), (4, .ptr 0 []), (6, .ptr 1 [])], [(0, .var kY20), (1, .var kY20)], 2, [], 158455720565618867872500576256⟩)], loops := [(18, ⟨[(3, .fp kY0), (4, .ptr 0 []), (6, .ptr 1 []), (79, .int .i64)], [(0, .var kY20), (1, .var kY20)], 2, [], 158455720565618867872500576256⟩)], keeps := [3, 7, 9, 12, 13], orders := [(26, [(0, .strong), (1, .strong), (2, .strong), (3, .strong), (4, .strong), (5, .eff true), (6, .strong), (7, .strong)])] }
def Tell63.S : Sig := { f := 63, params := [.st kY1, .st kY23, .int .i64], objs := [], res := .st kY23, outs := [], fix := [], run := fun k ds os => Tell63 k ds.1 ds.2.1 ds.2.2 }
def Tell63.G : List Sig := [Do61.S, Find20.S, Fit27.S, Low25.S, cycles115.S, doing113.S, ended114.S]
theorem Tell63.eq (k : Nat) : ∀ ds os, Tell63.S.run k ds os = runF ⟨types, Tell63.G, Tell63.A, k, 0, []⟩ Tryz.f63 (codeOf Tryz.f63) Tell63.S.params Tell63.S.objs Tell63.S.res Tell63.S.outs ds os := by
  intro ds os; kernel_rfl
theorem Tell63.dr : DrOk Tryz.prog Tell63.A (codeOf Tryz.f63) := ⟨by kernel_rfl, by kernel_rfl⟩
theorem Tell63.ok (k : Nat) : SoundAt Tryz.prog k Tell63.S :=
  runF_sound (X := ⟨types, Tell63.G, Tell63.A, k, 0, []⟩) types_ok (mem_all (⟨Do61.ok k, ⟨Find20.ok k, ⟨Fit27.ok k, ⟨Low25.ok k, ⟨cycles115.ok k, ⟨doing113.ok k, ⟨ended114.ok k, trivial⟩⟩⟩⟩⟩⟩⟩)) (fn := Tryz.f63) (c := codeOf Tryz.f63) rfl (by kernel_rfl) rfl rfl Tell63.dr (Tell63.eq k)
end Go.Proofs.YtofendipdfepoaaGreat.Tr

/- Go functions as plain Lean functions, and their contracts. -/
set_option linter.unusedVariables false
set_option maxRecDepth 100000
noncomputable section
namespace Go.Proofs.YtofendipdfepoaaGreat.Tr
open Go Go.Proofs.YtofendipdfepoaaGreat.Gp
def Cycle29 (k : Nat) (c : tY19) (k_ : tY93) (irq : Bool) (_ : Unit) (o0 : Unit) (o1 : tY106) : Option (tY76 × tY99) :=
  (Ask62 k c k_ irq).bind fun t15 =>
  Option.bind
    (cond (t15.1.2.1.1 == 1)
      ((Read197 k () t15.1.2.1.2.1 () o1).bind fun t25 =>
      (Low25 k t25.1 8).bind fun t26 =>
      some (c, (), (), (), (), (), t25.2.2, t15.1.1, ((List.replicate 9 0), 0, 0, false), (0, 0, 0), t15.1.2.1.1, t15.1.2.1.2.1, t26.1))
      (Option.bind
        (cond (t15.1.2.1.1 == 2)
          ((Write198 k () t15.1.2.1.2.1 t15.1.2.1.2.2 () o1).bind fun t35 =>
          some (c, (), (), (), (), (), t35.2.2, t15.1.1, ((List.replicate 9 0), 0, 0, false), (0, 0, 0), t15.1.2.1))
          (some (c, (), (), (), (), (), o1, t15.1.1, ((List.replicate 9 0), 0, 0, false), (0, 0, 0), t15.1.2.1)) : Option tY6) fun ((c_1, _, _, _, _, _, o1_1, o2, o3, o4, o5) : tY6) =>
      some (c_1, (), (), (), (), (), o1_1, o2, o3, o4, o5)) : Option tY6) fun ((c_2, _, _, _, _, _, o1_2, o2_1, _, _, o5_1) : tY6) =>
  (Tell63 k c_2 o2_1 o5_1.2.2).bind fun t40 =>
  some ((t40.1, o5_1, ()), (), o1_2)
def Cycle29.A : Ann := { conds := [(1310724, ⟨[(4, .fp kY0), (5, .ptr 2 []), (8, .ptr 3 []), (9, .ptr 4 []), (10, .ptr 5 [])], [(0, .var kY45), (1, .map kY46 kY46), (2, .var kY20), (3, .var kY20), (4, .var kY30), (5, .var kY30)], 6, [], 68715282432⟩), (1835014, ⟨[(4, .fp kY0), (5, .ptr 2 []), (8, .ptr 3 []), (9, .ptr 4 []), (10, .ptr 5 [])], [(0, .var kY45), (1, .map kY46 kY46), (2, .var kY20), (3, .var kY20), (4, .var kY30), (5, .var kY30)], 6, [], 67645734912⟩)], blocks := [], loops := [], keeps := [4], orders := [(7, [(0, .strong), (1, .strong), (2, .strong), (3, .strong), (5, .strong), (4, .eff true), (6, .eff true), (7, .eff true)])], touches := [(7, 24)], meths := [⟨41, "Read", 197, none⟩, ⟨41, "Write", 198, none⟩] }
def Cycle29.S : Sig := { f := 29, params := [.st kY1, .st kY23, .bool, .ifc 41 (.ptr 0 [])], objs := [.var kY45, .map kY46 kY46], res := .tup kY12, outs := [.var kY45, .map kY46 kY46], fix := [], run := fun k ds os => Cycle29 k ds.1 ds.2.1 ds.2.2.1 ds.2.2.2 os.1 os.2 }
def Cycle29.G : List Sig := [Ask62.S, Low25.S, Read197.S, Tell63.S, Write198.S]
theorem Cycle29.eq (k : Nat) : ∀ ds os, Cycle29.S.run k ds os = runF ⟨types, Cycle29.G, Cycle29.A, k, 0, []⟩ Tryz.f29 (codeOf Tryz.f29) Cycle29.S.params Cycle29.S.objs Cycle29.S.res Cycle29.S.outs ds os := by
  intro ds os; kernel_rfl
theorem Cycle29.dr : DrOk Tryz.prog Cycle29.A (codeOf Tryz.f29) := ⟨by kernel_rfl, by kernel_rfl⟩
theorem Cycle29.ok (k : Nat) : SoundAt Tryz.prog k Cycle29.S :=
  runF_sound (X := ⟨types, Cycle29.G, Cycle29.A, k, 0, []⟩) types_ok (mem_all (⟨Ask62.ok k, ⟨Low25.ok k, ⟨Read197.ok k, ⟨Tell63.ok k, ⟨Write198.ok k, trivial⟩⟩⟩⟩⟩)) (fn := Tryz.f29) (c := codeOf Tryz.f29) rfl (by kernel_rfl) rfl rfl Cycle29.dr (Cycle29.eq k) (hM := by kernel_rfl)

def Run9.l0 (k : Nat) : tY8 → Option (tY8 ⊕ tY38)
  | (_, c_1, _, _, _, t10, _, o1_1, o2, o3, o6) =>
    cond (decide (t10 < 20))
      ((Cycle29 k c_1 o2 false () () o1_1).bind fun t16 =>
      (if room (List.length o6 + List.length [t16.1.2.1]) 24 then some () else none).bind fun _ =>
      let t22 : tY101 := (o6 ++ [t16.1.2.1])
      cond (cond (t16.1.1.2.1 == (-1)) true (t16.1.1.2.1 == 259))
        (some (Sum.inr ((), (), (), (), t16.2.2, t16.1.1, o3, t22)))
        (some (Sum.inl ((), c_1, (), (), (), (w64 (t10 + 1)), (), t16.2.2, t16.1.1, o3, t22))))
      (some (Sum.inr ((), (), (), (), o1_1, o2, o3, o6)))
def Run9 (k : Nat) (c : tY19) (k_ : tY93) (_ : Unit) (o0 : Unit) (o1 : tY106) : Option tY56 :=
  Option.bind
    (loopN (Run9.l0 k) k ((), c, (), (), (), 0, (), o1, k_, ((List.replicate 9 0), 0, 0, false), []) : Option tY38) fun ((_, _, _, _, o1_2, o2_1, _, o6_1) : tY38) =>
  some ((o2_1, o6_1, ()), (), o1_2)
def Run9.A : Ann := { conds := [], blocks := [(0, ⟨[(4, .ptr 2 []), (6, .ptr 3 []), (8, .ms 6)], [(0, .var kY45), (1, .map kY46 kY46), (2, .var kY20), (3, .var kY20), (6, .row kY30)], 7, [], 4294967040⟩)], loops := [(3, ⟨[(2, .ifc 41 (.ptr 0 [])), (3, .fp kY0), (4, .ptr 2 []), (6, .ptr 3 []), (8, .ms 6), (10, .int .i64)], [(0, .var kY45), (1, .map kY46 kY46), (2, .var kY20), (3, .var kY20), (6, .row kY30)], 7, [(6, .st kY33)], 4294967040⟩)], keeps := [3], orders := [] }
def Run9.S : Sig := { f := 9, params := [.st kY1, .st kY23, .ifc 41 (.ptr 0 [])], objs := [.var kY45, .map kY46 kY46], res := .tup (.pair kY20 (.pair kY27 .unit)), outs := [.var kY45, .map kY46 kY46], fix := [], run := fun k ds os => Run9 k ds.1 ds.2.1 ds.2.2 os.1 os.2 }
def Run9.G : List Sig := [Cycle29.S]
theorem Run9.eq (k : Nat) : ∀ ds os, Run9.S.run k ds os = runF ⟨types, Run9.G, Run9.A, k, 0, []⟩ Tryz.f9 (codeOf Tryz.f9) Run9.S.params Run9.S.objs Run9.S.res Run9.S.outs ds os := by
  intro ds os; kernel_rfl
theorem Run9.dr : DrOk Tryz.prog Run9.A (codeOf Tryz.f9) := ⟨by kernel_rfl, by kernel_rfl⟩
theorem Run9.ok (k : Nat) : SoundAt Tryz.prog k Run9.S :=
  runF_sound (X := ⟨types, Run9.G, Run9.A, k, 0, []⟩) types_ok (mem_all (⟨Cycle29.ok k, trivial⟩)) (fn := Tryz.f9) (c := codeOf Tryz.f9) rfl (by kernel_rfl) rfl rfl Run9.dr (Run9.eq k)
end Go.Proofs.YtofendipdfepoaaGreat.Tr

/- Go functions as plain Lean functions, and their contracts. -/
set_option linter.unusedVariables false
set_option maxRecDepth 100000
noncomputable section
namespace Go.Proofs.YtofendipdfepoaaGreat.Tr
open Go Go.Proofs.YtofendipdfepoaaGreat.Gp
def Equal10.l0 (k : Nat) (s1 : tY101) (s2 : tY101) : Int → Option (Int ⊕ tY102)
  | t13 =>
    cond (decide (t13 < (List.length s1 : Int)))
      ((rd s1 t13).bind fun t18 =>
      (rd s2 t13).bind fun t22 =>
      cond (xor true (eqB kY30 t18 t22))
        (some (Sum.inr (Sum.inr (false, ()))))
        (some (Sum.inl (w64 (t13 + 1)))))
      (some (Sum.inr (Sum.inl ())))
def Equal10 (k : Nat) (s1 : tY101) (s2 : tY101) : Option tY107 :=
  cond ((List.length s1 : Int) != (List.length s2 : Int))
    (some (false, ()))
    (Option.bind
      (loopN (Equal10.l0 k s1 s2) k 0 : Option tY102) (joined fun (_ : Unit) =>
      some (true, ())))
def Equal10.A : Ann := { conds := [], blocks := [(0, ⟨[], [], 0, [], 67100720⟩)], loops := [(4, ⟨[(13, .int .i64)], [], 0, [], 67100720⟩)], keeps := [], orders := [(6, [(0, .strong), (1, .strong), (2, .strong), (3, .strong), (4, .strong), (5, .strong), (6, .strong), (7, .strong), (8, .strong)])] }
def Equal10.S : Sig := { f := 10, params := [.sl kY30, .sl kY30], objs := [], res := .bool, outs := [], fix := [], run := fun k ds os => Equal10 k ds.1 ds.2 }
def Equal10.G : List Sig := []
theorem Equal10.eq (k : Nat) : ∀ ds os, Equal10.S.run k ds os = runF ⟨types, Equal10.G, Equal10.A, k, 0, []⟩ Tryz.f10 (codeOf Tryz.f10) Equal10.S.params Equal10.S.objs Equal10.S.res Equal10.S.outs ds os := by
  intro ds os; kernel_rfl
theorem Equal10.dr : DrOk Tryz.prog Equal10.A (codeOf Tryz.f10) := ⟨by kernel_rfl, by kernel_rfl⟩
theorem Equal10.ok (k : Nat) : SoundAt Tryz.prog k Equal10.S :=
  runF_sound (X := ⟨types, Equal10.G, Equal10.A, k, 0, []⟩) types_ok (fun s hs => absurd hs List.not_mem_nil) (fn := Tryz.f10) (c := codeOf Tryz.f10) rfl (by kernel_rfl) rfl rfl Equal10.dr (Equal10.eq k)
end Go.Proofs.YtofendipdfepoaaGreat.Tr

/- Go functions as plain Lean functions, and their contracts. -/
set_option linter.unusedVariables false
set_option maxRecDepth 100000
noncomputable section
namespace Go.Proofs.YtofendipdfepoaaGreat.Tr
open Go Go.Proofs.YtofendipdfepoaaGreat.Gp
def TransRuns3.l0 (k : Nat) (addr : Int) (t30 : tY43) : tY3 → Option (tY3 ⊕ tY5)
  | (c_1, b, _, _, _, t52, o1, _, o3, _, o5) =>
    cond (decide (t52 < (List.length t30.1.1.2.1 : Int)))
      ((rd t30.1.1.2.1 t52).bind fun t55 =>
      let t63 : Int := (w64 (addr + t52))
      let t70 : Int := (w64 (addr + t52))
      some (Sum.inl (c_1, b, (), (), (), (w64 (t52 + 1)), o1, (), (mset kY46 kY46 (mput kY46 kY46 o3 t63 (Option.getD (α := Int) (mget kY46 kY46 o3 t63) (0 : Int))) (mpos kY46 kY46 o3 t63) (w64 t55)), (), (mset kY46 kY46 (mput kY46 kY46 o5 t70 (Option.getD (α := Int) (mget kY46 kY46 o5 t70) (0 : Int))) (mpos kY46 kY46 o5 t70) (w64 t55)))))
      (some (Sum.inr (c_1, b, (), (), (), o1, (), o3, (), o5)))
def TransRuns3.l1 (k : Nat) (addr : Int) (t100 : tY56) : tY1 → Option (tY1 ⊕ tY2)
  | (c_4, b_3, _, _, got_1, _, kept_1, t108, o1_3, _, o5_3, o6_1) =>
    cond (decide (t108 < (List.length t100.1.2.1 : Int)))
      ((rd t100.1.2.1 t108).bind fun t110 =>
      some (Sum.inl (c_4, b_3, (), (), got_1, (), (cond kept_1 (cond (cond (t110.1 != 2) true (decide (t110.2.1 < addr))) true (decide (t110.2.1 ≥ (w64 (addr + (List.length b_3.2.1 : Int)))))) false), (w64 (t108 + 1)), o1_3, (), o5_3, o6_1)))
      (some (Sum.inr (c_4, b_3, (), (), got_1, (), kept_1, o1_3, (), o5_3, o6_1)))
def TransRuns3.l2 (k : Nat) (addr : Int) (b_1 : tY50) : tY1 → Option (tY1 ⊕ tY45)
  | (c_3, b_2, _, _, got, _, kept, t93, o1_2, _, o5_2, o6) =>
    cond (decide (t93 < b_1.2.2.1))
      ((Run9 k c_3 o1_2 () () o5_2).bind fun t100 =>
      (if room (List.length o6 + List.length t100.1.2.1) 24 then some () else none).bind fun _ =>
      Option.bind
        (loopN (TransRuns3.l1 k addr t100) k (c_3, b_2, (), (), got, (), kept, 0, t100.1.1, (), t100.2.2, (o6 ++ t100.1.2.1)) : Option tY2) fun ((c_5, b_4, _, _, got_2, _, kept_2, o1_4, _, o5_4, o6_2) : tY2) =>
      some (Sum.inl (c_5, b_4, (), (), got_2, (), kept_2, (w64 (t93 + 1)), o1_4, (), o5_4, o6_2)))
      (some (Sum.inr ((), got, (), kept, o1_2, o6)))
def TransRuns3 (k : Nat) (c : tY19) (code : tY84) (addr : Int) (r : tY109) (mem : tY109) : Option tY107 :=
  (Make5 k c code addr).bind fun t30 =>
  (made6 k).bind fun t33 =>
  cond (cond (!t33.1) true (t30.1.2.1 != 0))
    ((made6 k).bind fun t39 =>
    some (t39.1, ()))
    ((if 0 ≤ 7 ∧ 7 < 9 then some () else none).bind fun _ =>
    (rd r 7).bind fun _ =>
    (Loaded7 k mem 0).bind fun t46 =>
    (Loaded7 k mem 0).bind fun t48 =>
    Option.bind
      (loopN (TransRuns3.l0 k addr t30) k (c, t30.1.1, (), t46.1, t48.1, 0, ((List.set r (Int.toNat 7) addr), (-1), 0, false), (), t46.2.2, (), t48.2.2) : Option tY5) fun ((c_2, b_1, _, _, _, o1_1, _, o3_1, _, o5_1) : tY5) =>
    (Run8 k b_1 o1_1 () () o3_1).bind fun t85 =>
    cond (!t85.1.2.2.1)
      (some (false, ()))
      (Option.bind
        (loopN (TransRuns3.l2 k addr b_1) k (c_2, b_1, (), (), t85.1.1, (), true, 0, o1_1, (), o5_1, []) : Option tY45) fun ((_, got_3, _, kept_3, o1_5, o6_3) : tY45) =>
      Option.bind (cond (!kept_3)
        (some true)
        (Option.bind (cond (xor false (eqB kY20 got_3 o1_5))
          ((Equal10 k t85.1.2.1 o6_3).bind fun t145 =>
          some t145.1)
          (some false)) fun t146 =>
        some t146)) fun t147 =>
      some (t147, ())))
def TransRuns3.A : Ann := { conds := [], blocks := [(0, ⟨[(5, .fp kY0), (11, .fp kY2), (13, .ptr 1 []), (14, .ptr 2 []), (15, .ptr 4 [])], [(1, .var kY20), (2, .var (.st (.mm 3))), (3, .map kY46 kY46), (4, .var (.st (.mm 5))), (5, .map kY46 kY46)], 6, [], 1208925815111029547532288⟩), (2, ⟨[(13, .ptr 1 []), (18, .fp kY20), (21, .ms 6), (22, .bool)], [(1, .var kY20), (6, .row kY30)], 7, [], 87112285931750343126309616460333517373440⟩), (4, ⟨[(5, .fp kY0), (11, .fp kY2), (13, .ptr 1 []), (15, .ptr 4 []), (18, .fp kY20), (21, .ms 6), (22, .bool)], [(1, .var kY20), (4, .var (.st (.mm 5))), (5, .map kY46 kY46), (6, .row kY30)], 7, [], 43556142641361569664885222968110348238848⟩)], loops := [(8, ⟨[(5, .fp kY0), (11, .fp kY2), (13, .ptr 1 []), (14, .ptr 2 []), (15, .ptr 4 []), (52, .int .i64)], [(1, .var kY20), (2, .var (.st (.mm 3))), (3, .map kY46 kY46), (4, .var (.st (.mm 5))), (5, .map kY46 kY46)], 6, [], 1208925815111029547532288⟩), (18, ⟨[(5, .fp kY0), (11, .fp kY2), (13, .ptr 1 []), (15, .ptr 4 []), (18, .fp kY20), (21, .ms 6), (22, .bool), (93, .int .i64)], [(1, .var kY20), (4, .var (.st (.mm 5))), (5, .map kY46 kY46), (6, .row kY30)], 7, [(6, .st kY33)], 87112285931750343126309616460333517373440⟩), (23, ⟨[(5, .fp kY0), (11, .fp kY2), (13, .ptr 1 []), (15, .ptr 4 []), (18, .fp kY20), (21, .ms 6), (22, .bool), (108, .int .i64)], [(1, .var kY20), (4, .var (.st (.mm 5))), (5, .map kY46 kY46), (6, .row kY30)], 7, [], 43556142641361569664885222968110348238848⟩)], keeps := [5, 6, 8, 11, 18, 25], orders := [(10, [(0, .strong), (1, .strong), (2, .strong), (3, .strong), (4, .strong), (5, .strong), (6, .strong), (7, .strong), (8, .strong), (9, .strong), (10, .strong), (11, .weak), (12, .weak), (13, .weak), (14, .weak), (15, .weak), (16, .weak), (17, .weak), (18, .eff false), (19, .strong), (20, .eff false), (21, .eff false), (22, .strong), (23, .eff false)])] }
def TransRuns3.S : Sig := { f := 3, params := [.st kY1, .st kY19, .int .i64, .arr 9 kY46, .sl kY47], objs := [], res := .bool, outs := [], fix := [], run := fun k ds os => TransRuns3 k ds.1 ds.2.1 ds.2.2.1 ds.2.2.2.1 ds.2.2.2.2 }
def TransRuns3.G : List Sig := [Equal10.S, Loaded7.S, Make5.S, Run8.S, Run9.S, made6.S]
theorem TransRuns3.eq (k : Nat) : ∀ ds os, TransRuns3.S.run k ds os = runF ⟨types, TransRuns3.G, TransRuns3.A, k, 0, []⟩ Tryz.f3 (codeOf Tryz.f3) TransRuns3.S.params TransRuns3.S.objs TransRuns3.S.res TransRuns3.S.outs ds os := by
  intro ds os; kernel_rfl
theorem TransRuns3.dr : DrOk Tryz.prog TransRuns3.A (codeOf Tryz.f3) := ⟨by kernel_rfl, by kernel_rfl⟩
theorem TransRuns3.ok (k : Nat) : SoundAt Tryz.prog k TransRuns3.S :=
  runF_sound (X := ⟨types, TransRuns3.G, TransRuns3.A, k, 0, []⟩) types_ok (mem_all (⟨Equal10.ok k, ⟨Loaded7.ok k, ⟨Make5.ok k, ⟨Run8.ok k, ⟨Run9.ok k, ⟨made6.ok k, trivial⟩⟩⟩⟩⟩⟩)) (fn := Tryz.f3) (c := codeOf Tryz.f3) rfl (by kernel_rfl) rfl rfl TransRuns3.dr (TransRuns3.eq k)
end Go.Proofs.YtofendipdfepoaaGreat.Tr

/- What is left of a Go function, in the long run: rounds, loops, lists, numbers. No program in sight. -/
set_option linter.unusedVariables false
noncomputable section
namespace Go.Proofs.YtofendipdfepoaaGreat.Gp
open Go

/-- from some fuel on, f answers v -/
def Ev {α : Type} (f : Nat → Option α) (v : α) : Prop := ∃ n, ∀ k, n ≤ k → f k = some v
/-- .. a loop, from some fuel on and with enough rounds -/
def Lp {S R : Type} (body : Nat → S → Option (S ⊕ R)) (s : S) (r : R) : Prop := ∃ n m, ∀ k, n ≤ k → ∀ j, m ≤ j → loopN (body k) j s = some r

theorem Ev.ex {α : Type} {f : Nat → Option α} {v : α} (h : Ev f v) : ∃ k, f k = some v := by
  obtain ⟨n, h⟩ := h
  exact ⟨n, h n (Nat.le_refl _)⟩
theorem Ev.now {α : Type} (v : α) : Ev (fun _ => some v) v := ⟨0, fun _ _ => rfl⟩
theorem Ev.now' {α : Type} {v w : α} (h : v = w) : Ev (fun _ => some v) w := h ▸ .now v
/-- what hangs on no fuel -/
theorem Ev.const {α : Type} {o : Option α} {v : α} (h : o = some v) : Ev (fun _ => o) v := ⟨0, fun _ _ => h⟩
theorem Ev.to {α : Type} {f : Nat → Option α} {v w : α} (h : Ev f v) (e : v = w) : Ev f w := e ▸ h
theorem Ev.of {α : Type} {f g : Nat → Option α} {v : α} (h : Ev f v) (e : ∀ k, g k = f k) : Ev g v := by
  obtain ⟨n, h⟩ := h
  exact ⟨n, fun k hk => (e k).trans (h k hk)⟩
theorem Ev.bind {α β : Type} {f : Nat → Option α} {g : Nat → α → Option β} {a : α} {b : β} (h : Ev f a) (h2 : Ev (fun k => g k a) b) : Ev (fun k => (f k).bind (g k)) b := by
  obtain ⟨n, h⟩ := h
  obtain ⟨m, h2⟩ := h2
  refine ⟨max n m, fun k hk => ?_⟩
  show (f k).bind (g k) = _
  rw [h k (by omega)]
  exact h2 k (by omega)
/-- a value that hangs on no fuel -/
theorem Ev.val {α β : Type} {o : Option α} {g : Nat → α → Option β} {a : α} {b : β} (h : o = some a) (h2 : Ev (fun k => g k a) b) : Ev (fun k => o.bind (g k)) b := by
  subst h
  exact h2
theorem Ev.joinL {S α β : Type} {f : Nat → Option (α ⊕ β)} {g : Nat → α → Option β} {a : α} {b : β} (h : Ev f (.inl a)) (h2 : Ev (fun k => g k a) b) : Ev (fun k => (f k).bind (joined (g k))) b :=
  Ev.bind (g := fun k => joined (g k)) h h2
theorem Ev.joinR {α β : Type} {f : Nat → Option (α ⊕ β)} {g : Nat → α → Option β} {b : β} (h : Ev f (.inr b)) : Ev (fun k => (f k).bind (joined (g k))) b :=
  Ev.bind (g := fun k => joined (g k)) h (.now b)
/-- a join: how it came, and what follows -/
theorem Ev.join {α β : Type} {f : Nat → Option (α ⊕ β)} {g : Nat → α → Option β} {s : α ⊕ β} {b : β} (h : Ev f s) (h1 : ∀ a, s = .inl a → Ev (fun k => g k a) b) (h2 : ∀ r, s = .inr r → r = b) : Ev (fun k => (f k).bind (joined (g k))) b := by
  cases s with
  | inl a => exact Ev.bind (g := fun k => joined (g k)) h (h1 a rfl)
  | inr r => exact Ev.bind (g := fun k => joined (g k)) h (.now' (h2 r rfl))
theorem Ev.cnd {α : Type} {c : Bool} {f g : Nat → Option α} {v : α} (h1 : c = true → Ev f v) (h2 : c = false → Ev g v) : Ev (fun k => cond c (f k) (g k)) v := by
  cases c with
  | true => exact h1 rfl
  | false => exact h2 rfl
theorem Ev.yes {α : Type} {c : Bool} {f g : Nat → Option α} {v : α} (hc : c = true) (h : Ev f v) : Ev (fun k => cond c (f k) (g k)) v := by rw [hc]; exact h
theorem Ev.no {α : Type} {c : Bool} {f g : Nat → Option α} {v : α} (hc : c = false) (h : Ev g v) : Ev (fun k => cond c (f k) (g k)) v := by rw [hc]; exact h
theorem Ev.map {α β : Type} {f : Nat → Option α} {g : α → β} {a : α} (h : Ev f a) : Ev (fun k => (f k).map g) (g a) := by
  obtain ⟨n, h⟩ := h
  exact ⟨n, fun k hk => by show (f k).map g = _; rw [h k hk]; rfl⟩

theorem Lp.ev {S R : Type} {body : Nat → S → Option (S ⊕ R)} {s : S} {r : R} (h : Lp body s r) : Ev (fun k => loopN (body k) k s) r := by
  obtain ⟨n, m, h⟩ := h
  exact ⟨max n m, fun k hk => h k (by omega) k (by omega)⟩
theorem Lp.done {S R : Type} {body : Nat → S → Option (S ⊕ R)} {s : S} {r : R} (h : Ev (fun k => body k s) (.inr r)) : Lp body s r := by
  obtain ⟨n, h⟩ := h
  refine ⟨n, 1, fun k hk j hj => ?_⟩
  obtain ⟨j, rfl⟩ : ∃ i, j = i + 1 := ⟨j - 1, by omega⟩
  show (body k s).bind _ = _
  rw [show body k s = _ from h k hk]
  rfl
theorem Lp.step {S R : Type} {body : Nat → S → Option (S ⊕ R)} {s s' : S} {r : R} (h : Ev (fun k => body k s) (.inl s')) (h2 : Lp body s' r) : Lp body s r := by
  obtain ⟨n, h⟩ := h
  obtain ⟨n2, m, h2⟩ := h2
  refine ⟨max n n2, m + 1, fun k hk j hj => ?_⟩
  obtain ⟨j, rfl⟩ : ∃ i, j = i + 1 := ⟨j - 1, by omega⟩
  show (body k s).bind _ = _
  rw [show body k s = _ from h k (by omega)]
  exact h2 k (by omega) j (by omega)

/-- a walk over a list, that may end early -/
def walk {α β R : Type} (f : β → α → β ⊕ R) (fin : β → R) : List α → β → R
  | [], b => fin b
  | x :: l, b => match f b x with | .inl b' => walk f fin l b' | .inr r => r
theorem walk_cons {α β R : Type} {f : β → α → β ⊕ R} {fin : β → R} {x : α} {l : List α} {b : β} : walk f fin (x :: l) b = match f b x with | .inl b' => walk f fin l b' | .inr r => r := rfl

/-- a loop over a list by its index: 'st b i' is the loop's state -/
theorem Lp.walk {α β S R : Type} {body : Nat → S → Option (S ⊕ R)} (l : List α) (st : β → Int → S) (f : β → α → β ⊕ R) (fin : β → R) (Inv : Nat → β → Prop)
    (hs : ∀ i x b, l[i]? = some x → Inv i b → Ev (fun k => body k (st b i)) (match f b x with | .inl b' => .inl (st b' ((i : Int) + 1)) | .inr r => .inr r) ∧ ∀ b', f b x = .inl b' → Inv (i + 1) b')
    (hd : ∀ b, Inv l.length b → Ev (fun k => body k (st b l.length)) (.inr (fin b))) {b : β} (h0 : Inv 0 b) : Lp body (st b 0) (walk f fin l b) := by
  have key : ∀ (suf pre : List α) (b : β), l = pre ++ suf → Inv pre.length b → Lp body (st b (pre.length : Int)) (Gp.walk f fin suf b) := by
    intro suf
    induction suf with
    | nil =>
      intro pre b h hi
      rw [List.append_nil] at h
      subst h
      exact .done (hd b hi)
    | cons x suf ih =>
      intro pre b h hi
      have hx : l[pre.length]? = some x := by rw [h]; simp
      obtain ⟨h1, h2⟩ := hs pre.length x b hx hi
      rw [walk_cons]
      cases hf : f b x with
      | inr r => rw [hf] at h1; exact .done h1
      | inl b' =>
        rw [hf] at h1
        refine .step h1 ?_
        have := ih (pre ++ [x]) b' (by rw [h]; simp) (by simpa using h2 b' hf)
        simpa using this
  exact key l [] b rfl h0
/-- .. that always goes to its end -/
theorem Lp.fold {α β S R : Type} {body : Nat → S → Option (S ⊕ R)} (l : List α) (st : β → Int → S) (f : β → α → β) (fin : β → R) (Inv : Nat → β → Prop)
    (hs : ∀ i x b, l[i]? = some x → Inv i b → Ev (fun k => body k (st b i)) (.inl (st (f b x) ((i : Int) + 1))) ∧ Inv (i + 1) (f b x))
    (hd : ∀ b, Inv l.length b → Ev (fun k => body k (st b l.length)) (.inr (fin b))) {b : β} (h0 : Inv 0 b) : Lp body (st b 0) (fin (l.foldl f b)) := by
  have := Lp.walk (body := body) l st (fun b x => .inl (f b x)) fin Inv (fun i x b hx hi => ⟨(hs i x b hx hi).1, fun b' hb => by cases hb; exact (hs i x b hx hi).2⟩) hd h0
  have e : ∀ (l : List α) (b : β), Gp.walk (fun b x => (.inl (f b x) : β ⊕ R)) fin l b = fin (l.foldl f b) := by
    intro l
    induction l with
    | nil => intro b; rfl
    | cons x l ih => intro b; rw [walk_cons, List.foldl_cons]; exact ih _
  rwa [e] at this
/-- a loop that counts from 0 to n -/
theorem Lp.count {β S R : Type} {body : Nat → S → Option (S ⊕ R)} (n : Nat) (st : β → Int → S) (f : β → Nat → β) (fin : β → R) (Inv : Nat → β → Prop)
    (hs : ∀ i b, i < n → Inv i b → Ev (fun k => body k (st b i)) (.inl (st (f b i) ((i : Int) + 1))) ∧ Inv (i + 1) (f b i))
    (hd : ∀ b, Inv n b → Ev (fun k => body k (st b n)) (.inr (fin b))) {b : β} (h0 : Inv 0 b) : Lp body (st b 0) (fin ((List.range n).foldl f b)) := by
  refine Lp.fold (List.range n) st f fin Inv (fun i x b hx hi => ?_) (fun b hb => ?_) h0
  · obtain ⟨h1, h2⟩ := List.getElem?_eq_some_iff.1 hx
    rw [List.getElem_range] at h2
    subst h2
    exact hs i b (by simpa using h1) hi
  · rw [List.length_range] at hb ⊢
    exact hd b hb

-- numbers
theorem w64_id {x : Int} (h0 : -9223372036854775808 ≤ x) (h1 : x ≤ 9223372036854775807) : w64 x = x := by
  show IntKind.wrap .i64 x = x
  have e : (2 : Int) ^ (64 - 1) = 9223372036854775808 := by decide
  have e2 : (2 : Int) ^ 64 = 18446744073709551616 := by decide
  simp only [IntKind.wrap, IntKind.signed, IntKind.bits, Bool.true_and, decide_eq_true_eq, e, e2]
  split <;> omega
theorem w64_nat {n : Nat} (h : n ≤ 9223372036854775807) : w64 (n : Int) = n := w64_id (by omega) (by omega)
theorem w64_succ {n : Nat} (h : n < 9223372036854775807) : w64 ((n : Int) + 1) = ((n + 1 : Nat) : Int) := by rw [w64_id (by omega) (by omega)]; omega
theorem rd_nat {α : Type} (l : List α) (i : Nat) : rd l (i : Int) = l[i]? := by
  unfold rd
  rw [if_pos (by omega)]
  rfl
theorem rd_some' {α : Type} {l : List α} {i : Nat} {x : α} (h : l[i]? = some x) : rd l (i : Int) = some x := by rw [rd_nat, h]
theorem rd_at {α : Type} {l : List α} {z : Int} {i : Nat} {x : α} (hz : z = i) (h : l[i]? = some x) : rd l z = some x := by rw [hz, rd_nat, h]
theorem room_ok {n b : Nat} (h : n * b ≤ 140737488355328) : room n b = true := Nat.ble_eq_true_of_le h
theorem get_lt {α : Type} {l : List α} {i : Nat} {x : α} (h : l[i]? = some x) : i < l.length := (List.getElem?_eq_some_iff.1 h).1
theorem get_mem {α : Type} {l : List α} {i : Nat} {x : α} (h : l[i]? = some x) : x ∈ l := List.mem_of_getElem? h
theorem slc_ok {α : Type} {l : List α} {a b : Nat} (h1 : a ≤ b) (h2 : b ≤ l.length) : slc l (a : Int) (b : Int) = some ((l.take b).drop a) := by
  unfold slc
  rw [if_pos ⟨by omega, by omega, by omega⟩]
  simp
theorem streq_iff {a b : ByteArray} : streq a b = true ↔ a = b := ⟨streq_eq, fun h => by rw [h]; exact streq_refl b⟩
theorem lit_wf {k : Int} (h : (Lit.int .i64 k).wf = true) : -9223372036854775808 ≤ k ∧ k ≤ 9223372036854775807 := by
  simp [Lit.wf, IntKind.min, IntKind.max, IntKind.signed, IntKind.bits] at h
  omega

-- bits
theorem wrap64_nat {n : Nat} (h : n < 9223372036854775808) : IntKind.wrap .i64 (n : Int) = n := w64_nat (by omega)
theorem bv_nat (a : Nat) : BitVec.ofInt 64 (a : Int) = BitVec.ofNat 64 a := BitVec.ofInt_natCast 64 a
theorem ibits_or {a b : Nat} (ha : a < 9223372036854775808) (hb : b < 9223372036854775808) : ibits .or .i64 (a : Int) (b : Int) = ((a ||| b : Nat) : Int) := by
  have h : (a ||| b) < 2 ^ 63 := Nat.or_lt_two_pow ha hb
  show IntKind.wrap .i64 (((BitVec.ofInt 64 (a : Int) ||| BitVec.ofInt 64 (b : Int)).toNat : Nat) : Int) = _
  rw [bv_nat, bv_nat, BitVec.toNat_or, BitVec.toNat_ofNat, BitVec.toNat_ofNat, Nat.mod_eq_of_lt (by omega), Nat.mod_eq_of_lt (by omega)]
  exact wrap64_nat h
theorem ibits_andNot {a b : Nat} (ha : a < 9223372036854775808) (hb : b < 9223372036854775808) : ibits .andNot .i64 (a : Int) (b : Int) = ((a ^^^ (a &&& b) : Nat) : Int) := by
  have h1 : (a &&& b) < 2 ^ 63 := by rw [Nat.and_comm]; exact Nat.and_lt_two_pow _ ha
  have h : (a ^^^ (a &&& b)) < 2 ^ 63 := Nat.xor_lt_two_pow ha h1
  have e : (BitVec.ofNat 64 a &&& ~~~ BitVec.ofNat 64 b).toNat = a ^^^ (a &&& b) := by
    apply Nat.eq_of_testBit_eq
    intro i
    rw [BitVec.testBit_toNat, BitVec.getLsbD_and, BitVec.getLsbD_not, BitVec.getLsbD_ofNat, BitVec.getLsbD_ofNat, Nat.testBit_xor, Nat.testBit_and]
    by_cases hi : i < 64
    · cases a.testBit i <;> cases b.testBit i <;> simp [hi]
    · have : a.testBit i = false := Nat.testBit_lt_two_pow (Nat.lt_of_lt_of_le ha (Nat.le_trans (by decide : 9223372036854775808 ≤ 2 ^ 64) (Nat.pow_le_pow_right (by decide) (by omega))))
      simp [this]
  show IntKind.wrap .i64 (((BitVec.ofInt 64 (a : Int) &&& ~~~ BitVec.ofInt 64 (b : Int)).toNat : Nat) : Int) = _
  rw [bv_nat, bv_nat, e]
  exact wrap64_nat h
theorem shlI_nat {a j : Nat} (hj : j ≤ 64) (h : a * 2 ^ j < 9223372036854775808) : shlI .i64 (a : Int) (j : Int) = ((a * 2 ^ j : Nat) : Int) := by
  unfold shlI
  simp only [IntKind.bits, Int.toNat_natCast]
  rw [Nat.min_eq_left hj, show ((a : Int) * 2 ^ j) = ((a * 2 ^ j : Nat) : Int) by simp]
  exact wrap64_nat h
theorem shrI_nat {a j : Nat} (hj : j ≤ 64) : shrI .i64 (a : Int) (j : Int) = ((a / 2 ^ j : Nat) : Int) := by
  unfold shrI
  simp only [IntKind.bits, Int.toNat_natCast]
  rw [Nat.min_eq_left hj, show ((2 : Int) ^ j) = ((2 ^ j : Nat) : Int) by simp, Int.fdiv_eq_ediv_of_nonneg _ (Int.natCast_nonneg _)]
  simp

-- maps
theorem mpos_lt {kk kv : K} {l : List (kk.den × kv.den)} {k : kk.den} (h : mpos kk kv l k < l.length) : ∃ e, l[mpos kk kv l k]? = some e ∧ eqB kk k e.1 = true := by
  have := List.findIdx_getElem (xs := l) (p := fun (e : kk.den × kv.den) => eqB kk k e.1) (w := h)
  exact ⟨_, List.getElem?_eq_getElem h, this⟩
theorem find_modify {α : Type} {p : α → Bool} {x : α} : ∀ {l : List α} {i : Nat}, (∀ y, l[i]? = some y → p y = p x) → p x = false → (l.modify i (fun _ => x)).find? p = l.find? p
  | [], i, _, _ => by simp
  | y :: l, 0, h, hx => by
    have := h y rfl
    rw [hx] at this
    simp [List.modify, List.find?, this, hx]
  | y :: l, i + 1, h, hx => by
    have ih := find_modify (l := l) (i := i) (fun z hz => h z (by simpa using hz)) hx
    simp only [List.modify_succ_cons, List.find?_cons]
    rw [ih]
theorem find_modify_at {α : Type} {p : α → Bool} {x : α} (hx : p x = true) : ∀ {l : List α}, l.findIdx p < l.length → (l.modify (l.findIdx p) (fun _ => x)).find? p = some x
  | [], h => by simp at h
  | y :: l, h => by
    rw [List.findIdx_cons] at h ⊢
    cases hy : p y with
    | true => simp [hx]
    | false =>
      rw [hy] at h
      simp only [cond_false, List.length_cons] at h ⊢
      rw [List.modify_succ_cons, List.find?_cons, hy]
      exact find_modify_at hx (by omega)
theorem mget_mput {kk kv : K} (hc : kk.cmp = true) {l : List (kk.den × kv.den)} {k k' : kk.den} {v : kv.den} : mget kk kv (mput kk kv l k v) k' = if eqB kk k' k = true then some v else mget kk kv l k' := by
  unfold mget mput
  by_cases hk : eqB kk k' k = true
  · have := eqB_eq hc hk
    subst this
    rw [if_pos hk]
    split
    · rename_i h
      rw [show mpos kk kv l k' = l.findIdx (fun e => eqB kk k' e.1) from rfl] at h ⊢
      rw [find_modify_at (by exact hk) h]
      rfl
    · rename_i h
      have hn : l.find? (fun e => eqB kk k' e.1) = none := by
        rw [List.find?_eq_none]
        intro x hx hp
        exact h (List.findIdx_lt_length_of_exists ⟨x, hx, hp⟩)
      rw [List.find?_append, hn]
      simp [hk]
  · rw [if_neg hk]
    have hk' : eqB kk k' k = false := by simpa using hk
    split
    · rename_i h
      rw [find_modify (fun y hy => ?_) (by exact hk')]
      obtain ⟨e, he, hp⟩ := mpos_lt h
      rw [he] at hy
      cases hy
      rw [← eqB_eq hc hp]
    · rw [List.find?_append]
      simp [hk']
theorem foldl_snoc {α β : Type} (g : α → β) : ∀ (l : List α) (o : List β), l.foldl (fun o x => o ++ [g x]) o = o ++ l.map g
  | [], o => by simp
  | x :: l, o => by rw [List.foldl_cons, foldl_snoc g l]; simp
end Go.Proofs.YtofendipdfepoaaGreat.Gp

/- More fuel, no other answer. -/
set_option linter.unusedVariables false
noncomputable section
namespace Go.Proofs.YtofendipdfepoaaGreat.Gp
open Go

def Mono {α : Type} (f : Nat → Option α) : Prop := ∀ k j v, k ≤ j → f k = some v → f j = some v
theorem Mono.ev {α : Type} {f : Nat → Option α} (h : Mono f) {n : Nat} {v : α} (e : f n = some v) : Ev f v := ⟨n, fun k hk => h n k v hk e⟩
theorem Mono.const {α : Type} (o : Option α) : Mono (fun _ => o) := fun _ _ _ _ h => h
theorem Mono.bind {α β : Type} {f : Nat → Option α} {g : Nat → α → Option β} (h : Mono f) (h2 : ∀ a, Mono (fun k => g k a)) : Mono (fun k => (f k).bind (g k)) := by
  intro k j v hk he
  obtain ⟨a, ha, hb⟩ := Option.bind_eq_some_iff.1 he
  exact Option.bind_eq_some_iff.2 ⟨a, h k j a hk ha, h2 a k j v hk hb⟩
theorem Mono.cond {α : Type} {c : Bool} {f g : Nat → Option α} (h : Mono f) (h2 : Mono g) : Mono (fun k => cond c (f k) (g k)) := by
  cases c
  · exact h2
  · exact h
theorem Mono.joined {α β : Type} {f : Nat → Option (α ⊕ β)} {g : Nat → α → Option β} (h : Mono f) (h2 : ∀ a, Mono (fun k => g k a)) : Mono (fun k => (f k).bind (joined (g k))) :=
  Mono.bind (g := fun k => Gp.joined (g k)) h (fun a => by
    cases a with
    | inl a => exact h2 a
    | inr b => exact Mono.const _)
theorem Mono.loop {S R : Type} {body : Nat → S → Option (S ⊕ R)} {s : S} (h : ∀ s, Mono (fun k => body k s)) : Mono (fun k => loopN (body k) k s) := by
  have key : ∀ (n : Nat) (k j m : Nat) (s : S) (v : R), k ≤ j → n ≤ m → loopN (body k) n s = some v → loopN (body j) m s = some v := by
    intro n
    induction n with
    | zero => intro k j m s v _ _ he; cases he
    | succ n ih =>
      intro k j m s v hk hm he
      obtain ⟨m, rfl⟩ : ∃ i, m = i + 1 := ⟨m - 1, by omega⟩
      obtain ⟨a, ha, hb⟩ := Option.bind_eq_some_iff.1 (show (body k s).bind _ = some v from he)
      refine Option.bind_eq_some_iff.2 ⟨a, h s k j a hk ha, ?_⟩
      cases a with
      | inl s' => exact ih k j m s' v hk (by omega) hb
      | inr r => exact hb
  intro k j v hk he
  exact key k k j j s v hk hk he
theorem Mono.agree {α : Type} {f g : Nat → Option α} (h : Mono f) (h2 : Mono g) : Mono (fun k => agree (f k) (g k)) := by
  intro k j v hk he
  obtain ⟨a, b⟩ := agree_some he
  show Gp.agree (f j) (g j) = some v
  rw [h k j v hk a, h2 k j v hk b]
  exact agree_self _
theorem Mono.orNil {α : Type} {n : Nat} {f g : Nat → Option α} (h : Mono f) (h2 : Mono g) : Mono (fun k => orNil n (f k) (g k)) := by
  intro k j v hk he
  obtain ⟨a, b⟩ := orNil_some he
  have h3 := h2 k j v hk a
  show Gp.orNil n (f j) (g j) = some v
  rw [orNil_same (fun e => by rw [h3, h k j v hk (b e)])]
  exact h3
theorem Mono.prod {α β γ : Type} {f : Nat → α × β → Option γ} (h : ∀ a b, Mono (fun k => f k (a, b))) : ∀ x, Mono (fun k => f k x) := fun x => by
  obtain ⟨a, b⟩ := x
  exact h a b
end Go.Proofs.YtofendipdfepoaaGreat.Gp

/- What is left of a Go function answers, and its answer has a property. No program in sight. -/
set_option linter.unusedVariables false
noncomputable section
namespace Go.Proofs.YtofendipdfepoaaGreat.Gp
open Go

def Tot {α : Type} (f : Nat → Option α) (P : α → Prop) : Prop := ∃ v, Ev f v ∧ P v
theorem Tot.ret {α : Type} {P : α → Prop} {v : α} (h : P v) : Tot (fun _ => some v) P := ⟨v, .now _, h⟩
theorem Tot.of {α : Type} {P : α → Prop} {f : Nat → Option α} {v : α} (h : Ev f v) (hp : P v) : Tot f P := ⟨v, h, hp⟩
theorem Tot.mono {α : Type} {P Q : α → Prop} {f : Nat → Option α} (h : Tot f P) (hp : ∀ v, P v → Q v) : Tot f Q := by
  obtain ⟨v, h1, h2⟩ := h
  exact ⟨v, h1, hp v h2⟩
theorem Tot.bind {α β : Type} {P : α → Prop} {Q : β → Prop} {f : Nat → Option α} {g : Nat → α → Option β} (h : Tot f P) (h2 : ∀ a, P a → Tot (fun k => g k a) Q) : Tot (fun k => (f k).bind (g k)) Q := by
  obtain ⟨a, h, ha⟩ := h
  obtain ⟨b, h2, hb⟩ := h2 a ha
  exact ⟨b, h.bind h2, hb⟩
theorem Tot.val {α β : Type} {Q : β → Prop} {o : Option α} {g : Nat → α → Option β} {a : α} (h : o = some a) (h2 : Tot (fun k => g k a) Q) : Tot (fun k => o.bind (g k)) Q := by
  subst h
  exact h2
theorem Tot.ask {β : Type} {Q : β → Prop} {c : Prop} [Decidable c] {g : Nat → Unit → Option β} (hc : c) (h2 : Tot (fun k => g k ()) Q) : Tot (fun k => (if c then some () else none).bind (g k)) Q := Tot.val (if_pos hc) h2
theorem Tot.nneg {α β : Type} {Q : β → Prop} {x : Int} {y : α} {g : Nat → α → Option β} (hx : 0 ≤ x) (h2 : Tot (fun k => g k y) Q) : Tot (fun k => (if x < 0 then none else some y).bind (g k)) Q := Tot.val (if_neg (by omega)) h2
theorem Tot.cnd {α : Type} {P : α → Prop} {c : Bool} {f g : Nat → Option α} (h1 : c = true → Tot f P) (h2 : c = false → Tot g P) : Tot (fun k => cond c (f k) (g k)) P := by
  cases c with
  | true => exact h1 rfl
  | false => exact h2 rfl
theorem Tot.join {α β : Type} {P : α ⊕ β → Prop} {Q : β → Prop} {f : Nat → Option (α ⊕ β)} {g : Nat → α → Option β} (h : Tot f P) (h1 : ∀ a, P (.inl a) → Tot (fun k => g k a) Q) (h2 : ∀ b, P (.inr b) → Q b) : Tot (fun k => (f k).bind (joined (g k))) Q := by
  obtain ⟨v, h, hv⟩ := h
  cases v with
  | inl a =>
    obtain ⟨b, h3, hb⟩ := h1 a hv
    exact ⟨b, Ev.joinL (S := Unit) h h3, hb⟩
  | inr b => exact ⟨b, h.joinR, h2 b hv⟩
theorem Tot.read {α β : Type} {Q : β → Prop} {l : List α} {i : Int} {g : Nat → α → Option β} (h : 0 ≤ i ∧ i < (l.length : Int)) (h2 : ∀ a, l[i.toNat]? = some a → Tot (fun k => g k a) Q) : Tot (fun k => (rd l i).bind (g k)) Q := by
  have hlt : i.toNat < l.length := by omega
  have := List.getElem?_eq_getElem hlt
  exact Tot.val (rd_at (i := i.toNat) (by omega) this) (h2 _ this)
theorem Tot.ev {α : Type} {P : α → Prop} {f : Nat → Option α} (h : Tot f P) : ∃ v, Ev f v ∧ P v := h
/-- a loop over a list -/
theorem Tot.walk {α β S R : Type} {body : Nat → S → Option (S ⊕ R)} (l : List α) (st : β → Int → S) (Inv : β → Prop) (Q : R → Prop)
    (hs : ∀ (i : Nat) x b, l[i]? = some x → Inv b → Tot (fun k => body k (st b (i : Int))) (fun y => match y with | .inl s => ∃ b', s = st b' ((i : Int) + 1) ∧ Inv b' | .inr r => Q r))
    (hd : ∀ b, Inv b → Tot (fun k => body k (st b l.length)) (fun y => match y with | .inl s => False | .inr r => Q r)) {b : β} (h0 : Inv b) : Tot (fun k => loopN (body k) k (st b 0)) Q := by
  have key : ∀ (suf pre : List α) (b : β), l = pre ++ suf → Inv b → ∃ r, Lp body (st b (pre.length : Int)) r ∧ Q r := by
    intro suf
    induction suf with
    | nil =>
      intro pre b h hi
      rw [List.append_nil] at h
      subst h
      obtain ⟨y, h1, h2⟩ := hd b hi
      cases y with
      | inl s => exact h2.elim
      | inr r => exact ⟨r, .done h1, h2⟩
    | cons x suf ih =>
      intro pre b h hi
      have hx : l[pre.length]? = some x := by rw [h]; simp
      obtain ⟨y, h1, h2⟩ := hs pre.length x b hx hi
      cases y with
      | inr r => exact ⟨r, .done h1, h2⟩
      | inl s =>
        obtain ⟨b', rfl, hb'⟩ := h2
        obtain ⟨r, h3, h4⟩ := ih (pre ++ [x]) b' (by rw [h]; simp) hb'
        refine ⟨r, .step h1 ?_, h4⟩
        rw [List.length_append] at h3
        exact h3
  obtain ⟨r, h1, h2⟩ := key l [] b rfl h0
  exact ⟨r, h1.ev, h2⟩

/-- .. with what was seen so far -/
theorem Tot.walkI {α β S R : Type} {body : Nat → S → Option (S ⊕ R)} (l : List α) (st : β → Int → S) (Inv : Nat → β → Prop) (Q : R → Prop)
    (hs : ∀ (i : Nat) x b, l[i]? = some x → Inv i b → Tot (fun k => body k (st b (i : Int))) (fun y => match y with | .inl s => ∃ b', s = st b' ((i : Int) + 1) ∧ Inv (i + 1) b' | .inr r => Q r))
    (hd : ∀ b, Inv l.length b → Tot (fun k => body k (st b l.length)) (fun y => match y with | .inl s => False | .inr r => Q r)) {b : β} (h0 : Inv 0 b) : Tot (fun k => loopN (body k) k (st b 0)) Q := by
  have key : ∀ (suf pre : List α) (b : β), l = pre ++ suf → Inv pre.length b → ∃ r, Lp body (st b (pre.length : Int)) r ∧ Q r := by
    intro suf
    induction suf with
    | nil =>
      intro pre b h hi
      rw [List.append_nil] at h
      subst h
      obtain ⟨y, h1, h2⟩ := hd b hi
      cases y with
      | inl s => exact h2.elim
      | inr r => exact ⟨r, .done h1, h2⟩
    | cons x suf ih =>
      intro pre b h hi
      have hx : l[pre.length]? = some x := by rw [h]; simp
      obtain ⟨y, h1, h2⟩ := hs pre.length x b hx hi
      cases y with
      | inr r => exact ⟨r, .done h1, h2⟩
      | inl s =>
        obtain ⟨b', rfl, hb'⟩ := h2
        obtain ⟨r, h3, h4⟩ := ih (pre ++ [x]) b' (by rw [h]; simp) (by rw [List.length_append]; exact hb')
        refine ⟨r, .step h1 ?_, h4⟩
        rw [List.length_append] at h3
        exact h3
  obtain ⟨r, h1, h2⟩ := key l [] b rfl h0
  exact ⟨r, h1.ev, h2⟩

/-- all rows of numbers have nine -/
class Nin (α : Type) where
  p : α → Prop
instance : Nin Unit := ⟨fun _ => True⟩
instance : Nin Int := ⟨fun _ => True⟩
instance : Nin Bool := ⟨fun _ => True⟩
instance : Nin (List Int) := ⟨fun l => l.length = 9⟩
instance {α β : Type} [Nin α] [Nin β] : Nin (α × β) := ⟨fun x => Nin.p x.1 ∧ Nin.p x.2⟩
instance {α β : Type} [Nin α] [Nin β] : Nin (α ⊕ β) := ⟨fun x => match x with | .inl a => Nin.p a | .inr b => Nin.p b⟩
theorem Tot.prod {α β γ : Type} [Nin α] [Nin β] {Q : γ → Prop} {f : Nat → α × β → Option γ} (h : ∀ a, Nin.p a → ∀ b, Nin.p b → Tot (fun k => f k (a, b)) Q) : ∀ x : α × β, Nin.p x → Tot (fun k => f k x) Q := fun x hx => h x.1 hx.1 x.2 hx.2
/-- it answers -/
theorem Tot.bindT {α β : Type} {Q : β → Prop} {f : Nat → Option α} {g : Nat → α → Option β} (h : Tot f (fun _ => True)) (h2 : ∀ a, Tot (fun k => g k a) Q) : Tot (fun k => (f k).bind (g k)) Q := Tot.bind h (fun a _ => h2 a)
theorem Tot.any {α : Type} {P : α → Prop} {f : Nat → Option α} (h : Tot f P) : Tot f (fun _ => True) := h.mono fun _ _ => trivial
theorem Tot.prodT {α β γ : Type} {Q : γ → Prop} {f : Nat → α × β → Option γ} (h : ∀ a b, Tot (fun k => f k (a, b)) Q) : ∀ x : α × β, Tot (fun k => f k x) Q := fun x => h x.1 x.2
theorem Tot.joinT {α β : Type} {f : Nat → Option (α ⊕ β)} {g : Nat → α → Option β} (h : Tot f (fun _ => True)) (h1 : ∀ a, Tot (fun k => g k a) (fun _ => True)) : Tot (fun k => (f k).bind (Gp.joined (g k))) (fun _ => True) :=
  Tot.join (P := fun _ => True) h (fun a _ => h1 a) (fun _ _ => trivial)
end Go.Proofs.YtofendipdfepoaaGreat.Gp

/- What processors may do: the check. No program in sight. -/
set_option linter.unusedVariables false
set_option maxRecDepth 100000
noncomputable section
namespace Go.Proofs.YtofendipdfepoaaGreat.Tr
open Go Go.Proofs.YtofendipdfepoaaGreat.Gp

abbrev Stp4 := Int × Int × Int × Int
abbrev Cyc := Int × Int × Int × List Stp4
abbrev Ins := Int × ByteArray × Int × List Cyc
abbrev Cpu := ByteArray × List Ins × List Cyc × List Cyc × List Cyc
theorem mm_bounds (a b x : Int) (h : a ≤ b) : a ≤ mxI a (mnI x b) ∧ mxI a (mnI x b) ≤ b := by
  unfold mxI mnI
  split <;> split <;> omega
theorem ibits_low (n : Int) {j : Nat} (hj : j ≤ 62) : ibits .and .i64 n ((2 ^ j - 1 : Nat) : Int) = n % ((2 ^ j : Nat) : Int) := by
  have hp : 2 ^ j ≤ 2 ^ 62 := Nat.pow_le_pow_right (by decide) hj
  have hpos : 0 < 2 ^ j := Nat.pow_pos (by decide)
  have e62 : (2 : Nat) ^ 62 = 4611686018427387904 := by decide
  have e64 : (2 : Nat) ^ 64 = 18446744073709551616 := by decide
  show IntKind.wrap .i64 (((BitVec.ofInt 64 n &&& BitVec.ofInt 64 ((2 ^ j - 1 : Nat) : Int)).toNat : Nat) : Int) = _
  rw [bv_nat, BitVec.toNat_and, BitVec.toNat_ofNat, Nat.mod_eq_of_lt (by omega), BitVec.toNat_ofInt, Nat.and_two_pow_sub_one_eq_mod]
  have hlt : (n % (2 ^ 64 : Nat)).toNat % 2 ^ j < 2 ^ j := Nat.mod_lt _ hpos
  rw [wrap64_nat (by omega), Int.natCast_emod, Int.toNat_of_nonneg (Int.emod_nonneg _ (by rw [e64]; decide))]
  exact Int.emod_emod_of_dvd n (Int.natCast_dvd_natCast.2 (Nat.pow_dvd_pow 2 (by omega)))
theorem low8_ev (n : Int) : Ev (fun k => Low25 k n 8) (n % 256, ()) := by
  unfold Low25
  refine .val (a := (8, ())) rfl (.val (a := shlI .i64 1 8) rfl (.now' ?_))
  have := ibits_low n (j := 8) (by decide)
  exact congrArg (fun x => (x, ())) this
theorem low16_ev (n : Int) : Ev (fun k => Low25 k n 16) (n % 65536, ()) := by
  unfold Low25
  refine .val (a := (16, ())) rfl (.val (a := shlI .i64 1 16) rfl (.now' ?_))
  have := ibits_low n (j := 16) (by decide)
  exact congrArg (fun x => (x, ())) this
def Wcyc (l : List Cyc) : Prop := l.length * 48 ≤ 140737488351232 ∧ ∀ y ∈ l, y.2.2.2.length * 32 ≤ 140737488351232
/-- no row is too long -/
structure Wc (c : Cpu) : Prop where
  len : c.2.1.length * 56 ≤ 140737488351232
  ins : ∀ x ∈ c.2.1, Wcyc x.2.2.2
  res : Wcyc c.2.2.1
  irq : Wcyc c.2.2.2.1
  nmi : Wcyc c.2.2.2.2
theorem clone_ev (s : List Cyc) (h : s.length * 48 ≤ 140737488351232) : Ev (fun k => Clone137 k s) ((), s) := by
  unfold Clone137
  have e : (if room (0 + List.length s) 48 then some () else none : Option Unit) = some () := if_pos (room_ok (by omega))
  refine Ev.const ?_
  rw [orNil_same (fun h0 => ?_)]
  · show Option.bind _ _ = _
    rw [e]; rfl
  · have := List.length_eq_zero_iff.1 h0
    subst this
    rw [e]; rfl
theorem clones_ev (s : List Stp4) (h : s.length * 32 ≤ 140737488351232) : Ev (fun k => Clone48 k s) ((), s) := by
  unfold Clone48
  have e : (if room (0 + List.length s) 32 then some () else none : Option Unit) = some () := if_pos (room_ok (by omega))
  refine Ev.const ?_
  rw [orNil_same (fun h0 => ?_)]
  · show Option.bind _ _ = _
    rw [e]; rfl
  · have := List.length_eq_zero_iff.1 h0
    subst this
    rw [e]; rfl
theorem copies_ev (l : List Cyc) (h : Wcyc l) : Ev (fun k => copies90 k l) (l, ()) := by
  have hl := h.1
  unfold copies90
  refine .bind (clone_ev l hl) (.bind (a := ((), l)) (Lp.ev ?_) (.now _))
  have := Lp.count (body := fun k => copies90.l0 k ((), l)) l.length (fun (_ : Unit) i => ((), i, l)) (fun _ _ => ()) (fun _ => ((), l)) (fun _ _ => True) (fun i b hi _ => ⟨?_, trivial⟩) (fun b _ => ?_) (b := ()) trivial
  · exact this
  · obtain ⟨x, hx⟩ : ∃ x, l[i]? = some x := ⟨l[i], List.getElem?_eq_getElem hi⟩
    have hr := rd_some' hx
    simp only [copies90.l0]
    refine .yes (decide_eq_true (by omega)) (.val hr (.val hr (.bind (clones_ev x.2.2.2 (h.2 x (get_mem hx))) (.val hr (.val hr (.now' ?_))))))
    rw [w64_id (by omega) (by omega), Int.toNat_natCast]
    have : l.set i x = l := by
      obtain ⟨h1, h2⟩ := List.getElem?_eq_some_iff.1 hx
      rw [← h2]
      exact List.set_getElem_self h1
    show (Sum.inl ((), (i : Int) + 1, l.set i x) : _ ⊕ _) = _
    rw [this]
  · simp only [copies90.l0]
    exact .no (decide_eq_false (by show ¬ (l.length : Int) < (l.length : Int); omega)) (.now _)
theorem copy_ev (x : Ins) (h : Wcyc x.2.2.2) : Ev (fun k => Copy47 k x) (x, ()) := by
  unfold Copy47
  exact .bind (copies_ev _ h) (.now _)
def findI (c : Cpu) (op : Int) : Option Ins := c.2.1.find? (fun x => x.1 == op)
theorem idx_lp {c : Cpu} (hc : Wc c) (op : Int) : ∀ (suf pre : List Ins), c.2.1 = pre ++ suf → ∃ r, Lp (fun k => IndexFunc45'.l0 k c.2.1) ((op, ()), (pre.length : Int)) r ∧
    (match suf.find? (fun x => x.1 == op) with | none => r = .inl () | some x => ∃ j : Nat, r = .inr ((j : Int), ()) ∧ c.2.1[j]? = some x) := by
  have hl := hc.len
  intro suf
  induction suf with
  | nil =>
    intro pre h
    rw [List.append_nil] at h
    refine ⟨.inl (), .done ?_, rfl⟩
    simp only [IndexFunc45'.l0]
    exact .no (decide_eq_false (by rw [h]; omega)) (.now _)
  | cons x suf ih =>
    intro pre h
    have hx : c.2.1[pre.length]? = some x := by rw [h]; simp
    have hlt := get_lt hx
    cases hp : (x.1 == op) with
    | true =>
      refine ⟨.inr ((pre.length : Int), ()), .done ?_, ?_⟩
      · simp only [IndexFunc45'.l0]
        refine .yes (decide_eq_true (by omega)) (.val (rd_some' hx) (.bind (a := (true, ())) (.const ?_) (.yes rfl (.now _))))
        show some ((x.1 == op), ()) = _
        rw [hp]
      · rw [List.find?_cons_of_pos (by exact hp)]
        exact ⟨pre.length, rfl, hx⟩
    | false =>
      obtain ⟨r, h1, h2⟩ := ih (pre ++ [x]) (by rw [h]; simp)
      refine ⟨r, .step ?_ h1, ?_⟩
      · simp only [IndexFunc45'.l0]
        refine .yes (decide_eq_true (by omega)) (.val (rd_some' hx) (.bind (a := (false, ())) (.const ?_) (.no rfl (.now' ?_))))
        · show some ((x.1 == op), ()) = _
          rw [hp]
        · rw [w64_succ (by omega)]; simp
      · rw [List.find?_cons_of_neg (by rw [hp]; decide)]
        exact h2
def none4 : Ins := (0, ByteArray.mk #[], 0, [])
def findR (c : Cpu) (op : Int) : Ins × Bool × Unit := match findI c op with | some x => (x, true, ()) | none => (none4, false, ())
theorem find_ev {c : Cpu} (hc : Wc c) (op : Int) : Ev (fun k => Find20 k c op) (findR c op, ()) := by
  unfold Find20 IndexFunc45'
  obtain ⟨r, h1, h2⟩ := idx_lp hc op c.2.1 [] rfl
  unfold findR findI
  cases hf : c.2.1.find? (fun x => x.1 == op) with
  | none =>
    rw [hf] at h2
    subst h2
    exact .bind (.joinL (S := Unit) h1.ev (.now _)) (.yes rfl (.now _))
  | some x =>
    rw [hf] at h2
    obtain ⟨j, rfl, hj⟩ := h2
    exact .bind (.joinR h1.ev) (.no (decide_eq_false (by show ¬ (j : Int) < 0; omega)) (.val (rd_some' hj) (.bind (copy_ev x (hc.ins x (get_mem hj))) (.now _))))
/-- names are no longer than texts can be -/
def Wn (c : Cpu) : Prop := c.1.size ≤ 140737488351232 ∧ ∀ x ∈ c.2.1, x.2.1.size ≤ 140737488351232
theorem bytes_len (s : ByteArray) : (bytesOf s).length = s.size := by unfold bytesOf; rw [List.length_map, Array.length_toList]; rfl
theorem name_t (s : ByteArray) (h : s.size ≤ 140737488351232) : Tot (fun k => Name64 k s) (fun _ => True) := by
  unfold Name64
  have hl := bytes_len s
  have at0 : ∀ {β : Type} {Q : β → Prop} {g : Nat → Int → Option β}, ¬ streq s (ByteArray.mk #[]) = true → (∀ a, Tot (fun k => g k a) Q) → Tot (fun k => (rd (bytesOf s) 0).bind (g k)) Q := by
    intro β Q g hne hg
    refine .read ⟨by decide, ?_⟩ fun a _ => hg a
    rw [hl]
    by_cases h0 : s.size = 0
    · exfalso
      refine hne (streq_iff.2 ?_)
      cases s with
      | mk d =>
        have hd : d.size = 0 := h0
        have := Array.size_eq_zero_iff.1 hd
        rw [this]
    · omega
  refine .bind (P := fun b => b = false → ¬ streq s (ByteArray.mk #[]) = true) (.cnd (fun _ => .ret (fun h => by cases h)) (fun h => ?_)) fun t16 h16 => .bind (P := fun _ => True) (.cnd (fun _ => .ret trivial) (fun h => at0 (h16 h) fun a => .ret trivial)) fun t21 _ => .cnd (fun _ => .ret trivial) fun _ => .joinT ?_ (fun _ => .ret trivial)
  · have hne : ¬ streq s (ByteArray.mk #[]) = true := by
      intro h2
      rw [h2] at h
      cases h
    exact at0 hne fun a => .ret (fun _ => hne)
  · refine Tot.walk (body := fun k => Name64.l0 k s) (bytesOf s) (fun (_ : Unit) i => ((), i, bytesOf s)) (fun _ => True) _ (fun i x b hx _ => ?_) (fun b _ => ?_) (b := ()) trivial
    · have hi := get_lt hx
      simp only [Name64.l0]
      refine .cnd (fun _ => .val (rd_some' hx) (.val (rd_some' hx) (.cnd (fun _ => .ret trivial) (fun _ => .ret ⟨(), ?_, trivial⟩)))) (fun h => absurd (of_decide_eq_false h) (by omega))
      rw [w64_id (by omega) (by omega)]
    · simp only [Name64.l0]
      exact .cnd (fun h => absurd (of_decide_eq_true h) (by omega)) (fun _ => .ret trivial)
theorem size_t (m : Int) : Tot (fun k => Size65 k m) (fun _ => True) := by unfold Size65; repeat' (first | with_reducible exact Tot.ret trivial | with_reducible refine Tot.cnd ?_ ?_ | with_reducible refine Tot.bindT ?_ ?_ | with_reducible refine Tot.prodT ?_ | intro _ | (dsimp only))
theorem operand_t {l : List Cyc} (h : Wcyc l) : Tot (fun k => operand69 k l) (fun _ => True) := by
  have hl := h.1
  unfold operand69
  refine .bindT ?_ fun _ => .ret trivial
  refine Tot.walk (body := fun k => operand69.l0 k l) l (fun (n : Int) i => (n, i)) (fun _ => True) _ (fun i x b hx _ => ?_) (fun b _ => ?_) (b := 0) trivial
  · have hi := get_lt hx
    simp only [operand69.l0]
    refine .cnd (fun _ => .val (rd_some' hx) (.bindT (.cnd (fun _ => .ret trivial) (fun _ => .ret trivial)) fun n => .ret ⟨n, ?_, trivial⟩)) (fun h => absurd (of_decide_eq_false h) (by omega))
    rw [w64_id (by omega) (by omega)]
  · simp only [operand69.l0]
    exact .cnd (fun h => absurd (of_decide_eq_true h) (by omega)) (fun _ => .ret trivial)
theorem there_t {s : List Ins} (h : s.length * 56 ≤ 140737488351232) (f : Ins) : Tot (fun k => ContainsFunc66 k s (f, ())) (fun _ => True) := by
  unfold ContainsFunc66 IndexFunc45
  refine .bindT (.joinT ?_ (fun _ => .ret trivial)) fun _ => .ret trivial
  refine Tot.walk (body := fun k => IndexFunc45.l0 k s) s (fun (_ : Unit) i => ((f, ()), i)) (fun _ => True) _ (fun i x b hx _ => ?_) (fun b _ => ?_) (b := ()) trivial
  · have hi := get_lt hx
    simp only [IndexFunc45.l0]
    refine .cnd (fun _ => .val (rd_some' hx) (.bindT (by unfold Check167; exact .ret trivial) fun v => .cnd (fun _ => .ret trivial) (fun _ => .ret ⟨(), ?_, trivial⟩))) (fun h => absurd (of_decide_eq_false h) (by omega))
    rw [w64_id (by omega) (by omega)]
  · simp only [IndexFunc45.l0]
    exact .cnd (fun h => absurd (of_decide_eq_true h) (by omega)) (fun _ => .ret trivial)
theorem size_in {m : Int} (h : 0 ≤ m ∧ m ≤ 8) : ∃ n : Nat, n ≤ 2 ∧ Ev (fun k => Size65 k m) ((n : Int), ()) ∧ rd ([0, 1, 1, 1, 2, 2, 2, 1, 1] : List Int) m = some (n : Int) := by
  have : m = 0 ∨ m = 1 ∨ m = 2 ∨ m = 3 ∨ m = 4 ∨ m = 5 ∨ m = 6 ∨ m = 7 ∨ m = 8 := by omega
  rcases this with rfl | rfl | rfl | rfl | rfl | rfl | rfl | rfl | rfl
  · exact ⟨0, by decide, .const rfl, rfl⟩
  · exact ⟨1, by decide, .const rfl, rfl⟩
  · exact ⟨1, by decide, .const rfl, rfl⟩
  · exact ⟨1, by decide, .const rfl, rfl⟩
  · exact ⟨2, by decide, .const rfl, rfl⟩
  · exact ⟨2, by decide, .const rfl, rfl⟩
  · exact ⟨2, by decide, .const rfl, rfl⟩
  · exact ⟨1, by decide, .const rfl, rfl⟩
  · exact ⟨1, by decide, .const rfl, rfl⟩
theorem size_out {m : Int} (h : ¬ (0 ≤ m ∧ m ≤ 8)) : Ev (fun k => Size65 k m) (-1, ()) := by
  have f : ∀ c : Int, 0 ≤ c ∧ c ≤ 8 → (m == c) = false := fun c hc => by simpa using (by omega : ¬ m = c)
  have h0 := f 0 (by decide)
  have h1 := f 1 (by decide)
  have h2 := f 2 (by decide)
  have h3 := f 3 (by decide)
  have h4 := f 4 (by decide)
  have h5 := f 5 (by decide)
  have h6 := f 6 (by decide)
  have h7 := f 7 (by decide)
  have h8 := f 8 (by decide)
  unfold Size65
  simp only [h0, h1, h2, h3, h4, h5, h6, h7, h8]
  exact .const rfl
theorem size_tt (m : Int) : Tot (fun k => Size65 k m) (fun v => 0 ≤ v.1 → 0 ≤ m ∧ m ≤ 8) := by
  by_cases h : 0 ≤ m ∧ m ≤ 8
  · obtain ⟨n, _, e, _⟩ := size_in h
    exact .of e fun _ => h
  · exact .of (size_out h) fun h => absurd h (by decide)
-- what a right step may be
def wd (i : Int) : Bool := cond (i == 7) true (i == 8)
def inR (i : Int) : Bool := cond (decide (i ≥ 0)) (decide (i < 9)) false
theorem inR_iff {i : Int} (h : inR i = true) : 0 ≤ i ∧ i < 9 := by
  unfold inR at h
  by_cases h0 : i ≥ 0
  · rw [decide_eq_true h0] at h
    exact ⟨h0, of_decide_eq_true h⟩
  · rw [decide_eq_false h0] at h; cases h
theorem wide_ev (i : Int) : Ev (fun k => Wide76 k i) (wd i, ()) := .now _
theorem reg_ev (i : Int) : Ev (fun k => register148 k i) (inR i, ()) := .now _
theorem Ev.two {α : Type} {c : Bool} {f g : Nat → Option α} {x y : α} (h1 : Ev f x) (h2 : Ev g y) : Ev (fun k => cond c (f k) (g k)) (cond c x y) := by
  cases c with
  | true => exact h1
  | false => exact h2
def fitsV (i need : Int) : Bool := cond (need == 0) (i == 0) (cond (need == 119) (cond (inR i) (wd i) false) (cond (need == 98) (cond (inR i) (!wd i) false) (inR i)))
theorem fits_ev (i need : Int) : Ev (fun k => fits175 k i need) (fitsV i need, ()) := by
  unfold fits175 fitsV
  cases need == 0 with
  | true => exact .now _
  | false =>
    cases need == 119 with
    | true =>
      refine .bind (a := cond (inR i) (wd i) false) ?_ (.now _)
      refine Ev.two ?_ (.now _)
      exact .bind (wide_ev i) (.now _)
    | false =>
      cases need == 98 with
      | true =>
        refine .bind (a := cond (inR i) (!wd i) false) ?_ (.now _)
        refine Ev.two ?_ (.now _)
        exact .bind (wide_ev i) (.now _)
      | false =>
        exact .now _
abbrev UsV := Int × Int × Bool × Unit
def mostV (d to : Int) (n : Bool) : Int := cond (!n) 0 (cond (cond (cond (d == 2) (inR to) false) (wd to) false) 65535 255)
structure Core (d to fr n : Int) (U : UsV) : Prop where
  hto : fitsV to U.1 = true
  hfr : fitsV fr U.2.1 = true
  same : U.1 = 115 → wd to = wd fr
  low : 0 ≤ n
  most : n ≤ mostV d to U.2.2.1
theorem core_t (d to fr n : Int) (U : UsV) (hu : Ev (fun k => uses174 k d) (U, ())) (h24 : d ≠ 24) : Tot (fun k => step149 k (d, to, fr, n)) (fun v => v.1 = 0 → Core d to fr n U) := by
  unfold step149
  refine .cnd (fun _ => .ret (by intro h; cases h)) fun _ => .cnd (fun h => absurd (by simpa using h) h24) fun _ => .bind (P := fun v => v = (U, ())) (.of hu rfl) fun u hu' => ?_
  subst hu'
  refine .bind (P := fun v => v = cond (d == 2) (inR to) false) (.of (Ev.two (.bind (reg_ev to) (.now _)) (.now _)) rfl) fun v hv => ?_
  subst hv
  refine .bind (P := fun v => v = cond (cond (d == 2) (inR to) false) (wd to) false) (.of (Ev.two (.bind (wide_ev to) (.now _)) (.now _)) rfl) fun v hv => ?_
  subst hv
  refine .bind (P := fun v => v = ((d, to, fr, n), cond (cond (cond (d == 2) (inR to) false) (wd to) false) 65535 255)) (.of ?_ rfl) fun v hv => ?_
  · cases cond (cond (d == 2) (inR to) false) (wd to) false with
    | true => exact .now _
    | false => exact .now _
  subst hv
  refine .bind (P := fun v => v = ((d, to, fr, n), mostV d to U.2.2.1)) (.of ?_ rfl) fun v hv => ?_
  · unfold mostV
    cases U.2.2.1 with
    | true => exact .now _
    | false => exact .now _
  subst hv
  refine .bind (P := fun v => v = (fitsV to U.1, ())) (.of (fits_ev to U.1) rfl) fun v hv => ?_
  subst hv
  refine .bind (P := fun v => v = cond (!fitsV to U.1) true (!fitsV fr U.2.1)) (.of (Ev.two (.now _) (.bind (fits_ev fr U.2.1) (.now _))) rfl) fun v hv => ?_
  subst hv
  refine .bind (P := fun v => v = cond (cond (!fitsV to U.1) true (!fitsV fr U.2.1)) true (cond (U.1 == 115) (xor true (wd to == wd fr)) false)) (.of (Ev.two (.now _) (.bind (Ev.two (.bind (wide_ev to) (.bind (wide_ev fr) (.now _))) (.now _)) (.now _))) rfl) fun v hv => ?_
  subst hv
  refine .cnd (fun _ => .ret (by intro h; cases h)) fun hc => .ret fun _ => ?_
  have orF : ∀ {a b : Bool}, cond a true b = false → a = false ∧ b = false := fun {a b} h => by cases a <;> cases b <;> first | exact ⟨rfl, rfl⟩ | cases h
  obtain ⟨hc, h1⟩ := orF hc
  obtain ⟨hc, h2⟩ := orF hc
  obtain ⟨hc, h3⟩ := orF hc
  obtain ⟨h4, h5⟩ := orF hc
  refine ⟨by simpa using h4, by simpa using h5, fun h => ?_, by have h : ¬ n < 0 := of_decide_eq_false h2; omega, by have h : ¬ n > mostV d to U.2.2.1 := of_decide_eq_false h1; omega⟩
  rw [h] at h3
  cases hx : wd to <;> cases hy : wd fr <;> rw [hx, hy] at h3 <;> first | rfl | cases h3
/-- a right step -/
structure OkS (s : Stp4) : Prop where
  d : 0 ≤ s.1 ∧ s.1 < 25
  to : s.1 ≠ 24 → 0 ≤ s.2.1 ∧ s.2.1 < 9
  fr : s.1 ≠ 24 → 0 ≤ s.2.2.1 ∧ s.2.2.1 < 9
  move : s.1 = 1 → wd s.2.1 = wd s.2.2.1
  lit : s.1 = 2 → 0 ≤ s.2.2.2 ∧ s.2.2.2 ≤ cond (wd s.2.1) 65535 255
  wb : s.1 = 18 ∨ s.1 = 19 ∨ s.1 = 22 ∨ s.1 = 23 → wd s.2.1 = true ∧ wd s.2.2.1 = false
  bw : s.1 = 20 ∨ s.1 = 21 → wd s.2.1 = false ∧ wd s.2.2.1 = true
theorem fitsV_in {i need : Int} (h : fitsV i need = true) : 0 ≤ i ∧ i < 9 := by
  unfold fitsV at h
  cases h0 : need == 0 with
  | true =>
    rw [h0] at h
    have : i = 0 := by simpa using h
    omega
  | false =>
    rw [h0] at h
    refine inR_iff ?_
    cases h1 : need == 119 <;> cases h2 : need == 98 <;> cases hr : inR i <;> rw [h1, h2, hr] at h <;> first | rfl | (simp at h; done)
theorem step_ok (s : Stp4) : Tot (fun k => step149 k s) (fun v => v.1 = 0 → OkS s) := by
  obtain ⟨d, to, fr, n⟩ := s
  by_cases hd : ¬ (0 ≤ d ∧ d < 25)
  · unfold step149
    refine .cnd (fun _ => .ret (by intro h; cases h)) fun h => ?_
    exfalso
    refine hd ?_
    by_cases h0 : d < 0
    · have : cond (decide (d < 0)) true (decide (d ≥ 25)) = true := by rw [decide_eq_true h0]; rfl
      rw [show ((d, to, fr, n) : Stp4).1 = d from rfl, this] at h; cases h
    · rw [show ((d, to, fr, n) : Stp4).1 = d from rfl, decide_eq_false h0] at h
      have h : ¬ d ≥ 25 := of_decide_eq_false h
      omega
  have hd : 0 ≤ d ∧ d < 25 := by omega
  by_cases h24 : d = 24
  · subst h24
    unfold step149
    refine .cnd (fun _ => .ret (by intro h; cases h)) fun _ => .cnd (fun _ => .cnd (fun _ => .ret (by intro h; cases h)) fun _ => .ret fun _ => ?_) (fun h => by cases h)
    exact ⟨hd, fun h => absurd rfl h, fun h => absurd rfl h, fun h => absurd h (by show ¬ (24 : Int) = 1; decide), fun h => absurd h (by show ¬ (24 : Int) = 2; decide), fun h => absurd h (by show ¬ ((24 : Int) = 18 ∨ (24 : Int) = 19 ∨ (24 : Int) = 22 ∨ (24 : Int) = 23); decide), fun h => absurd h (by show ¬ ((24 : Int) = 20 ∨ (24 : Int) = 21); decide)⟩
  have go : ∀ (U : UsV), Ev (fun k => uses174 k d) (U, ()) → (d = 1 → U.1 = 115) → (d = 2 → U.2.2.1 = true) → (d = 18 ∨ d = 19 ∨ d = 22 ∨ d = 23 → U.1 = 119 ∧ U.2.1 = 98) → (d = 20 ∨ d = 21 → U.1 = 98 ∧ U.2.1 = 119) → Tot (fun k => step149 k (d, to, fr, n)) (fun v => v.1 = 0 → OkS (d, to, fr, n)) := fun U hu g1 g2 g3 g4 => by
    refine (core_t d to fr n U hu h24).mono fun v hv h0 => ?_
    have c := hv h0
    have wF : ∀ {i : Int}, fitsV i 119 = true → wd i = true := fun {i} h => by
      have h : cond (inR i) (wd i) false = true := h
      cases hr : inR i <;> rw [hr] at h
      · cases h
      · exact h
    have bF : ∀ {i : Int}, fitsV i 98 = true → wd i = false := fun {i} h => by
      have h : cond (inR i) (!wd i) false = true := h
      cases hr : inR i <;> rw [hr] at h
      · cases h
      · simpa using h
    refine ⟨hd, fun _ => fitsV_in c.hto, fun _ => fitsV_in c.hfr, fun h => c.same (g1 h), fun h => ⟨c.low, ?_⟩, fun h => ?_, fun h => ?_⟩
    · have h : d = 2 := h
      have hm := c.most
      rw [g2 h, h] at hm
      have hm : n ≤ cond (cond (inR to) (wd to) false) 65535 255 := hm
      show n ≤ cond (wd to) 65535 255
      cases hr : inR to <;> cases hw : wd to <;> rw [hr, hw] at hm <;> simp at hm ⊢ <;> omega
    · obtain ⟨e1, e2⟩ := g3 h
      have h1 := c.hto
      have h2 := c.hfr
      rw [e1] at h1
      rw [e2] at h2
      exact ⟨wF h1, bF h2⟩
    · obtain ⟨e1, e2⟩ := g4 h
      have h1 := c.hto
      have h2 := c.hfr
      rw [e1] at h1
      rw [e2] at h2
      exact ⟨bF h1, wF h2⟩
  have hh : d = 0 ∨ d = 1 ∨ d = 2 ∨ d = 3 ∨ d = 4 ∨ d = 5 ∨ d = 6 ∨ d = 7 ∨ d = 8 ∨ d = 9 ∨ d = 10 ∨ d = 11 ∨ d = 12 ∨ d = 13 ∨ d = 14 ∨ d = 15 ∨ d = 16 ∨ d = 17 ∨ d = 18 ∨ d = 19 ∨ d = 20 ∨ d = 21 ∨ d = 22 ∨ d = 23 := by omega
  rcases hh with rfl | rfl | rfl | rfl | rfl | rfl | rfl | rfl | rfl | rfl | rfl | rfl | rfl | rfl | rfl | rfl | rfl | rfl | rfl | rfl | rfl | rfl | rfl | rfl
  · exact go (0, 0, false, ()) (.const rfl) (by decide) (by decide) (by decide) (by decide)
  · exact go (115, 115, false, ()) (.const rfl) (by decide) (by decide) (by decide) (by decide)
  · exact go (97, 0, true, ()) (.const rfl) (by decide) (by decide) (by decide) (by decide)
  · exact go (98, 0, false, ()) (.const rfl) (by decide) (by decide) (by decide) (by decide)
  · exact go (98, 98, false, ()) (.const rfl) (by decide) (by decide) (by decide) (by decide)
  · exact go (98, 98, false, ()) (.const rfl) (by decide) (by decide) (by decide) (by decide)
  · exact go (98, 98, false, ()) (.const rfl) (by decide) (by decide) (by decide) (by decide)
  · exact go (98, 98, false, ()) (.const rfl) (by decide) (by decide) (by decide) (by decide)
  · exact go (98, 98, false, ()) (.const rfl) (by decide) (by decide) (by decide) (by decide)
  · exact go (98, 98, false, ()) (.const rfl) (by decide) (by decide) (by decide) (by decide)
  · exact go (97, 0, false, ()) (.const rfl) (by decide) (by decide) (by decide) (by decide)
  · exact go (97, 0, false, ()) (.const rfl) (by decide) (by decide) (by decide) (by decide)
  · exact go (98, 0, false, ()) (.const rfl) (by decide) (by decide) (by decide) (by decide)
  · exact go (98, 0, false, ()) (.const rfl) (by decide) (by decide) (by decide) (by decide)
  · exact go (98, 0, false, ()) (.const rfl) (by decide) (by decide) (by decide) (by decide)
  · exact go (98, 0, false, ()) (.const rfl) (by decide) (by decide) (by decide) (by decide)
  · exact go (0, 0, true, ()) (.const rfl) (by decide) (by decide) (by decide) (by decide)
  · exact go (0, 0, true, ()) (.const rfl) (by decide) (by decide) (by decide) (by decide)
  · exact go (119, 98, false, ()) (.const rfl) (by decide) (by decide) (by decide) (by decide)
  · exact go (119, 98, false, ()) (.const rfl) (by decide) (by decide) (by decide) (by decide)
  · exact go (98, 119, false, ()) (.const rfl) (by decide) (by decide) (by decide) (by decide)
  · exact go (98, 119, false, ()) (.const rfl) (by decide) (by decide) (by decide) (by decide)
  · exact go (119, 98, false, ()) (.const rfl) (by decide) (by decide) (by decide) (by decide)
  · exact go (119, 98, false, ()) (.const rfl) (by decide) (by decide) (by decide) (by decide)
end Go.Proofs.YtofendipdfepoaaGreat.Tr

/- What right processors are. No program in sight. -/
set_option linter.unusedVariables false
set_option maxRecDepth 100000
noncomputable section
namespace Go.Proofs.YtofendipdfepoaaGreat.Tr
open Go Go.Proofs.YtofendipdfepoaaGreat.Gp

structure OkC (c : Cyc) : Prop where
  bus : 0 ≤ c.1 ∧ c.1 ≤ 2
  at' : 0 ≤ c.2.1 ∧ c.2.1 < 12
  reg : 0 ≤ c.2.2.1 ∧ c.2.2.1 < 9
  low : wd c.2.2.1 = false
  len : c.2.2.2.length ≤ 6
  steps : ∀ s ∈ c.2.2.2, OkS s
structure OkL (l : List Cyc) : Prop where
  len : l.length ≤ 8
  ok : ∀ c ∈ l, OkC c
theorem cycle_ok (c : Cyc) (hw : c.2.2.2.length * 32 ≤ 140737488351232) : Tot (fun k => cycle116 k c) (fun v => v.1 = 0 → OkC c) := by
  have orF : ∀ {a b : Bool}, cond a true b = false → a = false ∧ b = false := fun {a b} h => by cases a <;> cases b <;> first | exact ⟨rfl, rfl⟩ | cases h
  unfold cycle116
  refine .cnd (fun _ => .ret (by intro h; cases h)) fun hb => .cnd (fun _ => .ret (by intro h; cases h)) fun _ => ?_
  obtain ⟨b1, b2⟩ := orF hb
  have b1 := of_decide_eq_false b1
  have b2 := of_decide_eq_false b2
  refine .bind (P := fun v => v = cond (cond (decide (c.2.1 < 0)) true (decide (c.2.1 ≥ 12))) true (!inR c.2.2.1)) (.of (Ev.two (.now _) (.bind (reg_ev c.2.2.1) (.now _))) rfl) fun v hv => ?_
  subst hv
  refine .bind (P := fun v => v = cond (cond (cond (decide (c.2.1 < 0)) true (decide (c.2.1 ≥ 12))) true (!inR c.2.2.1)) true (wd c.2.2.1)) (.of (Ev.two (.now _) (.bind (wide_ev c.2.2.1) (.now _))) rfl) fun v hv => ?_
  subst hv
  refine .cnd (fun _ => .ret (by intro h; cases h)) fun h1 => .cnd (fun _ => .ret (by intro h; cases h)) fun h2 => ?_
  obtain ⟨h1, h3⟩ := orF h1
  obtain ⟨h1, h4⟩ := orF h1
  obtain ⟨h5, h6⟩ := orF h1
  have h5 := of_decide_eq_false h5
  have h6 := of_decide_eq_false h6
  have h2 := of_decide_eq_false h2
  have hr := inR_iff (i := c.2.2.1) (by simpa using h4)
  refine .join (P := fun y => match y with | .inl _ => ∀ s ∈ c.2.2.2, OkS s | .inr v => v.1 ≠ 0) ?_ (fun _ hs => .ret fun _ => ⟨by omega, by omega, hr, h3, by omega, hs⟩) (fun _ h h0 => absurd h0 h)
  refine Tot.walkI (body := fun k => cycle116.l0 k c) c.2.2.2 (fun (_ : Unit) i => i) (fun i _ => ∀ (j : Nat) s, j < i → c.2.2.2[j]? = some s → OkS s) _ (fun i x b hx hI => ?_) (fun b hI => ?_) (b := ()) (fun j x hj => absurd hj (Nat.not_lt_zero _))
  · have hi := get_lt hx
    simp only [cycle116.l0]
    refine .cnd (fun _ => .val (rd_some' hx) (.bind (step_ok x) fun v hv => .cnd (fun h => .ret (by simpa using h)) (fun h => .ret ⟨(), ?_, fun j s hj hs => ?_⟩))) (fun h => absurd (of_decide_eq_false h) (by omega))
    · rw [w64_id (by omega) (by omega)]
    · by_cases hji : j = i
      · subst hji
        rw [hx] at hs
        cases hs
        exact hv (by simpa using h)
      · exact hI j s (by omega) hs
  · simp only [cycle116.l0]
    refine .cnd (fun h => absurd (of_decide_eq_true h) (by omega)) (fun _ => .ret fun s hs => ?_)
    obtain ⟨j, hj⟩ := List.mem_iff_getElem?.1 hs
    exact hI j s (get_lt hj) hj
theorem cycs_ok {l : List Cyc} (h : Wcyc l) : Tot (fun k => cycles68 k l) (fun v => v.1 = 0 → OkL l) := by
  have hl := h.1
  unfold cycles68
  refine .cnd (fun _ => .ret (by intro h; cases h)) fun h8 => .join (P := fun y => match y with | .inl _ => ∀ s ∈ l, OkC s | .inr v => v.1 ≠ 0) ?_ (fun _ hs => .ret fun _ => ⟨by have := of_decide_eq_false h8; omega, hs⟩) (fun _ h h0 => absurd h0 h)
  refine Tot.walkI (body := fun k => cycles68.l0 k l) l (fun (_ : Unit) i => i) (fun i _ => ∀ (j : Nat) s, j < i → l[j]? = some s → OkC s) _ (fun i x b hx hI => ?_) (fun b hI => ?_) (b := ()) (fun j x hj => absurd hj (Nat.not_lt_zero _))
  · have hi := get_lt hx
    simp only [cycles68.l0]
    refine .cnd (fun _ => .val (rd_some' hx) (.bind (cycle_ok x (h.2 x (get_mem hx))) fun v hv => .cnd (fun h => .ret (by simpa using h)) (fun h => .ret ⟨(), ?_, fun j s hj hs => ?_⟩))) (fun h => absurd (of_decide_eq_false h) (by omega))
    · rw [w64_id (by omega) (by omega)]
    · by_cases hji : j = i
      · subst hji
        rw [hx] at hs
        cases hs
        exact hv (by simpa using h)
      · exact hI j s (by omega) hs
  · simp only [cycles68.l0]
    refine .cnd (fun h => absurd (of_decide_eq_true h) (by omega)) (fun _ => .ret fun s hs => ?_)
    obtain ⟨j, hj⟩ := List.mem_iff_getElem?.1 hs
    exact hI j s (get_lt hj) hj
/-- a right instruction -/
structure OkI (x : Ins) : Prop where
  op : 0 ≤ x.1 ∧ x.1 ≤ 255
  mode : 0 ≤ x.2.2.1 ∧ x.2.2.1 ≤ 8
  cyc : OkL x.2.2.2
theorem check_ok {c : Cpu} (hc : Wc c) (hn : Wn c) : Tot (fun k => Check30 k c) (fun v => v.1 = 0 → ∀ x ∈ c.2.1, OkI x) := by
  have hl := hc.len
  have orF : ∀ {a b : Bool}, cond a true b = false → a = false ∧ b = false := fun {a b} h => by cases a <;> cases b <;> first | exact ⟨rfl, rfl⟩ | cases h
  unfold Check30
  refine .bindT (name_t _ hn.1) fun _ => .cnd (fun _ => .ret (fun h => by cases h)) fun _ => .cnd (fun _ => .ret (fun h => by cases h)) fun _ => .join (P := fun y => match y with | .inl y => y = c ∧ ∀ x ∈ c.2.1, OkI x | .inr v => v.1 ≠ 0) ?_ (fun c2 h2 => ?_) (fun _ h h0 => absurd h0 h)
  · refine Tot.walkI (body := fun k => Check30.l0 k c) c.2.1 (fun (_ : Unit) i => (c, i)) (fun i _ => ∀ (j : Nat) x, j < i → c.2.1[j]? = some x → OkI x) _ (fun i x b hx hI => ?_) (fun b hI => ?_) (b := ()) (fun j x hj => absurd hj (Nat.not_lt_zero _))
    · have hi := get_lt hx
      have hm := get_mem hx
      simp only [Check30.l0]
      refine .cnd (fun _ => .val (rd_some' hx) (.cnd (fun _ => .ret (show (1 : Int) ≠ 0 by decide)) fun hop => .bindT (.cnd (fun h => ?_) (fun _ => .ret trivial)) fun _ => .cnd (fun _ => .ret (show (9 : Int) ≠ 0 by decide)) fun _ => .bindT (name_t _ (hn.2 x hm)) fun _ => .cnd (fun _ => .ret (show (15 : Int) ≠ 0 by decide)) fun _ => .bind (size_tt _) fun sz hsz => .cnd (fun _ => .ret (show (8 : Int) ≠ 0 by decide)) fun hneg =>
        .val (a := (c.2.1.take i).drop 0) (slc_ok (a := 0) (Nat.zero_le _) (by omega)) (.bindT (there_t (by rw [List.drop_zero, List.length_take]; omega) x) fun _ => .cnd (fun _ => .ret (show (5 : Int) ≠ 0 by decide)) fun _ => .bind (cycs_ok (hc.ins x hm)) fun cy hcy0 => .cnd (fun hcy => .ret (by simpa using hcy)) fun hcy => .bindT (operand_t (hc.ins x hm)) fun _ => .bindT (size_t _) fun _ => .cnd (fun _ => .ret (show (3 : Int) ≠ 0 by decide)) fun _ => .ret ⟨(), ?_, fun j y hj hy => ?_⟩))) (fun h => absurd (of_decide_eq_false h) (by omega))
      · have h := of_decide_eq_true h
        rw [w64_id (by omega) (by omega)]
        exact .read ⟨by omega, by omega⟩ fun a _ => .ret trivial
      · rw [w64_id (by omega) (by omega)]
      · by_cases hji : j = i
        · subst hji
          rw [hx] at hy
          cases hy
          have hg : ¬ sz.1 < 0 := of_decide_eq_false hneg
          obtain ⟨o1, o2⟩ := orF hop
          have o1 := of_decide_eq_false o1
          have o2 := of_decide_eq_false o2
          exact ⟨⟨by omega, by omega⟩, hsz (by omega), hcy0 (by simpa using hcy)⟩
        · exact hI j y (by omega) hy
    · simp only [Check30.l0]
      refine .cnd (fun h => absurd (of_decide_eq_true h) (by omega)) (fun _ => .ret ⟨rfl, fun x hx => ?_⟩)
      obtain ⟨j, hj⟩ := List.mem_iff_getElem?.1 hx
      exact hI j x (get_lt hj) hj
  · obtain ⟨h2, hmode⟩ := h2
    subst h2
    refine .join (P := fun y => match y with | .inl _ => True | .inr v => v.1 ≠ 0) ?_ (fun _ _ => .ret fun _ => hmode) (fun _ h h0 => absurd h0 h)
    refine Tot.walk (body := fun k => Check30.l1 k c2) [c2.2.2.1, c2.2.2.2.1, c2.2.2.2.2] (fun (_ : Unit) i => ((), i, [c2.2.2.1, c2.2.2.2.1, c2.2.2.2.2])) (fun _ => True) _ (fun i x b hx _ => ?_) (fun b _ => ?_) (b := ()) trivial
    · have hi : i < 3 := get_lt hx
      have hw : Wcyc x := by
        have hm := get_mem hx
        simp only [List.mem_cons, List.not_mem_nil, or_false] at hm
        rcases hm with rfl | rfl | rfl
        · exact hc.res
        · exact hc.irq
        · exact hc.nmi
      simp only [Check30.l1]
      refine .cnd (fun _ => .val (rd_some' hx) (.val (rd_some' hx) (.bindT (cycs_ok hw).any fun v => .cnd (fun hv => .ret (by simpa using hv)) (fun _ => .ret ⟨(), ?_, trivial⟩)))) (fun h => absurd (of_decide_eq_false h) (by show ¬ ¬ (i : Int) < ((3 : Nat) : Int); omega))
      rw [w64_id (by omega) (by omega)]
    · simp only [Check30.l1]
      exact .cnd (fun h => absurd (of_decide_eq_true h) (by show ¬ ((3 : Nat) : Int) < ((3 : Nat) : Int); omega)) (fun _ => .ret trivial)
/-- what both checks of a processor and a program say -/
structure OkP (c : Cpu) (code : Int × List Int × List (ByteArray × Int)) : Prop where
  ins : ∀ x ∈ c.2.1, OkI x
  len : code.2.1.length ≤ 65536
  base : 0 ≤ code.1 ∧ code.1 ≤ 65536 - (code.2.1.length : Int)
theorem fault_ok {c : Cpu} (hc : Wc c) (hn : Wn c) (code : Int × List Int × List (ByteArray × Int)) : ∃ e : Int, Ev (fun k => Check43 k c code) (e, ()) ∧ (e = 0 → OkP c code) := by
  have orF : ∀ {a b : Bool}, cond a true b = false → a = false ∧ b = false := fun {a b} h => by cases a <;> cases b <;> first | exact ⟨rfl, rfl⟩ | cases h
  obtain ⟨v, hv, hp⟩ := check_ok hc hn
  unfold Check43
  by_cases h0 : v.1 = 0
  · by_cases h1 : (code.2.1.length : Int) > 4096
    · exact ⟨2, .bind hv (.no (by rw [h0]; rfl) (.yes (decide_eq_true h1) (.now _))), fun h => by cases h⟩
    · have hw : w64 (65536 - (code.2.1.length : Int)) = 65536 - (code.2.1.length : Int) := w64_id (by omega) (by omega)
      cases hb : cond (decide (code.1 < 0)) true (decide (code.1 > (w64 (65536 - (code.2.1.length : Int))))) with
      | true => exact ⟨1, .bind hv (.no (by rw [h0]; rfl) (.no (decide_eq_false h1) (.yes rfl (.now _)))), fun h => by cases h⟩
      | false =>
        refine ⟨0, .bind hv (.no (by rw [h0]; rfl) (.no (decide_eq_false h1) (.no rfl (.now _)))), fun _ => ⟨hp h0, by omega, ?_⟩⟩
        obtain ⟨b1, b2⟩ := orF hb
        have b1 := of_decide_eq_false b1
        have b2 := of_decide_eq_false b2
        rw [hw] at b2
        omega
  · exact ⟨v.1, .bind hv (.yes (bne_iff_ne.2 h0) (.now _)), fun h => absurd h h0⟩
end Go.Proofs.YtofendipdfepoaaGreat.Tr

/- What is known of registers: the program's. No program in sight. -/
set_option linter.unusedVariables false
set_option maxRecDepth 100000
noncomputable section
namespace Go.Proofs.YtofendipdfepoaaGreat.Tr
open Go Go.Proofs.YtofendipdfepoaaGreat.Gp

/-- what is known of each register: its two bytes -/
abbrev Rg := Nat → Option Nat × Option Nat
abbrev Nums := List (Int × Int)
abbrev Cod := Int × List Int × List (ByteArray × Int)
abbrev RunU := Cod × Nums × Unit
def eP : Option Nat → Int
  | none => -1
  | some n => (n : Int)
def wdN (i : Nat) : Bool := wd (i : Int)
def wholeA (A : Rg) (i : Nat) : Option Nat := if wdN i = true then (match (A i).1, (A i).2 with | some l, some h => some (l + 256 * h) | _, _ => none) else (A i).1
def putA (A : Rg) (i : Nat) (x : Option Nat × Option Nat) : Rg := fun j => if j = i then x else A j
def setA (A : Rg) (i : Nat) (v : Option Nat) : Rg := putA A i (v.map (· % 256), v.map (fun n => n / 256 % 256))
def addA (A : Rg) (i : Nat) (b : Int) : Rg := setA A i ((wholeA A i).map fun n => (((n : Int) + b) % 65536).toNat)
def By (v : Option Nat) : Prop := ∀ n, v = some n → n < 256
def Inv (A : Rg) : Prop := ∀ i, By (A i).1 ∧ By (A i).2
theorem by_none : By none := fun n h => by cases h
theorem by_mod {v : Option Nat} {f : Nat → Nat} : By (v.map fun n => f n % 256) := fun n h => by
  cases v with
  | none => cases h
  | some m => cases h; exact Nat.mod_lt _ (by decide)
theorem Inv.put {A : Rg} (h : Inv A) (i : Nat) {x : Option Nat × Option Nat} (h1 : By x.1) (h2 : By x.2) : Inv (putA A i x) := fun j => by
  unfold putA
  split
  · exact ⟨h1, h2⟩
  · exact h j
theorem Inv.set {A : Rg} (h : Inv A) (i : Nat) (v : Option Nat) : Inv (setA A i v) := h.put i (by_mod (f := fun n => n)) (by_mod (f := fun n => n / 256))
theorem Inv.add {A : Rg} (h : Inv A) (i : Nat) (b : Int) : Inv (addA A i b) := h.set i _
theorem whole_lt {A : Rg} (h : Inv A) {i n : Nat} (hn : wholeA A i = some n) : n < 65536 := by
  unfold wholeA at hn
  obtain ⟨h1, h2⟩ := h i
  split at hn
  · split at hn
    · rename_i l hh e1 e2
      cases hn
      have := h1 l e1
      have := h2 hh e2
      omega
    · cases hn
  · have := h1 n hn
    omega
theorem narrow_lt {A : Rg} (h : Inv A) {i n : Nat} (hw : wdN i = false) (hn : wholeA A i = some n) : n < 256 := by
  unfold wholeA at hn
  rw [if_neg (by rw [hw]; decide)] at hn
  exact (h i).1 n hn
/-- the program's registers -/
structure RelP (A : Rg) (r : Nums) : Prop where
  len : r.length = 9
  reg : ∀ i, i < 9 → r[i]? = some (eP (A i).1, if wdN i = true then eP (A i).2 else 0)
theorem RelP.put {A : Rg} {r : Nums} (h : RelP A r) {i : Nat} (hi : i < 9) {x : Option Nat × Option Nat} {y : Int × Int} (hy : y = (eP x.1, if wdN i = true then eP x.2 else 0)) : RelP (putA A i x) (r.set i y) := by
  refine ⟨by rw [List.length_set]; exact h.len, fun j hj => ?_⟩
  unfold putA
  by_cases hji : j = i
  · subst hji
    rw [if_pos rfl, List.getElem?_set_self (by rw [h.len]; exact hi), hy]
  · rw [if_neg hji, List.getElem?_set_ne (fun e => hji e.symm)]
    exact h.reg j hj
theorem shr8 {n : Nat} (h : n < 65536) : shrI .i64 ((n : Nat) : Int) 8 = ((n / 256 : Nat) : Int) := shrI_nat (j := 8) (by decide)
theorem low62_ev (n : Nat) (h : n < 65536) : Ev (fun k => Low25 k (n : Int) 62) ((n : Int), ()) := by
  unfold Low25
  refine .val (a := (62, ())) rfl (.val (a := shlI .i64 1 62) rfl (.now' ?_))
  have := ibits_low (n : Int) (j := 62) (by decide)
  have e : (2 : Nat) ^ 62 = 4611686018427387904 := by decide
  refine congrArg (fun x => (x, ())) (this.trans ?_)
  rw [e]; omega
theorem get_ev (n : Nat) (h : n < 65536) : Ev (fun k => Get109 k (n : Int) 8 8) (((n / 256 % 256 : Nat) : Int), ()) := by
  unfold Get109
  refine .val (a := ((8, 8, ()), ())) rfl (.bind (low62_ev n h) (.val (a := ((n / 256 : Nat) : Int)) ?_ (.bind (low8_ev _) (.now' ?_))))
  · rw [← shr8 h]; rfl
  · show (((n / 256 : Nat) : Int) % 256, ()) = _
    rw [Int.natCast_emod]; rfl
section
variable {A : Rg} {r : Nums} {c0 : Cod} {u : Unit} {o1 : List Int}
theorem reg_in {i : Nat} (hi : i < 9) : (if 0 ≤ (i : Int) ∧ (i : Int) < 9 then some () else none) = some () := if_pos ⟨by omega, by omega⟩
theorem whole_p (h : RelP A r) (hA : Inv A) {i : Nat} (hi : i < 9) : Ev (fun k => whole34 k () (i : Int) (c0, r, u) o1) (eP (wholeA A i), (c0, r, u), o1) := by
  have hr := h.reg i hi
  obtain ⟨b1, b2⟩ := hA i
  unfold whole34 wholeA
  refine .val (reg_in hi) (.val (rd_some' hr) ?_)
  cases h1 : (A i).1 with
  | none =>
    refine .bind (a := true) (.yes rfl (.now _)) (.yes rfl (.now' ?_))
    cases wdN i <;> rfl
  | some l =>
    have hl := b1 l h1
    have hne : (((l : Nat) : Int) == (-1)) = false := beq_false_of_ne (by omega)
    cases hw : wdN i with
    | false =>
      have hw' : wd (i : Int) = false := hw
      refine .bind (a := false) (.no hne (.bind (wide_ev _) (.now' (by rw [hw']; rfl)))) (.no rfl (.now' ?_))
      show (w64 ((l : Int) + (w64 (256 * 0))), _) = _
      rw [show w64 (256 * 0) = 0 from rfl, w64_id (by omega) (by omega), Int.add_zero]
      rfl
    | true =>
      have hw' : wd (i : Int) = true := hw
      cases h2 : (A i).2 with
      | none =>
        refine .bind (a := true) (.no hne (.bind (wide_ev _) (.now' (by rw [hw', if_pos rfl]; rfl)))) (.yes rfl (.now _))
      | some hh =>
        have hl2 := b2 hh h2
        refine .bind (a := false) (.no hne (.bind (wide_ev _) (.now' ?_))) (.no rfl (.now' ?_))
        · rw [hw', if_pos rfl]
          exact beq_false_of_ne (by show (hh : Int) ≠ -1; omega)
        · rw [if_pos rfl]
          show (w64 ((l : Int) + (w64 (256 * (hh : Int)))), _) = _
          rw [w64_id (x := 256 * (hh : Int)) (by omega) (by omega), w64_id (by omega) (by omega)]
          show ((l : Int) + 256 * (hh : Int), _) = (((l + 256 * hh : Nat) : Int), _)
          rw [Int.natCast_add, Int.natCast_mul]; rfl
theorem set_p (h : RelP A r) {i : Nat} (hi : i < 9) {v : Option Nat} (hv : ∀ n, v = some n → n < 65536) : ∃ r', RelP (setA A i v) r' ∧ Ev (fun k => set72' k () (i : Int) (eP v) (c0, r, u) o1) ((), (c0, r', u), o1) := by
  have hr := h.reg i hi
  unfold set72'
  cases v with
  | none =>
    refine ⟨r.set i (-1, if wdN i = true then -1 else 0), h.put hi ?_, ?_⟩
    · cases wdN i <;> rfl
    · refine .bind (a := wd (i : Int)) (.yes rfl (.bind (wide_ev _) (.now _))) ?_
      cases hw : wdN i with
      | true =>
        have hw' : wd (i : Int) = true := hw
        rw [hw']
        exact .bind (a := ((c0, r.set i (-1, -1), u), o1)) (.yes rfl (.val (reg_in hi) (.val (rd_some' hr) (.now' (by rw [Int.toNat_natCast]))))) (.now _)
      | false =>
        have hw' : wd (i : Int) = false := hw
        rw [hw']
        exact .bind (a := ((c0, r.set i (-1, 0), u), o1)) (.no rfl (.bind (a := ((c0, r.set i (-1, 0), u), o1)) (.yes rfl (.val (reg_in hi) (.val (rd_some' hr) (.now' (by rw [Int.toNat_natCast]))))) (.now _))) (.now _)
  | some n =>
    have hn := hv n rfl
    have hne : (((n : Nat) : Int) == (-1)) = false := beq_false_of_ne (by omega)
    have e8 : ((n : Int) % 256) = ((n % 256 : Nat) : Int) := by rw [Int.natCast_emod]; rfl
    refine ⟨r.set i ((n : Int) % 256, if wdN i = true then ((n / 256 % 256 : Nat) : Int) else 0), h.put hi ?_, ?_⟩
    · rw [e8]; rfl
    · refine .bind (a := false) (.no hne (.now _)) (.bind (a := ((c0, r.set i ((n : Int) % 256, if wdN i = true then ((n / 256 % 256 : Nat) : Int) else 0), u), o1)) (.no rfl (.bind (a := ((c0, r.set i ((n : Int) % 256, if wdN i = true then ((n / 256 % 256 : Nat) : Int) else 0), u), o1)) (.no hne (.bind (wide_ev _) (.bind (a := ((c0, r.set i ((n : Int) % 256, if wdN i = true then ((n / 256 % 256 : Nat) : Int) else 0), u), o1)) ?_ (.now _)))) (.now _))) (.now _))
      cases hw : wdN i with
      | true =>
        have hw' : wd (i : Int) = true := hw
        refine .yes hw' (.bind (low8_ev _) (.bind (get_ev n hn) (.val (reg_in hi) (.val (rd_some' hr) (.now' ?_)))))
        rw [Int.toNat_natCast]; rfl
      | false =>
        have hw' : wd (i : Int) = false := hw
        refine .no hw' (.bind (low8_ev _) (.val (reg_in hi) (.val (rd_some' hr) (.now' ?_))))
        rw [Int.toNat_natCast]; rfl
theorem add_p (h : RelP A r) (hA : Inv A) {i : Nat} (hi : i < 9) {b : Int} (hb : -70000 ≤ b ∧ b ≤ 70000) : ∃ r', RelP (addA A i b) r' ∧ Ev (fun k => add164 k () (i : Int) b (c0, r, u) o1) ((), (c0, r', u), o1) := by
  obtain ⟨r', h1, h2⟩ := set_p (c0 := c0) (u := u) (o1 := o1) h hi (v := (wholeA A i).map fun n => (((n : Int) + b) % 65536).toNat) (fun n hn => by
    cases hw : wholeA A i with
    | none => rw [hw] at hn; cases hn
    | some m => rw [hw] at hn; cases hn; show (((m : Int) + b) % 65536).toNat < 65536; omega)
  refine ⟨r', h1, ?_⟩
  unfold add164
  refine .bind (whole_p h hA hi) ?_
  cases hw : wholeA A i with
  | none =>
    rw [hw] at h2
    exact .bind (a := ((), -1, (c0, r, u), o1)) (.no rfl (.now _)) (.bind h2 (.now _))
  | some m =>
    have hm := whole_lt hA hw
    rw [hw] at h2
    have hne : ((eP (some m)) != (-1)) = true := bne_iff_ne.2 (by show (m : Int) ≠ -1; omega)
    refine .bind (a := ((), eP (some (((m : Int) + b) % 65536).toNat), (c0, r, u), o1)) (.yes hne (.bind (low16_ev _) (.now' ?_))) (.bind h2 (.now _))
    show ((), w64 ((m : Int) + b) % 65536, _) = ((), (((((m : Int) + b) % 65536).toNat : Nat) : Int), _)
    rw [w64_id (by omega) (by omega), Int.toNat_of_nonneg (by omega)]
end
end Go.Proofs.YtofendipdfepoaaGreat.Tr

/- What is known of registers: the program's bus and steps. No program in sight. -/
set_option linter.unusedVariables false
set_option maxRecDepth 100000
noncomputable section
namespace Go.Proofs.YtofendipdfepoaaGreat.Tr
open Go Go.Proofs.YtofendipdfepoaaGreat.Gp

/-- the byte of a program -/
def atI (code : Cod) (x : Int) : Option Nat := if 0 ≤ x ∧ code.1 ≤ x ∧ x < code.1 + (code.2.1.length : Int) then some (code.2.1.getD (x - code.1).toNat 0).toNat else none
structure OkD (code : Cod) : Prop where
  len : code.2.1.length ≤ 65536
  base : 0 ≤ code.1 ∧ code.1 ≤ 65536 - (code.2.1.length : Int)
  byte : ∀ x ∈ code.2.1, 0 ≤ x ∧ x < 256
theorem at_ev {code : Cod} (h : OkD code) {x : Int} (hx : -9223372036854775808 ≤ x ∧ x ≤ 9223372036854775807) : Ev (fun k => at70 k code x) (eP (atI code x), ()) := by
  obtain ⟨b0, b1⟩ := h.base
  have hl := h.len
  unfold at70 atI
  by_cases h0 : x ≥ 0
  · have hw : w64 (x - code.1) = x - code.1 := w64_id (by omega) (by omega)
    simp only [hw]
    by_cases h1 : code.1 ≤ x ∧ x < code.1 + (code.2.1.length : Int)
    · rw [if_pos ⟨h0, h1.1, h1.2⟩]
      have hg : code.2.1[(x - code.1).toNat]? = some (code.2.1.getD (x - code.1).toNat 0) := by
        rw [List.getD_eq_getElem?_getD, List.getElem?_eq_getElem (by omega)]; rfl
      have hb := h.byte _ (get_mem hg)
      refine .yes ?_ (.val (rd_at (i := (x - code.1).toNat) (by omega) hg) (.now' ?_))
      · rw [decide_eq_true h0, decide_eq_true (show x - code.1 ≥ 0 by omega)]
        exact decide_eq_true (by omega)
      · rw [w64_id (by omega) (by omega)]
        show (_, ()) = (((code.2.1.getD (x - code.1).toNat 0).toNat : Int), ())
        rw [Int.toNat_of_nonneg hb.1]
    · rw [if_neg (fun h => h1 h.2)]
      refine .no ?_ (.now _)
      rw [decide_eq_true h0]
      by_cases h2 : x - code.1 ≥ 0
      · rw [decide_eq_true h2]
        exact decide_eq_false (by omega)
      · rw [decide_eq_false h2]; rfl
  · rw [if_neg (fun h => h0 h.1)]
    refine .no ?_ (.now _)
    rw [decide_eq_false h0]; rfl
theorem at_lt {code : Cod} (h : OkD code) {x : Int} {n : Nat} (hn : atI code x = some n) : n < 256 := by
  have hl := h.len
  unfold atI at hn
  split at hn
  · cases hn
    rename_i hx
    have hg : code.2.1[(x - code.1).toNat]? = some (code.2.1.getD (x - code.1).toNat 0) := by
      rw [List.getD_eq_getElem?_getD, List.getElem?_eq_getElem (by omega)]; rfl
    have hb := h.byte _ (get_mem hg)
    omega
  · cases hn
theorem Ev.agr {α : Type} {f g : Nat → Option α} {v : α} (h1 : Ev f v) (h2 : Ev g v) : Ev (fun k => agree (f k) (g k)) v := by
  obtain ⟨a, h1⟩ := h1
  obtain ⟨b, h2⟩ := h2
  refine ⟨max a b, fun k hk => ?_⟩
  show agree (f k) (g k) = some v
  rw [h1 k (by omega), h2 k (by omega)]
  exact agree_self _
abbrev Psh := List (Option Nat)
def dataA (code : Cod) (A : Rg) (at_ : Int) : Option Nat := if at_ = 0 ∨ at_ = 1 then atI code (eP (wholeA A 7)) else none
def movA (A : Rg) (at_ : Int) : Rg := if at_ = 0 then addA A 7 1 else if at_ = 4 then addA A 3 (-1) else if at_ = 5 then addA A 3 1 else A
def busA (code : Cod) (A : Rg) (P : Psh) (c : Cyc) : Rg × Psh :=
  (if c.1 = 1 then setA (movA A c.2.1) c.2.2.1.toNat (dataA code A c.2.1) else movA A c.2.1, if c.1 = 2 ∧ c.2.1 = 4 then P ++ [wholeA A c.2.2.1.toNat] else P)
theorem eP_int {A : Rg} (h : Inv A) {i : Nat} : -9223372036854775808 ≤ eP (wholeA A i) ∧ eP (wholeA A i) ≤ 9223372036854775807 := by
  cases hw : wholeA A i with
  | none => exact ⟨by decide, by decide⟩
  | some n =>
    have := whole_lt h hw
    show -9223372036854775808 ≤ (n : Int) ∧ (n : Int) ≤ 9223372036854775807
    omega
theorem data_lt {code : Cod} (hd : OkD code) {A : Rg} {a : Int} {n : Nat} (hn : dataA code A a = some n) : n < 65536 := by
  unfold dataA at hn
  split at hn
  · have := at_lt hd hn; omega
  · cases hn
theorem Inv.mov {A : Rg} (h : Inv A) (a : Int) : Inv (movA A a) := by
  unfold movA
  split
  · exact h.add 7 1
  · split
    · exact h.add 3 (-1)
    · split
      · exact h.add 3 1
      · exact h
theorem Inv.bus {code : Cod} {A : Rg} (h : Inv A) (P : Psh) (c : Cyc) : Inv (busA code A P c).1 := by
  unfold busA
  show Inv (if c.1 = 1 then _ else _)
  split
  · exact (h.mov _).set _ _
  · exact h.mov _
section
variable {A : Rg} {r : Nums} {code : Cod} {u : Unit} {P : Psh}
theorem bus_p (hd : OkD code) (h : RelP A r) (hA : Inv A) {c : Cyc} (hc : OkC c) (hP : P.length ≤ 1000) : ∃ r', RelP (busA code A P c).1 r' ∧ Ev (fun k => bus128 k () c (code, r, u) (P.map eP)) ((), (code, r', u), (busA code A P c).2.map eP) := by
  obtain ⟨bus, at_, reg, steps⟩ := c
  have hreg : 0 ≤ reg ∧ reg < 9 := hc.reg
  obtain ⟨i, rfl⟩ : ∃ i : Nat, reg = (i : Int) := ⟨reg.toNat, by omega⟩
  have hi : i < 9 := by omega
  have hbus : 0 ≤ bus ∧ bus ≤ 2 := hc.bus
  have hat : 0 ≤ at_ ∧ at_ < 12 := hc.at'
  have w0 := whole_p (c0 := code) (u := u) (o1 := P.map eP) h hA hi
  have w7 := whole_p (c0 := code) (u := u) (o1 := P.map eP) h hA (i := 7) (by decide)
  have hat7 := at_ev hd (eP_int hA (i := 7))
  obtain ⟨ra, ha1, ha2⟩ := add_p (c0 := code) (u := u) (o1 := P.map eP) h hA (i := 7) (by decide) (b := 1) (by decide)
  obtain ⟨rb, hb1, hb2⟩ := add_p (c0 := code) (u := u) (o1 := P.map eP) h hA (i := 3) (by decide) (b := -1) (by decide)
  obtain ⟨rc, hc1, hc2⟩ := add_p (c0 := code) (u := u) (o1 := P.map eP) h hA (i := 3) (by decide) (b := 1) (by decide)
  have fin : ∀ r1, RelP (movA A at_) r1 → ∃ r', RelP (busA code A P (bus, at_, (i : Int), steps)).1 r' ∧ Ev (fun k => (Option.bind
    (cond (cond (bus == 2) (at_ == 4) false)
      ((if room (List.length (P.map eP) + List.length ([eP (wholeA A i)] : List Int)) 8 then some () else none).bind fun _ =>
      some ((), ((bus, at_, (i : Int), steps) : Cyc), ((code, r1, u) : RunU), (P.map eP ++ ([eP (wholeA A i)] : List Int))))
      (some ((), (bus, at_, (i : Int), steps), (code, r1, u), P.map eP)) : Option (Unit × (Cyc × (RunU × List Int)))) fun ((_, c_7, o0_7, o1_7) : (Unit × (Cyc × (RunU × List Int)))) =>
    Option.bind
      (cond (c_7.1 == 1)
        ((set72' k () c_7.2.2.1 (eP (dataA code A at_)) o0_7 o1_7).bind fun t79 =>
        some (t79.2.1, t79.2.2))
        (some (o0_7, o1_7)) : Option (RunU × List Int)) fun ((o0_8, o1_8) : (RunU × List Int)) =>
    some ((), o0_8, o1_8))) ((), (code, r', u), (busA code A P (bus, at_, (i : Int), steps)).2.map eP) := by
    intro r1 hr1
    have eB : busA code A P (bus, at_, (i : Int), steps) = (if bus = 1 then setA (movA A at_) i (dataA code A at_) else movA A at_, if bus = 2 ∧ at_ = 4 then P ++ [wholeA A i] else P) := by
      unfold busA
      show (if bus = 1 then setA (movA A at_) (i : Int).toNat (dataA code A at_) else movA A at_, if bus = 2 ∧ at_ = 4 then P ++ [wholeA A (i : Int).toNat] else P) = _
      rw [Int.toNat_natCast]
    rw [eB]
    by_cases h1 : bus = 1
    · subst h1
      obtain ⟨r2, g1, g2⟩ := set_p (c0 := code) (u := u) (o1 := P.map eP) hr1 hi (v := dataA code A at_) (fun n hn => data_lt hd hn)
      refine ⟨r2, by rw [if_pos rfl]; exact g1, .bind (a := ((), (1, at_, (i : Int), steps), (code, r1, u), P.map eP)) (.no rfl (.now _)) (.bind (a := ((code, r2, u), P.map eP)) (.yes rfl (.bind g2 (.now _))) (.now' ?_))⟩
      show ((), (code, r2, u), P.map eP) = ((), (code, r2, u), (if (1 : Int) = 2 ∧ at_ = 4 then P ++ [wholeA A i] else P).map eP)
      rw [if_neg (by omega)]
    · have hn1 : (bus == 1) = false := beq_false_of_ne h1
      refine ⟨r1, by rw [if_neg h1]; exact hr1, ?_⟩
      by_cases h2 : bus = 2 ∧ at_ = 4
      · rw [if_pos h2]
        refine .bind (a := ((), (bus, at_, (i : Int), steps), (code, r1, u), P.map eP ++ [eP (wholeA A i)])) (.yes (by rw [h2.1, h2.2]; rfl) (.val (a := ()) (if_pos (room_ok (by rw [List.length_map]; simp only [List.length_cons, List.length_nil]; omega))) (.now _))) (.bind (a := ((code, r1, u), P.map eP ++ [eP (wholeA A i)])) (.no hn1 (.now _)) (.now' ?_))
        rw [List.map_append]; rfl
      · rw [if_neg h2]
        refine .bind (a := ((), (bus, at_, (i : Int), steps), (code, r1, u), P.map eP)) (.no ?_ (.now _)) (.bind (a := ((code, r1, u), P.map eP)) (.no hn1 (.now _)) (.now _))
        by_cases hb2 : bus = 2
        · rw [hb2]; exact beq_false_of_ne (fun e => h2 ⟨hb2, e⟩)
        · rw [beq_false_of_ne hb2]; rfl
  unfold bus128
  by_cases h0 : at_ = 0
  · subst h0
    obtain ⟨r', g1, g2⟩ := fin ra ha1
    exact ⟨r', g1, .bind w0 (.bind (a := ((), (bus, 0, (i : Int), steps), eP (dataA code A 0), (code, ra, u), P.map eP)) (.yes rfl (.bind (a := ((), (bus, 0, (i : Int), steps), eP (atI code (eP (wholeA A 7))), (code, r, u), P.map eP)) (Ev.agr (.bind w7 (.bind hat7 (.now _))) (.bind w7 (.bind hat7 (.now _)))) (.bind ha2 (.now _)))) g2)⟩
  have n0 : (at_ == 0) = false := beq_false_of_ne h0
  by_cases h1 : at_ = 1
  · subst h1
    obtain ⟨r', g1, g2⟩ := fin r h
    exact ⟨r', g1, .bind w0 (.bind (a := ((), (bus, 1, (i : Int), steps), eP (dataA code A 1), (code, r, u), P.map eP)) (.no rfl (.bind (a := ((), (bus, 1, (i : Int), steps), eP (dataA code A 1), (code, r, u), P.map eP)) (.yes rfl (.bind (a := ((), (bus, 1, (i : Int), steps), eP (atI code (eP (wholeA A 7))), (code, r, u), P.map eP)) (Ev.agr (.bind w7 (.bind hat7 (.now _))) (.bind w7 (.bind hat7 (.now _)))) (.now _))) (.now _))) g2)⟩
  have n1 : (at_ == 1) = false := beq_false_of_ne h1
  have hdat : dataA code A at_ = none := if_neg (by omega)
  by_cases h4 : at_ = 4
  · subst h4
    obtain ⟨r', g1, g2⟩ := fin rb hb1
    exact ⟨r', g1, .bind w0 (.bind (a := ((), (bus, 4, (i : Int), steps), eP (dataA code A 4), (code, rb, u), P.map eP)) (.no rfl (.bind (a := ((), (bus, 4, (i : Int), steps), -1, (code, rb, u), P.map eP)) (.no rfl (.bind (a := ((), (bus, 4, (i : Int), steps), (code, rb, u), P.map eP)) (.yes rfl (.bind hb2 (.now _))) (.now _))) (.now _))) g2)⟩
  have n4 : (at_ == 4) = false := beq_false_of_ne h4
  by_cases h5 : at_ = 5
  · subst h5
    obtain ⟨r', g1, g2⟩ := fin rc hc1
    exact ⟨r', g1, .bind w0 (.bind (a := ((), (bus, 5, (i : Int), steps), eP (dataA code A 5), (code, rc, u), P.map eP)) (.no rfl (.bind (a := ((), (bus, 5, (i : Int), steps), -1, (code, rc, u), P.map eP)) (.no rfl (.bind (a := ((), (bus, 5, (i : Int), steps), (code, rc, u), P.map eP)) (.no rfl (.bind (a := ((), (bus, 5, (i : Int), steps), (code, rc, u), P.map eP)) (.yes rfl (.bind hc2 (.now _))) (.now _))) (.now _))) (.now _))) g2)⟩
  have n5 : (at_ == 5) = false := beq_false_of_ne h5
  have hmov : movA A at_ = A := by unfold movA; rw [if_neg h0, if_neg h4, if_neg h5]
  obtain ⟨r', g1, g2⟩ := fin r (by rw [hmov]; exact h)
  rw [hdat] at g2
  exact ⟨r', g1, .bind w0 (.bind (a := ((), (bus, at_, (i : Int), steps), -1, (code, r, u), P.map eP)) (.no n0 (.bind (a := ((), (bus, at_, (i : Int), steps), -1, (code, r, u), P.map eP)) (.no n1 (.bind (a := ((), (bus, at_, (i : Int), steps), (code, r, u), P.map eP)) (.no n4 (.bind (a := ((), (bus, at_, (i : Int), steps), (code, r, u), P.map eP)) (.no n5 (.now _)) (.now _))) (.now _))) (.now _))) g2)⟩
end
end Go.Proofs.YtofendipdfepoaaGreat.Tr

/- What is known of registers: the program's steps and ends. No program in sight. -/
set_option linter.unusedVariables false
set_option maxRecDepth 100000
noncomputable section
namespace Go.Proofs.YtofendipdfepoaaGreat.Tr
open Go Go.Proofs.YtofendipdfepoaaGreat.Gp

def sgn (n : Nat) : Int := if n ≥ 128 then (n : Int) - 256 else n
def stepA (A : Rg) (s : Stp4) : Rg :=
  if s.1 = 0 then A
  else if s.1 = 3 ∨ s.1 = 6 ∨ s.1 = 16 ∨ s.1 = 17 then setA A 4 none
  else if s.1 = 1 then putA A s.2.1.toNat (A s.2.2.1.toNat)
  else if s.1 = 2 then setA A s.2.1.toNat (some s.2.2.2.toNat)
  else if s.1 = 10 ∨ s.1 = 11 then (if wdN s.2.1.toNat = true then addA A s.2.1.toNat (if s.1 = 10 then 1 else -1) else setA (addA A s.2.1.toNat (if s.1 = 10 then 1 else -1)) 4 none)
  else if s.1 = 18 then putA A s.2.1.toNat ((A s.2.2.1.toNat).1, (A s.2.1.toNat).2)
  else if s.1 = 19 then putA A s.2.1.toNat ((A s.2.1.toNat).1, (A s.2.2.1.toNat).1)
  else if s.1 = 20 then putA A s.2.1.toNat ((A s.2.2.1.toNat).1, some 0)
  else if s.1 = 21 then putA A s.2.1.toNat ((A s.2.2.1.toNat).2, some 0)
  else if s.1 = 22 ∨ s.1 = 23 then (match wholeA A s.2.1.toNat, wholeA A s.2.2.1.toNat with
    | some _, some b => addA A s.2.1.toNat (if s.1 = 23 then sgn b else (b : Int))
    | _, _ => setA A s.2.1.toNat none)
  else setA (setA A s.2.1.toNat none) 4 none
theorem Inv.ite {c : Prop} [Decidable c] {a b : Rg} (h1 : Inv a) (h2 : Inv b) : Inv (if c then a else b) := by
  by_cases h : c
  · rw [if_pos h]; exact h1
  · rw [if_neg h]; exact h2
theorem Inv.step {A : Rg} (h : Inv A) (s : Stp4) : Inv (stepA A s) := by
  unfold stepA
  refine .ite h (.ite (h.set _ _) (.ite (h.put _ (h _).1 (h _).2) (.ite (h.set _ _) (.ite (.ite (h.add _ _) ((h.add _ _).set _ _)) (.ite (h.put _ (h _).1 (h _).2) (.ite (h.put _ (h _).1 (h _).1) (.ite (h.put _ (h _).1 (fun n hn => by cases hn; decide)) (.ite (h.put _ (h _).2 (fun n hn => by cases hn; decide)) (.ite ?_ ((h.set _ _).set _ _))))))))))
  cases wholeA A s.2.1.toNat with
  | none => exact h.set _ _
  | some a =>
    cases wholeA A s.2.2.1.toNat with
    | none => exact h.set _ _
    | some b => exact h.add _ _
theorem signed_ev {n : Nat} (h : n < 256) : Ev (fun k => Signed110 k (n : Int) 8) (sgn n, ()) := by
  unfold Signed110 sgn
  have e8 : (n : Int) % 256 = (n : Int) := by omega
  refine .val (a := (8, ())) rfl (.bind (low8_ev _) (.bind (a := decide (n ≥ 128)) (.yes rfl (.val (a := ((n / 128 : Nat) : Int)) ?_ (.now' ?_))) ?_))
  · show some (shrI .i64 ((n : Int) % 256) 7) = _
    rw [e8]
    exact congrArg some (shrI_nat (j := 7) (by decide))
  · by_cases h1 : n ≥ 128
    · rw [decide_eq_true h1, show n / 128 = 1 by omega]; rfl
    · rw [decide_eq_false h1, show n / 128 = 0 by omega]; rfl
  · by_cases h1 : n ≥ 128
    · rw [if_pos h1]
      refine .bind (a := (n : Int) - 256) (.yes (decide_eq_true h1) (.val (a := 256) rfl (.now' ?_))) (.now _)
      show w64 ((n : Int) % 256 - 256) = _
      rw [e8, w64_id (by omega) (by omega)]
    · rw [if_neg h1]
      refine .bind (a := (n : Int)) (.no (decide_eq_false h1) (.now' ?_)) (.now _)
      exact e8
section
variable {A : Rg} {r : Nums} {c0 : Cod} {u : Unit} {o1 : List Int}
theorem step_p (h : RelP A r) (hA : Inv A) {s : Stp4} (hs : OkS s) (h24 : s.1 ≠ 24) : ∃ r', RelP (stepA A s) r' ∧ Ev (fun k => step130 k () s (c0, r, u) o1) ((), (c0, r', u), o1) := by
  obtain ⟨d, to, fr, n⟩ := s
  have hto : 0 ≤ to ∧ to < 9 := hs.to h24
  have hfr : 0 ≤ fr ∧ fr < 9 := hs.fr h24
  obtain ⟨i, rfl⟩ : ∃ i : Nat, to = (i : Int) := ⟨to.toNat, by omega⟩
  obtain ⟨j, rfl⟩ : ∃ j : Nat, fr = (j : Int) := ⟨fr.toNat, by omega⟩
  have hi : i < 9 := by omega
  have hj : j < 9 := by omega
  have hd : 0 ≤ d ∧ d < 25 := hs.d
  have h24 : d ≠ 24 := h24
  have wt := whole_p (c0 := c0) (u := u) (o1 := o1) h hA hi
  have wf := whole_p (c0 := c0) (u := u) (o1 := o1) h hA hj
  have ri := h.reg i hi
  have rj := h.reg j hj
  have flag : ∀ {A1 : Rg} {r1 : Nums}, RelP A1 r1 → ∃ r', RelP (setA A1 4 none) r' ∧ Ev (fun k => set72' k () 4 (-1) (c0, r1, u) o1) ((), (c0, r', u), o1) := fun h1 => set_p (c0 := c0) (u := u) (o1 := o1) h1 (i := 4) (by decide) (v := none) (fun n hn => by cases hn)
  have unk : ∃ r', RelP (setA A i none) r' ∧ Ev (fun k => set72' k () (i : Int) (-1) (c0, r, u) o1) ((), (c0, r', u), o1) := set_p (c0 := c0) (u := u) (o1 := o1) h hi (v := none) (fun n hn => by cases hn)
  have hh : d = 0 ∨ d = 1 ∨ d = 2 ∨ d = 3 ∨ d = 4 ∨ d = 5 ∨ d = 6 ∨ d = 7 ∨ d = 8 ∨ d = 9 ∨ d = 10 ∨ d = 11 ∨ d = 12 ∨ d = 13 ∨ d = 14 ∨ d = 15 ∨ d = 16 ∨ d = 17 ∨ d = 18 ∨ d = 19 ∨ d = 20 ∨ d = 21 ∨ d = 22 ∨ d = 23 := by omega
  have dflt : ∃ r', RelP (setA (setA A i none) 4 none) r' ∧ Ev (fun k => (whole34 k () (i : Int) (c0, r, u) o1).bind fun t13 => (whole34 k () (j : Int) t13.2.1 t13.2.2).bind fun t19 => (set72' k () (i : Int) (-1) t19.2.1 t19.2.2).bind fun t27 => (set72' k () 4 (-1) t27.2.1 t27.2.2).bind fun t182 => (some ((), t182.2.1, t182.2.2) : Option (Unit × (RunU × List Int)))) ((), (c0, r', u), o1) := by
    obtain ⟨r1, g1, g2⟩ := unk
    obtain ⟨r2, g3, g4⟩ := flag g1
    exact ⟨r2, g3, .bind wt (.bind wf (.bind g2 (.bind g4 (.now _))))⟩
  rcases hh with rfl | rfl | rfl | rfl | rfl | rfl | rfl | rfl | rfl | rfl | rfl | rfl | rfl | rfl | rfl | rfl | rfl | rfl | rfl | rfl | rfl | rfl | rfl | rfl <;> simp only [step130, Int.reduceBEq, cond_true, cond_false, Option.bind_some, Option.bind_assoc]
  · exact ⟨r, h, .bind wt (.bind wf (.now _))⟩
  · have hw : wdN i = wdN j := hs.move rfl
    refine ⟨r.set i (eP (A j).1, if wdN j = true then eP (A j).2 else 0), h.put hi (x := A j) (by rw [hw]), .bind wt (.bind wf (.val (reg_in hj) (.val (rd_some' rj) (.val (reg_in hi) (.val (rd_some' ri) (.now' ?_))))))⟩
    rw [Int.toNat_natCast]
  · have hl : 0 ≤ n ∧ n ≤ cond (wd (i : Int)) 65535 255 := hs.lit rfl
    have hn : n < 65536 := by
      have := hl.2
      cases hw : wd (i : Int) <;> rw [hw] at this <;> simp at this <;> omega
    obtain ⟨r', g1, g2⟩ := set_p (c0 := c0) (u := u) (o1 := o1) h hi (v := some n.toNat) (fun m hm => by cases hm; omega)
    have en : eP (some n.toNat) = n := by show ((n.toNat : Nat) : Int) = n; omega
    rw [en] at g2
    exact ⟨r', g1, .bind wt (.bind wf (.bind g2 (.now _)))⟩
  · obtain ⟨r', g1, g2⟩ := flag h
    exact ⟨r', g1, .bind wt (.bind wf (.bind g2 (.now _)))⟩
  · exact dflt
  · exact dflt
  · obtain ⟨r', g1, g2⟩ := flag h
    exact ⟨r', g1, .bind wt (.bind wf (.bind g2 (.now _)))⟩
  · exact dflt
  · exact dflt
  · exact dflt
  · obtain ⟨r1, g1, g2⟩ := add_p (c0 := c0) (u := u) (o1 := o1) h hA hi (b := 1) (by decide)
    rw [show w64 (1 - w64 (2 * w64 (10 - 10))) = 1 by decide]
    show ∃ r', RelP (if wdN i = true then addA A i (1) else setA (addA A i (1)) 4 none) r' ∧ _
    cases hw : wdN i with
    | true =>
      have hw' : wd (i : Int) = true := hw
      exact ⟨r1, g1, .bind wt (.bind wf (.bind g2 (.bind (wide_ev _) (.bind (a := ((c0, r1, u), o1)) (.no (by rw [hw']; rfl) (.now _)) (.now _)))))⟩
    | false =>
      have hw' : wd (i : Int) = false := hw
      obtain ⟨r2, g3, g4⟩ := flag g1
      exact ⟨r2, g3, .bind wt (.bind wf (.bind g2 (.bind (wide_ev _) (.bind (a := ((c0, r2, u), o1)) (.yes (by rw [hw']; rfl) (.bind g4 (.now _))) (.now _)))))⟩
  · obtain ⟨r1, g1, g2⟩ := add_p (c0 := c0) (u := u) (o1 := o1) h hA hi (b := -1) (by decide)
    rw [show w64 (1 - w64 (2 * w64 (11 - 10))) = -1 by decide]
    show ∃ r', RelP (if wdN i = true then addA A i (-1) else setA (addA A i (-1)) 4 none) r' ∧ _
    cases hw : wdN i with
    | true =>
      have hw' : wd (i : Int) = true := hw
      exact ⟨r1, g1, .bind wt (.bind wf (.bind g2 (.bind (wide_ev _) (.bind (a := ((c0, r1, u), o1)) (.no (by rw [hw']; rfl) (.now _)) (.now _)))))⟩
    | false =>
      have hw' : wd (i : Int) = false := hw
      obtain ⟨r2, g3, g4⟩ := flag g1
      exact ⟨r2, g3, .bind wt (.bind wf (.bind g2 (.bind (wide_ev _) (.bind (a := ((c0, r2, u), o1)) (.yes (by rw [hw']; rfl) (.bind g4 (.now _))) (.now _)))))⟩
  · exact dflt
  · exact dflt
  · exact dflt
  · exact dflt
  · obtain ⟨r', g1, g2⟩ := flag h
    exact ⟨r', g1, .bind wt (.bind wf (.bind g2 (.now _)))⟩
  · obtain ⟨r', g1, g2⟩ := flag h
    exact ⟨r', g1, .bind wt (.bind wf (.bind g2 (.now _)))⟩
  · refine ⟨r.set i (eP (A j).1, if wdN i = true then eP (A i).2 else 0), h.put hi (x := ((A j).1, (A i).2)) rfl, .bind wt (.bind wf (.val (reg_in hj) (.val (rd_some' rj) (.val (reg_in hi) (.val (rd_some' ri) (.now' ?_))))))⟩
    rw [Int.toNat_natCast]
  · have hw : wdN i = true := (hs.wb (.inr (.inl rfl))).1
    refine ⟨r.set i (eP (A i).1, eP (A j).1), h.put hi (x := ((A i).1, (A j).1)) (by rw [if_pos hw]), .bind wt (.bind wf (.val (reg_in hj) (.val (rd_some' rj) (.val (reg_in hi) (.val (rd_some' ri) (.now' ?_))))))⟩
    rw [Int.toNat_natCast]
  · have hw : wdN i = false := (hs.bw (.inl rfl)).1
    refine ⟨r.set i (eP (A j).1, 0), h.put hi (x := ((A j).1, some 0)) (by rw [if_neg (by rw [hw]; decide)]), .bind wt (.bind wf (.val (reg_in hj) (.val (rd_some' rj) (.val (reg_in hi) (.val (rd_some' ri) (.now' ?_))))))⟩
    rw [Int.toNat_natCast]
  · have hw : wdN i = false := (hs.bw (.inr rfl)).1
    have hw2 : wdN j = true := (hs.bw (.inr rfl)).2
    refine ⟨r.set i (eP (A j).2, 0), h.put hi (x := ((A j).2, some 0)) (by rw [if_neg (by rw [hw]; decide)]), .bind wt (.bind wf (.val (reg_in hj) (.val (rd_some' rj) (.val (reg_in hi) (.val (rd_some' ri) (.now' ?_))))))⟩
    rw [Int.toNat_natCast, if_pos hw2]
  · have hw2 : wdN j = false := (hs.wb (.inr (.inr (.inl rfl)))).2
    show ∃ r', RelP (match wholeA A i, wholeA A j with | some _, some b => addA A i (b : Int) | _, _ => setA A i none) r' ∧ _
    cases hti : wholeA A i with
    | none =>
      rw [hti] at wt
      obtain ⟨r', g1, g2⟩ := unk
      refine ⟨r', g1, .bind wt (.bind wf (.bind (a := ((), (c0, r', u), o1)) (.yes ?_ (.bind g2 (.now _))) (.now _)))⟩
      show cond (eP (wholeA A j) == -1) true true = true
      cases eP (wholeA A j) == -1 <;> rfl
    | some a =>
      rw [hti] at wt
      cases htj : wholeA A j with
      | none =>
        rw [htj] at wf
        obtain ⟨r', g1, g2⟩ := unk
        exact ⟨r', g1, .bind wt (.bind wf (.bind (a := ((), (c0, r', u), o1)) (.yes rfl (.bind g2 (.now _))) (.now _)))⟩
      | some b =>
        rw [htj] at wf
        have hb := narrow_lt hA hw2 htj
        obtain ⟨r', g1, g2⟩ := add_p (c0 := c0) (u := u) (o1 := o1) h hA hi (b := (b : Int)) ⟨by omega, by omega⟩
        refine ⟨r', g1, .bind wt (.bind wf (.bind (a := ((), (c0, r', u), o1)) (.no ?_ (.bind g2 (.now _))) (.now _)))⟩
        show cond (((b : Nat) : Int) == -1) true (((a : Nat) : Int) == -1) = false
        rw [beq_false_of_ne (by omega)]
        exact beq_false_of_ne (by omega)
  · have hw2 : wdN j = false := (hs.wb (.inr (.inr (.inr rfl)))).2
    show ∃ r', RelP (match wholeA A i, wholeA A j with | some _, some b => addA A i (sgn b) | _, _ => setA A i none) r' ∧ _
    cases htj : wholeA A j with
    | none =>
      rw [htj] at wf
      obtain ⟨r', g1, g2⟩ := unk
      have e : (match wholeA A i, (none : Option Nat) with | some _, some b => addA A i (sgn b) | _, _ => setA A i none) = setA A i none := by cases wholeA A i <;> rfl
      rw [e]
      exact ⟨r', g1, .bind wt (.bind wf (.bind (a := ((), (23, (i : Int), (j : Int), n), -1, (c0, r, u), o1)) (.no rfl (.now _)) (.bind (a := ((), (c0, r', u), o1)) (.yes rfl (.bind g2 (.now _))) (.now _))))⟩
    | some b =>
      rw [htj] at wf
      have hb := narrow_lt hA hw2 htj
      have hne : (((b : Nat) : Int) == -1) = false := beq_false_of_ne (by omega)
      have hne2 : (((b : Nat) : Int) != -1) = true := bne_iff_ne.2 (by omega)
      cases hti : wholeA A i with
      | none =>
        rw [hti] at wt
        obtain ⟨r', g1, g2⟩ := unk
        refine ⟨r', g1, .bind wt (.bind wf (.bind (a := ((), (23, (i : Int), (j : Int), n), sgn b, (c0, r, u), o1)) (.yes hne2 (.bind (signed_ev hb) (.now _))) (.bind (a := ((), (c0, r', u), o1)) (.yes ?_ (.bind g2 (.now _))) (.now _))))⟩
        show cond (((b : Nat) : Int) == -1) true true = true
        rw [hne]; rfl
      | some a =>
        rw [hti] at wt
        obtain ⟨r', g1, g2⟩ := add_p (c0 := c0) (u := u) (o1 := o1) h hA hi (b := sgn b) (by unfold sgn; split <;> omega)
        refine ⟨r', g1, .bind wt (.bind wf (.bind (a := ((), (23, (i : Int), (j : Int), n), sgn b, (c0, r, u), o1)) (.yes hne2 (.bind (signed_ev hb) (.now _))) (.bind (a := ((), (c0, r', u), o1)) (.no ?_ (.bind g2 (.now _))) (.now _))))⟩
        show cond (((b : Nat) : Int) == -1) true (((a : Nat) : Int) == -1) = false
        rw [hne]
        exact beq_false_of_ne (by omega)
end
end Go.Proofs.YtofendipdfepoaaGreat.Tr

/- What is known of registers: the program's ends of an instruction. No program in sight. -/
set_option linter.unusedVariables false
set_option maxRecDepth 100000
noncomputable section
namespace Go.Proofs.YtofendipdfepoaaGreat.Tr
open Go Go.Proofs.YtofendipdfepoaaGreat.Gp

theorem Lp.countI {β S R : Type} {body : Nat → S → Option (S ⊕ R)} (n : Nat) (st : β → Int → S) (fin : β → R) (Inv : Nat → β → Prop)
    (hs : ∀ i b, i < n → Inv i b → ∃ b', Inv (i + 1) b' ∧ Ev (fun k => body k (st b (i : Int))) (.inl (st b' ((i + 1 : Nat) : Int)))) (hd : ∀ b, Inv n b → Ev (fun k => body k (st b (n : Int))) (.inr (fin b))) {b : β} (h0 : Inv 0 b) : ∃ b', Inv n b' ∧ Gp.Lp body (st b 0) (fin b') := by
  have key : ∀ (d i : Nat) (b : β), i + d = n → Inv i b → ∃ b', Inv n b' ∧ Gp.Lp body (st b (i : Int)) (fin b') := by
    intro d
    induction d with
    | zero =>
      intro i b h hi
      have : i = n := by omega
      subst this
      exact ⟨b, hi, .done (hd b hi)⟩
    | succ d ih =>
      intro i b h hi
      obtain ⟨b1, h1, e1⟩ := hs i b (by omega) hi
      obtain ⟨b2, h2, e2⟩ := ih (i + 1) b1 (by omega) h1
      exact ⟨b2, h2, .step e1 e2⟩
  exact key n 0 b (by omega) h0
/-- two lists, place by place -/
structure All2 {α β : Type} (R : α → β → Prop) (l : List α) (m : List β) : Prop where
  len : m.length = l.length
  at' : ∀ (j : Nat) a b, l[j]? = some a → m[j]? = some b → R a b
theorem All2.nil {α β : Type} {R : α → β → Prop} : All2 R ([] : List α) ([] : List β) := ⟨rfl, fun j a b h => by simp at h⟩
theorem All2.snoc {α β : Type} {R : α → β → Prop} {l : List α} {m : List β} (h : All2 R l m) {a : α} {b : β} (hr : R a b) : All2 R (l ++ [a]) (m ++ [b]) := by
  refine ⟨by simp [h.len], fun j x y hx hy => ?_⟩
  by_cases hj : j < l.length
  · rw [List.getElem?_append_left hj] at hx
    rw [List.getElem?_append_left (by rw [h.len]; exact hj)] at hy
    exact h.at' j x y hx hy
  · have hjl := get_lt hx
    rw [List.length_append, List.length_singleton] at hjl
    have : j = l.length := by omega
    subst this
    rw [List.getElem?_append_right (Nat.le_refl _), Nat.sub_self] at hx
    rw [List.getElem?_append_right (by rw [h.len]; exact Nat.le_refl _), h.len, Nat.sub_self] at hy
    cases hx
    cases hy
    exact hr
abbrev End := Rg × Psh
abbrev Ab := Rg × Psh × List End
def stA (b : Ab) (s : Stp4) : Ab := if s.1 = 24 then (b.1, b.2.1, b.2.2 ++ [(b.1, b.2.1)]) else (stepA b.1 s, b.2.1, b.2.2)
def cyB (code : Cod) (b : Ab) (c : Cyc) : Ab := if c.1 ≠ 0 then ((busA code b.1 b.2.1 c).1, (busA code b.1 b.2.1 c).2, b.2.2) else b
def cyA (code : Cod) (b : Ab) (c : Cyc) : Ab := c.2.2.2.foldl stA (cyB code b c)
def runA (code : Cod) (l : List Cyc) (A : Rg) : Ab := l.foldl (cyA code) (A, [], [])
def endsA (code : Cod) (l : List Cyc) (A : Rg) : List End := (runA code l A).2.2 ++ [((runA code l A).1, (runA code l A).2.1)]
/-- what stands in an abstract state -/
structure OkB (n : Nat) (b : Ab) : Prop where
  inv : Inv b.1
  psh : b.2.1.length ≤ n
  len : b.2.2.length ≤ 6 * n
  all : ∀ e ∈ b.2.2, Inv e.1 ∧ e.2.length ≤ 1000
theorem steps_ok {n m : Nat} (hn : n ≤ 100) (hm : m ≤ 6) : ∀ (l : List Stp4) (b : Ab), b.2.1.length ≤ n + 1 → b.2.2.length + l.length ≤ 6 * n + m → Inv b.1 → (∀ e ∈ b.2.2, Inv e.1 ∧ e.2.length ≤ 1000) → (l.foldl stA b).2.1.length ≤ n + 1 ∧ (l.foldl stA b).2.2.length ≤ 6 * n + m ∧ Inv (l.foldl stA b).1 ∧ ∀ e ∈ (l.foldl stA b).2.2, Inv e.1 ∧ e.2.length ≤ 1000 := by
  intro l
  induction l with
  | nil => intro b h1 h2 h3 h4; exact ⟨h1, by simpa using h2, h3, h4⟩
  | cons s l ih =>
    intro b h1 h2 h3 h4
    rw [List.foldl_cons]
    rw [List.length_cons] at h2
    unfold stA
    by_cases hs : s.1 = 24
    · rw [if_pos hs]
      refine ih _ h1 (by show (b.2.2 ++ [_]).length + _ ≤ _; rw [List.length_append, List.length_singleton]; omega) h3 (fun e he => ?_)
      rcases List.mem_append.1 he with he | he
      · exact h4 e he
      · have : e = (b.1, b.2.1) := by simpa using he
        rw [this]; exact ⟨h3, by show b.2.1.length ≤ 1000; omega⟩
    · rw [if_neg hs]
      exact ih _ h1 (by show b.2.2.length + _ ≤ _; omega) (h3.step s) h4
theorem cyB_ok {code : Cod} {n : Nat} {b : Ab} (h : OkB n b) (c : Cyc) : (cyB code b c).2.1.length ≤ n + 1 ∧ (cyB code b c).2.2 = b.2.2 ∧ Inv (cyB code b c).1 := by
  unfold cyB
  split
  · refine ⟨?_, rfl, h.inv.bus b.2.1 c⟩
    show (if c.1 = 2 ∧ c.2.1 = 4 then b.2.1 ++ [wholeA b.1 c.2.2.1.toNat] else b.2.1).length ≤ n + 1
    have := h.psh
    split
    · rw [List.length_append, List.length_singleton]; omega
    · omega
  · exact ⟨by have := h.psh; omega, rfl, h.inv⟩
theorem OkB.cyc {code : Cod} {n : Nat} {b : Ab} (hn : n ≤ 100) (h : OkB n b) {c : Cyc} (hc : OkC c) : OkB (n + 1) (cyA code b c) := by
  obtain ⟨h1, h2, h3⟩ := cyB_ok (code := code) h c
  have hl := h.len
  have hcl := hc.len
  obtain ⟨g1, g2, g3, g4⟩ := steps_ok (n := n) (m := 6) hn (Nat.le_refl _) c.2.2.2 (cyB code b c) h1 (by rw [h2]; omega) h3 (by rw [h2]; exact h.all)
  exact ⟨g3, g1, by unfold cyA; omega, g4⟩
theorem OkB.run {code : Cod} : ∀ (l : List Cyc) {n : Nat} {b : Ab}, n + l.length ≤ 100 → OkB n b → (∀ c ∈ l, OkC c) → OkB (n + l.length) (l.foldl (cyA code) b)
  | [], n, b, _, h, _ => h
  | c :: l, n, b, hn, h, hc => by
    rw [List.length_cons] at hn
    rw [List.foldl_cons, List.length_cons, show n + (l.length + 1) = n + 1 + l.length by omega]
    exact OkB.run l (by omega) (OkB.cyc (by omega) h (hc c List.mem_cons_self)) (fun x hx => hc x (List.mem_cons_of_mem _ hx))
theorem okB0 {A : Rg} (h : Inv A) : OkB 0 (A, [], []) := ⟨h, Nat.le_refl _, Nat.le_refl _, fun e he => by cases he⟩
theorem run_okB {code : Cod} {l : List Cyc} (hl : OkL l) {A : Rg} (h : Inv A) : OkB l.length (runA code l A) := by
  have := OkB.run (code := code) l (n := 0) (by have := hl.len; omega) (okB0 h) hl.ok
  rwa [Nat.zero_add] at this
theorem ends_ok {code : Cod} {l : List Cyc} (hl : OkL l) {A : Rg} (h : Inv A) : (endsA code l A).length ≤ 60 ∧ ∀ e ∈ endsA code l A, Inv e.1 ∧ e.2.length ≤ 1000 := by
  have hb := run_okB (code := code) hl h
  have h8 := hl.len
  have h1 := hb.len
  have h2 := hb.psh
  unfold endsA
  refine ⟨by rw [List.length_append, List.length_singleton]; omega, fun e he => ?_⟩
  rcases List.mem_append.1 he with he | he
  · exact hb.all e he
  · have : e = ((runA code l A).1, (runA code l A).2.1) := by simpa using he
    rw [this]
    exact ⟨hb.inv, by show (runA code l A).2.1.length ≤ 1000; omega⟩
abbrev Rn := Cod × Nums × List Int
def RelE (e : End) (y : Rn) : Prop := RelP e.1 y.2.1 ∧ y.2.2 = e.2.map eP
abbrev Bp := Nums × List Int × List Rn
structure RelB (b : Ab) (y : Bp) : Prop where
  reg : RelP b.1 y.1
  psh : y.2.1 = b.2.1.map eP
  out : All2 RelE b.2.2 y.2.2
theorem clone125_ev (s : List Int) (h : s.length ≤ 1000) : Ev (fun k => Clone129 k s) ((), s) := by
  unfold Clone129
  have e : (if room (0 + List.length s) 8 then some () else none : Option Unit) = some () := if_pos (room_ok (by omega))
  refine Ev.const ?_
  rw [orNil_same (fun h0 => ?_)]
  · show Option.bind _ _ = _
    rw [e]; rfl
  · have := List.length_eq_zero_iff.1 h0
    subst this
    rw [e]; rfl
theorem steps_p {code : Cod} {n : Nat} (hn : n ≤ 100) {c : Cyc} (hc : OkC c) {b : Ab} (h1 : b.2.1.length ≤ n + 1) (h2 : b.2.2.length ≤ 6 * n) (h3 : Inv b.1) (h4 : ∀ e ∈ b.2.2, Inv e.1 ∧ e.2.length ≤ 1000) {y : Bp} (hy : RelB b y) :
    ∃ y', RelB (c.2.2.2.foldl stA b) y' ∧ Gp.Lp (fun k => ends79.l0 k c) ((), (), 0, (code, y.1, ()), y.2.1, y.2.2) ((), (), (code, y'.1, ()), y'.2.1, y'.2.2) := by
  have hcl := hc.len
  obtain ⟨y', hy', e⟩ := Lp.countI (body := fun k => ends79.l0 k c) c.2.2.2.length (fun (y : Bp) i => ((), (), i, (code, y.1, ()), y.2.1, y.2.2)) (fun y => ((), (), (code, y.1, ()), y.2.1, y.2.2))
    (fun i y => RelB ((c.2.2.2.take i).foldl stA b) y)
    (fun i y hi hy => by
      have hx : c.2.2.2[i]? = some c.2.2.2[i] := List.getElem?_eq_getElem hi
      have hs := hc.steps _ (get_mem hx)
      generalize c.2.2.2[i] = s at hx hs
      have htk : (c.2.2.2.take i).length ≤ 6 := by rw [List.length_take]; omega
      obtain ⟨g1, g2, g3, g4⟩ := steps_ok (n := n) (m := 6) hn (Nat.le_refl _) (c.2.2.2.take i) b h1 (by omega) h3 h4
      rw [List.take_add_one, hx, Option.toList_some, List.foldl_append]
      show ∃ y', RelB (stA ((c.2.2.2.take i).foldl stA b) s) y' ∧ _
      generalize (c.2.2.2.take i).foldl stA b = B at hy g1 g2 g3 g4
      have hol := hy.out.len
      have hpl : y.2.1.length ≤ 1000 := by rw [hy.psh, List.length_map]; omega
      unfold stA
      simp only [ends79.l0]
      by_cases h24 : s.1 = 24
      · rw [if_pos h24]
        refine ⟨(y.1, y.2.1, y.2.2 ++ [((0, [], []), y.1, y.2.1)]), ⟨hy.reg, hy.psh, hy.out.snoc ⟨hy.reg, hy.psh⟩⟩, .yes (decide_eq_true (by omega)) (.bind (a := ((), (), (code, y.1, ()), y.2.1, y.2.2 ++ [((0, [], []), y.1, y.2.1)])) (.val (rd_some' hx) (.yes (by rw [h24]; rfl) (.bind (clone125_ev _ hpl) (.val (a := ()) (if_pos (room_ok (by simp only [List.length_cons, List.length_nil]; omega))) (.now _))))) (.now' ?_))⟩
        rw [w64_succ (by omega)]
      · rw [if_neg h24]
        obtain ⟨r', q1, q2⟩ := step_p (c0 := code) (u := ()) (o1 := y.2.1) hy.reg g3 hs h24
        refine ⟨(r', y.2.1, y.2.2), ⟨q1, hy.psh, hy.out⟩, .yes (decide_eq_true (by omega)) (.bind (a := ((), (), (code, r', ()), y.2.1, y.2.2)) (.val (rd_some' hx) (.no (beq_false_of_ne h24) (.bind q2 (.now _)))) (.now' ?_))⟩
        rw [w64_succ (by omega)])
    (fun y _ => by
      simp only [ends79.l0]
      exact .no (by simp) (.now _)) (b := y) hy
  rw [List.take_length] at hy'
  exact ⟨y', hy', e⟩
theorem ends_p {code : Cod} (hd : OkD code) {l : List Cyc} (hl : OkL l) {A : Rg} (hA : Inv A) {r : Nums} (hr : RelP A r) : ∃ o, All2 RelE (endsA code l A) o ∧ Ev (fun k => ends79 k code l r) (o, ()) := by
  have h8 := hl.len
  obtain ⟨y, hy, e⟩ := Lp.countI (body := fun k => ends79.l1 k l) l.length (fun (y : Bp) i => ((), (), i, (code, y.1, ()), y.2.1, y.2.2)) (fun y => ((), (), (code, y.1, ()), y.2.1, y.2.2))
    (fun i y => RelB ((l.take i).foldl (cyA code) (A, [], [])) y)
    (fun i y hi hy => by
      have hx : l[i]? = some l[i] := List.getElem?_eq_getElem hi
      have hc := hl.ok _ (get_mem hx)
      generalize l[i] = c at hx hc
      have hok : OkB i ((l.take i).foldl (cyA code) (A, [], [])) := by
        have := OkB.run (code := code) (l.take i) (n := 0) (by rw [List.length_take]; omega) (okB0 hA) (fun c hc => hl.ok c (List.mem_of_mem_take hc))
        rwa [Nat.zero_add, List.length_take, Nat.min_eq_left (by omega)] at this
      rw [List.take_add_one, hx, Option.toList_some, List.foldl_append]
      show ∃ y', RelB (cyA code ((l.take i).foldl (cyA code) (A, [], [])) c) y' ∧ _
      generalize (l.take i).foldl (cyA code) (A, [], []) = B at hy hok
      have hbl := hok.psh
      obtain ⟨k1, k2, k3⟩ := cyB_ok (code := code) hok c
      have hB : ∃ y1, RelB (cyB code B c) y1 ∧ Ev (fun k => (cond (c.1 != 0) ((bus128 k () c (code, y.1, ()) y.2.1).bind fun t26 => some ((), (), c, t26.2.1, t26.2.2, y.2.2)) (some ((), (), c, (code, y.1, ()), y.2.1, y.2.2)) : Option (Unit × (Unit × (Cyc × (RunU × (List Int × List Rn))))))) ((), (), c, (code, y1.1, ()), y1.2.1, y1.2.2) := by
        unfold cyB
        by_cases h0 : c.1 ≠ 0
        · rw [if_pos h0]
          obtain ⟨r', q1, q2⟩ := bus_p (u := ()) (P := B.2.1) hd hy.reg hok.inv hc (by omega)
          rw [← hy.psh] at q2
          exact ⟨(r', _, y.2.2), ⟨q1, rfl, hy.out⟩, .yes (bne_iff_ne.2 h0) (.bind q2 (.now _))⟩
        · rw [if_neg h0]
          have h0 : c.1 = 0 := by omega
          exact ⟨y, hy, .no (by rw [h0]; rfl) (.now _)⟩
      obtain ⟨y1, hy1, e1⟩ := hB
      obtain ⟨y2, hy2, e2⟩ := steps_p (code := code) (n := i) (by omega) hc k1 (by rw [k2]; exact hok.len) k3 (by rw [k2]; exact hok.all) hy1
      refine ⟨y2, hy2, ?_⟩
      simp only [ends79.l1]
      refine .yes (decide_eq_true (by omega)) (.val (rd_some' hx) (.bind e1 (.bind e2.ev (.now' ?_))))
      rw [w64_succ (by omega)])
    (fun y _ => by
      simp only [ends79.l1]
      exact .no (by simp) (.now _)) (b := (r, [], [])) ⟨hr, rfl, .nil⟩
  rw [List.take_length] at hy
  have hb := run_okB (code := code) hl hA
  have hbl := hb.len
  have hol := hy.out.len
  refine ⟨y.2.2 ++ [(code, y.1, y.2.1)], hy.out.snoc ⟨hy.reg, hy.psh⟩, ?_⟩
  unfold ends79
  refine .bind e.ev (.val (a := ()) (if_pos (room_ok ?_)) (.now _))
  have hol : y.2.2.length = (runA code l A).2.2.length := hol
  simp only [List.length_cons, List.length_nil]
  omega
end Go.Proofs.YtofendipdfepoaaGreat.Tr

/- What an instruction leads to: the program's answer. No program in sight. -/
set_option linter.unusedVariables false
set_option maxRecDepth 100000
noncomputable section
namespace Go.Proofs.YtofendipdfepoaaGreat.Tr
open Go Go.Proofs.YtofendipdfepoaaGreat.Gp

theorem set0_ev {r : Nums} (hl : r.length = 9) {i : Nat} (hi : i < 9) {v : Option Nat} (hv : ∀ n, v = some n → n < 65536) : Ev (fun k => set72 k () (i : Int) (eP v) r) ((), r.set i (eP (v.map (· % 256)), if wdN i = true then eP (v.map (fun n => n / 256 % 256)) else 0)) := by
  have hr : r[i]? = some r[i] := List.getElem?_eq_getElem (by omega)
  unfold set72
  cases v with
  | none =>
    refine .bind (a := wd (i : Int)) (.yes rfl (.bind (wide_ev _) (.now _))) ?_
    cases hw : wdN i with
    | true =>
      have hw' : wd (i : Int) = true := hw
      rw [hw']
      exact .bind (a := r.set i (-1, -1)) (.yes rfl (.val (reg_in hi) (.val (rd_some' hr) (.now' (by rw [Int.toNat_natCast]))))) (.now _)
    | false =>
      have hw' : wd (i : Int) = false := hw
      rw [hw']
      exact .bind (a := r.set i (-1, 0)) (.no rfl (.bind (a := r.set i (-1, 0)) (.yes rfl (.val (reg_in hi) (.val (rd_some' hr) (.now' (by rw [Int.toNat_natCast]))))) (.now _))) (.now _)
  | some n =>
    have hn := hv n rfl
    have hne : (((n : Nat) : Int) == (-1)) = false := beq_false_of_ne (by omega)
    have e8 : ((n : Int) % 256) = ((n % 256 : Nat) : Int) := by rw [Int.natCast_emod]; rfl
    show Ev _ ((), r.set i (((n % 256 : Nat) : Int), if wdN i = true then ((n / 256 % 256 : Nat) : Int) else 0))
    rw [← e8]
    refine .bind (a := false) (.no hne (.now _)) (.bind (a := r.set i ((n : Int) % 256, if wdN i = true then ((n / 256 % 256 : Nat) : Int) else 0)) (.no rfl (.bind (a := r.set i ((n : Int) % 256, if wdN i = true then ((n / 256 % 256 : Nat) : Int) else 0)) (.no hne (.bind (wide_ev _) (.bind (a := r.set i ((n : Int) % 256, if wdN i = true then ((n / 256 % 256 : Nat) : Int) else 0)) ?_ (.now _)))) (.now _))) (.now _))
    cases hw : wdN i with
    | true =>
      have hw' : wd (i : Int) = true := hw
      refine .yes hw' (.bind (low8_ev _) (.bind (get_ev n hn) (.val (reg_in hi) (.val (rd_some' hr) (.now' ?_)))))
      rw [Int.toNat_natCast]; rfl
    | false =>
      have hw' : wd (i : Int) = false := hw
      refine .no hw' (.bind (low8_ev _) (.val (reg_in hi) (.val (rd_some' hr) (.now' ?_))))
      rw [Int.toNat_natCast]; rfl
def A0 : Rg := fun _ => (none, none)
theorem inv0 : Inv A0 := fun _ => ⟨by_none, by_none⟩
theorem none_p : ∃ r, RelP A0 r ∧ Ev (fun k => none44 k) (r, ()) := by
  obtain ⟨r, hr, e⟩ := Lp.countI (body := fun k => none44.l0 k) 9 (fun (r : Nums) i => ((), (), i, List.replicate 9 (0, 0), r)) (fun r => ((), (), List.replicate 9 (0, 0), r))
    (fun i r => r.length = 9 ∧ ∀ j, j < i → r[j]? = some (-1, if wdN j = true then -1 else 0))
    (fun i r hi hr => by
      obtain ⟨h1, h2⟩ := hr
      refine ⟨r.set i (-1, if wdN i = true then -1 else 0), ⟨by rw [List.length_set]; exact h1, fun j hj => ?_⟩, ?_⟩
      · by_cases hji : j = i
        · subst hji
          rw [List.getElem?_set_self (by omega)]
        · rw [List.getElem?_set_ne (fun e => hji e.symm)]
          exact h2 j (by omega)
      · simp only [none44.l0]
        refine .yes (decide_eq_true (by omega)) (.bind (set0_ev h1 hi (v := none) (fun n hn => by cases hn)) (.now' ?_))
        rw [w64_succ (by omega)]
        rfl)
    (fun r _ => by
      simp only [none44.l0]
      exact .no (by decide) (.now _)) (b := List.replicate 9 (0, 0)) ⟨by simp, fun j hj => by omega⟩
  refine ⟨r, ⟨hr.1, fun i hi => hr.2 i hi⟩, ?_⟩
  unfold none44
  exact .bind e.ev (.now _)
-- what it leads to
def pcA (e : End) : Option Nat := wholeA e.1 7
def toL (E : List End) : List Int := E.filterMap (fun e => (pcA e).map (fun (n : Nat) => (n : Int)))
def openL (E : List End) : Bool := E.any (fun e => (pcA e).isNone)
def callE (back : Nat) (P : Psh) : Bool := decide (P.length ≥ 2 ∧ P[P.length - 2]? = some (some (back / 256)) ∧ P[P.length - 1]? = some (some (back % 256)))
def callL (back : Nat) (E : List End) : Bool := E.any (fun e => callE back e.2)
def pcL : Option Nat → List Int
  | some n => [(n : Int)]
  | none => []
theorem toL_snoc (E : List End) (e : End) : toL (E ++ [e]) = toL E ++ pcL (pcA e) := by
  unfold toL
  rw [List.filterMap_append]
  cases h : pcA e <;> simp [h, pcL]
theorem toL_len (E : List End) : (toL E).length ≤ E.length := List.length_filterMap_le _ _
theorem wholeR_p {A : Rg} {y : Rn} (h : RelP A y.2.1) (hA : Inv A) {i : Nat} (hi : i < 9) : Ev (fun k => whole34' k () (i : Int) y) (eP (wholeA A i), y) := by
  have hr := h.reg i hi
  obtain ⟨b1, b2⟩ := hA i
  unfold whole34' wholeA
  refine .val (reg_in hi) (.val (rd_some' hr) ?_)
  cases h1 : (A i).1 with
  | none =>
    refine .bind (a := true) (.yes rfl (.now _)) (.yes rfl (.now' ?_))
    cases wdN i <;> rfl
  | some l =>
    have hl := b1 l h1
    have hne : (((l : Nat) : Int) == (-1)) = false := beq_false_of_ne (by omega)
    cases hw : wdN i with
    | false =>
      have hw' : wd (i : Int) = false := hw
      refine .bind (a := false) (.no hne (.bind (wide_ev _) (.now' (by rw [hw']; rfl)))) (.no rfl (.now' ?_))
      show (w64 ((l : Int) + (w64 (256 * 0))), _) = _
      rw [show w64 (256 * 0) = 0 from rfl, w64_id (by omega) (by omega), Int.add_zero]
      rfl
    | true =>
      have hw' : wd (i : Int) = true := hw
      cases h2 : (A i).2 with
      | none =>
        refine .bind (a := true) (.no hne (.bind (wide_ev _) (.now' (by rw [hw', if_pos rfl]; rfl)))) (.yes rfl (.now _))
      | some hh =>
        have hl2 := b2 hh h2
        refine .bind (a := false) (.no hne (.bind (wide_ev _) (.now' ?_))) (.no rfl (.now' ?_))
        · rw [hw', if_pos rfl]
          exact beq_false_of_ne (by show (hh : Int) ≠ -1; omega)
        · rw [if_pos rfl]
          show (w64 ((l : Int) + (w64 (256 * (hh : Int)))), _) = _
          rw [w64_id (x := 256 * (hh : Int)) (by omega) (by omega), w64_id (by omega) (by omega)]
          show ((l : Int) + 256 * (hh : Int), _) = (((l + 256 * hh : Nat) : Int), _)
          rw [Int.natCast_add, Int.natCast_mul]; rfl
theorem eP_eq {v : Option Nat} {b : Nat} : (eP v == (b : Int)) = decide (v = some b) := by
  cases v with
  | none =>
    rw [decide_eq_false (by simp)]
    exact beq_false_of_ne (by show (-1 : Int) ≠ (b : Int); omega)
  | some n =>
    by_cases h : n = b
    · subst h; simp [eP]
    · rw [decide_eq_false (by simpa using h)]
      exact beq_false_of_ne (by show (n : Int) ≠ (b : Int); omega)
theorem and255 (n : Nat) : ibits .and .i64 (n : Int) 255 = ((n % 256 : Nat) : Int) := by
  have := ibits_low (n : Int) (j := 8) (by decide)
  rw [Int.natCast_emod]
  exact this
abbrev Wy := Int × List Int × Bool × Bool
abbrev Lst := Bool × Bool × List Int
theorem call_ev {P : Psh} {y : Rn} (hy : y.2.2 = P.map eP) (hl : P.length ≤ 1000) {back : Nat} (hb : back < 65536) {R : Type} {g : Nat → Bool → Option R} {v : R} (hg : Ev (fun k => g k (callE back P)) v) :
    Ev (fun k => Option.bind (cond (decide ((List.length y.2.2 : Int) ≥ 2))
        ((rd y.2.2 (w64 ((List.length y.2.2 : Int) - 2))).bind fun t63 =>
        some (t63 == (shrI .i64 ((back : Nat) : Int) 8)))
        (some false)) fun t68 =>
      Option.bind (cond t68
        ((rd y.2.2 (w64 ((List.length y.2.2 : Int) - 1))).bind fun t74 =>
        some (t74 == (ibits .and .i64 ((back : Nat) : Int) 255)))
        (some false)) (g k)) v := by
  have hyl : y.2.2.length = P.length := by rw [hy, List.length_map]
  by_cases h2 : P.length ≥ 2
  · have e1 : P[P.length - 2]? = some P[P.length - 2] := List.getElem?_eq_getElem (by omega)
    have e2 : P[P.length - 1]? = some P[P.length - 1] := List.getElem?_eq_getElem (by omega)
    generalize P[P.length - 2] = p at e1
    generalize P[P.length - 1] = q at e2
    have r1 : rd y.2.2 (w64 ((List.length y.2.2 : Int) - 2)) = some (eP p) := by
      rw [hyl, w64_id (by omega) (by omega)]
      exact rd_at (i := P.length - 2) (by omega) (by rw [hy, List.getElem?_map, e1]; rfl)
    have r2 : rd y.2.2 (w64 ((List.length y.2.2 : Int) - 1)) = some (eP q) := by
      rw [hyl, w64_id (by omega) (by omega)]
      exact rd_at (i := P.length - 1) (by omega) (by rw [hy, List.getElem?_map, e2]; rfl)
    have hc : callE back P = (decide (p = some (back / 256)) && decide (q = some (back % 256))) := by
      unfold callE
      rw [e1, e2, ← Bool.decide_and]
      refine decide_eq_decide.2 ⟨fun h => ⟨Option.some.inj h.2.1, Option.some.inj h.2.2⟩, fun h => ⟨h2, by rw [h.1], by rw [h.2]⟩⟩
    refine .bind (a := decide (p = some (back / 256))) (.yes (decide_eq_true (by omega)) (.val r1 (.now' ?_))) ?_
    · rw [show shrI .i64 ((back : Nat) : Int) 8 = ((back / 256 : Nat) : Int) from shr8 hb, eP_eq]
    · refine .bind (a := callE back P) ?_ hg
      rw [hc]
      cases decide (p = some (back / 256)) with
      | true => exact .yes rfl (.val r2 (.now' (by rw [and255, eP_eq]; rfl)))
      | false => exact .no rfl (.now _)
  · have hc : callE back P = false := decide_eq_false (fun h => h2 h.1)
    rw [hc] at hg
    exact .bind (a := false) (.no (decide_eq_false (by omega)) (.now _)) (.bind (a := false) (.no rfl (.now _)) hg)
end Go.Proofs.YtofendipdfepoaaGreat.Tr

/- What an instruction leads to: the program's whole answer. No program in sight. -/
set_option linter.unusedVariables false
set_option maxRecDepth 100000
noncomputable section
namespace Go.Proofs.YtofendipdfepoaaGreat.Tr
open Go Go.Proofs.YtofendipdfepoaaGreat.Gp

def sizeV (m : Int) : Nat := ([0, 1, 1, 1, 2, 2, 2, 1, 1] : List Nat).getD m.toNat 0
theorem size_ev {m : Int} (h : 0 ≤ m ∧ m ≤ 8) : Ev (fun k => Size65 k m) ((sizeV m : Int), ()) := by
  have : m = 0 ∨ m = 1 ∨ m = 2 ∨ m = 3 ∨ m = 4 ∨ m = 5 ∨ m = 6 ∨ m = 7 ∨ m = 8 := by omega
  rcases this with rfl | rfl | rfl | rfl | rfl | rfl | rfl | rfl | rfl <;> exact .const rfl
theorem sizeV_le (m : Int) : sizeV m ≤ 2 := by
  unfold sizeV
  rw [List.getD_eq_getElem?_getD]
  cases h : ([0, 1, 1, 1, 2, 2, 2, 1, 1] : List Nat)[m.toNat]? with
  | none => decide
  | some x =>
    have := get_mem h
    simp only [List.mem_cons, List.not_mem_nil, or_false] at this
    show x ≤ 2
    omega
def backN (x : Ins) (addr : Int) : Nat := ((addr + (1 + (sizeV x.2.2.1 : Int))) % 65536).toNat
def pc1 (addr : Int) : Option Nat := some ((addr + 1) % 65536).toNat
def ends1 (code : Cod) (x : Ins) (addr : Int) (A : Rg) : List End := endsA code x.2.2.2 (setA A 7 (pc1 addr))
def wayA (code : Cod) (x : Ins) (addr : Int) (A : Rg) : Wy := (1 + (sizeV x.2.2.1 : Int), compI (sortI (toL (ends1 code x addr A))), openL (ends1 code x addr A), callL (backN x addr) (ends1 code x addr A))
theorem sort_ev {l : List Int} (h : l.length ≤ 1000) : Ev (fun k => Sort74 k () l) ((), sortI l) := .const (if_pos (by omega))
theorem comp_ev {l : List Int} (h : l.length ≤ 1000) : Ev (fun k => Compact75 k () l) ((), compI l) := .const (if_pos (by omega))
theorem leads_p {code : Cod} (hd : OkD code) {x : Ins} (hx : OkI x) {addr : Int} (ha : 0 ≤ addr ∧ addr < 65536) {A : Rg} (hA : Inv A) {r : Nums} (hr : RelP A r) :
    ∃ o, All2 RelE (ends1 code x addr A) o ∧ Ev (fun k => leads37 k code x addr r) ((wayA code x addr A, o, ()), ()) := by
  have hs := sizeV_le x.2.2.1
  have hv : ∀ n, pc1 addr = some n → n < 65536 := fun n hn => by unfold pc1 at hn; cases hn; omega
  have hset : RelP (setA A 7 (pc1 addr)) (r.set 7 (eP ((pc1 addr).map (· % 256)), if wdN 7 = true then eP ((pc1 addr).map (fun n => n / 256 % 256)) else 0)) := hr.put (by decide) rfl
  have e1 := set0_ev hr.len (i := 7) (by decide) hv
  have ep : eP (pc1 addr) = (addr + 1) % 65536 := by unfold pc1; show ((((addr + 1) % 65536).toNat : Nat) : Int) = _; omega
  rw [ep] at e1
  obtain ⟨o, ho, e2⟩ := ends_p hd hx.cyc (hA.set 7 (pc1 addr)) hset
  obtain ⟨hlen, hall⟩ := ends_ok (code := code) hx.cyc (hA.set 7 (pc1 addr))
  have hbk : backN x addr < 65536 := by unfold backN; omega
  have hback : (addr + (1 + (sizeV x.2.2.1 : Int))) % 65536 = (backN x addr : Int) := by unfold backN; omega
  have hw1 : w64 (addr + 1) = addr + 1 := w64_id (by omega) (by omega)
  have hw2 : w64 (1 + (sizeV x.2.2.1 : Int)) = 1 + (sizeV x.2.2.1 : Int) := w64_id (by omega) (by omega)
  have hw3 : w64 (addr + (1 + (sizeV x.2.2.1 : Int))) = addr + (1 + (sizeV x.2.2.1 : Int)) := w64_id (by omega) (by omega)
  refine ⟨o, ho, ?_⟩
  have hol := ho.len
  show Ev _ (((1 + (sizeV x.2.2.1 : Int), compI (sortI (toL (endsA code x.2.2.2 (setA A 7 (pc1 addr))))), openL (endsA code x.2.2.2 (setA A 7 (pc1 addr))), callL (backN x addr) (endsA code x.2.2.2 (setA A 7 (pc1 addr)))), o, ()), ())
  change All2 RelE (endsA code x.2.2.2 (setA A 7 (pc1 addr))) o at ho
  generalize endsA code x.2.2.2 (setA A 7 (pc1 addr)) = E at ho hol hlen hall
  have htl := toL_len E
  obtain ⟨y, hy, e3⟩ := Lp.countI (body := fun k => leads37.l0 k (((backN x addr : Nat) : Int), ()) (o, ())) E.length (fun (y : Lst) i => ((), (), i, (0, (), false, false), [], (1 + (sizeV x.2.2.1 : Int), (), y.1, y.2.1), y.2.2)) (fun y => ((), (), (0, (), false, false), [], (1 + (sizeV x.2.2.1 : Int), (), y.1, y.2.1), y.2.2))
    (fun i y => y = (openL (E.take i), callL (backN x addr) (E.take i), toL (E.take i)))
    (fun i y hi hy => by
      have hE : E[i]? = some E[i] := List.getElem?_eq_getElem hi
      obtain ⟨hinv, hpl⟩ := hall _ (get_mem hE)
      generalize E[i] = e at hE hinv hpl
      have hq : o[i]? = some o[i] := List.getElem?_eq_getElem (by rw [ho.len]; exact hi)
      obtain ⟨q1, q2⟩ := ho.at' i e _ hE hq
      have hil : i < o.length := get_lt hq
      generalize o[i] = z at hq q1 q2
      have hpc := wholeR_p q1 hinv (i := 7) (by decide)
      have htk := toL_len (E.take i)
      rw [List.length_take] at htk
      refine ⟨_, rfl, ?_⟩
      have t1 : openL (E.take (i + 1)) = (openL (E.take i) || (pcA e).isNone) := by
        unfold openL
        rw [List.take_add_one, hE, List.any_append]; simp
      have t2 : callL (backN x addr) (E.take (i + 1)) = (callL (backN x addr) (E.take i) || callE (backN x addr) e.2) := by
        unfold callL
        rw [List.take_add_one, hE, List.any_append]; simp
      have t3 : toL (E.take (i + 1)) = toL (E.take i) ++ pcL (pcA e) := by
        rw [List.take_add_one, hE, Option.toList_some, toL_snoc]
      rw [t1, t2, t3, hy]
      simp only [leads37.l0]
      have hw : w64 ((i : Int) + 1) = ((i + 1 : Nat) : Int) := w64_succ (by omega)
      have tail : ∀ (op : Bool) (to : List Int), Ev (fun k => Option.bind (cond (decide ((List.length z.2.2 : Int) ≥ 2))
            ((rd z.2.2 (w64 ((List.length z.2.2 : Int) - 2))).bind fun t63 =>
            some (t63 == (shrI .i64 ((backN x addr : Nat) : Int) 8)))
            (some false)) fun t68 =>
          Option.bind (cond t68
            ((rd z.2.2 (w64 ((List.length z.2.2 : Int) - 1))).bind fun t74 =>
            some (t74 == (ibits .and .i64 ((backN x addr : Nat) : Int) 255)))
            (some false)) fun t79 =>
          Option.bind
            (cond t79
              (some ((), (), ((0 : Int), (), false, false), ([] : List Int), (1 + (sizeV x.2.2.1 : Int), (), op, true), to))
              (some ((), (), (0, (), false, false), [], (1 + (sizeV x.2.2.1 : Int), (), op, callL (backN x addr) (E.take i)), to)) : Option (Unit × (Unit × ((Int × (Unit × (Bool × Bool))) × (List Int × ((Int × (Unit × (Bool × Bool))) × List Int)))))) fun ((_, _, o1_2, o2_2, o3_2, o4_2) : (Unit × (Unit × ((Int × (Unit × (Bool × Bool))) × (List Int × ((Int × (Unit × (Bool × Bool))) × List Int)))))) =>
          (some (Sum.inl ((), (), (w64 ((i : Int) + 1)), o1_2, o2_2, o3_2, o4_2)) : Option ((Unit × (Unit × (Int × ((Int × (Unit × (Bool × Bool))) × (List Int × ((Int × (Unit × (Bool × Bool))) × List Int)))))) ⊕ (Unit × (Unit × ((Int × (Unit × (Bool × Bool))) × (List Int × ((Int × (Unit × (Bool × Bool))) × List Int))))))))
          (.inl ((), (), ((i + 1 : Nat) : Int), (0, (), false, false), [], (1 + (sizeV x.2.2.1 : Int), (), op, callL (backN x addr) (E.take i) || callE (backN x addr) e.2), to)) := fun op to => by
        refine call_ev q2 hpl hbk ?_
        rw [hw]
        cases callE (backN x addr) e.2 with
        | true => rw [Bool.or_true]; exact .bind (.yes rfl (.now _)) (.now _)
        | false => rw [Bool.or_false]; exact .bind (.no rfl (.now _)) (.now _)
      refine .yes (decide_eq_true (by show (i : Int) < (o.length : Int); omega)) (.val (rd_some' hq) (.bind hpc ?_))
      cases hp : pcA e with
      | none =>
        have hp' : wholeA e.1 7 = none := hp
        rw [hp']
        refine .bind (a := ((), (), (), (0, (), false, false), [], (1 + (sizeV x.2.2.1 : Int), (), true, callL (backN x addr) (E.take i)), toL (E.take i), z)) (.yes rfl (.now _)) ?_
        have := tail true (toL (E.take i))
        rw [show (openL (E.take i) || (none : Option Nat).isNone) = true by simp, show pcL none = [] from rfl, List.append_nil]
        exact this
      | some n =>
        have hp' : wholeA e.1 7 = some n := hp
        rw [hp']
        refine .bind (a := ((), (), (), (0, (), false, false), [], (1 + (sizeV x.2.2.1 : Int), (), openL (E.take i), callL (backN x addr) (E.take i)), toL (E.take i) ++ [(n : Int)], z)) (.no (beq_false_of_ne (by show (n : Int) ≠ -1; omega)) (.val (a := ()) (if_pos (room_ok (by simp only [List.length_cons, List.length_nil]; omega))) (.now _))) ?_
        have := tail (openL (E.take i)) (toL (E.take i) ++ [(n : Int)])
        rw [show (openL (E.take i) || (some n).isNone) = openL (E.take i) by simp]
        exact this)
    (fun y _ => by
      simp only [leads37.l0]
      exact .no (decide_eq_false (by show ¬ ((E.length : Nat) : Int) < (o.length : Int); omega)) (.now _)) (b := (false, false, [])) rfl
  rw [List.take_length] at hy
  unfold leads37
  refine .bind (low16_ev _) ?_
  rw [hw1]
  refine .bind e1 (.bind (size_ev hx.mode) ?_)
  simp only [hw2, hw3]
  refine .bind (low16_ev _) ?_
  rw [hback]
  refine .bind e2 (.bind e3.ev ?_)
  rw [hy]
  exact .bind (sort_ev (by show (toL E).length ≤ 1000; omega)) (.bind (comp_ev (by show (sortI (toL E)).length ≤ 1000; rw [sortI_len]; omega)) (.now _))
end Go.Proofs.YtofendipdfepoaaGreat.Tr

/- What an instruction leads to: the program's Next. No program in sight. -/
set_option linter.unusedVariables false
set_option maxRecDepth 100000
noncomputable section
namespace Go.Proofs.YtofendipdfepoaaGreat.Tr
open Go Go.Proofs.YtofendipdfepoaaGreat.Gp

abbrev BgR := Ins × Int × Unit
def begunR (c : Cpu) (code : Cod) (addr : Int) : BgR := match atI code addr with
  | none => (none4, 19, ())
  | some op => match findI c (op : Int) with
    | none => (none4, 4, ())
    | some x => match atI code (addr + (sizeV x.2.2.1 : Int)) with
      | none => (none4, 13, ())
      | some _ => (x, 0, ())
theorem atI_in {code : Cod} (hd : OkD code) {x : Int} {n : Nat} (h : atI code x = some n) : 0 ≤ x ∧ x < 65536 := by
  have := hd.base
  unfold atI at h
  split at h
  · omega
  · cases h
theorem findI_mem {c : Cpu} {op : Int} {x : Ins} (h : findI c op = some x) : x ∈ c.2.1 := List.mem_of_find?_eq_some h
theorem eP_ne {n : Nat} : (eP (some n) == (-1)) = false := beq_false_of_ne (by show (n : Int) ≠ -1; omega)
theorem begun_p {c : Cpu} (hc : Wc c) {code : Cod} (hp : OkP c code) (hd : OkD code) {addr : Int} (ha : -9223372036854775808 ≤ addr ∧ addr ≤ 9223372036854775807) : Ev (fun k => begun33 k c code addr) (begunR c code addr, ()) := by
  cases h1 : atI code addr with
  | none =>
    have eB : begunR c code addr = (none4, 19, ()) := by unfold begunR; rw [h1]
    have e1 := at_ev hd ha
    rw [h1] at e1
    rw [eB]
    unfold begun33
    exact .bind e1 (.yes rfl (.now _))
  | some op =>
    have e1 := at_ev hd ha
    rw [h1] at e1
    have hf := find_ev hc (op : Int)
    cases h2 : findI c (op : Int) with
    | none =>
      have eB : begunR c code addr = (none4, 4, ()) := by unfold begunR; rw [h1]; simp only [h2]
      have eF : findR c (op : Int) = (none4, false, ()) := by unfold findR; rw [h2]
      rw [eF] at hf
      rw [eB]
      unfold begun33
      exact .bind e1 (.no eP_ne (.bind hf (.yes rfl (.now _))))
    | some x =>
      have eF : findR c (op : Int) = (x, true, ()) := by unfold findR; rw [h2]
      rw [eF] at hf
      have hx := hp.ins x (findI_mem h2)
      have hin := atI_in hd h1
      have hs := sizeV_le x.2.2.1
      have hw : w64 (addr + (sizeV x.2.2.1 : Int)) = addr + (sizeV x.2.2.1 : Int) := w64_id (by omega) (by omega)
      have e3 := at_ev hd (x := addr + (sizeV x.2.2.1 : Int)) (by omega)
      rw [← hw] at e3
      unfold begun33
      refine .bind e1 (.no eP_ne (.bind hf (.no rfl (.bind (size_ev hx.mode) (.bind e3 ?_)))))
      rw [hw]
      cases h3 : atI code (addr + (sizeV x.2.2.1 : Int)) with
      | none =>
        have eB : begunR c code addr = (none4, 13, ()) := by unfold begunR; rw [h1]; simp only [h2]; rw [h3]
        rw [eB]
        exact .yes rfl (.now _)
      | some n =>
        have eB : begunR c code addr = (x, 0, ()) := by unfold begunR; rw [h1]; simp only [h2]; rw [h3]
        rw [eB]
        exact .no eP_ne (.now _)
theorem begun_ok {c : Cpu} {code : Cod} (hp : OkP c code) (hd : OkD code) {addr : Int} (h : (begunR c code addr).2.1 = 0) : OkI (begunR c code addr).1 ∧ 0 ≤ addr ∧ addr < 65536 := by
  unfold begunR at h ⊢
  cases h1 : atI code addr with
  | none => rw [h1] at h; cases h
  | some op =>
    rw [h1] at h
    have hin := atI_in hd h1
    cases h2 : findI c (op : Int) with
    | none => simp only [h2] at h; cases h
    | some x =>
      simp only [h2] at h ⊢
      cases h3 : atI code (addr + (sizeV x.2.2.1 : Int)) with
      | none => rw [h3] at h; cases h
      | some n => exact ⟨hp.ins x (findI_mem h2), hin⟩
def zeroW : Wy := (0, [], false, false)
def nextR (c : Cpu) (code : Cod) (addr : Int) : Wy × Int × Unit := if (begunR c code addr).2.1 ≠ 0 then (zeroW, (begunR c code addr).2.1, ()) else (wayA code (begunR c code addr).1 addr A0, 0, ())
theorem next_p {c : Cpu} (hc : Wc c) {code : Cod} (hp : OkP c code) (hd : OkD code) {addr : Int} (ha : -9223372036854775808 ≤ addr ∧ addr ≤ 9223372036854775807) (h0 : Ev (fun k => Check43 k c code) (0, ())) : Ev (fun k => Next19 k c code addr) (nextR c code addr, ()) := by
  have hb := begun_p hc hp hd ha
  have hbo := begun_ok hp hd (addr := addr)
  unfold Next19 nextR
  refine .bind h0 (.no rfl (.bind hb ?_))
  generalize begunR c code addr = b at hbo
  by_cases h : b.2.1 ≠ 0
  · rw [if_pos h]
    exact .yes (bne_iff_ne.2 h) (.now _)
  · rw [if_neg h]
    have h : b.2.1 = 0 := by omega
    obtain ⟨hx, h1⟩ := hbo h
    obtain ⟨r, hr, en⟩ := none_p
    obtain ⟨o, ho, el⟩ := leads_p hd hx h1 inv0 hr
    refine .no (by rw [h]; rfl) (.bind (a := ((), wayA code b.1 addr A0, 0, (), false, false)) ?_ (.now _))
    exact Ev.agr (.bind en (Ev.agr (.bind el (.now _)) (.bind el (.now _)))) (.bind en (.bind el (.now _)))
theorem next_bad {c : Cpu} {code : Cod} {addr e : Int} (he : e ≠ 0) (h0 : Ev (fun k => Check43 k c code) (e, ())) : Ev (fun k => Next19 k c code addr) ((zeroW, e, ()), ()) := by
  unfold Next19
  exact .bind h0 (.yes (bne_iff_ne.2 he) (.now _))
end Go.Proofs.YtofendipdfepoaaGreat.Tr

/- Registers that fit, and what flags do. No program in sight. -/
set_option linter.unusedVariables false
set_option maxRecDepth 100000
noncomputable section
namespace Go.Proofs.YtofendipdfepoaaGreat.Tr
open Go Go.Proofs.YtofendipdfepoaaGreat.Gp

def wB (i : Nat) : Int := if wdN i = true then 65536 else 256
theorem wB_cases (i : Nat) : (wdN i = true ∧ wB i = 65536) ∨ (wdN i = false ∧ wB i = 256) := by
  unfold wB
  cases h : wdN i with
  | true => exact .inl ⟨rfl, if_pos rfl⟩
  | false => exact .inr ⟨rfl, if_neg (by decide)⟩
def fitL (r : List Int) : List Int := (List.range 9).map (fun i => r.getD i 0 % wB i)
theorem fitL_len (r : List Int) : (fitL r).length = 9 := by simp [fitL]
theorem fitL_get (r : List Int) {i : Nat} (h : i < 9) : (fitL r).getD i 0 = r.getD i 0 % wB i := by
  unfold fitL
  rw [List.getD_eq_getElem?_getD, List.getElem?_map, List.getElem?_range h]; rfl
structure FitR (r : List Int) : Prop where
  len : r.length = 9
  ok : ∀ i, i < 9 → 0 ≤ r.getD i 0 ∧ r.getD i 0 < wB i
theorem fitL_ok (r : List Int) : FitR (fitL r) := by
  refine ⟨fitL_len r, fun i h => ?_⟩
  rw [fitL_get r h]
  rcases wB_cases i with ⟨_, e⟩ | ⟨_, e⟩ <;> rw [e] <;> omega
theorem fitL_in (r : List Int) {i : Nat} (h : i < 9) : 0 ≤ (fitL r).getD i 0 ∧ (fitL r).getD i 0 < 65536 := by
  have := (fitL_ok r).ok i h
  rcases wB_cases i with ⟨_, e⟩ | ⟨_, e⟩ <;> rw [e] at this <;> omega
theorem list_ext9 {a b : List Int} (ha : a.length = 9) (hb : b.length = 9) (h : ∀ i, i < 9 → a.getD i 0 = b.getD i 0) : a = b := by
  refine List.ext_getElem (by omega) fun i h1 h2 => ?_
  have := h i (by omega)
  rw [List.getD_eq_getElem?_getD, List.getD_eq_getElem?_getD, List.getElem?_eq_getElem h1, List.getElem?_eq_getElem h2] at this
  exact this
theorem fitL_id {r : List Int} (h : FitR r) : fitL r = r := by
  refine list_ext9 (fitL_len r) h.len fun i hi => ?_
  rw [fitL_get r hi]
  have := h.ok i hi
  rcases wB_cases i with ⟨_, e⟩ | ⟨_, e⟩ <;> rw [e] at this ⊢ <;> omega
theorem bits_ev {i : Int} {b : Bool} (h : wd i = b) : Ev (fun k => bits59 k i) ((if b = true then 16 else 8), ()) := by
  unfold bits59
  refine .bind (wide_ev i) ?_
  cases b with
  | true => exact .yes h (.now _)
  | false => exact .no h (.now _)
theorem rd9 {r : List Int} (hl : r.length = 9) {i : Int} (h : 0 ≤ i ∧ i < 9) : rd r i = some (r.getD i.toNat 0) := by
  have hlt : i.toNat < r.length := by omega
  rw [rd_at (i := i.toNat) (by omega) (List.getElem?_eq_getElem hlt), List.getD_eq_getElem?_getD, List.getElem?_eq_getElem hlt]; rfl
theorem fit_ev {r : List Int} (hl : r.length = 9) : Ev (fun k => Fit27 k r) (fitL r, ()) := by
  have := Lp.count (body := fun k => Fit27.l0 k) 9 (fun (b : List Int) i => ((), (), i, b, (List.replicate 9 0 : List Int))) (fun b i => b.set i (b.getD i 0 % wB i)) (fun b => ((), (), b, (List.replicate 9 0 : List Int))) (fun _ b => b.length = 9)
    (fun i b hi hb => by
      refine ⟨?_, by rw [List.length_set]; exact hb⟩
      have hin : 0 ≤ (i : Int) ∧ (i : Int) < 9 := by omega
      have hr := rd9 hb hin
      rw [Int.toNat_natCast] at hr
      simp only [Fit27.l0]
      rcases wB_cases i with ⟨e1, e2⟩ | ⟨e1, e2⟩
      · refine .yes (decide_eq_true (by omega)) (.val (if_pos hin) (.val hr (.bind (bits_ev (i := (i : Int)) e1) (.bind (low16_ev _) (.val (if_pos hin) (.val hr (.now' ?_)))))))
        rw [w64_id (by omega) (by omega), e2, Int.toNat_natCast]
      · refine .yes (decide_eq_true (by omega)) (.val (if_pos hin) (.val hr (.bind (bits_ev (i := (i : Int)) e1) (.bind (low8_ev _) (.val (if_pos hin) (.val hr (.now' ?_)))))))
        rw [w64_id (by omega) (by omega), e2, Int.toNat_natCast]) (fun b hb => by
      simp only [Fit27.l0]
      exact .no (by simp) (.now _)) (b := r) hl
  have e : (List.range 9).foldl (fun b i => b.set i (b.getD i 0 % wB i)) r = fitL r := by
    match r, hl with
    | [a0, a1, a2, a3, a4, a5, a6, a7, a8], _ => rfl
  rw [e] at this
  unfold Fit27
  exact .bind this.ev (.now _)
theorem index_ev {i : Int} (h : 0 ≤ i ∧ i < 9) : Ev (fun k => index103 k i) (i, ()) := by
  unfold index103
  refine .now' ?_
  congr 1
  unfold mxI mnI
  split <;> split <;> omega
/-- the same but for some places -/
def Fx (S : List Nat) (g q : List Int) : Prop := q.length = 9 ∧ ∀ i, i ∉ S → q.getD i 0 = g.getD i 0
theorem getD_set {l : List Int} {i j : Nat} {x : Int} : (l.set i x).getD j 0 = if i = j ∧ i < l.length then x else l.getD j 0 := by
  rw [List.getD_eq_getElem?_getD, List.getD_eq_getElem?_getD, List.getElem?_set]
  by_cases h : i = j
  · subst h
    by_cases h2 : i < l.length
    · simp [h2]
    · simp [h2]
  · simp [h]
theorem Fx.refl {S : List Nat} {g : List Int} (h : g.length = 9) : Fx S g g := ⟨h, fun _ _ => rfl⟩
theorem Fx.set {S : List Nat} {g q : List Int} (h : Fx S g q) {i : Nat} (hi : i ∈ S) (x : Int) : Fx S g (q.set i x) := by
  refine ⟨by rw [List.length_set]; exact h.1, fun j hj => ?_⟩
  have hn : ¬ (i = j ∧ i < q.length) := fun e => hj (e.1 ▸ hi)
  rw [getD_set, if_neg hn]
  exact h.2 j hj
theorem Fx.trans {S T : List Nat} {g q p : List Int} (h : Fx S g q) (h2 : Fx T q p) (hT : ∀ i ∈ T, i ∈ S) : Fx S g p :=
  ⟨h2.1, fun i hi => (h2.2 i (fun hx => hi (hT i hx))).trans (h.2 i hi)⟩
theorem Fx.wider {S T : List Nat} {g q : List Int} (h : Fx S g q) (hT : ∀ i ∈ S, i ∈ T) : Fx T g q := ⟨h.1, fun i hi => h.2 i (fun hx => hi (hT i hx))⟩
theorem flag_t {r : List Int} (hl : r.length = 9) (f : Int) (on : Bool) : Tot (fun k => flag107 k r f on) (fun v => Fx [4] r v.1) := by
  have h4 : (0 : Int) ≤ 4 ∧ (4 : Int) < 9 := by decide
  have hr := rd9 hl h4
  have hs : ∀ x, rd (r.set (Int.toNat 4) x) 4 = some ((r.set (Int.toNat 4) x).getD 4 0) := fun x => rd9 (by rw [List.length_set]; exact hl) h4
  have b0 : Fx [4] r r := .refl hl
  unfold flag107
  have b1 : ∀ x, Fx [4] r (r.set (Int.toNat 4) x) := fun x => b0.set (List.mem_cons_self ..) x
  have b2 : ∀ x y, Fx [4] r ((r.set (Int.toNat 4) x).set (Int.toNat 4) y) := fun x y => (b1 x).set (List.mem_cons_self ..) y
  refine .ask (by decide) (.val hr (.ask (by decide) (.val hr (.bind (P := fun v => Fx [4] r v.2.2.1) (.cnd (fun _ => .ask (by decide) (.val (hs _) (.ask (by decide) (.val (hs _) (.ret (b2 _ _)))))) (fun _ => .ret (b1 _))) fun v hv => ?_))))
  obtain ⟨v1, v2, v3, v4⟩ := v
  exact .ret hv
theorem nz_t {r : List Int} (hl : r.length = 9) (n : Int) : Tot (fun k => nz104 k r n) (fun v => Fx [4] r v.1) := by
  unfold nz104
  exact .bind (flag_t hl _ _) fun a ha => .bind (flag_t ha.1 _ _) fun b hb => .ret (ha.trans hb (fun i h => h))
theorem result_t {r : List Int} (hl : r.length = 9) {to : Int} (ht : 0 ≤ to ∧ to < 9) (n c : Int) : Tot (fun k => result142 k r to n c) (fun v => Fx [4, to.toNat] r v.1) := by
  unfold result142
  refine .bind (nz_t hl n) fun a ha => .bind (flag_t ha.1 _ _) fun b hb => .ask ht (.val (rd9 hb.1 ht) (.ret ?_))
  exact ((ha.trans hb (fun i h => h)).wider (fun i h => by simp at h; simp [h])).set (by simp) _
theorem carry_t {r : List Int} (hl : r.length = 9) : Tot (fun k => carry141 k r) (fun _ => True) := by
  unfold carry141
  exact .val (rd9 hl (i := 4) (by decide)) (.ret trivial)
theorem width_t (bits : Int) : Tot (fun k => width56 k bits) (fun v => 0 ≤ v.1 ∧ v.1 ≤ 62) := by
  unfold width56
  exact .ret (mm_bounds 0 62 bits (by decide))
theorem low_t (n bits : Int) : Tot (fun k => Low25 k n bits) (fun _ => True) := by
  unfold Low25
  exact .bind (width_t bits) fun a ha => .nneg ha.1 (.ret trivial)
theorem add_t (a b c d : Int) : Tot (fun k => Add140 k a b c d) (fun _ => True) := by
  unfold Add140
  exact .bind (width_t d) fun w hw => .bind (low_t _ _) fun x _ => .bind (low_t _ _) fun y _ => .nneg hw.1 (.bind (low_t _ _) fun _ _ => .ret trivial)
theorem sub_t (a b c d : Int) : Tot (fun k => Sub143 k a b c d) (fun _ => True) := by
  unfold Sub143
  exact .bind (width_t d) fun w hw => .bind (low_t _ _) fun x _ => .bind (low_t _ _) fun y _ => .cnd (fun _ => .nneg hw.1 (.ret trivial)) (fun _ => .ret trivial)
theorem rol_t (a b c : Int) : Tot (fun k => Rol144 k a b c) (fun _ => True) := by
  unfold Rol144
  exact .bind (width_t c) fun w hw => .bind (low_t _ _) fun x _ => .nneg hw.1 (.bind (low_t _ _) fun _ _ => .ret trivial)
theorem ror_t (a b c : Int) : Tot (fun k => Ror145 k a b c) (fun _ => True) := by
  unfold Ror145
  exact .bind (width_t c) fun w hw => .nneg hw.1 (.bind (low_t _ _) fun x _ => .ret trivial)
theorem shift_t {r : List Int} (hl : r.length = 9) {to : Int} (ht : 0 ≤ to ∧ to < 9) (d : Int) : Tot (fun k => shift106 k d to r) (fun v => Fx [4, to.toNat] r v.1) := by
  unfold shift106
  refine .bind (carry_t hl) fun a _ => .bind (P := fun v => v.1 = r) (.cnd (fun _ => .ret rfl) (fun _ => .ret rfl)) fun b hb => ?_
  obtain ⟨b1, b2, b3, b4⟩ := b
  have hb : b1 = r := hb
  subst hb
  exact .cnd (fun _ => .val (rd9 hl ht) (.bind (rol_t _ _ _) fun x _ => .bind (result_t hl ht _ _) fun y hy => .ret hy)) (fun _ => .val (rd9 hl ht) (.bind (ror_t _ _ _) fun x _ => .bind (result_t hl ht _ _) fun y hy => .ret hy))
theorem binary_t {r : List Int} (hl : r.length = 9) {to fr : Int} (ht : 0 ≤ to ∧ to < 9) (hf : 0 ≤ fr ∧ fr < 9) (d : Int) : Tot (fun k => binary105 k d to fr r) (fun v => Fx [4, to.toNat] r v.1 ∧ (d = 6 → Fx [4] r v.1)) := by
  unfold binary105
  refine .ask ht (.val (rd9 hl ht) (.ask hf (.val (rd9 hl hf) (.bind (low_t _ _) fun a _ => .bind (low_t _ _) fun b _ => .cnd (fun h4 => ?_) (fun h4 => .cnd (fun h5 => ?_) (fun h5 => .cnd (fun h6 => ?_) (fun h6 => ?_)))))))
  · have h4 : d = 4 := by simpa using h4
    exact .bind (carry_t hl) fun c _ => .bind (add_t _ _ _ _) fun x _ => .bind (result_t hl ht _ _) fun y hy => .ret ⟨hy, fun h => by omega⟩
  · have h5 : d = 5 := by simpa using h5
    exact .bind (carry_t hl) fun c _ => .bind (sub_t _ _ _ _) fun x _ => .bind (result_t hl ht _ _) fun y hy => .ret ⟨hy, fun h => by omega⟩
  · refine .bind (sub_t _ _ _ _) fun x _ => .bind (nz_t hl _) fun y hy => .bind (flag_t hy.1 _ _) fun z hz => .ret ?_
    have := hy.trans hz (fun i h => h)
    exact ⟨this.wider (fun i h => by simp at h; simp [h]), fun _ => this⟩
  · have h6 : d ≠ 6 := by simpa using h6
    refine .bind (P := fun v => v.2.2.2.1 = r) (.cnd (fun _ => .ret rfl) (fun _ => .bind (P := fun v => v.2.2.2.1 = r) (.cnd (fun _ => .ret rfl) (fun _ => .ret rfl)) fun v hv => .ret hv)) fun v hv => ?_
    obtain ⟨v1, v2, v3, v4, v5⟩ := v
    have hv : v4 = r := hv
    subst hv
    refine .bind (nz_t hl _) fun y hy => .ask ht (.val (rd9 hy.1 ht) (.ret ⟨?_, fun h => absurd h h6⟩))
    exact (hy.wider (fun i h => by simp at h; simp [h])).set (by simp) _
end Go.Proofs.YtofendipdfepoaaGreat.Tr

/- What a step does to registers: the program's, kind by kind. Printed by mkdo.py. No program in sight. -/
set_option linter.unusedVariables false
set_option maxRecDepth 100000
noncomputable section
namespace Go.Proofs.YtofendipdfepoaaGreat.Tr
open Go Go.Proofs.YtofendipdfepoaaGreat.Gp
theorem do_0 {to fr n : Int} {r : List Int} (hl : r.length = 9) (ht : 0 ≤ to ∧ to < 9) (hf : 0 ≤ fr ∧ fr < 9) : Ev (fun k => Do61 k ((0 : Int), to, fr, n) r) ((fitL (fitL r), false, ()), ()) := by
  have hg := fitL_len r
  have hgt := rd9 hg ht
  have hgf := rd9 hg hf
  unfold Do61
  refine .bind (index_ev ht) (.bind (index_ev hf) (.bind (fit_ev hl) ?_))
  exact .joinL (S := Unit) (.no rfl (.joinL (S := Unit) (.no rfl (.joinL (S := Unit) (.no rfl (.val (a := (((0 : Int), to, fr, n), (), (), false, fitL r, List.replicate 9 0)) rfl (.joinL (S := Unit) (.no rfl (.val (a := (((0 : Int), to, fr, n), (), (), false, fitL r, List.replicate 9 0)) rfl (.joinL (S := Unit) (.no rfl (.val (a := (((0 : Int), to, fr, n), (), (), false, fitL r, List.replicate 9 0)) rfl (.joinL (S := Unit) (.no rfl (.val (a := (((0 : Int), to, fr, n), (), (), false, fitL r, List.replicate 9 0)) rfl (.joinL (S := Unit) (.no rfl (.val (a := (((0 : Int), to, fr, n), (), (), false, fitL r, List.replicate 9 0)) rfl (.joinL (S := Unit) (.no rfl (.val (a := (((0 : Int), to, fr, n), (), (), false, fitL r, List.replicate 9 0)) rfl (.joinL (S := Unit) (.no rfl (.joinL (S := Unit) (.no rfl (.joinL (S := Unit) (.no rfl (.no rfl (.now _))) (.now _))) (.now _))) (.now _)))) (.now _)))) (.now _)))) (.now _)))) (.now _)))) (.now _)))) (.now _))) (.now _))) (.bind (fit_ev (by exact hg)) (.now _))
theorem do_1 {to fr n : Int} {r : List Int} (hl : r.length = 9) (ht : 0 ≤ to ∧ to < 9) (hf : 0 ≤ fr ∧ fr < 9) : Ev (fun k => Do61 k ((1 : Int), to, fr, n) r) ((fitL ((fitL r).set to.toNat ((fitL r).getD fr.toNat 0)), false, ()), ()) := by
  have hg := fitL_len r
  have hgt := rd9 hg ht
  have hgf := rd9 hg hf
  unfold Do61
  refine .bind (index_ev ht) (.bind (index_ev hf) (.bind (fit_ev hl) ?_))
  exact .joinL (S := Unit) (.yes rfl (.val (if_pos hf) (.val hgf (.val (if_pos ht) (.val hgt (.now _)))))) (.bind (fit_ev (by rw [List.length_set]; exact hg)) (.now _))
theorem do_2 {to fr n : Int} {r : List Int} (hl : r.length = 9) (ht : 0 ≤ to ∧ to < 9) (hf : 0 ≤ fr ∧ fr < 9) : Ev (fun k => Do61 k ((2 : Int), to, fr, n) r) ((fitL ((fitL r).set to.toNat n), false, ()), ()) := by
  have hg := fitL_len r
  have hgt := rd9 hg ht
  have hgf := rd9 hg hf
  unfold Do61
  refine .bind (index_ev ht) (.bind (index_ev hf) (.bind (fit_ev hl) ?_))
  exact .joinL (S := Unit) (.no rfl (.joinL (S := Unit) (.yes rfl (.val (if_pos ht) (.val hgt (.now _)))) (.now _))) (.bind (fit_ev (by rw [List.length_set]; exact hg)) (.now _))
theorem do_3 {to fr n : Int} {r : List Int} (hl : r.length = 9) (ht : 0 ≤ to ∧ to < 9) (hf : 0 ≤ fr ∧ fr < 9) {q : List Int} (hq : q.length = 9) (hB : Ev (fun k => nz104 k (fitL r) ((fitL r).getD to.toNat 0 % 256)) (q, ())) : Ev (fun k => Do61 k ((3 : Int), to, fr, n) r) ((fitL (q), false, ()), ()) := by
  have hg := fitL_len r
  have hgt := rd9 hg ht
  have hgf := rd9 hg hf
  unfold Do61
  refine .bind (index_ev ht) (.bind (index_ev hf) (.bind (fit_ev hl) ?_))
  exact .joinL (S := Unit) (.no rfl (.joinL (S := Unit) (.no rfl (.joinL (S := Unit) (.yes rfl (.val (if_pos ht) (.val hgt (.bind (low8_ev _) (.bind hB (.now _)))))) (.now _))) (.now _))) (.bind (fit_ev (by exact hq)) (.now _))
theorem do_4 {to fr n : Int} {r : List Int} (hl : r.length = 9) (ht : 0 ≤ to ∧ to < 9) (hf : 0 ≤ fr ∧ fr < 9) {q : List Int} (hq : q.length = 9) (hB : Ev (fun k => binary105 k (4 : Int) to fr (fitL r)) (q, ())) : Ev (fun k => Do61 k ((4 : Int), to, fr, n) r) ((fitL (q), false, ()), ()) := by
  have hg := fitL_len r
  have hgt := rd9 hg ht
  have hgf := rd9 hg hf
  unfold Do61
  refine .bind (index_ev ht) (.bind (index_ev hf) (.bind (fit_ev hl) ?_))
  exact .joinL (S := Unit) (.no rfl (.joinL (S := Unit) (.no rfl (.joinL (S := Unit) (.no rfl (.val (a := (((4 : Int), to, fr, n), (), (), true, fitL r, List.replicate 9 0)) rfl (.joinL (S := Unit) (.yes rfl (.bind hB (.now _))) (.now _)))) (.now _))) (.now _))) (.bind (fit_ev (by exact hq)) (.now _))
theorem do_5 {to fr n : Int} {r : List Int} (hl : r.length = 9) (ht : 0 ≤ to ∧ to < 9) (hf : 0 ≤ fr ∧ fr < 9) {q : List Int} (hq : q.length = 9) (hB : Ev (fun k => binary105 k (5 : Int) to fr (fitL r)) (q, ())) : Ev (fun k => Do61 k ((5 : Int), to, fr, n) r) ((fitL (q), false, ()), ()) := by
  have hg := fitL_len r
  have hgt := rd9 hg ht
  have hgf := rd9 hg hf
  unfold Do61
  refine .bind (index_ev ht) (.bind (index_ev hf) (.bind (fit_ev hl) ?_))
  exact .joinL (S := Unit) (.no rfl (.joinL (S := Unit) (.no rfl (.joinL (S := Unit) (.no rfl (.val (a := (((5 : Int), to, fr, n), (), (), true, fitL r, List.replicate 9 0)) rfl (.joinL (S := Unit) (.yes rfl (.bind hB (.now _))) (.now _)))) (.now _))) (.now _))) (.bind (fit_ev (by exact hq)) (.now _))
theorem do_6 {to fr n : Int} {r : List Int} (hl : r.length = 9) (ht : 0 ≤ to ∧ to < 9) (hf : 0 ≤ fr ∧ fr < 9) {q : List Int} (hq : q.length = 9) (hB : Ev (fun k => binary105 k (6 : Int) to fr (fitL r)) (q, ())) : Ev (fun k => Do61 k ((6 : Int), to, fr, n) r) ((fitL (q), false, ()), ()) := by
  have hg := fitL_len r
  have hgt := rd9 hg ht
  have hgf := rd9 hg hf
  unfold Do61
  refine .bind (index_ev ht) (.bind (index_ev hf) (.bind (fit_ev hl) ?_))
  exact .joinL (S := Unit) (.no rfl (.joinL (S := Unit) (.no rfl (.joinL (S := Unit) (.no rfl (.val (a := (((6 : Int), to, fr, n), (), (), true, fitL r, List.replicate 9 0)) rfl (.joinL (S := Unit) (.yes rfl (.bind hB (.now _))) (.now _)))) (.now _))) (.now _))) (.bind (fit_ev (by exact hq)) (.now _))
theorem do_7 {to fr n : Int} {r : List Int} (hl : r.length = 9) (ht : 0 ≤ to ∧ to < 9) (hf : 0 ≤ fr ∧ fr < 9) {q : List Int} (hq : q.length = 9) (hB : Ev (fun k => binary105 k (7 : Int) to fr (fitL r)) (q, ())) : Ev (fun k => Do61 k ((7 : Int), to, fr, n) r) ((fitL (q), false, ()), ()) := by
  have hg := fitL_len r
  have hgt := rd9 hg ht
  have hgf := rd9 hg hf
  unfold Do61
  refine .bind (index_ev ht) (.bind (index_ev hf) (.bind (fit_ev hl) ?_))
  exact .joinL (S := Unit) (.no rfl (.joinL (S := Unit) (.no rfl (.joinL (S := Unit) (.no rfl (.val (a := (((7 : Int), to, fr, n), (), (), true, fitL r, List.replicate 9 0)) rfl (.joinL (S := Unit) (.yes rfl (.bind hB (.now _))) (.now _)))) (.now _))) (.now _))) (.bind (fit_ev (by exact hq)) (.now _))
theorem do_8 {to fr n : Int} {r : List Int} (hl : r.length = 9) (ht : 0 ≤ to ∧ to < 9) (hf : 0 ≤ fr ∧ fr < 9) {q : List Int} (hq : q.length = 9) (hB : Ev (fun k => binary105 k (8 : Int) to fr (fitL r)) (q, ())) : Ev (fun k => Do61 k ((8 : Int), to, fr, n) r) ((fitL (q), false, ()), ()) := by
  have hg := fitL_len r
  have hgt := rd9 hg ht
  have hgf := rd9 hg hf
  unfold Do61
  refine .bind (index_ev ht) (.bind (index_ev hf) (.bind (fit_ev hl) ?_))
  exact .joinL (S := Unit) (.no rfl (.joinL (S := Unit) (.no rfl (.joinL (S := Unit) (.no rfl (.val (a := (((8 : Int), to, fr, n), (), (), true, fitL r, List.replicate 9 0)) rfl (.joinL (S := Unit) (.yes rfl (.bind hB (.now _))) (.now _)))) (.now _))) (.now _))) (.bind (fit_ev (by exact hq)) (.now _))
theorem do_9 {to fr n : Int} {r : List Int} (hl : r.length = 9) (ht : 0 ≤ to ∧ to < 9) (hf : 0 ≤ fr ∧ fr < 9) {q : List Int} (hq : q.length = 9) (hB : Ev (fun k => binary105 k (9 : Int) to fr (fitL r)) (q, ())) : Ev (fun k => Do61 k ((9 : Int), to, fr, n) r) ((fitL (q), false, ()), ()) := by
  have hg := fitL_len r
  have hgt := rd9 hg ht
  have hgf := rd9 hg hf
  unfold Do61
  refine .bind (index_ev ht) (.bind (index_ev hf) (.bind (fit_ev hl) ?_))
  exact .joinL (S := Unit) (.no rfl (.joinL (S := Unit) (.no rfl (.joinL (S := Unit) (.no rfl (.val (a := (((9 : Int), to, fr, n), (), (), true, fitL r, List.replicate 9 0)) rfl (.joinL (S := Unit) (.yes rfl (.bind hB (.now _))) (.now _)))) (.now _))) (.now _))) (.bind (fit_ev (by exact hq)) (.now _))
theorem do_12 {to fr n : Int} {r : List Int} (hl : r.length = 9) (ht : 0 ≤ to ∧ to < 9) (hf : 0 ≤ fr ∧ fr < 9) {q : List Int} (hq : q.length = 9) (hB : Ev (fun k => shift106 k (12 : Int) to (fitL r)) (q, ())) : Ev (fun k => Do61 k ((12 : Int), to, fr, n) r) ((fitL (q), false, ()), ()) := by
  have hg := fitL_len r
  have hgt := rd9 hg ht
  have hgf := rd9 hg hf
  unfold Do61
  refine .bind (index_ev ht) (.bind (index_ev hf) (.bind (fit_ev hl) ?_))
  exact .joinL (S := Unit) (.no rfl (.joinL (S := Unit) (.no rfl (.joinL (S := Unit) (.no rfl (.val (a := (((12 : Int), to, fr, n), (), (), false, fitL r, List.replicate 9 0)) rfl (.joinL (S := Unit) (.no rfl (.val (a := (((12 : Int), to, fr, n), (), (), false, fitL r, List.replicate 9 0)) rfl (.joinL (S := Unit) (.no rfl (.val (a := (((12 : Int), to, fr, n), (), (), true, fitL r, List.replicate 9 0)) rfl (.joinL (S := Unit) (.yes rfl (.bind hB (.now _))) (.now _)))) (.now _)))) (.now _)))) (.now _))) (.now _))) (.bind (fit_ev (by exact hq)) (.now _))
theorem do_13 {to fr n : Int} {r : List Int} (hl : r.length = 9) (ht : 0 ≤ to ∧ to < 9) (hf : 0 ≤ fr ∧ fr < 9) {q : List Int} (hq : q.length = 9) (hB : Ev (fun k => shift106 k (13 : Int) to (fitL r)) (q, ())) : Ev (fun k => Do61 k ((13 : Int), to, fr, n) r) ((fitL (q), false, ()), ()) := by
  have hg := fitL_len r
  have hgt := rd9 hg ht
  have hgf := rd9 hg hf
  unfold Do61
  refine .bind (index_ev ht) (.bind (index_ev hf) (.bind (fit_ev hl) ?_))
  exact .joinL (S := Unit) (.no rfl (.joinL (S := Unit) (.no rfl (.joinL (S := Unit) (.no rfl (.val (a := (((13 : Int), to, fr, n), (), (), false, fitL r, List.replicate 9 0)) rfl (.joinL (S := Unit) (.no rfl (.val (a := (((13 : Int), to, fr, n), (), (), false, fitL r, List.replicate 9 0)) rfl (.joinL (S := Unit) (.no rfl (.val (a := (((13 : Int), to, fr, n), (), (), true, fitL r, List.replicate 9 0)) rfl (.joinL (S := Unit) (.yes rfl (.bind hB (.now _))) (.now _)))) (.now _)))) (.now _)))) (.now _))) (.now _))) (.bind (fit_ev (by exact hq)) (.now _))
theorem do_14 {to fr n : Int} {r : List Int} (hl : r.length = 9) (ht : 0 ≤ to ∧ to < 9) (hf : 0 ≤ fr ∧ fr < 9) {q : List Int} (hq : q.length = 9) (hB : Ev (fun k => shift106 k (14 : Int) to (fitL r)) (q, ())) : Ev (fun k => Do61 k ((14 : Int), to, fr, n) r) ((fitL (q), false, ()), ()) := by
  have hg := fitL_len r
  have hgt := rd9 hg ht
  have hgf := rd9 hg hf
  unfold Do61
  refine .bind (index_ev ht) (.bind (index_ev hf) (.bind (fit_ev hl) ?_))
  exact .joinL (S := Unit) (.no rfl (.joinL (S := Unit) (.no rfl (.joinL (S := Unit) (.no rfl (.val (a := (((14 : Int), to, fr, n), (), (), false, fitL r, List.replicate 9 0)) rfl (.joinL (S := Unit) (.no rfl (.val (a := (((14 : Int), to, fr, n), (), (), false, fitL r, List.replicate 9 0)) rfl (.joinL (S := Unit) (.no rfl (.val (a := (((14 : Int), to, fr, n), (), (), true, fitL r, List.replicate 9 0)) rfl (.joinL (S := Unit) (.yes rfl (.bind hB (.now _))) (.now _)))) (.now _)))) (.now _)))) (.now _))) (.now _))) (.bind (fit_ev (by exact hq)) (.now _))
theorem do_15 {to fr n : Int} {r : List Int} (hl : r.length = 9) (ht : 0 ≤ to ∧ to < 9) (hf : 0 ≤ fr ∧ fr < 9) {q : List Int} (hq : q.length = 9) (hB : Ev (fun k => shift106 k (15 : Int) to (fitL r)) (q, ())) : Ev (fun k => Do61 k ((15 : Int), to, fr, n) r) ((fitL (q), false, ()), ()) := by
  have hg := fitL_len r
  have hgt := rd9 hg ht
  have hgf := rd9 hg hf
  unfold Do61
  refine .bind (index_ev ht) (.bind (index_ev hf) (.bind (fit_ev hl) ?_))
  exact .joinL (S := Unit) (.no rfl (.joinL (S := Unit) (.no rfl (.joinL (S := Unit) (.no rfl (.val (a := (((15 : Int), to, fr, n), (), (), false, fitL r, List.replicate 9 0)) rfl (.joinL (S := Unit) (.no rfl (.val (a := (((15 : Int), to, fr, n), (), (), false, fitL r, List.replicate 9 0)) rfl (.joinL (S := Unit) (.no rfl (.val (a := (((15 : Int), to, fr, n), (), (), true, fitL r, List.replicate 9 0)) rfl (.joinL (S := Unit) (.yes rfl (.bind hB (.now _))) (.now _)))) (.now _)))) (.now _)))) (.now _))) (.now _))) (.bind (fit_ev (by exact hq)) (.now _))
theorem do_16 {to fr n : Int} {r : List Int} (hl : r.length = 9) (ht : 0 ≤ to ∧ to < 9) (hf : 0 ≤ fr ∧ fr < 9) {q : List Int} (hq : q.length = 9) (hB : Ev (fun k => flag107 k (fitL r) (n % 256) true) (q, ())) : Ev (fun k => Do61 k ((16 : Int), to, fr, n) r) ((fitL (q), false, ()), ()) := by
  have hg := fitL_len r
  have hgt := rd9 hg ht
  have hgf := rd9 hg hf
  unfold Do61
  refine .bind (index_ev ht) (.bind (index_ev hf) (.bind (fit_ev hl) ?_))
  exact .joinL (S := Unit) (.no rfl (.joinL (S := Unit) (.no rfl (.joinL (S := Unit) (.no rfl (.val (a := (((16 : Int), to, fr, n), (), (), false, fitL r, List.replicate 9 0)) rfl (.joinL (S := Unit) (.no rfl (.val (a := (((16 : Int), to, fr, n), (), (), false, fitL r, List.replicate 9 0)) rfl (.joinL (S := Unit) (.no rfl (.val (a := (((16 : Int), to, fr, n), (), (), false, fitL r, List.replicate 9 0)) rfl (.joinL (S := Unit) (.no rfl (.val (a := (((16 : Int), to, fr, n), (), (), true, fitL r, List.replicate 9 0)) rfl (.joinL (S := Unit) (.yes rfl (.bind (low8_ev _) (.bind hB (.now _)))) (.now _)))) (.now _)))) (.now _)))) (.now _)))) (.now _))) (.now _))) (.bind (fit_ev (by exact hq)) (.now _))
theorem do_17 {to fr n : Int} {r : List Int} (hl : r.length = 9) (ht : 0 ≤ to ∧ to < 9) (hf : 0 ≤ fr ∧ fr < 9) {q : List Int} (hq : q.length = 9) (hB : Ev (fun k => flag107 k (fitL r) (n % 256) false) (q, ())) : Ev (fun k => Do61 k ((17 : Int), to, fr, n) r) ((fitL (q), false, ()), ()) := by
  have hg := fitL_len r
  have hgt := rd9 hg ht
  have hgf := rd9 hg hf
  unfold Do61
  refine .bind (index_ev ht) (.bind (index_ev hf) (.bind (fit_ev hl) ?_))
  exact .joinL (S := Unit) (.no rfl (.joinL (S := Unit) (.no rfl (.joinL (S := Unit) (.no rfl (.val (a := (((17 : Int), to, fr, n), (), (), false, fitL r, List.replicate 9 0)) rfl (.joinL (S := Unit) (.no rfl (.val (a := (((17 : Int), to, fr, n), (), (), false, fitL r, List.replicate 9 0)) rfl (.joinL (S := Unit) (.no rfl (.val (a := (((17 : Int), to, fr, n), (), (), false, fitL r, List.replicate 9 0)) rfl (.joinL (S := Unit) (.no rfl (.val (a := (((17 : Int), to, fr, n), (), (), true, fitL r, List.replicate 9 0)) rfl (.joinL (S := Unit) (.yes rfl (.bind (low8_ev _) (.bind hB (.now _)))) (.now _)))) (.now _)))) (.now _)))) (.now _)))) (.now _))) (.now _))) (.bind (fit_ev (by exact hq)) (.now _))
theorem do_18 {to fr n : Int} {r : List Int} (hl : r.length = 9) (ht : 0 ≤ to ∧ to < 9) (hf : 0 ≤ fr ∧ fr < 9) {x : Int} (hB : Ev (fun k => Put108 k ((fitL r).getD to.toNat 0) 0 8 ((fitL r).getD fr.toNat 0)) (x, ())) : Ev (fun k => Do61 k ((18 : Int), to, fr, n) r) ((fitL ((fitL r).set to.toNat x), false, ()), ()) := by
  have hg := fitL_len r
  have hgt := rd9 hg ht
  have hgf := rd9 hg hf
  unfold Do61
  refine .bind (index_ev ht) (.bind (index_ev hf) (.bind (fit_ev hl) ?_))
  exact .joinL (S := Unit) (.no rfl (.joinL (S := Unit) (.no rfl (.joinL (S := Unit) (.no rfl (.val (a := (((18 : Int), to, fr, n), (), (), false, fitL r, List.replicate 9 0)) rfl (.joinL (S := Unit) (.no rfl (.val (a := (((18 : Int), to, fr, n), (), (), false, fitL r, List.replicate 9 0)) rfl (.joinL (S := Unit) (.no rfl (.val (a := (((18 : Int), to, fr, n), (), (), false, fitL r, List.replicate 9 0)) rfl (.joinL (S := Unit) (.no rfl (.val (a := (((18 : Int), to, fr, n), (), (), false, fitL r, List.replicate 9 0)) rfl (.joinL (S := Unit) (.no rfl (.val (a := (((18 : Int), to, fr, n), (), (), true, fitL r, List.replicate 9 0)) rfl (.joinL (S := Unit) (.yes rfl (.val (if_pos ht) (.val hgt (.val (if_pos hf) (.val hgf (.bind hB (.val (if_pos ht) (.val hgt (.now _))))))))) (.now _)))) (.now _)))) (.now _)))) (.now _)))) (.now _)))) (.now _))) (.now _))) (.bind (fit_ev (by rw [List.length_set]; exact hg)) (.now _))
theorem do_19 {to fr n : Int} {r : List Int} (hl : r.length = 9) (ht : 0 ≤ to ∧ to < 9) (hf : 0 ≤ fr ∧ fr < 9) {x : Int} (hB : Ev (fun k => Put108 k ((fitL r).getD to.toNat 0) 8 8 ((fitL r).getD fr.toNat 0)) (x, ())) : Ev (fun k => Do61 k ((19 : Int), to, fr, n) r) ((fitL ((fitL r).set to.toNat x), false, ()), ()) := by
  have hg := fitL_len r
  have hgt := rd9 hg ht
  have hgf := rd9 hg hf
  unfold Do61
  refine .bind (index_ev ht) (.bind (index_ev hf) (.bind (fit_ev hl) ?_))
  exact .joinL (S := Unit) (.no rfl (.joinL (S := Unit) (.no rfl (.joinL (S := Unit) (.no rfl (.val (a := (((19 : Int), to, fr, n), (), (), false, fitL r, List.replicate 9 0)) rfl (.joinL (S := Unit) (.no rfl (.val (a := (((19 : Int), to, fr, n), (), (), false, fitL r, List.replicate 9 0)) rfl (.joinL (S := Unit) (.no rfl (.val (a := (((19 : Int), to, fr, n), (), (), false, fitL r, List.replicate 9 0)) rfl (.joinL (S := Unit) (.no rfl (.val (a := (((19 : Int), to, fr, n), (), (), false, fitL r, List.replicate 9 0)) rfl (.joinL (S := Unit) (.no rfl (.val (a := (((19 : Int), to, fr, n), (), (), true, fitL r, List.replicate 9 0)) rfl (.joinL (S := Unit) (.yes rfl (.val (if_pos ht) (.val hgt (.val (if_pos hf) (.val hgf (.bind hB (.val (if_pos ht) (.val hgt (.now _))))))))) (.now _)))) (.now _)))) (.now _)))) (.now _)))) (.now _)))) (.now _))) (.now _))) (.bind (fit_ev (by rw [List.length_set]; exact hg)) (.now _))
theorem do_20 {to fr n : Int} {r : List Int} (hl : r.length = 9) (ht : 0 ≤ to ∧ to < 9) (hf : 0 ≤ fr ∧ fr < 9) {x : Int} (hB : Ev (fun k => Get109 k ((fitL r).getD fr.toNat 0) 0 8) (x, ())) : Ev (fun k => Do61 k ((20 : Int), to, fr, n) r) ((fitL ((fitL r).set to.toNat x), false, ()), ()) := by
  have hg := fitL_len r
  have hgt := rd9 hg ht
  have hgf := rd9 hg hf
  unfold Do61
  refine .bind (index_ev ht) (.bind (index_ev hf) (.bind (fit_ev hl) ?_))
  exact .joinL (S := Unit) (.no rfl (.joinL (S := Unit) (.no rfl (.joinL (S := Unit) (.no rfl (.val (a := (((20 : Int), to, fr, n), (), (), false, fitL r, List.replicate 9 0)) rfl (.joinL (S := Unit) (.no rfl (.val (a := (((20 : Int), to, fr, n), (), (), false, fitL r, List.replicate 9 0)) rfl (.joinL (S := Unit) (.no rfl (.val (a := (((20 : Int), to, fr, n), (), (), false, fitL r, List.replicate 9 0)) rfl (.joinL (S := Unit) (.no rfl (.val (a := (((20 : Int), to, fr, n), (), (), false, fitL r, List.replicate 9 0)) rfl (.joinL (S := Unit) (.no rfl (.val (a := (((20 : Int), to, fr, n), (), (), false, fitL r, List.replicate 9 0)) rfl (.joinL (S := Unit) (.no rfl (.val (a := (((20 : Int), to, fr, n), (), (), true, fitL r, List.replicate 9 0)) rfl (.joinL (S := Unit) (.yes rfl (.val (if_pos hf) (.val hgf (.bind hB (.val (if_pos ht) (.val hgt (.now _))))))) (.now _)))) (.now _)))) (.now _)))) (.now _)))) (.now _)))) (.now _)))) (.now _))) (.now _))) (.bind (fit_ev (by rw [List.length_set]; exact hg)) (.now _))
theorem do_21 {to fr n : Int} {r : List Int} (hl : r.length = 9) (ht : 0 ≤ to ∧ to < 9) (hf : 0 ≤ fr ∧ fr < 9) {x : Int} (hB : Ev (fun k => Get109 k ((fitL r).getD fr.toNat 0) 8 8) (x, ())) : Ev (fun k => Do61 k ((21 : Int), to, fr, n) r) ((fitL ((fitL r).set to.toNat x), false, ()), ()) := by
  have hg := fitL_len r
  have hgt := rd9 hg ht
  have hgf := rd9 hg hf
  unfold Do61
  refine .bind (index_ev ht) (.bind (index_ev hf) (.bind (fit_ev hl) ?_))
  exact .joinL (S := Unit) (.no rfl (.joinL (S := Unit) (.no rfl (.joinL (S := Unit) (.no rfl (.val (a := (((21 : Int), to, fr, n), (), (), false, fitL r, List.replicate 9 0)) rfl (.joinL (S := Unit) (.no rfl (.val (a := (((21 : Int), to, fr, n), (), (), false, fitL r, List.replicate 9 0)) rfl (.joinL (S := Unit) (.no rfl (.val (a := (((21 : Int), to, fr, n), (), (), false, fitL r, List.replicate 9 0)) rfl (.joinL (S := Unit) (.no rfl (.val (a := (((21 : Int), to, fr, n), (), (), false, fitL r, List.replicate 9 0)) rfl (.joinL (S := Unit) (.no rfl (.val (a := (((21 : Int), to, fr, n), (), (), false, fitL r, List.replicate 9 0)) rfl (.joinL (S := Unit) (.no rfl (.val (a := (((21 : Int), to, fr, n), (), (), true, fitL r, List.replicate 9 0)) rfl (.joinL (S := Unit) (.yes rfl (.val (if_pos hf) (.val hgf (.bind hB (.val (if_pos ht) (.val hgt (.now _))))))) (.now _)))) (.now _)))) (.now _)))) (.now _)))) (.now _)))) (.now _)))) (.now _))) (.now _))) (.bind (fit_ev (by rw [List.length_set]; exact hg)) (.now _))
theorem do_22 {to fr n : Int} {r : List Int} (hl : r.length = 9) (ht : 0 ≤ to ∧ to < 9) (hf : 0 ≤ fr ∧ fr < 9) : Ev (fun k => Do61 k ((22 : Int), to, fr, n) r) ((fitL ((fitL r).set to.toNat (w64 ((fitL r).getD to.toNat 0 + (fitL r).getD fr.toNat 0 % 256))), false, ()), ()) := by
  have hg := fitL_len r
  have hgt := rd9 hg ht
  have hgf := rd9 hg hf
  unfold Do61
  refine .bind (index_ev ht) (.bind (index_ev hf) (.bind (fit_ev hl) ?_))
  exact .joinL (S := Unit) (.no rfl (.joinL (S := Unit) (.no rfl (.joinL (S := Unit) (.no rfl (.val (a := (((22 : Int), to, fr, n), (), (), false, fitL r, List.replicate 9 0)) rfl (.joinL (S := Unit) (.no rfl (.val (a := (((22 : Int), to, fr, n), (), (), false, fitL r, List.replicate 9 0)) rfl (.joinL (S := Unit) (.no rfl (.val (a := (((22 : Int), to, fr, n), (), (), false, fitL r, List.replicate 9 0)) rfl (.joinL (S := Unit) (.no rfl (.val (a := (((22 : Int), to, fr, n), (), (), false, fitL r, List.replicate 9 0)) rfl (.joinL (S := Unit) (.no rfl (.val (a := (((22 : Int), to, fr, n), (), (), false, fitL r, List.replicate 9 0)) rfl (.joinL (S := Unit) (.no rfl (.val (a := (((22 : Int), to, fr, n), (), (), false, fitL r, List.replicate 9 0)) rfl (.joinL (S := Unit) (.no rfl (.joinL (S := Unit) (.yes rfl (.val (if_pos ht) (.val hgt (.val (if_pos hf) (.val hgf (.bind (low8_ev _) (.val (if_pos ht) (.val hgt (.now _))))))))) (.now _))) (.now _)))) (.now _)))) (.now _)))) (.now _)))) (.now _)))) (.now _)))) (.now _))) (.now _))) (.bind (fit_ev (by rw [List.length_set]; exact hg)) (.now _))
theorem do_23 {to fr n : Int} {r : List Int} (hl : r.length = 9) (ht : 0 ≤ to ∧ to < 9) (hf : 0 ≤ fr ∧ fr < 9) {x : Int} (hB : Ev (fun k => Signed110 k ((fitL r).getD fr.toNat 0) 8) (x, ())) : Ev (fun k => Do61 k ((23 : Int), to, fr, n) r) ((fitL ((fitL r).set to.toNat (w64 ((fitL r).getD to.toNat 0 + x))), false, ()), ()) := by
  have hg := fitL_len r
  have hgt := rd9 hg ht
  have hgf := rd9 hg hf
  unfold Do61
  refine .bind (index_ev ht) (.bind (index_ev hf) (.bind (fit_ev hl) ?_))
  exact .joinL (S := Unit) (.no rfl (.joinL (S := Unit) (.no rfl (.joinL (S := Unit) (.no rfl (.val (a := (((23 : Int), to, fr, n), (), (), false, fitL r, List.replicate 9 0)) rfl (.joinL (S := Unit) (.no rfl (.val (a := (((23 : Int), to, fr, n), (), (), false, fitL r, List.replicate 9 0)) rfl (.joinL (S := Unit) (.no rfl (.val (a := (((23 : Int), to, fr, n), (), (), false, fitL r, List.replicate 9 0)) rfl (.joinL (S := Unit) (.no rfl (.val (a := (((23 : Int), to, fr, n), (), (), false, fitL r, List.replicate 9 0)) rfl (.joinL (S := Unit) (.no rfl (.val (a := (((23 : Int), to, fr, n), (), (), false, fitL r, List.replicate 9 0)) rfl (.joinL (S := Unit) (.no rfl (.val (a := (((23 : Int), to, fr, n), (), (), false, fitL r, List.replicate 9 0)) rfl (.joinL (S := Unit) (.no rfl (.joinL (S := Unit) (.no rfl (.joinL (S := Unit) (.yes rfl (.val (if_pos ht) (.val hgt (.val (if_pos hf) (.val hgf (.bind hB (.val (if_pos ht) (.val hgt (.now _))))))))) (.now _))) (.now _))) (.now _)))) (.now _)))) (.now _)))) (.now _)))) (.now _)))) (.now _)))) (.now _))) (.now _))) (.bind (fit_ev (by rw [List.length_set]; exact hg)) (.now _))
theorem do_10w {to fr n : Int} {r : List Int} (hl : r.length = 9) (ht : 0 ≤ to ∧ to < 9) (hf : 0 ≤ fr ∧ fr < 9) (hw : wd to = true) : Ev (fun k => Do61 k ((10 : Int), to, fr, n) r) ((fitL ((fitL r).set to.toNat (((fitL r).getD to.toNat 0 + (1)) % 65536)), false, ()), ()) := by
  have hlow : Ev (fun k => Low25 k (w64 (w64 ((fitL r).getD to.toNat 0 + 1) - w64 (2 * w64 ((10 : Int) - 10)))) 16) (((fitL r).getD to.toNat 0 + (1)) % 65536, ()) := by
    have hb := fitL_in r (i := to.toNat) (by omega)
    rw [show w64 ((10 : Int) - 10) = 0 from rfl, show w64 (2 * (0 : Int)) = 0 from rfl, w64_id (x := (fitL r).getD to.toNat 0 + 1) (by omega) (by omega), w64_id (by omega) (by omega)]
    exact (low16_ev _).to (by congr 1; omega)
  have hg := fitL_len r
  have hgt := rd9 hg ht
  have hgf := rd9 hg hf
  unfold Do61
  refine .bind (index_ev ht) (.bind (index_ev hf) (.bind (fit_ev hl) ?_))
  exact .joinL (S := Unit) (.no rfl (.joinL (S := Unit) (.no rfl (.joinL (S := Unit) (.no rfl (.val (a := (((10 : Int), to, fr, n), (), (), false, fitL r, List.replicate 9 0)) rfl (.joinL (S := Unit) (.no rfl (.val (a := (((10 : Int), to, fr, n), (), (), true, fitL r, List.replicate 9 0)) rfl (.joinL (S := Unit) (.yes rfl (.val (if_pos ht) (.val hgt (.bind (bits_ev hw) (.bind hlow (.bind (wide_ev to) (.bind (a := ((), (), fitL r, List.replicate 9 0)) (.no (by rw [hw]; rfl) (.now _)) (.val (if_pos ht) (.val hgt (.now _)))))))))) (.now _)))) (.now _)))) (.now _))) (.now _))) (.bind (fit_ev (by rw [List.length_set]; exact hg)) (.now _))
theorem do_10b {to fr n : Int} {r : List Int} (hl : r.length = 9) (ht : 0 ≤ to ∧ to < 9) (hf : 0 ≤ fr ∧ fr < 9) (hw : wd to = false) {q : List Int} (hq : q.length = 9) (hB : Ev (fun k => nz104 k (fitL r) (((fitL r).getD to.toNat 0 + (1)) % 256)) (q, ())) : Ev (fun k => Do61 k ((10 : Int), to, fr, n) r) ((fitL (q.set to.toNat (((fitL r).getD to.toNat 0 + (1)) % 256)), false, ()), ()) := by
  have hlow : Ev (fun k => Low25 k (w64 (w64 ((fitL r).getD to.toNat 0 + 1) - w64 (2 * w64 ((10 : Int) - 10)))) 8) (((fitL r).getD to.toNat 0 + (1)) % 256, ()) := by
    have hb := fitL_in r (i := to.toNat) (by omega)
    rw [show w64 ((10 : Int) - 10) = 0 from rfl, show w64 (2 * (0 : Int)) = 0 from rfl, w64_id (x := (fitL r).getD to.toNat 0 + 1) (by omega) (by omega), w64_id (by omega) (by omega)]
    exact (low8_ev _).to (by congr 1; omega)
  have hqt := rd9 hq ht
  have hg := fitL_len r
  have hgt := rd9 hg ht
  have hgf := rd9 hg hf
  unfold Do61
  refine .bind (index_ev ht) (.bind (index_ev hf) (.bind (fit_ev hl) ?_))
  exact .joinL (S := Unit) (.no rfl (.joinL (S := Unit) (.no rfl (.joinL (S := Unit) (.no rfl (.val (a := (((10 : Int), to, fr, n), (), (), false, fitL r, List.replicate 9 0)) rfl (.joinL (S := Unit) (.no rfl (.val (a := (((10 : Int), to, fr, n), (), (), true, fitL r, List.replicate 9 0)) rfl (.joinL (S := Unit) (.yes rfl (.val (if_pos ht) (.val hgt (.bind (bits_ev hw) (.bind hlow (.bind (wide_ev to) (.bind (a := ((), (), q, List.replicate 9 0)) (.yes (by rw [hw]; rfl) (.bind hB (.now _))) (.val (if_pos ht) (.val hqt (.now _)))))))))) (.now _)))) (.now _)))) (.now _))) (.now _))) (.bind (fit_ev (by rw [List.length_set]; exact hq)) (.now _))
theorem do_11w {to fr n : Int} {r : List Int} (hl : r.length = 9) (ht : 0 ≤ to ∧ to < 9) (hf : 0 ≤ fr ∧ fr < 9) (hw : wd to = true) : Ev (fun k => Do61 k ((11 : Int), to, fr, n) r) ((fitL ((fitL r).set to.toNat (((fitL r).getD to.toNat 0 + (-1)) % 65536)), false, ()), ()) := by
  have hlow : Ev (fun k => Low25 k (w64 (w64 ((fitL r).getD to.toNat 0 + 1) - w64 (2 * w64 ((11 : Int) - 10)))) 16) (((fitL r).getD to.toNat 0 + (-1)) % 65536, ()) := by
    have hb := fitL_in r (i := to.toNat) (by omega)
    rw [show w64 ((11 : Int) - 10) = 1 from rfl, show w64 (2 * (1 : Int)) = 2 from rfl, w64_id (x := (fitL r).getD to.toNat 0 + 1) (by omega) (by omega), w64_id (by omega) (by omega)]
    exact (low16_ev _).to (by congr 1; omega)
  have hg := fitL_len r
  have hgt := rd9 hg ht
  have hgf := rd9 hg hf
  unfold Do61
  refine .bind (index_ev ht) (.bind (index_ev hf) (.bind (fit_ev hl) ?_))
  exact .joinL (S := Unit) (.no rfl (.joinL (S := Unit) (.no rfl (.joinL (S := Unit) (.no rfl (.val (a := (((11 : Int), to, fr, n), (), (), false, fitL r, List.replicate 9 0)) rfl (.joinL (S := Unit) (.no rfl (.val (a := (((11 : Int), to, fr, n), (), (), true, fitL r, List.replicate 9 0)) rfl (.joinL (S := Unit) (.yes rfl (.val (if_pos ht) (.val hgt (.bind (bits_ev hw) (.bind hlow (.bind (wide_ev to) (.bind (a := ((), (), fitL r, List.replicate 9 0)) (.no (by rw [hw]; rfl) (.now _)) (.val (if_pos ht) (.val hgt (.now _)))))))))) (.now _)))) (.now _)))) (.now _))) (.now _))) (.bind (fit_ev (by rw [List.length_set]; exact hg)) (.now _))
theorem do_11b {to fr n : Int} {r : List Int} (hl : r.length = 9) (ht : 0 ≤ to ∧ to < 9) (hf : 0 ≤ fr ∧ fr < 9) (hw : wd to = false) {q : List Int} (hq : q.length = 9) (hB : Ev (fun k => nz104 k (fitL r) (((fitL r).getD to.toNat 0 + (-1)) % 256)) (q, ())) : Ev (fun k => Do61 k ((11 : Int), to, fr, n) r) ((fitL (q.set to.toNat (((fitL r).getD to.toNat 0 + (-1)) % 256)), false, ()), ()) := by
  have hlow : Ev (fun k => Low25 k (w64 (w64 ((fitL r).getD to.toNat 0 + 1) - w64 (2 * w64 ((11 : Int) - 10)))) 8) (((fitL r).getD to.toNat 0 + (-1)) % 256, ()) := by
    have hb := fitL_in r (i := to.toNat) (by omega)
    rw [show w64 ((11 : Int) - 10) = 1 from rfl, show w64 (2 * (1 : Int)) = 2 from rfl, w64_id (x := (fitL r).getD to.toNat 0 + 1) (by omega) (by omega), w64_id (by omega) (by omega)]
    exact (low8_ev _).to (by congr 1; omega)
  have hqt := rd9 hq ht
  have hg := fitL_len r
  have hgt := rd9 hg ht
  have hgf := rd9 hg hf
  unfold Do61
  refine .bind (index_ev ht) (.bind (index_ev hf) (.bind (fit_ev hl) ?_))
  exact .joinL (S := Unit) (.no rfl (.joinL (S := Unit) (.no rfl (.joinL (S := Unit) (.no rfl (.val (a := (((11 : Int), to, fr, n), (), (), false, fitL r, List.replicate 9 0)) rfl (.joinL (S := Unit) (.no rfl (.val (a := (((11 : Int), to, fr, n), (), (), true, fitL r, List.replicate 9 0)) rfl (.joinL (S := Unit) (.yes rfl (.val (if_pos ht) (.val hgt (.bind (bits_ev hw) (.bind hlow (.bind (wide_ev to) (.bind (a := ((), (), q, List.replicate 9 0)) (.yes (by rw [hw]; rfl) (.bind hB (.now _))) (.val (if_pos ht) (.val hqt (.now _)))))))))) (.now _)))) (.now _)))) (.now _))) (.now _))) (.bind (fit_ev (by rw [List.length_set]; exact hq)) (.now _))
end Go.Proofs.YtofendipdfepoaaGreat.Tr

/- What is known of registers stays so: steps. No program in sight. -/
set_option linter.unusedVariables false
set_option maxRecDepth 100000
noncomputable section
namespace Go.Proofs.YtofendipdfepoaaGreat.Tr
open Go Go.Proofs.YtofendipdfepoaaGreat.Gp

def Sb (x : Option Nat × Option Nat) (w : Bool) (v : Int) : Prop := (∀ l, x.1 = some l → v % 256 = (l : Int)) ∧ (w = true → ∀ h, x.2 = some h → v / 256 = (h : Int))
def Snd (A : Rg) (r : List Int) : Prop := ∀ i, i < 9 → Sb (A i) (wdN i) (r.getD i 0)
theorem sb_none {w : Bool} {v : Int} : Sb (none, none) w v := ⟨(fun l h => by cases h), (fun _ l h => by cases h)⟩
theorem fit_same {r q : List Int} (hr : FitR r) {i : Nat} (hi : i < 9) (h : q.getD i 0 = r.getD i 0) : (fitL q).getD i 0 = r.getD i 0 := by
  rw [fitL_get q hi, h]
  have := hr.ok i hi
  rcases wB_cases i with ⟨_, e⟩ | ⟨_, e⟩ <;> rw [e] at this ⊢ <;> omega
theorem putA_at {A : Rg} {i : Nat} {x : Option Nat × Option Nat} : putA A i x i = x := if_pos rfl
theorem putA_ne {A : Rg} {i j : Nat} {x : Option Nat × Option Nat} (h : j ≠ i) : putA A i x j = A j := if_neg h
theorem snd_set {A : Rg} {r : List Int} (hr : FitR r) (hs : Snd A r) {to : Nat} (ht : to < 9) {x : Int} {y : Option Nat × Option Nat} (hy : Sb y (wdN to) (x % wB to)) : Snd (putA A to y) (fitL (r.set to x)) := by
  intro i hi
  by_cases h : i = to
  · subst h
    rw [putA_at, fitL_get _ hi, getD_set, if_pos ⟨rfl, by rw [hr.len]; exact hi⟩]
    exact hy
  · rw [putA_ne h, fit_same hr hi (by rw [getD_set, if_neg (fun e => h e.1.symm)])]
    exact hs i hi
theorem snd_4 {A : Rg} {r q : List Int} (hr : FitR r) (hs : Snd A r) (hq : Fx [4] r q) : Snd (setA A 4 none) (fitL q) := by
  intro i hi
  by_cases h : i = 4
  · subst h
    show Sb (putA A 4 _ 4) _ _
    rw [putA_at]
    exact sb_none
  · show Sb (putA A 4 _ i) _ _
    rw [putA_ne h, fit_same hr hi (hq.2 i (by simp [h]))]
    exact hs i hi
theorem snd_t4 {A : Rg} {r q : List Int} (hr : FitR r) (hs : Snd A r) {to : Nat} (hq : Fx [4, to] r q) : Snd (setA (setA A to none) 4 none) (fitL q) := by
  intro i hi
  by_cases h : i = 4
  · subst h
    show Sb (putA _ 4 _ 4) _ _
    rw [putA_at]
    exact sb_none
  · show Sb (putA (putA A to _) 4 _ i) _ _
    rw [putA_ne h]
    by_cases h2 : i = to
    · subst h2
      rw [putA_at]
      exact sb_none
    · rw [putA_ne h2, fit_same hr hi (hq.2 i (by simp [h, h2]))]
      exact hs i hi
theorem snd_set4 {A : Rg} {r q : List Int} (hr : FitR r) (hs : Snd A r) (hq : Fx [4] r q) {to : Nat} (ht : to < 9) {x : Int} {y : Option Nat × Option Nat} (hy : Sb y (wdN to) (x % wB to)) : Snd (setA (putA A to y) 4 none) (fitL (q.set to x)) := by
  intro i hi
  by_cases h : i = 4
  · subst h
    show Sb (putA _ 4 _ 4) _ _
    rw [putA_at]
    exact sb_none
  · show Sb (putA (putA A to y) 4 _ i) _ _
    rw [putA_ne h]
    by_cases h2 : i = to
    · subst h2
      rw [putA_at, fitL_get _ hi, getD_set, if_pos ⟨rfl, by rw [hq.1]; exact hi⟩]
      exact hy
    · rw [putA_ne h2, fit_same hr hi (by rw [getD_set, if_neg (fun e => h2 e.1.symm)]; exact hq.2 i (by simp [h]))]
      exact hs i hi
theorem whole_is {A : Rg} {r : List Int} (hr : FitR r) (hs : Snd A r) {i n : Nat} (hi : i < 9) (h : wholeA A i = some n) : r.getD i 0 = (n : Int) := by
  obtain ⟨s1, s2⟩ := hs i hi
  have hf := hr.ok i hi
  unfold wholeA at h
  rcases wB_cases i with ⟨w, e⟩ | ⟨w, e⟩
  · rw [if_pos w] at h
    cases ha : (A i).1 with
    | none => rw [ha] at h; cases h
    | some l =>
      cases hb : (A i).2 with
      | none => rw [ha, hb] at h; cases h
      | some g =>
        rw [ha, hb] at h
        cases h
        have g1 := s1 l ha
        have g2 := s2 w g hb
        omega
  · rw [w, if_neg (by decide)] at h
    have g1 := s1 n h
    rw [e] at hf
    omega
-- bytes put in, and taken out
theorem xor_low (n : Nat) : n ^^^ (n &&& 255) = n / 256 * 256 := by
  apply Nat.eq_of_testBit_eq
  intro i
  rw [Nat.testBit_xor, Nat.testBit_and, show (255 : Nat) = 2 ^ 8 - 1 from rfl, Nat.testBit_two_pow_sub_one, show (256 : Nat) = 2 ^ 8 from rfl, Nat.testBit_mul_two_pow, Nat.testBit_div_two_pow]
  by_cases h : i < 8
  · simp [h, show ¬ 8 ≤ i by omega]
  · simp [h, show 8 ≤ i by omega]
theorem xor_high {n : Nat} (hn : n < 65536) : n ^^^ (n &&& 65280) = n % 256 := by
  apply Nat.eq_of_testBit_eq
  intro i
  rw [Nat.testBit_xor, Nat.testBit_and, show (65280 : Nat) = (2 ^ 8 - 1) * 2 ^ 8 from rfl, Nat.testBit_mul_two_pow, Nat.testBit_two_pow_sub_one, show (256 : Nat) = 2 ^ 8 from rfl, Nat.testBit_mod_two_pow]
  by_cases h : i < 8
  · simp [h, show ¬ 8 ≤ i by omega]
  · by_cases h2 : i < 16
    · simp [h, show 8 ≤ i by omega, show i - 8 < 8 by omega]
    · have : n.testBit i = false := Nat.testBit_lt_two_pow (Nat.lt_of_lt_of_le hn (Nat.le_trans (by decide : 65536 ≤ 2 ^ 16) (Nat.pow_le_pow_right (by decide) (by omega))))
      simp [h, this]
theorem or_add (a : Nat) {v : Nat} (h : v < 256) : a * 256 ||| v = a * 256 + v := by
  rw [Nat.mul_comm]
  exact (Nat.two_pow_add_eq_or_of_lt (i := 8) h a).symm
theorem put_low {n v : Nat} (hn : n < 65536) (hv : v < 256) : Ev (fun k => Put108 k (n : Int) 0 8 (v : Int)) (((n / 256 * 256 + v : Nat) : Int), ()) := by
  unfold Put108
  refine .bind (a := ((0, 8, ()), ())) (.val (a := (0, ())) rfl (.now _)) (.val (a := 256) rfl (.val (a := 255) rfl (.bind (low62_ev n hn) (.bind (low8_ev _) (.val (a := (v : Int)) ?_ (.now' ?_))))))
  · show some (shlI .i64 ((v : Int) % 256) 0) = _
    have := shlI_nat (a := v) (j := 0) (by decide) (by omega)
    rw [show (v : Int) % 256 = (v : Int) by omega]
    exact congrArg some (this.trans (by simp))
  · show (ibits .or .i64 (ibits .andNot .i64 (n : Int) ((255 : Nat) : Int)) (v : Int), ()) = _
    rw [ibits_andNot (by omega) (by decide), xor_low, ibits_or (by omega) (by omega), or_add _ hv]
theorem put_high {n v : Nat} (hn : n < 65536) (hv : v < 256) : Ev (fun k => Put108 k (n : Int) 8 8 (v : Int)) (((v * 256 + n % 256 : Nat) : Int), ()) := by
  unfold Put108
  refine .bind (a := ((8, 8, ()), ())) (.val (a := (8, ())) rfl (.now _)) (.val (a := 256) rfl (.val (a := 65280) rfl (.bind (low62_ev n hn) (.bind (low8_ev _) (.val (a := ((v * 256 : Nat) : Int)) ?_ (.now' ?_))))))
  · show some (shlI .i64 ((v : Int) % 256) 8) = _
    have := shlI_nat (a := v) (j := 8) (by decide) (by omega)
    rw [show (v : Int) % 256 = (v : Int) by omega]
    exact congrArg some this
  · show (ibits .or .i64 (ibits .andNot .i64 (n : Int) ((65280 : Nat) : Int)) ((v * 256 : Nat) : Int), ()) = _
    rw [ibits_andNot (by omega) (by decide), xor_high hn, ibits_or (by omega) (by omega), Nat.or_comm, or_add _ (by omega)]
theorem get_low {n : Nat} (hn : n < 65536) : Ev (fun k => Get109 k (n : Int) 0 8) (((n % 256 : Nat) : Int), ()) := by
  unfold Get109
  refine .bind (a := ((0, 8, ()), ())) (.val (a := (0, ())) rfl (.now _)) (.bind (low62_ev n hn) (.val (a := (n : Int)) ?_ (.bind (low8_ev _) (.now' ?_))))
  · show some (shrI .i64 (n : Int) 0) = _
    have := shrI_nat (a := n) (j := 0) (by decide)
    exact congrArg some (this.trans (by simp))
  · show ((n : Int) % 256, ()) = _
    congr 1
theorem nat_of {v : Int} (h : 0 ≤ v) : ∃ n : Nat, v = (n : Int) := ⟨v.toNat, by omega⟩
theorem do_if {to fr n : Int} {r : List Int} (hl : r.length = 9) : ∃ e, Ev (fun k => Do61 k ((24 : Int), to, fr, n) r) ((fitL r, e, ()), ()) := by
  have hg := fitL_len r
  have h4 : rd (fitL r) 4 = some ((fitL r).getD 4 0) := rd9 hg (i := 4) (by decide)
  refine ⟨xor true ((ibits .and .i64 ((fitL r).getD 4 0) (n % 256) != 0) == (fr == 1)), ?_⟩
  unfold Do61
  refine .bind (.now _) (.bind (.now _) (.bind (fit_ev hl) ?_))
  exact .joinR (.no rfl (.joinR (.no rfl (.joinR (.no rfl (.val (a := (((24 : Int), to, fr, n), (), (), false, fitL r, List.replicate 9 0)) rfl (.joinR (.no rfl (.val (a := (((24 : Int), to, fr, n), (), (), false, fitL r, List.replicate 9 0)) rfl (.joinR (.no rfl (.val (a := (((24 : Int), to, fr, n), (), (), false, fitL r, List.replicate 9 0)) rfl (.joinR (.no rfl (.val (a := (((24 : Int), to, fr, n), (), (), false, fitL r, List.replicate 9 0)) rfl (.joinR (.no rfl (.val (a := (((24 : Int), to, fr, n), (), (), false, fitL r, List.replicate 9 0)) rfl (.joinR (.no rfl (.val (a := (((24 : Int), to, fr, n), (), (), false, fitL r, List.replicate 9 0)) rfl (.joinR (.no rfl (.joinR (.no rfl (.joinR (.no rfl (.yes rfl (.val (if_pos (by decide)) (.val h4 (.bind (low8_ev _) (.now _))))))))))))))))))))))))))))))))
end Go.Proofs.YtofendipdfepoaaGreat.Tr

/- What is known of registers stays so: a step of whatever kind. No program in sight. -/
set_option linter.unusedVariables false
set_option maxRecDepth 100000
noncomputable section
namespace Go.Proofs.YtofendipdfepoaaGreat.Tr
open Go Go.Proofs.YtofendipdfepoaaGreat.Gp

theorem wdN_nat {to : Int} (h : 0 ≤ to) : wdN to.toNat = wd to := by
  unfold wdN
  rw [Int.toNat_of_nonneg h]
theorem sb_num {n : Nat} {w : Bool} {x : Int} (hx : x = ((n : Nat) : Int)) (hn : n < 65536) : Sb (some (n % 256), some (n / 256 % 256)) w x := by
  subst hx
  refine ⟨fun l h => ?_, fun _ l h => ?_⟩
  · cases h; omega
  · cases h; omega
/-- what a step answers -/
def DoOk (s : Stp4) (r : List Int) : Prop := ∃ r', Ev (fun k => Do61 k s r) ((r', false, ()), ()) ∧ FitR r' ∧ ∀ A, Inv A → Snd A r → Snd (stepA A s) r'
theorem sb_add {A : Rg} {r : List Int} (hr : FitR r) (hs : Snd A r) {i : Nat} (hi : i < 9) {b x : Int} (hx : x % wB i = (r.getD i 0 + b) % wB i) :
    Sb (((wholeA A i).map fun n => (((n : Int) + b) % 65536).toNat).map (· % 256), ((wholeA A i).map fun n => (((n : Int) + b) % 65536).toNat).map (fun n => n / 256 % 256)) (wdN i) (x % wB i) := by
  rw [hx]
  cases hw : wholeA A i with
  | none => exact sb_none
  | some n =>
    have := whole_is hr hs hi hw
    rw [this]
    rcases wB_cases i with ⟨w, e⟩ | ⟨w, e⟩
    · rw [e, w]
      exact sb_num (n := (((n : Int) + b) % 65536).toNat) (by omega) (by omega)
    · rw [e, w]
      refine ⟨fun l h => ?_, fun h => by cases h⟩
      have h : (((n : Int) + b) % 65536).toNat % 256 = l := Option.some.inj h
      omega
theorem do_ok {s : Stp4} (hs : OkS s) (h24 : s.1 ≠ 24) {r : List Int} (hr : FitR r) : DoOk s r := by
  have hl := hr.len
  have hid := fitL_id hr
  have ht := hs.to h24
  have hf := hs.fr h24
  have hd := hs.d
  have hmv := hs.move
  have hlit := hs.lit
  have hwb := hs.wb
  have hbw := hs.bw
  obtain ⟨d, to, fr, n⟩ := s
  simp only at h24 ht hf hd hmv hlit hwb hbw
  have htn : to.toNat < 9 := by omega
  have hfn : fr.toNat < 9 := by omega
  have htw := wdN_nat ht.1
  have hfw := wdN_nat hf.1
  have hto := hr.ok _ htn
  have hfo := hr.ok _ hfn
  rcases (show d = 0 ∨ d = 1 ∨ d = 2 ∨ d = 3 ∨ (d = 4 ∨ d = 5 ∨ d = 6 ∨ d = 7 ∨ d = 8 ∨ d = 9) ∨ d = 10 ∨ d = 11 ∨ (d = 12 ∨ d = 13 ∨ d = 14 ∨ d = 15) ∨ (d = 16 ∨ d = 17) ∨ d = 18 ∨ d = 19 ∨ d = 20 ∨ d = 21 ∨ d = 22 ∨ d = 23 by omega) with rfl | rfl | rfl | rfl | h | rfl | rfl | h | h | rfl | rfl | rfl | rfl | rfl | rfl
  · refine ⟨_, do_0 hl ht hf, fitL_ok _, fun A hA hS => ?_⟩
    rw [hid, hid]
    exact hS
  · refine ⟨_, do_1 hl ht hf, fitL_ok _, fun A hA hS => ?_⟩
    rw [hid]
    show Snd (putA A to.toNat (A fr.toNat)) _
    refine snd_set hr hS htn ?_
    have hsame : wdN to.toNat = wdN fr.toNat := by rw [htw, hfw]; exact hmv rfl
    have hB : wB to.toNat = wB fr.toNat := by unfold wB; rw [hsame]
    have := hS _ hfn
    have e : r.getD fr.toNat 0 % wB to.toNat = r.getD fr.toNat 0 := by
      rw [hB]
      rcases wB_cases fr.toNat with ⟨_, e⟩ | ⟨_, e⟩ <;> rw [e] at hfo ⊢ <;> omega
    rw [e, hsame]
    exact this
  · refine ⟨_, do_2 hl ht hf, fitL_ok _, fun A hA hS => ?_⟩
    rw [hid]
    show Snd (setA A to.toNat (some n.toNat)) _
    have hn := hlit rfl
    refine snd_set hr hS htn ?_
    rcases wB_cases to.toNat with ⟨w, e⟩ | ⟨w, e⟩
    · have hw : wd to = true := by rw [← htw]; exact w
      rw [hw] at hn
      have hn : 0 ≤ n ∧ n ≤ 65535 := hn
      rw [e]
      exact sb_num (n := n.toNat) (by omega) (by omega)
    · have hw : wd to = false := by rw [← htw]; exact w
      rw [hw] at hn
      have hn : 0 ≤ n ∧ n ≤ 255 := hn
      rw [e]
      exact sb_num (n := n.toNat) (by omega) (by omega)
  · obtain ⟨q, hq, hx⟩ := nz_t (r := fitL r) (fitL_len r) ((fitL r).getD to.toNat 0 % 256)
    obtain ⟨q, q2⟩ := q
    cases q2
    refine ⟨_, do_3 hl ht hf hx.1 hq, fitL_ok _, fun A hA hS => ?_⟩
    rw [hid] at hx
    exact snd_4 hr hS hx
  · obtain ⟨q, hq, hx, hx6⟩ := binary_t (r := fitL r) (fitL_len r) ht hf d
    obtain ⟨q, q2⟩ := q
    cases q2
    rw [hid] at hx hx6
    rcases h with rfl | rfl | rfl | rfl | rfl | rfl
    · exact ⟨_, do_4 hl ht hf hx.1 hq, fitL_ok _, fun A hA hS => snd_t4 hr hS hx⟩
    · exact ⟨_, do_5 hl ht hf hx.1 hq, fitL_ok _, fun A hA hS => snd_t4 hr hS hx⟩
    · exact ⟨_, do_6 hl ht hf hx.1 hq, fitL_ok _, fun A hA hS => snd_4 hr hS (hx6 rfl)⟩
    · exact ⟨_, do_7 hl ht hf hx.1 hq, fitL_ok _, fun A hA hS => snd_t4 hr hS hx⟩
    · exact ⟨_, do_8 hl ht hf hx.1 hq, fitL_ok _, fun A hA hS => snd_t4 hr hS hx⟩
    · exact ⟨_, do_9 hl ht hf hx.1 hq, fitL_ok _, fun A hA hS => snd_t4 hr hS hx⟩
  · cases hw : wd to with
    | true =>
      refine ⟨_, do_10w hl ht hf hw, fitL_ok _, fun A hA hS => ?_⟩
      rw [hid]
      have e : stepA A ((10 : Int), to, fr, n) = addA A to.toNat 1 := by
        show (if wdN to.toNat = true then addA A to.toNat (if (10 : Int) = 10 then 1 else -1) else _) = _
        rw [if_pos (by rw [htw]; exact hw)]; rfl
      rw [e]
      refine snd_set hr hS htn (sb_add hr hS htn ?_)
      rw [show wB to.toNat = 65536 from if_pos (by rw [htw]; exact hw)]; omega
    | false =>
      obtain ⟨q, hq, hx⟩ := nz_t (r := fitL r) (fitL_len r) (((fitL r).getD to.toNat 0 + (1)) % 256)
      obtain ⟨q, q2⟩ := q
      cases q2
      refine ⟨_, do_10b hl ht hf hw hx.1 hq, fitL_ok _, fun A hA hS => ?_⟩
      rw [hid] at hx ⊢
      have e : stepA A ((10 : Int), to, fr, n) = setA (addA A to.toNat 1) 4 none := by
        show (if wdN to.toNat = true then _ else setA (addA A to.toNat (if (10 : Int) = 10 then 1 else -1)) 4 none) = _
        rw [if_neg (by rw [htw, hw]; decide)]; rfl
      rw [e]
      refine snd_set4 hr hS hx htn (sb_add hr hS htn ?_)
      rw [show wB to.toNat = 256 from if_neg (by rw [htw, hw]; decide)]; omega
  · cases hw : wd to with
    | true =>
      refine ⟨_, do_11w hl ht hf hw, fitL_ok _, fun A hA hS => ?_⟩
      rw [hid]
      have e : stepA A ((11 : Int), to, fr, n) = addA A to.toNat (-1) := by
        show (if wdN to.toNat = true then addA A to.toNat (if (11 : Int) = 10 then 1 else -1) else _) = _
        rw [if_pos (by rw [htw]; exact hw)]; rfl
      rw [e]
      refine snd_set hr hS htn (sb_add hr hS htn ?_)
      rw [show wB to.toNat = 65536 from if_pos (by rw [htw]; exact hw)]; omega
    | false =>
      obtain ⟨q, hq, hx⟩ := nz_t (r := fitL r) (fitL_len r) (((fitL r).getD to.toNat 0 + (-1)) % 256)
      obtain ⟨q, q2⟩ := q
      cases q2
      refine ⟨_, do_11b hl ht hf hw hx.1 hq, fitL_ok _, fun A hA hS => ?_⟩
      rw [hid] at hx ⊢
      have e : stepA A ((11 : Int), to, fr, n) = setA (addA A to.toNat (-1)) 4 none := by
        show (if wdN to.toNat = true then _ else setA (addA A to.toNat (if (11 : Int) = 10 then 1 else -1)) 4 none) = _
        rw [if_neg (by rw [htw, hw]; decide)]; rfl
      rw [e]
      refine snd_set4 hr hS hx htn (sb_add hr hS htn ?_)
      rw [show wB to.toNat = 256 from if_neg (by rw [htw, hw]; decide)]; omega
  · obtain ⟨q, hq, hx⟩ := shift_t (r := fitL r) (fitL_len r) ht d
    obtain ⟨q, q2⟩ := q
    cases q2
    rw [hid] at hx
    rcases h with rfl | rfl | rfl | rfl
    · exact ⟨_, do_12 hl ht hf hx.1 hq, fitL_ok _, fun A hA hS => snd_t4 hr hS hx⟩
    · exact ⟨_, do_13 hl ht hf hx.1 hq, fitL_ok _, fun A hA hS => snd_t4 hr hS hx⟩
    · exact ⟨_, do_14 hl ht hf hx.1 hq, fitL_ok _, fun A hA hS => snd_t4 hr hS hx⟩
    · exact ⟨_, do_15 hl ht hf hx.1 hq, fitL_ok _, fun A hA hS => snd_t4 hr hS hx⟩
  · rcases h with rfl | rfl
    · obtain ⟨q, hq, hx⟩ := flag_t (r := fitL r) (fitL_len r) (n % 256) true
      obtain ⟨q, q2⟩ := q
      cases q2
      refine ⟨_, do_16 hl ht hf hx.1 hq, fitL_ok _, fun A hA hS => ?_⟩
      rw [hid] at hx
      exact snd_4 hr hS hx
    · obtain ⟨q, hq, hx⟩ := flag_t (r := fitL r) (fitL_len r) (n % 256) false
      obtain ⟨q, q2⟩ := q
      cases q2
      refine ⟨_, do_17 hl ht hf hx.1 hq, fitL_ok _, fun A hA hS => ?_⟩
      rw [hid] at hx
      exact snd_4 hr hS hx
  · obtain ⟨w1, w2⟩ := hwb (.inl rfl)
    have e1 : wB to.toNat = 65536 := if_pos (by rw [htw]; exact w1)
    have e2 : wB fr.toNat = 256 := if_neg (by rw [hfw, w2]; decide)
    rw [e1] at hto
    rw [e2] at hfo
    obtain ⟨a, ha⟩ := nat_of hto.1
    obtain ⟨b, hb⟩ := nat_of hfo.1
    have hB := put_low (n := a) (v := b) (by omega) (by omega)
    rw [← ha, ← hb] at hB
    rw [← hid] at hB
    refine ⟨_, do_18 hl ht hf hB, fitL_ok _, fun A hA hS => ?_⟩
    rw [hid]
    show Snd (putA A to.toNat ((A fr.toNat).1, (A to.toNat).2)) _
    refine snd_set hr hS htn ?_
    obtain ⟨s1, s2⟩ := hS _ htn
    obtain ⟨s3, s4⟩ := hS _ hfn
    rw [e1]
    refine ⟨fun l h => ?_, fun hw l h => ?_⟩
    · have := s3 l h; omega
    · have := s2 hw l h; omega
  · obtain ⟨w1, w2⟩ := hwb (.inr (.inl rfl))
    have e1 : wB to.toNat = 65536 := if_pos (by rw [htw]; exact w1)
    have e2 : wB fr.toNat = 256 := if_neg (by rw [hfw, w2]; decide)
    rw [e1] at hto
    rw [e2] at hfo
    obtain ⟨a, ha⟩ := nat_of hto.1
    obtain ⟨b, hb⟩ := nat_of hfo.1
    have hB := put_high (n := a) (v := b) (by omega) (by omega)
    rw [← ha, ← hb] at hB
    rw [← hid] at hB
    refine ⟨_, do_19 hl ht hf hB, fitL_ok _, fun A hA hS => ?_⟩
    rw [hid]
    show Snd (putA A to.toNat ((A to.toNat).1, (A fr.toNat).1)) _
    refine snd_set hr hS htn ?_
    obtain ⟨s1, s2⟩ := hS _ htn
    obtain ⟨s3, s4⟩ := hS _ hfn
    rw [e1]
    refine ⟨fun l h => ?_, fun hw l h => ?_⟩
    · have := s1 l h; omega
    · have := s3 l h; omega
  · obtain ⟨w1, w2⟩ := hbw (.inl rfl)
    have e1 : wB to.toNat = 256 := if_neg (by rw [htw, w1]; decide)
    have e2 : wB fr.toNat = 65536 := if_pos (by rw [hfw]; exact w2)
    rw [e2] at hfo
    obtain ⟨b, hb⟩ := nat_of hfo.1
    have hB := get_low (n := b) (by omega)
    rw [← hb] at hB
    rw [← hid] at hB
    refine ⟨_, do_20 hl ht hf hB, fitL_ok _, fun A hA hS => ?_⟩
    rw [hid]
    show Snd (putA A to.toNat ((A fr.toNat).1, some 0)) _
    refine snd_set hr hS htn ?_
    obtain ⟨s3, s4⟩ := hS _ hfn
    rw [e1]
    refine ⟨fun l h => ?_, fun hw l h => ?_⟩
    · have := s3 l h; omega
    · rw [htw, w1] at hw; cases hw
  · obtain ⟨w1, w2⟩ := hbw (.inr rfl)
    have e1 : wB to.toNat = 256 := if_neg (by rw [htw, w1]; decide)
    have e2 : wB fr.toNat = 65536 := if_pos (by rw [hfw]; exact w2)
    rw [e2] at hfo
    obtain ⟨b, hb⟩ := nat_of hfo.1
    have hB := get_ev b (by omega)
    rw [← hb] at hB
    rw [← hid] at hB
    refine ⟨_, do_21 hl ht hf hB, fitL_ok _, fun A hA hS => ?_⟩
    rw [hid]
    show Snd (putA A to.toNat ((A fr.toNat).2, some 0)) _
    refine snd_set hr hS htn ?_
    obtain ⟨s3, s4⟩ := hS _ hfn
    rw [e1]
    refine ⟨fun l h => ?_, fun hw l h => ?_⟩
    · have := s4 (by rw [hfw]; exact w2) l h; omega
    · rw [htw, w1] at hw; cases hw
  · obtain ⟨w1, w2⟩ := hwb (.inr (.inr (.inl rfl)))
    have e1 : wB to.toNat = 65536 := if_pos (by rw [htw]; exact w1)
    have e2 : wB fr.toNat = 256 := if_neg (by rw [hfw, w2]; decide)
    rw [e1] at hto
    rw [e2] at hfo
    refine ⟨_, do_22 hl ht hf, fitL_ok _, fun A hA hS => ?_⟩
    rw [hid, w64_id (by omega) (by omega)]
    have e : stepA A ((22 : Int), to, fr, n) = (match wholeA A to.toNat, wholeA A fr.toNat with | some _, some b => addA A to.toNat (b : Int) | _, _ => setA A to.toNat none) := rfl
    rw [e]
    cases h1 : wholeA A to.toNat with
    | none => exact snd_set hr hS htn sb_none
    | some a =>
      cases h2 : wholeA A fr.toNat with
      | none => exact snd_set hr hS htn sb_none
      | some b =>
        have hb := whole_is hr hS hfn h2
        refine snd_set hr hS htn (sb_add hr hS htn ?_)
        rw [e1]; omega
  · obtain ⟨w1, w2⟩ := hwb (.inr (.inr (.inr rfl)))
    have e1 : wB to.toNat = 65536 := if_pos (by rw [htw]; exact w1)
    have e2 : wB fr.toNat = 256 := if_neg (by rw [hfw, w2]; decide)
    rw [e1] at hto
    rw [e2] at hfo
    obtain ⟨b, hb⟩ := nat_of hfo.1
    have hB := signed_ev (n := b) (by omega)
    rw [← hb] at hB
    rw [← hid] at hB
    have hsg : -128 ≤ sgn b ∧ sgn b < 256 := by unfold sgn; split <;> omega
    refine ⟨_, do_23 hl ht hf hB, fitL_ok _, fun A hA hS => ?_⟩
    rw [hid, w64_id (by omega) (by omega)]
    have e : stepA A ((23 : Int), to, fr, n) = (match wholeA A to.toNat, wholeA A fr.toNat with | some _, some b => addA A to.toNat (sgn b) | _, _ => setA A to.toNat none) := rfl
    rw [e]
    cases h1 : wholeA A to.toNat with
    | none => exact snd_set hr hS htn sb_none
    | some a =>
      cases h2 : wholeA A fr.toNat with
      | none => exact snd_set hr hS htn sb_none
      | some b' =>
        have hb' := whole_is hr hS hfn h2
        have : b' = b := by omega
        subst this
        exact snd_set hr hS htn (sb_add hr hS htn rfl)
end Go.Proofs.YtofendipdfepoaaGreat.Tr
