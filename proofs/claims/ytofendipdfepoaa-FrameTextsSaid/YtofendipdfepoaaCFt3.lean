/- Merged texts of one claim: a Go law, its functions without memory, and the plain law. The law returns true for every input; conditions: as the row says. -/
import Derived.Shelf.Strings.Builder1
import Derived.Test.YtofendipdfepoaaProg
import Derived.KernelRfl
import Derived.Below
import Derived.Shelf.Small.Strs
import Derived.WalkKit
import Derived.Shelf.LaysM
import Derived.Shelf.SlSortCmp.NoneTotal
import Derived.Test.YtofendipdfepoaaChecked
import Derived.Test.YtofendipdfepoaaRows
import Derived.ChangeArms
import Derived.OpenShut
import Derived.SizedLaws
import Derived.Deep.Slices
import Derived.ProofKit
import Derived.ShutString
import Derived.ChangeOld
import Derived.Test.YtofendipdfepoaaCFt0
import Derived.Test.YtofendipdfepoaaCFt1
import Derived.Test.YtofendipdfepoaaCFt2
/- Go functions as plain Lean functions, and their contracts. -/
set_option linter.unusedVariables false
set_option maxRecDepth 100000
noncomputable section
namespace Go.Proofs.Ytofendipdfepoaa.Ft
open Go Go.Proofs.Ytofendipdfepoaa.Gp
def Right26.l0 (k : Nat) (f : tY16) : Int → Option (Int ⊕ tY14)
  | t10 =>
    cond (decide (t10 < (List.length f : Int)))
      ((rd f t10).bind fun t12 =>
      cond (cond (decide (t12 < 0)) true (decide (t12 > 15)))
        (some (Sum.inr (Sum.inr (1, ()))))
        (some (Sum.inl (w64 (t10 + 1)))))
      (some (Sum.inr (Sum.inl ())))
def Right26 (k : Nat) (f : tY16) : Option (Int × Unit) :=
  cond ((List.length f : Int) != 2560)
    (some (3, ()))
    (Option.bind
      (loopN (Right26.l0 k f) k 0 : Option tY14) (joined fun (_ : Unit) =>
      some (0, ())))
def Right26.A : Ann := { conds := [], blocks := [(0, ⟨[], [], 0, [], 2096148⟩)], loops := [(4, ⟨[(10, .int .i64)], [], 0, [], 2096148⟩)], keeps := [], orders := [] }
def Right26.S : Sig := { f := 26, params := [.sl kY4], objs := [], res := .int .i64, outs := [], fix := [], run := fun k ds os => Right26 k ds }
def Right26.G : List Sig := []
theorem Right26.eq (k : Nat) : ∀ ds os, Right26.S.run k ds os = runF ⟨types, Right26.G, Right26.A, k, 0, []⟩ Try.f26 (codeOf Try.f26) Right26.S.params Right26.S.objs Right26.S.res Right26.S.outs ds os := by
  intro ds os; kernel_rfl
theorem Right26.dr : DrOk Try.prog Right26.A (codeOf Try.f26) := ⟨by kernel_rfl, by kernel_rfl⟩
theorem Right26.ok (k : Nat) : SoundAt Try.prog k Right26.S :=
  runF_sound (X := ⟨types, Right26.G, Right26.A, k, 0, []⟩) types_ok (fun s hs => absurd hs List.not_mem_nil) (fn := Try.f26) (c := codeOf Try.f26) rfl (by kernel_rfl) rfl rfl Right26.dr (Right26.eq k)

def Seen27.l0 (k : Nat) (f : tY16) : tY11 → Option tY2
  | (_, t12, o0) =>
    cond (decide (t12 < 32))
      ((slc f (w64 (t12 * 64)) (w64 ((w64 (t12 * 64)) + 48))).bind fun t22 =>
      (if room (List.length o0 + List.length t22) 8 then some () else none).bind fun _ =>
      some (Sum.inl ((), (w64 (t12 + 1)), (o0 ++ t22))))
      (some (Sum.inr ((), o0)))
def Seen27 (k : Nat) (f : tY16) : Option tY6 :=
  (Right26 k f).bind fun t8 =>
  cond (t8.1 != 0)
    (some (([], t8.1, ()), ()))
    (Option.bind
      (loopN (Seen27.l0 k f) k ((), 0, []) : Option tY15) fun ((_, o0_1) : tY15) =>
    some ((o0_1, 0, ()), ()))
def Seen27.A : Ann := { conds := [], blocks := [(0, ⟨[(5, .ms 0)], [(0, .row kY4)], 1, [], 33550432⟩)], loops := [(6, ⟨[(5, .ms 0), (12, .int .i64)], [(0, .row kY4)], 1, [(0, .int .i64)], 33550432⟩)], keeps := [], orders := [] }
def Seen27.S : Sig := { f := 27, params := [.sl kY4], objs := [], res := .tup kY0, outs := [], fix := [], run := fun k ds os => Seen27 k ds }
def Seen27.G : List Sig := [Right26.S]
theorem Seen27.eq (k : Nat) : ∀ ds os, Seen27.S.run k ds os = runF ⟨types, Seen27.G, Seen27.A, k, 0, []⟩ Try.f27 (codeOf Try.f27) Seen27.S.params Seen27.S.objs Seen27.S.res Seen27.S.outs ds os := by
  intro ds os; kernel_rfl
theorem Seen27.dr : DrOk Try.prog Seen27.A (codeOf Try.f27) := ⟨by kernel_rfl, by kernel_rfl⟩
theorem Seen27.ok (k : Nat) : SoundAt Try.prog k Seen27.S :=
  runF_sound (X := ⟨types, Seen27.G, Seen27.A, k, 0, []⟩) types_ok (mem_all (⟨Right26.ok k, trivial⟩)) (fn := Try.f27) (c := codeOf Try.f27) rfl (by kernel_rfl) rfl rfl Seen27.dr (Seen27.eq k)

def Check100.l0 (k : Nat) (outs : tY10) (chip : ByteArray) : (Int × Int) → Option ((Int × Int) ⊕ tY14)
  | (last, t10) =>
    cond (decide (t10 < (List.length outs : Int)))
      (Option.bind
        ((rd outs t10).bind fun t12 =>
        cond (!(streq t12.2.1 chip))
          (some (Sum.inl last))
          (cond (cond (cond (cond (decide (t12.1 < 0)) true (decide (t12.1 > 100000))) true (decide (t12.2.2 < 0))) true (decide (t12.2.2 > 15)))
            (some (Sum.inr (Sum.inr (Sum.inr (1, ())))))
            (cond (decide (t12.1 ≤ last))
              (some (Sum.inr (Sum.inr (Sum.inr (9, ())))))
              (some (Sum.inl t12.1)))) : Option (Int ⊕ ((Int × Int) ⊕ tY14))) (joined fun (last_1 : Int) =>
        some (Sum.inl (last_1, (w64 (t10 + 1))))))
      (some (Sum.inr (Sum.inl ())))
def Check100 (k : Nat) (outs : tY10) (chip : ByteArray) : Option (Int × Unit) :=
  Option.bind
    (loopN (Check100.l0 k outs chip) k ((-1), 0) : Option tY14) (joined fun (_ : Unit) =>
    some (0, ()))
def Check100.A : Ann := { conds := [], blocks := [(0, ⟨[], [], 0, [], 8796093021360⟩), (1, ⟨[(5, .int .i64)], [], 0, [], 4398046507184⟩)], loops := [(3, ⟨[(5, .int .i64), (10, .int .i64)], [], 0, [], 8796093021360⟩)], keeps := [7], orders := [] }
def Check100.S : Sig := { f := 100, params := [.sl kY1, .str], objs := [], res := .int .i64, outs := [], fix := [], run := fun k ds os => Check100 k ds.1 ds.2 }
def Check100.G : List Sig := []
theorem Check100.eq (k : Nat) : ∀ ds os, Check100.S.run k ds os = runF ⟨types, Check100.G, Check100.A, k, 0, []⟩ Try.f100 (codeOf Try.f100) Check100.S.params Check100.S.objs Check100.S.res Check100.S.outs ds os := by
  intro ds os; kernel_rfl
theorem Check100.dr : DrOk Try.prog Check100.A (codeOf Try.f100) := ⟨by kernel_rfl, by kernel_rfl⟩
theorem Check100.ok (k : Nat) : SoundAt Try.prog k Check100.S :=
  runF_sound (X := ⟨types, Check100.G, Check100.A, k, 0, []⟩) types_ok (fun s hs => absurd hs List.not_mem_nil) (fn := Try.f100) (c := codeOf Try.f100) rfl (by kernel_rfl) rfl rfl Check100.dr (Check100.eq k)

def Chunk101 (k : Nat) (s : tY16) (n : Int) : Option tY6 :=
  Option.bind
    (cond (decide (n < 1))
      (none)
      (some (s, n)) : Option (tY16 × Int)) fun ((s_1, n_1) : (tY16 × Int)) =>
  some ((s_1, n_1, ()), ())
def Chunk101.A : Ann := { conds := [(393218, ⟨[(2, .fp kY3), (3, .fp kY4)], [], 0, [], 128⟩)], blocks := [], loops := [], keeps := [2, 3], orders := [] }
def Chunk101.S : Sig := { f := 101, params := [.sl kY4, .int .i64], objs := [], res := .fn 121 (.pair (.fp kY3) (.pair (.fp kY4) .unit)), outs := [], fix := [], run := fun k ds os => Chunk101 k ds.1 ds.2 }
def Chunk101.G : List Sig := []
theorem Chunk101.eq (k : Nat) : ∀ ds os, Chunk101.S.run k ds os = runF ⟨types, Chunk101.G, Chunk101.A, k, 0, []⟩ Try.f101 (codeOf Try.f101) Chunk101.S.params Chunk101.S.objs Chunk101.S.res Chunk101.S.outs ds os := by
  intro ds os; kernel_rfl
theorem Chunk101.dr : DrOk Try.prog Chunk101.A (codeOf Try.f101) := ⟨by kernel_rfl, by kernel_rfl⟩
theorem Chunk101.ok (k : Nat) : SoundAt Try.prog k Chunk101.S :=
  runF_sound (X := ⟨types, Chunk101.G, Chunk101.A, k, 0, []⟩) types_ok (fun s hs => absurd hs List.not_mem_nil) (fn := Try.f101) (c := codeOf Try.f101) rfl (by kernel_rfl) rfl rfl Chunk101.dr (Chunk101.eq k)

def Clone72 (k : Nat) (s : tY16) : Option (tY16 × Unit) :=
  orNil (List.length s)
    (cond true
      (some ([], ()))
      ((if room (0 + List.length s) 8 then some () else none).bind fun _ =>
      some (s, ())))
    (cond false
      (some ([], ()))
      ((if room (0 + List.length s) 8 then some () else none).bind fun _ =>
      some (s, ())))
def Clone72.A : Ann := { conds := [], blocks := [], loops := [], keeps := [], orders := [] }
def Clone72.S : Sig := { f := 72, params := [.sl kY4], objs := [], res := .sl kY4, outs := [], fix := [], run := fun k ds os => Clone72 k ds }
def Clone72.G : List Sig := []
theorem Clone72.eq (k : Nat) : ∀ ds os, Clone72.S.run k ds os = runF ⟨types, Clone72.G, Clone72.A, k, 0, []⟩ Try.f72 (codeOf Try.f72) Clone72.S.params Clone72.S.objs Clone72.S.res Clone72.S.outs ds os := by
  intro ds os; kernel_rfl
theorem Clone72.dr : DrOk Try.prog Clone72.A (codeOf Try.f72) := ⟨by kernel_rfl, by kernel_rfl⟩
theorem Clone72.ok (k : Nat) : SoundAt Try.prog k Clone72.S :=
  runF_sound (X := ⟨types, Clone72.G, Clone72.A, k, 0, []⟩) types_ok (fun s hs => absurd hs List.not_mem_nil) (fn := Try.f72) (c := codeOf Try.f72) rfl (by kernel_rfl) rfl rfl Clone72.dr (Clone72.eq k)

def Of66.l0 (k : Nat) (first_1 : Int) : tY1 → Option (tY1 ⊕ tY1)
  | (_, at__1, o, t38_1) =>
    cond (cond (decide (at__1 < (List.length t38_1 : Int))) (decide (at__1 < o.1)) false)
      ((rd t38_1 at__1).bind fun _ =>
      (rd t38_1 at__1).bind fun _ =>
      some (Sum.inl ((), (w64 (at__1 + 1)), o, (List.set t38_1 (Int.toNat at__1) first_1))))
      (some (Sum.inr ((), at__1, o, t38_1)))
def Of66.l1 (k : Nat) (outs : tY10) (chip : ByteArray) : tY3 → Option (tY3 ⊕ tY7)
  | (first_1, _, at_, t41, t38) =>
    cond (decide (t41 < (List.length outs : Int)))
      (Option.bind
        ((rd outs t41).bind fun t43 =>
        cond (!(streq t43.2.1 chip))
          (some (first_1, (), at_, t38))
          (Option.bind
            (loopN (Of66.l0 k first_1) k ((), at_, t43, t38) : Option tY1) fun ((_, at__2, o_1, t38_3) : tY1) =>
          some (o_1.2.2, (), at__2, t38_3)) : Option tY7) fun ((first_2, _, at__3, t38_4) : tY7) =>
      some (Sum.inl (first_2, (), at__3, (w64 (t41 + 1)), t38_4)))
      (some (Sum.inr (first_1, (), at_, t38)))
def Of66.l2 (k : Nat) (first_3 : Int) : tY11 → Option tY2
  | (_, at__5, t38_6) =>
    cond (decide (at__5 < (List.length t38_6 : Int)))
      ((rd t38_6 at__5).bind fun _ =>
      (rd t38_6 at__5).bind fun _ =>
      some (Sum.inl ((), (w64 (at__5 + 1)), (List.set t38_6 (Int.toNat at__5) first_3))))
      (some (Sum.inr ((), t38_6)))
def Of66.l3 (k : Nat) : tY8 → tY16 → Option (tY8 ⊕ tY4)
  | (_, _, o3), t80 =>
    (Clone72 k t80).bind fun t83 =>
    (if room (List.length o3 + List.length [t83.1]) 24 then some () else none).bind fun _ =>
    some (Sum.inl ((), (), (o3 ++ [t83.1])))
def Of66 (k : Nat) (outs : tY10) (chip : ByteArray) (first : Int) (n : Int) : Option tY4 :=
  (Check100 k outs chip).bind fun t19 =>
  cond (t19.1 != 0)
    (some (([], t19.1, ()), ()))
    (cond (cond (decide (n < 0)) true (decide (n > 40)))
      (some (([], 2, ()), ()))
      (cond (cond (decide (first < 0)) true (decide (first > 15)))
        (some (([], 1, ()), ()))
        (let t37 : Int := (w64 ((w64 (n * 64)) * 40))
        (if 0 ≤ t37 ∧ t37 ≤ t37 ∧ t37 * 8 ≤ 140737488355328 then some () else none).bind fun _ =>
        Option.bind
          (loopN (Of66.l1 k outs chip) k (first, (), 0, 0, (List.replicate (Int.toNat t37) 0)) : Option tY7) fun ((first_3, _, at__4, t38_5) : tY7) =>
        Option.bind
          (loopN (Of66.l2 k first_3) k ((), at__4, t38_5) : Option tY15) fun ((_, t38_8) : tY15) =>
        (Chunk101 k t38_8 2560).bind fun t79 =>
        (chunks t79.1.1 t79.1.2.1).bind fun (xs : List tY16) =>
        rounds (Of66.l3 k) (fun ((_, _, o3_1) : tY8) =>
          some ((o3_1, 0, ()), ())) xs ((), (), []))))
def Of66.A : Ann := { conds := [], blocks := [(0, ⟨[(2, .int .i64), (11, .ms 0), (12, .int .i64)], [(0, .row kY4)], 1, [], 295147902980329590788⟩), (1, ⟨[(2, .int .i64), (11, .ms 0), (12, .int .i64)], [(0, .row kY4)], 1, [], 147573943793583411204⟩), (2, ⟨[(11, .ms 0), (12, .int .i64), (14, .fp kY1)], [(0, .row kY4)], 1, [], 36892925197465686016⟩), (4, ⟨[(11, .ms 0)], [(0, .row kY4)], 1, [], 301936306998477940854784⟩)], loops := [(11, ⟨[(2, .int .i64), (11, .ms 0), (12, .int .i64), (41, .int .i64)], [(0, .row kY4)], 1, [], 295147902980329590788⟩), (14, ⟨[(11, .ms 0), (12, .int .i64), (14, .fp kY1)], [(0, .row kY4)], 1, [], 36892925197465686016⟩), (19, ⟨[(11, .ms 0), (12, .int .i64)], [(0, .row kY4)], 1, [], 301936306998477940854784⟩), (25, ⟨[(15, .ptr 1 [])], [(1, .var (.ms 3)), (3, .row kY3)], 4, [(3, .sl kY4)], 0⟩)], keeps := [14], orders := [(25, [(0, .strong), (1, .strong), (2, .eff true), (3, .eff true), (4, .eff false), (5, .eff false)])] }
def Of66.S : Sig := { f := 66, params := [.sl kY1, .str, .int .i64, .int .i64], objs := [], res := .tup (.pair (.sl kY3) (.pair kY4 .unit)), outs := [], fix := [], run := fun k ds os => Of66 k ds.1 ds.2.1 ds.2.2.1 ds.2.2.2 }
def Of66.G : List Sig := [Check100.S, Chunk101.S, Clone72.S]
theorem Of66.eq (k : Nat) : ∀ ds os, Of66.S.run k ds os = runF ⟨types, Of66.G, Of66.A, k, 0, [Chunk121.I]⟩ Try.f66 (codeOf Try.f66) Of66.S.params Of66.S.objs Of66.S.res Of66.S.outs ds os := by
  intro ds os; kernel_rfl
theorem Of66.dr : DrOk Try.prog Of66.A (codeOf Try.f66) := ⟨by kernel_rfl, by kernel_rfl⟩
theorem Of66.ok (k : Nat) : SoundAt Try.prog k Of66.S :=
  runF_sound (X := ⟨types, Of66.G, Of66.A, k, 0, [Chunk121.I]⟩) types_ok (mem_all (⟨Check100.ok k, ⟨Chunk101.ok k, ⟨Clone72.ok k, trivial⟩⟩⟩)) (fn := Try.f66) (c := codeOf Try.f66) rfl (by kernel_rfl) rfl rfl Of66.dr (Of66.eq k) (fun s hs => by rcases List.mem_singleton.1 hs with rfl; exact Chunk121.iok)
end Go.Proofs.Ytofendipdfepoaa.Ft

/- strings.Builder of this program: the shelf's contracts. -/
set_option linter.unusedVariables false
set_option maxRecDepth 100000
namespace Go.Proofs
open Go.Shelf Go.RowKit
def Try.lays167_ren : Go.Shelf.Ren := ⟨fun | 167 => 64 | 240 => 99 | 276 => 120 | n => n, fun | 37 => 40 | 70 => 109 | 72 => 111 | 75 => 113 | 80 => 115 | 127 => 163 | 164 => 185 | n => n, fun | n => n⟩
theorem Try.lays167 : Go.Proofs.Lays.n167 Try.prog Try.lays167_ren := {
  mixed := by kernel_rfl
  f167 := Try.func64.trans (congrArg some (by kernel_rfl))
  f240 := Try.func99.trans (congrArg some (by kernel_rfl))
  f276 := Try.func120.trans (congrArg some (by kernel_rfl))
  t0 := Try.underlying0
  a0 := Try.isAgg0
  z0 := Try.sizeOf0
  v0 := Try.zeroValue0
  t4 := Try.underlying4
  a4 := Try.isAgg4
  z4 := Try.sizeOf4
  v4 := Try.zeroValue4
  t5 := Try.underlying5
  a5 := Try.isAgg5
  z5 := Try.sizeOf5
  v5 := Try.zeroValue5
  t9 := Try.underlying9
  a9 := Try.isAgg9
  z9 := Try.sizeOf9
  v9 := Try.zeroValue9
  t20 := Try.underlying20
  a20 := Try.isAgg20
  z20 := Try.sizeOf20
  v20 := Try.zeroValue20
  t37 := Try.underlying40
  a37 := Try.isAgg40
  z37 := Try.sizeOf40
  v37 := Try.zeroValue40
  t70 := Try.underlying109
  a70 := Try.isAgg109
  z70 := Try.sizeOf109
  v70 := Try.zeroValue109
  t72 := Try.underlying111
  a72 := Try.isAgg111
  z72 := Try.sizeOf111
  v72 := Try.zeroValue111
  t75 := Try.underlying113
  a75 := Try.isAgg113
  z75 := Try.sizeOf113
  v75 := Try.zeroValue113
  t164 := Try.underlying185
  a164 := Try.isAgg185
  z164 := Try.sizeOf185
  v164 := Try.zeroValue185 }
theorem Try.Builder_Extra_167 : Builder.Extra Try.prog Try.lays167_ren := {
  sizeBuilder := by kernel_rfl
  liesBuilder := by kernel_rfl
  t5 := Try.underlying5
  a5 := Try.isAgg5
  z5 := Try.sizeOf5
  v5 := Try.zeroValue5
  infoByte := by kernel_rfl
  cellsByte := by kernel_rfl
  sizeByte := by kernel_rfl
  neB5 := by decide }
def Try.lays169_ren : Go.Shelf.Ren := ⟨fun | 169 => 65 | n => n, fun | 70 => 109 | 9 => 9 | 0 => 0 | 72 => 111 | 37 => 40 | 127 => 163 | 3 => 3 | 5 => 5 | n => n, fun | n => n⟩
theorem Try.lays169 : Go.Proofs.Lays.n169 Try.prog Try.lays169_ren := {
  mixed := by kernel_rfl
  f169 := Try.func65.trans (congrArg some (by kernel_rfl))
  t0 := Try.underlying0
  a0 := Try.isAgg0
  z0 := Try.sizeOf0
  v0 := Try.zeroValue0
  t3 := Try.underlying3
  a3 := Try.isAgg3
  z3 := Try.sizeOf3
  v3 := Try.zeroValue3
  t9 := Try.underlying9
  a9 := Try.isAgg9
  z9 := Try.sizeOf9
  v9 := Try.zeroValue9
  t37 := Try.underlying40
  a37 := Try.isAgg40
  z37 := Try.sizeOf40
  v37 := Try.zeroValue40
  t70 := Try.underlying109
  a70 := Try.isAgg109
  z70 := Try.sizeOf109
  v70 := Try.zeroValue109
  t72 := Try.underlying111
  a72 := Try.isAgg111
  z72 := Try.sizeOf111
  v72 := Try.zeroValue111
  t127 := Try.underlying163
  a127 := Try.isAgg163
  z127 := Try.sizeOf163
  v127 := Try.zeroValue163 }
theorem Try.Builder_Extra_169 : Builder.Extra Try.prog Try.lays169_ren := {
  sizeBuilder := by kernel_rfl
  liesBuilder := by kernel_rfl
  t5 := Try.underlying5
  a5 := Try.isAgg5
  z5 := Try.sizeOf5
  v5 := Try.zeroValue5
  infoByte := by kernel_rfl
  cellsByte := by kernel_rfl
  sizeByte := by kernel_rfl
  neB5 := by decide }
theorem Try.Builder_WriteByte (B b : Nat) (bs : List Value) (c : Int) (w : World) (h : Lib.IsBuilder 111 5 B b bs w) (hlen : bs.length + 1 ≤ 140737488355328) (hBw : B ≤ w.heap.size) :
    Calls Try.prog 64 #[.pointer (some ⟨b, 0, none⟩), .int .u8 c] w fun e w' => e = .returned .nilIface ∧ (Lib.BuilderAt 111 5 B b (.pointer (some ⟨b, 0, none⟩)) (bs ++ [.int .u8 c]) w' ∧ Below B w w') := Any.Builder_WriteByte Try.lays167 Try.Builder_Extra_167 B b bs c w h hlen hBw
theorem Try.Builder_String_any (B b : Nat) (l : List UInt8) (w : World) (h : Lib.IsBuilder 111 5 B b (Lib.byteCells l) w) (hBw : B ≤ w.heap.size) :
    Calls Try.prog 65 #[.pointer (some ⟨b, 0, none⟩)] w fun e w' => e = .returned (.string ⟨l.toArray⟩) ∧ Below B w w' := Any.Builder_String_any Try.lays169 Try.Builder_Extra_169 B b l w h hBw
end Go.Proofs

/- strings.IndexByte: the library's contract as one of ours. -/
set_option linter.unusedVariables false
noncomputable section
namespace Go.Proofs.Ytofendipdfepoaa.Gp
open Go Go.RowKit Go.Shelf

theorem sr_intX {H : Hp} {L : Ls} {k : IntKind} {n : Int} {x : Value} (h : SR H L ⟨.int k, n⟩ x) : x = .int k n := by
  obtain ⟨us, hus, rfl⟩ := h
  have hus : us = [Value.int k n] := hus
  subst hus
  rfl
theorem sr_strX {H : Hp} {L : Ls} {s : ByteArray} {x : Value} (h : SR H L ⟨.str, s⟩ x) : x = .string s := by
  obtain ⟨us, hus, rfl⟩ := h
  have hus : us = [Value.string s] := hus
  subst hus
  rfl
/-- a contract of a function that only answers, at one fuel: memory below stays -/
theorem pure_at {P : Program} {s : Sig} {k : Nat} (h0 : s.objs = []) (h1 : s.outs = []) (h2 : s.fix = []) (hfn : ∃ fn c, P.funcs[s.f]? = some fn ∧ (fn.name == "runtime.NumGoroutine") = false ∧ fn.body = some c)
    (h : ∀ ds os q, s.run k ds os = some q → ∀ (xs : Array Value) (w : World) (H : Hp) (L : Ls), SRs H L (unpackL s.params ds) xs.toList → HeapOk (assoc O.dead (objsFrom 0 ([] : List OK) ())) H L w → (∀ i, (L i).live = true → i < 0) →
      Calls P s.f xs w fun e w' => ∃ v, e = .returned v ∧ (∀ H' L', SR H' L' ⟨s.res, q.1⟩ v) ∧ Below w.heap.size w w') : SoundAt P k s := by
  obtain ⟨f, params, objs, res, outs, fix, run⟩ := s
  have h0 : objs = [] := h0
  have h1 : outs = [] := h1
  have h2 : fix = [] := h2
  subst h0 h1 h2
  refine ⟨hfn, fun ds os q hq xs w H L hx hp hl => ?_⟩
  refine (h ds os q hq xs w H L hx hp hl).mono fun e w' hh => ?_
  obtain ⟨v, rfl, hv, hb⟩ := hh
  have hno : ∀ (L : Ls) b, ¬ Own (assoc O.dead (objsFrom 0 ([] : List OK) ())) L b := fun L b ⟨i, hi, _⟩ => hi
  refine ⟨v, H, (fun _ => default), rfl, hv _ _, ⟨fun i => trivial, fun b o hbo => ?_, fun i hi => hi.elim, fun i j hi => hi.elim, hp.glob⟩, (fun i hi => by cases hi), ⟨⟨fun _ _ h => h, fun b hlt _ => hb.block b hlt, fun _ _ h => .inl h, fun b hb => absurd hb (hno _ b), hb.size, hb.os, hb.tape, hb.output⟩, (fun i hi => by cases hi), (fun i hi => by cases hi)⟩⟩
  have hlt : b < w.heap.size := (Array.getElem?_eq_some_iff.1 (hp.agree b o hbo)).1
  rw [hb.block b hlt]
  exact hp.agree b o hbo
def ixF (p : ByteArray × Int) : Option Int := some (Lib.indexByte p.1.data.toList p.2.toNat.toUInt8)
def ixS (f : Nat) : Sig := { f := f, params := [.str, .int .u8], objs := [], res := .int .i64, outs := [], fix := [], run := fun _ (ds : ByteArray × Int) _ => (ixF ds).map (fun r => (r, ())) }
theorem ix_sound {P : Program} {ρ : Ren} (Ly : Lays.n137 P ρ) {f : Nat} (hf : ρ.f 137 = f) (hfn : ∃ fn c, P.funcs[f]? = some fn ∧ (fn.name == "runtime.NumGoroutine") = false ∧ fn.body = some c) (k : Nat) : SoundAt P k (ixS f) := by
  subst hf
  refine pure_at rfl rfl rfl hfn (fun (ds : ByteArray × Int) os q hq xs w H L hx hp hl => ?_)
  obtain ⟨s, c⟩ := ds
  have hq : some (Lib.indexByte s.data.toList c.toNat.toUInt8, ()) = some q := hq
  cases hq
  have hxs : xs = #[.string s, .int .u8 c] := by
    have hx : SRs H L [⟨.str, s⟩, ⟨.int .u8, c⟩] xs.toList := hx
    generalize hl' : xs.toList = l at hx
    cases hx with
    | cons h1 h2 =>
      cases h2 with
      | cons h2 h3 =>
        cases h3
        rw [sr_strX h1, sr_intX h2] at hl'
        rw [← Array.toArray_toList (xs := xs), hl']
  subst hxs
  refine (Any.strings_IndexByte Ly s c w).mono ?_
  rintro e w' ⟨rfl, rfl⟩
  exact ⟨_, rfl, fun _ _ => ⟨[Value.int .i64 _], rfl, rfl⟩, Below.refl _ _⟩
end Go.Proofs.Ytofendipdfepoaa.Gp

/- frame.Text by hand: a strings.Builder that is written byte by byte. -/
set_option linter.unusedVariables false
set_option maxRecDepth 100000
namespace Go.Proofs.Ytofendipdfepoaa.Ft
open Go Go.Proofs.Ytofendipdfepoaa.Gp Go.RowKit

def hexS : ByteArray := { data := #[48, 49, 50, 51, 52, 53, 54, 55, 56, 57, 97, 98, 99, 100, 101, 102] }
def hexB (c : Int) : UInt8 := hexS.data.getD c.toNat 0
theorem hex_at (c : Int) (h : c.toNat < hexS.size) : hexS[c.toNat] = hexB c := by
  unfold hexB Array.getD
  rw [dif_pos (show c.toNat < hexS.data.size from h)]
  rfl
def lineB (i : Nat) : List UInt8 := if i % 48 = 47 then [10] else []
def textFrom : List Int → Nat → List UInt8
  | [], _ => []
  | c :: l, i => (hexB c :: lineB i) ++ textFrom l (i + 1)
theorem cell_same {w w' : World} {b i : Nat} (h : w'.heap[b]? = w.heap[b]?) : w'.cell? ⟨b, i, none⟩ = w.cell? ⟨b, i, none⟩ := by
  unfold World.cell?
  simp only [h]
theorem text_walk (xs : Array Value) (w : World) (l : List Int) (er : Int) (hl : l.length ≤ 1000000) (hd : ∀ c ∈ l, 0 ≤ c ∧ c < 16)
    (hs : Calls Try.prog 27 xs w fun e w' => ∃ a c, e = .returned (.tuple #[.slice a l.length c, .int .i64 er]) ∧ (l ≠ [] → ∃ b o, a = some ⟨b, o, none⟩ ∧ b < w'.heap.size ∧ ∀ i x, l[i]? = some x → w'.cell? ⟨b, o + i, none⟩ = some (.int .i64 x)) ∧ Below w.heap.size w w')
    (x : Value) (hx : xs = #[x]) :
    Calls Try.prog 28 #[x] w fun e w' => e = .returned (if er = 0 then .tuple #[.string ⟨(textFrom l 0).toArray⟩, .int .i64 0] else .tuple #[.string .empty, .int .i64 er]) ∧ Below w.heap.size w w' := by
  subst hx
  go_enter Try.func28, Try.ntmps28
  go_wp2_with (go_at_call 27; refine hs.mono ?_)
  rintro e w1 ⟨a, c, rfl, hcell, hb1⟩
  clear hs
  by_cases h0 : er = 0
  · subst h0
    go_wp2
    go_loopw [19] (fun i wr => ∃ (k : Nat) (acc : List UInt8), i = .int .i64 k ∧ k ≤ l.length ∧ Lib.IsBuilder 111 5 w1.heap.size w1.heap.size (Lib.byteCells acc) wr ∧ Below w1.heap.size w1 wr ∧ acc ++ textFrom (l.drop k) k = textFrom l 0 ∧ acc.length ≤ 2 * k) (fun i wr => l.length - (intOf i).toNat)
    case atStart =>
      exact ⟨0, [], rfl, Nat.zero_le _, Lib.fresh_isBuilder 111 5 w1, (Below.refl _ w1).alloc (Nat.le_refl _) _, rfl, Nat.zero_le _⟩
    case round =>
      obtain ⟨k, acc, rfl, hk, hI, hbw, hacc, hal⟩ := hrel
      have hsz : w1.heap.size ≤ wr.heap.size := hbw.size
      by_cases hp : k < l.length
      · obtain ⟨b, o, rfl, hb, hc⟩ := hcell (fun e => by rw [e] at hp; exact absurd hp (by simp))
        have hx : l[k]? = some l[k] := List.getElem?_eq_getElem hp
        obtain ⟨y0, y16⟩ := hd l[k] (List.getElem_mem hp)
        have hdr : l.drop k = l[k] :: l.drop (k + 1) := List.drop_eq_getElem_cons hp
        generalize l[k] = y at hx y0 y16 hdr
        have hcw : wr.cell? ⟨b, o + k, none⟩ = some (.int .i64 y) := (cell_same (hbw.block b hb)).trans (hc k y hx)
        rw [hdr] at hacc
        go_wp2_with (go_at_call 64; refine (Try.Builder_WriteByte w1.heap.size w1.heap.size _ _ wr hI (by rw [Lib.byteCells_length]; omega) hsz).mono ?_)
        rintro e W1 ⟨rfl, hB1, bb1⟩
        have hh : y.toNat < hexS.size := by show y.toNat < 16; omega
        change Lib.BuilderAt 111 5 w1.heap.size w1.heap.size _ (Lib.byteCells acc ++ [Value.int .u8 ((hexS[y.toNat]'hh).toNat : Int)]) W1 at hB1
        rw [hex_at y hh] at hB1
        have e1 : Lib.byteCells acc ++ [Value.int .u8 ((hexB y).toNat : Int)] = Lib.byteCells (acc ++ [hexB y]) := by rw [Lib.byteCells_append]; rfl
        rw [e1] at hB1
        have hsz1 : w1.heap.size ≤ W1.heap.size := by have := bb1.size; omega
        have hI1 : Lib.IsBuilder 111 5 w1.heap.size w1.heap.size (Lib.byteCells (acc ++ [hexB y])) W1 := Or.inr hB1
        have hlen1 : (Lib.byteCells (acc ++ [hexB y])).length + 1 ≤ 140737488355328 := by rw [Lib.byteCells_length, List.length_append, List.length_singleton]; omega
        by_cases hm : (k : Int) % 48 = 47
        · have hm2 : ((k : Int) % 48 == 47) = true := by simpa using hm
          go_wp2_with (go_at_call 64; refine (Try.Builder_WriteByte w1.heap.size w1.heap.size _ 10 W1 hI1 hlen1 hsz1).mono ?_)
          rintro e W2 ⟨rfl, hB2, bb2⟩
          have e2 : Lib.byteCells (acc ++ [hexB y]) ++ [Value.int .u8 10] = Lib.byteCells (acc ++ [hexB y] ++ [10]) := by rw [Lib.byteCells_append (acc ++ [hexB y])]; rfl
          rw [e2] at hB2
          go_wp2
          go_roundw
          case rel =>
            refine ⟨k + 1, acc ++ [hexB y] ++ [10], by go_num, hp, .inr hB2, (hbw.trans bb1).trans bb2, ?_, by simp; omega⟩
            rw [← hacc]
            show _ = acc ++ ((hexB y :: lineB k) ++ textFrom (l.drop (k + 1)) (k + 1))
            rw [show lineB k = [10] from if_pos (by omega)]
            simp
          case measure => simp [intOf]; omega
        · have hm2 : ((k : Int) % 48 == 47) = false := by simpa using hm
          go_wp2
          go_roundw
          case rel =>
            refine ⟨k + 1, acc ++ [hexB y], by go_num, hp, .inr hB1, hbw.trans bb1, ?_, by simp; omega⟩
            rw [← hacc]
            show _ = acc ++ ((hexB y :: lineB k) ++ textFrom (l.drop (k + 1)) (k + 1))
            rw [show lineB k = [] from if_neg (by omega)]
            simp
          case measure => simp [intOf]; omega
      · go_wp2_with (go_at_call 65; refine (Try.Builder_String_any w1.heap.size w1.heap.size acc _ hI hsz).mono ?_)
        rintro e W1 ⟨rfl, bb1⟩
        go_wp2
        go_ret2
        have hkl : k = l.length := by omega
        rw [hkl, List.drop_length] at hacc
        have hacc : acc = textFrom l 0 := by rw [← hacc]; exact (List.append_nil acc).symm
        subst hacc
        exact ⟨rfl, hb1.trans (((hbw.trans bb1)).mono hb1.size)⟩
  · go_wp2
    go_ret2
    exact ⟨rfl, hb1⟩
-- as one of our contracts
theorem lvInt {H : Hp} {L : Ls} : ∀ {l : List Int} {vs : List Value}, LvL (Lv H L (.int .i64)) l vs → vs = l.map (Value.int .i64)
  | [], vs, h => h
  | x :: r, vs, ⟨a, b, e, h1, h2⟩ => by
    have h1 : a = [Value.int .i64 x] := h1
    rw [e, h1, lvInt h2]
    rfl
open Classical in
noncomputable def textR (s : Option ((List Int × Int × Unit) × Unit)) : Option ((ByteArray × (Int × Unit)) × Unit) :=
  s.bind fun r => if r.1.1.length ≤ 1000000 ∧ ∀ c ∈ r.1.1, 0 ≤ c ∧ c < 16 then some (if r.1.2.1 = 0 then ((⟨(textFrom r.1.1 0).toArray⟩, 0, ()), ()) else ((.empty, r.1.2.1, ()), ())) else none
noncomputable def textS (f : Nat) : Sig := { f := f, params := [.sl (.int .i64)], objs := [], res := .tup (.pair .str (.pair (.int .i64) .unit)), outs := [], fix := [], run := fun k (f : List Int) _ => textR (Seen27 k f) }
theorem one_arg {H : Hp} {L : Ls} {v : Val} {xs : Array Value} (hx : SRs H L [v] xs.toList) : ∃ x, xs = #[x] := by
  generalize hl' : xs.toList = l at hx
  cases hx with
  | cons h1 h2 =>
    cases h2
    exact ⟨_, by rw [← Array.toArray_toList (xs := xs), hl']⟩
theorem text_sound (k : Nat) : SoundAt Try.prog k (textS 28) := by
  refine pure_at rfl rfl rfl ⟨Try.f28, codeOf Try.f28, rfl, by kernel_rfl, rfl⟩ (fun (f : List Int) os q hq xs w H L hx hp hl => ?_)
  have hq : textR (Seen27 k f) = some q := hq
  obtain ⟨r, hr, hq⟩ := Option.bind_eq_some_iff.1 hq
  split at hq
  case isFalse => cases hq
  rename_i hok
  obtain ⟨hlen, hd⟩ := hok
  cases hq
  obtain ⟨x, rfl⟩ := one_arg hx
  have hseen := (Seen27.ok k).2 f () r hr #[x] w H L hx hp hl
  have hs : Calls Try.prog 27 #[x] w fun e w' => ∃ a c, e = .returned (.tuple #[.slice a r.1.1.length c, .int .i64 r.1.2.1]) ∧ (r.1.1 ≠ [] → ∃ b o, a = some ⟨b, o, none⟩ ∧ b < w'.heap.size ∧ ∀ i x, r.1.1[i]? = some x → w'.cell? ⟨b, o + i, none⟩ = some (.int .i64 x)) ∧ Below w.heap.size w w' := by
    refine hseen.mono ?_
    rintro e w' ⟨v, H', L', rfl, hv, hp', hl', hpost⟩
    obtain ⟨l', rfl, v1, r1, rfl, ⟨us, ⟨_, a, c, rfl, hlc, hmem⟩, rfl⟩, v2, r2, rfl, ⟨us2, hus2, rfl⟩, hr2⟩ := hv
    have hus2 : us2 = [Value.int .i64 r.1.2.1] := hus2
    subst hus2
    have hr2 : r2 = [] := hr2
    subst hr2
    have fr := hpost.fr
    have hno : ∀ (L : Ls) b, ¬ Gp.Own (assoc O.dead (objsFrom 0 ([] : List OK) ())) L b := fun L b ⟨i, hi, _⟩ => hi
    refine ⟨a, c, rfl, fun hne => ?_, ⟨fr.os, fr.tape, fr.output, fr.size, fun b hb => fr.same b hb (hno _ b)⟩⟩
    obtain ⟨b, o, cs, e, z, rfl, hb, hcs⟩ := hmem (fun h => hne (List.length_eq_zero_iff.1 h))
    have hhp := hp'.agree b _ hb
    refine ⟨b, o, rfl, (Array.getElem?_eq_some_iff.1 hhp).1, fun i x hi => ?_⟩
    have hcs := lvInt hcs
    have hi' := (List.getElem?_eq_some_iff.1 hi).1
    unfold World.cell?
    show (match w'.heap[b]? with | some (.cells c _ _) => if false = true then none else c[o + i]? | _ => none) = _
    rw [hhp]
    show cs[o + i]? = _
    have h1 : ((cs.toList.drop o).take (r.1.1.length * 1))[i]? = some (.int .i64 x) := by
      have : (cs.toList.drop o).take (r.1.1.length * 1) = r.1.1.map (Value.int .i64) := hcs
      rw [this, List.getElem?_map, hi]; rfl
    rw [List.getElem?_take, if_pos (by omega), List.getElem?_drop, Array.getElem?_toList] at h1
    exact h1
  refine (text_walk #[x] w r.1.1 r.1.2.1 hlen hd hs x rfl).mono ?_
  rintro e w' ⟨rfl, hb⟩
  by_cases h0 : r.1.2.1 = 0
  · rw [if_pos h0, if_pos h0]
    exact ⟨_, rfl, fun H' L' => ⟨_, rfl, _, _, rfl, ⟨[.string _], rfl, rfl⟩, _, _, rfl, ⟨[.int .i64 _], rfl, rfl⟩, rfl⟩, hb⟩
  · rw [if_neg h0, if_neg h0]
    exact ⟨_, rfl, fun H' L' => ⟨_, rfl, _, _, rfl, ⟨[.string _], rfl, rfl⟩, _, _, rfl, ⟨[.int .i64 _], rfl, rfl⟩, rfl⟩, hb⟩
end Go.Proofs.Ytofendipdfepoaa.Ft

/-
  DERIVED: THE SHELF's CONTRACTS AT THIS DUMP, IN PLAIN WORDS (tools/lay-plain.mjs out of 'YtofendipdfepoaaShelf.lean', which tools/lay-shelf.mjs wrote): THE SAME DECLARATIONS UNDER THE SAME NAMES: 'import', 'namespace', 'open', 'def', 'theorem' AND NOTHING ELSE: no command of the shelf's: FOR A HAND-IN. Each laying: the table of numbers ('.._ren') and one theorem, a field a fact of the dump's own or the kernel's comparison; each contract: ONE APPLICATION.
-/
namespace Go.Proofs
open Go.Shelf
def Try.lays137_ren : Go.Shelf.Ren := ⟨fun | 137 => 31 | 217 => 67 | 266 => 102 | n => n, fun | 9 => 9 | 5 => 5 | 3 => 3 | n => n, fun | n => n⟩
theorem Try.lays137 : Go.Proofs.Lays.n137 Try.prog Try.lays137_ren := {
  mixed := by kernel_rfl
  f137 := Try.func31.trans (congrArg some (by kernel_rfl))
  f217 := Try.func67.trans (congrArg some (by kernel_rfl))
  f266 := Try.func102.trans (congrArg some (by kernel_rfl))
  t3 := Try.underlying3
  a3 := Try.isAgg3
  z3 := Try.sizeOf3
  v3 := Try.zeroValue3
  t5 := Try.underlying5
  a5 := Try.isAgg5
  z5 := Try.sizeOf5
  v5 := Try.zeroValue5
  t9 := Try.underlying9
  a9 := Try.isAgg9
  z9 := Try.sizeOf9
  v9 := Try.zeroValue9 }
end Go.Proofs

/- Given contracts. -/
set_option linter.unusedVariables false
set_option maxRecDepth 100000
noncomputable section
namespace Go.Proofs.Ytofendipdfepoaa.Ft
open Go Go.Proofs.Ytofendipdfepoaa.Gp
def Text28 (k : Nat) (f : List Int) : Option ((ByteArray × (Int × Unit)) × Unit) := textR (Seen27 k f)
def Text28.S : Sig := textS 28
theorem Text28.ok (k : Nat) : SoundAt Try.prog k Text28.S := text_sound k

def IndexByte31 (k : Nat) (s : ByteArray) (c : Int) : Option (Int × Unit) := (ixF (s, c)).map (fun r => (r, ()))
def IndexByte31.S : Sig := ixS 31
theorem IndexByte31.ok (k : Nat) : SoundAt Try.prog k IndexByte31.S := ix_sound Try.lays137 rfl ⟨Try.f31, codeOf Try.f31, rfl, by kernel_rfl, rfl⟩ k
end Go.Proofs.Ytofendipdfepoaa.Ft

/- Go functions as plain Lean functions, and their contracts. -/
set_option linter.unusedVariables false
set_option maxRecDepth 100000
noncomputable section
namespace Go.Proofs.Ytofendipdfepoaa.Ft
open Go Go.Proofs.Ytofendipdfepoaa.Gp
def seen29 (k : Nat) : Option (Bool × Unit) :=
  (Of66 k [(1, (ByteArray.mk #[118]), 3)] (ByteArray.mk #[118]) 2 1).bind fun t6 =>
  Option.bind (cond (cond (t6.1.2.1 == 0) ((List.length t6.1.1 : Int) == 1) false)
    ((rd t6.1.1 0).bind fun t18 =>
    some ((List.length t18 : Int) == 2560))
    (some false)) fun t22 =>
  Option.bind (cond t22
    ((rd t6.1.1 0).bind fun t25 =>
    (rd t25 0).bind fun t27 =>
    some (t27 == 2))
    (some false)) fun t30 =>
  Option.bind (cond t30
    ((rd t6.1.1 0).bind fun t33 =>
    (rd t33 1).bind fun t35 =>
    some (t35 == 3))
    (some false)) fun t38 =>
  some (t38, ())
def seen29.A : Ann := { conds := [], blocks := [], loops := [], keeps := [], orders := [] }
def seen29.S : Sig := { f := 29, params := [], objs := [], res := .bool, outs := [], fix := [], run := fun k ds os => seen29 k }
def seen29.G : List Sig := [Of66.S]
theorem seen29.eq (k : Nat) : ∀ ds os, seen29.S.run k ds os = runF ⟨types, seen29.G, seen29.A, k, 0, []⟩ Try.f29 (codeOf Try.f29) seen29.S.params seen29.S.objs seen29.S.res seen29.S.outs ds os := by
  intro ds os; kernel_rfl
theorem seen29.dr : DrOk Try.prog seen29.A (codeOf Try.f29) := ⟨by kernel_rfl, by kernel_rfl⟩
theorem seen29.ok (k : Nat) : SoundAt Try.prog k seen29.S :=
  runF_sound (X := ⟨types, seen29.G, seen29.A, k, 0, []⟩) types_ok (mem_all (⟨Of66.ok k, trivial⟩)) (fn := Try.f29) (c := codeOf Try.f29) rfl (by kernel_rfl) rfl rfl seen29.dr (seen29.eq k)

def Equal20.l0 (k : Nat) (s1 : tY16) (s2 : tY16) : Int → Option (Int ⊕ tY13)
  | t13 =>
    cond (decide (t13 < (List.length s1 : Int)))
      ((rd s1 t13).bind fun t18 =>
      (rd s2 t13).bind fun t22 =>
      cond (t18 != t22)
        (some (Sum.inr (Sum.inr (false, ()))))
        (some (Sum.inl (w64 (t13 + 1)))))
      (some (Sum.inr (Sum.inl ())))
def Equal20 (k : Nat) (s1 : tY16) (s2 : tY16) : Option (Bool × Unit) :=
  cond ((List.length s1 : Int) != (List.length s2 : Int))
    (some (false, ()))
    (Option.bind
      (loopN (Equal20.l0 k s1 s2) k 0 : Option tY13) (joined fun (_ : Unit) =>
      some (true, ())))
def Equal20.A : Ann := { conds := [], blocks := [(0, ⟨[], [], 0, [], 67100720⟩)], loops := [(4, ⟨[(13, .int .i64)], [], 0, [], 67100720⟩)], keeps := [], orders := [(6, [(0, .strong), (1, .strong), (2, .strong), (3, .strong), (4, .strong), (5, .strong), (6, .strong), (7, .strong), (8, .strong)])] }
def Equal20.S : Sig := { f := 20, params := [.sl kY4, .sl kY4], objs := [], res := .bool, outs := [], fix := [], run := fun k ds os => Equal20 k ds.1 ds.2 }
def Equal20.G : List Sig := []
theorem Equal20.eq (k : Nat) : ∀ ds os, Equal20.S.run k ds os = runF ⟨types, Equal20.G, Equal20.A, k, 0, []⟩ Try.f20 (codeOf Try.f20) Equal20.S.params Equal20.S.objs Equal20.S.res Equal20.S.outs ds os := by
  intro ds os; kernel_rfl
theorem Equal20.dr : DrOk Try.prog Equal20.A (codeOf Try.f20) := ⟨by kernel_rfl, by kernel_rfl⟩
theorem Equal20.ok (k : Nat) : SoundAt Try.prog k Equal20.S :=
  runF_sound (X := ⟨types, Equal20.G, Equal20.A, k, 0, []⟩) types_ok (fun s hs => absurd hs List.not_mem_nil) (fn := Try.f20) (c := codeOf Try.f20) rfl (by kernel_rfl) rfl rfl Equal20.dr (Equal20.eq k)

def Read30.l0 (k : Nat) (border : Int) : tY11 → Option tY2
  | (_, t24, t21) =>
    cond (decide (t24 < (List.length (List.replicate (Int.toNat 2560) 0) : Int)))
      ((rd t21 t24).bind fun _ =>
      (rd t21 t24).bind fun _ =>
      some (Sum.inl ((), (w64 (t24 + 1)), (List.set t21 (Int.toNat t24) border))))
      (some (Sum.inr ((), t21)))
def Read30.l1 (k : Nat) (s : ByteArray) : tY11 → Option tY0
  | (_, t34, t21_3) =>
    cond (decide (t34 < (ByteArray.size s : Int)))
      (Option.bind
        (let t38 : Int := (Int.tmod t34 49)
        cond (t38 == 48)
          ((rd (bytesOf s) t34).bind fun t45 =>
          cond (t45 != 10)
            (some (Sum.inr (Sum.inr (Sum.inr (([], 3, ()), ())))))
            (some (Sum.inl ((), t21_3))))
          ((rd (bytesOf s) t34).bind fun t49 =>
          (IndexByte31 k (ByteArray.mk #[48, 49, 50, 51, 52, 53, 54, 55, 56, 57, 97, 98, 99, 100, 101, 102]) t49).bind fun t50 =>
          cond (decide (t50.1 < 0))
            (some (Sum.inr (Sum.inr (Sum.inr (([], 14, ()), ())))))
            (let t57 : Int := (w64 ((w64 ((quoI .i64 t34 49) * 64)) + t38))
            (rd t21_3 t57).bind fun _ =>
            (rd t21_3 t57).bind fun _ =>
            some (Sum.inl ((), (List.set t21_3 (Int.toNat t57) t50.1))))) : Option (tY15 ⊕ tY0)) (joined fun ((_, t21_5) : tY15) =>
        some (Sum.inl ((), (w64 (t34 + 1)), t21_5))))
      (some (Sum.inr (Sum.inl ((), t21_3))))
def Read30 (k : Nat) (s : ByteArray) (border : Int) : Option tY6 :=
  cond (cond (decide (border < 0)) true (decide (border > 15)))
    (some (([], 1, ()), ()))
    (cond ((ByteArray.size s : Int) != 1568)
      (some (([], 3, ()), ()))
      ((if 0 ≤ 2560 ∧ 2560 ≤ 2560 ∧ 2560 * 8 ≤ 140737488355328 then some () else none).bind fun _ =>
      Option.bind
        (loopN (Read30.l0 k border) k ((), 0, (List.replicate (Int.toNat 2560) 0)) : Option tY15) fun ((_, t21_2) : tY15) =>
      Option.bind
        (loopN (Read30.l1 k s) k ((), 0, t21_2) : Option (tY15 ⊕ tY6)) (joined fun ((_, t21_6) : tY15) =>
        some ((t21_6, 0, ()), ()))))
def Read30.A : Ann := { conds := [], blocks := [(0, ⟨[(6, .ms 0)], [(0, .row kY4)], 1, [], 4278190208⟩), (2, ⟨[(6, .ms 0)], [(0, .row kY4)], 1, [], 2305842992033828656⟩), (3, ⟨[(6, .ms 0)], [(0, .row kY4)], 1, [], 1152921435887374128⟩)], loops := [(7, ⟨[(6, .ms 0), (24, .int .i64)], [(0, .row kY4)], 1, [], 4278190208⟩), (12, ⟨[(6, .ms 0), (34, .int .i64)], [(0, .row kY4)], 1, [], 2305842992033828656⟩)], keeps := [], orders := [] }
def Read30.S : Sig := { f := 30, params := [.str, .int .i64], objs := [], res := .tup kY0, outs := [], fix := [], run := fun k ds os => Read30 k ds.1 ds.2 }
def Read30.G : List Sig := [IndexByte31.S]
theorem Read30.eq (k : Nat) : ∀ ds os, Read30.S.run k ds os = runF ⟨types, Read30.G, Read30.A, k, 0, []⟩ Try.f30 (codeOf Try.f30) Read30.S.params Read30.S.objs Read30.S.res Read30.S.outs ds os := by
  intro ds os; kernel_rfl
theorem Read30.dr : DrOk Try.prog Read30.A (codeOf Try.f30) := ⟨by kernel_rfl, by kernel_rfl⟩
theorem Read30.ok (k : Nat) : SoundAt Try.prog k Read30.S :=
  runF_sound (X := ⟨types, Read30.G, Read30.A, k, 0, []⟩) types_ok (mem_all (⟨IndexByte31.ok k, trivial⟩)) (fn := Try.f30) (c := codeOf Try.f30) rfl (by kernel_rfl) rfl rfl Read30.dr (Read30.eq k)

def Equal32.l0 (k : Nat) (s1 : tY16) (s2 : tY16) : Int → Option (Int ⊕ tY13)
  | t13 =>
    cond (decide (t13 < (List.length s1 : Int)))
      ((rd s1 t13).bind fun t18 =>
      (rd s2 t13).bind fun t22 =>
      cond (t18 != t22)
        (some (Sum.inr (Sum.inr (false, ()))))
        (some (Sum.inl (w64 (t13 + 1)))))
      (some (Sum.inr (Sum.inl ())))
def Equal32 (k : Nat) (s1 : tY16) (s2 : tY16) : Option (Bool × Unit) :=
  cond ((List.length s1 : Int) != (List.length s2 : Int))
    (some (false, ()))
    (Option.bind
      (loopN (Equal32.l0 k s1 s2) k 0 : Option tY13) (joined fun (_ : Unit) =>
      some (true, ())))
def Equal32.A : Ann := { conds := [], blocks := [(0, ⟨[], [], 0, [], 67100720⟩)], loops := [(4, ⟨[(13, .int .i64)], [], 0, [], 67100720⟩)], keeps := [], orders := [(6, [(0, .strong), (1, .strong), (2, .strong), (3, .strong), (4, .strong), (5, .strong), (6, .strong), (7, .strong), (8, .strong)])] }
def Equal32.S : Sig := { f := 32, params := [.sl kY4, .sl kY4], objs := [], res := .bool, outs := [], fix := [], run := fun k ds os => Equal32 k ds.1 ds.2 }
def Equal32.G : List Sig := []
theorem Equal32.eq (k : Nat) : ∀ ds os, Equal32.S.run k ds os = runF ⟨types, Equal32.G, Equal32.A, k, 0, []⟩ Try.f32 (codeOf Try.f32) Equal32.S.params Equal32.S.objs Equal32.S.res Equal32.S.outs ds os := by
  intro ds os; kernel_rfl
theorem Equal32.dr : DrOk Try.prog Equal32.A (codeOf Try.f32) := ⟨by kernel_rfl, by kernel_rfl⟩
theorem Equal32.ok (k : Nat) : SoundAt Try.prog k Equal32.S :=
  runF_sound (X := ⟨types, Equal32.G, Equal32.A, k, 0, []⟩) types_ok (fun s hs => absurd hs List.not_mem_nil) (fn := Try.f32) (c := codeOf Try.f32) rfl (by kernel_rfl) rfl rfl Equal32.dr (Equal32.eq k)
end Go.Proofs.Ytofendipdfepoaa.Ft

/- Go functions as plain Lean functions, and their contracts. -/
set_option linter.unusedVariables false
set_option maxRecDepth 100000
noncomputable section
namespace Go.Proofs.Ytofendipdfepoaa.Ft
open Go Go.Proofs.Ytofendipdfepoaa.Gp
def FrameTexts5.l0 (k : Nat) (f : tY16) : tY5 → Option (tY5 ⊕ tY9)
  | (_, text, t49, o1) =>
    cond (decide (t49 < (List.length f : Int)))
      ((rd f t49).bind fun t52 =>
      Option.bind
        (cond (cond (decide ((Int.tmod t49 64) < 48)) (decide ((quoI .i64 t49 64) < 32)) false)
          ((if room (List.length o1 + List.length ([t52] : List Int)) 8 then some () else none).bind fun _ =>
          (rd (bytesOf (ByteArray.mk #[48, 49, 50, 51, 52, 53, 54, 55, 56, 57, 97, 98, 99, 100, 101, 102])) t52).bind fun t68 =>
          (catS text (strOf ([t68] : List Int))).bind fun t71 =>
          some ((), t71, (o1 ++ ([t52] : List Int))))
          (some ((), text, o1)) : Option tY9) fun ((_, text_1, o1_1) : tY9) =>
      Option.bind
        (cond (cond ((Int.tmod t49 64) == 48) (decide ((quoI .i64 t49 64) < 32)) false)
          ((catS text_1 (ByteArray.mk #[10])).bind fun t81 =>
          some ((), t81, o1_1))
          (some ((), text_1, o1_1)) : Option tY9) fun ((_, text_2, o1_2) : tY9) =>
      some (Sum.inl ((), text_2, (w64 (t49 + 1)), o1_2)))
      (some (Sum.inr ((), text, o1)))
def FrameTexts5.l1 (k : Nat) (border : Int) : tY11 → Option tY2
  | (_, t108, t105) =>
    cond (decide (t108 < (List.length (List.replicate (Int.toNat 2560) 0) : Int)))
      ((rd t105 t108).bind fun _ =>
      (rd t105 t108).bind fun _ =>
      some (Sum.inl ((), (w64 (t108 + 1)), (List.set t105 (Int.toNat t108) border))))
      (some (Sum.inr ((), t105)))
def FrameTexts5.l2 (k : Nat) (s : ByteArray) : tY7 → Option (tY7 ⊕ tY12)
  | (e_2, _, i, t105_5) =>
    cond (cond (e_2 == 0) (decide (i < (ByteArray.size s : Int))) false)
      ((rd (bytesOf s) i).bind fun t139 =>
      (IndexByte31 k (ByteArray.mk #[48, 49, 50, 51, 52, 53, 54, 55, 56, 57, 97, 98, 99, 100, 101, 102]) t139).bind fun t140 =>
      Option.bind (cond ((Int.tmod i 49) == 48)
        ((rd (bytesOf s) i).bind fun t148 =>
        some (t148 != 10))
        (some false)) fun t150 =>
      Option.bind
        (cond t150
          (some (3, (), t105_5))
          (Option.bind
            (cond (cond (decide ((Int.tmod i 49) < 48)) (decide (t140.1 < 0)) false)
              (some (14, (), t105_5))
              (Option.bind
                (cond (decide ((Int.tmod i 49) < 48))
                  (let t169 : Int := (w64 ((w64 ((quoI .i64 i 49) * 64)) + (Int.tmod i 49)))
                  (rd t105_5 t169).bind fun _ =>
                  (rd t105_5 t169).bind fun _ =>
                  some ((), (List.set t105_5 (Int.toNat t169) t140.1)))
                  (some ((), t105_5)) : Option tY15) fun ((_, t105_7) : tY15) =>
              some (e_2, (), t105_7)) : Option tY12) fun ((e_3, _, t105_8) : tY12) =>
          some (e_3, (), t105_8)) : Option tY12) fun ((e_4, _, t105_9) : tY12) =>
      some (Sum.inl (e_4, (), (w64 (i + 1)), t105_9)))
      (some (Sum.inr (e_2, (), t105_5)))
def FrameTexts5 (k : Nat) (f : tY16) (s : ByteArray) (border : Int) : Option (Bool × Unit) :=
  (Right26 k f).bind fun t22 =>
  (Seen27 k f).bind fun t25 =>
  (Text28 k f).bind fun t30 =>
  (seen29 k).bind fun t33 =>
  cond (cond (cond (!t33.1) true (t25.1.2.1 != t22.1)) true (t30.1.2.1 != t22.1))
    (some (false, ()))
    (Option.bind
      (cond (t22.1 == 0)
        (Option.bind
          (loopN (FrameTexts5.l0 k f) k ((), (ByteArray.mk #[]), 0, []) : Option tY9) fun ((_, text_3, o1_3) : tY9) =>
        (Equal20 k t25.1.1 o1_3).bind fun t85 =>
        cond (cond (!t85.1) true (!(streq t30.1.1 text_3)))
          (some (Sum.inr (false, ())))
          (some (Sum.inl ())))
        (cond (cond (decide ((List.length t25.1.1 : Int) > 0)) true (!(streq t30.1.1 (ByteArray.mk #[]))))
          (some (Sum.inr (false, ())))
          (some (Sum.inl ()))) : Option tY13) (joined fun (_ : Unit) =>
      (Read30 k s border).bind fun t102 =>
      (if 0 ≤ 2560 ∧ 2560 ≤ 2560 ∧ 2560 * 8 ≤ 140737488355328 then some () else none).bind fun _ =>
      Option.bind
        (loopN (FrameTexts5.l1 k border) k ((), 0, (List.replicate (Int.toNat 2560) 0)) : Option tY15) fun ((_, t105_2) : tY15) =>
      Option.bind
        (cond (cond (decide (border < 0)) true (decide (border > 15)))
          (some (1, (), t105_2))
          (Option.bind
            (cond ((ByteArray.size s : Int) != 1568)
              (some (3, (), t105_2))
              (some (0, (), t105_2)) : Option tY12) fun ((e, _, t105_3) : tY12) =>
          some (e, (), t105_3)) : Option tY12) fun ((e_1, _, t105_4) : tY12) =>
      Option.bind
        (loopN (FrameTexts5.l2 k s) k (e_1, (), 0, t105_4) : Option tY12) fun ((e_5, _, t105_10) : tY12) =>
      Option.bind
        (cond (e_5 != 0)
          (some [])
          (some t105_10) : Option tY16) fun (want : tY16) =>
      Option.bind (cond (t102.1.2.1 == e_5)
        ((Equal32 k t102.1.1 want).bind fun t180 =>
        some t180.1)
        (some false)) fun t181 =>
      some (t181, ())))
def FrameTexts5.A : Ann := { conds := [(3014663, ⟨[], [], 0, [], 633825300114114560010863308864⟩), (3997709, ⟨[(12, .ms 1), (13, .str)], [(1, .row kY4)], 2, [], 4717754796851217838080⟩), (5177360, ⟨[(12, .ms 1), (13, .str)], [(1, .row kY4)], 2, [], 3626777458843887524126720⟩), (7602207, ⟨[(7, .int .i64), (17, .ms 0)], [(0, .row kY4)], 1, [], 159507359494189904748456847233641349248⟩), (8060961, ⟨[(7, .int .i64), (17, .ms 0)], [(0, .row kY4)], 1, [], 128⟩), (9240615, ⟨[(7, .int .i64), (17, .ms 0)], [(0, .row kY4)], 1, [], 5986307852011992941042530958233956349520426930536576⟩), (9895977, ⟨[(7, .int .i64), (17, .ms 0)], [(0, .row kY4)], 1, [], 5985579955688712901503191232389537107000871729758336⟩), (10420267, ⟨[(17, .ms 0)], [(0, .row kY4)], 1, [], 5974618693408731129616663596144164984353452235685888⟩), (11337773, ⟨[(17, .sl kY4)], [], 0, [], 131072⟩)], blocks := [(0, ⟨[(12, .ms 1), (13, .str)], [(1, .row kY4)], 2, [], 9671406556354083444289536⟩), (2, ⟨[(17, .ms 0)], [(0, .row kY4)], 1, [], 82752231182898815329704785247207424⟩), (5, ⟨[(7, .int .i64), (17, .ms 0)], [(0, .row kY4)], 1, [], 5986310706507208211778832605574163561206983813496960⟩)], loops := [(10, ⟨[(12, .ms 1), (13, .str), (49, .int .i64)], [(1, .row kY4)], 2, [(1, .int .i64)], 9671406556354083444289536⟩), (25, ⟨[(17, .ms 0), (108, .int .i64)], [(0, .row kY4)], 1, [], 82752231182898815329704785247207424⟩), (35, ⟨[(7, .int .i64), (17, .ms 0), (19, .int .i64)], [(0, .row kY4)], 1, [], 5986310706507208211778832605574163561206983813496960⟩)], keeps := [], orders := [] }
def FrameTexts5.S : Sig := { f := 5, params := [.sl kY4, .str, .int .i64], objs := [], res := .bool, outs := [], fix := [], run := fun k ds os => FrameTexts5 k ds.1 ds.2.1 ds.2.2 }
def FrameTexts5.G : List Sig := [Equal20.S, Equal32.S, IndexByte31.S, Read30.S, Right26.S, Seen27.S, Text28.S, seen29.S]
theorem FrameTexts5.eq (k : Nat) : ∀ ds os, FrameTexts5.S.run k ds os = runF ⟨types, FrameTexts5.G, FrameTexts5.A, k, 0, []⟩ Try.f5 (codeOf Try.f5) FrameTexts5.S.params FrameTexts5.S.objs FrameTexts5.S.res FrameTexts5.S.outs ds os := by
  intro ds os; kernel_rfl
theorem FrameTexts5.dr : DrOk Try.prog FrameTexts5.A (codeOf Try.f5) := ⟨by kernel_rfl, by kernel_rfl⟩
theorem FrameTexts5.ok (k : Nat) : SoundAt Try.prog k FrameTexts5.S :=
  runF_sound (X := ⟨types, FrameTexts5.G, FrameTexts5.A, k, 0, []⟩) types_ok (mem_all (⟨Equal20.ok k, ⟨Equal32.ok k, ⟨IndexByte31.ok k, ⟨Read30.ok k, ⟨Right26.ok k, ⟨Seen27.ok k, ⟨Text28.ok k, ⟨seen29.ok k, trivial⟩⟩⟩⟩⟩⟩⟩⟩)) (fn := Try.f5) (c := codeOf Try.f5) rfl (by kernel_rfl) rfl rfl FrameTexts5.dr (FrameTexts5.eq k)
end Go.Proofs.Ytofendipdfepoaa.Ft

/- What is left of a Go function, in the long run: rounds, loops, lists, numbers. No program in sight. -/
set_option linter.unusedVariables false
noncomputable section
namespace Go.Proofs.Ytofendipdfepoaa.Gp
open Go

/-- from some fuel on, f answers v -/
def Ev {α : Type} (f : Nat → Option α) (v : α) : Prop := ∃ n, ∀ k, n ≤ k → f k = some v
/-- .. a loop, from some fuel on and with enough rounds -/
def Lp {S R : Type} (body : Nat → S → Option (S ⊕ R)) (s : S) (r : R) : Prop := ∃ n m, ∀ k, n ≤ k → ∀ j, m ≤ j → loopN (body k) j s = some r

theorem Ev.ex {α : Type} {f : Nat → Option α} {v : α} (h : Ev f v) : ∃ k, f k = some v := by
  obtain ⟨n, h⟩ := h
  exact ⟨n, h n (Nat.le_refl _)⟩
theorem Ev.now {α : Type} (v : α) : Ev (fun _ => some v) v := ⟨0, fun _ _ => rfl⟩
theorem Ev.now' {α : Type} {v w : α} (h : v = w) : Ev (fun _ => some v) w := h ▸ .now v
/-- what hangs on no fuel -/
theorem Ev.const {α : Type} {o : Option α} {v : α} (h : o = some v) : Ev (fun _ => o) v := ⟨0, fun _ _ => h⟩
theorem Ev.to {α : Type} {f : Nat → Option α} {v w : α} (h : Ev f v) (e : v = w) : Ev f w := e ▸ h
theorem Ev.of {α : Type} {f g : Nat → Option α} {v : α} (h : Ev f v) (e : ∀ k, g k = f k) : Ev g v := by
  obtain ⟨n, h⟩ := h
  exact ⟨n, fun k hk => (e k).trans (h k hk)⟩
theorem Ev.bind {α β : Type} {f : Nat → Option α} {g : Nat → α → Option β} {a : α} {b : β} (h : Ev f a) (h2 : Ev (fun k => g k a) b) : Ev (fun k => (f k).bind (g k)) b := by
  obtain ⟨n, h⟩ := h
  obtain ⟨m, h2⟩ := h2
  refine ⟨max n m, fun k hk => ?_⟩
  show (f k).bind (g k) = _
  rw [h k (by omega)]
  exact h2 k (by omega)
/-- a value that hangs on no fuel -/
theorem Ev.val {α β : Type} {o : Option α} {g : Nat → α → Option β} {a : α} {b : β} (h : o = some a) (h2 : Ev (fun k => g k a) b) : Ev (fun k => o.bind (g k)) b := by
  subst h
  exact h2
theorem Ev.joinL {S α β : Type} {f : Nat → Option (α ⊕ β)} {g : Nat → α → Option β} {a : α} {b : β} (h : Ev f (.inl a)) (h2 : Ev (fun k => g k a) b) : Ev (fun k => (f k).bind (joined (g k))) b :=
  Ev.bind (g := fun k => joined (g k)) h h2
theorem Ev.joinR {α β : Type} {f : Nat → Option (α ⊕ β)} {g : Nat → α → Option β} {b : β} (h : Ev f (.inr b)) : Ev (fun k => (f k).bind (joined (g k))) b :=
  Ev.bind (g := fun k => joined (g k)) h (.now b)
theorem Ev.cnd {α : Type} {c : Bool} {f g : Nat → Option α} {v : α} (h1 : c = true → Ev f v) (h2 : c = false → Ev g v) : Ev (fun k => cond c (f k) (g k)) v := by
  cases c with
  | true => exact h1 rfl
  | false => exact h2 rfl
theorem Ev.yes {α : Type} {c : Bool} {f g : Nat → Option α} {v : α} (hc : c = true) (h : Ev f v) : Ev (fun k => cond c (f k) (g k)) v := by rw [hc]; exact h
theorem Ev.no {α : Type} {c : Bool} {f g : Nat → Option α} {v : α} (hc : c = false) (h : Ev g v) : Ev (fun k => cond c (f k) (g k)) v := by rw [hc]; exact h
theorem Ev.iff {α : Type} {c : Prop} [Decidable c] {f g : Nat → Option α} {v : α} (h1 : c → Ev f v) (h2 : ¬ c → Ev g v) : Ev (fun k => cond (decide c) (f k) (g k)) v := by
  by_cases h : c
  · exact .yes (decide_eq_true h) (h1 h)
  · exact .no (decide_eq_false h) (h2 h)
theorem Ev.map {α β : Type} {f : Nat → Option α} {g : α → β} {a : α} (h : Ev f a) : Ev (fun k => (f k).map g) (g a) := by
  obtain ⟨n, h⟩ := h
  exact ⟨n, fun k hk => by show (f k).map g = _; rw [h k hk]; rfl⟩

theorem Lp.ev {S R : Type} {body : Nat → S → Option (S ⊕ R)} {s : S} {r : R} (h : Lp body s r) : Ev (fun k => loopN (body k) k s) r := by
  obtain ⟨n, m, h⟩ := h
  exact ⟨max n m, fun k hk => h k (by omega) k (by omega)⟩
theorem Lp.done {S R : Type} {body : Nat → S → Option (S ⊕ R)} {s : S} {r : R} (h : Ev (fun k => body k s) (.inr r)) : Lp body s r := by
  obtain ⟨n, h⟩ := h
  refine ⟨n, 1, fun k hk j hj => ?_⟩
  obtain ⟨j, rfl⟩ : ∃ i, j = i + 1 := ⟨j - 1, by omega⟩
  show (body k s).bind _ = _
  rw [show body k s = _ from h k hk]
  rfl
theorem Lp.step {S R : Type} {body : Nat → S → Option (S ⊕ R)} {s s' : S} {r : R} (h : Ev (fun k => body k s) (.inl s')) (h2 : Lp body s' r) : Lp body s r := by
  obtain ⟨n, h⟩ := h
  obtain ⟨n2, m, h2⟩ := h2
  refine ⟨max n n2, m + 1, fun k hk j hj => ?_⟩
  obtain ⟨j, rfl⟩ : ∃ i, j = i + 1 := ⟨j - 1, by omega⟩
  show (body k s).bind _ = _
  rw [show body k s = _ from h k (by omega)]
  exact h2 k (by omega) j (by omega)

/-- a walk over a list, that may end early -/
def walk {α β R : Type} (f : β → α → β ⊕ R) (fin : β → R) : List α → β → R
  | [], b => fin b
  | x :: l, b => match f b x with | .inl b' => walk f fin l b' | .inr r => r
theorem walk_cons {α β R : Type} {f : β → α → β ⊕ R} {fin : β → R} {x : α} {l : List α} {b : β} : walk f fin (x :: l) b = match f b x with | .inl b' => walk f fin l b' | .inr r => r := rfl

/-- a loop over a list by its index: 'st b i' is the loop's state -/
theorem Lp.walk {α β S R : Type} {body : Nat → S → Option (S ⊕ R)} (l : List α) (st : β → Int → S) (f : β → α → β ⊕ R) (fin : β → R) (Inv : Nat → β → Prop)
    (hs : ∀ i x b, l[i]? = some x → Inv i b → Ev (fun k => body k (st b i)) (match f b x with | .inl b' => .inl (st b' ((i : Int) + 1)) | .inr r => .inr r) ∧ ∀ b', f b x = .inl b' → Inv (i + 1) b')
    (hd : ∀ b, Inv l.length b → Ev (fun k => body k (st b l.length)) (.inr (fin b))) {b : β} (h0 : Inv 0 b) : Lp body (st b 0) (walk f fin l b) := by
  have key : ∀ (suf pre : List α) (b : β), l = pre ++ suf → Inv pre.length b → Lp body (st b (pre.length : Int)) (Gp.walk f fin suf b) := by
    intro suf
    induction suf with
    | nil =>
      intro pre b h hi
      rw [List.append_nil] at h
      subst h
      exact .done (hd b hi)
    | cons x suf ih =>
      intro pre b h hi
      have hx : l[pre.length]? = some x := by rw [h]; simp
      obtain ⟨h1, h2⟩ := hs pre.length x b hx hi
      rw [walk_cons]
      cases hf : f b x with
      | inr r => rw [hf] at h1; exact .done h1
      | inl b' =>
        rw [hf] at h1
        refine .step h1 ?_
        have := ih (pre ++ [x]) b' (by rw [h]; simp) (by simpa using h2 b' hf)
        simpa using this
  exact key l [] b rfl h0
/-- .. that always goes to its end -/
theorem Lp.fold {α β S R : Type} {body : Nat → S → Option (S ⊕ R)} (l : List α) (st : β → Int → S) (f : β → α → β) (fin : β → R) (Inv : Nat → β → Prop)
    (hs : ∀ i x b, l[i]? = some x → Inv i b → Ev (fun k => body k (st b i)) (.inl (st (f b x) ((i : Int) + 1))) ∧ Inv (i + 1) (f b x))
    (hd : ∀ b, Inv l.length b → Ev (fun k => body k (st b l.length)) (.inr (fin b))) {b : β} (h0 : Inv 0 b) : Lp body (st b 0) (fin (l.foldl f b)) := by
  have := Lp.walk (body := body) l st (fun b x => .inl (f b x)) fin Inv (fun i x b hx hi => ⟨(hs i x b hx hi).1, fun b' hb => by cases hb; exact (hs i x b hx hi).2⟩) hd h0
  have e : ∀ (l : List α) (b : β), Gp.walk (fun b x => (.inl (f b x) : β ⊕ R)) fin l b = fin (l.foldl f b) := by
    intro l
    induction l with
    | nil => intro b; rfl
    | cons x l ih => intro b; rw [walk_cons, List.foldl_cons]; exact ih _
  rwa [e] at this
/-- a loop that counts from 0 to n -/
theorem Lp.count {β S R : Type} {body : Nat → S → Option (S ⊕ R)} (n : Nat) (st : β → Int → S) (f : β → Nat → β) (fin : β → R) (Inv : Nat → β → Prop)
    (hs : ∀ i b, i < n → Inv i b → Ev (fun k => body k (st b i)) (.inl (st (f b i) ((i : Int) + 1))) ∧ Inv (i + 1) (f b i))
    (hd : ∀ b, Inv n b → Ev (fun k => body k (st b n)) (.inr (fin b))) {b : β} (h0 : Inv 0 b) : Lp body (st b 0) (fin ((List.range n).foldl f b)) := by
  refine Lp.fold (List.range n) st f fin Inv (fun i x b hx hi => ?_) (fun b hb => ?_) h0
  · obtain ⟨h1, h2⟩ := List.getElem?_eq_some_iff.1 hx
    rw [List.getElem_range] at h2
    subst h2
    exact hs i b (by simpa using h1) hi
  · rw [List.length_range] at hb ⊢
    exact hd b hb

-- numbers
theorem w64_id {x : Int} (h0 : -9223372036854775808 ≤ x) (h1 : x ≤ 9223372036854775807) : w64 x = x := by
  show IntKind.wrap .i64 x = x
  have e : (2 : Int) ^ (64 - 1) = 9223372036854775808 := by decide
  have e2 : (2 : Int) ^ 64 = 18446744073709551616 := by decide
  simp only [IntKind.wrap, IntKind.signed, IntKind.bits, Bool.true_and, decide_eq_true_eq, e, e2]
  split <;> omega
theorem w64_nat {n : Nat} (h : n ≤ 9223372036854775807) : w64 (n : Int) = n := w64_id (by omega) (by omega)
theorem w64_succ {n : Nat} (h : n < 9223372036854775807) : w64 ((n : Int) + 1) = ((n + 1 : Nat) : Int) := by rw [w64_id (by omega) (by omega)]; omega
theorem rd_nat {α : Type} (l : List α) (i : Nat) : rd l (i : Int) = l[i]? := by
  unfold rd
  rw [if_pos (by omega)]
  rfl
theorem rd_some' {α : Type} {l : List α} {i : Nat} {x : α} (h : l[i]? = some x) : rd l (i : Int) = some x := by rw [rd_nat, h]
theorem rd_at {α : Type} {l : List α} {z : Int} {i : Nat} {x : α} (hz : z = i) (h : l[i]? = some x) : rd l z = some x := by rw [hz, rd_nat, h]
theorem room_ok {n b : Nat} (h : n * b ≤ 140737488355328) : room n b = true := Nat.ble_eq_true_of_le h
theorem get_lt {α : Type} {l : List α} {i : Nat} {x : α} (h : l[i]? = some x) : i < l.length := (List.getElem?_eq_some_iff.1 h).1
theorem get_mem {α : Type} {l : List α} {i : Nat} {x : α} (h : l[i]? = some x) : x ∈ l := List.mem_of_getElem? h
theorem slc_ok {α : Type} {l : List α} {a b : Nat} (h1 : a ≤ b) (h2 : b ≤ l.length) : slc l (a : Int) (b : Int) = some ((l.take b).drop a) := by
  unfold slc
  rw [if_pos ⟨by omega, by omega, by omega⟩]
  simp
end Go.Proofs.Ytofendipdfepoaa.Gp

/- Frames of a screen: what is shown, level by level. No program in sight. -/
set_option linter.unusedVariables false
noncomputable section
namespace Go.Proofs.Ytofendipdfepoaa.Ft
open Go Go.Proofs.Ytofendipdfepoaa.Gp

abbrev O := Int × (ByteArray × Int)
def isC (chip : ByteArray) (o : O) : Bool := streq o.2.1 chip
def badO (o : O) : Prop := o.1 < 0 ∨ o.1 > 100000 ∨ o.2.2 < 0 ∨ o.2.2 > 15
instance (o : O) : Decidable (badO o) := by unfold badO; infer_instance
def sStep (chip : ByteArray) (last : Int) (o : O) : Int ⊕ (Unit ⊕ (Int × Unit)) :=
  if isC chip o = false then .inl last else if badO o then .inr (.inr (1, ())) else if o.1 ≤ last then .inr (.inr (9, ())) else .inl o.1
def sWalk (chip : ByteArray) (outs : List O) : Unit ⊕ (Int × Unit) := walk (sStep chip) (fun _ => .inl ()) outs (-1)
def sfault (chip : ByteArray) (outs : List O) : Int := match sWalk chip outs with | .inl _ => 0 | .inr e => e.1
theorem bad_or (o : O) : cond (cond (cond (decide (o.1 < 0)) true (decide (o.1 > 100000))) true (decide (o.2.2 < 0))) true (decide (o.2.2 > 15)) = decide (badO o) := by
  have e : ∀ a b : Bool, cond a true b = (a || b) := fun a b => by cases a <;> rfl
  simp only [e, ← Bool.decide_or, badO]
  exact decide_eq_decide.2 (by omega)
theorem check_lp (outs : List O) (chip : ByteArray) (hl : outs.length < 9223372036854775807) : Lp (fun k => Check100.l0 k outs chip) (-1, 0) (sWalk chip outs) := by
  refine Lp.walk (body := fun k => Check100.l0 k outs chip) outs (fun (b : Int) i => (b, i)) (sStep chip) (fun _ => .inl ()) (fun _ _ => True) (fun i o last hx _ => ⟨?_, fun _ _ => trivial⟩) (fun b _ => ?_) trivial
  · have hi := get_lt hx
    simp only [Check100.l0]
    refine .yes (decide_eq_true (by omega)) ?_
    have hw : w64 ((i : Int) + 1) = (i : Int) + 1 := w64_id (by omega) (by omega)
    unfold sStep
    by_cases hc : isC chip o = false
    · rw [if_pos hc]
      exact .joinL (S := Unit) (.val (rd_some' hx) (.yes (by rw [show streq o.2.1 chip = false from hc]; rfl) (.now _))) (.now' (by rw [hw]))
    · rw [if_neg hc]
      have hc : isC chip o = true := by simpa using hc
      have hc' : (!streq o.2.1 chip) = false := by rw [show streq o.2.1 chip = true from hc]; rfl
      by_cases hb : badO o
      · rw [if_pos hb]
        exact .joinR (.val (rd_some' hx) (.no hc' (.yes ((bad_or o).trans (decide_eq_true hb)) (.now _))))
      · rw [if_neg hb]
        by_cases hle : o.1 ≤ last
        · rw [if_pos hle]
          exact .joinR (.val (rd_some' hx) (.no hc' (.no ((bad_or o).trans (decide_eq_false hb)) (.yes (decide_eq_true hle) (.now _)))))
        · rw [if_neg hle]
          exact .joinL (S := Unit) (.val (rd_some' hx) (.no hc' (.no ((bad_or o).trans (decide_eq_false hb)) (.no (decide_eq_false hle) (.now _))))) (.now' (by rw [hw]))
  · simp only [Check100.l0]
    exact .no (by simp) (.now _)
theorem check_ev (outs : List O) (chip : ByteArray) (hl : outs.length < 9223372036854775807) : Ev (fun k => Check100 k outs chip) (sfault chip outs, ()) := by
  unfold Check100 sfault
  have h := check_lp outs chip hl
  cases hw : sWalk chip outs with
  | inl u => rw [hw] at h; exact .joinL (S := Unit) h.ev (.now _)
  | inr e => rw [hw] at h; exact .joinR h.ev
/-- in order -/
def Ord (chip : ByteArray) : Int → List O → Prop
  | _, [] => True
  | last, o :: l => (isC chip o = false → Ord chip last l) ∧ (isC chip o = true → 0 ≤ o.1 ∧ last < o.1 ∧ Ord chip o.1 l)
theorem walk_ord (chip : ByteArray) : ∀ (outs : List O) (last : Int), walk (sStep chip) (fun _ => (.inl () : Unit ⊕ (Int × Unit))) outs last = .inl () → Ord chip last outs
  | [], _, _ => trivial
  | o :: l, last, h => by
    rw [walk_cons] at h
    unfold sStep at h
    refine ⟨fun hc => ?_, fun hc => ?_⟩
    · rw [if_pos hc] at h
      exact walk_ord chip l last h
    · rw [if_neg (by rw [hc]; decide)] at h
      by_cases hb : badO o
      · rw [if_pos hb] at h; cases h
      · rw [if_neg hb] at h
        by_cases hle : o.1 ≤ last
        · rw [if_pos hle] at h; cases h
        · rw [if_neg hle] at h
          unfold badO at hb
          exact ⟨by omega, by omega, walk_ord chip l o.1 h⟩
theorem walk_err (chip : ByteArray) : ∀ (outs : List O) (last : Int) (e : Int × Unit), walk (sStep chip) (fun _ => (.inl () : Unit ⊕ (Int × Unit))) outs last = .inr e → e.1 ≠ 0
  | [], _, _, h => by cases h
  | o :: l, last, e, h => by
    rw [walk_cons] at h
    unfold sStep at h
    by_cases hc : isC chip o = false
    · rw [if_pos hc] at h; exact walk_err chip l last e h
    · rw [if_neg hc] at h
      by_cases hb : badO o
      · rw [if_pos hb] at h; cases h; decide
      · rw [if_neg hb] at h
        by_cases hle : o.1 ≤ last
        · rw [if_pos hle] at h; cases h; decide
        · rw [if_neg hle] at h; exact walk_err chip l o.1 e h
theorem ord_of {chip : ByteArray} {outs : List O} (h : sfault chip outs = 0) : Ord chip (-1) outs := by
  unfold sfault at h
  cases hw : sWalk chip outs with
  | inl u => exact walk_ord chip outs (-1) hw
  | inr e => rw [hw] at h; exact absurd h (walk_err chip outs (-1) e hw)
theorem ord_later {chip : ByteArray} : ∀ {outs : List O} {last : Int}, Ord chip last outs → ∀ o ∈ outs, isC chip o = true → last < o.1
  | o :: l, last, h, x, hx, hc => by
    rcases List.mem_cons.1 hx with rfl | hx
    · exact (h.2 hc).2.1
    · cases hco : isC chip o with
      | false => exact ord_later (h.1 hco) x hx hc
      | true =>
        obtain ⟨_, h1, h2⟩ := h.2 hco
        have := ord_later h2 x hx hc
        omega

/-- the level at a time -/
def lvl (chip : ByteArray) (t : Int) (first : Int) (outs : List O) : Int := outs.foldl (fun f o => if isC chip o = true ∧ o.1 ≤ t then o.2.2 else f) first
theorem lvl_none {chip : ByteArray} {t : Int} : ∀ {outs : List O} {first : Int}, (∀ o ∈ outs, isC chip o = true → t < o.1) → lvl chip t first outs = first
  | [], _, _ => rfl
  | o :: l, first, h => by
    show lvl chip t (if isC chip o = true ∧ o.1 ≤ t then o.2.2 else first) l = first
    rw [if_neg (fun hh => by have := h o (List.mem_cons_self ..) hh.1; omega)]
    exact lvl_none (fun x hx => h x (List.mem_cons_of_mem _ hx))
/-- rounds that always go on -/
theorem rounds_ev {α S R : Type} {f : Nat → S → α → Option (S ⊕ R)} {K : Nat → S → Option R} (g : S → α → S) (Inv : Nat → S → Prop) {r : R} : ∀ (l : List α) (i0 : Nat) (s : S),
    (∀ i x s, l[i]? = some x → Inv (i0 + i) s → Ev (fun k => f k s x) (.inl (g s x)) ∧ Inv (i0 + i + 1) (g s x)) → Inv i0 s → Ev (fun k => K k (l.foldl g s)) r → Ev (fun k => rounds (f k) (K k) l s) r
  | [], i0, s, _, _, h => h
  | x :: l, i0, s, hs, hi, h => by
    obtain ⟨h1, h2⟩ := hs 0 x s rfl hi
    have ih := rounds_ev g Inv l (i0 + 1) (g s x) (fun i y s' hy hi' => by
      have := hs (i + 1) y s' (by simpa using hy) (by rwa [show i0 + (i + 1) = i0 + 1 + i by omega])
      rwa [show i0 + (i + 1) + 1 = i0 + 1 + i + 1 by omega] at this) h2 h
    show Ev (fun k => (f k s x).bind fun y => match y with | .inl s' => rounds (f k) (K k) l s' | .inr r => some r) r
    exact .bind h1 ih

/-- places from a to b hold v -/
def Filled (all all' : List Int) (a b : Nat) (v : Int) : Prop := all'.length = all.length ∧ ∀ i, all'[i]? = if a ≤ i ∧ i < b then some v else all[i]?
theorem filled_refl {all : List Int} {a b : Nat} {v : Int} (h : b ≤ a) : Filled all all a b v := ⟨rfl, fun i => by rw [if_neg (by omega)]⟩
theorem filled_step {all all' : List Int} {a b : Nat} {v : Int} (h1 : a < b) (hl : a < all.length) (h : Filled (all.set a v) all' (a + 1) b v) : Filled all all' a b v := by
  refine ⟨h.1.trans (by rw [List.length_set]), fun i => ?_⟩
  rw [h.2 i, List.getElem?_set]
  by_cases hi : a = i
  · subst hi
    rw [if_neg (by omega), if_pos rfl, if_pos hl, if_pos ⟨Nat.le_refl _, h1⟩]
  · rw [if_neg hi]
    by_cases h2 : a + 1 ≤ i ∧ i < b
    · rw [if_pos h2, if_pos (by omega)]
    · rw [if_neg h2, if_neg (by omega)]
theorem fill0_lp (v : Int) (o : O) : ∀ (m a : Nat) (all : List Int), max a (min all.length o.1.toNat) = a + m → all.length < 1000000 → ∃ all', Filled all all' a (a + m) v ∧
    Lp (fun k => Of66.l0 k v) ((), (a : Int), o, all) ((), ((a + m : Nat) : Int), o, all') := by
  intro m
  induction m with
  | zero =>
    intro a all h hN
    refine ⟨all, filled_refl (by omega), .done ?_⟩
    simp only [Of66.l0]
    by_cases h1 : a < all.length
    · have : ¬ (a : Int) < o.1 := by omega
      exact .no (by rw [decide_eq_true (show (a : Int) < (List.length all : Int) by omega)]; exact decide_eq_false this) (.now _)
    · exact .no (by rw [decide_eq_false (show ¬ (a : Int) < (List.length all : Int) by omega)]; rfl) (.now _)
  | succ m ih =>
    intro a all h hN
    have h1 : a < all.length := by omega
    have h2 : (a : Int) < o.1 := by omega
    obtain ⟨all', f1, f2⟩ := ih (a + 1) (all.set a v) (by rw [List.length_set]; omega) (by rw [List.length_set]; exact hN)
    rw [show a + 1 + m = a + (m + 1) by omega] at f1 f2
    refine ⟨all', filled_step (by omega) h1 f1, .step (s' := ((), ((a + 1 : Nat) : Int), o, all.set a v)) ?_ f2⟩
    simp only [Of66.l0]
    refine .yes (by rw [decide_eq_true (show (a : Int) < (List.length all : Int) by omega)]; exact decide_eq_true h2) (.val (rd_some' (List.getElem?_eq_getElem h1)) (.val (rd_some' (List.getElem?_eq_getElem h1)) (.now' ?_)))
    rw [w64_succ (by omega), Int.toNat_natCast]
theorem fill2_lp (v : Int) : ∀ (m a : Nat) (all : List Int), a + m = all.length → all.length < 1000000 → ∃ all', Filled all all' a (a + m) v ∧
    Lp (fun k => Of66.l2 k v) ((), (a : Int), all) ((), all') := by
  intro m
  induction m with
  | zero =>
    intro a all h hN
    refine ⟨all, filled_refl (by omega), .done ?_⟩
    simp only [Of66.l2]
    exact .no (decide_eq_false (by omega)) (.now _)
  | succ m ih =>
    intro a all h hN
    have h1 : a < all.length := by omega
    obtain ⟨all', f1, f2⟩ := ih (a + 1) (all.set a v) (by rw [List.length_set]; omega) (by rw [List.length_set]; exact hN)
    rw [show a + 1 + m = a + (m + 1) by omega] at f1
    refine ⟨all', filled_step (by omega) h1 f1, .step (s' := ((), ((a + 1 : Nat) : Int), all.set a v)) ?_ f2⟩
    simp only [Of66.l2]
    refine .yes (decide_eq_true (by omega)) (.val (rd_some' (List.getElem?_eq_getElem h1)) (.val (rd_some' (List.getElem?_eq_getElem h1)) (.now' ?_)))
    rw [w64_succ (by omega), Int.toNat_natCast]

/-- how far it is -/
structure OfI (chip : ByteArray) (first : Int) (outs suf : List O) (N : Nat) (f : Int) (a : Nat) (all : List Int) : Prop where
  len : all.length = N
  at_le : a ≤ N
  done : ∀ i, i < a → all[i]? = some (lvl chip i first outs)
  rest : ∀ i, a ≤ i → i < N → lvl chip i first outs = lvl chip i f suf
theorem of_lp (chip : ByteArray) (first : Int) (outs : List O) (N : Nat) (hN : N < 1000000) (hl : outs.length < 9223372036854775807) : ∀ (suf pre : List O) (last f : Int) (a : Nat) (all : List Int), outs = pre ++ suf → Ord chip last suf →
    OfI chip first outs suf N f a all → ∃ f' a' all', OfI chip first outs [] N f' a' all' ∧ Lp (fun k => Of66.l1 k outs chip) (f, (), (a : Int), (pre.length : Int), all) (f', (), (a' : Int), all') := by
  intro suf
  induction suf with
  | nil =>
    intro pre last f a all h ho hi
    rw [List.append_nil] at h
    subst h
    refine ⟨f, a, all, hi, .done ?_⟩
    simp only [Of66.l1]
    exact .no (by simp) (.now _)
  | cons o suf ih =>
    intro pre last f a all h ho hi
    have hx : outs[pre.length]? = some o := by rw [h]; simp
    have hlt := get_lt hx
    have hw : w64 ((pre.length : Int) + 1) = ((pre ++ [o]).length : Int) := by rw [w64_succ (by omega)]; simp
    by_cases hc : isC chip o = false
    · obtain ⟨f', a', all', g1, g2⟩ := ih (pre ++ [o]) last f a all (by rw [h]; simp) (ho.1 hc) ⟨hi.len, hi.at_le, hi.done, fun i h1 h2 => by
        rw [hi.rest i h1 h2]
        show lvl chip i (if isC chip o = true ∧ o.1 ≤ i then o.2.2 else f) suf = _
        rw [if_neg (fun hh => by rw [hc] at hh; cases hh.1)]⟩
      refine ⟨f', a', all', g1, .step ?_ g2⟩
      simp only [Of66.l1]
      refine .yes (decide_eq_true (by omega)) (.bind (.val (rd_some' hx) (.yes (by rw [show streq o.2.1 chip = false from hc]; rfl) (.now (f, (), (a : Int), all)))) (.now' ?_))
      rw [hw]
    · have hc : isC chip o = true := by simpa using hc
      obtain ⟨o0, o1, o2⟩ := ho.2 hc
      obtain ⟨m, hm⟩ : ∃ m, max a (min all.length o.1.toNat) = a + m := ⟨max a (min all.length o.1.toNat) - a, by omega⟩
      have hlen := hi.len
      have hale := hi.at_le
      obtain ⟨all', f1, f2⟩ := fill0_lp f o m a all hm (by omega)
      have hlater := ord_later o2
      have hlv : ∀ i : Nat, (i : Int) < o.1 → lvl chip i f (o :: suf) = f := fun i hi => lvl_none (fun x hx hcx => by
        rcases List.mem_cons.1 hx with rfl | hx
        · exact hi
        · have := hlater x hx hcx; omega)
      have hd : ∀ i, i < a + m → all'[i]? = some (lvl chip i first outs) := fun i hia => by
        rw [f1.2 i]
        by_cases hh : a ≤ i ∧ i < a + m
        · rw [if_pos hh, hi.rest i hh.1 (by omega), hlv i (by omega)]
        · rw [if_neg hh]
          exact hi.done i (by omega)
      have hr : ∀ i, a + m ≤ i → i < N → lvl chip i first outs = lvl chip i o.2.2 suf := fun i h1 h2 => by
        rw [hi.rest i (by omega) h2]
        show lvl chip i (if isC chip o = true ∧ o.1 ≤ i then o.2.2 else f) suf = _
        rw [if_pos ⟨hc, by omega⟩]
      obtain ⟨f', a', all2, g1, g2⟩ := ih (pre ++ [o]) o.1 o.2.2 (a + m) all' (by rw [h]; simp) o2 ⟨f1.1.trans hi.len, by omega, hd, hr⟩
      refine ⟨f', a', all2, g1, .step ?_ g2⟩
      simp only [Of66.l1]
      refine .yes (decide_eq_true (by omega)) (.bind (.val (rd_some' hx) (.no (by rw [show streq o.2.1 chip = true from hc]; rfl) (.bind f2.ev (.now (o.2.2, (), ((a + m : Nat) : Int), all'))))) (.now' ?_))
      rw [hw]

/-- frames of what is shown -/
def IsFrames (chip : ByteArray) (outs : List O) (first : Int) (n : Nat) (l : List (List Int)) : Prop :=
  l.length = n ∧ ∀ (k : Nat) x, l[k]? = some x → x.length = 2560 ∧ ∀ i, i < 2560 → x[i]? = some (lvl chip ((k * 2560 + i : Nat) : Int) first outs)
def efault (chip : ByteArray) (outs : List O) (first n : Int) : Int := if sfault chip outs ≠ 0 then sfault chip outs else if n < 0 ∨ n > 40 then 2 else if first < 0 ∨ first > 15 then 1 else 0
theorem clone_ev (s : List Int) (h0 : s.length ≠ 0) (h : s.length ≤ 1000000) : Ev (fun k => Clone72 k s) (s, ()) := by
  refine ⟨0, fun k _ => ?_⟩
  unfold Clone72
  rw [orNil_pos h0]
  show ((if room (0 + s.length) 8 then some () else none).bind fun _ => some (s, ())) = _
  rw [if_pos (room_ok (by omega))]
  rfl
theorem or2 (a b : Prop) [Decidable a] [Decidable b] : cond (decide a) true (decide b) = decide (a ∨ b) := by
  by_cases h : a <;> simp [h]
theorem foldl_id (g : List Int → List Int) : ∀ (l : List (List Int)) (s : Unit × Unit × List (List Int)), l.foldl (fun (s : Unit × Unit × List (List Int)) x => ((), (), s.2.2 ++ [x])) s = ((), (), s.2.2 ++ l)
  | [], s => by simp
  | x :: l, s => by rw [List.foldl_cons, foldl_id g l]; simp
theorem of_ev (chip : ByteArray) (outs : List O) (first n : Int) (hl : outs.length < 9223372036854775807) : ∃ l, Ev (fun k => Of66 k outs chip first n) ((l, efault chip outs first n, ()), ()) ∧ (efault chip outs first n ≠ 0 → l = []) ∧ (efault chip outs first n = 0 → 0 ≤ n ∧ n ≤ 40 ∧ IsFrames chip outs first n.toNat l) := by
  unfold Of66
  by_cases hs : sfault chip outs ≠ 0
  · have e : efault chip outs first n = sfault chip outs := if_pos hs
    refine ⟨[], .bind (check_ev outs chip hl) (.yes (bne_iff_ne.2 hs) (.now' (by rw [e]))), fun _ => rfl, fun h => absurd (e.symm.trans h) hs⟩
  have hs0 : sfault chip outs = 0 := by omega
  by_cases hn : n < 0 ∨ n > 40
  · have e : efault chip outs first n = 2 := by unfold efault; rw [if_neg hs, if_pos hn]
    refine ⟨[], .bind (check_ev outs chip hl) (.no (by simp [hs0]) (.yes ((or2 _ _).trans (decide_eq_true hn)) (.now' (by rw [e])))), fun _ => rfl, fun h => by rw [e] at h; cases h⟩
  by_cases hf : first < 0 ∨ first > 15
  · have e : efault chip outs first n = 1 := by unfold efault; rw [if_neg hs, if_neg hn, if_pos hf]
    refine ⟨[], .bind (check_ev outs chip hl) (.no (by simp [hs0]) (.no ((or2 _ _).trans (decide_eq_false hn)) (.yes ((or2 _ _).trans (decide_eq_true hf)) (.now' (by rw [e]))))), fun _ => rfl, fun h => by rw [e] at h; cases h⟩
  have e : efault chip outs first n = 0 := by unfold efault; rw [if_neg hs, if_neg hn, if_neg hf]
  obtain ⟨m, rfl⟩ : ∃ m : Nat, n = (m : Int) := ⟨n.toNat, by omega⟩
  have hm : m ≤ 40 := by omega
  have hN : w64 (w64 ((m : Int) * 64) * 40) = ((m * 2560 : Nat) : Int) := by
    have h1 : w64 ((m : Int) * 64) = (m : Int) * 64 := w64_id (by omega) (by omega)
    rw [h1, w64_id (by omega) (by omega)]; omega
  obtain ⟨f', a', all', i1, i2⟩ := of_lp chip first outs (m * 2560) (by omega) hl outs [] (-1) first 0 (List.replicate (m * 2560) 0) rfl (ord_of hs0) ⟨by simp, Nat.zero_le _, fun i hi => absurd hi (Nat.not_lt_zero _), fun _ _ _ => rfl⟩
  obtain ⟨q, hq⟩ : ∃ q, a' + q = all'.length := ⟨all'.length - a', by have := i1.len; have := i1.at_le; omega⟩
  obtain ⟨all2, g1, g2⟩ := fill2_lp f' q a' all' hq (by rw [i1.len]; omega)
  have hlen2 : all2.length = m * 2560 := g1.1.trans i1.len
  have hall : ∀ i, i < m * 2560 → all2[i]? = some (lvl chip i first outs) := fun i hi => by
    rw [g1.2 i]
    by_cases hh : a' ≤ i ∧ i < a' + q
    · rw [if_pos hh, i1.rest i hh.1 hi]; rfl
    · rw [if_neg hh]
      exact i1.done i (by have := i1.len; omega)
  have hpl : (pieces all2 2560).length = m := by rw [pieces_len, hlen2]; omega
  have hpx : ∀ (k : Nat) x, (pieces all2 2560)[k]? = some x → x.length = 2560 ∧ ∀ i, i < 2560 → x[i]? = some (lvl chip ((k * 2560 + i : Nat) : Int) first outs) := fun k x hx => by
    have hk : k < m := by
      have := get_lt hx
      omega
    rw [pieces_at (by decide) (by rw [hlen2]; omega)] at hx
    cases hx
    refine ⟨by rw [List.length_take, List.length_drop, hlen2]; omega, fun i hi => ?_⟩
    rw [List.getElem?_take_of_lt hi, List.getElem?_drop]
    exact hall _ (by omega)
  refine ⟨pieces all2 2560, .bind (check_ev outs chip hl) (.no (by simp [hs0]) (.no ((or2 _ _).trans (decide_eq_false hn)) (.no ((or2 _ _).trans (decide_eq_false hf)) ?_))), fun h => absurd e h, fun _ => ⟨by omega, by omega, by rw [Int.toNat_natCast]; exact hpl, hpx⟩⟩
  rw [hN]
  refine .val (a := ()) (if_pos ⟨by omega, by omega, by omega⟩) (.bind (a := (f', (), (a' : Int), all')) (by rw [Int.toNat_natCast]; exact i2.ev) (.bind g2.ev (.bind (a := ((all2, 2560, ()), ())) ?_ (.val (a := pieces all2 2560) ?_ ?_))))
  · unfold Chunk101
    exact .bind (a := (all2, (2560 : Int))) (.no rfl (.now _)) (.now _)
  · show chunks all2 2560 = _
    unfold chunks
    rw [if_pos ⟨by decide, by decide, by rw [hlen2]; omega⟩]
    rfl
  · refine rounds_ev (f := Of66.l3) (fun (s : Unit × Unit × List (List Int)) x => ((), (), s.2.2 ++ [x])) (fun i s => s.2.2.length = i) (pieces all2 2560) 0 ((), (), []) (fun i x s hx hi => ⟨?_, ?_⟩) rfl ?_
    · obtain ⟨x1, _⟩ := hpx i x hx
      have := get_lt hx
      obtain ⟨u1, u2, s⟩ := s
      simp only [Of66.l3]
      refine .bind (clone_ev x (by omega) (by omega)) (.val (a := ()) (if_pos (room_ok ?_)) (.now _))
      have hi : s.length = 0 + i := hi
      show (s.length + 1) * 24 ≤ _
      omega
    · show (s.2.2 ++ [x]).length = _
      rw [List.length_append, hi]; rfl
    · rw [foldl_id id]
      exact .now' (by rw [e]; rfl)
theorem seen_ev : Ev (fun k => seen29 k) (true, ()) := by
  have e : efault (ByteArray.mk #[118]) [(1, (ByteArray.mk #[118]), 3)] 2 1 = 0 := by decide +kernel
  obtain ⟨l, h1, _, h2⟩ := of_ev (ByteArray.mk #[118]) [(1, (ByteArray.mk #[118]), 3)] 2 1 (by decide)
  obtain ⟨_, _, h3, h4⟩ := h2 e
  rw [e] at h1
  obtain ⟨x, hx⟩ : ∃ x, l[0]? = some x := ⟨l[0]'(by rw [h3]; decide), List.getElem?_eq_getElem _⟩
  obtain ⟨x1, x2⟩ := h4 0 x hx
  have v0 : x[0]? = some 2 := (x2 0 (by decide)).trans (by decide +kernel)
  have v1 : x[1]? = some 3 := (x2 1 (by decide)).trans (by decide +kernel)
  unfold seen29
  refine .bind h1 (.bind (a := true) ?_ (.bind (a := true) ?_ (.bind (a := true) ?_ (.now _))))
  · refine .yes ?_ (.val (rd_at (i := 0) rfl hx) (.now' ?_))
    · show cond ((0 : Int) == 0) ((List.length l : Int) == 1) false = true
      rw [h3]; rfl
    · rw [x1]; rfl
  · exact .yes rfl (.val (rd_at (i := 0) rfl hx) (.val (rd_at (i := 0) rfl v0) (.now _)))
  · exact .yes rfl (.val (rd_at (i := 0) rfl hx) (.val (rd_at (i := 1) rfl v1) (.now _)))
end Go.Proofs.Ytofendipdfepoaa.Ft

/- What an argument of a law reads as, kind by kind. -/
set_option linter.unusedVariables false
noncomputable section
namespace Go.Proofs.Ytofendipdfepoaa.Gp
open Go Go.ChangeShapes Go.WideShapes Go.RowKit

/-- the input's memory, all of it frozen -/
def memH (W : World) : Hp := fun b => W.heap[b]?

structure Gd (P : Program) (t : TypeId) (k : K) (wf : k.den → Prop) (siz : k.den → Nat) : Prop where
  cells : P.cellsOf t = k.w
  one : k.one = true
  pur : k.pur = true
  val : ∀ {W : World} {r : Reach} {base : Nat} {v : Value}, Value.okWide P W r base t v → v = k.mk v.cells.toList
  read : ∀ {H : Type} {enc : TypeId × Value → H} {W : World} {base : Nat} {spare : Nat → Bool} {held : Bool} {fuel : Nat} {cs : List Value} {x : DataW H × List MemPlace},
    DataW.trod enc P W base spare held fuel t cs = some x → (∀ n ∈ x.1.weights P t, n ≤ reachBytes) → ∃ y, (∀ L, Lv (memH W) L k y cs) ∧ wf y ∧ siz y ≤ Rows.uptoBulk x.1

variable {P : Program}

theorem str_len {s : ByteArray} : s.data.toList.length = s.size := Array.length_toList
theorem gd_int {t : TypeId} {k : IntKind} (hu : P.underlying t = some (.int k)) (hc : P.cellsOf t = 1) : Gd P t (.int k) (fun (y : Int) => (Lit.int k y).wf = true) (fun _ => 1) :=
  ⟨hc, rfl, rfl, fun h => by obtain ⟨n, rfl⟩ := okWide_int hu h; rfl, fun h _ => by
    obtain ⟨n, rfl, rfl, hw⟩ := DataW.trod_int hu h
    exact ⟨n, fun _ => rfl, hw, by simp [Rows.uptoBulk]⟩⟩
theorem gd_str {t : TypeId} (hu : P.underlying t = some .string) (hc : P.cellsOf t = 1) : Gd P t .str (fun (y : ByteArray) => y.size ≤ 140737488351232) (fun (y : ByteArray) => y.size + 1) :=
  ⟨hc, rfl, rfl, fun h => by
    simp only [Value.okWide, hu, Cell.okWide] at h
    rename_i v
    cases v <;> first | rfl | (simp_all [Cell.ok]; done), fun h hw => by
    obtain ⟨s, rfl, rfl, _⟩ := DataW.trod_string hu h
    refine ⟨s, fun _ => rfl, ?_, ?_⟩
    · have := hw s.data.toList.length (by simp [DataW.weights])
      rw [str_len] at this
      exact this
    · simp only [Rows.uptoBulk]
      rw [str_len]
      omega⟩

theorem weights_all {H : Type} {e : TypeId} {n : Nat} : ∀ {l : List (DataW H)} {d : DataW H}, d ∈ l → n ∈ d.weights P e → n ∈ DataW.weightsAll P e l
  | x :: r, d, hd, hn => by
    rw [DataW.weightsAll]
    rcases List.mem_cons.1 hd with rfl | hd
    · exact List.mem_append_left _ hn
    · exact List.mem_append_right _ (weights_all hd hn)
theorem buildL {α : Type} {H : Type} {wf : α → Prop} {siz : α → Nat} : ∀ (es : List (DataW H × List MemPlace)) (p : Nat → α → Prop),
    (∀ i x, es[i]? = some x → ∃ y, p i y ∧ wf y ∧ siz y ≤ Rows.uptoBulk x.1) →
    ∃ ys : List α, ys.length = es.length ∧ (∀ j y, ys[j]? = some y → p j y ∧ wf y) ∧ (ys.map siz).sum ≤ Rows.uptoBulkAll (es.map (·.1))
  | [], _, _ => ⟨[], rfl, fun j y h => by simp at h, by simp⟩
  | x :: r, p, h => by
    obtain ⟨y, hp, hw, hs⟩ := h 0 x rfl
    obtain ⟨ys, hl, hy, hsum⟩ := buildL r (fun i => p (i + 1)) (fun i x hx => h (i + 1) x (by simpa using hx))
    refine ⟨y :: ys, by simp [hl], fun j z hz => ?_, ?_⟩
    · cases j with
      | zero => simp only [List.getElem?_cons_zero, Option.some.injEq] at hz; subst hz; exact ⟨hp, hw⟩
      | succ j => exact hy j z (by simpa using hz)
    · simp only [List.map_cons, List.sum_cons, Rows.uptoBulkAll]
      omega

def sizL {α : Type} (siz : α → Nat) (l : List α) : Nat := (l.map siz).sum + 1
def wfL {α : Type} (B : Nat) (wf : α → Prop) (l : List α) : Prop := l.length * B ≤ 140737488351232 ∧ ∀ y ∈ l, wf y

theorem LvL_mk {α : Type} {R : α → List Value → Prop} {w : Nat} {C : List Value} : ∀ {ys : List α} {o : Nat}, (∀ j y, ys[j]? = some y → ∃ c : List Value, c.length = w ∧ R y c ∧ ∀ i u, c[i]? = some u → C[o + (j * w + i)]? = some u) →
    LvL R ys ((C.drop o).take (ys.length * w))
  | [], o, h => by simp [LvL]
  | y :: ys, o, h => by
    obtain ⟨c, hc, hr, hu⟩ := h 0 y rfl
    have e : (C.drop o).take w = c := by
      apply List.ext_getElem?
      intro i
      rw [cut_get]
      by_cases hi : i < w
      · rw [if_pos hi]
        have hi' : i < c.length := by omega
        have := hu i c[i] (List.getElem?_eq_getElem hi')
        rw [Nat.zero_mul, Nat.zero_add] at this
        rw [this, List.getElem?_eq_getElem hi']
      · rw [if_neg hi, List.getElem?_eq_none (by omega)]
    refine ⟨c, (C.drop (o + w)).take (ys.length * w), ?_, hr, LvL_mk (fun j z hz => ?_)⟩
    · rw [List.length_cons, Nat.add_mul, Nat.one_mul, Nat.add_comm (ys.length * w) w, List.take_add, e, List.drop_drop]
    · obtain ⟨c', h1, h2, h3⟩ := h (j + 1) z hz
      refine ⟨c', h1, h2, fun i u hi => ?_⟩
      have := h3 i u hi
      rw [Nat.add_mul, Nat.one_mul] at this
      rw [show o + w + (j * w + i) = o + (j * w + w + i) by omega]
      exact this

theorem gd_sl {t e : TypeId} {k : K} {wf : k.den → Prop} {siz : k.den → Nat} {B : Nat} (hu : P.underlying t = some (.slice e)) (hc : P.cellsOf t = 1) (hB : P.bytesOf e = B) (hk : 0 < k.w) (r : Gd P e k wf siz) :
    Gd P t (.sl k) (wfL (α := k.den) B wf) (sizL (α := k.den) siz) :=
  ⟨hc, rfl, r.pur, fun h => by obtain ⟨a, len, cap, rfl⟩ := okWide_slice hu h; rfl, fun {H enc W base spare held fuel cs x} h hw => by
    rcases DataW.trod_slice hu h with ⟨rfl, rfl⟩ | ⟨a, len, cap, elems, rest, n, _, rfl, rfl, hb, hl, hm, hlen, hel, _, _⟩
    · exact ⟨([] : List k.den), fun L => ⟨r.pur, none, 0, rfl, Nat.le_refl _, fun hn => absurd rfl hn⟩, ⟨by simp, fun y hy => by simp at hy⟩, by simp [sizL, Rows.uptoBulk]⟩
    · simp only [DataW.weights, hu] at hw
      have hw1 : (elems.length + rest.length) * B ≤ 140737488351232 := by
        have := hw ((elems.length + rest.length) * B) (by simp [hB])
        exact this
      obtain ⟨ys, hyl, hyp, hys⟩ := buildL (wf := wf) (siz := siz) elems (fun i y => ∃ c : List Value, c.length = k.w ∧ (∀ L, Lv (memH W) L k y c) ∧ ∀ j u, c[j]? = some u → W.cell? (a.add (i * k.w + j)) = some u) (fun i z hz => by
        have hi : i < len := by
          have := (List.getElem?_eq_some_iff.1 hz).1
          omega
        have h1 := hel i hi
        rw [hz] at h1
        obtain ⟨c, hc1, hc2⟩ := Option.bind_eq_some_iff.1 h1
        obtain ⟨y, hK, hwf, hsz⟩ := r.read hc2 (fun q hq => hw q (List.mem_cons_of_mem _ (List.mem_append_left _ (weights_all (List.mem_map.2 ⟨z, List.mem_of_getElem? hz, rfl⟩) hq))))
        obtain ⟨_, hcl, hcell⟩ := World.cells?_some hc1
        refine ⟨y, ⟨c, Lv_len (hK default), hK, fun j u hu => ?_⟩, hwf, hsz⟩
        have hj : j < P.cellsOf e := by
          have := (List.getElem?_eq_some_iff.1 hu).1
          omega
        have h3 := hcell j hj
        rw [Go.Deep.add_add, r.cells] at h3
        rw [h3]
        exact hu)
      refine ⟨ys, fun L => ⟨r.pur, some a, cap, by rw [hyl, hlen], by omega, fun hn => ?_⟩, ⟨?_, fun y hy => ?_⟩, ?_⟩
      · have hn : ys.length ≠ 0 := hn
        obtain ⟨y, hy⟩ : ∃ y, ys[0]? = some y := ⟨ys[0]'(by omega), List.getElem?_eq_getElem (by omega)⟩
        obtain ⟨c, c1, c2, c3⟩ := (hyp 0 y hy).1
        obtain ⟨u, hu0⟩ : ∃ u, c[0]? = some u := ⟨c[0]'(by omega), List.getElem?_eq_getElem (by omega)⟩
        have hcell := c3 0 u hu0
        rw [Nat.zero_mul, Nat.zero_add, show a.add 0 = a from rfl] at hcell
        unfold World.cell? at hcell
        split at hcell
        · rename_i C ee zz hblk
          split at hcell
          · cases hcell
          · rename_i hsp
            have hsp : a.spot = none := by cases hs : a.spot with | none => rfl | some q => rw [hs] at hsp; exact absurd rfl hsp
            refine ⟨a.block, a.off, C, ee, zz, by cases a; simp only at hsp; rw [hsp], hblk, LvL_mk (C := C.toList) (fun j y hy => ?_)⟩
            obtain ⟨c, c1, c2, c3⟩ := (hyp j y hy).1
            refine ⟨c, c1, c2 L, fun i u hi => ?_⟩
            have h5 := c3 i u hi
            have hadd : (a.add (j * k.w + i)).block = a.block ∧ (a.add (j * k.w + i)).off = a.off + (j * k.w + i) ∧ (a.add (j * k.w + i)).spot = none := by
              unfold Addr.add
              split
              · rename_i h0; exact ⟨rfl, by omega, hsp⟩
              · exact ⟨rfl, rfl, rfl⟩
            unfold World.cell? at h5
            rw [hadd.1, hblk, hadd.2.1, hadd.2.2] at h5
            rw [Array.getElem?_toList]
            exact h5
        · cases hcell
      · rw [hyl]
        exact Nat.le_trans (Nat.mul_le_mul_right _ (Nat.le_add_right _ _)) hw1
      · obtain ⟨j, hj⟩ := List.mem_iff_getElem?.1 hy
        exact (hyp j y hj).2
      · simp only [sizL, Rows.uptoBulk]
        omega⟩

/-- fields in line, from cell 'off' on -/
structure GdF (P : Program) (off : Nat) (fs : List Field) (k : K) (wf : k.den → Prop) (siz : k.den → Nat) : Prop where
  pur : k.pur = true
  read : ∀ {H : Type} {enc : TypeId × Value → H} {W : World} {base : Nat} {spare : Nat → Bool} {held : Bool} {fuel : Nat} {cs : List Value} {xs : List (DataW H × List MemPlace)},
    cs.length = off + k.w → xs.length = fs.length →
    (∀ (i : Nat) (f : Field), fs[i]? = some f → DataW.trod enc P W base spare held fuel f.type ((cs.drop f.offset).take (P.cellsOf f.type)) = xs[i]?) →
    (∀ n ∈ DataW.weightsEach P (fs.map (·.type)) (xs.map (·.1)), n ≤ reachBytes) →
    ∃ y, (∀ L, Lv (memH W) L k y (cs.drop off)) ∧ wf y ∧ siz y ≤ Rows.uptoBulkAll (xs.map (·.1))

/-- an argument -/
theorem Gd.arg {t : TypeId} {k : K} {wf : k.den → Prop} {siz : k.den → Nat} (r : Gd P t k wf siz) {H : Type} {enc : TypeId × Value → H} {W : World} {base : Nat} {spare : Nat → Bool} {held : Bool} {rr : Reach} {b2 : Nat} {v : Value} {x : DataW H} {ps : List MemPlace}
    (hval : Value.okWide P W rr b2 t v) (h : DataW.Trod enc P W base spare held t v x ps) (hw : ∀ n ∈ x.weights P t, n ≤ reachBytes) : ∃ y : k.den, (∀ L, SR (memH W) L ⟨k, y⟩ v) ∧ wf y ∧ siz y ≤ Rows.uptoBulk x := by
  obtain ⟨fuel, hf⟩ := h
  obtain ⟨y, h1, h2, h3⟩ := r.read hf hw
  refine ⟨y, fun L => ?_, h2, h3⟩
  rw [r.val hval]
  exact SR_mk (h1 L)

def noLoc : Ls := fun _ => default
theorem law_calls {fuel : Nat} {f : FuncId} {params : List K} {run : Nat → HL params → HL (List.map (·.toK) ([] : List OK)) → Option (K.bool.den × HL (List.map (·.toK) ([] : List OK)))} (hs : SoundAt P fuel ⟨f, params, [], .bool, [], [], run⟩) {ds : HL params}
    (hr : run fuel ds () = some (true, ())) {args : Array Value} {W : World} (hv : SRs (memH W) noLoc (unpackL params ds) args.toList) (hg : GH (memH W) := by exact GH.none _) : Calls P f args W (fun e W' => e = .returned (.bool true) ∧ Below W.heap.size W W') := by
  have hno : ∀ b, ¬ Own (assoc O.dead (objsFrom 0 ([] : List OK) ())) noLoc b := fun b ⟨i, hi, _⟩ => hi
  refine Calls.mono (hs.2 ds () (true, ()) hr args W (memH W) noLoc hv ⟨fun i => trivial, fun b o h => h, fun i hi => hi.elim, fun i j hi => hi.elim, hg⟩ (fun i hi => by cases hi)) fun e W' hh => ?_
  obtain ⟨v, H', L', rfl, h1, _, _, hp⟩ := hh
  have h1 : SR H' L' ⟨.bool, true⟩ v := h1
  refine ⟨by rw [bool_at h1], hp.fr.os, hp.fr.tape, hp.fr.output, hp.fr.size, fun b hb => hp.fr.same b hb (hno b)⟩
/-- The weights of one argument. -/
theorem weights_at {H : Type} {ts : List TypeId} {ds : List (DataW H)} (hsz : (DataW.weightsEach P ts ds).all (· ≤ reachBytes) = true) (j : Nat) {t : TypeId} {d : DataW H} (ht : ts[j]? = some t) (hd : ds[j]? = some d) :
    ∀ n ∈ d.weights P t, n ≤ reachBytes := fun n hn => by
  have := List.all_eq_true.1 hsz n (DataW.weights_mem_each ht hd n hn)
  simpa using this

end Go.Proofs.Ytofendipdfepoaa.Gp

/- Frames of a screen: what is seen. No program in sight. -/
set_option linter.unusedVariables false
set_option maxRecDepth 100000
noncomputable section
namespace Go.Proofs.Ytofendipdfepoaa.Ft
open Go Go.Proofs.Ytofendipdfepoaa.Gp

def badC (c : Int) : Bool := decide (c < 0 ∨ c > 15)
def rfault (f : List Int) : Int := if f.length ≠ 2560 then 3 else if f.any badC then 1 else 0
theorem walk_bad {α R : Type} (bad : α → Bool) (e fin : R) : ∀ (l : List α), walk (fun (_ : Unit) x => if bad x then (.inr e : Unit ⊕ R) else .inl ()) (fun _ => fin) l () = if l.any bad then e else fin
  | [] => rfl
  | x :: l => by
    rw [walk_cons, List.any_cons]
    cases h : bad x with
    | true => simp
    | false => simpa using walk_bad bad e fin l
theorem len_ne (f : List Int) : ((List.length f : Int) != 2560) = decide (f.length ≠ 2560) := by
  rw [Bool.eq_iff_iff, bne_iff_ne, decide_eq_true_iff]; omega
theorem right_ev (f : List Int) : Ev (fun k => Right26 k f) (rfault f, ()) := by
  unfold Right26 rfault
  rw [len_ne]
  refine .iff (fun h => .now' (by rw [if_pos h])) (fun h => ?_)
  rw [if_neg h]
  have hlen : f.length = 2560 := Decidable.byContradiction fun hn => h hn
  have hw : Lp (fun k => Right26.l0 k f) 0 (if f.any badC then .inr (1, ()) else .inl ()) := by
    rw [← walk_bad (R := Unit ⊕ (Int × Unit))]
    refine Lp.walk (body := fun k => Right26.l0 k f) f (fun (_ : Unit) i => i) _ _ (fun _ _ => True) (fun i x b hx _ => ⟨?_, fun _ _ => trivial⟩) (fun b _ => ?_) (b := ()) trivial
    · have hi := get_lt hx
      simp only [Right26.l0]
      refine .yes (decide_eq_true (by omega)) (.val (rd_some' hx) ?_)
      rw [or2]
      refine .cnd (fun h => .now' ?_) (fun h => .now' ?_)
      · rw [if_pos (show badC x = true from h)]
      · rw [if_neg (by rw [show badC x = false from h]; decide), w64_id (by omega) (by omega)]
    · simp only [Right26.l0]
      exact .no (by simp) (.now _)
  by_cases hb : f.any badC = true
  · rw [if_pos hb] at hw ⊢
    exact .joinR hw.ev
  · rw [if_neg hb] at hw ⊢
    exact .joinL (S := Unit) (a := ()) hw.ev (.now _)
theorem tmod_nat (a b : Nat) : Int.tmod (a : Int) (b : Int) = ((a % b : Nat) : Int) := (Int.ofNat_tmod a b).symm
/-- what is seen -/
def at2 (a : List Int) (i : Nat) : Int := a.getD (i / 48 * 64 + i % 48) 0
def vis (a : List Int) : List Int := (List.range 1536).map (at2 a)
def segs (a : List Int) (n : Nat) : List Int := (List.range n).foldl (fun o y => o ++ (a.take (y * 64 + 48)).drop (y * 64)) []
theorem segs_ok {a : List Int} (ha : a.length = 2560) : ∀ n, n ≤ 32 → segs a n = (List.range (n * 48)).map (at2 a) := by
  intro n
  induction n with
  | zero => intro _; rfl
  | succ n ih =>
    intro h
    have e : segs a (n + 1) = segs a n ++ (a.take (n * 64 + 48)).drop (n * 64) := by
      unfold segs
      rw [List.range_succ, List.foldl_append]
      rfl
    rw [e, ih (by omega), Nat.add_mul, Nat.one_mul, List.range_add, List.map_append]
    congr 1
    apply List.ext_getElem?
    intro i
    rw [List.getElem?_drop, List.map_map, List.getElem?_map]
    by_cases hi : i < 48
    · rw [List.getElem?_take_of_lt (by omega), List.getElem?_range hi]
      show _ = some (at2 a (n * 48 + i))
      unfold at2
      rw [show (n * 48 + i) / 48 = n by omega, show (n * 48 + i) % 48 = i by omega, List.getD_eq_getElem?_getD, List.getElem?_eq_getElem (by omega : n * 64 + i < a.length)]
      rfl
    · rw [List.getElem?_eq_none (by rw [List.length_take]; omega), List.getElem?_eq_none (by rw [List.length_range]; omega)]
      rfl
theorem seen_lp (a : List Int) (ha : a.length = 2560) : Lp (fun k => Seen27.l0 k a) ((), 0, []) ((), vis a) := by
  have := Lp.count (body := fun k => Seen27.l0 k a) 32 (fun (o : List Int) i => ((), i, o)) (fun o y => o ++ (a.take (y * 64 + 48)).drop (y * 64)) (fun o => ((), o)) (fun i o => o.length = i * 48) (fun i o hi ho => ⟨?_, ?_⟩) (fun b _ => ?_) (b := []) rfl
  · rw [show (List.range 32).foldl (fun o y => o ++ (a.take (y * 64 + 48)).drop (y * 64)) [] = vis a from segs_ok ha 32 (Nat.le_refl _)] at this
    exact this
  · have h1 : w64 ((i : Int) * 64) = ((i * 64 : Nat) : Int) := by rw [w64_id (by omega) (by omega)]; omega
    have h2 : w64 (((i * 64 : Nat) : Int) + 48) = ((i * 64 + 48 : Nat) : Int) := by rw [w64_id (by omega) (by omega)]; omega
    have hlen : ((a.take (i * 64 + 48)).drop (i * 64)).length = 48 := by rw [List.length_drop, List.length_take]; omega
    simp only [Seen27.l0]
    rw [h1, h2]
    refine .yes (decide_eq_true (by omega)) (.val (slc_ok (by omega) (by omega)) (.val (a := ()) (if_pos (room_ok ?_)) (.now' ?_)))
    · rw [hlen, ho]; omega
    · rw [w64_id (by omega) (by omega)]
  · rw [List.length_append, ho, List.length_drop, List.length_take]; omega
  · simp only [Seen27.l0]
    exact .no (decide_eq_false (by omega)) (.now _)
theorem len_of {a : List Int} (h : rfault a = 0) : a.length = 2560 ∧ ∀ c ∈ a, 0 ≤ c ∧ c ≤ 15 := by
  unfold rfault at h
  by_cases h1 : a.length ≠ 2560
  · rw [if_pos h1] at h; cases h
  · rw [if_neg h1] at h
    refine ⟨by omega, fun c hc => ?_⟩
    by_cases h2 : a.any badC = true
    · rw [if_pos h2] at h; cases h
    · have h3 : a.any badC = false := by simpa using h2
      rw [List.any_eq_false] at h3
      have := h3 c hc
      unfold badC at this
      simp only [decide_eq_true_eq] at this
      omega
theorem see_ev (a : List Int) : Ev (fun k => Seen27 k a) ((if rfault a ≠ 0 then [] else vis a, rfault a, ()), ()) := by
  unfold Seen27
  refine .bind (right_ev a) ?_
  by_cases h : rfault a ≠ 0
  · rw [if_pos h]
    exact .yes (bne_iff_ne.2 h) (.now _)
  · rw [if_neg h]
    have h0 : rfault a = 0 := by omega
    refine .no (by rw [h0]; rfl) (.bind (seen_lp a (len_of h0).1).ev (.now' (by rw [h0])))
theorem at2_mem {a : List Int} (ha : a.length = 2560) {i : Nat} (hi : i < 1536) : a[i / 48 * 64 + i % 48]? = some (at2 a i) := by
  have hlt : i / 48 * 64 + i % 48 < a.length := by omega
  unfold at2
  rw [List.getD_eq_getElem?_getD, List.getElem?_eq_getElem hlt]
  rfl
theorem vis_get (a : List Int) {i : Nat} (hi : i < 1536) : (vis a)[i]? = some (at2 a i) := by
  unfold vis
  rw [List.getElem?_map, List.getElem?_range hi]
  rfl
theorem vis_len (a : List Int) : (vis a).length = 1536 := by unfold vis; rw [List.length_map, List.length_range]
end Go.Proofs.Ytofendipdfepoaa.Ft

/- Frames as texts: the reference's text of a frame. No program in sight. -/
set_option linter.unusedVariables false
set_option maxRecDepth 100000
noncomputable section
namespace Go.Proofs.Ytofendipdfepoaa.Ft
open Go Go.Proofs.Ytofendipdfepoaa.Gp

def mkB (l : List UInt8) : ByteArray := ⟨l.toArray⟩
theorem cat_mk {a b : List UInt8} (h : a.length + b.length ≤ 1000000) : catS (mkB a) (mkB b) = some (mkB (a ++ b)) := by
  have sz : ∀ l : List UInt8, (mkB l).size = l.length := fun l => rfl
  unfold catS
  rw [sz, sz, if_neg (by show ¬ ((a.length + b.length : Nat) : Int) > 9223372036854775807; omega)]
  exact congrArg some (ByteArray.ext (by rw [ByteArray.data_append]; simp [mkB]))
theorem quo_nat (i d : Nat) (hi : i < 1000000) : quoI .i64 (i : Int) (d : Int) = ((i / d : Nat) : Int) := by
  have : i / d ≤ i := Nat.div_le_self ..
  show IntKind.wrap .i64 (Int.tdiv (i : Int) (d : Int)) = _
  rw [show Int.tdiv (i : Int) (d : Int) = ((i / d : Nat) : Int) from (Int.ofNat_tdiv i d).symm]
  exact w64_nat (by omega)
abbrev hexZ : ByteArray := ByteArray.mk #[48, 49, 50, 51, 52, 53, 54, 55, 56, 57, 97, 98, 99, 100, 101, 102]
theorem hex_rd {c : Int} (h0 : 0 ≤ c) (h1 : c ≤ 15) : rd (bytesOf hexZ) c = some ((hexB c).toNat : Int) := by
  have : c = 0 ∨ c = 1 ∨ c = 2 ∨ c = 3 ∨ c = 4 ∨ c = 5 ∨ c = 6 ∨ c = 7 ∨ c = 8 ∨ c = 9 ∨ c = 10 ∨ c = 11 ∨ c = 12 ∨ c = 13 ∨ c = 14 ∨ c = 15 := by omega
  rcases this with rfl | rfl | rfl | rfl | rfl | rfl | rfl | rfl | rfl | rfl | rfl | rfl | rfl | rfl | rfl | rfl <;> rfl
theorem str_one (u : UInt8) : strOf [(u.toNat : Int)] = mkB [u] := by
  unfold strOf mkB
  simp
def tx (f : List Int) : Nat → List UInt8
  | 0 => []
  | m + 1 => tx f m ++ (hexB (at2 f m) :: lineB m)
theorem tx_succ (f : List Int) (m : Nat) : tx f (m + 1) = tx f m ++ (hexB (at2 f m) :: lineB m) := rfl
theorem tx_len (f : List Int) : ∀ m, (tx f m).length ≤ 2 * m
  | 0 => Nat.le_refl _
  | m + 1 => by
    have := tx_len f m
    have hl : (lineB m).length ≤ 1 := by unfold lineB; split <;> simp
    show (tx f m ++ (hexB (at2 f m) :: lineB m)).length ≤ _
    rw [List.length_append, List.length_cons]
    omega
theorem tx_from (f : List Int) : ∀ (n m : Nat), tx f m ++ textFrom ((List.range' m n).map (at2 f)) m = tx f (m + n)
  | 0, m => by simp [textFrom]
  | n + 1, m => by
    rw [List.range'_succ, List.map_cons]
    show tx f m ++ ((hexB (at2 f m) :: lineB m) ++ textFrom ((List.range' (m + 1) n).map (at2 f)) (m + 1)) = _
    rw [← List.append_assoc, show m + (n + 1) = (m + 1) + n by omega, ← tx_from f n (m + 1)]
    rfl
theorem tx_vis (f : List Int) : textFrom (vis f) 0 = tx f 1536 := by
  have := tx_from f 1536 0
  rw [← List.range_eq_range', show 0 + 1536 = 1536 from rfl] at this
  rw [← this]
  rfl
/-- what the reference has written after n cells -/
def tS (f : List Int) (n : Nat) : List UInt8 :=
  if n / 64 < 32 then (if n % 64 ≤ 47 then tx f (n / 64 * 48 + n % 64) else if n % 64 = 48 then tx f (n / 64 * 48 + 47) ++ [hexB (at2 f (n / 64 * 48 + 47))] else tx f (n / 64 * 48 + 48)) else tx f 1536
def cS (n : Nat) : Nat := if n / 64 < 32 then n / 64 * 48 + min (n % 64) 48 else 1536
theorem tS_len (f : List Int) (n : Nat) : (tS f n).length ≤ 4000 := by
  unfold tS
  split
  · split
    · have := tx_len f (n / 64 * 48 + n % 64); omega
    · split
      · have := tx_len f (n / 64 * 48 + 47)
        rw [List.length_append, List.length_singleton]; omega
      · have := tx_len f (n / 64 * 48 + 48); omega
  · have := tx_len f 1536; omega
theorem tS_dig (f : List Int) {n : Nat} (h1 : n % 64 < 48) (h2 : n / 64 < 32) : tS f (n + 1) = tS f n ++ [hexB (at2 f (n / 64 * 48 + n % 64))] := by
  have e1 : (n + 1) / 64 = n / 64 := by omega
  have e2 : (n + 1) % 64 = n % 64 + 1 := by omega
  unfold tS
  rw [e1, e2, if_pos h2, if_pos h2, if_pos (show n % 64 ≤ 47 by omega)]
  by_cases h : n % 64 + 1 ≤ 47
  · rw [if_pos h]
    rw [show n / 64 * 48 + (n % 64 + 1) = (n / 64 * 48 + n % 64) + 1 by omega, tx_succ, show lineB (n / 64 * 48 + n % 64) = [] from if_neg (by omega)]
  · rw [if_neg h, if_pos (by omega), show n % 64 = 47 by omega]
theorem tS_line (f : List Int) {n : Nat} (h1 : n % 64 = 48) (h2 : n / 64 < 32) : tS f (n + 1) = tS f n ++ [10] := by
  have e1 : (n + 1) / 64 = n / 64 := by omega
  have e2 : (n + 1) % 64 = 49 := by omega
  unfold tS
  rw [e1, e2, if_pos h2, if_pos h2, if_neg (by omega), if_neg (by omega), if_neg (by omega), if_pos h1]
  rw [show n / 64 * 48 + 48 = (n / 64 * 48 + 47) + 1 by omega, tx_succ, show lineB (n / 64 * 48 + 47) = [10] from if_pos (by omega)]
  simp
theorem tS_stay (f : List Int) {n : Nat} (h : ¬ (n % 64 < 48 ∧ n / 64 < 32)) (h' : ¬ (n % 64 = 48 ∧ n / 64 < 32)) : tS f (n + 1) = tS f n := by
  by_cases h2 : n / 64 < 32
  · have hR : tS f n = tx f (n / 64 * 48 + 48) := by
      unfold tS
      rw [if_pos h2, if_neg (by omega), if_neg (by omega)]
    rw [hR]
    unfold tS
    by_cases h3 : n % 64 = 63
    · by_cases h4 : (n + 1) / 64 < 32
      · rw [if_pos h4, if_pos (by omega)]
        congr 1
        omega
      · rw [if_neg h4]
        congr 1
        omega
    · rw [if_pos (by omega), if_neg (by omega), if_neg (by omega)]
      congr 1
      omega
  · have hR : tS f n = tx f 1536 := by
      unfold tS
      rw [if_neg h2]
    rw [hR]
    unfold tS
    rw [if_neg (by omega)]
theorem cS_in {n : Nat} (h1 : n % 64 < 48) (h2 : n / 64 < 32) : cS n = n / 64 * 48 + n % 64 ∧ cS (n + 1) = n / 64 * 48 + n % 64 + 1 := by
  unfold cS
  rw [if_pos h2, if_pos (by omega)]
  omega
theorem cS_out {n : Nat} (h : ¬ (n % 64 < 48 ∧ n / 64 < 32)) : cS (n + 1) = cS n := by
  unfold cS
  by_cases h2 : n / 64 < 32
  · rw [if_pos h2]
    by_cases h4 : (n + 1) / 64 < 32
    · rw [if_pos h4]; omega
    · rw [if_neg h4]; omega
  · rw [if_neg h2, if_neg (by omega)]
theorem vis_take {f : List Int} {m : Nat} (h : m < 1536) : (vis f).take (m + 1) = (vis f).take m ++ [at2 f m] := by
  rw [List.take_add_one, vis_get f h]
  rfl
theorem ref_lp (f : List Int) (hf : rfault f = 0) : ∀ (m n : Nat), n + m = 2560 → Gp.Lp (fun k => FrameTexts5.l0 k f) ((), mkB (tS f n), (n : Int), (vis f).take (cS n)) ((), mkB (tS f 2560), vis f) := by
  obtain ⟨hl, hc⟩ := len_of hf
  intro m
  induction m with
  | zero =>
    intro n hn
    obtain rfl : n = 2560 := by omega
    refine .done ?_
    simp only [FrameTexts5.l0]
    refine .no (by rw [hl]; rfl) (.now' ?_)
    have : (vis f).take (cS 2560) = vis f := List.take_of_length_le (by rw [vis_len]; decide)
    rw [this]
  | succ m ih =>
    intro n hn
    have hx : f[n]? = some f[n] := List.getElem?_eq_getElem (by omega)
    obtain ⟨c0, c1⟩ := hc _ (get_mem hx)
    generalize f[n]'(by omega) = x at hx c0 c1
    refine .step ?_ (ih (n + 1) (by omega))
    have e1 : Int.tmod (n : Int) 64 = ((n % 64 : Nat) : Int) := tmod_nat n 64
    have e2 : quoI .i64 (n : Int) 64 = ((n / 64 : Nat) : Int) := quo_nat n 64 (by omega)
    have hww : w64 ((n : Int) + 1) = ((n + 1 : Nat) : Int) := w64_succ (by omega)
    have hlen := tS_len f n
    simp only [FrameTexts5.l0, e1, e2]
    refine .yes (decide_eq_true (by omega)) (.val (rd_some' hx) ?_)
    by_cases h : n % 64 < 48 ∧ n / 64 < 32
    · obtain ⟨h1, h2⟩ := h
      obtain ⟨k1, k2⟩ := cS_in h1 h2
      have hxe : at2 f (n / 64 * 48 + n % 64) = x := by
        have := at2_mem hl (i := n / 64 * 48 + n % 64) (by omega)
        rw [show (n / 64 * 48 + n % 64) / 48 * 64 + (n / 64 * 48 + n % 64) % 48 = n by omega, hx] at this
        exact (Option.some.inj this).symm
      have ht := tS_dig f h1 h2
      have hk1 : (vis f).take (cS (n + 1)) = (vis f).take (cS n) ++ [x] := by rw [k2, k1, vis_take (by omega), hxe]
      rw [hxe] at ht
      refine .bind (.yes (by rw [decide_eq_true (by omega), decide_eq_true (by omega)]; rfl) (.val (a := ()) ?_ (.val (hex_rd c0 c1) (.val (a := mkB (tS f n ++ [hexB x])) ?_ (.now _))))) (.bind (a := ((), mkB (tS f n ++ [hexB x]), (vis f).take (cS n) ++ [x])) (.no ?_ (.now _)) (.now' ?_))
      · rw [if_pos (room_ok (by rw [List.length_take, vis_len]; simp only [List.length_cons, List.length_nil]; omega))]
      · rw [str_one, cat_mk (by rw [List.length_singleton]; omega)]
      · have : (((n % 64 : Nat) : Int) == 48) = false := beq_false_of_ne (by omega)
        rw [this]; rfl
      · rw [hww, ht, hk1]
    · have hk1 := cS_out h
      have hno : cond (decide (((n % 64 : Nat) : Int) < 48)) (decide (((n / 64 : Nat) : Int) < 32)) false = false := by
        by_cases h1 : n % 64 < 48
        · rw [decide_eq_true (by omega), decide_eq_false (show ¬ ((n / 64 : Nat) : Int) < 32 by omega)]; rfl
        · rw [decide_eq_false (show ¬ ((n % 64 : Nat) : Int) < 48 by omega)]; rfl
      refine .bind (.no hno (.now _)) ?_
      by_cases h' : n % 64 = 48 ∧ n / 64 < 32
      · have ht := tS_line f h'.1 h'.2
        refine .bind (.yes (by rw [beq_iff_eq.2 (by omega), decide_eq_true (by omega)]; rfl) (.val (a := mkB (tS f n ++ [10])) ?_ (.now _))) (.now' ?_)
        · exact cat_mk (b := [10]) (by rw [List.length_singleton]; omega)
        · rw [hww, ht, hk1]
      · have ht := tS_stay f h h'
        refine .bind (.no ?_ (.now _)) (.now' ?_)
        · by_cases h1 : n % 64 = 48
          · rw [beq_iff_eq.2 (show ((n % 64 : Nat) : Int) = 48 by omega), decide_eq_false (by omega)]; rfl
          · have : (((n % 64 : Nat) : Int) == 48) = false := beq_false_of_ne (by omega)
            rw [this]; rfl
        · rw [hww, ht, hk1]
end Go.Proofs.Ytofendipdfepoaa.Ft

/- Frames as texts: reading; the law. No program in sight. -/
set_option linter.unusedVariables false
set_option maxRecDepth 100000
noncomputable section
namespace Go.Proofs.Ytofendipdfepoaa.Ft
open Go Go.Proofs.Ytofendipdfepoaa.Gp

-- a frame of one colour
theorem fill_end {v : Int} {all : List Int} (h : all.length = 2560) (ha : ∀ j, j < 2560 → all[j]? = some v) : all = List.replicate 2560 v := by
  refine List.ext_getElem? fun j => ?_
  by_cases hj : j < 2560
  · rw [ha j hj, List.getElem?_replicate, if_pos hj]
  · rw [List.getElem?_eq_none (by omega), List.getElem?_eq_none (by rw [List.length_replicate]; omega)]
theorem fill_set {v : Int} {all : List Int} (h : all.length = 2560) {i : Nat} (hi : i < 2560) (ha : ∀ j, j < i → all[j]? = some v) : (all.set i v).length = 2560 ∧ ∀ j, j < i + 1 → (all.set i v)[j]? = some v := by
  refine ⟨by rw [List.length_set, h], fun j hj => ?_⟩
  rw [List.getElem?_set]
  by_cases e : i = j
  · rw [if_pos e, if_pos (by omega)]
  · rw [if_neg e]; exact ha j (by omega)
theorem lt0 {i : Nat} (h : i < 2560) : (i : Int) < ((List.replicate (Int.toNat 2560) (0 : Int)).length : Int) := by
  rw [List.length_replicate]
  show (i : Int) < ((2560 : Nat) : Int)
  omega
theorem fillR (v : Int) : ∀ (m i : Nat) (all : List Int), i + m = 2560 → all.length = 2560 → (∀ j, j < i → all[j]? = some v) → Gp.Lp (fun k => Read30.l0 k v) ((), (i : Int), all) ((), List.replicate 2560 v) := by
  intro m
  induction m with
  | zero =>
    intro i all hi hl ha
    obtain rfl : i = 2560 := by omega
    refine .done ?_
    simp only [Read30.l0]
    exact .no rfl (.now' (by rw [← fill_end hl ha]))
  | succ m ih =>
    intro i all hi hl ha
    obtain ⟨h1, h2⟩ := fill_set hl (v := v) (i := i) (by omega) ha
    refine .step ?_ (ih (i + 1) (all.set i v) (by omega) h1 h2)
    have hx : all[i]? = some all[i] := List.getElem?_eq_getElem (by omega)
    simp only [Read30.l0]
    refine .yes (decide_eq_true (lt0 (by omega))) (.val (rd_some' hx) (.val (rd_some' hx) (.now' ?_)))
    rw [w64_succ (by omega), Int.toNat_natCast]
theorem fillL (v : Int) : ∀ (m i : Nat) (all : List Int), i + m = 2560 → all.length = 2560 → (∀ j, j < i → all[j]? = some v) → Gp.Lp (fun k => FrameTexts5.l1 k v) ((), (i : Int), all) ((), List.replicate 2560 v) := by
  intro m
  induction m with
  | zero =>
    intro i all hi hl ha
    obtain rfl : i = 2560 := by omega
    refine .done ?_
    simp only [FrameTexts5.l1]
    exact .no rfl (.now' (by rw [← fill_end hl ha]))
  | succ m ih =>
    intro i all hi hl ha
    obtain ⟨h1, h2⟩ := fill_set hl (v := v) (i := i) (by omega) ha
    refine .step ?_ (ih (i + 1) (all.set i v) (by omega) h1 h2)
    have hx : all[i]? = some all[i] := List.getElem?_eq_getElem (by omega)
    simp only [FrameTexts5.l1]
    refine .yes (decide_eq_true (lt0 (by omega))) (.val (rd_some' hx) (.val (rd_some' hx) (.now' ?_)))
    rw [w64_succ (by omega), Int.toNat_natCast]
-- reading
def ix (b : Int) : Int := Lib.indexByte hexZ.data.toList b.toNat.toUInt8
theorem ix_ev (b : Int) : Ev (fun k => IndexByte31 k hexZ b) (ix b, ()) := ⟨0, fun k _ => rfl⟩
def rdAll : List Int → Nat → List Int → Int × List Int
  | [], _, all => (0, all)
  | b :: l, i, all =>
    if i % 49 = 48 then (if b ≠ 10 then (3, []) else rdAll l (i + 1) all)
    else if ix b < 0 then (14, []) else rdAll l (i + 1) (all.set (i / 49 * 64 + i % 49) (ix b))
theorem rd_err : ∀ {l : List Int} {i : Nat} {all : List Int}, (rdAll l i all).1 ≠ 0 → (rdAll l i all).2 = []
  | [], i, all, h => absurd rfl h
  | b :: l, i, all, h => by
    unfold rdAll at h ⊢
    by_cases h1 : i % 49 = 48
    · rw [if_pos h1] at h ⊢
      by_cases h2 : b ≠ 10
      · rw [if_pos h2]
      · rw [if_neg h2] at h ⊢; exact rd_err h
    · rw [if_neg h1] at h ⊢
      by_cases h2 : ix b < 0
      · rw [if_pos h2]
      · rw [if_neg h2] at h ⊢; exact rd_err h
section
variable (s : ByteArray) (hs : s.size = 1568)
include hs
theorem bl : (bytesOf s).length = 1568 := by unfold bytesOf; rw [List.length_map, Array.length_toList]; exact hs
omit hs in
theorem at_idx {i : Nat} (hi : i < 1568) (h : i % 49 ≠ 48) : w64 ((w64 (((i / 49 : Nat) : Int) * 64)) + ((i % 49 : Nat) : Int)) = ((i / 49 * 64 + i % 49 : Nat) : Int) ∧ i / 49 * 64 + i % 49 < 2560 := by
  have e : w64 (((i / 49 : Nat) : Int) * 64) = ((i / 49 * 64 : Nat) : Int) := by rw [w64_id (by omega) (by omega)]; omega
  rw [e, w64_id (by omega) (by omega)]
  omega
theorem readR : ∀ (m i : Nat) (all : List Int), i + m = 1568 → all.length = 2560 → Gp.Lp (fun k => Read30.l1 k s) ((), (i : Int), all)
    (if (rdAll ((bytesOf s).drop i) i all).1 = 0 then .inl ((), (rdAll ((bytesOf s).drop i) i all).2) else .inr (([], (rdAll ((bytesOf s).drop i) i all).1, ()), ())) := by
  have hbl := bl s hs
  intro m
  induction m with
  | zero =>
    intro i all hi hl
    obtain rfl : i = 1568 := by omega
    rw [List.drop_of_length_le (by omega)]
    refine .done ?_
    simp only [Read30.l1, hs]
    exact .no rfl (.now _)
  | succ m ih =>
    intro i all hi hl
    have hx : (bytesOf s)[i]? = some (bytesOf s)[i] := List.getElem?_eq_getElem (by omega)
    have hdr : (bytesOf s).drop i = (bytesOf s)[i] :: (bytesOf s).drop (i + 1) := List.drop_eq_getElem_cons (by omega)
    generalize (bytesOf s)[i]'(by omega) = b at hx hdr
    rw [hdr]
    have e1 : Int.tmod (i : Int) 49 = ((i % 49 : Nat) : Int) := tmod_nat i 49
    have e2 : quoI .i64 (i : Int) 49 = ((i / 49 : Nat) : Int) := quo_nat i 49 (by omega)
    have hww : w64 ((i : Int) + 1) = ((i + 1 : Nat) : Int) := w64_succ (by omega)
    unfold rdAll
    by_cases h1 : i % 49 = 48
    · rw [if_pos h1]
      by_cases h2 : b ≠ 10
      · rw [if_pos h2, if_neg (by decide)]
        refine .done ?_
        simp only [Read30.l1, hs, e1, e2]
        exact .yes (decide_eq_true (by omega)) (.joinR (.yes (beq_iff_eq.2 (by omega)) (.val (rd_some' hx) (.yes (bne_iff_ne.2 h2) (.now _)))))
      · rw [if_neg h2]
        refine .step ?_ (ih (i + 1) all (by omega) hl)
        simp only [Read30.l1, hs, e1, e2]
        refine .yes (decide_eq_true (by omega)) (.joinL (S := Unit × List Int) (.yes (beq_iff_eq.2 (by omega)) (.val (rd_some' hx) (.no (by simpa using h2) (.now _)))) (.now' ?_))
        rw [hww]
    · rw [if_neg h1]
      have hn : (((i % 49 : Nat) : Int) == 48) = false := beq_false_of_ne (by omega)
      by_cases h2 : ix b < 0
      · rw [if_pos h2, if_neg (by decide)]
        refine .done ?_
        simp only [Read30.l1, hs, e1, e2]
        exact .yes (decide_eq_true (by omega)) (.joinR (.no hn (.val (rd_some' hx) (.bind (ix_ev b) (.yes (decide_eq_true h2) (.now _))))))
      · rw [if_neg h2]
        obtain ⟨a1, a2⟩ := at_idx (i := i) (by omega) h1
        refine .step ?_ (ih (i + 1) (all.set (i / 49 * 64 + i % 49) (ix b)) (by omega) (by rw [List.length_set, hl]))
        have hy : all[i / 49 * 64 + i % 49]? = some all[i / 49 * 64 + i % 49] := List.getElem?_eq_getElem (by omega)
        simp only [Read30.l1, hs, e1, e2, a1]
        refine .yes (decide_eq_true (by omega)) (.joinL (S := Unit × List Int) (.no hn (.val (rd_some' hx) (.bind (ix_ev b) (.no (decide_eq_false h2) (.val (rd_some' hy) (.val (rd_some' hy) (.now _))))))) (.now' ?_))
        rw [hww, Int.toNat_natCast]
theorem readL : ∀ (m i : Nat) (all : List Int), i + m = 1568 → all.length = 2560 → ∃ all', ((rdAll ((bytesOf s).drop i) i all).1 = 0 → all' = (rdAll ((bytesOf s).drop i) i all).2) ∧ Gp.Lp (fun k => FrameTexts5.l2 k s) (0, (), (i : Int), all) ((rdAll ((bytesOf s).drop i) i all).1, (), all') := by
  have hbl := bl s hs
  have stop : ∀ (e : Int) (i : Int) (all : List Int), e ≠ 0 → Gp.Lp (fun k => FrameTexts5.l2 k s) (e, (), i, all) (e, (), all) := by
    intro e i all he
    refine .done ?_
    simp only [FrameTexts5.l2]
    have : (e == 0) = false := beq_false_of_ne he
    exact .no (by rw [this]; rfl) (.now _)
  intro m
  induction m with
  | zero =>
    intro i all hi hl
    obtain rfl : i = 1568 := by omega
    rw [List.drop_of_length_le (by omega)]
    refine ⟨all, fun _ => rfl, .done ?_⟩
    simp only [FrameTexts5.l2, hs]
    exact .no rfl (.now _)
  | succ m ih =>
    intro i all hi hl
    have hx : (bytesOf s)[i]? = some (bytesOf s)[i] := List.getElem?_eq_getElem (by omega)
    have hdr : (bytesOf s).drop i = (bytesOf s)[i] :: (bytesOf s).drop (i + 1) := List.drop_eq_getElem_cons (by omega)
    generalize (bytesOf s)[i]'(by omega) = b at hx hdr
    rw [hdr]
    have e1 : Int.tmod (i : Int) 49 = ((i % 49 : Nat) : Int) := tmod_nat i 49
    have e2 : quoI .i64 (i : Int) 49 = ((i / 49 : Nat) : Int) := quo_nat i 49 (by omega)
    have hww : w64 ((i : Int) + 1) = ((i + 1 : Nat) : Int) := w64_succ (by omega)
    have hgo : cond ((0 : Int) == 0) (decide ((i : Int) < ((1568 : Nat) : Int))) false = true := by rw [decide_eq_true (by omega)]; rfl
    unfold rdAll
    by_cases h1 : i % 49 = 48
    · rw [if_pos h1]
      have hy48 : (((i % 49 : Nat) : Int) == 48) = true := beq_iff_eq.2 (by omega)
      have hlt : decide (((i % 49 : Nat) : Int) < 48) = false := decide_eq_false (by omega)
      by_cases h2 : b ≠ 10
      · rw [if_pos h2]
        refine ⟨all, fun h => absurd h (by decide), .step ?_ (stop 3 ((i + 1 : Nat) : Int) all (by decide))⟩
        · simp only [FrameTexts5.l2, hs, e1, e2]
          refine .yes hgo (.val (rd_some' hx) (.bind (ix_ev b) (.bind (a := true) (.yes hy48 (.val (rd_some' hx) (.now' (bne_iff_ne.2 h2)))) (.bind (.yes rfl (.now _)) (.now' ?_)))))
          rw [hww]
      · rw [if_neg h2]
        obtain ⟨all', g1, g2⟩ := ih (i + 1) all (by omega) hl
        refine ⟨all', g1, .step ?_ g2⟩
        simp only [FrameTexts5.l2, hs, e1, e2]
        refine .yes hgo (.val (rd_some' hx) (.bind (ix_ev b) (.bind (a := false) (.yes hy48 (.val (rd_some' hx) (.now' (by simpa using h2)))) (.bind (.no rfl (.bind (.no (by rw [hlt]; rfl) (.bind (.no hlt (.now _)) (.now _))) (.now _))) (.now' ?_)))))
        rw [hww]
    · rw [if_neg h1]
      have hn : (((i % 49 : Nat) : Int) == 48) = false := beq_false_of_ne (by omega)
      have hlt : decide (((i % 49 : Nat) : Int) < 48) = true := decide_eq_true (by omega)
      by_cases h2 : ix b < 0
      · rw [if_pos h2]
        refine ⟨all, fun h => absurd h (by decide), .step ?_ (stop 14 ((i + 1 : Nat) : Int) all (by decide))⟩
        · simp only [FrameTexts5.l2, hs, e1, e2]
          refine .yes hgo (.val (rd_some' hx) (.bind (ix_ev b) (.bind (a := false) (.no hn (.now _)) (.bind (.no rfl (.bind (.yes (by rw [hlt, decide_eq_true h2]; rfl) (.now _)) (.now _))) (.now' ?_)))))
          rw [hww]
      · rw [if_neg h2]
        obtain ⟨a1, a2⟩ := at_idx (i := i) (by omega) h1
        obtain ⟨all', g1, g2⟩ := ih (i + 1) (all.set (i / 49 * 64 + i % 49) (ix b)) (by omega) (by rw [List.length_set, hl])
        refine ⟨all', g1, .step ?_ g2⟩
        have hy : all[i / 49 * 64 + i % 49]? = some all[i / 49 * 64 + i % 49] := List.getElem?_eq_getElem (by omega)
        simp only [FrameTexts5.l2, hs, e1, e2, a1]
        refine .yes hgo (.val (rd_some' hx) (.bind (ix_ev b) (.bind (a := false) (.no hn (.now _)) (.bind (.no rfl (.bind (.no (by rw [hlt, decide_eq_false h2]; rfl) (.bind (.yes hlt (.val (rd_some' hy) (.val (rd_some' hy) (.now _)))) (.now _))) (.now _))) (.now' ?_)))))
        rw [hww, Int.toNat_natCast]
end
theorem equal_ev (l : List Int) (hl : l.length ≤ 1000000) : Ev (fun k => Equal20 k l l) (true, ()) := by
  unfold Equal20
  refine .no (by simp) (.joinL (S := Unit) (a := ()) (Lp.ev ?_) (.now _))
  refine Lp.fold (body := fun k => Equal20.l0 k l l) l (fun (_ : Unit) i => i) (fun _ _ => ()) (fun _ => (.inl () : Unit ⊕ (Bool × Unit))) (fun _ _ => True) (fun i x b hx _ => ⟨?_, trivial⟩) (fun b _ => ?_) (b := ()) trivial
  · have hi := get_lt hx
    simp only [Equal20.l0]
    refine .yes (decide_eq_true (by omega)) (.val (rd_some' hx) (.val (rd_some' hx) (.no (by simp) (.now' ?_))))
    rw [w64_id (by omega) (by omega)]
  · simp only [Equal20.l0]
    exact .no (by simp) (.now _)
theorem equalF_ev (l : List Int) (hl : l.length ≤ 1000000) : Ev (fun k => Equal32 k l l) (true, ()) := by
  unfold Equal32
  refine .no (by simp) (.joinL (S := Unit) (a := ()) (Lp.ev ?_) (.now _))
  refine Lp.fold (body := fun k => Equal32.l0 k l l) l (fun (_ : Unit) i => i) (fun _ _ => ()) (fun _ => (.inl () : Unit ⊕ (Bool × Unit))) (fun _ _ => True) (fun i x b hx _ => ⟨?_, trivial⟩) (fun b _ => ?_) (b := ()) trivial
  · have hi := get_lt hx
    simp only [Equal32.l0]
    refine .yes (decide_eq_true (by omega)) (.val (rd_some' hx) (.val (rd_some' hx) (.no (by simp) (.now' ?_))))
    rw [w64_id (by omega) (by omega)]
  · simp only [Equal32.l0]
    exact .no (by simp) (.now _)
theorem text_ev (f : List Int) : Ev (fun k => Text28 k f) (if rfault f = 0 then ((mkB (textFrom (vis f) 0), 0, ()), ()) else ((.empty, rfault f, ()), ())) := by
  obtain ⟨a, h⟩ := see_ev f
  refine ⟨a, fun k hk => ?_⟩
  show textR (Seen27 k f) = _
  have hk' : Seen27 k f = some ((if rfault f ≠ 0 then [] else vis f, rfault f, ()), ()) := h k hk
  by_cases h0 : rfault f = 0
  · obtain ⟨hl, hc⟩ := len_of h0
    rw [h0, if_neg (by decide)] at hk'
    rw [hk', if_pos h0]
    unfold textR
    simp only [Option.bind_some]
    rw [if_pos ⟨by rw [vis_len]; decide, fun c hc' => by
      obtain ⟨i, hi⟩ := List.getElem?_of_mem hc'
      have hlt := get_lt hi
      rw [vis_len] at hlt
      rw [vis_get f hlt] at hi
      cases hi
      have := hc _ (get_mem (at2_mem hl hlt))
      omega⟩]
    rfl
  · rw [if_pos h0] at hk'
    rw [hk', if_neg h0]
    unfold textR
    simp only [Option.bind_some]
    rw [if_pos ⟨by simp, fun c hc' => by simp at hc'⟩, if_neg h0]
def bfault (s : ByteArray) (border : Int) : Int := if border < 0 ∨ border > 15 then 1 else if s.size ≠ 1568 then 3 else 0
def readF (s : ByteArray) (border : Int) : Int × List Int := if bfault s border ≠ 0 then (bfault s border, []) else rdAll (bytesOf s) 0 (List.replicate 2560 border)
theorem or_b (border : Int) : cond (decide (border < 0)) true (decide (border > 15)) = decide (border < 0 ∨ border > 15) := or2 _ _
theorem ne_b (s : ByteArray) : ((ByteArray.size s : Int) != 1568) = decide (s.size ≠ 1568) := by
  rw [Bool.eq_iff_iff, bne_iff_ne, decide_eq_true_iff]; omega
theorem rd_len : ∀ {l : List Int} {i : Nat} {all : List Int}, (rdAll l i all).2.length ≤ all.length
  | [], i, all => Nat.le_refl _
  | b :: l, i, all => by
    unfold rdAll
    split
    · split
      · exact Nat.zero_le _
      · exact rd_len
    · split
      · exact Nat.zero_le _
      · exact Nat.le_trans rd_len (by rw [List.length_set]; exact Nat.le_refl _)
theorem read_ev (s : ByteArray) (border : Int) : Ev (fun k => Read30 k s border) (((readF s border).2, (readF s border).1, ()), ()) := by
  unfold Read30
  rw [or_b, ne_b]
  by_cases h1 : border < 0 ∨ border > 15
  · have hr : readF s border = (1, []) := by
      unfold readF
      rw [show bfault s border = 1 from if_pos h1]
      rfl
    rw [hr]
    exact .yes (decide_eq_true h1) (.now _)
  refine .no (decide_eq_false h1) ?_
  by_cases h2 : s.size ≠ 1568
  · have hr : readF s border = (3, []) := by
      unfold readF
      rw [show bfault s border = 3 from (if_neg h1).trans (if_pos h2)]
      rfl
    rw [hr]
    exact .yes (decide_eq_true h2) (.now _)
  have hr : readF s border = rdAll (bytesOf s) 0 (List.replicate 2560 border) := by
    unfold readF
    rw [show bfault s border = 0 from (if_neg h1).trans (if_neg h2)]
    rfl
  rw [hr]
  have hs : s.size = 1568 := by omega
  refine .no (decide_eq_false h2) (.val (a := ()) rfl ?_)
  have f1 := fillR border 2560 0 (List.replicate (Int.toNat 2560) 0) (by omega) (by rw [List.length_replicate]; rfl) (fun j hj => by omega)
  have r1 := readR s hs 1568 0 (List.replicate 2560 border) (by omega) (by rw [List.length_replicate])
  rw [List.drop_zero] at r1
  refine .bind f1.ev ?_
  by_cases he : (rdAll (bytesOf s) 0 (List.replicate 2560 border)).1 = 0
  · rw [if_pos he] at r1
    exact .joinL (S := Unit × List Int) r1.ev (.now' (by rw [he]))
  · rw [if_neg he] at r1
    rw [rd_err he]
    exact .joinR r1.ev
theorem law_texts (f : List Int) (s : ByteArray) (border : Int) : ∃ k, FrameTexts5 k f s border = some (true, ()) := by
  refine Ev.ex ?_
  unfold FrameTexts5
  -- what comes behind the texts
  have tail : Ev (fun k => ((Read30 k s border).bind fun t102 =>
      (if (0 : Int) ≤ 2560 ∧ (2560 : Int) ≤ 2560 ∧ (2560 : Int) * 8 ≤ 140737488355328 then some () else none).bind fun _ =>
      Option.bind
        (loopN (FrameTexts5.l1 k border) k ((), 0, (List.replicate (Int.toNat 2560) 0)) : Option (Unit × (List Int))) fun ((_, t105_2) : (Unit × (List Int))) =>
      Option.bind
        (cond (cond (decide (border < 0)) true (decide (border > 15)))
          (some (1, (), t105_2))
          (Option.bind
            (cond ((ByteArray.size s : Int) != 1568)
              (some (3, (), t105_2))
              (some (0, (), t105_2)) : Option (Int × (Unit × (List Int)))) fun ((e, _, t105_3) : (Int × (Unit × (List Int)))) =>
          some (e, (), t105_3)) : Option (Int × (Unit × (List Int)))) fun ((e_1, _, t105_4) : (Int × (Unit × (List Int)))) =>
      Option.bind
        (loopN (FrameTexts5.l2 k s) k (e_1, (), 0, t105_4) : Option (Int × (Unit × (List Int)))) fun ((e_5, _, t105_10) : (Int × (Unit × (List Int)))) =>
      Option.bind
        (cond (e_5 != 0)
          (some [])
          (some t105_10) : Option (List Int)) fun (want : List Int) =>
      Option.bind (cond (t102.1.2.1 == e_5)
        ((Equal32 k t102.1.1 want).bind fun t180 =>
        some t180.1)
        (some false) : Option Bool) fun t181 =>
      some (t181, ()) : Option (Bool × Unit))) (true, ()) := by
    have f1 := fillL border 2560 0 (List.replicate (Int.toNat 2560) 0) (by omega) (by rw [List.length_replicate]; rfl) (fun j hj => by omega)
    refine .bind (read_ev s border) (.val (a := ()) rfl (.bind f1.ev (.bind (a := (bfault s border, (), List.replicate 2560 border)) ?_ ?_)))
    · rw [or_b, ne_b]
      unfold bfault
      refine .iff (fun h => .now' (by rw [if_pos h])) (fun h => ?_)
      rw [if_neg h]
      refine .bind (a := ((if s.size ≠ 1568 then 3 else 0), (), List.replicate 2560 border)) (.iff (fun h => .now' (by rw [if_pos h])) (fun h => .now' (by rw [if_neg h]))) (.now _)
    · have hlen : (readF s border).2.length ≤ 1000000 := by
        unfold readF
        split
        · exact Nat.zero_le _
        · exact Nat.le_trans rd_len (by rw [List.length_replicate]; decide)
      have key : ∃ all', ((readF s border).1 = 0 → all' = (readF s border).2) ∧ Gp.Lp (fun k => FrameTexts5.l2 k s) (bfault s border, (), 0, List.replicate 2560 border) ((readF s border).1, (), all') := by
        by_cases hb : bfault s border ≠ 0
        · have hr : readF s border = (bfault s border, []) := if_pos hb
          rw [hr]
          refine ⟨List.replicate 2560 border, fun h => absurd h hb, .done ?_⟩
          simp only [FrameTexts5.l2]
          have : (bfault s border == 0) = false := beq_false_of_ne hb
          exact .no (by rw [this]; rfl) (.now _)
        · have hr : readF s border = rdAll (bytesOf s) 0 (List.replicate 2560 border) := if_neg hb
          have hb0 : bfault s border = 0 := by omega
          have hs : s.size = 1568 := by
            unfold bfault at hb0
            split at hb0
            · omega
            split at hb0 <;> omega
          have := readL s hs 1568 0 (List.replicate 2560 border) (by omega) (by rw [List.length_replicate])
          rw [List.drop_zero] at this
          rw [hr, hb0]
          exact this
      obtain ⟨all', k1, k2⟩ := key
      refine .bind k2.ev (.bind (a := (readF s border).2) ?_ (.bind (a := true) (.yes (beq_self_eq_true _) (.bind (equalF_ev _ hlen) (.now _))) (.now _)))
      by_cases he : (readF s border).1 = 0
      · exact .no (by rw [he]; rfl) (.now' (by rw [k1 he]))
      · refine .yes (bne_iff_ne.2 he) (.now' ?_)
        unfold readF at he ⊢
        split
        · rfl
        · rename_i h
          rw [if_neg h] at he
          exact (rd_err he).symm
  have ht := text_ev f
  by_cases h0 : rfault f = 0
  · rw [if_pos h0] at ht
    have hR : Ev (fun k => Right26 k f) (0, ()) := by have := right_ev f; rwa [h0] at this
    have hS : Ev (fun k => Seen27 k f) ((vis f, 0, ()), ()) := by have := see_ev f; rwa [h0, if_neg (by decide)] at this
    have hL := ref_lp f h0 2560 0 (by omega)
    rw [tx_vis] at ht
    have e0 : tS f 0 = [] := rfl
    have e1 : tS f 2560 = tx f 1536 := rfl
    rw [e1, e0] at hL
    refine .bind hR (.bind hS (.bind ht (.bind seen_ev (.no rfl (.joinL (S := Unit) (.yes rfl (.bind hL.ev (.bind (equal_ev (vis f) (by rw [vis_len]; decide)) (.no ?_ (.now _))))) tail)))))
    show cond false true (!(streq (mkB (tx f 1536)) (mkB (tx f 1536)))) = false
    rw [streq_refl]; rfl
  · rw [if_neg h0] at ht
    have hS : Ev (fun k => Seen27 k f) (([], rfault f, ()), ()) := by have := see_ev f; rwa [if_pos h0] at this
    refine .bind (right_ev f) (.bind hS (.bind ht (.bind seen_ev (.no ?_ (.joinL (S := Unit) (.no (beq_false_of_ne h0) (.no (by show cond false true (!(streq .empty .empty)) = false; rw [streq_refl]; rfl) (.now _))) tail)))))
    simp
theorem frameTexts (f : List Int) (s : ByteArray) (border : Int) {p q r : Prop} (_ : p) (_ : q) (_ : r) : ∃ k, FrameTexts5 k f s border = some (true, ()) := law_texts f s border
end Go.Proofs.Ytofendipdfepoaa.Ft

/- The row of FrameTexts: Seen, Text and Read return what is specified for all frames, texts and borders.. The law returns true for every input; the input reads as it did. -/
namespace Go.Proofs.Ytofendipdfepoaa.frameTexts
open Go.ChangeShapes Go.WideShapes Go.ChangeAt Go.RowKit Go.Proofs.Ytofendipdfepoaa.Gp Go.Proofs.Ytofendipdfepoaa.Ft
set_option linter.unusedVariables false
theorem own : ownKnob Try.prog.godebug = none := by kernel_rfl
theorem laidOut : laidOutB Try.prog = true := by kernel_rfl
abbrev wf3 : Int → Prop := (fun (y : Int) => (Lit.int .i64 y).wf = true)
abbrev siz3 : Int → Nat := (fun _ => 1)
theorem gd3 : Gd Try.prog 3 (.int .i64) wf3 siz3 := gd_int Try.underlying3 (by kernel_rfl)
abbrev wf47 : (List Int) → Prop := (wfL (α := Int) 8 wf3)
abbrev siz47 : (List Int) → Nat := (sizL (α := Int) siz3)
theorem gd47 : Gd Try.prog 47 (.sl (.int .i64)) wf47 siz47 := gd_sl (B := 8) Try.underlying47 (by kernel_rfl) (by kernel_rfl) (by decide) gd3
abbrev wf9 : ByteArray → Prop := (fun (y : ByteArray) => y.size ≤ 140737488351232)
abbrev siz9 : ByteArray → Nat := (fun (y : ByteArray) => y.size + 1)
theorem gd9 : Gd Try.prog 9 .str wf9 siz9 := gd_str Try.underlying9 (by kernel_rfl)
set_option maxRecDepth 100000 in
set_option maxHeartbeats 1000000 in
theorem lifted (os : Os) (started : os.Started) (H : Type) (enc : TypeId × Value → H) :
    ReturnsInHanded {} Try.checked os 5 .any (Rows.frameTextsSpec.pre6 enc Try.prog Try.f5 Rows.frameTextsRow.domain false) (Rows.frameTextsSpec.post enc Try.prog Try.f5 false true false false) := by
  refine returnsInHanded_of_change_sized (C := Try.checked) own started (by kernel_rfl) Try.func5
    (ChangeSpec.witness6 (enc := enc) (C := Try.checked) false ⟨#[], #[.slice none 0 0, .string ByteArray.empty, .int .i64 0], []⟩ 8 (by kernel_rfl) (by kernel_rfl) (by kernel_rfl) (by kernel_rfl)) ?_
  intro W base args ds gs before hval0 hW hcnd hsz0 _
  have hsz : (DataW.weightsEach Try.prog (Try.f5.params.toList ++ Rows.frameTextsSpec.plain.varTypes Try.prog) (ds ++ gs)).all (· ≤ reachBytes) = true := hsz0
  have hval : ∀ (j : Nat) t v, Try.f5.params[j]? = some t → args[j]? = some v → Value.okWide Try.prog W .any base t v := hval0
  have hW' := hW
  obtain ⟨p, q, hA0, hV, rfl, hfz, hnd⟩ := hW
  have hA : DataW.TrodAll enc Try.prog W 0 (fun _ => true) true Try.f5.params.toList args.toList ds p := hA0
  rw [Try.params5] at hA hval hsz
  obtain ⟨v0, vs0, d0, ds0, p0, q0, hargs, rfl, rfl, h0, r0⟩ := trodAll_cons hA
  obtain ⟨v1, vs1, d1, ds1, p1, q1, rfl, rfl, rfl, h1, r1⟩ := trodAll_cons r0
  obtain ⟨v2, vs2, d2, ds2, p2, q2, rfl, rfl, rfl, h2, r2⟩ := trodAll_cons r1
  obtain ⟨rfl, rfl, rfl⟩ := trodAll_nil r2
  obtain rfl : args = #[v0, v1, v2] := by cases args; simp_all
  obtain ⟨rfl, rfl⟩ := trodVars_none hV
  have lt0 : ∀ x ∈ p0, x.block < W.heap.size := by obtain ⟨m, hm⟩ := h0; exact DataW.trod_lt m _ _ _ hm
  have wt0 := weights_at hsz 0 (t := 47) rfl rfl
  obtain ⟨a0, s0, wf0_, up0_⟩ := gd47.arg (hval 0 47 v0 rfl rfl) h0 wt0
  have lt1 : ∀ x ∈ p1, x.block < W.heap.size := by obtain ⟨m, hm⟩ := h1; exact DataW.trod_lt m _ _ _ hm
  have wt1 := weights_at hsz 1 (t := 9) rfl rfl
  obtain ⟨a1, s1, wf1_, up1_⟩ := gd9.arg (hval 1 9 v1 rfl rfl) h1 wt1
  have lt2 : ∀ x ∈ p2, x.block < W.heap.size := by obtain ⟨m, hm⟩ := h2; exact DataW.trod_lt m _ _ _ hm
  have wt2 := weights_at hsz 2 (t := 3) rfl rfl
  obtain ⟨a2, s2, wf2_, up2_⟩ := gd3.arg (hval 2 3 v2 rfl rfl) h2 wt2
  clear hA0 hval0 hsz0 hsz
  obtain ⟨k, h⟩ := Ft.frameTexts a0 a1 a2 wf0_ wf1_ wf2_
  refine (law_calls (FrameTexts5.ok k) (ds := (a0, a1, a2)) h (args := #[v0, v1, v2]) (W := W) (.cons (s0 _) (.cons (s1 _) (.cons (s2 _) (.nil))))).mono fun e W' ⟨he, bel0⟩ => ?_
  have bel : Below W.heap.size W W' := bel0
  subst he
  exact ⟨_, rfl, _, _, _, [], _, [], hW', trodAll_mk1 (shut_bool Try.underlying4 _), (trodAll_cons_mk (Below.trod laidOut (by kernel_rfl) (of_decide_eq_true (by kernel_rfl)) h0 bel lt0) (trodAll_cons_mk (Below.trod laidOut (by kernel_rfl) (of_decide_eq_true (by kernel_rfl)) h1 bel lt1) (trodAll_cons_mk (Below.trod laidOut (by kernel_rfl) (of_decide_eq_true (by kernel_rfl)) h2 bel lt2) (trodAll_mk0)))), rfl, bel.frame _, fun h => by cases h⟩
theorem over : Rows.frameTextsRow.holds Try.pinned (OpenSpec.ofChange Rows.frameTextsSpec) :=
  OpenClaim.holds_of_wide 5 Try.f5 rfl rfl rfl rfl rfl rfl rfl ⟨rfl, rfl, rfl, rfl, rfl⟩ rfl rfl rfl rfl rfl (by kernel_rfl) Try.func5 (by kernel_rfl)
    (of_decide_eq_true (by kernel_rfl)) (by unfold Func.isWrapper; first | (rw [if_pos (by decide +kernel)]; kernel_rfl) | (rw [if_neg (by decide +kernel)]; exact ⟨rfl, rfl⟩))
    (fun os started H enc _ => lifted os started H enc)
theorem proved : Rows.FrameTextsSaid := over
#print axioms proved
end Go.Proofs.Ytofendipdfepoaa.frameTexts
namespace Go.Proofs.Ytofendipdfepoaa
theorem frameTexts_holds : Rows.FrameTextsSaid := frameTexts.proved
end Go.Proofs.Ytofendipdfepoaa
