/- Merged texts of one claim: a Go law, its functions without memory, and the plain law. The law returns true for every input; conditions: as the row says. -/
import Derived.Lib.ItoaLen
import Derived.Handed
import Derived.SizedLaws
import Derived.HandedShaped
import Derived.LaidMore
import Derived.Test.YtcppmlgnceldmaaDoorRows
import Derived.Test.YtcppmlgnceldmaaDoorCards
import Derived.Test.YtcppmlgnceldmaaDoorTie
import Derived.LaidHandle
import Derived.MakeChecks
import Derived.Shelf.Vars
import Derived.Lib.LaidTab
import Derived.SevenTiedAt
import Derived.WalkKit
import Derived.ProofKit
import Derived.OpenShut
import Derived.ShutString
import Derived.ChangeOld
import Derived.Below
import Derived.Test.YtcppmlgnceldmaaDoorCDo0
import Derived.Test.YtcppmlgnceldmaaDoorCDo1
import Derived.Test.YtcppmlgnceldmaaDoorCDo2
import Derived.Test.YtcppmlgnceldmaaDoorCDo3
/- One instruction as text: both ways. No program in sight. -/
set_option linter.unusedVariables false
set_option maxRecDepth 100000
noncomputable section
namespace Go.Proofs.YtcppmlgnceldmaaDoor.Do
open Go Go.Proofs.YtcppmlgnceldmaaDoor.Gp

def sgn (n : Nat) : Int := if n ≥ 128 then (n : Int) - 256 else n
theorem signed_ev {n : Nat} (h : n < 256) : Ev (fun k => Signed35 k (n : Int) 8) (sgn n, ()) := by
  unfold Signed35 sgn
  have e8 : (n : Int) % 256 = (n : Int) := by omega
  refine .val (a := (8, ())) rfl (.bind (low8_ev _) (.bind (a := decide (n ≥ 128)) (.yes rfl (.val (a := ((n / 128 : Nat) : Int)) ?_ (.now' ?_))) ?_))
  · show some (shrI .i64 ((n : Int) % 256) 7) = _
    rw [e8]
    exact congrArg some (shrI_nat (j := 7) (by decide))
  · by_cases h1 : n ≥ 128
    · rw [decide_eq_true h1, show n / 128 = 1 by omega]; rfl
    · rw [decide_eq_false h1, show n / 128 = 0 by omega]; rfl
  · by_cases h1 : n ≥ 128
    · rw [if_pos h1]
      refine .bind (a := (n : Int) - 256) (.yes (decide_eq_true h1) (.val (a := 256) rfl (.now' ?_))) (.now _)
      show w64 ((n : Int) % 256 - 256) = _
      rw [e8, w64_id (by omega) (by omega)]
    · rw [if_neg h1]
      refine .bind (a := (n : Int)) (.no (decide_eq_false h1) (.now' ?_)) (.now _)
      exact e8
theorem with_lp {c : Cpu} (hc : Wc c) (op : Int) (o0 : Int × ByteArray × Int × Unit) : ∀ (suf pre : List Ins), c.2.1 = pre ++ suf → Gp.Lp (fun k => with21.l0 k c op) ((), (pre.length : Int), o0) (match suf.find? (fun x => x.1 == op) with | some x => .inr ((x, true, ()), ()) | none => .inl ((), o0)) := by
  have hl := hc.len
  intro suf
  induction suf with
  | nil =>
    intro pre h
    rw [List.append_nil] at h
    refine .done ?_
    simp only [with21.l0]
    exact .no (by rw [h]; simp) (.now _)
  | cons x suf ih =>
    intro pre h
    have hx : c.2.1[pre.length]? = some x := by rw [h]; simp
    have hi := get_lt hx
    cases he : x.1 == op with
    | true =>
      rw [List.find?_cons_of_pos (by exact he)]
      refine .done ?_
      simp only [with21.l0]
      exact .yes (decide_eq_true (by omega)) (.val (rd_some' hx) (.yes he (.now _)))
    | false =>
      rw [List.find?_cons_of_neg (by rw [he]; decide)]
      have := ih (pre ++ [x]) (by rw [h]; simp)
      rw [List.length_append, List.length_singleton] at this
      refine .step ?_ this
      simp only [with21.l0]
      refine .yes (decide_eq_true (by omega)) (.val (rd_some' hx) (.no he (.now' ?_)))
      rw [w64_succ (by omega)]
theorem with_ev {c : Cpu} (hc : Wc c) (op : Int) : Ev (fun k => with21 k c op) (findR c op, ()) := by
  have := with_lp hc op (0, ByteArray.mk #[], 0, ()) c.2.1 [] rfl
  unfold with21 findR findI
  cases h : c.2.1.find? (fun x => x.1 == op) with
  | none =>
    rw [h] at this
    exact .joinL (S := Unit) this.ev (.now _)
  | some x =>
    rw [h] at this
    exact .joinR this.ev

def mkB (l : List UInt8) : ByteArray := ⟨l.toArray⟩
theorem mkB_app (a b : List UInt8) : mkB a ++ mkB b = mkB (a ++ b) := by
  apply ByteArray.ext
  rw [ByteArray.data_append]
  simp [mkB]
theorem mkB_size (a : List UInt8) : (mkB a).size = a.length := by simp [mkB, ByteArray.size]
theorem cat_ok {a b : ByteArray} (h : a.size + b.size ≤ 9223372036854775807) : catS a b = some (a ++ b) := by
  unfold catS
  have e : IntKind.i64.max = 9223372036854775807 := by decide
  rw [e]
  exact if_neg (by omega)
theorem cat_mk {a b : List UInt8} (h : a.length + b.length ≤ 1000000) : catS (mkB a) (mkB b) = some (mkB (a ++ b)) := by
  rw [cat_ok (by rw [mkB_size, mkB_size]; omega), mkB_app]
theorem itoa_ev {n : Int} (h : -9223372036854775808 ≤ n ∧ n ≤ 9223372036854775807) : Ev (fun k => Itoa17 k n) (mkB (Lib.itoa n), ()) := by
  refine .const ?_
  unfold itoaF
  rw [if_pos h]; rfl
theorem itoa_len {n : Int} (h : -9223372036854775808 ≤ n ∧ n ≤ 9223372036854775807) : (Lib.itoa n).length ≤ 21 := Lib.itoa_length_le n h.1 h.2
theorem repl_l {s : List UInt8} {i : Nat} (new : List UInt8) (h1 : Lib.index s [63] = i) (h2 : Lib.count s [63] = 1) (h3 : s.drop i = 63 :: s.drop (i + 1)) : Lib.replace s [63] new 1 = s.take i ++ new ++ s.drop (i + 1) := by
  unfold Lib.replace
  by_cases he : ([63] == new) = true
  · rw [if_pos he]
    have : new = [63] := (beq_iff_eq.1 he).symm
    rw [this, List.append_assoc]
    conv => lhs; rw [← List.take_append_drop i s, h3]
    rfl
  · rw [if_neg he]
    have : Lib.replaceNum s [63] 1 = 1 := by
      unfold Lib.replaceNum
      rw [h2]; rfl
    rw [this, Lib.replaceK_hit _ _ _ _ i h1]
    rfl
theorem repl_ev {s : List UInt8} {i : Nat} {new : List UInt8} (hs : s.length ≤ 100) (hn : new.length ≤ 100) (h1 : Lib.index s [63] = i) (h2 : Lib.count s [63] = 1) (h3 : s.drop i = 63 :: s.drop (i + 1)) :
    Ev (fun k => Replace22 k (mkB s) (mkB [63]) (mkB new) 1) (mkB (s.take i ++ new ++ s.drop (i + 1)), ()) := by
  refine .const ?_
  unfold replF
  have e1 : (mkB s).size = s.length := mkB_size s
  have e2 : (mkB [63]).size = 1 := mkB_size _
  have e3 : (mkB new).size = new.length := mkB_size _
  have e4 : Lib.countB (mkB s) (mkB [63]) = 1 := h2
  show Option.map _ (if (mkB s).size < 4294967281 ∧ 1 ≤ (mkB [63]).size ∧ (mkB s).size + Lib.countB (mkB s) (mkB [63]) * (mkB new).size ≤ 140737488355328 then _ else none) = _
  rw [e1, e2, e3, e4, if_pos ⟨by omega, by omega, by omega⟩]
  show some (mkB (Lib.replace s [63] new 1), ()) = _
  rw [repl_l new h1 h2 h3]
theorem repl_no {new : List UInt8} (hn : new.length ≤ 100) : Ev (fun k => Replace22 k (mkB []) (mkB [63]) (mkB new) 1) (mkB [], ()) := by
  refine .const ?_
  unfold replF
  have e3 : (mkB new).size = new.length := mkB_size _
  have e4 : Lib.countB (mkB []) (mkB [63]) = 0 := rfl
  have e1 : (mkB []).size = 0 := rfl
  have e2 : (mkB [63]).size = 1 := rfl
  show Option.map _ (if (mkB []).size < 4294967281 ∧ 1 ≤ (mkB [63]).size ∧ (mkB []).size + Lib.countB (mkB []) (mkB [63]) * (mkB new).size ≤ 140737488355328 then _ else none) = _
  rw [e1, e2, e3, e4, if_pos ⟨by omega, by omega, by omega⟩]
  show some (mkB (Lib.replace [] [63] new 1), ()) = _
  unfold Lib.replace
  split <;> rfl
def opdL (m : Nat) (t : List UInt8) : List UInt8 :=
  match m with
  | 0 => []
  | 1 => [32, 35] ++ t
  | 2 => [32, 42] ++ t
  | 3 => [32, 42] ++ t ++ [44, 120]
  | 4 => [32] ++ t
  | 5 => [32] ++ t ++ [44, 120]
  | 6 => [32] ++ t ++ [44, 121]
  | 7 => [32, 64] ++ t
  | 8 => [32, 40] ++ t ++ [41, 44, 121]
  | _ => []
theorem opdL_len {m : Nat} {t : List UInt8} (h : t.length ≤ 21) : (opdL m t).length ≤ 30 := by
  unfold opdL
  split <;> simp <;> omega
def formL (m : Nat) : List UInt8 :=
  match m with
  | 0 => []
  | 1 => [32, 35, 63]
  | 2 => [32, 42, 63]
  | 3 => [32, 42, 63, 44, 120]
  | 4 => [32, 63]
  | 5 => [32, 63, 44, 120]
  | 6 => [32, 63, 44, 121]
  | 7 => [32, 64, 63]
  | 8 => [32, 40, 63, 41, 44, 121]
  | _ => []
theorem form_ev {m : Nat} (hm : m ≤ 8) {t : List UInt8} (ht : t.length ≤ 21) : Ev (fun k => Replace22 k (mkB (formL m)) (mkB [63]) (mkB t) 1) (mkB (opdL m t), ()) := by
  have ht2 : t.length ≤ 100 := by omega
  match m, hm with
  | 0, _ => exact repl_no ht2
  | 1, _ => exact repl_ev (s := [32, 35, 63]) (i := 2) (by decide) ht2 (by decide) (by decide) rfl |>.to (by simp [opdL])
  | 2, _ => exact repl_ev (s := [32, 42, 63]) (i := 2) (by decide) ht2 (by decide) (by decide) rfl |>.to (by simp [opdL])
  | 3, _ => exact repl_ev (s := [32, 42, 63, 44, 120]) (i := 2) (by decide) ht2 (by decide) (by decide) rfl |>.to (by simp [opdL])
  | 4, _ => exact repl_ev (s := [32, 63]) (i := 1) (by decide) ht2 (by decide) (by decide) rfl |>.to (by simp [opdL])
  | 5, _ => exact repl_ev (s := [32, 63, 44, 120]) (i := 1) (by decide) ht2 (by decide) (by decide) rfl |>.to (by simp [opdL])
  | 6, _ => exact repl_ev (s := [32, 63, 44, 121]) (i := 1) (by decide) ht2 (by decide) (by decide) rfl |>.to (by simp [opdL])
  | 7, _ => exact repl_ev (s := [32, 64, 63]) (i := 2) (by decide) ht2 (by decide) (by decide) rfl |>.to (by simp [opdL])
  | 8, _ => exact repl_ev (s := [32, 40, 63, 41, 44, 121]) (i := 2) (by decide) ht2 (by decide) (by decide) rfl |>.to (by simp [opdL])
theorem byte_repl {t : List UInt8} (ht : t.length ≤ 21) : Ev (fun k => Replace22 k (mkB [98, 121, 116, 101, 32, 63]) (mkB [63]) (mkB t) 1) (mkB ([98, 121, 116, 101, 32] ++ t), ()) :=
  (repl_ev (s := [98, 121, 116, 101, 32, 63]) (i := 5) (by decide) (by omega) (by decide) (by decide) rfl).to (by simp)
theorem form_rd {m : Nat} (hm : m ≤ 8) : rd ([(ByteArray.mk #[]), (ByteArray.mk #[32, 35, 63]), (ByteArray.mk #[32, 42, 63]), (ByteArray.mk #[32, 42, 63, 44, 120]), (ByteArray.mk #[32, 63]), (ByteArray.mk #[32, 63, 44, 120]), (ByteArray.mk #[32, 63, 44, 121]), (ByteArray.mk #[32, 64, 63]), (ByteArray.mk #[32, 40, 63, 41, 44, 121])] : List ByteArray) (m : Int) = some (mkB (formL m)) := by
  match m, hm with
  | 0, _ => rfl
  | 1, _ => rfl
  | 2, _ => rfl
  | 3, _ => rfl
  | 4, _ => rfl
  | 5, _ => rfl
  | 6, _ => rfl
  | 7, _ => rfl
  | 8, _ => rfl
/-- what the operand's text tells -/
def argA (m : Nat) (v addr : Int) : Int := if m = 7 then (addr + 2 + sgn v.toNat) % 65536 else v
theorem sgn_in {n : Nat} (h : n < 256) : -128 ≤ sgn n ∧ sgn n < 128 := by
  unfold sgn
  split <;> omega
theorem opd_ev {m : Nat} (hm : m ≤ 8) {v addr : Int} (hv : 0 ≤ v ∧ v < 65536) (hv7 : m = 7 → v < 256) (ha : 0 ≤ addr ∧ addr ≤ 100000) : Ev (fun k => operand18 k (m : Int) v addr) (mkB (opdL m (Lib.itoa (if m = 7 then (addr + sgn v.toNat) % 65536 else v))), ()) := by
  have hi := itoa_ev (n := v) (by omega)
  have hl := itoa_len (n := v) (by omega)
  unfold operand18
  refine .bind hi ?_
  match m, hm with
  | 0, _ => exact .no rfl (.no rfl (.no rfl (.no rfl (.no rfl (.no rfl (.no rfl (.no rfl (.now _))))))))
  | 1, _ => exact .yes rfl (.val (cat_mk (a := [32, 35]) (by simp; omega)) (.now _))
  | 2, _ => exact .no rfl (.yes rfl (.val (cat_mk (a := [32, 42]) (by simp; omega)) (.now _)))
  | 3, _ => exact .no rfl (.no rfl (.yes rfl (.val (cat_mk (a := [32, 42]) (by simp; omega)) (.val (cat_mk (b := [44, 120]) (by simp; omega)) (.now _)))))
  | 4, _ => exact .no rfl (.no rfl (.no rfl (.yes rfl (.val (cat_mk (a := [32]) (by simp; omega)) (.now _)))))
  | 5, _ => exact .no rfl (.no rfl (.no rfl (.no rfl (.yes rfl (.val (cat_mk (a := [32]) (by simp; omega)) (.val (cat_mk (b := [44, 120]) (by simp; omega)) (.now _)))))))
  | 6, _ => exact .no rfl (.no rfl (.no rfl (.no rfl (.no rfl (.yes rfl (.val (cat_mk (a := [32]) (by simp; omega)) (.val (cat_mk (b := [44, 121]) (by simp; omega)) (.now _))))))))
  | 7, _ =>
    have hv := hv7 rfl
    have hn : ((v.toNat : Nat) : Int) = v := by omega
    have hs := signed_ev (n := v.toNat) (by omega)
    rw [hn] at hs
    have hsi := sgn_in (n := v.toNat) (by omega)
    have hlow := low16_ev (addr + sgn v.toNat)
    rw [if_pos rfl]
    refine .no rfl (.no rfl (.no rfl (.no rfl (.no rfl (.no rfl (.yes rfl (.bind hs ?_)))))))
    show Ev (fun k => (Low19 k (w64 (addr + sgn v.toNat)) 16).bind _) _
    rw [w64_id (by omega) (by omega)]
    exact .bind hlow (.bind (itoa_ev (by omega)) (.val (cat_mk (a := [32, 64]) (by have := itoa_len (n := (addr + sgn v.toNat) % 65536) (by omega); simp; omega)) (.now _)))
  | 8, _ => exact .no rfl (.no rfl (.no rfl (.no rfl (.no rfl (.no rfl (.no rfl (.yes rfl (.val (cat_mk (a := [32, 40]) (by simp; omega)) (.val (cat_mk (b := [41, 44, 121]) (by simp; omega)) (.now _))))))))))
end Go.Proofs.YtcppmlgnceldmaaDoor.Do

/- One instruction as text: both answer alike. No program in sight. -/
set_option linter.unusedVariables false
set_option maxRecDepth 100000
noncomputable section
namespace Go.Proofs.YtcppmlgnceldmaaDoor.Do
open Go Go.Proofs.YtcppmlgnceldmaaDoor.Gp

theorem w64_mod (x : Int) : w64 x % 65536 = x % 65536 := by
  show IntKind.wrap .i64 x % 65536 = _
  have e : (2 : Int) ^ (64 - 1) = 9223372036854775808 := by decide
  have e2 : (2 : Int) ^ 64 = 18446744073709551616 := by decide
  simp only [IntKind.wrap, IntKind.signed, IntKind.bits, Bool.true_and, decide_eq_true_eq, e, e2]
  split <;> omega
theorem tmod16 (y : Int) : Int.tmod (w64 (Int.tmod y 65536 + 65536)) 65536 = y % 65536 := by
  have h : -65536 < Int.tmod y 65536 ∧ Int.tmod y 65536 < 65536 ∧ (Int.tmod y 65536 + 65536) % 65536 = y % 65536 := by
    by_cases h0 : 0 ≤ y
    · rw [Int.tmod_eq_emod_of_nonneg h0]; omega
    · have e : Int.tmod y 65536 = -((-y) % 65536) := by
        have := Int.tmod_eq_emod_of_nonneg (a := -y) (b := 65536) (by omega)
        rw [← this, Int.neg_tmod, Int.neg_neg]
      rw [e]; omega
  rw [w64_id (by omega) (by omega), Int.tmod_eq_emod_of_nonneg (by omega)]
  exact h.2.2
def lenI (x : Ins) : Nat := 1 + sizeV x.2.2.1
theorem lenI_le (x : Ins) : 1 ≤ lenI x ∧ lenI x ≤ 3 := by
  have := sizeV_le x.2.2.1
  unfold lenI; omega
def byteB (y : Int) : ByteArray := mkB ([98, 121, 116, 101, 32] ++ Lib.itoa y)
def vA (b : List Int) : Nat → Int
  | 0 => 0
  | 1 => b.getD 1 0
  | _ => b.getD 1 0 + 256 * b.getD 2 0
def textA (x : Ins) (b : List Int) (addr : Int) : ByteArray := x.2.1 ++ mkB (opdL x.2.2.1.toNat (Lib.itoa (argA x.2.2.1.toNat (vA b (sizeV x.2.2.1)) addr)))
def oneA (c : Cpu) (b : List Int) (addr : Int) : ByteArray × Int × Unit :=
  match b with
  | [] => (ByteArray.mk #[], 0, ())
  | y :: l => match findI c y with
    | none => (byteB y, 1, ())
    | some x => if l.length + 1 < lenI x then (byteB y, 1, ()) else (textA x (y :: l) addr, (lenI x : Int), ())
theorem oneA_none {c : Cpu} {y : Int} (h : findI c y = none) (l : List Int) (addr : Int) : oneA c (y :: l) addr = (byteB y, 1, ()) := by
  unfold oneA
  simp only [h]
theorem oneA_short {c : Cpu} {y : Int} {x : Ins} (h : findI c y = some x) {l : List Int} (hl : l.length + 1 < lenI x) (addr : Int) : oneA c (y :: l) addr = (byteB y, 1, ()) := by
  unfold oneA
  simp only [h]
  exact if_pos hl
theorem oneA_some {c : Cpu} {y : Int} {x : Ins} (h : findI c y = some x) {l : List Int} (hl : ¬ l.length + 1 < lenI x) (addr : Int) : oneA c (y :: l) addr = (textA x (y :: l) addr, (lenI x : Int), ()) := by
  unfold oneA
  simp only [h]
  exact if_neg hl
structure Ok1 (c : Cpu) : Prop where
  ins : ∀ x ∈ c.2.1, OkI x
  nm : ∀ x ∈ c.2.1, x.2.1.size ≤ 140737488351232
theorem vA_in {b : List Int} (hb : ∀ y ∈ b, 0 ≤ y ∧ y < 256) (s : Nat) : 0 ≤ vA b s ∧ vA b s < 65536 ∧ (s ≤ 1 → vA b s < 256) := by
  have h : ∀ i, 0 ≤ b.getD i 0 ∧ b.getD i 0 < 256 := by
    intro i
    rw [List.getD_eq_getElem?_getD]
    cases hq : b[i]? with
    | none => exact ⟨by decide, by decide⟩
    | some y => exact hb y (get_mem hq)
  have h1 := h 1
  have h2 := h 2
  match s with
  | 0 => exact ⟨Int.le_refl 0, (by decide : (0 : Int) < 65536), fun _ => (by decide : (0 : Int) < 256)⟩
  | 1 => exact ⟨h1.1, by show b.getD 1 0 < 65536; omega, fun _ => h1.2⟩
  | n + 2 => exact ⟨by show 0 ≤ b.getD 1 0 + 256 * b.getD 2 0; omega, by show b.getD 1 0 + 256 * b.getD 2 0 < 65536; omega, fun h => by omega⟩
theorem rd_getD {b : List Int} {i : Nat} (h : i < b.length) : rd b (i : Int) = some (b.getD i 0) := by
  rw [rd_nat, List.getElem?_eq_getElem h, List.getD_eq_getElem?_getD, List.getElem?_eq_getElem h]; rfl
theorem num_lp {b : List Int} (hb : ∀ y ∈ b, 0 ≤ y ∧ y < 256) (x : Ins) {s : Nat} (hs : s ≤ 2) (hl : s < b.length) : Gp.Lp (fun k => One6.l0 k b) (x, 0, (s : Int)) (x, vA b s) := by
  have hg : ∀ i, 0 ≤ b.getD i 0 ∧ b.getD i 0 < 256 := by
    intro i
    rw [List.getD_eq_getElem?_getD]
    cases hq : b[i]? with
    | none => exact ⟨by decide, by decide⟩
    | some y => exact hb y (get_mem hq)
  have fin : ∀ v, Gp.Lp (fun k => One6.l0 k b) (x, v, (0 : Int)) (x, v) := fun v => .done (by
    simp only [One6.l0]
    exact .no rfl (.now _))
  have hw : ∀ z : Int, 0 ≤ z → z ≤ 1000000 → w64 z = z := fun z h0 h1 => w64_id (by omega) (by omega)
  match s, hs with
  | 0, _ => exact fin 0
  | 1, _ =>
    have h1 := hg 1
    refine .step (s' := (x, b.getD 1 0, 0)) ?_ (fin _)
    simp only [One6.l0]
    refine .yes rfl (.val (rd_getD (i := 1) hl) (.now' ?_))
    rw [hw (b.getD 1 0) h1.1 (by omega)]
    show Sum.inl (x, w64 (w64 0 + b.getD 1 0), w64 0) = _
    rw [hw 0 (by decide) (by decide), Int.zero_add, hw _ h1.1 (by omega)]
  | 2, _ =>
    have h1 := hg 1
    have h2 := hg 2
    refine .step (s' := (x, b.getD 2 0, 1)) ?_ (.step (s' := (x, b.getD 1 0 + 256 * b.getD 2 0, 0)) ?_ (fin _))
    · simp only [One6.l0]
      refine .yes rfl (.val (rd_getD (i := 2) hl) (.now' ?_))
      rw [hw (b.getD 2 0) h2.1 (by omega)]
      show Sum.inl (x, w64 (w64 0 + b.getD 2 0), w64 1) = _
      rw [hw 0 (by decide) (by decide), Int.zero_add, hw _ h2.1 (by omega)]; rfl
    · simp only [One6.l0]
      refine .yes rfl (.val (rd_getD (i := 1) (by omega)) (.now' ?_))
      rw [hw (b.getD 1 0) h1.1 (by omega), hw (b.getD 2 0 * 256) (by omega) (by omega), hw (b.getD 2 0 * 256 + b.getD 1 0) (by omega) (by omega)]
      show Sum.inl (x, b.getD 2 0 * 256 + b.getD 1 0, w64 0) = _
      rw [hw 0 (by decide) (by decide)]
      congr 3
      omega
theorem byte_p {y : Int} (hy : 0 ≤ y ∧ y < 256) : Ev (fun k => (Itoa17 k (w64 y)).bind fun t45 => (catS (ByteArray.mk #[98, 121, 116, 101, 32]) t45.1).bind fun t46 => some ((t46, (1 : Int), ()), ())) ((byteB y, 1, ()), ()) := by
  have hl := itoa_len (n := y) (by omega)
  rw [w64_id (by omega) (by omega)]
  exact .bind (itoa_ev (by omega)) (.val (cat_mk (a := [98, 121, 116, 101, 32]) (by simp; omega)) (.now _))
theorem one_p {c : Cpu} (hc : Wc c) (ho : Ok1 c) {b : List Int} (hb : ∀ y ∈ b, 0 ≤ y ∧ y < 256) (hbl : b.length ≤ 4611686018427387904) (addr : Int) : Ev (fun k => One6 k c b addr) (oneA c b addr, ()) := by
  unfold One6
  cases b with
  | nil => exact .yes rfl (.now _)
  | cons y l =>
    have hy := hb y (List.mem_cons_self ..)
    have hbl : l.length + 1 ≤ 4611686018427387904 := by simpa using hbl
    have hf := find_ev hc y
    have hlen : ((y :: l).length : Int) = (l.length : Int) + 1 := by rw [List.length_cons]; omega
    have hw : w64 y = y := w64_id (by omega) (by omega)
    have hrd : rd (y :: l) 0 = some y := rfl
    refine .no (beq_false_of_ne (by omega)) ?_
    cases h2 : findI c y with
    | none =>
      rw [oneA_none h2]
      rw [show findR c y = (none4, false, ()) from by unfold findR; rw [h2]] at hf
      refine .bind (a := (none4, false)) (.val hrd ?_) (.bind (size_ev (m := none4.2.2.1) ⟨by decide, by decide⟩) (.yes rfl (.val hrd (byte_p hy))))
      rw [hw]
      exact Ev.agr (.bind hf (.now _)) (.bind hf (.now _))
    | some x =>
      rw [show findR c y = (x, true, ()) from by unfold findR; rw [h2]] at hf
      have hx := ho.ins x (findI_mem h2)
      have hn := ho.nm x (findI_mem h2)
      have hl3 := lenI_le x
      have hsz := sizeV_le x.2.2.1
      have hw1 : w64 (1 + (sizeV x.2.2.1 : Int)) = (lenI x : Int) := by unfold lenI; rw [w64_id (by omega) (by omega)]; omega
      have hLI : lenI x = 1 + sizeV x.2.2.1 := rfl
      refine .bind (a := (x, true)) (.val hrd ?_) (.bind (size_ev hx.mode) ?_)
      · rw [hw]
        exact Ev.agr (.bind hf (.now _)) (.bind hf (.now _))
      show Ev (fun k => cond (cond (cond (!true) true (decide (w64 (1 + (sizeV x.2.2.1 : Int)) < 1))) true (decide (w64 (1 + (sizeV x.2.2.1 : Int)) > ((y :: l).length : Int)))) _ ((loopN (One6.l0 k (y :: l)) k (x, 0, w64 (w64 (1 + (sizeV x.2.2.1 : Int)) - 1))).bind _)) _
      rw [hw1, hlen]
      by_cases h3 : l.length + 1 < lenI x
      · rw [oneA_short h2 h3]
        refine .yes ?_ (.val hrd (byte_p hy))
        rw [decide_eq_false (p := (lenI x : Int) < 1) (by omega)]
        exact decide_eq_true (by omega)
      · rw [oneA_some h2 h3]
        have hv := vA_in hb (sizeV x.2.2.1)
        have hm : ((x.2.2.1.toNat : Nat) : Int) = x.2.2.1 := by have := hx.mode; omega
        have hm8 : x.2.2.1.toNat ≤ 8 := by have := hx.mode; omega
        have hs7 : x.2.2.1.toNat = 7 → sizeV x.2.2.1 = 1 := fun h => by rw [show x.2.2.1 = 7 by omega]; rfl
        have hN := num_lp hb x hsz (by rw [List.length_cons]; omega)
        have hop := opd_ev hm8 (v := vA (y :: l) (sizeV x.2.2.1)) (addr := addr % 65536 + (lenI x : Int)) ⟨hv.1, hv.2.1⟩ (fun h => hv.2.2 (by rw [hs7 h]; decide)) (by omega)
        rw [hm] at hop
        have hq : (if x.2.2.1.toNat = 7 then (addr % 65536 + (lenI x : Int) + sgn (vA (y :: l) (sizeV x.2.2.1)).toNat) % 65536 else vA (y :: l) (sizeV x.2.2.1)) = argA x.2.2.1.toNat (vA (y :: l) (sizeV x.2.2.1)) addr := by
          unfold argA
          by_cases h7 : x.2.2.1.toNat = 7
          · rw [if_pos h7, if_pos h7]
            have := hs7 h7
            omega
          · rw [if_neg h7, if_neg h7]
        rw [hq] at hop
        have hlw := low16_ev addr
        refine .no ?_ (.bind (a := (x, vA (y :: l) (sizeV x.2.2.1))) ?_ (.bind hlw ?_))
        · rw [decide_eq_false (p := (lenI x : Int) < 1) (by omega)]
          exact decide_eq_false (by omega)
        · rw [show w64 ((lenI x : Int) - 1) = (sizeV x.2.2.1 : Int) by rw [w64_id (by omega) (by omega)]; omega]
          exact hN.ev
        · show Ev (fun k => (operand18 k x.2.2.1 (vA (y :: l) (sizeV x.2.2.1)) (w64 (addr % 65536 + (lenI x : Int)))).bind _) _
          rw [w64_id (by omega) (by omega)]
          refine .bind hop (.val (cat_ok ?_) (.now _))
          have : (opdL x.2.2.1.toNat (Lib.itoa (argA x.2.2.1.toNat (vA (y :: l) (sizeV x.2.2.1)) addr))).length ≤ 30 := by
            refine opdL_len (itoa_len ?_)
            rw [← hq]
            split <;> omega
          rw [mkB_size]
          omega
theorem byte_r {y : Int} (hy : 0 ≤ y ∧ y < 256) : Ev (fun k => (Itoa17 k (w64 y)).bind fun t45 => (Replace22 k (ByteArray.mk #[98, 121, 116, 101, 32, 63]) (ByteArray.mk #[63]) t45.1 1).bind fun t46 => some ((t46.1, (1 : Int), ()), ())) ((byteB y, 1, ()), ()) := by
  have hl := itoa_len (n := y) (by omega)
  rw [w64_id (by omega) (by omega)]
  exact .bind (itoa_ev (by omega)) (.bind (byte_repl hl) (.now _))
theorem one_r {c : Cpu} (hc : Wc c) (ho : Ok1 c) {b : List Int} (hb : ∀ y ∈ b, 0 ≤ y ∧ y < 256) (hbl : b.length ≤ 4611686018427387904) (addr : Int) : Ev (fun k => One7 k c b addr) (oneA c b addr, ()) := by
  unfold One7 operands20
  cases b with
  | nil => exact .yes rfl (.now _)
  | cons y l =>
    have hy := hb y (List.mem_cons_self ..)
    have hbl : l.length + 1 ≤ 4611686018427387904 := by simpa using hbl
    have hf := with_ev hc y
    have hlen : ((y :: l).length : Int) = (l.length : Int) + 1 := by rw [List.length_cons]; omega
    have hw : w64 y = y := w64_id (by omega) (by omega)
    have hrd : rd (y :: l) 0 = some y := rfl
    refine .no (beq_false_of_ne (by omega)) (.bind (.now _) ?_)
    cases h2 : findI c y with
    | none =>
      rw [oneA_none h2]
      rw [show findR c y = (none4, false, ()) from by unfold findR; rw [h2]] at hf
      refine .bind (a := (none4, false)) (.val hrd ?_) (.bind (a := true) (.yes rfl (.now _)) (.yes rfl (.val hrd (byte_r hy))))
      rw [hw]
      exact Ev.agr (.bind hf (.now _)) (.bind hf (.now _))
    | some x =>
      rw [show findR c y = (x, true, ()) from by unfold findR; rw [h2]] at hf
      have hx := ho.ins x (findI_mem h2)
      have hn := ho.nm x (findI_mem h2)
      have hl3 := lenI_le x
      have hsz := sizeV_le x.2.2.1
      have hLI : lenI x = 1 + sizeV x.2.2.1 := rfl
      have hsr := size_rd hx.mode
      have hg : ∀ i, 0 ≤ (y :: l).getD i 0 ∧ (y :: l).getD i 0 < 256 := by
        intro i
        rw [List.getD_eq_getElem?_getD]
        cases hq : (y :: l)[i]? with
        | none => exact ⟨by decide, by decide⟩
        | some z => exact hb z (get_mem hq)
      refine .bind (a := (x, true)) (.val hrd ?_) (.bind (a := decide (((y :: l).length : Int) ≤ (sizeV x.2.2.1 : Int))) (.no rfl (.val hsr (.now _))) ?_)
      · rw [hw]
        exact Ev.agr (.bind hf (.now _)) (.bind hf (.now _))
      by_cases h3 : l.length + 1 < lenI x
      · rw [oneA_short h2 h3]
        exact .yes (decide_eq_true (by omega)) (.val hrd (byte_r hy))
      · rw [oneA_some h2 h3]
        have hm : ((x.2.2.1.toNat : Nat) : Int) = x.2.2.1 := by have := hx.mode; omega
        have hm8 : x.2.2.1.toNat ≤ 8 := by have := hx.mode; omega
        have hs7 : x.2.2.1.toNat = 7 → sizeV x.2.2.1 = 1 := fun h => by rw [show x.2.2.1 = 7 by omega]; rfl
        have hv := vA_in hb (sizeV x.2.2.1)
        have h1 := hg 1
        have h2' := hg 2
        have hfr := form_rd hm8
        rw [hm] at hfr
        have hin : -9223372036854775808 ≤ argA x.2.2.1.toNat (vA (y :: l) (sizeV x.2.2.1)) addr ∧ argA x.2.2.1.toNat (vA (y :: l) (sizeV x.2.2.1)) addr ≤ 9223372036854775807 := by
          unfold argA
          split <;> omega
        have hil := itoa_len hin
        refine .no (decide_eq_false (by omega)) (.val hsr (.bind (a := (x, if 0 < sizeV x.2.2.1 then (y :: l).getD 1 0 else 0)) ?_ (.val hsr (.bind (a := (x, vA (y :: l) (sizeV x.2.2.1))) ?_ (.bind (a := (x, argA x.2.2.1.toNat (vA (y :: l) (sizeV x.2.2.1)) addr)) ?_ (.val hfr (.val hsr (.bind (itoa_ev hin) (.bind (form_ev hm8 hil) (.val (cat_ok ?_) (.now' ?_)))))))))))
        · by_cases hp : 0 < sizeV x.2.2.1
          · rw [if_pos hp]
            refine .yes (decide_eq_true (by omega)) (.val (rd_getD (i := 1) (by rw [List.length_cons]; omega)) (.now' ?_))
            rw [w64_id (by omega) (by omega)]
          · rw [if_neg hp]
            exact .no (decide_eq_false (by omega)) (.now _)
        · by_cases hp : sizeV x.2.2.1 = 2
          · rw [hp]
            refine .yes rfl (.val (rd_getD (i := 2) (by rw [List.length_cons]; omega)) (.now' ?_))
            show (x, w64 ((y :: l).getD 1 0 + w64 (256 * w64 ((y :: l).getD 2 0)))) = (x, (y :: l).getD 1 0 + 256 * (y :: l).getD 2 0)
            rw [w64_id (x := (y :: l).getD 2 0) (by omega) (by omega), w64_id (x := 256 * (y :: l).getD 2 0) (by omega) (by omega), w64_id (by omega) (by omega)]
          · refine .no (decide_eq_false (by omega)) (.now' ?_)
            rcases (show sizeV x.2.2.1 = 0 ∨ sizeV x.2.2.1 = 1 by omega) with h | h
            · rw [h]; rfl
            · rw [h]; rfl
        · by_cases h7 : x.2.2.1.toNat = 7
          · have hv7 := hv.2.2 (by rw [hs7 h7]; decide)
            have hv0 := hv.1
            unfold argA
            rw [if_pos h7]
            generalize vA (y :: l) (sizeV x.2.2.1) = v at hv7 hv0
            refine .yes (beq_iff_eq.2 (by omega)) (.bind (a := (x, sgn v.toNat)) ?_ (.now' ?_))
            · unfold sgn
              by_cases hs : v > 127
              · refine .yes (decide_eq_true hs) (.now' ?_)
                rw [if_pos (by omega), w64_id (by omega) (by omega)]
                congr 1
                omega
              · refine .no (decide_eq_false hs) (.now' ?_)
                rw [if_neg (by omega)]
                congr 1
                omega
            · congr 1
              rw [tmod16, w64_mod]
              have := w64_mod (addr + 2)
              omega
          · refine .no (beq_false_of_ne (by omega)) (.now' ?_)
            unfold argA
            rw [if_neg h7]
        · have := opdL_len (m := x.2.2.1.toNat) hil
          rw [mkB_size]
          omega
        · rw [w64_id (by omega) (by omega)]
          show ((textA x (y :: l) addr, 1 + (sizeV x.2.2.1 : Int), ()), ()) = _
          rw [show (1 + (sizeV x.2.2.1 : Int)) = (lenI x : Int) by omega]
end Go.Proofs.YtcppmlgnceldmaaDoor.Do

/- One instruction as text: a fact about the museum's processor; the law. No program in sight. -/
set_option linter.unusedVariables false
set_option maxRecDepth 100000
noncomputable section
namespace Go.Proofs.YtcppmlgnceldmaaDoor.Do
open Go Go.Proofs.YtcppmlgnceldmaaDoor.Gp

theorem check8_ok {c : Cpu} (hc : Wc c) (hn : Wn c) : ∃ e : Int, Ev (fun k => Check5 k c) (e, ()) ∧ (e = 0 → Ok1 c) := by
  obtain ⟨v, hv, hp⟩ := check_ok hc hn
  exact ⟨v.1, hv, fun h => ⟨hp h, hn.2⟩⟩
def jmpI : Ins := match findI cpuV (nopB.getD 1 0) with | some x => x | none => none4
def toldB : Bool := isS (findI cpuV (nopB.getD 1 0)) && streq jmpI.2.1 (ByteArray.mk #[106, 109, 112]) && (jmpI.2.2.1 == 4)
theorem told_true : toldB = true := by kernel_rfl
def okZ (o : Option (Int × Unit)) : Bool := match o with | some v => v.1 == 0 | none => false
theorem cpu_okZ : okZ (Check5 400 cpuV) = true := by kernel_rfl
theorem cpu_ok1 : Ok1 cpuV := by
  obtain ⟨e, h1, h2⟩ := check8_ok cpu_wc cpu_wn
  refine h2 ?_
  have hz := cpu_okZ
  cases hv : Check5 400 cpuV with
  | none => rw [hv] at hz; cases hz
  | some v =>
    rw [hv] at hz
    have hz : v.1 = 0 := by simpa [okZ] using hz
    have := Ev.one h1 (Mono.ev (Check5.mono _) hv)
    rw [← hz, ← this]
theorem itoa512 : Lib.itoa 512 = [53, 49, 50] := by
  unfold Lib.itoa
  rw [if_neg (by decide), show (512 : Int).toNat = 512 from rfl]
  rw [Lib.decDigits, dif_neg (by decide), show 512 / 10 = 51 from rfl, Lib.decDigits, dif_neg (by decide), show 51 / 10 = 5 from rfl, Lib.decDigits, dif_pos (by decide)]
  rfl
theorem told_ev : Ev (fun k => told4 k) (true, ()) := by
  have hl := told_true
  unfold toldB at hl
  rw [Bool.and_eq_true, Bool.and_eq_true] at hl
  obtain ⟨⟨l1, l2⟩, l3⟩ := hl
  obtain ⟨x, hx⟩ := isS_some l1
  have hj : jmpI = x := by unfold jmpI; rw [hx]
  rw [hj] at l2 l3
  have l2 := streq_iff.1 l2
  have l3 : x.2.2.1 = 4 := by simpa using l3
  have hb : ∀ y ∈ nopB.drop 1, 0 ≤ y ∧ y < 256 := by
    intro y hy
    have hy : y ∈ [IntKind.wrap .u8 (namedR cpuV (ByteArray.mk #[106, 109, 112]) 4).1.1, 0, 2] := hy
    simp only [List.mem_cons, List.not_mem_nil, or_false] at hy
    rcases hy with rfl | rfl | rfl
    · exact wrap8 _
    · decide
    · decide
  have hO := one_p cpu_wc cpu_ok1 hb (by decide) 513
  have hd : nopB.drop 1 = nopB.getD 1 0 :: [0, 2] := rfl
  have e : oneA cpuV (nopB.drop 1) 513 = (mkB [106, 109, 112, 32, 53, 49, 50], 3, ()) := by
    rw [hd, oneA_some hx (by unfold lenI; rw [l3]; decide)]
    unfold textA lenI
    rw [l2, l3]
    have : (4 : Int).toNat = 4 := rfl
    rw [this]
    have hv : vA (nopB.getD 1 0 :: [0, 2]) (sizeV 4) = 512 := rfl
    rw [hv]
    show ((mkB [106, 109, 112] ++ mkB (opdL 4 (Lib.itoa 512)) : ByteArray), ((1 + sizeV 4 : Nat) : Int), ()) = _
    rw [itoa512, mkB_app]
    rfl
  rw [e] at hO
  unfold told4
  refine .bind cpu_ev (.bind nop_ev (.val (a := nopB.drop 1) ?_ (.bind hO (.now' ?_))))
  · exact slc_tail (l := nopB) (a := 1) (by decide)
  · show (cond (streq (mkB [106, 109, 112, 32, 53, 49, 50]) (ByteArray.mk #[106, 109, 112, 32, 53, 49, 50])) (3 == 3) false, ()) = (true, ())
    rw [show streq (mkB [106, 109, 112, 32, 53, 49, 50]) (ByteArray.mk #[106, 109, 112, 32, 53, 49, 50]) = true from streq_refl _]
    rfl
theorem law_ones (c : Cpu) (b : List Int) (addr : Int) (hc : Wc c) (hn : Wn c) (hb : ∀ y ∈ b, 0 ≤ y ∧ y < 256) (hbl : b.length ≤ 4611686018427387904) : ∃ k, DisOnes3 k c b addr = some (true, ()) := by
  refine Ev.ex ?_
  obtain ⟨e, h1, h2⟩ := check8_ok hc hn
  unfold DisOnes3
  by_cases he : e = 0
  · subst he
    have ho := h2 rfl
    refine .bind told_ev (.bind (a := false) (.no rfl (.bind h1 (.now _))) (.no rfl (.bind (one_p hc ho hb hbl addr) (.bind (one_r hc ho hb hbl addr) (.now' ?_)))))
    rw [streq_refl]
    simp
  · exact .bind told_ev (.bind (a := true) (.no rfl (.bind h1 (.now' (bne_iff_ne.2 he)))) (.yes rfl (.bind told_ev (.now _))))
theorem disOnes (c : Cpu) (b : List Int) (addr : Int) (hc : WfCpu c) (hb : wfL (α := Int) 1 (fun y => (Lit.int .u8 y).wf = true) b) (ha : (Lit.int .i64 addr).wf = true) : ∃ k, DisOnes3 k c b addr = some (true, ()) :=
  law_ones c b addr (wc_row hc).1 (wc_row hc).2 (fun x hx => lit8 (hb.2 x hx)) (by have := hb.1; omega)
end Go.Proofs.YtcppmlgnceldmaaDoor.Do

/- The wrap of a row whose listed variables read as told, the world's shape kept. -/
namespace Go.Proofs.YtcppmlgnceldmaaDoor.Gp
open Go
noncomputable section
def litV : Lit → Value
  | .int k n => .int k n
  | .bool b => .bool b
  | .string l => .string ⟨l.toArray⟩
  | _ => .bool false
def c1 : DataW Unit → List Value
  | .lit x => [litV x]
  | _ => []
def c2 : DataW Unit → List Value
  | .agg l => l.flatMap c1
  | d => c1 d
def c3 : DataW Unit → List Value
  | .agg l => l.flatMap c2
  | d => c1 d
def putVar (P : Program) (h : Array Obj) (x : String × DataW Unit) : Array Obj := match P.globalNamed x.1 with
  | some g => h.modify g fun | .cells _ t frozen => .cells (c3 x.2).toArray t frozen | o => o
  | none => h
/-- a world in which the listed variables read as told -/
def laidWorld (P : Program) (laid : List (String × DataW Unit)) (os : Os) : World := { World.holding P os ⟨#[], #[], []⟩ with heap := laid.foldl (putVar P) (World.holding P os ⟨#[], #[], []⟩).heap }
end
variable {H : Type} {enc : TypeId × Value → H}
theorem returns_laid {a : Assume} {C : Checked} {os : Os} {f : FuncId} {fn : Func} {s : ChangeSpec} {conds : List PathCond} {apart fresh handsOn again : Bool} {X : World → Array Value → Prop}
    (hX : ∀ (w w' : World) (args : Array Value), w.heap = w'.heap → X w args → X w' args)
    (own : ownKnob C.prog.godebug = none) (started : os.Started) (noInit : C.prog.inits.idxOf? f = none) (hfn : C.prog.funcs[f]? = some fn)
    (witness : ∃ (w : World) (tape : Tape) (i : Input), w.os = os ∧ (w.forCall tape i).Shaped C.prog ∧ i.vars = [] ∧ Input.okWide C.prog (w.forCall tape i) .any w.heap.size f i ∧
      ((s.pre enc C.prog fn conds apart (w.forCall tape i).memory i.args ∧ X (w.forCall tape i).memory i.args) ∧ sizedMet enc C.prog fn (OpenSpec.ofChange s) apart (w.forCall tape i).memory i.args) ∧ a.holds C.prog (lone (Frame.enter C.prog f i.args .normal) [] (w.forCall tape i)))
    (contract : ∀ (W : World) (base : Nat) (args : Array Value) (ds gs : List (DataW H)) (before : List MemPlace),
      (∀ (j : Nat) t v, fn.params[j]? = some t → args[j]? = some v → Value.okWide C.prog W .any base t v) →
      DataW.Whole enc C.prog fn.params.toList s.vars apart W args.toList ds gs before →
      (DataW.weightsEach C.prog (fn.params.toList ++ s.plain.varTypes C.prog) (ds ++ gs)).all (· ≤ reachBytes) = true → X W args → W.ShapedOpen C.prog →
      Calls C.prog f args W fun e W' => ∃ v, e = .returned v ∧ s.post enc C.prog fn apart fresh handsOn again W args v W') :
    ReturnsInHanded a C os f .any (fun w args => (s.pre enc C.prog fn conds apart w args ∧ X w args) ∧ sizedMet enc C.prog fn (OpenSpec.ofChange s) apart w args) (s.post enc C.prog fn apart fresh handsOn again) := by
  refine returnsInHanded_of_calls own started noInit witness ?_
  intro w tape i _ hsh _ hok hpre hholds
  obtain ⟨_, _, _, fn', hfn', _, _, _, _, hval⟩ := hok
  have e : fn' = fn := Option.some.inj (hfn'.symm.trans hfn)
  subst e
  obtain ⟨⟨⟨ds, gs, before, hw, hc⟩, hx⟩, hz⟩ := hpre
  have hw' := DataW.Whole.of_heap (w' := w.forCall tape i) (by rfl) hw
  refine (contract (w.forCall tape i) w.heap.size i.args ds gs before hval hw' (hz.weights hw) (hX _ _ _ (by rfl) hx) hsh).mono fun e W' ⟨v, he, hp⟩ => ?_
  subst he
  exact ChangeSpec.post_blind hp
end Go.Proofs.YtcppmlgnceldmaaDoor.Gp

/- The row of DisOnes: One returns what the reference says for all right processors, bytes and addresses. The law returns true for every input; the input reads as it did. -/
namespace Go.Proofs.YtcppmlgnceldmaaDoor.disOnes
open Go.ChangeShapes Go.WideShapes Go.ChangeAt Go.RowKit Go.Proofs.YtcppmlgnceldmaaDoor.Gp Go.Proofs.YtcppmlgnceldmaaDoor.Do
set_option linter.unusedVariables false
theorem own : ownKnob Tryd.prog.godebug = none := by kernel_rfl
theorem laidOut : laidOutB Tryd.prog = true := by kernel_rfl
abbrev wf9 : ByteArray → Prop := (fun (y : ByteArray) => y.size ≤ 140737488351232)
abbrev siz9 : ByteArray → Nat := (fun (y : ByteArray) => y.size + 1)
theorem gd9 : Gd Tryd.prog 9 .str wf9 siz9 := gd_str Tryd.underlying9 (by kernel_rfl)
abbrev wf3 : Int → Prop := (fun (y : Int) => (Lit.int .i64 y).wf = true)
abbrev siz3 : Int → Nat := (fun _ => 1)
theorem gd3 : Gd Tryd.prog 3 (.int .i64) wf3 siz3 := gd_int Tryd.underlying3 (by kernel_rfl)
abbrev wf66 : (Int × (Int × (Int × Int))) → Prop := (fun (y : (Int × (Int × (Int × Int)))) => wf3 y.1 ∧ (fun (y : (Int × (Int × Int))) => wf3 y.1 ∧ (fun (y : (Int × Int)) => wf3 y.1 ∧ wf3 y.2) y.2) y.2)
abbrev siz66 : (Int × (Int × (Int × Int))) → Nat := (fun (y : (Int × (Int × (Int × Int)))) => siz3 y.1 + (fun (y : (Int × (Int × Int))) => siz3 y.1 + (fun (y : (Int × Int)) => siz3 y.1 + siz3 y.2) y.2) y.2)
theorem gd66 : Gd Tryd.prog 66 (.st (.pair (.int .i64) (.pair (.int .i64) (.pair (.int .i64) (.int .i64))))) wf66 siz66 := gd_st Tryd.underlying66 (by kernel_rfl) (gdf_cons (k := .int .i64) (k' := .pair (.int .i64) (.pair (.int .i64) (.int .i64))) (wf := wf3) (siz := siz3) (wf' := (fun (y : (Int × (Int × Int))) => wf3 y.1 ∧ (fun (y : (Int × Int)) => wf3 y.1 ∧ wf3 y.2) y.2)) (siz' := (fun (y : (Int × (Int × Int))) => siz3 y.1 + (fun (y : (Int × Int)) => siz3 y.1 + siz3 y.2) y.2)) rfl gd3 (gdf_cons (k := .int .i64) (k' := .pair (.int .i64) (.int .i64)) (wf := wf3) (siz := siz3) (wf' := (fun (y : (Int × Int)) => wf3 y.1 ∧ wf3 y.2)) (siz' := (fun (y : (Int × Int)) => siz3 y.1 + siz3 y.2)) rfl gd3 (gdf_cons (k := .int .i64) (k' := .int .i64) (wf := wf3) (siz := siz3) (wf' := wf3) (siz' := siz3) rfl gd3 (gdf_one rfl gd3))))
abbrev wf60 : (List (Int × (Int × (Int × Int)))) → Prop := (wfL (α := (Int × (Int × (Int × Int)))) 32 wf66)
abbrev siz60 : (List (Int × (Int × (Int × Int)))) → Nat := (sizL (α := (Int × (Int × (Int × Int)))) siz66)
theorem gd60 : Gd Tryd.prog 60 (.sl (.st (.pair (.int .i64) (.pair (.int .i64) (.pair (.int .i64) (.int .i64)))))) wf60 siz60 := gd_sl (B := 32) Tryd.underlying60 (by kernel_rfl) (by kernel_rfl) (by decide) gd66
abbrev wf62 : (Int × (Int × (Int × (List (Int × (Int × (Int × Int))))))) → Prop := (fun (y : (Int × (Int × (Int × (List (Int × (Int × (Int × Int)))))))) => wf3 y.1 ∧ (fun (y : (Int × (Int × (List (Int × (Int × (Int × Int))))))) => wf3 y.1 ∧ (fun (y : (Int × (List (Int × (Int × (Int × Int)))))) => wf3 y.1 ∧ wf60 y.2) y.2) y.2)
abbrev siz62 : (Int × (Int × (Int × (List (Int × (Int × (Int × Int))))))) → Nat := (fun (y : (Int × (Int × (Int × (List (Int × (Int × (Int × Int)))))))) => siz3 y.1 + (fun (y : (Int × (Int × (List (Int × (Int × (Int × Int))))))) => siz3 y.1 + (fun (y : (Int × (List (Int × (Int × (Int × Int)))))) => siz3 y.1 + siz60 y.2) y.2) y.2)
theorem gd62 : Gd Tryd.prog 62 (.st (.pair (.int .i64) (.pair (.int .i64) (.pair (.int .i64) (.sl (.st (.pair (.int .i64) (.pair (.int .i64) (.pair (.int .i64) (.int .i64)))))))))) wf62 siz62 := gd_st Tryd.underlying62 (by kernel_rfl) (gdf_cons (k := .int .i64) (k' := .pair (.int .i64) (.pair (.int .i64) (.sl (.st (.pair (.int .i64) (.pair (.int .i64) (.pair (.int .i64) (.int .i64)))))))) (wf := wf3) (siz := siz3) (wf' := (fun (y : (Int × (Int × (List (Int × (Int × (Int × Int))))))) => wf3 y.1 ∧ (fun (y : (Int × (List (Int × (Int × (Int × Int)))))) => wf3 y.1 ∧ wf60 y.2) y.2)) (siz' := (fun (y : (Int × (Int × (List (Int × (Int × (Int × Int))))))) => siz3 y.1 + (fun (y : (Int × (List (Int × (Int × (Int × Int)))))) => siz3 y.1 + siz60 y.2) y.2)) rfl gd3 (gdf_cons (k := .int .i64) (k' := .pair (.int .i64) (.sl (.st (.pair (.int .i64) (.pair (.int .i64) (.pair (.int .i64) (.int .i64))))))) (wf := wf3) (siz := siz3) (wf' := (fun (y : (Int × (List (Int × (Int × (Int × Int)))))) => wf3 y.1 ∧ wf60 y.2)) (siz' := (fun (y : (Int × (List (Int × (Int × (Int × Int)))))) => siz3 y.1 + siz60 y.2)) rfl gd3 (gdf_cons (k := .int .i64) (k' := .sl (.st (.pair (.int .i64) (.pair (.int .i64) (.pair (.int .i64) (.int .i64)))))) (wf := wf3) (siz := siz3) (wf' := wf60) (siz' := siz60) rfl gd3 (gdf_one rfl gd60))))
abbrev wf23 : (List (Int × (Int × (Int × (List (Int × (Int × (Int × Int)))))))) → Prop := (wfL (α := (Int × (Int × (Int × (List (Int × (Int × (Int × Int)))))))) 48 wf62)
abbrev siz23 : (List (Int × (Int × (Int × (List (Int × (Int × (Int × Int)))))))) → Nat := (sizL (α := (Int × (Int × (Int × (List (Int × (Int × (Int × Int)))))))) siz62)
theorem gd23 : Gd Tryd.prog 23 (.sl (.st (.pair (.int .i64) (.pair (.int .i64) (.pair (.int .i64) (.sl (.st (.pair (.int .i64) (.pair (.int .i64) (.pair (.int .i64) (.int .i64))))))))))) wf23 siz23 := gd_sl (B := 48) Tryd.underlying23 (by kernel_rfl) (by kernel_rfl) (by decide) gd62
abbrev wf40 : (Int × (ByteArray × (Int × (List (Int × (Int × (Int × (List (Int × (Int × (Int × Int))))))))))) → Prop := (fun (y : (Int × (ByteArray × (Int × (List (Int × (Int × (Int × (List (Int × (Int × (Int × Int)))))))))))) => wf3 y.1 ∧ (fun (y : (ByteArray × (Int × (List (Int × (Int × (Int × (List (Int × (Int × (Int × Int))))))))))) => wf9 y.1 ∧ (fun (y : (Int × (List (Int × (Int × (Int × (List (Int × (Int × (Int × Int)))))))))) => wf3 y.1 ∧ wf23 y.2) y.2) y.2)
abbrev siz40 : (Int × (ByteArray × (Int × (List (Int × (Int × (Int × (List (Int × (Int × (Int × Int))))))))))) → Nat := (fun (y : (Int × (ByteArray × (Int × (List (Int × (Int × (Int × (List (Int × (Int × (Int × Int)))))))))))) => siz3 y.1 + (fun (y : (ByteArray × (Int × (List (Int × (Int × (Int × (List (Int × (Int × (Int × Int))))))))))) => siz9 y.1 + (fun (y : (Int × (List (Int × (Int × (Int × (List (Int × (Int × (Int × Int)))))))))) => siz3 y.1 + siz23 y.2) y.2) y.2)
theorem gd40 : Gd Tryd.prog 40 (.st (.pair (.int .i64) (.pair .str (.pair (.int .i64) (.sl (.st (.pair (.int .i64) (.pair (.int .i64) (.pair (.int .i64) (.sl (.st (.pair (.int .i64) (.pair (.int .i64) (.pair (.int .i64) (.int .i64))))))))))))))) wf40 siz40 := gd_st Tryd.underlying40 (by kernel_rfl) (gdf_cons (k := .int .i64) (k' := .pair .str (.pair (.int .i64) (.sl (.st (.pair (.int .i64) (.pair (.int .i64) (.pair (.int .i64) (.sl (.st (.pair (.int .i64) (.pair (.int .i64) (.pair (.int .i64) (.int .i64))))))))))))) (wf := wf3) (siz := siz3) (wf' := (fun (y : (ByteArray × (Int × (List (Int × (Int × (Int × (List (Int × (Int × (Int × Int))))))))))) => wf9 y.1 ∧ (fun (y : (Int × (List (Int × (Int × (Int × (List (Int × (Int × (Int × Int)))))))))) => wf3 y.1 ∧ wf23 y.2) y.2)) (siz' := (fun (y : (ByteArray × (Int × (List (Int × (Int × (Int × (List (Int × (Int × (Int × Int))))))))))) => siz9 y.1 + (fun (y : (Int × (List (Int × (Int × (Int × (List (Int × (Int × (Int × Int)))))))))) => siz3 y.1 + siz23 y.2) y.2)) rfl gd3 (gdf_cons (k := .str) (k' := .pair (.int .i64) (.sl (.st (.pair (.int .i64) (.pair (.int .i64) (.pair (.int .i64) (.sl (.st (.pair (.int .i64) (.pair (.int .i64) (.pair (.int .i64) (.int .i64)))))))))))) (wf := wf9) (siz := siz9) (wf' := (fun (y : (Int × (List (Int × (Int × (Int × (List (Int × (Int × (Int × Int)))))))))) => wf3 y.1 ∧ wf23 y.2)) (siz' := (fun (y : (Int × (List (Int × (Int × (Int × (List (Int × (Int × (Int × Int)))))))))) => siz3 y.1 + siz23 y.2)) rfl gd9 (gdf_cons (k := .int .i64) (k' := .sl (.st (.pair (.int .i64) (.pair (.int .i64) (.pair (.int .i64) (.sl (.st (.pair (.int .i64) (.pair (.int .i64) (.pair (.int .i64) (.int .i64))))))))))) (wf := wf3) (siz := siz3) (wf' := wf23) (siz' := siz23) rfl gd3 (gdf_one rfl gd23))))
abbrev wf22 : (List (Int × (ByteArray × (Int × (List (Int × (Int × (Int × (List (Int × (Int × (Int × Int)))))))))))) → Prop := (wfL (α := (Int × (ByteArray × (Int × (List (Int × (Int × (Int × (List (Int × (Int × (Int × Int)))))))))))) 56 wf40)
abbrev siz22 : (List (Int × (ByteArray × (Int × (List (Int × (Int × (Int × (List (Int × (Int × (Int × Int)))))))))))) → Nat := (sizL (α := (Int × (ByteArray × (Int × (List (Int × (Int × (Int × (List (Int × (Int × (Int × Int)))))))))))) siz40)
theorem gd22 : Gd Tryd.prog 22 (.sl (.st (.pair (.int .i64) (.pair .str (.pair (.int .i64) (.sl (.st (.pair (.int .i64) (.pair (.int .i64) (.pair (.int .i64) (.sl (.st (.pair (.int .i64) (.pair (.int .i64) (.pair (.int .i64) (.int .i64)))))))))))))))) wf22 siz22 := gd_sl (B := 56) Tryd.underlying22 (by kernel_rfl) (by kernel_rfl) (by decide) gd40
abbrev wf25 : (ByteArray × ((List (Int × (ByteArray × (Int × (List (Int × (Int × (Int × (List (Int × (Int × (Int × Int)))))))))))) × ((List (Int × (Int × (Int × (List (Int × (Int × (Int × Int)))))))) × ((List (Int × (Int × (Int × (List (Int × (Int × (Int × Int)))))))) × (List (Int × (Int × (Int × (List (Int × (Int × (Int × Int)))))))))))) → Prop := (fun (y : (ByteArray × ((List (Int × (ByteArray × (Int × (List (Int × (Int × (Int × (List (Int × (Int × (Int × Int)))))))))))) × ((List (Int × (Int × (Int × (List (Int × (Int × (Int × Int)))))))) × ((List (Int × (Int × (Int × (List (Int × (Int × (Int × Int)))))))) × (List (Int × (Int × (Int × (List (Int × (Int × (Int × Int))))))))))))) => wf9 y.1 ∧ (fun (y : ((List (Int × (ByteArray × (Int × (List (Int × (Int × (Int × (List (Int × (Int × (Int × Int)))))))))))) × ((List (Int × (Int × (Int × (List (Int × (Int × (Int × Int)))))))) × ((List (Int × (Int × (Int × (List (Int × (Int × (Int × Int)))))))) × (List (Int × (Int × (Int × (List (Int × (Int × (Int × Int)))))))))))) => wf22 y.1 ∧ (fun (y : ((List (Int × (Int × (Int × (List (Int × (Int × (Int × Int)))))))) × ((List (Int × (Int × (Int × (List (Int × (Int × (Int × Int)))))))) × (List (Int × (Int × (Int × (List (Int × (Int × (Int × Int))))))))))) => wf23 y.1 ∧ (fun (y : ((List (Int × (Int × (Int × (List (Int × (Int × (Int × Int)))))))) × (List (Int × (Int × (Int × (List (Int × (Int × (Int × Int)))))))))) => wf23 y.1 ∧ wf23 y.2) y.2) y.2) y.2)
abbrev siz25 : (ByteArray × ((List (Int × (ByteArray × (Int × (List (Int × (Int × (Int × (List (Int × (Int × (Int × Int)))))))))))) × ((List (Int × (Int × (Int × (List (Int × (Int × (Int × Int)))))))) × ((List (Int × (Int × (Int × (List (Int × (Int × (Int × Int)))))))) × (List (Int × (Int × (Int × (List (Int × (Int × (Int × Int)))))))))))) → Nat := (fun (y : (ByteArray × ((List (Int × (ByteArray × (Int × (List (Int × (Int × (Int × (List (Int × (Int × (Int × Int)))))))))))) × ((List (Int × (Int × (Int × (List (Int × (Int × (Int × Int)))))))) × ((List (Int × (Int × (Int × (List (Int × (Int × (Int × Int)))))))) × (List (Int × (Int × (Int × (List (Int × (Int × (Int × Int))))))))))))) => siz9 y.1 + (fun (y : ((List (Int × (ByteArray × (Int × (List (Int × (Int × (Int × (List (Int × (Int × (Int × Int)))))))))))) × ((List (Int × (Int × (Int × (List (Int × (Int × (Int × Int)))))))) × ((List (Int × (Int × (Int × (List (Int × (Int × (Int × Int)))))))) × (List (Int × (Int × (Int × (List (Int × (Int × (Int × Int)))))))))))) => siz22 y.1 + (fun (y : ((List (Int × (Int × (Int × (List (Int × (Int × (Int × Int)))))))) × ((List (Int × (Int × (Int × (List (Int × (Int × (Int × Int)))))))) × (List (Int × (Int × (Int × (List (Int × (Int × (Int × Int))))))))))) => siz23 y.1 + (fun (y : ((List (Int × (Int × (Int × (List (Int × (Int × (Int × Int)))))))) × (List (Int × (Int × (Int × (List (Int × (Int × (Int × Int)))))))))) => siz23 y.1 + siz23 y.2) y.2) y.2) y.2)
theorem gd25 : Gd Tryd.prog 25 (.st (.pair .str (.pair (.sl (.st (.pair (.int .i64) (.pair .str (.pair (.int .i64) (.sl (.st (.pair (.int .i64) (.pair (.int .i64) (.pair (.int .i64) (.sl (.st (.pair (.int .i64) (.pair (.int .i64) (.pair (.int .i64) (.int .i64)))))))))))))))) (.pair (.sl (.st (.pair (.int .i64) (.pair (.int .i64) (.pair (.int .i64) (.sl (.st (.pair (.int .i64) (.pair (.int .i64) (.pair (.int .i64) (.int .i64))))))))))) (.pair (.sl (.st (.pair (.int .i64) (.pair (.int .i64) (.pair (.int .i64) (.sl (.st (.pair (.int .i64) (.pair (.int .i64) (.pair (.int .i64) (.int .i64))))))))))) (.sl (.st (.pair (.int .i64) (.pair (.int .i64) (.pair (.int .i64) (.sl (.st (.pair (.int .i64) (.pair (.int .i64) (.pair (.int .i64) (.int .i64)))))))))))))))) wf25 siz25 := gd_st Tryd.underlying25 (by kernel_rfl) (gdf_cons (k := .str) (k' := .pair (.sl (.st (.pair (.int .i64) (.pair .str (.pair (.int .i64) (.sl (.st (.pair (.int .i64) (.pair (.int .i64) (.pair (.int .i64) (.sl (.st (.pair (.int .i64) (.pair (.int .i64) (.pair (.int .i64) (.int .i64)))))))))))))))) (.pair (.sl (.st (.pair (.int .i64) (.pair (.int .i64) (.pair (.int .i64) (.sl (.st (.pair (.int .i64) (.pair (.int .i64) (.pair (.int .i64) (.int .i64))))))))))) (.pair (.sl (.st (.pair (.int .i64) (.pair (.int .i64) (.pair (.int .i64) (.sl (.st (.pair (.int .i64) (.pair (.int .i64) (.pair (.int .i64) (.int .i64))))))))))) (.sl (.st (.pair (.int .i64) (.pair (.int .i64) (.pair (.int .i64) (.sl (.st (.pair (.int .i64) (.pair (.int .i64) (.pair (.int .i64) (.int .i64)))))))))))))) (wf := wf9) (siz := siz9) (wf' := (fun (y : ((List (Int × (ByteArray × (Int × (List (Int × (Int × (Int × (List (Int × (Int × (Int × Int)))))))))))) × ((List (Int × (Int × (Int × (List (Int × (Int × (Int × Int)))))))) × ((List (Int × (Int × (Int × (List (Int × (Int × (Int × Int)))))))) × (List (Int × (Int × (Int × (List (Int × (Int × (Int × Int)))))))))))) => wf22 y.1 ∧ (fun (y : ((List (Int × (Int × (Int × (List (Int × (Int × (Int × Int)))))))) × ((List (Int × (Int × (Int × (List (Int × (Int × (Int × Int)))))))) × (List (Int × (Int × (Int × (List (Int × (Int × (Int × Int))))))))))) => wf23 y.1 ∧ (fun (y : ((List (Int × (Int × (Int × (List (Int × (Int × (Int × Int)))))))) × (List (Int × (Int × (Int × (List (Int × (Int × (Int × Int)))))))))) => wf23 y.1 ∧ wf23 y.2) y.2) y.2)) (siz' := (fun (y : ((List (Int × (ByteArray × (Int × (List (Int × (Int × (Int × (List (Int × (Int × (Int × Int)))))))))))) × ((List (Int × (Int × (Int × (List (Int × (Int × (Int × Int)))))))) × ((List (Int × (Int × (Int × (List (Int × (Int × (Int × Int)))))))) × (List (Int × (Int × (Int × (List (Int × (Int × (Int × Int)))))))))))) => siz22 y.1 + (fun (y : ((List (Int × (Int × (Int × (List (Int × (Int × (Int × Int)))))))) × ((List (Int × (Int × (Int × (List (Int × (Int × (Int × Int)))))))) × (List (Int × (Int × (Int × (List (Int × (Int × (Int × Int))))))))))) => siz23 y.1 + (fun (y : ((List (Int × (Int × (Int × (List (Int × (Int × (Int × Int)))))))) × (List (Int × (Int × (Int × (List (Int × (Int × (Int × Int)))))))))) => siz23 y.1 + siz23 y.2) y.2) y.2)) rfl gd9 (gdf_cons (k := .sl (.st (.pair (.int .i64) (.pair .str (.pair (.int .i64) (.sl (.st (.pair (.int .i64) (.pair (.int .i64) (.pair (.int .i64) (.sl (.st (.pair (.int .i64) (.pair (.int .i64) (.pair (.int .i64) (.int .i64)))))))))))))))) (k' := .pair (.sl (.st (.pair (.int .i64) (.pair (.int .i64) (.pair (.int .i64) (.sl (.st (.pair (.int .i64) (.pair (.int .i64) (.pair (.int .i64) (.int .i64))))))))))) (.pair (.sl (.st (.pair (.int .i64) (.pair (.int .i64) (.pair (.int .i64) (.sl (.st (.pair (.int .i64) (.pair (.int .i64) (.pair (.int .i64) (.int .i64))))))))))) (.sl (.st (.pair (.int .i64) (.pair (.int .i64) (.pair (.int .i64) (.sl (.st (.pair (.int .i64) (.pair (.int .i64) (.pair (.int .i64) (.int .i64))))))))))))) (wf := wf22) (siz := siz22) (wf' := (fun (y : ((List (Int × (Int × (Int × (List (Int × (Int × (Int × Int)))))))) × ((List (Int × (Int × (Int × (List (Int × (Int × (Int × Int)))))))) × (List (Int × (Int × (Int × (List (Int × (Int × (Int × Int))))))))))) => wf23 y.1 ∧ (fun (y : ((List (Int × (Int × (Int × (List (Int × (Int × (Int × Int)))))))) × (List (Int × (Int × (Int × (List (Int × (Int × (Int × Int)))))))))) => wf23 y.1 ∧ wf23 y.2) y.2)) (siz' := (fun (y : ((List (Int × (Int × (Int × (List (Int × (Int × (Int × Int)))))))) × ((List (Int × (Int × (Int × (List (Int × (Int × (Int × Int)))))))) × (List (Int × (Int × (Int × (List (Int × (Int × (Int × Int))))))))))) => siz23 y.1 + (fun (y : ((List (Int × (Int × (Int × (List (Int × (Int × (Int × Int)))))))) × (List (Int × (Int × (Int × (List (Int × (Int × (Int × Int)))))))))) => siz23 y.1 + siz23 y.2) y.2)) rfl gd22 (gdf_cons (k := .sl (.st (.pair (.int .i64) (.pair (.int .i64) (.pair (.int .i64) (.sl (.st (.pair (.int .i64) (.pair (.int .i64) (.pair (.int .i64) (.int .i64))))))))))) (k' := .pair (.sl (.st (.pair (.int .i64) (.pair (.int .i64) (.pair (.int .i64) (.sl (.st (.pair (.int .i64) (.pair (.int .i64) (.pair (.int .i64) (.int .i64))))))))))) (.sl (.st (.pair (.int .i64) (.pair (.int .i64) (.pair (.int .i64) (.sl (.st (.pair (.int .i64) (.pair (.int .i64) (.pair (.int .i64) (.int .i64)))))))))))) (wf := wf23) (siz := siz23) (wf' := (fun (y : ((List (Int × (Int × (Int × (List (Int × (Int × (Int × Int)))))))) × (List (Int × (Int × (Int × (List (Int × (Int × (Int × Int)))))))))) => wf23 y.1 ∧ wf23 y.2)) (siz' := (fun (y : ((List (Int × (Int × (Int × (List (Int × (Int × (Int × Int)))))))) × (List (Int × (Int × (Int × (List (Int × (Int × (Int × Int)))))))))) => siz23 y.1 + siz23 y.2)) rfl gd23 (gdf_cons (k := .sl (.st (.pair (.int .i64) (.pair (.int .i64) (.pair (.int .i64) (.sl (.st (.pair (.int .i64) (.pair (.int .i64) (.pair (.int .i64) (.int .i64))))))))))) (k' := .sl (.st (.pair (.int .i64) (.pair (.int .i64) (.pair (.int .i64) (.sl (.st (.pair (.int .i64) (.pair (.int .i64) (.pair (.int .i64) (.int .i64))))))))))) (wf := wf23) (siz := siz23) (wf' := wf23) (siz' := siz23) rfl gd23 (gdf_one rfl gd23)))))
abbrev wf5 : Int → Prop := (fun (y : Int) => (Lit.int .u8 y).wf = true)
abbrev siz5 : Int → Nat := (fun _ => 1)
theorem gd5 : Gd Tryd.prog 5 (.int .u8) wf5 siz5 := gd_int Tryd.underlying5 (by kernel_rfl)
abbrev wf26 : (List Int) → Prop := (wfL (α := Int) 1 wf5)
abbrev siz26 : (List Int) → Nat := (sizL (α := Int) siz5)
theorem gd26 : Gd Tryd.prog 26 (.sl (.int .u8)) wf26 siz26 := gd_sl (B := 1) Tryd.underlying26 (by kernel_rfl) (by kernel_rfl) (by decide) gd5
set_option maxRecDepth 100000 in
set_option maxHeartbeats 1000000 in
set_option maxRecDepth 100000 in
theorem door_met (os : Os) (args : Array Value) : laidMetH Tryd.prog Rows.disOnesRow.laid ((laidWorld Tryd.prog Rows.disOnesRow.laid os).forCall (fun _ _ => 0) ⟨#[], args, []⟩).memory :=
  laidMetH_of_parts3 (fuel := 12) (laidMet_of_run' 12 (by kernel_rfl) (by kernel_rfl)) (by kernel_rfl) (by kernel_rfl)
theorem of_laid {W : World} (h : laidMetH Tryd.prog Rows.disOnesRow.laid W) : Lib.TabIs Tryd.prog W "internal/strconv.uint64pow10" .u64 Lib.pow10Tab := by
  rw [MakeChecks.laidMetH_plain _ _ _ (by kernel_rfl)] at h
  obtain ⟨ps, ⟨g0, t0, cs0, fu0, p0, q0, hg0, ht0, hv0, hd0, ⟨g1, t1, cs1, fu1, p1, q1, hg1, ht1, hv1, hd1, ⟨g2, t2, cs2, fu2, p2, q2, hg2, ht2, hv2, hd2, _, _⟩, _⟩, _⟩, _, _⟩ := h
  obtain rfl := Option.some.inj (g_pow10.symm.trans hg2)
  have et : (Tryd.prog.globals[3]?).map (·.type) = some 125 := by kernel_rfl
  obtain rfl := Option.some.inj (et.symm.trans ht2)
  have ed : (Rows.laid_internal_strconv_uint64pow10 : DataW Unit) = Lib.tabData .u64 Lib.pow10Tab := by kernel_rfl
  have hd : DataW.trod _ Tryd.prog W _ _ _ _ 125 cs2.toList = some (Lib.tabData .u64 Lib.pow10Tab, _) := ed ▸ hd2
  unfold Lib.TabIs
  rw [hv2, ← Lib.cells_of_tab Tryd.underlying125 Tryd.underlying110 (by kernel_rfl) (by kernel_rfl) hd]
set_option maxRecDepth 100000 in
set_option maxHeartbeats 1000000 in
theorem lifted (os : Os) (started : os.Started) (H : Type) (enc : TypeId × Value → H) :
    ReturnsInHanded {} Tryd.checked os 3 .any (fun w args => (Rows.disOnesSpec.pre enc Tryd.prog Tryd.f3 Rows.disOnesRow.domain false w args ∧ laidMetH Tryd.prog Rows.disOnesRow.laid w) ∧ sizedMet enc Tryd.prog Tryd.f3 (OpenSpec.ofChange Rows.disOnesSpec) false w args) (Rows.disOnesSpec.post enc Tryd.prog Tryd.f3 false true false false) := by
  refine returns_laid (C := Tryd.checked) (X := fun w _ => laidMetH Tryd.prog Rows.disOnesRow.laid w) (fun _ _ _ hh h => h.of_heap hh) own started (by kernel_rfl) Tryd.func3
    (ChangeSpec.witness_shaped (enc := enc) (C := Tryd.checked) (os := os) (X := fun w _ => laidMetH Tryd.prog Rows.disOnesRow.laid w) false (laidWorld Tryd.prog Rows.disOnesRow.laid os) #[.agg #[.string ByteArray.empty, .slice none 0 0, .slice none 0 0, .slice none 0 0, .slice none 0 0], .slice none 0 0, .int .i64 0] 8 rfl (World.shaped_of_RefB (by kernel_rfl) (by kernel_rfl)) (by kernel_rfl) (by kernel_rfl) (by kernel_rfl) (door_met os _)) ?_
  intro W base args ds gs before hval0 hW hsz0 hL hshape
  have hgh : GH (memH W) := gh_of (of_laid hL) (cell_of_shapedOpen_int (g := 0) (t := 3) (zero := #[.int .i64 0]) hshape (of_decide_eq_true (by kernel_rfl)) (by kernel_rfl) rfl (by kernel_rfl) (by kernel_rfl) Tryd.underlying3)
  have hsz : (DataW.weightsEach Tryd.prog (Tryd.f3.params.toList ++ Rows.disOnesSpec.plain.varTypes Tryd.prog) (ds ++ gs)).all (· ≤ reachBytes) = true := hsz0
  have hval : ∀ (j : Nat) t v, Tryd.f3.params[j]? = some t → args[j]? = some v → Value.okWide Tryd.prog W .any base t v := hval0
  have hW' := hW
  obtain ⟨p, q, hA0, hV, rfl, hfz, hnd⟩ := hW
  have hA : DataW.TrodAll enc Tryd.prog W 0 (fun _ => true) true Tryd.f3.params.toList args.toList ds p := hA0
  rw [Tryd.params3] at hA hval hsz
  obtain ⟨v0, vs0, d0, ds0, p0, q0, hargs, rfl, rfl, h0, r0⟩ := trodAll_cons hA
  obtain ⟨v1, vs1, d1, ds1, p1, q1, rfl, rfl, rfl, h1, r1⟩ := trodAll_cons r0
  obtain ⟨v2, vs2, d2, ds2, p2, q2, rfl, rfl, rfl, h2, r2⟩ := trodAll_cons r1
  obtain ⟨rfl, rfl, rfl⟩ := trodAll_nil r2
  obtain rfl : args = #[v0, v1, v2] := by cases args; simp_all
  obtain ⟨rfl, rfl⟩ := trodVars_none hV
  have lt0 : ∀ x ∈ p0, x.block < W.heap.size := by obtain ⟨m, hm⟩ := h0; exact DataW.trod_lt m _ _ _ hm
  have wt0 := weights_at hsz 0 (t := 25) rfl rfl
  obtain ⟨a0, s0, wf0_, up0_⟩ := gd25.arg (hval 0 25 v0 rfl rfl) h0 wt0
  have lt1 : ∀ x ∈ p1, x.block < W.heap.size := by obtain ⟨m, hm⟩ := h1; exact DataW.trod_lt m _ _ _ hm
  have wt1 := weights_at hsz 1 (t := 26) rfl rfl
  obtain ⟨a1, s1, wf1_, up1_⟩ := gd26.arg (hval 1 26 v1 rfl rfl) h1 wt1
  have lt2 : ∀ x ∈ p2, x.block < W.heap.size := by obtain ⟨m, hm⟩ := h2; exact DataW.trod_lt m _ _ _ hm
  have wt2 := weights_at hsz 2 (t := 3) rfl rfl
  obtain ⟨a2, s2, wf2_, up2_⟩ := gd3.arg (hval 2 3 v2 rfl rfl) h2 wt2
  clear hA0 hval0 hsz0 hsz
  obtain ⟨k, h⟩ := Do.disOnes a0 a1 a2 wf0_ wf1_ wf2_
  refine (law_calls (DisOnes3.ok k) (ds := (a0, a1, a2)) h (args := #[v0, v1, v2]) (W := W) (.cons (s0 _) (.cons (s1 _) (.cons (s2 _) (.nil)))) hgh).mono fun e W' ⟨he, bel0⟩ => ?_
  have bel : Below W.heap.size W W' := bel0
  subst he
  exact ⟨_, rfl, _, _, _, [], _, [], hW', trodAll_mk1 (shut_bool Tryd.underlying4 _), (trodAll_cons_mk (Below.trod laidOut (by kernel_rfl) (of_decide_eq_true (by kernel_rfl)) h0 bel lt0) (trodAll_cons_mk (Below.trod laidOut (by kernel_rfl) (of_decide_eq_true (by kernel_rfl)) h1 bel lt1) (trodAll_cons_mk (Below.trod laidOut (by kernel_rfl) (of_decide_eq_true (by kernel_rfl)) h2 bel lt2) (trodAll_mk0)))), rfl, bel.frame _, fun h => by cases h⟩
theorem over : Rows.disOnesRow.holds Tryd.pinned (OpenSpec.ofChange Rows.disOnesSpec) :=
  OpenClaim.holds_of_wide 3 Tryd.f3 rfl rfl rfl rfl rfl rfl rfl ⟨rfl, rfl, rfl, rfl, rfl⟩ rfl rfl rfl rfl rfl (by kernel_rfl) Tryd.func3 (by kernel_rfl)
    (of_decide_eq_true (by kernel_rfl)) (by unfold Func.isWrapper; first | (rw [if_pos (by decide +kernel)]; kernel_rfl) | (rw [if_neg (by decide +kernel)]; exact ⟨rfl, rfl⟩))
    (fun os started H enc _ => lifted os started H enc)
theorem proved : Rows.DisOnesSaid := over
#print axioms proved
end Go.Proofs.YtcppmlgnceldmaaDoor.disOnes
namespace Go.Proofs.YtcppmlgnceldmaaDoor
open Go
theorem disOnes_holds : Rows.DisOnesCardSaid :=
  Claim7.holds_tied_plain_at .later [] [.data, .data, .data, .data, .pinned] true (true, "b33e89667c2108bb3fb003c84ed32c9fdb19af684398ab316b7f293b78c62ef3") false
    disOnes.proved (fun _ h => by cases h) (by kernel_rfl) (fun _ h => by cases h) disOnes_row_tie rfl ⟨rfl, rfl⟩ (by kernel_rfl) rfl
    (fun f fn hf hfn => by
      obtain rfl : f = 3 := Option.some.inj ((show Tryd.prog.funcNamed "bakelite/bakelaw3.DisOnes" = some 3 by kernel_rfl).symm.trans hf) |>.symm
      obtain rfl : fn = Tryd.f3 := (Option.some.inj (Tryd.func3.symm.trans hfn)).symm
      exact ⟨by kernel_rfl, fun j t ht => by
        rw [Tryd.params3] at ht
        have hm : t ∈ [25, 26, 3] := by simpa using Array.mem_of_getElem? ht
        have hall : ([25, 26, 3].all fun u => !Tryd.prog.wantsStandIn u) = true := by kernel_rfl
        exact (show Tryd.prog.wantsStandIn t = false by simpa using List.all_eq_true.1 hall t hm)⟩)
    (by kernel_rfl)
#print axioms disOnes_holds
end Go.Proofs.YtcppmlgnceldmaaDoor
