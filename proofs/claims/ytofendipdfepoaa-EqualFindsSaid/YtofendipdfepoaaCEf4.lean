/- Merged texts of one claim: a Go law, its functions without memory, and the plain law. The law returns true for every input; conditions: as the row says. -/
import Derived.Test.YtofendipdfepoaaRows
import Derived.ChangeArms
import Derived.OpenShut
import Derived.SizedLaws
import Derived.Deep.Slices
import Derived.Below
import Derived.WalkKit
import Derived.ProofKit
import Derived.ShutString
import Derived.ChangeOld
import Derived.Test.YtofendipdfepoaaCEf0
import Derived.Test.YtofendipdfepoaaCEf1
import Derived.Test.YtofendipdfepoaaCEf2
import Derived.Test.YtofendipdfepoaaCEf3
/- Circuits of gates: the value of a gate, backwards, with what is known already. No program in sight. -/
set_option linter.unusedVariables false
noncomputable section
namespace Go.Proofs.Ytofendipdfepoaa.Ef
open Go Go.Proofs.Ytofendipdfepoaa.Gp

theorem Ev.succ {α : Type} {f : Nat → Option α} {v : α} (h : Ev (fun k => f (k + 1)) v) : Ev f v := by
  obtain ⟨n, h⟩ := h
  refine ⟨n + 1, fun k hk => ?_⟩
  obtain ⟨j, rfl⟩ : ∃ j, k = j + 1 := ⟨k - 1, by omega⟩
  exact h j (by omega)

/-- the value of the j-th -/
def V (c : Cir) (st inn : Int) (j : Nat) : Nat := (vals st inn c.2.1).getD j 0
theorem vals_app (st inn : Int) (l1 l2 : List Gate) : ∃ t, vals st inn (l1 ++ l2) = vals st inn l1 ++ t := by
  have : ∀ (l : List Gate) (v : List Nat), ∃ t, l.foldl (vS st inn) v = v ++ t := by
    intro l
    induction l with
    | nil => intro v; exact ⟨[], by simp⟩
    | cons x l ih =>
      intro v
      obtain ⟨t, ht⟩ := ih (vS st inn v x)
      exact ⟨[valG st inn v x] ++ t, by rw [List.foldl_cons, ht]; unfold vS; rw [List.append_assoc]⟩
  unfold vals
  rw [List.foldl_append]
  exact this l2 _
theorem V_pre (c : Cir) (st inn : Int) {i j : Nat} (hj : j < i) (hi : i ≤ c.2.1.length) : (vals st inn (c.2.1.take i)).getD j 0 = V c st inn j := by
  obtain ⟨t, ht⟩ := vals_app st inn (c.2.1.take i) (c.2.1.drop i)
  rw [List.take_append_drop] at ht
  unfold V
  rw [ht, List.getD_eq_getElem?_getD, List.getD_eq_getElem?_getD, List.getElem?_append_left (by rw [vals_len, List.length_take]; omega)]
theorem V_at (c : Cir) (st inn : Int) {i : Nat} {g : Gate} (h : c.2.1[i]? = some g) : V c st inn i = valG st inn (vals st inn (c.2.1.take i)) g := by
  have hi := get_lt h
  rw [← V_pre c st inn (Nat.lt_succ_self i) (by omega), List.take_add_one, h, Option.toList_some, vals_snoc, List.getD_eq_getElem?_getD, List.getElem?_append_right (by rw [vals_len, List.length_take]; omega)]
  have : i - (vals st inn (c.2.1.take i)).length = 0 := by rw [vals_len, List.length_take]; omega
  rw [this]; rfl
theorem V_le {c : Cir} (hR : Right c) (st inn : Int) (j : Nat) : V c st inn j ≤ 1 := by
  have := vals_le hR st inn c.2.1.length (Nat.le_refl _)
  rw [List.take_length] at this
  exact getD_le this j

theorem b_xor1 {a : Nat} (h : a ≤ 1) : ibits .xor .i64 (a : Int) 1 = ((1 - a : Nat) : Int) := by
  have : a = 0 ∨ a = 1 := by omega
  rcases this with rfl | rfl <;> rfl
theorem b_mn {a b : Nat} (h : a ≤ 1) (h2 : b ≤ 1) : mnI (a : Int) (b : Int) = ((a &&& b : Nat) : Int) := by
  have h : a = 0 ∨ a = 1 := by omega
  have h2 : b = 0 ∨ b = 1 := by omega
  rcases h with rfl | rfl <;> rcases h2 with rfl | rfl <;> rfl
theorem b_mx {a b : Nat} (h : a ≤ 1) (h2 : b ≤ 1) : mxI (a : Int) (b : Int) = ((a ||| b : Nat) : Int) := by
  have h : a = 0 ∨ a = 1 := by omega
  have h2 : b = 0 ∨ b = 1 := by omega
  rcases h with rfl | rfl <;> rcases h2 with rfl | rfl <;> rfl
theorem b_xor {a b : Nat} (h : a ≤ 1) (h2 : b ≤ 1) : Int.tmod (w64 ((a : Int) + (b : Int))) 2 = ((a ^^^ b : Nat) : Int) := by
  have h : a = 0 ∨ a = 1 := by omega
  have h2 : b = 0 ∨ b = 1 := by omega
  rcases h with rfl | rfl <;> rcases h2 with rfl | rfl <;> rfl

abbrev Map := List (Int × Int)
def RightM (c : Cir) (st inn : Int) (m : Map) : Prop := ∀ (k x : Int), mget (.int .i64) (.int .i64) m k = some x → ∃ j : Nat, k = j ∧ j < c.2.1.length ∧ x = ((V c st inn j : Nat) : Int)
theorem RightM.put {c : Cir} {st inn : Int} {m : Map} (h : RightM c st inn m) {i : Nat} (hi : i < c.2.1.length) : RightM c st inn (mput (.int .i64) (.int .i64) m (i : Int) ((V c st inn i : Nat) : Int)) := by
  intro k x hx
  have hx := (mget_mput (kk := .int .i64) (kv := .int .i64) rfl).symm.trans hx
  by_cases he : eqB (.int .i64) k (i : Int) = true
  · have : k = (i : Int) := (eqB_iff (k := .int .i64) rfl).1 he
    have hx := (if_pos he).symm.trans hx
    exact ⟨i, this, hi, (Option.some.inj hx).symm⟩
  · exact h k x ((if_neg he).symm.trans hx)
theorem RightM.nil (c : Cir) (st inn : Int) : RightM c st inn [] := fun k x h => by cases h

theorem value_ev {c : Cir} (hR : Right c) (st inn : Int) : ∀ (n i : Nat), i < n → i < c.2.1.length → ∀ m, RightM c st inn m → ∃ m', RightM c st inn m' ∧ Ev (fun k => Value118 k c st inn (i : Int) () m) (((V c st inn i : Nat) : Int), m') := by
  intro n
  induction n with
  | zero => intro i h; omega
  | succ n ih =>
    intro i hin hi m hm
    obtain ⟨g, hx⟩ : ∃ g, c.2.1[i]? = some g := ⟨_, List.getElem?_eq_getElem hi⟩
    have call : ∀ (z : Int), 0 ≤ z → z < (i : Int) → ∀ m, RightM c st inn m → ∃ m', RightM c st inn m' ∧ Ev (fun k => (GrpValue118 k).1 z c st inn () () m) (((V c st inn z.toNat : Nat) : Int), (), m') := by
      intro z h0 h1 m hm
      obtain ⟨m', r, e⟩ := ih z.toNat (by omega) (by omega) m hm
      refine ⟨m', r, Ev.succ ?_⟩
      rw [show ((z.toNat : Nat) : Int) = z by omega] at e
      exact .bind e (.now _)
    cases hk : mget (.int .i64) (.int .i64) m (i : Int) with
    | some x =>
      obtain ⟨j, e, _, rfl⟩ := hm _ _ hk
      have : j = i := by omega
      subst this
      refine ⟨m, hm, Ev.succ ?_⟩
      show Ev (fun k => Value118.b (GrpValue118 k) k c st inn (j : Int) () m) _
      simp only [Value118.b, hk]
      exact .yes rfl (.now _)
    | none =>
      have hgo := hR.gate i g hx
      obtain ⟨hkd, hA, hB, hC, hN0, hN1⟩ := gate_ok hgo
      have hV := V_at c st inn hx
      have pre : ∀ z : Int, 0 ≤ z → z < (i : Int) → (vals st inn (c.2.1.take i)).getD z.toNat 0 = V c st inn z.toNat := fun z h0 h1 => V_pre c st inn (by omega) (by omega)
      have le := V_le hR st inn
      obtain ⟨kd, A, B, C, N⟩ := g
      dsimp only at hkd hA hB hC hN0 hN1
      have start : ∀ m', RightM c st inn m' → (Ev (fun k => (Value118.b (GrpValue118 k) k c st inn (i : Int) () m)) (((V c st inn i : Nat) : Int), mput (.int .i64) (.int .i64) m' (i : Int) ((V c st inn i : Nat) : Int))) →
          ∃ m', RightM c st inn m' ∧ Ev (fun k => Value118 k c st inn (i : Int) () m) (((V c st inn i : Nat) : Int), m') := fun m' h e => ⟨_, h.put hi, Ev.succ e⟩
      rcases kinds hkd with rfl | rfl | rfl | rfl | rfl | rfl | rfl | rfl
      · have hv : ((V c st inn i : Nat) : Int) = N := by rw [hV]; show ((N.toNat : Nat) : Int) = N; omega
        refine start m hm ?_
        simp only [Value118.b, hk]
        refine .no rfl (.val (rd_some' hx) (.bind (a := ((), ((V c st inn i : Nat) : Int), m, ())) ?_ (.now _)))
        exact .yes rfl (.now' (by rw [hv]))
      · have hv : ((V c st inn i : Nat) : Int) = ibits .and .i64 (shrI .i64 inn N) 1 := by rw [hV, (bit_and _).1]; rfl
        refine start m hm ?_
        simp only [Value118.b, hk]
        refine .no rfl (.val (rd_some' hx) (.bind (a := ((), ((V c st inn i : Nat) : Int), m, ())) ?_ (.now _)))
        refine .no rfl (.bind (a := (st, inn, (), ((1 : Int), A, B, C, N), (c, st, inn, (), ()), true, m, ())) (.yes rfl (.now _)) ?_)
        dsimp only
        refine .bind (a := ((), ((V c st inn i : Nat) : Int), m, ())) (.yes rfl (.val (a := shrI .i64 inn N) ?_ (.now' (by rw [hv])))) (.now _)
        exact if_neg (by omega)
      · have hv : ((V c st inn i : Nat) : Int) = ibits .and .i64 (shrI .i64 st N) 1 := by rw [hV, (bit_and _).1]; rfl
        refine start m hm ?_
        simp only [Value118.b, hk]
        refine .no rfl (.val (rd_some' hx) (.bind (a := ((), ((V c st inn i : Nat) : Int), m, ())) ?_ (.now _)))
        refine .no rfl (.bind (a := (st, inn, (), ((2 : Int), A, B, C, N), (c, st, inn, (), ()), true, m, ())) (.no rfl (.now _)) ?_)
        dsimp only
        refine .bind (a := ((), ((V c st inn i : Nat) : Int), m, ())) (.yes rfl (.val (a := shrI .i64 st N) ?_ (.now' (by rw [hv])))) (.now _)
        exact if_neg (by omega)
      · skip
        obtain ⟨m1, r1, e1⟩ := call A (hA (by decide)).1 (hA (by decide)).2 m hm
        have pA := pre A (hA (by decide)).1 (hA (by decide)).2
        have hv : ((V c st inn i : Nat) : Int) = ibits .xor .i64 ((V c st inn A.toNat : Nat) : Int) 1 := by
          rw [hV, b_xor1 (le _), ← pA]; rfl
        refine start m1 r1 ?_
        simp only [Value118.b, hk]
        refine .no rfl (.val (rd_some' hx) (.bind (a := ((), ((V c st inn i : Nat) : Int), m1, ())) ?_ (.now _)))
        refine .no rfl (.bind (a := (st, inn, (), ((3 : Int), A, B, C, N), (c, st, inn, (), ()), false, m, ())) (.no rfl (.now _)) ?_)
        dsimp only
        refine .bind (a := ((), ((V c st inn i : Nat) : Int), m1, ())) (.no rfl (.bind (a := ((), ((V c st inn i : Nat) : Int), m1, ())) (.yes rfl (.bind e1 (.now' (by rw [hv])))) (.now _))) (.now _)
      · skip
        obtain ⟨m1, r1, e1⟩ := call A (hA (by decide)).1 (hA (by decide)).2 m hm
        have pA := pre A (hA (by decide)).1 (hA (by decide)).2
        obtain ⟨m2, r2, e2⟩ := call B (hB (by decide)).1 (hB (by decide)).2 m1 r1
        have pB := pre B (hB (by decide)).1 (hB (by decide)).2
        have hv : ((V c st inn i : Nat) : Int) = mnI ((V c st inn A.toNat : Nat) : Int) ((V c st inn B.toNat : Nat) : Int) := by
          rw [hV, b_mn (le _) (le _), ← pA, ← pB]; rfl
        refine start m2 r2 ?_
        simp only [Value118.b, hk]
        refine .no rfl (.val (rd_some' hx) (.bind (a := ((), ((V c st inn i : Nat) : Int), m2, ())) ?_ (.now _)))
        refine .no rfl (.bind (a := (st, inn, (), ((4 : Int), A, B, C, N), (c, st, inn, (), ()), false, m, ())) (.no rfl (.now _)) ?_)
        dsimp only
        refine .bind (a := ((), ((V c st inn i : Nat) : Int), m2, ())) (.no rfl (.bind (a := ((), ((V c st inn i : Nat) : Int), m2, ())) (.no rfl (.bind (a := ((), ((V c st inn i : Nat) : Int), m2, ())) (.yes rfl (.bind e1 (.bind e2 (.now' (by rw [hv]))))) (.now _))) (.now _))) (.now _)
      · skip
        obtain ⟨m1, r1, e1⟩ := call A (hA (by decide)).1 (hA (by decide)).2 m hm
        have pA := pre A (hA (by decide)).1 (hA (by decide)).2
        obtain ⟨m2, r2, e2⟩ := call B (hB (by decide)).1 (hB (by decide)).2 m1 r1
        have pB := pre B (hB (by decide)).1 (hB (by decide)).2
        have hv : ((V c st inn i : Nat) : Int) = mxI ((V c st inn A.toNat : Nat) : Int) ((V c st inn B.toNat : Nat) : Int) := by
          rw [hV, b_mx (le _) (le _), ← pA, ← pB]; rfl
        refine start m2 r2 ?_
        simp only [Value118.b, hk]
        refine .no rfl (.val (rd_some' hx) (.bind (a := ((), ((V c st inn i : Nat) : Int), m2, ())) ?_ (.now _)))
        refine .no rfl (.bind (a := (st, inn, (), ((5 : Int), A, B, C, N), (c, st, inn, (), ()), false, m, ())) (.no rfl (.now _)) ?_)
        dsimp only
        refine .bind (a := ((), ((V c st inn i : Nat) : Int), m2, ())) (.no rfl (.bind (a := ((), ((V c st inn i : Nat) : Int), m2, ())) (.no rfl (.bind (a := ((), ((V c st inn i : Nat) : Int), m2, ())) (.no rfl (.bind (a := ((), ((V c st inn i : Nat) : Int), m2, ())) (.yes rfl (.bind e1 (.bind e2 (.now' (by rw [hv]))))) (.now _))) (.now _))) (.now _))) (.now _)
      · skip
        obtain ⟨m1, r1, e1⟩ := call A (hA (by decide)).1 (hA (by decide)).2 m hm
        have pA := pre A (hA (by decide)).1 (hA (by decide)).2
        obtain ⟨m2, r2, e2⟩ := call B (hB (by decide)).1 (hB (by decide)).2 m1 r1
        have pB := pre B (hB (by decide)).1 (hB (by decide)).2
        have hv : ((V c st inn i : Nat) : Int) = Int.tmod (w64 (((V c st inn A.toNat : Nat) : Int) + ((V c st inn B.toNat : Nat) : Int))) 2 := by
          rw [hV, b_xor (le _) (le _), ← pA, ← pB]; rfl
        refine start m2 r2 ?_
        simp only [Value118.b, hk]
        refine .no rfl (.val (rd_some' hx) (.bind (a := ((), ((V c st inn i : Nat) : Int), m2, ())) ?_ (.now _)))
        refine .no rfl (.bind (a := (st, inn, (), ((6 : Int), A, B, C, N), (c, st, inn, (), ()), false, m, ())) (.no rfl (.now _)) ?_)
        dsimp only
        refine .bind (a := ((), ((V c st inn i : Nat) : Int), m2, ())) (.no rfl (.bind (a := ((), ((V c st inn i : Nat) : Int), m2, ())) (.no rfl (.bind (a := ((), ((V c st inn i : Nat) : Int), m2, ())) (.no rfl (.bind (a := ((), ((V c st inn i : Nat) : Int), m2, ())) (.no rfl (.bind (a := ((), ((V c st inn i : Nat) : Int), m2, ())) (.yes rfl (.bind e1 (.bind e2 (.now' (by rw [hv]))))) (.now _))) (.now _))) (.now _))) (.now _))) (.now _)
      · obtain ⟨m1, r1, e1⟩ := call C (hC (by decide)).1 (hC (by decide)).2 m hm
        obtain ⟨m2, r2, e2⟩ := call A (hA (by decide)).1 (hA (by decide)).2 m1 r1
        have pA := pre A (hA (by decide)).1 (hA (by decide)).2
        have pB := pre B (hB (by decide)).1 (hB (by decide)).2
        have pC := pre C (hC (by decide)).1 (hC (by decide)).2
        by_cases hva : V c st inn A.toNat = 1
        · obtain ⟨m3, r3, e3⟩ := call B (hB (by decide)).1 (hB (by decide)).2 m2 r2
          have hv : V c st inn i = V c st inn B.toNat := by
            rw [hV, ← pB]
            exact if_pos (pA.trans hva)
          refine start m3 r3 ?_
          simp only [Value118.b, hk]
          refine .no rfl (.val (rd_some' hx) (.bind (a := ((), ((V c st inn i : Nat) : Int), m3, ())) ?_ (.now _)))
          refine .no rfl (.bind (a := (st, inn, (), ((7 : Int), A, B, C, N), (c, st, inn, (), ()), false, m, ())) (.no rfl (.now _)) ?_)
          dsimp only
          refine .bind (a := ((), ((V c st inn i : Nat) : Int), m3, ())) (.no rfl (.bind (a := ((), ((V c st inn i : Nat) : Int), m3, ())) (.no rfl (.bind (a := ((), ((V c st inn i : Nat) : Int), m3, ())) (.no rfl (.bind (a := ((), ((V c st inn i : Nat) : Int), m3, ())) (.no rfl (.bind (a := ((), ((V c st inn i : Nat) : Int), m3, ())) (.no rfl (.bind (a := ((), ((V c st inn i : Nat) : Int), m3, ())) (.yes rfl (.bind e1 (.bind e2 (.bind (a := ((), ((V c st inn i : Nat) : Int), m3, ())) (.yes ?_ (.bind e3 (.now' (by rw [hv])))) (.now _))))) (.now _))) (.now _))) (.now _))) (.now _))) (.now _))) (.now _)
          exact decide_eq_true (by show ((V c st inn A.toNat : Nat) : Int) > 0; rw [hva]; decide)
        · have hv : V c st inn i = V c st inn C.toNat := by
            rw [hV, ← pC]
            exact if_neg (fun h => hva (pA.symm.trans h))
          refine start m2 r2 ?_
          simp only [Value118.b, hk]
          refine .no rfl (.val (rd_some' hx) (.bind (a := ((), ((V c st inn i : Nat) : Int), m2, ())) ?_ (.now _)))
          refine .no rfl (.bind (a := (st, inn, (), ((7 : Int), A, B, C, N), (c, st, inn, (), ()), false, m, ())) (.no rfl (.now _)) ?_)
          dsimp only
          refine .bind (a := ((), ((V c st inn i : Nat) : Int), m2, ())) (.no rfl (.bind (a := ((), ((V c st inn i : Nat) : Int), m2, ())) (.no rfl (.bind (a := ((), ((V c st inn i : Nat) : Int), m2, ())) (.no rfl (.bind (a := ((), ((V c st inn i : Nat) : Int), m2, ())) (.no rfl (.bind (a := ((), ((V c st inn i : Nat) : Int), m2, ())) (.no rfl (.bind (a := ((), ((V c st inn i : Nat) : Int), m2, ())) (.yes rfl (.bind e1 (.bind e2 (.bind (a := ((), ((V c st inn i : Nat) : Int), m2, ())) (.no ?_ (.now' (by rw [hv]))) (.now _))))) (.now _))) (.now _))) (.now _))) (.now _))) (.now _))) (.now _)
          have := le A.toNat
          exact decide_eq_false (by show ¬ ((V c st inn A.toNat : Nat) : Int) > 0; omega)
end Go.Proofs.Ytofendipdfepoaa.Ef

/- Circuits of gates: steps. No program in sight. -/
set_option linter.unusedVariables false
noncomputable section
namespace Go.Proofs.Ytofendipdfepoaa.Ef
open Go Go.Proofs.Ytofendipdfepoaa.Gp

/-- the values of the gates that are named, joined -/
def line (c : Cir) (st inn : Int) (l : List Int) : List Nat := l.map (fun x => V c st inn x.toNat)
theorem line_le {c : Cir} (hR : Right c) (st inn : Int) (l : List Int) : ∀ b ∈ line c st inn l, b ≤ 1 := by
  intro b hb
  obtain ⟨x, _, rfl⟩ := List.mem_map.1 hb
  exact V_le hR st inn _
def InG (c : Cir) (l : List Int) : Prop := l.length ≤ 10 ∧ ∀ x ∈ l, 0 ≤ x ∧ x < (c.2.1.length : Int)
theorem bits_ev {c : Cir} (hR : Right c) (st inn : Int) (l : List Int) (hl : InG c l) : Ev (fun k => bits128 k (ints (vals st inn c.2.1)) l) (((pk (line c st inn l) : Nat) : Int), ()) := by
  unfold bits128
  refine .bind (a := ((pk (line c st inn l) : Nat) : Int)) (Lp.ev ?_) (.now _)
  have := Lp.fold (body := fun k => bits128.l0 k (ints (vals st inn c.2.1)) l) l (fun (m : List Nat) i => ((pk m : Int), i)) (fun m x => m ++ [V c st inn x.toNat]) (fun m => (pk m : Int)) (fun i m => m = line c st inn (l.take i)) (fun i x m hx hm => ⟨?_, ?_⟩) (fun m _ => ?_) (b := []) rfl
  · rw [foldl_snoc, List.nil_append] at this
    exact this
  · have hi := get_lt hx
    have hll := hl.1
    obtain ⟨x0, x1⟩ := hl.2 x (get_mem hx)
    have hlen : m.length = i := by rw [hm]; unfold line; rw [List.length_map, List.length_take]; omega
    have hlt : pk m < 2 ^ i := by rw [← hlen]; exact pk_lt m (by rw [hm]; exact line_le hR st inn _)
    have hv : rd (ints (vals st inn c.2.1)) x = some ((V c st inn x.toNat : Nat) : Int) := by
      refine rd_z x0 ?_
      unfold ints V
      rw [List.getElem?_map, List.getD_eq_getElem?_getD, List.getElem?_eq_getElem (show x.toNat < (vals st inn c.2.1).length by rw [vals_len]; omega)]
      rfl
    simp only [bits128.l0]
    refine .yes (decide_eq_true (by omega)) (.val (rd_some' hx) (.val hv (.val (a := shlI .i64 ((V c st inn x.toNat : Nat) : Int) (i : Int)) ?_ (.now' ?_))))
    · rw [if_neg (by omega)]
    · rw [or_bit hlt (V_le hR st inn _) (by omega), pk_snoc, hlen, w64_id (by omega) (by omega)]
  · rw [hm, take_snoc hx]; unfold line; rw [List.map_append]; rfl
  · simp only [bits128.l0]
    exact .no (by simp) (.now _)

theorem line_lp {c : Cir} (hR : Right c) (st inn : Int) (w : Nat) (hw : w < 2) (l : List Int) (hl : InG c l) (o2 : List (List Int)) : ∀ (suf pre : List Int) (m : Map) (o1 : List Int), l = pre ++ suf → RightM c st inn m → o1.length = 2 → o1[w]? = some ((pk (line c st inn pre) : Nat) : Int) →
    ∃ m' o1', RightM c st inn m' ∧ o1'.length = 2 ∧ o1'[w]? = some ((pk (line c st inn l) : Nat) : Int) ∧ (∀ j, j ≠ w → o1'[j]? = o1[j]?) ∧
      Lp (fun k => Stepped92.l0 k st inn (w : Int) l) (c, (), (), (), (pre.length : Int), m, o1, o2) (c, (), (), (), m', o1', o2) := by
  intro suf
  induction suf with
  | nil =>
    intro pre m o1 h hm ho hp
    rw [List.append_nil] at h
    subst h
    refine ⟨m, o1, hm, ho, hp, fun _ _ => rfl, .done ?_⟩
    simp only [Stepped92.l0]
    exact .no (by simp) (.now _)
  | cons x suf ih =>
    intro pre m o1 h hm ho hp
    have hx : l[pre.length]? = some x := by rw [h]; simp
    have hi := get_lt hx
    have hll := hl.1
    obtain ⟨x0, x1⟩ := hl.2 x (get_mem hx)
    obtain ⟨m', r, e⟩ := value_ev hR st inn c.2.1.length x.toNat (by omega) (by omega) m hm
    rw [show ((x.toNat : Nat) : Int) = x by omega] at e
    have hlen : (line c st inn pre).length = pre.length := by unfold line; rw [List.length_map]
    have hlt : pk (line c st inn pre) < 2 ^ pre.length := by
      have := pk_lt _ (line_le hR st inn pre)
      rwa [hlen] at this
    have hpk : pk (line c st inn (pre ++ [x])) = pk (line c st inn pre) + V c st inn x.toNat * 2 ^ pre.length := by
      unfold line
      rw [List.map_append, List.map_singleton, pk_snoc, List.length_map]
    obtain ⟨m2, o', g1, g2, g3, g4, g5⟩ := ih (pre ++ [x]) m' (o1.set w ((pk (line c st inn (pre ++ [x])) : Nat) : Int)) (by rw [h]; simp) r (by rw [List.length_set]; exact ho) (List.getElem?_set_self (by omega))
    refine ⟨m2, o', g1, g2, g3, fun j hj => by rw [g4 j hj, List.getElem?_set_ne (Ne.symm hj)], .step ?_ g5⟩
    simp only [Stepped92.l0]
    refine .yes (decide_eq_true (by omega)) (.val (rd_some' hx) (.val (a := ()) (if_pos ⟨by omega, by omega⟩) (.val (rd_some' hp) (.bind e (.val (a := shlI .i64 ((V c st inn x.toNat : Nat) : Int) (pre.length : Int)) (if_neg (by omega)) (.val (a := ()) (if_pos ⟨by omega, by omega⟩) (.val (rd_some' hp) (.now' ?_))))))))
    rw [add_bit hlt (V_le hR st inn _) (by omega), w64_id (by omega) (by omega), ← hpk, List.length_append]
    simp

theorem stepped_ev {c : Cir} (hR : Right c) (st inn : Int) : Ev (fun k => Stepped92 k c st inn) ((((pk (line c st inn c.2.2.1) : Nat) : Int), ((pk (line c st inn c.2.2.2.1) : Nat) : Int), ()), ()) := by
  unfold Stepped92
  obtain ⟨m1, o1, a1, a2, a3, a4, a5⟩ := line_lp hR st inn 0 (by omega) c.2.2.1 hR.outs [c.2.2.1, c.2.2.2.1] c.2.2.1 [] [] [0, 0] rfl (.nil c st inn) rfl rfl
  obtain ⟨m2, o2, b1, b2, b3, b4, b5⟩ := line_lp hR st inn 1 (by omega) c.2.2.2.1 hR.next [c.2.2.1, c.2.2.2.1] c.2.2.2.1 [] m1 o1 rfl a1 a2 (by rw [a4 1 (by omega)]; rfl)
  have h0 : o2[0]? = some ((pk (line c st inn c.2.2.1) : Nat) : Int) := by rw [b4 0 (by omega)]; exact a3
  refine .bind (a := ((), o2)) (Lp.ev ?_) ?_
  · refine Lp.step (s' := (c, (), (), (), 1, m1, o1, [c.2.2.1, c.2.2.2.1])) ?_ (Lp.step (s' := (c, (), (), (), 2, m2, o2, [c.2.2.1, c.2.2.2.1])) ?_ (Lp.done ?_))
    · simp only [Stepped92.l1]
      exact .yes rfl (.val rfl (.val rfl (.bind a5.ev (.now' (by rw [w64_id (by omega) (by omega)]; rfl)))))
    · simp only [Stepped92.l1]
      exact .yes rfl (.val rfl (.val rfl (.bind b5.ev (.now' (by rw [w64_id (by omega) (by omega)]; rfl)))))
    · simp only [Stepped92.l1]
      exact .no rfl (.now _)
  · exact .val rfl (.val (rd_at (i := 0) rfl h0) (.val rfl (.val (rd_at (i := 1) rfl b3) (.now _))))
end Go.Proofs.Ytofendipdfepoaa.Ef

/- Circuits and tables: what is wrong with two together. No program in sight. -/
set_option linter.unusedVariables false
noncomputable section
namespace Go.Proofs.Ytofendipdfepoaa.Ef
open Go Go.Proofs.Ytofendipdfepoaa.Gp

theorem first_ev (c : Cir) (hc : c.2.2.2.2.length ≤ 9223372036854775806) : Ev (fun k => First91 k c) ((first c : Int), ()) := by
  unfold First91
  refine .bind (a := (first c : Int)) (Lp.ev ?_) (.now _)
  generalize hl : c.2.2.2.2 = l at hc
  have hf : first c = pk ((l.take 10).map bitOf) := by unfold first; rw [hl]
  have := Lp.fold (body := fun k => First91.l0 k c) l (fun (m : List Nat) i => ((pk (m.take 10) : Int), i)) (fun m x => m ++ [bitOf x]) (fun m => (pk (m.take 10) : Int)) (fun i m => m = (l.take i).map bitOf) (fun i x m hx hm => ⟨?_, ?_⟩) (fun m _ => ?_) (b := []) rfl
  · rw [foldl_snoc, List.nil_append, ← List.map_take, ← hf] at this
    exact this
  · have hi := get_lt hx
    have hlen : m.length = i := by rw [hm, List.length_map, List.length_take]; omega
    simp only [First91.l0, hl]
    refine .yes (decide_eq_true (by omega)) (.val (rd_some' hx) (.bind (a := (pk ((m ++ [bitOf x]).take 10) : Int)) ?_ (.now' ?_)))
    · refine .iff (fun h => ?_) (fun h => .now' ?_)
      · have hlt : pk m < 2 ^ i := by rw [← hlen]; exact pk_lt m (by rw [hm]; exact bits_ok _)
        refine .val (a := shlI .i64 (bitOf x : Int) (i : Int)) ?_ (.now' ?_)
        · rw [if_neg (by omega), (bit_and x).1]
        · rw [List.take_of_length_le (show m.length ≤ 10 by omega), add_bit hlt (bit_and x).2 (by omega), List.take_of_length_le (by rw [List.length_append]; simp; omega), pk_snoc, hlen]
      · rw [List.take_append_of_le_length (by omega)]
    · rw [w64_id (by omega) (by omega)]
  · rw [hm, take_snoc hx, List.map_append]; rfl
  · simp only [First91.l0, hl]
    exact .no (by simp) (.now _)

/-- the first fault of a list -/
def firstE {α : Type} (f : α → Int) : List α → Int
  | [] => 0
  | x :: l => if f x ≠ 0 then f x else firstE f l
theorem walk_first {α R : Type} (f : α → Int) (mk : Int → R) (fin : R) : ∀ (l : List α), walk (fun (_ : Unit) x => if f x ≠ 0 then (.inr (mk (f x)) : Unit ⊕ R) else .inl ()) (fun _ => fin) l () = if firstE f l ≠ 0 then mk (firstE f l) else fin
  | [] => rfl
  | x :: l => by
    rw [walk_cons]
    unfold firstE
    by_cases h : f x ≠ 0
    · rw [if_pos h, if_pos h, if_pos h]
    · rw [if_neg h, if_neg h]
      exact walk_first f mk fin l
theorem firstE_zero {α : Type} {f : α → Int} : ∀ {l : List α}, firstE f l = 0 → ∀ x ∈ l, f x = 0
  | y :: l, h, x, hx => by
    unfold firstE at h
    by_cases h0 : f y ≠ 0
    · rw [if_pos h0] at h; exact absurd h h0
    · rw [if_neg h0] at h
      rcases List.mem_cons.1 hx with rfl | hx
      · omega
      · exact firstE_zero h x hx

abbrev Tab := Int × (Int × List (List (Int × Int)))
def largeT (t : Tab) : Bool := decide (t.1 < 0 ∨ t.1 > 4 ∨ t.2.1 < 0 ∨ t.2.1 > 10 ∨ t.2.2.length > 64)
def cellE (t : Tab) (r : Int × Int) : Int := if r.1 < 0 ∨ r.1 ≥ ((2 ^ t.2.1.toNat : Nat) : Int) then 1 else if r.2 < 0 ∨ r.2 ≥ (t.2.2.length : Int) then 4 else 0
def rowE (t : Tab) (l : List (Int × Int)) : Int := if l.length ≠ 2 ^ t.1.toNat then 3 else firstE (cellE t) l
def tfault (t : Tab) : Int := if largeT t then 2 else if t.2.2.length = 0 then 13 else firstE (rowE t) t.2.2
theorem largeT_or (t : Tab) : cond (cond (cond (cond (decide (t.1 < 0)) true (decide (t.1 > 4))) true (decide (t.2.1 < 0))) true (decide (t.2.1 > 10))) true (decide ((List.length t.2.2 : Int) > 64)) = largeT t := by
  have e : ∀ a b : Bool, cond a true b = (a || b) := fun a b => by cases a <;> rfl
  simp only [e, largeT, ← Bool.decide_or]
  exact decide_eq_decide.2 (by omega)
structure SmallT (t : Tab) : Prop where
  ins : 0 ≤ t.1 ∧ t.1 ≤ 4
  outs : 0 ≤ t.2.1 ∧ t.2.1 ≤ 10
  rows : t.2.2.length ≤ 64
theorem smallT_of {t : Tab} (h : largeT t = false) : SmallT t := by
  unfold largeT at h
  have := of_decide_eq_false h
  exact ⟨by omega, by omega, by omega⟩
theorem pow_ins {n : Int} (h0 : 0 ≤ n) (h1 : n ≤ 4) : 2 ^ n.toNat ≤ 16 := by
  have : n.toNat ≤ 4 := by omega
  exact Nat.le_trans (Nat.pow_le_pow_right (by decide) this) (by decide)
theorem shl_one {n : Int} (h0 : 0 ≤ n) (h1 : n ≤ 60) : shlI .i64 1 n = ((2 ^ n.toNat : Nat) : Int) := by
  obtain ⟨j, hj⟩ : ∃ j : Nat, n = (j : Int) := ⟨n.toNat, by omega⟩
  rw [hj, shlI_one (by omega), Int.toNat_natCast]
theorem shr_ne {x n : Int} (hx : 0 ≤ x) (h0 : 0 ≤ n) (h1 : n ≤ 60) : (shrI .i64 x n != 0) = decide (x ≥ ((2 ^ n.toNat : Nat) : Int)) := by
  obtain ⟨j, hj⟩ : ∃ j : Nat, n = (j : Int) := ⟨n.toNat, by omega⟩
  obtain ⟨a, ha⟩ : ∃ a : Nat, x = (a : Int) := ⟨x.toNat, by omega⟩
  rw [hj, ha, shrI_nat (by omega), Int.toNat_natCast, Bool.eq_iff_iff, bne_iff_ne, decide_eq_true_iff]
  have h := Nat.div_eq_zero_iff_lt (Nat.two_pow_pos j) (x := a)
  constructor
  · intro hn
    have : ¬ a < 2 ^ j := fun hl => hn (by rw [h.2 hl]; rfl)
    omega
  · intro hn he
    have : a / 2 ^ j = 0 := by omega
    have := h.1 this
    omega

theorem tf_cell (t : Tab) (hs : SmallT t) (l : List (Int × Int)) (hl : l.length ≤ 1000) : Lp (fun k => TableFault9.l0 k l) (t, 0) (if firstE (cellE t) l ≠ 0 then .inr (.inr (.inr (firstE (cellE t) l, ()))) else .inl t) := by
  rw [← walk_first (R := Tab ⊕ ((Tab × Int) ⊕ (Unit ⊕ (Int × Unit)))) (cellE t) (fun e => .inr (.inr (.inr (e, ())))) (.inl t)]
  refine Lp.walk (body := fun k => TableFault9.l0 k l) l (fun (_ : Unit) i => (t, i)) _ _ (fun _ _ => True) (fun i x b hx _ => ⟨?_, fun _ _ => trivial⟩) (fun b _ => ?_) (b := ()) trivial
  · have hi := get_lt hx
    obtain ⟨o0, o1⟩ := hs.outs
    have hr := hs.rows
    simp only [TableFault9.l0]
    refine .yes (decide_eq_true (by omega)) (.val (rd_some' hx) (.bind (a := decide (x.1 < 0 ∨ x.1 ≥ ((2 ^ t.2.1.toNat : Nat) : Int))) ?_ ?_))
    · refine .iff (fun h => .now' (by rw [decide_eq_true (.inl h)])) (fun h => .val (a := shrI .i64 x.1 t.2.1) (if_neg (by omega)) (.now' ?_))
      rw [shr_ne (by omega) o0 (by omega)]
      exact decide_eq_decide.2 (by omega)
    · unfold cellE
      refine .iff (fun h => .now' (by simp only [if_pos h]; rfl)) (fun h => ?_)
      simp only [if_neg h]
      have e : cond (decide (x.2 < 0)) true (decide (x.2 > w64 ((List.length t.2.2 : Int) - 1))) = decide (x.2 < 0 ∨ x.2 ≥ (t.2.2.length : Int)) := by
        rw [w64_id (by omega) (by omega)]
        by_cases h0 : x.2 < 0
        · simp [h0]
        · simp only [decide_eq_false h0, cond_false]
          exact decide_eq_decide.2 (by omega)
      rw [e]
      refine .iff (fun h => .now' (by simp only [if_pos h]; rfl)) (fun h => .now' ?_)
      simp only [if_neg h]
      rw [w64_id (by omega) (by omega)]; rfl
  · simp only [TableFault9.l0]
    exact .no (by simp) (.now _)
theorem tc_cell (t : Tab) (hs : SmallT t) (l : List (Int × Int)) (hl : l.length ≤ 1000) : Lp (fun k => Check13.l0 k l) (t, 0) (if firstE (cellE t) l ≠ 0 then .inr (.inr (.inr (firstE (cellE t) l, ()))) else .inl t) := by
  rw [← walk_first (R := Tab ⊕ ((Tab × Int) ⊕ (Unit ⊕ (Int × Unit)))) (cellE t) (fun e => .inr (.inr (.inr (e, ())))) (.inl t)]
  refine Lp.walk (body := fun k => Check13.l0 k l) l (fun (_ : Unit) i => (t, i)) _ _ (fun _ _ => True) (fun i x b hx _ => ⟨?_, fun _ _ => trivial⟩) (fun b _ => ?_) (b := ()) trivial
  · have hi := get_lt hx
    obtain ⟨o0, o1⟩ := hs.outs
    have hr := hs.rows
    simp only [Check13.l0]
    refine .yes (decide_eq_true (by omega)) (.val (rd_some' hx) (.bind (a := decide (x.1 < 0 ∨ x.1 ≥ ((2 ^ t.2.1.toNat : Nat) : Int))) ?_ ?_))
    · refine .iff (fun h => .now' (by rw [decide_eq_true (.inl h)])) (fun h => .val (a := ((2 ^ t.2.1.toNat : Nat) : Int)) (by rw [if_neg (by omega), shl_one o0 (by omega)]) (.now' ?_))
      exact decide_eq_decide.2 (by omega)
    · unfold cellE
      refine .iff (fun h => .now' (by simp only [if_pos h]; rfl)) (fun h => ?_)
      simp only [if_neg h]
      have e : cond (decide (x.2 < 0)) true (decide (x.2 ≥ (List.length t.2.2 : Int))) = decide (x.2 < 0 ∨ x.2 ≥ (t.2.2.length : Int)) := by
        by_cases h0 : x.2 < 0
        · simp [h0]
        · simp only [decide_eq_false h0, cond_false]
          exact decide_eq_decide.2 (by omega)
      rw [e]
      refine .iff (fun h => .now' (by simp only [if_pos h]; rfl)) (fun h => .now' ?_)
      simp only [if_neg h]
      rw [w64_id (by omega) (by omega)]; rfl
  · simp only [Check13.l0]
    exact .no (by simp) (.now _)
theorem two_at {n : Int} (h0 : 0 ≤ n) (h1 : n ≤ 4) : rd ([1, 2, 4, 8, 16] : List Int) n = some ((2 ^ n.toNat : Nat) : Int) := by
  have : n = 0 ∨ n = 1 ∨ n = 2 ∨ n = 3 ∨ n = 4 := by omega
  rcases this with rfl | rfl | rfl | rfl | rfl <;> rfl
theorem ne_pow {l : List (Int × Int)} {n : Nat} : ((List.length l : Int) != (n : Int)) = decide (l.length ≠ n) := by
  rw [Bool.eq_iff_iff, bne_iff_ne, decide_eq_true_iff]; omega
theorem tf_rows (t : Tab) (hs : SmallT t) : Lp (fun k => TableFault9.l1 k t) (t, 0) (if firstE (rowE t) t.2.2 ≠ 0 then .inr (firstE (rowE t) t.2.2, ()) else .inl ()) := by
  rw [← walk_first (R := Unit ⊕ (Int × Unit)) (rowE t) (fun e => .inr (e, ())) (.inl ())]
  refine Lp.walk (body := fun k => TableFault9.l1 k t) t.2.2 (fun (_ : Unit) i => (t, i)) _ _ (fun _ _ => True) (fun i x b hx _ => ⟨?_, fun _ _ => trivial⟩) (fun b _ => ?_) (b := ()) trivial
  · have hi := get_lt hx
    obtain ⟨o0, o1⟩ := hs.ins
    have hr := hs.rows
    have h16 := pow_ins o0 o1
    simp only [TableFault9.l1]
    refine .yes (decide_eq_true (by omega)) (.val (rd_some' hx) (.val (two_at o0 o1) (.val (two_at o0 o1) ?_)))
    rw [ne_pow]
    unfold rowE
    refine .iff (fun h => .now' (by simp only [if_pos h]; rfl)) (fun h => ?_)
    simp only [if_neg h]
    have hc := tf_cell t hs x (by omega)
    by_cases h2 : firstE (cellE t) x ≠ 0
    · rw [if_pos h2] at hc
      simp only [if_pos h2]
      exact .joinR hc.ev
    · rw [if_neg h2] at hc
      simp only [if_neg h2]
      exact .joinL (S := Unit) hc.ev (.now' (by rw [w64_id (by omega) (by omega)]))
  · simp only [TableFault9.l1]
    exact .no (by simp) (.now _)
theorem tc_rows (t : Tab) (hs : SmallT t) : Lp (fun k => Check13.l1 k t) (t, 0) (if firstE (rowE t) t.2.2 ≠ 0 then .inr (firstE (rowE t) t.2.2, ()) else .inl ()) := by
  rw [← walk_first (R := Unit ⊕ (Int × Unit)) (rowE t) (fun e => .inr (e, ())) (.inl ())]
  refine Lp.walk (body := fun k => Check13.l1 k t) t.2.2 (fun (_ : Unit) i => (t, i)) _ _ (fun _ _ => True) (fun i x b hx _ => ⟨?_, fun _ _ => trivial⟩) (fun b _ => ?_) (b := ()) trivial
  · have hi := get_lt hx
    obtain ⟨o0, o1⟩ := hs.ins
    have hr := hs.rows
    have h16 := pow_ins o0 o1
    simp only [Check13.l1]
    refine .yes (decide_eq_true (by omega)) (.val (rd_some' hx) (.val (a := ((2 ^ t.1.toNat : Nat) : Int)) (by rw [if_neg (by omega), shl_one o0 (by omega)]) ?_))
    rw [ne_pow]
    unfold rowE
    refine .iff (fun h => .now' (by simp only [if_pos h]; rfl)) (fun h => ?_)
    simp only [if_neg h]
    have hc := tc_cell t hs x (by omega)
    by_cases h2 : firstE (cellE t) x ≠ 0
    · rw [if_pos h2] at hc
      simp only [if_pos h2]
      exact .joinR hc.ev
    · rw [if_neg h2] at hc
      simp only [if_neg h2]
      exact .joinL (S := Unit) hc.ev (.now' (by rw [w64_id (by omega) (by omega)]))
  · simp only [Check13.l1]
    exact .no (by simp) (.now _)
theorem zero_len (t : Tab) : ((List.length t.2.2 : Int) == 0) = decide (t.2.2.length = 0) := by
  rw [Bool.eq_iff_iff, beq_iff_eq, decide_eq_true_iff]; omega
theorem tfault_ev (t : Tab) : Ev (fun k => TableFault9 k t) (tfault t, ()) := by
  unfold TableFault9 tfault
  rw [largeT_or]
  refine .cnd (fun h => .now' (by rw [if_pos h])) (fun h => ?_)
  have hs := smallT_of h
  rw [h, if_neg (by simp), zero_len]
  refine .iff (fun h => .now' (by rw [if_pos h])) (fun h => ?_)
  rw [if_neg h]
  have hr := tf_rows t hs
  by_cases h2 : firstE (rowE t) t.2.2 ≠ 0
  · rw [if_pos h2] at hr
    exact .joinR hr.ev
  · rw [if_neg h2] at hr
    exact .joinL (S := Unit) (a := ()) hr.ev (.now' (by rw [show firstE (rowE t) t.2.2 = 0 by omega]))
theorem tcheck_ev (t : Tab) : Ev (fun k => Check13 k t) (tfault t, ()) := by
  unfold Check13 tfault
  rw [largeT_or]
  refine .cnd (fun h => .now' (by rw [if_pos h])) (fun h => ?_)
  have hs := smallT_of h
  rw [h, if_neg (by simp), zero_len]
  refine .iff (fun h => .now' (by rw [if_pos h])) (fun h => ?_)
  rw [if_neg h]
  have hr := tc_rows t hs
  by_cases h2 : firstE (rowE t) t.2.2 ≠ 0
  · rw [if_pos h2] at hr
    exact .joinR hr.ev
  · rw [if_neg h2] at hr
    exact .joinL (S := Unit) (a := ()) hr.ev (.now' (by rw [show firstE (rowE t) t.2.2 = 0 by omega]))

/-- a right table -/
structure RightT (t : Tab) : Prop extends SmallT t where
  some : 0 < t.2.2.length
  row : ∀ l ∈ t.2.2, l.length = 2 ^ t.1.toNat
  cell : ∀ l ∈ t.2.2, ∀ r ∈ l, 0 ≤ r.1 ∧ r.1 < ((2 ^ t.2.1.toNat : Nat) : Int) ∧ 0 ≤ r.2 ∧ r.2 < (t.2.2.length : Int)
theorem rightT_of {t : Tab} (h : tfault t = 0) : RightT t := by
  unfold tfault at h
  split at h
  · omega
  rename_i hl
  split at h
  · omega
  rename_i h0
  have hs := smallT_of (t := t) (by simpa using hl)
  have hrow : ∀ l ∈ t.2.2, l.length = 2 ^ t.1.toNat ∧ firstE (cellE t) l = 0 := by
    intro l hm
    have := firstE_zero h l hm
    unfold rowE at this
    split at this
    · omega
    · rename_i h1; exact ⟨by omega, this⟩
  refine ⟨hs, by omega, fun l hm => (hrow l hm).1, fun l hm r hr => ?_⟩
  have := firstE_zero (hrow l hm).2 r hr
  unfold cellE at this
  split at this
  · omega
  split at this <;> omega

def pfault (c : Cir) (t : Tab) : Int := if fault c ≠ 0 then fault c else if tfault t ≠ 0 then tfault t else if c.1 ≠ t.1 ∨ (c.2.2.1.length : Int) ≠ t.2.1 then 8 else 0
theorem ne_or (c : Cir) (t : Tab) : cond (c.1 != t.1) true ((List.length c.2.2.1 : Int) != t.2.1) = decide (c.1 ≠ t.1 ∨ (c.2.2.1.length : Int) ≠ t.2.1) := by
  by_cases h : c.1 = t.1
  · have : (c.1 != t.1) = false := by simp [h]
    rw [this, Bool.eq_iff_iff, decide_eq_true_iff]
    simp [h]
  · have : (c.1 != t.1) = true := by simp [h]
    rw [this]
    simp [h]
theorem pair_ev (c : Cir) (t : Tab) (hw : ∀ x ∈ c.2.2.2.2, -9223372036854775808 ≤ x ∧ x ≤ 9223372036854775807) : Ev (fun k => pairFault44 k c t) (pfault c t, ()) := by
  unfold pairFault44 pfault
  refine .bind (cfault_ev c hw) (.bind (a := (c, t, if fault c ≠ 0 then fault c else tfault t)) ?_ (.bind (a := pfault c t) ?_ (.now _)))
  · by_cases h : fault c ≠ 0
    · rw [if_pos h]
      exact .no (by simpa using h) (.now _)
    · rw [if_neg h]
      exact .yes (by simpa using h) (.bind (tfault_ev t) (.now _))
  · unfold pfault
    by_cases h : fault c ≠ 0
    · rw [if_pos h, if_pos h]
      have e : (fault c == 0) = false := by simpa using h
      simp only [e, cond_false]
      exact .now _
    · rw [if_neg h, if_neg h]
      by_cases h2 : tfault t ≠ 0
      · rw [if_pos h2]
        have e : (tfault t == 0) = false := by simpa using h2
        simp only [e, cond_false]
        exact .now _
      · rw [if_neg h2]
        have e : tfault t = 0 := by omega
        simp only [e, ne_or]
        refine .cnd (fun h => .now' ?_) (fun h => .now' ?_)
        · have h : decide (c.1 ≠ t.1 ∨ (c.2.2.1.length : Int) ≠ t.2.1) = true := h
          rw [if_pos (of_decide_eq_true h)]
        · have h : decide (c.1 ≠ t.1 ∨ (c.2.2.1.length : Int) ≠ t.2.1) = false := h
          rw [if_neg (of_decide_eq_false h)]
theorem check2_ev (c : Cir) (t : Tab) : Ev (fun k => Check47 k c t) (pfault c t, ()) := by
  unfold Check47 pfault
  refine .bind (check_ev c) ?_
  by_cases h : fault c ≠ 0
  · rw [if_pos h]
    exact .yes (bne_iff_ne.2 h) (.now _)
  · rw [if_neg h]
    refine .no (by simpa using h) (.bind (tcheck_ev t) ?_)
    by_cases h2 : tfault t ≠ 0
    · rw [if_pos h2]
      exact .yes (bne_iff_ne.2 h2) (.now _)
    · rw [if_neg h2]
      refine .no (by simpa using h2) ?_
      simp only [ne_or]
      exact .iff (fun h => .now' (by rw [if_pos h])) (fun h => .now' (by rw [if_neg h]))
theorem pfault_zero {c : Cir} {t : Tab} (h : pfault c t = 0) : fault c = 0 ∧ RightT t ∧ c.1 = t.1 ∧ (c.2.2.1.length : Int) = t.2.1 := by
  unfold pfault at h
  split at h
  · omega
  split at h
  · omega
  rename_i h1 h2
  split at h
  · omega
  rename_i h3
  refine ⟨by omega, rightT_of (by omega), ?_, ?_⟩
  · exact Decidable.byContradiction fun hn => h3 (.inl hn)
  · exact Decidable.byContradiction fun hn => h3 (.inr hn)
theorem init_len {c : Cir} (h : fault c = 0) : c.2.2.2.2.length ≤ 10 := by
  unfold fault at h
  split at h
  · omega
  rename_i hl
  obtain ⟨s0, s1, s2, s3, s4⟩ := small_of (c := c) (by simpa using hl)
  split at h
  · omega
  rename_i h2
  have : c.2.2.2.2.length = c.2.2.2.1.length := Decidable.byContradiction fun hn => h2 hn
  omega
def outN (c : Cir) (st inn : Int) : Nat := pk (line c st inn c.2.2.1)
def nxtN (c : Cir) (st inn : Int) : Nat := pk (line c st inn c.2.2.2.1)
theorem step16_ev {c : Cir} (hf : fault c = 0) (st inn : Int) : Ev (fun k => Step113 k c st inn) (((outN c st inn : Int), (nxtN c st inn : Int), ()), ()) := by
  unfold Step113
  have hR := right_of c hf
  refine .bind (check_ev c) (.no (by rw [hf]; rfl) (.bind (values_ev hR st inn) (.bind (bits_ev hR st inn _ hR.outs) (.bind (bits_ev hR st inn _ hR.next) (.now _)))))
end Go.Proofs.Ytofendipdfepoaa.Ef

/- What an argument of a law reads as, kind by kind. -/
set_option linter.unusedVariables false
noncomputable section
namespace Go.Proofs.Ytofendipdfepoaa.Gp
open Go Go.ChangeShapes Go.WideShapes Go.RowKit

/-- the input's memory, all of it frozen -/
def memH (W : World) : Hp := fun b => W.heap[b]?

structure Gd (P : Program) (t : TypeId) (k : K) (wf : k.den → Prop) (siz : k.den → Nat) : Prop where
  cells : P.cellsOf t = k.w
  one : k.one = true
  pur : k.pur = true
  val : ∀ {W : World} {r : Reach} {base : Nat} {v : Value}, Value.okWide P W r base t v → v = k.mk v.cells.toList
  read : ∀ {H : Type} {enc : TypeId × Value → H} {W : World} {base : Nat} {spare : Nat → Bool} {held : Bool} {fuel : Nat} {cs : List Value} {x : DataW H × List MemPlace},
    DataW.trod enc P W base spare held fuel t cs = some x → (∀ n ∈ x.1.weights P t, n ≤ reachBytes) → ∃ y, (∀ L, Lv (memH W) L k y cs) ∧ wf y ∧ siz y ≤ Rows.uptoBulk x.1

variable {P : Program}

theorem gd_int {t : TypeId} {k : IntKind} (hu : P.underlying t = some (.int k)) (hc : P.cellsOf t = 1) : Gd P t (.int k) (fun (y : Int) => (Lit.int k y).wf = true) (fun _ => 1) :=
  ⟨hc, rfl, rfl, fun h => by obtain ⟨n, rfl⟩ := okWide_int hu h; rfl, fun h _ => by
    obtain ⟨n, rfl, rfl, hw⟩ := DataW.trod_int hu h
    exact ⟨n, fun _ => rfl, hw, by simp [Rows.uptoBulk]⟩⟩
theorem weights_all {H : Type} {e : TypeId} {n : Nat} : ∀ {l : List (DataW H)} {d : DataW H}, d ∈ l → n ∈ d.weights P e → n ∈ DataW.weightsAll P e l
  | x :: r, d, hd, hn => by
    rw [DataW.weightsAll]
    rcases List.mem_cons.1 hd with rfl | hd
    · exact List.mem_append_left _ hn
    · exact List.mem_append_right _ (weights_all hd hn)
theorem buildL {α : Type} {H : Type} {wf : α → Prop} {siz : α → Nat} : ∀ (es : List (DataW H × List MemPlace)) (p : Nat → α → Prop),
    (∀ i x, es[i]? = some x → ∃ y, p i y ∧ wf y ∧ siz y ≤ Rows.uptoBulk x.1) →
    ∃ ys : List α, ys.length = es.length ∧ (∀ j y, ys[j]? = some y → p j y ∧ wf y) ∧ (ys.map siz).sum ≤ Rows.uptoBulkAll (es.map (·.1))
  | [], _, _ => ⟨[], rfl, fun j y h => by simp at h, by simp⟩
  | x :: r, p, h => by
    obtain ⟨y, hp, hw, hs⟩ := h 0 x rfl
    obtain ⟨ys, hl, hy, hsum⟩ := buildL r (fun i => p (i + 1)) (fun i x hx => h (i + 1) x (by simpa using hx))
    refine ⟨y :: ys, by simp [hl], fun j z hz => ?_, ?_⟩
    · cases j with
      | zero => simp only [List.getElem?_cons_zero, Option.some.injEq] at hz; subst hz; exact ⟨hp, hw⟩
      | succ j => exact hy j z (by simpa using hz)
    · simp only [List.map_cons, List.sum_cons, Rows.uptoBulkAll]
      omega

def sizL {α : Type} (siz : α → Nat) (l : List α) : Nat := (l.map siz).sum + 1
def wfL {α : Type} (B : Nat) (wf : α → Prop) (l : List α) : Prop := l.length * B ≤ 140737488351232 ∧ ∀ y ∈ l, wf y

theorem LvL_mk {α : Type} {R : α → List Value → Prop} {w : Nat} {C : List Value} : ∀ {ys : List α} {o : Nat}, (∀ j y, ys[j]? = some y → ∃ c : List Value, c.length = w ∧ R y c ∧ ∀ i u, c[i]? = some u → C[o + (j * w + i)]? = some u) →
    LvL R ys ((C.drop o).take (ys.length * w))
  | [], o, h => by simp [LvL]
  | y :: ys, o, h => by
    obtain ⟨c, hc, hr, hu⟩ := h 0 y rfl
    have e : (C.drop o).take w = c := by
      apply List.ext_getElem?
      intro i
      rw [cut_get]
      by_cases hi : i < w
      · rw [if_pos hi]
        have hi' : i < c.length := by omega
        have := hu i c[i] (List.getElem?_eq_getElem hi')
        rw [Nat.zero_mul, Nat.zero_add] at this
        rw [this, List.getElem?_eq_getElem hi']
      · rw [if_neg hi, List.getElem?_eq_none (by omega)]
    refine ⟨c, (C.drop (o + w)).take (ys.length * w), ?_, hr, LvL_mk (fun j z hz => ?_)⟩
    · rw [List.length_cons, Nat.add_mul, Nat.one_mul, Nat.add_comm (ys.length * w) w, List.take_add, e, List.drop_drop]
    · obtain ⟨c', h1, h2, h3⟩ := h (j + 1) z hz
      refine ⟨c', h1, h2, fun i u hi => ?_⟩
      have := h3 i u hi
      rw [Nat.add_mul, Nat.one_mul] at this
      rw [show o + w + (j * w + i) = o + (j * w + w + i) by omega]
      exact this

theorem gd_sl {t e : TypeId} {k : K} {wf : k.den → Prop} {siz : k.den → Nat} {B : Nat} (hu : P.underlying t = some (.slice e)) (hc : P.cellsOf t = 1) (hB : P.bytesOf e = B) (hk : 0 < k.w) (r : Gd P e k wf siz) :
    Gd P t (.sl k) (wfL (α := k.den) B wf) (sizL (α := k.den) siz) :=
  ⟨hc, rfl, r.pur, fun h => by obtain ⟨a, len, cap, rfl⟩ := okWide_slice hu h; rfl, fun {H enc W base spare held fuel cs x} h hw => by
    rcases DataW.trod_slice hu h with ⟨rfl, rfl⟩ | ⟨a, len, cap, elems, rest, n, _, rfl, rfl, hb, hl, hm, hlen, hel, _, _⟩
    · exact ⟨([] : List k.den), fun L => ⟨r.pur, none, 0, rfl, Nat.le_refl _, fun hn => absurd rfl hn⟩, ⟨by simp, fun y hy => by simp at hy⟩, by simp [sizL, Rows.uptoBulk]⟩
    · simp only [DataW.weights, hu] at hw
      have hw1 : (elems.length + rest.length) * B ≤ 140737488351232 := by
        have := hw ((elems.length + rest.length) * B) (by simp [hB])
        exact this
      obtain ⟨ys, hyl, hyp, hys⟩ := buildL (wf := wf) (siz := siz) elems (fun i y => ∃ c : List Value, c.length = k.w ∧ (∀ L, Lv (memH W) L k y c) ∧ ∀ j u, c[j]? = some u → W.cell? (a.add (i * k.w + j)) = some u) (fun i z hz => by
        have hi : i < len := by
          have := (List.getElem?_eq_some_iff.1 hz).1
          omega
        have h1 := hel i hi
        rw [hz] at h1
        obtain ⟨c, hc1, hc2⟩ := Option.bind_eq_some_iff.1 h1
        obtain ⟨y, hK, hwf, hsz⟩ := r.read hc2 (fun q hq => hw q (List.mem_cons_of_mem _ (List.mem_append_left _ (weights_all (List.mem_map.2 ⟨z, List.mem_of_getElem? hz, rfl⟩) hq))))
        obtain ⟨_, hcl, hcell⟩ := World.cells?_some hc1
        refine ⟨y, ⟨c, Lv_len (hK default), hK, fun j u hu => ?_⟩, hwf, hsz⟩
        have hj : j < P.cellsOf e := by
          have := (List.getElem?_eq_some_iff.1 hu).1
          omega
        have h3 := hcell j hj
        rw [Go.Deep.add_add, r.cells] at h3
        rw [h3]
        exact hu)
      refine ⟨ys, fun L => ⟨r.pur, some a, cap, by rw [hyl, hlen], by omega, fun hn => ?_⟩, ⟨?_, fun y hy => ?_⟩, ?_⟩
      · have hn : ys.length ≠ 0 := hn
        obtain ⟨y, hy⟩ : ∃ y, ys[0]? = some y := ⟨ys[0]'(by omega), List.getElem?_eq_getElem (by omega)⟩
        obtain ⟨c, c1, c2, c3⟩ := (hyp 0 y hy).1
        obtain ⟨u, hu0⟩ : ∃ u, c[0]? = some u := ⟨c[0]'(by omega), List.getElem?_eq_getElem (by omega)⟩
        have hcell := c3 0 u hu0
        rw [Nat.zero_mul, Nat.zero_add, show a.add 0 = a from rfl] at hcell
        unfold World.cell? at hcell
        split at hcell
        · rename_i C ee zz hblk
          split at hcell
          · cases hcell
          · rename_i hsp
            have hsp : a.spot = none := by cases hs : a.spot with | none => rfl | some q => rw [hs] at hsp; exact absurd rfl hsp
            refine ⟨a.block, a.off, C, ee, zz, by cases a; simp only at hsp; rw [hsp], hblk, LvL_mk (C := C.toList) (fun j y hy => ?_)⟩
            obtain ⟨c, c1, c2, c3⟩ := (hyp j y hy).1
            refine ⟨c, c1, c2 L, fun i u hi => ?_⟩
            have h5 := c3 i u hi
            have hadd : (a.add (j * k.w + i)).block = a.block ∧ (a.add (j * k.w + i)).off = a.off + (j * k.w + i) ∧ (a.add (j * k.w + i)).spot = none := by
              unfold Addr.add
              split
              · rename_i h0; exact ⟨rfl, by omega, hsp⟩
              · exact ⟨rfl, rfl, rfl⟩
            unfold World.cell? at h5
            rw [hadd.1, hblk, hadd.2.1, hadd.2.2] at h5
            rw [Array.getElem?_toList]
            exact h5
        · cases hcell
      · rw [hyl]
        exact Nat.le_trans (Nat.mul_le_mul_right _ (Nat.le_add_right _ _)) hw1
      · obtain ⟨j, hj⟩ := List.mem_iff_getElem?.1 hy
        exact (hyp j y hj).2
      · simp only [sizL, Rows.uptoBulk]
        omega⟩

/-- fields in line, from cell 'off' on -/
structure GdF (P : Program) (off : Nat) (fs : List Field) (k : K) (wf : k.den → Prop) (siz : k.den → Nat) : Prop where
  pur : k.pur = true
  read : ∀ {H : Type} {enc : TypeId × Value → H} {W : World} {base : Nat} {spare : Nat → Bool} {held : Bool} {fuel : Nat} {cs : List Value} {xs : List (DataW H × List MemPlace)},
    cs.length = off + k.w → xs.length = fs.length →
    (∀ (i : Nat) (f : Field), fs[i]? = some f → DataW.trod enc P W base spare held fuel f.type ((cs.drop f.offset).take (P.cellsOf f.type)) = xs[i]?) →
    (∀ n ∈ DataW.weightsEach P (fs.map (·.type)) (xs.map (·.1)), n ≤ reachBytes) →
    ∃ y, (∀ L, Lv (memH W) L k y (cs.drop off)) ∧ wf y ∧ siz y ≤ Rows.uptoBulkAll (xs.map (·.1))

theorem gdf_cons {off : Nat} {f : Field} {fs : List Field} {k k' : K} {wf : k.den → Prop} {wf' : k'.den → Prop} {siz : k.den → Nat} {siz' : k'.den → Nat} (ho : f.offset = off) (r : Gd P f.type k wf siz)
    (rs : GdF P (off + k.w) fs k' wf' siz') : GdF P off (f :: fs) (.pair k k') (fun (y : k.den × k'.den) => wf y.1 ∧ wf' y.2) (fun (y : k.den × k'.den) => siz y.1 + siz' y.2) := by
  refine ⟨by simp only [K.pur, r.pur, rs.pur]; rfl, ?_⟩
  intro H enc W base spare held fuel cs xs hl hxl hx hw
  have hl' : cs.length = off + (k.w + k'.w) := hl
  match xs, hxl with
  | x :: xs, hxl =>
    have h := hx 0 f rfl
    rw [ho, r.cells] at h
    simp only [List.getElem?_cons_zero] at h
    obtain ⟨y, h1, h2, h3⟩ := r.read h (fun n hn => hw n (by simp [DataW.weightsEach, hn]))
    obtain ⟨z, g1, g2, g3⟩ := rs.read (enc := enc) (W := W) (base := base) (spare := spare) (held := held) (fuel := fuel) (cs := cs) (xs := xs) (by omega) (by simpa using hxl)
      (fun i g hg => by simpa using hx (i + 1) g (by simpa using hg)) (fun n hn => hw n (by simp only [List.map_cons, DataW.weightsEach]; exact List.mem_append_right _ hn))
    refine ⟨(y, z), fun L => ⟨(cs.drop off).take k.w, cs.drop (off + k.w), ?_, h1 L, g1 L⟩, ⟨h2, g2⟩, ?_⟩
    · rw [← List.drop_drop]
      exact (List.take_append_drop _ _).symm
    · simp only [List.map_cons, Rows.uptoBulkAll]
      omega
theorem gdf_one {off : Nat} {f : Field} {k : K} {wf : k.den → Prop} {siz : k.den → Nat} (ho : f.offset = off) (r : Gd P f.type k wf siz) : GdF P off [f] k wf siz := by
  refine ⟨r.pur, ?_⟩
  intro H enc W base spare held fuel cs xs hl hxl hx hw
  match xs, hxl with
  | [x], hxl =>
    have h := hx 0 f rfl
    rw [ho, r.cells] at h
    simp only [List.getElem?_cons_zero] at h
    have e : (cs.drop off).take k.w = cs.drop off := List.take_of_length_le (by rw [List.length_drop, hl]; omega)
    rw [e] at h
    obtain ⟨y, h1, h2, h3⟩ := r.read h (fun n hn => hw n (by simp [DataW.weightsEach, hn]))
    refine ⟨y, h1, h2, ?_⟩
    simp only [List.map_cons, List.map_nil, Rows.uptoBulkAll]
    omega
theorem gd_st {t : TypeId} {fs : Array Field} {k : K} {wf : k.den → Prop} {siz : k.den → Nat} (hu : P.underlying t = some (.struct fs)) (hc : P.cellsOf t = k.w) (r : GdF P 0 fs.toList k wf siz) : Gd P t (.st k) wf siz :=
  ⟨hc, rfl, r.pur, fun h => by
    simp only [Value.okWide, hu] at h
    obtain ⟨cs, rfl, _⟩ := h
    rfl, fun h hw => by
    obtain ⟨xs, n, _, rfl, hl, hxl, hx⟩ := DataW.trod_struct hu h
    obtain ⟨y, h1, h2, h3⟩ := r.read (by rw [hl, hc]; omega) (by rw [hxl]; simp) (fun i f hf => hx i f (by simpa using hf)) (fun n hn => hw n (by simp only [DataW.weights, hu]; exact hn))
    refine ⟨y, h1, h2, ?_⟩
    simp only [Rows.uptoBulk]
    omega⟩

/-- an argument -/
theorem Gd.arg {t : TypeId} {k : K} {wf : k.den → Prop} {siz : k.den → Nat} (r : Gd P t k wf siz) {H : Type} {enc : TypeId × Value → H} {W : World} {base : Nat} {spare : Nat → Bool} {held : Bool} {rr : Reach} {b2 : Nat} {v : Value} {x : DataW H} {ps : List MemPlace}
    (hval : Value.okWide P W rr b2 t v) (h : DataW.Trod enc P W base spare held t v x ps) (hw : ∀ n ∈ x.weights P t, n ≤ reachBytes) : ∃ y : k.den, (∀ L, SR (memH W) L ⟨k, y⟩ v) ∧ wf y ∧ siz y ≤ Rows.uptoBulk x := by
  obtain ⟨fuel, hf⟩ := h
  obtain ⟨y, h1, h2, h3⟩ := r.read hf hw
  refine ⟨y, fun L => ?_, h2, h3⟩
  rw [r.val hval]
  exact SR_mk (h1 L)

def noLoc : Ls := fun _ => default
theorem law_calls {fuel : Nat} {f : FuncId} {params : List K} {run : Nat → HL params → HL (List.map (·.toK) ([] : List OK)) → Option (K.bool.den × HL (List.map (·.toK) ([] : List OK)))} (hs : SoundAt P fuel ⟨f, params, [], .bool, [], [], run⟩) {ds : HL params}
    (hr : run fuel ds () = some (true, ())) {args : Array Value} {W : World} (hv : SRs (memH W) noLoc (unpackL params ds) args.toList) (hg : GH (memH W) := by exact GH.none _) : Calls P f args W (fun e W' => e = .returned (.bool true) ∧ Below W.heap.size W W') := by
  have hno : ∀ b, ¬ Own (assoc O.dead (objsFrom 0 ([] : List OK) ())) noLoc b := fun b ⟨i, hi, _⟩ => hi
  refine Calls.mono (hs.2 ds () (true, ()) hr args W (memH W) noLoc hv ⟨fun i => trivial, fun b o h => h, fun i hi => hi.elim, fun i j hi => hi.elim, hg⟩ (fun i hi => by cases hi)) fun e W' hh => ?_
  obtain ⟨v, H', L', rfl, h1, _, _, hp⟩ := hh
  have h1 : SR H' L' ⟨.bool, true⟩ v := h1
  refine ⟨by rw [bool_at h1], hp.fr.os, hp.fr.tape, hp.fr.output, hp.fr.size, fun b hb => hp.fr.same b hb (hno b)⟩
/-- The weights of one argument. -/
theorem weights_at {H : Type} {ts : List TypeId} {ds : List (DataW H)} (hsz : (DataW.weightsEach P ts ds).all (· ≤ reachBytes) = true) (j : Nat) {t : TypeId} {d : DataW H} (ht : ts[j]? = some t) (hd : ds[j]? = some d) :
    ∀ n ∈ d.weights P t, n ≤ reachBytes := fun n hn => by
  have := List.all_eq_true.1 hsz n (DataW.weights_mem_each ht hd n hn)
  simpa using this

end Go.Proofs.Ytofendipdfepoaa.Gp

/- Certificates of circuits and tables: the law. No program in sight. -/
set_option linter.unusedVariables false
noncomputable section
namespace Go.Proofs.Ytofendipdfepoaa.Ef
open Go Go.Proofs.Ytofendipdfepoaa.Gp

def p0 (p : List Int) : Int := p.getD 0 0
def p1 (p : List Int) : Int := p.getD 1 0
theorem rd_p0 {p : List Int} (h : p.length = 2) : rd p 0 = some (p0 p) := by
  match p, h with
  | [a, b], _ => rfl
theorem rd_p1 {p : List Int} (h : p.length = 2) : rd p 1 = some (p1 p) := by
  match p, h with
  | [a, b], _ => rfl
def BA (c : Cir) (p : List Int) : Prop := p0 p < 0 ∨ p0 p ≥ ((2 ^ c.2.2.2.1.length : Nat) : Int)
def BB (c : Cir) (p : List Int) : Prop := BA c p ∨ p1 p < 0
def BC (c : Cir) (t : Tab) (p : List Int) : Prop := BB c p ∨ p1 p ≥ (t.2.2.length : Int)
instance (c : Cir) (p : List Int) : Decidable (BA c p) := by unfold BA; infer_instance
instance (c : Cir) (p : List Int) : Decidable (BB c p) := by unfold BB; infer_instance
instance (c : Cir) (t : Tab) (p : List Int) : Decidable (BC c t p) := by unfold BC; infer_instance
theorem evA {c : Cir} {p : List Int} (hp : p.length = 2) (hn : c.2.2.2.1.length ≤ 10) : Ev (fun (_ : Nat) => cond (decide (p0 p < 0)) (some true) ((rd p 0).bind fun t34 => (if (List.length c.2.2.2.1 : Int) < 0 then none else some (shlI .i64 1 (List.length c.2.2.2.1 : Int))).bind fun t39 => some (decide (t34 ≥ t39)))) (decide (BA c p)) := by
  refine .iff (fun h => .now' (decide_eq_true (.inl h)).symm) (fun h => .val (rd_p0 hp) (.val (a := ((2 ^ c.2.2.2.1.length : Nat) : Int)) (by rw [if_neg (by omega), shlI_one (by omega)]) (.now' (decide_eq_decide.2 ?_))))
  unfold BA
  omega
theorem evB {c : Cir} {p : List Int} (hp : p.length = 2) : Ev (fun (_ : Nat) => cond (decide (BA c p)) (some true) ((rd p 1).bind fun t43 => some (decide (t43 < 0)))) (decide (BB c p)) := by
  refine .iff (fun h => .now' (decide_eq_true (.inl h)).symm) (fun h => .val (rd_p1 hp) (.now' (decide_eq_decide.2 ?_)))
  exact ⟨.inr, fun h2 => h2.resolve_left h⟩
theorem evC {c : Cir} {t : Tab} {p : List Int} (hp : p.length = 2) : Ev (fun (_ : Nat) => cond (decide (BB c p)) (some true) ((rd p 1).bind fun t48 => some (decide (t48 ≥ (List.length t.2.2 : Int))))) (decide (BC c t p)) := by
  refine .iff (fun h => .now' (decide_eq_true (.inl h)).symm) (fun h => .val (rd_p1 hp) (.now' (decide_eq_decide.2 ?_)))
  exact ⟨.inr, fun h2 => h2.resolve_left h⟩

theorem walk_firstS {α β R : Type} (f : α → Int) (mk : Int → R) (s : β → α → β) (fin : β → R) : ∀ (l : List α) (b : β), walk (fun b x => if f x ≠ 0 then (.inr (mk (f x)) : β ⊕ R) else .inl (s b x)) fin l b = if firstE f l ≠ 0 then mk (firstE f l) else fin (l.foldl s b)
  | [], b => rfl
  | x :: l, b => by
    rw [walk_cons]
    unfold firstE
    by_cases h : f x ≠ 0
    · rw [if_pos h, if_pos h, if_pos h]
    · rw [if_neg h, if_neg h]
      exact walk_firstS f mk s fin l (s b x)

abbrev HM := List (List Int × Bool)
def putM (m : HM) (p : List Int) : HM := mput (.arr 2 (.int .i64)) .bool m p true
def getM (m : HM) (p : List Int) : Option Bool := mget (.arr 2 (.int .i64)) .bool m p
theorem get_put (m : HM) (p q : List Int) : getM (putM m p) q = if q = p then some true else getM m q := by
  have := mget_mput (kk := .arr 2 (.int .i64)) (kv := .bool) rfl (l := m) (k := p) (k' := q) (v := true)
  refine Eq.trans this ?_
  by_cases h : q = p
  · rw [if_pos ((eqB_iff (k := .arr 2 (.int .i64)) rfl).2 h), if_pos h]
    rfl
  · rw [if_neg (fun e => h ((eqB_iff (k := .arr 2 (.int .i64)) rfl).1 e)), if_neg h]
    rfl
theorem get_all : ∀ (l : List (List Int)) (m : HM) (q : List Int), getM (l.foldl putM m) q = if q ∈ l then some true else getM m q
  | [], m, q => by rw [if_neg (by simp)]; rfl
  | p :: l, m, q => by
    rw [List.foldl_cons, get_all l, get_put]
    by_cases h : q ∈ l
    · rw [if_pos h, if_pos (List.mem_cons_of_mem _ h)]
    · rw [if_neg h]
      by_cases h2 : q = p
      · rw [if_pos h2, if_pos (by rw [h2]; exact List.mem_cons_self ..)]
      · rw [if_neg h2, if_neg (by simp [h, h2])]
theorem has_all (l : List (List Int)) (q : List Int) : Option.getD (α := Bool) (mget (.arr 2 (.int .i64)) .bool (l.foldl putM []) q) false = decide (q ∈ l) := by
  have h : Option.getD (α := Bool) (getM (l.foldl putM []) q) false = decide (q ∈ l) := by
    rw [get_all]
    by_cases h : q ∈ l
    · rw [if_pos h, decide_eq_true h]; rfl
    · rw [if_neg h, decide_eq_false h]; rfl
  exact h

/-- what is in a table -/
def cellAt (t : Tab) (s : Int) (i : Nat) : Int × Int := (t.2.2.getD s.toNat []).getD i (0, 0)
theorem cell_rd {t : Tab} (hT : RightT t) {s : Int} (h0 : 0 ≤ s) (h1 : s < (t.2.2.length : Int)) {i : Nat} (hi : i < 2 ^ t.1.toNat) : ∃ l, rd t.2.2 s = some l ∧ rd l (i : Int) = some (cellAt t s i) := by
  have hx : s.toNat < t.2.2.length := by omega
  refine ⟨t.2.2[s.toNat], rd_at (i := s.toNat) (by omega) (List.getElem?_eq_getElem hx), rd_some' ?_⟩
  have hl := hT.row _ (List.getElem_mem hx)
  unfold cellAt
  rw [List.getD_eq_getElem?_getD, List.getD_eq_getElem?_getD, List.getElem?_eq_getElem hx]
  simp only [Option.getD_some]
  rw [List.getElem?_eq_getElem (by omega)]
  rfl
def cellC (c : Cir) (t : Tab) (l : List (List Int)) (p : List Int) (i : Nat) : Int :=
  if (outN c (p0 p) i : Int) ≠ (cellAt t (p1 p) i).1 then 12 else if ([(nxtN c (p0 p) i : Int), (cellAt t (p1 p) i).2] : List Int) ∉ l then 13 else 0
/-- all is right so far -/
structure Good (c : Cir) (t : Tab) (l : List (List Int)) : Prop where
  fault : fault c = 0
  tab : RightT t
  ins : c.1 = t.1
  all : ∀ p ∈ l, ¬ BC c t p
theorem Good.in1 {c : Cir} {t : Tab} {l : List (List Int)} (h : Good c t l) {p : List Int} (hp : p ∈ l) : 0 ≤ p1 p ∧ p1 p < (t.2.2.length : Int) := by
  have := h.all p hp
  unfold BC BB at this
  omega
theorem step85_ev {c : Cir} {t : Tab} {l : List (List Int)} (hg : Good c t l) {p : List Int} (hp : p ∈ l) (h2 : p.length = 2) {i : Nat} (hi : i < 2 ^ t.1.toNat) :
    Ev (fun k => step83 k c t p (i : Int)) (((outN c (p0 p) i : Int), (cellAt t (p1 p) i).1, [(nxtN c (p0 p) i : Int), (cellAt t (p1 p) i).2], ()), ()) := by
  obtain ⟨a, b⟩ := hg.in1 hp
  obtain ⟨r, h3, h4⟩ := cell_rd hg.tab a b hi
  unfold step83
  exact .val (rd_p0 h2) (.bind (step16_ev hg.fault _ _) (.val (rd_p1 h2) (.val h3 (.val h4 (.now _)))))

-- contains
theorem contains_ev (l : List (List Int)) (v : List Int) (hl : l.length < 9223372036854775807) : Ev (fun k => Contains93 k l v) (decide (v ∈ l), ()) := by
  unfold Contains93
  have key : Ev (fun k => Index119 k l v) ((if v ∈ l then (l.findIdx (fun x => decide (v = x)) : Int) else -1), ()) := by
    unfold Index119
    have hw : ∀ (suf pre : List (List Int)), l = pre ++ suf → v ∉ pre → Lp (fun k => Index119.l0 k l) (v, (pre.length : Int)) (if v ∈ l then .inr ((l.findIdx (fun x => decide (v = x)) : Int), ()) else .inl ()) := by
      intro suf
      induction suf with
      | nil =>
        intro pre h hn
        rw [List.append_nil] at h
        subst h
        refine .done ?_
        simp only [Index119.l0]
        exact .no (by simp) (.now' (by rw [if_neg hn]))
      | cons x suf ih =>
        intro pre h hn
        have hx : l[pre.length]? = some x := by rw [h]; simp
        have hi := get_lt hx
        have e : (xor false (eqB (.arr 2 (.int .i64)) v x)) = decide (v = x) := by rw [Bool.false_xor, Bool.eq_iff_iff, decide_eq_true_iff]; exact eqB_iff (k := .arr 2 (.int .i64)) rfl
        by_cases hvx : v = x
        · refine .done ?_
          simp only [Index119.l0]
          refine .yes (decide_eq_true (by omega)) (.val (rd_some' hx) (.yes (e.trans (decide_eq_true hvx)) (.now' ?_)))
          have hm : v ∈ l := by rw [hvx]; exact get_mem hx
          have : l.findIdx (fun x => decide (v = x)) = pre.length := by
            rw [h, List.findIdx_append, List.findIdx_eq_length_of_false (fun y hy => by simp only [decide_eq_false_iff_not]; intro e; rw [e] at hn; exact hn hy), List.findIdx_cons]
            simp [hvx]
          rw [if_pos hm, this]
        · refine .step (s' := (v, ((pre ++ [x]).length : Int))) ?_ (ih (pre ++ [x]) (by rw [h]; simp) (by simp [hn, hvx]))
          simp only [Index119.l0]
          refine .yes (decide_eq_true (by omega)) (.val (rd_some' hx) (.no (e.trans (decide_eq_false hvx)) (.now' ?_)))
          rw [w64_id (by omega) (by omega)]
          simp
    have h0 := hw l [] rfl (by simp)
    by_cases hm : v ∈ l
    · rw [if_pos hm] at h0 ⊢
      exact .joinR h0.ev
    · rw [if_neg hm] at h0 ⊢
      exact .joinL (S := Unit) (a := ()) h0.ev (.now _)
  refine .bind key (.now' ?_)
  by_cases hm : v ∈ l
  · simp only [if_pos hm, decide_eq_true hm]
    rw [decide_eq_true (by omega)]
  · simp only [if_neg hm, decide_eq_false hm]
    rfl

-- Accept
def g4 (c : Cir) (t : Tab) (p : List Int) : Int := if BC c t p then 4 else 0
theorem acc_l0 {c : Cir} {t : Tab} {l : List (List Int)} (h2 : ∀ p ∈ l, p.length = 2) (hn : c.2.2.2.1.length ≤ 10) (hl : l.length < 9223372036854775807) :
    Lp (fun k => Accept51.l0 k l) (c, t, (), 0, []) (if firstE (g4 c t) l ≠ 0 then .inr (firstE (g4 c t) l, ()) else .inl (c, t, (), l.foldl putM [])) := by
  rw [← walk_firstS (R := (Cir × (Tab × (Unit × HM))) ⊕ (Int × Unit)) (g4 c t) (fun e => .inr (e, ())) putM (fun m => .inl (c, t, (), m))]
  refine Lp.walk (body := fun k => Accept51.l0 k l) l (fun (m : HM) i => (c, t, (), i, m)) _ _ (fun _ _ => True) (fun i p b hx _ => ⟨?_, fun _ _ => trivial⟩) (fun b _ => ?_) (b := []) trivial
  · have hi := get_lt hx
    have hp := h2 p (get_mem hx)
    simp only [Accept51.l0]
    refine .yes (decide_eq_true (by omega)) (.val (rd_some' hx) (.val (rd_p0 hp) (.bind (evA hp hn) (.bind (evB hp) (.bind (evC (t := t) hp) ?_)))))
    unfold g4
    refine .iff (fun h => .now' (by simp only [if_pos h]; rfl)) (fun h => .now' ?_)
    simp only [if_neg h]
    rw [w64_id (by omega) (by omega)]; rfl
  · simp only [Accept51.l0]
    exact .no (by simp) (.now _)
theorem acc_l1 {c : Cir} {t : Tab} {l : List (List Int)} (hg : Good c t l) {p : List Int} (hp : p ∈ l) (h2 : p.length = 2) :
    Lp (fun k => Accept51.l1 k ((2 ^ t.1.toNat : Nat) : Int)) (c, t, (), p, 0, l.foldl putM []) (if firstE (cellC c t l p) (List.range (2 ^ t.1.toNat)) ≠ 0 then .inr (.inr (.inr (firstE (cellC c t l p) (List.range (2 ^ t.1.toNat)), ()))) else .inl (c, t, (), l.foldl putM [])) := by
  have h16 := pow_ins hg.tab.ins.1 hg.tab.ins.2
  rw [← walk_first (R := (Cir × (Tab × (Unit × HM))) ⊕ ((Cir × (Tab × (Unit × (Int × HM)))) ⊕ (Unit ⊕ (Int × Unit)))) (cellC c t l p) (fun e => .inr (.inr (.inr (e, ())))) (.inl (c, t, (), l.foldl putM []))]
  refine Lp.walk (body := fun k => Accept51.l1 k ((2 ^ t.1.toNat : Nat) : Int)) (List.range (2 ^ t.1.toNat)) (fun (_ : Unit) i => (c, t, (), p, i, l.foldl putM [])) _ _ (fun _ _ => True) (fun i x b hx _ => ⟨?_, fun _ _ => trivial⟩) (fun b _ => ?_) (b := ()) trivial
  · obtain ⟨hi, hxi⟩ := List.getElem?_eq_some_iff.1 hx
    rw [List.getElem_range] at hxi
    rw [List.length_range] at hi
    subst hxi
    simp only [Accept51.l1]
    refine .yes (decide_eq_true (by omega)) (.bind (step85_ev hg hp h2 hi) ?_)
    unfold cellC
    by_cases e1 : (outN c (p0 p) i : Int) ≠ (cellAt t (p1 p) i).1
    · simp only [if_pos e1]
      exact .yes (bne_iff_ne.2 e1) (.now' rfl)
    · simp only [if_neg e1]
      refine .no (by simpa using e1) ?_
      by_cases e2 : ([(nxtN c (p0 p) i : Int), (cellAt t (p1 p) i).2] : List Int) ∉ l
      · simp only [if_pos e2]
        exact .yes ((congrArg not (has_all l _)).trans (by rw [decide_eq_false e2]; rfl)) (.now' rfl)
      · simp only [if_neg e2]
        refine .no ((congrArg not (has_all l _)).trans (by rw [decide_eq_true (by simpa using e2)]; rfl)) (.now' ?_)
        rw [w64_id (by omega) (by omega)]; rfl
  · simp only [Accept51.l1]
    exact .no (by simp) (.now _)
def runE (c : Cir) (t : Tab) (l : List (List Int)) (p : List Int) : Int := firstE (cellC c t l p) (List.range (2 ^ t.1.toNat))
theorem acc_l2 {c : Cir} {t : Tab} {l : List (List Int)} (hg : Good c t l) (h2 : ∀ p ∈ l, p.length = 2) (hl : l.length < 9223372036854775807) :
    Lp (fun k => Accept51.l2 k l) (c, t, (), 0, l.foldl putM []) (if firstE (runE c t l) l ≠ 0 then .inr (firstE (runE c t l) l, ()) else .inl ()) := by
  rw [← walk_first (R := Unit ⊕ (Int × Unit)) (runE c t l) (fun e => .inr (e, ())) (.inl ())]
  refine Lp.walk (body := fun k => Accept51.l2 k l) l (fun (_ : Unit) i => (c, t, (), i, l.foldl putM [])) _ _ (fun _ _ => True) (fun i p b hx _ => ⟨?_, fun _ _ => trivial⟩) (fun b _ => ?_) (b := ()) trivial
  · have hi := get_lt hx
    have h1 := acc_l1 hg (get_mem hx) (h2 p (get_mem hx))
    have hi0 := hg.tab.ins
    have hci := hg.ins
    simp only [Accept51.l2]
    refine .yes (decide_eq_true (by omega)) (.val (rd_some' hx) (.val (a := ((2 ^ t.1.toNat : Nat) : Int)) (by rw [if_neg (by omega), hci, shl_one (by omega) (by omega)]) ?_))
    unfold runE
    by_cases h3 : firstE (cellC c t l p) (List.range (2 ^ t.1.toNat)) ≠ 0
    · rw [if_pos h3] at h1
      simp only [if_pos h3]
      exact .joinR h1.ev
    · rw [if_neg h3] at h1
      simp only [if_neg h3]
      exact .joinL (S := Unit) h1.ev (.now' (by rw [w64_id (by omega) (by omega)]))
  · simp only [Accept51.l2]
    exact .no (by simp) (.now _)
def begins (c : Cir) : List Int := [(first c : Int), 0]
def accF (c : Cir) (t : Tab) (l : List (List Int)) : Int :=
  if pfault c t ≠ 0 then pfault c t else if firstE (g4 c t) l ≠ 0 then firstE (g4 c t) l else if begins c ∉ l then 13 else firstE (runE c t l) l
theorem good_of {c : Cir} {t : Tab} {l : List (List Int)} (h : pfault c t = 0) (h4 : firstE (g4 c t) l = 0) : Good c t l := by
  obtain ⟨a, b, d, e⟩ := pfault_zero h
  refine ⟨a, b, d, fun p hp hb => ?_⟩
  have := firstE_zero h4 p hp
  unfold g4 at this
  rw [if_pos hb] at this
  omega
theorem accept_ev (c : Cir) (t : Tab) (l : List (List Int)) (h2 : ∀ p ∈ l, p.length = 2) (hl : l.length < 9223372036854775807) : Ev (fun k => Accept51 k c t l) (accF c t l, ()) := by
  unfold Accept51 accF
  refine .bind (check2_ev c t) ?_
  by_cases hf : pfault c t ≠ 0
  · rw [if_pos hf]
    exact .yes (bne_iff_ne.2 hf) (.now _)
  rw [if_neg hf]
  have hf0 : pfault c t = 0 := by omega
  obtain ⟨hc0, _, _, _⟩ := pfault_zero hf0
  have h0 := acc_l0 (t := t) h2 (right_of c hc0).next.1 hl
  refine .no (by simpa using hf) ?_
  by_cases h4 : firstE (g4 c t) l ≠ 0
  · rw [if_pos h4] at h0 ⊢
    exact .joinR h0.ev
  rw [if_neg h4] at h0 ⊢
  have hg := good_of hf0 (by omega : firstE (g4 c t) l = 0)
  refine .joinL (S := Unit) h0.ev (.bind (start_ev c) ?_)
  by_cases hb : begins c ∉ l
  · rw [if_pos hb]
    exact .yes ((congrArg not (has_all l _)).trans (by rw [show decide (([(first c : Int), 0] : List Int) ∈ l) = false from decide_eq_false hb]; rfl)) (.now _)
  · rw [if_neg hb]
    have h3 := acc_l2 hg h2 hl
    refine .no ((congrArg not (has_all l _)).trans (by rw [show decide (([(first c : Int), 0] : List Int) ∈ l) = true from decide_eq_true (Classical.not_not.1 hb)]; rfl)) ?_
    by_cases h5 : firstE (runE c t l) l ≠ 0
    · rw [if_pos h5] at h3
      exact .joinR h3.ev
    · rw [if_neg h5] at h3
      exact .joinL (S := Unit) (a := ()) h3.ev (.now' (by rw [show firstE (runE c t l) l = 0 by omega]))

-- the fact
theorem clone0 (k : Nat) : Clone72 k [] = some ((), []) := by
  unfold Clone72
  exact orNil_zero rfl
theorem clone_ev : Ev (fun k => Clone72 k []) ((), []) := ⟨0, fun k _ => clone0 k⟩
theorem equal1 : Ev (fun k => Equal20 k [1] [1]) (true, ()) := by
  unfold Equal20
  refine .no rfl (.joinL (S := Unit) (a := ()) (Lp.ev (.step (s' := (1 : Int)) ?_ (.done ?_))) (.now _))
  · simp only [Equal20.l0]
    exact .yes rfl (.val rfl (.val rfl (.no rfl (.now' rfl))))
  · simp only [Equal20.l0]
    exact .no rfl (.now' rfl)
def c1 : Cir := (1, [(0, 0, 0, 0, 0)], [0], [], [])
def t1 : Tab := (1, 1, [[(0, 0), (1, 0)]])
theorem pf1 : pfault c1 t1 = 0 := by decide +kernel
theorem out1 : outN c1 0 0 = 0 ∧ outN c1 0 1 = 0 ∧ nxtN c1 0 0 = 0 ∧ first c1 = 0 := by decide +kernel
theorem same_ev : Ev (fun k => same43 k) (true, ()) := by
  have hg : Good c1 t1 [[0, 0]] := good_of pf1 (by decide +kernel)
  obtain ⟨o1, o2, o3, o4⟩ := out1
  have s0 := step85_ev hg (p := [0, 0]) (by simp) rfl (i := 0) (by decide)
  have s1 := step85_ev hg (p := [0, 0]) (by simp) rfl (i := 1) (by decide)
  unfold same43
  refine .bind (a := (([1], true, 0, ()), ())) ?_ ?_
  · show Ev (fun k => Find45 k c1 t1) _
    unfold Find45
    refine .bind (check2_ev c1 t1) (.no (by rw [pf1]; rfl) (.bind (start_ev c1) (.joinR (Lp.ev (.done ?_)))))
    rw [o4]
    simp only [Find45.l1]
    refine .yes rfl (.val rfl (.val rfl (.val rfl (.val (a := (2 : Int)) rfl (.joinR (Lp.ev (.step (s' := (c1, t1, (), (), [0, 0], 1, [([0, 0], [])], [])) ?_ (.done ?_))))))))
    · simp only [Find45.l0]
      refine .yes rfl (.bind s0 (.bind clone_ev (.val rfl (.no ?_ (.bind (.no ?_ (.now _)) (.now' ?_))))))
      · rw [show (outN c1 (p0 [0, 0]) ((0 : Nat) : Int)) = 0 from o1]; rfl
      · rw [show (nxtN c1 (p0 [0, 0]) ((0 : Nat) : Int)) = 0 from o3]; rfl
      · rfl
    · simp only [Find45.l0]
      refine .yes rfl (.bind s1 (.bind clone_ev (.val rfl (.yes ?_ (.now' rfl)))))
      rw [show (outN c1 (p0 [0, 0]) ((1 : Nat) : Int)) = 0 from o2]; rfl
  · exact .bind (a := true) (.yes rfl (.bind equal1 (.now _))) (.now _)
end Go.Proofs.Ytofendipdfepoaa.Ef

/- Shortest words that tell a circuit from a table: the pairs of states; the program's search, one pair's letters. No program in sight. -/
set_option linter.unusedVariables false
set_option maxRecDepth 100000
noncomputable section
namespace Go.Proofs.Ytofendipdfepoaa.Ef
open Go Go.Proofs.Ytofendipdfepoaa.Gp

theorem intsLen (l : List Nat) : (ints l).length = l.length := List.length_map ..
theorem intsSnoc (l : List Nat) (x : Nat) : ints l ++ [(x : Int)] = ints (l ++ [x]) := by simp [ints]
theorem Ev.orN {α : Type} {n : Nat} {f g : Nat → Option α} {v : α} (h2 : Ev g v) (h1 : n = 0 → Ev f v) : Ev (fun k => orNil n (f k) (g k)) v := by
  by_cases hn : n = 0
  · subst hn
    obtain ⟨a, h1⟩ := h1 rfl
    obtain ⟨b, h2⟩ := h2
    refine ⟨max a b, fun k hk => ?_⟩
    show orNil 0 (f k) (g k) = some v
    rw [orNil_zero ((h1 k (by omega)).trans (h2 k (by omega)).symm)]
    exact h2 k (by omega)
  · obtain ⟨b, h2⟩ := h2
    refine ⟨b, fun k hk => ?_⟩
    show orNil n (f k) (g k) = some v
    rw [orNil_pos hn]
    exact h2 k hk
theorem cloneL_ev (l : List Int) (hl : l.length ≤ 10000) : Ev (fun k => Clone72 k l) ((), l) := by
  unfold Clone72
  refine Ev.orN (.no rfl (.val (a := ()) ?_ (.now _))) (fun h => .yes rfl (.now' ?_))
  · rw [if_pos (room_ok (by omega))]
  · rw [List.length_eq_zero_iff.1 h]
def dlT (c : Cir) (t : Tab) (p : Pr) (i : Nat) : Pr := ((nxtN c p.1 i : Int), (cellAt t p.2 i).2)
def dfT (c : Cir) (t : Tab) (p : Pr) (i : Nat) : Bool := (outN c p.1 i : Int) != (cellAt t p.2 i).1
def DomT (c : Cir) (t : Tab) (p : Pr) : Prop := ∃ x y : Nat, p = ((x : Int), (y : Int)) ∧ x < 2 ^ c.2.2.2.1.length ∧ y < t.2.2.length
/-- a right pair -/
structure Both (c : Cir) (t : Tab) (B : Nat) : Prop where
  fault : fault c = 0
  tab : RightT t
  ins : c.1 = t.1
  five : c.2.2.2.1.length ≤ 5
  b : B = 2 ^ t.1.toNat
  b16 : B ≤ 16
  sh : shlI .i64 1 c.1 = (B : Int)
  in0 : 0 ≤ c.1
theorem Both.of {c : Cir} {t : Tab} (h : pfault c t = 0) (h5 : c.2.2.2.1.length ≤ 5) : Both c t (2 ^ t.1.toNat) := by
  obtain ⟨a, b, d, _⟩ := pfault_zero h
  have hi := b.ins
  exact ⟨a, b, d, h5, rfl, pow_ins hi.1 hi.2, by rw [d, shl_one (by omega) (by omega)], by omega⟩
theorem cell_in {t : Tab} (hT : RightT t) {s : Int} (h0 : 0 ≤ s) (h1 : s < (t.2.2.length : Int)) {i : Nat} (hi : i < 2 ^ t.1.toNat) : 0 ≤ (cellAt t s i).2 ∧ (cellAt t s i).2 < (t.2.2.length : Int) := by
  have hx : s.toNat < t.2.2.length := by omega
  have hl := hT.row _ (List.getElem_mem hx)
  have e : cellAt t s i = (t.2.2[s.toNat])[i]'(by omega) := by
    unfold cellAt
    rw [List.getD_eq_getElem?_getD, List.getD_eq_getElem?_getD, List.getElem?_eq_getElem hx]
    simp only [Option.getD_some]
    rw [List.getElem?_eq_getElem (by omega)]
    rfl
  rw [e]
  have := hT.cell _ (List.getElem_mem hx) _ (List.getElem_mem (by omega : i < (t.2.2[s.toNat]).length))
  exact ⟨this.2.2.1, this.2.2.2⟩
theorem nxt_in {c : Cir} (hf : fault c = 0) (st : Int) (i : Nat) : nxtN c st i < 2 ^ c.2.2.2.1.length := by
  have := pk_lt (line c st (i : Int) c.2.2.2.1) (line_le (right_of c hf) st (i : Int) _)
  rwa [show (line c st (i : Int) c.2.2.2.1).length = c.2.2.2.1.length from List.length_map ..] at this
theorem dom_step {c : Cir} {t : Tab} {B : Nat} (h : Both c t B) (p : Pr) (i : Nat) (hp : DomT c t p) (hi : i < B) : DomT c t (dlT c t p i) := by
  obtain ⟨x, y, rfl, hx, hy⟩ := hp
  obtain ⟨h1, h2⟩ := cell_in h.tab (s := (y : Int)) (by omega) (by omega) (i := i) (by have := h.b; omega)
  refine ⟨nxtN c x i, (cellAt t (y : Int) i).2.toNat, ?_, nxt_in h.fault _ _, by omega⟩
  show ((nxtN c (x : Int) i : Int), (cellAt t (y : Int) i).2) = _
  rw [Int.toNat_of_nonneg h1]
theorem nodup_lt : ∀ (n : Nat) (l : List Nat), l.Nodup → (∀ x ∈ l, x < n) → l.length ≤ n
  | 0, l, _, h => by
    cases l with
    | nil => exact Nat.le_refl _
    | cons x l => exact absurd (h x (by simp)) (by omega)
  | n + 1, l, nd, h => by
    by_cases hn : n ∈ l
    · have h1 := nodup_lt n (l.erase n) (nd.erase n) (fun x hx => by
        have := (List.Nodup.mem_erase_iff nd).1 hx
        have := h x this.2
        omega)
      rw [List.length_erase_of_mem hn] at h1
      omega
    · have := nodup_lt n l nd (fun x hx => by
        have := h x hx
        have : x ≠ n := fun e => hn (e ▸ hx)
        omega)
      omega
theorem dom_len {c : Cir} {t : Tab} {B : Nat} (h : Both c t B) {l : List Pr} (nd : l.Nodup) (hd : ∀ p ∈ l, DomT c t p) : l.length ≤ 2048 := by
  have h64 := h.tab.rows
  have key := nodup_lt 2048 (l.map fun p => p.1.toNat + 2 ^ c.2.2.2.1.length * p.2.toNat) ?_ ?_
  · rwa [List.length_map] at key
  · unfold List.Nodup
    rw [List.pairwise_map]
    refine List.Pairwise.imp_of_mem ?_ nd
    intro p q hp hq hne he
    obtain ⟨x, y, rfl, h1, h2⟩ := hd p hp
    obtain ⟨x', y', rfl, h3, h4⟩ := hd q hq
    simp only [Int.toNat_natCast] at he
    have hpos : 0 < 2 ^ c.2.2.2.1.length := Nat.pow_pos (by decide)
    have e1 : x = x' := by
      have := congrArg (· % 2 ^ c.2.2.2.1.length) he
      simp only [Nat.add_mul_mod_self_left] at this
      rwa [Nat.mod_eq_of_lt h1, Nat.mod_eq_of_lt h3] at this
    subst e1
    have e2 : y = y' := Nat.eq_of_mul_eq_mul_left hpos (by omega)
    subst e2
    exact hne rfl
  · intro z hz
    obtain ⟨p, hp, rfl⟩ := List.mem_map.1 hz
    obtain ⟨x, y, rfl, h1, h2⟩ := hd p hp
    simp only [Int.toNat_natCast]
    have : (2 : Nat) ^ c.2.2.2.1.length ≤ 2 ^ 5 := Nat.pow_le_pow_right (by decide) h.five
    have h6 : (2 : Nat) ^ 5 = 32 := by decide
    have hm : 2 ^ c.2.2.2.1.length * (y + 1) ≤ 32 * 64 := Nat.mul_le_mul (by omega) (by omega)
    rw [Nat.mul_add, Nat.mul_one] at hm
    omega
-- the map of words
def pl (p : Pr) : List Int := [p.1, p.2]
theorem pl_inj {p q : Pr} (h : pl p = pl q) : p = q := by
  unfold pl at h
  simp only [List.cons.injEq, and_true] at h
  exact Prod.ext h.1 h.2
abbrev WMap := List (List Int × List Int)
abbrev aK : K := .arr 2 (.int .i64)
abbrev sK : K := .sl (.int .i64)
theorem mget_self {kk kv : K} (hc : kk.cmp = true) {l : List (kk.den × kv.den)} {k : kk.den} {v : kv.den} : mget kk kv (mput kk kv l k v) k = some v := (mget_mput hc).trans (if_pos (eqB_refl hc))
theorem mget_other {kk kv : K} (hc : kk.cmp = true) {l : List (kk.den × kv.den)} {k k' : kk.den} {v : kv.den} (h : k' ≠ k) : mget kk kv (mput kk kv l k v) k' = mget kk kv l k' := (mget_mput hc).trans (if_neg (fun e => h (eqB_eq hc e)))
structure Way (P : List Pr) (Ws : List (List Nat)) (m : WMap) : Prop where
  get : ∀ (b : Nat) (p : Pr) (w : List Nat), P[b]? = some p → Ws[b]? = some w → mget aK sK m (pl p) = some (ints w)
  non : ∀ p : Pr, p ∉ P → mget aK sK m (pl p) = none
theorem Way.add {P : List Pr} {Ws : List (List Nat)} {m : WMap} (h : Way P Ws m) (hl : Ws.length = P.length) {q : Pr} (hq : q ∉ P) (w : List Nat) : Way (P ++ [q]) (Ws ++ [w]) (mput aK sK m (pl q) (ints w)) := by
  refine ⟨fun b p x hb hx => ?_, fun p hp => ?_⟩
  · by_cases hlt : b < P.length
    · rw [List.getElem?_append_left hlt] at hb
      rw [List.getElem?_append_left (by omega)] at hx
      have hne : p ≠ q := fun e => hq (e ▸ get_mem hb)
      exact (mget_other (kk := aK) (kv := sK) rfl (fun e => hne (pl_inj e))).trans (h.get b p x hb hx)
    · have := get_lt hb
      rw [List.length_append, List.length_singleton] at this
      have e : b = P.length := by omega
      subst e
      rw [List.getElem?_append_right (Nat.le_refl _), Nat.sub_self] at hb
      rw [← hl, List.getElem?_append_right (Nat.le_refl _), Nat.sub_self] at hx
      cases hb
      cases hx
      exact mget_self (kk := aK) (kv := sK) rfl
  · have hpq : p ≠ q := fun e => hp (by simp [e])
    exact (mget_other (kk := aK) (kv := sK) rfl (fun e => hpq (pl_inj e))).trans (h.non p (fun hm => hp (by simp [hm])))
theorem way0 (s : Pr) : Way [s] [[]] (mput aK sK ([] : WMap) (pl s) []) := by
  have := (Way.add (P := []) (Ws := []) (m := []) ⟨fun b p w hb => (by simp at hb), fun p _ => rfl⟩ rfl (q := s) (by simp) [])
  exact this
abbrev FoundC := (List Int × Bool × Int × Unit) × Unit
abbrev AC := Cir × Tab × Unit × Unit × WMap × List (List Int)
def hit (w : List Nat) : FoundC := ((ints w, true, 0, ()), ())
section
variable {c : Cir} {t : Tab} {B : Nat}
theorem step_ev (h : Both c t B) {p : Pr} (hp : DomT c t p) {i : Nat} (hi : i < B) : Ev (fun k => step83 k c t (pl p) (i : Int)) (((outN c p.1 i : Int), (cellAt t p.2 i).1, pl (dlT c t p i), ()), ()) := by
  obtain ⟨x, y, rfl, hx, hy⟩ := hp
  obtain ⟨r, h3, h4⟩ := cell_rd h.tab (s := (y : Int)) (by omega) (by omega) (i := i) (by have := h.b; omega)
  unfold step83
  exact .val (a := (x : Int)) rfl (.bind (step16_ev h.fault _ _) (.val (a := (y : Int)) rfl (.val h3 (.val h4 (.now _)))))
theorem rowC (hc : Both c t B) {s : Pr} {k : Nat} : ∀ (n i : Nat) (P : List Pr) (Ws : List (List Nat)) (m : WMap), i + n = B → Bfs (dlT c t) (dfT c t) B s (DomT c t) P Ws k i → Way P Ws m → ∀ p, P[k]? = some p →
    (∃ w, Least (dlT c t) (dfT c t) B s w ∧ w.length ≤ 5000 ∧ Gp.Lp (fun j => Find45.l0 j (B : Int)) (c, t, (), (), pl p, (i : Int), m, (P.drop (k + 1)).map pl) (.inr (.inr (.inr (hit w))))) ∨
    (∃ P' Ws' m', Bfs (dlT c t) (dfT c t) B s (DomT c t) P' Ws' k B ∧ Way P' Ws' m' ∧ P.length ≤ P'.length ∧ Gp.Lp (fun j => Find45.l0 j (B : Int)) (c, t, (), (), pl p, (i : Int), m, (P.drop (k + 1)).map pl) (.inl (c, t, (), (), m', (P'.drop (k + 1)).map pl))) := by
  have hB := hc.b16
  intro n
  induction n with
  | zero =>
    intro i P Ws m hi h hm p hp
    have : i = B := by omega
    subst this
    refine .inr ⟨P, Ws, m, h, hm, Nat.le_refl _, .done ?_⟩
    simp only [Find45.l0]
    exact .no (by simp) (.now _)
  | succ n ih =>
    intro i P Ws m hi h hm p hp
    have hPl := dom_len hc h.dif h.dom
    have hk := get_lt hp
    have hlen := h.len
    have hw : Ws[k]? = some Ws[k] := List.getElem?_eq_getElem (by omega)
    generalize Ws[k]'(by omega) = w at hw
    obtain ⟨r1, r2, r3⟩ := h.reach k w hw
    have hmp : Option.getD (α := List Int) (mget aK sK m (pl p)) [] = ints w := congrArg (fun (o : Option (List Int)) => Option.getD o []) (hm.get k p w hp hw)
    have hwl : (ints w).length = w.length := intsLen w
    have hdrop : ((P.drop (k + 1)).map pl).length ≤ 2048 := by rw [List.length_map, List.length_drop]; omega
    have hww : w64 ((i : Int) + 1) = ((i + 1 : Nat) : Int) := w64_succ (by omega)
    have hdp := h.dom p (get_mem hp)
    have hcl : Ev (fun j => Clone72 j (Option.getD (α := List Int) (mget aK sK m (pl p)) [])) ((), ints w) := by
      rw [hmp]; exact cloneL_ev _ (by omega)
    have hroom : (if room (List.length (ints w) + List.length ([(i : Int)] : List Int)) 8 then some () else none) = some () := by
      rw [if_pos (room_ok (by rw [hwl]; simp only [List.length_cons, List.length_nil]; omega))]
    cases hd : dfT c t p i with
    | true =>
      have hl := h.found hB (by omega) hp hw hd
      refine .inl ⟨w ++ [i], hl, by rw [List.length_append, List.length_singleton]; omega, .done ?_⟩
      simp only [Find45.l0]
      refine .yes (decide_eq_true (by omega)) (.bind (step_ev hc hdp (by omega)) (.bind hcl (.val (a := ()) hroom (.yes hd (.now' ?_)))))
      unfold hit
      rw [← intsSnoc]
    | false =>
      by_cases hq : dlT c t p i ∈ P
      · obtain ⟨b', hb'⟩ := List.getElem?_of_mem hq
        have hbl : b' < Ws.length := by have := get_lt hb'; omega
        have hwb : Ws[b']? = some Ws[b'] := List.getElem?_eq_getElem hbl
        generalize Ws[b']'hbl = wb at hwb
        have hg := hm.get b' _ wb hb' hwb
        have h' := h.old hp hw hd hq
        have hs1 : Ev (fun j => Find45.l0 j (B : Int) (c, t, (), (), pl p, (i : Int), m, (P.drop (k + 1)).map pl)) (.inl (c, t, (), (), pl p, ((i + 1 : Nat) : Int), m, (P.drop (k + 1)).map pl)) := by
          simp only [Find45.l0]
          refine .yes (decide_eq_true (by omega)) (.bind (step_ev hc hdp (by omega)) (.bind hcl (.val (a := ()) hroom (.no hd (.bind (.no (congrArg (fun (o : Option (List Int)) => !o.isSome) hg) (.now _)) (.now' ?_))))))
          rw [hww]
        rcases ih (i + 1) P Ws m (by omega) h' hm p hp with ⟨w', e1, e1', e2⟩ | ⟨P', Ws', m', e1, e2, e3, e4⟩
        · exact .inl ⟨w', e1, e1', .step hs1 e2⟩
        · exact .inr ⟨P', Ws', m', e1, e2, e3, .step hs1 e4⟩
      · have hg := hm.non _ hq
        have h' := h.new (fun p i hp hi => dom_step hc p i hp hi) (by omega) hp hw hd hq
        have hm' := hm.add hlen hq (w ++ [i])
        have hs1 : Ev (fun j => Find45.l0 j (B : Int) (c, t, (), (), pl p, (i : Int), m, (P.drop (k + 1)).map pl)) (.inl (c, t, (), (), pl p, ((i + 1 : Nat) : Int), mput aK sK m (pl (dlT c t p i)) (ints (w ++ [i])), ((P ++ [dlT c t p i]).drop (k + 1)).map pl)) := by
          simp only [Find45.l0]
          refine .yes (decide_eq_true (by omega)) (.bind (step_ev hc hdp (by omega)) (.bind hcl (.val (a := ()) hroom (.no hd (.bind (.yes (congrArg (fun (o : Option (List Int)) => !o.isSome) hg) (.val (a := ()) ?_ (.now _))) (.now' ?_))))))
          · rw [if_pos (room_ok (by simp only [List.length_cons, List.length_nil]; omega))]
          · rw [hww, List.drop_append_of_le_length (by omega), List.map_append, ← intsSnoc]; rfl
        have hp' : (P ++ [dlT c t p i])[k]? = some p := by rw [List.getElem?_append_left hk]; exact hp
        rcases ih (i + 1) _ _ _ (by omega) h' hm' p hp' with ⟨w', e1, e1', e2⟩ | ⟨P', Ws', m', e1, e2, e3, e4⟩
        · exact .inl ⟨w', e1, e1', .step hs1 e2⟩
        · exact .inr ⟨P', Ws', m', e1, e2, by rw [List.length_append] at e3; omega, .step hs1 e4⟩
theorem searchC (hc : Both c t B) {s : Pr} : ∀ (n k : Nat) (P : List Pr) (Ws : List (List Nat)) (m : WMap), k + n = 2049 → k ≤ P.length → Bfs (dlT c t) (dfT c t) B s (DomT c t) P Ws k 0 → Way P Ws m →
    (∃ w, Least (dlT c t) (dfT c t) B s w ∧ w.length ≤ 5000 ∧ Gp.Lp (fun j => Find45.l1 j) (c, t, (), (), m, (P.drop k).map pl) (.inr (hit w))) ∨
    ((∀ w, ¬ Tells (dlT c t) (dfT c t) B s w) ∧ Gp.Lp (fun j => Find45.l1 j) (c, t, (), (), m, (P.drop k).map pl) (.inl ())) := by
  have hins := hc.in0
  have hB := hc.b16
  intro n
  induction n with
  | zero =>
    intro k P Ws m hk hkP h hm
    have := dom_len hc h.dif h.dom
    omega
  | succ n ih =>
    intro k P Ws m hk hkP h hm
    by_cases hlt : k < P.length
    · have hp : P[k]? = some P[k] := List.getElem?_eq_getElem hlt
      generalize P[k]'hlt = p at hp
      have hrd : ((P.drop k).map pl)[0]? = some (pl p) := by rw [List.getElem?_map, List.getElem?_drop, Nat.add_zero, hp]; rfl
      have hlen : ((P.drop k).map pl).length = P.length - k := by rw [List.length_map, List.length_drop]
      have hsl : slc ((P.drop k).map pl) 1 (((P.drop k).map pl).length : Int) = some ((P.drop (k + 1)).map pl) := by
        have := slc_tail (l := (P.drop k).map pl) (a := 1) (by omega)
        rw [← List.map_drop, List.drop_drop] at this
        exact this
      have pre : ∀ {r : AC ⊕ (Unit ⊕ FoundC)}, Ev (fun j => (Option.bind (loopN (Find45.l0 j (B : Int)) j (c, t, (), (), pl p, 0, m, (P.drop (k + 1)).map pl) : Option (AC ⊕ (AC ⊕ (Unit ⊕ FoundC)))) (joined fun ((a_6, b_6, _, _, o0_4, o1_4) : AC) => some (Sum.inl (a_6, b_6, (), (), o0_4, o1_4))) : Option (AC ⊕ (Unit ⊕ FoundC)))) r → Ev (fun j => Find45.l1 j (c, t, (), (), m, (P.drop k).map pl)) r := by
        intro r hr
        simp only [Find45.l1]
        refine .yes (decide_eq_true (by omega)) (.val (rd_some' (i := 0) hrd) (.val (rd_some' (i := 0) hrd) (.val hsl (.val (a := (B : Int)) (by rw [if_neg (by omega), hc.sh]) hr))))
      rcases rowC hc B 0 P Ws m (by omega) h hm p hp with ⟨w, e1, e1', e2⟩ | ⟨P', Ws', m', e1, e2, e3, e4⟩
      · exact .inl ⟨w, e1, e1', .done (pre (.joinR e2.ev))⟩
      · rcases ih (k + 1) P' Ws' m' (by omega) (by omega) (e1.row hB) e2 with ⟨w, f1, f1', f2⟩ | ⟨f1, f2⟩
        · exact .inl ⟨w, f1, f1', .step (pre (.joinL (S := Unit) e4.ev (.now _))) f2⟩
        · exact .inr ⟨f1, .step (pre (.joinL (S := Unit) e4.ev (.now _))) f2⟩
    · refine .inr ⟨h.none hB (by omega), .done ?_⟩
      have : P.drop k = [] := List.drop_of_length_le (by omega)
      rw [this]
      simp only [Find45.l1]
      exact .no rfl (.now _)
def startT (c : Cir) : Pr := (((first c : Nat) : Int), 0)
theorem first_lt {c : Cir} (hf : fault c = 0) : first c < 2 ^ c.2.2.2.1.length := by
  have hR := right_of c hf
  have hx : c.2.2.2.2.length = c.2.2.2.1.length := by
    unfold fault at hf
    split at hf
    · omega
    · split at hf
      · omega
      · omega
  have h10 := hR.next.1
  unfold first
  have := pk_lt ((c.2.2.2.2.take 10).map bitOf) (bits_ok _)
  rw [List.length_map, List.length_take, hx, Nat.min_eq_right h10] at this
  exact this
theorem start_dom (hc : Both c t B) : DomT c t (startT c) := ⟨first c, 0, rfl, first_lt hc.fault, hc.tab.some⟩
/-- what the program says of a right pair -/
theorem find_ev (hc : Both c t B) (hf : pfault c t = 0) :
    (∃ w, Least (dlT c t) (dfT c t) B (startT c) w ∧ w.length ≤ 5000 ∧ Ev (fun k => Find45 k c t) (hit w)) ∨
    ((∀ w, ¬ Tells (dlT c t) (dfT c t) B (startT c) w) ∧ Ev (fun k => Find45 k c t) (([], false, 0, ()), ())) := by
  have hs := start_dom hc
  have pre : ∀ {r : FoundC}, Ev (fun k => (Option.bind (loopN (Find45.l1 k) k (c, t, (), (), mput aK sK ([] : WMap) (pl (startT c)) [], [pl (startT c)]) : Option (Unit ⊕ FoundC)) (joined fun (_ : Unit) => some (([], false, 0, ()), ())) : Option FoundC)) r → Ev (fun k => Find45 k c t) r := by
    intro r hr
    unfold Find45
    exact .bind (check2_ev c t) (.no (by rw [hf]; rfl) (.bind (start_ev c) hr))
  rcases searchC hc 2049 0 [startT c] [[]] _ (by omega) (Nat.zero_le _) (bfs0 _ _ _ hs) (way0 (startT c)) with ⟨w, f1, f1', f2⟩ | ⟨f1, f2⟩
  · exact .inl ⟨w, f1, f1', pre (.joinR f2.ev)⟩
  · exact .inr ⟨f1, pre (.joinL (S := Unit) f2.ev (.now _))⟩
end
end Go.Proofs.Ytofendipdfepoaa.Ef

/- The pairs of states that are reached together: what both collect. No program in sight. -/
set_option linter.unusedVariables false
set_option maxRecDepth 100000
noncomputable section
namespace Go.Proofs.Ytofendipdfepoaa.Ef
open Go Go.Proofs.Ytofendipdfepoaa.Gp

def addQ (P : List Pr) (q : Pr) : List Pr := if q ∈ P then P else P ++ [q]
section
variable (c : Cir) (t : Tab)
def rowL (p : Pr) : List Pr → Nat → Nat → List Pr
  | P, 0, _ => P
  | P, n + 1, i => rowL p (addQ P (dlT c t p i)) n (i + 1)
def allL (B : Nat) : Nat → List Pr → Nat → List Pr
  | 0, P, _ => P
  | n + 1, P, k => match P[k]? with
    | some p => allL B n (rowL c t p P B 0) (k + 1)
    | none => P
end
theorem addQ_ex (P : List Pr) (q : Pr) : ∃ r, addQ P q = P ++ r := by
  unfold addQ
  split
  · exact ⟨[], by simp⟩
  · exact ⟨[q], rfl⟩
theorem addQ_mem (P : List Pr) (q : Pr) : q ∈ addQ P q := by
  unfold addQ
  split
  · assumption
  · simp
theorem mem_addQ {P : List Pr} {q x : Pr} (h : x ∈ addQ P q) : x ∈ P ∨ x = q := by
  unfold addQ at h
  split at h
  · exact .inl h
  · rcases List.mem_append.1 h with h | h
    · exact .inl h
    · exact .inr (List.mem_singleton.1 h)
/-- what is known of the pairs so far -/
structure Cl (c : Cir) (t : Tab) (B : Nat) (s : Pr) (P : List Pr) : Prop where
  dif : P.Nodup
  dom : ∀ p ∈ P, DomT c t p
  st : s ∈ P
  rch : ∀ p ∈ P, ∃ w : List Nat, (∀ j ∈ w, j < B) ∧ p = go (dlT c t) s w
theorem Cl.add {c : Cir} {t : Tab} {B : Nat} (hc : Both c t B) {s : Pr} {P : List Pr} (h : Cl c t B s P) {p : Pr} (hp : p ∈ P) {i : Nat} (hi : i < B) : Cl c t B s (addQ P (dlT c t p i)) := by
  refine ⟨?_, fun x hx => ?_, ?_, fun x hx => ?_⟩
  · unfold addQ
    split
    · exact h.dif
    · rename_i hq
      rw [List.nodup_append]
      exact ⟨h.dif, by simp, fun x hx y hy => by rw [List.mem_singleton.1 hy]; exact fun e => hq (e ▸ hx)⟩
  · rcases mem_addQ hx with hx | rfl
    · exact h.dom x hx
    · exact dom_step hc p i (h.dom p hp) hi
  · obtain ⟨r, hr⟩ := addQ_ex P (dlT c t p i)
    rw [hr]; exact List.mem_append_left _ h.st
  · rcases mem_addQ hx with hx | rfl
    · exact h.rch x hx
    · obtain ⟨w, h1, h2⟩ := h.rch p hp
      refine ⟨w ++ [i], fun j hj => ?_, ?_⟩
      · rcases List.mem_append.1 hj with hj | hj
        · exact h1 j hj
        · rw [List.mem_singleton.1 hj]; exact hi
      · rw [go_snoc, ← h2]
theorem rowL_ok {c : Cir} {t : Tab} {B : Nat} (hc : Both c t B) {s : Pr} {p : Pr} : ∀ (n i : Nat) (P : List Pr), i + n = B → Cl c t B s P → p ∈ P →
    Cl c t B s (rowL c t p P n i) ∧ (∃ r, rowL c t p P n i = P ++ r) ∧ ∀ j, i ≤ j → j < B → dlT c t p j ∈ rowL c t p P n i
  | 0, i, P, hi, h, hp => ⟨h, ⟨[], by simp [rowL]⟩, fun j h1 h2 => by omega⟩
  | n + 1, i, P, hi, h, hp => by
    obtain ⟨r, hr⟩ := addQ_ex P (dlT c t p i)
    obtain ⟨a, ⟨r2, b⟩, d⟩ := rowL_ok hc n (i + 1) (addQ P (dlT c t p i)) (by omega) (h.add hc hp (by omega)) (by rw [hr]; exact List.mem_append_left _ hp)
    refine ⟨a, ⟨r ++ r2, by show rowL c t p (addQ P (dlT c t p i)) n (i + 1) = _; rw [b, hr, List.append_assoc]⟩, fun j h1 h2 => ?_⟩
    show dlT c t p j ∈ rowL c t p (addQ P (dlT c t p i)) n (i + 1)
    by_cases hj : j = i
    · subst hj
      rw [b]; exact List.mem_append_left _ (addQ_mem _ _)
    · exact d j (by omega) h2
/-- closed under all letters -/
structure Clo (c : Cir) (t : Tab) (B : Nat) (s : Pr) (l : List Pr) : Prop extends Cl c t B s l where
  cl : ∀ p ∈ l, ∀ i, i < B → dlT c t p i ∈ l
theorem allL_ok {c : Cir} {t : Tab} {B : Nat} (hc : Both c t B) {s : Pr} : ∀ (n k : Nat) (P : List Pr), k + n = 2049 → k ≤ P.length → Cl c t B s P → (∀ (k' : Nat) (p : Pr), k' < k → P[k']? = some p → ∀ i, i < B → dlT c t p i ∈ P) → Clo c t B s (allL c t B n P k)
  | 0, k, P, hk, hkP, h, hcl => by
    have := dom_len hc h.dif h.dom
    omega
  | n + 1, k, P, hk, hkP, h, hcl => by
    unfold allL
    cases hp : P[k]? with
    | none =>
      show Clo c t B s P
      refine ⟨h, fun p hp' i hi => ?_⟩
      obtain ⟨j, hj⟩ := List.getElem?_of_mem hp'
      have := get_lt hj
      have : P.length ≤ k := List.getElem?_eq_none_iff.1 hp
      exact hcl j p (by omega) hj i hi
    | some p =>
      obtain ⟨a, ⟨r, b⟩, d⟩ := rowL_ok hc B 0 P (by omega) h (get_mem hp)
      have hlt := get_lt hp
      refine allL_ok hc n (k + 1) _ (by omega) (by rw [b, List.length_append]; omega) a (fun k' q hk' hq i hi => ?_)
      by_cases e : k' = k
      · subst e
        rw [b, List.getElem?_append_left hlt, hp] at hq
        cases hq
        exact d i (Nat.zero_le _) hi
      · rw [b, List.getElem?_append_left (by omega)] at hq
        rw [b]
        exact List.mem_append_left _ (hcl k' q (by omega) hq i hi)
-- the program's
def bAt (P : List Pr) (q : Pr) : Option Bool := if q ∈ P then some true else none
structure SeenL (P : List Pr) (m : HM) : Prop where
  get : ∀ q : Pr, mget aK .bool m (pl q) = bAt P q
theorem SeenL.add {P : List Pr} {m : HM} (h : SeenL P m) (q : Pr) : SeenL (P ++ [q]) (mput aK .bool m (pl q) true) := ⟨fun x => by
  by_cases hx : x = q
  · subst hx
    have e : bAt (P ++ [x]) x = some true := if_pos (by simp)
    exact (mget_self (kk := aK) (kv := .bool) rfl).trans e.symm
  · refine (mget_other (kk := aK) (kv := .bool) rfl (fun e => hx (pl_inj e))).trans ((h.get x).trans ?_)
    unfold bAt
    by_cases hm : x ∈ P
    · rw [if_pos hm, if_pos (by simp [hm])]
    · rw [if_neg hm, if_neg (by simp [hm, hx])]⟩
section
variable {c : Cir} {t : Tab} {B : Nat}
theorem rowP (hc : Both c t B) {s : Pr} {k : Nat} {p : Pr} (o : List (List Int)) : ∀ (n i : Nat) (P : List Pr) (m : HM), i + n = B → Cl c t B s P → p ∈ P → k < P.length → SeenL P m →
    ∃ m', SeenL (rowL c t p P n i) m' ∧ Gp.Lp (fun j => Cert46.l0 j (B : Int)) (c, t, (), (), (), pl p, (i : Int), m, (P.drop (k + 1)).map pl, o) (c, t, (), (), (), m', ((rowL c t p P n i).drop (k + 1)).map pl, o) := by
  have hB := hc.b16
  intro n
  induction n with
  | zero =>
    intro i P m hi h hp hk hm
    have : i = B := by omega
    subst this
    refine ⟨m, hm, .done ?_⟩
    simp only [Cert46.l0]
    exact .no (by simp) (.now _)
  | succ n ih =>
    intro i P m hi h hp hk hm
    have hPl := dom_len hc h.dif h.dom
    have hww : w64 ((i : Int) + 1) = ((i + 1 : Nat) : Int) := w64_succ (by omega)
    have hdp := h.dom p hp
    have ha := h.add hc hp (i := i) (by omega)
    show ∃ m', SeenL (rowL c t p (addQ P (dlT c t p i)) n (i + 1)) m' ∧ Gp.Lp (fun j => Cert46.l0 j (B : Int)) (c, t, (), (), (), pl p, (i : Int), m, (P.drop (k + 1)).map pl, o) (c, t, (), (), (), m', ((rowL c t p (addQ P (dlT c t p i)) n (i + 1)).drop (k + 1)).map pl, o)
    by_cases hq : dlT c t p i ∈ P
    · have hg : Option.getD (α := Bool) (mget aK .bool m (pl (dlT c t p i))) false = true := congrArg (fun (o : Option Bool) => Option.getD o false) ((hm.get _).trans (if_pos hq))
      have e : addQ P (dlT c t p i) = P := if_pos hq
      rw [e] at ha ⊢
      obtain ⟨m', e1, e2⟩ := ih (i + 1) P m (by omega) ha hp hk hm
      refine ⟨m', e1, .step ?_ e2⟩
      simp only [Cert46.l0]
      refine .yes (decide_eq_true (by omega)) (.bind (step_ev hc hdp (by omega)) (.bind (.no (congrArg (fun (x : Bool) => !x) hg) (.now _)) (.now' ?_)))
      rw [hww]
    · have hg : Option.getD (α := Bool) (mget aK .bool m (pl (dlT c t p i))) false = false := congrArg (fun (o : Option Bool) => Option.getD o false) ((hm.get _).trans (if_neg hq))
      have e : addQ P (dlT c t p i) = P ++ [dlT c t p i] := if_neg hq
      rw [e] at ha ⊢
      obtain ⟨m', e1, e2⟩ := ih (i + 1) _ _ (by omega) ha (List.mem_append_left _ hp) (by rw [List.length_append]; omega) (hm.add _)
      refine ⟨m', e1, .step ?_ e2⟩
      simp only [Cert46.l0]
      refine .yes (decide_eq_true (by omega)) (.bind (step_ev hc hdp (by omega)) (.bind (.yes (congrArg (fun (x : Bool) => !x) hg) (.val (a := ()) ?_ (.now _))) (.now' ?_)))
      · rw [if_pos (room_ok (by rw [List.length_map, List.length_drop]; simp only [List.length_cons, List.length_nil]; omega))]
      · rw [hww, List.drop_append_of_le_length (by omega), List.map_append]; rfl
theorem allP (hc : Both c t B) {s : Pr} : ∀ (n k : Nat) (P : List Pr) (m : HM), k + n = 2049 → k ≤ P.length → Cl c t B s P → SeenL P m →
    Gp.Lp (fun j => Cert46.l1 j) (c, t, (), (), (), m, (P.drop k).map pl, (P.take k).map pl) ((), (allL c t B n P k).map pl) := by
  have hins := hc.in0
  have hB := hc.b16
  intro n
  induction n with
  | zero =>
    intro k P m hk hkP h hm
    have := dom_len hc h.dif h.dom
    omega
  | succ n ih =>
    intro k P m hk hkP h hm
    have hPl := dom_len hc h.dif h.dom
    unfold allL
    cases hp : P[k]? with
    | none =>
      have hle : P.length ≤ k := List.getElem?_eq_none_iff.1 hp
      refine .done ?_
      rw [List.drop_of_length_le hle, List.take_of_length_le hle]
      simp only [Cert46.l1]
      exact .no rfl (.now _)
    | some p =>
      have hlt := get_lt hp
      have hrd : ((P.drop k).map pl)[0]? = some (pl p) := by rw [List.getElem?_map, List.getElem?_drop, Nat.add_zero, hp]; rfl
      have hlen : ((P.drop k).map pl).length = P.length - k := by rw [List.length_map, List.length_drop]
      have hsl : slc ((P.drop k).map pl) 1 (((P.drop k).map pl).length : Int) = some ((P.drop (k + 1)).map pl) := by
        have := slc_tail (l := (P.drop k).map pl) (a := 1) (by omega)
        rw [← List.map_drop, List.drop_drop] at this
        exact this
      obtain ⟨m', e1, e2⟩ := rowP hc (k := k) ((P.take k).map pl ++ [pl p]) B 0 P m (by omega) h (get_mem hp) hlt hm
      obtain ⟨a, ⟨r, b⟩, d⟩ := rowL_ok hc B 0 P (by omega) h (get_mem hp)
      have hnext := ih (k + 1) (rowL c t p P B 0) m' (by omega) (by rw [b, List.length_append]; omega) a e1
      have htk : ((rowL c t p P B 0).take (k + 1)).map pl = (P.take k).map pl ++ [pl p] := by
        rw [b, List.take_append_of_le_length (by omega), List.take_add_one, hp, List.map_append]; rfl
      rw [htk] at hnext
      refine .step ?_ hnext
      simp only [Cert46.l1]
      refine .yes (decide_eq_true (by omega)) (.val (rd_some' (i := 0) hrd) (.val (rd_some' (i := 0) hrd) (.val hsl (.val (a := ()) ?_ (.val (a := (B : Int)) (by rw [if_neg (by omega), hc.sh]) (.bind e2.ev (.now _)))))))
      rw [if_pos (room_ok (by rw [List.length_map, List.length_take]; simp only [List.length_cons, List.length_nil]; omega))]
-- the reference's
theorem mem_pl {P : List Pr} {q : Pr} : pl q ∈ P.map pl ↔ q ∈ P := by
  rw [List.mem_map]
  exact ⟨fun ⟨x, h1, h2⟩ => pl_inj h2 ▸ h1, fun h => ⟨q, h, rfl⟩⟩
theorem rowT (hc : Both c t B) {s : Pr} {k : Nat} {p : Pr} : ∀ (n i : Nat) (P : List Pr), i + n = B → Cl c t B s P → P[k]? = some p →
    Gp.Lp (fun j => Together50.l0 j (k : Int) (B : Int)) (c, t, (), (i : Int), P.map pl) (c, t, (), (rowL c t p P n i).map pl) := by
  have hB := hc.b16
  intro n
  induction n with
  | zero =>
    intro i P hi h hp
    have : i = B := by omega
    subst this
    refine .done ?_
    simp only [Together50.l0]
    exact .no (by simp) (.now _)
  | succ n ih =>
    intro i P hi h hp
    have hPl := dom_len hc h.dif h.dom
    have hww : w64 ((i : Int) + 1) = ((i + 1 : Nat) : Int) := w64_succ (by omega)
    have hdp := h.dom p (get_mem hp)
    have ha := h.add hc (get_mem hp) (i := i) (by omega)
    have hrd : (P.map pl)[k]? = some (pl p) := by rw [List.getElem?_map, hp]; rfl
    show Gp.Lp (fun j => Together50.l0 j (k : Int) (B : Int)) (c, t, (), (i : Int), P.map pl) (c, t, (), (rowL c t p (addQ P (dlT c t p i)) n (i + 1)).map pl)
    have hR := right_of c hc.fault
    obtain ⟨x, y, hpe, hx, hy⟩ := hdp
    obtain ⟨r, h3, h4⟩ := cell_rd hc.tab (s := p.2) (by rw [hpe]; show (0 : Int) ≤ (y : Int); omega) (by rw [hpe]; show (y : Int) < _; omega) (i := i) (by have := hc.b; omega)
    have hcon := contains_ev (P.map pl) (pl (dlT c t p i)) (by rw [List.length_map]; omega)
    by_cases hq : dlT c t p i ∈ P
    · have e : addQ P (dlT c t p i) = P := if_pos hq
      rw [e] at ha ⊢
      rw [decide_eq_true (mem_pl.2 hq)] at hcon
      refine .step ?_ (ih (i + 1) P (by omega) ha hp)
      simp only [Together50.l0]
      refine .yes (decide_eq_true (by omega)) (.val (rd_some' hrd) (.val (a := ()) rfl (.val (rd_some' hrd) (.val (a := p.1) rfl (.bind (stepped_ev hR p.1 (i : Int)) (.val (rd_some' hrd) (.val (a := ()) rfl (.val (rd_some' hrd) (.val (a := p.2) rfl (.val h3 (.val h4 (.bind hcon (.bind (.no rfl (.now _)) (.now' ?_))))))))))))))
      rw [hww]
    · have e : addQ P (dlT c t p i) = P ++ [dlT c t p i] := if_neg hq
      rw [e] at ha ⊢
      rw [decide_eq_false (fun h => hq (mem_pl.1 h))] at hcon
      refine .step ?_ (ih (i + 1) _ (by omega) ha (by rw [List.getElem?_append_left (get_lt hp)]; exact hp))
      simp only [Together50.l0]
      refine .yes (decide_eq_true (by omega)) (.val (rd_some' hrd) (.val (a := ()) rfl (.val (rd_some' hrd) (.val (a := p.1) rfl (.bind (stepped_ev hR p.1 (i : Int)) (.val (rd_some' hrd) (.val (a := ()) rfl (.val (rd_some' hrd) (.val (a := p.2) rfl (.val h3 (.val h4 (.bind hcon (.bind (.yes rfl (.val (a := ()) ?_ (.now _))) (.now' ?_))))))))))))))
      · rw [if_pos (room_ok (by rw [List.length_map]; simp only [List.length_cons, List.length_nil]; omega))]
      · rw [hww, List.map_append]; rfl
theorem allT (hc : Both c t B) {s : Pr} : ∀ (n k : Nat) (P : List Pr), k + n = 2049 → k ≤ P.length → Cl c t B s P →
    Gp.Lp (fun j => Together50.l1 j) (c, t, (), (k : Int), P.map pl) ((), (allL c t B n P k).map pl) := by
  have hins := hc.in0
  have hB := hc.b16
  intro n
  induction n with
  | zero =>
    intro k P hk hkP h
    have := dom_len hc h.dif h.dom
    omega
  | succ n ih =>
    intro k P hk hkP h
    have hPl := dom_len hc h.dif h.dom
    unfold allL
    cases hp : P[k]? with
    | none =>
      have hle : P.length ≤ k := List.getElem?_eq_none_iff.1 hp
      refine .done ?_
      simp only [Together50.l1]
      exact .no (by rw [List.length_map]; exact decide_eq_false (by omega)) (.now _)
    | some p =>
      have hlt := get_lt hp
      have e2 := rowT hc (k := k) (p := p) B 0 P (by omega) h hp
      obtain ⟨a, ⟨r, b⟩, d⟩ := rowL_ok hc B 0 P (by omega) h (get_mem hp)
      have hnext := ih (k + 1) (rowL c t p P B 0) (by omega) (by rw [b, List.length_append]; omega) a
      refine .step ?_ hnext
      simp only [Together50.l1]
      refine .yes (by rw [List.length_map]; exact decide_eq_true (by omega)) (.val (a := (B : Int)) (by rw [if_neg (by omega), hc.sh]) (.bind e2.ev (.now' ?_)))
      rw [w64_succ (by omega)]
end
end Go.Proofs.Ytofendipdfepoaa.Ef

/- Shortest words that tell a circuit from a table: the reference's pairs and distances. No program in sight. -/
set_option linter.unusedVariables false
set_option maxRecDepth 100000
noncomputable section
namespace Go.Proofs.Ytofendipdfepoaa.Ef
open Go Go.Proofs.Ytofendipdfepoaa.Gp

abbrev pK : K := .st (.pair (.int .i64) (.int .i64))
abbrev BMap := List (Pr × Bool)
abbrev FMap := List (Pr × Int)
structure Seen (P : List Pr) (m : BMap) : Prop where
  get : ∀ q : Pr, mget pK .bool m q = bAt P q
theorem Seen.add {P : List Pr} {m : BMap} (h : Seen P m) (q : Pr) : Seen (P ++ [q]) (mput pK .bool m q true) := ⟨fun x => by
  by_cases hx : x = q
  · subst hx
    have e : bAt (P ++ [x]) x = some true := if_pos (by simp)
    exact (mget_self (kk := pK) (kv := .bool) rfl).trans e.symm
  · refine (mget_other (kk := pK) (kv := .bool) rfl hx).trans ((h.get x).trans ?_)
    unfold bAt
    by_cases hm : x ∈ P
    · rw [if_pos hm, if_pos (by simp [hm])]
    · rw [if_neg hm, if_neg (by simp [hm, hx])]⟩
theorem box_ev {c : Cir} (hR : Right c) (s : Int) (i : Nat) : Ev (fun k => circuitBox1117 k s (i : Int) c) (((outN c s i : Int), (nxtN c s i : Int), ()), ()) := by
  unfold circuitBox1117
  exact .bind (stepped_ev hR s (i : Int)) (.now _)
theorem tab_ev {c : Cir} {t : Tab} {B : Nat} (hc : Both c t B) {p : Pr} (hp : DomT c t p) {i : Nat} (hi : i < B) : Ev (fun k => Told190 k p.2 (i : Int) t) (((cellAt t p.2 i).1, (cellAt t p.2 i).2, ()), ()) := by
  obtain ⟨x, y, rfl, hx, hy⟩ := hp
  obtain ⟨r, h3, h4⟩ := cell_rd hc.tab (s := (y : Int)) (by omega) (by omega) (i := i) (by have := hc.b; omega)
  unfold Told190
  exact .val h3 (.val h4 (.val h3 (.val h4 (.now _))))
section
variable {c : Cir} {t : Tab} {B : Nat}
theorem rowR (hc : Both c t B) {s : Pr} {k : Nat} {p : Pr} : ∀ (n i : Nat) (P : List Pr) (m : BMap), i + n = B → Cl c t B s P → P[k]? = some p → Seen P m →
    ∃ m', Seen (rowL c t p P n i) m' ∧ Gp.Lp (fun j => shortest88.l0 j (k : Int) (B : Int)) ((c, ()), (t, ()), (), (), (i : Int), P, m) ((c, ()), (t, ()), (), (), rowL c t p P n i, m') := by
  have hB := hc.b16
  have hR := right_of c hc.fault
  intro n
  induction n with
  | zero =>
    intro i P m hi h hp hm
    have : i = B := by omega
    subst this
    refine ⟨m, hm, .done ?_⟩
    simp only [shortest88.l0]
    exact .no (by simp) (.now _)
  | succ n ih =>
    intro i P m hi h hp hm
    have hPl := dom_len hc h.dif h.dom
    have hww : w64 ((i : Int) + 1) = ((i + 1 : Nat) : Int) := w64_succ (by omega)
    have hdp := h.dom p (get_mem hp)
    have ha := h.add hc (get_mem hp) (i := i) (by omega)
    show ∃ m', Seen (rowL c t p (addQ P (dlT c t p i)) n (i + 1)) m' ∧ Gp.Lp (fun j => shortest88.l0 j (k : Int) (B : Int)) ((c, ()), (t, ()), (), (), (i : Int), P, m) ((c, ()), (t, ()), (), (), rowL c t p (addQ P (dlT c t p i)) n (i + 1), m')
    by_cases hq : dlT c t p i ∈ P
    · have hg : Option.getD (α := Bool) (mget pK .bool m (dlT c t p i)) false = true := congrArg (fun (o : Option Bool) => Option.getD o false) ((hm.get _).trans (if_pos hq))
      have e : addQ P (dlT c t p i) = P := if_pos hq
      rw [e] at ha ⊢
      obtain ⟨m', e1, e2⟩ := ih (i + 1) P m (by omega) ha hp hm
      refine ⟨m', e1, .step ?_ e2⟩
      simp only [shortest88.l0]
      refine .yes (decide_eq_true (by omega)) (.val (rd_some' hp) (.val (rd_some' hp) (.bind (box_ev hR p.1 i) (.val (rd_some' hp) (.val (rd_some' hp) (.bind (tab_ev hc hdp (by omega)) (.bind (a := ((c, ()), (t, ()), (), (), P, m)) (.no (congrArg (fun (x : Bool) => !x) hg) (.now _)) (.now' ?_))))))))
      rw [hww]
    · have hg : Option.getD (α := Bool) (mget pK .bool m (dlT c t p i)) false = false := congrArg (fun (o : Option Bool) => Option.getD o false) ((hm.get _).trans (if_neg hq))
      have e : addQ P (dlT c t p i) = P ++ [dlT c t p i] := if_neg hq
      rw [e] at ha ⊢
      obtain ⟨m', e1, e2⟩ := ih (i + 1) _ _ (by omega) ha (by rw [List.getElem?_append_left (get_lt hp)]; exact hp) (hm.add _)
      refine ⟨m', e1, .step ?_ e2⟩
      simp only [shortest88.l0]
      refine .yes (decide_eq_true (by omega)) (.val (rd_some' hp) (.val (rd_some' hp) (.bind (box_ev hR p.1 i) (.val (rd_some' hp) (.val (rd_some' hp) (.bind (tab_ev hc hdp (by omega)) (.bind (a := ((c, ()), (t, ()), (), (), P ++ [dlT c t p i], mput pK .bool m (dlT c t p i) true)) (.yes (congrArg (fun (x : Bool) => !x) hg) (.val (a := ()) ?_ (.now _))) (.now' ?_))))))))
      · rw [if_pos (room_ok (by simp only [List.length_cons, List.length_nil]; omega))]
      · rw [hww]
theorem searchS (hc : Both c t B) {s : Pr} : ∀ (n k : Nat) (P : List Pr) (m : BMap), k + n = 2049 → k ≤ P.length → Cl c t B s P → Seen P m →
    Gp.Lp (fun j => shortest88.l1 j c.1) ((c, ()), (t, ()), (), (), (k : Int), P, m) ((c, ()), (t, ()), (), allL c t B n P k) := by
  have hins := hc.in0
  have hB := hc.b16
  intro n
  induction n with
  | zero =>
    intro k P m hk hkP h hm
    have := dom_len hc h.dif h.dom
    omega
  | succ n ih =>
    intro k P m hk hkP h hm
    have hPl := dom_len hc h.dif h.dom
    unfold allL
    cases hp : P[k]? with
    | none =>
      have hle : P.length ≤ k := List.getElem?_eq_none_iff.1 hp
      refine .done ?_
      simp only [shortest88.l1]
      exact .no (decide_eq_false (by omega)) (.now _)
    | some p =>
      have hlt := get_lt hp
      obtain ⟨m', e1, e2⟩ := rowR hc (k := k) (p := p) B 0 P m (by omega) h hp hm
      obtain ⟨a, ⟨r, b⟩, d⟩ := rowL_ok hc B 0 P (by omega) h (get_mem hp)
      have hnext := ih (k + 1) (rowL c t p P B 0) m' (by omega) (by rw [b, List.length_append]; omega) a e1
      refine .step ?_ hnext
      simp only [shortest88.l1]
      refine .yes (decide_eq_true (by omega)) (.val (a := (B : Int)) (by rw [if_neg (by omega), hc.sh]) (.bind e2.ev (.now' ?_)))
      rw [w64_succ (by omega)]
theorem Clo.len (hc : Both c t B) {s : Pr} {l : List Pr} (h : Clo c t B s l) : l.length ≤ 2048 := dom_len hc h.dif h.dom
-- distances
structure Dist (F : Fr) (m : FMap) : Prop where
  get : ∀ p : Pr, mget pK (.int .i64) m p = (F p).map fun d => (d : Int)
theorem Dist.upd {F : Fr} {m : FMap} (h : Dist F m) (p : Pr) (d : Nat) : Dist (updF F p d) (mput pK (.int .i64) m p (d : Int)) := ⟨fun x => by
  by_cases hx : x = p
  · subst hx
    rw [updF_same]
    exact mget_self (kk := pK) (kv := .int .i64) rfl
  · rw [updF_other hx]
    exact (mget_other (kk := pK) (kv := .int .i64) rfl hx).trans (h.get x)⟩
abbrev FarC (c : Cir) (t : Tab) (B : Nat) := Far (dlT c t) (dfT c t) B
def checkC (c : Cir) (t : Tab) (F : Fr) (p : Pr) (i : Nat) : Prop := ∀ d, cand (dlT c t) (dfT c t) F p i = some d → ∃ o, F p = some o ∧ o ≤ d
def sumV (F : Fr) (l : List Pr) : Nat := sumF (fun x => vF (F x)) l
/-- within a pass over all pairs -/
structure Pass (c : Cir) (t : Tab) (B : Nat) (l : List Pr) (F0 : Fr) (k i : Nat) (F : Fr) (ch : Bool) : Prop where
  far : FarC c t B l F
  le : sumV F l ≤ sumV F0 l
  yes : ch = true → sumV F l < sumV F0 l
  no : ch = false → F = F0 ∧ ∀ (k' i' : Nat) (p : Pr), Done k i k' i' → i' < B → l[k']? = some p → checkC c t F0 p i'
abbrev S2 := (Cir × Unit) × (Tab × Unit) × Unit × Unit × Bool × Pr × Unit × List Pr × FMap
theorem relax (hc : Both c t B) {s : Pr} {l : List Pr} (hl : Clo c t B s l) {F0 F : Fr} {k i : Nat} {ch : Bool} {m : FMap} (h : Pass c t B l F0 k i F ch) (hm : Dist F m) (hi : i < B) {p : Pr} (hp : l[k]? = some p) :
    ∃ F' ch' m', Pass c t B l F0 k (i + 1) F' ch' ∧ Dist F' m' ∧ Ev (fun j => shortest88.l2 j (B : Int) ((c, ()), (t, ()), (), (), ch, p, (), (i : Int), l, m)) (.inl ((c, ()), (t, ()), (), (), ch', p, (), ((i + 1 : Nat) : Int), l, m')) := by
  have hpl := get_mem hp
  have hB := hc.b16
  have hR := right_of c hc.fault
  have hdp := hl.dom p hpl
  have hww : w64 ((i : Int) + 1) = ((i + 1 : Nat) : Int) := w64_succ (by omega)
  have keep : (ch = false → checkC c t F p i) → Pass c t B l F0 k (i + 1) F ch := fun hcd => ⟨h.far, h.le, h.yes, fun hch => by
    obtain ⟨hF, hd⟩ := h.no hch
    refine ⟨hF, fun k' i' q hD hi' hq => ?_⟩
    by_cases hold : Done k i k' i'
    · exact hd k' i' q hold hi' hq
    · have : k' = k ∧ i' = i := by unfold Done at hD hold; omega
      obtain ⟨rfl, rfl⟩ := this
      rw [hp] at hq
      cases hq
      rw [← hF]
      exact hcd hch⟩
  -- what follows once the distance is known
  have tail : ∀ d : Nat, cand (dlT c t) (dfT c t) F p i = some d → d ≤ 2049 → ∃ F' ch' m', Pass c t B l F0 k (i + 1) F' ch' ∧ Dist F' m' ∧
      Ev (fun (_ : Nat) => (Option.bind (cond (cond (!(Option.isSome (mget pK (.int .i64) m p))) true (decide ((d : Int) < (Option.getD (α := Int) (mget pK (.int .i64) m p) (0 : Int)))))
        (some ((c, ()), (t, ()), (), (), true, p, (), l, (mput pK (.int .i64) m p (d : Int))))
        (some ((c, ()), (t, ()), (), (), ch, p, (), l, m))) fun ((a_10, b_10, _, _, changed_3, p_2, _, o0_9, o1_8) : S2) => some (a_10, b_10, (), (), changed_3, p_2, (), o0_9, o1_8) : Option S2)) ((c, ()), (t, ()), (), (), ch', p, (), l, m') := by
    intro d hcd hd65
    cases hF : F p with
    | none =>
      have hg : mget pK (.int .i64) m p = none := (hm.get p).trans (by rw [hF]; rfl)
      obtain ⟨f1, f2⟩ := h.far.upd hl.dif (hl.len hc) hpl hi hcd (fun o ho => by rw [hF] at ho; cases ho)
      refine ⟨updF F p d, true, _, ⟨f1, by have := h.le; unfold sumV at *; omega, fun _ => by have := h.le; unfold sumV at *; omega, fun e => by cases e⟩, hm.upd p d, .bind (.yes ?_ (.now _)) (.now _)⟩
      have : Option.isSome (mget pK (.int .i64) m p) = false := congrArg (fun (o : Option Int) => o.isSome) hg
      rw [this]; rfl
    | some o =>
      have hg : mget pK (.int .i64) m p = some (o : Int) := (hm.get p).trans (by rw [hF]; rfl)
      have g1 : Option.isSome (mget pK (.int .i64) m p) = true := congrArg (fun (o : Option Int) => o.isSome) hg
      have g2 : Option.getD (α := Int) (mget pK (.int .i64) m p) (0 : Int) = (o : Int) := congrArg (fun (o : Option Int) => Option.getD o 0) hg
      by_cases hlt : d < o
      · obtain ⟨f1, f2⟩ := h.far.upd hl.dif (hl.len hc) hpl hi hcd (fun o' ho => by rw [hF] at ho; cases ho; exact hlt)
        refine ⟨updF F p d, true, _, ⟨f1, by have := h.le; unfold sumV at *; omega, fun _ => by have := h.le; unfold sumV at *; omega, fun e => by cases e⟩, hm.upd p d, .bind (.yes ?_ (.now _)) (.now _)⟩
        rw [g1, g2, decide_eq_true (by omega)]; rfl
      · refine ⟨F, ch, m, keep (fun _ d' hd' => ?_), hm, .bind (.no ?_ (.now _)) (.now _)⟩
        · rw [hcd] at hd'
          cases hd'
          exact ⟨o, hF, by omega⟩
        · rw [g1, g2, decide_eq_false (by omega)]; rfl
  cases hd : dfT c t p i with
  | true =>
    have hcd : cand (dlT c t) (dfT c t) F p i = some 1 := if_pos hd
    have hne : ((outN c p.1 i : Int) == (cellAt t p.2 i).1) = false := by
      unfold dfT at hd
      simpa using hd
    obtain ⟨F', ch', m', t1, t2, t3⟩ := tail 1 hcd (by decide)
    refine ⟨F', ch', m', t1, t2, ?_⟩
    simp only [shortest88.l2]
    refine .yes (decide_eq_true (by omega)) (.bind (.bind (box_ev hR p.1 i) (.bind (tab_ev hc hdp (by omega)) (.joinL (S := Unit) (.no hne (.now _)) t3))) (.now' ?_))
    rw [hww]
  | false =>
    have heq : ((outN c p.1 i : Int) == (cellAt t p.2 i).1) = true := by
      unfold dfT at hd
      simpa using hd
    have hdn : ¬ dfT c t p i = true := by rw [hd]; decide
    cases hq : F (dlT c t p i) with
    | none =>
      have hg : mget pK (.int .i64) m (dlT c t p i) = none := (hm.get _).trans (by rw [hq]; rfl)
      refine ⟨F, ch, m, keep (fun _ d hcd => ?_), hm, ?_⟩
      · unfold cand at hcd
        rw [if_neg hdn, hq] at hcd
        cases hcd
      · simp only [shortest88.l2]
        refine .yes (decide_eq_true (by omega)) (.bind (.bind (box_ev hR p.1 i) (.bind (tab_ev hc hdp (by omega)) (.joinR (.yes heq (.yes (congrArg (fun (o : Option Int) => !o.isSome) hg) (.now _)))))) (.now' ?_))
        rw [hww]
    | some e =>
      have hg : mget pK (.int .i64) m (dlT c t p i) = some (e : Int) := (hm.get _).trans (by rw [hq]; rfl)
      have he := h.far.le hq
      have hle := hl.len hc
      have hcd : cand (dlT c t) (dfT c t) F p i = some (e + 1) := by unfold cand; rw [if_neg hdn, hq]; rfl
      obtain ⟨F', ch', m', t1, t2, t3⟩ := tail (e + 1) hcd (by omega)
      have hge : w64 ((Option.getD (α := Int) (mget pK (.int .i64) m (dlT c t p i)) (0 : Int)) + 1) = ((e + 1 : Nat) : Int) := by
        have : Option.getD (α := Int) (mget pK (.int .i64) m (dlT c t p i)) (0 : Int) = (e : Int) := congrArg (fun (o : Option Int) => Option.getD o 0) hg
        rw [this, w64_succ (by omega)]
      refine ⟨F', ch', m', t1, t2, ?_⟩
      simp only [shortest88.l2]
      refine .yes (decide_eq_true (by omega)) (.bind (.bind (box_ev hR p.1 i) (.bind (tab_ev hc hdp (by omega)) (.joinL (S := Unit) (a := ((c, ()), (t, ()), (), (), p, ((e + 1 : Nat) : Int), (), l, m)) (.yes heq (.no (congrArg (fun (o : Option Int) => !o.isSome) hg) (.now' ?_))) t3))) (.now' ?_))
      · have e2 : w64 ((Option.getD (α := Int) (mget pK (.int .i64) m ((nxtN c p.1 i : Int), (cellAt t p.2 i).2)) (0 : Int)) + 1) = ((e + 1 : Nat) : Int) := hge
        exact congrArg (fun (z : Int) => (Sum.inl ((c, ()), (t, ()), (), (), p, z, (), l, m) : ((Cir × Unit) × (Tab × Unit) × Unit × Unit × Pr × Int × Unit × List Pr × FMap) ⊕ S2)) e2
      · rw [hww]
end
end Go.Proofs.Ytofendipdfepoaa.Ef

/- Shortest words that tell two circuits apart: the reference's answer. No program in sight. -/
set_option linter.unusedVariables false
set_option maxRecDepth 100000
noncomputable section
namespace Go.Proofs.Ytofendipdfepoaa.Ef
open Go Go.Proofs.Ytofendipdfepoaa.Gp

theorem Dist.no {F : Fr} {m : FMap} (h : Dist F m) {p : Pr} (hF : F p = none) : Option.isSome (mget pK (.int .i64) m p) = false := by
  have hg : mget pK (.int .i64) m p = none := (h.get p).trans (by rw [hF]; rfl)
  exact congrArg (fun (o : Option Int) => o.isSome) hg
theorem Dist.is {F : Fr} {m : FMap} (h : Dist F m) {p : Pr} {d : Nat} (hF : F p = some d) : Option.isSome (mget pK (.int .i64) m p) = true := by
  have hg : mget pK (.int .i64) m p = some (d : Int) := (h.get p).trans (by rw [hF]; rfl)
  exact congrArg (fun (o : Option Int) => o.isSome) hg
theorem Dist.at {F : Fr} {m : FMap} (h : Dist F m) {p : Pr} {d : Nat} (hF : F p = some d) : Option.getD (α := Int) (mget pK (.int .i64) m p) (0 : Int) = (d : Int) := by
  have hg : mget pK (.int .i64) m p = some (d : Int) := (h.get p).trans (by rw [hF]; rfl)
  exact congrArg (fun (o : Option Int) => Option.getD o 0) hg
section
variable {c : Cir} {t : Tab} {B : Nat}
theorem rowF2 (hc : Both c t B) {s : Pr} {l : List Pr} (hl : Clo c t B s l) {F0 : Fr} {k : Nat} {p : Pr} (hp : l[k]? = some p) : ∀ (n i : Nat) (F : Fr) (ch : Bool) (m : FMap), i + n = B → Pass c t B l F0 k i F ch → Dist F m →
    ∃ F' ch' m', Pass c t B l F0 k B F' ch' ∧ Dist F' m' ∧ Gp.Lp (fun j => shortest88.l2 j (B : Int)) ((c, ()), (t, ()), (), (), ch, p, (), (i : Int), l, m) ((c, ()), (t, ()), (), (), ch', (), l, m') := by
  intro n
  induction n with
  | zero =>
    intro i F ch m hi h hm
    have : i = B := by omega
    subst this
    refine ⟨F, ch, m, h, hm, .done ?_⟩
    simp only [shortest88.l2]
    exact .no (by simp) (.now _)
  | succ n ih =>
    intro i F ch m hi h hm
    obtain ⟨F1, ch1, m1, h1, hm1, e1⟩ := relax hc hl h hm (by omega) hp
    obtain ⟨F2, ch2, m2, h2, hm2, e2⟩ := ih (i + 1) F1 ch1 m1 (by omega) h1 hm1
    exact ⟨F2, ch2, m2, h2, hm2, .step e1 e2⟩
theorem passF (hc : Both c t B) {s : Pr} {l : List Pr} (hl : Clo c t B s l) {F0 : Fr} : ∀ (n k : Nat) (F : Fr) (ch : Bool) (m : FMap), k + n = l.length → Pass c t B l F0 k 0 F ch → Dist F m →
    ∃ F' ch' m', Pass c t B l F0 l.length 0 F' ch' ∧ Dist F' m' ∧ Gp.Lp (fun j => shortest88.l3 j c.1 l) ((c, ()), (t, ()), (), (), ch, (), (k : Int), l, m) ((c, ()), (t, ()), (), (), ch', l, m') := by
  have hins := hc.in0
  have hlen := hl.len hc
  intro n
  induction n with
  | zero =>
    intro k F ch m hk h hm
    have : k = l.length := by omega
    subst this
    refine ⟨F, ch, m, h, hm, .done ?_⟩
    simp only [shortest88.l3]
    exact .no (by simp) (.now _)
  | succ n ih =>
    intro k F ch m hk h hm
    have hp : l[k]? = some l[k] := List.getElem?_eq_getElem (by omega)
    generalize l[k]'(by omega) = p at hp
    obtain ⟨F1, ch1, m1, h1, hm1, e1⟩ := rowF2 hc hl hp B 0 F ch m (by omega) h hm
    have h1' : Pass c t B l F0 (k + 1) 0 F1 ch1 := ⟨h1.far, h1.le, h1.yes, fun hc => by
      obtain ⟨g1, g2⟩ := h1.no hc
      exact ⟨g1, fun k' i' q hD hi' hq => g2 k' i' q (by unfold Done at hD ⊢; omega) hi' hq⟩⟩
    obtain ⟨F2, ch2, m2, h2, hm2, e2⟩ := ih (k + 1) F1 ch1 m1 (by omega) h1' hm1
    refine ⟨F2, ch2, m2, h2, hm2, .step ?_ e2⟩
    simp only [shortest88.l3]
    refine .yes (decide_eq_true (by omega)) (.val (rd_some' hp) (.val (rd_some' hp) (.val (a := (B : Int)) (by rw [if_neg (by omega), hc.sh]) (.bind e1.ev (.now' ?_)))))
    rw [w64_succ (by omega)]
/-- until nothing changes -/
theorem fixF (hc : Both c t B) {s : Pr} {l : List Pr} (hl : Clo c t B s l) : ∀ (n : Nat) (F : Fr) (m : FMap), sumV F l < n → FarC c t B l F → Dist F m →
    ∃ F' m', FarC c t B l F' ∧ Fix (dlT c t) (dfT c t) B l F' ∧ Dist F' m' ∧ Gp.Lp (fun j => shortest88.l4 j c.1) ((c, ()), (t, ()), (), (), true, l, m) ((c, ()), (t, ()), (), m') := by
  intro n
  induction n with
  | zero => intro F m h; omega
  | succ n ih =>
    intro F m hn h hm
    obtain ⟨F1, ch1, m1, h1, hm1, e1⟩ := passF hc hl (F0 := F) l.length 0 F false m (by omega) ⟨h, Nat.le_refl _, fun e => (by cases e), fun _ => ⟨rfl, fun k' i' p hD => by unfold Done at hD; omega⟩⟩ hm
    have hs : Ev (fun j => shortest88.l4 j c.1 ((c, ()), (t, ()), (), (), true, l, m)) (.inl ((c, ()), (t, ()), (), (), ch1, l, m1)) := by
      simp only [shortest88.l4]
      exact .yes rfl (.bind e1.ev (.now _))
    cases ch1 with
    | true =>
      have := h1.yes rfl
      obtain ⟨F2, m2, g1, g2, g3, g4⟩ := ih F1 m1 (by omega) h1.far hm1
      exact ⟨F2, m2, g1, g2, g3, .step hs g4⟩
    | false =>
      obtain ⟨hF, hc⟩ := h1.no rfl
      refine ⟨F1, m1, h1.far, fun p hp i hi d hd => ?_, hm1, .step hs (.done ?_)⟩
      · obtain ⟨k, hk⟩ := List.getElem?_of_mem hp
        have := hc k i p (.inl (get_lt hk)) hi hk
        rw [hF] at hd ⊢
        exact this d hd
      · simp only [shortest88.l4]
        exact .no rfl (.now _)
abbrev ToldV := (List Int × Bool × Unit) × Unit
def told (w : List Nat) : ToldV := ((ints w, true, ()), ())
abbrev S6 := (Cir × Unit) × (Tab × Unit) × Unit × Unit × Unit × FMap × Pr × List Int
/-- letters that lead nowhere -/
theorem skip5 (hc : Both c t B) {F : Fr} {m : FMap} (hm : Dist F m) {p : Pr} {d : Nat} (hdp : DomT c t p) (hd : F p = some d) (hd1 : 1 ≤ d) (hd2 : d ≤ 5000) (o : List Int) {i : Nat} (hi : i ≤ B) (h : ∀ j, j < i → ¬ (dfT c t p j = true ∧ d = 1) ∧ ¬ (dfT c t p j = false ∧ F (dlT c t p j) = some (d - 1))) {r : S6 ⊕ (S6 ⊕ ToldV)}
    (he : Gp.Lp (fun k => shortest88.l5 k (B : Int)) ((c, ()), (t, ()), (), (), (), (i : Int), m, p, o) r) : ∀ (n j : Nat), j + n = i → Gp.Lp (fun k => shortest88.l5 k (B : Int)) ((c, ()), (t, ()), (), (), (), (j : Int), m, p, o) r := by
  have hB := hc.b16
  have hR := right_of c hc.fault
  intro n
  induction n with
  | zero => intro j hj; rw [show j = i by omega]; exact he
  | succ n ih =>
    intro j hj
    obtain ⟨h1, h2⟩ := h j (by omega)
    refine .step ?_ (ih (j + 1) (by omega))
    have hgp : Option.getD (α := Int) (mget pK (.int .i64) m p) (0 : Int) = (d : Int) := hm.at hd
    have hgq := hm.get (dlT c t p j)
    simp only [shortest88.l5]
    refine .yes (decide_eq_true (by omega)) (.bind (box_ev hR p.1 j) (.bind (tab_ev hc hdp (by omega)) (.no ?_ (.no ?_ (.now' ?_)))))
    · show cond (dfT c t p j) (Option.getD (α := Int) (mget pK (.int .i64) m p) (0 : Int) == 1) false = false
      rw [hgp]
      cases hdf : dfT c t p j with
      | false => rfl
      | true => exact beq_false_of_ne (fun e => h1 ⟨hdf, by omega⟩)
    · show cond (cond ((outN c p.1 j : Int) == (cellAt t p.2 j).1) (Option.isSome (mget pK (.int .i64) m (dlT c t p j))) false) (Option.getD (α := Int) (mget pK (.int .i64) m (dlT c t p j)) (0 : Int) == w64 (Option.getD (α := Int) (mget pK (.int .i64) m p) (0 : Int) - 1)) false = false
      rw [hgp]
      cases hdf : dfT c t p j with
      | true =>
        have hne : ((outN c p.1 j : Int) == (cellAt t p.2 j).1) = false := by unfold dfT at hdf; simpa using hdf
        rw [hne]; rfl
      | false =>
        have heq : ((outN c p.1 j : Int) == (cellAt t p.2 j).1) = true := by unfold dfT at hdf; simpa using hdf
        rw [heq]
        cases hF : F (dlT c t p j) with
        | none =>
          have : Option.isSome (mget pK (.int .i64) m (dlT c t p j)) = false := hm.no hF
          rw [this]; rfl
        | some e =>
          have g1 : Option.isSome (mget pK (.int .i64) m (dlT c t p j)) = true := hm.is hF
          have g2 : Option.getD (α := Int) (mget pK (.int .i64) m (dlT c t p j)) (0 : Int) = (e : Int) := hm.at hF
          rw [g1, g2, w64_id (by omega) (by omega)]
          exact beq_false_of_ne (fun he => h2 ⟨hdf, by rw [hF]; exact congrArg some (by omega)⟩)
    · rw [w64_succ (by omega)]
theorem greedy (hc : Both c t B) {s : Pr} {l : List Pr} (hl : Clo c t B s l) {F : Fr} {m : FMap} (hF : FarC c t B l F) (hx : Fix (dlT c t) (dfT c t) B l F) (hm : Dist F m) : ∀ (d : Nat) (p : Pr) (o : List Nat), p ∈ l → F p = some (d + 1) → o.length + d ≤ 5000 →
    ∃ w, Best (dl := dlT c t) (df := dfT c t) (B := B) p (d + 1) w ∧ Gp.Lp (fun k => shortest88.l6 k c.1) ((c, ()), (t, ()), (), (), (), m, p, ints o) (told (o ++ w)) := by
  have hB := hc.b16
  have hR := right_of c hc.fault
  have hins := hc.in0
  intro d
  induction d with
  | zero =>
    intro p o hp hd ho
    have hdp := hl.dom p hp
    obtain ⟨i, i1, i2, i3⟩ := far_one hF hd
    refine ⟨[i], best_one i1 i2 i3, .done ?_⟩
    have hgp : Option.getD (α := Int) (mget pK (.int .i64) m p) (0 : Int) = 1 := hm.at hd
    have hend : Gp.Lp (fun k => shortest88.l5 k (B : Int)) ((c, ()), (t, ()), (), (), (), (i : Int), m, p, ints o) (.inr (.inr (told (o ++ [i])))) := by
      refine .done ?_
      simp only [shortest88.l5]
      refine .yes (decide_eq_true (by omega)) (.bind (box_ev hR p.1 i) (.bind (tab_ev hc hdp (by omega)) (.yes ?_ (.val (a := ()) ?_ (.now' ?_)))))
      · show cond (dfT c t p i) (Option.getD (α := Int) (mget pK (.int .i64) m p) (0 : Int) == 1) false = true
        rw [hgp, i2]; rfl
      · rw [if_pos (room_ok (by rw [intsLen]; simp only [List.length_cons, List.length_nil]; omega))]
      · unfold told
        rw [← intsSnoc]
    have hlp := skip5 hc hm hdp hd (Nat.le_refl _) (by decide) (ints o) (i := i) (by omega) (fun j hj => ⟨fun h => (by rw [i3 j hj] at h; cases h.1), fun h => (by
      obtain ⟨w, h1, h2⟩ := hF.snd _ _ h.2
      have := h2.pos (dlT c t) (dfT c t) B
      omega)⟩) hend i 0 (by omega)
    simp only [shortest88.l6]
    exact .val (a := (B : Int)) (by rw [if_neg (by omega), hc.sh]) (.joinR hlp.ev)
  | succ d ih =>
    intro p o hp hd ho
    have hdp := hl.dom p hp
    have hle := hF.le hd
    have hlen := hl.len hc
    obtain ⟨h0, i, i1, i2, i3⟩ := far_more hF hx hl.cl hp hd
    have hq := hl.cl p hp i i1
    obtain ⟨w, w1, w2⟩ := ih (dlT c t p i) (o ++ [i]) hq i2 (by rw [List.length_append, List.length_singleton]; omega)
    refine ⟨i :: w, best_more hB hF hx hl.cl hp hd i1 h0 i3 w1, ?_⟩
    have hgp : Option.getD (α := Int) (mget pK (.int .i64) m p) (0 : Int) = ((d + 2 : Nat) : Int) := hm.at hd
    have hgq := hm.get (dlT c t p i)
    have g1 : Option.isSome (mget pK (.int .i64) m (dlT c t p i)) = true := hm.is i2
    have g2 : Option.getD (α := Int) (mget pK (.int .i64) m (dlT c t p i)) (0 : Int) = ((d + 1 : Nat) : Int) := hm.at i2
    have heq : ((outN c p.1 i : Int) == (cellAt t p.2 i).1) = true := by have := h0 i i1; unfold dfT at this; simpa using this
    have hend : Gp.Lp (fun k => shortest88.l5 k (B : Int)) ((c, ()), (t, ()), (), (), (), (i : Int), m, p, ints o) (.inl ((c, ()), (t, ()), (), (), (), m, dlT c t p i, ints (o ++ [i]))) := by
      refine .done ?_
      simp only [shortest88.l5]
      refine .yes (decide_eq_true (by omega)) (.bind (box_ev hR p.1 i) (.bind (tab_ev hc hdp (by omega)) (.no ?_ (.yes ?_ (.val (a := ()) ?_ (.now' ?_))))))
      · show cond (dfT c t p i) _ false = false
        rw [h0 i i1]; rfl
      · show cond (cond ((outN c p.1 i : Int) == (cellAt t p.2 i).1) (Option.isSome (mget pK (.int .i64) m (dlT c t p i))) false) (Option.getD (α := Int) (mget pK (.int .i64) m (dlT c t p i)) (0 : Int) == w64 (Option.getD (α := Int) (mget pK (.int .i64) m p) (0 : Int) - 1)) false = true
        rw [heq, g1, g2, hgp, w64_id (by omega) (by omega), show ((d + 2 : Nat) : Int) - 1 = ((d + 1 : Nat) : Int) by omega]
        simp
      · rw [if_pos (room_ok (by rw [intsLen]; simp only [List.length_cons, List.length_nil]; omega))]
      · rw [← intsSnoc]; rfl
    have hlp := skip5 hc hm hdp hd (by omega) (by omega) (ints o) (i := i) (by omega) (fun j hj => ⟨fun h => (by omega), fun h => i3 j hj h.2⟩) hend i 0 (by omega)
    rw [show o ++ i :: w = (o ++ [i]) ++ w by simp]
    refine .step ?_ w2
    simp only [shortest88.l6]
    exact .val (a := (B : Int)) (by rw [if_neg (by omega), hc.sh]) (.joinL (S := Unit) hlp.ev (.now _))
theorem sumV_le (F : Fr) (h : ∀ p d, F p = some d → d ≤ 5000) : ∀ l : List Pr, sumV F l ≤ 5000 * l.length
  | [] => Nat.le_refl _
  | p :: l => by
    have := sumV_le F h l
    have hv : vF (F p) ≤ 5000 := by
      cases hF : F p with
      | none => exact Nat.le_refl _
      | some d => exact h p d hF
    show vF (F p) + sumV F l ≤ 5000 * (l.length + 1)
    omega
/-- what the reference says of a right pair -/
theorem told_ev (hc : Both c t B) :
    (∃ w, Least (dlT c t) (dfT c t) B (startT c) w ∧ Ev (fun k => Told48 k c t) (told w)) ∨
    ((∀ w, ¬ Tells (dlT c t) (dfT c t) B (startT c) w) ∧ Ev (fun k => Told48 k c t) (([], false, ()), ())) := by
  have hda := start_dom hc
  have hB := hc.b16
  have hia := init_len hc.fault
  have hcl0 : Cl c t B (startT c) [startT c] := ⟨by simp, fun p hp => by rw [List.mem_singleton.1 hp]; exact hda, by simp, fun p hp => ⟨[], fun j hj => (by cases hj), by rw [List.mem_singleton.1 hp]; rfl⟩⟩
  have hseen : Seen [startT c] (mput pK .bool ([] : BMap) (startT c) true) := Seen.add (P := []) (m := []) ⟨fun q => rfl⟩ (startT c)
  have e1 := searchS hc 2049 0 [startT c] _ (by omega) (Nat.zero_le _) hcl0 hseen
  have hl := allL_ok hc 2049 0 [startT c] (by omega) (Nat.zero_le _) hcl0 (fun k' p h => by omega)
  generalize allL c t B 2049 [startT c] 0 = l at e1 hl
  obtain ⟨F, m, hF, hx, hm, e2⟩ := fixF hc hl (5000 * l.length + 1) (fun _ => none) [] (by have := sumV_le (fun _ => none) (fun p d h => by cases h) l; omega) (far0 _ _ _ l) ⟨fun p => rfl⟩
  have pre : ∀ {r : ToldV}, Ev (fun k => (cond (!(Option.isSome (mget pK (.int .i64) m (startT c)))) (some (([], false, ()), ())) (loopN (shortest88.l6 k c.1) k ((c, ()), (t, ()), (), (), (), m, startT c, [])) : Option ToldV)) r → Ev (fun k => Told48 k c t) r := by
    intro r hr
    unfold Told48 circuitBox89
    refine .val rfl (.bind (first_ev c (by omega)) (.bind (a := r) ?_ (.now _)))
    unfold shortest88
    exact .bind e1.ev (.bind e2.ev hr)
  cases hs : F (startT c) with
  | none =>
    refine .inr ⟨far_none hx hl.cl hl.st hs, pre (.yes ?_ (.now _))⟩
    have : Option.isSome (mget pK (.int .i64) m (startT c)) = false := hm.no hs
    rw [this]; rfl
  | some d =>
    have hd1 : 1 ≤ d := by
      obtain ⟨w, h1, h2⟩ := hF.snd _ _ hs
      have := h2.pos (dlT c t) (dfT c t) B
      omega
    obtain ⟨d', rfl⟩ : ∃ d', d = d' + 1 := ⟨d - 1, by omega⟩
    have hle := hF.le hs
    have hlen := hl.len hc
    obtain ⟨w, w1, w2⟩ := greedy hc hl hF hx hm d' (startT c) [] hl.st hs (by simp only [List.length_nil]; omega)
    refine .inl ⟨w, best_least hB hF hx hl.cl hl.st hs w1, pre (.no ?_ w2.ev)⟩
    have : Option.isSome (mget pK (.int .i64) m (startT c)) = true := hm.is hs
    rw [this]; rfl
end
end Go.Proofs.Ytofendipdfepoaa.Ef

/- Circuits and tables that do the same: certificates in order; the law. No program in sight. -/
set_option linter.unusedVariables false
set_option maxRecDepth 100000
noncomputable section
namespace Go.Proofs.Ytofendipdfepoaa.Ef
open Go Go.Proofs.Ytofendipdfepoaa.Gp Go.Sort Go.Shelf

-- the two orders
def LT2 (p q : Pr) : Prop := p.1 < q.1 ∨ (p.1 = q.1 ∧ p.2 < q.2)
instance (p q : Pr) : Decidable (LT2 p q) := by unfold LT2; infer_instance
def Keyed (cf : List Int → List Int → Int) (P : List Pr) : Prop := ∀ p ∈ P, ∀ q ∈ P, ltOf cf (pl p) (pl q) = decide (LT2 p q)
theorem swo_of {cf : List Int → List Int → Int} {P : List Pr} (h : Keyed cf P) : SwoOn cf (P.map pl) := by
  refine ⟨fun x hx => ?_, fun x hx y hy z hz => ?_, fun x hx y hy z hz => ?_⟩
  · obtain ⟨p, hp, rfl⟩ := List.mem_map.1 hx
    rw [h p hp p hp]
    exact decide_eq_false (by unfold LT2; omega)
  · obtain ⟨p, hp, rfl⟩ := List.mem_map.1 hx
    obtain ⟨q, hq, rfl⟩ := List.mem_map.1 hy
    obtain ⟨r, hr, rfl⟩ := List.mem_map.1 hz
    rw [h p hp q hq, h q hq r hr, h p hp r hr]
    simp only [decide_eq_true_iff]
    unfold LT2
    omega
  · obtain ⟨p, hp, rfl⟩ := List.mem_map.1 hx
    obtain ⟨q, hq, rfl⟩ := List.mem_map.1 hy
    obtain ⟨r, hr, rfl⟩ := List.mem_map.1 hz
    rw [h p hp q hq, h q hq r hr, h p hp r hr]
    simp only [decide_eq_false_iff_not]
    unfold LT2
    omega
theorem parted_of {cf : List Int → List Int → Int} {P : List Pr} (h : Keyed cf P) (nd : P.Nodup) : Parted cf (P.map pl) := by
  unfold Parted
  rw [List.pairwise_map]
  refine List.Pairwise.imp_of_mem ?_ nd
  intro p q hp hq hne
  rw [h p hp q hq, h q hq p hp]
  simp only [decide_eq_true_iff]
  have : ¬ (p.1 = q.1 ∧ p.2 = q.2) := fun e => hne (Prod.ext e.1 e.2)
  unfold LT2
  omega
theorem sort_same {cf cg : List Int → List Int → Int} {P : List Pr} (h : Keyed cf P) (g : Keyed cg P) : sortBy cf (P.map pl) = sortBy cg (P.map pl) := by
  unfold sortBy
  have := List.map_mergeSort (r := fun x y => !(ltOf cf) y x) (s := fun x y => !(ltOf cg) y x) (f := id) (l := P.map pl) (fun a ha b hb => by
    obtain ⟨p, hp, rfl⟩ := List.mem_map.1 ha
    obtain ⟨q, hq, rfl⟩ := List.mem_map.1 hb
    show (!(ltOf cf) (pl q) (pl p)) = (!(ltOf cg) (pl q) (pl p))
    rw [h q hq p hp, g q hq p hp])
  rw [List.map_id, List.map_id] at this
  exact this
theorem keyEq (P : List Pr) : Keyed cfEq P := by
  intro p _ q _
  unfold ltOf
  refine decide_eq_decide.2 ?_
  unfold cfEq cmpZ LT2
  show (if (if p.1 < q.1 then (-1 : Int) else if q.1 < p.1 then 1 else 0) = 0 then (if p.2 < q.2 then (-1 : Int) else if q.2 < p.2 then 1 else 0) else (if p.1 < q.1 then (-1 : Int) else if q.1 < p.1 then 1 else 0)) < 0 ↔ _
  by_cases h1 : p.1 < q.1
  · simp [h1]
  · by_cases h2 : q.1 < p.1
    · simp only [h1, h2]
      simp
      omega
    · have h3 : p.1 = q.1 := by omega
      by_cases h4 : p.2 < q.2
      · simp [h1, h2, h3, h4]
      · by_cases h5 : q.2 < p.2
        · simp [h1, h2, h3, h4, h5]
        · simp [h1, h2, h3, h4, h5]
theorem keyRf {P : List Pr} (h : ∀ p ∈ P, 0 ≤ p.1 ∧ p.1 < 32 ∧ 0 ≤ p.2 ∧ p.2 < 64) : Keyed cfRf P := by
  intro p hp q hq
  obtain ⟨a1, a2, a3, a4⟩ := h p hp
  obtain ⟨b1, b2, b3, b4⟩ := h q hq
  unfold ltOf
  refine decide_eq_decide.2 ?_
  have e : cfRf (pl p) (pl q) = (p.1 - q.1) * 100 + p.2 - q.2 := by
    show RowKit.wrap64 (RowKit.wrap64 (RowKit.wrap64 (RowKit.wrap64 (p.1 - q.1) * 100) + p.2) - q.2) = _
    unfold RowKit.wrap64
    omega
  rw [e]
  unfold LT2
  omega
theorem sortP_ev {P : List Pr} (hl : P.length ≤ 2048) (nd : P.Nodup) : Ev (fun k => SortFunc84 k () () (P.map pl)) ((), sortBy cfEq (P.map pl)) := by
  refine ⟨0, fun k _ => ?_⟩
  show SortFunc84 k () () (P.map pl) = _
  unfold SortFunc84
  rw [if_pos ⟨by rw [List.length_map]; omega, fun _ _ => trivial, swo_of (keyEq P), parted_of (keyEq P) nd⟩]
theorem sortR_ev {P : List Pr} (hl : P.length ≤ 2048) (nd : P.Nodup) (h : ∀ p ∈ P, 0 ≤ p.1 ∧ p.1 < 32 ∧ 0 ≤ p.2 ∧ p.2 < 64) : Ev (fun k => SortFunc84' k () () (P.map pl)) ((), sortBy cfEq (P.map pl)) := by
  refine ⟨0, fun k _ => ?_⟩
  show SortFunc84' k () () (P.map pl) = _
  unfold SortFunc84'
  rw [if_pos ⟨by rw [List.length_map]; omega, fun _ _ => trivial, swo_of (keyRf h), parted_of (keyRf h) nd⟩, sort_same (keyRf h) (keyEq P)]
theorem mem_sortBy {l : List (List Int)} {x : List Int} : x ∈ sortBy cfEq l ↔ x ∈ l := (List.mergeSort_perm l _).mem_iff
theorem eq2_ev (l : List (List Int)) (hl : l.length ≤ 1000000) : Ev (fun k => Equal49 k l l) (true, ()) := by
  unfold Equal49
  refine .no (by simp) (.joinL (S := Unit) (a := ()) (Lp.ev ?_) (.now _))
  refine Lp.fold (body := fun k => Equal49.l0 k l l) l (fun (_ : Unit) i => i) (fun _ _ => ()) (fun _ => (.inl () : Unit ⊕ (Bool × Unit))) (fun _ _ => True) (fun i x b hx _ => ⟨?_, trivial⟩) (fun b _ => ?_) (b := ()) trivial
  · have hi := get_lt hx
    simp only [Equal49.l0]
    refine .yes (decide_eq_true (by omega)) (.val (rd_some' hx) (.val (rd_some' hx) (.no ?_ (.now' ?_))))
    · have : eqB (.arr 2 (.int .i64)) x x = true := eqB_refl rfl
      rw [this]; rfl
    · rw [w64_id (by omega) (by omega)]
  · simp only [Equal49.l0]
    exact .no (by simp) (.now _)
theorem equal_ev (l : List Int) (hl : l.length * 8 ≤ 140737488351232) : Ev (fun k => Equal20 k l l) (true, ()) := by
  unfold Equal20
  refine .no (by simp) (.joinL (S := Unit) (a := ()) (Lp.ev ?_) (.now _))
  refine Lp.fold (body := fun k => Equal20.l0 k l l) l (fun (_ : Unit) i => i) (fun _ _ => ()) (fun _ => (.inl () : Unit ⊕ (Bool × Unit))) (fun _ _ => True) (fun i x b hx _ => ⟨?_, trivial⟩) (fun b _ => ?_) (b := ()) trivial
  · have hi := get_lt hx
    simp only [Equal20.l0]
    refine .yes (decide_eq_true (by omega)) (.val (rd_some' hx) (.val (rd_some' hx) (.no (by simp) (.now' ?_))))
    rw [w64_id (by omega) (by omega)]
  · simp only [Equal20.l0]
    exact .no (by simp) (.now _)
theorem firstE_all {α : Type} {f : α → Int} : ∀ {l : List α}, (∀ x ∈ l, f x = 0) → firstE f l = 0
  | [], _ => rfl
  | y :: l, h => by
    unfold firstE
    rw [if_neg (by rw [h y (by simp)]; simp)]
    exact firstE_all fun x hx => h x (List.mem_cons_of_mem _ hx)
section
variable {c : Cir} {t : Tab} {B : Nat}
def pairs (c : Cir) (t : Tab) (B : Nat) : List Pr := allL c t B 2049 [startT c] 0
theorem cl0 (hc : Both c t B) : Cl c t B (startT c) [startT c] :=
  ⟨by simp, fun p hp => by rw [List.mem_singleton.1 hp]; exact start_dom hc, by simp, fun p hp => ⟨[], fun j hj => (by cases hj), by rw [List.mem_singleton.1 hp]; rfl⟩⟩
theorem pairs_ok (hc : Both c t B) : Clo c t B (startT c) (pairs c t B) := allL_ok hc 2049 0 [startT c] (by omega) (Nat.zero_le _) (cl0 hc) (fun k' p h => by omega)
def cert (c : Cir) (t : Tab) (B : Nat) : List (List Int) := sortBy cfEq ((pairs c t B).map pl)
theorem small_of_dom (hc : Both c t B) {p : Pr} (h : DomT c t p) : 0 ≤ p.1 ∧ p.1 < 32 ∧ 0 ≤ p.2 ∧ p.2 < 64 := by
  obtain ⟨x, y, rfl, hx, hy⟩ := h
  have := hc.tab.rows
  have h5 : (2 : Nat) ^ c.2.2.2.1.length ≤ 2 ^ 5 := Nat.pow_le_pow_right (by decide) hc.five
  have h6 : (2 : Nat) ^ 5 = 32 := by decide
  refine ⟨?_, ?_, ?_, ?_⟩ <;> simp only <;> omega
theorem together_ev (hc : Both c t B) : Ev (fun k => Together50 k c t) (cert c t B, ()) := by
  have hl := pairs_ok hc
  have h1 := allT hc 2049 0 [startT c] (by omega) (Nat.zero_le _) (cl0 hc)
  have hia := init_len hc.fault
  unfold Together50
  exact .bind (first_ev c (by omega)) (.bind h1.ev (.bind (sortR_ev (hl.len hc) hl.dif (fun p hp => small_of_dom hc (hl.dom p hp))) (.now _)))
theorem cert_ev (hc : Both c t B) (hf : Ev (fun k => Find45 k c t) (([], false, 0, ()), ())) : Ev (fun k => Cert46 k c t) ((cert c t B, 0, ()), ()) := by
  have hl := pairs_ok hc
  have hseen : SeenL [startT c] (mput aK .bool ([] : HM) (pl (startT c)) true) := SeenL.add (P := []) (m := []) ⟨fun q => rfl⟩ (startT c)
  have h1 := allP hc 2049 0 [startT c] _ (by omega) (Nat.zero_le _) (cl0 hc) hseen
  unfold Cert46
  exact .bind hf (.no rfl (.no rfl (.bind (start_ev c) (.bind (start_ev c) (.bind h1.ev (.bind (sortP_ev (hl.len hc) hl.dif) (.now _)))))))
theorem cert_len (hc : Both c t B) : (cert c t B).length ≤ 2048 := by
  unfold cert
  rw [sortBy_len, List.length_map]
  exact (pairs_ok hc).len hc
theorem cert_two (hc : Both c t B) : ∀ x ∈ cert c t B, x.length = 2 := by
  intro x hx
  obtain ⟨p, _, rfl⟩ := List.mem_map.1 (mem_sortBy.1 hx)
  rfl
theorem acc_zero (hc : Both c t B) (hf : pfault c t = 0) (hno : ∀ w, ¬ Tells (dlT c t) (dfT c t) B (startT c) w) : accF c t (cert c t B) = 0 := by
  have hl := pairs_ok hc
  have hm : ∀ q, pl q ∈ cert c t B ↔ q ∈ pairs c t B := fun q => mem_sortBy.trans mem_pl
  unfold accF
  rw [if_neg (by omega)]
  have h4 : firstE (g4 c t) (cert c t B) = 0 := firstE_all fun x hx => by
    obtain ⟨p, hp, rfl⟩ := List.mem_map.1 (mem_sortBy.1 hx)
    obtain ⟨x, y, rfl, hx, hy⟩ := hl.dom p hp
    unfold g4
    rw [if_neg]
    unfold BC BB BA
    show ¬ (((((x : Int) < 0) ∨ (x : Int) ≥ ((2 ^ c.2.2.2.1.length : Nat) : Int)) ∨ (y : Int) < 0) ∨ (y : Int) ≥ (t.2.2.length : Int))
    omega
  rw [if_neg (by omega), if_neg (fun h => h ((hm (startT c)).2 hl.st))]
  refine firstE_all fun x hx => ?_
  obtain ⟨p, hp, rfl⟩ := List.mem_map.1 (mem_sortBy.1 hx)
  unfold runE
  refine firstE_all fun i hi => ?_
  have hi : i < B := by rw [hc.b]; exact List.mem_range.1 hi
  have hd : dfT c t p i = false := by
    cases h : dfT c t p i with
    | false => rfl
    | true =>
      obtain ⟨w, h1, h2⟩ := hl.rch p hp
      exact absurd ⟨w, i, rfl, h1, hi, by rw [← h2]; exact h⟩ (hno (w ++ [i]))
  unfold cellC
  rw [if_neg, if_neg]
  · exact fun h => h ((hm (dlT c t p i)).2 (hl.cl p hp i hi))
  · unfold dfT at hd
    exact fun h => by simp at hd; exact h hd
end
theorem law_finds (c : Cir) (t : Tab) (hw : ∀ x ∈ c.2.2.2.2, -9223372036854775808 ≤ x ∧ x ≤ 9223372036854775807) : ∃ k, EqualFinds8 k c t = some (true, ()) := by
  refine Ev.ex ?_
  unfold EqualFinds8
  by_cases h5 : c.2.2.2.1.length > 5
  · exact .yes (decide_eq_true (by omega)) (.bind same_ev (.now _))
  refine .no (decide_eq_false (by omega)) ?_
  by_cases hf : pfault c t ≠ 0
  · have hF : Ev (fun k => Find45 k c t) (([], false, pfault c t, ()), ()) := by
      unfold Find45
      exact .bind (check2_ev c t) (.yes (bne_iff_ne.2 hf) (.now _))
    have hC : Ev (fun k => Cert46 k c t) (([], pfault c t, ()), ()) := by
      unfold Cert46
      exact .bind hF (.yes (bne_iff_ne.2 hf) (.now _))
    refine .bind (pair_ev c t hw) (.bind hF (.bind hC (.bind same_ev (.bind (a := false) (.no rfl (.bind (check2_ev c t) (.now' ?_))) (.no ?_ (.yes (bne_iff_ne.2 hf) (.now' ?_)))))))
    · simp
    · simp
    · simp
  have hf0 : pfault c t = 0 := by omega
  have hc := Both.of hf0 (by omega)
  have hB := hc.b16
  have t0 : Ev (fun k => (cond (!true) (some true) ((Check47 k c t).bind fun t39 => some (t39.1 != pfault c t)) : Option Bool)) false := .no rfl (.bind (check2_ev c t) (.now' (by simp)))
  rcases find_ev hc hf0 with ⟨w, p1, p1', p2⟩ | ⟨p1, p2⟩
  · have hC : Ev (fun k => Cert46 k c t) (([], 7, ()), ()) := by
      unfold Cert46
      exact .bind p2 (.no rfl (.yes rfl (.now _)))
    rcases told_ev hc with ⟨w', t1, t2⟩ | ⟨t1, t2⟩
    · have hww := Least.uniq _ _ _ (by omega) p1 t1
      subst hww
      refine .bind (pair_ev c t hw) (.bind p2 (.bind hC (.bind same_ev (.bind t0 (.no ?_ (.no ?_ (.bind t2 (.bind (a := false) (.no rfl (.bind (equal_ev (ints w) (by rw [intsLen]; omega)) (.now _))) (.no rfl (.yes rfl (.now' rfl)))))))))))
      · rw [hf0]; rfl
      · rw [hf0]; rfl
    · exact absurd p1.1 (t1 w)
  · rcases told_ev hc with ⟨w', t1, t2⟩ | ⟨t1, t2⟩
    · exact absurd t1.1 (p1 w')
    · have hC := cert_ev hc p2
      have hA := accept_ev c t (cert c t (2 ^ t.1.toNat)) (cert_two hc) (by have := cert_len hc; omega)
      rw [acc_zero hc hf0 p1] at hA
      refine .bind (pair_ev c t hw) (.bind p2 (.bind hC (.bind same_ev (.bind t0 (.no ?_ (.no ?_ (.bind t2 (.bind (a := false) (.no rfl (.bind (equal_ev [] (by decide)) (.now _))) (.no rfl (.no rfl (.bind (a := true) (.yes rfl (.bind (together_ev hc) (.bind (eq2_ev (cert c t (2 ^ t.1.toNat)) (by have := cert_len hc; omega)) (.now _)))) (.bind (a := true) (.yes rfl (.bind hA (.now _))) (.now _)))))))))))))
      · rw [hf0]; rfl
      · rw [hf0]; rfl
theorem equalFinds (c : Cir) (t : Tab) {p q r s u : Prop} (hc : p ∧ q ∧ r ∧ s ∧ wfL (α := Int) 8 (fun (y : Int) => (Lit.int .i64 y).wf = true) c.2.2.2.2) (_ : u) : ∃ k, EqualFinds8 k c t = some (true, ()) :=
  law_finds c t (fun x hx => lit_wf (hc.2.2.2.2.2 x hx))
end Go.Proofs.Ytofendipdfepoaa.Ef

/- The row of EqualFinds: Check, Find and Cert return what the reference says for all circuits and tables.. The law returns true for every input; the input reads as it did. -/
namespace Go.Proofs.Ytofendipdfepoaa.equalFinds
open Go.ChangeShapes Go.WideShapes Go.ChangeAt Go.RowKit Go.Proofs.Ytofendipdfepoaa.Gp Go.Proofs.Ytofendipdfepoaa.Ef
set_option linter.unusedVariables false
theorem own : ownKnob Try.prog.godebug = none := by kernel_rfl
theorem laidOut : laidOutB Try.prog = true := by kernel_rfl
abbrev wf3 : Int → Prop := (fun (y : Int) => (Lit.int .i64 y).wf = true)
abbrev siz3 : Int → Nat := (fun _ => 1)
theorem gd3 : Gd Try.prog 3 (.int .i64) wf3 siz3 := gd_int Try.underlying3 (by kernel_rfl)
abbrev wf141 : (Int × (Int × (Int × (Int × Int)))) → Prop := (fun (y : (Int × (Int × (Int × (Int × Int))))) => wf3 y.1 ∧ (fun (y : (Int × (Int × (Int × Int)))) => wf3 y.1 ∧ (fun (y : (Int × (Int × Int))) => wf3 y.1 ∧ (fun (y : (Int × Int)) => wf3 y.1 ∧ wf3 y.2) y.2) y.2) y.2)
abbrev siz141 : (Int × (Int × (Int × (Int × Int)))) → Nat := (fun (y : (Int × (Int × (Int × (Int × Int))))) => siz3 y.1 + (fun (y : (Int × (Int × (Int × Int)))) => siz3 y.1 + (fun (y : (Int × (Int × Int))) => siz3 y.1 + (fun (y : (Int × Int)) => siz3 y.1 + siz3 y.2) y.2) y.2) y.2)
theorem gd141 : Gd Try.prog 141 (.st (.pair (.int .i64) (.pair (.int .i64) (.pair (.int .i64) (.pair (.int .i64) (.int .i64)))))) wf141 siz141 := gd_st Try.underlying141 (by kernel_rfl) (gdf_cons (k := .int .i64) (k' := .pair (.int .i64) (.pair (.int .i64) (.pair (.int .i64) (.int .i64)))) (wf := wf3) (siz := siz3) (wf' := (fun (y : (Int × (Int × (Int × Int)))) => wf3 y.1 ∧ (fun (y : (Int × (Int × Int))) => wf3 y.1 ∧ (fun (y : (Int × Int)) => wf3 y.1 ∧ wf3 y.2) y.2) y.2)) (siz' := (fun (y : (Int × (Int × (Int × Int)))) => siz3 y.1 + (fun (y : (Int × (Int × Int))) => siz3 y.1 + (fun (y : (Int × Int)) => siz3 y.1 + siz3 y.2) y.2) y.2)) rfl gd3 (gdf_cons (k := .int .i64) (k' := .pair (.int .i64) (.pair (.int .i64) (.int .i64))) (wf := wf3) (siz := siz3) (wf' := (fun (y : (Int × (Int × Int))) => wf3 y.1 ∧ (fun (y : (Int × Int)) => wf3 y.1 ∧ wf3 y.2) y.2)) (siz' := (fun (y : (Int × (Int × Int))) => siz3 y.1 + (fun (y : (Int × Int)) => siz3 y.1 + siz3 y.2) y.2)) rfl gd3 (gdf_cons (k := .int .i64) (k' := .pair (.int .i64) (.int .i64)) (wf := wf3) (siz := siz3) (wf' := (fun (y : (Int × Int)) => wf3 y.1 ∧ wf3 y.2)) (siz' := (fun (y : (Int × Int)) => siz3 y.1 + siz3 y.2)) rfl gd3 (gdf_cons (k := .int .i64) (k' := .int .i64) (wf := wf3) (siz := siz3) (wf' := wf3) (siz' := siz3) rfl gd3 (gdf_one rfl gd3)))))
abbrev wf73 : (List (Int × (Int × (Int × (Int × Int))))) → Prop := (wfL (α := (Int × (Int × (Int × (Int × Int))))) 40 wf141)
abbrev siz73 : (List (Int × (Int × (Int × (Int × Int))))) → Nat := (sizL (α := (Int × (Int × (Int × (Int × Int))))) siz141)
theorem gd73 : Gd Try.prog 73 (.sl (.st (.pair (.int .i64) (.pair (.int .i64) (.pair (.int .i64) (.pair (.int .i64) (.int .i64))))))) wf73 siz73 := gd_sl (B := 40) Try.underlying73 (by kernel_rfl) (by kernel_rfl) (by decide) gd141
abbrev wf25 : (List Int) → Prop := (wfL (α := Int) 8 wf3)
abbrev siz25 : (List Int) → Nat := (sizL (α := Int) siz3)
theorem gd25 : Gd Try.prog 25 (.sl (.int .i64)) wf25 siz25 := gd_sl (B := 8) Try.underlying25 (by kernel_rfl) (by kernel_rfl) (by decide) gd3
abbrev wf75 : (Int × ((List (Int × (Int × (Int × (Int × Int))))) × ((List Int) × ((List Int) × (List Int))))) → Prop := (fun (y : (Int × ((List (Int × (Int × (Int × (Int × Int))))) × ((List Int) × ((List Int) × (List Int)))))) => wf3 y.1 ∧ (fun (y : ((List (Int × (Int × (Int × (Int × Int))))) × ((List Int) × ((List Int) × (List Int))))) => wf73 y.1 ∧ (fun (y : ((List Int) × ((List Int) × (List Int)))) => wf25 y.1 ∧ (fun (y : ((List Int) × (List Int))) => wf25 y.1 ∧ wf25 y.2) y.2) y.2) y.2)
abbrev siz75 : (Int × ((List (Int × (Int × (Int × (Int × Int))))) × ((List Int) × ((List Int) × (List Int))))) → Nat := (fun (y : (Int × ((List (Int × (Int × (Int × (Int × Int))))) × ((List Int) × ((List Int) × (List Int)))))) => siz3 y.1 + (fun (y : ((List (Int × (Int × (Int × (Int × Int))))) × ((List Int) × ((List Int) × (List Int))))) => siz73 y.1 + (fun (y : ((List Int) × ((List Int) × (List Int)))) => siz25 y.1 + (fun (y : ((List Int) × (List Int))) => siz25 y.1 + siz25 y.2) y.2) y.2) y.2)
theorem gd75 : Gd Try.prog 75 (.st (.pair (.int .i64) (.pair (.sl (.st (.pair (.int .i64) (.pair (.int .i64) (.pair (.int .i64) (.pair (.int .i64) (.int .i64))))))) (.pair (.sl (.int .i64)) (.pair (.sl (.int .i64)) (.sl (.int .i64))))))) wf75 siz75 := gd_st Try.underlying75 (by kernel_rfl) (gdf_cons (k := .int .i64) (k' := .pair (.sl (.st (.pair (.int .i64) (.pair (.int .i64) (.pair (.int .i64) (.pair (.int .i64) (.int .i64))))))) (.pair (.sl (.int .i64)) (.pair (.sl (.int .i64)) (.sl (.int .i64))))) (wf := wf3) (siz := siz3) (wf' := (fun (y : ((List (Int × (Int × (Int × (Int × Int))))) × ((List Int) × ((List Int) × (List Int))))) => wf73 y.1 ∧ (fun (y : ((List Int) × ((List Int) × (List Int)))) => wf25 y.1 ∧ (fun (y : ((List Int) × (List Int))) => wf25 y.1 ∧ wf25 y.2) y.2) y.2)) (siz' := (fun (y : ((List (Int × (Int × (Int × (Int × Int))))) × ((List Int) × ((List Int) × (List Int))))) => siz73 y.1 + (fun (y : ((List Int) × ((List Int) × (List Int)))) => siz25 y.1 + (fun (y : ((List Int) × (List Int))) => siz25 y.1 + siz25 y.2) y.2) y.2)) rfl gd3 (gdf_cons (k := .sl (.st (.pair (.int .i64) (.pair (.int .i64) (.pair (.int .i64) (.pair (.int .i64) (.int .i64))))))) (k' := .pair (.sl (.int .i64)) (.pair (.sl (.int .i64)) (.sl (.int .i64)))) (wf := wf73) (siz := siz73) (wf' := (fun (y : ((List Int) × ((List Int) × (List Int)))) => wf25 y.1 ∧ (fun (y : ((List Int) × (List Int))) => wf25 y.1 ∧ wf25 y.2) y.2)) (siz' := (fun (y : ((List Int) × ((List Int) × (List Int)))) => siz25 y.1 + (fun (y : ((List Int) × (List Int))) => siz25 y.1 + siz25 y.2) y.2)) rfl gd73 (gdf_cons (k := .sl (.int .i64)) (k' := .pair (.sl (.int .i64)) (.sl (.int .i64))) (wf := wf25) (siz := siz25) (wf' := (fun (y : ((List Int) × (List Int))) => wf25 y.1 ∧ wf25 y.2)) (siz' := (fun (y : ((List Int) × (List Int))) => siz25 y.1 + siz25 y.2)) rfl gd25 (gdf_cons (k := .sl (.int .i64)) (k' := .sl (.int .i64)) (wf := wf25) (siz := siz25) (wf' := wf25) (siz' := siz25) rfl gd25 (gdf_one rfl gd25)))))
abbrev wf91 : (Int × Int) → Prop := (fun (y : (Int × Int)) => wf3 y.1 ∧ wf3 y.2)
abbrev siz91 : (Int × Int) → Nat := (fun (y : (Int × Int)) => siz3 y.1 + siz3 y.2)
theorem gd91 : Gd Try.prog 91 (.st (.pair (.int .i64) (.int .i64))) wf91 siz91 := gd_st Try.underlying91 (by kernel_rfl) (gdf_cons (k := .int .i64) (k' := .int .i64) (wf := wf3) (siz := siz3) (wf' := wf3) (siz' := siz3) rfl gd3 (gdf_one rfl gd3))
abbrev wf89 : (List (Int × Int)) → Prop := (wfL (α := (Int × Int)) 16 wf91)
abbrev siz89 : (List (Int × Int)) → Nat := (sizL (α := (Int × Int)) siz91)
theorem gd89 : Gd Try.prog 89 (.sl (.st (.pair (.int .i64) (.int .i64)))) wf89 siz89 := gd_sl (B := 16) Try.underlying89 (by kernel_rfl) (by kernel_rfl) (by decide) gd91
abbrev wf22 : (List (List (Int × Int))) → Prop := (wfL (α := (List (Int × Int))) 24 wf89)
abbrev siz22 : (List (List (Int × Int))) → Nat := (sizL (α := (List (Int × Int))) siz89)
theorem gd22 : Gd Try.prog 22 (.sl (.sl (.st (.pair (.int .i64) (.int .i64))))) wf22 siz22 := gd_sl (B := 24) Try.underlying22 (by kernel_rfl) (by kernel_rfl) (by decide) gd89
abbrev wf24 : (Int × (Int × (List (List (Int × Int))))) → Prop := (fun (y : (Int × (Int × (List (List (Int × Int)))))) => wf3 y.1 ∧ (fun (y : (Int × (List (List (Int × Int))))) => wf3 y.1 ∧ wf22 y.2) y.2)
abbrev siz24 : (Int × (Int × (List (List (Int × Int))))) → Nat := (fun (y : (Int × (Int × (List (List (Int × Int)))))) => siz3 y.1 + (fun (y : (Int × (List (List (Int × Int))))) => siz3 y.1 + siz22 y.2) y.2)
theorem gd24 : Gd Try.prog 24 (.st (.pair (.int .i64) (.pair (.int .i64) (.sl (.sl (.st (.pair (.int .i64) (.int .i64)))))))) wf24 siz24 := gd_st Try.underlying24 (by kernel_rfl) (gdf_cons (k := .int .i64) (k' := .pair (.int .i64) (.sl (.sl (.st (.pair (.int .i64) (.int .i64)))))) (wf := wf3) (siz := siz3) (wf' := (fun (y : (Int × (List (List (Int × Int))))) => wf3 y.1 ∧ wf22 y.2)) (siz' := (fun (y : (Int × (List (List (Int × Int))))) => siz3 y.1 + siz22 y.2)) rfl gd3 (gdf_cons (k := .int .i64) (k' := .sl (.sl (.st (.pair (.int .i64) (.int .i64))))) (wf := wf3) (siz := siz3) (wf' := wf22) (siz' := siz22) rfl gd3 (gdf_one rfl gd22)))
set_option maxRecDepth 100000 in
set_option maxHeartbeats 1000000 in
theorem lifted (os : Os) (started : os.Started) (H : Type) (enc : TypeId × Value → H) :
    ReturnsInHanded {} Try.checked os 8 .any (Rows.equalFindsSpec.pre6 enc Try.prog Try.f8 Rows.equalFindsRow.domain false) (Rows.equalFindsSpec.post enc Try.prog Try.f8 false true false false) := by
  refine returnsInHanded_of_change_sized (C := Try.checked) own started (by kernel_rfl) Try.func8
    (ChangeSpec.witness6 (enc := enc) (C := Try.checked) false ⟨#[], #[.agg #[.int .i64 0, .slice none 0 0, .slice none 0 0, .slice none 0 0, .slice none 0 0], .agg #[.int .i64 0, .int .i64 0, .slice none 0 0]], []⟩ 8 (by kernel_rfl) (by kernel_rfl) (by kernel_rfl) (by kernel_rfl)) ?_
  intro W base args ds gs before hval0 hW hcnd hsz0 _
  have hsz : (DataW.weightsEach Try.prog (Try.f8.params.toList ++ Rows.equalFindsSpec.plain.varTypes Try.prog) (ds ++ gs)).all (· ≤ reachBytes) = true := hsz0
  have hval : ∀ (j : Nat) t v, Try.f8.params[j]? = some t → args[j]? = some v → Value.okWide Try.prog W .any base t v := hval0
  have hW' := hW
  obtain ⟨p, q, hA0, hV, rfl, hfz, hnd⟩ := hW
  have hA : DataW.TrodAll enc Try.prog W 0 (fun _ => true) true Try.f8.params.toList args.toList ds p := hA0
  rw [Try.params8] at hA hval hsz
  obtain ⟨v0, vs0, d0, ds0, p0, q0, hargs, rfl, rfl, h0, r0⟩ := trodAll_cons hA
  obtain ⟨v1, vs1, d1, ds1, p1, q1, rfl, rfl, rfl, h1, r1⟩ := trodAll_cons r0
  obtain ⟨rfl, rfl, rfl⟩ := trodAll_nil r1
  obtain rfl : args = #[v0, v1] := by cases args; simp_all
  obtain ⟨rfl, rfl⟩ := trodVars_none hV
  have lt0 : ∀ x ∈ p0, x.block < W.heap.size := by obtain ⟨m, hm⟩ := h0; exact DataW.trod_lt m _ _ _ hm
  have wt0 := weights_at hsz 0 (t := 75) rfl rfl
  obtain ⟨a0, s0, wf0_, up0_⟩ := gd75.arg (hval 0 75 v0 rfl rfl) h0 wt0
  have lt1 : ∀ x ∈ p1, x.block < W.heap.size := by obtain ⟨m, hm⟩ := h1; exact DataW.trod_lt m _ _ _ hm
  have wt1 := weights_at hsz 1 (t := 24) rfl rfl
  obtain ⟨a1, s1, wf1_, up1_⟩ := gd24.arg (hval 1 24 v1 rfl rfl) h1 wt1
  clear hA0 hval0 hsz0 hsz
  obtain ⟨k, h⟩ := Ef.equalFinds a0 a1 wf0_ wf1_
  refine (law_calls (EqualFinds8.ok k) (ds := (a0, a1)) h (args := #[v0, v1]) (W := W) (.cons (s0 _) (.cons (s1 _) (.nil)))).mono fun e W' ⟨he, bel0⟩ => ?_
  have bel : Below W.heap.size W W' := bel0
  subst he
  exact ⟨_, rfl, _, _, _, [], _, [], hW', trodAll_mk1 (shut_bool Try.underlying4 _), (trodAll_cons_mk (Below.trod laidOut (by kernel_rfl) (of_decide_eq_true (by kernel_rfl)) h0 bel lt0) (trodAll_cons_mk (Below.trod laidOut (by kernel_rfl) (of_decide_eq_true (by kernel_rfl)) h1 bel lt1) (trodAll_mk0))), rfl, bel.frame _, fun h => by cases h⟩
theorem over : Rows.equalFindsRow.holds Try.pinned (OpenSpec.ofChange Rows.equalFindsSpec) :=
  OpenClaim.holds_of_wide 8 Try.f8 rfl rfl rfl rfl rfl rfl rfl ⟨rfl, rfl, rfl, rfl, rfl⟩ rfl rfl rfl rfl rfl (by kernel_rfl) Try.func8 (by kernel_rfl)
    (of_decide_eq_true (by kernel_rfl)) (by unfold Func.isWrapper; first | (rw [if_pos (by decide +kernel)]; kernel_rfl) | (rw [if_neg (by decide +kernel)]; exact ⟨rfl, rfl⟩))
    (fun os started H enc _ => lifted os started H enc)
theorem proved : Rows.EqualFindsSaid := over
#print axioms proved
end Go.Proofs.Ytofendipdfepoaa.equalFinds
namespace Go.Proofs.Ytofendipdfepoaa
theorem equalFinds_holds : Rows.EqualFindsSaid := equalFinds.proved
end Go.Proofs.Ytofendipdfepoaa
