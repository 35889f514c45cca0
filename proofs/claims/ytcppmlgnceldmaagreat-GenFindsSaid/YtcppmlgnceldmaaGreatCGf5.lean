/- Merged texts of one claim: a Go law, its functions without memory, and the plain law. The law returns true for every input; conditions: as the row says. -/
import Derived.Test.YtcppmlgnceldmaaGreatRows
import Derived.ChangeArms
import Derived.OpenShut
import Derived.SizedLaws
import Derived.Deep.Slices
import Derived.Below
import Derived.KernelRfl
import Derived.WalkKit
import Derived.ProofKit
import Derived.ShutString
import Derived.ChangeOld
import Derived.Test.YtcppmlgnceldmaaGreatCGf0
import Derived.Test.YtcppmlgnceldmaaGreatCGf1
import Derived.Test.YtcppmlgnceldmaaGreatCGf2
import Derived.Test.YtcppmlgnceldmaaGreatCGf3
import Derived.Test.YtcppmlgnceldmaaGreatCGf4
/- What is left of a Go function, in the long run: rounds, loops, lists, numbers. No program in sight. -/
set_option linter.unusedVariables false
noncomputable section
namespace Go.Proofs.YtcppmlgnceldmaaGreat.Gp
open Go

/-- from some fuel on, f answers v -/
def Ev {α : Type} (f : Nat → Option α) (v : α) : Prop := ∃ n, ∀ k, n ≤ k → f k = some v
/-- .. a loop, from some fuel on and with enough rounds -/
def Lp {S R : Type} (body : Nat → S → Option (S ⊕ R)) (s : S) (r : R) : Prop := ∃ n m, ∀ k, n ≤ k → ∀ j, m ≤ j → loopN (body k) j s = some r

theorem Ev.ex {α : Type} {f : Nat → Option α} {v : α} (h : Ev f v) : ∃ k, f k = some v := by
  obtain ⟨n, h⟩ := h
  exact ⟨n, h n (Nat.le_refl _)⟩
theorem Ev.now {α : Type} (v : α) : Ev (fun _ => some v) v := ⟨0, fun _ _ => rfl⟩
theorem Ev.now' {α : Type} {v w : α} (h : v = w) : Ev (fun _ => some v) w := h ▸ .now v
/-- what hangs on no fuel -/
theorem Ev.const {α : Type} {o : Option α} {v : α} (h : o = some v) : Ev (fun _ => o) v := ⟨0, fun _ _ => h⟩
theorem Ev.to {α : Type} {f : Nat → Option α} {v w : α} (h : Ev f v) (e : v = w) : Ev f w := e ▸ h
theorem Ev.of {α : Type} {f g : Nat → Option α} {v : α} (h : Ev f v) (e : ∀ k, g k = f k) : Ev g v := by
  obtain ⟨n, h⟩ := h
  exact ⟨n, fun k hk => (e k).trans (h k hk)⟩
theorem Ev.bind {α β : Type} {f : Nat → Option α} {g : Nat → α → Option β} {a : α} {b : β} (h : Ev f a) (h2 : Ev (fun k => g k a) b) : Ev (fun k => (f k).bind (g k)) b := by
  obtain ⟨n, h⟩ := h
  obtain ⟨m, h2⟩ := h2
  refine ⟨max n m, fun k hk => ?_⟩
  show (f k).bind (g k) = _
  rw [h k (by omega)]
  exact h2 k (by omega)
/-- a value that hangs on no fuel -/
theorem Ev.val {α β : Type} {o : Option α} {g : Nat → α → Option β} {a : α} {b : β} (h : o = some a) (h2 : Ev (fun k => g k a) b) : Ev (fun k => o.bind (g k)) b := by
  subst h
  exact h2
theorem Ev.joinL {S α β : Type} {f : Nat → Option (α ⊕ β)} {g : Nat → α → Option β} {a : α} {b : β} (h : Ev f (.inl a)) (h2 : Ev (fun k => g k a) b) : Ev (fun k => (f k).bind (joined (g k))) b :=
  Ev.bind (g := fun k => joined (g k)) h h2
theorem Ev.joinR {α β : Type} {f : Nat → Option (α ⊕ β)} {g : Nat → α → Option β} {b : β} (h : Ev f (.inr b)) : Ev (fun k => (f k).bind (joined (g k))) b :=
  Ev.bind (g := fun k => joined (g k)) h (.now b)
/-- a join: how it came, and what follows -/
theorem Ev.join {α β : Type} {f : Nat → Option (α ⊕ β)} {g : Nat → α → Option β} {s : α ⊕ β} {b : β} (h : Ev f s) (h1 : ∀ a, s = .inl a → Ev (fun k => g k a) b) (h2 : ∀ r, s = .inr r → r = b) : Ev (fun k => (f k).bind (joined (g k))) b := by
  cases s with
  | inl a => exact Ev.bind (g := fun k => joined (g k)) h (h1 a rfl)
  | inr r => exact Ev.bind (g := fun k => joined (g k)) h (.now' (h2 r rfl))
theorem Ev.cnd {α : Type} {c : Bool} {f g : Nat → Option α} {v : α} (h1 : c = true → Ev f v) (h2 : c = false → Ev g v) : Ev (fun k => cond c (f k) (g k)) v := by
  cases c with
  | true => exact h1 rfl
  | false => exact h2 rfl
theorem Ev.yes {α : Type} {c : Bool} {f g : Nat → Option α} {v : α} (hc : c = true) (h : Ev f v) : Ev (fun k => cond c (f k) (g k)) v := by rw [hc]; exact h
theorem Ev.no {α : Type} {c : Bool} {f g : Nat → Option α} {v : α} (hc : c = false) (h : Ev g v) : Ev (fun k => cond c (f k) (g k)) v := by rw [hc]; exact h
theorem Ev.iff {α : Type} {c : Prop} [Decidable c] {f g : Nat → Option α} {v : α} (h1 : c → Ev f v) (h2 : ¬ c → Ev g v) : Ev (fun k => cond (decide c) (f k) (g k)) v := by
  by_cases h : c
  · exact .yes (decide_eq_true h) (h1 h)
  · exact .no (decide_eq_false h) (h2 h)
theorem Ev.map {α β : Type} {f : Nat → Option α} {g : α → β} {a : α} (h : Ev f a) : Ev (fun k => (f k).map g) (g a) := by
  obtain ⟨n, h⟩ := h
  exact ⟨n, fun k hk => by show (f k).map g = _; rw [h k hk]; rfl⟩

theorem Lp.ev {S R : Type} {body : Nat → S → Option (S ⊕ R)} {s : S} {r : R} (h : Lp body s r) : Ev (fun k => loopN (body k) k s) r := by
  obtain ⟨n, m, h⟩ := h
  exact ⟨max n m, fun k hk => h k (by omega) k (by omega)⟩
theorem Lp.done {S R : Type} {body : Nat → S → Option (S ⊕ R)} {s : S} {r : R} (h : Ev (fun k => body k s) (.inr r)) : Lp body s r := by
  obtain ⟨n, h⟩ := h
  refine ⟨n, 1, fun k hk j hj => ?_⟩
  obtain ⟨j, rfl⟩ : ∃ i, j = i + 1 := ⟨j - 1, by omega⟩
  show (body k s).bind _ = _
  rw [show body k s = _ from h k hk]
  rfl
theorem Lp.step {S R : Type} {body : Nat → S → Option (S ⊕ R)} {s s' : S} {r : R} (h : Ev (fun k => body k s) (.inl s')) (h2 : Lp body s' r) : Lp body s r := by
  obtain ⟨n, h⟩ := h
  obtain ⟨n2, m, h2⟩ := h2
  refine ⟨max n n2, m + 1, fun k hk j hj => ?_⟩
  obtain ⟨j, rfl⟩ : ∃ i, j = i + 1 := ⟨j - 1, by omega⟩
  show (body k s).bind _ = _
  rw [show body k s = _ from h k (by omega)]
  exact h2 k (by omega) j (by omega)

/-- a walk over a list, that may end early -/
def walk {α β R : Type} (f : β → α → β ⊕ R) (fin : β → R) : List α → β → R
  | [], b => fin b
  | x :: l, b => match f b x with | .inl b' => walk f fin l b' | .inr r => r
theorem walk_nil {α β R : Type} {f : β → α → β ⊕ R} {fin : β → R} {b : β} : walk f fin [] b = fin b := rfl
theorem walk_cons {α β R : Type} {f : β → α → β ⊕ R} {fin : β → R} {x : α} {l : List α} {b : β} : walk f fin (x :: l) b = match f b x with | .inl b' => walk f fin l b' | .inr r => r := rfl

/-- a loop over a list by its index: 'st b i' is the loop's state -/
theorem Lp.walk {α β S R : Type} {body : Nat → S → Option (S ⊕ R)} (l : List α) (st : β → Int → S) (f : β → α → β ⊕ R) (fin : β → R) (Inv : Nat → β → Prop)
    (hs : ∀ i x b, l[i]? = some x → Inv i b → Ev (fun k => body k (st b i)) (match f b x with | .inl b' => .inl (st b' ((i : Int) + 1)) | .inr r => .inr r) ∧ ∀ b', f b x = .inl b' → Inv (i + 1) b')
    (hd : ∀ b, Inv l.length b → Ev (fun k => body k (st b l.length)) (.inr (fin b))) {b : β} (h0 : Inv 0 b) : Lp body (st b 0) (walk f fin l b) := by
  have key : ∀ (suf pre : List α) (b : β), l = pre ++ suf → Inv pre.length b → Lp body (st b (pre.length : Int)) (Gp.walk f fin suf b) := by
    intro suf
    induction suf with
    | nil =>
      intro pre b h hi
      rw [List.append_nil] at h
      subst h
      exact .done (hd b hi)
    | cons x suf ih =>
      intro pre b h hi
      have hx : l[pre.length]? = some x := by rw [h]; simp
      obtain ⟨h1, h2⟩ := hs pre.length x b hx hi
      rw [walk_cons]
      cases hf : f b x with
      | inr r => rw [hf] at h1; exact .done h1
      | inl b' =>
        rw [hf] at h1
        refine .step h1 ?_
        have := ih (pre ++ [x]) b' (by rw [h]; simp) (by simpa using h2 b' hf)
        simpa using this
  exact key l [] b rfl h0
/-- .. that always goes to its end -/
theorem Lp.fold {α β S R : Type} {body : Nat → S → Option (S ⊕ R)} (l : List α) (st : β → Int → S) (f : β → α → β) (fin : β → R) (Inv : Nat → β → Prop)
    (hs : ∀ i x b, l[i]? = some x → Inv i b → Ev (fun k => body k (st b i)) (.inl (st (f b x) ((i : Int) + 1))) ∧ Inv (i + 1) (f b x))
    (hd : ∀ b, Inv l.length b → Ev (fun k => body k (st b l.length)) (.inr (fin b))) {b : β} (h0 : Inv 0 b) : Lp body (st b 0) (fin (l.foldl f b)) := by
  have := Lp.walk (body := body) l st (fun b x => .inl (f b x)) fin Inv (fun i x b hx hi => ⟨(hs i x b hx hi).1, fun b' hb => by cases hb; exact (hs i x b hx hi).2⟩) hd h0
  have e : ∀ (l : List α) (b : β), Gp.walk (fun b x => (.inl (f b x) : β ⊕ R)) fin l b = fin (l.foldl f b) := by
    intro l
    induction l with
    | nil => intro b; rfl
    | cons x l ih => intro b; rw [walk_cons, List.foldl_cons]; exact ih _
  rwa [e] at this
/-- a loop that counts from 0 to n -/
theorem Lp.count {β S R : Type} {body : Nat → S → Option (S ⊕ R)} (n : Nat) (st : β → Int → S) (f : β → Nat → β) (fin : β → R) (Inv : Nat → β → Prop)
    (hs : ∀ i b, i < n → Inv i b → Ev (fun k => body k (st b i)) (.inl (st (f b i) ((i : Int) + 1))) ∧ Inv (i + 1) (f b i))
    (hd : ∀ b, Inv n b → Ev (fun k => body k (st b n)) (.inr (fin b))) {b : β} (h0 : Inv 0 b) : Lp body (st b 0) (fin ((List.range n).foldl f b)) := by
  refine Lp.fold (List.range n) st f fin Inv (fun i x b hx hi => ?_) (fun b hb => ?_) h0
  · obtain ⟨h1, h2⟩ := List.getElem?_eq_some_iff.1 hx
    rw [List.getElem_range] at h2
    subst h2
    exact hs i b (by simpa using h1) hi
  · rw [List.length_range] at hb ⊢
    exact hd b hb

-- numbers
theorem w64_id {x : Int} (h0 : -9223372036854775808 ≤ x) (h1 : x ≤ 9223372036854775807) : w64 x = x := by
  show IntKind.wrap .i64 x = x
  have e : (2 : Int) ^ (64 - 1) = 9223372036854775808 := by decide
  have e2 : (2 : Int) ^ 64 = 18446744073709551616 := by decide
  simp only [IntKind.wrap, IntKind.signed, IntKind.bits, Bool.true_and, decide_eq_true_eq, e, e2]
  split <;> omega
theorem w64_nat {n : Nat} (h : n ≤ 9223372036854775807) : w64 (n : Int) = n := w64_id (by omega) (by omega)
theorem w64_succ {n : Nat} (h : n < 9223372036854775807) : w64 ((n : Int) + 1) = ((n + 1 : Nat) : Int) := by rw [w64_id (by omega) (by omega)]; omega
theorem rd_nat {α : Type} (l : List α) (i : Nat) : rd l (i : Int) = l[i]? := by
  unfold rd
  rw [if_pos (by omega)]
  rfl
theorem rd_some' {α : Type} {l : List α} {i : Nat} {x : α} (h : l[i]? = some x) : rd l (i : Int) = some x := by rw [rd_nat, h]
theorem rd_at {α : Type} {l : List α} {z : Int} {i : Nat} {x : α} (hz : z = i) (h : l[i]? = some x) : rd l z = some x := by rw [hz, rd_nat, h]
theorem room_ok {n b : Nat} (h : n * b ≤ 140737488355328) : room n b = true := Nat.ble_eq_true_of_le h
theorem get_lt {α : Type} {l : List α} {i : Nat} {x : α} (h : l[i]? = some x) : i < l.length := (List.getElem?_eq_some_iff.1 h).1
theorem get_mem {α : Type} {l : List α} {i : Nat} {x : α} (h : l[i]? = some x) : x ∈ l := List.mem_of_getElem? h
theorem slc_ok {α : Type} {l : List α} {a b : Nat} (h1 : a ≤ b) (h2 : b ≤ l.length) : slc l (a : Int) (b : Int) = some ((l.take b).drop a) := by
  unfold slc
  rw [if_pos ⟨by omega, by omega, by omega⟩]
  simp
theorem slc_tail {α : Type} {l : List α} {a : Nat} (h1 : a ≤ l.length) : slc l (a : Int) (l.length : Int) = some (l.drop a) := by
  rw [slc_ok h1 (Nat.le_refl _), List.take_length]
theorem eqB_iff {k : K} (hc : k.cmp = true) {x y : k.den} : eqB k x y = true ↔ x = y := ⟨eqB_eq hc, fun h => by rw [h]; exact eqB_refl hc⟩
theorem eqB_dec {k : K} (hc : k.cmp = true) {x y : k.den} [Decidable (x = y)] : eqB k x y = decide (x = y) := by
  rw [Bool.eq_iff_iff, eqB_iff hc, decide_eq_true_eq]
theorem streq_iff {a b : ByteArray} : streq a b = true ↔ a = b := ⟨streq_eq, fun h => by rw [h]; exact streq_refl b⟩
theorem lit_wf {k : Int} (h : (Lit.int .i64 k).wf = true) : -9223372036854775808 ≤ k ∧ k ≤ 9223372036854775807 := by
  simp [Lit.wf, IntKind.min, IntKind.max, IntKind.signed, IntKind.bits] at h
  omega

-- bits
theorem wrap64_nat {n : Nat} (h : n < 9223372036854775808) : IntKind.wrap .i64 (n : Int) = n := w64_nat (by omega)
theorem bv_nat (a : Nat) : BitVec.ofInt 64 (a : Int) = BitVec.ofNat 64 a := BitVec.ofInt_natCast 64 a
theorem ibits_and {a b : Nat} (ha : a < 9223372036854775808) (hb : b < 9223372036854775808) : ibits .and .i64 (a : Int) (b : Int) = ((a &&& b : Nat) : Int) := by
  have h : (a &&& b) < 2 ^ 63 := by rw [Nat.and_comm]; exact Nat.and_lt_two_pow _ ha
  show IntKind.wrap .i64 (((BitVec.ofInt 64 (a : Int) &&& BitVec.ofInt 64 (b : Int)).toNat : Nat) : Int) = _
  rw [bv_nat, bv_nat, BitVec.toNat_and, BitVec.toNat_ofNat, BitVec.toNat_ofNat, Nat.mod_eq_of_lt (by omega), Nat.mod_eq_of_lt (by omega)]
  exact wrap64_nat h
theorem ibits_or {a b : Nat} (ha : a < 9223372036854775808) (hb : b < 9223372036854775808) : ibits .or .i64 (a : Int) (b : Int) = ((a ||| b : Nat) : Int) := by
  have h : (a ||| b) < 2 ^ 63 := Nat.or_lt_two_pow ha hb
  show IntKind.wrap .i64 (((BitVec.ofInt 64 (a : Int) ||| BitVec.ofInt 64 (b : Int)).toNat : Nat) : Int) = _
  rw [bv_nat, bv_nat, BitVec.toNat_or, BitVec.toNat_ofNat, BitVec.toNat_ofNat, Nat.mod_eq_of_lt (by omega), Nat.mod_eq_of_lt (by omega)]
  exact wrap64_nat h
theorem ibits_xor {a b : Nat} (ha : a < 9223372036854775808) (hb : b < 9223372036854775808) : ibits .xor .i64 (a : Int) (b : Int) = ((a ^^^ b : Nat) : Int) := by
  have h : (a ^^^ b) < 2 ^ 63 := Nat.xor_lt_two_pow ha hb
  show IntKind.wrap .i64 (((BitVec.ofInt 64 (a : Int) ^^^ BitVec.ofInt 64 (b : Int)).toNat : Nat) : Int) = _
  rw [bv_nat, bv_nat, BitVec.toNat_xor, BitVec.toNat_ofNat, BitVec.toNat_ofNat, Nat.mod_eq_of_lt (by omega), Nat.mod_eq_of_lt (by omega)]
  exact wrap64_nat h
theorem ibits_andNot {a b : Nat} (ha : a < 9223372036854775808) (hb : b < 9223372036854775808) : ibits .andNot .i64 (a : Int) (b : Int) = ((a ^^^ (a &&& b) : Nat) : Int) := by
  have h1 : (a &&& b) < 2 ^ 63 := by rw [Nat.and_comm]; exact Nat.and_lt_two_pow _ ha
  have h : (a ^^^ (a &&& b)) < 2 ^ 63 := Nat.xor_lt_two_pow ha h1
  have e : (BitVec.ofNat 64 a &&& ~~~ BitVec.ofNat 64 b).toNat = a ^^^ (a &&& b) := by
    apply Nat.eq_of_testBit_eq
    intro i
    rw [BitVec.testBit_toNat, BitVec.getLsbD_and, BitVec.getLsbD_not, BitVec.getLsbD_ofNat, BitVec.getLsbD_ofNat, Nat.testBit_xor, Nat.testBit_and]
    by_cases hi : i < 64
    · cases a.testBit i <;> cases b.testBit i <;> simp [hi]
    · have : a.testBit i = false := Nat.testBit_lt_two_pow (Nat.lt_of_lt_of_le ha (Nat.le_trans (by decide : 9223372036854775808 ≤ 2 ^ 64) (Nat.pow_le_pow_right (by decide) (by omega))))
      simp [this]
  show IntKind.wrap .i64 (((BitVec.ofInt 64 (a : Int) &&& ~~~ BitVec.ofInt 64 (b : Int)).toNat : Nat) : Int) = _
  rw [bv_nat, bv_nat, e]
  exact wrap64_nat h
theorem pow_small {j : Nat} (h : j < 63) : 2 ^ j < 9223372036854775808 := by
  have : 2 ^ j < 2 ^ 63 := Nat.pow_lt_pow_right (by decide) h
  simpa using this
theorem shlI_nat {a j : Nat} (hj : j ≤ 64) (h : a * 2 ^ j < 9223372036854775808) : shlI .i64 (a : Int) (j : Int) = ((a * 2 ^ j : Nat) : Int) := by
  unfold shlI
  simp only [IntKind.bits, Int.toNat_natCast]
  rw [Nat.min_eq_left hj, show ((a : Int) * 2 ^ j) = ((a * 2 ^ j : Nat) : Int) by simp]
  exact wrap64_nat h
theorem shlI_one {j : Nat} (h : j < 63) : shlI .i64 1 (j : Int) = ((2 ^ j : Nat) : Int) := by
  have := shlI_nat (a := 1) (j := j) (by omega) (by rw [Nat.one_mul]; exact pow_small h)
  simpa using this
theorem shrI_nat {a j : Nat} (hj : j ≤ 64) : shrI .i64 (a : Int) (j : Int) = ((a / 2 ^ j : Nat) : Int) := by
  unfold shrI
  simp only [IntKind.bits, Int.toNat_natCast]
  rw [Nat.min_eq_left hj, show ((2 : Int) ^ j) = ((2 ^ j : Nat) : Int) by simp, Int.fdiv_eq_ediv_of_nonneg _ (Int.natCast_nonneg _)]
  simp

-- maps
theorem mget_nil {kk kv : K} {k : kk.den} : mget kk kv [] k = none := rfl
theorem mpos_lt {kk kv : K} {l : List (kk.den × kv.den)} {k : kk.den} (h : mpos kk kv l k < l.length) : ∃ e, l[mpos kk kv l k]? = some e ∧ eqB kk k e.1 = true := by
  have := List.findIdx_getElem (xs := l) (p := fun (e : kk.den × kv.den) => eqB kk k e.1) (w := h)
  exact ⟨_, List.getElem?_eq_getElem h, this⟩
theorem find_modify {α : Type} {p : α → Bool} {x : α} : ∀ {l : List α} {i : Nat}, (∀ y, l[i]? = some y → p y = p x) → p x = false → (l.modify i (fun _ => x)).find? p = l.find? p
  | [], i, _, _ => by simp
  | y :: l, 0, h, hx => by
    have := h y rfl
    rw [hx] at this
    simp [List.modify, List.find?, this, hx]
  | y :: l, i + 1, h, hx => by
    have ih := find_modify (l := l) (i := i) (fun z hz => h z (by simpa using hz)) hx
    simp only [List.modify_succ_cons, List.find?_cons]
    rw [ih]
theorem find_modify_at {α : Type} {p : α → Bool} {x : α} (hx : p x = true) : ∀ {l : List α}, l.findIdx p < l.length → (l.modify (l.findIdx p) (fun _ => x)).find? p = some x
  | [], h => by simp at h
  | y :: l, h => by
    rw [List.findIdx_cons] at h ⊢
    cases hy : p y with
    | true => simp [hx]
    | false =>
      rw [hy] at h
      simp only [cond_false, List.length_cons] at h ⊢
      rw [List.modify_succ_cons, List.find?_cons, hy]
      exact find_modify_at hx (by omega)
theorem mget_mput {kk kv : K} (hc : kk.cmp = true) {l : List (kk.den × kv.den)} {k k' : kk.den} {v : kv.den} : mget kk kv (mput kk kv l k v) k' = if eqB kk k' k = true then some v else mget kk kv l k' := by
  unfold mget mput
  by_cases hk : eqB kk k' k = true
  · have := eqB_eq hc hk
    subst this
    rw [if_pos hk]
    split
    · rename_i h
      rw [show mpos kk kv l k' = l.findIdx (fun e => eqB kk k' e.1) from rfl] at h ⊢
      rw [find_modify_at (by exact hk) h]
      rfl
    · rename_i h
      have hn : l.find? (fun e => eqB kk k' e.1) = none := by
        rw [List.find?_eq_none]
        intro x hx hp
        exact h (List.findIdx_lt_length_of_exists ⟨x, hx, hp⟩)
      rw [List.find?_append, hn]
      simp [hk]
  · rw [if_neg hk]
    have hk' : eqB kk k' k = false := by simpa using hk
    split
    · rename_i h
      rw [find_modify (fun y hy => ?_) (by exact hk')]
      obtain ⟨e, he, hp⟩ := mpos_lt h
      rw [he] at hy
      cases hy
      rw [← eqB_eq hc hp]
    · rw [List.find?_append]
      simp [hk']
theorem foldl_snoc {α β : Type} (g : α → β) : ∀ (l : List α) (o : List β), l.foldl (fun o x => o ++ [g x]) o = o ++ l.map g
  | [], o => by simp
  | x :: l, o => by rw [List.foldl_cons, foldl_snoc g l]; simp
end Go.Proofs.YtcppmlgnceldmaaGreat.Gp

/- More fuel, no other answer. -/
set_option linter.unusedVariables false
noncomputable section
namespace Go.Proofs.YtcppmlgnceldmaaGreat.Gp
open Go

def Mono {α : Type} (f : Nat → Option α) : Prop := ∀ k j v, k ≤ j → f k = some v → f j = some v
theorem Mono.ev {α : Type} {f : Nat → Option α} (h : Mono f) {n : Nat} {v : α} (e : f n = some v) : Ev f v := ⟨n, fun k hk => h n k v hk e⟩
theorem Mono.const {α : Type} (o : Option α) : Mono (fun _ => o) := fun _ _ _ _ h => h
theorem Mono.bind {α β : Type} {f : Nat → Option α} {g : Nat → α → Option β} (h : Mono f) (h2 : ∀ a, Mono (fun k => g k a)) : Mono (fun k => (f k).bind (g k)) := by
  intro k j v hk he
  obtain ⟨a, ha, hb⟩ := Option.bind_eq_some_iff.1 he
  exact Option.bind_eq_some_iff.2 ⟨a, h k j a hk ha, h2 a k j v hk hb⟩
theorem Mono.cond {α : Type} {c : Bool} {f g : Nat → Option α} (h : Mono f) (h2 : Mono g) : Mono (fun k => cond c (f k) (g k)) := by
  cases c
  · exact h2
  · exact h
theorem Mono.joined {α β : Type} {f : Nat → Option (α ⊕ β)} {g : Nat → α → Option β} (h : Mono f) (h2 : ∀ a, Mono (fun k => g k a)) : Mono (fun k => (f k).bind (joined (g k))) :=
  Mono.bind (g := fun k => Gp.joined (g k)) h (fun a => by
    cases a with
    | inl a => exact h2 a
    | inr b => exact Mono.const _)
theorem Mono.loop {S R : Type} {body : Nat → S → Option (S ⊕ R)} {s : S} (h : ∀ s, Mono (fun k => body k s)) : Mono (fun k => loopN (body k) k s) := by
  have key : ∀ (n : Nat) (k j m : Nat) (s : S) (v : R), k ≤ j → n ≤ m → loopN (body k) n s = some v → loopN (body j) m s = some v := by
    intro n
    induction n with
    | zero => intro k j m s v _ _ he; cases he
    | succ n ih =>
      intro k j m s v hk hm he
      obtain ⟨m, rfl⟩ : ∃ i, m = i + 1 := ⟨m - 1, by omega⟩
      obtain ⟨a, ha, hb⟩ := Option.bind_eq_some_iff.1 (show (body k s).bind _ = some v from he)
      refine Option.bind_eq_some_iff.2 ⟨a, h s k j a hk ha, ?_⟩
      cases a with
      | inl s' => exact ih k j m s' v hk (by omega) hb
      | inr r => exact hb
  intro k j v hk he
  exact key k k j j s v hk hk he
theorem Mono.agree {α : Type} {f g : Nat → Option α} (h : Mono f) (h2 : Mono g) : Mono (fun k => agree (f k) (g k)) := by
  intro k j v hk he
  obtain ⟨a, b⟩ := agree_some he
  show Gp.agree (f j) (g j) = some v
  rw [h k j v hk a, h2 k j v hk b]
  exact agree_self _
theorem Mono.orNil {α : Type} {n : Nat} {f g : Nat → Option α} (h : Mono f) (h2 : Mono g) : Mono (fun k => orNil n (f k) (g k)) := by
  intro k j v hk he
  obtain ⟨a, b⟩ := orNil_some he
  have h3 := h2 k j v hk a
  show Gp.orNil n (f j) (g j) = some v
  rw [orNil_same (fun e => by rw [h3, h k j v hk (b e)])]
  exact h3
theorem Mono.prod {α β γ : Type} {f : Nat → α × β → Option γ} (h : ∀ a b, Mono (fun k => f k (a, b))) : ∀ x, Mono (fun k => f k x) := fun x => by
  obtain ⟨a, b⟩ := x
  exact h a b
end Go.Proofs.YtcppmlgnceldmaaGreat.Gp

/- What is left of a Go function answers, and its answer has a property. No program in sight. -/
set_option linter.unusedVariables false
noncomputable section
namespace Go.Proofs.YtcppmlgnceldmaaGreat.Gp
open Go

def Tot {α : Type} (f : Nat → Option α) (P : α → Prop) : Prop := ∃ v, Ev f v ∧ P v
theorem Tot.ret {α : Type} {P : α → Prop} {v : α} (h : P v) : Tot (fun _ => some v) P := ⟨v, .now _, h⟩
theorem Tot.of {α : Type} {P : α → Prop} {f : Nat → Option α} {v : α} (h : Ev f v) (hp : P v) : Tot f P := ⟨v, h, hp⟩
theorem Tot.mono {α : Type} {P Q : α → Prop} {f : Nat → Option α} (h : Tot f P) (hp : ∀ v, P v → Q v) : Tot f Q := by
  obtain ⟨v, h1, h2⟩ := h
  exact ⟨v, h1, hp v h2⟩
theorem Tot.bind {α β : Type} {P : α → Prop} {Q : β → Prop} {f : Nat → Option α} {g : Nat → α → Option β} (h : Tot f P) (h2 : ∀ a, P a → Tot (fun k => g k a) Q) : Tot (fun k => (f k).bind (g k)) Q := by
  obtain ⟨a, h, ha⟩ := h
  obtain ⟨b, h2, hb⟩ := h2 a ha
  exact ⟨b, h.bind h2, hb⟩
theorem Tot.val {α β : Type} {Q : β → Prop} {o : Option α} {g : Nat → α → Option β} {a : α} (h : o = some a) (h2 : Tot (fun k => g k a) Q) : Tot (fun k => o.bind (g k)) Q := by
  subst h
  exact h2
theorem Tot.ask {β : Type} {Q : β → Prop} {c : Prop} [Decidable c] {g : Nat → Unit → Option β} (hc : c) (h2 : Tot (fun k => g k ()) Q) : Tot (fun k => (if c then some () else none).bind (g k)) Q := Tot.val (if_pos hc) h2
theorem Tot.nneg {α β : Type} {Q : β → Prop} {x : Int} {y : α} {g : Nat → α → Option β} (hx : 0 ≤ x) (h2 : Tot (fun k => g k y) Q) : Tot (fun k => (if x < 0 then none else some y).bind (g k)) Q := Tot.val (if_neg (by omega)) h2
theorem Tot.cnd {α : Type} {P : α → Prop} {c : Bool} {f g : Nat → Option α} (h1 : c = true → Tot f P) (h2 : c = false → Tot g P) : Tot (fun k => cond c (f k) (g k)) P := by
  cases c with
  | true => exact h1 rfl
  | false => exact h2 rfl
theorem Tot.join {α β : Type} {P : α ⊕ β → Prop} {Q : β → Prop} {f : Nat → Option (α ⊕ β)} {g : Nat → α → Option β} (h : Tot f P) (h1 : ∀ a, P (.inl a) → Tot (fun k => g k a) Q) (h2 : ∀ b, P (.inr b) → Q b) : Tot (fun k => (f k).bind (joined (g k))) Q := by
  obtain ⟨v, h, hv⟩ := h
  cases v with
  | inl a =>
    obtain ⟨b, h3, hb⟩ := h1 a hv
    exact ⟨b, Ev.joinL (S := Unit) h h3, hb⟩
  | inr b => exact ⟨b, h.joinR, h2 b hv⟩
theorem Tot.read {α β : Type} {Q : β → Prop} {l : List α} {i : Int} {g : Nat → α → Option β} (h : 0 ≤ i ∧ i < (l.length : Int)) (h2 : ∀ a, l[i.toNat]? = some a → Tot (fun k => g k a) Q) : Tot (fun k => (rd l i).bind (g k)) Q := by
  have hlt : i.toNat < l.length := by omega
  have := List.getElem?_eq_getElem hlt
  exact Tot.val (rd_at (i := i.toNat) (by omega) this) (h2 _ this)
theorem Tot.ev {α : Type} {P : α → Prop} {f : Nat → Option α} (h : Tot f P) : ∃ v, Ev f v ∧ P v := h
/-- a loop over a list -/
theorem Tot.walk {α β S R : Type} {body : Nat → S → Option (S ⊕ R)} (l : List α) (st : β → Int → S) (Inv : β → Prop) (Q : R → Prop)
    (hs : ∀ (i : Nat) x b, l[i]? = some x → Inv b → Tot (fun k => body k (st b (i : Int))) (fun y => match y with | .inl s => ∃ b', s = st b' ((i : Int) + 1) ∧ Inv b' | .inr r => Q r))
    (hd : ∀ b, Inv b → Tot (fun k => body k (st b l.length)) (fun y => match y with | .inl s => False | .inr r => Q r)) {b : β} (h0 : Inv b) : Tot (fun k => loopN (body k) k (st b 0)) Q := by
  have key : ∀ (suf pre : List α) (b : β), l = pre ++ suf → Inv b → ∃ r, Lp body (st b (pre.length : Int)) r ∧ Q r := by
    intro suf
    induction suf with
    | nil =>
      intro pre b h hi
      rw [List.append_nil] at h
      subst h
      obtain ⟨y, h1, h2⟩ := hd b hi
      cases y with
      | inl s => exact h2.elim
      | inr r => exact ⟨r, .done h1, h2⟩
    | cons x suf ih =>
      intro pre b h hi
      have hx : l[pre.length]? = some x := by rw [h]; simp
      obtain ⟨y, h1, h2⟩ := hs pre.length x b hx hi
      cases y with
      | inr r => exact ⟨r, .done h1, h2⟩
      | inl s =>
        obtain ⟨b', rfl, hb'⟩ := h2
        obtain ⟨r, h3, h4⟩ := ih (pre ++ [x]) b' (by rw [h]; simp) hb'
        refine ⟨r, .step h1 ?_, h4⟩
        rw [List.length_append] at h3
        exact h3
  obtain ⟨r, h1, h2⟩ := key l [] b rfl h0
  exact ⟨r, h1.ev, h2⟩

/-- .. with what was seen so far -/
theorem Tot.walkI {α β S R : Type} {body : Nat → S → Option (S ⊕ R)} (l : List α) (st : β → Int → S) (Inv : Nat → β → Prop) (Q : R → Prop)
    (hs : ∀ (i : Nat) x b, l[i]? = some x → Inv i b → Tot (fun k => body k (st b (i : Int))) (fun y => match y with | .inl s => ∃ b', s = st b' ((i : Int) + 1) ∧ Inv (i + 1) b' | .inr r => Q r))
    (hd : ∀ b, Inv l.length b → Tot (fun k => body k (st b l.length)) (fun y => match y with | .inl s => False | .inr r => Q r)) {b : β} (h0 : Inv 0 b) : Tot (fun k => loopN (body k) k (st b 0)) Q := by
  have key : ∀ (suf pre : List α) (b : β), l = pre ++ suf → Inv pre.length b → ∃ r, Lp body (st b (pre.length : Int)) r ∧ Q r := by
    intro suf
    induction suf with
    | nil =>
      intro pre b h hi
      rw [List.append_nil] at h
      subst h
      obtain ⟨y, h1, h2⟩ := hd b hi
      cases y with
      | inl s => exact h2.elim
      | inr r => exact ⟨r, .done h1, h2⟩
    | cons x suf ih =>
      intro pre b h hi
      have hx : l[pre.length]? = some x := by rw [h]; simp
      obtain ⟨y, h1, h2⟩ := hs pre.length x b hx hi
      cases y with
      | inr r => exact ⟨r, .done h1, h2⟩
      | inl s =>
        obtain ⟨b', rfl, hb'⟩ := h2
        obtain ⟨r, h3, h4⟩ := ih (pre ++ [x]) b' (by rw [h]; simp) (by rw [List.length_append]; exact hb')
        refine ⟨r, .step h1 ?_, h4⟩
        rw [List.length_append] at h3
        exact h3
  obtain ⟨r, h1, h2⟩ := key l [] b rfl h0
  exact ⟨r, h1.ev, h2⟩

/-- all rows of numbers have nine -/
class Nin (α : Type) where
  p : α → Prop
instance : Nin Unit := ⟨fun _ => True⟩
instance : Nin Int := ⟨fun _ => True⟩
instance : Nin Bool := ⟨fun _ => True⟩
instance : Nin (List Int) := ⟨fun l => l.length = 9⟩
instance {α β : Type} [Nin α] [Nin β] : Nin (α × β) := ⟨fun x => Nin.p x.1 ∧ Nin.p x.2⟩
instance {α β : Type} [Nin α] [Nin β] : Nin (α ⊕ β) := ⟨fun x => match x with | .inl a => Nin.p a | .inr b => Nin.p b⟩
theorem nin_mk {α β : Type} [Nin α] [Nin β] {a : α} {b : β} (h1 : Nin.p a) (h2 : Nin.p b) : Nin.p (a, b) := ⟨h1, h2⟩
theorem nin_set {l : List Int} {i : Nat} {x : Int} (h : Nin.p l) : Nin.p (l.set i x) := (List.length_set ..).trans h
theorem nin_rep : Nin.p (List.replicate 9 (0 : Int)) := List.length_replicate ..
theorem nin_len {l : List Int} (h : Nin.p l) : l.length = 9 := h
theorem nin_inl {α β : Type} [Nin α] [Nin β] {a : α} (h : Nin.p a) : Nin.p (.inl a : α ⊕ β) := h
theorem nin_inr {α β : Type} [Nin α] [Nin β] {b : β} (h : Nin.p b) : Nin.p (.inr b : α ⊕ β) := h
theorem Tot.prod {α β γ : Type} [Nin α] [Nin β] {Q : γ → Prop} {f : Nat → α × β → Option γ} (h : ∀ a, Nin.p a → ∀ b, Nin.p b → Tot (fun k => f k (a, b)) Q) : ∀ x : α × β, Nin.p x → Tot (fun k => f k x) Q := fun x hx => h x.1 hx.1 x.2 hx.2
theorem Tot.joinN {α β : Type} [Nin α] [Nin β] {f : Nat → Option (α ⊕ β)} {g : Nat → α → Option β} (h : Tot f Nin.p) (h1 : ∀ a, Nin.p a → Tot (fun k => g k a) Nin.p) : Tot (fun k => (f k).bind (Gp.joined (g k))) Nin.p :=
  Tot.join (P := Nin.p) h h1 (fun _ h => h)
/-- in the row -/
theorem inr9 {l : List Int} {i : Int} (h : Nin.p l) (h0 : 0 ≤ i) (h1 : i < 9) : 0 ≤ i ∧ i < (l.length : Int) := by
  have := nin_len h
  omega
/-- it answers -/
theorem Tot.bindT {α β : Type} {Q : β → Prop} {f : Nat → Option α} {g : Nat → α → Option β} (h : Tot f (fun _ => True)) (h2 : ∀ a, Tot (fun k => g k a) Q) : Tot (fun k => (f k).bind (g k)) Q := Tot.bind h (fun a _ => h2 a)
theorem Tot.any {α : Type} {P : α → Prop} {f : Nat → Option α} (h : Tot f P) : Tot f (fun _ => True) := h.mono fun _ _ => trivial
theorem Tot.prodT {α β γ : Type} {Q : γ → Prop} {f : Nat → α × β → Option γ} (h : ∀ a b, Tot (fun k => f k (a, b)) Q) : ∀ x : α × β, Tot (fun k => f k x) Q := fun x => h x.1 x.2
theorem Tot.joinT {α β : Type} {f : Nat → Option (α ⊕ β)} {g : Nat → α → Option β} (h : Tot f (fun _ => True)) (h1 : ∀ a, Tot (fun k => g k a) (fun _ => True)) : Tot (fun k => (f k).bind (Gp.joined (g k))) (fun _ => True) :=
  Tot.join (P := fun _ => True) h (fun a _ => h1 a) (fun _ _ => trivial)
end Go.Proofs.YtcppmlgnceldmaaGreat.Gp

/- Processors: steps answer. No program in sight. -/
set_option linter.unusedVariables false
set_option maxRecDepth 100000
noncomputable section
namespace Go.Proofs.YtcppmlgnceldmaaGreat.Gf
open Go Go.Proofs.YtcppmlgnceldmaaGreat.Gp

abbrev Stp4 := Int × Int × Int × Int
abbrev Cyc := Int × Int × Int × List Stp4
abbrev Ins := Int × ByteArray × Int × List Cyc
abbrev Cpu := ByteArray × List Ins × List Cyc × List Cyc × List Cyc
abbrev Cor := List Int × Int × Int × Bool
instance : Nin Stp4 := ⟨fun _ => True⟩

theorem mm_bounds (a b x : Int) (h : a ≤ b) : a ≤ mxI a (mnI x b) ∧ mxI a (mnI x b) ≤ b := by
  unfold mxI mnI
  split <;> split <;> omega
theorem mx_ge (a x : Int) : a ≤ mxI a x := by unfold mxI; split <;> omega
theorem width_t (bits : Int) : Tot (fun k => width100 k bits) (fun v => 0 ≤ v.1 ∧ v.1 ≤ 62) := by
  unfold width100
  exact .ret (mm_bounds 0 62 bits (by decide))
theorem index_t (reg : Int) : Tot (fun k => index142 k reg) (fun v => 0 ≤ v.1 ∧ v.1 < 9) := by
  unfold index142
  have := mm_bounds 0 8 reg (by decide)
  exact .ret ⟨this.1, by show mxI 0 (mnI reg 8) < 9; omega⟩
theorem low_t (n bits : Int) : Tot (fun k => Low70 k n bits) (fun _ => True) := by
  unfold Low70
  refine .bind (width_t bits) fun a ha => .nneg ha.1 (.ret trivial)
theorem wide_t (r : Int) : Tot (fun k => Wide102 k r) (fun v => v.1 = (cond (r == 7) true (r == 8))) := by
  unfold Wide102
  exact .ret rfl
theorem bits_t (r : Int) : Tot (fun k => bits140 k r) (fun v => v.1 = 8 ∨ v.1 = 16) := by
  unfold bits140
  exact .bind (wide_t r) fun a _ => .cnd (fun _ => .ret (.inr rfl)) (fun _ => .ret (.inl rfl))
theorem place_t (a s : Int) : Tot (fun k => place151 k a s) (fun v => 0 ≤ v.1.1 ∧ 0 ≤ v.1.2.1) := by
  unfold place151
  exact .bind (width_t a) fun b hb => .ret ⟨hb.1, mx_ge 0 _⟩
theorem put_t (n a s v : Int) : Tot (fun k => Put147 k n a s v) (fun _ => True) := by
  unfold Put147
  exact .bind (place_t a s) fun b hb => .nneg hb.2 (.nneg hb.1 (.bind (low_t _ _) fun _ _ => .bind (low_t _ _) fun _ _ => .nneg hb.1 (.ret trivial)))
theorem get_t (n a s : Int) : Tot (fun k => Get123 k n a s) (fun _ => True) := by
  unfold Get123
  exact .bind (place_t a s) fun b hb => .bind (low_t _ _) fun _ _ => .nneg hb.1 (.bind (low_t _ _) fun _ _ => .ret trivial)
theorem signed_t (n b : Int) : Tot (fun k => Signed148 k n b) (fun _ => True) := by
  unfold Signed148
  refine .bind (width_t b) fun w hw => .bind (low_t _ _) fun x _ => .bind (P := fun _ => True) (.cnd (fun h => ?_) (fun _ => .ret trivial)) fun y _ => .bind (P := fun _ => True) (.cnd (fun _ => .nneg hw.1 (.ret trivial)) (fun _ => .ret trivial)) fun z _ => .ret trivial
  have h := of_decide_eq_true h
  refine .nneg ?_ (.ret trivial)
  rw [w64_id (by omega) (by omega)]
  omega
theorem add_t (a b c d : Int) : Tot (fun k => Add172 k a b c d) (fun _ => True) := by
  unfold Add172
  exact .bind (width_t d) fun w hw => .bind (low_t _ _) fun x _ => .bind (low_t _ _) fun y _ => .nneg hw.1 (.bind (low_t _ _) fun _ _ => .ret trivial)
theorem sub_t (a b c d : Int) : Tot (fun k => Sub175 k a b c d) (fun _ => True) := by
  unfold Sub175
  exact .bind (width_t d) fun w hw => .bind (low_t _ _) fun x _ => .bind (low_t _ _) fun y _ => .cnd (fun _ => .nneg hw.1 (.ret trivial)) (fun _ => .ret trivial)
theorem rol_t (a b c : Int) : Tot (fun k => Rol176 k a b c) (fun _ => True) := by
  unfold Rol176
  exact .bind (width_t c) fun w hw => .bind (low_t _ _) fun x _ => .nneg hw.1 (.bind (low_t _ _) fun _ _ => .ret trivial)
theorem ror_t (a b c : Int) : Tot (fun k => Ror177 k a b c) (fun _ => True) := by
  unfold Ror177
  exact .bind (width_t c) fun w hw => .nneg hw.1 (.bind (low_t _ _) fun x _ => .ret trivial)
theorem flag_t {r : List Int} (h : Nin.p r) (f : Int) (on : Bool) : Tot (fun k => flag146 k r f on) Nin.p := by
  unfold flag146
  repeat' (first | ((with_reducible refine Tot.ret ?_); (repeat' (first | assumption | exact nin_rep | with_reducible refine nin_mk ?_ ?_ | with_reducible refine nin_set ?_ | with_reducible refine nin_inl ?_ | with_reducible refine nin_inr ?_ | exact (trivial : True))); done) | ((with_reducible refine Tot.ask ?_ ?_); (· omega)) | ((with_reducible refine Tot.nneg ?_ ?_); (· omega)) | ((with_reducible refine Tot.read ?_ ?_); (· exact inr9 (by repeat' (first | assumption | exact nin_rep | with_reducible refine nin_mk ?_ ?_ | with_reducible refine nin_set ?_ | with_reducible refine nin_inl ?_ | with_reducible refine nin_inr ?_ | exact (trivial : True))) (by omega) (by omega))) | with_reducible refine Tot.cnd ?_ ?_ | with_reducible refine Tot.joinN ?_ ?_ | with_reducible refine Tot.bind (P := Nin.p) ?_ ?_ | with_reducible refine Tot.prod ?_ | intro _ | (dsimp only))
theorem nz_t {r : List Int} (h : Nin.p r) (n : Int) : Tot (fun k => nz143 k r n) Nin.p := by
  unfold nz143
  exact .bind (flag_t h _ _) fun a ha => .bind (flag_t ha.1 _ _) fun b hb => .ret hb
theorem carry_t {r : List Int} (h : Nin.p r) : Tot (fun k => carry173 k r) (fun _ => True) := by
  unfold carry173
  exact .read (inr9 h (by decide) (by decide)) fun a _ => .ret trivial
theorem result_t {r : List Int} (h : Nin.p r) {to : Int} (h0 : 0 ≤ to ∧ to < 9) (n c : Int) : Tot (fun k => result174 k r to n c) Nin.p := by
  unfold result174
  exact .bind (nz_t h n) fun a ha => .bind (flag_t ha.1 _ _) fun b hb => .ask h0 (.read (inr9 hb.1 h0.1 h0.2) fun c _ => .ret ⟨nin_set hb.1, trivial⟩)
theorem binary_t {r : List Int} (h : Nin.p r) {to fr : Int} (h0 : 0 ≤ to ∧ to < 9) (h1 : 0 ≤ fr ∧ fr < 9) (d : Int) : Tot (fun k => binary144 k d to fr r) Nin.p := by
  unfold binary144
  refine .ask h0 (.read (inr9 h h0.1 h0.2) fun a _ => .ask h1 (.read (inr9 h h1.1 h1.2) fun b _ => .bind (low_t _ _) fun x _ => .bind (low_t _ _) fun y _ => .cnd (fun _ => ?_) (fun _ => .cnd (fun _ => ?_) (fun _ => .cnd (fun _ => ?_) (fun _ => ?_)))))
  · exact .bind (carry_t h) fun c _ => .bind (add_t _ _ _ _) fun d _ => .bind (result_t h h0 _ _) fun e he => .ret he
  · exact .bind (carry_t h) fun c _ => .bind (sub_t _ _ _ _) fun d _ => .bind (result_t h h0 _ _) fun e he => .ret he
  · exact .bind (sub_t _ _ _ _) fun d _ => .bind (nz_t h _) fun e he => .bind (flag_t he.1 _ _) fun g hg => .ret hg
  · refine .bind (P := Nin.p) (by repeat' (first | ((with_reducible refine Tot.ret ?_); (repeat' (first | assumption | exact nin_rep | with_reducible refine nin_mk ?_ ?_ | with_reducible refine nin_set ?_ | with_reducible refine nin_inl ?_ | with_reducible refine nin_inr ?_ | exact (trivial : True))); done) | ((with_reducible refine Tot.ask ?_ ?_); (· omega)) | ((with_reducible refine Tot.nneg ?_ ?_); (· omega)) | ((with_reducible refine Tot.read ?_ ?_); (· exact inr9 (by repeat' (first | assumption | exact nin_rep | with_reducible refine nin_mk ?_ ?_ | with_reducible refine nin_set ?_ | with_reducible refine nin_inl ?_ | with_reducible refine nin_inr ?_ | exact (trivial : True))) (by omega) (by omega))) | with_reducible refine Tot.cnd ?_ ?_ | with_reducible refine Tot.joinN ?_ ?_ | with_reducible refine Tot.bind (P := Nin.p) ?_ ?_ | with_reducible refine Tot.prod ?_ | intro _ | (dsimp only))) ?_
    refine Tot.prod fun _ _ => Tot.prod fun _ _ => Tot.prod fun a _ => Tot.prod fun o ho _ _ => ?_
    exact .bind (nz_t ho _) fun g hg => .ask h0 (.read (inr9 hg.1 h0.1 h0.2) fun c _ => .ret ⟨nin_set hg.1, trivial⟩)
theorem shift_t {r : List Int} (h : Nin.p r) {to : Int} (h0 : 0 ≤ to ∧ to < 9) (d : Int) : Tot (fun k => shift145 k d to r) Nin.p := by
  unfold shift145
  refine .bind (carry_t h) fun c _ => .bind (P := Nin.p) (by repeat' (first | ((with_reducible refine Tot.ret ?_); (repeat' (first | assumption | exact nin_rep | with_reducible refine nin_mk ?_ ?_ | with_reducible refine nin_set ?_ | with_reducible refine nin_inl ?_ | with_reducible refine nin_inr ?_ | exact (trivial : True))); done) | ((with_reducible refine Tot.ask ?_ ?_); (· omega)) | ((with_reducible refine Tot.nneg ?_ ?_); (· omega)) | ((with_reducible refine Tot.read ?_ ?_); (· exact inr9 (by repeat' (first | assumption | exact nin_rep | with_reducible refine nin_mk ?_ ?_ | with_reducible refine nin_set ?_ | with_reducible refine nin_inl ?_ | with_reducible refine nin_inr ?_ | exact (trivial : True))) (by omega) (by omega))) | with_reducible refine Tot.cnd ?_ ?_ | with_reducible refine Tot.joinN ?_ ?_ | with_reducible refine Tot.bind (P := Nin.p) ?_ ?_ | with_reducible refine Tot.prod ?_ | intro _ | (dsimp only))) ?_
  refine Tot.prod fun r hr => Tot.prod fun _ _ => Tot.prod fun c _ _ _ => .cnd (fun _ => .read (inr9 hr h0.1 h0.2) fun a _ => ?_) (fun _ => .read (inr9 hr h0.1 h0.2) fun a _ => ?_)
  · exact .bind (rol_t _ _ _) fun b _ => .bind (result_t hr h0 _ _) fun e he => .ret he
  · exact .bind (ror_t _ _ _) fun b _ => .bind (result_t hr h0 _ _) fun e he => .ret he
end Go.Proofs.YtcppmlgnceldmaaGreat.Gf

/- Processors: a step answers; registers that fit. No program in sight. -/
set_option linter.unusedVariables false
set_option maxRecDepth 100000
noncomputable section
namespace Go.Proofs.YtcppmlgnceldmaaGreat.Gf
open Go Go.Proofs.YtcppmlgnceldmaaGreat.Gp

theorem ibits_low (n : Int) {j : Nat} (hj : j ≤ 62) : ibits .and .i64 n ((2 ^ j - 1 : Nat) : Int) = n % ((2 ^ j : Nat) : Int) := by
  have hp : 2 ^ j ≤ 2 ^ 62 := Nat.pow_le_pow_right (by decide) hj
  have hpos : 0 < 2 ^ j := Nat.pow_pos (by decide)
  have e62 : (2 : Nat) ^ 62 = 4611686018427387904 := by decide
  have e64 : (2 : Nat) ^ 64 = 18446744073709551616 := by decide
  show IntKind.wrap .i64 (((BitVec.ofInt 64 n &&& BitVec.ofInt 64 ((2 ^ j - 1 : Nat) : Int)).toNat : Nat) : Int) = _
  rw [bv_nat, BitVec.toNat_and, BitVec.toNat_ofNat, Nat.mod_eq_of_lt (by omega), BitVec.toNat_ofInt, Nat.and_two_pow_sub_one_eq_mod]
  have hlt : (n % (2 ^ 64 : Nat)).toNat % 2 ^ j < 2 ^ j := Nat.mod_lt _ hpos
  rw [wrap64_nat (by omega), Int.natCast_emod, Int.toNat_of_nonneg (Int.emod_nonneg _ (by rw [e64]; decide))]
  exact Int.emod_emod_of_dvd n (Int.natCast_dvd_natCast.2 (Nat.pow_dvd_pow 2 (by omega)))
theorem low8_ev (n : Int) : Ev (fun k => Low70 k n 8) (n % 256, ()) := by
  unfold Low70
  refine .val (a := (8, ())) rfl (.val (a := shlI .i64 1 8) rfl (.now' ?_))
  have := ibits_low n (j := 8) (by decide)
  exact congrArg (fun x => (x, ())) this
theorem low16_ev (n : Int) : Ev (fun k => Low70 k n 16) (n % 65536, ()) := by
  unfold Low70
  refine .val (a := (16, ())) rfl (.val (a := shlI .i64 1 16) rfl (.now' ?_))
  have := ibits_low n (j := 16) (by decide)
  exact congrArg (fun x => (x, ())) this
def mI (i : Nat) : Int := if i = 7 ∨ i = 8 then 65536 else 256
def fitF (o : List Int) (i : Nat) : List Int := o.set i (o.getD i 0 % mI i)
def fitL (r : List Int) : List Int := (List.range 9).foldl fitF r
theorem nine {r : List Int} (h : r.length = 9) : ∃ a0 a1 a2 a3 a4 a5 a6 a7 a8, r = [a0, a1, a2, a3, a4, a5, a6, a7, a8] := by
  match r, h with
  | [a0, a1, a2, a3, a4, a5, a6, a7, a8], _ => exact ⟨a0, a1, a2, a3, a4, a5, a6, a7, a8, rfl⟩
theorem fitL_mk (a0 a1 a2 a3 a4 a5 a6 a7 a8 : Int) : fitL [a0, a1, a2, a3, a4, a5, a6, a7, a8] = [a0 % 256, a1 % 256, a2 % 256, a3 % 256, a4 % 256, a5 % 256, a6 % 256, a7 % 65536, a8 % 65536] := rfl
theorem bits_ev (i : Nat) : Ev (fun k => bits140 k (i : Int)) (if i = 7 ∨ i = 8 then 16 else 8, ()) := by
  unfold bits140 Wide102
  refine .val rfl (.cnd (fun h => ?_) (fun h => ?_))
  · rw [if_pos]
    · exact .now _
    · by_cases h7 : i = 7
      · exact .inl h7
      · right
        have : ((i : Int) == 7) = false := by simpa using (by omega : ¬ (i : Int) = 7)
        simp only [this, cond_false] at h
        have := eq_of_beq h
        omega
  · rw [if_neg]
    · exact .now _
    · rintro (rfl | rfl) <;> cases h
theorem fit_ev {r : List Int} (h : r.length = 9) : Ev (fun k => Fit104 k r) (fitL r, ()) := by
  unfold Fit104
  refine .bind (a := ((), (), fitL r, List.replicate 9 0)) (Lp.ev ?_) (.now _)
  refine Lp.count (body := fun k => Fit104.l0 k) 9 (fun (o : List Int) i => ((), (), i, o, List.replicate 9 0)) fitF (fun o => ((), (), o, List.replicate 9 0)) (fun _ o => o.length = 9) (fun i o hi ho => ⟨?_, ?_⟩) (fun b _ => ?_) (b := r) h
  · have hx : o[i]? = some (o.getD i 0) := by rw [List.getD_eq_getElem?_getD, List.getElem?_eq_getElem (by omega)]; rfl
    have hr := rd_some' hx
    simp only [Fit104.l0]
    refine .yes (decide_eq_true (by omega)) (.val (a := ()) (if_pos ⟨by omega, by omega⟩) (.val hr (.bind (bits_ev i) (.bind (a := (o.getD i 0 % mI i, ())) ?_ (.val (a := ()) (if_pos ⟨by omega, by omega⟩) (.val hr (.now' ?_)))))))
    · unfold mI
      by_cases h7 : i = 7 ∨ i = 8
      · rw [if_pos h7, if_pos h7]; exact low16_ev _
      · rw [if_neg h7, if_neg h7]; exact low8_ev _
    · rw [w64_id (by omega) (by omega)]
      rfl
  · unfold fitF; rw [List.length_set]; exact ho
  · simp only [Fit104.l0]
    exact .no rfl (.now _)
theorem fitL_nin {r : List Int} (h : Nin.p r) : Nin.p (fitL r) := by
  obtain ⟨a0, a1, a2, a3, a4, a5, a6, a7, a8, rfl⟩ := nine h
  rfl
theorem fit_t {r : List Int} (h : Nin.p r) : Tot (fun k => Fit104 k r) Nin.p := .of (fit_ev (nin_len h)) ⟨fitL_nin h, trivial⟩
theorem do_t (s : Stp4) {r : List Int} (h : Nin.p r) : Tot (fun k => Do110 k s r) Nin.p := by
  unfold Do110
  refine .bind (index_t _) fun t11 h11 => .bind (index_t _) fun t14 h14 => .bind (fit_t h) fun t16 h16 => ?_
  have h17 : Nin.p t16.1 := h16.1
  clear h16
  repeat' (first | ((with_reducible refine Tot.ret ?_); (repeat' (first | assumption | exact nin_rep | with_reducible refine nin_mk ?_ ?_ | with_reducible refine nin_set ?_ | with_reducible refine nin_inl ?_ | with_reducible refine nin_inr ?_ | exact (trivial : True))); done) | ((with_reducible refine Tot.ask ?_ ?_); (· omega)) | ((with_reducible refine Tot.nneg ?_ ?_); (· omega)) | ((with_reducible refine Tot.read ?_ ?_); (· exact inr9 (by repeat' (first | assumption | exact nin_rep | with_reducible refine nin_mk ?_ ?_ | with_reducible refine nin_set ?_ | with_reducible refine nin_inl ?_ | with_reducible refine nin_inr ?_ | exact (trivial : True))) (by omega) (by omega))) | ((with_reducible refine Tot.bind (low_t _ _) ?_) <;> (try ((repeat' (first | assumption | exact nin_rep | with_reducible refine nin_mk ?_ ?_ | with_reducible refine nin_set ?_ | with_reducible refine nin_inl ?_ | with_reducible refine nin_inr ?_ | exact (trivial : True))); done))) | ((with_reducible refine Tot.bind (nz_t ?_ _) ?_) <;> (try ((repeat' (first | assumption | exact nin_rep | with_reducible refine nin_mk ?_ ?_ | with_reducible refine nin_set ?_ | with_reducible refine nin_inl ?_ | with_reducible refine nin_inr ?_ | exact (trivial : True))); done))) | ((with_reducible refine Tot.bind (binary_t ?_ h11 h14 _) ?_) <;> (try ((repeat' (first | assumption | exact nin_rep | with_reducible refine nin_mk ?_ ?_ | with_reducible refine nin_set ?_ | with_reducible refine nin_inl ?_ | with_reducible refine nin_inr ?_ | exact (trivial : True))); done))) | ((with_reducible refine Tot.bind (bits_t _) ?_) <;> (try ((repeat' (first | assumption | exact nin_rep | with_reducible refine nin_mk ?_ ?_ | with_reducible refine nin_set ?_ | with_reducible refine nin_inl ?_ | with_reducible refine nin_inr ?_ | exact (trivial : True))); done))) | ((with_reducible refine Tot.bind (wide_t _) ?_) <;> (try ((repeat' (first | assumption | exact nin_rep | with_reducible refine nin_mk ?_ ?_ | with_reducible refine nin_set ?_ | with_reducible refine nin_inl ?_ | with_reducible refine nin_inr ?_ | exact (trivial : True))); done))) | ((with_reducible refine Tot.bind (shift_t ?_ h11 _) ?_) <;> (try ((repeat' (first | assumption | exact nin_rep | with_reducible refine nin_mk ?_ ?_ | with_reducible refine nin_set ?_ | with_reducible refine nin_inl ?_ | with_reducible refine nin_inr ?_ | exact (trivial : True))); done))) | ((with_reducible refine Tot.bind (flag_t ?_ _ _) ?_) <;> (try ((repeat' (first | assumption | exact nin_rep | with_reducible refine nin_mk ?_ ?_ | with_reducible refine nin_set ?_ | with_reducible refine nin_inl ?_ | with_reducible refine nin_inr ?_ | exact (trivial : True))); done))) | ((with_reducible refine Tot.bind (put_t _ _ _ _) ?_) <;> (try ((repeat' (first | assumption | exact nin_rep | with_reducible refine nin_mk ?_ ?_ | with_reducible refine nin_set ?_ | with_reducible refine nin_inl ?_ | with_reducible refine nin_inr ?_ | exact (trivial : True))); done))) | ((with_reducible refine Tot.bind (get_t _ _ _) ?_) <;> (try ((repeat' (first | assumption | exact nin_rep | with_reducible refine nin_mk ?_ ?_ | with_reducible refine nin_set ?_ | with_reducible refine nin_inl ?_ | with_reducible refine nin_inr ?_ | exact (trivial : True))); done))) | ((with_reducible refine Tot.bind (signed_t _ _) ?_) <;> (try ((repeat' (first | assumption | exact nin_rep | with_reducible refine nin_mk ?_ ?_ | with_reducible refine nin_set ?_ | with_reducible refine nin_inl ?_ | with_reducible refine nin_inr ?_ | exact (trivial : True))); done))) | ((with_reducible refine Tot.bind (fit_t ?_) ?_) <;> (try ((repeat' (first | assumption | exact nin_rep | with_reducible refine nin_mk ?_ ?_ | with_reducible refine nin_set ?_ | with_reducible refine nin_inl ?_ | with_reducible refine nin_inr ?_ | exact (trivial : True))); done))) | with_reducible refine Tot.cnd ?_ ?_ | with_reducible refine Tot.joinN ?_ ?_ | with_reducible refine Tot.bind (P := Nin.p) ?_ ?_ | with_reducible refine Tot.prod ?_ | intro _ | (dsimp only))
end Go.Proofs.YtcppmlgnceldmaaGreat.Gf

/- Processors: a cycle answers. No program in sight. -/
set_option linter.unusedVariables false
set_option maxRecDepth 100000
noncomputable section
namespace Go.Proofs.YtcppmlgnceldmaaGreat.Gf
open Go Go.Proofs.YtcppmlgnceldmaaGreat.Gp

/-- registers that fit -/
def Fitd (r : List Int) : Prop := ∃ a0 a1 a2 a3 a4 a5 a6 a7 a8 : Int, r = [a0, a1, a2, a3, a4, a5, a6, a7, a8] ∧ 0 ≤ a3 ∧ a3 < 256 ∧ 0 ≤ a7 ∧ a7 < 65536 ∧ 0 ≤ a8 ∧ a8 < 65536
theorem Fitd.nin {r : List Int} (h : Fitd r) : Nin.p r := by
  obtain ⟨a0, a1, a2, a3, a4, a5, a6, a7, a8, rfl, _⟩ := h
  rfl
theorem fitL_fitd {r : List Int} (h : Nin.p r) : Fitd (fitL r) := by
  obtain ⟨a0, a1, a2, a3, a4, a5, a6, a7, a8, rfl⟩ := nine h
  exact ⟨_, _, _, _, _, _, _, _, _, fitL_mk .., by omega, by omega, by omega, by omega, by omega, by omega⟩
theorem fit_tt {r : List Int} (h : Nin.p r) : Tot (fun k => Fit104 k r) (fun v => Fitd v.1) := .of (fit_ev (nin_len h)) (fitL_fitd h)
theorem low8_t (n : Int) : Tot (fun k => Low70 k n 8) (fun v => 0 ≤ v.1 ∧ v.1 < 256) := .of (low8_ev n) ⟨by show 0 ≤ n % 256; omega, by show n % 256 < 256; omega⟩
theorem low16_t (n : Int) : Tot (fun k => Low70 k n 16) (fun v => 0 ≤ v.1 ∧ v.1 < 65536) := .of (low16_ev n) ⟨by show 0 ≤ n % 65536; omega, by show n % 65536 < 65536; omega⟩
theorem ne_of_beq {a b : Int} (h : (a == b) = false) : a ≠ b := by simpa using h
theorem fixed_t {a : Int} (h0 : 6 ≤ a) (h1 : a < 12) : Tot (fun k => fixed141 k a) (fun v => 0 ≤ v.1 ∧ v.1 < 65536) := by
  unfold fixed141
  have : a = 6 ∨ a = 7 ∨ a = 8 ∨ a = 9 ∨ a = 10 ∨ a = 11 := by omega
  rcases this with rfl | rfl | rfl | rfl | rfl | rfl <;> exact .val rfl (.val rfl (.ret ⟨by decide, by decide⟩))
def Okp (v : (Int × (List Int × Unit)) × Unit) : Prop := 0 ≤ v.1.1 ∧ v.1.1 < 65536 ∧ Nin.p v.1.2.1
theorem place79_t (at_ : Int) {r : List Int} (h : Fitd r) : Tot (fun k => place106 k at_ r) Okp := by
  obtain ⟨a0, a1, a2, a3, a4, a5, a6, a7, a8, rfl, b0, b1, b2, b3, b4, b5⟩ := h
  unfold place106
  refine .cnd (fun _ => ?_) (fun h0 => .cnd (fun _ => ?_) (fun h1 => .cnd (fun _ => ?_) (fun h2 => .cnd (fun _ => ?_) (fun h3 => .cnd (fun _ => ?_) (fun h4 => .cnd (fun _ => ?_) (fun h5 => .cnd (fun _ => ?_) (fun h6 => ?_)))))))
  · exact .ask (by decide) (.val rfl (.bind (low16_t _) fun v _ => .ask (by decide) (.val rfl (.ret ⟨b2, b3, rfl⟩))))
  · exact .ask (by decide) (.val rfl (.ret ⟨b2, b3, rfl⟩))
  · exact .ask (by decide) (.val rfl (.ret ⟨b4, b5, rfl⟩))
  · exact .ask (by decide) (.val rfl (.bind (low16_t _) fun v hv => .ret ⟨hv.1, hv.2, rfl⟩))
  · refine .ask (by decide) (.val rfl (.ask (by decide) (.val rfl (.bind (low8_t _) fun v hv => .ask (by decide) (.val rfl (.ret ⟨?_, ?_, rfl⟩))))))
    · show 0 ≤ w64 (256 + a3)
      rw [w64_id (by omega) (by omega)]; omega
    · show w64 (256 + a3) < 65536
      rw [w64_id (by omega) (by omega)]; omega
  · refine .ask (by decide) (.val rfl (.bind (low8_t _) fun v hv => .ask (by decide) (.val rfl (.ask (by decide) (.val rfl (.ret ⟨?_, ?_, rfl⟩))))))
    · show 0 ≤ w64 (256 + v.1)
      rw [w64_id (by omega) (by omega)]; omega
    · show w64 (256 + v.1) < 65536
      rw [w64_id (by omega) (by omega)]; omega
  · exact .ret ⟨by show (0 : Int) ≤ 0; decide, by show (0 : Int) < 65536; decide, rfl⟩
  · have h0 := ne_of_beq h0
    have h1 := ne_of_beq h1
    have h2 := ne_of_beq h2
    have h3 := ne_of_beq h3
    have h4 := ne_of_beq h4
    have h5 := ne_of_beq h5
    have h7 : ¬ at_ < 0 ∧ ¬ at_ ≥ 12 := by
      by_cases hn : at_ < 0
      · rw [decide_eq_true hn] at h6; cases h6
      · rw [decide_eq_false hn] at h6
        exact ⟨hn, of_decide_eq_false h6⟩
    exact .bind (fixed_t (by omega) (by omega)) fun v hv => .ret ⟨hv.1, hv.2, rfl⟩

def Wcyc (l : List Cyc) : Prop := l.length * 48 ≤ 140737488351232 ∧ ∀ y ∈ l, y.2.2.2.length * 32 ≤ 140737488351232
/-- no row is too long -/
structure Wc (c : Cpu) : Prop where
  len : c.2.1.length * 56 ≤ 140737488351232
  ins : ∀ x ∈ c.2.1, Wcyc x.2.2.2
  res : Wcyc c.2.2.1
  irq : Wcyc c.2.2.2.1
  nmi : Wcyc c.2.2.2.2
theorem cycles_t {c : Cpu} (hc : Wc c) (op : Int) : Tot (fun k => cycles111 k c op) (fun v => Wcyc v.1) := by
  have hl := hc.len
  unfold cycles111
  refine .cnd (fun _ => .ret hc.irq) fun _ => .cnd (fun _ => .ret hc.nmi) fun _ => .cnd (fun _ => .ret hc.res) fun _ => .join (P := fun y => match y with | .inl _ => True | .inr v => Wcyc v.1) ?_ (fun _ _ => .ret ⟨by simp, fun y hy => by cases hy⟩) (fun _ h => h)
  refine Tot.walk (body := fun k => cycles111.l0 k c op) c.2.1 (fun (_ : Unit) i => i) (fun _ => True) _ (fun i x b hx _ => ?_) (fun b _ => ?_) (b := ()) trivial
  · have hi := get_lt hx
    simp only [cycles111.l0]
    refine .cnd (fun _ => .val (rd_some' hx) (.cnd (fun _ => .ret (hc.ins x (get_mem hx))) (fun _ => .ret ⟨(), ?_, trivial⟩))) (fun h => absurd (of_decide_eq_false h) (by omega))
    rw [w64_id (by omega) (by omega)]
  · simp only [cycles111.l0]
    exact .cnd (fun h => absurd (of_decide_eq_true h) (by omega)) (fun _ => .ret trivial)
theorem doing_t {c : Cpu} (hc : Wc c) (kk : Cor) : Tot (fun k => doing107 k c kk) (fun v => v.1.2.1 = true → v.1.1.2.2.2.length * 32 ≤ 140737488351232) := by
  unfold doing107
  refine .bind (cycles_t hc _) fun v hv => .cnd (fun _ => .ret (fun h => by cases h)) fun h => ?_
  have h2 : ¬ kk.2.2.1 < 0 ∧ ¬ kk.2.2.1 ≥ (v.1.length : Int) := by
    by_cases hn : kk.2.2.1 < 0
    · rw [decide_eq_true hn] at h
      cases hq : (kk.2.1 == (-1)) <;> rw [hq] at h <;> cases h
    · refine ⟨hn, fun hge => ?_⟩
      have hz : ∀ z : Bool, (bif z then true else true) = true := fun z => by cases z <;> rfl
      rw [decide_eq_true hge, hz] at h
      cases h
  exact .read ⟨by omega, by omega⟩ fun x hx => .ret (fun _ => hv.2 x (get_mem hx))
theorem start_t {c : Cpu} (hc : Wc c) (kk : Cor) (h9 : Nin.p kk.1) (irq : Bool) : Tot (fun k => start105 k c kk irq) (fun v => v.1.1 = kk.1) := by
  unfold start105
  refine .join (P := fun y => match y with | .inl x => x.2.2.1.1 = kk.1 | .inr v => v.1.1 = kk.1) ?_ (fun a ha => ?_) (fun _ h => h)
  · refine Tot.walk (body := fun k => start105.l0 k irq) ([257, 256] : List Int) (fun (b : Cor × Cor) i => (c, (), (), (), i, b.1, b.2, ([257, 256] : List Int))) (fun b => b.1.1 = kk.1) _ (fun i x b hx hb => ?_) (fun b hb => ?_) (b := (kk, ((List.replicate 9 0), 0, 0, false))) rfl
    · have hi := get_lt hx
      have hi2 : i < 2 := hi
      have h9 : Nin.p b.1.1 := by rw [hb]; exact h9
      simp only [start105.l0]
      refine .cnd (fun _ => .val (rd_some' hx) (.val (rd_some' hx) (.bind (P := fun y => ∃ wv, y = (c, (), (), wv, (), b.1, b.2, ([257, 256] : List Int))) ?_ fun y hy => ?_))) (fun h => absurd (of_decide_eq_false h) (by show ¬ ¬ ((i : Int) < 2); omega))
      · refine .cnd (fun _ => .bind (P := fun _ => True) (.cnd (fun _ => .ask (by decide) (.read (inr9 h9 (by decide) (by decide)) fun _ _ => .ret trivial)) (fun _ => .ret trivial)) fun wv _ => .ret ⟨wv, rfl⟩) (fun _ => .ret ⟨_, rfl⟩)
      · obtain ⟨wv, rfl⟩ := hy
        refine .bind (P := fun _ => True) (.cnd (fun _ => .bind (cycles_t hc _) fun _ _ => .ret trivial) (fun _ => .ret trivial)) fun t35 _ => .cnd (fun _ => .bind (P := fun y => y.2.2.1.1 = kk.1) (.cnd (fun _ => .ret hb) (fun _ => .ret hb)) fun y hy => .ret hy) (fun _ => .ret ⟨b, ?_, hb⟩)
        rw [w64_id (by omega) (by omega)]
    · simp only [start105.l0]
      exact .cnd (fun h => absurd (of_decide_eq_true h) (by show ¬ ((2 : Nat) : Int) < ((2 : Nat) : Int); omega)) (fun _ => .ret hb)
  · exact .ret ha
/-- what the bus shows -/
def Okb (b : Int × Int × Int) : Prop := 0 ≤ b.2.1 ∧ b.2.1 < 65536 ∧ 0 ≤ b.2.2 ∧ b.2.2 < 256
theorem ask_t {c : Cpu} (hc : Wc c) (kk : Cor) (h9 : Nin.p kk.1) (irq : Bool) : Tot (fun k => Ask74 k c kk irq) (fun v => Nin.p v.1.1.1 ∧ Okb v.1.2.1) := by
  unfold Ask74
  refine .bind (fit_tt h9) fun r hr => .bind (P := fun y => y.1 = c ∧ Fitd y.2.2.2.2.1.1 ∧ y.2.2.2.2.2.2 = (0, 0, 0)) (.cnd (fun _ => .bind (start_t hc _ hr.nin irq) fun v hv => .ret ⟨rfl, by show Fitd v.1.1; rw [hv]; exact hr, rfl⟩) (fun _ => .ret ⟨rfl, hr, rfl⟩)) fun y hy => ?_
  obtain ⟨c1, u1, u2, u3, o0, o1, o2⟩ := y
  obtain ⟨rfl, hf, rfl⟩ := hy
  refine .cnd (fun _ => .bind (place79_t 0 hf) fun v hv => .ret ⟨hv.2.2, hv.1, hv.2.1, by show (0 : Int) ≤ 0; decide, by show (0 : Int) < 256; decide⟩) fun _ => .bind (doing_t hc _) fun d hd => .cnd (fun _ => .ret ⟨hf.nin, by show (0 : Int) ≤ 0; decide, by show (0 : Int) < 65536; decide, by show (0 : Int) ≤ 0; decide, by show (0 : Int) < 256; decide⟩) fun _ =>
    .bind (P := fun y => y.2.2.2.2.2.1 = o0 ∧ 0 ≤ y.2.2.2.2.2.2.2.2.2.2 ∧ y.2.2.2.2.2.2.2.2.2.2 < 256) (.cnd (fun h => ?_) (fun _ => .ret ⟨rfl, by show (0 : Int) ≤ 0; decide, by show (0 : Int) < 256; decide⟩)) fun y hy => ?_
  · have h2 : 0 ≤ d.1.1.2.2.1 ∧ d.1.1.2.2.1 < 9 := by
      by_cases ha : d.1.1.2.2.1 ≥ 0
      · rw [decide_eq_true ha] at h
        by_cases hb : d.1.1.2.2.1 < 9
        · exact ⟨ha, hb⟩
        · rw [decide_eq_false hb] at h
          revert h
          cases (d.1.1.1 == 2) <;> simp
      · rw [decide_eq_false ha] at h
        revert h
        cases (d.1.1.1 == 2) <;> simp
    exact .ask h2 (.read (inr9 hf.nin h2.1 h2.2) fun a _ => .bind (low8_t _) fun b hb => .ret ⟨rfl, hb.1, hb.2⟩)
  · obtain ⟨u1, u2, u3, x, u4, p0, p1, p2, p3, p4, p5⟩ := y
    obtain ⟨rfl, q1, q2⟩ := hy
    exact .bind (place79_t x.2.1 hf) fun v hv => .ret ⟨hv.2.2, hv.1, hv.2.1, q1, q2⟩
end Go.Proofs.YtcppmlgnceldmaaGreat.Gf

/- Processors: what is told. No program in sight. -/
set_option linter.unusedVariables false
set_option maxRecDepth 100000
noncomputable section
namespace Go.Proofs.YtcppmlgnceldmaaGreat.Gf
open Go Go.Proofs.YtcppmlgnceldmaaGreat.Gp

theorem clone_ev (s : List Cyc) (h : s.length * 48 ≤ 140737488351232) : Ev (fun k => Clone122 k s) ((), s) := by
  unfold Clone122
  have e : (if room (0 + List.length s) 48 then some () else none : Option Unit) = some () := if_pos (room_ok (by omega))
  refine Ev.const ?_
  rw [orNil_same (fun h0 => ?_)]
  · show Option.bind _ _ = _
    rw [e]; rfl
  · have := List.length_eq_zero_iff.1 h0
    subst this
    rw [e]; rfl
theorem clones_ev (s : List Stp4) (h : s.length * 32 ≤ 140737488351232) : Ev (fun k => Clone98 k s) ((), s) := by
  unfold Clone98
  have e : (if room (0 + List.length s) 32 then some () else none : Option Unit) = some () := if_pos (room_ok (by omega))
  refine Ev.const ?_
  rw [orNil_same (fun h0 => ?_)]
  · show Option.bind _ _ = _
    rw [e]; rfl
  · have := List.length_eq_zero_iff.1 h0
    subst this
    rw [e]; rfl
theorem copies_ev (l : List Cyc) (h : Wcyc l) : Ev (fun k => copies85 k l) (l, ()) := by
  have hl := h.1
  unfold copies85
  refine .bind (clone_ev l hl) (.bind (a := ((), l)) (Lp.ev ?_) (.now _))
  have := Lp.count (body := fun k => copies85.l0 k ((), l)) l.length (fun (_ : Unit) i => ((), i, l)) (fun _ _ => ()) (fun _ => ((), l)) (fun _ _ => True) (fun i b hi _ => ⟨?_, trivial⟩) (fun b _ => ?_) (b := ()) trivial
  · exact this
  · obtain ⟨x, hx⟩ : ∃ x, l[i]? = some x := ⟨l[i], List.getElem?_eq_getElem hi⟩
    have hr := rd_some' hx
    simp only [copies85.l0]
    refine .yes (decide_eq_true (by omega)) (.val hr (.val hr (.bind (clones_ev x.2.2.2 (h.2 x (get_mem hx))) (.val hr (.val hr (.now' ?_))))))
    rw [w64_id (by omega) (by omega), Int.toNat_natCast]
    have : l.set i x = l := by
      obtain ⟨h1, h2⟩ := List.getElem?_eq_some_iff.1 hx
      rw [← h2]
      exact List.set_getElem_self h1
    show (Sum.inl ((), (i : Int) + 1, l.set i x) : _ ⊕ _) = _
    rw [this]
  · simp only [copies85.l0]
    exact .no (decide_eq_false (by show ¬ (l.length : Int) < (l.length : Int); omega)) (.now _)
theorem copy_ev (x : Ins) (h : Wcyc x.2.2.2) : Ev (fun k => Copy44 k x) (x, ()) := by
  unfold Copy44
  exact .bind (copies_ev _ h) (.now _)
def findI (c : Cpu) (op : Int) : Option Ins := c.2.1.find? (fun x => x.1 == op)
theorem idx_lp {c : Cpu} (hc : Wc c) (op : Int) : ∀ (suf pre : List Ins), c.2.1 = pre ++ suf → ∃ r, Lp (fun k => IndexFunc42'.l0 k c.2.1) ((op, ()), (pre.length : Int)) r ∧
    (match suf.find? (fun x => x.1 == op) with | none => r = .inl () | some x => ∃ j : Nat, r = .inr ((j : Int), ()) ∧ c.2.1[j]? = some x) := by
  have hl := hc.len
  intro suf
  induction suf with
  | nil =>
    intro pre h
    rw [List.append_nil] at h
    refine ⟨.inl (), .done ?_, rfl⟩
    simp only [IndexFunc42'.l0]
    exact .no (decide_eq_false (by rw [h]; omega)) (.now _)
  | cons x suf ih =>
    intro pre h
    have hx : c.2.1[pre.length]? = some x := by rw [h]; simp
    have hlt := get_lt hx
    cases hp : (x.1 == op) with
    | true =>
      refine ⟨.inr ((pre.length : Int), ()), .done ?_, ?_⟩
      · simp only [IndexFunc42'.l0]
        refine .yes (decide_eq_true (by omega)) (.val (rd_some' hx) (.bind (a := (true, ())) (.const ?_) (.yes rfl (.now _))))
        show some ((x.1 == op), ()) = _
        rw [hp]
      · rw [List.find?_cons_of_pos (by exact hp)]
        exact ⟨pre.length, rfl, hx⟩
    | false =>
      obtain ⟨r, h1, h2⟩ := ih (pre ++ [x]) (by rw [h]; simp)
      refine ⟨r, .step ?_ h1, ?_⟩
      · simp only [IndexFunc42'.l0]
        refine .yes (decide_eq_true (by omega)) (.val (rd_some' hx) (.bind (a := (false, ())) (.const ?_) (.no rfl (.now' ?_))))
        · show some ((x.1 == op), ()) = _
          rw [hp]
        · rw [w64_succ (by omega)]; simp
      · rw [List.find?_cons_of_neg (by rw [hp]; decide)]
        exact h2
def none4 : Ins := (0, ByteArray.mk #[], 0, [])
def findR (c : Cpu) (op : Int) : Ins × Bool × Unit := match findI c op with | some x => (x, true, ()) | none => (none4, false, ())
theorem find_ev {c : Cpu} (hc : Wc c) (op : Int) : Ev (fun k => Find11 k c op) (findR c op, ()) := by
  unfold Find11 IndexFunc42'
  obtain ⟨r, h1, h2⟩ := idx_lp hc op c.2.1 [] rfl
  unfold findR findI
  cases hf : c.2.1.find? (fun x => x.1 == op) with
  | none =>
    rw [hf] at h2
    subst h2
    exact .bind (.joinL (S := Unit) h1.ev (.now _)) (.yes rfl (.now _))
  | some x =>
    rw [hf] at h2
    obtain ⟨j, rfl, hj⟩ := h2
    exact .bind (.joinR h1.ev) (.no (decide_eq_false (by show ¬ (j : Int) < 0; omega)) (.val (rd_some' hj) (.bind (copy_ev x (hc.ins x (get_mem hj))) (.now _))))
theorem ended_t (c : Cpu) (kk : Cor) (h9 : Nin.p kk.1) : Tot (fun k => ended109 k c kk) (fun v => Nin.p v.1.1) := by
  unfold ended109
  exact .bind (P := fun y => Nin.p y.2.2.1.1) (.cnd (fun _ => .ret h9) (fun _ => .ret h9)) fun y hy => .ret hy
theorem tell_t {c : Cpu} (hc : Wc c) (kk : Cor) (h9 : Nin.p kk.1) (d : Int) : Tot (fun k => Tell77 k c kk d) (fun v => Nin.p v.1.1) := by
  unfold Tell77
  refine .bind (low8_t d) fun t16 _ => .bind (fit_t h9) fun t19 h19 => .cnd (fun _ => .bind (P := fun _ => True) (.of (find_ev hc _) trivial) fun f _ => .bind (P := fun y => Nin.p y.2.2.1.1) (.cnd (fun _ => .ret h19.1) (fun _ => .bind (P := fun y => Nin.p y.2.2.1.1) (.cnd (fun _ => .ret h19.1) (fun _ => .ret h19.1)) fun y hy => .ret hy)) fun y hy => .ret hy) fun _ => ?_
  refine .bind (doing_t hc _) fun t46 h46 => .cnd (fun _ => .bind (ended_t c _ h19.1) fun v hv => .ret hv) fun hb => ?_
  have hx : t46.1.1.2.2.2.length * 32 ≤ 140737488351232 := h46 (by simpa using hb)
  refine .bind (P := fun y => y.1 = c ∧ y.2.2.2.1 = t46.1.1 ∧ Nin.p y.2.2.2.2.1.1) (.cnd (fun h => ?_) (fun _ => .ret ⟨rfl, rfl, h19.1⟩)) fun y hy => ?_
  · have h2 : 0 ≤ t46.1.1.2.2.1 ∧ t46.1.1.2.2.1 < 9 := by
      by_cases ha : t46.1.1.2.2.1 ≥ 0
      · rw [decide_eq_true ha] at h
        by_cases hb : t46.1.1.2.2.1 < 9
        · exact ⟨ha, hb⟩
        · rw [decide_eq_false hb] at h
          revert h
          cases (t46.1.1.1 == 1) <;> simp
      · rw [decide_eq_false ha] at h
        revert h
        cases (t46.1.1.1 == 1) <;> simp
    exact .ask h2 (.read (inr9 h19.1 h2.1 h2.2) fun a _ => .ret ⟨rfl, rfl, nin_set h19.1⟩)
  · obtain ⟨c1, u1, u2, x, o0, o1⟩ := y
    obtain ⟨rfl, rfl, ho⟩ := hy
    refine .join (P := fun y => match y with | .inl y => y.1 = c1 ∧ Nin.p y.2.2.2.1.1 | .inr v => Nin.p v.1.1) ?_ (fun y hy => ?_) (fun _ h => h)
    · refine Tot.walk (body := fun k => Tell77.l0 k t46.1.1) t46.1.1.2.2.2 (fun (b : Cor × Cor) i => (c1, (), (), i, b.1, b.2)) (fun b => Nin.p b.1.1) _ (fun i s b hs hb => ?_) (fun b hb => ?_) (b := ((o0.1, o0.2.1, (w64 (o0.2.2.1 + 1)), o0.2.2.2), o1)) ho
      · have hi := get_lt hs
        simp only [Tell77.l0]
        refine .cnd (fun _ => .val (rd_some' hs) (.bind (do_t s hb) fun v hv => .cnd (fun _ => .ret hv.1.1) (fun _ => .ret ⟨((v.1.1, b.1.2), b.2), ?_, hv.1.1⟩))) (fun h => absurd (of_decide_eq_false h) (by omega))
        rw [w64_id (by omega) (by omega)]
      · simp only [Tell77.l0]
        exact .cnd (fun h => absurd (of_decide_eq_true h) (by omega)) (fun _ => .ret ⟨rfl, hb⟩)
    · obtain ⟨c2, u3, u4, p0, p1⟩ := y
      obtain ⟨rfl, hp⟩ := hy
      exact .bind (cycles_t hc _) fun t _ => .bind (P := fun y => Nin.p y.2.2.1.1) (.cnd (fun _ => .ret hp) (fun _ => .ret hp)) fun y hy => .ret hy
end Go.Proofs.YtcppmlgnceldmaaGreat.Gf

/- Processors with a memory: the program's run and the reference's. No program in sight. -/
set_option linter.unusedVariables false
set_option maxRecDepth 100000
noncomputable section
namespace Go.Proofs.YtcppmlgnceldmaaGreat.Gf
open Go Go.Proofs.YtcppmlgnceldmaaGreat.Gp

abbrev Mem := List (Int × Int)
def getM (m : Mem) (x : Int) : Option Int := mget (.int .i64) (.int .i64) m x
def putM (m : Mem) (x d : Int) : Mem := mput (.int .i64) (.int .i64) m x d
def Byt (m : Mem) : Prop := ∀ x v, getM m x = some v → 0 ≤ v ∧ v < 256
theorem get_put (m : Mem) (x d y : Int) : getM (putM m x d) y = if y = x then some d else getM m y := by
  have := mget_mput (kk := .int .i64) (kv := .int .i64) rfl (l := m) (k := x) (k' := y) (v := d)
  refine Eq.trans this ?_
  by_cases h : y = x
  · rw [if_pos ((eqB_iff (k := .int .i64) rfl).2 h), if_pos h]; rfl
  · rw [if_neg (fun e => h ((eqB_iff (k := .int .i64) rfl).1 e)), if_neg h]
    rfl
theorem byt_put {m : Mem} (h : Byt m) (x : Int) {d : Int} (h0 : 0 ≤ d) (h1 : d < 256) : Byt (putM m x d) := by
  intro y v hv
  rw [get_put] at hv
  by_cases hy : y = x
  · rw [if_pos hy] at hv; cases hv; exact ⟨h0, h1⟩
  · rw [if_neg hy] at hv; exact h y v hv
def Wb (code : List Int) : Prop := code.length ≤ 140737488351232 ∧ ∀ x ∈ code, 0 ≤ x ∧ x < 256
def byteN (a : Nat) : Nat := (7 * a + a / 256 + 3) % 256
theorem byte_ev (a : Nat) (ha : a < 65536) : Ev (fun k => Byte108 k (a : Int)) (((byteN a : Nat) : Int), ()) := by
  unfold Byte108
  refine .bind (low8_ev _) (.now' ?_)
  have e : shrI .i64 (a : Int) 8 = ((a / 256 : Nat) : Int) := shrI_nat (a := a) (j := 8) (by decide)
  rw [e, w64_id (x := 7 * (a : Int)) (by omega) (by omega), w64_id (x := 7 * (a : Int) + ((a / 256 : Nat) : Int)) (by omega) (by omega), w64_id (x := 7 * (a : Int) + ((a / 256 : Nat) : Int) + 3) (by omega) (by omega)]
  refine congrArg (fun (z : Int) => (z, ())) ?_
  unfold byteN
  omega
theorem quo256 (a : Nat) (ha : a < 65536) : quoI .i64 (a : Int) 256 = ((a / 256 : Nat) : Int) := by
  unfold quoI
  rw [Int.tdiv_eq_ediv_of_nonneg (by omega), show (a : Int) / 256 = ((a / 256 : Nat) : Int) by omega]
  exact w64_nat (by omega)
theorem plain_byte (a : Nat) (ha : a < 65536) : Int.tmod (w64 ((w64 ((w64 (7 * (a : Int))) + (quoI .i64 (a : Int) 256))) + 3)) 256 = ((byteN a : Nat) : Int) := by
  rw [quo256 a ha, w64_id (x := 7 * (a : Int)) (by omega) (by omega), w64_id (x := 7 * (a : Int) + ((a / 256 : Nat) : Int)) (by omega) (by omega), w64_id (x := 7 * (a : Int) + ((a / 256 : Nat) : Int) + 3) (by omega) (by omega), Int.tmod_eq_emod_of_nonneg (by omega)]
  unfold byteN
  omega
theorem byteN_lt (a : Nat) : byteN a < 256 := Nat.mod_lt _ (by decide)
theorem read_same {code : List Int} (hw : Wb code) {m : Mem} (hm : Byt m) {a : Int} (h0 : 0 ≤ a) (h1 : a < 65536) : ∃ v w, 0 ≤ v ∧ v < 256 ∧
    Ev (fun k => Read75 k () a (code, ()) m) (v, (code, ()), m) ∧ Ev (fun k => Read201 k () a ((), code) m) (w, ((), code), m) ∧ Ev (fun k => Low70 k w 8) (v, ()) := by
  obtain ⟨n, rfl⟩ : ∃ n : Nat, a = (n : Int) := ⟨a.toNat, by omega⟩
  have hl := hw.1
  have low : ∀ v : Int, 0 ≤ v → v < 256 → Ev (fun k => Low70 k v 8) (v, ()) := fun v a b => by
    have := low8_ev v
    rw [show v % 256 = v by omega] at this
    exact this
  have wl : w64 (512 + (code.length : Int)) = 512 + (code.length : Int) := w64_id (by omega) (by omega)
  have wn : w64 ((n : Int) - 512) = (n : Int) - 512 := w64_id (by omega) (by omega)
  cases hg : getM m (n : Int) with
  | some v =>
    have hg' : mget (.int .i64) (.int .i64) m (n : Int) = some v := hg
    obtain ⟨b0, b1⟩ := hm _ _ hg
    refine ⟨v, v, b0, b1, ?_, ?_, low v b0 b1⟩
    · unfold Read75
      simp only [hg']
      exact .yes rfl (.now _)
    · unfold Read201 Read203
      simp only [hg']
      exact .no rfl (.bind (a := (v, ((), code), m)) (.yes rfl (.now _)) (.now _))
  | none =>
    have hg' : mget (.int .i64) (.int .i64) m (n : Int) = none := hg
    by_cases hc : 512 ≤ n ∧ n < 512 + code.length
    · have hx : code[n - 512]? = some code[n - 512] := List.getElem?_eq_getElem (by omega)
      have hb := hw.2 _ (get_mem hx)
      have hr : rd code ((n : Int) - 512) = some code[n - 512] := rd_at (i := n - 512) (by omega) hx
      have hwb : w64 code[n - 512] = code[n - 512] := w64_id (by omega) (by omega)
      refine ⟨code[n - 512], code[n - 512], hb.1, hb.2, ?_, ?_, low _ hb.1 hb.2⟩
      · unfold Read75
        simp only [hg', wn]
        refine .no rfl (.yes ?_ (.val hr (.now' (by rw [hwb]))))
        rw [decide_eq_true (show (n : Int) - 512 ≥ 0 by omega), decide_eq_true (show (n : Int) - 512 < (code.length : Int) by omega)]
        rfl
      · unfold Read201
        simp only [hg', wn, wl]
        refine .yes ?_ (.val hr (.now' (by rw [hwb])))
        rw [decide_eq_true (show (n : Int) ≥ 512 by omega), decide_eq_true (show (n : Int) < 512 + (code.length : Int) by omega)]
        rfl
    · have hlt := byteN_lt n
      refine ⟨((byteN n : Nat) : Int), ((byteN n : Nat) : Int), by omega, by omega, ?_, ?_, low _ (by omega) (by omega)⟩
      · unfold Read75
        simp only [hg', wn]
        refine .no rfl (.no ?_ (.bind (byte_ev n (by omega)) (.now _)))
        by_cases h5 : 512 ≤ n
        · rw [decide_eq_true (show (n : Int) - 512 ≥ 0 by omega), decide_eq_false (show ¬ (n : Int) - 512 < (code.length : Int) by omega)]
          rfl
        · rw [decide_eq_false (show ¬ (n : Int) - 512 ≥ 0 by omega)]
          rfl
      · unfold Read201 Read203
        simp only [hg', wl]
        refine .no ?_ (.bind (a := (((byteN n : Nat) : Int), ((), code), m)) (.no rfl (.now' ?_)) (.now _))
        · by_cases h5 : 512 ≤ n
          · rw [decide_eq_true (show (n : Int) ≥ 512 by omega), decide_eq_false (show ¬ (n : Int) < 512 + (code.length : Int) by omega)]
            rfl
          · rw [decide_eq_false (show ¬ (n : Int) ≥ 512 by omega)]
            rfl
        · rw [plain_byte n (by omega)]
/-- one cycle, in both -/
theorem cycle_same {c : Cpu} (hc : Wc c) {code : List Int} (hw : Wb code) {m : Mem} (hm : Byt m) (kk : Cor) (h9 : Nin.p kk.1) {l : List (Int × Int × Int)} {i : Nat} (hl : l.length = i) (hi : i < 40) :
    ∃ (b : Int × Int × Int) (k' : Cor) (m' : Mem), Nin.p k'.1 ∧ Byt m' ∧ Ev (fun n => Run38.l0 n (c, (), (), (), (i : Int), m, (code, ()), kk, l)) (.inl (c, (), (), (), (i : Int) + 1, m', (code, ()), k', l ++ [b])) ∧
      Ev (fun n => Tested16.l0 n (c, (), (), (), m, ((), code), kk, l)) (.inl (c, (), (), (), m', ((), code), k', l ++ [b])) ∧
      ∃ v, Ev (fun n => Ask74 n c kk false) v ∧ (v.1.2.1.1 = 1 → b.1 = 1 ∧ b.2.1 = v.1.2.1.2.1 ∧ ∃ x, Ev (fun n => Read75 n () v.1.2.1.2.1 (code, ()) m) x ∧ b.2.2 = x.1) := by
  obtain ⟨v, hv, q9, hb⟩ := ask_t hc kk h9 false
  have room : ∀ b : Int × Int × Int, (if room (List.length l + List.length [b]) 24 then some () else none : Option Unit) = some () := fun b => if_pos (room_ok (by simp only [List.length_cons, List.length_nil]; omega))
  have wi : w64 ((i : Int) + 1) = (i : Int) + 1 := w64_id (by omega) (by omega)
  obtain ⟨⟨kc, ⟨b1, b2, b3⟩, u1⟩, u2⟩ := v
  have hb0 : 0 ≤ b2 := hb.1
  have hb1 : b2 < 65536 := hb.2.1
  have hb2 : 0 ≤ b3 := hb.2.2.1
  have hb3 : b3 < 256 := hb.2.2.2
  by_cases r1 : b1 = 1
  · obtain ⟨x, w, x0, x1, e1, e2, e3⟩ := read_same hw hm hb0 hb1
    obtain ⟨t, ht, t9⟩ := tell_t hc kc q9 x
    refine ⟨(b1, b2, x), t.1, m, t9, hm, ?_, ?_, _, hv, fun _ => ⟨r1, rfl, _, e1, rfl⟩⟩
    · simp only [Run38.l0]
      refine .yes (decide_eq_true (by omega)) (.bind hv (.bind (.yes (by rw [r1]; rfl) (.bind e1 (.now _))) (.bind ht (.val (a := ()) (room _) (.now' ?_)))))
      rw [wi]
    · simp only [Tested16.l0]
      refine .yes (decide_eq_true (by omega)) (.bind (a := ((t.1, (b1, b2, x), ()), ((), code), m)) ?_ (.val (a := ()) (room _) (.now _)))
      unfold Cycle52
      exact .bind hv (.bind (.yes (by rw [r1]; rfl) (.bind e2 (.bind e3 (.now _)))) (.bind ht (.now _)))
  · have hne : (b1 == 1) = false := by simpa using r1
    obtain ⟨t, ht, t9⟩ := tell_t hc kc q9 b3
    by_cases r2 : b1 = 2
    · refine ⟨(b1, b2, b3), t.1, putM m b2 b3, t9, byt_put hm b2 hb2 hb3, ?_, ?_, _, hv, fun h => absurd h r1⟩
      · simp only [Run38.l0]
        refine .yes (decide_eq_true (by omega)) (.bind hv (.bind (.no hne (.bind (.yes (by rw [r2]; rfl) (.bind (a := ((), (code, ()), putM m b2 b3)) (.now _) (.now _))) (.now _))) (.bind ht (.val (a := ()) (room _) (.now' ?_)))))
        rw [wi]
      · simp only [Tested16.l0]
        refine .yes (decide_eq_true (by omega)) (.bind (a := ((t.1, (b1, b2, b3), ()), ((), code), putM m b2 b3)) ?_ (.val (a := ()) (room _) (.now _)))
        unfold Cycle52
        exact .bind hv (.bind (.no hne (.bind (.yes (by rw [r2]; rfl) (.bind (a := ((), ((), code), putM m b2 b3)) (.now _) (.now _))) (.now _))) (.bind ht (.now _)))
    · have hne2 : (b1 == 2) = false := by simpa using r2
      refine ⟨(b1, b2, b3), t.1, m, t9, hm, ?_, ?_, _, hv, fun h => absurd h r1⟩
      · simp only [Run38.l0]
        refine .yes (decide_eq_true (by omega)) (.bind hv (.bind (.no hne (.bind (.no hne2 (.now _)) (.now _))) (.bind ht (.val (a := ()) (room _) (.now' ?_)))))
        rw [wi]
      · simp only [Tested16.l0]
        refine .yes (decide_eq_true (by omega)) (.bind (a := ((t.1, (b1, b2, b3), ()), ((), code), m)) ?_ (.val (a := ()) (room _) (.now _)))
        unfold Cycle52
        exact .bind hv (.bind (.no hne (.bind (.no hne2 (.now _)) (.now _))) (.bind ht (.now _)))
theorem cycles_same {c : Cpu} (hc : Wc c) {code : List Int} (hw : Wb code) : ∀ (n i : Nat), i + n = 40 → ∀ (m : Mem) (kk : Cor) (l : List (Int × Int × Int)), Byt m → Nin.p kk.1 → l.length = i →
    ∃ r : List (Int × Int × Int), (l ++ r).length = 40 ∧ Lp (fun k => Run38.l0 k) (c, (), (), (), (i : Int), m, (code, ()), kk, l) ((), l ++ r) ∧ Lp (fun k => Tested16.l0 k) (c, (), (), (), m, ((), code), kk, l) ((), l ++ r) := by
  intro n
  induction n with
  | zero =>
    intro i hi m kk l hm h9 hl
    refine ⟨[], by rw [List.append_nil]; omega, ?_, ?_⟩
    · rw [List.append_nil]
      refine .done ?_
      simp only [Run38.l0]
      exact .no (decide_eq_false (by omega)) (.now _)
    · rw [List.append_nil]
      refine .done ?_
      simp only [Tested16.l0]
      exact .no (decide_eq_false (by omega)) (.now _)
  | succ n ih =>
    intro i hi m kk l hm h9 hl
    obtain ⟨b, k', m', g9, gm, e1, e2, _⟩ := cycle_same hc hw hm kk h9 hl (by omega)
    obtain ⟨r, r1, r2, r3⟩ := ih (i + 1) (by omega) m' k' (l ++ [b]) gm g9 (by rw [List.length_append, hl]; rfl)
    rw [List.append_assoc] at r1 r2 r3
    exact ⟨b :: r, r1, .step e1 r2, .step e2 r3⟩
def k0 (t : List Int × List Int) : Cor := (t.2.set 7 512, -1, 0, false)
/-- all that a test shows -/
theorem run_same {c : Cpu} (hc : Wc c) {t : List Int × List Int} (hw : Wb t.1) (h9 : Nin.p t.2) : ∃ l : List (Int × Int × Int), l.length = 40 ∧ Ev (fun k => Run38 k c t) (l, ()) ∧ Ev (fun k => Tested16 k c t) (l, ()) ∧
    ∃ v b, l[0]? = some b ∧ Ev (fun n => Ask74 n c (k0 t) false) v ∧ (v.1.2.1.1 = 1 → b.1 = 1 ∧ b.2.1 = v.1.2.1.2.1 ∧ ∃ x, Ev (fun n => Read75 n () v.1.2.1.2.1 (t.1, ()) []) x ∧ b.2.2 = x.1) := by
  have hk : Nin.p (k0 t).1 := nin_set h9
  have h0 : Byt [] := fun x v h => by cases h
  obtain ⟨b, k', m', g9, gm, e1, e2, v, hv, hb⟩ := cycle_same (l := []) (i := 0) hc hw h0 (k0 t) hk rfl (by decide)
  obtain ⟨r, r1, r2, r3⟩ := cycles_same hc hw 39 1 rfl m' k' [b] gm g9 rfl
  obtain ⟨a, ha⟩ : ∃ a, rd t.2 7 = some a := ⟨t.2[7]'(by rw [nin_len h9]; decide), rd_some' (i := 7) (List.getElem?_eq_getElem _)⟩
  refine ⟨[b] ++ r, r1, ?_, ?_, v, b, rfl, hv, hb⟩
  · unfold Run38
    exact .val (a := ()) rfl (.val ha (.bind (Lp.step e1 r2).ev (.now _)))
  · unfold Tested16
    exact .val (a := ()) rfl (.val ha (.bind (Lp.step e2 r3).ev (.now _)))
end Go.Proofs.YtcppmlgnceldmaaGreat.Gf

/- Processors: the check answers. No program in sight. -/
set_option linter.unusedVariables false
set_option maxRecDepth 100000
noncomputable section
namespace Go.Proofs.YtcppmlgnceldmaaGreat.Gf
open Go Go.Proofs.YtcppmlgnceldmaaGreat.Gp

/-- names are no longer than texts can be -/
def Wn (c : Cpu) : Prop := c.1.size ≤ 140737488351232 ∧ ∀ x ∈ c.2.1, x.2.1.size ≤ 140737488351232
theorem bytes_len (s : ByteArray) : (bytesOf s).length = s.size := by unfold bytesOf; rw [List.length_map, Array.length_toList]; rfl
theorem name_t (s : ByteArray) (h : s.size ≤ 140737488351232) : Tot (fun k => Name32 k s) (fun _ => True) := by
  unfold Name32
  have hl := bytes_len s
  have at0 : ∀ {β : Type} {Q : β → Prop} {g : Nat → Int → Option β}, ¬ streq s (ByteArray.mk #[]) = true → (∀ a, Tot (fun k => g k a) Q) → Tot (fun k => (rd (bytesOf s) 0).bind (g k)) Q := by
    intro β Q g hne hg
    refine .read ⟨by decide, ?_⟩ fun a _ => hg a
    rw [hl]
    by_cases h0 : s.size = 0
    · exfalso
      refine hne (streq_iff.2 ?_)
      cases s with
      | mk d =>
        have hd : d.size = 0 := h0
        have := Array.size_eq_zero_iff.1 hd
        rw [this]
    · omega
  refine .bind (P := fun b => b = false → ¬ streq s (ByteArray.mk #[]) = true) (.cnd (fun _ => .ret (fun h => by cases h)) (fun h => ?_)) fun t16 h16 => .bind (P := fun _ => True) (.cnd (fun _ => .ret trivial) (fun h => at0 (h16 h) fun a => .ret trivial)) fun t21 _ => .cnd (fun _ => .ret trivial) fun _ => .joinT ?_ (fun _ => .ret trivial)
  · have hne : ¬ streq s (ByteArray.mk #[]) = true := by
      intro h2
      rw [h2] at h
      cases h
    exact at0 hne fun a => .ret (fun _ => hne)
  · refine Tot.walk (body := fun k => Name32.l0 k s) (bytesOf s) (fun (_ : Unit) i => ((), i, bytesOf s)) (fun _ => True) _ (fun i x b hx _ => ?_) (fun b _ => ?_) (b := ()) trivial
    · have hi := get_lt hx
      simp only [Name32.l0]
      refine .cnd (fun _ => .val (rd_some' hx) (.val (rd_some' hx) (.cnd (fun _ => .ret trivial) (fun _ => .ret ⟨(), ?_, trivial⟩)))) (fun h => absurd (of_decide_eq_false h) (by omega))
      rw [w64_id (by omega) (by omega)]
    · simp only [Name32.l0]
      exact .cnd (fun h => absurd (of_decide_eq_true h) (by omega)) (fun _ => .ret trivial)
theorem size_t (m : Int) : Tot (fun k => Size33 k m) (fun _ => True) := by unfold Size33; repeat' (first | with_reducible exact Tot.ret trivial | with_reducible refine Tot.cnd ?_ ?_ | with_reducible refine Tot.bindT ?_ ?_ | with_reducible refine Tot.prodT ?_ | intro _ | (dsimp only))
theorem reg_t (m : Int) : Tot (fun k => register101 k m) (fun _ => True) := by unfold register101; repeat' (first | with_reducible exact Tot.ret trivial | with_reducible refine Tot.cnd ?_ ?_ | with_reducible refine Tot.bindT ?_ ?_ | with_reducible refine Tot.prodT ?_ | intro _ | (dsimp only))
theorem uses_t (m : Int) : Tot (fun k => uses138 k m) (fun _ => True) := by unfold uses138; repeat' (first | with_reducible exact Tot.ret trivial | with_reducible refine Tot.cnd ?_ ?_ | with_reducible refine Tot.bindT ?_ ?_ | with_reducible refine Tot.prodT ?_ | intro _ | (dsimp only))
theorem wide_tt (r : Int) : Tot (fun k => Wide102 k r) (fun _ => True) := (wide_t r).any
theorem fits_t (r n : Int) : Tot (fun k => fits139 k r n) (fun _ => True) := by unfold fits139; repeat' (first | with_reducible exact Tot.ret trivial | with_reducible refine Tot.bindT (reg_t _) ?_ | with_reducible refine Tot.bindT (wide_tt _) ?_ | with_reducible refine Tot.cnd ?_ ?_ | with_reducible refine Tot.bindT ?_ ?_ | with_reducible refine Tot.prodT ?_ | intro _ | (dsimp only))
theorem step_t (s : Stp4) : Tot (fun k => step103 k s) (fun _ => True) := by unfold step103; repeat' (first | with_reducible exact Tot.ret trivial | with_reducible refine Tot.bindT (uses_t _) ?_ | with_reducible refine Tot.bindT (reg_t _) ?_ | with_reducible refine Tot.bindT (wide_tt _) ?_ | with_reducible refine Tot.bindT (fits_t _ _) ?_ | with_reducible refine Tot.cnd ?_ ?_ | with_reducible refine Tot.bindT ?_ ?_ | with_reducible refine Tot.prodT ?_ | intro _ | (dsimp only))
theorem cycle_t (c : Cyc) (h : c.2.2.2.length * 32 ≤ 140737488351232) : Tot (fun k => cycle73 k c) (fun _ => True) := by
  unfold cycle73
  refine .cnd (fun _ => .ret trivial) fun _ => .cnd (fun _ => .ret trivial) fun _ => .bindT (.cnd (fun _ => .ret trivial) fun _ => .bindT (reg_t _) fun _ => .ret trivial) fun _ => .bindT (.cnd (fun _ => .ret trivial) fun _ => .bindT (wide_tt _) fun _ => .ret trivial) fun _ => .cnd (fun _ => .ret trivial) fun _ => .cnd (fun _ => .ret trivial) fun _ => .joinT ?_ (fun _ => .ret trivial)
  refine Tot.walk (body := fun k => cycle73.l0 k c) c.2.2.2 (fun (_ : Unit) i => i) (fun _ => True) _ (fun i x b hx _ => ?_) (fun b _ => ?_) (b := ()) trivial
  · have hi := get_lt hx
    simp only [cycle73.l0]
    refine .cnd (fun _ => .val (rd_some' hx) (.bindT (step_t x) fun v => .cnd (fun _ => .ret trivial) (fun _ => .ret ⟨(), ?_, trivial⟩))) (fun h => absurd (of_decide_eq_false h) (by omega))
    rw [w64_id (by omega) (by omega)]
  · simp only [cycle73.l0]
    exact .cnd (fun h => absurd (of_decide_eq_true h) (by omega)) (fun _ => .ret trivial)
theorem cycs_t {l : List Cyc} (h : Wcyc l) : Tot (fun k => cycles36 k l) (fun _ => True) := by
  have hl := h.1
  unfold cycles36
  refine .cnd (fun _ => .ret trivial) fun _ => .joinT ?_ (fun _ => .ret trivial)
  refine Tot.walk (body := fun k => cycles36.l0 k l) l (fun (_ : Unit) i => i) (fun _ => True) _ (fun i x b hx _ => ?_) (fun b _ => ?_) (b := ()) trivial
  · have hi := get_lt hx
    simp only [cycles36.l0]
    refine .cnd (fun _ => .val (rd_some' hx) (.bindT (cycle_t x (h.2 x (get_mem hx))) fun v => .cnd (fun _ => .ret trivial) (fun _ => .ret ⟨(), ?_, trivial⟩))) (fun h => absurd (of_decide_eq_false h) (by omega))
    rw [w64_id (by omega) (by omega)]
  · simp only [cycles36.l0]
    exact .cnd (fun h => absurd (of_decide_eq_true h) (by omega)) (fun _ => .ret trivial)
theorem operand_t {l : List Cyc} (h : Wcyc l) : Tot (fun k => operand37 k l) (fun _ => True) := by
  have hl := h.1
  unfold operand37
  refine .bindT ?_ fun _ => .ret trivial
  refine Tot.walk (body := fun k => operand37.l0 k l) l (fun (n : Int) i => (n, i)) (fun _ => True) _ (fun i x b hx _ => ?_) (fun b _ => ?_) (b := 0) trivial
  · have hi := get_lt hx
    simp only [operand37.l0]
    refine .cnd (fun _ => .val (rd_some' hx) (.bindT (.cnd (fun _ => .ret trivial) (fun _ => .ret trivial)) fun n => .ret ⟨n, ?_, trivial⟩)) (fun h => absurd (of_decide_eq_false h) (by omega))
    rw [w64_id (by omega) (by omega)]
  · simp only [operand37.l0]
    exact .cnd (fun h => absurd (of_decide_eq_true h) (by omega)) (fun _ => .ret trivial)
theorem there_t {s : List Ins} (h : s.length * 56 ≤ 140737488351232) (f : Ins) : Tot (fun k => ContainsFunc34 k s (f, ())) (fun _ => True) := by
  unfold ContainsFunc34 IndexFunc42
  refine .bindT (.joinT ?_ (fun _ => .ret trivial)) fun _ => .ret trivial
  refine Tot.walk (body := fun k => IndexFunc42.l0 k s) s (fun (_ : Unit) i => ((f, ()), i)) (fun _ => True) _ (fun i x b hx _ => ?_) (fun b _ => ?_) (b := ()) trivial
  · have hi := get_lt hx
    simp only [IndexFunc42.l0]
    refine .cnd (fun _ => .val (rd_some' hx) (.bindT (by unfold Check135; exact .ret trivial) fun v => .cnd (fun _ => .ret trivial) (fun _ => .ret ⟨(), ?_, trivial⟩))) (fun h => absurd (of_decide_eq_false h) (by omega))
    rw [w64_id (by omega) (by omega)]
  · simp only [IndexFunc42.l0]
    exact .cnd (fun h => absurd (of_decide_eq_true h) (by omega)) (fun _ => .ret trivial)
theorem size_in {m : Int} (h : 0 ≤ m ∧ m ≤ 8) : ∃ n : Nat, n ≤ 2 ∧ Ev (fun k => Size33 k m) ((n : Int), ()) ∧ rd ([0, 1, 1, 1, 2, 2, 2, 1, 1] : List Int) m = some (n : Int) := by
  have : m = 0 ∨ m = 1 ∨ m = 2 ∨ m = 3 ∨ m = 4 ∨ m = 5 ∨ m = 6 ∨ m = 7 ∨ m = 8 := by omega
  rcases this with rfl | rfl | rfl | rfl | rfl | rfl | rfl | rfl | rfl
  · exact ⟨0, by decide, .const rfl, rfl⟩
  · exact ⟨1, by decide, .const rfl, rfl⟩
  · exact ⟨1, by decide, .const rfl, rfl⟩
  · exact ⟨1, by decide, .const rfl, rfl⟩
  · exact ⟨2, by decide, .const rfl, rfl⟩
  · exact ⟨2, by decide, .const rfl, rfl⟩
  · exact ⟨2, by decide, .const rfl, rfl⟩
  · exact ⟨1, by decide, .const rfl, rfl⟩
  · exact ⟨1, by decide, .const rfl, rfl⟩
theorem size_out {m : Int} (h : ¬ (0 ≤ m ∧ m ≤ 8)) : Ev (fun k => Size33 k m) (-1, ()) := by
  have f : ∀ c : Int, 0 ≤ c ∧ c ≤ 8 → (m == c) = false := fun c hc => by simpa using (by omega : ¬ m = c)
  have h0 := f 0 (by decide)
  have h1 := f 1 (by decide)
  have h2 := f 2 (by decide)
  have h3 := f 3 (by decide)
  have h4 := f 4 (by decide)
  have h5 := f 5 (by decide)
  have h6 := f 6 (by decide)
  have h7 := f 7 (by decide)
  have h8 := f 8 (by decide)
  unfold Size33
  simp only [h0, h1, h2, h3, h4, h5, h6, h7, h8]
  exact .const rfl
theorem size_tt (m : Int) : Tot (fun k => Size33 k m) (fun v => 0 ≤ v.1 → 0 ≤ m ∧ m ≤ 8) := by
  by_cases h : 0 ≤ m ∧ m ≤ 8
  · obtain ⟨n, _, e, _⟩ := size_in h
    exact .of e fun _ => h
  · exact .of (size_out h) fun h => absurd h (by decide)
theorem check_t {c : Cpu} (hc : Wc c) (hn : Wn c) : Tot (fun k => Check8 k c) (fun v => v.1 = 0 → ∀ x ∈ c.2.1, 0 ≤ x.2.2.1 ∧ x.2.2.1 ≤ 8) := by
  have hl := hc.len
  unfold Check8
  refine .bindT (name_t _ hn.1) fun _ => .cnd (fun _ => .ret (fun h => by cases h)) fun _ => .cnd (fun _ => .ret (fun h => by cases h)) fun _ => .join (P := fun y => match y with | .inl y => y = c ∧ ∀ x ∈ c.2.1, 0 ≤ x.2.2.1 ∧ x.2.2.1 ≤ 8 | .inr v => v.1 ≠ 0) ?_ (fun c2 h2 => ?_) (fun _ h h0 => absurd h0 h)
  · refine Tot.walkI (body := fun k => Check8.l0 k c) c.2.1 (fun (_ : Unit) i => (c, i)) (fun i _ => ∀ (j : Nat) x, j < i → c.2.1[j]? = some x → 0 ≤ x.2.2.1 ∧ x.2.2.1 ≤ 8) _ (fun i x b hx hI => ?_) (fun b hI => ?_) (b := ()) (fun j x hj => absurd hj (Nat.not_lt_zero _))
    · have hi := get_lt hx
      have hm := get_mem hx
      simp only [Check8.l0]
      refine .cnd (fun _ => .val (rd_some' hx) (.cnd (fun _ => .ret (show (1 : Int) ≠ 0 by decide)) fun _ => .bindT (.cnd (fun h => ?_) (fun _ => .ret trivial)) fun _ => .cnd (fun _ => .ret (show (9 : Int) ≠ 0 by decide)) fun _ => .bindT (name_t _ (hn.2 x hm)) fun _ => .cnd (fun _ => .ret (show (15 : Int) ≠ 0 by decide)) fun _ => .bind (size_tt _) fun sz hsz => .cnd (fun _ => .ret (show (8 : Int) ≠ 0 by decide)) fun hneg =>
        .val (a := (c.2.1.take i).drop 0) (slc_ok (a := 0) (Nat.zero_le _) (by omega)) (.bindT (there_t (by rw [List.drop_zero, List.length_take]; omega) x) fun _ => .cnd (fun _ => .ret (show (5 : Int) ≠ 0 by decide)) fun _ => .bindT (cycs_t (hc.ins x hm)) fun cy => .cnd (fun hcy => .ret (by simpa using hcy)) fun _ => .bindT (operand_t (hc.ins x hm)) fun _ => .bindT (size_t _) fun _ => .cnd (fun _ => .ret (show (3 : Int) ≠ 0 by decide)) fun _ => .ret ⟨(), ?_, fun j y hj hy => ?_⟩))) (fun h => absurd (of_decide_eq_false h) (by omega))
      · have h := of_decide_eq_true h
        rw [w64_id (by omega) (by omega)]
        exact .read ⟨by omega, by omega⟩ fun a _ => .ret trivial
      · rw [w64_id (by omega) (by omega)]
      · by_cases hji : j = i
        · subst hji
          rw [hx] at hy
          cases hy
          have := of_decide_eq_false hneg
          exact hsz (by omega)
        · exact hI j y (by omega) hy
    · simp only [Check8.l0]
      refine .cnd (fun h => absurd (of_decide_eq_true h) (by omega)) (fun _ => .ret ⟨rfl, fun x hx => ?_⟩)
      obtain ⟨j, hj⟩ := List.mem_iff_getElem?.1 hx
      exact hI j x (get_lt hj) hj
  · obtain ⟨h2, hmode⟩ := h2
    subst h2
    refine .join (P := fun y => match y with | .inl _ => True | .inr v => v.1 ≠ 0) ?_ (fun _ _ => .ret fun _ => hmode) (fun _ h h0 => absurd h0 h)
    refine Tot.walk (body := fun k => Check8.l1 k c2) [c2.2.2.1, c2.2.2.2.1, c2.2.2.2.2] (fun (_ : Unit) i => ((), i, [c2.2.2.1, c2.2.2.2.1, c2.2.2.2.2])) (fun _ => True) _ (fun i x b hx _ => ?_) (fun b _ => ?_) (b := ()) trivial
    · have hi : i < 3 := get_lt hx
      have hw : Wcyc x := by
        have hm := get_mem hx
        simp only [List.mem_cons, List.not_mem_nil, or_false] at hm
        rcases hm with rfl | rfl | rfl
        · exact hc.res
        · exact hc.irq
        · exact hc.nmi
      simp only [Check8.l1]
      refine .cnd (fun _ => .val (rd_some' hx) (.val (rd_some' hx) (.bindT (cycs_t hw) fun v => .cnd (fun hv => .ret (by simpa using hv)) (fun _ => .ret ⟨(), ?_, trivial⟩)))) (fun h => absurd (of_decide_eq_false h) (by show ¬ ¬ (i : Int) < ((3 : Nat) : Int); omega))
      rw [w64_id (by omega) (by omega)]
    · simp only [Check8.l1]
      exact .cnd (fun h => absurd (of_decide_eq_true h) (by show ¬ ((3 : Nat) : Int) < ((3 : Nat) : Int); omega)) (fun _ => .ret trivial)
end Go.Proofs.YtcppmlgnceldmaaGreat.Gf

/- More fuel, no other answer: the functions. Printed by mono.py. -/
set_option linter.unusedVariables false
set_option maxRecDepth 100000
noncomputable section
namespace Go.Proofs.YtcppmlgnceldmaaGreat.Gf
open Go Go.Proofs.YtcppmlgnceldmaaGreat.Gp
theorem operand37.l0.mono : ∀ a0_, ∀ s, Mono (fun k => operand37.l0 k a0_ s) := by
  intro a0_
  unfold operand37.l0
  repeat' (first | exact Mono.const _ | with_reducible refine Mono.cond ?_ ?_ | with_reducible refine Mono.orNil ?_ ?_ | with_reducible refine Mono.agree ?_ ?_ | with_reducible refine Mono.joined ?_ ?_ | with_reducible refine Mono.bind ?_ ?_ | with_reducible refine Mono.loop ?_ | with_reducible refine Mono.prod ?_ | intro _ | (dsimp only))

theorem operand37.mono : ∀ a0_, Mono (fun k => operand37 k a0_) := by
  intro a0_
  unfold operand37
  repeat' (first | exact Mono.const _ | with_reducible exact operand37.l0.mono _ | with_reducible refine Mono.cond ?_ ?_ | with_reducible refine Mono.orNil ?_ ?_ | with_reducible refine Mono.agree ?_ ?_ | with_reducible refine Mono.joined ?_ ?_ | with_reducible refine Mono.bind ?_ ?_ | with_reducible refine Mono.loop ?_ | with_reducible refine Mono.prod ?_ | intro _ | (dsimp only))

theorem Find143.mono : ∀ a0_ a1_, Mono (fun k => Find143 k a0_ a1_) := by
  intro a0_ a1_
  unfold Find143
  repeat' (first | exact Mono.const _ | with_reducible refine Mono.cond ?_ ?_ | with_reducible refine Mono.orNil ?_ ?_ | with_reducible refine Mono.agree ?_ ?_ | with_reducible refine Mono.joined ?_ ?_ | with_reducible refine Mono.bind ?_ ?_ | with_reducible refine Mono.loop ?_ | with_reducible refine Mono.prod ?_ | intro _ | (dsimp only))

theorem IndexFunc42'.l0.mono : ∀ a0_, ∀ s, Mono (fun k => IndexFunc42'.l0 k a0_ s) := by
  intro a0_
  unfold IndexFunc42'.l0
  repeat' (first | exact Mono.const _ | with_reducible exact Find143.mono _ _ | with_reducible refine Mono.cond ?_ ?_ | with_reducible refine Mono.orNil ?_ ?_ | with_reducible refine Mono.agree ?_ ?_ | with_reducible refine Mono.joined ?_ ?_ | with_reducible refine Mono.bind ?_ ?_ | with_reducible refine Mono.loop ?_ | with_reducible refine Mono.prod ?_ | intro _ | (dsimp only))

theorem IndexFunc42'.mono : ∀ a0_ a1_, Mono (fun k => IndexFunc42' k a0_ a1_) := by
  intro a0_ a1_
  unfold IndexFunc42'
  repeat' (first | exact Mono.const _ | with_reducible exact IndexFunc42'.l0.mono _ | with_reducible refine Mono.cond ?_ ?_ | with_reducible refine Mono.orNil ?_ ?_ | with_reducible refine Mono.agree ?_ ?_ | with_reducible refine Mono.joined ?_ ?_ | with_reducible refine Mono.bind ?_ ?_ | with_reducible refine Mono.loop ?_ | with_reducible refine Mono.prod ?_ | intro _ | (dsimp only))

theorem Clone122.mono : ∀ a0_, Mono (fun k => Clone122 k a0_) := by
  intro a0_
  unfold Clone122
  repeat' (first | exact Mono.const _ | with_reducible refine Mono.cond ?_ ?_ | with_reducible refine Mono.orNil ?_ ?_ | with_reducible refine Mono.agree ?_ ?_ | with_reducible refine Mono.joined ?_ ?_ | with_reducible refine Mono.bind ?_ ?_ | with_reducible refine Mono.loop ?_ | with_reducible refine Mono.prod ?_ | intro _ | (dsimp only))

theorem Clone98.mono : ∀ a0_, Mono (fun k => Clone98 k a0_) := by
  intro a0_
  unfold Clone98
  repeat' (first | exact Mono.const _ | with_reducible refine Mono.cond ?_ ?_ | with_reducible refine Mono.orNil ?_ ?_ | with_reducible refine Mono.agree ?_ ?_ | with_reducible refine Mono.joined ?_ ?_ | with_reducible refine Mono.bind ?_ ?_ | with_reducible refine Mono.loop ?_ | with_reducible refine Mono.prod ?_ | intro _ | (dsimp only))

theorem copies85.l0.mono : ∀ a0_, ∀ s, Mono (fun k => copies85.l0 k a0_ s) := by
  intro a0_
  unfold copies85.l0
  repeat' (first | exact Mono.const _ | with_reducible exact Clone98.mono _ | with_reducible refine Mono.cond ?_ ?_ | with_reducible refine Mono.orNil ?_ ?_ | with_reducible refine Mono.agree ?_ ?_ | with_reducible refine Mono.joined ?_ ?_ | with_reducible refine Mono.bind ?_ ?_ | with_reducible refine Mono.loop ?_ | with_reducible refine Mono.prod ?_ | intro _ | (dsimp only))

theorem copies85.mono : ∀ a0_, Mono (fun k => copies85 k a0_) := by
  intro a0_
  unfold copies85
  repeat' (first | exact Mono.const _ | with_reducible exact Clone122.mono _ | with_reducible exact copies85.l0.mono _ | with_reducible refine Mono.cond ?_ ?_ | with_reducible refine Mono.orNil ?_ ?_ | with_reducible refine Mono.agree ?_ ?_ | with_reducible refine Mono.joined ?_ ?_ | with_reducible refine Mono.bind ?_ ?_ | with_reducible refine Mono.loop ?_ | with_reducible refine Mono.prod ?_ | intro _ | (dsimp only))

theorem Copy44.mono : ∀ a0_, Mono (fun k => Copy44 k a0_) := by
  intro a0_
  unfold Copy44
  repeat' (first | exact Mono.const _ | with_reducible exact copies85.mono _ | with_reducible refine Mono.cond ?_ ?_ | with_reducible refine Mono.orNil ?_ ?_ | with_reducible refine Mono.agree ?_ ?_ | with_reducible refine Mono.joined ?_ ?_ | with_reducible refine Mono.bind ?_ ?_ | with_reducible refine Mono.loop ?_ | with_reducible refine Mono.prod ?_ | intro _ | (dsimp only))

theorem Find11.mono : ∀ a0_ a1_, Mono (fun k => Find11 k a0_ a1_) := by
  intro a0_ a1_
  unfold Find11
  repeat' (first | exact Mono.const _ | with_reducible exact IndexFunc42'.mono _ _ | with_reducible exact Copy44.mono _ | with_reducible refine Mono.cond ?_ ?_ | with_reducible refine Mono.orNil ?_ ?_ | with_reducible refine Mono.agree ?_ ?_ | with_reducible refine Mono.joined ?_ ?_ | with_reducible refine Mono.bind ?_ ?_ | with_reducible refine Mono.loop ?_ | with_reducible refine Mono.prod ?_ | intro _ | (dsimp only))

theorem Equal69.l0.mono : ∀ a0_ a1_, ∀ s, Mono (fun k => Equal69.l0 k a0_ a1_ s) := by
  intro a0_ a1_
  unfold Equal69.l0
  repeat' (first | exact Mono.const _ | with_reducible refine Mono.cond ?_ ?_ | with_reducible refine Mono.orNil ?_ ?_ | with_reducible refine Mono.agree ?_ ?_ | with_reducible refine Mono.joined ?_ ?_ | with_reducible refine Mono.bind ?_ ?_ | with_reducible refine Mono.loop ?_ | with_reducible refine Mono.prod ?_ | intro _ | (dsimp only))

theorem Equal69.mono : ∀ a0_ a1_, Mono (fun k => Equal69 k a0_ a1_) := by
  intro a0_ a1_
  unfold Equal69
  repeat' (first | exact Mono.const _ | with_reducible exact Equal69.l0.mono _ _ | with_reducible refine Mono.cond ?_ ?_ | with_reducible refine Mono.orNil ?_ ?_ | with_reducible refine Mono.agree ?_ ?_ | with_reducible refine Mono.joined ?_ ?_ | with_reducible refine Mono.bind ?_ ?_ | with_reducible refine Mono.loop ?_ | with_reducible refine Mono.prod ?_ | intro _ | (dsimp only))

theorem alike168.mono : ∀ a0_ a1_, Mono (fun k => alike168 k a0_ a1_) := by
  intro a0_ a1_
  unfold alike168
  repeat' (first | exact Mono.const _ | with_reducible exact Equal69.mono _ _ | with_reducible refine Mono.cond ?_ ?_ | with_reducible refine Mono.orNil ?_ ?_ | with_reducible refine Mono.agree ?_ ?_ | with_reducible refine Mono.joined ?_ ?_ | with_reducible refine Mono.bind ?_ ?_ | with_reducible refine Mono.loop ?_ | with_reducible refine Mono.prod ?_ | intro _ | (dsimp only))

theorem EqualFunc67.l0.mono : ∀ a0_ a1_, ∀ s, Mono (fun k => EqualFunc67.l0 k a0_ a1_ s) := by
  intro a0_ a1_
  unfold EqualFunc67.l0
  repeat' (first | exact Mono.const _ | with_reducible exact alike168.mono _ _ | with_reducible refine Mono.cond ?_ ?_ | with_reducible refine Mono.orNil ?_ ?_ | with_reducible refine Mono.agree ?_ ?_ | with_reducible refine Mono.joined ?_ ?_ | with_reducible refine Mono.bind ?_ ?_ | with_reducible refine Mono.loop ?_ | with_reducible refine Mono.prod ?_ | intro _ | (dsimp only))

theorem EqualFunc67.mono : ∀ a0_ a1_ a2_, Mono (fun k => EqualFunc67 k a0_ a1_ a2_) := by
  intro a0_ a1_ a2_
  unfold EqualFunc67
  repeat' (first | exact Mono.const _ | with_reducible exact EqualFunc67.l0.mono _ _ | with_reducible refine Mono.cond ?_ ?_ | with_reducible refine Mono.orNil ?_ ?_ | with_reducible refine Mono.agree ?_ ?_ | with_reducible refine Mono.joined ?_ ?_ | with_reducible refine Mono.bind ?_ ?_ | with_reducible refine Mono.loop ?_ | with_reducible refine Mono.prod ?_ | intro _ | (dsimp only))

theorem alike29.mono : ∀ a0_ a1_, Mono (fun k => alike29 k a0_ a1_) := by
  intro a0_ a1_
  unfold alike29
  repeat' (first | exact Mono.const _ | with_reducible exact EqualFunc67.mono _ _ _ | with_reducible refine Mono.cond ?_ ?_ | with_reducible refine Mono.orNil ?_ ?_ | with_reducible refine Mono.agree ?_ ?_ | with_reducible refine Mono.joined ?_ ?_ | with_reducible refine Mono.bind ?_ ?_ | with_reducible refine Mono.loop ?_ | with_reducible refine Mono.prod ?_ | intro _ | (dsimp only))

theorem width100.mono : ∀ a0_, Mono (fun k => width100 k a0_) := by
  intro a0_
  unfold width100
  repeat' (first | exact Mono.const _ | with_reducible refine Mono.cond ?_ ?_ | with_reducible refine Mono.orNil ?_ ?_ | with_reducible refine Mono.agree ?_ ?_ | with_reducible refine Mono.joined ?_ ?_ | with_reducible refine Mono.bind ?_ ?_ | with_reducible refine Mono.loop ?_ | with_reducible refine Mono.prod ?_ | intro _ | (dsimp only))

theorem Low70.mono : ∀ a0_ a1_, Mono (fun k => Low70 k a0_ a1_) := by
  intro a0_ a1_
  unfold Low70
  repeat' (first | exact Mono.const _ | with_reducible exact width100.mono _ | with_reducible refine Mono.cond ?_ ?_ | with_reducible refine Mono.orNil ?_ ?_ | with_reducible refine Mono.agree ?_ ?_ | with_reducible refine Mono.joined ?_ ?_ | with_reducible refine Mono.bind ?_ ?_ | with_reducible refine Mono.loop ?_ | with_reducible refine Mono.prod ?_ | intro _ | (dsimp only))

theorem Starts71.l0.mono : ∀ a0_, ∀ s, Mono (fun k => Starts71.l0 k a0_ s) := by
  intro a0_
  unfold Starts71.l0
  repeat' (first | exact Mono.const _ | with_reducible exact Low70.mono _ _ | with_reducible refine Mono.cond ?_ ?_ | with_reducible refine Mono.orNil ?_ ?_ | with_reducible refine Mono.agree ?_ ?_ | with_reducible refine Mono.joined ?_ ?_ | with_reducible refine Mono.bind ?_ ?_ | with_reducible refine Mono.loop ?_ | with_reducible refine Mono.prod ?_ | intro _ | (dsimp only))

theorem Starts71.l1.mono : ∀ s, Mono (fun k => Starts71.l1 k s) := by
  unfold Starts71.l1
  repeat' (first | exact Mono.const _ | with_reducible exact Starts71.l0.mono _ | with_reducible refine Mono.cond ?_ ?_ | with_reducible refine Mono.orNil ?_ ?_ | with_reducible refine Mono.agree ?_ ?_ | with_reducible refine Mono.joined ?_ ?_ | with_reducible refine Mono.bind ?_ ?_ | with_reducible refine Mono.loop ?_ | with_reducible refine Mono.prod ?_ | intro _ | (dsimp only))

theorem Starts71.mono : Mono (fun k => Starts71 k) := by
  unfold Starts71
  repeat' (first | exact Mono.const _ | with_reducible exact Starts71.l1.mono | with_reducible refine Mono.cond ?_ ?_ | with_reducible refine Mono.orNil ?_ ?_ | with_reducible refine Mono.agree ?_ ?_ | with_reducible refine Mono.joined ?_ ?_ | with_reducible refine Mono.bind ?_ ?_ | with_reducible refine Mono.loop ?_ | with_reducible refine Mono.prod ?_ | intro _ | (dsimp only))

theorem Named1121.mono : ∀ a0_ a1_ a2_, Mono (fun k => Named1121 k a0_ a1_ a2_) := by
  intro a0_ a1_ a2_
  unfold Named1121
  repeat' (first | exact Mono.const _ | with_reducible refine Mono.cond ?_ ?_ | with_reducible refine Mono.orNil ?_ ?_ | with_reducible refine Mono.agree ?_ ?_ | with_reducible refine Mono.joined ?_ ?_ | with_reducible refine Mono.bind ?_ ?_ | with_reducible refine Mono.loop ?_ | with_reducible refine Mono.prod ?_ | intro _ | (dsimp only))

theorem IndexFunc42''.l0.mono : ∀ a0_, ∀ s, Mono (fun k => IndexFunc42''.l0 k a0_ s) := by
  intro a0_
  unfold IndexFunc42''.l0
  repeat' (first | exact Mono.const _ | with_reducible exact Named1121.mono _ _ _ | with_reducible refine Mono.cond ?_ ?_ | with_reducible refine Mono.orNil ?_ ?_ | with_reducible refine Mono.agree ?_ ?_ | with_reducible refine Mono.joined ?_ ?_ | with_reducible refine Mono.bind ?_ ?_ | with_reducible refine Mono.loop ?_ | with_reducible refine Mono.prod ?_ | intro _ | (dsimp only))

theorem IndexFunc42''.mono : ∀ a0_ a1_, Mono (fun k => IndexFunc42'' k a0_ a1_) := by
  intro a0_ a1_
  unfold IndexFunc42''
  repeat' (first | exact Mono.const _ | with_reducible exact IndexFunc42''.l0.mono _ | with_reducible refine Mono.cond ?_ ?_ | with_reducible refine Mono.orNil ?_ ?_ | with_reducible refine Mono.agree ?_ ?_ | with_reducible refine Mono.joined ?_ ?_ | with_reducible refine Mono.bind ?_ ?_ | with_reducible refine Mono.loop ?_ | with_reducible refine Mono.prod ?_ | intro _ | (dsimp only))

theorem Named84.mono : ∀ a0_ a1_ a2_, Mono (fun k => Named84 k a0_ a1_ a2_) := by
  intro a0_ a1_ a2_
  unfold Named84
  repeat' (first | exact Mono.const _ | with_reducible exact Copy44.mono _ | with_reducible exact IndexFunc42''.mono _ _ | with_reducible refine Mono.cond ?_ ?_ | with_reducible refine Mono.orNil ?_ ?_ | with_reducible refine Mono.agree ?_ ?_ | with_reducible refine Mono.joined ?_ ?_ | with_reducible refine Mono.bind ?_ ?_ | with_reducible refine Mono.loop ?_ | with_reducible refine Mono.prod ?_ | intro _ | (dsimp only))

theorem tail72.l0.mono : ∀ s, Mono (fun k => tail72.l0 k s) := by
  unfold tail72.l0
  repeat' (first | exact Mono.const _ | with_reducible exact Named84.mono _ _ _ | with_reducible refine Mono.cond ?_ ?_ | with_reducible refine Mono.orNil ?_ ?_ | with_reducible refine Mono.agree ?_ ?_ | with_reducible refine Mono.joined ?_ ?_ | with_reducible refine Mono.bind ?_ ?_ | with_reducible refine Mono.loop ?_ | with_reducible refine Mono.prod ?_ | intro _ | (dsimp only))

theorem tail72.mono : ∀ a0_, Mono (fun k => tail72 k a0_) := by
  intro a0_
  unfold tail72
  repeat' (first | exact Mono.const _ | with_reducible exact tail72.l0.mono | with_reducible refine Mono.cond ?_ ?_ | with_reducible refine Mono.orNil ?_ ?_ | with_reducible refine Mono.agree ?_ ?_ | with_reducible refine Mono.joined ?_ ?_ | with_reducible refine Mono.bind ?_ ?_ | with_reducible refine Mono.loop ?_ | with_reducible refine Mono.prod ?_ | intro _ | (dsimp only))

theorem Grow48.mono : ∀ a0_ a1_, Mono (fun k => Grow48 k a0_ a1_) := by
  intro a0_ a1_
  unfold Grow48
  repeat' (first | exact Mono.const _ | with_reducible refine Mono.cond ?_ ?_ | with_reducible refine Mono.orNil ?_ ?_ | with_reducible refine Mono.agree ?_ ?_ | with_reducible refine Mono.joined ?_ ?_ | with_reducible refine Mono.bind ?_ ?_ | with_reducible refine Mono.loop ?_ | with_reducible refine Mono.prod ?_ | intro _ | (dsimp only))

theorem Concat13.l0.mono : ∀ a0_, ∀ s, Mono (fun k => Concat13.l0 k a0_ s) := by
  intro a0_
  unfold Concat13.l0
  repeat' (first | exact Mono.const _ | with_reducible refine Mono.cond ?_ ?_ | with_reducible refine Mono.orNil ?_ ?_ | with_reducible refine Mono.agree ?_ ?_ | with_reducible refine Mono.joined ?_ ?_ | with_reducible refine Mono.bind ?_ ?_ | with_reducible refine Mono.loop ?_ | with_reducible refine Mono.prod ?_ | intro _ | (dsimp only))

theorem Concat13.l1.mono : ∀ a0_, ∀ s, Mono (fun k => Concat13.l1 k a0_ s) := by
  intro a0_
  unfold Concat13.l1
  repeat' (first | exact Mono.const _ | with_reducible refine Mono.cond ?_ ?_ | with_reducible refine Mono.orNil ?_ ?_ | with_reducible refine Mono.agree ?_ ?_ | with_reducible refine Mono.joined ?_ ?_ | with_reducible refine Mono.bind ?_ ?_ | with_reducible refine Mono.loop ?_ | with_reducible refine Mono.prod ?_ | intro _ | (dsimp only))

theorem Concat13.mono : ∀ a0_, Mono (fun k => Concat13 k a0_) := by
  intro a0_
  unfold Concat13
  repeat' (first | exact Mono.const _ | with_reducible exact Grow48.mono _ _ | with_reducible exact Concat13.l0.mono _ | with_reducible exact Concat13.l1.mono _ | with_reducible refine Mono.cond ?_ ?_ | with_reducible refine Mono.orNil ?_ ?_ | with_reducible refine Mono.agree ?_ ?_ | with_reducible refine Mono.joined ?_ ?_ | with_reducible refine Mono.bind ?_ ?_ | with_reducible refine Mono.loop ?_ | with_reducible refine Mono.prod ?_ | intro _ | (dsimp only))

theorem bits140.mono : ∀ a0_, Mono (fun k => bits140 k a0_) := by
  intro a0_
  unfold bits140
  repeat' (first | exact Mono.const _ | with_reducible refine Mono.cond ?_ ?_ | with_reducible refine Mono.orNil ?_ ?_ | with_reducible refine Mono.agree ?_ ?_ | with_reducible refine Mono.joined ?_ ?_ | with_reducible refine Mono.bind ?_ ?_ | with_reducible refine Mono.loop ?_ | with_reducible refine Mono.prod ?_ | intro _ | (dsimp only))

theorem Fit104.l0.mono : ∀ s, Mono (fun k => Fit104.l0 k s) := by
  unfold Fit104.l0
  repeat' (first | exact Mono.const _ | with_reducible exact Low70.mono _ _ | with_reducible exact bits140.mono _ | with_reducible refine Mono.cond ?_ ?_ | with_reducible refine Mono.orNil ?_ ?_ | with_reducible refine Mono.agree ?_ ?_ | with_reducible refine Mono.joined ?_ ?_ | with_reducible refine Mono.bind ?_ ?_ | with_reducible refine Mono.loop ?_ | with_reducible refine Mono.prod ?_ | intro _ | (dsimp only))

theorem Fit104.mono : ∀ a0_, Mono (fun k => Fit104 k a0_) := by
  intro a0_
  unfold Fit104
  repeat' (first | exact Mono.const _ | with_reducible exact Fit104.l0.mono | with_reducible refine Mono.cond ?_ ?_ | with_reducible refine Mono.orNil ?_ ?_ | with_reducible refine Mono.agree ?_ ?_ | with_reducible refine Mono.joined ?_ ?_ | with_reducible refine Mono.bind ?_ ?_ | with_reducible refine Mono.loop ?_ | with_reducible refine Mono.prod ?_ | intro _ | (dsimp only))

theorem cycles111.l0.mono : ∀ a0_ a1_, ∀ s, Mono (fun k => cycles111.l0 k a0_ a1_ s) := by
  intro a0_ a1_
  unfold cycles111.l0
  repeat' (first | exact Mono.const _ | with_reducible refine Mono.cond ?_ ?_ | with_reducible refine Mono.orNil ?_ ?_ | with_reducible refine Mono.agree ?_ ?_ | with_reducible refine Mono.joined ?_ ?_ | with_reducible refine Mono.bind ?_ ?_ | with_reducible refine Mono.loop ?_ | with_reducible refine Mono.prod ?_ | intro _ | (dsimp only))

theorem cycles111.mono : ∀ a0_ a1_, Mono (fun k => cycles111 k a0_ a1_) := by
  intro a0_ a1_
  unfold cycles111
  repeat' (first | exact Mono.const _ | with_reducible exact cycles111.l0.mono _ _ | with_reducible refine Mono.cond ?_ ?_ | with_reducible refine Mono.orNil ?_ ?_ | with_reducible refine Mono.agree ?_ ?_ | with_reducible refine Mono.joined ?_ ?_ | with_reducible refine Mono.bind ?_ ?_ | with_reducible refine Mono.loop ?_ | with_reducible refine Mono.prod ?_ | intro _ | (dsimp only))

theorem start105.l0.mono : ∀ a0_, ∀ s, Mono (fun k => start105.l0 k a0_ s) := by
  intro a0_
  unfold start105.l0
  repeat' (first | exact Mono.const _ | with_reducible exact cycles111.mono _ _ | with_reducible refine Mono.cond ?_ ?_ | with_reducible refine Mono.orNil ?_ ?_ | with_reducible refine Mono.agree ?_ ?_ | with_reducible refine Mono.joined ?_ ?_ | with_reducible refine Mono.bind ?_ ?_ | with_reducible refine Mono.loop ?_ | with_reducible refine Mono.prod ?_ | intro _ | (dsimp only))

theorem start105.mono : ∀ a0_ a1_ a2_, Mono (fun k => start105 k a0_ a1_ a2_) := by
  intro a0_ a1_ a2_
  unfold start105
  repeat' (first | exact Mono.const _ | with_reducible exact start105.l0.mono _ | with_reducible refine Mono.cond ?_ ?_ | with_reducible refine Mono.orNil ?_ ?_ | with_reducible refine Mono.agree ?_ ?_ | with_reducible refine Mono.joined ?_ ?_ | with_reducible refine Mono.bind ?_ ?_ | with_reducible refine Mono.loop ?_ | with_reducible refine Mono.prod ?_ | intro _ | (dsimp only))

theorem fixed141.mono : ∀ a0_, Mono (fun k => fixed141 k a0_) := by
  intro a0_
  unfold fixed141
  repeat' (first | exact Mono.const _ | with_reducible refine Mono.cond ?_ ?_ | with_reducible refine Mono.orNil ?_ ?_ | with_reducible refine Mono.agree ?_ ?_ | with_reducible refine Mono.joined ?_ ?_ | with_reducible refine Mono.bind ?_ ?_ | with_reducible refine Mono.loop ?_ | with_reducible refine Mono.prod ?_ | intro _ | (dsimp only))

theorem place106.mono : ∀ a0_ a1_, Mono (fun k => place106 k a0_ a1_) := by
  intro a0_ a1_
  unfold place106
  repeat' (first | exact Mono.const _ | with_reducible exact Low70.mono _ _ | with_reducible exact fixed141.mono _ | with_reducible refine Mono.cond ?_ ?_ | with_reducible refine Mono.orNil ?_ ?_ | with_reducible refine Mono.agree ?_ ?_ | with_reducible refine Mono.joined ?_ ?_ | with_reducible refine Mono.bind ?_ ?_ | with_reducible refine Mono.loop ?_ | with_reducible refine Mono.prod ?_ | intro _ | (dsimp only))

theorem doing107.mono : ∀ a0_ a1_, Mono (fun k => doing107 k a0_ a1_) := by
  intro a0_ a1_
  unfold doing107
  repeat' (first | exact Mono.const _ | with_reducible exact cycles111.mono _ _ | with_reducible refine Mono.cond ?_ ?_ | with_reducible refine Mono.orNil ?_ ?_ | with_reducible refine Mono.agree ?_ ?_ | with_reducible refine Mono.joined ?_ ?_ | with_reducible refine Mono.bind ?_ ?_ | with_reducible refine Mono.loop ?_ | with_reducible refine Mono.prod ?_ | intro _ | (dsimp only))

theorem Ask74.mono : ∀ a0_ a1_ a2_, Mono (fun k => Ask74 k a0_ a1_ a2_) := by
  intro a0_ a1_ a2_
  unfold Ask74
  repeat' (first | exact Mono.const _ | with_reducible exact Low70.mono _ _ | with_reducible exact Fit104.mono _ | with_reducible exact start105.mono _ _ _ | with_reducible exact place106.mono _ _ | with_reducible exact doing107.mono _ _ | with_reducible refine Mono.cond ?_ ?_ | with_reducible refine Mono.orNil ?_ ?_ | with_reducible refine Mono.agree ?_ ?_ | with_reducible refine Mono.joined ?_ ?_ | with_reducible refine Mono.bind ?_ ?_ | with_reducible refine Mono.loop ?_ | with_reducible refine Mono.prod ?_ | intro _ | (dsimp only))

theorem Byte108.mono : ∀ a0_, Mono (fun k => Byte108 k a0_) := by
  intro a0_
  unfold Byte108
  repeat' (first | exact Mono.const _ | with_reducible exact Low70.mono _ _ | with_reducible refine Mono.cond ?_ ?_ | with_reducible refine Mono.orNil ?_ ?_ | with_reducible refine Mono.agree ?_ ?_ | with_reducible refine Mono.joined ?_ ?_ | with_reducible refine Mono.bind ?_ ?_ | with_reducible refine Mono.loop ?_ | with_reducible refine Mono.prod ?_ | intro _ | (dsimp only))

theorem Read75.mono : ∀ a0_ a1_ a2_ a3_, Mono (fun k => Read75 k a0_ a1_ a2_ a3_) := by
  intro a0_ a1_ a2_ a3_
  unfold Read75
  repeat' (first | exact Mono.const _ | with_reducible exact Byte108.mono _ | with_reducible refine Mono.cond ?_ ?_ | with_reducible refine Mono.orNil ?_ ?_ | with_reducible refine Mono.agree ?_ ?_ | with_reducible refine Mono.joined ?_ ?_ | with_reducible refine Mono.bind ?_ ?_ | with_reducible refine Mono.loop ?_ | with_reducible refine Mono.prod ?_ | intro _ | (dsimp only))

theorem Write76.mono : ∀ a0_ a1_ a2_ a3_ a4_, Mono (fun k => Write76 k a0_ a1_ a2_ a3_ a4_) := by
  intro a0_ a1_ a2_ a3_ a4_
  unfold Write76
  repeat' (first | exact Mono.const _ | with_reducible refine Mono.cond ?_ ?_ | with_reducible refine Mono.orNil ?_ ?_ | with_reducible refine Mono.agree ?_ ?_ | with_reducible refine Mono.joined ?_ ?_ | with_reducible refine Mono.bind ?_ ?_ | with_reducible refine Mono.loop ?_ | with_reducible refine Mono.prod ?_ | intro _ | (dsimp only))

theorem two118.mono : ∀ a0_ a1_ a2_, Mono (fun k => two118 k a0_ a1_ a2_) := by
  intro a0_ a1_ a2_
  unfold two118
  repeat' (first | exact Mono.const _ | with_reducible refine Mono.cond ?_ ?_ | with_reducible refine Mono.orNil ?_ ?_ | with_reducible refine Mono.agree ?_ ?_ | with_reducible refine Mono.joined ?_ ?_ | with_reducible refine Mono.bind ?_ ?_ | with_reducible refine Mono.loop ?_ | with_reducible refine Mono.prod ?_ | intro _ | (dsimp only))

theorem one119.mono : ∀ a0_ a1_, Mono (fun k => one119 k a0_ a1_) := by
  intro a0_ a1_
  unfold one119
  repeat' (first | exact Mono.const _ | with_reducible refine Mono.cond ?_ ?_ | with_reducible refine Mono.orNil ?_ ?_ | with_reducible refine Mono.agree ?_ ?_ | with_reducible refine Mono.joined ?_ ?_ | with_reducible refine Mono.bind ?_ ?_ | with_reducible refine Mono.loop ?_ | with_reducible refine Mono.prod ?_ | intro _ | (dsimp only))

theorem zero178.mono : Mono (fun k => zero178 k) := by
  unfold zero178
  repeat' (first | exact Mono.const _ | with_reducible refine Mono.cond ?_ ?_ | with_reducible refine Mono.orNil ?_ ?_ | with_reducible refine Mono.agree ?_ ?_ | with_reducible refine Mono.joined ?_ ?_ | with_reducible refine Mono.bind ?_ ?_ | with_reducible refine Mono.loop ?_ | with_reducible refine Mono.prod ?_ | intro _ | (dsimp only))

theorem rd81.mono : ∀ a0_ a1_ a2_ a3_, Mono (fun k => rd81 k a0_ a1_ a2_ a3_) := by
  intro a0_ a1_ a2_ a3_
  unfold rd81
  repeat' (first | exact Mono.const _ | with_reducible refine Mono.cond ?_ ?_ | with_reducible refine Mono.orNil ?_ ?_ | with_reducible refine Mono.agree ?_ ?_ | with_reducible refine Mono.joined ?_ ?_ | with_reducible refine Mono.bind ?_ ?_ | with_reducible refine Mono.loop ?_ | with_reducible refine Mono.prod ?_ | intro _ | (dsimp only))

theorem no117.mono : ∀ a0_, Mono (fun k => no117 k a0_) := by
  intro a0_
  unfold no117
  repeat' (first | exact Mono.const _ | with_reducible refine Mono.cond ?_ ?_ | with_reducible refine Mono.orNil ?_ ?_ | with_reducible refine Mono.agree ?_ ?_ | with_reducible refine Mono.joined ?_ ?_ | with_reducible refine Mono.bind ?_ ?_ | with_reducible refine Mono.loop ?_ | with_reducible refine Mono.prod ?_ | intro _ | (dsimp only))

theorem rd81'.mono : ∀ a0_ a1_ a2_, Mono (fun k => rd81' k a0_ a1_ a2_) := by
  intro a0_ a1_ a2_
  unfold rd81'
  repeat' (first | exact Mono.const _ | with_reducible refine Mono.cond ?_ ?_ | with_reducible refine Mono.orNil ?_ ?_ | with_reducible refine Mono.agree ?_ ?_ | with_reducible refine Mono.joined ?_ ?_ | with_reducible refine Mono.bind ?_ ?_ | with_reducible refine Mono.loop ?_ | with_reducible refine Mono.prod ?_ | intro _ | (dsimp only))

theorem jump82.mono : ∀ a0_, Mono (fun k => jump82 k a0_) := by
  intro a0_
  unfold jump82
  repeat' (first | exact Mono.const _ | with_reducible exact two118.mono _ _ _ | with_reducible refine Mono.cond ?_ ?_ | with_reducible refine Mono.orNil ?_ ?_ | with_reducible refine Mono.agree ?_ ?_ | with_reducible refine Mono.joined ?_ ?_ | with_reducible refine Mono.bind ?_ ?_ | with_reducible refine Mono.loop ?_ | with_reducible refine Mono.prod ?_ | intro _ | (dsimp only))

theorem lead150.mono : ∀ a0_, Mono (fun k => lead150 k a0_) := by
  intro a0_
  unfold lead150
  repeat' (first | exact Mono.const _ | with_reducible exact two118.mono _ _ _ | with_reducible exact zero178.mono | with_reducible exact rd81.mono _ _ _ _ | with_reducible exact no117.mono _ | with_reducible exact rd81'.mono _ _ _ | with_reducible exact jump82.mono _ | with_reducible refine Mono.cond ?_ ?_ | with_reducible refine Mono.orNil ?_ ?_ | with_reducible refine Mono.agree ?_ ?_ | with_reducible refine Mono.joined ?_ ?_ | with_reducible refine Mono.bind ?_ ?_ | with_reducible refine Mono.loop ?_ | with_reducible refine Mono.prod ?_ | intro _ | (dsimp only))

theorem rd81''.mono : ∀ a0_ a1_ a2_, Mono (fun k => rd81'' k a0_ a1_ a2_) := by
  intro a0_ a1_ a2_
  unfold rd81''
  repeat' (first | exact Mono.const _ | with_reducible refine Mono.cond ?_ ?_ | with_reducible refine Mono.orNil ?_ ?_ | with_reducible refine Mono.agree ?_ ?_ | with_reducible refine Mono.joined ?_ ?_ | with_reducible refine Mono.bind ?_ ?_ | with_reducible refine Mono.loop ?_ | with_reducible refine Mono.prod ?_ | intro _ | (dsimp only))

theorem reads149.mono : ∀ a0_ a1_, Mono (fun k => reads149 k a0_ a1_) := by
  intro a0_ a1_
  unfold reads149
  repeat' (first | exact Mono.const _ | with_reducible exact lead150.mono _ | with_reducible exact rd81''.mono _ _ _ | with_reducible refine Mono.cond ?_ ?_ | with_reducible refine Mono.orNil ?_ ?_ | with_reducible refine Mono.agree ?_ ?_ | with_reducible refine Mono.joined ?_ ?_ | with_reducible refine Mono.bind ?_ ?_ | with_reducible refine Mono.loop ?_ | with_reducible refine Mono.prod ?_ | intro _ | (dsimp only))

theorem add116.mono : ∀ a0_ a1_ a2_ a3_ a4_ a5_, Mono (fun k => add116 k a0_ a1_ a2_ a3_ a4_ a5_) := by
  intro a0_ a1_ a2_ a3_ a4_ a5_
  unfold add116
  repeat' (first | exact Mono.const _ | with_reducible refine Mono.cond ?_ ?_ | with_reducible refine Mono.orNil ?_ ?_ | with_reducible refine Mono.agree ?_ ?_ | with_reducible refine Mono.joined ?_ ?_ | with_reducible refine Mono.bind ?_ ?_ | with_reducible refine Mono.loop ?_ | with_reducible refine Mono.prod ?_ | intro _ | (dsimp only))

theorem loads112.l0.mono : ∀ a0_ a1_ a2_, ∀ s, Mono (fun k => loads112.l0 k a0_ a1_ a2_ s) := by
  intro a0_ a1_ a2_
  unfold loads112.l0
  repeat' (first | exact Mono.const _ | with_reducible exact two118.mono _ _ _ | with_reducible exact one119.mono _ _ | with_reducible exact reads149.mono _ _ | with_reducible exact add116.mono _ _ _ _ _ _ | with_reducible refine Mono.cond ?_ ?_ | with_reducible refine Mono.orNil ?_ ?_ | with_reducible refine Mono.agree ?_ ?_ | with_reducible refine Mono.joined ?_ ?_ | with_reducible refine Mono.bind ?_ ?_ | with_reducible refine Mono.loop ?_ | with_reducible refine Mono.prod ?_ | intro _ | (dsimp only))

theorem loads112.mono : ∀ a0_ a1_ a2_ a3_ a4_ a5_, Mono (fun k => loads112 k a0_ a1_ a2_ a3_ a4_ a5_) := by
  intro a0_ a1_ a2_ a3_ a4_ a5_
  unfold loads112
  repeat' (first | exact Mono.const _ | with_reducible exact loads112.l0.mono _ _ _ | with_reducible refine Mono.cond ?_ ?_ | with_reducible refine Mono.orNil ?_ ?_ | with_reducible refine Mono.agree ?_ ?_ | with_reducible refine Mono.joined ?_ ?_ | with_reducible refine Mono.bind ?_ ?_ | with_reducible refine Mono.loop ?_ | with_reducible refine Mono.prod ?_ | intro _ | (dsimp only))

theorem wr120.mono : ∀ a0_ a1_ a2_, Mono (fun k => wr120 k a0_ a1_ a2_) := by
  intro a0_ a1_ a2_
  unfold wr120
  repeat' (first | exact Mono.const _ | with_reducible refine Mono.cond ?_ ?_ | with_reducible refine Mono.orNil ?_ ?_ | with_reducible refine Mono.agree ?_ ?_ | with_reducible refine Mono.joined ?_ ?_ | with_reducible refine Mono.bind ?_ ?_ | with_reducible refine Mono.loop ?_ | with_reducible refine Mono.prod ?_ | intro _ | (dsimp only))

theorem stores113.l0.mono : ∀ a0_ a1_ a2_, ∀ s, Mono (fun k => stores113.l0 k a0_ a1_ a2_ s) := by
  intro a0_ a1_ a2_
  unfold stores113.l0
  repeat' (first | exact Mono.const _ | with_reducible exact lead150.mono _ | with_reducible exact add116.mono _ _ _ _ _ _ | with_reducible exact wr120.mono _ _ _ | with_reducible refine Mono.cond ?_ ?_ | with_reducible refine Mono.orNil ?_ ?_ | with_reducible refine Mono.agree ?_ ?_ | with_reducible refine Mono.joined ?_ ?_ | with_reducible refine Mono.bind ?_ ?_ | with_reducible refine Mono.loop ?_ | with_reducible refine Mono.prod ?_ | intro _ | (dsimp only))

theorem stores113.mono : ∀ a0_ a1_ a2_ a3_ a4_ a5_, Mono (fun k => stores113 k a0_ a1_ a2_ a3_ a4_ a5_) := by
  intro a0_ a1_ a2_ a3_ a4_ a5_
  unfold stores113
  repeat' (first | exact Mono.const _ | with_reducible exact stores113.l0.mono _ _ _ | with_reducible refine Mono.cond ?_ ?_ | with_reducible refine Mono.orNil ?_ ?_ | with_reducible refine Mono.agree ?_ ?_ | with_reducible refine Mono.joined ?_ ?_ | with_reducible refine Mono.bind ?_ ?_ | with_reducible refine Mono.loop ?_ | with_reducible refine Mono.prod ?_ | intro _ | (dsimp only))

theorem joins114.l0.mono : ∀ a0_ a1_ a2_ a3_, ∀ s, Mono (fun k => joins114.l0 k a0_ a1_ a2_ a3_ s) := by
  intro a0_ a1_ a2_ a3_
  unfold joins114.l0
  repeat' (first | exact Mono.const _ | with_reducible exact two118.mono _ _ _ | with_reducible exact reads149.mono _ _ | with_reducible exact add116.mono _ _ _ _ _ _ | with_reducible refine Mono.cond ?_ ?_ | with_reducible refine Mono.orNil ?_ ?_ | with_reducible refine Mono.agree ?_ ?_ | with_reducible refine Mono.joined ?_ ?_ | with_reducible refine Mono.bind ?_ ?_ | with_reducible refine Mono.loop ?_ | with_reducible refine Mono.prod ?_ | intro _ | (dsimp only))

theorem joins114.mono : ∀ a0_ a1_ a2_ a3_ a4_ a5_ a6_, Mono (fun k => joins114 k a0_ a1_ a2_ a3_ a4_ a5_ a6_) := by
  intro a0_ a1_ a2_ a3_ a4_ a5_ a6_
  unfold joins114
  repeat' (first | exact Mono.const _ | with_reducible exact joins114.l0.mono _ _ _ _ | with_reducible refine Mono.cond ?_ ?_ | with_reducible refine Mono.orNil ?_ ?_ | with_reducible refine Mono.agree ?_ ?_ | with_reducible refine Mono.joined ?_ ?_ | with_reducible refine Mono.bind ?_ ?_ | with_reducible refine Mono.loop ?_ | with_reducible refine Mono.prod ?_ | intro _ | (dsimp only))

theorem turns115.l0.mono : ∀ a0_ a1_ a2_, ∀ s, Mono (fun k => turns115.l0 k a0_ a1_ a2_ s) := by
  intro a0_ a1_ a2_
  unfold turns115.l0
  repeat' (first | exact Mono.const _ | with_reducible exact one119.mono _ _ | with_reducible exact no117.mono _ | with_reducible exact lead150.mono _ | with_reducible exact rd81''.mono _ _ _ | with_reducible exact add116.mono _ _ _ _ _ _ | with_reducible exact wr120.mono _ _ _ | with_reducible refine Mono.cond ?_ ?_ | with_reducible refine Mono.orNil ?_ ?_ | with_reducible refine Mono.agree ?_ ?_ | with_reducible refine Mono.joined ?_ ?_ | with_reducible refine Mono.bind ?_ ?_ | with_reducible refine Mono.loop ?_ | with_reducible refine Mono.prod ?_ | intro _ | (dsimp only))

theorem turns115.mono : ∀ a0_ a1_ a2_ a3_ a4_ a5_, Mono (fun k => turns115 k a0_ a1_ a2_ a3_ a4_ a5_) := by
  intro a0_ a1_ a2_ a3_ a4_ a5_
  unfold turns115
  repeat' (first | exact Mono.const _ | with_reducible exact turns115.l0.mono _ _ _ | with_reducible refine Mono.cond ?_ ?_ | with_reducible refine Mono.orNil ?_ ?_ | with_reducible refine Mono.agree ?_ ?_ | with_reducible refine Mono.joined ?_ ?_ | with_reducible refine Mono.bind ?_ ?_ | with_reducible refine Mono.loop ?_ | with_reducible refine Mono.prod ?_ | intro _ | (dsimp only))

theorem memory78.l0.mono : ∀ s, Mono (fun k => memory78.l0 k s) := by
  unfold memory78.l0
  repeat' (first | exact Mono.const _ | with_reducible exact joins114.mono _ _ _ _ _ _ _ | with_reducible refine Mono.cond ?_ ?_ | with_reducible refine Mono.orNil ?_ ?_ | with_reducible refine Mono.agree ?_ ?_ | with_reducible refine Mono.joined ?_ ?_ | with_reducible refine Mono.bind ?_ ?_ | with_reducible refine Mono.loop ?_ | with_reducible refine Mono.prod ?_ | intro _ | (dsimp only))

theorem memory78.mono : ∀ a0_ a1_ a2_, Mono (fun k => memory78 k a0_ a1_ a2_) := by
  intro a0_ a1_ a2_
  unfold memory78
  repeat' (first | exact Mono.const _ | with_reducible exact loads112.mono _ _ _ _ _ _ | with_reducible exact stores113.mono _ _ _ _ _ _ | with_reducible exact joins114.mono _ _ _ _ _ _ _ | with_reducible exact turns115.mono _ _ _ _ _ _ | with_reducible exact memory78.l0.mono | with_reducible refine Mono.cond ?_ ?_ | with_reducible refine Mono.orNil ?_ ?_ | with_reducible refine Mono.agree ?_ ?_ | with_reducible refine Mono.joined ?_ ?_ | with_reducible refine Mono.bind ?_ ?_ | with_reducible refine Mono.loop ?_ | with_reducible refine Mono.prod ?_ | intro _ | (dsimp only))

theorem alone79.l0.mono : ∀ s, Mono (fun k => alone79.l0 k s) := by
  unfold alone79.l0
  repeat' (first | exact Mono.const _ | with_reducible exact two118.mono _ _ _ | with_reducible exact one119.mono _ _ | with_reducible exact no117.mono _ | with_reducible exact add116.mono _ _ _ _ _ _ | with_reducible refine Mono.cond ?_ ?_ | with_reducible refine Mono.orNil ?_ ?_ | with_reducible refine Mono.agree ?_ ?_ | with_reducible refine Mono.joined ?_ ?_ | with_reducible refine Mono.bind ?_ ?_ | with_reducible refine Mono.loop ?_ | with_reducible refine Mono.prod ?_ | intro _ | (dsimp only))

theorem alone79.mono : ∀ a0_ a1_ a2_, Mono (fun k => alone79 k a0_ a1_ a2_) := by
  intro a0_ a1_ a2_
  unfold alone79
  repeat' (first | exact Mono.const _ | with_reducible exact two118.mono _ _ _ | with_reducible exact one119.mono _ _ | with_reducible exact no117.mono _ | with_reducible exact rd81''.mono _ _ _ | with_reducible exact add116.mono _ _ _ _ _ _ | with_reducible exact wr120.mono _ _ _ | with_reducible exact alone79.l0.mono | with_reducible refine Mono.cond ?_ ?_ | with_reducible refine Mono.orNil ?_ ?_ | with_reducible refine Mono.agree ?_ ?_ | with_reducible refine Mono.joined ?_ ?_ | with_reducible refine Mono.bind ?_ ?_ | with_reducible refine Mono.loop ?_ | with_reducible refine Mono.prod ?_ | intro _ | (dsimp only))

theorem jump82'.mono : ∀ a0_, Mono (fun k => jump82' k a0_) := by
  intro a0_
  unfold jump82'
  repeat' (first | exact Mono.const _ | with_reducible exact two118.mono _ _ _ | with_reducible refine Mono.cond ?_ ?_ | with_reducible refine Mono.orNil ?_ ?_ | with_reducible refine Mono.agree ?_ ?_ | with_reducible refine Mono.joined ?_ ?_ | with_reducible refine Mono.bind ?_ ?_ | with_reducible refine Mono.loop ?_ | with_reducible refine Mono.prod ?_ | intro _ | (dsimp only))

theorem ways80.l0.mono : ∀ s, Mono (fun k => ways80.l0 k s) := by
  unfold ways80.l0
  repeat' (first | exact Mono.const _ | with_reducible exact two118.mono _ _ _ | with_reducible exact no117.mono _ | with_reducible exact rd81''.mono _ _ _ | with_reducible exact add116.mono _ _ _ _ _ _ | with_reducible refine Mono.cond ?_ ?_ | with_reducible refine Mono.orNil ?_ ?_ | with_reducible refine Mono.agree ?_ ?_ | with_reducible refine Mono.joined ?_ ?_ | with_reducible refine Mono.bind ?_ ?_ | with_reducible refine Mono.loop ?_ | with_reducible refine Mono.prod ?_ | intro _ | (dsimp only))

theorem ways80.mono : ∀ a0_ a1_ a2_, Mono (fun k => ways80 k a0_ a1_ a2_) := by
  intro a0_ a1_ a2_
  unfold ways80
  repeat' (first | exact Mono.const _ | with_reducible exact two118.mono _ _ _ | with_reducible exact rd81''.mono _ _ _ | with_reducible exact add116.mono _ _ _ _ _ _ | with_reducible exact wr120.mono _ _ _ | with_reducible exact jump82'.mono _ | with_reducible exact ways80.l0.mono | with_reducible refine Mono.cond ?_ ?_ | with_reducible refine Mono.orNil ?_ ?_ | with_reducible refine Mono.agree ?_ ?_ | with_reducible refine Mono.joined ?_ ?_ | with_reducible refine Mono.bind ?_ ?_ | with_reducible refine Mono.loop ?_ | with_reducible refine Mono.prod ?_ | intro _ | (dsimp only))

theorem answers83.mono : ∀ a0_ a1_, Mono (fun k => answers83 k a0_ a1_) := by
  intro a0_ a1_
  unfold answers83
  repeat' (first | exact Mono.const _ | with_reducible exact two118.mono _ _ _ | with_reducible exact no117.mono _ | with_reducible exact rd81''.mono _ _ _ | with_reducible exact wr120.mono _ _ _ | with_reducible exact jump82'.mono _ | with_reducible refine Mono.cond ?_ ?_ | with_reducible refine Mono.orNil ?_ ?_ | with_reducible refine Mono.agree ?_ ?_ | with_reducible refine Mono.joined ?_ ?_ | with_reducible refine Mono.bind ?_ ?_ | with_reducible refine Mono.loop ?_ | with_reducible refine Mono.prod ?_ | intro _ | (dsimp only))

theorem Cpu39.mono : Mono (fun k => Cpu39 k) := by
  unfold Cpu39
  repeat' (first | exact Mono.const _ | with_reducible exact jump82.mono _ | with_reducible exact rd81''.mono _ _ _ | with_reducible exact memory78.mono _ _ _ | with_reducible exact alone79.mono _ _ _ | with_reducible exact ways80.mono _ _ _ | with_reducible exact answers83.mono _ _ | with_reducible refine Mono.cond ?_ ?_ | with_reducible refine Mono.orNil ?_ ?_ | with_reducible refine Mono.agree ?_ ?_ | with_reducible refine Mono.joined ?_ ?_ | with_reducible refine Mono.bind ?_ ?_ | with_reducible refine Mono.loop ?_ | with_reducible refine Mono.prod ?_ | intro _ | (dsimp only))

theorem nop40.mono : Mono (fun k => nop40 k) := by
  unfold nop40
  repeat' (first | exact Mono.const _ | with_reducible exact Named84.mono _ _ _ | with_reducible exact Cpu39.mono | with_reducible refine Mono.cond ?_ ?_ | with_reducible refine Mono.orNil ?_ ?_ | with_reducible refine Mono.agree ?_ ?_ | with_reducible refine Mono.joined ?_ ?_ | with_reducible refine Mono.bind ?_ ?_ | with_reducible refine Mono.loop ?_ | with_reducible refine Mono.prod ?_ | intro _ | (dsimp only))

end Go.Proofs.YtcppmlgnceldmaaGreat.Gf

/- The museum's own processor. No program in sight. -/
set_option linter.unusedVariables false
set_option maxRecDepth 100000
noncomputable section
namespace Go.Proofs.YtcppmlgnceldmaaGreat.Gf
open Go Go.Proofs.YtcppmlgnceldmaaGreat.Gp

theorem Ev.one {α : Type} {f : Nat → Option α} {v w : α} (h : Ev f v) (h2 : Ev f w) : v = w := by
  obtain ⟨n, h⟩ := h
  obtain ⟨m, h2⟩ := h2
  have a := h (max n m) (by omega)
  rw [h2 (max n m) (by omega)] at a
  exact (Option.some.inj a).symm
def cpuV : Cpu := match Cpu39 20 with | some v => v.1 | none => (ByteArray.mk #[], [], [], [], [])
def isS {α : Type} (o : Option α) : Bool := match o with | some _ => true | none => false
theorem isS_some {α : Type} {o : Option α} (h : isS o = true) : ∃ v, o = some v := by
  cases o with
  | none => cases h
  | some v => exact ⟨v, rfl⟩
theorem cpu_isS : isS (Cpu39 20) = true := by kernel_rfl
theorem cpu_ev : Ev (fun k => Cpu39 k) (cpuV, ()) := by
  obtain ⟨v, hv⟩ := isS_some cpu_isS
  have e : cpuV = v.1 := by unfold cpuV; rw [hv]
  rw [e]
  exact Mono.ev Cpu39.mono hv
def wcycB (l : List Cyc) : Bool := Nat.ble (l.length * 48) 140737488351232 && l.all (fun y => Nat.ble (y.2.2.2.length * 32) 140737488351232)
def wcB (c : Cpu) : Bool := Nat.ble (c.2.1.length * 56) 140737488351232 && c.2.1.all (fun x => wcycB x.2.2.2) && wcycB c.2.2.1 && wcycB c.2.2.2.1 && wcycB c.2.2.2.2
theorem wcyc_of {l : List Cyc} (h : wcycB l = true) : Wcyc l := by
  unfold wcycB at h
  simp only [Bool.and_eq_true] at h
  exact ⟨Nat.le_of_ble_eq_true h.1, fun y hy => Nat.le_of_ble_eq_true (List.all_eq_true.1 h.2 y hy)⟩
theorem wc_of {c : Cpu} (h : wcB c = true) : Wc c := by
  unfold wcB at h
  simp only [Bool.and_eq_true] at h
  exact ⟨Nat.le_of_ble_eq_true h.1.1.1.1, fun x hx => wcyc_of (List.all_eq_true.1 h.1.1.1.2 x hx), wcyc_of h.1.1.2, wcyc_of h.1.2, wcyc_of h.2⟩
theorem cpu_wcB : wcB cpuV = true := by kernel_rfl
theorem cpu_wc : Wc cpuV := wc_of cpu_wcB
-- instructions by their names
def isN (name : ByteArray) (mode : Int) (x : Ins) : Bool := cond (streq x.2.1 name) (x.2.2.1 == mode) false
theorem nidx_lp {c : Cpu} (hc : Wc c) (name : ByteArray) (mode : Int) : ∀ (suf pre : List Ins), c.2.1 = pre ++ suf → ∃ r, Lp (fun k => IndexFunc42''.l0 k c.2.1) ((name, mode, ()), (pre.length : Int)) r ∧
    (match suf.find? (isN name mode) with | none => r = .inl () | some x => ∃ j : Nat, r = .inr ((j : Int), ()) ∧ c.2.1[j]? = some x) := by
  have hl := hc.len
  intro suf
  induction suf with
  | nil =>
    intro pre h
    rw [List.append_nil] at h
    refine ⟨.inl (), .done ?_, rfl⟩
    simp only [IndexFunc42''.l0]
    exact .no (decide_eq_false (by rw [h]; omega)) (.now _)
  | cons x suf ih =>
    intro pre h
    have hx : c.2.1[pre.length]? = some x := by rw [h]; simp
    have hlt := get_lt hx
    cases hp : isN name mode x with
    | true =>
      refine ⟨.inr ((pre.length : Int), ()), .done ?_, ?_⟩
      · simp only [IndexFunc42''.l0]
        refine .yes (decide_eq_true (by omega)) (.val (rd_some' hx) (.bind (a := (true, ())) (.const ?_) (.yes rfl (.now _))))
        show some (isN name mode x, ()) = _
        rw [hp]
      · rw [List.find?_cons_of_pos (by exact hp)]
        exact ⟨pre.length, rfl, hx⟩
    | false =>
      obtain ⟨r, h1, h2⟩ := ih (pre ++ [x]) (by rw [h]; simp)
      refine ⟨r, .step ?_ h1, ?_⟩
      · simp only [IndexFunc42''.l0]
        refine .yes (decide_eq_true (by omega)) (.val (rd_some' hx) (.bind (a := (false, ())) (.const ?_) (.no rfl (.now' ?_))))
        · show some (isN name mode x, ()) = _
          rw [hp]
        · rw [w64_succ (by omega)]; simp
      · rw [List.find?_cons_of_neg (by rw [hp]; decide)]
        exact h2
def namedR (c : Cpu) (name : ByteArray) (mode : Int) : Ins × Bool × Unit := match c.2.1.find? (isN name mode) with | some x => (x, true, ()) | none => (none4, false, ())
theorem named_ev {c : Cpu} (hc : Wc c) (name : ByteArray) (mode : Int) : Ev (fun k => Named84 k c name mode) (namedR c name mode, ()) := by
  unfold Named84 IndexFunc42''
  obtain ⟨r, h1, h2⟩ := nidx_lp hc name mode c.2.1 [] rfl
  unfold namedR
  cases hf : c.2.1.find? (isN name mode) with
  | none =>
    rw [hf] at h2
    subst h2
    exact .bind (.joinL (S := Unit) h1.ev (.now _)) (.yes rfl (.now _))
  | some x =>
    rw [hf] at h2
    obtain ⟨j, rfl, hj⟩ := h2
    exact .bind (.joinR h1.ev) (.no (decide_eq_false (by show ¬ (j : Int) < 0; omega)) (.val (rd_some' hj) (.bind (copy_ev x (hc.ins x (get_mem hj))) (.now _))))
theorem wrap8 (x : Int) : 0 ≤ IntKind.wrap .u8 x ∧ IntKind.wrap .u8 x < 256 := by
  have e2 : (2 : Int) ^ 8 = 256 := by decide
  simp only [IntKind.wrap, IntKind.signed, IntKind.bits, Bool.false_and, e2]
  constructor
  · simp; omega
  · simp; omega
def nopB : List Int := [IntKind.wrap .u8 (namedR cpuV (ByteArray.mk #[110, 111, 112]) 0).1.1, IntKind.wrap .u8 (namedR cpuV (ByteArray.mk #[106, 109, 112]) 4).1.1, 0, 2]
theorem nop_ev : Ev (fun k => nop40 k) ((512, nopB, []), ()) := by
  unfold nop40
  exact .bind cpu_ev (.bind (named_ev cpu_wc _ _) (.bind cpu_ev (.bind (named_ev cpu_wc _ _) (.now _))))
theorem nop_wb : Wb nopB := by
  refine ⟨by decide, fun x hx => ?_⟩
  unfold nopB at hx
  simp only [List.mem_cons, List.not_mem_nil, or_false] at hx
  rcases hx with rfl | rfl | rfl | rfl
  · exact wrap8 _
  · exact wrap8 _
  · decide
  · decide
def askV : Option ((Cor × ((Int × Int × Int) × Unit)) × Unit) := Ask74 20 cpuV ((List.replicate 9 0).set 7 512, -1, 0, false) false
theorem ask_isS : isS askV = true := by kernel_rfl
theorem ask_bus : (match askV with | some v => v.1.2.1 | none => (0, 0, 0)) = (1, 512, 0) := by kernel_rfl
theorem ask_first {v : (Cor × ((Int × Int × Int) × Unit)) × Unit} (h : Ev (fun n => Ask74 n cpuV (k0 (nopB, List.replicate 9 0)) false) v) : v.1.2.1 = (1, 512, 0) := by
  obtain ⟨w, hw⟩ := isS_some ask_isS
  have h2 : Ev (fun n => Ask74 n cpuV (k0 (nopB, List.replicate 9 0)) false) w := Mono.ev (Ask74.mono _ _ _) hw
  rw [Ev.one h h2]
  have := ask_bus
  rw [hw] at this
  exact this
theorem gen_ev : Ev (fun k => generated9 k) (true, ()) := by
  unfold generated9
  obtain ⟨l, h40, hr, _, v, b, hb, hv, hx⟩ := run_same cpu_wc (t := (nopB, List.replicate 9 0)) nop_wb nin_rep
  have hv2 := ask_first hv
  obtain ⟨q1, q2, x, hx, q3⟩ := hx (by rw [hv2])
  have hx0 : Ev (fun n => Read75 n () v.1.2.1.2.1 (nopB, ()) []) (w64 (IntKind.wrap .u8 (namedR cpuV (ByteArray.mk #[110, 111, 112]) 0).1.1), (nopB, ()), []) := by
    rw [hv2]
    exact .const rfl
  have hxx := Ev.one hx hx0
  have hb3 : b = (1, 512, w64 (IntKind.wrap .u8 (namedR cpuV (ByteArray.mk #[110, 111, 112]) 0).1.1)) := by
    obtain ⟨b1, b2, b3⟩ := b
    have q1 : b1 = 1 := q1
    have q2 : b2 = 512 := by rw [hv2] at q2; exact q2
    have q3 : b3 = x.1 := q3
    rw [q1, q2, q3, hxx]
  refine .bind cpu_ev (.bind nop_ev (.bind hr (.bind (a := true) (.yes ?_ (.val (rd_some' (i := 0) hb) (.bind nop_ev (.val (a := IntKind.wrap .u8 (namedR cpuV (ByteArray.mk #[110, 111, 112]) 0).1.1) rfl (.now' ?_))))) (.now _))))
  · show ((l.length : Int) == 40) = true
    rw [h40]; rfl
  · rw [hb3]
    exact (congrArg (xor false) ((eqB_iff (k := .st (.pair (.int .i64) (.pair (.int .i64) (.int .i64)))) rfl).2 rfl)).trans rfl
end Go.Proofs.YtcppmlgnceldmaaGreat.Gf

/- What an argument of a law reads as, kind by kind. -/
set_option linter.unusedVariables false
noncomputable section
namespace Go.Proofs.YtcppmlgnceldmaaGreat.Gp
open Go Go.ChangeShapes Go.WideShapes Go.RowKit

/-- the input's memory, all of it frozen -/
def memH (W : World) : Hp := fun b => W.heap[b]?

structure Gd (P : Program) (t : TypeId) (k : K) (wf : k.den → Prop) (siz : k.den → Nat) : Prop where
  cells : P.cellsOf t = k.w
  one : k.one = true
  pur : k.pur = true
  val : ∀ {W : World} {r : Reach} {base : Nat} {v : Value}, Value.okWide P W r base t v → v = k.mk v.cells.toList
  read : ∀ {H : Type} {enc : TypeId × Value → H} {W : World} {base : Nat} {spare : Nat → Bool} {held : Bool} {fuel : Nat} {cs : List Value} {x : DataW H × List MemPlace},
    DataW.trod enc P W base spare held fuel t cs = some x → (∀ n ∈ x.1.weights P t, n ≤ reachBytes) → ∃ y, (∀ L, Lv (memH W) L k y cs) ∧ wf y ∧ siz y ≤ Rows.uptoBulk x.1

variable {P : Program}

theorem str_len {s : ByteArray} : s.data.toList.length = s.size := Array.length_toList
theorem gd_int {t : TypeId} {k : IntKind} (hu : P.underlying t = some (.int k)) (hc : P.cellsOf t = 1) : Gd P t (.int k) (fun (y : Int) => (Lit.int k y).wf = true) (fun _ => 1) :=
  ⟨hc, rfl, rfl, fun h => by obtain ⟨n, rfl⟩ := okWide_int hu h; rfl, fun h _ => by
    obtain ⟨n, rfl, rfl, hw⟩ := DataW.trod_int hu h
    exact ⟨n, fun _ => rfl, hw, by simp [Rows.uptoBulk]⟩⟩
theorem gd_bool {t : TypeId} (hu : P.underlying t = some .bool) (hc : P.cellsOf t = 1) : Gd P t .bool (fun _ => True) (fun _ => 1) :=
  ⟨hc, rfl, rfl, fun h => by
    simp only [Value.okWide, hu, Cell.okWide] at h
    rename_i v
    cases v <;> first | rfl | (simp_all [Cell.ok]; done), fun h _ => by
    obtain ⟨n, rfl, rfl⟩ := DataW.trod_bool hu h
    exact ⟨n, fun _ => rfl, trivial, by simp [Rows.uptoBulk]⟩⟩
theorem gd_str {t : TypeId} (hu : P.underlying t = some .string) (hc : P.cellsOf t = 1) : Gd P t .str (fun (y : ByteArray) => y.size ≤ 140737488351232) (fun (y : ByteArray) => y.size + 1) :=
  ⟨hc, rfl, rfl, fun h => by
    simp only [Value.okWide, hu, Cell.okWide] at h
    rename_i v
    cases v <;> first | rfl | (simp_all [Cell.ok]; done), fun h hw => by
    obtain ⟨s, rfl, rfl, _⟩ := DataW.trod_string hu h
    refine ⟨s, fun _ => rfl, ?_, ?_⟩
    · have := hw s.data.toList.length (by simp [DataW.weights])
      rw [str_len] at this
      exact this
    · simp only [Rows.uptoBulk]
      rw [str_len]
      omega⟩

theorem weights_all {H : Type} {e : TypeId} {n : Nat} : ∀ {l : List (DataW H)} {d : DataW H}, d ∈ l → n ∈ d.weights P e → n ∈ DataW.weightsAll P e l
  | x :: r, d, hd, hn => by
    rw [DataW.weightsAll]
    rcases List.mem_cons.1 hd with rfl | hd
    · exact List.mem_append_left _ hn
    · exact List.mem_append_right _ (weights_all hd hn)
theorem buildL {α : Type} {H : Type} {wf : α → Prop} {siz : α → Nat} : ∀ (es : List (DataW H × List MemPlace)) (p : Nat → α → Prop),
    (∀ i x, es[i]? = some x → ∃ y, p i y ∧ wf y ∧ siz y ≤ Rows.uptoBulk x.1) →
    ∃ ys : List α, ys.length = es.length ∧ (∀ j y, ys[j]? = some y → p j y ∧ wf y) ∧ (ys.map siz).sum ≤ Rows.uptoBulkAll (es.map (·.1))
  | [], _, _ => ⟨[], rfl, fun j y h => by simp at h, by simp⟩
  | x :: r, p, h => by
    obtain ⟨y, hp, hw, hs⟩ := h 0 x rfl
    obtain ⟨ys, hl, hy, hsum⟩ := buildL r (fun i => p (i + 1)) (fun i x hx => h (i + 1) x (by simpa using hx))
    refine ⟨y :: ys, by simp [hl], fun j z hz => ?_, ?_⟩
    · cases j with
      | zero => simp only [List.getElem?_cons_zero, Option.some.injEq] at hz; subst hz; exact ⟨hp, hw⟩
      | succ j => exact hy j z (by simpa using hz)
    · simp only [List.map_cons, List.sum_cons, Rows.uptoBulkAll]
      omega

def sizL {α : Type} (siz : α → Nat) (l : List α) : Nat := (l.map siz).sum + 1
def wfL {α : Type} (B : Nat) (wf : α → Prop) (l : List α) : Prop := l.length * B ≤ 140737488351232 ∧ ∀ y ∈ l, wf y

theorem LvL_mk {α : Type} {R : α → List Value → Prop} {w : Nat} {C : List Value} : ∀ {ys : List α} {o : Nat}, (∀ j y, ys[j]? = some y → ∃ c : List Value, c.length = w ∧ R y c ∧ ∀ i u, c[i]? = some u → C[o + (j * w + i)]? = some u) →
    LvL R ys ((C.drop o).take (ys.length * w))
  | [], o, h => by simp [LvL]
  | y :: ys, o, h => by
    obtain ⟨c, hc, hr, hu⟩ := h 0 y rfl
    have e : (C.drop o).take w = c := by
      apply List.ext_getElem?
      intro i
      rw [cut_get]
      by_cases hi : i < w
      · rw [if_pos hi]
        have hi' : i < c.length := by omega
        have := hu i c[i] (List.getElem?_eq_getElem hi')
        rw [Nat.zero_mul, Nat.zero_add] at this
        rw [this, List.getElem?_eq_getElem hi']
      · rw [if_neg hi, List.getElem?_eq_none (by omega)]
    refine ⟨c, (C.drop (o + w)).take (ys.length * w), ?_, hr, LvL_mk (fun j z hz => ?_)⟩
    · rw [List.length_cons, Nat.add_mul, Nat.one_mul, Nat.add_comm (ys.length * w) w, List.take_add, e, List.drop_drop]
    · obtain ⟨c', h1, h2, h3⟩ := h (j + 1) z hz
      refine ⟨c', h1, h2, fun i u hi => ?_⟩
      have := h3 i u hi
      rw [Nat.add_mul, Nat.one_mul] at this
      rw [show o + w + (j * w + i) = o + (j * w + w + i) by omega]
      exact this

theorem gd_sl {t e : TypeId} {k : K} {wf : k.den → Prop} {siz : k.den → Nat} {B : Nat} (hu : P.underlying t = some (.slice e)) (hc : P.cellsOf t = 1) (hB : P.bytesOf e = B) (hk : 0 < k.w) (r : Gd P e k wf siz) :
    Gd P t (.sl k) (wfL (α := k.den) B wf) (sizL (α := k.den) siz) :=
  ⟨hc, rfl, r.pur, fun h => by obtain ⟨a, len, cap, rfl⟩ := okWide_slice hu h; rfl, fun {H enc W base spare held fuel cs x} h hw => by
    rcases DataW.trod_slice hu h with ⟨rfl, rfl⟩ | ⟨a, len, cap, elems, rest, n, _, rfl, rfl, hb, hl, hm, hlen, hel, _, _⟩
    · exact ⟨([] : List k.den), fun L => ⟨r.pur, none, 0, rfl, Nat.le_refl _, fun hn => absurd rfl hn⟩, ⟨by simp, fun y hy => by simp at hy⟩, by simp [sizL, Rows.uptoBulk]⟩
    · simp only [DataW.weights, hu] at hw
      have hw1 : (elems.length + rest.length) * B ≤ 140737488351232 := by
        have := hw ((elems.length + rest.length) * B) (by simp [hB])
        exact this
      obtain ⟨ys, hyl, hyp, hys⟩ := buildL (wf := wf) (siz := siz) elems (fun i y => ∃ c : List Value, c.length = k.w ∧ (∀ L, Lv (memH W) L k y c) ∧ ∀ j u, c[j]? = some u → W.cell? (a.add (i * k.w + j)) = some u) (fun i z hz => by
        have hi : i < len := by
          have := (List.getElem?_eq_some_iff.1 hz).1
          omega
        have h1 := hel i hi
        rw [hz] at h1
        obtain ⟨c, hc1, hc2⟩ := Option.bind_eq_some_iff.1 h1
        obtain ⟨y, hK, hwf, hsz⟩ := r.read hc2 (fun q hq => hw q (List.mem_cons_of_mem _ (List.mem_append_left _ (weights_all (List.mem_map.2 ⟨z, List.mem_of_getElem? hz, rfl⟩) hq))))
        obtain ⟨_, hcl, hcell⟩ := World.cells?_some hc1
        refine ⟨y, ⟨c, Lv_len (hK default), hK, fun j u hu => ?_⟩, hwf, hsz⟩
        have hj : j < P.cellsOf e := by
          have := (List.getElem?_eq_some_iff.1 hu).1
          omega
        have h3 := hcell j hj
        rw [Go.Deep.add_add, r.cells] at h3
        rw [h3]
        exact hu)
      refine ⟨ys, fun L => ⟨r.pur, some a, cap, by rw [hyl, hlen], by omega, fun hn => ?_⟩, ⟨?_, fun y hy => ?_⟩, ?_⟩
      · have hn : ys.length ≠ 0 := hn
        obtain ⟨y, hy⟩ : ∃ y, ys[0]? = some y := ⟨ys[0]'(by omega), List.getElem?_eq_getElem (by omega)⟩
        obtain ⟨c, c1, c2, c3⟩ := (hyp 0 y hy).1
        obtain ⟨u, hu0⟩ : ∃ u, c[0]? = some u := ⟨c[0]'(by omega), List.getElem?_eq_getElem (by omega)⟩
        have hcell := c3 0 u hu0
        rw [Nat.zero_mul, Nat.zero_add, show a.add 0 = a from rfl] at hcell
        unfold World.cell? at hcell
        split at hcell
        · rename_i C ee zz hblk
          split at hcell
          · cases hcell
          · rename_i hsp
            have hsp : a.spot = none := by cases hs : a.spot with | none => rfl | some q => rw [hs] at hsp; exact absurd rfl hsp
            refine ⟨a.block, a.off, C, ee, zz, by cases a; simp only at hsp; rw [hsp], hblk, LvL_mk (C := C.toList) (fun j y hy => ?_)⟩
            obtain ⟨c, c1, c2, c3⟩ := (hyp j y hy).1
            refine ⟨c, c1, c2 L, fun i u hi => ?_⟩
            have h5 := c3 i u hi
            have hadd : (a.add (j * k.w + i)).block = a.block ∧ (a.add (j * k.w + i)).off = a.off + (j * k.w + i) ∧ (a.add (j * k.w + i)).spot = none := by
              unfold Addr.add
              split
              · rename_i h0; exact ⟨rfl, by omega, hsp⟩
              · exact ⟨rfl, rfl, rfl⟩
            unfold World.cell? at h5
            rw [hadd.1, hblk, hadd.2.1, hadd.2.2] at h5
            rw [Array.getElem?_toList]
            exact h5
        · cases hcell
      · rw [hyl]
        exact Nat.le_trans (Nat.mul_le_mul_right _ (Nat.le_add_right _ _)) hw1
      · obtain ⟨j, hj⟩ := List.mem_iff_getElem?.1 hy
        exact (hyp j y hj).2
      · simp only [sizL, Rows.uptoBulk]
        omega⟩

/-- arrays -/
def sizA {α : Type} (siz : α → Nat) (l : List α) : Nat := (l.map siz).sum
def wfA {α : Type} (n : Nat) (wf : α → Prop) (l : List α) : Prop := l.length = n ∧ ∀ y ∈ l, wf y
theorem gd_arr {t e : TypeId} {n : Nat} {k : K} {wf : k.den → Prop} {siz : k.den → Nat} (hu : P.underlying t = some (.array n e)) (hc : P.cellsOf t = n * k.w) (r : Gd P e k wf siz) :
    Gd P t (.arr n k) (wfA (α := k.den) n wf) (sizA (α := k.den) siz) :=
  ⟨hc, rfl, r.pur, fun h => by
    simp only [Value.okWide, hu] at h
    obtain ⟨cs, rfl, _⟩ := h
    rfl, fun {H enc W base spare held fuel cs x} h hw => by
    obtain ⟨xs, m, _, rfl, hl, hxl, hx⟩ := DataW.trod_array hu h
    simp only [DataW.weights, hu] at hw
    obtain ⟨ys, hyl, hyp, hys⟩ := buildL (wf := wf) (siz := siz) xs (fun i y => ∀ L, Lv (memH W) L k y ((cs.drop (i * k.w)).take k.w)) (fun i z hz => by
      have hi : i < n := by
        have := (List.getElem?_eq_some_iff.1 hz).1
        omega
      have h1 := hx i hi
      rw [hz, r.cells] at h1
      obtain ⟨y, hK, hwf, hsz⟩ := r.read h1 (fun q hq => hw q (weights_all (List.mem_map.2 ⟨z, List.mem_of_getElem? hz, rfl⟩) hq))
      exact ⟨y, hK, hwf, hsz⟩)
    refine ⟨ys, fun L => ⟨r.pur, hyl.trans hxl, ?_⟩, ⟨hyl.trans hxl, fun y hy => ?_⟩, ?_⟩
    · have := LvL_mk (w := k.w) (R := Lv (memH W) L k) (C := cs) (ys := ys) (o := 0) (fun j y hy => ⟨(cs.drop (j * k.w)).take k.w, Lv_len ((hyp j y hy).1 L), (hyp j y hy).1 L, fun i u hi => by
        rw [cut_get] at hi
        split at hi
        · rw [Nat.zero_add]; exact hi
        · cases hi⟩)
      rwa [List.drop_zero, List.take_of_length_le (by rw [hl, hc, hyl, hxl]; exact Nat.le_refl _)] at this
    · obtain ⟨j, hj⟩ := List.mem_iff_getElem?.1 hy
      exact (hyp j y hj).2
    · simp only [sizA, Rows.uptoBulk]
      omega⟩

/-- fields in line, from cell 'off' on -/
structure GdF (P : Program) (off : Nat) (fs : List Field) (k : K) (wf : k.den → Prop) (siz : k.den → Nat) : Prop where
  pur : k.pur = true
  read : ∀ {H : Type} {enc : TypeId × Value → H} {W : World} {base : Nat} {spare : Nat → Bool} {held : Bool} {fuel : Nat} {cs : List Value} {xs : List (DataW H × List MemPlace)},
    cs.length = off + k.w → xs.length = fs.length →
    (∀ (i : Nat) (f : Field), fs[i]? = some f → DataW.trod enc P W base spare held fuel f.type ((cs.drop f.offset).take (P.cellsOf f.type)) = xs[i]?) →
    (∀ n ∈ DataW.weightsEach P (fs.map (·.type)) (xs.map (·.1)), n ≤ reachBytes) →
    ∃ y, (∀ L, Lv (memH W) L k y (cs.drop off)) ∧ wf y ∧ siz y ≤ Rows.uptoBulkAll (xs.map (·.1))

theorem gdf_nil {off : Nat} : GdF P off [] .unit (fun _ => True) (fun _ => 0) :=
  ⟨rfl, fun {H enc W base spare held fuel cs xs} hl hxl hx hw => ⟨(), fun L => by
    show cs.drop off = []
    exact List.drop_eq_nil_of_le (by rw [hl]; exact Nat.le_refl _), trivial, Nat.zero_le _⟩⟩
theorem gdf_cons {off : Nat} {f : Field} {fs : List Field} {k k' : K} {wf : k.den → Prop} {wf' : k'.den → Prop} {siz : k.den → Nat} {siz' : k'.den → Nat} (ho : f.offset = off) (r : Gd P f.type k wf siz)
    (rs : GdF P (off + k.w) fs k' wf' siz') : GdF P off (f :: fs) (.pair k k') (fun (y : k.den × k'.den) => wf y.1 ∧ wf' y.2) (fun (y : k.den × k'.den) => siz y.1 + siz' y.2) := by
  refine ⟨by simp only [K.pur, r.pur, rs.pur]; rfl, ?_⟩
  intro H enc W base spare held fuel cs xs hl hxl hx hw
  have hl' : cs.length = off + (k.w + k'.w) := hl
  match xs, hxl with
  | x :: xs, hxl =>
    have h := hx 0 f rfl
    rw [ho, r.cells] at h
    simp only [List.getElem?_cons_zero] at h
    obtain ⟨y, h1, h2, h3⟩ := r.read h (fun n hn => hw n (by simp [DataW.weightsEach, hn]))
    obtain ⟨z, g1, g2, g3⟩ := rs.read (enc := enc) (W := W) (base := base) (spare := spare) (held := held) (fuel := fuel) (cs := cs) (xs := xs) (by omega) (by simpa using hxl)
      (fun i g hg => by simpa using hx (i + 1) g (by simpa using hg)) (fun n hn => hw n (by simp only [List.map_cons, DataW.weightsEach]; exact List.mem_append_right _ hn))
    refine ⟨(y, z), fun L => ⟨(cs.drop off).take k.w, cs.drop (off + k.w), ?_, h1 L, g1 L⟩, ⟨h2, g2⟩, ?_⟩
    · rw [← List.drop_drop]
      exact (List.take_append_drop _ _).symm
    · simp only [List.map_cons, Rows.uptoBulkAll]
      omega
theorem gdf_one {off : Nat} {f : Field} {k : K} {wf : k.den → Prop} {siz : k.den → Nat} (ho : f.offset = off) (r : Gd P f.type k wf siz) : GdF P off [f] k wf siz := by
  refine ⟨r.pur, ?_⟩
  intro H enc W base spare held fuel cs xs hl hxl hx hw
  match xs, hxl with
  | [x], hxl =>
    have h := hx 0 f rfl
    rw [ho, r.cells] at h
    simp only [List.getElem?_cons_zero] at h
    have e : (cs.drop off).take k.w = cs.drop off := List.take_of_length_le (by rw [List.length_drop, hl]; omega)
    rw [e] at h
    obtain ⟨y, h1, h2, h3⟩ := r.read h (fun n hn => hw n (by simp [DataW.weightsEach, hn]))
    refine ⟨y, h1, h2, ?_⟩
    simp only [List.map_cons, List.map_nil, Rows.uptoBulkAll]
    omega
theorem gd_st {t : TypeId} {fs : Array Field} {k : K} {wf : k.den → Prop} {siz : k.den → Nat} (hu : P.underlying t = some (.struct fs)) (hc : P.cellsOf t = k.w) (r : GdF P 0 fs.toList k wf siz) : Gd P t (.st k) wf siz :=
  ⟨hc, rfl, r.pur, fun h => by
    simp only [Value.okWide, hu] at h
    obtain ⟨cs, rfl, _⟩ := h
    rfl, fun h hw => by
    obtain ⟨xs, n, _, rfl, hl, hxl, hx⟩ := DataW.trod_struct hu h
    obtain ⟨y, h1, h2, h3⟩ := r.read (by rw [hl, hc]; omega) (by rw [hxl]; simp) (fun i f hf => hx i f (by simpa using hf)) (fun n hn => hw n (by simp only [DataW.weights, hu]; exact hn))
    refine ⟨y, h1, h2, ?_⟩
    simp only [Rows.uptoBulk]
    omega⟩

/-- an argument -/
theorem Gd.arg {t : TypeId} {k : K} {wf : k.den → Prop} {siz : k.den → Nat} (r : Gd P t k wf siz) {H : Type} {enc : TypeId × Value → H} {W : World} {base : Nat} {spare : Nat → Bool} {held : Bool} {rr : Reach} {b2 : Nat} {v : Value} {x : DataW H} {ps : List MemPlace}
    (hval : Value.okWide P W rr b2 t v) (h : DataW.Trod enc P W base spare held t v x ps) (hw : ∀ n ∈ x.weights P t, n ≤ reachBytes) : ∃ y : k.den, (∀ L, SR (memH W) L ⟨k, y⟩ v) ∧ wf y ∧ siz y ≤ Rows.uptoBulk x := by
  obtain ⟨fuel, hf⟩ := h
  obtain ⟨y, h1, h2, h3⟩ := r.read hf hw
  refine ⟨y, fun L => ?_, h2, h3⟩
  rw [r.val hval]
  exact SR_mk (h1 L)

def noLoc : Ls := fun _ => default
theorem law_calls {fuel : Nat} {f : FuncId} {params : List K} {run : Nat → HL params → HL (List.map (·.toK) ([] : List OK)) → Option (K.bool.den × HL (List.map (·.toK) ([] : List OK)))} (hs : SoundAt P fuel ⟨f, params, [], .bool, [], [], run⟩) {ds : HL params}
    (hr : run fuel ds () = some (true, ())) {args : Array Value} {W : World} (hv : SRs (memH W) noLoc (unpackL params ds) args.toList) : Calls P f args W (fun e W' => e = .returned (.bool true) ∧ Below W.heap.size W W') := by
  have hno : ∀ b, ¬ Own (assoc O.dead (objsFrom 0 ([] : List OK) ())) noLoc b := fun b ⟨i, hi, _⟩ => hi
  refine Calls.mono (hs.2 ds () (true, ()) hr args W (memH W) noLoc hv ⟨fun i => trivial, fun b o h => h, fun i hi => hi.elim, fun i j hi => hi.elim⟩ (fun i hi => by cases hi)) fun e W' hh => ?_
  obtain ⟨v, H', L', rfl, h1, _, _, hp⟩ := hh
  have h1 : SR H' L' ⟨.bool, true⟩ v := h1
  refine ⟨by rw [bool_at h1], hp.fr.os, hp.fr.tape, hp.fr.output, hp.fr.size, fun b hb => hp.fr.same b hb (hno b)⟩
/-- The weights of one argument. -/
theorem weights_at {H : Type} {ts : List TypeId} {ds : List (DataW H)} (hsz : (DataW.weightsEach P ts ds).all (· ≤ reachBytes) = true) (j : Nat) {t : TypeId} {d : DataW H} (ht : ts[j]? = some t) (hd : ds[j]? = some d) :
    ∀ n ∈ d.weights P t, n ≤ reachBytes := fun n hn => by
  have := List.all_eq_true.1 hsz n (DataW.weights_mem_each ht hd n hn)
  simpa using this

/-- The bulk of one argument. -/
theorem bulk_at {H : Type} {l : List (DataW H)} (hk : Rows.uptoSmall H l = true) {d : DataW H} (hd : d ∈ l) : Rows.uptoBulk d ≤ 1048576 := by
  have h : Rows.uptoBulkAll l ≤ 1048576 := of_decide_eq_true hk
  have key : ∀ {l : List (DataW H)}, d ∈ l → Rows.uptoBulk d ≤ Rows.uptoBulkAll l := by
    intro l
    induction l with
    | nil => intro h; simp at h
    | cons x r ih =>
      intro h
      simp only [Rows.uptoBulkAll]
      rcases List.mem_cons.1 h with rfl | h
      · omega
      · have := ih h
        omega
  exact Nat.le_trans (key hd) h
end Go.Proofs.YtcppmlgnceldmaaGreat.Gp

/- Tests that tell processors apart: the law of runs. No program in sight. -/
set_option linter.unusedVariables false
set_option maxRecDepth 100000
noncomputable section
namespace Go.Proofs.YtcppmlgnceldmaaGreat.Gf
open Go Go.Proofs.YtcppmlgnceldmaaGreat.Gp

abbrev B3 := Int × Int × Int
theorem eq3_same {x y : B3} (h : x = y) : (xor true (eqB (.st (.pair (.int .i64) (.pair (.int .i64) (.int .i64)))) x y)) = false :=
  (congrArg (xor true) ((eqB_iff (k := .st (.pair (.int .i64) (.pair (.int .i64) (.int .i64)))) rfl).2 h)).trans rfl
theorem eq3_not {x y : B3} (h : x ≠ y) : (xor true (eqB (.st (.pair (.int .i64) (.pair (.int .i64) (.int .i64)))) x y)) = true := by
  have : eqB (.st (.pair (.int .i64) (.pair (.int .i64) (.int .i64)))) x y = false := by
    cases hq : eqB (.st (.pair (.int .i64) (.pair (.int .i64) (.int .i64)))) x y with
    | false => rfl
    | true => exact absurd ((eqB_iff (k := .st (.pair (.int .i64) (.pair (.int .i64) (.int .i64)))) rfl).1 hq) h
  exact (congrArg (xor true) this).trans rfl
/-- the first place from j on where two lists differ -/
def fd (la lb : List B3) : Nat → Nat → Int
  | 0, _ => -1
  | n + 1, j => if la.getD j (0, 0, 0) = lb.getD j (0, 0, 0) then fd la lb n (j + 1) else (j : Int)
theorem at_ {l : List B3} {j : Nat} (h : j < l.length) : rd l (j : Int) = some (l.getD j (0, 0, 0)) := by
  refine rd_some' ?_
  rw [List.getD_eq_getElem?_getD, List.getElem?_eq_getElem h]; rfl
theorem fd_succ (la lb : List B3) (n j : Nat) : fd la lb (n + 1) j = if la.getD j (0, 0, 0) = lb.getD j (0, 0, 0) then fd la lb n (j + 1) else (j : Int) := rfl
def up (la lb : List B3) : Nat → Nat → Unit ⊕ (Int × Unit)
  | 0, _ => .inl ()
  | n + 1, j => if la.getD j (0, 0, 0) = lb.getD j (0, 0, 0) then up la lb n (j + 1) else .inr ((j : Int), ())
theorem up_lp {la lb : List B3} (ha : la.length = 40) (hb : lb.length = 40) : ∀ (n j : Nat), j + n = 40 → Lp (fun k => Tells31.l0 k (la, ()) (lb, ())) (j : Int) (up la lb n j) := by
  intro n
  induction n with
  | zero =>
    intro j hj
    refine .done ?_
    simp only [Tells31.l0]
    exact .no (decide_eq_false (by show ¬ (j : Int) < (la.length : Int); omega)) (.now _)
  | succ n ih =>
    intro j hj
    unfold up
    have hlt : (j : Int) < (la.length : Int) := by omega
    by_cases hq : la.getD j (0, 0, 0) = lb.getD j (0, 0, 0)
    · rw [if_pos hq]
      refine .step ?_ (ih (j + 1) (by omega))
      simp only [Tells31.l0]
      refine .yes (decide_eq_true hlt) (.val (at_ (by omega)) (.val (at_ (by omega)) (.no (eq3_same hq) (.now' ?_))))
      rw [w64_succ (by omega)]
    · rw [if_neg hq]
      refine .done ?_
      simp only [Tells31.l0]
      exact .yes (decide_eq_true hlt) (.val (at_ (by omega)) (.val (at_ (by omega)) (.yes (eq3_not hq) (.now _))))
theorem up_fd (la lb : List B3) : ∀ (n j : Nat), (up la lb n j = .inl () ∧ fd la lb n j = -1) ∨ up la lb n j = .inr (fd la lb n j, ())
  | 0, j => .inl ⟨rfl, rfl⟩
  | n + 1, j => by
    rw [fd_succ]
    unfold up
    by_cases hq : la.getD j (0, 0, 0) = lb.getD j (0, 0, 0)
    · rw [if_pos hq, if_pos hq]
      exact up_fd la lb n (j + 1)
    · rw [if_neg hq, if_neg hq]
      exact .inr rfl
theorem tells_ev {a b : Cpu} {t : List Int × List Int} {la lb : List B3} (ha : la.length = 40) (hb : lb.length = 40) (ea : Ev (fun k => Run38 k a t) (la, ())) (eb : Ev (fun k => Run38 k b t) (lb, ())) : Ev (fun k => Tells31 k a b t) (fd la lb 40 0, ()) := by
  unfold Tells31
  refine .bind ea (.bind eb ?_)
  have h := up_lp ha hb 40 0 rfl
  rcases up_fd la lb 40 0 with ⟨h1, h2⟩ | h1
  · rw [h1] at h
    rw [h2]
    exact .joinL (S := Unit) h.ev (.now _)
  · rw [h1] at h
    exact .joinR h.ev
theorem equal_ev {l : List B3} (hl : l.length = 40) : Ev (fun k => Equal15 k l l) (true, ()) := by
  unfold Equal15
  refine .no (by simp) (.joinL (S := Unit) (a := ()) (Lp.ev ?_) (.now _))
  refine Lp.fold (body := fun k => Equal15.l0 k l l) l (fun (_ : Unit) i => i) (fun _ _ => ()) (fun _ => (.inl () : Unit ⊕ (Bool × Unit))) (fun _ _ => True) (fun i x b hx _ => ⟨?_, trivial⟩) (fun b _ => ?_) (b := ()) trivial
  · have hi := get_lt hx
    simp only [Equal15.l0]
    refine .yes (decide_eq_true (by omega)) (.val (rd_some' hx) (.val (rd_some' hx) (.no (eq3_same rfl) (.now' ?_))))
    rw [w64_id (by omega) (by omega)]
  · simp only [Equal15.l0]
    exact .no (by simp) (.now _)
abbrev WfCpu (c : Cpu) : Prop := (c.1.size ≤ 140737488351232) ∧ wfL (α := Ins) 56 (fun x => (Lit.int .i64 x.1).wf = true ∧ x.2.1.size ≤ 140737488351232 ∧ (Lit.int .i64 x.2.2.1).wf = true ∧ wfL (α := Cyc) 48 (fun y => (Lit.int .i64 y.1).wf = true ∧ (Lit.int .i64 y.2.1).wf = true ∧ (Lit.int .i64 y.2.2.1).wf = true ∧ wfL (α := Stp4) 32 (fun z => (Lit.int .i64 z.1).wf = true ∧ (Lit.int .i64 z.2.1).wf = true ∧ (Lit.int .i64 z.2.2.1).wf = true ∧ (Lit.int .i64 z.2.2.2).wf = true) y.2.2.2) x.2.2.2) c.2.1 ∧
    wfL (α := Cyc) 48 (fun y => (Lit.int .i64 y.1).wf = true ∧ (Lit.int .i64 y.2.1).wf = true ∧ (Lit.int .i64 y.2.2.1).wf = true ∧ wfL (α := Stp4) 32 (fun z => (Lit.int .i64 z.1).wf = true ∧ (Lit.int .i64 z.2.1).wf = true ∧ (Lit.int .i64 z.2.2.1).wf = true ∧ (Lit.int .i64 z.2.2.2).wf = true) y.2.2.2) c.2.2.1 ∧
    wfL (α := Cyc) 48 (fun y => (Lit.int .i64 y.1).wf = true ∧ (Lit.int .i64 y.2.1).wf = true ∧ (Lit.int .i64 y.2.2.1).wf = true ∧ wfL (α := Stp4) 32 (fun z => (Lit.int .i64 z.1).wf = true ∧ (Lit.int .i64 z.2.1).wf = true ∧ (Lit.int .i64 z.2.2.1).wf = true ∧ (Lit.int .i64 z.2.2.2).wf = true) y.2.2.2) c.2.2.2.1 ∧
    wfL (α := Cyc) 48 (fun y => (Lit.int .i64 y.1).wf = true ∧ (Lit.int .i64 y.2.1).wf = true ∧ (Lit.int .i64 y.2.2.1).wf = true ∧ wfL (α := Stp4) 32 (fun z => (Lit.int .i64 z.1).wf = true ∧ (Lit.int .i64 z.2.1).wf = true ∧ (Lit.int .i64 z.2.2.1).wf = true ∧ (Lit.int .i64 z.2.2.2).wf = true) y.2.2.2) c.2.2.2.2
theorem wc_row {c : Cpu} (h : WfCpu c) : Wc c ∧ Wn c := by
  obtain ⟨h1, h2, h3, h4, h5⟩ := h
  exact ⟨⟨h2.1, fun x hx => ⟨(h2.2 x hx).2.2.2.1, fun y hy => ((h2.2 x hx).2.2.2.2 y hy).2.2.2.1⟩, ⟨h3.1, fun y hy => (h3.2 y hy).2.2.2.1⟩, ⟨h4.1, fun y hy => (h4.2 y hy).2.2.2.1⟩, ⟨h5.1, fun y hy => (h5.2 y hy).2.2.2.1⟩⟩, h1, fun x hx => (h2.2 x hx).2.1⟩
theorem lit8 {k : Int} (h : (Lit.int .u8 k).wf = true) : 0 ≤ k ∧ k < 256 := by
  simp [Lit.wf, IntKind.min, IntKind.max, IntKind.signed, IntKind.bits] at h
  omega
abbrev WfTest (t : List Int × List Int) : Prop := wfL (α := Int) 1 (fun y => (Lit.int .u8 y).wf = true) t.1 ∧ wfA (α := Int) 9 (fun y => (Lit.int .i64 y).wf = true) t.2
theorem wt_row {t : List Int × List Int} (h : WfTest t) : Wb t.1 ∧ Nin.p t.2 := ⟨⟨by have := h.1.1; omega, fun x hx => lit8 (h.1.2 x hx)⟩, h.2.1⟩
end Go.Proofs.YtcppmlgnceldmaaGreat.Gf

/- Tests that tell processors apart: what stands behind an instruction. No program in sight. -/
set_option linter.unusedVariables false
set_option maxRecDepth 100000
noncomputable section
namespace Go.Proofs.YtcppmlgnceldmaaGreat.Gf
open Go Go.Proofs.YtcppmlgnceldmaaGreat.Gp

def w8 (x : Int) : Int := IntKind.wrap .u8 x
abbrev Nm := ByteArray × Int
def N5 : List Nm := [((ByteArray.mk #[112, 104, 112]), 0), ((ByteArray.mk #[112, 104, 97]), 0), ((ByteArray.mk #[115, 116, 97]), 2), ((ByteArray.mk #[115, 116, 120]), 2), ((ByteArray.mk #[115, 116, 121]), 2)]
def B5 : List ByteArray := [(ByteArray.mk #[112, 104, 112]), (ByteArray.mk #[112, 104, 97]), (ByteArray.mk #[115, 116, 97]), (ByteArray.mk #[115, 116, 120]), (ByteArray.mk #[115, 116, 121])]
def tailX (md : Int) (T : List Int) (b : Int) : List Int := if md = 2 then (T ++ [w8 b]) ++ [w8 (w64 (16 + ((T ++ [w8 b]).length : Int)))] else T ++ [w8 b]
theorem tailX0 {md : Int} (h : md = 0) (T : List Int) (b : Int) : tailX md T b = T ++ [w8 b] := if_neg (by omega)
theorem tailX2 {md : Int} (h : md = 2) (T : List Int) (b : Int) : tailX md T b = (T ++ [w8 b]) ++ [w8 (w64 (16 + ((T ++ [w8 b]).length : Int)))] := if_pos h
def tailS (c : Cpu) (T : List Int) (nm : Nm) : List Int :=
  match c.2.1.find? (isN nm.1 nm.2) with
  | some x => tailX nm.2 T x.1
  | none => T
def tailL (c : Cpu) : List Int := N5.foldl (tailS c) []
theorem tailS_len (c : Cpu) (T : List Int) (nm : Nm) : (tailS c T nm).length ≤ T.length + 2 := by
  unfold tailS
  split
  · unfold tailX; split <;> simp
  · omega
theorem room1 {n m : Nat} (h : n + m ≤ 1000) : (if room (n + m) 1 then some () else none : Option Unit) = some () := if_pos (room_ok (by omega))
theorem named_yes {c : Cpu} {name : ByteArray} {mode : Int} {x : Ins} (h : c.2.1.find? (isN name mode) = some x) : namedR c name mode = (x, true, ()) := by unfold namedR; rw [h]
theorem named_no {c : Cpu} {name : ByteArray} {mode : Int} (h : c.2.1.find? (isN name mode) = none) : namedR c name mode = (none4, false, ()) := by unfold namedR; rw [h]
theorem tail_step {c : Cpu} (hc : Wc c) {i : Nat} (hi : i < 5) {nm : ByteArray} {md b0 : Int} (h0 : B5[i]? = some nm) (hb : rd (bytesOf nm) 0 = some b0) (hm : (b0 == 115) = (md == 2)) (hd : md = 0 ∨ md = 2) (T : List Int) (hT : T.length ≤ 100) :
    Ev (fun k => tail72.l0 k (c, (), (), (i : Int), B5, T)) (.inl (c, (), (), ((i + 1 : Nat) : Int), B5, tailS c T (nm, md))) := by
  have hr : rd B5 (i : Int) = some nm := rd_some' h0
  have wi : w64 ((i : Int) + 1) = ((i + 1 : Nat) : Int) := w64_succ (by omega)
  simp only [tail72.l0]
  refine .yes (decide_eq_true (by show (i : Int) < ((5 : Nat) : Int); omega)) (.val hr (.val hr (.val hb (.bind (a := (c, (), md, (), B5, T)) ?_ (.bind (named_ev hc nm md) (.bind (a := (c, (), (), B5, tailS c T (nm, md))) ?_ (.now' (by rw [wi]))))))))
  · rcases hd with rfl | rfl
    · exact .no hm (.now _)
    · exact .yes hm (.now _)
  · unfold tailS
    cases hf : c.2.1.find? (isN nm md) with
    | none =>
      rw [named_no hf]
      exact .no rfl (.now _)
    | some x =>
      rw [named_yes hf]
      refine .yes rfl (.val (room1 (by simp only [List.length_cons, List.length_nil]; omega)) (.bind (a := (c, (), (), B5, tailX md T x.1)) ?_ (.now _)))
      rcases hd with rfl | rfl
      · rw [tailX0 rfl]
        exact .no rfl (.now _)
      · rw [tailX2 rfl]
        exact .yes rfl (.val (room1 (by simp only [List.length_append, List.length_cons, List.length_nil]; omega)) (.now _))
theorem tail_ev {c : Cpu} (hc : Wc c) : Ev (fun k => tail72 k c) (tailL c, ()) := by
  have l1 := tailS_len c [] (N5[0])
  have l2 := tailS_len c (tailS c [] (N5[0])) (N5[1])
  have l3 := tailS_len c (tailS c (tailS c [] (N5[0])) (N5[1])) (N5[2])
  have l4 := tailS_len c (tailS c (tailS c (tailS c [] (N5[0])) (N5[1])) (N5[2])) (N5[3])
  rw [List.length_nil] at l1
  unfold tail72
  refine .bind (a := ((), tailL c)) (Lp.ev ?_) (.now _)
  refine .step (tail_step hc (i := 0) (md := 0) (b0 := 112) (by decide) rfl rfl rfl (.inl rfl) [] (by decide)) ?_
  refine .step (tail_step hc (i := 1) (md := 0) (b0 := 112) (by decide) rfl rfl rfl (.inl rfl) _ (Nat.le_trans l1 (by decide))) ?_
  refine .step (tail_step hc (i := 2) (md := 2) (b0 := 115) (by decide) rfl rfl rfl (.inr rfl) _ (Nat.le_trans l2 (by omega))) ?_
  refine .step (tail_step hc (i := 3) (md := 2) (b0 := 115) (by decide) rfl rfl rfl (.inr rfl) _ (Nat.le_trans l3 (by omega))) ?_
  refine .step (tail_step hc (i := 4) (md := 2) (b0 := 115) (by decide) rfl rfl rfl (.inr rfl) _ (Nat.le_trans l4 (by omega))) ?_
  refine .done ?_
  simp only [tail72.l0]
  exact .no (decide_eq_false (by show ¬ ((5 : Nat) : Int) < ((5 : Nat) : Int); omega)) (.now _)
-- the reference's
theorem ridx_lp {c : Cpu} (hc : Wc c) (nm : Nm) : ∀ (suf pre : List Ins), c.2.1 = pre ++ suf → ∃ r, Lp (fun k => IndexFunc42'''.l0 k c.2.1) ((nm, ()), (pre.length : Int)) r ∧
    (match suf.find? (isN nm.1 nm.2) with | none => r = .inl () | some x => ∃ j : Nat, r = .inr ((j : Int), ()) ∧ c.2.1[j]? = some x) := by
  have hl := hc.len
  intro suf
  induction suf with
  | nil =>
    intro pre h
    rw [List.append_nil] at h
    refine ⟨.inl (), .done ?_, rfl⟩
    simp only [IndexFunc42'''.l0]
    exact .no (decide_eq_false (by rw [h]; omega)) (.now _)
  | cons x suf ih =>
    intro pre h
    have hx : c.2.1[pre.length]? = some x := by rw [h]; simp
    have hlt := get_lt hx
    cases hp : isN nm.1 nm.2 x with
    | true =>
      refine ⟨.inr ((pre.length : Int), ()), .done ?_, ?_⟩
      · simp only [IndexFunc42'''.l0]
        refine .yes (decide_eq_true (by omega)) (.val (rd_some' hx) (.bind (a := (true, ())) (.const ?_) (.yes rfl (.now _))))
        show some (isN nm.1 nm.2 x, ()) = _
        rw [hp]
      · rw [List.find?_cons_of_pos (by exact hp)]
        exact ⟨pre.length, rfl, hx⟩
    | false =>
      obtain ⟨r, h1, h2⟩ := ih (pre ++ [x]) (by rw [h]; simp)
      refine ⟨r, .step ?_ h1, ?_⟩
      · simp only [IndexFunc42'''.l0]
        refine .yes (decide_eq_true (by omega)) (.val (rd_some' hx) (.bind (a := (false, ())) (.const ?_) (.no rfl (.now' ?_))))
        · show some (isN nm.1 nm.2 x, ()) = _
          rw [hp]
        · rw [w64_succ (by omega)]; simp
      · rw [List.find?_cons_of_neg (by rw [hp]; decide)]
        exact h2
theorem rtail_step {c : Cpu} (hc : Wc c) {i : Nat} (hi : i < 5) {nm : Nm} (h0 : N5[i]? = some nm) (hd : nm.2 = 0 ∨ nm.2 = 2) (T : List Int) (hT : T.length ≤ 100) :
    Ev (fun k => TestsOf14.l0 k (c, (), (), (i : Int), N5, T)) (.inl (c, (), (), ((i + 1 : Nat) : Int), N5, tailS c T nm)) := by
  have hr : rd N5 (i : Int) = some nm := rd_some' h0
  have wi : w64 ((i : Int) + 1) = ((i + 1 : Nat) : Int) := w64_succ (by omega)
  obtain ⟨r, h1, h2⟩ := ridx_lp hc nm c.2.1 [] rfl
  simp only [TestsOf14.l0]
  refine .yes (decide_eq_true (by show (i : Int) < ((5 : Nat) : Int); omega)) (.val hr (.val hr ?_))
  unfold tailS
  cases hf : c.2.1.find? (isN nm.1 nm.2) with
  | none =>
    rw [hf] at h2
    subst h2
    refine .bind (a := (-1, ())) (by unfold IndexFunc42'''; exact .joinL (S := Unit) h1.ev (.now _)) (.bind (a := (c, (), (), N5, T)) (.no rfl (.now _)) (.now' (by rw [wi])))
  | some x =>
    rw [hf] at h2
    obtain ⟨j, rfl, hj⟩ := h2
    refine .bind (a := ((j : Int), ())) (by unfold IndexFunc42'''; exact .joinR h1.ev) (.bind (a := (c, (), (), N5, tailX nm.2 T x.1)) (.yes (decide_eq_true (by show (j : Int) ≥ 0; omega)) (.val (rd_some' hj) (.val (room1 (by simp only [List.length_cons, List.length_nil]; omega)) (.bind (a := (c, (), (), N5, tailX nm.2 T x.1)) ?_ (.now _))))) (.now' (by rw [wi])))
    rcases hd with hd | hd
    · rw [tailX0 hd]
      exact .no (by rw [hd]; rfl) (.now _)
    · rw [tailX2 hd]
      exact .yes (by rw [hd]; rfl) (.val (room1 (by simp only [List.length_append, List.length_cons, List.length_nil]; omega)) (.now _))
theorem rtail_lp {c : Cpu} (hc : Wc c) : Lp (fun k => TestsOf14.l0 k) (c, (), (), 0, N5, []) ((), tailL c) := by
  have l1 := tailS_len c [] (N5[0])
  have l2 := tailS_len c (tailS c [] (N5[0])) (N5[1])
  have l3 := tailS_len c (tailS c (tailS c [] (N5[0])) (N5[1])) (N5[2])
  have l4 := tailS_len c (tailS c (tailS c (tailS c [] (N5[0])) (N5[1])) (N5[2])) (N5[3])
  rw [List.length_nil] at l1
  refine .step (rtail_step hc (i := 0) (by decide) rfl (.inl rfl) [] (by decide)) ?_
  refine .step (rtail_step hc (i := 1) (by decide) rfl (.inl rfl) _ (Nat.le_trans l1 (by decide))) ?_
  refine .step (rtail_step hc (i := 2) (by decide) rfl (.inr rfl) _ (Nat.le_trans l2 (by omega))) ?_
  refine .step (rtail_step hc (i := 3) (by decide) rfl (.inr rfl) _ (Nat.le_trans l3 (by omega))) ?_
  refine .step (rtail_step hc (i := 4) (by decide) rfl (.inr rfl) _ (Nat.le_trans l4 (by omega))) ?_
  refine .done ?_
  simp only [TestsOf14.l0]
  exact .no (decide_eq_false (by show ¬ ((5 : Nat) : Int) < ((5 : Nat) : Int); omega)) (.now _)
theorem tailL_len (c : Cpu) : (tailL c).length ≤ 10 := by
  have key : ∀ (l : List Nm) (T : List Int), (l.foldl (tailS c) T).length ≤ T.length + 2 * l.length := by
    intro l
    induction l with
    | nil => intro T; simp
    | cons x l ih =>
      intro T
      rw [List.foldl_cons]
      have h1 := ih (tailS c T x)
      have h2 := tailS_len c T x
      rw [List.length_cons]
      omega
  exact key N5 []
end Go.Proofs.YtcppmlgnceldmaaGreat.Gf

/- Tests that tell processors apart: the tests for a byte. No program in sight. -/
set_option linter.unusedVariables false
set_option maxRecDepth 100000
noncomputable section
namespace Go.Proofs.YtcppmlgnceldmaaGreat.Gf
open Go Go.Proofs.YtcppmlgnceldmaaGreat.Gp

def V5 : List Int := [0, 1, 6, 128, 255]
def A5 : List Int := [0, 1, 127, 128, 255]
def P5 : List Int := [0, 1, 2, 128, 131]
def bytesN : Nat → Int → List Int
  | 0, _ => []
  | 1, v => [w8 v]
  | _, v => [w8 v, w8 (v / 8)]
abbrev Tst := List Int × List Int
def FT (o : Int) (n : Nat) (T : List Int) (v : Int) (r : List Int) : Tst := ((w8 o :: bytesN n v) ++ T, r)
theorem shr0 (v : Nat) : shrI .i64 (v : Int) (w64 (0 * 3)) = (v : Int) := by
  have := shrI_nat (a := v) (j := 0) (by decide)
  rw [Nat.pow_zero, Nat.div_one] at this
  exact this
theorem shr3 (v : Nat) : shrI .i64 (v : Int) (w64 (1 * 3)) = (v : Int) / 8 := by
  have := shrI_nat (a := v) (j := 3) (by decide)
  exact this
theorem quo8 (v : Nat) (h : v < 256) : quoI .i64 (v : Int) 8 = (v : Int) / 8 := by
  unfold quoI
  rw [Int.tdiv_eq_ediv_of_nonneg (by omega), show (v : Int) / 8 = ((v / 8 : Nat) : Int) by omega]
  exact w64_nat (by omega)
theorem in_lp (c : Cpu) (r : List Int) (o4 : List Tst) (o6 : List Int) (o : Int) (v : Nat) (n : Nat) (hn : n ≤ 2) :
    Lp (fun k => Tests30.l0 k (n : Int) (v : Int)) (c, (), r, (), (), 0, o4, o6, [w8 o]) (c, (), r, (), (), o4, o6, w8 o :: bytesN n v) := by
  have fin : ∀ l : List Int, Ev (fun k => Tests30.l0 k (n : Int) (v : Int) (c, (), r, (), (), (n : Int), o4, o6, l)) (.inr (c, (), r, (), (), o4, o6, l)) := fun l => by
    simp only [Tests30.l0]
    exact .no (decide_eq_false (by omega)) (.now _)
  have s0 : 0 < n → ∀ l : List Int, l.length ≤ 100 → Ev (fun k => Tests30.l0 k (n : Int) (v : Int) (c, (), r, (), (), 0, o4, o6, l)) (.inl (c, (), r, (), (), 1, o4, o6, l ++ [w8 v])) := fun h l hl => by
    simp only [Tests30.l0]
    refine .yes (decide_eq_true (by omega)) (.val (a := (v : Int)) ?_ (.val (room1 (by simp only [List.length_cons, List.length_nil]; omega)) (.now _)))
    exact (if_neg (by decide)).trans (congrArg some (shr0 v))
  have s1 : 1 < n → ∀ l : List Int, l.length ≤ 100 → Ev (fun k => Tests30.l0 k (n : Int) (v : Int) (c, (), r, (), (), 1, o4, o6, l)) (.inl (c, (), r, (), (), 2, o4, o6, l ++ [w8 ((v : Int) / 8)])) := fun h l hl => by
    simp only [Tests30.l0]
    refine .yes (decide_eq_true (by omega)) (.val (a := (v : Int) / 8) ?_ (.val (room1 (by simp only [List.length_cons, List.length_nil]; omega)) (.now _)))
    exact (if_neg (by decide)).trans (congrArg some (shr3 v))
  have : n = 0 ∨ n = 1 ∨ n = 2 := by omega
  rcases this with rfl | rfl | rfl
  · exact .done (fin _)
  · exact .step (s0 (by decide) _ (by show (1 : Nat) ≤ 100; decide)) (.done (fin _))
  · exact .step (s0 (by decide) _ (by show (1 : Nat) ≤ 100; decide)) (.step (s1 (by decide) _ (by show (2 : Nat) ≤ 100; decide)) (.done (fin _)))
theorem rin_lp (o3 : List Int) (o10 : List Tst) (R : List Int) (o : Int) (v : Nat) (hv : v < 256) (n : Nat) (hn : n ≤ 2) :
    Lp (fun k => TestsOf14.l1 k (n : Int)) ((), (), (v : Int), (), 0, o3, o10, [w8 o], (), R) ((), (), (), o3, o10, w8 o :: bytesN n v, (), R) := by
  have fin : ∀ (x : Int) (l : List Int), Ev (fun k => TestsOf14.l1 k (n : Int) ((), (), x, (), (n : Int), o3, o10, l, (), R)) (.inr ((), (), (), o3, o10, l, (), R)) := fun x l => by
    simp only [TestsOf14.l1]
    exact .no (decide_eq_false (by omega)) (.now _)
  have s0 : 0 < n → ∀ l : List Int, l.length ≤ 100 → Ev (fun k => TestsOf14.l1 k (n : Int) ((), (), (v : Int), (), 0, o3, o10, l, (), R)) (.inl ((), (), (v : Int) / 8, (), 1, o3, o10, l ++ [w8 v], (), R)) := fun h l hl => by
    simp only [TestsOf14.l1]
    refine .yes (decide_eq_true (by omega)) (.val (room1 (by simp only [List.length_cons, List.length_nil]; omega)) (.now' ?_))
    rw [quo8 v hv]
    rfl
  have s1 : 1 < n → ∀ l : List Int, l.length ≤ 100 → Ev (fun k => TestsOf14.l1 k (n : Int) ((), (), (v : Int) / 8, (), 1, o3, o10, l, (), R)) (.inl ((), (), quoI .i64 ((v : Int) / 8) 8, (), 2, o3, o10, l ++ [w8 ((v : Int) / 8)], (), R)) := fun h l hl => by
    simp only [TestsOf14.l1]
    exact .yes (decide_eq_true (by omega)) (.val (room1 (by simp only [List.length_cons, List.length_nil]; omega)) (.now _))
  have : n = 0 ∨ n = 1 ∨ n = 2 := by omega
  rcases this with rfl | rfl | rfl
  · exact .done (fin _ _)
  · exact .step (s0 (by decide) _ (by show (1 : Nat) ≤ 100; decide)) (.done (fin _ _))
  · exact .step (s0 (by decide) _ (by show (1 : Nat) ≤ 100; decide)) (.step (s1 (by decide) _ (by show (2 : Nat) ≤ 100; decide)) (.done (fin _ _)))
theorem bytesN_len (n : Nat) (v : Int) : (bytesN n v).length ≤ 2 := by
  match n with
  | 0 => exact Nat.zero_le _
  | 1 => exact (by decide : 1 ≤ 2)
  | _ + 2 => exact Nat.le_refl _
theorem v5_at {i : Nat} {x : Int} (h : V5[i]? = some x) : ∃ v : Nat, x = (v : Int) ∧ v < 256 := by
  have hm := get_mem h
  unfold V5 at hm
  simp only [List.mem_cons, List.not_mem_nil, or_false] at hm
  rcases hm with rfl | rfl | rfl | rfl | rfl
  · exact ⟨0, rfl, by decide⟩
  · exact ⟨1, rfl, by decide⟩
  · exact ⟨6, rfl, by decide⟩
  · exact ⟨128, rfl, by decide⟩
  · exact ⟨255, rfl, by decide⟩
theorem room96 {n : Nat} (h : n ≤ 1000) (x : Tst) : (if room (n + List.length [x]) 96 then some () else none : Option Unit) = some () := if_pos (room_ok (by simp only [List.length_cons, List.length_nil]; omega))
theorem roomT (o : Int) (n : Nat) (v : Int) (c : Cpu) : (if room (List.length (w8 o :: bytesN n v) + List.length (tailL c)) 1 then some () else none : Option Unit) = some () := by
  have h1 := bytesN_len n v
  have h2 := tailL_len c
  exact room1 (by rw [List.length_cons]; omega)
def rowF (o : Int) (n : Nat) (T : List Int) (l : List Tst) (r : List Int) : List Tst := V5.foldl (fun l v => l ++ [FT o n T v r]) l
theorem rowF_eq (o : Int) (n : Nat) (T : List Int) (l : List Tst) (r : List Int) : rowF o n T l r = l ++ V5.map (fun v => FT o n T v r) := foldl_snoc _ _ _
theorem row_lp {c : Cpu} (hc : Wc c) (r : List Int) (o : Int) (n : Nat) (hn : n ≤ 2) (l : List Tst) (hl : l.length ≤ 500) :
    Lp (fun k => Tests30.l1 k (o, ()) (n : Int)) (c, (), r, (), 0, l, V5) (c, (), rowF o n (tailL c) l r) := by
  refine Lp.fold (body := fun k => Tests30.l1 k (o, ()) (n : Int)) V5 (fun (l : List Tst) i => (c, (), r, (), i, l, V5)) (fun l v => l ++ [FT o n (tailL c) v r]) (fun l => (c, (), l)) (fun i b => b.length = l.length + i) (fun i x b hx hb => ⟨?_, ?_⟩) (fun b _ => ?_) (b := l) rfl
  · have hi : i < 5 := get_lt hx
    obtain ⟨v, rfl, hv⟩ := v5_at hx
    simp only [Tests30.l1]
    refine .yes (decide_eq_true (by show (i : Int) < ((5 : Nat) : Int); omega)) (.val (rd_some' hx) (.val (rd_some' hx) (.bind (in_lp c r b V5 o v n hn).ev (.bind (tail_ev hc) (.val (roomT o n v c) (.val (room96 (n := b.length) (by omega) _) (.now' ?_)))))))
    rw [w64_id (by omega) (by omega)]
    rfl
  · rw [List.length_append, hb]; rfl
  · simp only [Tests30.l1]
    exact .no (decide_eq_false (by show ¬ ((5 : Nat) : Int) < ((5 : Nat) : Int); omega)) (.now _)
def startsV : List (List Int) := match Starts71 30 with | some v => v.1 | none => []
theorem starts_isS : isS (Starts71 30) = true := by kernel_rfl
theorem starts_ev : Ev (fun k => Starts71 k) (startsV, ()) := by
  obtain ⟨v, hv⟩ := isS_some starts_isS
  have e : startsV = v.1 := by unfold startsV; rw [hv]
  rw [e]
  exact Mono.ev Starts71.mono hv
theorem starts_len : startsV.length = 25 := by kernel_rfl
def testsL (o : Int) (n : Nat) (T : List Int) : List Tst := startsV.foldl (rowF o n T) []
theorem tests_lp {c : Cpu} (hc : Wc c) (o : Int) (n : Nat) (hn : n ≤ 2) : Lp (fun k => Tests30.l2 k (o, ()) (n : Int) (startsV, ())) (c, (), 0, []) ((), testsL o n (tailL c)) := by
  have h25 := starts_len
  refine Lp.fold (body := fun k => Tests30.l2 k (o, ()) (n : Int) (startsV, ())) startsV (fun (l : List Tst) i => (c, (), i, l)) (rowF o n (tailL c)) (fun l => ((), l)) (fun i b => b.length = 5 * i) (fun i x b hx hb => ⟨?_, ?_⟩) (fun b _ => ?_) (b := []) rfl
  · have hi := get_lt hx
    simp only [Tests30.l2]
    refine .yes (decide_eq_true (by omega)) (.val (rd_some' hx) (.bind (row_lp hc x o n hn b (by omega)).ev (.now' ?_)))
    rw [w64_id (by omega) (by omega)]
  · rw [rowF_eq, List.length_append, List.length_map, hb]
    show 5 * i + 5 = _
    omega
  · simp only [Tests30.l2]
    exact .no (decide_eq_false (by omega)) (.now _)
-- the reference's
def refR (a p : Int) : List Int := [a, Int.tmod (w64 ((w64 (3 * a)) + 1)) 256, Int.tmod (w64 ((w64 (5 * a)) + 2)) 256, 240, p, 0, 0, 0, 0]
def refP (i : Nat) : Int × List Int := (V5.getD (i % 5) 0, refR (A5.getD (i / 25) 0) (P5.getD (i / 5 % 5) 0))
def pairs : List (Int × List Int) := (List.range 125).map refP
theorem pairs_eq : startsV.flatMap (fun r => V5.map (fun v => (v, r))) = pairs := by kernel_rfl
theorem testsL_eq (o : Int) (n : Nat) (T : List Int) : testsL o n T = pairs.map (fun x => FT o n T x.1 x.2) := by
  rw [← pairs_eq]
  unfold testsL
  have key : ∀ (l : List (List Int)) (b : List Tst), l.foldl (rowF o n T) b = b ++ (l.flatMap (fun r => V5.map (fun v => (v, r)))).map (fun x => FT o n T x.1 x.2) := by
    intro l
    induction l with
    | nil => intro b; simp
    | cons r l ih =>
      intro b
      rw [List.foldl_cons, ih, rowF_eq, List.flatMap_cons, List.map_append, List.map_map, List.append_assoc]
      rfl
  rw [key startsV []]
  simp
def refF (o : Int) (n : Nat) (T : List Int) (l : List Tst) (i : Nat) : List Tst := l ++ [FT o n T (refP i).1 (refP i).2]
theorem ref_fold (o : Int) (n : Nat) (T : List Int) : (List.range 125).foldl (refF o n T) [] = testsL o n T := by
  rw [testsL_eq]
  unfold refF pairs
  rw [foldl_snoc, List.nil_append, List.map_map]
  rfl
theorem g5 {l : List Int} (h : l.length = 5) {i : Nat} (hi : i < 5) : rd l (i : Int) = some (l.getD i 0) := by
  refine rd_some' ?_
  rw [List.getD_eq_getElem?_getD, List.getElem?_eq_getElem (by omega)]; rfl
theorem quo_n {i d : Nat} (hi : i < 125) (hd : 0 < d) : quoI .i64 (i : Int) (d : Int) = ((i / d : Nat) : Int) := by
  unfold quoI
  rw [Int.tdiv_eq_ediv_of_nonneg (by omega)]
  have : (i : Int) / (d : Int) = ((i / d : Nat) : Int) := (Int.natCast_ediv i d).symm
  rw [this]
  have h2 := Nat.div_le_self i d
  exact w64_nat (by omega)
theorem tmod5 (i : Nat) : Int.tmod (i : Int) 5 = ((i % 5 : Nat) : Int) := by
  rw [Int.tmod_eq_emod_of_nonneg (by omega)]; omega
theorem rtests_lp (o : Int) (n : Nat) (hn : n ≤ 2) (c : Cpu) : Lp (fun k => TestsOf14.l2 k o (n : Int)) ((), (), 0, tailL c, []) ((), testsL o n (tailL c)) := by
  rw [← ref_fold]
  refine Lp.count (body := fun k => TestsOf14.l2 k o (n : Int)) 125 (fun (l : List Tst) i => ((), (), i, tailL c, l)) (refF o n (tailL c)) (fun l => ((), l)) (fun i b => b.length = i) (fun i b hi hb => ⟨?_, ?_⟩) (fun b _ => ?_) (b := []) rfl
  · have e1 : rd A5 (quoI .i64 (i : Int) 25) = some (A5.getD (i / 25) 0) := by
      have := quo_n (i := i) (d := 25) hi (by decide)
      rw [show ((25 : Nat) : Int) = 25 from rfl] at this
      rw [this]
      exact g5 rfl (by omega)
    have e2 : rd P5 (Int.tmod (quoI .i64 (i : Int) 5) 5) = some (P5.getD (i / 5 % 5) 0) := by
      have := quo_n (i := i) (d := 5) hi (by decide)
      rw [show ((5 : Nat) : Int) = 5 from rfl] at this
      rw [this, tmod5]
      exact g5 rfl (by omega)
    have e3 : rd V5 (Int.tmod (i : Int) 5) = some (V5.getD (i % 5) 0) := by
      rw [tmod5]
      exact g5 rfl (by omega)
    obtain ⟨v, hv, hv2⟩ : ∃ v : Nat, V5.getD (i % 5) 0 = (v : Int) ∧ v < 256 := by
      have h5 : i % 5 < 5 := by omega
      have : V5[i % 5]? = some (V5.getD (i % 5) 0) := by
        rw [List.getD_eq_getElem?_getD, List.getElem?_eq_getElem (show i % 5 < V5.length from h5)]; rfl
      exact v5_at this
    simp only [TestsOf14.l2]
    refine .yes (decide_eq_true (by omega)) (.val e1 (.val e1 (.val e2 (.val e2 (.val e3 (.val e3 ?_))))))
    rw [hv]
    refine .bind (rin_lp (tailL c) b _ o v hv2 n hn).ev (.val (roomT o n v c) (.val (room96 (n := b.length) (by omega) _) (.now' ?_)))
    rw [w64_id (by omega) (by omega)]
    unfold refF refP
    rw [hv]
    rfl
  · unfold refF; rw [List.length_append, hb]; rfl
  · simp only [TestsOf14.l2]
    exact .no rfl (.now _)
theorem with_lp {c : Cpu} (hc : Wc c) (op : Int) (q : Int × ByteArray × Int × Unit) : ∀ (suf pre : List Ins), c.2.1 = pre ++ suf → Lp (fun k => with50.l0 k c op) ((), (pre.length : Int), q) (match suf.find? (fun x => x.1 == op) with | none => .inl ((), q) | some x => .inr ((x, true, ()), ())) := by
  have hl := hc.len
  intro suf
  induction suf with
  | nil =>
    intro pre h
    rw [List.append_nil] at h
    refine .done ?_
    simp only [with50.l0]
    exact .no (decide_eq_false (by rw [h]; omega)) (.now _)
  | cons x suf ih =>
    intro pre h
    have hx : c.2.1[pre.length]? = some x := by rw [h]; simp
    have hlt := get_lt hx
    cases hp : (x.1 == op) with
    | true =>
      rw [List.find?_cons_of_pos (by exact hp)]
      refine .done ?_
      simp only [with50.l0]
      exact .yes (decide_eq_true (by omega)) (.val (rd_some' hx) (.yes hp (.now _)))
    | false =>
      have h1 := ih (pre ++ [x]) (by rw [h]; simp)
      rw [List.find?_cons_of_neg (by rw [hp]; decide)]
      refine .step ?_ h1
      simp only [with50.l0]
      refine .yes (decide_eq_true (by omega)) (.val (rd_some' hx) (.no hp (.now' ?_)))
      rw [w64_succ (by omega)]; simp
theorem with_ev {c : Cpu} (hc : Wc c) (op : Int) : Ev (fun k => with50 k c op) (findR c op, ()) := by
  unfold with50
  have h := with_lp hc op (0, ByteArray.mk #[], 0, ()) c.2.1 [] rfl
  unfold findR findI
  cases hf : c.2.1.find? (fun x => x.1 == op) with
  | none => rw [hf] at h; exact .joinL (S := Unit) h.ev (.now _)
  | some x => rw [hf] at h; exact .joinR h.ev
theorem low_op (op : Int) : Int.tmod (w64 ((Int.tmod op 256) + 256)) 256 = op % 256 := by
  have h1 := Int.tmod_lt_of_pos op (show (0 : Int) < 256 by decide)
  have h2 := Int.lt_tmod_of_pos op (show (0 : Int) < 256 by decide)
  have h3 : op.tmod 256 = op - 256 * op.tdiv 256 := Int.tmod_def op 256
  rw [w64_id (by omega) (by omega), Int.tmod_eq_emod_of_nonneg (by omega), h3]
  omega
def Modes (c : Cpu) : Prop := ∀ x ∈ c.2.1, 0 ≤ x.2.2.1 ∧ x.2.2.1 ≤ 8
theorem tests_same {c : Cpu} (hc : Wc c) (hm : Modes c) (op : Int) : ∃ n : Nat, Ev (fun k => Tests30 k c op) (testsL (op % 256) n (tailL c), ()) ∧ Ev (fun k => TestsOf14 k c op) (testsL (op % 256) n (tailL c), ()) := by
  have hn : ∃ n : Nat, n ≤ 2 ∧ Ev (fun k => (cond (findR c (op % 256)).2.1 ((Size33 k (findR c (op % 256)).1.2.2.1).bind fun t26 => some (c, t26.1)) (some (c, 2)) : Option (Cpu × Int))) (c, (n : Int)) ∧
      Ev (fun (k : Nat) => (cond (findR c (op % 256)).2.1 ((rd ([0, 1, 1, 1, 2, 2, 2, 1, 1] : List Int) (findR c (op % 256)).1.2.2.1).bind fun t38 => some (c, t38)) (some (c, 2)) : Option (Cpu × Int))) (c, (n : Int)) := by
    unfold findR
    cases hf : findI c (op % 256) with
    | none => exact ⟨2, by decide, .no rfl (.now _), .no rfl (.now _)⟩
    | some x =>
      obtain ⟨n, h1, h2, h3⟩ := size_in (hm x (List.mem_of_find?_eq_some hf))
      exact ⟨n, h1, .yes rfl (.bind h2 (.now _)), .yes rfl (.val h3 (.now _))⟩
  obtain ⟨n, h1, h2, h3⟩ := hn
  refine ⟨n, ?_, ?_⟩
  · unfold Tests30
    exact .bind (low8_ev op) (.bind (find_ev hc _) (.bind h2 (.bind starts_ev (.bind (tests_lp hc _ n h1).ev (.now _)))))
  · unfold TestsOf14 operands49
    simp only [low_op]
    exact .val rfl (.bind (with_ev hc _) (.bind h3 (.bind (rtail_lp hc).ev (.bind (rtests_lp _ n h1 c).ev (.now _)))))
end Go.Proofs.YtcppmlgnceldmaaGreat.Gf

/- Tests that tell processors apart: the law of tests. No program in sight. -/
set_option linter.unusedVariables false
set_option maxRecDepth 100000
noncomputable section
namespace Go.Proofs.YtcppmlgnceldmaaGreat.Gf
open Go Go.Proofs.YtcppmlgnceldmaaGreat.Gp

theorem arr9_same {x y : List Int} (h : x = y) : eqB (.arr 9 (.int .i64)) x y = true := (eqB_iff (k := .arr 9 (.int .i64)) rfl).2 h
theorem eqL_ev (l : List Int) (hl : l.length ≤ 1000) : Ev (fun k => Equal41 k l l) (true, ()) := by
  unfold Equal41
  refine .no (by simp) (.joinL (S := Unit) (a := ()) (Lp.ev ?_) (.now _))
  refine Lp.fold (body := fun k => Equal41.l0 k l l) l (fun (_ : Unit) i => i) (fun _ _ => ()) (fun _ => (.inl () : Unit ⊕ (Bool × Unit))) (fun _ _ => True) (fun i x b hx _ => ⟨?_, trivial⟩) (fun b _ => ?_) (b := ()) trivial
  · have hi := get_lt hx
    simp only [Equal41.l0]
    refine .yes (decide_eq_true (by omega)) (.val (rd_some' hx) (.val (rd_some' hx) (.no (by simp) (.now' ?_))))
    rw [w64_id (by omega) (by omega)]
  · simp only [Equal41.l0]
    exact .no (by simp) (.now _)
theorem sameT_ev (a : Tst) (hl : a.1.length ≤ 1000) : Ev (fun k => sameTest10 k a a) (true, ()) := by
  unfold sameTest10
  refine .bind (eqL_ev a.1 hl) (.now' ?_)
  have := arr9_same (rfl : a.2 = a.2)
  exact congrArg (fun z => (bif true then (xor false z) else false, ())) this
def fiveB (i : Nat) : Bool := match pairs[5 * i]? with | some x => x.2 == startsV.getD i [] | none => false
theorem five_all : (List.range 25).all fiveB = true := by kernel_rfl
theorem five {i : Nat} (hi : i < 25) : ∃ v, pairs[5 * i]? = some (v, startsV.getD i []) := by
  have := List.all_eq_true.1 five_all i (List.mem_range.2 hi)
  unfold fiveB at this
  split at this
  · rename_i x hx
    refine ⟨x.1, ?_⟩
    rw [hx, ← eq_of_beq this]
  · cases this
theorem pairs_len : pairs.length = 125 := by unfold pairs; rw [List.length_map, List.length_range]
theorem testsL_len (o : Int) (n : Nat) (T : List Int) : (testsL o n T).length = 125 := by rw [testsL_eq, List.length_map, pairs_len]
theorem testsL_mem {o : Int} {n : Nat} {c : Cpu} {x : Tst} (h : x ∈ testsL o n (tailL c)) : x.1.length ≤ 1000 := by
  rw [testsL_eq] at h
  obtain ⟨y, _, rfl⟩ := List.mem_map.1 h
  have h1 := bytesN_len n y.1
  have h2 := tailL_len c
  unfold FT
  rw [List.length_append, List.length_cons]
  omega
end Go.Proofs.YtcppmlgnceldmaaGreat.Gf

/- Tests that tell two processors apart: pieces. No program in sight. -/
set_option linter.unusedVariables false
noncomputable section
namespace Go.Proofs.YtcppmlgnceldmaaGreat.Gf
open Go Go.Proofs.YtcppmlgnceldmaaGreat.Gp

theorem room_t {n : Nat} (h : n ≤ 1000) : room n 96 = true := room_ok (by omega)
theorem concat_ev (a b : List Tst) (h : a.length + b.length ≤ 1000) : Ev (fun k => Concat13 k [a, b]) (a ++ b, ()) := by
  unfold Concat13
  refine .bind (a := (((a.length + b.length : Nat) : Int))) (Lp.ev ?_) (.bind (a := ((), [])) ?_ (.bind (a := ((), a ++ b)) (Lp.ev ?_) (.now _)))
  · refine Lp.step (s' := ((a.length : Int), 1)) ?_ (Lp.step (s' := (((a.length + b.length : Nat) : Int), 2)) ?_ (Lp.done ?_))
    · simp only [Concat13.l0]
      refine .yes (by simp) (.val (a := a) rfl ?_)
      simp only [w64_id (x := 0 + (a.length : Int)) (by omega) (by omega)]
      refine .val (a := ()) ?_ (.now' ?_)
      · rw [decide_eq_false (by omega)]; rfl
      · simp [w64_id]
    · simp only [Concat13.l0]
      refine .yes (by simp) (.val (a := b) rfl ?_)
      simp only [w64_id (x := (a.length : Int) + (b.length : Int)) (by omega) (by omega)]
      refine .val (a := ()) ?_ (.now' ?_)
      · rw [decide_eq_false (by omega)]; rfl
      · simp [w64_id]
    · simp only [Concat13.l0]
      exact .no (by simp) (.now _)
  · generalize hn : a.length + b.length = n
    have hn' : n ≤ 1000 := hn ▸ h
    unfold Grow48
    have e : w64 ((n : Int) - w64 (0 - 0)) = n := by
      rw [show w64 (0 - 0) = 0 from w64_id (by omega) (by omega), w64_id (by omega) (by omega)]; omega
    refine .val (a := ()) ?_ ?_
    · rw [decide_eq_false (by omega)]; rfl
    · simp only [e]
      refine .bind (a := ((), [])) ?_ (.now _)
      refine .iff (fun h1 => ?_) (fun _ => .now _)
      refine .val (a := ()) (by simp) (.val (a := ()) (by rw [if_pos ⟨h1, by omega⟩]) (.val (a := []) ?_ (.now _)))
      rw [show ((0 : Int)) = ((0 : Nat) : Int) from rfl, slc_ok (Nat.le_refl _) (Nat.zero_le _)]
      rfl
  · refine Lp.step (s' := ((), 1, a)) ?_ (Lp.step (s' := ((), 2, a ++ b)) ?_ (Lp.done ?_))
    · simp only [Concat13.l1]
      refine .yes (by simp) (.val (a := a) rfl (.val (a := ()) ?_ (.now' ?_)))
      · simp [room_t (n := a.length) (by omega)]
      · simp [w64_id]
    · simp only [Concat13.l1]
      refine .yes (by simp) (.val (a := b) rfl (.val (a := ()) ?_ (.now' ?_)))
      · simp [room_t (n := a.length + b.length) (by omega)]
      · simp [w64_id]
    · simp only [Concat13.l1]
      exact .no (by simp) (.now _)
-- what the tests are made of
theorem w8_in (x : Int) : 0 ≤ w8 x ∧ w8 x < 256 := wrap8 x
theorem tailL_in (c : Cpu) : ∀ x ∈ tailL c, 0 ≤ x ∧ x < 256 := by
  have step : ∀ (T : List Int) (nm : Nm), (∀ x ∈ T, 0 ≤ x ∧ x < 256) → ∀ x ∈ tailS c T nm, 0 ≤ x ∧ x < 256 := by
    intro T nm h x hx
    unfold tailS at hx
    split at hx
    · unfold tailX at hx
      split at hx
      · rcases List.mem_append.1 hx with hx | hx
        · rcases List.mem_append.1 hx with hx | hx
          · exact h x hx
          · rw [List.mem_singleton.1 hx]; exact w8_in _
        · rw [List.mem_singleton.1 hx]; exact w8_in _
      · rcases List.mem_append.1 hx with hx | hx
        · exact h x hx
        · rw [List.mem_singleton.1 hx]; exact w8_in _
    · exact h x hx
  have : ∀ (l : List Nm) (T : List Int), (∀ x ∈ T, 0 ≤ x ∧ x < 256) → ∀ x ∈ l.foldl (tailS c) T, 0 ≤ x ∧ x < 256 := by
    intro l
    induction l with
    | nil => intro T h; exact h
    | cons nm l ih => intro T h; rw [List.foldl_cons]; exact ih _ (step T nm h)
  exact this N5 [] (fun x hx => by cases hx)
theorem bytesN_in (n : Nat) (v : Int) : ∀ x ∈ bytesN n v, 0 ≤ x ∧ x < 256 := by
  intro x hx
  unfold bytesN at hx
  split at hx
  · cases hx
  · rw [List.mem_singleton.1 hx]; exact w8_in _
  · rcases List.mem_cons.1 hx with rfl | hx
    · exact w8_in _
    · rw [List.mem_singleton.1 hx]; exact w8_in _
theorem tests_good {o : Int} {n : Nat} {c : Cpu} {x : Tst} (h : x ∈ testsL o n (tailL c)) : Wb x.1 ∧ Nin.p x.2 := by
  have hl := testsL_mem h
  rw [testsL_eq] at h
  obtain ⟨p, hp, rfl⟩ := List.mem_map.1 h
  refine ⟨⟨by omega, fun y hy => ?_⟩, ?_⟩
  · have hy : y ∈ (w8 o :: bytesN n p.1) ++ tailL c := hy
    rcases List.mem_append.1 hy with hy | hy
    · rcases List.mem_cons.1 hy with rfl | hy
      · exact w8_in _
      · exact bytesN_in _ _ y hy
    · exact tailL_in c y hy
  · unfold pairs at hp
    obtain ⟨i, _, rfl⟩ := List.mem_map.1 hp
    exact rfl
-- equal ways
theorem steps_t (s1 s2 : List Stp4) (h : s1.length * 32 ≤ 140737488351232) : Tot (fun k => Equal69 k s1 s2) (fun _ => True) := by
  unfold Equal69
  refine .cnd (fun _ => .ret trivial) fun he => .joinT ?_ (fun _ => .ret trivial)
  have he : s1.length = s2.length := by
    have : ((s1.length : Int) != (s2.length : Int)) = false := he
    have : (s1.length : Int) = (s2.length : Int) := by simpa using this
    omega
  refine Tot.walk (body := fun k => Equal69.l0 k s1 s2) s1 (fun (_ : Unit) i => i) (fun _ => True) _ (fun i x b hx _ => ?_) (fun b _ => ?_) (b := ()) trivial
  · have hi := get_lt hx
    simp only [Equal69.l0]
    refine .cnd (fun _ => .val (rd_some' hx) (.val (rd_some' (List.getElem?_eq_getElem (show i < s2.length by omega))) (.cnd (fun _ => .ret trivial) (fun _ => .ret ⟨(), ?_, trivial⟩)))) (fun h => absurd (of_decide_eq_false h) (by omega))
    rw [w64_id (by omega) (by omega)]
  · simp only [Equal69.l0]
    exact .cnd (fun h => absurd (of_decide_eq_true h) (by omega)) (fun _ => .ret trivial)
theorem alike_t (x y : Cyc) (h : x.2.2.2.length * 32 ≤ 140737488351232) : Tot (fun k => alike168 k x y) (fun _ => True) := by
  unfold alike168
  exact .bind (P := fun _ => True) (.cnd (fun _ => .bind (P := fun _ => True) (steps_t _ _ h) fun _ _ => .ret trivial) (fun _ => .ret trivial)) fun _ _ => .ret trivial
theorem cycles_eq_t (l1 l2 : List Cyc) (h : Wcyc l1) : Tot (fun k => EqualFunc67 k l1 l2 ()) (fun _ => True) := by
  have hl := h.1
  unfold EqualFunc67
  refine .cnd (fun _ => .ret trivial) fun he => .joinT ?_ (fun _ => .ret trivial)
  have he : l1.length = l2.length := by
    have : ((l1.length : Int) != (l2.length : Int)) = false := he
    have : (l1.length : Int) = (l2.length : Int) := by simpa using this
    omega
  refine Tot.walk (body := fun k => EqualFunc67.l0 k l1 l2) l1 (fun (_ : Unit) i => ((), i)) (fun _ => True) _ (fun i x b hx _ => ?_) (fun b _ => ?_) (b := ()) trivial
  · have hi := get_lt hx
    simp only [EqualFunc67.l0]
    refine .cnd (fun _ => .val (rd_some' hx) (.val (rd_some' (List.getElem?_eq_getElem (show i < l2.length by omega))) (.bindT (alike_t x _ (h.2 x (get_mem hx))) fun v => .cnd (fun _ => .ret trivial) (fun _ => .ret ⟨(), ?_, trivial⟩)))) (fun h => absurd (of_decide_eq_false h) (by omega))
    rw [w64_id (by omega) (by omega)]
  · simp only [EqualFunc67.l0]
    exact .cnd (fun h => absurd (of_decide_eq_true h) (by omega)) (fun _ => .ret trivial)
theorem same_fun : @EqualFunc67' = @EqualFunc67 := rfl
/-- both ways to ask whether two instructions do the same say the same -/
theorem both_same (x y : Ins) (h : Wcyc x.2.2.2) : ∃ b, Ev (fun k => alike29 k x y) (b, ()) ∧ Ev (fun k => sameCycles45 k x.2.2.2 y.2.2.2) (b, ()) := by
  obtain ⟨v, e, _⟩ := cycles_eq_t x.2.2.2 y.2.2.2 h
  refine ⟨v.1, ?_, ?_⟩
  · unfold alike29; exact .bind e (.now _)
  · unfold sameCycles45; rw [same_fun]; exact .bind e (.now _)
theorem none_same : Ev (fun k => sameCycles45 k [] []) (true, ()) := by
  unfold sameCycles45
  refine .bind (a := (true, ())) ?_ (.now _)
  unfold EqualFunc67'
  refine .no rfl (.joinL (S := Unit) (a := ()) (Lp.ev (.done ?_)) (.now _))
  simp only [EqualFunc67'.l0]
  exact .no rfl (.now _)
def only (x : Ins) : Ins := (x.1, ByteArray.mk #[97], 0, x.2.2.2)
def lone (x : Ins) : Cpu := (ByteArray.mk #[], [only x], [], [], [])
theorem same_lone (x y : Ins) (b : Bool) (hop : x.1 = y.1) (e : Ev (fun k => sameCycles45 k x.2.2.2 y.2.2.2) (b, ())) : Ev (fun k => Same12 k (lone x) (lone y)) (b, ()) := by
  have hs : Ev (fun k => Same147 k (only x) (only y)) (b, ()) := by
    unfold Same147
    refine .bind (a := b) (.yes ?_ (.bind e (.now _))) (.now _)
    show cond (cond (x.1 == y.1) (streq (ByteArray.mk #[97]) (ByteArray.mk #[97])) false) ((0 : Int) == 0) false = true
    rw [hop]; simp [streq_refl]
  have hf : Ev (fun k => EqualFunc46 k [only x] [only y] ()) (b, ()) := by
    unfold EqualFunc46
    refine .no rfl ?_
    cases b with
    | false =>
      refine .joinR (Lp.ev (.done ?_))
      simp only [EqualFunc46.l0]
      exact .yes rfl (.val rfl (.val rfl (.bind hs (.yes rfl (.now _)))))
    | true =>
      refine .joinL (S := Unit) (a := ()) (Lp.ev (.step (s' := ((), 1)) ?_ (.done ?_))) (.now _)
      · simp only [EqualFunc46.l0]
        exact .yes rfl (.val rfl (.val rfl (.bind hs (.no rfl (.now' (by rw [w64_id (by omega) (by omega)]; rfl))))))
      · simp only [EqualFunc46.l0]
        exact .no rfl (.now _)
  unfold Same12
  refine .bind (a := true) (.yes (streq_refl _) (.bind none_same (.now _))) (.bind (a := true) (.yes rfl (.bind none_same (.now _))) (.bind (a := true) (.yes rfl (.bind none_same (.now _))) (.bind (a := b) (.yes rfl (.bind hf (.now _))) (.now _))))
-- two rows of what was seen
theorem up_fd2 (la lb : List B3) : ∀ (n j : Nat), (up la lb n j = .inl () ∧ fd la lb n j = -1) ∨ (up la lb n j = .inr (fd la lb n j, ()) ∧ (j : Int) ≤ fd la lb n j)
  | 0, j => .inl ⟨rfl, rfl⟩
  | n + 1, j => by
    rw [fd_succ]
    unfold up
    by_cases hq : la.getD j (0, 0, 0) = lb.getD j (0, 0, 0)
    · rw [if_pos hq, if_pos hq]
      rcases up_fd2 la lb n (j + 1) with h | ⟨h1, h2⟩
      · exact .inl h
      · exact .inr ⟨h1, by omega⟩
    · rw [if_neg hq, if_neg hq]
      exact .inr ⟨rfl, Int.le_refl _⟩
def upB (y : Unit ⊕ (Int × Unit)) : Unit ⊕ (Bool × Unit) := match y with | .inl _ => .inl () | .inr _ => .inr (false, ())
theorem eq_lp {la lb : List B3} (ha : la.length = 40) (hb : lb.length = 40) : ∀ (n j : Nat), j + n = 40 → Lp (fun k => Equal15.l0 k la lb) (j : Int) (upB (up la lb n j)) := by
  intro n
  induction n with
  | zero =>
    intro j hj
    refine .done ?_
    simp only [Equal15.l0]
    exact .no (decide_eq_false (by omega)) (.now _)
  | succ n ih =>
    intro j hj
    unfold up
    have hlt : (j : Int) < (la.length : Int) := by omega
    by_cases hq : la.getD j (0, 0, 0) = lb.getD j (0, 0, 0)
    · rw [if_pos hq]
      refine .step ?_ (ih (j + 1) (by omega))
      simp only [Equal15.l0]
      refine .yes (decide_eq_true hlt) (.val (at_ (by omega)) (.val (at_ (by omega)) (.no (eq3_same hq) (.now' ?_))))
      rw [w64_succ (by omega)]
    · rw [if_neg hq]
      refine .done ?_
      simp only [Equal15.l0]
      exact .yes (decide_eq_true hlt) (.val (at_ (by omega)) (.val (at_ (by omega)) (.yes (eq3_not hq) (.now _))))
/-- a test: either both see the same, or not -/
theorem test_ev {a b : Cpu} (ha : Wc a) (hb : Wc b) {z : Tst} (hz : Wb z.1 ∧ Nin.p z.2) : ∃ (f : Int) (q : Bool) (la lb : List B3), Ev (fun k => Tells31 k a b z) (f, ()) ∧ Ev (fun k => Tested16 k a z) (la, ()) ∧ Ev (fun k => Tested16 k b z) (lb, ()) ∧ Ev (fun k => Equal15 k la lb) (q, ()) ∧ decide (f ≥ 0) = !q := by
  obtain ⟨la, l40, ra, ta, _⟩ := run_same ha hz.1 hz.2
  obtain ⟨lb, m40, rb, tb, _⟩ := run_same hb hz.1 hz.2
  have h1 := tells_ev l40 m40 ra rb
  have h2 := eq_lp l40 m40 40 0 rfl
  have hl : ((la.length : Int) != (lb.length : Int)) = false := by rw [l40, m40]; rfl
  rcases up_fd2 la lb 40 0 with ⟨g1, g2⟩ | ⟨g1, g2⟩
  · rw [g1] at h2
    refine ⟨_, true, la, lb, h1, ta, tb, ?_, by rw [g2]; rfl⟩
    unfold Equal15
    exact .no hl (.joinL (S := Unit) h2.ev (.now _))
  · rw [g1] at h2
    refine ⟨_, false, la, lb, h1, ta, tb, ?_, by rw [decide_eq_true (show fd la lb 40 0 ≥ 0 by omega)]; rfl⟩
    unfold Equal15
    exact .no hl (.joinR h2.ev)
end Go.Proofs.YtcppmlgnceldmaaGreat.Gf

/- Tests that tell two processors apart: the law. No program in sight. -/
set_option linter.unusedVariables false
set_option maxRecDepth 100000
noncomputable section
namespace Go.Proofs.YtcppmlgnceldmaaGreat.Gf
open Go Go.Proofs.YtcppmlgnceldmaaGreat.Gp

abbrev FindV := (Tst × Bool × Int × Unit) × Unit
def zeros : Tst := ([], List.replicate 9 0)
def found (z : Tst) : FindV := ((z, true, 0, ()), ())
/-- all tests of a list -/
theorem inner {a b : Cpu} (ha : Wc a) (hb : Wc b) (L : List Tst) (hL : ∀ z ∈ L, (Wb z.1 ∧ Nin.p z.2) ∧ z.1.length ≤ 1000) (hlen : L.length ≤ 1000) (o0 : Unit × List Int) : ∀ (suf pre : List Tst), L = pre ++ suf →
    (Lp (fun k => Find7.l0 k (L, ())) (a, b, (), (pre.length : Int), o0) (.inl (a, b, (), o0)) ∧ ∀ (t21 : FindV) (t : Tst), Lp (fun k => GenFinds3.l0 k t21 (L, ())) (a, b, t, (pre.length : Int)) (.inl (a, b, t))) ∨
    ∃ z : Tst, z.1.length ≤ 1000 ∧ Lp (fun k => Find7.l0 k (L, ())) (a, b, (), (pre.length : Int), o0) (.inr (.inr (.inr (.inr (found z))))) ∧ ∀ (t21 : FindV), t21.1.2.1 = true → Lp (fun k => GenFinds3.l0 k t21 (L, ())) (a, b, z, (pre.length : Int)) (.inr (.inr (.inr (.inr (true, ()))))) := by
  intro suf
  induction suf with
  | nil =>
    intro pre h
    rw [List.append_nil] at h
    subst h
    refine .inl ⟨.done ?_, fun t21 t => .done ?_⟩
    · simp only [Find7.l0]
      exact .no (by simp) (.now _)
    · simp only [GenFinds3.l0]
      exact .no (by simp) (.now _)
  | cons z suf ih =>
    intro pre h
    have hz : L[pre.length]? = some z := by rw [h]; simp
    have hi := get_lt hz
    obtain ⟨f, q, la, lb, e1, e2, e3, e4, hq⟩ := test_ev ha hb (hL z (get_mem hz)).1
    cases q with
    | false =>
      refine .inr ⟨z, (hL z (get_mem hz)).2, .done ?_, fun t21 ht => .done ?_⟩
      · simp only [Find7.l0]
        exact .yes (decide_eq_true (by omega)) (.val (rd_some' hz) (.bind e1 (.yes hq (.now _))))
      · simp only [GenFinds3.l0]
        exact .yes (decide_eq_true (by omega)) (.val (rd_some' hz) (.bind e2 (.bind e3 (.bind e4 (.yes rfl (.bind (a := true) (.yes ht (.bind (sameT_ev z (hL z (get_mem hz)).2) (.now _))) (.now _)))))))
    | true =>
      have s1 : Ev (fun k => Find7.l0 k (L, ()) (a, b, (), (pre.length : Int), o0)) (.inl (a, b, (), ((pre.length + 1 : Nat) : Int), o0)) := by
        simp only [Find7.l0]
        refine .yes (decide_eq_true (by omega)) (.val (rd_some' hz) (.bind e1 (.no hq (.now' ?_))))
        rw [w64_succ (by omega)]
      have s2 : ∀ (t21 : FindV) (t : Tst), Ev (fun k => GenFinds3.l0 k t21 (L, ()) (a, b, t, (pre.length : Int))) (.inl (a, b, t, ((pre.length + 1 : Nat) : Int))) := by
        intro t21 t
        simp only [GenFinds3.l0]
        refine .yes (decide_eq_true (by omega)) (.val (rd_some' hz) (.bind e2 (.bind e3 (.bind e4 (.no rfl (.now' ?_))))))
        rw [w64_succ (by omega)]
      have := ih (pre ++ [z]) (by rw [h]; simp)
      rw [List.length_append, List.length_singleton] at this
      rcases this with ⟨h1, h2⟩ | ⟨y, h0, h1, h2⟩
      · exact .inl ⟨.step s1 h1, fun t21 t => .step (s2 t21 t) (h2 t21 t)⟩
      · exact .inr ⟨y, h0, .step s1 h1, fun t21 ht => .step (s2 t21 y) (h2 t21 ht)⟩
/-- is an operation the same in both? said twice -/
theorem skip_ev {a b : Cpu} (ha : Wc a) (hb : Wc b) (op : Int) : ∃ s : Bool,
    Ev (fun k => cond (cond (!(findR a op).2.1) (!(findR b op).2.1) false) (some true) (Option.bind (cond (cond (findR a op).2.1 (findR b op).2.1 false) ((alike29 k (findR a op).1 (findR b op).1).bind fun t57 => some t57.1) (some false)) fun t58 => some t58)) s ∧
    Ev (fun k => cond (xor false ((findR a op).2.1 == (findR b op).2.1)) ((Same12 k (lone (findR a op).1) (lone (findR b op).1)).bind fun t78 => some t78.1) (some false)) s := by
  unfold findR
  cases hx : findI a op with
  | none =>
    cases hy : findI b op with
    | none => exact ⟨true, .yes rfl (.now _), .yes rfl (.bind (same_lone none4 none4 true rfl none_same) (.now _))⟩
    | some y => exact ⟨false, .no rfl (.bind (.no rfl (.now _)) (.now _)), .no rfl (.now _)⟩
  | some x =>
    cases hy : findI b op with
    | none => exact ⟨false, .no rfl (.bind (.no rfl (.now _)) (.now _)), .no rfl (.now _)⟩
    | some y =>
      have ex : x.1 = op := by have := List.find?_some hx; simpa using this
      have ey : y.1 = op := by have := List.find?_some hy; simpa using this
      obtain ⟨s, e1, e2⟩ := both_same x y (ha.ins x (List.mem_of_find?_eq_some hx))
      exact ⟨s, .no rfl (.bind (.yes rfl (.bind e1 (.now _))) (.now _)), .yes rfl (.bind (same_lone x y s (ex.trans ey.symm) e2) (.now _))⟩
theorem op_step {a b : Cpu} (ha : Wc a) (hb : Wc b) (ma : Modes a) (mb : Modes b) (o0 : Unit × List Int) (op : Nat) (hop : op < 256) :
    (Ev (fun k => Find7.l1 k (a, b, (), (op : Int), o0)) (.inl (a, b, (), ((op + 1 : Nat) : Int), o0)) ∧ ∀ (t21 : FindV) (t : Tst), Ev (fun k => GenFinds3.l1 k t21 (a, b, t, (op : Int))) (.inl (a, b, t, ((op + 1 : Nat) : Int)))) ∨
    ∃ z : Tst, z.1.length ≤ 1000 ∧ Ev (fun k => Find7.l1 k (a, b, (), (op : Int), o0)) (.inr (.inr (found z))) ∧ ∀ (t21 : FindV), t21.1.2.1 = true → Ev (fun k => GenFinds3.l1 k t21 (a, b, z, (op : Int))) (.inr (.inr (true, ()))) := by
  obtain ⟨s, p1, p2⟩ := skip_ev ha hb (op : Int)
  have hw : w64 ((op : Int) + 1) = ((op + 1 : Nat) : Int) := w64_succ (by omega)
  cases s with
  | true =>
    refine .inl ⟨?_, fun t21 t => ?_⟩
    · simp only [Find7.l1]
      refine .yes (decide_eq_true (by omega)) (.joinL (S := Unit) (a := (a, b, (), o0)) (.bind (find_ev ha _) (.bind (find_ev hb _) (.bind p1 (.yes rfl (.now _))))) (.now' ?_))
      rw [hw]
    · simp only [GenFinds3.l1, agree_self]
      refine .yes (decide_eq_true (by omega)) (.joinL (S := Unit) (a := (a, b, t)) (.bind (find_ev ha _) (.bind (find_ev hb _) (.val (a := (a, b, t, lone (findR a (op : Int)).1, lone (findR b (op : Int)).1)) rfl (.bind p2 (.yes rfl (.now _)))))) (.now' ?_))
      rw [hw]
  | false =>
    obtain ⟨n1, a1, a2⟩ := tests_same ha ma (op : Int)
    obtain ⟨n2, b1, b2⟩ := tests_same hb mb (op : Int)
    have hc := concat_ev (testsL ((op : Int) % 256) n1 (tailL a)) (testsL ((op : Int) % 256) n2 (tailL b)) (by rw [testsL_len, testsL_len]; decide)
    have hL : ∀ z ∈ testsL ((op : Int) % 256) n1 (tailL a) ++ testsL ((op : Int) % 256) n2 (tailL b), (Wb z.1 ∧ Nin.p z.2) ∧ z.1.length ≤ 1000 := by
      intro z hz
      rcases List.mem_append.1 hz with hz | hz
      · exact ⟨tests_good hz, testsL_mem hz⟩
      · exact ⟨tests_good hz, testsL_mem hz⟩
    have hlen : (testsL ((op : Int) % 256) n1 (tailL a) ++ testsL ((op : Int) % 256) n2 (tailL b)).length ≤ 1000 := by rw [List.length_append, testsL_len, testsL_len]; decide
    generalize testsL ((op : Int) % 256) n1 (tailL a) ++ testsL ((op : Int) % 256) n2 (tailL b) = L at hc hL hlen
    rcases inner ha hb L hL hlen o0 L [] (List.nil_append L).symm with ⟨h1, h2⟩ | ⟨z, h0, h1, h2⟩
    · refine .inl ⟨?_, fun t21 t => ?_⟩
      · simp only [Find7.l1]
        refine .yes (decide_eq_true (by omega)) (.joinL (S := Unit) (a := (a, b, (), o0)) (.bind (find_ev ha _) (.bind (find_ev hb _) (.bind p1 (.no rfl (.bind a1 (.bind b1 (.bind hc (.joinL (S := Unit) h1.ev (.now _))))))))) (.now' ?_))
        rw [hw]
      · simp only [GenFinds3.l1, agree_self]
        refine .yes (decide_eq_true (by omega)) (.joinL (S := Unit) (a := (a, b, t)) (.bind (find_ev ha _) (.bind (find_ev hb _) (.val (a := (a, b, t, lone (findR a (op : Int)).1, lone (findR b (op : Int)).1)) rfl (.bind p2 (.no rfl (.bind a2 (.bind b2 (.bind hc (.joinL (S := Unit) (h2 t21 t).ev (.now _)))))))))) (.now' ?_))
        rw [hw]
    · refine .inr ⟨z, h0, ?_, fun t21 ht => ?_⟩
      · simp only [Find7.l1]
        exact .yes (decide_eq_true (by omega)) (.joinR (.bind (find_ev ha _) (.bind (find_ev hb _) (.bind p1 (.no rfl (.bind a1 (.bind b1 (.bind hc (.joinR h1.ev)))))))))
      · simp only [GenFinds3.l1, agree_self]
        exact .yes (decide_eq_true (by omega)) (.joinR (.bind (find_ev ha _) (.bind (find_ev hb _) (.val (a := (a, b, z, lone (findR a (op : Int)).1, lone (findR b (op : Int)).1)) rfl (.bind p2 (.no rfl (.bind a2 (.bind b2 (.bind hc (.joinR (h2 t21 ht).ev))))))))))
theorem all_ops {a b : Cpu} (ha : Wc a) (hb : Wc b) (ma : Modes a) (mb : Modes b) (o0 : Unit × List Int) : ∀ (n op : Nat), op + n = 256 →
    (Lp (fun k => Find7.l1 k) (a, b, (), (op : Int), o0) (.inl ((), o0)) ∧ ∀ (t21 : FindV) (t : Tst), Lp (fun k => GenFinds3.l1 k t21) (a, b, t, (op : Int)) (.inl t)) ∨
    ∃ z : Tst, z.1.length ≤ 1000 ∧ Lp (fun k => Find7.l1 k) (a, b, (), (op : Int), o0) (.inr (found z)) ∧ ∀ (t21 : FindV), t21.1.2.1 = true → Lp (fun k => GenFinds3.l1 k t21) (a, b, z, (op : Int)) (.inr (true, ())) := by
  intro n
  induction n with
  | zero =>
    intro op h
    refine .inl ⟨.done ?_, fun t21 t => .done ?_⟩
    · simp only [Find7.l1]
      exact .no (decide_eq_false (by omega)) (.now _)
    · simp only [GenFinds3.l1]
      exact .no (decide_eq_false (by omega)) (.now _)
  | succ n ih =>
    intro op h
    rcases op_step ha hb ma mb o0 op (by omega) with ⟨h1, h2⟩ | ⟨z, h0, h1, h2⟩
    · rcases ih (op + 1) (by omega) with ⟨g1, g2⟩ | ⟨z, g0, g1, g2⟩
      · exact .inl ⟨.step h1 g1, fun t21 t => .step (h2 t21 t) (g2 t21 t)⟩
      · exact .inr ⟨z, g0, .step h1 g1, fun t21 ht => .step (h2 t21 z) (g2 t21 ht)⟩
    · exact .inr ⟨z, h0, .done h1, fun t21 ht => .done (h2 t21 ht)⟩
theorem law (a b : Cpu) (ha : Wc a) (hna : Wn a) (hb : Wc b) (hnb : Wn b) : ∃ k, GenFinds3 k a b = some (true, ()) := by
  refine Ev.ex ?_
  unfold GenFinds3
  obtain ⟨va, ea, ma⟩ := check_t ha hna
  obtain ⟨vb, eb, mb⟩ := check_t hb hnb
  have hz := sameT_ev zeros (by decide)
  by_cases h1 : va.1 = 0
  · by_cases h2 : vb.1 = 0
    · have hf : ∀ r : FindV, Ev (fun k => Find7 k a b) r → ∀ {g : Nat → FindV → Option (Bool × Unit)}, Ev (fun k => g k r) (true, ()) → Ev (fun k => (Find7 k a b).bind (g k)) (true, ()) := fun r h _ h' => .bind h h'
      have start : ∀ (t : Tst), Ev (fun k => (cond (va.1 == 0) ((Check8 k b).bind fun t30 => some (a, b, t, t30.1)) (some (a, b, t, va.1)) : Option (Cpu × (Cpu × (Tst × Int))))) (a, b, t, 0) := fun t => .yes (by rw [h1]; rfl) (.bind eb (.now' (by rw [h2])))
      rcases all_ops ha hb (ma h1) (mb h2) ((), List.replicate 9 0) 256 0 rfl with ⟨g1, g2⟩ | ⟨z, g0, g1, g2⟩
      · have hr : Ev (fun k => Find7 k a b) ((zeros, false, 0, ()), ()) := by
          unfold Find7
          exact .bind ea (.no (by rw [h1]; rfl) (.bind eb (.no (by rw [h2]; rfl) (.joinL (S := Unit) g1.ev (.now _)))))
        exact .bind hr (.bind ea (.bind (start zeros) (.bind gen_ev (.no rfl (.no rfl (.joinL (S := Unit) (g2 _ zeros).ev (.bind (a := true) (.yes rfl (.bind hz (.now _))) (.now _))))))))
      · have hr : Ev (fun k => Find7 k a b) (found z) := by
          unfold Find7
          exact .bind ea (.no (by rw [h1]; rfl) (.bind eb (.no (by rw [h2]; rfl) (.joinR g1.ev))))
        exact .bind hr (.bind ea (.bind (start z) (.bind gen_ev (.no rfl (.no rfl (.joinR (g2 (found z) rfl).ev))))))
    · have hr : Ev (fun k => Find7 k a b) ((zeros, false, vb.1, ()), ()) := by
        unfold Find7
        exact .bind ea (.no (by rw [h1]; rfl) (.bind eb (.yes (bne_iff_ne.2 h2) (.now _))))
      exact .bind hr (.bind ea (.bind (a := (a, b, zeros, vb.1)) (.yes (by rw [h1]; rfl) (.bind eb (.now _))) (.bind gen_ev (.no (by simp) (.yes (bne_iff_ne.2 h2) (.bind (a := true) (.yes rfl (.bind hz (.now _))) (.now _)))))))
  · have hr : Ev (fun k => Find7 k a b) ((zeros, false, va.1, ()), ()) := by
      unfold Find7
      exact .bind ea (.yes (bne_iff_ne.2 h1) (.now _))
    exact .bind hr (.bind ea (.bind (a := (a, b, zeros, va.1)) (.no (beq_false_of_ne h1) (.now _)) (.bind gen_ev (.no (by simp) (.yes (bne_iff_ne.2 h1) (.bind (a := true) (.yes rfl (.bind hz (.now _))) (.now _)))))))
theorem genFinds (a b : Cpu) (ha : WfCpu a) (hb : WfCpu b) : ∃ k, GenFinds3 k a b = some (true, ()) :=
  law a b (wc_row ha).1 (wc_row ha).2 (wc_row hb).1 (wc_row hb).2
end Go.Proofs.YtcppmlgnceldmaaGreat.Gf

/- The row of GenFinds: gen.Find returns the first test that tells two right processors apart, or none, as the reference says. The law returns true for every input; the input reads as it did. -/
namespace Go.Proofs.YtcppmlgnceldmaaGreat.genFinds
open Go.ChangeShapes Go.WideShapes Go.ChangeAt Go.RowKit Go.Proofs.YtcppmlgnceldmaaGreat.Gp Go.Proofs.YtcppmlgnceldmaaGreat.Gf
set_option linter.unusedVariables false
theorem own : ownKnob Tryz.prog.godebug = none := by kernel_rfl
theorem laidOut : laidOutB Tryz.prog = true := by kernel_rfl
abbrev wf9 : ByteArray → Prop := (fun (y : ByteArray) => y.size ≤ 140737488351232)
abbrev siz9 : ByteArray → Nat := (fun (y : ByteArray) => y.size + 1)
theorem gd9 : Gd Tryz.prog 9 .str wf9 siz9 := gd_str Tryz.underlying9 (by kernel_rfl)
abbrev wf3 : Int → Prop := (fun (y : Int) => (Lit.int .i64 y).wf = true)
abbrev siz3 : Int → Nat := (fun _ => 1)
theorem gd3 : Gd Tryz.prog 3 (.int .i64) wf3 siz3 := gd_int Tryz.underlying3 (by kernel_rfl)
abbrev wf133 : (Int × (Int × (Int × Int))) → Prop := (fun (y : (Int × (Int × (Int × Int)))) => wf3 y.1 ∧ (fun (y : (Int × (Int × Int))) => wf3 y.1 ∧ (fun (y : (Int × Int)) => wf3 y.1 ∧ wf3 y.2) y.2) y.2)
abbrev siz133 : (Int × (Int × (Int × Int))) → Nat := (fun (y : (Int × (Int × (Int × Int)))) => siz3 y.1 + (fun (y : (Int × (Int × Int))) => siz3 y.1 + (fun (y : (Int × Int)) => siz3 y.1 + siz3 y.2) y.2) y.2)
theorem gd133 : Gd Tryz.prog 133 (.st (.pair (.int .i64) (.pair (.int .i64) (.pair (.int .i64) (.int .i64))))) wf133 siz133 := gd_st Tryz.underlying133 (by kernel_rfl) (gdf_cons (k := .int .i64) (k' := .pair (.int .i64) (.pair (.int .i64) (.int .i64))) (wf := wf3) (siz := siz3) (wf' := (fun (y : (Int × (Int × Int))) => wf3 y.1 ∧ (fun (y : (Int × Int)) => wf3 y.1 ∧ wf3 y.2) y.2)) (siz' := (fun (y : (Int × (Int × Int))) => siz3 y.1 + (fun (y : (Int × Int)) => siz3 y.1 + siz3 y.2) y.2)) rfl gd3 (gdf_cons (k := .int .i64) (k' := .pair (.int .i64) (.int .i64)) (wf := wf3) (siz := siz3) (wf' := (fun (y : (Int × Int)) => wf3 y.1 ∧ wf3 y.2)) (siz' := (fun (y : (Int × Int)) => siz3 y.1 + siz3 y.2)) rfl gd3 (gdf_cons (k := .int .i64) (k' := .int .i64) (wf := wf3) (siz := siz3) (wf' := wf3) (siz' := siz3) rfl gd3 (gdf_one rfl gd3))))
abbrev wf124 : (List (Int × (Int × (Int × Int)))) → Prop := (wfL (α := (Int × (Int × (Int × Int)))) 32 wf133)
abbrev siz124 : (List (Int × (Int × (Int × Int)))) → Nat := (sizL (α := (Int × (Int × (Int × Int)))) siz133)
theorem gd124 : Gd Tryz.prog 124 (.sl (.st (.pair (.int .i64) (.pair (.int .i64) (.pair (.int .i64) (.int .i64)))))) wf124 siz124 := gd_sl (B := 32) Tryz.underlying124 (by kernel_rfl) (by kernel_rfl) (by decide) gd133
abbrev wf130 : (Int × (Int × (Int × (List (Int × (Int × (Int × Int))))))) → Prop := (fun (y : (Int × (Int × (Int × (List (Int × (Int × (Int × Int)))))))) => wf3 y.1 ∧ (fun (y : (Int × (Int × (List (Int × (Int × (Int × Int))))))) => wf3 y.1 ∧ (fun (y : (Int × (List (Int × (Int × (Int × Int)))))) => wf3 y.1 ∧ wf124 y.2) y.2) y.2)
abbrev siz130 : (Int × (Int × (Int × (List (Int × (Int × (Int × Int))))))) → Nat := (fun (y : (Int × (Int × (Int × (List (Int × (Int × (Int × Int)))))))) => siz3 y.1 + (fun (y : (Int × (Int × (List (Int × (Int × (Int × Int))))))) => siz3 y.1 + (fun (y : (Int × (List (Int × (Int × (Int × Int)))))) => siz3 y.1 + siz124 y.2) y.2) y.2)
theorem gd130 : Gd Tryz.prog 130 (.st (.pair (.int .i64) (.pair (.int .i64) (.pair (.int .i64) (.sl (.st (.pair (.int .i64) (.pair (.int .i64) (.pair (.int .i64) (.int .i64)))))))))) wf130 siz130 := gd_st Tryz.underlying130 (by kernel_rfl) (gdf_cons (k := .int .i64) (k' := .pair (.int .i64) (.pair (.int .i64) (.sl (.st (.pair (.int .i64) (.pair (.int .i64) (.pair (.int .i64) (.int .i64)))))))) (wf := wf3) (siz := siz3) (wf' := (fun (y : (Int × (Int × (List (Int × (Int × (Int × Int))))))) => wf3 y.1 ∧ (fun (y : (Int × (List (Int × (Int × (Int × Int)))))) => wf3 y.1 ∧ wf124 y.2) y.2)) (siz' := (fun (y : (Int × (Int × (List (Int × (Int × (Int × Int))))))) => siz3 y.1 + (fun (y : (Int × (List (Int × (Int × (Int × Int)))))) => siz3 y.1 + siz124 y.2) y.2)) rfl gd3 (gdf_cons (k := .int .i64) (k' := .pair (.int .i64) (.sl (.st (.pair (.int .i64) (.pair (.int .i64) (.pair (.int .i64) (.int .i64))))))) (wf := wf3) (siz := siz3) (wf' := (fun (y : (Int × (List (Int × (Int × (Int × Int)))))) => wf3 y.1 ∧ wf124 y.2)) (siz' := (fun (y : (Int × (List (Int × (Int × (Int × Int)))))) => siz3 y.1 + siz124 y.2)) rfl gd3 (gdf_cons (k := .int .i64) (k' := .sl (.st (.pair (.int .i64) (.pair (.int .i64) (.pair (.int .i64) (.int .i64)))))) (wf := wf3) (siz := siz3) (wf' := wf124) (siz' := siz124) rfl gd3 (gdf_one rfl gd124))))
abbrev wf23 : (List (Int × (Int × (Int × (List (Int × (Int × (Int × Int)))))))) → Prop := (wfL (α := (Int × (Int × (Int × (List (Int × (Int × (Int × Int)))))))) 48 wf130)
abbrev siz23 : (List (Int × (Int × (Int × (List (Int × (Int × (Int × Int)))))))) → Nat := (sizL (α := (Int × (Int × (Int × (List (Int × (Int × (Int × Int)))))))) siz130)
theorem gd23 : Gd Tryz.prog 23 (.sl (.st (.pair (.int .i64) (.pair (.int .i64) (.pair (.int .i64) (.sl (.st (.pair (.int .i64) (.pair (.int .i64) (.pair (.int .i64) (.int .i64))))))))))) wf23 siz23 := gd_sl (B := 48) Tryz.underlying23 (by kernel_rfl) (by kernel_rfl) (by decide) gd130
abbrev wf38 : (Int × (ByteArray × (Int × (List (Int × (Int × (Int × (List (Int × (Int × (Int × Int))))))))))) → Prop := (fun (y : (Int × (ByteArray × (Int × (List (Int × (Int × (Int × (List (Int × (Int × (Int × Int)))))))))))) => wf3 y.1 ∧ (fun (y : (ByteArray × (Int × (List (Int × (Int × (Int × (List (Int × (Int × (Int × Int))))))))))) => wf9 y.1 ∧ (fun (y : (Int × (List (Int × (Int × (Int × (List (Int × (Int × (Int × Int)))))))))) => wf3 y.1 ∧ wf23 y.2) y.2) y.2)
abbrev siz38 : (Int × (ByteArray × (Int × (List (Int × (Int × (Int × (List (Int × (Int × (Int × Int))))))))))) → Nat := (fun (y : (Int × (ByteArray × (Int × (List (Int × (Int × (Int × (List (Int × (Int × (Int × Int)))))))))))) => siz3 y.1 + (fun (y : (ByteArray × (Int × (List (Int × (Int × (Int × (List (Int × (Int × (Int × Int))))))))))) => siz9 y.1 + (fun (y : (Int × (List (Int × (Int × (Int × (List (Int × (Int × (Int × Int)))))))))) => siz3 y.1 + siz23 y.2) y.2) y.2)
theorem gd38 : Gd Tryz.prog 38 (.st (.pair (.int .i64) (.pair .str (.pair (.int .i64) (.sl (.st (.pair (.int .i64) (.pair (.int .i64) (.pair (.int .i64) (.sl (.st (.pair (.int .i64) (.pair (.int .i64) (.pair (.int .i64) (.int .i64))))))))))))))) wf38 siz38 := gd_st Tryz.underlying38 (by kernel_rfl) (gdf_cons (k := .int .i64) (k' := .pair .str (.pair (.int .i64) (.sl (.st (.pair (.int .i64) (.pair (.int .i64) (.pair (.int .i64) (.sl (.st (.pair (.int .i64) (.pair (.int .i64) (.pair (.int .i64) (.int .i64))))))))))))) (wf := wf3) (siz := siz3) (wf' := (fun (y : (ByteArray × (Int × (List (Int × (Int × (Int × (List (Int × (Int × (Int × Int))))))))))) => wf9 y.1 ∧ (fun (y : (Int × (List (Int × (Int × (Int × (List (Int × (Int × (Int × Int)))))))))) => wf3 y.1 ∧ wf23 y.2) y.2)) (siz' := (fun (y : (ByteArray × (Int × (List (Int × (Int × (Int × (List (Int × (Int × (Int × Int))))))))))) => siz9 y.1 + (fun (y : (Int × (List (Int × (Int × (Int × (List (Int × (Int × (Int × Int)))))))))) => siz3 y.1 + siz23 y.2) y.2)) rfl gd3 (gdf_cons (k := .str) (k' := .pair (.int .i64) (.sl (.st (.pair (.int .i64) (.pair (.int .i64) (.pair (.int .i64) (.sl (.st (.pair (.int .i64) (.pair (.int .i64) (.pair (.int .i64) (.int .i64)))))))))))) (wf := wf9) (siz := siz9) (wf' := (fun (y : (Int × (List (Int × (Int × (Int × (List (Int × (Int × (Int × Int)))))))))) => wf3 y.1 ∧ wf23 y.2)) (siz' := (fun (y : (Int × (List (Int × (Int × (Int × (List (Int × (Int × (Int × Int)))))))))) => siz3 y.1 + siz23 y.2)) rfl gd9 (gdf_cons (k := .int .i64) (k' := .sl (.st (.pair (.int .i64) (.pair (.int .i64) (.pair (.int .i64) (.sl (.st (.pair (.int .i64) (.pair (.int .i64) (.pair (.int .i64) (.int .i64))))))))))) (wf := wf3) (siz := siz3) (wf' := wf23) (siz' := siz23) rfl gd3 (gdf_one rfl gd23))))
abbrev wf22 : (List (Int × (ByteArray × (Int × (List (Int × (Int × (Int × (List (Int × (Int × (Int × Int)))))))))))) → Prop := (wfL (α := (Int × (ByteArray × (Int × (List (Int × (Int × (Int × (List (Int × (Int × (Int × Int)))))))))))) 56 wf38)
abbrev siz22 : (List (Int × (ByteArray × (Int × (List (Int × (Int × (Int × (List (Int × (Int × (Int × Int)))))))))))) → Nat := (sizL (α := (Int × (ByteArray × (Int × (List (Int × (Int × (Int × (List (Int × (Int × (Int × Int)))))))))))) siz38)
theorem gd22 : Gd Tryz.prog 22 (.sl (.st (.pair (.int .i64) (.pair .str (.pair (.int .i64) (.sl (.st (.pair (.int .i64) (.pair (.int .i64) (.pair (.int .i64) (.sl (.st (.pair (.int .i64) (.pair (.int .i64) (.pair (.int .i64) (.int .i64)))))))))))))))) wf22 siz22 := gd_sl (B := 56) Tryz.underlying22 (by kernel_rfl) (by kernel_rfl) (by decide) gd38
abbrev wf25 : (ByteArray × ((List (Int × (ByteArray × (Int × (List (Int × (Int × (Int × (List (Int × (Int × (Int × Int)))))))))))) × ((List (Int × (Int × (Int × (List (Int × (Int × (Int × Int)))))))) × ((List (Int × (Int × (Int × (List (Int × (Int × (Int × Int)))))))) × (List (Int × (Int × (Int × (List (Int × (Int × (Int × Int)))))))))))) → Prop := (fun (y : (ByteArray × ((List (Int × (ByteArray × (Int × (List (Int × (Int × (Int × (List (Int × (Int × (Int × Int)))))))))))) × ((List (Int × (Int × (Int × (List (Int × (Int × (Int × Int)))))))) × ((List (Int × (Int × (Int × (List (Int × (Int × (Int × Int)))))))) × (List (Int × (Int × (Int × (List (Int × (Int × (Int × Int))))))))))))) => wf9 y.1 ∧ (fun (y : ((List (Int × (ByteArray × (Int × (List (Int × (Int × (Int × (List (Int × (Int × (Int × Int)))))))))))) × ((List (Int × (Int × (Int × (List (Int × (Int × (Int × Int)))))))) × ((List (Int × (Int × (Int × (List (Int × (Int × (Int × Int)))))))) × (List (Int × (Int × (Int × (List (Int × (Int × (Int × Int)))))))))))) => wf22 y.1 ∧ (fun (y : ((List (Int × (Int × (Int × (List (Int × (Int × (Int × Int)))))))) × ((List (Int × (Int × (Int × (List (Int × (Int × (Int × Int)))))))) × (List (Int × (Int × (Int × (List (Int × (Int × (Int × Int))))))))))) => wf23 y.1 ∧ (fun (y : ((List (Int × (Int × (Int × (List (Int × (Int × (Int × Int)))))))) × (List (Int × (Int × (Int × (List (Int × (Int × (Int × Int)))))))))) => wf23 y.1 ∧ wf23 y.2) y.2) y.2) y.2)
abbrev siz25 : (ByteArray × ((List (Int × (ByteArray × (Int × (List (Int × (Int × (Int × (List (Int × (Int × (Int × Int)))))))))))) × ((List (Int × (Int × (Int × (List (Int × (Int × (Int × Int)))))))) × ((List (Int × (Int × (Int × (List (Int × (Int × (Int × Int)))))))) × (List (Int × (Int × (Int × (List (Int × (Int × (Int × Int)))))))))))) → Nat := (fun (y : (ByteArray × ((List (Int × (ByteArray × (Int × (List (Int × (Int × (Int × (List (Int × (Int × (Int × Int)))))))))))) × ((List (Int × (Int × (Int × (List (Int × (Int × (Int × Int)))))))) × ((List (Int × (Int × (Int × (List (Int × (Int × (Int × Int)))))))) × (List (Int × (Int × (Int × (List (Int × (Int × (Int × Int))))))))))))) => siz9 y.1 + (fun (y : ((List (Int × (ByteArray × (Int × (List (Int × (Int × (Int × (List (Int × (Int × (Int × Int)))))))))))) × ((List (Int × (Int × (Int × (List (Int × (Int × (Int × Int)))))))) × ((List (Int × (Int × (Int × (List (Int × (Int × (Int × Int)))))))) × (List (Int × (Int × (Int × (List (Int × (Int × (Int × Int)))))))))))) => siz22 y.1 + (fun (y : ((List (Int × (Int × (Int × (List (Int × (Int × (Int × Int)))))))) × ((List (Int × (Int × (Int × (List (Int × (Int × (Int × Int)))))))) × (List (Int × (Int × (Int × (List (Int × (Int × (Int × Int))))))))))) => siz23 y.1 + (fun (y : ((List (Int × (Int × (Int × (List (Int × (Int × (Int × Int)))))))) × (List (Int × (Int × (Int × (List (Int × (Int × (Int × Int)))))))))) => siz23 y.1 + siz23 y.2) y.2) y.2) y.2)
theorem gd25 : Gd Tryz.prog 25 (.st (.pair .str (.pair (.sl (.st (.pair (.int .i64) (.pair .str (.pair (.int .i64) (.sl (.st (.pair (.int .i64) (.pair (.int .i64) (.pair (.int .i64) (.sl (.st (.pair (.int .i64) (.pair (.int .i64) (.pair (.int .i64) (.int .i64)))))))))))))))) (.pair (.sl (.st (.pair (.int .i64) (.pair (.int .i64) (.pair (.int .i64) (.sl (.st (.pair (.int .i64) (.pair (.int .i64) (.pair (.int .i64) (.int .i64))))))))))) (.pair (.sl (.st (.pair (.int .i64) (.pair (.int .i64) (.pair (.int .i64) (.sl (.st (.pair (.int .i64) (.pair (.int .i64) (.pair (.int .i64) (.int .i64))))))))))) (.sl (.st (.pair (.int .i64) (.pair (.int .i64) (.pair (.int .i64) (.sl (.st (.pair (.int .i64) (.pair (.int .i64) (.pair (.int .i64) (.int .i64)))))))))))))))) wf25 siz25 := gd_st Tryz.underlying25 (by kernel_rfl) (gdf_cons (k := .str) (k' := .pair (.sl (.st (.pair (.int .i64) (.pair .str (.pair (.int .i64) (.sl (.st (.pair (.int .i64) (.pair (.int .i64) (.pair (.int .i64) (.sl (.st (.pair (.int .i64) (.pair (.int .i64) (.pair (.int .i64) (.int .i64)))))))))))))))) (.pair (.sl (.st (.pair (.int .i64) (.pair (.int .i64) (.pair (.int .i64) (.sl (.st (.pair (.int .i64) (.pair (.int .i64) (.pair (.int .i64) (.int .i64))))))))))) (.pair (.sl (.st (.pair (.int .i64) (.pair (.int .i64) (.pair (.int .i64) (.sl (.st (.pair (.int .i64) (.pair (.int .i64) (.pair (.int .i64) (.int .i64))))))))))) (.sl (.st (.pair (.int .i64) (.pair (.int .i64) (.pair (.int .i64) (.sl (.st (.pair (.int .i64) (.pair (.int .i64) (.pair (.int .i64) (.int .i64)))))))))))))) (wf := wf9) (siz := siz9) (wf' := (fun (y : ((List (Int × (ByteArray × (Int × (List (Int × (Int × (Int × (List (Int × (Int × (Int × Int)))))))))))) × ((List (Int × (Int × (Int × (List (Int × (Int × (Int × Int)))))))) × ((List (Int × (Int × (Int × (List (Int × (Int × (Int × Int)))))))) × (List (Int × (Int × (Int × (List (Int × (Int × (Int × Int)))))))))))) => wf22 y.1 ∧ (fun (y : ((List (Int × (Int × (Int × (List (Int × (Int × (Int × Int)))))))) × ((List (Int × (Int × (Int × (List (Int × (Int × (Int × Int)))))))) × (List (Int × (Int × (Int × (List (Int × (Int × (Int × Int))))))))))) => wf23 y.1 ∧ (fun (y : ((List (Int × (Int × (Int × (List (Int × (Int × (Int × Int)))))))) × (List (Int × (Int × (Int × (List (Int × (Int × (Int × Int)))))))))) => wf23 y.1 ∧ wf23 y.2) y.2) y.2)) (siz' := (fun (y : ((List (Int × (ByteArray × (Int × (List (Int × (Int × (Int × (List (Int × (Int × (Int × Int)))))))))))) × ((List (Int × (Int × (Int × (List (Int × (Int × (Int × Int)))))))) × ((List (Int × (Int × (Int × (List (Int × (Int × (Int × Int)))))))) × (List (Int × (Int × (Int × (List (Int × (Int × (Int × Int)))))))))))) => siz22 y.1 + (fun (y : ((List (Int × (Int × (Int × (List (Int × (Int × (Int × Int)))))))) × ((List (Int × (Int × (Int × (List (Int × (Int × (Int × Int)))))))) × (List (Int × (Int × (Int × (List (Int × (Int × (Int × Int))))))))))) => siz23 y.1 + (fun (y : ((List (Int × (Int × (Int × (List (Int × (Int × (Int × Int)))))))) × (List (Int × (Int × (Int × (List (Int × (Int × (Int × Int)))))))))) => siz23 y.1 + siz23 y.2) y.2) y.2)) rfl gd9 (gdf_cons (k := .sl (.st (.pair (.int .i64) (.pair .str (.pair (.int .i64) (.sl (.st (.pair (.int .i64) (.pair (.int .i64) (.pair (.int .i64) (.sl (.st (.pair (.int .i64) (.pair (.int .i64) (.pair (.int .i64) (.int .i64)))))))))))))))) (k' := .pair (.sl (.st (.pair (.int .i64) (.pair (.int .i64) (.pair (.int .i64) (.sl (.st (.pair (.int .i64) (.pair (.int .i64) (.pair (.int .i64) (.int .i64))))))))))) (.pair (.sl (.st (.pair (.int .i64) (.pair (.int .i64) (.pair (.int .i64) (.sl (.st (.pair (.int .i64) (.pair (.int .i64) (.pair (.int .i64) (.int .i64))))))))))) (.sl (.st (.pair (.int .i64) (.pair (.int .i64) (.pair (.int .i64) (.sl (.st (.pair (.int .i64) (.pair (.int .i64) (.pair (.int .i64) (.int .i64))))))))))))) (wf := wf22) (siz := siz22) (wf' := (fun (y : ((List (Int × (Int × (Int × (List (Int × (Int × (Int × Int)))))))) × ((List (Int × (Int × (Int × (List (Int × (Int × (Int × Int)))))))) × (List (Int × (Int × (Int × (List (Int × (Int × (Int × Int))))))))))) => wf23 y.1 ∧ (fun (y : ((List (Int × (Int × (Int × (List (Int × (Int × (Int × Int)))))))) × (List (Int × (Int × (Int × (List (Int × (Int × (Int × Int)))))))))) => wf23 y.1 ∧ wf23 y.2) y.2)) (siz' := (fun (y : ((List (Int × (Int × (Int × (List (Int × (Int × (Int × Int)))))))) × ((List (Int × (Int × (Int × (List (Int × (Int × (Int × Int)))))))) × (List (Int × (Int × (Int × (List (Int × (Int × (Int × Int))))))))))) => siz23 y.1 + (fun (y : ((List (Int × (Int × (Int × (List (Int × (Int × (Int × Int)))))))) × (List (Int × (Int × (Int × (List (Int × (Int × (Int × Int)))))))))) => siz23 y.1 + siz23 y.2) y.2)) rfl gd22 (gdf_cons (k := .sl (.st (.pair (.int .i64) (.pair (.int .i64) (.pair (.int .i64) (.sl (.st (.pair (.int .i64) (.pair (.int .i64) (.pair (.int .i64) (.int .i64))))))))))) (k' := .pair (.sl (.st (.pair (.int .i64) (.pair (.int .i64) (.pair (.int .i64) (.sl (.st (.pair (.int .i64) (.pair (.int .i64) (.pair (.int .i64) (.int .i64))))))))))) (.sl (.st (.pair (.int .i64) (.pair (.int .i64) (.pair (.int .i64) (.sl (.st (.pair (.int .i64) (.pair (.int .i64) (.pair (.int .i64) (.int .i64)))))))))))) (wf := wf23) (siz := siz23) (wf' := (fun (y : ((List (Int × (Int × (Int × (List (Int × (Int × (Int × Int)))))))) × (List (Int × (Int × (Int × (List (Int × (Int × (Int × Int)))))))))) => wf23 y.1 ∧ wf23 y.2)) (siz' := (fun (y : ((List (Int × (Int × (Int × (List (Int × (Int × (Int × Int)))))))) × (List (Int × (Int × (Int × (List (Int × (Int × (Int × Int)))))))))) => siz23 y.1 + siz23 y.2)) rfl gd23 (gdf_cons (k := .sl (.st (.pair (.int .i64) (.pair (.int .i64) (.pair (.int .i64) (.sl (.st (.pair (.int .i64) (.pair (.int .i64) (.pair (.int .i64) (.int .i64))))))))))) (k' := .sl (.st (.pair (.int .i64) (.pair (.int .i64) (.pair (.int .i64) (.sl (.st (.pair (.int .i64) (.pair (.int .i64) (.pair (.int .i64) (.int .i64))))))))))) (wf := wf23) (siz := siz23) (wf' := wf23) (siz' := siz23) rfl gd23 (gdf_one rfl gd23)))))
set_option maxRecDepth 100000 in
set_option maxHeartbeats 1000000 in
theorem lifted (os : Os) (started : os.Started) (H : Type) (enc : TypeId × Value → H) :
    ReturnsInHanded {} Tryz.checked os 3 .any (Rows.genFindsSpec.pre6 enc Tryz.prog Tryz.f3 Rows.genFindsRow.domain false) (Rows.genFindsSpec.post enc Tryz.prog Tryz.f3 false true false false) := by
  refine returnsInHanded_of_change_sized (C := Tryz.checked) own started (by kernel_rfl) Tryz.func3
    (ChangeSpec.witness6 (enc := enc) (C := Tryz.checked) false ⟨#[], #[.agg #[.string ByteArray.empty, .slice none 0 0, .slice none 0 0, .slice none 0 0, .slice none 0 0], .agg #[.string ByteArray.empty, .slice none 0 0, .slice none 0 0, .slice none 0 0, .slice none 0 0]], []⟩ 8 (by kernel_rfl) (by kernel_rfl) (by kernel_rfl) (by kernel_rfl)) ?_
  intro W base args ds gs before hval0 hW hcnd hsz0 _
  have hsz : (DataW.weightsEach Tryz.prog (Tryz.f3.params.toList ++ Rows.genFindsSpec.plain.varTypes Tryz.prog) (ds ++ gs)).all (· ≤ reachBytes) = true := hsz0
  have hval : ∀ (j : Nat) t v, Tryz.f3.params[j]? = some t → args[j]? = some v → Value.okWide Tryz.prog W .any base t v := hval0
  have hW' := hW
  obtain ⟨p, q, hA0, hV, rfl, hfz, hnd⟩ := hW
  have hA : DataW.TrodAll enc Tryz.prog W 0 (fun _ => true) true Tryz.f3.params.toList args.toList ds p := hA0
  rw [Tryz.params3] at hA hval hsz
  obtain ⟨v0, vs0, d0, ds0, p0, q0, hargs, rfl, rfl, h0, r0⟩ := trodAll_cons hA
  obtain ⟨v1, vs1, d1, ds1, p1, q1, rfl, rfl, rfl, h1, r1⟩ := trodAll_cons r0
  obtain ⟨rfl, rfl, rfl⟩ := trodAll_nil r1
  obtain rfl : args = #[v0, v1] := by cases args; simp_all
  obtain ⟨rfl, rfl⟩ := trodVars_none hV
  have lt0 : ∀ x ∈ p0, x.block < W.heap.size := by obtain ⟨m, hm⟩ := h0; exact DataW.trod_lt m _ _ _ hm
  have wt0 := weights_at hsz 0 (t := 25) rfl rfl
  obtain ⟨a0, s0, wf0_, up0_⟩ := gd25.arg (hval 0 25 v0 rfl rfl) h0 wt0
  have lt1 : ∀ x ∈ p1, x.block < W.heap.size := by obtain ⟨m, hm⟩ := h1; exact DataW.trod_lt m _ _ _ hm
  have wt1 := weights_at hsz 1 (t := 25) rfl rfl
  obtain ⟨a1, s1, wf1_, up1_⟩ := gd25.arg (hval 1 25 v1 rfl rfl) h1 wt1
  clear hA0 hval0 hsz0 hsz
  obtain ⟨k, h⟩ := Gf.genFinds a0 a1 wf0_ wf1_
  refine (law_calls (GenFinds3.ok k) (ds := (a0, a1)) h (args := #[v0, v1]) (W := W) (.cons (s0 _) (.cons (s1 _) (.nil)))).mono fun e W' ⟨he, bel0⟩ => ?_
  have bel : Below W.heap.size W W' := bel0
  subst he
  exact ⟨_, rfl, _, _, _, [], _, [], hW', trodAll_mk1 (shut_bool Tryz.underlying4 _), (trodAll_cons_mk (Below.trod laidOut (by kernel_rfl) (of_decide_eq_true (by kernel_rfl)) h0 bel lt0) (trodAll_cons_mk (Below.trod laidOut (by kernel_rfl) (of_decide_eq_true (by kernel_rfl)) h1 bel lt1) (trodAll_mk0))), rfl, bel.frame _, fun h => by cases h⟩
theorem over : Rows.genFindsRow.holds Tryz.pinned (OpenSpec.ofChange Rows.genFindsSpec) :=
  OpenClaim.holds_of_wide 3 Tryz.f3 rfl rfl rfl rfl rfl rfl rfl ⟨rfl, rfl, rfl, rfl, rfl⟩ rfl rfl rfl rfl rfl (by kernel_rfl) Tryz.func3 (by kernel_rfl)
    (of_decide_eq_true (by kernel_rfl)) (by unfold Func.isWrapper; first | (rw [if_pos (by decide +kernel)]; kernel_rfl) | (rw [if_neg (by decide +kernel)]; exact ⟨rfl, rfl⟩))
    (fun os started H enc _ => lifted os started H enc)
theorem proved : Rows.GenFindsSaid := over
#print axioms proved
end Go.Proofs.YtcppmlgnceldmaaGreat.genFinds
namespace Go.Proofs.YtcppmlgnceldmaaGreat
theorem genFinds_holds : Rows.GenFindsSaid := genFinds.proved
end Go.Proofs.YtcppmlgnceldmaaGreat
