/- samp.Period: the failure function's greatest borders; the least period. -/
import Derived.Test.YtimkpdbghbhkkaaSMb
import Derived.Test.YtimkpdbghbhkkaaQMx13
namespace Go.Proofs.Ytimkpdbghbhkkaa.SMb
open Go.RowKit Go.Proofs.YtimkpdbghbhkkaaW.PrintWords Go.Proofs.YtimkpdbghbhkkaaW.PrintMore Go.Proofs.Ytimkpdbghbhkkaa.Pu Go.Proofs.Ytimkpdbghbhkkaa.QM

/-- A beginning of b levels that is an end of the first m, too, and not all of them. -/
def Bd (l : List Int) (m b : Nat) : Prop := b < m ∧ ∀ j, j < b → l.getD j 0 = l.getD (m - b + j) 0
def MB (l : List Int) (m b : Nat) : Prop := Bd l m b ∧ ∀ c, Bd l m c → c ≤ b
theorem Bd_of_Bd {l : List Int} {m b c : Nat} (hb : Bd l m b) (hc : Bd l b c) : Bd l m c := by
  have h1 := hb.1
  have h2 := hc.1
  refine ⟨by omega, fun j hj => ?_⟩
  rw [hc.2 j hj, hb.2 (b - c + j) (by omega)]
  congr 1
  omega
theorem Bd_in {l : List Int} {m b c : Nat} (hb : Bd l m b) (hc : Bd l m c) (h : c < b) : Bd l b c := by
  have h1 := hb.1
  refine ⟨h, fun j hj => ?_⟩
  rw [hc.2 j hj, hb.2 (b - c + j) (by omega)]
  congr 1
  omega
theorem Bd_succ {l : List Int} {m b : Nat} : Bd l (m + 1) (b + 1) ↔ Bd l m b ∧ l.getD b 0 = l.getD m 0 := by
  constructor
  · rintro ⟨h1, h2⟩
    refine ⟨⟨by omega, fun j hj => ?_⟩, ?_⟩
    · rw [h2 j (by omega)]
      congr 1
      omega
    · rw [h2 b (by omega)]
      congr 1
      omega
  · rintro ⟨⟨h1, h2⟩, h3⟩
    refine ⟨by omega, fun j hj => ?_⟩
    by_cases e : j = b
    · subst e
      rw [h3]
      congr 1
      omega
    · rw [h2 j (by omega)]
      congr 1
      omega
/-- What holds within a round: a border of the first i, and none that is longer goes on. -/
def Qi (l : List Int) (i k : Nat) : Prop := Bd l i k ∧ ∀ c, Bd l i c → k < c → ¬ l.getD c 0 = l.getD i 0
theorem Qi_start {l : List Int} {i k : Nat} (h : MB l i k) : Qi l i k := ⟨h.1, fun c hc hk => by have := h.2 c hc; omega⟩
theorem Qi_next {l : List Int} {i k f : Nat} (h : Qi l i k) (hn : ¬ l.getD i 0 = l.getD k 0) (hf : MB l k f) : Qi l i f := by
  refine ⟨Bd_of_Bd h.1 hf.1, fun c hc hk => ?_⟩
  by_cases e1 : k < c
  · exact h.2 c hc e1
  · by_cases e2 : c = k
    · subst e2; exact fun e => hn e.symm
    · have := hf.2 c (Bd_in h.1 hc (by omega))
      omega
theorem Qi_same {l : List Int} {i k : Nat} (h : Qi l i k) (he : l.getD i 0 = l.getD k 0) : MB l (i + 1) (k + 1) := by
  refine ⟨Bd_succ.2 ⟨h.1, he.symm⟩, fun c hc => ?_⟩
  cases c with
  | zero => omega
  | succ c =>
    obtain ⟨hc1, hc2⟩ := Bd_succ.1 hc
    by_cases e : k < c
    · exact absurd hc2 (h.2 c hc1 e)
    · omega
theorem Qi_zero {l : List Int} {i : Nat} (h : Qi l i 0) (hn : ¬ l.getD i 0 = l.getD 0 0) : MB l (i + 1) 0 := by
  refine ⟨⟨by omega, fun j hj => by omega⟩, fun c hc => ?_⟩
  cases c with
  | zero => omega
  | succ c =>
    obtain ⟨hc1, hc2⟩ := Bd_succ.1 hc
    by_cases e : c = 0
    · subst e; exact absurd hc2.symm hn
    · exact absurd hc2 (h.2 c hc1 (by omega))
/-- The failure function as far as it is told. -/
def FI (l x : List Int) (i : Nat) : Prop := x.length = l.length ∧ ∀ m, 1 ≤ m → m ≤ i → ∃ b : Nat, x.getD (m - 1) 0 = (b : Int) ∧ MB l m b
theorem FI_set {l x : List Int} {i b : Nat} (h : FI l x i) (hi : i < l.length) (hb : MB l (i + 1) b) : FI l (x.set i (b : Int)) (i + 1) := by
  refine ⟨by rw [List.length_set]; exact h.1, fun m h1 h2 => ?_⟩
  by_cases e : m = i + 1
  · subst e
    refine ⟨b, ?_, hb⟩
    rw [List.getD_eq_getElem?_getD, List.getElem?_set, show i + 1 - 1 = i by omega, if_pos rfl, if_pos (by rw [h.1]; exact hi)]
    rfl
  · obtain ⟨c, hc, hm⟩ := h.2 m h1 (by omega)
    refine ⟨c, ?_, hm⟩
    rw [List.getD_eq_getElem?_getD, List.getElem?_set, if_neg (by omega), ← List.getD_eq_getElem?_getD]
    exact hc

theorem period_loop (l : List Int) (hl : l.length ≤ 100000) (h1 : 1 ≤ l.length) : ∀ (d i : Nat) (x : List Int) (q : Nat), i + d = l.length → 1 ≤ i → FI l x i → MB l i q → ∃ b, MB l l.length b ∧ Ev (fun k => samp_Period.l0 k l x (q : Int) (i : Int)) ((l.length : Int) - (b : Int), 0) := by
  intro d
  induction d with
  | zero =>
    intro i x q h hi hF hM
    obtain ⟨b, hb, hm⟩ := hF.2 l.length h1 (by omega)
    refine ⟨b, hm, ?_⟩
    have hbl := hm.1.1
    have e1 : wrap64 ((l.length : Int) - 1) = ((l.length - 1 : Nat) : Int) := by rw [w64 (by omega) (by omega)]; omega
    have e2 : wrap64 ((l.length : Int) - (b : Int)) = (l.length : Int) - (b : Int) := w64 (by omega) (by omega)
    refine Ev.step (fun k => by rw [samp_Period.l0]) ?_
    rw [e1, rd_nat, hb, e2]
    exact Ev.no (by omega) (Ev.no (by omega) (Ev.yes (by omega) (Ev.yes (by rw [hF.1]; omega) (Ev.now _))))
  | succ d ih =>
    intro i x q h hi hF hM
    have inner : ∀ q, Qi l i q → ∃ b, MB l l.length b ∧ Ev (fun k => samp_Period.l1 k l x (q : Int) (i : Int)) ((l.length : Int) - (b : Int), 0) := by
      intro q
      induction q using Nat.strongRecOn with
      | _ q ihq =>
        intro hQ
        have hqi := hQ.1.1
        have ei : wrap64 ((i : Int) + 1) = ((i + 1 : Nat) : Int) := by rw [w64 (by omega) (by omega)]; omega
        have eq : wrap64 ((q : Int) + 1) = ((q + 1 : Nat) : Int) := by rw [w64 (by omega) (by omega)]; omega
        have et : ((i : Int)).toNat = i := by omega
        have hlx := hF.1
        by_cases e : l.getD i 0 = l.getD q 0
        · obtain ⟨b, hb, hE⟩ := ih (i + 1) (x.set i ((q + 1 : Nat) : Int)) (q + 1) (by omega) (by omega) (FI_set hF (by omega) (Qi_same hQ e)) (Qi_same hQ e)
          refine ⟨b, hb, ?_⟩
          refine Ev.step (fun k => by rw [samp_Period.l1]) ?_
          rw [rd_nat l i, rd_nat l q, ei, eq, et]
          refine Ev.ite (fun _ => ?_) (fun _ => ?_)
          · exact Ev.yes (by omega) (Ev.yes (by omega) (Ev.yes (by omega) (Ev.yes (by omega) (Ev.yes e (Ev.yes (by omega) hE)))))
          · exact Ev.yes (by omega) (Ev.yes (by omega) (Ev.yes (by omega) (Ev.yes (by omega) (Ev.yes e (Ev.yes (by omega) hE)))))
        · by_cases z : q = 0
          · subst z
            obtain ⟨b, hb, hE⟩ := ih (i + 1) (x.set i ((0 : Nat) : Int)) 0 (by omega) (by omega) (FI_set hF (by omega) (Qi_zero hQ e)) (Qi_zero hQ e)
            refine ⟨b, hb, ?_⟩
            refine Ev.step (fun k => by rw [samp_Period.l1]) ?_
            rw [rd_nat l i, rd_nat l 0, ei, et]
            exact Ev.no (by omega) (Ev.yes (by omega) (Ev.yes (by omega) (Ev.yes (by omega) (Ev.yes (by omega) (Ev.no e (Ev.yes (by omega) hE))))))
          · obtain ⟨f, hf, hm⟩ := hF.2 q (by omega) (by omega)
            have hfq := hm.1.1
            obtain ⟨b, hb, hE⟩ := ihq f hfq (Qi_next hQ e hm)
            refine ⟨b, hb, ?_⟩
            have e1 : wrap64 ((q : Int) - 1) = ((q - 1 : Nat) : Int) := by rw [w64 (by omega) (by omega)]; omega
            refine Ev.step (fun k => by rw [samp_Period.l1]) ?_
            rw [rd_nat l i, rd_nat l q, e1, rd_nat x (q - 1), hf]
            exact Ev.yes (by omega) (Ev.yes (by omega) (Ev.yes (by omega) (Ev.yes (by omega) (Ev.yes (by omega) (Ev.no e (Ev.yes (by omega) (Ev.yes (by omega) hE)))))))
    obtain ⟨b, hb, hE⟩ := inner q (Qi_start hM)
    refine ⟨b, hb, ?_⟩
    refine Ev.step (fun k => by rw [samp_Period.l0]) ?_
    exact Ev.yes (by omega) hE
theorem period (l : List Int) (h0 : CK l = 0) (h1 : 1 ≤ l.length) : ∃ b, MB l l.length b ∧ Ev (fun k => samp_Period.f k l) ((l.length : Int) - (b : Int), 0) := by
  obtain ⟨hl, _⟩ := CK_zero h0
  have hM : MB l 1 0 := ⟨⟨by omega, fun j hj => by omega⟩, fun c hc => by have := hc.1; omega⟩
  have hF : FI l (List.replicate l.length 0) 1 := by
    refine ⟨by simp, fun m a b => ⟨0, ?_, ?_⟩⟩
    · rw [List.getD_eq_getElem?_getD, List.getElem?_replicate, if_pos (by omega)]; rfl
    · rw [show m = 1 by omega]; exact hM
  obtain ⟨b, hb, hE⟩ := period_loop l hl h1 (l.length - 1) 1 _ 0 (by omega) (by omega) hF hM
  refine ⟨b, hb, ?_⟩
  unfold samp_Period.f
  refine Ev.bind (check l (by omega)) ?_
  rw [h0]
  have et : ((l.length : Int)).toNat = l.length := by omega
  rw [et]
  exact Ev.yes rfl (Ev.yes (by omega) (Ev.yes (by omega) hE))
theorem period_bad (l : List Int) (hl : l.length ≤ 140737488351232) (h0 : ¬ CK l = 0) : Ev (fun k => samp_Period.f k l) (0, CK l) := by
  unfold samp_Period.f
  exact Ev.bind (check l hl) (Ev.no h0 (Ev.now _))
theorem period_none : Ev (fun k => samp_Period.f k []) (0, 0) := by
  unfold samp_Period.f
  refine Ev.bind (check [] (by simp)) ?_
  refine Ev.yes (by decide) (Ev.yes (by decide) (Ev.yes (by decide) ?_))
  refine Ev.step (fun k => by rw [samp_Period.l0]) ?_
  exact Ev.no (by decide) (Ev.yes (by decide) (Ev.now _))

/-- A period of q: all but the first q are all but the last q. -/
theorem shift_border (l : List Int) {q : Nat} (h1 : 1 ≤ q) (h2 : q ≤ l.length) : l.drop q = l.take (l.length - q) ↔ Bd l l.length (l.length - q) := by
  constructor
  · intro h
    refine ⟨by omega, fun j hj => ?_⟩
    have hj' := congrArg (fun z : List Int => z.getD j 0) h
    simp only [List.getD_eq_getElem?_getD, List.getElem?_drop, List.getElem?_take] at hj'
    rw [if_pos hj] at hj'
    rw [List.getD_eq_getElem?_getD, List.getD_eq_getElem?_getD, ← hj']
    congr 2
    omega
  · rintro ⟨_, h⟩
    apply List.ext_getElem
    · simp
    · intro j hj1 hj2
      have hj : j < l.length - q := by simpa using hj1
      have := h j hj
      rw [List.getElem_drop, List.getElem_take]
      rw [List.getD_eq_getElem?_getD, List.getD_eq_getElem?_getD, List.getElem?_eq_getElem (by omega), List.getElem?_eq_getElem (by omega)] at this
      simp only [Option.getD_some] at this
      rw [this]
      congr 1
      omega
end Go.Proofs.Ytimkpdbghbhkkaa.SMb
