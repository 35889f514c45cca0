-- Printed by a program of this session (wip/tools): Lean functions for Go functions, and their contracts.
import Derived.Test.YtimkpdbghbhkkaaQSx0
import Derived.Test.YtimkpdbghbhkkaaQSx1
import Derived.Test.YtimkpdbghbhkkaaQSx7
import Derived.Test.YtimkpdbghbhkkaaQSx8
import Derived.Test.YtimkpdbghbhkkaaSRes
import Derived.Test.YtimkpdbghbhkkaaSUpN
namespace Go.Proofs.Ytimkpdbghbhkkaa.QS
open Go.RowKit Go.Proofs.YtimkpdbghbhkkaaW.PrintWords Go.Proofs.YtimkpdbghbhkkaaW.PrintLast Go.Proofs.YtimkpdbghbhkkaaW.PrintMore
attribute [local go_sem] max2_int min2_int max_two min_two max_three min_three max_four min_four   -- for this text's walks alone
set_option linter.unusedVariables false
set_option linter.unusedSimpArgs false

/-! ### bakelaw3_SampRates: function 3 -/
mutual
def bakelaw3_SampRates.j0 : Nat → List Int → Int → Int → Int → Bool → Option (Bool)
  | 0, _, _, _, _, _ => none
  | k + 1, x0, x1, x2, x7, x36 => if x36 = true then (bakelaw3_SampRates.j1 k x0 x1 x2 1) else (bakelaw3_SampRates.j1 k x0 x1 x2 x7)
def bakelaw3_SampRates.j1 : Nat → List Int → Int → Int → Int → Option (Bool)
  | 0, _, _, _, _ => none
  | k + 1, x0, x1, x2, x7 => if x7 = 0 then (if x2 = 0 then (none) else (bakelaw3_SampRates.j2 k x0 x1 x2 x7 (decide ((wrap64 (Int.tdiv (wrap64 ((x0.length : Int) * x1)) x2)) > 100000)))) else (bakelaw3_SampRates.j2 k x0 x1 x2 x7 false)
def bakelaw3_SampRates.j2 : Nat → List Int → Int → Int → Int → Bool → Option (Bool)
  | 0, _, _, _, _, _ => none
  | k + 1, x0, x1, x2, x7, x47 => if x47 = true then (bakelaw3_SampRates.j3 k x0 x1 x2 6) else (bakelaw3_SampRates.j3 k x0 x1 x2 x7)
def bakelaw3_SampRates.j3 : Nat → List Int → Int → Int → Int → Option (Bool)
  | 0, _, _, _, _ => none
  | k + 1, x0, x1, x2, x7 => (samp_Resample.f k x0 x1 x2).bind fun bt127 => ((bakelaw3_heard.f k).bind fun t131 => (if t131 = true then (if bt127.2 = x7 then (if x7 = 0 then (bakelaw3_SampRates.j4 k x0 x1 x2 x7 bt127.1 false) else (bakelaw3_SampRates.j4 k x0 x1 x2 x7 bt127.1 (decide ((bt127.1.length : Int) > 0)))) else (bakelaw3_SampRates.j4 k x0 x1 x2 x7 bt127.1 true)) else (bakelaw3_SampRates.j4 k x0 x1 x2 x7 bt127.1 true)))
def bakelaw3_SampRates.j4 : Nat → List Int → Int → Int → Int → List Int → Bool → Option (Bool)
  | 0, _, _, _, _, _, _ => none
  | k + 1, x0, x1, x2, x7, x8, x70 => if x70 = true then (some false) else (if x7 = 0 then (if x2 = 0 then (none) else (bakelaw3_SampRates.j5 k x0 x1 x2 x8 ((x8.length : Int) != (wrap64 (Int.tdiv (wrap64 ((x0.length : Int) * x1)) x2))))) else (bakelaw3_SampRates.j5 k x0 x1 x2 x8 false))
def bakelaw3_SampRates.j5 : Nat → List Int → Int → Int → List Int → Bool → Option (Bool)
  | 0, _, _, _, _, _ => none
  | k + 1, x0, x1, x2, x8, x83 => if x83 = true then (some false) else (bakelaw3_SampRates.l0 k x0 x1 x2 x8 (x8.length : Int) 0)
def bakelaw3_SampRates.l0 : Nat → List Int → Int → Int → List Int → Int → Int → Option (Bool)
  | 0, _, _, _, _, _, _ => none
  | k + 1, x0, x1, x2, x84, x85, x86 => if x86 < x85 then (if 0 ≤ x86 then (if x86 < (x84.length : Int) then (if x86 < 60 then ((bakeref3_Upto.f k x0 (wrap64 ((wrap64 (x86 + 1)) * x2)) x1).bind fun t133 => ((bakeref3_Upto.f k x0 (wrap64 (x86 * x2)) x1).bind fun t134 => (if (rd x84 x86) = (wrap64 (t133 - t134)) then (bakelaw3_SampRates.l0 k x0 x1 x2 x84 x85 (wrap64 (x86 + 1))) else (some false)))) else (bakelaw3_SampRates.l0 k x0 x1 x2 x84 x85 (wrap64 (x86 + 1)))) else (none)) else (none)) else (some true)
end
def bakelaw3_SampRates.f (k : Nat) (l0 : List Int) (a1 : Int) (a2 : Int) : Option (Bool) := if 0 ≤ (mn (l0.length : Int) 200) then (if (mn (l0.length : Int) 200) ≤ (l0.length : Int) then ((bakelaw3_levelFault.f k (l0.take ((mn (l0.length : Int) 200) : Int).toNat)).bind fun t126 => (if t126 = 0 then (if a1 < 1 then (bakelaw3_SampRates.j0 k (l0.take ((mn (l0.length : Int) 200) : Int).toNat) a1 a2 t126 true) else (if a1 > 1000 then (bakelaw3_SampRates.j0 k (l0.take ((mn (l0.length : Int) 200) : Int).toNat) a1 a2 t126 true) else (if a2 < 1 then (bakelaw3_SampRates.j0 k (l0.take ((mn (l0.length : Int) 200) : Int).toNat) a1 a2 t126 true) else (bakelaw3_SampRates.j0 k (l0.take ((mn (l0.length : Int) 200) : Int).toNat) a1 a2 t126 (decide (a2 > 1000)))))) else (bakelaw3_SampRates.j0 k (l0.take ((mn (l0.length : Int) 200) : Int).toNat) a1 a2 t126 false))) else (none)) else (none)
theorem bakelaw3_SampRates.mono_l : ∀ k, (∀ y0 y1 y2 y3 y4, LeO (bakelaw3_SampRates.j0 k y0 y1 y2 y3 y4) (bakelaw3_SampRates.j0 (k + 1) y0 y1 y2 y3 y4)) ∧ (∀ y0 y1 y2 y3, LeO (bakelaw3_SampRates.j1 k y0 y1 y2 y3) (bakelaw3_SampRates.j1 (k + 1) y0 y1 y2 y3)) ∧ (∀ y0 y1 y2 y3 y4, LeO (bakelaw3_SampRates.j2 k y0 y1 y2 y3 y4) (bakelaw3_SampRates.j2 (k + 1) y0 y1 y2 y3 y4)) ∧ (∀ y0 y1 y2 y3, LeO (bakelaw3_SampRates.j3 k y0 y1 y2 y3) (bakelaw3_SampRates.j3 (k + 1) y0 y1 y2 y3)) ∧ (∀ y0 y1 y2 y3 y4 y5, LeO (bakelaw3_SampRates.j4 k y0 y1 y2 y3 y4 y5) (bakelaw3_SampRates.j4 (k + 1) y0 y1 y2 y3 y4 y5)) ∧ (∀ y0 y1 y2 y3 y4, LeO (bakelaw3_SampRates.j5 k y0 y1 y2 y3 y4) (bakelaw3_SampRates.j5 (k + 1) y0 y1 y2 y3 y4)) ∧ (∀ y0 y1 y2 y3 y4 y5, LeO (bakelaw3_SampRates.l0 k y0 y1 y2 y3 y4 y5) (bakelaw3_SampRates.l0 (k + 1) y0 y1 y2 y3 y4 y5))
  | 0 => ⟨fun _ _ _ _ _ r h => by simp [bakelaw3_SampRates.j0] at h, fun _ _ _ _ r h => by simp [bakelaw3_SampRates.j1] at h, fun _ _ _ _ _ r h => by simp [bakelaw3_SampRates.j2] at h, fun _ _ _ _ r h => by simp [bakelaw3_SampRates.j3] at h, fun _ _ _ _ _ _ r h => by simp [bakelaw3_SampRates.j4] at h, fun _ _ _ _ _ r h => by simp [bakelaw3_SampRates.j5] at h, fun _ _ _ _ _ _ r h => by simp [bakelaw3_SampRates.l0] at h⟩
  | k + 1 => by
    obtain ⟨ih0, ih1, ih2, ih3, ih4, ih5, ih6⟩ := bakelaw3_SampRates.mono_l k
    refine ⟨?_, ?_, ?_, ?_, ?_, ?_, ?_⟩
    · intro y0 y1 y2 y3 y4
      unfold bakelaw3_SampRates.j0
      repeat' first
      | (with_reducible exact ih0 _ _ _ _ _)
      | (with_reducible exact ih1 _ _ _ _)
      | (with_reducible exact ih2 _ _ _ _ _)
      | (with_reducible exact ih3 _ _ _ _)
      | (with_reducible exact ih4 _ _ _ _ _ _)
      | (with_reducible exact ih5 _ _ _ _ _)
      | (with_reducible exact ih6 _ _ _ _ _ _)
      | (with_reducible exact bakelaw3_heard.mono _)
      | (with_reducible exact bakelaw3_levelFault.mono _ _)
      | (with_reducible exact bakeref3_Upto.mono _ _ _ _)
      | (with_reducible exact samp_Resample.mono _ _ _ _)
      | (with_reducible exact LeO.refl _)
      | (with_reducible exact LeO.none _)
      | (with_reducible refine LeO.ite ?_ ?_)
      | (with_reducible refine LeO.bind ?_ (fun _ => ?_))
      | exact ih0 _ _ _ _ _
      | exact ih1 _ _ _ _
      | exact ih2 _ _ _ _ _
      | exact ih3 _ _ _ _
      | exact ih4 _ _ _ _ _ _
      | exact ih5 _ _ _ _ _
      | exact ih6 _ _ _ _ _ _
      | exact bakelaw3_heard.mono _
      | exact bakelaw3_levelFault.mono _ _
      | exact bakeref3_Upto.mono _ _ _ _
      | exact samp_Resample.mono _ _ _ _
      | exact LeO.none _
      | refine LeO.ite ?_ ?_
      | refine LeO.bind ?_ (fun _ => ?_)
    · intro y0 y1 y2 y3
      unfold bakelaw3_SampRates.j1
      repeat' first
      | (with_reducible exact ih0 _ _ _ _ _)
      | (with_reducible exact ih1 _ _ _ _)
      | (with_reducible exact ih2 _ _ _ _ _)
      | (with_reducible exact ih3 _ _ _ _)
      | (with_reducible exact ih4 _ _ _ _ _ _)
      | (with_reducible exact ih5 _ _ _ _ _)
      | (with_reducible exact ih6 _ _ _ _ _ _)
      | (with_reducible exact bakelaw3_heard.mono _)
      | (with_reducible exact bakelaw3_levelFault.mono _ _)
      | (with_reducible exact bakeref3_Upto.mono _ _ _ _)
      | (with_reducible exact samp_Resample.mono _ _ _ _)
      | (with_reducible exact LeO.refl _)
      | (with_reducible exact LeO.none _)
      | (with_reducible refine LeO.ite ?_ ?_)
      | (with_reducible refine LeO.bind ?_ (fun _ => ?_))
      | exact ih0 _ _ _ _ _
      | exact ih1 _ _ _ _
      | exact ih2 _ _ _ _ _
      | exact ih3 _ _ _ _
      | exact ih4 _ _ _ _ _ _
      | exact ih5 _ _ _ _ _
      | exact ih6 _ _ _ _ _ _
      | exact bakelaw3_heard.mono _
      | exact bakelaw3_levelFault.mono _ _
      | exact bakeref3_Upto.mono _ _ _ _
      | exact samp_Resample.mono _ _ _ _
      | exact LeO.none _
      | refine LeO.ite ?_ ?_
      | refine LeO.bind ?_ (fun _ => ?_)
    · intro y0 y1 y2 y3 y4
      unfold bakelaw3_SampRates.j2
      repeat' first
      | (with_reducible exact ih0 _ _ _ _ _)
      | (with_reducible exact ih1 _ _ _ _)
      | (with_reducible exact ih2 _ _ _ _ _)
      | (with_reducible exact ih3 _ _ _ _)
      | (with_reducible exact ih4 _ _ _ _ _ _)
      | (with_reducible exact ih5 _ _ _ _ _)
      | (with_reducible exact ih6 _ _ _ _ _ _)
      | (with_reducible exact bakelaw3_heard.mono _)
      | (with_reducible exact bakelaw3_levelFault.mono _ _)
      | (with_reducible exact bakeref3_Upto.mono _ _ _ _)
      | (with_reducible exact samp_Resample.mono _ _ _ _)
      | (with_reducible exact LeO.refl _)
      | (with_reducible exact LeO.none _)
      | (with_reducible refine LeO.ite ?_ ?_)
      | (with_reducible refine LeO.bind ?_ (fun _ => ?_))
      | exact ih0 _ _ _ _ _
      | exact ih1 _ _ _ _
      | exact ih2 _ _ _ _ _
      | exact ih3 _ _ _ _
      | exact ih4 _ _ _ _ _ _
      | exact ih5 _ _ _ _ _
      | exact ih6 _ _ _ _ _ _
      | exact bakelaw3_heard.mono _
      | exact bakelaw3_levelFault.mono _ _
      | exact bakeref3_Upto.mono _ _ _ _
      | exact samp_Resample.mono _ _ _ _
      | exact LeO.none _
      | refine LeO.ite ?_ ?_
      | refine LeO.bind ?_ (fun _ => ?_)
    · intro y0 y1 y2 y3
      unfold bakelaw3_SampRates.j3
      repeat' first
      | (with_reducible exact ih0 _ _ _ _ _)
      | (with_reducible exact ih1 _ _ _ _)
      | (with_reducible exact ih2 _ _ _ _ _)
      | (with_reducible exact ih3 _ _ _ _)
      | (with_reducible exact ih4 _ _ _ _ _ _)
      | (with_reducible exact ih5 _ _ _ _ _)
      | (with_reducible exact ih6 _ _ _ _ _ _)
      | (with_reducible exact bakelaw3_heard.mono _)
      | (with_reducible exact bakelaw3_levelFault.mono _ _)
      | (with_reducible exact bakeref3_Upto.mono _ _ _ _)
      | (with_reducible exact samp_Resample.mono _ _ _ _)
      | (with_reducible exact LeO.refl _)
      | (with_reducible exact LeO.none _)
      | (with_reducible refine LeO.ite ?_ ?_)
      | (with_reducible refine LeO.bind ?_ (fun _ => ?_))
      | exact ih0 _ _ _ _ _
      | exact ih1 _ _ _ _
      | exact ih2 _ _ _ _ _
      | exact ih3 _ _ _ _
      | exact ih4 _ _ _ _ _ _
      | exact ih5 _ _ _ _ _
      | exact ih6 _ _ _ _ _ _
      | exact bakelaw3_heard.mono _
      | exact bakelaw3_levelFault.mono _ _
      | exact bakeref3_Upto.mono _ _ _ _
      | exact samp_Resample.mono _ _ _ _
      | exact LeO.none _
      | refine LeO.ite ?_ ?_
      | refine LeO.bind ?_ (fun _ => ?_)
    · intro y0 y1 y2 y3 y4 y5
      unfold bakelaw3_SampRates.j4
      repeat' first
      | (with_reducible exact ih0 _ _ _ _ _)
      | (with_reducible exact ih1 _ _ _ _)
      | (with_reducible exact ih2 _ _ _ _ _)
      | (with_reducible exact ih3 _ _ _ _)
      | (with_reducible exact ih4 _ _ _ _ _ _)
      | (with_reducible exact ih5 _ _ _ _ _)
      | (with_reducible exact ih6 _ _ _ _ _ _)
      | (with_reducible exact bakelaw3_heard.mono _)
      | (with_reducible exact bakelaw3_levelFault.mono _ _)
      | (with_reducible exact bakeref3_Upto.mono _ _ _ _)
      | (with_reducible exact samp_Resample.mono _ _ _ _)
      | (with_reducible exact LeO.refl _)
      | (with_reducible exact LeO.none _)
      | (with_reducible refine LeO.ite ?_ ?_)
      | (with_reducible refine LeO.bind ?_ (fun _ => ?_))
      | exact ih0 _ _ _ _ _
      | exact ih1 _ _ _ _
      | exact ih2 _ _ _ _ _
      | exact ih3 _ _ _ _
      | exact ih4 _ _ _ _ _ _
      | exact ih5 _ _ _ _ _
      | exact ih6 _ _ _ _ _ _
      | exact bakelaw3_heard.mono _
      | exact bakelaw3_levelFault.mono _ _
      | exact bakeref3_Upto.mono _ _ _ _
      | exact samp_Resample.mono _ _ _ _
      | exact LeO.none _
      | refine LeO.ite ?_ ?_
      | refine LeO.bind ?_ (fun _ => ?_)
    · intro y0 y1 y2 y3 y4
      unfold bakelaw3_SampRates.j5
      repeat' first
      | (with_reducible exact ih0 _ _ _ _ _)
      | (with_reducible exact ih1 _ _ _ _)
      | (with_reducible exact ih2 _ _ _ _ _)
      | (with_reducible exact ih3 _ _ _ _)
      | (with_reducible exact ih4 _ _ _ _ _ _)
      | (with_reducible exact ih5 _ _ _ _ _)
      | (with_reducible exact ih6 _ _ _ _ _ _)
      | (with_reducible exact bakelaw3_heard.mono _)
      | (with_reducible exact bakelaw3_levelFault.mono _ _)
      | (with_reducible exact bakeref3_Upto.mono _ _ _ _)
      | (with_reducible exact samp_Resample.mono _ _ _ _)
      | (with_reducible exact LeO.refl _)
      | (with_reducible exact LeO.none _)
      | (with_reducible refine LeO.ite ?_ ?_)
      | (with_reducible refine LeO.bind ?_ (fun _ => ?_))
      | exact ih0 _ _ _ _ _
      | exact ih1 _ _ _ _
      | exact ih2 _ _ _ _ _
      | exact ih3 _ _ _ _
      | exact ih4 _ _ _ _ _ _
      | exact ih5 _ _ _ _ _
      | exact ih6 _ _ _ _ _ _
      | exact bakelaw3_heard.mono _
      | exact bakelaw3_levelFault.mono _ _
      | exact bakeref3_Upto.mono _ _ _ _
      | exact samp_Resample.mono _ _ _ _
      | exact LeO.none _
      | refine LeO.ite ?_ ?_
      | refine LeO.bind ?_ (fun _ => ?_)
    · intro y0 y1 y2 y3 y4 y5
      unfold bakelaw3_SampRates.l0
      repeat' first
      | (with_reducible exact ih0 _ _ _ _ _)
      | (with_reducible exact ih1 _ _ _ _)
      | (with_reducible exact ih2 _ _ _ _ _)
      | (with_reducible exact ih3 _ _ _ _)
      | (with_reducible exact ih4 _ _ _ _ _ _)
      | (with_reducible exact ih5 _ _ _ _ _)
      | (with_reducible exact ih6 _ _ _ _ _ _)
      | (with_reducible exact bakelaw3_heard.mono _)
      | (with_reducible exact bakelaw3_levelFault.mono _ _)
      | (with_reducible exact bakeref3_Upto.mono _ _ _ _)
      | (with_reducible exact samp_Resample.mono _ _ _ _)
      | (with_reducible exact LeO.refl _)
      | (with_reducible exact LeO.none _)
      | (with_reducible refine LeO.ite ?_ ?_)
      | (with_reducible refine LeO.bind ?_ (fun _ => ?_))
      | exact ih0 _ _ _ _ _
      | exact ih1 _ _ _ _
      | exact ih2 _ _ _ _ _
      | exact ih3 _ _ _ _
      | exact ih4 _ _ _ _ _ _
      | exact ih5 _ _ _ _ _
      | exact ih6 _ _ _ _ _ _
      | exact bakelaw3_heard.mono _
      | exact bakelaw3_levelFault.mono _ _
      | exact bakeref3_Upto.mono _ _ _ _
      | exact samp_Resample.mono _ _ _ _
      | exact LeO.none _
      | refine LeO.ite ?_ ?_
      | refine LeO.bind ?_ (fun _ => ?_)
theorem bakelaw3_SampRates.mono : ∀ a0 a1 a2 k, LeO (bakelaw3_SampRates.f k a0 a1 a2) (bakelaw3_SampRates.f (k + 1) a0 a1 a2) := by
  intro a0 a1 a2 k
  obtain ⟨ih0, ih1, ih2, ih3, ih4, ih5, ih6⟩ := bakelaw3_SampRates.mono_l k
  unfold bakelaw3_SampRates.f
  repeat' first
      | (with_reducible exact ih0 _ _ _ _ _)
      | (with_reducible exact ih1 _ _ _ _)
      | (with_reducible exact ih2 _ _ _ _ _)
      | (with_reducible exact ih3 _ _ _ _)
      | (with_reducible exact ih4 _ _ _ _ _ _)
      | (with_reducible exact ih5 _ _ _ _ _)
      | (with_reducible exact ih6 _ _ _ _ _ _)
      | (with_reducible exact bakelaw3_heard.mono _)
      | (with_reducible exact bakelaw3_levelFault.mono _ _)
      | (with_reducible exact bakeref3_Upto.mono _ _ _ _)
      | (with_reducible exact samp_Resample.mono _ _ _ _)
      | (with_reducible exact LeO.refl _)
      | (with_reducible exact LeO.none _)
      | (with_reducible refine LeO.ite ?_ ?_)
      | (with_reducible refine LeO.bind ?_ (fun _ => ?_))
      | exact ih0 _ _ _ _ _
      | exact ih1 _ _ _ _
      | exact ih2 _ _ _ _ _
      | exact ih3 _ _ _ _
      | exact ih4 _ _ _ _ _ _
      | exact ih5 _ _ _ _ _
      | exact ih6 _ _ _ _ _ _
      | exact bakelaw3_heard.mono _
      | exact bakelaw3_levelFault.mono _ _
      | exact bakeref3_Upto.mono _ _ _ _
      | exact samp_Resample.mono _ _ _ _
      | exact LeO.none _
      | refine LeO.ite ?_ ?_
      | refine LeO.bind ?_ (fun _ => ?_)
set_option maxHeartbeats 8000000 in
set_option maxRecDepth 100000 in
theorem bakelaw3_SampRates.calls (k : Nat) (A0 : Option Addr) (c0 : Nat) (l0 : List Int) (a1 : Int) (a2 : Int) (r : Bool) (w : World) (hr0 : Kd.C (Kd.int .i64) w A0 l0.length l0) (hc0 : l0.length ≤ c0) (h : bakelaw3_SampRates.f k l0 a1 a2 = some r) :
    Calls Try.prog 3 #[.slice A0 l0.length c0, .int .i64 a1, .int .i64 a2] w fun e w' => e = .returned (.bool r) ∧ Below w.heap.size w w' := by
  have HR0 := Aside0.mk hr0
  have HC0 := Aside0.mk hc0
  clear hr0 hc0
  have HB := Aside0.mk (Below.refl w.heap.size w)
  have H : (if 0 ≤ (mn (l0.length : Int) 200) then (if (mn (l0.length : Int) 200) ≤ (l0.length : Int) then ((bakelaw3_levelFault.f k (l0.take ((mn (l0.length : Int) 200) : Int).toNat)).bind fun t126 => (if t126 = 0 then (if a1 < 1 then (bakelaw3_SampRates.j0 k (l0.take ((mn (l0.length : Int) 200) : Int).toNat) a1 a2 t126 true) else (if a1 > 1000 then (bakelaw3_SampRates.j0 k (l0.take ((mn (l0.length : Int) 200) : Int).toNat) a1 a2 t126 true) else (if a2 < 1 then (bakelaw3_SampRates.j0 k (l0.take ((mn (l0.length : Int) 200) : Int).toNat) a1 a2 t126 true) else (bakelaw3_SampRates.j0 k (l0.take ((mn (l0.length : Int) 200) : Int).toNat) a1 a2 t126 (decide (a2 > 1000)))))) else (bakelaw3_SampRates.j0 k (l0.take ((mn (l0.length : Int) 200) : Int).toNat) a1 a2 t126 false))) else (none)) else (none)) = some r := h
  clear h
  obtain ⟨ji4, hji4⟩ : ∃ j_ : Int, (mn (l0.length : Int) 200) = j_ := ⟨_, rfl⟩
  replace H : (if 0 ≤ (ji4) then (if (ji4) ≤ (l0.length : Int) then ((bakelaw3_levelFault.f k (l0.take ((ji4) : Int).toNat)).bind fun t126 => (if t126 = 0 then (if a1 < 1 then (bakelaw3_SampRates.j0 k (l0.take ((ji4) : Int).toNat) a1 a2 t126 true) else (if a1 > 1000 then (bakelaw3_SampRates.j0 k (l0.take ((ji4) : Int).toNat) a1 a2 t126 true) else (if a2 < 1 then (bakelaw3_SampRates.j0 k (l0.take ((ji4) : Int).toNat) a1 a2 t126 true) else (bakelaw3_SampRates.j0 k (l0.take ((ji4) : Int).toNat) a1 a2 t126 (decide (a2 > 1000)))))) else (bakelaw3_SampRates.j0 k (l0.take ((ji4) : Int).toNat) a1 a2 t126 false))) else (none)) else (none)) = some r := by first | (rw [hji4] at H; exact H) | (simp only [hji4] at H ⊢; exact H)
  (try (have hji4h : ji4 ≤ 200 := by (rw [← hji4]; unfold mn; (repeat' split) <;> omega)))
  (try (have hji4g : ji4 ≤ 64 := by omega))
  (try (have hji4l : 0 ≤ ji4 := by (rw [← hji4]; unfold mn; (repeat' split) <;> omega)))
  (try (have hji4m : 0 ≤ ji4 := by omega))
  have hji4_ : (if 200 < (l0.length : Int) then 200 else (l0.length : Int)) = ji4 := hji4
  have hjlk : decide (ji4 ≤ (l0.length : Int)) = true := decide_eq_true (by rw [← hji4]; unfold mn; split <;> omega)
  have hjl0 : decide (0 ≤ ji4) = true := decide_eq_true (by rw [← hji4]; unfold mn; split <;> omega)
  by_cases c5 : 0 ≤ (ji4)
  · rw [if_pos c5] at H
    have c5b0 := eq_true c5
    have c5b1 : decide (0 ≤ (ji4)) = true := decide_eq_true c5
    clear c5
    by_cases c6 : (ji4) ≤ (l0.length : Int)
    · rw [if_pos c6] at H
      have c6b0 := eq_true c6
      have c6b1 : decide ((ji4) ≤ (l0.length : Int)) = true := decide_eq_true c6
      clear c6
      replace H := Option.bind_eq_some_iff.mp H
      obtain ⟨t126, A70, H⟩ := H
      replace H : (if t126 = 0 then (if a1 < 1 then (bakelaw3_SampRates.j0 k (l0.take ((ji4) : Int).toNat) a1 a2 t126 true) else (if a1 > 1000 then (bakelaw3_SampRates.j0 k (l0.take ((ji4) : Int).toNat) a1 a2 t126 true) else (if a2 < 1 then (bakelaw3_SampRates.j0 k (l0.take ((ji4) : Int).toNat) a1 a2 t126 true) else (bakelaw3_SampRates.j0 k (l0.take ((ji4) : Int).toNat) a1 a2 t126 (decide (a2 > 1000)))))) else (bakelaw3_SampRates.j0 k (l0.take ((ji4) : Int).toNat) a1 a2 t126 false)) = some r := H
      have A7 := Aside0.mk A70
      clear A70
      have HC8 := Aside0.mk H
      clear H
      obtain ⟨i09, hi09, _, hsz9, _⟩ := info_parts info3
      obtain ⟨hcut9, hA9, hC9⟩ := print_take_of (P := Try.prog) (Value.int .i64) 0 22 3 .i64 Try.underlying22 hi09 hsz9 A0 c0 l0 (ji4) (of_decide_eq_true (by first | (with_reducible assumption) | assumption)) (of_decide_eq_true (by first | (with_reducible assumption) | assumption)) HC0.out
      have HR125 := Aside0.mk (Kd.C_of_reads (h1 := fun _ => rfl) (hA9 _ (Kd.reads_of_C HR0.out)))
      have HC125 := Aside0.mk hC9
      clear hA9 hC9 hi09 hsz9
      go_enter Try.func3, Try.ntmps3
      go_upto_region 3 with (first | ((with_reducible refine gate_callee (f := 15) rfl ?_); refine goesL_ (some 18) rfl rfl Try.func15 (by kernel_rfl) rfl #[.slice A0 (l0.take ((ji4) : Int).toNat).length c0] rfl (by (try simp only [List.map_toArray, List.map_cons, List.map_nil]); first | done | (rw [show (l0.take ((ji4) : Int).toNat).length = (ji4).toNat from (by rw [List.length_take]; have h_ : ((ji4) : Int) ≤ (l0.length : Int) := of_decide_eq_true (by first | (with_reducible assumption) | assumption); omega)] <;> rfl) | (simp only [hji4]; rfl) | rfl | (simp only [List.length_drop, List.length_take]; rfl)) ?_; (with_reducible refine (bakelaw3_levelFault.calls k _ _ (l0.take ((ji4) : Int).toNat) t126 _ ?side1 ?side2 A7.out).mono ?_); (case side1 => repeat (first | exact HR125.out | (with_reducible refine Kd.C_alloc ?_ _) | (with_reducible refine Kd.C_drewN ?_ _) | (with_reducible refine Kd.C_drew ?_))); (case side2 => exact HC125.out); rintro e w' ⟨rfl, ⟨nd, rfl⟩⟩; refine ⟨_, rfl, ?_⟩))
      (try simp only [Act.put, List.setIfInBounds_toArray, List.set_cons_zero, List.set_cons_succ])
      go_cut [36] (fun v36 wc => ∃ (kq : Nat) (x36_7 : Bool), v36 = .bool x36_7 ∧ Aside0 (bakelaw3_SampRates.j0 kq (l0.take ((ji4) : Int).toNat) a1 a2 t126 x36_7 = some r) ∧ Aside0 (kq ≤ k) ∧ Aside0 (Below w.heap.size w wc))
      case first =>
        have H := HC8.out
        clear HC8
        by_cases c10 : t126 = 0
        · rw [if_pos c10] at H
          have c10b0 : (t126 == 0) = true := beq_iff_eq.mpr c10
          have c10b1 : (t126 != 0) = false := bne_eq_false_iff_eq.mpr c10
          clear c10
          (first | rw [c10b0] | (simp only [i64_w, i32_w]; rw [c10b0]) | skip)
          by_cases c11 : a1 < 1
          · rw [if_pos c11] at H
            have c11b0 : decide (a1 < 1) = true := decide_eq_true c11
            clear c11
            have H' := Aside0.mk H
            clear H
            go_wp2
            go_meet
            case rel => exact ⟨_, (true), (by first | rfl | (simp; done) | (simp [*]; done)), H', ⟨by first | omega | exact Nat.le_refl _⟩, ⟨by repeat (first | (with_reducible first | exact HB.out | apply below_alloc | apply pw_below_drewN | apply below_drew1) | exact HB.out)⟩⟩
          · rw [if_neg c11] at H
            have c11b0 : decide (a1 < 1) = false := decide_eq_false c11
            clear c11
            by_cases c12 : a1 > 1000
            · rw [if_pos c12] at H
              have c12b0 : decide (1000 < a1) = true := decide_eq_true c12
              clear c12
              have H' := Aside0.mk H
              clear H
              go_wp2
              go_meet
              case rel => exact ⟨_, (true), (by first | rfl | (simp; done) | (simp [*]; done)), H', ⟨by first | omega | exact Nat.le_refl _⟩, ⟨by repeat (first | (with_reducible first | exact HB.out | apply below_alloc | apply pw_below_drewN | apply below_drew1) | exact HB.out)⟩⟩
            · rw [if_neg c12] at H
              have c12b0 : decide (1000 < a1) = false := decide_eq_false c12
              clear c12
              by_cases c13 : a2 < 1
              · rw [if_pos c13] at H
                have c13b0 : decide (a2 < 1) = true := decide_eq_true c13
                clear c13
                have H' := Aside0.mk H
                clear H
                go_wp2
                go_meet
                case rel => exact ⟨_, (true), (by first | rfl | (simp; done) | (simp [*]; done)), H', ⟨by first | omega | exact Nat.le_refl _⟩, ⟨by repeat (first | (with_reducible first | exact HB.out | apply below_alloc | apply pw_below_drewN | apply below_drew1) | exact HB.out)⟩⟩
              · rw [if_neg c13] at H
                have c13b0 : decide (a2 < 1) = false := decide_eq_false c13
                clear c13
                have H' := Aside0.mk H
                clear H
                go_wp2
                go_meet
                case rel => exact ⟨_, (decide (a2 > 1000)), (by first | rfl | (simp; done) | (simp [*]; done)), H', ⟨by first | omega | exact Nat.le_refl _⟩, ⟨by repeat (first | (with_reducible first | exact HB.out | apply below_alloc | apply pw_below_drewN | apply below_drew1) | exact HB.out)⟩⟩
        · rw [if_neg c10] at H
          have c10b0 : (t126 == 0) = false := beq_eq_false_iff_ne.mpr c10
          have c10b1 : (t126 != 0) = true := bne_iff_ne.mpr c10
          (first | rw [c10b0] | (simp only [i64_w, i32_w]; rw [c10b0]) | skip)
          have H' := Aside0.mk H
          clear H
          go_wp2
          go_meet
          case rel => exact ⟨_, (false), (by first | rfl | (simp; done) | (simp [*]; done)), H', ⟨by first | omega | exact Nat.le_refl _⟩, ⟨by repeat (first | (with_reducible first | exact HB.out | apply below_alloc | apply pw_below_drewN | apply below_drew1) | exact HB.out)⟩⟩
      case rest =>
        clear HC8
        try clear c1
        try clear p2
        try clear c3
        try clear c5
        try clear c5b0
        try clear c5b1
        try clear c6
        try clear c6b0
        try clear c6b1
        try clear c10
        try clear c10b0
        try clear c10b1
        try clear c11
        try clear c11b0
        try clear c12
        try clear c12b0
        try clear c13
        try clear c13b0
        obtain ⟨kq, x36_7, rfl, HA, HJ7, HB⟩ := hcut
        cases kq with
        | zero => exact absurd HA.out (by simp [bakelaw3_SampRates.j0])
        | succ kj7 =>
          have H := HA.out
          clear HA
          simp only [bakelaw3_SampRates.j0] at H
          have HC14 := Aside0.mk H
          clear H
          go_upto_if 36 with (fail)
          go_cut [7] (fun v7 wc => ∃ (kq : Nat) (x7_13 : Int), v7 = .int .i64 x7_13 ∧ Aside0 (bakelaw3_SampRates.j1 kq (l0.take ((ji4) : Int).toNat) a1 a2 x7_13 = some r) ∧ Aside0 (kq ≤ kj7) ∧ Aside0 (Below w.heap.size w wc))
          case first =>
            have H := HC14.out
            clear HC14
            by_cases c15 : x36_7 = true
            · subst c15
              have H1 : (bakelaw3_SampRates.j1 kj7 (l0.take ((ji4) : Int).toNat) a1 a2 1) = some r := by rw [if_pos rfl] at H; exact H
              clear H
              have H := H1
              clear H1
              have H' := Aside0.mk H
              clear H
              go_wp2
              go_meet
              case rel => exact ⟨_, (1), (by first | rfl | (simp; done) | (simp [*]; done)), H', ⟨by have := HJ7.out; first | omega | exact Nat.le_refl _⟩, ⟨by repeat (first | (with_reducible first | exact HB.out | apply below_alloc | apply pw_below_drewN | apply below_drew1) | exact HB.out)⟩⟩
            · replace c15 := Bool.eq_false_iff.mpr c15
              subst c15
              have H1 : (bakelaw3_SampRates.j1 kj7 (l0.take ((ji4) : Int).toNat) a1 a2 t126) = some r := by rw [if_neg (show ¬ (false = true) by decide)] at H; exact H
              clear H
              have H := H1
              clear H1
              have H' := Aside0.mk H
              clear H
              go_wp2
              go_meet
              case rel => exact ⟨_, (t126), (by first | rfl | (simp; done) | (simp [*]; done)), H', ⟨by have := HJ7.out; first | omega | exact Nat.le_refl _⟩, ⟨by repeat (first | (with_reducible first | exact HB.out | apply below_alloc | apply pw_below_drewN | apply below_drew1) | exact HB.out)⟩⟩
          case rest =>
            clear HC14
            try clear c1
            try clear p2
            try clear c3
            try clear c5
            try clear c5b0
            try clear c5b1
            try clear c6
            try clear c6b0
            try clear c6b1
            try clear c10
            try clear c10b0
            try clear c10b1
            try clear c11
            try clear c11b0
            try clear c12
            try clear c12b0
            try clear c13
            try clear c13b0
            try clear c15
            try clear p2
            obtain ⟨kq, x7_13, rfl, HA, HJ13, HB⟩ := hcut
            cases kq with
            | zero => exact absurd HA.out (by simp [bakelaw3_SampRates.j1])
            | succ kj13 =>
              have H := HA.out
              clear HA
              simp only [bakelaw3_SampRates.j1] at H
              have HC16 := Aside0.mk H
              clear H
              go_upto_region 5 with (fail)
              go_cut [47] (fun v47 wc => ∃ (kq : Nat) (x47_15 : Bool), v47 = .bool x47_15 ∧ Aside0 (bakelaw3_SampRates.j2 kq (l0.take ((ji4) : Int).toNat) a1 a2 x7_13 x47_15 = some r) ∧ Aside0 (kq ≤ kj13) ∧ Aside0 (Below w.heap.size w wc))
              case first =>
                have H := HC16.out
                clear HC16
                by_cases c17 : x7_13 = 0
                · rw [if_pos c17] at H
                  have c17b0 : (x7_13 == 0) = true := beq_iff_eq.mpr c17
                  have c17b1 : (x7_13 != 0) = false := bne_eq_false_iff_eq.mpr c17
                  clear c17
                  (first | rw [c17b0] | (simp only [i64_w, i32_w]; rw [c17b0]) | skip)
                  by_cases c18 : a2 = 0
                  · rw [if_pos c18] at H
                    exact absurd H (by simp)
                  · rw [if_neg c18] at H
                    have c18b0 : (a2 == 0) = false := beq_eq_false_iff_ne.mpr c18
                    have c18b1 : (a2 != 0) = true := bne_iff_ne.mpr c18
                    have H' := Aside0.mk H
                    clear H
                    go_wp2
                    go_meet
                    have HEL_ := Aside0.mk (show ((((l0.take ((ji4) : Int).toNat)).length : Nat) : Int) = ji4 by have h_ : ((ji4) : Int) ≤ (l0.length : Int) := of_decide_eq_true hjlk; have h0_ : 0 ≤ ji4 := of_decide_eq_true hjl0; rw [List.length_take]; omega)
                    have HEZ_ := Aside0.mk (show ((ji4.toNat : Nat) : Int) = ji4 by have h0_ : 0 ≤ ji4 := of_decide_eq_true hjl0; omega)
                    have HEM_ := Aside0.mk (show max ji4 0 = ji4 by have h0_ : 0 ≤ ji4 := of_decide_eq_true hjl0; omega)
                    case rel => exact ⟨_, (decide ((wrap64 (Int.tdiv (wrap64 (((l0.take ((ji4) : Int).toNat).length : Int) * a1)) a2)) > 100000)), (by first | rfl | (simp only [HEL_.out, HEZ_.out, HEM_.out] <;> (first | rfl | (simp; done))) | (simp; done) | (simp only [← hji4] <;> (first | rfl | simp)) | (simp [*]; done)), H', ⟨by have := HJ7.out; have := HJ13.out; first | omega | exact Nat.le_refl _⟩, ⟨by repeat (first | (with_reducible first | exact HB.out | apply below_alloc | apply pw_below_drewN | apply below_drew1) | exact HB.out)⟩⟩
                · rw [if_neg c17] at H
                  have c17b0 : (x7_13 == 0) = false := beq_eq_false_iff_ne.mpr c17
                  have c17b1 : (x7_13 != 0) = true := bne_iff_ne.mpr c17
                  (first | rw [c17b0] | (simp only [i64_w, i32_w]; rw [c17b0]) | skip)
                  have H' := Aside0.mk H
                  clear H
                  go_wp2
                  go_meet
                  case rel => exact ⟨_, (false), (by first | rfl | (simp; done) | (simp [*]; done)), H', ⟨by have := HJ7.out; have := HJ13.out; first | omega | exact Nat.le_refl _⟩, ⟨by repeat (first | (with_reducible first | exact HB.out | apply below_alloc | apply pw_below_drewN | apply below_drew1) | exact HB.out)⟩⟩
              case rest =>
                clear HC16
                try clear c1
                try clear p2
                try clear c3
                try clear c5
                try clear c5b0
                try clear c5b1
                try clear c6
                try clear c6b0
                try clear c6b1
                try clear p6
                try clear c10
                try clear c10b0
                try clear c10b1
                try clear c11
                try clear c11b0
                try clear c12
                try clear c12b0
                try clear c13
                try clear c13b0
                try clear c15
                try clear c17
                try clear c17b0
                try clear c17b1
                try clear c18
                try clear c18b0
                try clear c18b1
                try clear p2
                obtain ⟨kq, x47_15, rfl, HA, HJ15, HB⟩ := hcut
                cases kq with
                | zero => exact absurd HA.out (by simp [bakelaw3_SampRates.j2])
                | succ kj15 =>
                  have H := HA.out
                  clear HA
                  simp only [bakelaw3_SampRates.j2] at H
                  have HC19 := Aside0.mk H
                  clear H
                  go_upto_if 47 with (fail)
                  go_cut [7] (fun v7 wc => ∃ (kq : Nat) (x7_18 : Int), v7 = .int .i64 x7_18 ∧ Aside0 (bakelaw3_SampRates.j3 kq (l0.take ((ji4) : Int).toNat) a1 a2 x7_18 = some r) ∧ Aside0 (kq ≤ kj15) ∧ Aside0 (Below w.heap.size w wc))
                  case first =>
                    have H := HC19.out
                    clear HC19
                    by_cases c20 : x47_15 = true
                    · subst c20
                      have H1 : (bakelaw3_SampRates.j3 kj15 (l0.take ((ji4) : Int).toNat) a1 a2 6) = some r := by rw [if_pos rfl] at H; exact H
                      clear H
                      have H := H1
                      clear H1
                      have H' := Aside0.mk H
                      clear H
                      go_wp2
                      go_meet
                      case rel => exact ⟨_, (6), (by first | rfl | (simp; done) | (simp [*]; done)), H', ⟨by have := HJ7.out; have := HJ13.out; have := HJ15.out; first | omega | exact Nat.le_refl _⟩, ⟨by repeat (first | (with_reducible first | exact HB.out | apply below_alloc | apply pw_below_drewN | apply below_drew1) | exact HB.out)⟩⟩
                    · replace c20 := Bool.eq_false_iff.mpr c20
                      subst c20
                      have H1 : (bakelaw3_SampRates.j3 kj15 (l0.take ((ji4) : Int).toNat) a1 a2 x7_13) = some r := by rw [if_neg (show ¬ (false = true) by decide)] at H; exact H
                      clear H
                      have H := H1
                      clear H1
                      have H' := Aside0.mk H
                      clear H
                      go_wp2
                      go_meet
                      case rel => exact ⟨_, (x7_13), (by first | rfl | (simp; done) | (simp [*]; done)), H', ⟨by have := HJ7.out; have := HJ13.out; have := HJ15.out; first | omega | exact Nat.le_refl _⟩, ⟨by repeat (first | (with_reducible first | exact HB.out | apply below_alloc | apply pw_below_drewN | apply below_drew1) | exact HB.out)⟩⟩
                  case rest =>
                    clear HC19
                    try clear c1
                    try clear c2
                    try clear p2
                    try clear c3
                    try clear c5
                    try clear c5b0
                    try clear c5b1
                    try clear c6
                    try clear c6b0
                    try clear c6b1
                    try clear p6
                    try clear c10
                    try clear c10b0
                    try clear c10b1
                    try clear c11
                    try clear c11b0
                    try clear c12
                    try clear c12b0
                    try clear c13
                    try clear c13b0
                    try clear c15
                    try clear c17
                    try clear c17b0
                    try clear c17b1
                    try clear c18
                    try clear c18b0
                    try clear c18b1
                    try clear c20
                    try clear p2
                    try clear p6
                    obtain ⟨kq, x7_18, rfl, HA, HJ18, HB⟩ := hcut
                    cases kq with
                    | zero => exact absurd HA.out (by simp [bakelaw3_SampRates.j3])
                    | succ kj18 =>
                      have H := HA.out
                      clear HA
                      simp only [bakelaw3_SampRates.j3] at H
                      replace H := Option.bind_eq_some_iff.mp H
                      obtain ⟨⟨t127, t128⟩, A210, H⟩ := H
                      replace H : ((bakelaw3_heard.f kj18).bind fun t131 => (if t131 = true then (if t128 = x7_18 then (if x7_18 = 0 then (bakelaw3_SampRates.j4 kj18 (l0.take ((ji4) : Int).toNat) a1 a2 x7_18 t127 false) else (bakelaw3_SampRates.j4 kj18 (l0.take ((ji4) : Int).toNat) a1 a2 x7_18 t127 (decide ((t127.length : Int) > 0)))) else (bakelaw3_SampRates.j4 kj18 (l0.take ((ji4) : Int).toNat) a1 a2 x7_18 t127 true)) else (bakelaw3_SampRates.j4 kj18 (l0.take ((ji4) : Int).toNat) a1 a2 x7_18 t127 true))) = some r := H
                      have A21 := Aside0.mk A210
                      clear A210
                      have HC22 := Aside0.mk H
                      clear H
                      go_upto_region 8 with (first | ((with_reducible refine gate_callee (f := 16) rfl ?_); refine goesL_ (some 52) rfl rfl Try.func16 (by kernel_rfl) rfl #[.slice A0 (l0.take ((ji4) : Int).toNat).length c0, .int .i64 a1, .int .i64 a2] rfl (by (try simp only [List.map_toArray, List.map_cons, List.map_nil]); first | done | (rw [show (l0.take ((ji4) : Int).toNat).length = (ji4).toNat from (by rw [List.length_take]; have h_ : ((ji4) : Int) ≤ (l0.length : Int) := of_decide_eq_true (by first | (with_reducible assumption) | assumption); omega)] <;> rfl) | (simp only [hji4]; rfl) | rfl | (simp only [List.length_drop, List.length_take]; rfl)) ?_; (with_reducible refine (samp_Resample.calls kj18 _ _ (l0.take ((ji4) : Int).toNat) a1 a2 t127 t128 _ ?side1 ?side2 A21.out).mono ?_); (case side1 => repeat (first | exact (Kd.C_below HR125.out HB.out) | (with_reducible refine Kd.C_alloc ?_ _) | (with_reducible refine Kd.C_drewN ?_ _) | (with_reducible refine Kd.C_drew ?_))); (case side2 => exact HC125.out); rintro e w23 ⟨v129, rfl, ho0, hb⟩; refine ⟨_, rfl, ?_⟩; have n0_ := Aside0.mk (Kd.R_lower ho0 (below_size (by repeat (first | (with_reducible first | exact HB.out | apply below_alloc | apply pw_below_drewN | apply below_drew1) | exact HB.out)))); have n1_ := Aside0.mk (below_step (by repeat (first | (with_reducible first | exact HB.out | apply below_alloc | apply pw_below_drewN | apply below_drew1) | exact HB.out)) hb); clear HB; have HO130 := n0_; have HB := n1_; clear n0_ n1_; (try clear hb); (try clear hb2); (try clear hk); (try clear hi); (try clear ho0)))
                      (try simp only [Act.put, List.setIfInBounds_toArray, List.set_cons_zero, List.set_cons_succ])
                      go_cut [70] (fun v70 wc => ∃ (kq : Nat) (x70_21 : Bool), v70 = .bool x70_21 ∧ Aside0 (bakelaw3_SampRates.j4 kq (l0.take ((ji4) : Int).toNat) a1 a2 x7_18 t127 x70_21 = some r) ∧ Aside0 (kq ≤ kj18) ∧ Aside0 (Kd.R (Kd.int .i64) 3 wc w.heap.size (fun _ => True) v129 t127) ∧ Aside0 (Below w.heap.size w wc))
                      case first =>
                        have H := HC22.out
                        clear HC22
                        replace H := Option.bind_eq_some_iff.mp H
                        obtain ⟨t131, A240, H⟩ := H
                        replace H : (if t131 = true then (if t128 = x7_18 then (if x7_18 = 0 then (bakelaw3_SampRates.j4 kj18 (l0.take ((ji4) : Int).toNat) a1 a2 x7_18 t127 false) else (bakelaw3_SampRates.j4 kj18 (l0.take ((ji4) : Int).toNat) a1 a2 x7_18 t127 (decide ((t127.length : Int) > 0)))) else (bakelaw3_SampRates.j4 kj18 (l0.take ((ji4) : Int).toNat) a1 a2 x7_18 t127 true)) else (bakelaw3_SampRates.j4 kj18 (l0.take ((ji4) : Int).toNat) a1 a2 x7_18 t127 true)) = some r := H
                        have A24 := Aside0.mk A240
                        clear A240
                        by_cases c25 : t131 = true
                        · subst c25
                          have H1 : (if t128 = x7_18 then (if x7_18 = 0 then (bakelaw3_SampRates.j4 kj18 (l0.take ((ji4) : Int).toNat) a1 a2 x7_18 t127 false) else (bakelaw3_SampRates.j4 kj18 (l0.take ((ji4) : Int).toNat) a1 a2 x7_18 t127 (decide ((t127.length : Int) > 0)))) else (bakelaw3_SampRates.j4 kj18 (l0.take ((ji4) : Int).toNat) a1 a2 x7_18 t127 true)) = some r := by rw [if_pos rfl] at H; exact H
                          clear H
                          have H := H1
                          clear H1
                          by_cases c26 : t128 = x7_18
                          · rw [if_pos c26] at H
                            have c26b0 : (t128 == x7_18) = true := beq_iff_eq.mpr c26
                            have c26b1 : (t128 != x7_18) = false := bne_eq_false_iff_eq.mpr c26
                            clear c26
                            (first | rw [c26b0] | (simp only [i64_w, i32_w]; rw [c26b0]) | skip)
                            by_cases c27 : x7_18 = 0
                            · rw [if_pos c27] at H
                              have c27b0 : (x7_18 == 0) = true := beq_iff_eq.mpr c27
                              have c27b1 : (x7_18 != 0) = false := bne_eq_false_iff_eq.mpr c27
                              clear c27
                              have H' := Aside0.mk H
                              clear H
                              go_wp2_with (first | ((with_reducible refine gate_callee (f := 17) rfl ?_); refine goesL_ (some 55) rfl rfl Try.func17 (by kernel_rfl) rfl #[] rfl (by (try simp only [List.map_toArray, List.map_cons, List.map_nil]); first | done | rfl | (simp only [List.length_drop, List.length_take]; rfl)) ?_; (with_reducible refine (bakelaw3_heard.calls kj18  true _ A24.out).mono ?_); rintro e w28 ⟨rfl, hb⟩; refine ⟨_, rfl, ?_⟩; have n0_ := Aside0.mk (Kd.R_below (by (with_reducible repeat (first | apply Kd.R_alloc | apply Kd.R_drewN | apply Kd.R_drew)); exact HO130.out) hb); have n1_ := Aside0.mk (below_step (by repeat (first | (with_reducible first | exact HB.out | apply below_alloc | apply pw_below_drewN | apply below_drew1) | exact HB.out)) hb); clear HO130; clear HB; have HO130 := n0_; have HB := n1_; clear n0_ n1_; (try clear hb); (try clear hb2); (try clear hk); (try clear hi)))
                              go_meet
                              case rel => exact ⟨_, (false), (by first | rfl | (simp; done) | (simp [*]; done)), H', ⟨by have := HJ7.out; have := HJ13.out; have := HJ15.out; have := HJ18.out; first | omega | exact Nat.le_refl _⟩, ⟨by (with_reducible repeat (first | apply Kd.R_alloc | apply Kd.R_drewN | apply Kd.R_drew)); exact HO130.out⟩, ⟨by repeat (first | (with_reducible first | exact HB.out | apply below_alloc | apply pw_below_drewN | apply below_drew1) | exact HB.out)⟩⟩
                            · rw [if_neg c27] at H
                              have c27b0 : (x7_18 == 0) = false := beq_eq_false_iff_ne.mpr c27
                              have c27b1 : (x7_18 != 0) = true := bne_iff_ne.mpr c27
                              have H' := Aside0.mk H
                              clear H
                              go_wp2_with (first | ((with_reducible refine gate_callee (f := 17) rfl ?_); refine goesL_ (some 55) rfl rfl Try.func17 (by kernel_rfl) rfl #[] rfl (by (try simp only [List.map_toArray, List.map_cons, List.map_nil]); first | done | rfl | (simp only [List.length_drop, List.length_take]; rfl)) ?_; (with_reducible refine (bakelaw3_heard.calls kj18  true _ A24.out).mono ?_); rintro e w29 ⟨rfl, hb⟩; refine ⟨_, rfl, ?_⟩; have n0_ := Aside0.mk (Kd.R_below (by (with_reducible repeat (first | apply Kd.R_alloc | apply Kd.R_drewN | apply Kd.R_drew)); exact HO130.out) hb); have n1_ := Aside0.mk (below_step (by repeat (first | (with_reducible first | exact HB.out | apply below_alloc | apply pw_below_drewN | apply below_drew1) | exact HB.out)) hb); clear HO130; clear HB; have HO130 := n0_; have HB := n1_; clear n0_ n1_; (try clear hb); (try clear hb2); (try clear hk); (try clear hi); obtain ⟨Ao30, co30, eo30⟩ := Kd.R_slice HO130.out; subst eo30))
                              go_meet
                              case rel => exact ⟨_, (decide ((t127.length : Int) > 0)), (by first | rfl | (simp; done) | (simp [*]; done)), H', ⟨by have := HJ7.out; have := HJ13.out; have := HJ15.out; have := HJ18.out; first | omega | exact Nat.le_refl _⟩, ⟨by (with_reducible repeat (first | apply Kd.R_alloc | apply Kd.R_drewN | apply Kd.R_drew)); exact HO130.out⟩, ⟨by repeat (first | (with_reducible first | exact HB.out | apply below_alloc | apply pw_below_drewN | apply below_drew1) | exact HB.out)⟩⟩
                          · rw [if_neg c26] at H
                            have c26b0 : (t128 == x7_18) = false := beq_eq_false_iff_ne.mpr c26
                            have c26b1 : (t128 != x7_18) = true := bne_iff_ne.mpr c26
                            (first | rw [c26b0] | (simp only [i64_w, i32_w]; rw [c26b0]) | skip)
                            have H' := Aside0.mk H
                            clear H
                            go_wp2_with (first | ((with_reducible refine gate_callee (f := 17) rfl ?_); refine goesL_ (some 55) rfl rfl Try.func17 (by kernel_rfl) rfl #[] rfl (by (try simp only [List.map_toArray, List.map_cons, List.map_nil]); first | done | rfl | (simp only [List.length_drop, List.length_take]; rfl)) ?_; (with_reducible refine (bakelaw3_heard.calls kj18  true _ A24.out).mono ?_); rintro e w31 ⟨rfl, hb⟩; refine ⟨_, rfl, ?_⟩; have n0_ := Aside0.mk (Kd.R_below (by (with_reducible repeat (first | apply Kd.R_alloc | apply Kd.R_drewN | apply Kd.R_drew)); exact HO130.out) hb); have n1_ := Aside0.mk (below_step (by repeat (first | (with_reducible first | exact HB.out | apply below_alloc | apply pw_below_drewN | apply below_drew1) | exact HB.out)) hb); clear HO130; clear HB; have HO130 := n0_; have HB := n1_; clear n0_ n1_; (try clear hb); (try clear hb2); (try clear hk); (try clear hi)))
                            go_meet
                            case rel => exact ⟨_, (true), (by first | rfl | (simp; done) | (simp [*]; done)), H', ⟨by have := HJ7.out; have := HJ13.out; have := HJ15.out; have := HJ18.out; first | omega | exact Nat.le_refl _⟩, ⟨by (with_reducible repeat (first | apply Kd.R_alloc | apply Kd.R_drewN | apply Kd.R_drew)); exact HO130.out⟩, ⟨by repeat (first | (with_reducible first | exact HB.out | apply below_alloc | apply pw_below_drewN | apply below_drew1) | exact HB.out)⟩⟩
                        · replace c25 := Bool.eq_false_iff.mpr c25
                          subst c25
                          have H1 : (bakelaw3_SampRates.j4 kj18 (l0.take ((ji4) : Int).toNat) a1 a2 x7_18 t127 true) = some r := by rw [if_neg (show ¬ (false = true) by decide)] at H; exact H
                          clear H
                          have H := H1
                          clear H1
                          have H' := Aside0.mk H
                          clear H
                          go_wp2_with (first | ((with_reducible refine gate_callee (f := 17) rfl ?_); refine goesL_ (some 55) rfl rfl Try.func17 (by kernel_rfl) rfl #[] rfl (by (try simp only [List.map_toArray, List.map_cons, List.map_nil]); first | done | rfl | (simp only [List.length_drop, List.length_take]; rfl)) ?_; (with_reducible refine (bakelaw3_heard.calls kj18  false _ A24.out).mono ?_); rintro e w32 ⟨rfl, hb⟩; refine ⟨_, rfl, ?_⟩; have n0_ := Aside0.mk (Kd.R_below (by (with_reducible repeat (first | apply Kd.R_alloc | apply Kd.R_drewN | apply Kd.R_drew)); exact HO130.out) hb); have n1_ := Aside0.mk (below_step (by repeat (first | (with_reducible first | exact HB.out | apply below_alloc | apply pw_below_drewN | apply below_drew1) | exact HB.out)) hb); clear HO130; clear HB; have HO130 := n0_; have HB := n1_; clear n0_ n1_; (try clear hb); (try clear hb2); (try clear hk); (try clear hi)))
                          go_meet
                          case rel => exact ⟨_, (true), (by first | rfl | (simp; done) | (simp [*]; done)), H', ⟨by have := HJ7.out; have := HJ13.out; have := HJ15.out; have := HJ18.out; first | omega | exact Nat.le_refl _⟩, ⟨by (with_reducible repeat (first | apply Kd.R_alloc | apply Kd.R_drewN | apply Kd.R_drew)); exact HO130.out⟩, ⟨by repeat (first | (with_reducible first | exact HB.out | apply below_alloc | apply pw_below_drewN | apply below_drew1) | exact HB.out)⟩⟩
                      case rest =>
                        clear HC22
                        try clear c1
                        try clear c2
                        try clear p2
                        try clear c3
                        try clear c5
                        try clear c5b0
                        try clear c5b1
                        try clear c6
                        try clear c6b0
                        try clear c6b1
                        try clear p6
                        try clear c10
                        try clear c10b0
                        try clear c10b1
                        try clear c11
                        try clear c11b0
                        try clear c12
                        try clear c12b0
                        try clear c13
                        try clear c13b0
                        try clear c15
                        try clear c16
                        try clear c17
                        try clear c17b0
                        try clear c17b1
                        try clear c18
                        try clear c18b0
                        try clear c18b1
                        try clear c20
                        try clear c25
                        try clear c26
                        try clear c26b0
                        try clear c26b1
                        try clear c27
                        try clear c27b0
                        try clear c27b1
                        try clear p2
                        try clear p6
                        obtain ⟨kq, x70_21, rfl, HA, HJ21, HO_8, HB⟩ := hcut
                        cases kq with
                        | zero => exact absurd HA.out (by simp [bakelaw3_SampRates.j4])
                        | succ kj21 =>
                          have H := HA.out
                          clear HA
                          simp only [bakelaw3_SampRates.j4] at H
                          by_cases c33 : x70_21 = true
                          · subst c33
                            have H1 : (some false) = some r := by rw [if_pos rfl] at H; exact H
                            clear H
                            have H := H1
                            clear H1
                            obtain rfl := Option.some.inj H
                            go_wp2
                            go_ret
                            exact ⟨by first | rfl | (simp [errW_none, errW_some] <;> rfl) | (simp only [← hji4]; first | rfl | (simp [errW_none, errW_some] <;> rfl)) | (simp [*, errW_none, errW_some] <;> rfl), by repeat (first | (with_reducible first | exact HB.out | apply below_alloc | apply pw_below_drewN | apply below_drew1) | exact HB.out)⟩
                          · replace c33 := Bool.eq_false_iff.mpr c33
                            subst c33
                            have H1 : (if x7_18 = 0 then (if a2 = 0 then (none) else (bakelaw3_SampRates.j5 kj21 (l0.take ((ji4) : Int).toNat) a1 a2 t127 ((t127.length : Int) != (wrap64 (Int.tdiv (wrap64 (((l0.take ((ji4) : Int).toNat).length : Int) * a1)) a2))))) else (bakelaw3_SampRates.j5 kj21 (l0.take ((ji4) : Int).toNat) a1 a2 t127 false)) = some r := by rw [if_neg (show ¬ (false = true) by decide)] at H; exact H
                            clear H
                            have H := H1
                            clear H1
                            have HC34 := Aside0.mk H
                            clear H
                            go_upto_region 10 with (fail)
                            go_cut [83] (fun v83 wc => ∃ (kq : Nat) (x83_33 : Bool), v83 = .bool x83_33 ∧ Aside0 (bakelaw3_SampRates.j5 kq (l0.take ((ji4) : Int).toNat) a1 a2 t127 x83_33 = some r) ∧ Aside0 (kq ≤ kj21) ∧ Aside0 (Kd.R (Kd.int .i64) 3 wc w.heap.size (fun _ => True) v129 t127) ∧ Aside0 (Below w.heap.size w wc))
                            case first =>
                              have H := HC34.out
                              clear HC34
                              by_cases c35 : x7_18 = 0
                              · rw [if_pos c35] at H
                                have c35b0 : (x7_18 == 0) = true := beq_iff_eq.mpr c35
                                have c35b1 : (x7_18 != 0) = false := bne_eq_false_iff_eq.mpr c35
                                clear c35
                                (first | rw [c35b0] | (simp only [i64_w, i32_w]; rw [c35b0]) | skip)
                                by_cases c36 : a2 = 0
                                · rw [if_pos c36] at H
                                  exact absurd H (by simp)
                                · rw [if_neg c36] at H
                                  have c36b0 : (a2 == 0) = false := beq_eq_false_iff_ne.mpr c36
                                  have c36b1 : (a2 != 0) = true := bne_iff_ne.mpr c36
                                  have H' := Aside0.mk H
                                  clear H
                                  obtain ⟨Ao37, co37, eo37⟩ := Kd.R_slice HO_8.out
                                  subst eo37
                                  go_wp2
                                  go_meet
                                  have HEL_ := Aside0.mk (show ((((l0.take ((ji4) : Int).toNat)).length : Nat) : Int) = ji4 by have h_ : ((ji4) : Int) ≤ (l0.length : Int) := of_decide_eq_true hjlk; have h0_ : 0 ≤ ji4 := of_decide_eq_true hjl0; rw [List.length_take]; omega)
                                  have HEZ_ := Aside0.mk (show ((ji4.toNat : Nat) : Int) = ji4 by have h0_ : 0 ≤ ji4 := of_decide_eq_true hjl0; omega)
                                  have HEM_ := Aside0.mk (show max ji4 0 = ji4 by have h0_ : 0 ≤ ji4 := of_decide_eq_true hjl0; omega)
                                  case rel => exact ⟨_, (((t127.length : Int) != (wrap64 (Int.tdiv (wrap64 (((l0.take ((ji4) : Int).toNat).length : Int) * a1)) a2)))), (by first | rfl | (simp only [HEL_.out, HEZ_.out, HEM_.out] <;> (first | rfl | (simp; done))) | (simp; done) | (simp only [← hji4] <;> (first | rfl | simp)) | (simp [*]; done)), H', ⟨by have := HJ7.out; have := HJ13.out; have := HJ15.out; have := HJ18.out; have := HJ21.out; first | omega | exact Nat.le_refl _⟩, ⟨by (with_reducible repeat (first | apply Kd.R_alloc | apply Kd.R_drewN | apply Kd.R_drew)); exact HO_8.out⟩, ⟨by repeat (first | (with_reducible first | exact HB.out | apply below_alloc | apply pw_below_drewN | apply below_drew1) | exact HB.out)⟩⟩
                              · rw [if_neg c35] at H
                                have c35b0 : (x7_18 == 0) = false := beq_eq_false_iff_ne.mpr c35
                                have c35b1 : (x7_18 != 0) = true := bne_iff_ne.mpr c35
                                (first | rw [c35b0] | (simp only [i64_w, i32_w]; rw [c35b0]) | skip)
                                have H' := Aside0.mk H
                                clear H
                                go_wp2
                                go_meet
                                case rel => exact ⟨_, (false), (by first | rfl | (simp; done) | (simp [*]; done)), H', ⟨by have := HJ7.out; have := HJ13.out; have := HJ15.out; have := HJ18.out; have := HJ21.out; first | omega | exact Nat.le_refl _⟩, ⟨by (with_reducible repeat (first | apply Kd.R_alloc | apply Kd.R_drewN | apply Kd.R_drew)); exact HO_8.out⟩, ⟨by repeat (first | (with_reducible first | exact HB.out | apply below_alloc | apply pw_below_drewN | apply below_drew1) | exact HB.out)⟩⟩
                            case rest =>
                              clear HC34
                              try clear c1
                              try clear c2
                              try clear p2
                              try clear c3
                              try clear c5
                              try clear c5b0
                              try clear c5b1
                              try clear c6
                              try clear c6b0
                              try clear c6b1
                              try clear p6
                              try clear c10
                              try clear c10b0
                              try clear c10b1
                              try clear c11
                              try clear c11b0
                              try clear c12
                              try clear c12b0
                              try clear c13
                              try clear c13b0
                              try clear c15
                              try clear c16
                              try clear c17
                              try clear c17b0
                              try clear c17b1
                              try clear c18
                              try clear c18b0
                              try clear c18b1
                              try clear c20
                              try clear c25
                              try clear c26
                              try clear c26b0
                              try clear c26b1
                              try clear c27
                              try clear c27b0
                              try clear c27b1
                              try clear c33
                              try clear c35
                              try clear c35b0
                              try clear c35b1
                              try clear c36
                              try clear c36b0
                              try clear c36b1
                              try clear p2
                              try clear p6
                              obtain ⟨kq, x83_33, rfl, HA, HJ33, HO_8, HB⟩ := hcut
                              cases kq with
                              | zero => exact absurd HA.out (by simp [bakelaw3_SampRates.j5])
                              | succ kj33 =>
                                have H := HA.out
                                clear HA
                                simp only [bakelaw3_SampRates.j5] at H
                                by_cases c38 : x83_33 = true
                                · subst c38
                                  have H1 : (some false) = some r := by rw [if_pos rfl] at H; exact H
                                  clear H
                                  have H := H1
                                  clear H1
                                  obtain rfl := Option.some.inj H
                                  go_wp2
                                  go_ret
                                  exact ⟨by first | rfl | (simp [errW_none, errW_some] <;> rfl) | (simp only [← hji4]; first | rfl | (simp [errW_none, errW_some] <;> rfl)) | (simp [*, errW_none, errW_some] <;> rfl), by repeat (first | (with_reducible first | exact HB.out | apply below_alloc | apply pw_below_drewN | apply below_drew1) | exact HB.out)⟩
                                · replace c38 := Bool.eq_false_iff.mpr c38
                                  subst c38
                                  have H1 : (bakelaw3_SampRates.l0 kj33 (l0.take ((ji4) : Int).toNat) a1 a2 t127 (t127.length : Int) 0) = some r := by rw [if_neg (show ¬ (false = true) by decide)] at H; exact H
                                  clear H
                                  have H := H1
                                  clear H1
                                  have H' := Aside0.mk H
                                  clear H
                                  obtain ⟨Ao39, co39, eo39⟩ := Kd.R_slice HO_8.out
                                  subst eo39
                                  go_wp2
                                  go_loopg [86] kj33 (fun kq v86 w' => ∃ (x86_7 : Int), v86 = .int .i64 x86_7 ∧ Aside0 (bakelaw3_SampRates.l0 kq (l0.take ((ji4) : Int).toNat) a1 a2 t127 (t127.length : Int) x86_7 = some r) ∧ Aside0 (kq ≤ kj33) ∧ Aside0 (Kd.R (Kd.int .i64) 3 w' w.heap.size (fun _ => True) (.slice Ao39 t127.length co39) t127) ∧ Aside0 (Below w.heap.size w w'))
                                  case atStart => exact ⟨(0), (by first | rfl | (simp; done) | (simp [*]; done)), H', ⟨Nat.le_refl _⟩, ⟨by (with_reducible repeat (first | apply Kd.R_alloc | apply Kd.R_drewN | apply Kd.R_drew)); exact HO_8.out⟩, ⟨by repeat (first | (with_reducible first | exact HB.out | apply below_alloc | apply pw_below_drewN | apply below_drew1) | exact HB.out)⟩⟩
                                  case round =>
                                    clear H'
                                    try clear c1
                                    try clear c2
                                    try clear p2
                                    try clear c3
                                    try clear c5
                                    try clear c5b0
                                    try clear c5b1
                                    try clear c6
                                    try clear c6b0
                                    try clear c6b1
                                    try clear p6
                                    try clear c10
                                    try clear c10b0
                                    try clear c10b1
                                    try clear c11
                                    try clear c11b0
                                    try clear c12
                                    try clear c12b0
                                    try clear c13
                                    try clear c13b0
                                    try clear c15
                                    try clear c16
                                    try clear c17
                                    try clear c17b0
                                    try clear c17b1
                                    try clear c18
                                    try clear c18b0
                                    try clear c18b1
                                    try clear c20
                                    try clear c25
                                    try clear c26
                                    try clear c26b0
                                    try clear c26b1
                                    try clear c27
                                    try clear c27b0
                                    try clear c27b1
                                    try clear c33
                                    try clear c35
                                    try clear c35b0
                                    try clear c35b1
                                    try clear c36
                                    try clear c36b0
                                    try clear c36b1
                                    try clear c38
                                    try clear p2
                                    try clear p6
                                    obtain ⟨x86_7, rfl, HA, HK7, HO_84, HB⟩ := hrel
                                    cases gk with
                                    | zero => exact absurd HA.out (by simp [bakelaw3_SampRates.l0])
                                    | succ k7 =>
                                      have H := HA.out
                                      clear HA
                                      simp only [bakelaw3_SampRates.l0] at H
                                      by_cases c40 : x86_7 < (t127.length : Int)
                                      · rw [if_pos c40] at H
                                        have c40b0 : decide (x86_7 < (t127.length : Int)) = true := decide_eq_true c40
                                        clear c40
                                        by_cases c41 : 0 ≤ x86_7
                                        · rw [if_pos c41] at H
                                          have c41b0 : decide (0 ≤ x86_7) = true := decide_eq_true c41
                                          clear c41
                                          by_cases c42 : x86_7 < (t127.length : Int)
                                          · rw [if_pos c42] at H
                                            have c42b0 : decide (x86_7 < (t127.length : Int)) = true := decide_eq_true c42
                                            clear c42
                                            by_cases c43 : x86_7 < 60
                                            · rw [if_pos c43] at H
                                              have c43b0 : decide (x86_7 < 60) = true := decide_eq_true c43
                                              clear c43
                                              replace H := Option.bind_eq_some_iff.mp H
                                              obtain ⟨t133, A440, H⟩ := H
                                              replace H : ((bakeref3_Upto.f k7 (l0.take ((ji4) : Int).toNat) (wrap64 (x86_7 * a2)) a1).bind fun t134 => (if (rd t127 x86_7) = (wrap64 (t133 - t134)) then (bakelaw3_SampRates.l0 k7 (l0.take ((ji4) : Int).toNat) a1 a2 t127 (t127.length : Int) (wrap64 (x86_7 + 1))) else (some false))) = some r := H
                                              have A44 := Aside0.mk A440
                                              clear A440
                                              replace H := Option.bind_eq_some_iff.mp H
                                              obtain ⟨t134, A450, H⟩ := H
                                              replace H : (if (rd t127 x86_7) = (wrap64 (t133 - t134)) then (bakelaw3_SampRates.l0 k7 (l0.take ((ji4) : Int).toNat) a1 a2 t127 (t127.length : Int) (wrap64 (x86_7 + 1))) else (some false)) = some r := H
                                              have A45 := Aside0.mk A450
                                              clear A450
                                              by_cases c46 : (rd t127 x86_7) = (wrap64 (t133 - t134))
                                              · rw [if_pos c46] at H
                                                have c46b0 : ((rd t127 x86_7) == (wrap64 (t133 - t134))) = true := beq_iff_eq.mpr c46
                                                have c46b1 : ((rd t127 x86_7) != (wrap64 (t133 - t134))) = false := bne_eq_false_iff_eq.mpr c46
                                                clear c46
                                                have H' := Aside0.mk H
                                                clear H
                                                have p132 : 0 ≤ (x86_7 : Int) := of_decide_eq_true (by first | (with_reducible assumption) | assumption)
                                                have q132 : x86_7 < (t127.length : Int) := of_decide_eq_true (by first | (with_reducible assumption) | assumption)
                                                obtain ⟨ad132, e132, hx132_0⟩ := Kd.at_int (Kd.R_reads' HO_84.out).2.2 x86_7 p132 q132
                                                cases e132
                                                replace p132 := eq_true p132
                                                replace q132 := eq_true q132
                                                go_wp2_with (first | (go_at_call 18; (with_reducible refine (bakeref3_Upto.callsN k7 _ _ (l0.take ((ji4) : Int).toNat) (wrap64 ((wrap64 (x86_7 + 1)) * a2)) a1 t133 _ ?side0 ?side1 ?side2 A44.out).mono ?_); (try (case side0 => first | rfl | (rw [List.length_take]; have h_ : ((ji4) : Int) ≤ (l0.length : Int) := of_decide_eq_true hjlk; omega))); (case side1 => repeat (first | exact (Kd.C_below HR125.out HB.out) | (with_reducible refine Kd.C_alloc ?_ _) | (with_reducible refine Kd.C_drewN ?_ _) | (with_reducible refine Kd.C_drew ?_))); (case side2 => exact HC125.out); rintro e w47 ⟨rfl, hb⟩; have n0_ := Aside0.mk (Kd.R_below (by (with_reducible repeat (first | apply Kd.R_alloc | apply Kd.R_drewN | apply Kd.R_drew)); exact HO_84.out) hb); have n1_ := Aside0.mk (below_step (by repeat (first | (with_reducible first | exact HB.out | apply below_alloc | apply pw_below_drewN | apply below_drew1) | exact HB.out)) hb); clear HO_84; clear HB; have HO_84 := n0_; have HB := n1_; clear n0_ n1_; (try clear hb); (try clear hb2); (try clear hk); (try clear hi)) | (go_at_call 18; (with_reducible refine (bakeref3_Upto.callsN k7 _ _ (l0.take ((ji4) : Int).toNat) (wrap64 (x86_7 * a2)) a1 t134 _ ?side0 ?side1 ?side2 A45.out).mono ?_); (try (case side0 => first | rfl | (rw [List.length_take]; have h_ : ((ji4) : Int) ≤ (l0.length : Int) := of_decide_eq_true hjlk; omega))); (case side1 => repeat (first | exact (Kd.C_below HR125.out HB.out) | (with_reducible refine Kd.C_alloc ?_ _) | (with_reducible refine Kd.C_drewN ?_ _) | (with_reducible refine Kd.C_drew ?_))); (case side2 => exact HC125.out); rintro e w48 ⟨rfl, hb⟩; have n0_ := Aside0.mk (Kd.R_below (by (with_reducible repeat (first | apply Kd.R_alloc | apply Kd.R_drewN | apply Kd.R_drew)); exact HO_84.out) hb); have n1_ := Aside0.mk (below_step (by repeat (first | (with_reducible first | exact HB.out | apply below_alloc | apply pw_below_drewN | apply below_drew1) | exact HB.out)) hb); clear HO_84; clear HB; have HO_84 := n0_; have HB := n1_; clear n0_ n1_; (try clear hb); (try clear hb2); (try clear hk); (try clear hi)))
                                                go_roundg k7
                                                case measure => have := HJ7.out; have := HJ13.out; have := HJ15.out; have := HJ18.out; have := HJ21.out; have := HJ33.out; have := HK7.out; omega
                                                case rel => exact ⟨(wrap64 (x86_7 + 1)), (by first | rfl | (simp; done) | (simp [*]; done)), H', ⟨by have := HJ7.out; have := HJ13.out; have := HJ15.out; have := HJ18.out; have := HJ21.out; have := HJ33.out; have := HK7.out; omega⟩, ⟨by (with_reducible repeat (first | apply Kd.R_alloc | apply Kd.R_drewN | apply Kd.R_drew)); exact HO_84.out⟩, ⟨by repeat (first | (with_reducible first | exact HB.out | apply below_alloc | apply pw_below_drewN | apply below_drew1) | exact HB.out)⟩⟩
                                              · rw [if_neg c46] at H
                                                have c46b0 : ((rd t127 x86_7) == (wrap64 (t133 - t134))) = false := beq_eq_false_iff_ne.mpr c46
                                                have c46b1 : ((rd t127 x86_7) != (wrap64 (t133 - t134))) = true := bne_iff_ne.mpr c46
                                                obtain rfl := Option.some.inj H
                                                have p132 : 0 ≤ (x86_7 : Int) := of_decide_eq_true (by first | (with_reducible assumption) | assumption)
                                                have q132 : x86_7 < (t127.length : Int) := of_decide_eq_true (by first | (with_reducible assumption) | assumption)
                                                obtain ⟨ad132, e132, hx132_0⟩ := Kd.at_int (Kd.R_reads' HO_84.out).2.2 x86_7 p132 q132
                                                cases e132
                                                replace p132 := eq_true p132
                                                replace q132 := eq_true q132
                                                go_wp2_with (first | (go_at_call 18; (with_reducible refine (bakeref3_Upto.callsN k7 _ _ (l0.take ((ji4) : Int).toNat) (wrap64 ((wrap64 (x86_7 + 1)) * a2)) a1 t133 _ ?side0 ?side1 ?side2 A44.out).mono ?_); (try (case side0 => first | rfl | (rw [List.length_take]; have h_ : ((ji4) : Int) ≤ (l0.length : Int) := of_decide_eq_true hjlk; omega))); (case side1 => repeat (first | exact (Kd.C_below HR125.out HB.out) | (with_reducible refine Kd.C_alloc ?_ _) | (with_reducible refine Kd.C_drewN ?_ _) | (with_reducible refine Kd.C_drew ?_))); (case side2 => exact HC125.out); rintro e w49 ⟨rfl, hb⟩; have n0_ := Aside0.mk (Kd.R_below (by (with_reducible repeat (first | apply Kd.R_alloc | apply Kd.R_drewN | apply Kd.R_drew)); exact HO_84.out) hb); have n1_ := Aside0.mk (below_step (by repeat (first | (with_reducible first | exact HB.out | apply below_alloc | apply pw_below_drewN | apply below_drew1) | exact HB.out)) hb); clear HO_84; clear HB; have HO_84 := n0_; have HB := n1_; clear n0_ n1_; (try clear hb); (try clear hb2); (try clear hk); (try clear hi)) | (go_at_call 18; (with_reducible refine (bakeref3_Upto.callsN k7 _ _ (l0.take ((ji4) : Int).toNat) (wrap64 (x86_7 * a2)) a1 t134 _ ?side0 ?side1 ?side2 A45.out).mono ?_); (try (case side0 => first | rfl | (rw [List.length_take]; have h_ : ((ji4) : Int) ≤ (l0.length : Int) := of_decide_eq_true hjlk; omega))); (case side1 => repeat (first | exact (Kd.C_below HR125.out HB.out) | (with_reducible refine Kd.C_alloc ?_ _) | (with_reducible refine Kd.C_drewN ?_ _) | (with_reducible refine Kd.C_drew ?_))); (case side2 => exact HC125.out); rintro e w50 ⟨rfl, hb⟩; have n0_ := Aside0.mk (Kd.R_below (by (with_reducible repeat (first | apply Kd.R_alloc | apply Kd.R_drewN | apply Kd.R_drew)); exact HO_84.out) hb); have n1_ := Aside0.mk (below_step (by repeat (first | (with_reducible first | exact HB.out | apply below_alloc | apply pw_below_drewN | apply below_drew1) | exact HB.out)) hb); clear HO_84; clear HB; have HO_84 := n0_; have HB := n1_; clear n0_ n1_; (try clear hb); (try clear hb2); (try clear hk); (try clear hi)))
                                                go_ret
                                                exact ⟨by first | rfl | (simp [errW_none, errW_some] <;> rfl) | (simp only [← hji4]; first | rfl | (simp [errW_none, errW_some] <;> rfl)) | (simp [*, errW_none, errW_some] <;> rfl), by repeat (first | (with_reducible first | exact HB.out | apply below_alloc | apply pw_below_drewN | apply below_drew1) | exact HB.out)⟩
                                            · rw [if_neg c43] at H
                                              have c43b0 : decide (x86_7 < 60) = false := decide_eq_false c43
                                              clear c43
                                              have H' := Aside0.mk H
                                              clear H
                                              have p132 : 0 ≤ (x86_7 : Int) := of_decide_eq_true (by first | (with_reducible assumption) | assumption)
                                              have q132 : x86_7 < (t127.length : Int) := of_decide_eq_true (by first | (with_reducible assumption) | assumption)
                                              obtain ⟨ad132, e132, hx132_0⟩ := Kd.at_int (Kd.R_reads' HO_84.out).2.2 x86_7 p132 q132
                                              cases e132
                                              replace p132 := eq_true p132
                                              replace q132 := eq_true q132
                                              go_wp2
                                              go_roundg k7
                                              case measure => have := HJ7.out; have := HJ13.out; have := HJ15.out; have := HJ18.out; have := HJ21.out; have := HJ33.out; have := HK7.out; omega
                                              case rel => exact ⟨(wrap64 (x86_7 + 1)), (by first | rfl | (simp; done) | (simp [*]; done)), H', ⟨by have := HJ7.out; have := HJ13.out; have := HJ15.out; have := HJ18.out; have := HJ21.out; have := HJ33.out; have := HK7.out; omega⟩, ⟨by (with_reducible repeat (first | apply Kd.R_alloc | apply Kd.R_drewN | apply Kd.R_drew)); exact HO_84.out⟩, ⟨by repeat (first | (with_reducible first | exact HB.out | apply below_alloc | apply pw_below_drewN | apply below_drew1) | exact HB.out)⟩⟩
                                          · rw [if_neg c42] at H
                                            exact absurd H (by simp)
                                        · rw [if_neg c41] at H
                                          exact absurd H (by simp)
                                      · rw [if_neg c40] at H
                                        have c40b0 : decide (x86_7 < (t127.length : Int)) = false := decide_eq_false c40
                                        clear c40
                                        obtain rfl := Option.some.inj H
                                        go_wp2
                                        go_ret
                                        exact ⟨by first | rfl | (simp [errW_none, errW_some] <;> rfl) | (simp only [← hji4]; first | rfl | (simp [errW_none, errW_some] <;> rfl)) | (simp [*, errW_none, errW_some] <;> rfl), by repeat (first | (with_reducible first | exact HB.out | apply below_alloc | apply pw_below_drewN | apply below_drew1) | exact HB.out)⟩
    · rw [if_neg c6] at H
      exact absurd H (by simp)
  · rw [if_neg c5] at H
    exact absurd H (by simp)

/-- THE ONE PURE STATEMENT of bakelaw3_SampRates: yours. -/
def bakelaw3_SampRates.Pure : Prop := ∀ (l0 : List Int) (a1 : Int) (a2 : Int), l0.length ≤ maxLen → l0.length * 8 ≤ 140737488351232 → (∀ x ∈ l0, (Lit.int .i64 x).wf = true) → (Lit.int .i64 a1).wf = true → (Lit.int .i64 a2).wf = true → ∃ k, bakelaw3_SampRates.f k l0 a1 a2 = some true
theorem bakelaw3_SampRates.walk (P : bakelaw3_SampRates.Pure) (a0 : Option Addr) (len0 cap0 : Nat) (z0 : List Int) (a1 : Int) (a2 : Int) (w : World) (w0 : (a0 = none ∧ len0 = 0 ∧ cap0 = 0 ∧ z0 = []) ∨ ∃ x, a0 = some x ∧ len0 ≤ cap0 ∧ cap0 ≤ maxLen ∧ z0.length = cap0 ∧ (∀ i, i < z0.length → w.cell? (x.add i) = some (.int .i64 (z0.getD i 0))) ∧ ∀ n ∈ z0, (Lit.int .i64 n).wf = true) (y0 : len0 * 8 ≤ 140737488351232) (w1 : (Lit.int .i64 a1).wf = true) (w2 : (Lit.int .i64 a2).wf = true) :
    Calls Try.prog 3 #[.slice a0 len0 cap0, .int .i64 a1, .int .i64 a2] w fun e w' => e = .returned (.bool true) ∧ Below w.heap.size w w' := by
  obtain ⟨l0, rfl, hr0, hm0, hw0, hc0⟩ := ReadsInt.ofRowC w0
  obtain ⟨k, h⟩ := P l0 a1 a2 hm0 y0 hw0 w1 w2
  refine (bakelaw3_SampRates.calls k _ _ l0 a1 a2 true w (Kd.C_of_reads (d := (0 : Int)) (h1 := fun _ => rfl) hr0) hc0 h).mono ?_
  rintro e w' ⟨rfl, hd⟩
  exact ⟨rfl, hd⟩

end Go.Proofs.Ytimkpdbghbhkkaa.QS
