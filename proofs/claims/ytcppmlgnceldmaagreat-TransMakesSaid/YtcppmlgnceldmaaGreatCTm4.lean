/- Merged texts of one claim: a Go law, its functions without memory, and the plain law. The law returns true for every input; conditions: as the row says. -/
import Derived.Test.YtcppmlgnceldmaaGreatCTm0
import Derived.Test.YtcppmlgnceldmaaGreatCTm1
import Derived.Test.YtcppmlgnceldmaaGreatCTm2
import Derived.Test.YtcppmlgnceldmaaGreatCTm3
/- Go functions as plain Lean functions, and their contracts. -/
set_option linter.unusedVariables false
set_option maxRecDepth 100000
noncomputable section
namespace Go.Proofs.YtcppmlgnceldmaaGreat.Fl
open Go Go.Proofs.YtcppmlgnceldmaaGreat.Gp
def step135 (k : Nat) (_ : Unit) (s : tY104) (o0 : tY103) (o1 : tY109) : Option tY85 :=
  Option.bind
    (agree
      ((get96 k () s.2.1 o0 o1).bind fun t15 =>
      agree
        ((get96 k () s.2.2.1 t15.2.1 t15.2.2).bind fun t21 =>
        agree
          (some ((), s, t15.1, t21.1, t21.2.1, t21.2.2))
          (some ((), s, t15.1, t21.1, t21.2.1, t21.2.2)))
        (agree
          (agree
            ((get96 k () s.2.2.1 t15.2.1 t15.2.2).bind fun t21_1 =>
            some ((), s, t15.1, t21_1.1, t21_1.2.1, t21_1.2.2))
            ((get96 k () s.2.2.1 t15.2.1 t15.2.2).bind fun t21_2 =>
            some ((), s, t15.1, t21_2.1, t21_2.2.1, t21_2.2.2)))
          (agree
            ((get96 k () s.2.2.1 t15.2.1 t15.2.2).bind fun t21_3 =>
            some ((), s, t15.1, t21_3.1, t21_3.2.1, t21_3.2.2))
            ((get96 k () s.2.2.1 t15.2.1 t15.2.2).bind fun t21_4 =>
            some ((), s, t15.1, t21_4.1, t21_4.2.1, t21_4.2.2)))))
      (agree
        (agree
          ((get96 k () s.2.1 o0 o1).bind fun t15_1 =>
          agree
            ((get96 k () s.2.2.1 t15_1.2.1 t15_1.2.2).bind fun t21_5 =>
            some ((), s, t15_1.1, t21_5.1, t21_5.2.1, t21_5.2.2))
            ((get96 k () s.2.2.1 t15_1.2.1 t15_1.2.2).bind fun t21_6 =>
            some ((), s, t15_1.1, t21_6.1, t21_6.2.1, t21_6.2.2)))
          ((get96 k () s.2.1 o0 o1).bind fun t15_2 =>
          (get96 k () s.2.2.1 t15_2.2.1 t15_2.2.2).bind fun t21_7 =>
          some ((), s, t15_2.1, t21_7.1, t21_7.2.1, t21_7.2.2)))
        (agree
          ((get96 k () s.2.1 o0 o1).bind fun t15_3 =>
          agree
            ((get96 k () s.2.2.1 t15_3.2.1 t15_3.2.2).bind fun t21_8 =>
            some ((), s, t15_3.1, t21_8.1, t21_8.2.1, t21_8.2.2))
            ((get96 k () s.2.2.1 t15_3.2.1 t15_3.2.2).bind fun t21_9 =>
            some ((), s, t15_3.1, t21_9.1, t21_9.2.1, t21_9.2.2)))
          ((get96 k () s.2.1 o0 o1).bind fun t15_4 =>
          (get96 k () s.2.2.1 t15_4.2.1 t15_4.2.2).bind fun t21_10 =>
          some ((), s, t15_4.1, t21_10.1, t21_10.2.1, t21_10.2.2)))) : Option tY43) fun ((_, s_1, to, from_, o0_1, o1_1) : tY43) =>
  cond (s_1.1 == 0)
    (some ((), o0_1, o1_1))
    (Option.bind
      (cond (s_1.1 == 3)
        (some ((), s_1, to, from_, (), (), (s_1.1 == 3), o0_1, o1_1, (), 0, false))
        (Option.bind
          (cond (s_1.1 == 6)
            (some ((), s_1, to, from_, (), (), (s_1.1 == 6), o0_1, o1_1, (), 0, false))
            (Option.bind
              (cond (s_1.1 == 16)
                (some ((), s_1, to, from_, (), (), (s_1.1 == 16), o0_1, o1_1, (), 0, false))
                (some ((), s_1, to, from_, (), (), (s_1.1 == 17), o0_1, o1_1, (), 0, false)) : Option tY25) fun ((_, s_2, to_1, from__1, _, _, t27, o0_2, o1_2, _, o3) : tY25) =>
            some ((), s_2, to_1, from__1, (), (), t27, o0_2, o1_2, (), o3)) : Option tY25) fun ((_, s_3, to_2, from__2, _, _, t27_1, o0_3, o1_3, _, o3_1) : tY25) =>
        some ((), s_3, to_2, from__2, (), (), t27_1, o0_3, o1_3, (), o3_1)) : Option tY25) fun ((_, s_4, to_3, from__3, _, _, t27_2, o0_4, o1_4, _, o3_2) : tY25) =>
    cond t27_2
      ((put93' k () 4 (0, false) o0_4 o1_4).bind fun t36 =>
      some ((), t36.2.1, t36.2.2))
      (cond (s_1.1 == 1)
        (let t42 : Int := (w64 (2 * s_4.2.1))
        let t46 : Int := (w64 (2 * s_4.2.1))
        let t51 : Int := (w64 (2 * s_4.2.2.1))
        (if 0 ≤ t51 ∧ t51 < 18 then some () else none).bind fun _ =>
        (rd o0_4.1 t51).bind fun t55 =>
        let t59 : Int := (w64 (2 * s_4.2.2.1))
        (if 0 ≤ (w64 (t59 + 1)) ∧ (w64 (t59 + 1)) < 18 then some () else none).bind fun _ =>
        (rd o0_4.1 (w64 (t59 + 1))).bind fun t64 =>
        (if 0 ≤ t42 ∧ t42 < 18 then some () else none).bind fun _ =>
        (rd o0_4.1 t42).bind fun _ =>
        (if 0 ≤ (w64 (t46 + 1)) ∧ (w64 (t46 + 1)) < 18 then some () else none).bind fun _ =>
        (rd (List.set o0_4.1 (Int.toNat t42) t55) (w64 (t46 + 1))).bind fun _ =>
        some ((), ((List.set (List.set o0_4.1 (Int.toNat t42) t55) (Int.toNat (w64 (t46 + 1))) t64), o0_4.2), o1_4))
        (Option.bind
          (cond (s_1.1 == 2)
            ((known94 k s_4.2.2.2 16).bind fun t75 =>
            some (Sum.inl ((), s_4, (), false, o0_4, o1_4, t75.1)))
            (Option.bind
              (cond (s_1.1 == 10)
                (some ((), s_4, to_3, from__3, (), (), (s_1.1 == 10), o0_4, o1_4, (), o3_2))
                (some ((), s_4, to_3, from__3, (), (), (s_1.1 == 11), o0_4, o1_4, (), o3_2)) : Option tY25) fun ((_, s_5, to_4, from__4, _, _, t76, o0_5, o1_5, _, o3_3) : tY25) =>
            Option.bind
              (cond t76
                (Option.bind
                  (cond (s_5.1 == 11)
                    (some ((), s_5, to_4, (), (), o0_5, o1_5, o3_3, (-1)))
                    (some ((), s_5, to_4, (), (), o0_5, o1_5, o3_3, 1)) : Option tY34) fun ((_, s_6, to_5, _, _, o0_6, o1_6, _, o4) : tY34) =>
                Option.bind
                  (agree
                    ((size165 k s_6.2.1).bind fun t84 =>
                    (then129'''' k t84.1 ((), ()) [to_5] o4).bind fun t88 =>
                    (wide131 k s_6.2.1).bind fun t91 =>
                    some ((), s_6, (), (!t91.1), o0_6, o1_6, t88.1))
                    ((size165 k s_6.2.1).bind fun t84_1 =>
                    (then129'''' k t84_1.1 ((), ()) [to_5] o4).bind fun t88_1 =>
                    (wide131 k s_6.2.1).bind fun t91_1 =>
                    some ((), s_6, (), (!t91_1.1), o0_6, o1_6, t88_1.1)) : Option tY42) fun ((_, s_7, _, flags, o0_7, o1_7, o3_5) : tY42) =>
                some (Sum.inl ((), s_7, (), flags, o0_7, o1_7, o3_5)))
                (Option.bind
                  (cond (s_1.1 == 18)
                    (some ((), s_5, to_4, from__4, (), (), (s_1.1 == 18), o0_5, o1_5, (), o3_3))
                    (some ((), s_5, to_4, from__4, (), (), (s_1.1 == 19), o0_5, o1_5, (), o3_3)) : Option tY25) fun ((_, s_8, to_6, from__5, _, _, t93, o0_8, o1_8, _, o3_6) : tY25) =>
                cond t93
                  (let t103 : Int := (w64 ((w64 ((w64 (2 * s_8.2.1)) + s_8.1)) - 18))
                  (if 0 ≤ t103 ∧ t103 < 18 then some () else none).bind fun _ =>
                  (rd o0_8.1 t103).bind fun _ =>
                  some (Sum.inr (Sum.inr ((), ((List.set o0_8.1 (Int.toNat t103) from__5), o0_8.2), o1_8))))
                  (Option.bind
                    (cond (s_1.1 == 20)
                      (some ((), s_8, to_6, from__5, (), (), (s_1.1 == 20), o0_8, o1_8, (), o3_6))
                      (some ((), s_8, to_6, from__5, (), (), (s_1.1 == 21), o0_8, o1_8, (), o3_6)) : Option tY25) fun ((_, s_9, to_7, from__6, _, _, t108, o0_9, o1_9, _, o3_7) : tY25) =>
                  Option.bind
                    (cond t108
                      (let t118 : Int := (w64 ((w64 ((w64 (2 * s_9.2.2.1)) + s_9.1)) - 20))
                      (if 0 ≤ t118 ∧ t118 < 18 then some () else none).bind fun _ =>
                      (rd o0_9.1 t118).bind fun t122 =>
                      some ((), s_9, (), false, o0_9, o1_9, t122))
                      (Option.bind
                        (cond (s_1.1 == 22)
                          ((then129''''' k 16 () [to_7, from__6]).bind fun t128 =>
                          some ((), s_9, (), false, o0_9, o1_9, t128.1))
                          (Option.bind
                            (cond (s_1.1 == 23)
                              ((then129'''''' k 16 ((), ()) [to_7, from__6] ()).bind fun t135 =>
                              some ((), s_9, (), false, o0_9, o1_9, t135.1))
                              (some ((), s_9, (), true, o0_9, o1_9, o3_7)) : Option tY42) fun ((_, s_10, _, flags_1, o0_10, o1_10, o3_8) : tY42) =>
                          some ((), s_10, (), flags_1, o0_10, o1_10, o3_8)) : Option tY42) fun ((_, s_11, _, flags_2, o0_11, o1_11, o3_9) : tY42) =>
                      some ((), s_11, (), flags_2, o0_11, o1_11, o3_9)) : Option tY42) fun ((_, s_12, _, flags_3, o0_12, o1_12, o3_10) : tY42) =>
                  some (Sum.inl ((), s_12, (), flags_3, o0_12, o1_12, o3_10)))) : Option (tY42 ⊕ tY21)) (joined fun ((_, s_13, _, flags_4, o0_13, o1_13, o3_11) : tY42) =>
              some (Sum.inl ((), s_13, (), flags_4, o0_13, o1_13, o3_11)))) : Option tY21) (joined fun ((_, s_14, _, flags_5, o0_14, o1_14, o3_12) : tY42) =>
          (put93' k () s_14.2.1 o3_12 o0_14 o1_14).bind fun t142 =>
          Option.bind
            (cond flags_5
              ((put93' k () 4 (0, false) t142.2.1 t142.2.2).bind fun t148 =>
              some (t148.2.1, t148.2.2))
              (some (t142.2.1, t142.2.2)) : Option tY90) fun ((o0_15, o1_15) : tY90) =>
          some ((), o0_15, o1_15)))))
def step135.A : Ann := { conds := [(1769479, ⟨[(0, .ptr 0 []), (3, .fp kY25), (4, .fp kY45), (5, .fp kY45), (6, .ptr 2 []), (7, .ptr 3 []), (27, .bool)], [(0, .var kY31), (1, .row kY45), (2, .var kY49), (3, .var kY45)], 4, [], 3892314112⟩), (1769480, ⟨[(0, .ptr 0 []), (3, .fp kY25), (4, .fp kY45), (5, .fp kY45), (6, .ptr 2 []), (7, .ptr 3 []), (27, .bool)], [(0, .var kY31), (1, .row kY45), (2, .var kY49), (3, .var kY45)], 4, [], 3355443200⟩), (1769481, ⟨[(0, .ptr 0 []), (3, .fp kY25), (4, .fp kY45), (5, .fp kY45), (6, .ptr 2 []), (7, .ptr 3 []), (27, .bool)], [(0, .var kY31), (1, .row kY45), (2, .var kY49), (3, .var kY45)], 4, [], 2281701376⟩), (4653070, ⟨[(0, .ptr 0 []), (3, .fp kY25), (7, .ptr 3 []), (8, .bool)], [(0, .var kY31), (1, .row kY45), (3, .var kY45)], 4, [], 87112285931760246637179166536793371706112⟩), (4980752, ⟨[(0, .ptr 0 []), (3, .fp kY25), (4, .fp kY45), (5, .fp kY45), (6, .ptr 2 []), (7, .ptr 3 []), (76, .bool)], [(0, .var kY31), (1, .row kY45), (2, .var kY49), (3, .var kY45)], 4, [], 377789318629571617095680⟩), (4980753, ⟨[(0, .ptr 0 []), (3, .fp kY25), (7, .ptr 3 []), (8, .bool)], [(0, .var kY31), (1, .row kY45), (3, .var kY45)], 4, [], 87112285931760246042160989695218074780416⟩), (5308435, ⟨[(0, .ptr 0 []), (3, .fp kY25), (4, .fp kY45), (7, .ptr 3 []), (9, .ptr 4 [])], [(0, .var kY31), (1, .row kY45), (3, .var kY45), (4, .var kY51)], 5, [], 0⟩), (6094870, ⟨[(0, .ptr 0 []), (3, .fp kY25), (4, .fp kY45), (5, .fp kY45), (6, .ptr 2 []), (7, .ptr 3 []), (93, .bool)], [(0, .var kY31), (1, .row kY45), (2, .var kY49), (3, .var kY45)], 4, [], 49517601571415210995964968960⟩), (7077913, ⟨[(0, .ptr 0 []), (3, .fp kY25), (4, .fp kY45), (5, .fp kY45), (6, .ptr 2 []), (7, .ptr 3 []), (108, .bool)], [(0, .var kY31), (1, .row kY45), (2, .var kY49), (3, .var kY45)], 4, [], 1622592768292133633915780102881280⟩), (7077914, ⟨[(0, .ptr 0 []), (3, .fp kY25), (7, .ptr 3 []), (8, .bool)], [(0, .var kY31), (1, .row kY45), (3, .var kY45)], 4, [], 87112283335611817379210085237284497522944⟩), (8060956, ⟨[(0, .ptr 0 []), (3, .fp kY25), (7, .ptr 3 []), (8, .bool)], [(0, .var kY31), (1, .row kY45), (3, .var kY45)], 4, [], 87069750635895129338690977676603691106560⟩), (8454174, ⟨[(0, .ptr 0 []), (3, .fp kY25), (7, .ptr 3 []), (8, .bool)], [(0, .var kY31), (1, .row kY45), (3, .var kY45)], 4, [], 84390026996392738938916902643078516441344⟩), (9371681, ⟨[], [(0, .var kY31), (1, .row kY45)], 2, [], 691323101154449317387607266452099206685392896⟩)], blocks := [], loops := [], keeps := [3, 4, 5], orders := [(12, [(0, .strong), (1, .strong), (2, .strong), (3, .strong), (4, .weak), (5, .weak), (6, .weak), (7, .weak), (8, .weak), (9, .strong), (10, .strong), (11, .strong), (12, .strong), (13, .strong), (14, .strong), (15, .strong), (16, .strong), (17, .strong), (18, .strong), (19, .strong), (20, .strong), (21, .strong), (22, .strong), (23, .strong), (24, .strong), (25, .strong), (26, .strong), (27, .strong), (28, .strong), (30, .weak), (31, .weak), (29, .eff false), (32, .strong), (33, .eff false)]), (23, [(0, .strong), (1, .strong), (2, .strong), (3, .strong), (4, .strong), (5, .strong), (6, .strong), (7, .strong), (8, .strong), (9, .strong), (10, .strong), (11, .strong), (12, .eff false)]), (26, [(0, .strong), (1, .strong), (2, .strong), (3, .strong), (4, .strong), (5, .strong), (6, .strong), (7, .strong), (8, .strong), (9, .strong), (10, .strong), (11, .strong), (12, .eff false), (13, .strong)]), (31, [(0, .strong), (1, .strong), (2, .strong), (3, .strong), (4, .strong), (5, .strong), (6, .eff false)])], alts := [(1, ((.op 0 .strong (.op 1 .strong (.op 2 .strong (.op 3 .strong (.op 4 .strong (.op 6 .weak (.op 7 .weak (.op 8 .weak (.op 9 .weak (.op 10 .weak (.alt (.op 5 (.eff false) (.alt (.op 11 (.eff false) (.alt (.op 12 (.eff true) (.op 13 (.eff true) (.op 14 (.eff false) (.op 15 (.eff false) (.leaf []))))) (.op 13 (.eff true) (.op 12 (.eff true) (.op 14 (.eff false) (.op 15 (.eff false) (.leaf []))))))) (.alt (.op 12 (.eff true) (.alt (.op 11 (.eff false) (.op 13 (.eff true) (.op 14 (.eff false) (.op 15 (.eff false) (.leaf []))))) (.op 13 (.eff true) (.op 11 (.eff false) (.op 14 (.eff false) (.op 15 (.eff false) (.leaf []))))))) (.op 13 (.eff true) (.alt (.op 11 (.eff false) (.op 12 (.eff true) (.op 14 (.eff false) (.op 15 (.eff false) (.leaf []))))) (.op 12 (.eff true) (.op 11 (.eff false) (.op 14 (.eff false) (.op 15 (.eff false) (.leaf [])))))))))) (.alt (.op 12 (.eff true) (.alt (.op 5 (.eff false) (.alt (.op 11 (.eff false) (.op 13 (.eff true) (.op 14 (.eff false) (.op 15 (.eff false) (.leaf []))))) (.op 13 (.eff true) (.op 11 (.eff false) (.op 14 (.eff false) (.op 15 (.eff false) (.leaf []))))))) (.op 13 (.eff true) (.op 5 (.eff false) (.op 11 (.eff false) (.op 14 (.eff false) (.op 15 (.eff false) (.leaf [])))))))) (.op 13 (.eff true) (.alt (.op 5 (.eff false) (.alt (.op 11 (.eff false) (.op 12 (.eff true) (.op 14 (.eff false) (.op 15 (.eff false) (.leaf []))))) (.op 12 (.eff true) (.op 11 (.eff false) (.op 14 (.eff false) (.op 15 (.eff false) (.leaf []))))))) (.op 12 (.eff true) (.op 5 (.eff false) (.op 11 (.eff false) (.op 14 (.eff false) (.op 15 (.eff false) (.leaf [])))))))))))))))))))), ⟨[(0, .ptr 0 []), (3, .fp kY25), (4, .fp kY45), (5, .fp kY45)], [(0, .var kY31), (1, .row kY45)], 2, [], 4193328⟩)), (20, ((.op 0 .strong (.op 1 .strong (.op 3 .strong (.op 4 .strong (.op 7 .weak (.op 8 .weak (.alt (.op 2 (.eff true) (.op 5 (.eff true) (.op 6 (.eff false) (.op 9 (.eff true) (.op 10 .weak (.op 11 (.eff false) (.op 12 .strong (.leaf [])))))))) (.op 5 (.eff true) (.op 2 (.eff true) (.op 6 (.eff false) (.op 9 (.eff true) (.op 10 .weak (.op 11 (.eff false) (.op 12 .strong (.leaf []))))))))))))))), ⟨[(0, .ptr 0 []), (3, .fp kY25), (7, .ptr 3 []), (8, .bool)], [(0, .var kY31), (1, .row kY45), (3, .var kY45)], 4, [], 9898684611004583682494169344⟩))] }
def step135.S : Sig := { f := 135, params := [.ptr 0 [], .st kY27], objs := [.var kY31, .row kY45], res := .tup .unit, outs := [.var kY31, .row kY45], fix := [], run := fun k ds os => step135 k ds.1 ds.2 os.1 os.2 }
def step135.G : List Sig := [get96.S, known94.S, put93'.S, size165.S, then129''''.S, then129'''''.S, then129''''''.S, wide131.S]
theorem step135.eq (k : Nat) : ∀ ds os, step135.S.run k ds os = runF ⟨types, step135.G, step135.A, k, 0, []⟩ Tryz.f135 (codeOf Tryz.f135) step135.S.params step135.S.objs step135.S.res step135.S.outs ds os := by
  intro ds os; kernel_rfl
theorem step135.dr : DrOk Tryz.prog step135.A (codeOf Tryz.f135) := ⟨by kernel_rfl, by kernel_rfl⟩
theorem step135.ok (k : Nat) : SoundAt Tryz.prog k step135.S :=
  runF_sound (X := ⟨types, step135.G, step135.A, k, 0, []⟩) types_ok (mem_all (⟨get96.ok k, ⟨known94.ok k, ⟨put93'.ok k, ⟨size165.ok k, ⟨then129''''.ok k, ⟨then129'''''.ok k, ⟨then129''''''.ok k, ⟨wide131.ok k, trivial⟩⟩⟩⟩⟩⟩⟩⟩)) (fn := Tryz.f135) (c := codeOf Tryz.f135) rfl (by kernel_rfl) rfl rfl step135.dr (step135.eq k)
end Go.Proofs.YtcppmlgnceldmaaGreat.Fl

/- Go functions as plain Lean functions, and their contracts. -/
set_option linter.unusedVariables false
set_option maxRecDepth 100000
noncomputable section
namespace Go.Proofs.YtcppmlgnceldmaaGreat.Fl
open Go Go.Proofs.YtcppmlgnceldmaaGreat.Gp
def finish95.l0 (k : Nat) (t16 : tY88) : tY24 → Option (tY24 ⊕ tY27)
  | (code_2, _, _, t24, o0_1, o1_1, o5_1) =>
    cond (decide (t24 < (List.length t16.2.2.2 : Int)))
      ((rd t16.2.2.2 t24).bind fun t26 =>
      Option.bind
        (cond (t26.1 == 24)
          ((Clone134 k o1_1).bind fun t36 =>
          (if room (List.length o5_1 + List.length [(o0_1.1, t36.2)]) 312 then some () else none).bind fun _ =>
          some (code_2, (), (), o0_1, o1_1, (o5_1 ++ [(o0_1.1, t36.2)])))
          ((step135 k () t26 o0_1 o1_1).bind fun t41 =>
          some (code_2, (), (), t41.2.1, t41.2.2, o5_1)) : Option tY27) fun ((code_3, _, _, o0_2, o1_2, o5_2) : tY27) =>
      some (Sum.inl (code_3, (), (), (w64 (t24 + 1)), o0_2, o1_2, o5_2)))
      (some (Sum.inr (code_2, (), (), o0_1, o1_1, o5_1)))
def finish95.l1 (k : Nat) (l : tY82) : tY24 → Option (tY24 ⊕ tY44)
  | (code_1, _, _, t14, o0, o1, o5) =>
    cond (decide (t14 < (List.length l : Int)))
      ((rd l t14).bind fun t16 =>
      (cycle133 k () code_1 t16 o0 o1).bind fun t20 =>
      Option.bind
        (loopN (finish95.l0 k t16) k (code_1, (), (), 0, t20.2.1, t20.2.2, o5) : Option tY27) fun ((code_4, _, _, o0_3, o1_3, o5_3) : tY27) =>
      some (Sum.inl (code_4, (), (), (w64 (t14 + 1)), o0_3, o1_3, o5_3)))
      (some (Sum.inr ((), (), o0, o1, o5)))
def finish95 (k : Nat) (code : tY92) (l : tY82) (w : tY103) : Option tY87 :=
  Option.bind
    (loopN (finish95.l1 k l) k (code, (), (), 0, w, [], []) : Option tY44) fun ((_, _, o0_4, o1_4, o5_4) : tY44) =>
  (if room (List.length o5_4 + List.length [(o0_4.1, o1_4)]) 312 then some () else none).bind fun _ =>
  some ((o5_4 ++ [(o0_4.1, o1_4)]), ())
def finish95.A : Ann := { conds := [(1966090, ⟨[(3, .fp kY20), (5, .ptr 0 []), (7, .ms 5)], [(0, .var kY31), (1, .row kY45), (5, .row kY19)], 6, [], 4395899027584⟩)], blocks := [(0, ⟨[(5, .ptr 0 []), (7, .ms 5)], [(0, .var kY31), (1, .row kY45), (5, .row kY19)], 6, [], 17592186030720⟩), (2, ⟨[(3, .fp kY20), (5, .ptr 0 []), (7, .ms 5)], [(0, .var kY31), (1, .row kY45), (5, .row kY19)], 6, [], 8796076247168⟩)], loops := [(3, ⟨[(3, .fp kY20), (5, .ptr 0 []), (7, .ms 5), (14, .int .i64)], [(0, .var kY31), (1, .row kY45), (5, .row kY19)], 6, [(5, .st kY21)], 17592186030720⟩), (7, ⟨[(3, .fp kY20), (5, .ptr 0 []), (7, .ms 5), (24, .int .i64)], [(0, .var kY31), (1, .row kY45), (5, .row kY19)], 6, [], 8796076247168⟩)], keeps := [3, 9, 11], orders := [(10, [(0, .strong), (1, .strong), (2, .strong), (3, .strong), (4, .strong), (5, .eff true), (6, .strong), (7, .eff true), (8, .eff false), (9, .strong)])], turns := [(0, [⟨0, [(1, .st kY47)], .st (.pair kY43 (.ms 1))⟩])] }
def finish95.S : Sig := { f := 95, params := [.st kY24, .sl kY16, .st kY37], objs := [], res := .sl kY19, outs := [], fix := [], run := fun k ds os => finish95 k ds.1 ds.2.1 ds.2.2 }
def finish95.G : List Sig := [Clone134.S, cycle133.S, step135.S]
theorem finish95.eq (k : Nat) : ∀ ds os, finish95.S.run k ds os = runF ⟨types, finish95.G, finish95.A, k, 0, []⟩ Tryz.f95 (codeOf Tryz.f95) finish95.S.params finish95.S.objs finish95.S.res finish95.S.outs ds os := by
  intro ds os; kernel_rfl
theorem finish95.dr : DrOk Tryz.prog finish95.A (codeOf Tryz.f95) := ⟨by kernel_rfl, by kernel_rfl⟩
theorem finish95.ok (k : Nat) : SoundAt Tryz.prog k finish95.S :=
  runF_sound (X := ⟨types, finish95.G, finish95.A, k, 0, []⟩) types_ok (mem_all (⟨Clone134.ok k, ⟨cycle133.ok k, ⟨step135.ok k, trivial⟩⟩⟩)) (fn := Tryz.f95) (c := codeOf Tryz.f95) rfl (by kernel_rfl) rfl rfl finish95.dr (finish95.eq k)

def get96' (k : Nat) (_ : Unit) (reg : Int) (o0 : tY95) : Option (tY114 × tY95) :=
  (wide131 k reg).bind fun t6 =>
  cond (!t6.1)
    ((if 0 ≤ (w64 (2 * reg)) ∧ (w64 (2 * reg)) < 18 then some () else none).bind fun _ =>
    (rd o0.1 (w64 (2 * reg))).bind fun t13 =>
    some (t13, o0))
    ((if 0 ≤ (w64 (2 * reg)) ∧ (w64 (2 * reg)) < 18 then some () else none).bind fun _ =>
    (rd o0.1 (w64 (2 * reg))).bind fun t19 =>
    let t23 : Int := (w64 ((w64 (2 * reg)) + 1))
    (if 0 ≤ t23 ∧ t23 < 18 then some () else none).bind fun _ =>
    (rd o0.1 t23).bind fun t26 =>
    (then129'' k 16 () [t19, t26]).bind fun t28 =>
    some (t28.1, o0))
def get96'.A : Ann := { conds := [], blocks := [], loops := [], keeps := [], orders := [(3, [(0, .strong), (1, .strong), (2, .strong), (3, .strong), (4, .strong), (5, .strong), (6, .strong), (7, .strong), (8, .strong), (9, .strong), (10, .strong), (11, .strong), (12, .strong), (13, .eff true), (14, .eff true), (15, .eff false)])] }
def get96'.S : Sig := { f := 96, params := [.ptr 0 [.fld 0 0], .int .i64], objs := [.var kY19], res := .st kY47, outs := [.var kY19], fix := [], run := fun k ds os => get96' k ds.1 ds.2 os }
def get96'.G : List Sig := [then129''.S, wide131.S]
theorem get96'.eq (k : Nat) : ∀ ds os, get96'.S.run k ds os = runF ⟨types, get96'.G, get96'.A, k, 0, []⟩ Tryz.f96 (codeOf Tryz.f96) get96'.S.params get96'.S.objs get96'.S.res get96'.S.outs ds os := by
  intro ds os; kernel_rfl
theorem get96'.dr : DrOk Tryz.prog get96'.A (codeOf Tryz.f96) := ⟨by kernel_rfl, by kernel_rfl⟩
theorem get96'.ok (k : Nat) : SoundAt Tryz.prog k get96'.S :=
  runF_sound (X := ⟨types, get96'.G, get96'.A, k, 0, []⟩) types_ok (mem_all (⟨then129''.ok k, ⟨wide131.ok k, trivial⟩⟩)) (fn := Tryz.f96) (c := codeOf Tryz.f96) rfl (by kernel_rfl) rfl rfl get96'.dr (get96'.eq k)

def Index137.l0 (k : Nat) (s : tY115) (v : Int) : Int → Option tY101
  | t8 =>
    cond (decide (t8 < (List.length s : Int)))
      ((rd s t8).bind fun t14 =>
      cond (v == t14)
        (some (Sum.inr (Sum.inr (t8, ()))))
        (some (Sum.inl (w64 (t8 + 1)))))
      (some (Sum.inr (Sum.inl ())))
def Index137 (k : Nat) (s : tY115) (v : Int) : Option tY113 :=
  Option.bind
    (loopN (Index137.l0 k s v) k 0 : Option tY107) (joined fun (_ : Unit) =>
    some ((-1), ()))
def Index137.A : Ann := { conds := [], blocks := [(0, ⟨[], [], 0, [], 524080⟩)], loops := [(2, ⟨[(8, .int .i64)], [], 0, [], 524080⟩)], keeps := [], orders := [] }
def Index137.S : Sig := { f := 137, params := [.sl kY51, .int .i64], objs := [], res := .int .i64, outs := [], fix := [], run := fun k ds os => Index137 k ds.1 ds.2 }
def Index137.G : List Sig := []
theorem Index137.eq (k : Nat) : ∀ ds os, Index137.S.run k ds os = runF ⟨types, Index137.G, Index137.A, k, 0, []⟩ Tryz.f137 (codeOf Tryz.f137) Index137.S.params Index137.S.objs Index137.S.res Index137.S.outs ds os := by
  intro ds os; kernel_rfl
theorem Index137.dr : DrOk Tryz.prog Index137.A (codeOf Tryz.f137) := ⟨by kernel_rfl, by kernel_rfl⟩
theorem Index137.ok (k : Nat) : SoundAt Tryz.prog k Index137.S :=
  runF_sound (X := ⟨types, Index137.G, Index137.A, k, 0, []⟩) types_ok (fun s hs => absurd hs List.not_mem_nil) (fn := Tryz.f137) (c := codeOf Tryz.f137) rfl (by kernel_rfl) rfl rfl Index137.dr (Index137.eq k)

def Contains97 (k : Nat) (s : tY115) (v : Int) : Option tY112 :=
  (Index137 k s v).bind fun t7 =>
  some ((decide (t7.1 ≥ 0)), ())
def Contains97.A : Ann := { conds := [], blocks := [], loops := [], keeps := [], orders := [] }
def Contains97.S : Sig := { f := 97, params := [.sl kY51, .int .i64], objs := [], res := .bool, outs := [], fix := [], run := fun k ds os => Contains97 k ds.1 ds.2 }
def Contains97.G : List Sig := [Index137.S]
theorem Contains97.eq (k : Nat) : ∀ ds os, Contains97.S.run k ds os = runF ⟨types, Contains97.G, Contains97.A, k, 0, []⟩ Tryz.f97 (codeOf Tryz.f97) Contains97.S.params Contains97.S.objs Contains97.S.res Contains97.S.outs ds os := by
  intro ds os; kernel_rfl
theorem Contains97.dr : DrOk Tryz.prog Contains97.A (codeOf Tryz.f97) := ⟨by kernel_rfl, by kernel_rfl⟩
theorem Contains97.ok (k : Nat) : SoundAt Tryz.prog k Contains97.S :=
  runF_sound (X := ⟨types, Contains97.G, Contains97.A, k, 0, []⟩) types_ok (mem_all (⟨Index137.ok k, trivial⟩)) (fn := Tryz.f97) (c := codeOf Tryz.f97) rfl (by kernel_rfl) rfl rfl Contains97.dr (Contains97.eq k)
end Go.Proofs.YtcppmlgnceldmaaGreat.Fl

/- Go functions as plain Lean functions, and their contracts. -/
set_option linter.unusedVariables false
set_option maxRecDepth 100000
noncomputable section
namespace Go.Proofs.YtcppmlgnceldmaaGreat.Fl
open Go Go.Proofs.YtcppmlgnceldmaaGreat.Gp
def way58.l0 (k : Nat) (t40 : tY108) (t47 : tY87) : tY36 → Option (tY36 ⊕ tY40)
  | (_, _, _, t50, o1, o2, o3, o4, o8) =>
    cond (decide (t50 < (List.length t47.1 : Int)))
      ((rd t47.1 t50).bind fun t52 =>
      (get96' k () 7 t52).bind fun t55 =>
      Option.bind
        (cond t55.1.2
          ((if room (List.length o8 + List.length ([t55.1.1] : List Int)) 8 then some () else none).bind fun _ =>
          some ((), (), (), (), o1, o2, o3, o4, (o8 ++ ([t55.1.1] : List Int)), t55.2))
          (some ((), (), (), (), o1, o2, (o3.1, o3.2.1, true, o3.2.2.2), o4, o8, t55.2)) : Option tY22) fun ((_, _, _, _, o1_1, o2_1, o3_1, o4_1, o8_1, o9) : tY22) =>
      Option.bind (cond (decide ((List.length o9.2 : Int) > 1))
        ((rd o9.2 (w64 ((List.length o9.2 : Int) - 2))).bind fun t74 =>
        (known94 k (quoI .i64 t40.1.1 256) 8).bind fun t78 =>
        some (xor false (eqB kY45 t74 t78.1)))
        (some false)) fun t80 =>
      Option.bind (cond t80
        ((rd o9.2 (w64 ((List.length o9.2 : Int) - 1))).bind fun t86 =>
        (known94 k t40.1.1 8).bind fun t89 =>
        some (xor false (eqB kY45 t86 t89.1)))
        (some false)) fun t91 =>
      Option.bind
        (cond t91
          (some ((), (), (), o1_1, o2_1, (o3_1.1, o3_1.2.1, o3_1.2.2.1, true), o4_1, o8_1))
          (some ((), (), (), o1_1, o2_1, o3_1, o4_1, o8_1)) : Option tY40) fun ((_, _, _, o1_2, o2_2, o3_2, o4_2, o8_2) : tY40) =>
      some (Sum.inl ((), (), (), (w64 (t50 + 1)), o1_2, o2_2, o3_2, o4_2, o8_2)))
      (some (Sum.inr ((), (), (), o1, o2, o3, o4, o8)))
def way58.l1 (k : Nat) : tY36 → Option (tY36 ⊕ tY50)
  | (_, _, _, t94, o1_4, o2_4, o3_4, o4_4, o8_4) =>
    cond (decide (t94 < 65536))
      ((Contains97 k o8_4 t94).bind fun t99 =>
      Option.bind
        (cond t99.1
          ((if room (List.length o4_4 + List.length ([t94] : List Int)) 8 then some () else none).bind fun _ =>
          some ((), (), (), o1_4, o2_4, (o3_4.1, o3_4.2.1, o3_4.2.2), (o4_4 ++ ([t94] : List Int)), o8_4))
          (some ((), (), (), o1_4, o2_4, o3_4, o4_4, o8_4)) : Option tY40) fun ((_, _, _, o1_5, o2_5, o3_5, o4_5, o8_5) : tY40) =>
      cond ((List.length o4_5 : Int) == (List.length o8_5 : Int))
        (some (Sum.inr ((), (), o1_5, o2_5, o3_5, o4_5)))
        (some (Sum.inl ((), (), (), (w64 (t94 + 1)), o1_5, o2_5, o3_5, o4_5, o8_5))))
      (some (Sum.inr ((), (), o1_4, o2_4, o3_4, o4_4)))
def way58 (k : Nat) (code : tY92) (x : tY61) (addr : Int) (r : tY109) : Option ((tY96 × tY87) × Unit) :=
  (operands49 k).bind fun t22 =>
  (known94 k (w64 (addr + 1)) 16).bind fun t27 =>
  (put93 k () 7 t27.1 r).bind fun t28 =>
  (rd t22.1.1 x.2.2.1).bind fun t32 =>
  (known94 k (w64 (addr + (w64 (1 + t32)))) 16).bind fun t40 =>
  (finish95 k code x.2.2.2 (t28.2, ())).bind fun t47 =>
  Option.bind
    (loopN (way58.l0 k t40 t47) k ((), (), (), 0, (0, (), false, false), [], ((w64 (1 + t32)), (), false, false), [], []) : Option tY40) fun ((_, _, _, o1_3, o2_3, o3_3, o4_3, o8_3) : tY40) =>
  Option.bind
    (loopN (way58.l1 k) k ((), (), (), 0, o1_3, o2_3, o3_3, o4_3, o8_3) : Option tY50) fun ((_, _, _, _, o3_6, o4_6) : tY50) =>
  some (((o3_6.1, o4_6, o3_6.2.2), t47.1, ()), ())
def way58.A : Ann := { conds := [(3735564, ⟨[(8, .ptr 1 []), (12, .ptr 3 []), (15, .ms 8), (17, .ptr 9 [])], [(1, .var kY33), (2, .row kY51), (3, .var kY34), (4, .row kY51), (8, .row kY51), (9, .var kY19)], 10, [], 18158513697557872640⟩), (5963792, ⟨[(8, .ptr 1 []), (12, .ptr 3 []), (15, .ms 8)], [(1, .var kY33), (2, .row kY51), (3, .var kY34), (4, .row kY51), (8, .row kY51)], 9, [], 4951760157141521099596496896⟩), (6488086, ⟨[(8, .ptr 1 []), (12, .ptr 3 []), (15, .ms 8)], [(1, .var kY33), (2, .row kY51), (3, .var kY34), (4, .row kY51), (8, .row kY51)], 9, [], 79861987814378452294292301938688⟩)], blocks := [(0, ⟨[(8, .ptr 1 []), (12, .ptr 3 []), (15, .ms 8)], [(1, .var kY33), (2, .row kY51), (3, .var kY34), (4, .row kY51), (8, .row kY51)], 9, [], 19807040628564958498480095232⟩), (2, ⟨[(8, .ptr 1 []), (12, .ptr 3 [])], [(1, .var kY33), (2, .row kY51), (3, .var kY34), (4, .row kY51)], 5, [], 10384573910029026690976594273501184⟩)], loops := [(8, ⟨[(8, .ptr 1 []), (12, .ptr 3 []), (15, .ms 8), (50, .int .i64)], [(1, .var kY33), (2, .row kY51), (3, .var kY34), (4, .row kY51), (8, .row kY51)], 9, [(8, .int .i64)], 19807040628564958498480095232⟩), (19, ⟨[(8, .ptr 1 []), (12, .ptr 3 []), (15, .ms 8), (94, .int .i64)], [(1, .var kY33), (2, .row kY51), (3, .var kY34), (4, .row kY51), (8, .row kY51)], 9, [], 10384573910029026690976594273501184⟩)], keeps := [4, 5, 18], orders := [(15, [(0, .strong), (1, .strong), (2, .strong), (3, .strong), (4, .strong), (5, .strong), (6, .strong), (7, .strong), (8, .strong), (9, .strong), (10, .strong), (11, .eff true), (12, .strong), (13, .strong), (14, .strong), (15, .strong), (16, .strong), (17, .strong), (18, .strong), (19, .strong), (20, .strong), (21, .strong), (22, .eff true), (23, .strong), (24, .strong)])], turns := [(0, [⟨1, [(2, .int .i64)], .st kY35⟩]), (3, [⟨3, [(4, .int .i64)], .st kY36⟩])] }
def way58.S : Sig := { f := 58, params := [.st kY24, .st kY9, .int .i64, .arr 18 kY45], objs := [], res := .tup (.pair kY28 (.pair (.sl kY19) .unit)), outs := [], fix := [], run := fun k ds os => way58 k ds.1 ds.2.1 ds.2.2.1 ds.2.2.2 }
def way58.G : List Sig := [Contains97.S, finish95.S, get96'.S, known94.S, operands49.S, put93.S]
theorem way58.eq (k : Nat) : ∀ ds os, way58.S.run k ds os = runF ⟨types, way58.G, way58.A, k, 0, []⟩ Tryz.f58 (codeOf Tryz.f58) way58.S.params way58.S.objs way58.S.res way58.S.outs ds os := by
  intro ds os; kernel_rfl
theorem way58.dr : DrOk Tryz.prog way58.A (codeOf Tryz.f58) := ⟨by kernel_rfl, by kernel_rfl⟩
theorem way58.ok (k : Nat) : SoundAt Tryz.prog k way58.S :=
  runF_sound (X := ⟨types, way58.G, way58.A, k, 0, []⟩) types_ok (mem_all (⟨Contains97.ok k, ⟨finish95.ok k, ⟨get96'.ok k, ⟨known94.ok k, ⟨operands49.ok k, ⟨put93.ok k, trivial⟩⟩⟩⟩⟩⟩)) (fn := Tryz.f58) (c := codeOf Tryz.f58) rfl (by kernel_rfl) rfl rfl way58.dr (way58.eq k)

def NextWay21 (k : Nat) (c : tY12) (code : tY92) (addr : Int) : Option tY83 :=
  (starts57 k c code addr).bind fun t16 =>
  cond (t16.1.2.1 != 0)
    (some (((0, [], false, false), t16.1.2.1, ()), ()))
    ((way58 k code t16.1.1 addr [(0, false), (0, false), (0, false), (0, false), (0, false), (0, false), (0, false), (0, false), (0, false), (0, false), (0, false), (0, false), (0, false), (0, false), (0, false), (0, false), (0, false), (0, false)]).bind fun t28 =>
    some ((t28.1.1, 0, ()), ()))
def NextWay21.A : Ann := { conds := [], blocks := [], loops := [], keeps := [3, 4, 8, 10], orders := [] }
def NextWay21.S : Sig := { f := 21, params := [.st kY1, .st kY24, .int .i64], objs := [], res := .tup kY18, outs := [], fix := [], run := fun k ds os => NextWay21 k ds.1 ds.2.1 ds.2.2 }
def NextWay21.G : List Sig := [starts57.S, way58.S]
theorem NextWay21.eq (k : Nat) : ∀ ds os, NextWay21.S.run k ds os = runF ⟨types, NextWay21.G, NextWay21.A, k, 0, []⟩ Tryz.f21 (codeOf Tryz.f21) NextWay21.S.params NextWay21.S.objs NextWay21.S.res NextWay21.S.outs ds os := by
  intro ds os; kernel_rfl
theorem NextWay21.dr : DrOk Tryz.prog NextWay21.A (codeOf Tryz.f21) := ⟨by kernel_rfl, by kernel_rfl⟩
theorem NextWay21.ok (k : Nat) : SoundAt Tryz.prog k NextWay21.S :=
  runF_sound (X := ⟨types, NextWay21.G, NextWay21.A, k, 0, []⟩) types_ok (mem_all (⟨starts57.ok k, ⟨way58.ok k, trivial⟩⟩)) (fn := Tryz.f21) (c := codeOf Tryz.f21) rfl (by kernel_rfl) rfl rfl NextWay21.dr (NextWay21.eq k)

end Go.Proofs.YtcppmlgnceldmaaGreat.Fl

/- Go functions as plain Lean functions, and their contracts. -/
set_option linter.unusedVariables false
set_option maxRecDepth 100000
noncomputable section
namespace Go.Proofs.YtcppmlgnceldmaaGreat.Fl
open Go Go.Proofs.YtcppmlgnceldmaaGreat.Gp
def Clone98' (k : Nat) (s : tY99) : Option tY94 :=
  orNil (List.length s)
    (cond true
      (some ([], ()))
      ((if room (0 + List.length s) 32 then some () else none).bind fun _ =>
      some (s, ())))
    (cond false
      (some ([], ()))
      ((if room (0 + List.length s) 32 then some () else none).bind fun _ =>
      some (s, ())))
def Clone98'.A : Ann := { conds := [], blocks := [], loops := [], keeps := [], orders := [] }
def Clone98'.S : Sig := { f := 98, params := [.sl kY25], objs := [], res := .sl kY25, outs := [], fix := [], run := fun k ds os => Clone98' k ds }
def Clone98'.G : List Sig := []
theorem Clone98'.eq (k : Nat) : ∀ ds os, Clone98'.S.run k ds os = runF ⟨types, Clone98'.G, Clone98'.A, k, 0, []⟩ Tryz.f98 (codeOf Tryz.f98) Clone98'.S.params Clone98'.S.objs Clone98'.S.res Clone98'.S.outs ds os := by
  intro ds os; kernel_rfl
theorem Clone98'.dr : DrOk Tryz.prog Clone98'.A (codeOf Tryz.f98) := ⟨by kernel_rfl, by kernel_rfl⟩
theorem Clone98'.ok (k : Nat) : SoundAt Tryz.prog k Clone98'.S :=
  runF_sound (X := ⟨types, Clone98'.G, Clone98'.A, k, 0, []⟩) types_ok (fun s hs => absurd hs List.not_mem_nil) (fn := Tryz.f98) (c := codeOf Tryz.f98) rfl (by kernel_rfl) rfl rfl Clone98'.dr (Clone98'.eq k)

def moves59.l0 (k : Nat) (x : tY61) : tY63 → Option tY26
  | (_, t11, o0) =>
    cond (decide (t11 < (List.length x.2.2.2 : Int)))
      ((rd x.2.2.2 t11).bind fun t13 =>
      (Clone98' k t13.2.2.2).bind fun t24 =>
      (if room (List.length o0 + List.length [(false, t13.1, t13.2.1, t13.2.2.1, t24.1)]) 56 then some () else none).bind fun _ =>
      some (Sum.inl ((), (w64 (t11 + 1)), (o0 ++ [(false, t13.1, t13.2.1, t13.2.2.1, t24.1)]))))
      (some (Sum.inr ((), o0)))
def moves59 (k : Nat) (x : tY61) : Option tY68 :=
  Option.bind
    (loopN (moves59.l0 k x) k ((), 0, ([(true, 1, 0, 0, [])] : List tY81)) : Option tY67) fun ((_, o0_1) : tY67) =>
  some (o0_1, ())
def moves59.A : Ann := { conds := [], blocks := [(0, ⟨[(3, .ms 0)], [(0, .row kY13)], 1, [], 536868904⟩)], loops := [(3, ⟨[(3, .ms 0), (11, .int .i64)], [(0, .row kY13)], 1, [], 536868904⟩)], keeps := [1, 5], orders := [(5, [(0, .strong), (1, .strong), (2, .strong), (3, .strong), (4, .strong), (5, .strong), (6, .strong), (7, .strong), (8, .strong), (9, .eff true), (10, .strong), (11, .eff true), (12, .eff false), (13, .strong)])] }
def moves59.S : Sig := { f := 59, params := [.st kY9], objs := [], res := .sl kY13, outs := [], fix := [], run := fun k ds os => moves59 k ds }
def moves59.G : List Sig := [Clone98'.S]
theorem moves59.eq (k : Nat) : ∀ ds os, moves59.S.run k ds os = runF ⟨types, moves59.G, moves59.A, k, 0, []⟩ Tryz.f59 (codeOf Tryz.f59) moves59.S.params moves59.S.objs moves59.S.res moves59.S.outs ds os := by
  intro ds os; kernel_rfl
theorem moves59.dr : DrOk Tryz.prog moves59.A (codeOf Tryz.f59) := ⟨by kernel_rfl, by kernel_rfl⟩
theorem moves59.ok (k : Nat) : SoundAt Tryz.prog k moves59.S :=
  runF_sound (X := ⟨types, moves59.G, moves59.A, k, 0, []⟩) types_ok (mem_all (⟨Clone98'.ok k, trivial⟩)) (fn := Tryz.f59) (c := codeOf Tryz.f59) rfl (by kernel_rfl) rfl rfl moves59.dr (moves59.eq k)

def away60 (k : Nat) (c : tY12) (at_ : Int) (b : tY115) : Option tY112 :=
  (Next18 k c (at_, b, []) at_).bind fun t15 =>
  Option.bind (cond t15.1.1.2.2.1
    (some true)
    ((Low70 k (w64 (at_ + t15.1.1.1)) 16).bind fun t27 =>
    (Equal56 k t15.1.1.2.1 ([t27.1] : List Int)).bind fun t29 =>
    some (!t29.1))) fun t31 =>
  some (t31, ())
def away60.A : Ann := { conds := [], blocks := [], loops := [], keeps := [3, 7], orders := [(2, [(0, .strong), (1, .strong), (2, .strong), (3, .strong), (4, .strong), (5, .strong), (6, .strong), (7, .strong), (8, .strong), (9, .eff true), (10, .eff true), (11, .eff true), (12, .strong), (13, .strong), (14, .strong)])] }
def away60.S : Sig := { f := 60, params := [.st kY1, .int .i64, .sl kY52], objs := [], res := .bool, outs := [], fix := [], run := fun k ds os => away60 k ds.1 ds.2.1 ds.2.2 }
def away60.G : List Sig := [Equal56.S, Low70.S, Next18.S]
theorem away60.eq (k : Nat) : ∀ ds os, away60.S.run k ds os = runF ⟨types, away60.G, away60.A, k, 0, []⟩ Tryz.f60 (codeOf Tryz.f60) away60.S.params away60.S.objs away60.S.res away60.S.outs ds os := by
  intro ds os; kernel_rfl
theorem away60.dr : DrOk Tryz.prog away60.A (codeOf Tryz.f60) := ⟨by kernel_rfl, by kernel_rfl⟩
theorem away60.ok (k : Nat) : SoundAt Tryz.prog k away60.S :=
  runF_sound (X := ⟨types, away60.G, away60.A, k, 0, []⟩) types_ok (mem_all (⟨Equal56.ok k, ⟨Low70.ok k, ⟨Next18.ok k, trivial⟩⟩⟩)) (fn := Tryz.f60) (c := codeOf Tryz.f60) rfl (by kernel_rfl) rfl rfl away60.dr (away60.eq k)
end Go.Proofs.YtcppmlgnceldmaaGreat.Fl

/- Go functions as plain Lean functions, and their contracts. -/
set_option linter.unusedVariables false
set_option maxRecDepth 100000
noncomputable section
namespace Go.Proofs.YtcppmlgnceldmaaGreat.Fl
open Go Go.Proofs.YtcppmlgnceldmaaGreat.Gp
def Make23.l0 (k : Nat) (addr : Int) : tY4 → Option (tY4 ⊕ tY23)
  | (c_1, code_1, _, _, o0, o2, o3, o4) =>
    cond (cond (decide (o2.2.2.1 < 64)) (!o2.2.2.2.1) false)
      (let t42 : Int := (w64 (addr + (List.length o3 : Int)))
      (Next18 k c_1 code_1 t42).bind fun t47 =>
      cond (t47.1.2.1 != 0)
        (some (Sum.inr ((), (), o0, o2, o3, o4)))
        (let t55 : Int := (w64 (t42 - code_1.1))
        Option.bind
          ((rd code_1.2.1 t55).bind fun t61 =>
          agree
            ((Find11 k c_1 (w64 t61)).bind fun t64 =>
            some (c_1, code_1, (), (), t47.1.1, t64.1.1, o0, o2, o3, o4))
            ((Find11 k c_1 (w64 t61)).bind fun t64_1 =>
            some (c_1, code_1, (), (), t47.1.1, t64_1.1.1, o0, o2, o3, o4)) : Option tY0) fun ((c_2, code_2, _, _, w, x, o0_1, o2_1, o3_1, o4_1) : tY0) =>
        (slc code_2.2.1 t55 (w64 (t55 + w.1))).bind fun t76 =>
        (if room (List.length o3_1 + List.length t76) 1 then some () else none).bind fun _ =>
        (moves59 k x).bind fun t82 =>
        (if room (List.length o4_1 + List.length t82.1) 56 then some () else none).bind fun _ =>
        (slc code_2.2.1 t55 (w64 (t55 + w.1))).bind fun t98 =>
        (away60 k c_2 t42 t98).bind fun t99 =>
        some (Sum.inl (c_2, code_2, (), (), o0_1, (o2_1.1, o2_1.2.1, (w64 (o2_1.2.2.1 + 1)), t99.1, o2_1.2.2.2.2), (o3_1 ++ t76), (o4_1 ++ t82.1)))))
      (some (Sum.inr ((), (), o0, o2, o3, o4)))
def Make23 (k : Nat) (c : tY12) (code : tY92) (addr : Int) : Option tY39 :=
  (Next18 k c code addr).bind fun t21 =>
  cond (t21.1.2.1 != 0)
    (some (((0, [], 0, false, []), t21.1.2.1, ()), ()))
    (Option.bind
      (loopN (Make23.l0 k addr) k (c, code, (), (), (0, (), 0, false, ()), (addr, (), 0, false, ()), [], []) : Option tY23) fun ((_, _, _, o2_2, o3_2, o4_2) : tY23) =>
    some (((o2_2.1, o3_2, o2_2.2.2.1, o2_2.2.2.2.1, o4_2), 0, ()), ()))
def Make23.A : Ann := { conds := [], blocks := [(0, ⟨[(6, .ptr 0 []), (10, .ptr 2 [])], [(0, .var kY26), (2, .var kY22), (3, .row kY52), (4, .row kY13)], 5, [], 2535301200456458802992332797952⟩)], loops := [(5, ⟨[(3, .fp kY0), (4, .fp kY20), (6, .ptr 0 []), (10, .ptr 2 [])], [(0, .var kY26), (2, .var kY22), (3, .row kY52), (4, .row kY13)], 5, [(3, .int .u8), (4, .st kY14)], 2535301200456458802992332797952⟩)], keeps := [3, 4, 8, 12, 15], orders := [(11, [(0, .strong), (1, .strong), (2, .strong), (3, .strong), (4, .strong), (5, .strong), (6, .strong), (7, .strong), (8, .strong), (9, .strong), (10, .eff false), (11, .strong), (12, .eff false)]), (12, [(0, .strong), (1, .strong), (2, .strong), (3, .eff true), (4, .eff false), (5, .strong), (6, .eff false)]), (14, [(0, .strong), (1, .strong), (2, .strong), (3, .strong), (4, .strong), (5, .strong), (6, .strong), (7, .strong), (8, .strong), (9, .strong), (10, .eff true), (11, .strong), (12, .eff false)])], alts := [(10, ((.op 0 .strong (.op 1 .strong (.op 2 .strong (.op 3 .strong (.op 4 .strong (.op 5 .strong (.op 6 .strong (.alt (.op 7 (.eff true) (.op 8 .strong (.op 9 .strong (.op 10 .weak (.op 11 (.eff true) (.op 12 (.eff false) (.op 13 .strong (.leaf [])))))))) (.op 11 (.eff true) (.op 7 (.eff true) (.op 8 .strong (.op 9 .strong (.op 10 .weak (.op 12 (.eff false) (.op 13 .strong (.leaf [])))))))))))))))), ⟨[(3, .fp kY0), (4, .fp kY20), (6, .ptr 0 []), (10, .ptr 2 []), (12, .fp kY28), (15, .fp kY8)], [(0, .var kY26), (2, .var kY22), (3, .row kY52), (4, .row kY13)], 5, [], 147501894995638583296⟩))] }
def Make23.S : Sig := { f := 23, params := [.st kY1, .st kY24, .int .i64], objs := [], res := .tup kY2, outs := [], fix := [], run := fun k ds os => Make23 k ds.1 ds.2.1 ds.2.2 }
def Make23.G : List Sig := [Find11.S, Next18.S, away60.S, moves59.S]
theorem Make23.eq (k : Nat) : ∀ ds os, Make23.S.run k ds os = runF ⟨types, Make23.G, Make23.A, k, 0, []⟩ Tryz.f23 (codeOf Tryz.f23) Make23.S.params Make23.S.objs Make23.S.res Make23.S.outs ds os := by
  intro ds os; kernel_rfl
theorem Make23.dr : DrOk Tryz.prog Make23.A (codeOf Tryz.f23) := ⟨by kernel_rfl, by kernel_rfl⟩
theorem Make23.ok (k : Nat) : SoundAt Tryz.prog k Make23.S :=
  runF_sound (X := ⟨types, Make23.G, Make23.A, k, 0, []⟩) types_ok (mem_all (⟨Find11.ok k, ⟨Next18.ok k, ⟨away60.ok k, ⟨moves59.ok k, trivial⟩⟩⟩⟩)) (fn := Tryz.f23) (c := codeOf Tryz.f23) rfl (by kernel_rfl) rfl rfl Make23.dr (Make23.eq k)
end Go.Proofs.YtcppmlgnceldmaaGreat.Fl

/- Go functions as plain Lean functions, and their contracts. -/
set_option linter.unusedVariables false
set_option maxRecDepth 100000
noncomputable section
namespace Go.Proofs.YtcppmlgnceldmaaGreat.Fl
open Go Go.Proofs.YtcppmlgnceldmaaGreat.Gp
def moves61.l0 (k : Nat) (x : tY61) : tY63 → Option tY26
  | (_, t11, o0) =>
    cond (decide (t11 < (List.length x.2.2.2 : Int)))
      ((rd x.2.2.2 t11).bind fun t13 =>
      (if room (List.length o0 + List.length [(false, t13.1, t13.2.1, t13.2.2.1, t13.2.2.2)]) 56 then some () else none).bind fun _ =>
      some (Sum.inl ((), (w64 (t11 + 1)), (o0 ++ [(false, t13.1, t13.2.1, t13.2.2.1, t13.2.2.2)]))))
      (some (Sum.inr ((), o0)))
def moves61 (k : Nat) (x : tY61) : Option tY68 :=
  Option.bind
    (loopN (moves61.l0 k x) k ((), 0, ([(true, 1, 0, 0, [])] : List tY81)) : Option tY67) fun ((_, o0_1) : tY67) =>
  some (o0_1, ())
def moves61.A : Ann := { conds := [], blocks := [(0, ⟨[(3, .ms 0)], [(0, .row kY13)], 1, [], 268433448⟩)], loops := [(3, ⟨[(3, .ms 0), (11, .int .i64)], [(0, .row kY13)], 1, [], 268433448⟩)], keeps := [1, 5], orders := [] }
def moves61.S : Sig := { f := 61, params := [.st kY9], objs := [], res := .sl kY13, outs := [], fix := [], run := fun k ds os => moves61 k ds }
def moves61.G : List Sig := []
theorem moves61.eq (k : Nat) : ∀ ds os, moves61.S.run k ds os = runF ⟨types, moves61.G, moves61.A, k, 0, []⟩ Tryz.f61 (codeOf Tryz.f61) moves61.S.params moves61.S.objs moves61.S.res moves61.S.outs ds os := by
  intro ds os; kernel_rfl
theorem moves61.dr : DrOk Tryz.prog moves61.A (codeOf Tryz.f61) := ⟨by kernel_rfl, by kernel_rfl⟩
theorem moves61.ok (k : Nat) : SoundAt Tryz.prog k moves61.S :=
  runF_sound (X := ⟨types, moves61.G, moves61.A, k, 0, []⟩) types_ok (fun s hs => absurd hs List.not_mem_nil) (fn := Tryz.f61) (c := codeOf Tryz.f61) rfl (by kernel_rfl) rfl rfl moves61.dr (moves61.eq k)

def away62 (k : Nat) (c : tY12) (code : tY92) (addr : Int) : Option tY112 :=
  (operands49 k).bind fun t15 =>
  (starts57 k c code addr).bind fun t22 =>
  let t28 : Int := (w64 (addr - code.1))
  Option.bind
    ((rd t15.1.1 t22.1.1.2.2.1).bind fun t40 =>
    (slc code.2.1 t28 (w64 ((w64 (t28 + 1)) + t40))).bind fun t43 =>
    agree
      ((NextWay21 k c (addr, t43, []) addr).bind fun t46 =>
      some t46.1.1)
      ((NextWay21 k c (addr, t43, []) addr).bind fun t46_1 =>
      some t46_1.1.1) : Option tY96) fun (w : tY96) =>
  Option.bind (cond (cond w.2.2.1 true ((List.length w.2.1 : Int) != 1))
    (some true)
    ((rd w.2.1 0).bind fun t60 =>
    some (t60 != (Int.tmod (w64 (addr + w.1)) 65536)))) fun t68 =>
  some (t68, ())
def away62.A : Ann := { conds := [], blocks := [], loops := [], keeps := [3, 4, 9, 12], orders := [(5, [(0, .strong), (1, .strong), (2, .strong), (3, .strong), (4, .strong), (5, .strong), (6, .strong), (7, .strong), (8, .strong), (9, .strong), (10, .strong), (11, .strong), (12, .strong), (13, .strong), (14, .strong), (15, .strong), (16, .strong), (17, .strong), (18, .strong), (19, .strong), (20, .strong)])], alts := [(4, ((.op 0 .strong (.op 1 .strong (.op 2 .strong (.op 3 .strong (.op 4 .strong (.op 5 .strong (.op 6 .strong (.op 7 .strong (.op 8 .strong (.op 9 .strong (.op 10 .strong (.op 11 .strong (.op 12 .strong (.op 13 .strong (.op 14 .strong (.op 15 .strong (.alt (.op 16 (.eff true) (.op 17 .strong (.op 18 .strong (.op 19 .weak (.op 20 (.eff true) (.op 21 (.eff false) (.op 22 .strong (.leaf [])))))))) (.op 20 (.eff true) (.op 16 (.eff true) (.op 17 .strong (.op 18 .strong (.op 19 .weak (.op 21 (.eff false) (.op 22 .strong (.leaf []))))))))))))))))))))))))), ⟨[(12, .fp kY28)], [], 0, [], 562949416562688⟩))] }
def away62.S : Sig := { f := 62, params := [.st kY1, .st kY24, .int .i64], objs := [], res := .bool, outs := [], fix := [], run := fun k ds os => away62 k ds.1 ds.2.1 ds.2.2 }
def away62.G : List Sig := [NextWay21.S, operands49.S, starts57.S]
theorem away62.eq (k : Nat) : ∀ ds os, away62.S.run k ds os = runF ⟨types, away62.G, away62.A, k, 0, []⟩ Tryz.f62 (codeOf Tryz.f62) away62.S.params away62.S.objs away62.S.res away62.S.outs ds os := by
  intro ds os; kernel_rfl
theorem away62.dr : DrOk Tryz.prog away62.A (codeOf Tryz.f62) := ⟨by kernel_rfl, by kernel_rfl⟩
theorem away62.ok (k : Nat) : SoundAt Tryz.prog k away62.S :=
  runF_sound (X := ⟨types, away62.G, away62.A, k, 0, []⟩) types_ok (mem_all (⟨NextWay21.ok k, ⟨operands49.ok k, ⟨starts57.ok k, trivial⟩⟩⟩)) (fn := Tryz.f62) (c := codeOf Tryz.f62) rfl (by kernel_rfl) rfl rfl away62.dr (away62.eq k)
end Go.Proofs.YtcppmlgnceldmaaGreat.Fl

/- Go functions as plain Lean functions, and their contracts. -/
set_option linter.unusedVariables false
set_option maxRecDepth 100000
noncomputable section
namespace Go.Proofs.YtcppmlgnceldmaaGreat.Fl
open Go Go.Proofs.YtcppmlgnceldmaaGreat.Gp
def Block24.l0 (k : Nat) : tY2 → Option (tY2 ⊕ tY23)
  | (addr_1, c_1, code_1, _, _, o0, o2, o5, o6) =>
    cond (cond (decide (o2.2.2.1 < 64)) (!o2.2.2.2.1) false)
      ((starts57 k c_1 code_1 addr_1).bind fun t40 =>
      cond (t40.1.2.1 != 0)
        (some (Sum.inr ((), (), o0, o2, o5, o6)))
        ((NextWay21 k c_1 code_1 addr_1).bind fun t49 =>
        (slc code_1.2.1 (w64 (addr_1 - code_1.1)) (w64 ((w64 (addr_1 - code_1.1)) + t49.1.1.1))).bind fun t67 =>
        (if room (List.length o5 + List.length t67) 1 then some () else none).bind fun _ =>
        (moves61 k t40.1.1).bind fun t73 =>
        (if room (List.length o6 + List.length t73.1) 56 then some () else none).bind fun _ =>
        (away62 k c_1 code_1 addr_1).bind fun t83 =>
        some (Sum.inl ((w64 (addr_1 + t49.1.1.1)), c_1, code_1, (), (), o0, (o2.1, o2.2.1, (w64 (o2.2.2.1 + 1)), t83.1, o2.2.2.2.2), (o5 ++ t67), (o6 ++ t73.1)))))
      (some (Sum.inr ((), (), o0, o2, o5, o6)))
def Block24 (k : Nat) (c : tY12) (code : tY92) (addr : Int) : Option tY39 :=
  (starts57 k c code addr).bind fun t19 =>
  cond (t19.1.2.1 != 0)
    (some (((0, [], 0, false, []), t19.1.2.1, ()), ()))
    (Option.bind
      (loopN (Block24.l0 k) k (addr, c, code, (), (), (0, (), 0, false, ()), (addr, (), 0, false, ()), [], []) : Option tY23) fun ((_, _, _, o2_1, o5_1, o6_1) : tY23) =>
    some (((o2_1.1, o5_1, o2_1.2.2.1, o2_1.2.2.2.1, o6_1), 0, ()), ()))
def Block24.A : Ann := { conds := [], blocks := [(0, ⟨[(6, .ptr 0 []), (10, .ptr 2 [])], [(0, .var kY26), (2, .var kY23), (5, .row kY52), (6, .row kY13)], 7, [], 618970019642690137181157380⟩)], loops := [(5, ⟨[(2, .int .i64), (3, .fp kY0), (4, .fp kY20), (6, .ptr 0 []), (10, .ptr 2 [])], [(0, .var kY26), (2, .var kY23), (5, .row kY52), (6, .row kY13)], 7, [(5, .int .u8), (6, .st kY14)], 618970019642690137181157380⟩)], keeps := [3, 4, 8, 11, 13], orders := [(9, [(0, .strong), (1, .strong), (2, .strong), (3, .strong), (4, .strong), (5, .strong), (6, .strong), (7, .strong), (8, .strong), (9, .strong), (10, .strong), (11, .strong), (12, .strong), (13, .strong), (14, .strong), (15, .strong), (16, .eff false), (17, .strong), (18, .eff false)]), (10, [(0, .strong), (1, .strong), (2, .strong), (3, .eff true), (4, .eff false), (5, .strong), (6, .eff false)])] }
def Block24.S : Sig := { f := 24, params := [.st kY1, .st kY24, .int .i64], objs := [], res := .tup kY2, outs := [], fix := [], run := fun k ds os => Block24 k ds.1 ds.2.1 ds.2.2 }
def Block24.G : List Sig := [NextWay21.S, away62.S, moves61.S, starts57.S]
theorem Block24.eq (k : Nat) : ∀ ds os, Block24.S.run k ds os = runF ⟨types, Block24.G, Block24.A, k, 0, []⟩ Tryz.f24 (codeOf Tryz.f24) Block24.S.params Block24.S.objs Block24.S.res Block24.S.outs ds os := by
  intro ds os; kernel_rfl
theorem Block24.dr : DrOk Tryz.prog Block24.A (codeOf Tryz.f24) := ⟨by kernel_rfl, by kernel_rfl⟩
theorem Block24.ok (k : Nat) : SoundAt Tryz.prog k Block24.S :=
  runF_sound (X := ⟨types, Block24.G, Block24.A, k, 0, []⟩) types_ok (mem_all (⟨NextWay21.ok k, ⟨away62.ok k, ⟨moves61.ok k, ⟨starts57.ok k, trivial⟩⟩⟩⟩)) (fn := Tryz.f24) (c := codeOf Tryz.f24) rfl (by kernel_rfl) rfl rfl Block24.dr (Block24.eq k)

def made25 (k : Nat) : Option tY112 :=
  (Cpu39 k).bind fun t4 =>
  (nop40 k).bind fun t5 =>
  (Make23 k t4.1 t5.1 512).bind fun t6 =>
  some ((cond (cond (cond (t6.1.2.1 == 0) (t6.1.1.2.2.1 == 2) false) t6.1.1.2.2.2.1 false) ((List.length t6.1.1.2.2.2.2 : Int) == 5) false), ())
def made25.A : Ann := { conds := [], blocks := [], loops := [], keeps := [1], orders := [] }
def made25.S : Sig := { f := 25, params := [], objs := [], res := .bool, outs := [], fix := [], run := fun k ds os => made25 k }
def made25.G : List Sig := [Cpu39.S, Make23.S, nop40.S]
theorem made25.eq (k : Nat) : ∀ ds os, made25.S.run k ds os = runF ⟨types, made25.G, made25.A, k, 0, []⟩ Tryz.f25 (codeOf Tryz.f25) made25.S.params made25.S.objs made25.S.res made25.S.outs ds os := by
  intro ds os; kernel_rfl
theorem made25.dr : DrOk Tryz.prog made25.A (codeOf Tryz.f25) := ⟨by kernel_rfl, by kernel_rfl⟩
theorem made25.ok (k : Nat) : SoundAt Tryz.prog k made25.S :=
  runF_sound (X := ⟨types, made25.G, made25.A, k, 0, []⟩) types_ok (mem_all (⟨Cpu39.ok k, ⟨Make23.ok k, ⟨nop40.ok k, trivial⟩⟩⟩)) (fn := Tryz.f25) (c := codeOf Tryz.f25) rfl (by kernel_rfl) rfl rfl made25.dr (made25.eq k)

def Equal41.l0 (k : Nat) (s1 : tY115) (s2 : tY115) : Int → Option tY100
  | t13 =>
    cond (decide (t13 < (List.length s1 : Int)))
      ((rd s1 t13).bind fun t18 =>
      (rd s2 t13).bind fun t22 =>
      cond (t18 != t22)
        (some (Sum.inr (Sum.inr (false, ()))))
        (some (Sum.inl (w64 (t13 + 1)))))
      (some (Sum.inr (Sum.inl ())))
def Equal41 (k : Nat) (s1 : tY115) (s2 : tY115) : Option tY112 :=
  cond ((List.length s1 : Int) != (List.length s2 : Int))
    (some (false, ()))
    (Option.bind
      (loopN (Equal41.l0 k s1 s2) k 0 : Option tY106) (joined fun (_ : Unit) =>
      some (true, ())))
def Equal41.A : Ann := { conds := [], blocks := [(0, ⟨[], [], 0, [], 67100720⟩)], loops := [(4, ⟨[(13, .int .i64)], [], 0, [], 67100720⟩)], keeps := [], orders := [(6, [(0, .strong), (1, .strong), (2, .strong), (3, .strong), (4, .strong), (5, .strong), (6, .strong), (7, .strong), (8, .strong)])] }
def Equal41.S : Sig := { f := 41, params := [.sl kY52, .sl kY52], objs := [], res := .bool, outs := [], fix := [], run := fun k ds os => Equal41 k ds.1 ds.2 }
def Equal41.G : List Sig := []
theorem Equal41.eq (k : Nat) : ∀ ds os, Equal41.S.run k ds os = runF ⟨types, Equal41.G, Equal41.A, k, 0, []⟩ Tryz.f41 (codeOf Tryz.f41) Equal41.S.params Equal41.S.objs Equal41.S.res Equal41.S.outs ds os := by
  intro ds os; kernel_rfl
theorem Equal41.dr : DrOk Tryz.prog Equal41.A (codeOf Tryz.f41) := ⟨by kernel_rfl, by kernel_rfl⟩
theorem Equal41.ok (k : Nat) : SoundAt Tryz.prog k Equal41.S :=
  runF_sound (X := ⟨types, Equal41.G, Equal41.A, k, 0, []⟩) types_ok (fun s hs => absurd hs List.not_mem_nil) (fn := Tryz.f41) (c := codeOf Tryz.f41) rfl (by kernel_rfl) rfl rfl Equal41.dr (Equal41.eq k)

def Equal69.l0 (k : Nat) (s1 : tY99) (s2 : tY99) : Int → Option tY100
  | t13 =>
    cond (decide (t13 < (List.length s1 : Int)))
      ((rd s1 t13).bind fun t18 =>
      (rd s2 t13).bind fun t22 =>
      cond (xor true (eqB kY25 t18 t22))
        (some (Sum.inr (Sum.inr (false, ()))))
        (some (Sum.inl (w64 (t13 + 1)))))
      (some (Sum.inr (Sum.inl ())))
def Equal69 (k : Nat) (s1 : tY99) (s2 : tY99) : Option tY112 :=
  cond ((List.length s1 : Int) != (List.length s2 : Int))
    (some (false, ()))
    (Option.bind
      (loopN (Equal69.l0 k s1 s2) k 0 : Option tY106) (joined fun (_ : Unit) =>
      some (true, ())))
def Equal69.A : Ann := { conds := [], blocks := [(0, ⟨[], [], 0, [], 67100720⟩)], loops := [(4, ⟨[(13, .int .i64)], [], 0, [], 67100720⟩)], keeps := [], orders := [(6, [(0, .strong), (1, .strong), (2, .strong), (3, .strong), (4, .strong), (5, .strong), (6, .strong), (7, .strong), (8, .strong)])] }
def Equal69.S : Sig := { f := 69, params := [.sl kY25, .sl kY25], objs := [], res := .bool, outs := [], fix := [], run := fun k ds os => Equal69 k ds.1 ds.2 }
def Equal69.G : List Sig := []
theorem Equal69.eq (k : Nat) : ∀ ds os, Equal69.S.run k ds os = runF ⟨types, Equal69.G, Equal69.A, k, 0, []⟩ Tryz.f69 (codeOf Tryz.f69) Equal69.S.params Equal69.S.objs Equal69.S.res Equal69.S.outs ds os := by
  intro ds os; kernel_rfl
theorem Equal69.dr : DrOk Tryz.prog Equal69.A (codeOf Tryz.f69) := ⟨by kernel_rfl, by kernel_rfl⟩
theorem Equal69.ok (k : Nat) : SoundAt Tryz.prog k Equal69.S :=
  runF_sound (X := ⟨types, Equal69.G, Equal69.A, k, 0, []⟩) types_ok (fun s hs => absurd hs List.not_mem_nil) (fn := Tryz.f69) (c := codeOf Tryz.f69) rfl (by kernel_rfl) rfl rfl Equal69.dr (Equal69.eq k)

def sameMoves199 (k : Nat) (x : tY81) (y : tY81) : Option tY112 :=
  Option.bind (cond (cond (cond (cond (xor false (x.1 == y.1)) (x.2.1 == y.2.1) false) (x.2.2.1 == y.2.2.1) false) (x.2.2.2.1 == y.2.2.2.1) false)
    ((Equal69 k x.2.2.2.2 y.2.2.2.2).bind fun t36 =>
    some t36.1)
    (some false)) fun t37 =>
  some (t37, ())
def sameMoves199.A : Ann := { conds := [], blocks := [], loops := [], keeps := [2, 3], orders := [] }
def sameMoves199.S : Sig := { f := 99, params := [.st kY14, .st kY14], objs := [], res := .bool, outs := [], fix := [], run := fun k ds os => sameMoves199 k ds.1 ds.2 }
def sameMoves199.G : List Sig := [Equal69.S]
theorem sameMoves199.eq (k : Nat) : ∀ ds os, sameMoves199.S.run k ds os = runF ⟨types, sameMoves199.G, sameMoves199.A, k, 0, []⟩ Tryz.f99 (codeOf Tryz.f99) sameMoves199.S.params sameMoves199.S.objs sameMoves199.S.res sameMoves199.S.outs ds os := by
  intro ds os; kernel_rfl
theorem sameMoves199.dr : DrOk Tryz.prog sameMoves199.A (codeOf Tryz.f99) := ⟨by kernel_rfl, by kernel_rfl⟩
theorem sameMoves199.ok (k : Nat) : SoundAt Tryz.prog k sameMoves199.S :=
  runF_sound (X := ⟨types, sameMoves199.G, sameMoves199.A, k, 0, []⟩) types_ok (mem_all (⟨Equal69.ok k, trivial⟩)) (fn := Tryz.f99) (c := codeOf Tryz.f99) rfl (by kernel_rfl) rfl rfl sameMoves199.dr (sameMoves199.eq k)
end Go.Proofs.YtcppmlgnceldmaaGreat.Fl

/- Go functions as plain Lean functions, and their contracts. -/
set_option linter.unusedVariables false
set_option maxRecDepth 100000
noncomputable section
namespace Go.Proofs.YtcppmlgnceldmaaGreat.Fl
open Go Go.Proofs.YtcppmlgnceldmaaGreat.Gp
def EqualFunc64.l0 (k : Nat) (s1 : tY77) (s2 : tY77) : (Unit × Int) → Option ((Unit × Int) ⊕ tY106)
  | (_, t17) =>
    cond (decide (t17 < (List.length s1 : Int)))
      ((rd s1 t17).bind fun t20 =>
      (rd s2 t17).bind fun t24 =>
      (sameMoves199 k t20 t24).bind fun t29 =>
      cond (!t29.1)
        (some (Sum.inr (Sum.inr (false, ()))))
        (some (Sum.inl ((), (w64 (t17 + 1))))))
      (some (Sum.inr (Sum.inl ())))
def EqualFunc64 (k : Nat) (s1 : tY77) (s2 : tY77) (_ : Unit) : Option tY112 :=
  cond ((List.length s1 : Int) != (List.length s2 : Int))
    (some (false, ()))
    (Option.bind
      (loopN (EqualFunc64.l0 k s1 s2) k ((), 0) : Option tY106) (joined fun (_ : Unit) =>
      some (true, ())))
def EqualFunc64.A : Ann := { conds := [], blocks := [(0, ⟨[], [], 0, [], 4294837184⟩)], loops := [(4, ⟨[(2, .fn 99 .unit), (17, .int .i64)], [], 0, [], 4294837184⟩)], keeps := [8, 9], orders := [] }
def EqualFunc64.S : Sig := { f := 64, params := [.sl kY13, .sl kY13, .fn 99 .unit], objs := [], res := .bool, outs := [], fix := [], run := fun k ds os => EqualFunc64 k ds.1 ds.2.1 ds.2.2 }
def EqualFunc64.G : List Sig := [sameMoves199.S]
theorem EqualFunc64.eq (k : Nat) : ∀ ds os, EqualFunc64.S.run k ds os = runF ⟨types, EqualFunc64.G, EqualFunc64.A, k, 0, []⟩ Tryz.f64 (codeOf Tryz.f64) EqualFunc64.S.params EqualFunc64.S.objs EqualFunc64.S.res EqualFunc64.S.outs ds os := by
  intro ds os; kernel_rfl
theorem EqualFunc64.dr : DrOk Tryz.prog EqualFunc64.A (codeOf Tryz.f64) := ⟨by kernel_rfl, by kernel_rfl⟩
theorem EqualFunc64.ok (k : Nat) : SoundAt Tryz.prog k EqualFunc64.S :=
  runF_sound (X := ⟨types, EqualFunc64.G, EqualFunc64.A, k, 0, []⟩) types_ok (mem_all (⟨sameMoves199.ok k, trivial⟩)) (fn := Tryz.f64) (c := codeOf Tryz.f64) rfl (by kernel_rfl) rfl rfl EqualFunc64.dr (EqualFunc64.eq k)

def sameMoves63 (k : Nat) (a : tY77) (b : tY77) : Option tY112 :=
  (EqualFunc64 k a b ()).bind fun t7 =>
  some (t7.1, ())
def sameMoves63.A : Ann := { conds := [], blocks := [], loops := [], keeps := [], orders := [] }
def sameMoves63.S : Sig := { f := 63, params := [.sl kY13, .sl kY13], objs := [], res := .bool, outs := [], fix := [], run := fun k ds os => sameMoves63 k ds.1 ds.2 }
def sameMoves63.G : List Sig := [EqualFunc64.S]
theorem sameMoves63.eq (k : Nat) : ∀ ds os, sameMoves63.S.run k ds os = runF ⟨types, sameMoves63.G, sameMoves63.A, k, 0, []⟩ Tryz.f63 (codeOf Tryz.f63) sameMoves63.S.params sameMoves63.S.objs sameMoves63.S.res sameMoves63.S.outs ds os := by
  intro ds os; kernel_rfl
theorem sameMoves63.dr : DrOk Tryz.prog sameMoves63.A (codeOf Tryz.f63) := ⟨by kernel_rfl, by kernel_rfl⟩
theorem sameMoves63.ok (k : Nat) : SoundAt Tryz.prog k sameMoves63.S :=
  runF_sound (X := ⟨types, sameMoves63.G, sameMoves63.A, k, 0, []⟩) types_ok (mem_all (⟨EqualFunc64.ok k, trivial⟩)) (fn := Tryz.f63) (c := codeOf Tryz.f63) rfl (by kernel_rfl) rfl rfl sameMoves63.dr (sameMoves63.eq k)

def SameBlock26 (k : Nat) (a : tY49) (b : tY49) : Option tY112 :=
  Option.bind (cond (cond (cond (a.1 == b.1) (a.2.2.1 == b.2.2.1) false) (xor false (a.2.2.2.1 == b.2.2.2.1)) false)
    ((Equal41 k a.2.1 b.2.1).bind fun t29 =>
    some t29.1)
    (some false)) fun t30 =>
  Option.bind (cond t30
    ((sameMoves63 k a.2.2.2.2 b.2.2.2.2).bind fun t36 =>
    some t36.1)
    (some false)) fun t37 =>
  some (t37, ())
def SameBlock26.A : Ann := { conds := [], blocks := [], loops := [], keeps := [2, 3], orders := [] }
def SameBlock26.S : Sig := { f := 26, params := [.st kY4, .st kY4], objs := [], res := .bool, outs := [], fix := [], run := fun k ds os => SameBlock26 k ds.1 ds.2 }
def SameBlock26.G : List Sig := [Equal41.S, sameMoves63.S]
theorem SameBlock26.eq (k : Nat) : ∀ ds os, SameBlock26.S.run k ds os = runF ⟨types, SameBlock26.G, SameBlock26.A, k, 0, []⟩ Tryz.f26 (codeOf Tryz.f26) SameBlock26.S.params SameBlock26.S.objs SameBlock26.S.res SameBlock26.S.outs ds os := by
  intro ds os; kernel_rfl
theorem SameBlock26.dr : DrOk Tryz.prog SameBlock26.A (codeOf Tryz.f26) := ⟨by kernel_rfl, by kernel_rfl⟩
theorem SameBlock26.ok (k : Nat) : SoundAt Tryz.prog k SameBlock26.S :=
  runF_sound (X := ⟨types, SameBlock26.G, SameBlock26.A, k, 0, []⟩) types_ok (mem_all (⟨Equal41.ok k, ⟨sameMoves63.ok k, trivial⟩⟩)) (fn := Tryz.f26) (c := codeOf Tryz.f26) rfl (by kernel_rfl) rfl rfl SameBlock26.dr (SameBlock26.eq k)

def same65 (k : Nat) (x : tY81) (y : tY81) : Option tY112 :=
  Option.bind (cond (cond (cond (cond (xor false (x.1 == y.1)) (x.2.1 == y.2.1) false) (x.2.2.1 == y.2.2.1) false) (x.2.2.2.1 == y.2.2.2.1) false)
    ((Equal69 k x.2.2.2.2 y.2.2.2.2).bind fun t36 =>
    some t36.1)
    (some false)) fun t37 =>
  some (t37, ())
def same65.A : Ann := { conds := [], blocks := [], loops := [], keeps := [2, 3], orders := [] }
def same65.S : Sig := { f := 65, params := [.st kY14, .st kY14], objs := [], res := .bool, outs := [], fix := [], run := fun k ds os => same65 k ds.1 ds.2 }
def same65.G : List Sig := [Equal69.S]
theorem same65.eq (k : Nat) : ∀ ds os, same65.S.run k ds os = runF ⟨types, same65.G, same65.A, k, 0, []⟩ Tryz.f65 (codeOf Tryz.f65) same65.S.params same65.S.objs same65.S.res same65.S.outs ds os := by
  intro ds os; kernel_rfl
theorem same65.dr : DrOk Tryz.prog same65.A (codeOf Tryz.f65) := ⟨by kernel_rfl, by kernel_rfl⟩
theorem same65.ok (k : Nat) : SoundAt Tryz.prog k same65.S :=
  runF_sound (X := ⟨types, same65.G, same65.A, k, 0, []⟩) types_ok (mem_all (⟨Equal69.ok k, trivial⟩)) (fn := Tryz.f65) (c := codeOf Tryz.f65) rfl (by kernel_rfl) rfl rfl same65.dr (same65.eq k)

def EqualFunc64'.l0 (k : Nat) (s1 : tY77) (s2 : tY77) : (Unit × Int) → Option ((Unit × Int) ⊕ tY106)
  | (_, t17) =>
    cond (decide (t17 < (List.length s1 : Int)))
      ((rd s1 t17).bind fun t20 =>
      (rd s2 t17).bind fun t24 =>
      (same65 k t20 t24).bind fun t29 =>
      cond (!t29.1)
        (some (Sum.inr (Sum.inr (false, ()))))
        (some (Sum.inl ((), (w64 (t17 + 1))))))
      (some (Sum.inr (Sum.inl ())))
def EqualFunc64' (k : Nat) (s1 : tY77) (s2 : tY77) (_ : Unit) : Option tY112 :=
  cond ((List.length s1 : Int) != (List.length s2 : Int))
    (some (false, ()))
    (Option.bind
      (loopN (EqualFunc64'.l0 k s1 s2) k ((), 0) : Option tY106) (joined fun (_ : Unit) =>
      some (true, ())))
def EqualFunc64'.A : Ann := { conds := [], blocks := [(0, ⟨[], [], 0, [], 4294837184⟩)], loops := [(4, ⟨[(2, .fn 65 .unit), (17, .int .i64)], [], 0, [], 4294837184⟩)], keeps := [8, 9], orders := [] }
def EqualFunc64'.S : Sig := { f := 64, params := [.sl kY13, .sl kY13, .fn 65 .unit], objs := [], res := .bool, outs := [], fix := [], run := fun k ds os => EqualFunc64' k ds.1 ds.2.1 ds.2.2 }
def EqualFunc64'.G : List Sig := [same65.S]
theorem EqualFunc64'.eq (k : Nat) : ∀ ds os, EqualFunc64'.S.run k ds os = runF ⟨types, EqualFunc64'.G, EqualFunc64'.A, k, 0, []⟩ Tryz.f64 (codeOf Tryz.f64) EqualFunc64'.S.params EqualFunc64'.S.objs EqualFunc64'.S.res EqualFunc64'.S.outs ds os := by
  intro ds os; kernel_rfl
theorem EqualFunc64'.dr : DrOk Tryz.prog EqualFunc64'.A (codeOf Tryz.f64) := ⟨by kernel_rfl, by kernel_rfl⟩
theorem EqualFunc64'.ok (k : Nat) : SoundAt Tryz.prog k EqualFunc64'.S :=
  runF_sound (X := ⟨types, EqualFunc64'.G, EqualFunc64'.A, k, 0, []⟩) types_ok (mem_all (⟨same65.ok k, trivial⟩)) (fn := Tryz.f64) (c := codeOf Tryz.f64) rfl (by kernel_rfl) rfl rfl EqualFunc64'.dr (EqualFunc64'.eq k)
end Go.Proofs.YtcppmlgnceldmaaGreat.Fl

/- Go functions as plain Lean functions, and their contracts. -/
set_option linter.unusedVariables false
set_option maxRecDepth 100000
noncomputable section
namespace Go.Proofs.YtcppmlgnceldmaaGreat.Fl
open Go Go.Proofs.YtcppmlgnceldmaaGreat.Gp
def ended66.l0 (k : Nat) (b : tY49) : tY8 → Option (tY8 ⊕ tY107)
  | (c_1, b_1, at_, left, t17) =>
    cond (decide (t17 < b.2.2.1))
      (Option.bind
        ((rd left 0).bind fun t23 =>
        agree
          ((Find11 k c_1 (w64 t23)).bind fun t26 =>
          some (c_1, b_1, t26.1.1))
          ((Find11 k c_1 (w64 t23)).bind fun t26_1 =>
          some (c_1, b_1, t26_1.1.1)) : Option tY7) fun ((c_2, b_2, x) : tY7) =>
      (Size33 k x.2.2.1).bind fun t31 =>
      let t32 : Int := (w64 (1 + t31.1))
      (slc left 0 t32).bind fun t37 =>
      (away60 k c_2 at_ t37).bind fun t38 =>
      cond (xor true (t38.1 == (cond b_2.2.2.2.1 (t17 == (w64 (b_2.2.2.1 - 1))) false)))
        (some (Sum.inr (Sum.inr (7, ()))))
        ((slc left t32 (List.length left : Int)).bind fun t54 =>
        some (Sum.inl (c_2, b_2, (w64 (at_ + t32)), t54, (w64 (t17 + 1))))))
      (some (Sum.inr (Sum.inl ())))
def ended66 (k : Nat) (c : tY12) (b : tY49) : Option tY113 :=
  Option.bind
    (loopN (ended66.l0 k b) k (c, b, b.1, b.2.1, 0) : Option tY107) (joined fun (_ : Unit) =>
    some (0, ()))
def ended66.A : Ann := { conds := [], blocks := [(0, ⟨[], [], 0, [], 72057594037798896⟩)], loops := [(3, ⟨[(2, .fp kY0), (3, .fp kY3), (5, .int .i64), (6, .sl kY52), (17, .int .i64)], [], 0, [], 72057594037798896⟩)], keeps := [2, 3, 8], orders := [(1, [(0, .strong), (1, .strong), (2, .strong), (3, .strong), (4, .strong), (5, .strong)]), (7, [(0, .strong), (1, .strong), (2, .strong), (3, .strong), (4, .strong), (6, .strong), (7, .strong), (5, .eff true), (8, .strong), (9, .strong), (10, .strong), (11, .strong), (12, .strong), (13, .strong), (14, .strong), (15, .strong)]), (9, [(0, .strong), (1, .strong), (2, .strong), (3, .strong), (4, .strong), (5, .strong), (6, .strong), (7, .strong)])], alts := [(5, ((.op 0 .strong (.op 1 .strong (.op 2 .strong (.op 3 .strong (.op 4 .strong (.alt (.op 5 (.eff true) (.op 6 .strong (.op 7 .strong (.op 8 .weak (.op 9 (.eff true) (.op 10 (.eff false) (.op 11 .strong (.leaf [])))))))) (.op 9 (.eff true) (.op 5 (.eff true) (.op 6 .strong (.op 7 .strong (.op 8 .weak (.op 10 (.eff false) (.op 11 .strong (.leaf [])))))))))))))), ⟨[(2, .fp kY0), (3, .fp kY3), (8, .fp kY8)], [], 0, [], 535823104⟩))] }
def ended66.S : Sig := { f := 66, params := [.st kY1, .st kY4], objs := [], res := .int .i64, outs := [], fix := [], run := fun k ds os => ended66 k ds.1 ds.2 }
def ended66.G : List Sig := [Find11.S, Size33.S, away60.S]
theorem ended66.eq (k : Nat) : ∀ ds os, ended66.S.run k ds os = runF ⟨types, ended66.G, ended66.A, k, 0, []⟩ Tryz.f66 (codeOf Tryz.f66) ended66.S.params ended66.S.objs ended66.S.res ended66.S.outs ds os := by
  intro ds os; kernel_rfl
theorem ended66.dr : DrOk Tryz.prog ended66.A (codeOf Tryz.f66) := ⟨by kernel_rfl, by kernel_rfl⟩
theorem ended66.ok (k : Nat) : SoundAt Tryz.prog k ended66.S :=
  runF_sound (X := ⟨types, ended66.G, ended66.A, k, 0, []⟩) types_ok (mem_all (⟨Find11.ok k, ⟨Size33.ok k, ⟨away60.ok k, trivial⟩⟩⟩)) (fn := Tryz.f66) (c := codeOf Tryz.f66) rfl (by kernel_rfl) rfl rfl ended66.dr (ended66.eq k)
end Go.Proofs.YtcppmlgnceldmaaGreat.Fl

/- Go functions as plain Lean functions, and their contracts. -/
set_option linter.unusedVariables false
set_option maxRecDepth 100000
noncomputable section
namespace Go.Proofs.YtcppmlgnceldmaaGreat.Fl
open Go Go.Proofs.YtcppmlgnceldmaaGreat.Gp
def Check27.l0 (k : Nat) (b : tY49) : tY6 → Option (tY6 ⊕ tY5)
  | (c_1, b_1, left, _, t40, o0) =>
    cond (decide (t40 < b.2.2.1))
      (cond ((List.length left : Int) == 0)
        (some (Sum.inr (Sum.inr (13, ()))))
        (Option.bind
          ((rd left 0).bind fun t48 =>
          agree
            ((Find11 k c_1 (w64 t48)).bind fun t51 =>
            some (c_1, b_1, (), t51.1.1, t51.1.2.1, o0))
            ((Find11 k c_1 (w64 t48)).bind fun t51_1 =>
            some (c_1, b_1, (), t51_1.1.1, t51_1.1.2.1, o0)) : Option tY1) fun ((c_2, b_2, _, x, ok, o0_1) : tY1) =>
        cond (!ok)
          (some (Sum.inr (Sum.inr (4, ()))))
          ((Size33 k x.2.2.1).bind fun t58 =>
          let t59 : Int := (w64 (1 + t58.1))
          cond (decide (t59 > (List.length left : Int)))
            (some (Sum.inr (Sum.inr (13, ()))))
            ((slc left t59 (List.length left : Int)).bind fun t66 =>
            (moves59 k x).bind fun t69 =>
            (if room (List.length o0_1 + List.length t69.1) 56 then some () else none).bind fun _ =>
            some (Sum.inl (c_2, b_2, t66, (), (w64 (t40 + 1)), (o0_1 ++ t69.1)))))))
      (some (Sum.inr (Sum.inl (c_1, b_1, left, (), o0))))
def Check27 (k : Nat) (c : tY12) (b : tY49) : Option tY113 :=
  (Check8 k c).bind fun t12 =>
  cond (t12.1 != 0)
    (some (t12.1, ()))
    (cond (cond (decide (b.2.2.1 < 1)) true (decide (b.2.2.1 > 64)))
      (some (2, ()))
      (cond (cond (decide (b.1 < 0)) true (decide (b.1 > (w64 (65536 - (List.length b.2.1 : Int))))))
        (some (1, ()))
        (Option.bind
          (loopN (Check27.l0 k b) k (c, b, b.2.1, (), 0, []) : Option tY5) (joined fun ((c_3, b_3, left_1, _, o0_2) : (tY12 × (tY49 × (tY115 × tY67)))) =>
          cond (decide ((List.length left_1 : Int) > 0))
            (some (3, ()))
            ((EqualFunc64' k b_3.2.2.2.2 o0_2 ()).bind fun t78 =>
            cond (!t78.1)
              (some (12, ()))
              ((ended66 k c_3 b_3).bind fun t82 =>
              some (t82.1, ())))))))
def Check27.A : Ann := { conds := [], blocks := [(0, ⟨[(2, .fp kY0), (3, .fp kY3), (6, .sl kY52), (7, .ms 0)], [(0, .row kY13)], 1, [], 4722366481770133587920⟩)], loops := [(11, ⟨[(2, .fp kY0), (3, .fp kY3), (6, .sl kY52), (7, .ms 0), (40, .int .i64)], [(0, .row kY13)], 1, [(0, .st kY14)], 4722366481770133587920⟩)], keeps := [2, 3, 8], orders := [(20, [(0, .weak), (1, .weak), (2, .weak), (3, .strong), (4, .strong), (5, .eff true), (6, .eff false), (7, .strong), (8, .strong)])], alts := [(14, ((.op 0 .strong (.op 1 .strong (.op 2 .strong (.op 3 .strong (.op 4 .strong (.alt (.op 5 (.eff true) (.op 6 .strong (.op 7 .strong (.op 8 .weak (.op 9 (.eff true) (.op 10 (.eff false) (.op 11 .strong (.leaf [])))))))) (.op 9 (.eff true) (.op 5 (.eff true) (.op 6 .strong (.op 7 .strong (.op 8 .weak (.op 10 (.eff false) (.op 11 .strong (.leaf [])))))))))))))), ⟨[(2, .fp kY0), (3, .fp kY3), (7, .ms 0), (8, .fp kY8), (9, .bool)], [(0, .row kY13)], 1, [], 17979214137393920⟩))] }
def Check27.S : Sig := { f := 27, params := [.st kY1, .st kY4], objs := [], res := .int .i64, outs := [], fix := [], run := fun k ds os => Check27 k ds.1 ds.2 }
def Check27.G : List Sig := [Check8.S, EqualFunc64'.S, Find11.S, Size33.S, ended66.S, moves59.S]
theorem Check27.eq (k : Nat) : ∀ ds os, Check27.S.run k ds os = runF ⟨types, Check27.G, Check27.A, k, 0, []⟩ Tryz.f27 (codeOf Tryz.f27) Check27.S.params Check27.S.objs Check27.S.res Check27.S.outs ds os := by
  intro ds os; kernel_rfl
theorem Check27.dr : DrOk Tryz.prog Check27.A (codeOf Tryz.f27) := ⟨by kernel_rfl, by kernel_rfl⟩
theorem Check27.ok (k : Nat) : SoundAt Tryz.prog k Check27.S :=
  runF_sound (X := ⟨types, Check27.G, Check27.A, k, 0, []⟩) types_ok (mem_all (⟨Check8.ok k, ⟨EqualFunc64'.ok k, ⟨Find11.ok k, ⟨Size33.ok k, ⟨ended66.ok k, ⟨moves59.ok k, trivial⟩⟩⟩⟩⟩⟩)) (fn := Tryz.f27) (c := codeOf Tryz.f27) rfl (by kernel_rfl) rfl rfl Check27.dr (Check27.eq k)
end Go.Proofs.YtcppmlgnceldmaaGreat.Fl

/- Go functions as plain Lean functions, and their contracts. -/
set_option linter.unusedVariables false
set_option maxRecDepth 100000
noncomputable section
namespace Go.Proofs.YtcppmlgnceldmaaGreat.Fl
open Go Go.Proofs.YtcppmlgnceldmaaGreat.Gp
def TransMakes5 (k : Nat) (c : tY12) (code : tY92) (addr : Int) : Option tY112 :=
  (FlowFault17 k c code).bind fun t13 =>
  (Make23 k c code addr).bind fun t18 =>
  Option.bind
    (cond (t13.1 == 0)
      ((Block24 k c code addr).bind fun t27 =>
      some (c, t27.1.2.1, t18.1.1, (), t27.1.1))
      (some (c, t13.1, t18.1.1, (), 0, [], 0, false, [])) : Option tY3) fun ((c_1, f, b, _, o1) : tY3) =>
  (made25 k).bind fun t30 =>
  Option.bind (cond (cond t30.1 (t18.1.2.1 == f) false)
    ((SameBlock26 k b o1).bind fun t39 =>
    some t39.1)
    (some false)) fun t40 =>
  Option.bind (cond t40
    (Option.bind (cond (f != 0)
      (some true)
      ((Check27 k c_1 b).bind fun t47 =>
      some (t47.1 == 0))) fun t49 =>
    some t49)
    (some false)) fun t50 =>
  some (t50, ())
def TransMakes5.A : Ann := { conds := [(1441797, ⟨[(3, .fp kY0), (7, .int .i64), (8, .fp kY3), (10, .ptr 1 [])], [(1, .var kY3)], 2, [], 1065353344⟩)], blocks := [], loops := [], keeps := [3, 4, 8], orders := [] }
def TransMakes5.S : Sig := { f := 5, params := [.st kY1, .st kY24, .int .i64], objs := [], res := .bool, outs := [], fix := [], run := fun k ds os => TransMakes5 k ds.1 ds.2.1 ds.2.2 }
def TransMakes5.G : List Sig := [Block24.S, Check27.S, FlowFault17.S, Make23.S, SameBlock26.S, made25.S]
theorem TransMakes5.eq (k : Nat) : ∀ ds os, TransMakes5.S.run k ds os = runF ⟨types, TransMakes5.G, TransMakes5.A, k, 0, []⟩ Tryz.f5 (codeOf Tryz.f5) TransMakes5.S.params TransMakes5.S.objs TransMakes5.S.res TransMakes5.S.outs ds os := by
  intro ds os; kernel_rfl
theorem TransMakes5.dr : DrOk Tryz.prog TransMakes5.A (codeOf Tryz.f5) := ⟨by kernel_rfl, by kernel_rfl⟩
theorem TransMakes5.ok (k : Nat) : SoundAt Tryz.prog k TransMakes5.S :=
  runF_sound (X := ⟨types, TransMakes5.G, TransMakes5.A, k, 0, []⟩) types_ok (mem_all (⟨Block24.ok k, ⟨Check27.ok k, ⟨FlowFault17.ok k, ⟨Make23.ok k, ⟨SameBlock26.ok k, ⟨made25.ok k, trivial⟩⟩⟩⟩⟩⟩)) (fn := Tryz.f5) (c := codeOf Tryz.f5) rfl (by kernel_rfl) rfl rfl TransMakes5.dr (TransMakes5.eq k)
end Go.Proofs.YtcppmlgnceldmaaGreat.Fl

/- What is left of a Go function, in the long run: rounds, loops, lists, numbers. No program in sight. -/
set_option linter.unusedVariables false
noncomputable section
namespace Go.Proofs.YtcppmlgnceldmaaGreat.Gp
open Go

/-- from some fuel on, f answers v -/
def Ev {α : Type} (f : Nat → Option α) (v : α) : Prop := ∃ n, ∀ k, n ≤ k → f k = some v
/-- .. a loop, from some fuel on and with enough rounds -/
def Lp {S R : Type} (body : Nat → S → Option (S ⊕ R)) (s : S) (r : R) : Prop := ∃ n m, ∀ k, n ≤ k → ∀ j, m ≤ j → loopN (body k) j s = some r

theorem Ev.ex {α : Type} {f : Nat → Option α} {v : α} (h : Ev f v) : ∃ k, f k = some v := by
  obtain ⟨n, h⟩ := h
  exact ⟨n, h n (Nat.le_refl _)⟩
theorem Ev.now {α : Type} (v : α) : Ev (fun _ => some v) v := ⟨0, fun _ _ => rfl⟩
theorem Ev.now' {α : Type} {v w : α} (h : v = w) : Ev (fun _ => some v) w := h ▸ .now v
/-- what hangs on no fuel -/
theorem Ev.const {α : Type} {o : Option α} {v : α} (h : o = some v) : Ev (fun _ => o) v := ⟨0, fun _ _ => h⟩
theorem Ev.to {α : Type} {f : Nat → Option α} {v w : α} (h : Ev f v) (e : v = w) : Ev f w := e ▸ h
theorem Ev.of {α : Type} {f g : Nat → Option α} {v : α} (h : Ev f v) (e : ∀ k, g k = f k) : Ev g v := by
  obtain ⟨n, h⟩ := h
  exact ⟨n, fun k hk => (e k).trans (h k hk)⟩
theorem Ev.bind {α β : Type} {f : Nat → Option α} {g : Nat → α → Option β} {a : α} {b : β} (h : Ev f a) (h2 : Ev (fun k => g k a) b) : Ev (fun k => (f k).bind (g k)) b := by
  obtain ⟨n, h⟩ := h
  obtain ⟨m, h2⟩ := h2
  refine ⟨max n m, fun k hk => ?_⟩
  show (f k).bind (g k) = _
  rw [h k (by omega)]
  exact h2 k (by omega)
/-- a value that hangs on no fuel -/
theorem Ev.val {α β : Type} {o : Option α} {g : Nat → α → Option β} {a : α} {b : β} (h : o = some a) (h2 : Ev (fun k => g k a) b) : Ev (fun k => o.bind (g k)) b := by
  subst h
  exact h2
theorem Ev.joinL {S α β : Type} {f : Nat → Option (α ⊕ β)} {g : Nat → α → Option β} {a : α} {b : β} (h : Ev f (.inl a)) (h2 : Ev (fun k => g k a) b) : Ev (fun k => (f k).bind (joined (g k))) b :=
  Ev.bind (g := fun k => joined (g k)) h h2
theorem Ev.joinR {α β : Type} {f : Nat → Option (α ⊕ β)} {g : Nat → α → Option β} {b : β} (h : Ev f (.inr b)) : Ev (fun k => (f k).bind (joined (g k))) b :=
  Ev.bind (g := fun k => joined (g k)) h (.now b)
/-- a join: how it came, and what follows -/
theorem Ev.join {α β : Type} {f : Nat → Option (α ⊕ β)} {g : Nat → α → Option β} {s : α ⊕ β} {b : β} (h : Ev f s) (h1 : ∀ a, s = .inl a → Ev (fun k => g k a) b) (h2 : ∀ r, s = .inr r → r = b) : Ev (fun k => (f k).bind (joined (g k))) b := by
  cases s with
  | inl a => exact Ev.bind (g := fun k => joined (g k)) h (h1 a rfl)
  | inr r => exact Ev.bind (g := fun k => joined (g k)) h (.now' (h2 r rfl))
theorem Ev.cnd {α : Type} {c : Bool} {f g : Nat → Option α} {v : α} (h1 : c = true → Ev f v) (h2 : c = false → Ev g v) : Ev (fun k => cond c (f k) (g k)) v := by
  cases c with
  | true => exact h1 rfl
  | false => exact h2 rfl
theorem Ev.yes {α : Type} {c : Bool} {f g : Nat → Option α} {v : α} (hc : c = true) (h : Ev f v) : Ev (fun k => cond c (f k) (g k)) v := by rw [hc]; exact h
theorem Ev.no {α : Type} {c : Bool} {f g : Nat → Option α} {v : α} (hc : c = false) (h : Ev g v) : Ev (fun k => cond c (f k) (g k)) v := by rw [hc]; exact h
theorem Ev.map {α β : Type} {f : Nat → Option α} {g : α → β} {a : α} (h : Ev f a) : Ev (fun k => (f k).map g) (g a) := by
  obtain ⟨n, h⟩ := h
  exact ⟨n, fun k hk => by show (f k).map g = _; rw [h k hk]; rfl⟩

theorem Lp.ev {S R : Type} {body : Nat → S → Option (S ⊕ R)} {s : S} {r : R} (h : Lp body s r) : Ev (fun k => loopN (body k) k s) r := by
  obtain ⟨n, m, h⟩ := h
  exact ⟨max n m, fun k hk => h k (by omega) k (by omega)⟩
theorem Lp.done {S R : Type} {body : Nat → S → Option (S ⊕ R)} {s : S} {r : R} (h : Ev (fun k => body k s) (.inr r)) : Lp body s r := by
  obtain ⟨n, h⟩ := h
  refine ⟨n, 1, fun k hk j hj => ?_⟩
  obtain ⟨j, rfl⟩ : ∃ i, j = i + 1 := ⟨j - 1, by omega⟩
  show (body k s).bind _ = _
  rw [show body k s = _ from h k hk]
  rfl
theorem Lp.step {S R : Type} {body : Nat → S → Option (S ⊕ R)} {s s' : S} {r : R} (h : Ev (fun k => body k s) (.inl s')) (h2 : Lp body s' r) : Lp body s r := by
  obtain ⟨n, h⟩ := h
  obtain ⟨n2, m, h2⟩ := h2
  refine ⟨max n n2, m + 1, fun k hk j hj => ?_⟩
  obtain ⟨j, rfl⟩ : ∃ i, j = i + 1 := ⟨j - 1, by omega⟩
  show (body k s).bind _ = _
  rw [show body k s = _ from h k (by omega)]
  exact h2 k (by omega) j (by omega)

/-- a walk over a list, that may end early -/
def walk {α β R : Type} (f : β → α → β ⊕ R) (fin : β → R) : List α → β → R
  | [], b => fin b
  | x :: l, b => match f b x with | .inl b' => walk f fin l b' | .inr r => r
theorem walk_cons {α β R : Type} {f : β → α → β ⊕ R} {fin : β → R} {x : α} {l : List α} {b : β} : walk f fin (x :: l) b = match f b x with | .inl b' => walk f fin l b' | .inr r => r := rfl

/-- a loop over a list by its index: 'st b i' is the loop's state -/
theorem Lp.walk {α β S R : Type} {body : Nat → S → Option (S ⊕ R)} (l : List α) (st : β → Int → S) (f : β → α → β ⊕ R) (fin : β → R) (Inv : Nat → β → Prop)
    (hs : ∀ i x b, l[i]? = some x → Inv i b → Ev (fun k => body k (st b i)) (match f b x with | .inl b' => .inl (st b' ((i : Int) + 1)) | .inr r => .inr r) ∧ ∀ b', f b x = .inl b' → Inv (i + 1) b')
    (hd : ∀ b, Inv l.length b → Ev (fun k => body k (st b l.length)) (.inr (fin b))) {b : β} (h0 : Inv 0 b) : Lp body (st b 0) (walk f fin l b) := by
  have key : ∀ (suf pre : List α) (b : β), l = pre ++ suf → Inv pre.length b → Lp body (st b (pre.length : Int)) (Gp.walk f fin suf b) := by
    intro suf
    induction suf with
    | nil =>
      intro pre b h hi
      rw [List.append_nil] at h
      subst h
      exact .done (hd b hi)
    | cons x suf ih =>
      intro pre b h hi
      have hx : l[pre.length]? = some x := by rw [h]; simp
      obtain ⟨h1, h2⟩ := hs pre.length x b hx hi
      rw [walk_cons]
      cases hf : f b x with
      | inr r => rw [hf] at h1; exact .done h1
      | inl b' =>
        rw [hf] at h1
        refine .step h1 ?_
        have := ih (pre ++ [x]) b' (by rw [h]; simp) (by simpa using h2 b' hf)
        simpa using this
  exact key l [] b rfl h0
/-- .. that always goes to its end -/
theorem Lp.fold {α β S R : Type} {body : Nat → S → Option (S ⊕ R)} (l : List α) (st : β → Int → S) (f : β → α → β) (fin : β → R) (Inv : Nat → β → Prop)
    (hs : ∀ i x b, l[i]? = some x → Inv i b → Ev (fun k => body k (st b i)) (.inl (st (f b x) ((i : Int) + 1))) ∧ Inv (i + 1) (f b x))
    (hd : ∀ b, Inv l.length b → Ev (fun k => body k (st b l.length)) (.inr (fin b))) {b : β} (h0 : Inv 0 b) : Lp body (st b 0) (fin (l.foldl f b)) := by
  have := Lp.walk (body := body) l st (fun b x => .inl (f b x)) fin Inv (fun i x b hx hi => ⟨(hs i x b hx hi).1, fun b' hb => by cases hb; exact (hs i x b hx hi).2⟩) hd h0
  have e : ∀ (l : List α) (b : β), Gp.walk (fun b x => (.inl (f b x) : β ⊕ R)) fin l b = fin (l.foldl f b) := by
    intro l
    induction l with
    | nil => intro b; rfl
    | cons x l ih => intro b; rw [walk_cons, List.foldl_cons]; exact ih _
  rwa [e] at this
/-- a loop that counts from 0 to n -/
theorem Lp.count {β S R : Type} {body : Nat → S → Option (S ⊕ R)} (n : Nat) (st : β → Int → S) (f : β → Nat → β) (fin : β → R) (Inv : Nat → β → Prop)
    (hs : ∀ i b, i < n → Inv i b → Ev (fun k => body k (st b i)) (.inl (st (f b i) ((i : Int) + 1))) ∧ Inv (i + 1) (f b i))
    (hd : ∀ b, Inv n b → Ev (fun k => body k (st b n)) (.inr (fin b))) {b : β} (h0 : Inv 0 b) : Lp body (st b 0) (fin ((List.range n).foldl f b)) := by
  refine Lp.fold (List.range n) st f fin Inv (fun i x b hx hi => ?_) (fun b hb => ?_) h0
  · obtain ⟨h1, h2⟩ := List.getElem?_eq_some_iff.1 hx
    rw [List.getElem_range] at h2
    subst h2
    exact hs i b (by simpa using h1) hi
  · rw [List.length_range] at hb ⊢
    exact hd b hb

-- numbers
theorem w64_id {x : Int} (h0 : -9223372036854775808 ≤ x) (h1 : x ≤ 9223372036854775807) : w64 x = x := by
  show IntKind.wrap .i64 x = x
  have e : (2 : Int) ^ (64 - 1) = 9223372036854775808 := by decide
  have e2 : (2 : Int) ^ 64 = 18446744073709551616 := by decide
  simp only [IntKind.wrap, IntKind.signed, IntKind.bits, Bool.true_and, decide_eq_true_eq, e, e2]
  split <;> omega
theorem w64_nat {n : Nat} (h : n ≤ 9223372036854775807) : w64 (n : Int) = n := w64_id (by omega) (by omega)
theorem w64_succ {n : Nat} (h : n < 9223372036854775807) : w64 ((n : Int) + 1) = ((n + 1 : Nat) : Int) := by rw [w64_id (by omega) (by omega)]; omega
theorem rd_nat {α : Type} (l : List α) (i : Nat) : rd l (i : Int) = l[i]? := by
  unfold rd
  rw [if_pos (by omega)]
  rfl
theorem rd_some' {α : Type} {l : List α} {i : Nat} {x : α} (h : l[i]? = some x) : rd l (i : Int) = some x := by rw [rd_nat, h]
theorem rd_at {α : Type} {l : List α} {z : Int} {i : Nat} {x : α} (hz : z = i) (h : l[i]? = some x) : rd l z = some x := by rw [hz, rd_nat, h]
theorem room_ok {n b : Nat} (h : n * b ≤ 140737488355328) : room n b = true := Nat.ble_eq_true_of_le h
theorem get_lt {α : Type} {l : List α} {i : Nat} {x : α} (h : l[i]? = some x) : i < l.length := (List.getElem?_eq_some_iff.1 h).1
theorem get_mem {α : Type} {l : List α} {i : Nat} {x : α} (h : l[i]? = some x) : x ∈ l := List.mem_of_getElem? h
theorem slc_ok {α : Type} {l : List α} {a b : Nat} (h1 : a ≤ b) (h2 : b ≤ l.length) : slc l (a : Int) (b : Int) = some ((l.take b).drop a) := by
  unfold slc
  rw [if_pos ⟨by omega, by omega, by omega⟩]
  simp
theorem slc_tail {α : Type} {l : List α} {a : Nat} (h1 : a ≤ l.length) : slc l (a : Int) (l.length : Int) = some (l.drop a) := by
  rw [slc_ok h1 (Nat.le_refl _), List.take_length]
theorem eqB_iff {k : K} (hc : k.cmp = true) {x y : k.den} : eqB k x y = true ↔ x = y := ⟨eqB_eq hc, fun h => by rw [h]; exact eqB_refl hc⟩
theorem eqB_dec {k : K} (hc : k.cmp = true) {x y : k.den} [Decidable (x = y)] : eqB k x y = decide (x = y) := by
  rw [Bool.eq_iff_iff, eqB_iff hc, decide_eq_true_eq]
theorem streq_iff {a b : ByteArray} : streq a b = true ↔ a = b := ⟨streq_eq, fun h => by rw [h]; exact streq_refl b⟩
theorem lit_wf {k : Int} (h : (Lit.int .i64 k).wf = true) : -9223372036854775808 ≤ k ∧ k ≤ 9223372036854775807 := by
  simp [Lit.wf, IntKind.min, IntKind.max, IntKind.signed, IntKind.bits] at h
  omega

-- bits
theorem wrap64_nat {n : Nat} (h : n < 9223372036854775808) : IntKind.wrap .i64 (n : Int) = n := w64_nat (by omega)
theorem bv_nat (a : Nat) : BitVec.ofInt 64 (a : Int) = BitVec.ofNat 64 a := BitVec.ofInt_natCast 64 a
theorem shrI_nat {a j : Nat} (hj : j ≤ 64) : shrI .i64 (a : Int) (j : Int) = ((a / 2 ^ j : Nat) : Int) := by
  unfold shrI
  simp only [IntKind.bits, Int.toNat_natCast]
  rw [Nat.min_eq_left hj, show ((2 : Int) ^ j) = ((2 ^ j : Nat) : Int) by simp, Int.fdiv_eq_ediv_of_nonneg _ (Int.natCast_nonneg _)]
  simp

-- maps
theorem foldl_snoc {α β : Type} (g : α → β) : ∀ (l : List α) (o : List β), l.foldl (fun o x => o ++ [g x]) o = o ++ l.map g
  | [], o => by simp
  | x :: l, o => by rw [List.foldl_cons, foldl_snoc g l]; simp
end Go.Proofs.YtcppmlgnceldmaaGreat.Gp

/- More fuel, no other answer. -/
set_option linter.unusedVariables false
noncomputable section
namespace Go.Proofs.YtcppmlgnceldmaaGreat.Gp
open Go

def Mono {α : Type} (f : Nat → Option α) : Prop := ∀ k j v, k ≤ j → f k = some v → f j = some v
theorem Mono.ev {α : Type} {f : Nat → Option α} (h : Mono f) {n : Nat} {v : α} (e : f n = some v) : Ev f v := ⟨n, fun k hk => h n k v hk e⟩
theorem Mono.const {α : Type} (o : Option α) : Mono (fun _ => o) := fun _ _ _ _ h => h
theorem Mono.bind {α β : Type} {f : Nat → Option α} {g : Nat → α → Option β} (h : Mono f) (h2 : ∀ a, Mono (fun k => g k a)) : Mono (fun k => (f k).bind (g k)) := by
  intro k j v hk he
  obtain ⟨a, ha, hb⟩ := Option.bind_eq_some_iff.1 he
  exact Option.bind_eq_some_iff.2 ⟨a, h k j a hk ha, h2 a k j v hk hb⟩
theorem Mono.cond {α : Type} {c : Bool} {f g : Nat → Option α} (h : Mono f) (h2 : Mono g) : Mono (fun k => cond c (f k) (g k)) := by
  cases c
  · exact h2
  · exact h
theorem Mono.joined {α β : Type} {f : Nat → Option (α ⊕ β)} {g : Nat → α → Option β} (h : Mono f) (h2 : ∀ a, Mono (fun k => g k a)) : Mono (fun k => (f k).bind (joined (g k))) :=
  Mono.bind (g := fun k => Gp.joined (g k)) h (fun a => by
    cases a with
    | inl a => exact h2 a
    | inr b => exact Mono.const _)
theorem Mono.loop {S R : Type} {body : Nat → S → Option (S ⊕ R)} {s : S} (h : ∀ s, Mono (fun k => body k s)) : Mono (fun k => loopN (body k) k s) := by
  have key : ∀ (n : Nat) (k j m : Nat) (s : S) (v : R), k ≤ j → n ≤ m → loopN (body k) n s = some v → loopN (body j) m s = some v := by
    intro n
    induction n with
    | zero => intro k j m s v _ _ he; cases he
    | succ n ih =>
      intro k j m s v hk hm he
      obtain ⟨m, rfl⟩ : ∃ i, m = i + 1 := ⟨m - 1, by omega⟩
      obtain ⟨a, ha, hb⟩ := Option.bind_eq_some_iff.1 (show (body k s).bind _ = some v from he)
      refine Option.bind_eq_some_iff.2 ⟨a, h s k j a hk ha, ?_⟩
      cases a with
      | inl s' => exact ih k j m s' v hk (by omega) hb
      | inr r => exact hb
  intro k j v hk he
  exact key k k j j s v hk hk he
theorem Mono.agree {α : Type} {f g : Nat → Option α} (h : Mono f) (h2 : Mono g) : Mono (fun k => agree (f k) (g k)) := by
  intro k j v hk he
  obtain ⟨a, b⟩ := agree_some he
  show Gp.agree (f j) (g j) = some v
  rw [h k j v hk a, h2 k j v hk b]
  exact agree_self _
theorem Mono.orNil {α : Type} {n : Nat} {f g : Nat → Option α} (h : Mono f) (h2 : Mono g) : Mono (fun k => orNil n (f k) (g k)) := by
  intro k j v hk he
  obtain ⟨a, b⟩ := orNil_some he
  have h3 := h2 k j v hk a
  show Gp.orNil n (f j) (g j) = some v
  rw [orNil_same (fun e => by rw [h3, h k j v hk (b e)])]
  exact h3
theorem Mono.prod {α β γ : Type} {f : Nat → α × β → Option γ} (h : ∀ a b, Mono (fun k => f k (a, b))) : ∀ x, Mono (fun k => f k x) := fun x => by
  obtain ⟨a, b⟩ := x
  exact h a b
end Go.Proofs.YtcppmlgnceldmaaGreat.Gp

/- What is left of a Go function answers, and its answer has a property. No program in sight. -/
set_option linter.unusedVariables false
noncomputable section
namespace Go.Proofs.YtcppmlgnceldmaaGreat.Gp
open Go

def Tot {α : Type} (f : Nat → Option α) (P : α → Prop) : Prop := ∃ v, Ev f v ∧ P v
theorem Tot.ret {α : Type} {P : α → Prop} {v : α} (h : P v) : Tot (fun _ => some v) P := ⟨v, .now _, h⟩
theorem Tot.of {α : Type} {P : α → Prop} {f : Nat → Option α} {v : α} (h : Ev f v) (hp : P v) : Tot f P := ⟨v, h, hp⟩
theorem Tot.mono {α : Type} {P Q : α → Prop} {f : Nat → Option α} (h : Tot f P) (hp : ∀ v, P v → Q v) : Tot f Q := by
  obtain ⟨v, h1, h2⟩ := h
  exact ⟨v, h1, hp v h2⟩
theorem Tot.bind {α β : Type} {P : α → Prop} {Q : β → Prop} {f : Nat → Option α} {g : Nat → α → Option β} (h : Tot f P) (h2 : ∀ a, P a → Tot (fun k => g k a) Q) : Tot (fun k => (f k).bind (g k)) Q := by
  obtain ⟨a, h, ha⟩ := h
  obtain ⟨b, h2, hb⟩ := h2 a ha
  exact ⟨b, h.bind h2, hb⟩
theorem Tot.val {α β : Type} {Q : β → Prop} {o : Option α} {g : Nat → α → Option β} {a : α} (h : o = some a) (h2 : Tot (fun k => g k a) Q) : Tot (fun k => o.bind (g k)) Q := by
  subst h
  exact h2
theorem Tot.ask {β : Type} {Q : β → Prop} {c : Prop} [Decidable c] {g : Nat → Unit → Option β} (hc : c) (h2 : Tot (fun k => g k ()) Q) : Tot (fun k => (if c then some () else none).bind (g k)) Q := Tot.val (if_pos hc) h2
theorem Tot.cnd {α : Type} {P : α → Prop} {c : Bool} {f g : Nat → Option α} (h1 : c = true → Tot f P) (h2 : c = false → Tot g P) : Tot (fun k => cond c (f k) (g k)) P := by
  cases c with
  | true => exact h1 rfl
  | false => exact h2 rfl
theorem Tot.join {α β : Type} {P : α ⊕ β → Prop} {Q : β → Prop} {f : Nat → Option (α ⊕ β)} {g : Nat → α → Option β} (h : Tot f P) (h1 : ∀ a, P (.inl a) → Tot (fun k => g k a) Q) (h2 : ∀ b, P (.inr b) → Q b) : Tot (fun k => (f k).bind (joined (g k))) Q := by
  obtain ⟨v, h, hv⟩ := h
  cases v with
  | inl a =>
    obtain ⟨b, h3, hb⟩ := h1 a hv
    exact ⟨b, Ev.joinL (S := Unit) h h3, hb⟩
  | inr b => exact ⟨b, h.joinR, h2 b hv⟩
theorem Tot.read {α β : Type} {Q : β → Prop} {l : List α} {i : Int} {g : Nat → α → Option β} (h : 0 ≤ i ∧ i < (l.length : Int)) (h2 : ∀ a, l[i.toNat]? = some a → Tot (fun k => g k a) Q) : Tot (fun k => (rd l i).bind (g k)) Q := by
  have hlt : i.toNat < l.length := by omega
  have := List.getElem?_eq_getElem hlt
  exact Tot.val (rd_at (i := i.toNat) (by omega) this) (h2 _ this)
theorem Tot.ev {α : Type} {P : α → Prop} {f : Nat → Option α} (h : Tot f P) : ∃ v, Ev f v ∧ P v := h
/-- a loop over a list -/
theorem Tot.walk {α β S R : Type} {body : Nat → S → Option (S ⊕ R)} (l : List α) (st : β → Int → S) (Inv : β → Prop) (Q : R → Prop)
    (hs : ∀ (i : Nat) x b, l[i]? = some x → Inv b → Tot (fun k => body k (st b (i : Int))) (fun y => match y with | .inl s => ∃ b', s = st b' ((i : Int) + 1) ∧ Inv b' | .inr r => Q r))
    (hd : ∀ b, Inv b → Tot (fun k => body k (st b l.length)) (fun y => match y with | .inl s => False | .inr r => Q r)) {b : β} (h0 : Inv b) : Tot (fun k => loopN (body k) k (st b 0)) Q := by
  have key : ∀ (suf pre : List α) (b : β), l = pre ++ suf → Inv b → ∃ r, Lp body (st b (pre.length : Int)) r ∧ Q r := by
    intro suf
    induction suf with
    | nil =>
      intro pre b h hi
      rw [List.append_nil] at h
      subst h
      obtain ⟨y, h1, h2⟩ := hd b hi
      cases y with
      | inl s => exact h2.elim
      | inr r => exact ⟨r, .done h1, h2⟩
    | cons x suf ih =>
      intro pre b h hi
      have hx : l[pre.length]? = some x := by rw [h]; simp
      obtain ⟨y, h1, h2⟩ := hs pre.length x b hx hi
      cases y with
      | inr r => exact ⟨r, .done h1, h2⟩
      | inl s =>
        obtain ⟨b', rfl, hb'⟩ := h2
        obtain ⟨r, h3, h4⟩ := ih (pre ++ [x]) b' (by rw [h]; simp) hb'
        refine ⟨r, .step h1 ?_, h4⟩
        rw [List.length_append] at h3
        exact h3
  obtain ⟨r, h1, h2⟩ := key l [] b rfl h0
  exact ⟨r, h1.ev, h2⟩

/-- .. with what was seen so far -/
theorem Tot.walkI {α β S R : Type} {body : Nat → S → Option (S ⊕ R)} (l : List α) (st : β → Int → S) (Inv : Nat → β → Prop) (Q : R → Prop)
    (hs : ∀ (i : Nat) x b, l[i]? = some x → Inv i b → Tot (fun k => body k (st b (i : Int))) (fun y => match y with | .inl s => ∃ b', s = st b' ((i : Int) + 1) ∧ Inv (i + 1) b' | .inr r => Q r))
    (hd : ∀ b, Inv l.length b → Tot (fun k => body k (st b l.length)) (fun y => match y with | .inl s => False | .inr r => Q r)) {b : β} (h0 : Inv 0 b) : Tot (fun k => loopN (body k) k (st b 0)) Q := by
  have key : ∀ (suf pre : List α) (b : β), l = pre ++ suf → Inv pre.length b → ∃ r, Lp body (st b (pre.length : Int)) r ∧ Q r := by
    intro suf
    induction suf with
    | nil =>
      intro pre b h hi
      rw [List.append_nil] at h
      subst h
      obtain ⟨y, h1, h2⟩ := hd b hi
      cases y with
      | inl s => exact h2.elim
      | inr r => exact ⟨r, .done h1, h2⟩
    | cons x suf ih =>
      intro pre b h hi
      have hx : l[pre.length]? = some x := by rw [h]; simp
      obtain ⟨y, h1, h2⟩ := hs pre.length x b hx hi
      cases y with
      | inr r => exact ⟨r, .done h1, h2⟩
      | inl s =>
        obtain ⟨b', rfl, hb'⟩ := h2
        obtain ⟨r, h3, h4⟩ := ih (pre ++ [x]) b' (by rw [h]; simp) (by rw [List.length_append]; exact hb')
        refine ⟨r, .step h1 ?_, h4⟩
        rw [List.length_append] at h3
        exact h3
  obtain ⟨r, h1, h2⟩ := key l [] b rfl h0
  exact ⟨r, h1.ev, h2⟩

/-- all rows of numbers have nine -/
class Nin (α : Type) where
  p : α → Prop
instance : Nin Unit := ⟨fun _ => True⟩
instance : Nin Int := ⟨fun _ => True⟩
instance : Nin Bool := ⟨fun _ => True⟩
instance : Nin (List Int) := ⟨fun l => l.length = 9⟩
instance {α β : Type} [Nin α] [Nin β] : Nin (α × β) := ⟨fun x => Nin.p x.1 ∧ Nin.p x.2⟩
instance {α β : Type} [Nin α] [Nin β] : Nin (α ⊕ β) := ⟨fun x => match x with | .inl a => Nin.p a | .inr b => Nin.p b⟩
theorem Tot.prod {α β γ : Type} [Nin α] [Nin β] {Q : γ → Prop} {f : Nat → α × β → Option γ} (h : ∀ a, Nin.p a → ∀ b, Nin.p b → Tot (fun k => f k (a, b)) Q) : ∀ x : α × β, Nin.p x → Tot (fun k => f k x) Q := fun x hx => h x.1 hx.1 x.2 hx.2
/-- it answers -/
theorem Tot.bindT {α β : Type} {Q : β → Prop} {f : Nat → Option α} {g : Nat → α → Option β} (h : Tot f (fun _ => True)) (h2 : ∀ a, Tot (fun k => g k a) Q) : Tot (fun k => (f k).bind (g k)) Q := Tot.bind h (fun a _ => h2 a)
theorem Tot.any {α : Type} {P : α → Prop} {f : Nat → Option α} (h : Tot f P) : Tot f (fun _ => True) := h.mono fun _ _ => trivial
theorem Tot.prodT {α β γ : Type} {Q : γ → Prop} {f : Nat → α × β → Option γ} (h : ∀ a b, Tot (fun k => f k (a, b)) Q) : ∀ x : α × β, Tot (fun k => f k x) Q := fun x => h x.1 x.2
theorem Tot.joinT {α β : Type} {f : Nat → Option (α ⊕ β)} {g : Nat → α → Option β} (h : Tot f (fun _ => True)) (h1 : ∀ a, Tot (fun k => g k a) (fun _ => True)) : Tot (fun k => (f k).bind (Gp.joined (g k))) (fun _ => True) :=
  Tot.join (P := fun _ => True) h (fun a _ => h1 a) (fun _ _ => trivial)
end Go.Proofs.YtcppmlgnceldmaaGreat.Gp

/- What processors may do: the check. No program in sight. -/
set_option linter.unusedVariables false
set_option maxRecDepth 100000
noncomputable section
namespace Go.Proofs.YtcppmlgnceldmaaGreat.Fl
open Go Go.Proofs.YtcppmlgnceldmaaGreat.Gp

abbrev Stp4 := Int × Int × Int × Int
abbrev Cyc := Int × Int × Int × List Stp4
abbrev Ins := Int × ByteArray × Int × List Cyc
abbrev Cpu := ByteArray × List Ins × List Cyc × List Cyc × List Cyc
theorem ibits_low (n : Int) {j : Nat} (hj : j ≤ 62) : ibits .and .i64 n ((2 ^ j - 1 : Nat) : Int) = n % ((2 ^ j : Nat) : Int) := by
  have hp : 2 ^ j ≤ 2 ^ 62 := Nat.pow_le_pow_right (by decide) hj
  have hpos : 0 < 2 ^ j := Nat.pow_pos (by decide)
  have e62 : (2 : Nat) ^ 62 = 4611686018427387904 := by decide
  have e64 : (2 : Nat) ^ 64 = 18446744073709551616 := by decide
  show IntKind.wrap .i64 (((BitVec.ofInt 64 n &&& BitVec.ofInt 64 ((2 ^ j - 1 : Nat) : Int)).toNat : Nat) : Int) = _
  rw [bv_nat, BitVec.toNat_and, BitVec.toNat_ofNat, Nat.mod_eq_of_lt (by omega), BitVec.toNat_ofInt, Nat.and_two_pow_sub_one_eq_mod]
  have hlt : (n % (2 ^ 64 : Nat)).toNat % 2 ^ j < 2 ^ j := Nat.mod_lt _ hpos
  rw [wrap64_nat (by omega), Int.natCast_emod, Int.toNat_of_nonneg (Int.emod_nonneg _ (by rw [e64]; decide))]
  exact Int.emod_emod_of_dvd n (Int.natCast_dvd_natCast.2 (Nat.pow_dvd_pow 2 (by omega)))
theorem low8_ev (n : Int) : Ev (fun k => Low70 k n 8) (n % 256, ()) := by
  unfold Low70
  refine .val (a := (8, ())) rfl (.val (a := shlI .i64 1 8) rfl (.now' ?_))
  have := ibits_low n (j := 8) (by decide)
  exact congrArg (fun x => (x, ())) this
theorem low16_ev (n : Int) : Ev (fun k => Low70 k n 16) (n % 65536, ()) := by
  unfold Low70
  refine .val (a := (16, ())) rfl (.val (a := shlI .i64 1 16) rfl (.now' ?_))
  have := ibits_low n (j := 16) (by decide)
  exact congrArg (fun x => (x, ())) this
def Wcyc (l : List Cyc) : Prop := l.length * 48 ≤ 140737488351232 ∧ ∀ y ∈ l, y.2.2.2.length * 32 ≤ 140737488351232
/-- no row is too long -/
structure Wc (c : Cpu) : Prop where
  len : c.2.1.length * 56 ≤ 140737488351232
  ins : ∀ x ∈ c.2.1, Wcyc x.2.2.2
  res : Wcyc c.2.2.1
  irq : Wcyc c.2.2.2.1
  nmi : Wcyc c.2.2.2.2
theorem clone_ev (s : List Cyc) (h : s.length * 48 ≤ 140737488351232) : Ev (fun k => Clone122 k s) ((), s) := by
  unfold Clone122
  have e : (if room (0 + List.length s) 48 then some () else none : Option Unit) = some () := if_pos (room_ok (by omega))
  refine Ev.const ?_
  rw [orNil_same (fun h0 => ?_)]
  · show Option.bind _ _ = _
    rw [e]; rfl
  · have := List.length_eq_zero_iff.1 h0
    subst this
    rw [e]; rfl
theorem clones_ev (s : List Stp4) (h : s.length * 32 ≤ 140737488351232) : Ev (fun k => Clone98 k s) ((), s) := by
  unfold Clone98
  have e : (if room (0 + List.length s) 32 then some () else none : Option Unit) = some () := if_pos (room_ok (by omega))
  refine Ev.const ?_
  rw [orNil_same (fun h0 => ?_)]
  · show Option.bind _ _ = _
    rw [e]; rfl
  · have := List.length_eq_zero_iff.1 h0
    subst this
    rw [e]; rfl
theorem copies_ev (l : List Cyc) (h : Wcyc l) : Ev (fun k => copies85 k l) (l, ()) := by
  have hl := h.1
  unfold copies85
  refine .bind (clone_ev l hl) (.bind (a := ((), l)) (Lp.ev ?_) (.now _))
  have := Lp.count (body := fun k => copies85.l0 k ((), l)) l.length (fun (_ : Unit) i => ((), i, l)) (fun _ _ => ()) (fun _ => ((), l)) (fun _ _ => True) (fun i b hi _ => ⟨?_, trivial⟩) (fun b _ => ?_) (b := ()) trivial
  · exact this
  · obtain ⟨x, hx⟩ : ∃ x, l[i]? = some x := ⟨l[i], List.getElem?_eq_getElem hi⟩
    have hr := rd_some' hx
    simp only [copies85.l0]
    refine .yes (decide_eq_true (by omega)) (.val hr (.val hr (.bind (clones_ev x.2.2.2 (h.2 x (get_mem hx))) (.val hr (.val hr (.now' ?_))))))
    rw [w64_id (by omega) (by omega), Int.toNat_natCast]
    have : l.set i x = l := by
      obtain ⟨h1, h2⟩ := List.getElem?_eq_some_iff.1 hx
      rw [← h2]
      exact List.set_getElem_self h1
    show (Sum.inl ((), (i : Int) + 1, l.set i x) : _ ⊕ _) = _
    rw [this]
  · simp only [copies85.l0]
    exact .no (decide_eq_false (by show ¬ (l.length : Int) < (l.length : Int); omega)) (.now _)
theorem copy_ev (x : Ins) (h : Wcyc x.2.2.2) : Ev (fun k => Copy44 k x) (x, ()) := by
  unfold Copy44
  exact .bind (copies_ev _ h) (.now _)
def findI (c : Cpu) (op : Int) : Option Ins := c.2.1.find? (fun x => x.1 == op)
theorem idx_lp {c : Cpu} (hc : Wc c) (op : Int) : ∀ (suf pre : List Ins), c.2.1 = pre ++ suf → ∃ r, Lp (fun k => IndexFunc42'.l0 k c.2.1) ((op, ()), (pre.length : Int)) r ∧
    (match suf.find? (fun x => x.1 == op) with | none => r = .inl () | some x => ∃ j : Nat, r = .inr ((j : Int), ()) ∧ c.2.1[j]? = some x) := by
  have hl := hc.len
  intro suf
  induction suf with
  | nil =>
    intro pre h
    rw [List.append_nil] at h
    refine ⟨.inl (), .done ?_, rfl⟩
    simp only [IndexFunc42'.l0]
    exact .no (decide_eq_false (by rw [h]; omega)) (.now _)
  | cons x suf ih =>
    intro pre h
    have hx : c.2.1[pre.length]? = some x := by rw [h]; simp
    have hlt := get_lt hx
    cases hp : (x.1 == op) with
    | true =>
      refine ⟨.inr ((pre.length : Int), ()), .done ?_, ?_⟩
      · simp only [IndexFunc42'.l0]
        refine .yes (decide_eq_true (by omega)) (.val (rd_some' hx) (.bind (a := (true, ())) (.const ?_) (.yes rfl (.now _))))
        show some ((x.1 == op), ()) = _
        rw [hp]
      · rw [List.find?_cons_of_pos (by exact hp)]
        exact ⟨pre.length, rfl, hx⟩
    | false =>
      obtain ⟨r, h1, h2⟩ := ih (pre ++ [x]) (by rw [h]; simp)
      refine ⟨r, .step ?_ h1, ?_⟩
      · simp only [IndexFunc42'.l0]
        refine .yes (decide_eq_true (by omega)) (.val (rd_some' hx) (.bind (a := (false, ())) (.const ?_) (.no rfl (.now' ?_))))
        · show some ((x.1 == op), ()) = _
          rw [hp]
        · rw [w64_succ (by omega)]; simp
      · rw [List.find?_cons_of_neg (by rw [hp]; decide)]
        exact h2
def none4 : Ins := (0, ByteArray.mk #[], 0, [])
def findR (c : Cpu) (op : Int) : Ins × Bool × Unit := match findI c op with | some x => (x, true, ()) | none => (none4, false, ())
theorem find_ev {c : Cpu} (hc : Wc c) (op : Int) : Ev (fun k => Find11 k c op) (findR c op, ()) := by
  unfold Find11 IndexFunc42'
  obtain ⟨r, h1, h2⟩ := idx_lp hc op c.2.1 [] rfl
  unfold findR findI
  cases hf : c.2.1.find? (fun x => x.1 == op) with
  | none =>
    rw [hf] at h2
    subst h2
    exact .bind (.joinL (S := Unit) h1.ev (.now _)) (.yes rfl (.now _))
  | some x =>
    rw [hf] at h2
    obtain ⟨j, rfl, hj⟩ := h2
    exact .bind (.joinR h1.ev) (.no (decide_eq_false (by show ¬ (j : Int) < 0; omega)) (.val (rd_some' hj) (.bind (copy_ev x (hc.ins x (get_mem hj))) (.now _))))
/-- names are no longer than texts can be -/
def Wn (c : Cpu) : Prop := c.1.size ≤ 140737488351232 ∧ ∀ x ∈ c.2.1, x.2.1.size ≤ 140737488351232
theorem bytes_len (s : ByteArray) : (bytesOf s).length = s.size := by unfold bytesOf; rw [List.length_map, Array.length_toList]; rfl
theorem name_t (s : ByteArray) (h : s.size ≤ 140737488351232) : Tot (fun k => Name32 k s) (fun _ => True) := by
  unfold Name32
  have hl := bytes_len s
  have at0 : ∀ {β : Type} {Q : β → Prop} {g : Nat → Int → Option β}, ¬ streq s (ByteArray.mk #[]) = true → (∀ a, Tot (fun k => g k a) Q) → Tot (fun k => (rd (bytesOf s) 0).bind (g k)) Q := by
    intro β Q g hne hg
    refine .read ⟨by decide, ?_⟩ fun a _ => hg a
    rw [hl]
    by_cases h0 : s.size = 0
    · exfalso
      refine hne (streq_iff.2 ?_)
      cases s with
      | mk d =>
        have hd : d.size = 0 := h0
        have := Array.size_eq_zero_iff.1 hd
        rw [this]
    · omega
  refine .bind (P := fun b => b = false → ¬ streq s (ByteArray.mk #[]) = true) (.cnd (fun _ => .ret (fun h => by cases h)) (fun h => ?_)) fun t16 h16 => .bind (P := fun _ => True) (.cnd (fun _ => .ret trivial) (fun h => at0 (h16 h) fun a => .ret trivial)) fun t21 _ => .cnd (fun _ => .ret trivial) fun _ => .joinT ?_ (fun _ => .ret trivial)
  · have hne : ¬ streq s (ByteArray.mk #[]) = true := by
      intro h2
      rw [h2] at h
      cases h
    exact at0 hne fun a => .ret (fun _ => hne)
  · refine Tot.walk (body := fun k => Name32.l0 k s) (bytesOf s) (fun (_ : Unit) i => ((), i, bytesOf s)) (fun _ => True) _ (fun i x b hx _ => ?_) (fun b _ => ?_) (b := ()) trivial
    · have hi := get_lt hx
      simp only [Name32.l0]
      refine .cnd (fun _ => .val (rd_some' hx) (.val (rd_some' hx) (.cnd (fun _ => .ret trivial) (fun _ => .ret ⟨(), ?_, trivial⟩)))) (fun h => absurd (of_decide_eq_false h) (by omega))
      rw [w64_id (by omega) (by omega)]
    · simp only [Name32.l0]
      exact .cnd (fun h => absurd (of_decide_eq_true h) (by omega)) (fun _ => .ret trivial)
theorem size_t (m : Int) : Tot (fun k => Size33 k m) (fun _ => True) := by unfold Size33; repeat' (first | with_reducible exact Tot.ret trivial | with_reducible refine Tot.cnd ?_ ?_ | with_reducible refine Tot.bindT ?_ ?_ | with_reducible refine Tot.prodT ?_ | intro _ | (dsimp only))
theorem operand_t {l : List Cyc} (h : Wcyc l) : Tot (fun k => operand37 k l) (fun _ => True) := by
  have hl := h.1
  unfold operand37
  refine .bindT ?_ fun _ => .ret trivial
  refine Tot.walk (body := fun k => operand37.l0 k l) l (fun (n : Int) i => (n, i)) (fun _ => True) _ (fun i x b hx _ => ?_) (fun b _ => ?_) (b := 0) trivial
  · have hi := get_lt hx
    simp only [operand37.l0]
    refine .cnd (fun _ => .val (rd_some' hx) (.bindT (.cnd (fun _ => .ret trivial) (fun _ => .ret trivial)) fun n => .ret ⟨n, ?_, trivial⟩)) (fun h => absurd (of_decide_eq_false h) (by omega))
    rw [w64_id (by omega) (by omega)]
  · simp only [operand37.l0]
    exact .cnd (fun h => absurd (of_decide_eq_true h) (by omega)) (fun _ => .ret trivial)
theorem there_t {s : List Ins} (h : s.length * 56 ≤ 140737488351232) (f : Ins) : Tot (fun k => ContainsFunc34 k s (f, ())) (fun _ => True) := by
  unfold ContainsFunc34 IndexFunc42
  refine .bindT (.joinT ?_ (fun _ => .ret trivial)) fun _ => .ret trivial
  refine Tot.walk (body := fun k => IndexFunc42.l0 k s) s (fun (_ : Unit) i => ((f, ()), i)) (fun _ => True) _ (fun i x b hx _ => ?_) (fun b _ => ?_) (b := ()) trivial
  · have hi := get_lt hx
    simp only [IndexFunc42.l0]
    refine .cnd (fun _ => .val (rd_some' hx) (.bindT (by unfold Check135; exact .ret trivial) fun v => .cnd (fun _ => .ret trivial) (fun _ => .ret ⟨(), ?_, trivial⟩))) (fun h => absurd (of_decide_eq_false h) (by omega))
    rw [w64_id (by omega) (by omega)]
  · simp only [IndexFunc42.l0]
    exact .cnd (fun h => absurd (of_decide_eq_true h) (by omega)) (fun _ => .ret trivial)
theorem size_in {m : Int} (h : 0 ≤ m ∧ m ≤ 8) : ∃ n : Nat, n ≤ 2 ∧ Ev (fun k => Size33 k m) ((n : Int), ()) ∧ rd ([0, 1, 1, 1, 2, 2, 2, 1, 1] : List Int) m = some (n : Int) := by
  have : m = 0 ∨ m = 1 ∨ m = 2 ∨ m = 3 ∨ m = 4 ∨ m = 5 ∨ m = 6 ∨ m = 7 ∨ m = 8 := by omega
  rcases this with rfl | rfl | rfl | rfl | rfl | rfl | rfl | rfl | rfl
  · exact ⟨0, by decide, .const rfl, rfl⟩
  · exact ⟨1, by decide, .const rfl, rfl⟩
  · exact ⟨1, by decide, .const rfl, rfl⟩
  · exact ⟨1, by decide, .const rfl, rfl⟩
  · exact ⟨2, by decide, .const rfl, rfl⟩
  · exact ⟨2, by decide, .const rfl, rfl⟩
  · exact ⟨2, by decide, .const rfl, rfl⟩
  · exact ⟨1, by decide, .const rfl, rfl⟩
  · exact ⟨1, by decide, .const rfl, rfl⟩
theorem size_out {m : Int} (h : ¬ (0 ≤ m ∧ m ≤ 8)) : Ev (fun k => Size33 k m) (-1, ()) := by
  have f : ∀ c : Int, 0 ≤ c ∧ c ≤ 8 → (m == c) = false := fun c hc => by simpa using (by omega : ¬ m = c)
  have h0 := f 0 (by decide)
  have h1 := f 1 (by decide)
  have h2 := f 2 (by decide)
  have h3 := f 3 (by decide)
  have h4 := f 4 (by decide)
  have h5 := f 5 (by decide)
  have h6 := f 6 (by decide)
  have h7 := f 7 (by decide)
  have h8 := f 8 (by decide)
  unfold Size33
  simp only [h0, h1, h2, h3, h4, h5, h6, h7, h8]
  exact .const rfl
theorem size_tt (m : Int) : Tot (fun k => Size33 k m) (fun v => 0 ≤ v.1 → 0 ≤ m ∧ m ≤ 8) := by
  by_cases h : 0 ≤ m ∧ m ≤ 8
  · obtain ⟨n, _, e, _⟩ := size_in h
    exact .of e fun _ => h
  · exact .of (size_out h) fun h => absurd h (by decide)
-- what a right step may be
def wd (i : Int) : Bool := cond (i == 7) true (i == 8)
def inR (i : Int) : Bool := cond (decide (i ≥ 0)) (decide (i < 9)) false
theorem inR_iff {i : Int} (h : inR i = true) : 0 ≤ i ∧ i < 9 := by
  unfold inR at h
  by_cases h0 : i ≥ 0
  · rw [decide_eq_true h0] at h
    exact ⟨h0, of_decide_eq_true h⟩
  · rw [decide_eq_false h0] at h; cases h
theorem wide_ev (i : Int) : Ev (fun k => Wide102 k i) (wd i, ()) := .now _
theorem reg_ev (i : Int) : Ev (fun k => register101 k i) (inR i, ()) := .now _
theorem Ev.two {α : Type} {c : Bool} {f g : Nat → Option α} {x y : α} (h1 : Ev f x) (h2 : Ev g y) : Ev (fun k => cond c (f k) (g k)) (cond c x y) := by
  cases c with
  | true => exact h1
  | false => exact h2
def fitsV (i need : Int) : Bool := cond (need == 0) (i == 0) (cond (need == 119) (cond (inR i) (wd i) false) (cond (need == 98) (cond (inR i) (!wd i) false) (inR i)))
theorem fits_ev (i need : Int) : Ev (fun k => fits139 k i need) (fitsV i need, ()) := by
  unfold fits139 fitsV
  cases need == 0 with
  | true => exact .now _
  | false =>
    cases need == 119 with
    | true =>
      refine .bind (a := cond (inR i) (wd i) false) ?_ (.now _)
      refine Ev.two ?_ (.now _)
      exact .bind (wide_ev i) (.now _)
    | false =>
      cases need == 98 with
      | true =>
        refine .bind (a := cond (inR i) (!wd i) false) ?_ (.now _)
        refine Ev.two ?_ (.now _)
        exact .bind (wide_ev i) (.now _)
      | false =>
        exact .now _
abbrev UsV := Int × Int × Bool × Unit
def mostV (d to : Int) (n : Bool) : Int := cond (!n) 0 (cond (cond (cond (d == 2) (inR to) false) (wd to) false) 65535 255)
structure Core (d to fr n : Int) (U : UsV) : Prop where
  hto : fitsV to U.1 = true
  hfr : fitsV fr U.2.1 = true
  same : U.1 = 115 → wd to = wd fr
  low : 0 ≤ n
  most : n ≤ mostV d to U.2.2.1
theorem core_t (d to fr n : Int) (U : UsV) (hu : Ev (fun k => uses138 k d) (U, ())) (h24 : d ≠ 24) : Tot (fun k => step103 k (d, to, fr, n)) (fun v => v.1 = 0 → Core d to fr n U) := by
  unfold step103
  refine .cnd (fun _ => .ret (by intro h; cases h)) fun _ => .cnd (fun h => absurd (by simpa using h) h24) fun _ => .bind (P := fun v => v = (U, ())) (.of hu rfl) fun u hu' => ?_
  subst hu'
  refine .bind (P := fun v => v = cond (d == 2) (inR to) false) (.of (Ev.two (.bind (reg_ev to) (.now _)) (.now _)) rfl) fun v hv => ?_
  subst hv
  refine .bind (P := fun v => v = cond (cond (d == 2) (inR to) false) (wd to) false) (.of (Ev.two (.bind (wide_ev to) (.now _)) (.now _)) rfl) fun v hv => ?_
  subst hv
  refine .bind (P := fun v => v = ((d, to, fr, n), cond (cond (cond (d == 2) (inR to) false) (wd to) false) 65535 255)) (.of ?_ rfl) fun v hv => ?_
  · cases cond (cond (d == 2) (inR to) false) (wd to) false with
    | true => exact .now _
    | false => exact .now _
  subst hv
  refine .bind (P := fun v => v = ((d, to, fr, n), mostV d to U.2.2.1)) (.of ?_ rfl) fun v hv => ?_
  · unfold mostV
    cases U.2.2.1 with
    | true => exact .now _
    | false => exact .now _
  subst hv
  refine .bind (P := fun v => v = (fitsV to U.1, ())) (.of (fits_ev to U.1) rfl) fun v hv => ?_
  subst hv
  refine .bind (P := fun v => v = cond (!fitsV to U.1) true (!fitsV fr U.2.1)) (.of (Ev.two (.now _) (.bind (fits_ev fr U.2.1) (.now _))) rfl) fun v hv => ?_
  subst hv
  refine .bind (P := fun v => v = cond (cond (!fitsV to U.1) true (!fitsV fr U.2.1)) true (cond (U.1 == 115) (xor true (wd to == wd fr)) false)) (.of (Ev.two (.now _) (.bind (Ev.two (.bind (wide_ev to) (.bind (wide_ev fr) (.now _))) (.now _)) (.now _))) rfl) fun v hv => ?_
  subst hv
  refine .cnd (fun _ => .ret (by intro h; cases h)) fun hc => .ret fun _ => ?_
  have orF : ∀ {a b : Bool}, cond a true b = false → a = false ∧ b = false := fun {a b} h => by cases a <;> cases b <;> first | exact ⟨rfl, rfl⟩ | cases h
  obtain ⟨hc, h1⟩ := orF hc
  obtain ⟨hc, h2⟩ := orF hc
  obtain ⟨hc, h3⟩ := orF hc
  obtain ⟨h4, h5⟩ := orF hc
  refine ⟨by simpa using h4, by simpa using h5, fun h => ?_, by have h : ¬ n < 0 := of_decide_eq_false h2; omega, by have h : ¬ n > mostV d to U.2.2.1 := of_decide_eq_false h1; omega⟩
  rw [h] at h3
  cases hx : wd to <;> cases hy : wd fr <;> rw [hx, hy] at h3 <;> first | rfl | cases h3
/-- a right step -/
structure OkS (s : Stp4) : Prop where
  d : 0 ≤ s.1 ∧ s.1 < 25
  to : s.1 ≠ 24 → 0 ≤ s.2.1 ∧ s.2.1 < 9
  fr : s.1 ≠ 24 → 0 ≤ s.2.2.1 ∧ s.2.2.1 < 9
  move : s.1 = 1 → wd s.2.1 = wd s.2.2.1
  lit : s.1 = 2 → 0 ≤ s.2.2.2 ∧ s.2.2.2 ≤ cond (wd s.2.1) 65535 255
  wb : s.1 = 18 ∨ s.1 = 19 ∨ s.1 = 22 ∨ s.1 = 23 → wd s.2.1 = true ∧ wd s.2.2.1 = false
  bw : s.1 = 20 ∨ s.1 = 21 → wd s.2.1 = false ∧ wd s.2.2.1 = true
theorem fitsV_in {i need : Int} (h : fitsV i need = true) : 0 ≤ i ∧ i < 9 := by
  unfold fitsV at h
  cases h0 : need == 0 with
  | true =>
    rw [h0] at h
    have : i = 0 := by simpa using h
    omega
  | false =>
    rw [h0] at h
    refine inR_iff ?_
    cases h1 : need == 119 <;> cases h2 : need == 98 <;> cases hr : inR i <;> rw [h1, h2, hr] at h <;> first | rfl | (simp at h; done)
theorem step_ok (s : Stp4) : Tot (fun k => step103 k s) (fun v => v.1 = 0 → OkS s) := by
  obtain ⟨d, to, fr, n⟩ := s
  by_cases hd : ¬ (0 ≤ d ∧ d < 25)
  · unfold step103
    refine .cnd (fun _ => .ret (by intro h; cases h)) fun h => ?_
    exfalso
    refine hd ?_
    by_cases h0 : d < 0
    · have : cond (decide (d < 0)) true (decide (d ≥ 25)) = true := by rw [decide_eq_true h0]; rfl
      rw [show ((d, to, fr, n) : Stp4).1 = d from rfl, this] at h; cases h
    · rw [show ((d, to, fr, n) : Stp4).1 = d from rfl, decide_eq_false h0] at h
      have h : ¬ d ≥ 25 := of_decide_eq_false h
      omega
  have hd : 0 ≤ d ∧ d < 25 := by omega
  by_cases h24 : d = 24
  · subst h24
    unfold step103
    refine .cnd (fun _ => .ret (by intro h; cases h)) fun _ => .cnd (fun _ => .cnd (fun _ => .ret (by intro h; cases h)) fun _ => .ret fun _ => ?_) (fun h => by cases h)
    exact ⟨hd, fun h => absurd rfl h, fun h => absurd rfl h, fun h => absurd h (by show ¬ (24 : Int) = 1; decide), fun h => absurd h (by show ¬ (24 : Int) = 2; decide), fun h => absurd h (by show ¬ ((24 : Int) = 18 ∨ (24 : Int) = 19 ∨ (24 : Int) = 22 ∨ (24 : Int) = 23); decide), fun h => absurd h (by show ¬ ((24 : Int) = 20 ∨ (24 : Int) = 21); decide)⟩
  have go : ∀ (U : UsV), Ev (fun k => uses138 k d) (U, ()) → (d = 1 → U.1 = 115) → (d = 2 → U.2.2.1 = true) → (d = 18 ∨ d = 19 ∨ d = 22 ∨ d = 23 → U.1 = 119 ∧ U.2.1 = 98) → (d = 20 ∨ d = 21 → U.1 = 98 ∧ U.2.1 = 119) → Tot (fun k => step103 k (d, to, fr, n)) (fun v => v.1 = 0 → OkS (d, to, fr, n)) := fun U hu g1 g2 g3 g4 => by
    refine (core_t d to fr n U hu h24).mono fun v hv h0 => ?_
    have c := hv h0
    have wF : ∀ {i : Int}, fitsV i 119 = true → wd i = true := fun {i} h => by
      have h : cond (inR i) (wd i) false = true := h
      cases hr : inR i <;> rw [hr] at h
      · cases h
      · exact h
    have bF : ∀ {i : Int}, fitsV i 98 = true → wd i = false := fun {i} h => by
      have h : cond (inR i) (!wd i) false = true := h
      cases hr : inR i <;> rw [hr] at h
      · cases h
      · simpa using h
    refine ⟨hd, fun _ => fitsV_in c.hto, fun _ => fitsV_in c.hfr, fun h => c.same (g1 h), fun h => ⟨c.low, ?_⟩, fun h => ?_, fun h => ?_⟩
    · have h : d = 2 := h
      have hm := c.most
      rw [g2 h, h] at hm
      have hm : n ≤ cond (cond (inR to) (wd to) false) 65535 255 := hm
      show n ≤ cond (wd to) 65535 255
      cases hr : inR to <;> cases hw : wd to <;> rw [hr, hw] at hm <;> simp at hm ⊢ <;> omega
    · obtain ⟨e1, e2⟩ := g3 h
      have h1 := c.hto
      have h2 := c.hfr
      rw [e1] at h1
      rw [e2] at h2
      exact ⟨wF h1, bF h2⟩
    · obtain ⟨e1, e2⟩ := g4 h
      have h1 := c.hto
      have h2 := c.hfr
      rw [e1] at h1
      rw [e2] at h2
      exact ⟨bF h1, wF h2⟩
  have hh : d = 0 ∨ d = 1 ∨ d = 2 ∨ d = 3 ∨ d = 4 ∨ d = 5 ∨ d = 6 ∨ d = 7 ∨ d = 8 ∨ d = 9 ∨ d = 10 ∨ d = 11 ∨ d = 12 ∨ d = 13 ∨ d = 14 ∨ d = 15 ∨ d = 16 ∨ d = 17 ∨ d = 18 ∨ d = 19 ∨ d = 20 ∨ d = 21 ∨ d = 22 ∨ d = 23 := by omega
  rcases hh with rfl | rfl | rfl | rfl | rfl | rfl | rfl | rfl | rfl | rfl | rfl | rfl | rfl | rfl | rfl | rfl | rfl | rfl | rfl | rfl | rfl | rfl | rfl | rfl
  · exact go (0, 0, false, ()) (.const rfl) (by decide) (by decide) (by decide) (by decide)
  · exact go (115, 115, false, ()) (.const rfl) (by decide) (by decide) (by decide) (by decide)
  · exact go (97, 0, true, ()) (.const rfl) (by decide) (by decide) (by decide) (by decide)
  · exact go (98, 0, false, ()) (.const rfl) (by decide) (by decide) (by decide) (by decide)
  · exact go (98, 98, false, ()) (.const rfl) (by decide) (by decide) (by decide) (by decide)
  · exact go (98, 98, false, ()) (.const rfl) (by decide) (by decide) (by decide) (by decide)
  · exact go (98, 98, false, ()) (.const rfl) (by decide) (by decide) (by decide) (by decide)
  · exact go (98, 98, false, ()) (.const rfl) (by decide) (by decide) (by decide) (by decide)
  · exact go (98, 98, false, ()) (.const rfl) (by decide) (by decide) (by decide) (by decide)
  · exact go (98, 98, false, ()) (.const rfl) (by decide) (by decide) (by decide) (by decide)
  · exact go (97, 0, false, ()) (.const rfl) (by decide) (by decide) (by decide) (by decide)
  · exact go (97, 0, false, ()) (.const rfl) (by decide) (by decide) (by decide) (by decide)
  · exact go (98, 0, false, ()) (.const rfl) (by decide) (by decide) (by decide) (by decide)
  · exact go (98, 0, false, ()) (.const rfl) (by decide) (by decide) (by decide) (by decide)
  · exact go (98, 0, false, ()) (.const rfl) (by decide) (by decide) (by decide) (by decide)
  · exact go (98, 0, false, ()) (.const rfl) (by decide) (by decide) (by decide) (by decide)
  · exact go (0, 0, true, ()) (.const rfl) (by decide) (by decide) (by decide) (by decide)
  · exact go (0, 0, true, ()) (.const rfl) (by decide) (by decide) (by decide) (by decide)
  · exact go (119, 98, false, ()) (.const rfl) (by decide) (by decide) (by decide) (by decide)
  · exact go (119, 98, false, ()) (.const rfl) (by decide) (by decide) (by decide) (by decide)
  · exact go (98, 119, false, ()) (.const rfl) (by decide) (by decide) (by decide) (by decide)
  · exact go (98, 119, false, ()) (.const rfl) (by decide) (by decide) (by decide) (by decide)
  · exact go (119, 98, false, ()) (.const rfl) (by decide) (by decide) (by decide) (by decide)
  · exact go (119, 98, false, ()) (.const rfl) (by decide) (by decide) (by decide) (by decide)
end Go.Proofs.YtcppmlgnceldmaaGreat.Fl

/- What right processors are. No program in sight. -/
set_option linter.unusedVariables false
set_option maxRecDepth 100000
noncomputable section
namespace Go.Proofs.YtcppmlgnceldmaaGreat.Fl
open Go Go.Proofs.YtcppmlgnceldmaaGreat.Gp

structure OkC (c : Cyc) : Prop where
  bus : 0 ≤ c.1 ∧ c.1 ≤ 2
  at' : 0 ≤ c.2.1 ∧ c.2.1 < 12
  reg : 0 ≤ c.2.2.1 ∧ c.2.2.1 < 9
  low : wd c.2.2.1 = false
  len : c.2.2.2.length ≤ 6
  steps : ∀ s ∈ c.2.2.2, OkS s
structure OkL (l : List Cyc) : Prop where
  len : l.length ≤ 8
  ok : ∀ c ∈ l, OkC c
theorem cycle_ok (c : Cyc) (hw : c.2.2.2.length * 32 ≤ 140737488351232) : Tot (fun k => cycle73 k c) (fun v => v.1 = 0 → OkC c) := by
  have orF : ∀ {a b : Bool}, cond a true b = false → a = false ∧ b = false := fun {a b} h => by cases a <;> cases b <;> first | exact ⟨rfl, rfl⟩ | cases h
  unfold cycle73
  refine .cnd (fun _ => .ret (by intro h; cases h)) fun hb => .cnd (fun _ => .ret (by intro h; cases h)) fun _ => ?_
  obtain ⟨b1, b2⟩ := orF hb
  have b1 := of_decide_eq_false b1
  have b2 := of_decide_eq_false b2
  refine .bind (P := fun v => v = cond (cond (decide (c.2.1 < 0)) true (decide (c.2.1 ≥ 12))) true (!inR c.2.2.1)) (.of (Ev.two (.now _) (.bind (reg_ev c.2.2.1) (.now _))) rfl) fun v hv => ?_
  subst hv
  refine .bind (P := fun v => v = cond (cond (cond (decide (c.2.1 < 0)) true (decide (c.2.1 ≥ 12))) true (!inR c.2.2.1)) true (wd c.2.2.1)) (.of (Ev.two (.now _) (.bind (wide_ev c.2.2.1) (.now _))) rfl) fun v hv => ?_
  subst hv
  refine .cnd (fun _ => .ret (by intro h; cases h)) fun h1 => .cnd (fun _ => .ret (by intro h; cases h)) fun h2 => ?_
  obtain ⟨h1, h3⟩ := orF h1
  obtain ⟨h1, h4⟩ := orF h1
  obtain ⟨h5, h6⟩ := orF h1
  have h5 := of_decide_eq_false h5
  have h6 := of_decide_eq_false h6
  have h2 := of_decide_eq_false h2
  have hr := inR_iff (i := c.2.2.1) (by simpa using h4)
  refine .join (P := fun y => match y with | .inl _ => ∀ s ∈ c.2.2.2, OkS s | .inr v => v.1 ≠ 0) ?_ (fun _ hs => .ret fun _ => ⟨by omega, by omega, hr, h3, by omega, hs⟩) (fun _ h h0 => absurd h0 h)
  refine Tot.walkI (body := fun k => cycle73.l0 k c) c.2.2.2 (fun (_ : Unit) i => i) (fun i _ => ∀ (j : Nat) s, j < i → c.2.2.2[j]? = some s → OkS s) _ (fun i x b hx hI => ?_) (fun b hI => ?_) (b := ()) (fun j x hj => absurd hj (Nat.not_lt_zero _))
  · have hi := get_lt hx
    simp only [cycle73.l0]
    refine .cnd (fun _ => .val (rd_some' hx) (.bind (step_ok x) fun v hv => .cnd (fun h => .ret (by simpa using h)) (fun h => .ret ⟨(), ?_, fun j s hj hs => ?_⟩))) (fun h => absurd (of_decide_eq_false h) (by omega))
    · rw [w64_id (by omega) (by omega)]
    · by_cases hji : j = i
      · subst hji
        rw [hx] at hs
        cases hs
        exact hv (by simpa using h)
      · exact hI j s (by omega) hs
  · simp only [cycle73.l0]
    refine .cnd (fun h => absurd (of_decide_eq_true h) (by omega)) (fun _ => .ret fun s hs => ?_)
    obtain ⟨j, hj⟩ := List.mem_iff_getElem?.1 hs
    exact hI j s (get_lt hj) hj
theorem cycs_ok {l : List Cyc} (h : Wcyc l) : Tot (fun k => cycles36 k l) (fun v => v.1 = 0 → OkL l) := by
  have hl := h.1
  unfold cycles36
  refine .cnd (fun _ => .ret (by intro h; cases h)) fun h8 => .join (P := fun y => match y with | .inl _ => ∀ s ∈ l, OkC s | .inr v => v.1 ≠ 0) ?_ (fun _ hs => .ret fun _ => ⟨by have := of_decide_eq_false h8; omega, hs⟩) (fun _ h h0 => absurd h0 h)
  refine Tot.walkI (body := fun k => cycles36.l0 k l) l (fun (_ : Unit) i => i) (fun i _ => ∀ (j : Nat) s, j < i → l[j]? = some s → OkC s) _ (fun i x b hx hI => ?_) (fun b hI => ?_) (b := ()) (fun j x hj => absurd hj (Nat.not_lt_zero _))
  · have hi := get_lt hx
    simp only [cycles36.l0]
    refine .cnd (fun _ => .val (rd_some' hx) (.bind (cycle_ok x (h.2 x (get_mem hx))) fun v hv => .cnd (fun h => .ret (by simpa using h)) (fun h => .ret ⟨(), ?_, fun j s hj hs => ?_⟩))) (fun h => absurd (of_decide_eq_false h) (by omega))
    · rw [w64_id (by omega) (by omega)]
    · by_cases hji : j = i
      · subst hji
        rw [hx] at hs
        cases hs
        exact hv (by simpa using h)
      · exact hI j s (by omega) hs
  · simp only [cycles36.l0]
    refine .cnd (fun h => absurd (of_decide_eq_true h) (by omega)) (fun _ => .ret fun s hs => ?_)
    obtain ⟨j, hj⟩ := List.mem_iff_getElem?.1 hs
    exact hI j s (get_lt hj) hj
/-- a right instruction -/
structure OkI (x : Ins) : Prop where
  op : 0 ≤ x.1 ∧ x.1 ≤ 255
  mode : 0 ≤ x.2.2.1 ∧ x.2.2.1 ≤ 8
  cyc : OkL x.2.2.2
theorem check_ok {c : Cpu} (hc : Wc c) (hn : Wn c) : Tot (fun k => Check8 k c) (fun v => v.1 = 0 → ∀ x ∈ c.2.1, OkI x) := by
  have hl := hc.len
  have orF : ∀ {a b : Bool}, cond a true b = false → a = false ∧ b = false := fun {a b} h => by cases a <;> cases b <;> first | exact ⟨rfl, rfl⟩ | cases h
  unfold Check8
  refine .bindT (name_t _ hn.1) fun _ => .cnd (fun _ => .ret (fun h => by cases h)) fun _ => .cnd (fun _ => .ret (fun h => by cases h)) fun _ => .join (P := fun y => match y with | .inl y => y = c ∧ ∀ x ∈ c.2.1, OkI x | .inr v => v.1 ≠ 0) ?_ (fun c2 h2 => ?_) (fun _ h h0 => absurd h0 h)
  · refine Tot.walkI (body := fun k => Check8.l0 k c) c.2.1 (fun (_ : Unit) i => (c, i)) (fun i _ => ∀ (j : Nat) x, j < i → c.2.1[j]? = some x → OkI x) _ (fun i x b hx hI => ?_) (fun b hI => ?_) (b := ()) (fun j x hj => absurd hj (Nat.not_lt_zero _))
    · have hi := get_lt hx
      have hm := get_mem hx
      simp only [Check8.l0]
      refine .cnd (fun _ => .val (rd_some' hx) (.cnd (fun _ => .ret (show (1 : Int) ≠ 0 by decide)) fun hop => .bindT (.cnd (fun h => ?_) (fun _ => .ret trivial)) fun _ => .cnd (fun _ => .ret (show (9 : Int) ≠ 0 by decide)) fun _ => .bindT (name_t _ (hn.2 x hm)) fun _ => .cnd (fun _ => .ret (show (15 : Int) ≠ 0 by decide)) fun _ => .bind (size_tt _) fun sz hsz => .cnd (fun _ => .ret (show (8 : Int) ≠ 0 by decide)) fun hneg =>
        .val (a := (c.2.1.take i).drop 0) (slc_ok (a := 0) (Nat.zero_le _) (by omega)) (.bindT (there_t (by rw [List.drop_zero, List.length_take]; omega) x) fun _ => .cnd (fun _ => .ret (show (5 : Int) ≠ 0 by decide)) fun _ => .bind (cycs_ok (hc.ins x hm)) fun cy hcy0 => .cnd (fun hcy => .ret (by simpa using hcy)) fun hcy => .bindT (operand_t (hc.ins x hm)) fun _ => .bindT (size_t _) fun _ => .cnd (fun _ => .ret (show (3 : Int) ≠ 0 by decide)) fun _ => .ret ⟨(), ?_, fun j y hj hy => ?_⟩))) (fun h => absurd (of_decide_eq_false h) (by omega))
      · have h := of_decide_eq_true h
        rw [w64_id (by omega) (by omega)]
        exact .read ⟨by omega, by omega⟩ fun a _ => .ret trivial
      · rw [w64_id (by omega) (by omega)]
      · by_cases hji : j = i
        · subst hji
          rw [hx] at hy
          cases hy
          have hg : ¬ sz.1 < 0 := of_decide_eq_false hneg
          obtain ⟨o1, o2⟩ := orF hop
          have o1 := of_decide_eq_false o1
          have o2 := of_decide_eq_false o2
          exact ⟨⟨by omega, by omega⟩, hsz (by omega), hcy0 (by simpa using hcy)⟩
        · exact hI j y (by omega) hy
    · simp only [Check8.l0]
      refine .cnd (fun h => absurd (of_decide_eq_true h) (by omega)) (fun _ => .ret ⟨rfl, fun x hx => ?_⟩)
      obtain ⟨j, hj⟩ := List.mem_iff_getElem?.1 hx
      exact hI j x (get_lt hj) hj
  · obtain ⟨h2, hmode⟩ := h2
    subst h2
    refine .join (P := fun y => match y with | .inl _ => True | .inr v => v.1 ≠ 0) ?_ (fun _ _ => .ret fun _ => hmode) (fun _ h h0 => absurd h0 h)
    refine Tot.walk (body := fun k => Check8.l1 k c2) [c2.2.2.1, c2.2.2.2.1, c2.2.2.2.2] (fun (_ : Unit) i => ((), i, [c2.2.2.1, c2.2.2.2.1, c2.2.2.2.2])) (fun _ => True) _ (fun i x b hx _ => ?_) (fun b _ => ?_) (b := ()) trivial
    · have hi : i < 3 := get_lt hx
      have hw : Wcyc x := by
        have hm := get_mem hx
        simp only [List.mem_cons, List.not_mem_nil, or_false] at hm
        rcases hm with rfl | rfl | rfl
        · exact hc.res
        · exact hc.irq
        · exact hc.nmi
      simp only [Check8.l1]
      refine .cnd (fun _ => .val (rd_some' hx) (.val (rd_some' hx) (.bindT (cycs_ok hw).any fun v => .cnd (fun hv => .ret (by simpa using hv)) (fun _ => .ret ⟨(), ?_, trivial⟩)))) (fun h => absurd (of_decide_eq_false h) (by show ¬ ¬ (i : Int) < ((3 : Nat) : Int); omega))
      rw [w64_id (by omega) (by omega)]
    · simp only [Check8.l1]
      exact .cnd (fun h => absurd (of_decide_eq_true h) (by show ¬ ((3 : Nat) : Int) < ((3 : Nat) : Int); omega)) (fun _ => .ret trivial)
/-- what both checks of a processor and a program say -/
structure OkP (c : Cpu) (code : Int × List Int × List (ByteArray × Int)) : Prop where
  ins : ∀ x ∈ c.2.1, OkI x
  len : code.2.1.length ≤ 65536
  base : 0 ≤ code.1 ∧ code.1 ≤ 65536 - (code.2.1.length : Int)
theorem fault_ok {c : Cpu} (hc : Wc c) (hn : Wn c) (code : Int × List Int × List (ByteArray × Int)) : ∃ e : Int, Ev (fun k => FlowFault17 k c code) (e, ()) ∧ Ev (fun k => Check20 k c code) (e, ()) ∧ (e = 0 → OkP c code) := by
  have orF : ∀ {a b : Bool}, cond a true b = false → a = false ∧ b = false := fun {a b} h => by cases a <;> cases b <;> first | exact ⟨rfl, rfl⟩ | cases h
  obtain ⟨v, hv, hp⟩ := check_ok hc hn
  unfold FlowFault17 Check20
  by_cases h0 : v.1 = 0
  · by_cases h1 : (code.2.1.length : Int) > 4096
    · exact ⟨2, .bind hv (.no (by rw [h0]; rfl) (.yes (decide_eq_true h1) (.now _))), .bind hv (.no (by rw [h0]; rfl) (.yes (decide_eq_true h1) (.now _))), fun h => by cases h⟩
    · have hw : w64 (65536 - (code.2.1.length : Int)) = 65536 - (code.2.1.length : Int) := w64_id (by omega) (by omega)
      cases hb : cond (decide (code.1 < 0)) true (decide (code.1 > (w64 (65536 - (code.2.1.length : Int))))) with
      | true => exact ⟨1, .bind hv (.no (by rw [h0]; rfl) (.no (decide_eq_false h1) (.yes rfl (.now _)))), .bind hv (.no (by rw [h0]; rfl) (.no (decide_eq_false h1) (.yes rfl (.now _)))), fun h => by cases h⟩
      | false =>
        refine ⟨0, .bind hv (.no (by rw [h0]; rfl) (.no (decide_eq_false h1) (.no rfl (.now _)))), .bind hv (.no (by rw [h0]; rfl) (.no (decide_eq_false h1) (.no rfl (.now _)))), fun _ => ⟨hp h0, by omega, ?_⟩⟩
        obtain ⟨b1, b2⟩ := orF hb
        have b1 := of_decide_eq_false b1
        have b2 := of_decide_eq_false b2
        rw [hw] at b2
        omega
  · exact ⟨v.1, .bind hv (.yes (bne_iff_ne.2 h0) (.now _)), .bind hv (.yes (bne_iff_ne.2 h0) (.now _)), fun h => absurd h h0⟩
end Go.Proofs.YtcppmlgnceldmaaGreat.Fl

/- What is known of registers: the program's. No program in sight. -/
set_option linter.unusedVariables false
set_option maxRecDepth 100000
noncomputable section
namespace Go.Proofs.YtcppmlgnceldmaaGreat.Fl
open Go Go.Proofs.YtcppmlgnceldmaaGreat.Gp

/-- what is known of each register: its two bytes -/
abbrev Rg := Nat → Option Nat × Option Nat
abbrev Nums := List (Int × Int)
abbrev Cod := Int × List Int × List (ByteArray × Int)
abbrev RunU := Cod × Nums × Unit
def eP : Option Nat → Int
  | none => -1
  | some n => (n : Int)
def wdN (i : Nat) : Bool := wd (i : Int)
def wholeA (A : Rg) (i : Nat) : Option Nat := if wdN i = true then (match (A i).1, (A i).2 with | some l, some h => some (l + 256 * h) | _, _ => none) else (A i).1
def putA (A : Rg) (i : Nat) (x : Option Nat × Option Nat) : Rg := fun j => if j = i then x else A j
def setA (A : Rg) (i : Nat) (v : Option Nat) : Rg := putA A i (v.map (· % 256), v.map (fun n => n / 256 % 256))
def addA (A : Rg) (i : Nat) (b : Int) : Rg := setA A i ((wholeA A i).map fun n => (((n : Int) + b) % 65536).toNat)
def By (v : Option Nat) : Prop := ∀ n, v = some n → n < 256
def Inv (A : Rg) : Prop := ∀ i, By (A i).1 ∧ By (A i).2
theorem by_none : By none := fun n h => by cases h
theorem by_mod {v : Option Nat} {f : Nat → Nat} : By (v.map fun n => f n % 256) := fun n h => by
  cases v with
  | none => cases h
  | some m => cases h; exact Nat.mod_lt _ (by decide)
theorem Inv.put {A : Rg} (h : Inv A) (i : Nat) {x : Option Nat × Option Nat} (h1 : By x.1) (h2 : By x.2) : Inv (putA A i x) := fun j => by
  unfold putA
  split
  · exact ⟨h1, h2⟩
  · exact h j
theorem Inv.set {A : Rg} (h : Inv A) (i : Nat) (v : Option Nat) : Inv (setA A i v) := h.put i (by_mod (f := fun n => n)) (by_mod (f := fun n => n / 256))
theorem Inv.add {A : Rg} (h : Inv A) (i : Nat) (b : Int) : Inv (addA A i b) := h.set i _
theorem whole_lt {A : Rg} (h : Inv A) {i n : Nat} (hn : wholeA A i = some n) : n < 65536 := by
  unfold wholeA at hn
  obtain ⟨h1, h2⟩ := h i
  split at hn
  · split at hn
    · rename_i l hh e1 e2
      cases hn
      have := h1 l e1
      have := h2 hh e2
      omega
    · cases hn
  · have := h1 n hn
    omega
theorem narrow_lt {A : Rg} (h : Inv A) {i n : Nat} (hw : wdN i = false) (hn : wholeA A i = some n) : n < 256 := by
  unfold wholeA at hn
  rw [if_neg (by rw [hw]; decide)] at hn
  exact (h i).1 n hn
/-- the program's registers -/
structure RelP (A : Rg) (r : Nums) : Prop where
  len : r.length = 9
  reg : ∀ i, i < 9 → r[i]? = some (eP (A i).1, if wdN i = true then eP (A i).2 else 0)
theorem RelP.put {A : Rg} {r : Nums} (h : RelP A r) {i : Nat} (hi : i < 9) {x : Option Nat × Option Nat} {y : Int × Int} (hy : y = (eP x.1, if wdN i = true then eP x.2 else 0)) : RelP (putA A i x) (r.set i y) := by
  refine ⟨by rw [List.length_set]; exact h.len, fun j hj => ?_⟩
  unfold putA
  by_cases hji : j = i
  · subst hji
    rw [if_pos rfl, List.getElem?_set_self (by rw [h.len]; exact hi), hy]
  · rw [if_neg hji, List.getElem?_set_ne (fun e => hji e.symm)]
    exact h.reg j hj
theorem shr8 {n : Nat} (h : n < 65536) : shrI .i64 ((n : Nat) : Int) 8 = ((n / 256 : Nat) : Int) := shrI_nat (j := 8) (by decide)
theorem low62_ev (n : Nat) (h : n < 65536) : Ev (fun k => Low70 k (n : Int) 62) ((n : Int), ()) := by
  unfold Low70
  refine .val (a := (62, ())) rfl (.val (a := shlI .i64 1 62) rfl (.now' ?_))
  have := ibits_low (n : Int) (j := 62) (by decide)
  have e : (2 : Nat) ^ 62 = 4611686018427387904 := by decide
  refine congrArg (fun x => (x, ())) (this.trans ?_)
  rw [e]; omega
theorem get_ev (n : Nat) (h : n < 65536) : Ev (fun k => Get123 k (n : Int) 8 8) (((n / 256 % 256 : Nat) : Int), ()) := by
  unfold Get123
  refine .val (a := ((8, 8, ()), ())) rfl (.bind (low62_ev n h) (.val (a := ((n / 256 : Nat) : Int)) ?_ (.bind (low8_ev _) (.now' ?_))))
  · rw [← shr8 h]; rfl
  · show (((n / 256 : Nat) : Int) % 256, ()) = _
    rw [Int.natCast_emod]; rfl
section
variable {A : Rg} {r : Nums} {c0 : Cod} {u : Unit} {o1 : List Int}
theorem reg_in {i : Nat} (hi : i < 9) : (if 0 ≤ (i : Int) ∧ (i : Int) < 9 then some () else none) = some () := if_pos ⟨by omega, by omega⟩
theorem whole_p (h : RelP A r) (hA : Inv A) {i : Nat} (hi : i < 9) : Ev (fun k => whole90 k () (i : Int) (c0, r, u) o1) (eP (wholeA A i), (c0, r, u), o1) := by
  have hr := h.reg i hi
  obtain ⟨b1, b2⟩ := hA i
  unfold whole90 wholeA
  refine .val (reg_in hi) (.val (rd_some' hr) ?_)
  cases h1 : (A i).1 with
  | none =>
    refine .bind (a := true) (.yes rfl (.now _)) (.yes rfl (.now' ?_))
    cases wdN i <;> rfl
  | some l =>
    have hl := b1 l h1
    have hne : (((l : Nat) : Int) == (-1)) = false := beq_false_of_ne (by omega)
    cases hw : wdN i with
    | false =>
      have hw' : wd (i : Int) = false := hw
      refine .bind (a := false) (.no hne (.bind (wide_ev _) (.now' (by rw [hw']; rfl)))) (.no rfl (.now' ?_))
      show (w64 ((l : Int) + (w64 (256 * 0))), _) = _
      rw [show w64 (256 * 0) = 0 from rfl, w64_id (by omega) (by omega), Int.add_zero]
      rfl
    | true =>
      have hw' : wd (i : Int) = true := hw
      cases h2 : (A i).2 with
      | none =>
        refine .bind (a := true) (.no hne (.bind (wide_ev _) (.now' (by rw [hw', if_pos rfl]; rfl)))) (.yes rfl (.now _))
      | some hh =>
        have hl2 := b2 hh h2
        refine .bind (a := false) (.no hne (.bind (wide_ev _) (.now' ?_))) (.no rfl (.now' ?_))
        · rw [hw', if_pos rfl]
          exact beq_false_of_ne (by show (hh : Int) ≠ -1; omega)
        · rw [if_pos rfl]
          show (w64 ((l : Int) + (w64 (256 * (hh : Int)))), _) = _
          rw [w64_id (x := 256 * (hh : Int)) (by omega) (by omega), w64_id (by omega) (by omega)]
          show ((l : Int) + 256 * (hh : Int), _) = (((l + 256 * hh : Nat) : Int), _)
          rw [Int.natCast_add, Int.natCast_mul]; rfl
theorem set_p (h : RelP A r) {i : Nat} (hi : i < 9) {v : Option Nat} (hv : ∀ n, v = some n → n < 65536) : ∃ r', RelP (setA A i v) r' ∧ Ev (fun k => set88' k () (i : Int) (eP v) (c0, r, u) o1) ((), (c0, r', u), o1) := by
  have hr := h.reg i hi
  unfold set88'
  cases v with
  | none =>
    refine ⟨r.set i (-1, if wdN i = true then -1 else 0), h.put hi ?_, ?_⟩
    · cases wdN i <;> rfl
    · refine .bind (a := wd (i : Int)) (.yes rfl (.bind (wide_ev _) (.now _))) ?_
      cases hw : wdN i with
      | true =>
        have hw' : wd (i : Int) = true := hw
        rw [hw']
        exact .bind (a := ((c0, r.set i (-1, -1), u), o1)) (.yes rfl (.val (reg_in hi) (.val (rd_some' hr) (.now' (by rw [Int.toNat_natCast]))))) (.now _)
      | false =>
        have hw' : wd (i : Int) = false := hw
        rw [hw']
        exact .bind (a := ((c0, r.set i (-1, 0), u), o1)) (.no rfl (.bind (a := ((c0, r.set i (-1, 0), u), o1)) (.yes rfl (.val (reg_in hi) (.val (rd_some' hr) (.now' (by rw [Int.toNat_natCast]))))) (.now _))) (.now _)
  | some n =>
    have hn := hv n rfl
    have hne : (((n : Nat) : Int) == (-1)) = false := beq_false_of_ne (by omega)
    have e8 : ((n : Int) % 256) = ((n % 256 : Nat) : Int) := by rw [Int.natCast_emod]; rfl
    refine ⟨r.set i ((n : Int) % 256, if wdN i = true then ((n / 256 % 256 : Nat) : Int) else 0), h.put hi ?_, ?_⟩
    · rw [e8]; rfl
    · refine .bind (a := false) (.no hne (.now _)) (.bind (a := ((c0, r.set i ((n : Int) % 256, if wdN i = true then ((n / 256 % 256 : Nat) : Int) else 0), u), o1)) (.no rfl (.bind (a := ((c0, r.set i ((n : Int) % 256, if wdN i = true then ((n / 256 % 256 : Nat) : Int) else 0), u), o1)) (.no hne (.bind (wide_ev _) (.bind (a := ((c0, r.set i ((n : Int) % 256, if wdN i = true then ((n / 256 % 256 : Nat) : Int) else 0), u), o1)) ?_ (.now _)))) (.now _))) (.now _))
      cases hw : wdN i with
      | true =>
        have hw' : wd (i : Int) = true := hw
        refine .yes hw' (.bind (low8_ev _) (.bind (get_ev n hn) (.val (reg_in hi) (.val (rd_some' hr) (.now' ?_)))))
        rw [Int.toNat_natCast]; rfl
      | false =>
        have hw' : wd (i : Int) = false := hw
        refine .no hw' (.bind (low8_ev _) (.val (reg_in hi) (.val (rd_some' hr) (.now' ?_))))
        rw [Int.toNat_natCast]; rfl
theorem add_p (h : RelP A r) (hA : Inv A) {i : Nat} (hi : i < 9) {b : Int} (hb : -70000 ≤ b ∧ b ≤ 70000) : ∃ r', RelP (addA A i b) r' ∧ Ev (fun k => add152 k () (i : Int) b (c0, r, u) o1) ((), (c0, r', u), o1) := by
  obtain ⟨r', h1, h2⟩ := set_p (c0 := c0) (u := u) (o1 := o1) h hi (v := (wholeA A i).map fun n => (((n : Int) + b) % 65536).toNat) (fun n hn => by
    cases hw : wholeA A i with
    | none => rw [hw] at hn; cases hn
    | some m => rw [hw] at hn; cases hn; show (((m : Int) + b) % 65536).toNat < 65536; omega)
  refine ⟨r', h1, ?_⟩
  unfold add152
  refine .bind (whole_p h hA hi) ?_
  cases hw : wholeA A i with
  | none =>
    rw [hw] at h2
    exact .bind (a := ((), -1, (c0, r, u), o1)) (.no rfl (.now _)) (.bind h2 (.now _))
  | some m =>
    have hm := whole_lt hA hw
    rw [hw] at h2
    have hne : ((eP (some m)) != (-1)) = true := bne_iff_ne.2 (by show (m : Int) ≠ -1; omega)
    refine .bind (a := ((), eP (some (((m : Int) + b) % 65536).toNat), (c0, r, u), o1)) (.yes hne (.bind (low16_ev _) (.now' ?_))) (.bind h2 (.now _))
    show ((), w64 ((m : Int) + b) % 65536, _) = ((), (((((m : Int) + b) % 65536).toNat : Nat) : Int), _)
    rw [w64_id (by omega) (by omega), Int.toNat_of_nonneg (by omega)]
end
end Go.Proofs.YtcppmlgnceldmaaGreat.Fl

/- What is known of registers: the program's bus and steps. No program in sight. -/
set_option linter.unusedVariables false
set_option maxRecDepth 100000
noncomputable section
namespace Go.Proofs.YtcppmlgnceldmaaGreat.Fl
open Go Go.Proofs.YtcppmlgnceldmaaGreat.Gp

/-- the byte of a program -/
def atI (code : Cod) (x : Int) : Option Nat := if 0 ≤ x ∧ code.1 ≤ x ∧ x < code.1 + (code.2.1.length : Int) then some (code.2.1.getD (x - code.1).toNat 0).toNat else none
structure OkD (code : Cod) : Prop where
  len : code.2.1.length ≤ 65536
  base : 0 ≤ code.1 ∧ code.1 ≤ 65536 - (code.2.1.length : Int)
  byte : ∀ x ∈ code.2.1, 0 ≤ x ∧ x < 256
theorem at_ev {code : Cod} (h : OkD code) {x : Int} (hx : -9223372036854775808 ≤ x ∧ x ≤ 9223372036854775807) : Ev (fun k => at87 k code x) (eP (atI code x), ()) := by
  obtain ⟨b0, b1⟩ := h.base
  have hl := h.len
  unfold at87 atI
  by_cases h0 : x ≥ 0
  · have hw : w64 (x - code.1) = x - code.1 := w64_id (by omega) (by omega)
    simp only [hw]
    by_cases h1 : code.1 ≤ x ∧ x < code.1 + (code.2.1.length : Int)
    · rw [if_pos ⟨h0, h1.1, h1.2⟩]
      have hg : code.2.1[(x - code.1).toNat]? = some (code.2.1.getD (x - code.1).toNat 0) := by
        rw [List.getD_eq_getElem?_getD, List.getElem?_eq_getElem (by omega)]; rfl
      have hb := h.byte _ (get_mem hg)
      refine .yes ?_ (.val (rd_at (i := (x - code.1).toNat) (by omega) hg) (.now' ?_))
      · rw [decide_eq_true h0, decide_eq_true (show x - code.1 ≥ 0 by omega)]
        exact decide_eq_true (by omega)
      · rw [w64_id (by omega) (by omega)]
        show (_, ()) = (((code.2.1.getD (x - code.1).toNat 0).toNat : Int), ())
        rw [Int.toNat_of_nonneg hb.1]
    · rw [if_neg (fun h => h1 h.2)]
      refine .no ?_ (.now _)
      rw [decide_eq_true h0]
      by_cases h2 : x - code.1 ≥ 0
      · rw [decide_eq_true h2]
        exact decide_eq_false (by omega)
      · rw [decide_eq_false h2]; rfl
  · rw [if_neg (fun h => h0 h.1)]
    refine .no ?_ (.now _)
    rw [decide_eq_false h0]; rfl
theorem at_lt {code : Cod} (h : OkD code) {x : Int} {n : Nat} (hn : atI code x = some n) : n < 256 := by
  have hl := h.len
  unfold atI at hn
  split at hn
  · cases hn
    rename_i hx
    have hg : code.2.1[(x - code.1).toNat]? = some (code.2.1.getD (x - code.1).toNat 0) := by
      rw [List.getD_eq_getElem?_getD, List.getElem?_eq_getElem (by omega)]; rfl
    have hb := h.byte _ (get_mem hg)
    omega
  · cases hn
theorem Ev.agr {α : Type} {f g : Nat → Option α} {v : α} (h1 : Ev f v) (h2 : Ev g v) : Ev (fun k => agree (f k) (g k)) v := by
  obtain ⟨a, h1⟩ := h1
  obtain ⟨b, h2⟩ := h2
  refine ⟨max a b, fun k hk => ?_⟩
  show agree (f k) (g k) = some v
  rw [h1 k (by omega), h2 k (by omega)]
  exact agree_self _
abbrev Psh := List (Option Nat)
def dataA (code : Cod) (A : Rg) (at_ : Int) : Option Nat := if at_ = 0 ∨ at_ = 1 then atI code (eP (wholeA A 7)) else none
def movA (A : Rg) (at_ : Int) : Rg := if at_ = 0 then addA A 7 1 else if at_ = 4 then addA A 3 (-1) else if at_ = 5 then addA A 3 1 else A
def busA (code : Cod) (A : Rg) (P : Psh) (c : Cyc) : Rg × Psh :=
  (if c.1 = 1 then setA (movA A c.2.1) c.2.2.1.toNat (dataA code A c.2.1) else movA A c.2.1, if c.1 = 2 ∧ c.2.1 = 4 then P ++ [wholeA A c.2.2.1.toNat] else P)
theorem eP_int {A : Rg} (h : Inv A) {i : Nat} : -9223372036854775808 ≤ eP (wholeA A i) ∧ eP (wholeA A i) ≤ 9223372036854775807 := by
  cases hw : wholeA A i with
  | none => exact ⟨by decide, by decide⟩
  | some n =>
    have := whole_lt h hw
    show -9223372036854775808 ≤ (n : Int) ∧ (n : Int) ≤ 9223372036854775807
    omega
theorem data_lt {code : Cod} (hd : OkD code) {A : Rg} {a : Int} {n : Nat} (hn : dataA code A a = some n) : n < 65536 := by
  unfold dataA at hn
  split at hn
  · have := at_lt hd hn; omega
  · cases hn
theorem Inv.mov {A : Rg} (h : Inv A) (a : Int) : Inv (movA A a) := by
  unfold movA
  split
  · exact h.add 7 1
  · split
    · exact h.add 3 (-1)
    · split
      · exact h.add 3 1
      · exact h
theorem Inv.bus {code : Cod} {A : Rg} (h : Inv A) (P : Psh) (c : Cyc) : Inv (busA code A P c).1 := by
  unfold busA
  show Inv (if c.1 = 1 then _ else _)
  split
  · exact (h.mov _).set _ _
  · exact h.mov _
section
variable {A : Rg} {r : Nums} {code : Cod} {u : Unit} {P : Psh}
theorem bus_p (hd : OkD code) (h : RelP A r) (hA : Inv A) {c : Cyc} (hc : OkC c) (hP : P.length ≤ 1000) : ∃ r', RelP (busA code A P c).1 r' ∧ Ev (fun k => bus124 k () c (code, r, u) (P.map eP)) ((), (code, r', u), (busA code A P c).2.map eP) := by
  obtain ⟨bus, at_, reg, steps⟩ := c
  have hreg : 0 ≤ reg ∧ reg < 9 := hc.reg
  obtain ⟨i, rfl⟩ : ∃ i : Nat, reg = (i : Int) := ⟨reg.toNat, by omega⟩
  have hi : i < 9 := by omega
  have hbus : 0 ≤ bus ∧ bus ≤ 2 := hc.bus
  have hat : 0 ≤ at_ ∧ at_ < 12 := hc.at'
  have w0 := whole_p (c0 := code) (u := u) (o1 := P.map eP) h hA hi
  have w7 := whole_p (c0 := code) (u := u) (o1 := P.map eP) h hA (i := 7) (by decide)
  have hat7 := at_ev hd (eP_int hA (i := 7))
  obtain ⟨ra, ha1, ha2⟩ := add_p (c0 := code) (u := u) (o1 := P.map eP) h hA (i := 7) (by decide) (b := 1) (by decide)
  obtain ⟨rb, hb1, hb2⟩ := add_p (c0 := code) (u := u) (o1 := P.map eP) h hA (i := 3) (by decide) (b := -1) (by decide)
  obtain ⟨rc, hc1, hc2⟩ := add_p (c0 := code) (u := u) (o1 := P.map eP) h hA (i := 3) (by decide) (b := 1) (by decide)
  have fin : ∀ r1, RelP (movA A at_) r1 → ∃ r', RelP (busA code A P (bus, at_, (i : Int), steps)).1 r' ∧ Ev (fun k => (Option.bind
    (cond (cond (bus == 2) (at_ == 4) false)
      ((if room (List.length (P.map eP) + List.length ([eP (wholeA A i)] : List Int)) 8 then some () else none).bind fun _ =>
      some ((), ((bus, at_, (i : Int), steps) : Cyc), ((code, r1, u) : RunU), (P.map eP ++ ([eP (wholeA A i)] : List Int))))
      (some ((), (bus, at_, (i : Int), steps), (code, r1, u), P.map eP)) : Option (Unit × (Cyc × (RunU × List Int)))) fun ((_, c_7, o0_7, o1_7) : (Unit × (Cyc × (RunU × List Int)))) =>
    Option.bind
      (cond (c_7.1 == 1)
        ((set88' k () c_7.2.2.1 (eP (dataA code A at_)) o0_7 o1_7).bind fun t79 =>
        some (t79.2.1, t79.2.2))
        (some (o0_7, o1_7)) : Option (RunU × List Int)) fun ((o0_8, o1_8) : (RunU × List Int)) =>
    some ((), o0_8, o1_8))) ((), (code, r', u), (busA code A P (bus, at_, (i : Int), steps)).2.map eP) := by
    intro r1 hr1
    have eB : busA code A P (bus, at_, (i : Int), steps) = (if bus = 1 then setA (movA A at_) i (dataA code A at_) else movA A at_, if bus = 2 ∧ at_ = 4 then P ++ [wholeA A i] else P) := by
      unfold busA
      show (if bus = 1 then setA (movA A at_) (i : Int).toNat (dataA code A at_) else movA A at_, if bus = 2 ∧ at_ = 4 then P ++ [wholeA A (i : Int).toNat] else P) = _
      rw [Int.toNat_natCast]
    rw [eB]
    by_cases h1 : bus = 1
    · subst h1
      obtain ⟨r2, g1, g2⟩ := set_p (c0 := code) (u := u) (o1 := P.map eP) hr1 hi (v := dataA code A at_) (fun n hn => data_lt hd hn)
      refine ⟨r2, by rw [if_pos rfl]; exact g1, .bind (a := ((), (1, at_, (i : Int), steps), (code, r1, u), P.map eP)) (.no rfl (.now _)) (.bind (a := ((code, r2, u), P.map eP)) (.yes rfl (.bind g2 (.now _))) (.now' ?_))⟩
      show ((), (code, r2, u), P.map eP) = ((), (code, r2, u), (if (1 : Int) = 2 ∧ at_ = 4 then P ++ [wholeA A i] else P).map eP)
      rw [if_neg (by omega)]
    · have hn1 : (bus == 1) = false := beq_false_of_ne h1
      refine ⟨r1, by rw [if_neg h1]; exact hr1, ?_⟩
      by_cases h2 : bus = 2 ∧ at_ = 4
      · rw [if_pos h2]
        refine .bind (a := ((), (bus, at_, (i : Int), steps), (code, r1, u), P.map eP ++ [eP (wholeA A i)])) (.yes (by rw [h2.1, h2.2]; rfl) (.val (a := ()) (if_pos (room_ok (by rw [List.length_map]; simp only [List.length_cons, List.length_nil]; omega))) (.now _))) (.bind (a := ((code, r1, u), P.map eP ++ [eP (wholeA A i)])) (.no hn1 (.now _)) (.now' ?_))
        rw [List.map_append]; rfl
      · rw [if_neg h2]
        refine .bind (a := ((), (bus, at_, (i : Int), steps), (code, r1, u), P.map eP)) (.no ?_ (.now _)) (.bind (a := ((code, r1, u), P.map eP)) (.no hn1 (.now _)) (.now _))
        by_cases hb2 : bus = 2
        · rw [hb2]; exact beq_false_of_ne (fun e => h2 ⟨hb2, e⟩)
        · rw [beq_false_of_ne hb2]; rfl
  unfold bus124
  by_cases h0 : at_ = 0
  · subst h0
    obtain ⟨r', g1, g2⟩ := fin ra ha1
    exact ⟨r', g1, .bind w0 (.bind (a := ((), (bus, 0, (i : Int), steps), eP (dataA code A 0), (code, ra, u), P.map eP)) (.yes rfl (.bind (a := ((), (bus, 0, (i : Int), steps), eP (atI code (eP (wholeA A 7))), (code, r, u), P.map eP)) (Ev.agr (.bind w7 (.bind hat7 (.now _))) (.bind w7 (.bind hat7 (.now _)))) (.bind ha2 (.now _)))) g2)⟩
  have n0 : (at_ == 0) = false := beq_false_of_ne h0
  by_cases h1 : at_ = 1
  · subst h1
    obtain ⟨r', g1, g2⟩ := fin r h
    exact ⟨r', g1, .bind w0 (.bind (a := ((), (bus, 1, (i : Int), steps), eP (dataA code A 1), (code, r, u), P.map eP)) (.no rfl (.bind (a := ((), (bus, 1, (i : Int), steps), eP (dataA code A 1), (code, r, u), P.map eP)) (.yes rfl (.bind (a := ((), (bus, 1, (i : Int), steps), eP (atI code (eP (wholeA A 7))), (code, r, u), P.map eP)) (Ev.agr (.bind w7 (.bind hat7 (.now _))) (.bind w7 (.bind hat7 (.now _)))) (.now _))) (.now _))) g2)⟩
  have n1 : (at_ == 1) = false := beq_false_of_ne h1
  have hdat : dataA code A at_ = none := if_neg (by omega)
  by_cases h4 : at_ = 4
  · subst h4
    obtain ⟨r', g1, g2⟩ := fin rb hb1
    exact ⟨r', g1, .bind w0 (.bind (a := ((), (bus, 4, (i : Int), steps), eP (dataA code A 4), (code, rb, u), P.map eP)) (.no rfl (.bind (a := ((), (bus, 4, (i : Int), steps), -1, (code, rb, u), P.map eP)) (.no rfl (.bind (a := ((), (bus, 4, (i : Int), steps), (code, rb, u), P.map eP)) (.yes rfl (.bind hb2 (.now _))) (.now _))) (.now _))) g2)⟩
  have n4 : (at_ == 4) = false := beq_false_of_ne h4
  by_cases h5 : at_ = 5
  · subst h5
    obtain ⟨r', g1, g2⟩ := fin rc hc1
    exact ⟨r', g1, .bind w0 (.bind (a := ((), (bus, 5, (i : Int), steps), eP (dataA code A 5), (code, rc, u), P.map eP)) (.no rfl (.bind (a := ((), (bus, 5, (i : Int), steps), -1, (code, rc, u), P.map eP)) (.no rfl (.bind (a := ((), (bus, 5, (i : Int), steps), (code, rc, u), P.map eP)) (.no rfl (.bind (a := ((), (bus, 5, (i : Int), steps), (code, rc, u), P.map eP)) (.yes rfl (.bind hc2 (.now _))) (.now _))) (.now _))) (.now _))) g2)⟩
  have n5 : (at_ == 5) = false := beq_false_of_ne h5
  have hmov : movA A at_ = A := by unfold movA; rw [if_neg h0, if_neg h4, if_neg h5]
  obtain ⟨r', g1, g2⟩ := fin r (by rw [hmov]; exact h)
  rw [hdat] at g2
  exact ⟨r', g1, .bind w0 (.bind (a := ((), (bus, at_, (i : Int), steps), -1, (code, r, u), P.map eP)) (.no n0 (.bind (a := ((), (bus, at_, (i : Int), steps), -1, (code, r, u), P.map eP)) (.no n1 (.bind (a := ((), (bus, at_, (i : Int), steps), (code, r, u), P.map eP)) (.no n4 (.bind (a := ((), (bus, at_, (i : Int), steps), (code, r, u), P.map eP)) (.no n5 (.now _)) (.now _))) (.now _))) (.now _))) g2)⟩
end
end Go.Proofs.YtcppmlgnceldmaaGreat.Fl

/- What is known of registers: the program's steps and ends. No program in sight. -/
set_option linter.unusedVariables false
set_option maxRecDepth 100000
noncomputable section
namespace Go.Proofs.YtcppmlgnceldmaaGreat.Fl
open Go Go.Proofs.YtcppmlgnceldmaaGreat.Gp

def sgn (n : Nat) : Int := if n ≥ 128 then (n : Int) - 256 else n
def stepA (A : Rg) (s : Stp4) : Rg :=
  if s.1 = 0 then A
  else if s.1 = 3 ∨ s.1 = 6 ∨ s.1 = 16 ∨ s.1 = 17 then setA A 4 none
  else if s.1 = 1 then putA A s.2.1.toNat (A s.2.2.1.toNat)
  else if s.1 = 2 then setA A s.2.1.toNat (some s.2.2.2.toNat)
  else if s.1 = 10 ∨ s.1 = 11 then (if wdN s.2.1.toNat = true then addA A s.2.1.toNat (if s.1 = 10 then 1 else -1) else setA (addA A s.2.1.toNat (if s.1 = 10 then 1 else -1)) 4 none)
  else if s.1 = 18 then putA A s.2.1.toNat ((A s.2.2.1.toNat).1, (A s.2.1.toNat).2)
  else if s.1 = 19 then putA A s.2.1.toNat ((A s.2.1.toNat).1, (A s.2.2.1.toNat).1)
  else if s.1 = 20 then putA A s.2.1.toNat ((A s.2.2.1.toNat).1, some 0)
  else if s.1 = 21 then putA A s.2.1.toNat ((A s.2.2.1.toNat).2, some 0)
  else if s.1 = 22 ∨ s.1 = 23 then (match wholeA A s.2.1.toNat, wholeA A s.2.2.1.toNat with
    | some _, some b => addA A s.2.1.toNat (if s.1 = 23 then sgn b else (b : Int))
    | _, _ => setA A s.2.1.toNat none)
  else setA (setA A s.2.1.toNat none) 4 none
theorem Inv.ite {c : Prop} [Decidable c] {a b : Rg} (h1 : Inv a) (h2 : Inv b) : Inv (if c then a else b) := by
  by_cases h : c
  · rw [if_pos h]; exact h1
  · rw [if_neg h]; exact h2
theorem Inv.step {A : Rg} (h : Inv A) (s : Stp4) : Inv (stepA A s) := by
  unfold stepA
  refine .ite h (.ite (h.set _ _) (.ite (h.put _ (h _).1 (h _).2) (.ite (h.set _ _) (.ite (.ite (h.add _ _) ((h.add _ _).set _ _)) (.ite (h.put _ (h _).1 (h _).2) (.ite (h.put _ (h _).1 (h _).1) (.ite (h.put _ (h _).1 (fun n hn => by cases hn; decide)) (.ite (h.put _ (h _).2 (fun n hn => by cases hn; decide)) (.ite ?_ ((h.set _ _).set _ _))))))))))
  cases wholeA A s.2.1.toNat with
  | none => exact h.set _ _
  | some a =>
    cases wholeA A s.2.2.1.toNat with
    | none => exact h.set _ _
    | some b => exact h.add _ _
theorem signed_ev {n : Nat} (h : n < 256) : Ev (fun k => Signed148 k (n : Int) 8) (sgn n, ()) := by
  unfold Signed148 sgn
  have e8 : (n : Int) % 256 = (n : Int) := by omega
  refine .val (a := (8, ())) rfl (.bind (low8_ev _) (.bind (a := decide (n ≥ 128)) (.yes rfl (.val (a := ((n / 128 : Nat) : Int)) ?_ (.now' ?_))) ?_))
  · show some (shrI .i64 ((n : Int) % 256) 7) = _
    rw [e8]
    exact congrArg some (shrI_nat (j := 7) (by decide))
  · by_cases h1 : n ≥ 128
    · rw [decide_eq_true h1, show n / 128 = 1 by omega]; rfl
    · rw [decide_eq_false h1, show n / 128 = 0 by omega]; rfl
  · by_cases h1 : n ≥ 128
    · rw [if_pos h1]
      refine .bind (a := (n : Int) - 256) (.yes (decide_eq_true h1) (.val (a := 256) rfl (.now' ?_))) (.now _)
      show w64 ((n : Int) % 256 - 256) = _
      rw [e8, w64_id (by omega) (by omega)]
    · rw [if_neg h1]
      refine .bind (a := (n : Int)) (.no (decide_eq_false h1) (.now' ?_)) (.now _)
      exact e8
section
variable {A : Rg} {r : Nums} {c0 : Cod} {u : Unit} {o1 : List Int}
theorem step_p (h : RelP A r) (hA : Inv A) {s : Stp4} (hs : OkS s) (h24 : s.1 ≠ 24) : ∃ r', RelP (stepA A s) r' ∧ Ev (fun k => step126 k () s (c0, r, u) o1) ((), (c0, r', u), o1) := by
  obtain ⟨d, to, fr, n⟩ := s
  have hto : 0 ≤ to ∧ to < 9 := hs.to h24
  have hfr : 0 ≤ fr ∧ fr < 9 := hs.fr h24
  obtain ⟨i, rfl⟩ : ∃ i : Nat, to = (i : Int) := ⟨to.toNat, by omega⟩
  obtain ⟨j, rfl⟩ : ∃ j : Nat, fr = (j : Int) := ⟨fr.toNat, by omega⟩
  have hi : i < 9 := by omega
  have hj : j < 9 := by omega
  have hd : 0 ≤ d ∧ d < 25 := hs.d
  have h24 : d ≠ 24 := h24
  have wt := whole_p (c0 := c0) (u := u) (o1 := o1) h hA hi
  have wf := whole_p (c0 := c0) (u := u) (o1 := o1) h hA hj
  have ri := h.reg i hi
  have rj := h.reg j hj
  have flag : ∀ {A1 : Rg} {r1 : Nums}, RelP A1 r1 → ∃ r', RelP (setA A1 4 none) r' ∧ Ev (fun k => set88' k () 4 (-1) (c0, r1, u) o1) ((), (c0, r', u), o1) := fun h1 => set_p (c0 := c0) (u := u) (o1 := o1) h1 (i := 4) (by decide) (v := none) (fun n hn => by cases hn)
  have unk : ∃ r', RelP (setA A i none) r' ∧ Ev (fun k => set88' k () (i : Int) (-1) (c0, r, u) o1) ((), (c0, r', u), o1) := set_p (c0 := c0) (u := u) (o1 := o1) h hi (v := none) (fun n hn => by cases hn)
  have hh : d = 0 ∨ d = 1 ∨ d = 2 ∨ d = 3 ∨ d = 4 ∨ d = 5 ∨ d = 6 ∨ d = 7 ∨ d = 8 ∨ d = 9 ∨ d = 10 ∨ d = 11 ∨ d = 12 ∨ d = 13 ∨ d = 14 ∨ d = 15 ∨ d = 16 ∨ d = 17 ∨ d = 18 ∨ d = 19 ∨ d = 20 ∨ d = 21 ∨ d = 22 ∨ d = 23 := by omega
  have dflt : ∃ r', RelP (setA (setA A i none) 4 none) r' ∧ Ev (fun k => (whole90 k () (i : Int) (c0, r, u) o1).bind fun t13 => (whole90 k () (j : Int) t13.2.1 t13.2.2).bind fun t19 => (set88' k () (i : Int) (-1) t19.2.1 t19.2.2).bind fun t27 => (set88' k () 4 (-1) t27.2.1 t27.2.2).bind fun t182 => (some ((), t182.2.1, t182.2.2) : Option (Unit × (RunU × List Int)))) ((), (c0, r', u), o1) := by
    obtain ⟨r1, g1, g2⟩ := unk
    obtain ⟨r2, g3, g4⟩ := flag g1
    exact ⟨r2, g3, .bind wt (.bind wf (.bind g2 (.bind g4 (.now _))))⟩
  rcases hh with rfl | rfl | rfl | rfl | rfl | rfl | rfl | rfl | rfl | rfl | rfl | rfl | rfl | rfl | rfl | rfl | rfl | rfl | rfl | rfl | rfl | rfl | rfl | rfl <;> simp only [step126, Int.reduceBEq, cond_true, cond_false, Option.bind_some, Option.bind_assoc]
  · exact ⟨r, h, .bind wt (.bind wf (.now _))⟩
  · have hw : wdN i = wdN j := hs.move rfl
    refine ⟨r.set i (eP (A j).1, if wdN j = true then eP (A j).2 else 0), h.put hi (x := A j) (by rw [hw]), .bind wt (.bind wf (.val (reg_in hj) (.val (rd_some' rj) (.val (reg_in hi) (.val (rd_some' ri) (.now' ?_))))))⟩
    rw [Int.toNat_natCast]
  · have hl : 0 ≤ n ∧ n ≤ cond (wd (i : Int)) 65535 255 := hs.lit rfl
    have hn : n < 65536 := by
      have := hl.2
      cases hw : wd (i : Int) <;> rw [hw] at this <;> simp at this <;> omega
    obtain ⟨r', g1, g2⟩ := set_p (c0 := c0) (u := u) (o1 := o1) h hi (v := some n.toNat) (fun m hm => by cases hm; omega)
    have en : eP (some n.toNat) = n := by show ((n.toNat : Nat) : Int) = n; omega
    rw [en] at g2
    exact ⟨r', g1, .bind wt (.bind wf (.bind g2 (.now _)))⟩
  · obtain ⟨r', g1, g2⟩ := flag h
    exact ⟨r', g1, .bind wt (.bind wf (.bind g2 (.now _)))⟩
  · exact dflt
  · exact dflt
  · obtain ⟨r', g1, g2⟩ := flag h
    exact ⟨r', g1, .bind wt (.bind wf (.bind g2 (.now _)))⟩
  · exact dflt
  · exact dflt
  · exact dflt
  · obtain ⟨r1, g1, g2⟩ := add_p (c0 := c0) (u := u) (o1 := o1) h hA hi (b := 1) (by decide)
    rw [show w64 (1 - w64 (2 * w64 (10 - 10))) = 1 by decide]
    show ∃ r', RelP (if wdN i = true then addA A i (1) else setA (addA A i (1)) 4 none) r' ∧ _
    cases hw : wdN i with
    | true =>
      have hw' : wd (i : Int) = true := hw
      exact ⟨r1, g1, .bind wt (.bind wf (.bind g2 (.bind (wide_ev _) (.bind (a := ((c0, r1, u), o1)) (.no (by rw [hw']; rfl) (.now _)) (.now _)))))⟩
    | false =>
      have hw' : wd (i : Int) = false := hw
      obtain ⟨r2, g3, g4⟩ := flag g1
      exact ⟨r2, g3, .bind wt (.bind wf (.bind g2 (.bind (wide_ev _) (.bind (a := ((c0, r2, u), o1)) (.yes (by rw [hw']; rfl) (.bind g4 (.now _))) (.now _)))))⟩
  · obtain ⟨r1, g1, g2⟩ := add_p (c0 := c0) (u := u) (o1 := o1) h hA hi (b := -1) (by decide)
    rw [show w64 (1 - w64 (2 * w64 (11 - 10))) = -1 by decide]
    show ∃ r', RelP (if wdN i = true then addA A i (-1) else setA (addA A i (-1)) 4 none) r' ∧ _
    cases hw : wdN i with
    | true =>
      have hw' : wd (i : Int) = true := hw
      exact ⟨r1, g1, .bind wt (.bind wf (.bind g2 (.bind (wide_ev _) (.bind (a := ((c0, r1, u), o1)) (.no (by rw [hw']; rfl) (.now _)) (.now _)))))⟩
    | false =>
      have hw' : wd (i : Int) = false := hw
      obtain ⟨r2, g3, g4⟩ := flag g1
      exact ⟨r2, g3, .bind wt (.bind wf (.bind g2 (.bind (wide_ev _) (.bind (a := ((c0, r2, u), o1)) (.yes (by rw [hw']; rfl) (.bind g4 (.now _))) (.now _)))))⟩
  · exact dflt
  · exact dflt
  · exact dflt
  · exact dflt
  · obtain ⟨r', g1, g2⟩ := flag h
    exact ⟨r', g1, .bind wt (.bind wf (.bind g2 (.now _)))⟩
  · obtain ⟨r', g1, g2⟩ := flag h
    exact ⟨r', g1, .bind wt (.bind wf (.bind g2 (.now _)))⟩
  · refine ⟨r.set i (eP (A j).1, if wdN i = true then eP (A i).2 else 0), h.put hi (x := ((A j).1, (A i).2)) rfl, .bind wt (.bind wf (.val (reg_in hj) (.val (rd_some' rj) (.val (reg_in hi) (.val (rd_some' ri) (.now' ?_))))))⟩
    rw [Int.toNat_natCast]
  · have hw : wdN i = true := (hs.wb (.inr (.inl rfl))).1
    refine ⟨r.set i (eP (A i).1, eP (A j).1), h.put hi (x := ((A i).1, (A j).1)) (by rw [if_pos hw]), .bind wt (.bind wf (.val (reg_in hj) (.val (rd_some' rj) (.val (reg_in hi) (.val (rd_some' ri) (.now' ?_))))))⟩
    rw [Int.toNat_natCast]
  · have hw : wdN i = false := (hs.bw (.inl rfl)).1
    refine ⟨r.set i (eP (A j).1, 0), h.put hi (x := ((A j).1, some 0)) (by rw [if_neg (by rw [hw]; decide)]), .bind wt (.bind wf (.val (reg_in hj) (.val (rd_some' rj) (.val (reg_in hi) (.val (rd_some' ri) (.now' ?_))))))⟩
    rw [Int.toNat_natCast]
  · have hw : wdN i = false := (hs.bw (.inr rfl)).1
    have hw2 : wdN j = true := (hs.bw (.inr rfl)).2
    refine ⟨r.set i (eP (A j).2, 0), h.put hi (x := ((A j).2, some 0)) (by rw [if_neg (by rw [hw]; decide)]), .bind wt (.bind wf (.val (reg_in hj) (.val (rd_some' rj) (.val (reg_in hi) (.val (rd_some' ri) (.now' ?_))))))⟩
    rw [Int.toNat_natCast, if_pos hw2]
  · have hw2 : wdN j = false := (hs.wb (.inr (.inr (.inl rfl)))).2
    show ∃ r', RelP (match wholeA A i, wholeA A j with | some _, some b => addA A i (b : Int) | _, _ => setA A i none) r' ∧ _
    cases hti : wholeA A i with
    | none =>
      rw [hti] at wt
      obtain ⟨r', g1, g2⟩ := unk
      refine ⟨r', g1, .bind wt (.bind wf (.bind (a := ((), (c0, r', u), o1)) (.yes ?_ (.bind g2 (.now _))) (.now _)))⟩
      show cond (eP (wholeA A j) == -1) true true = true
      cases eP (wholeA A j) == -1 <;> rfl
    | some a =>
      rw [hti] at wt
      cases htj : wholeA A j with
      | none =>
        rw [htj] at wf
        obtain ⟨r', g1, g2⟩ := unk
        exact ⟨r', g1, .bind wt (.bind wf (.bind (a := ((), (c0, r', u), o1)) (.yes rfl (.bind g2 (.now _))) (.now _)))⟩
      | some b =>
        rw [htj] at wf
        have hb := narrow_lt hA hw2 htj
        obtain ⟨r', g1, g2⟩ := add_p (c0 := c0) (u := u) (o1 := o1) h hA hi (b := (b : Int)) ⟨by omega, by omega⟩
        refine ⟨r', g1, .bind wt (.bind wf (.bind (a := ((), (c0, r', u), o1)) (.no ?_ (.bind g2 (.now _))) (.now _)))⟩
        show cond (((b : Nat) : Int) == -1) true (((a : Nat) : Int) == -1) = false
        rw [beq_false_of_ne (by omega)]
        exact beq_false_of_ne (by omega)
  · have hw2 : wdN j = false := (hs.wb (.inr (.inr (.inr rfl)))).2
    show ∃ r', RelP (match wholeA A i, wholeA A j with | some _, some b => addA A i (sgn b) | _, _ => setA A i none) r' ∧ _
    cases htj : wholeA A j with
    | none =>
      rw [htj] at wf
      obtain ⟨r', g1, g2⟩ := unk
      have e : (match wholeA A i, (none : Option Nat) with | some _, some b => addA A i (sgn b) | _, _ => setA A i none) = setA A i none := by cases wholeA A i <;> rfl
      rw [e]
      exact ⟨r', g1, .bind wt (.bind wf (.bind (a := ((), (23, (i : Int), (j : Int), n), -1, (c0, r, u), o1)) (.no rfl (.now _)) (.bind (a := ((), (c0, r', u), o1)) (.yes rfl (.bind g2 (.now _))) (.now _))))⟩
    | some b =>
      rw [htj] at wf
      have hb := narrow_lt hA hw2 htj
      have hne : (((b : Nat) : Int) == -1) = false := beq_false_of_ne (by omega)
      have hne2 : (((b : Nat) : Int) != -1) = true := bne_iff_ne.2 (by omega)
      cases hti : wholeA A i with
      | none =>
        rw [hti] at wt
        obtain ⟨r', g1, g2⟩ := unk
        refine ⟨r', g1, .bind wt (.bind wf (.bind (a := ((), (23, (i : Int), (j : Int), n), sgn b, (c0, r, u), o1)) (.yes hne2 (.bind (signed_ev hb) (.now _))) (.bind (a := ((), (c0, r', u), o1)) (.yes ?_ (.bind g2 (.now _))) (.now _))))⟩
        show cond (((b : Nat) : Int) == -1) true true = true
        rw [hne]; rfl
      | some a =>
        rw [hti] at wt
        obtain ⟨r', g1, g2⟩ := add_p (c0 := c0) (u := u) (o1 := o1) h hA hi (b := sgn b) (by unfold sgn; split <;> omega)
        refine ⟨r', g1, .bind wt (.bind wf (.bind (a := ((), (23, (i : Int), (j : Int), n), sgn b, (c0, r, u), o1)) (.yes hne2 (.bind (signed_ev hb) (.now _))) (.bind (a := ((), (c0, r', u), o1)) (.no ?_ (.bind g2 (.now _))) (.now _))))⟩
        show cond (((b : Nat) : Int) == -1) true (((a : Nat) : Int) == -1) = false
        rw [hne]
        exact beq_false_of_ne (by omega)
end
end Go.Proofs.YtcppmlgnceldmaaGreat.Fl

/- What is known of registers: the program's ends of an instruction. No program in sight. -/
set_option linter.unusedVariables false
set_option maxRecDepth 100000
noncomputable section
namespace Go.Proofs.YtcppmlgnceldmaaGreat.Fl
open Go Go.Proofs.YtcppmlgnceldmaaGreat.Gp

theorem Lp.countI {β S R : Type} {body : Nat → S → Option (S ⊕ R)} (n : Nat) (st : β → Int → S) (fin : β → R) (Inv : Nat → β → Prop)
    (hs : ∀ i b, i < n → Inv i b → ∃ b', Inv (i + 1) b' ∧ Ev (fun k => body k (st b (i : Int))) (.inl (st b' ((i + 1 : Nat) : Int)))) (hd : ∀ b, Inv n b → Ev (fun k => body k (st b (n : Int))) (.inr (fin b))) {b : β} (h0 : Inv 0 b) : ∃ b', Inv n b' ∧ Gp.Lp body (st b 0) (fin b') := by
  have key : ∀ (d i : Nat) (b : β), i + d = n → Inv i b → ∃ b', Inv n b' ∧ Gp.Lp body (st b (i : Int)) (fin b') := by
    intro d
    induction d with
    | zero =>
      intro i b h hi
      have : i = n := by omega
      subst this
      exact ⟨b, hi, .done (hd b hi)⟩
    | succ d ih =>
      intro i b h hi
      obtain ⟨b1, h1, e1⟩ := hs i b (by omega) hi
      obtain ⟨b2, h2, e2⟩ := ih (i + 1) b1 (by omega) h1
      exact ⟨b2, h2, .step e1 e2⟩
  exact key n 0 b (by omega) h0
/-- two lists, place by place -/
structure All2 {α β : Type} (R : α → β → Prop) (l : List α) (m : List β) : Prop where
  len : m.length = l.length
  at' : ∀ (j : Nat) a b, l[j]? = some a → m[j]? = some b → R a b
theorem All2.nil {α β : Type} {R : α → β → Prop} : All2 R ([] : List α) ([] : List β) := ⟨rfl, fun j a b h => by simp at h⟩
theorem All2.snoc {α β : Type} {R : α → β → Prop} {l : List α} {m : List β} (h : All2 R l m) {a : α} {b : β} (hr : R a b) : All2 R (l ++ [a]) (m ++ [b]) := by
  refine ⟨by simp [h.len], fun j x y hx hy => ?_⟩
  by_cases hj : j < l.length
  · rw [List.getElem?_append_left hj] at hx
    rw [List.getElem?_append_left (by rw [h.len]; exact hj)] at hy
    exact h.at' j x y hx hy
  · have hjl := get_lt hx
    rw [List.length_append, List.length_singleton] at hjl
    have : j = l.length := by omega
    subst this
    rw [List.getElem?_append_right (Nat.le_refl _), Nat.sub_self] at hx
    rw [List.getElem?_append_right (by rw [h.len]; exact Nat.le_refl _), h.len, Nat.sub_self] at hy
    cases hx
    cases hy
    exact hr
abbrev End := Rg × Psh
abbrev Ab := Rg × Psh × List End
def stA (b : Ab) (s : Stp4) : Ab := if s.1 = 24 then (b.1, b.2.1, b.2.2 ++ [(b.1, b.2.1)]) else (stepA b.1 s, b.2.1, b.2.2)
def cyB (code : Cod) (b : Ab) (c : Cyc) : Ab := if c.1 ≠ 0 then ((busA code b.1 b.2.1 c).1, (busA code b.1 b.2.1 c).2, b.2.2) else b
def cyA (code : Cod) (b : Ab) (c : Cyc) : Ab := c.2.2.2.foldl stA (cyB code b c)
def runA (code : Cod) (l : List Cyc) (A : Rg) : Ab := l.foldl (cyA code) (A, [], [])
def endsA (code : Cod) (l : List Cyc) (A : Rg) : List End := (runA code l A).2.2 ++ [((runA code l A).1, (runA code l A).2.1)]
/-- what stands in an abstract state -/
structure OkB (n : Nat) (b : Ab) : Prop where
  inv : Inv b.1
  psh : b.2.1.length ≤ n
  len : b.2.2.length ≤ 6 * n
  all : ∀ e ∈ b.2.2, Inv e.1 ∧ e.2.length ≤ 1000
theorem steps_ok {n m : Nat} (hn : n ≤ 100) (hm : m ≤ 6) : ∀ (l : List Stp4) (b : Ab), b.2.1.length ≤ n + 1 → b.2.2.length + l.length ≤ 6 * n + m → Inv b.1 → (∀ e ∈ b.2.2, Inv e.1 ∧ e.2.length ≤ 1000) → (l.foldl stA b).2.1.length ≤ n + 1 ∧ (l.foldl stA b).2.2.length ≤ 6 * n + m ∧ Inv (l.foldl stA b).1 ∧ ∀ e ∈ (l.foldl stA b).2.2, Inv e.1 ∧ e.2.length ≤ 1000 := by
  intro l
  induction l with
  | nil => intro b h1 h2 h3 h4; exact ⟨h1, by simpa using h2, h3, h4⟩
  | cons s l ih =>
    intro b h1 h2 h3 h4
    rw [List.foldl_cons]
    rw [List.length_cons] at h2
    unfold stA
    by_cases hs : s.1 = 24
    · rw [if_pos hs]
      refine ih _ h1 (by show (b.2.2 ++ [_]).length + _ ≤ _; rw [List.length_append, List.length_singleton]; omega) h3 (fun e he => ?_)
      rcases List.mem_append.1 he with he | he
      · exact h4 e he
      · have : e = (b.1, b.2.1) := by simpa using he
        rw [this]; exact ⟨h3, by show b.2.1.length ≤ 1000; omega⟩
    · rw [if_neg hs]
      exact ih _ h1 (by show b.2.2.length + _ ≤ _; omega) (h3.step s) h4
theorem cyB_ok {code : Cod} {n : Nat} {b : Ab} (h : OkB n b) (c : Cyc) : (cyB code b c).2.1.length ≤ n + 1 ∧ (cyB code b c).2.2 = b.2.2 ∧ Inv (cyB code b c).1 := by
  unfold cyB
  split
  · refine ⟨?_, rfl, h.inv.bus b.2.1 c⟩
    show (if c.1 = 2 ∧ c.2.1 = 4 then b.2.1 ++ [wholeA b.1 c.2.2.1.toNat] else b.2.1).length ≤ n + 1
    have := h.psh
    split
    · rw [List.length_append, List.length_singleton]; omega
    · omega
  · exact ⟨by have := h.psh; omega, rfl, h.inv⟩
theorem OkB.cyc {code : Cod} {n : Nat} {b : Ab} (hn : n ≤ 100) (h : OkB n b) {c : Cyc} (hc : OkC c) : OkB (n + 1) (cyA code b c) := by
  obtain ⟨h1, h2, h3⟩ := cyB_ok (code := code) h c
  have hl := h.len
  have hcl := hc.len
  obtain ⟨g1, g2, g3, g4⟩ := steps_ok (n := n) (m := 6) hn (Nat.le_refl _) c.2.2.2 (cyB code b c) h1 (by rw [h2]; omega) h3 (by rw [h2]; exact h.all)
  exact ⟨g3, g1, by unfold cyA; omega, g4⟩
theorem OkB.run {code : Cod} : ∀ (l : List Cyc) {n : Nat} {b : Ab}, n + l.length ≤ 100 → OkB n b → (∀ c ∈ l, OkC c) → OkB (n + l.length) (l.foldl (cyA code) b)
  | [], n, b, _, h, _ => h
  | c :: l, n, b, hn, h, hc => by
    rw [List.length_cons] at hn
    rw [List.foldl_cons, List.length_cons, show n + (l.length + 1) = n + 1 + l.length by omega]
    exact OkB.run l (by omega) (OkB.cyc (by omega) h (hc c List.mem_cons_self)) (fun x hx => hc x (List.mem_cons_of_mem _ hx))
theorem okB0 {A : Rg} (h : Inv A) : OkB 0 (A, [], []) := ⟨h, Nat.le_refl _, Nat.le_refl _, fun e he => by cases he⟩
theorem run_okB {code : Cod} {l : List Cyc} (hl : OkL l) {A : Rg} (h : Inv A) : OkB l.length (runA code l A) := by
  have := OkB.run (code := code) l (n := 0) (by have := hl.len; omega) (okB0 h) hl.ok
  rwa [Nat.zero_add] at this
theorem ends_ok {code : Cod} {l : List Cyc} (hl : OkL l) {A : Rg} (h : Inv A) : (endsA code l A).length ≤ 60 ∧ ∀ e ∈ endsA code l A, Inv e.1 ∧ e.2.length ≤ 1000 := by
  have hb := run_okB (code := code) hl h
  have h8 := hl.len
  have h1 := hb.len
  have h2 := hb.psh
  unfold endsA
  refine ⟨by rw [List.length_append, List.length_singleton]; omega, fun e he => ?_⟩
  rcases List.mem_append.1 he with he | he
  · exact hb.all e he
  · have : e = ((runA code l A).1, (runA code l A).2.1) := by simpa using he
    rw [this]
    exact ⟨hb.inv, by show (runA code l A).2.1.length ≤ 1000; omega⟩
abbrev Rn := Cod × Nums × List Int
def RelE (e : End) (y : Rn) : Prop := RelP e.1 y.2.1 ∧ y.2.2 = e.2.map eP
abbrev Bp := Nums × List Int × List Rn
structure RelB (b : Ab) (y : Bp) : Prop where
  reg : RelP b.1 y.1
  psh : y.2.1 = b.2.1.map eP
  out : All2 RelE b.2.2 y.2.2
theorem clone125_ev (s : List Int) (h : s.length ≤ 1000) : Ev (fun k => Clone125 k s) ((), s) := by
  unfold Clone125
  have e : (if room (0 + List.length s) 8 then some () else none : Option Unit) = some () := if_pos (room_ok (by omega))
  refine Ev.const ?_
  rw [orNil_same (fun h0 => ?_)]
  · show Option.bind _ _ = _
    rw [e]; rfl
  · have := List.length_eq_zero_iff.1 h0
    subst this
    rw [e]; rfl
theorem steps_p {code : Cod} {n : Nat} (hn : n ≤ 100) {c : Cyc} (hc : OkC c) {b : Ab} (h1 : b.2.1.length ≤ n + 1) (h2 : b.2.2.length ≤ 6 * n) (h3 : Inv b.1) (h4 : ∀ e ∈ b.2.2, Inv e.1 ∧ e.2.length ≤ 1000) {y : Bp} (hy : RelB b y) :
    ∃ y', RelB (c.2.2.2.foldl stA b) y' ∧ Gp.Lp (fun k => ends89.l0 k c) ((), (), 0, (code, y.1, ()), y.2.1, y.2.2) ((), (), (code, y'.1, ()), y'.2.1, y'.2.2) := by
  have hcl := hc.len
  obtain ⟨y', hy', e⟩ := Lp.countI (body := fun k => ends89.l0 k c) c.2.2.2.length (fun (y : Bp) i => ((), (), i, (code, y.1, ()), y.2.1, y.2.2)) (fun y => ((), (), (code, y.1, ()), y.2.1, y.2.2))
    (fun i y => RelB ((c.2.2.2.take i).foldl stA b) y)
    (fun i y hi hy => by
      have hx : c.2.2.2[i]? = some c.2.2.2[i] := List.getElem?_eq_getElem hi
      have hs := hc.steps _ (get_mem hx)
      generalize c.2.2.2[i] = s at hx hs
      have htk : (c.2.2.2.take i).length ≤ 6 := by rw [List.length_take]; omega
      obtain ⟨g1, g2, g3, g4⟩ := steps_ok (n := n) (m := 6) hn (Nat.le_refl _) (c.2.2.2.take i) b h1 (by omega) h3 h4
      rw [List.take_add_one, hx, Option.toList_some, List.foldl_append]
      show ∃ y', RelB (stA ((c.2.2.2.take i).foldl stA b) s) y' ∧ _
      generalize (c.2.2.2.take i).foldl stA b = B at hy g1 g2 g3 g4
      have hol := hy.out.len
      have hpl : y.2.1.length ≤ 1000 := by rw [hy.psh, List.length_map]; omega
      unfold stA
      simp only [ends89.l0]
      by_cases h24 : s.1 = 24
      · rw [if_pos h24]
        refine ⟨(y.1, y.2.1, y.2.2 ++ [((0, [], []), y.1, y.2.1)]), ⟨hy.reg, hy.psh, hy.out.snoc ⟨hy.reg, hy.psh⟩⟩, .yes (decide_eq_true (by omega)) (.bind (a := ((), (), (code, y.1, ()), y.2.1, y.2.2 ++ [((0, [], []), y.1, y.2.1)])) (.val (rd_some' hx) (.yes (by rw [h24]; rfl) (.bind (clone125_ev _ hpl) (.val (a := ()) (if_pos (room_ok (by simp only [List.length_cons, List.length_nil]; omega))) (.now _))))) (.now' ?_))⟩
        rw [w64_succ (by omega)]
      · rw [if_neg h24]
        obtain ⟨r', q1, q2⟩ := step_p (c0 := code) (u := ()) (o1 := y.2.1) hy.reg g3 hs h24
        refine ⟨(r', y.2.1, y.2.2), ⟨q1, hy.psh, hy.out⟩, .yes (decide_eq_true (by omega)) (.bind (a := ((), (), (code, r', ()), y.2.1, y.2.2)) (.val (rd_some' hx) (.no (beq_false_of_ne h24) (.bind q2 (.now _)))) (.now' ?_))⟩
        rw [w64_succ (by omega)])
    (fun y _ => by
      simp only [ends89.l0]
      exact .no (by simp) (.now _)) (b := y) hy
  rw [List.take_length] at hy'
  exact ⟨y', hy', e⟩
theorem ends_p {code : Cod} (hd : OkD code) {l : List Cyc} (hl : OkL l) {A : Rg} (hA : Inv A) {r : Nums} (hr : RelP A r) : ∃ o, All2 RelE (endsA code l A) o ∧ Ev (fun k => ends89 k code l r) (o, ()) := by
  have h8 := hl.len
  obtain ⟨y, hy, e⟩ := Lp.countI (body := fun k => ends89.l1 k l) l.length (fun (y : Bp) i => ((), (), i, (code, y.1, ()), y.2.1, y.2.2)) (fun y => ((), (), (code, y.1, ()), y.2.1, y.2.2))
    (fun i y => RelB ((l.take i).foldl (cyA code) (A, [], [])) y)
    (fun i y hi hy => by
      have hx : l[i]? = some l[i] := List.getElem?_eq_getElem hi
      have hc := hl.ok _ (get_mem hx)
      generalize l[i] = c at hx hc
      have hok : OkB i ((l.take i).foldl (cyA code) (A, [], [])) := by
        have := OkB.run (code := code) (l.take i) (n := 0) (by rw [List.length_take]; omega) (okB0 hA) (fun c hc => hl.ok c (List.mem_of_mem_take hc))
        rwa [Nat.zero_add, List.length_take, Nat.min_eq_left (by omega)] at this
      rw [List.take_add_one, hx, Option.toList_some, List.foldl_append]
      show ∃ y', RelB (cyA code ((l.take i).foldl (cyA code) (A, [], [])) c) y' ∧ _
      generalize (l.take i).foldl (cyA code) (A, [], []) = B at hy hok
      have hbl := hok.psh
      obtain ⟨k1, k2, k3⟩ := cyB_ok (code := code) hok c
      have hB : ∃ y1, RelB (cyB code B c) y1 ∧ Ev (fun k => (cond (c.1 != 0) ((bus124 k () c (code, y.1, ()) y.2.1).bind fun t26 => some ((), (), c, t26.2.1, t26.2.2, y.2.2)) (some ((), (), c, (code, y.1, ()), y.2.1, y.2.2)) : Option (Unit × (Unit × (Cyc × (RunU × (List Int × List Rn))))))) ((), (), c, (code, y1.1, ()), y1.2.1, y1.2.2) := by
        unfold cyB
        by_cases h0 : c.1 ≠ 0
        · rw [if_pos h0]
          obtain ⟨r', q1, q2⟩ := bus_p (u := ()) (P := B.2.1) hd hy.reg hok.inv hc (by omega)
          rw [← hy.psh] at q2
          exact ⟨(r', _, y.2.2), ⟨q1, rfl, hy.out⟩, .yes (bne_iff_ne.2 h0) (.bind q2 (.now _))⟩
        · rw [if_neg h0]
          have h0 : c.1 = 0 := by omega
          exact ⟨y, hy, .no (by rw [h0]; rfl) (.now _)⟩
      obtain ⟨y1, hy1, e1⟩ := hB
      obtain ⟨y2, hy2, e2⟩ := steps_p (code := code) (n := i) (by omega) hc k1 (by rw [k2]; exact hok.len) k3 (by rw [k2]; exact hok.all) hy1
      refine ⟨y2, hy2, ?_⟩
      simp only [ends89.l1]
      refine .yes (decide_eq_true (by omega)) (.val (rd_some' hx) (.bind e1 (.bind e2.ev (.now' ?_))))
      rw [w64_succ (by omega)])
    (fun y _ => by
      simp only [ends89.l1]
      exact .no (by simp) (.now _)) (b := (r, [], [])) ⟨hr, rfl, .nil⟩
  rw [List.take_length] at hy
  have hb := run_okB (code := code) hl hA
  have hbl := hb.len
  have hol := hy.out.len
  refine ⟨y.2.2 ++ [(code, y.1, y.2.1)], hy.out.snoc ⟨hy.reg, hy.psh⟩, ?_⟩
  unfold ends89
  refine .bind e.ev (.val (a := ()) (if_pos (room_ok ?_)) (.now _))
  have hol : y.2.2.length = (runA code l A).2.2.length := hol
  simp only [List.length_cons, List.length_nil]
  omega
end Go.Proofs.YtcppmlgnceldmaaGreat.Fl

/- What an instruction leads to: the program's answer. No program in sight. -/
set_option linter.unusedVariables false
set_option maxRecDepth 100000
noncomputable section
namespace Go.Proofs.YtcppmlgnceldmaaGreat.Fl
open Go Go.Proofs.YtcppmlgnceldmaaGreat.Gp

theorem set0_ev {r : Nums} (hl : r.length = 9) {i : Nat} (hi : i < 9) {v : Option Nat} (hv : ∀ n, v = some n → n < 65536) : Ev (fun k => set88 k () (i : Int) (eP v) r) ((), r.set i (eP (v.map (· % 256)), if wdN i = true then eP (v.map (fun n => n / 256 % 256)) else 0)) := by
  have hr : r[i]? = some r[i] := List.getElem?_eq_getElem (by omega)
  unfold set88
  cases v with
  | none =>
    refine .bind (a := wd (i : Int)) (.yes rfl (.bind (wide_ev _) (.now _))) ?_
    cases hw : wdN i with
    | true =>
      have hw' : wd (i : Int) = true := hw
      rw [hw']
      exact .bind (a := r.set i (-1, -1)) (.yes rfl (.val (reg_in hi) (.val (rd_some' hr) (.now' (by rw [Int.toNat_natCast]))))) (.now _)
    | false =>
      have hw' : wd (i : Int) = false := hw
      rw [hw']
      exact .bind (a := r.set i (-1, 0)) (.no rfl (.bind (a := r.set i (-1, 0)) (.yes rfl (.val (reg_in hi) (.val (rd_some' hr) (.now' (by rw [Int.toNat_natCast]))))) (.now _))) (.now _)
  | some n =>
    have hn := hv n rfl
    have hne : (((n : Nat) : Int) == (-1)) = false := beq_false_of_ne (by omega)
    have e8 : ((n : Int) % 256) = ((n % 256 : Nat) : Int) := by rw [Int.natCast_emod]; rfl
    show Ev _ ((), r.set i (((n % 256 : Nat) : Int), if wdN i = true then ((n / 256 % 256 : Nat) : Int) else 0))
    rw [← e8]
    refine .bind (a := false) (.no hne (.now _)) (.bind (a := r.set i ((n : Int) % 256, if wdN i = true then ((n / 256 % 256 : Nat) : Int) else 0)) (.no rfl (.bind (a := r.set i ((n : Int) % 256, if wdN i = true then ((n / 256 % 256 : Nat) : Int) else 0)) (.no hne (.bind (wide_ev _) (.bind (a := r.set i ((n : Int) % 256, if wdN i = true then ((n / 256 % 256 : Nat) : Int) else 0)) ?_ (.now _)))) (.now _))) (.now _))
    cases hw : wdN i with
    | true =>
      have hw' : wd (i : Int) = true := hw
      refine .yes hw' (.bind (low8_ev _) (.bind (get_ev n hn) (.val (reg_in hi) (.val (rd_some' hr) (.now' ?_)))))
      rw [Int.toNat_natCast]; rfl
    | false =>
      have hw' : wd (i : Int) = false := hw
      refine .no hw' (.bind (low8_ev _) (.val (reg_in hi) (.val (rd_some' hr) (.now' ?_))))
      rw [Int.toNat_natCast]; rfl
def A0 : Rg := fun _ => (none, none)
theorem inv0 : Inv A0 := fun _ => ⟨by_none, by_none⟩
theorem none_p : ∃ r, RelP A0 r ∧ Ev (fun k => none55 k) (r, ()) := by
  obtain ⟨r, hr, e⟩ := Lp.countI (body := fun k => none55.l0 k) 9 (fun (r : Nums) i => ((), (), i, List.replicate 9 (0, 0), r)) (fun r => ((), (), List.replicate 9 (0, 0), r))
    (fun i r => r.length = 9 ∧ ∀ j, j < i → r[j]? = some (-1, if wdN j = true then -1 else 0))
    (fun i r hi hr => by
      obtain ⟨h1, h2⟩ := hr
      refine ⟨r.set i (-1, if wdN i = true then -1 else 0), ⟨by rw [List.length_set]; exact h1, fun j hj => ?_⟩, ?_⟩
      · by_cases hji : j = i
        · subst hji
          rw [List.getElem?_set_self (by omega)]
        · rw [List.getElem?_set_ne (fun e => hji e.symm)]
          exact h2 j (by omega)
      · simp only [none55.l0]
        refine .yes (decide_eq_true (by omega)) (.bind (set0_ev h1 hi (v := none) (fun n hn => by cases hn)) (.now' ?_))
        rw [w64_succ (by omega)]
        rfl)
    (fun r _ => by
      simp only [none55.l0]
      exact .no (by decide) (.now _)) (b := List.replicate 9 (0, 0)) ⟨by simp, fun j hj => by omega⟩
  refine ⟨r, ⟨hr.1, fun i hi => hr.2 i hi⟩, ?_⟩
  unfold none55
  exact .bind e.ev (.now _)
-- what it leads to
def pcA (e : End) : Option Nat := wholeA e.1 7
def toL (E : List End) : List Int := E.filterMap (fun e => (pcA e).map (fun (n : Nat) => (n : Int)))
def openL (E : List End) : Bool := E.any (fun e => (pcA e).isNone)
def callE (back : Nat) (P : Psh) : Bool := decide (P.length ≥ 2 ∧ P[P.length - 2]? = some (some (back / 256)) ∧ P[P.length - 1]? = some (some (back % 256)))
def callL (back : Nat) (E : List End) : Bool := E.any (fun e => callE back e.2)
def pcL : Option Nat → List Int
  | some n => [(n : Int)]
  | none => []
theorem toL_snoc (E : List End) (e : End) : toL (E ++ [e]) = toL E ++ pcL (pcA e) := by
  unfold toL
  rw [List.filterMap_append]
  cases h : pcA e <;> simp [h, pcL]
theorem toL_len (E : List End) : (toL E).length ≤ E.length := List.length_filterMap_le _ _
theorem wholeR_p {A : Rg} {y : Rn} (h : RelP A y.2.1) (hA : Inv A) {i : Nat} (hi : i < 9) : Ev (fun k => whole90' k () (i : Int) y) (eP (wholeA A i), y) := by
  have hr := h.reg i hi
  obtain ⟨b1, b2⟩ := hA i
  unfold whole90' wholeA
  refine .val (reg_in hi) (.val (rd_some' hr) ?_)
  cases h1 : (A i).1 with
  | none =>
    refine .bind (a := true) (.yes rfl (.now _)) (.yes rfl (.now' ?_))
    cases wdN i <;> rfl
  | some l =>
    have hl := b1 l h1
    have hne : (((l : Nat) : Int) == (-1)) = false := beq_false_of_ne (by omega)
    cases hw : wdN i with
    | false =>
      have hw' : wd (i : Int) = false := hw
      refine .bind (a := false) (.no hne (.bind (wide_ev _) (.now' (by rw [hw']; rfl)))) (.no rfl (.now' ?_))
      show (w64 ((l : Int) + (w64 (256 * 0))), _) = _
      rw [show w64 (256 * 0) = 0 from rfl, w64_id (by omega) (by omega), Int.add_zero]
      rfl
    | true =>
      have hw' : wd (i : Int) = true := hw
      cases h2 : (A i).2 with
      | none =>
        refine .bind (a := true) (.no hne (.bind (wide_ev _) (.now' (by rw [hw', if_pos rfl]; rfl)))) (.yes rfl (.now _))
      | some hh =>
        have hl2 := b2 hh h2
        refine .bind (a := false) (.no hne (.bind (wide_ev _) (.now' ?_))) (.no rfl (.now' ?_))
        · rw [hw', if_pos rfl]
          exact beq_false_of_ne (by show (hh : Int) ≠ -1; omega)
        · rw [if_pos rfl]
          show (w64 ((l : Int) + (w64 (256 * (hh : Int)))), _) = _
          rw [w64_id (x := 256 * (hh : Int)) (by omega) (by omega), w64_id (by omega) (by omega)]
          show ((l : Int) + 256 * (hh : Int), _) = (((l + 256 * hh : Nat) : Int), _)
          rw [Int.natCast_add, Int.natCast_mul]; rfl
theorem eP_eq {v : Option Nat} {b : Nat} : (eP v == (b : Int)) = decide (v = some b) := by
  cases v with
  | none =>
    rw [decide_eq_false (by simp)]
    exact beq_false_of_ne (by show (-1 : Int) ≠ (b : Int); omega)
  | some n =>
    by_cases h : n = b
    · subst h; simp [eP]
    · rw [decide_eq_false (by simpa using h)]
      exact beq_false_of_ne (by show (n : Int) ≠ (b : Int); omega)
theorem and255 (n : Nat) : ibits .and .i64 (n : Int) 255 = ((n % 256 : Nat) : Int) := by
  have := ibits_low (n : Int) (j := 8) (by decide)
  rw [Int.natCast_emod]
  exact this
abbrev Wy := Int × List Int × Bool × Bool
abbrev Lst := Bool × Bool × List Int
theorem call_ev {P : Psh} {y : Rn} (hy : y.2.2 = P.map eP) (hl : P.length ≤ 1000) {back : Nat} (hb : back < 65536) {R : Type} {g : Nat → Bool → Option R} {v : R} (hg : Ev (fun k => g k (callE back P)) v) :
    Ev (fun k => Option.bind (cond (decide ((List.length y.2.2 : Int) ≥ 2))
        ((rd y.2.2 (w64 ((List.length y.2.2 : Int) - 2))).bind fun t63 =>
        some (t63 == (shrI .i64 ((back : Nat) : Int) 8)))
        (some false)) fun t68 =>
      Option.bind (cond t68
        ((rd y.2.2 (w64 ((List.length y.2.2 : Int) - 1))).bind fun t74 =>
        some (t74 == (ibits .and .i64 ((back : Nat) : Int) 255)))
        (some false)) (g k)) v := by
  have hyl : y.2.2.length = P.length := by rw [hy, List.length_map]
  by_cases h2 : P.length ≥ 2
  · have e1 : P[P.length - 2]? = some P[P.length - 2] := List.getElem?_eq_getElem (by omega)
    have e2 : P[P.length - 1]? = some P[P.length - 1] := List.getElem?_eq_getElem (by omega)
    generalize P[P.length - 2] = p at e1
    generalize P[P.length - 1] = q at e2
    have r1 : rd y.2.2 (w64 ((List.length y.2.2 : Int) - 2)) = some (eP p) := by
      rw [hyl, w64_id (by omega) (by omega)]
      exact rd_at (i := P.length - 2) (by omega) (by rw [hy, List.getElem?_map, e1]; rfl)
    have r2 : rd y.2.2 (w64 ((List.length y.2.2 : Int) - 1)) = some (eP q) := by
      rw [hyl, w64_id (by omega) (by omega)]
      exact rd_at (i := P.length - 1) (by omega) (by rw [hy, List.getElem?_map, e2]; rfl)
    have hc : callE back P = (decide (p = some (back / 256)) && decide (q = some (back % 256))) := by
      unfold callE
      rw [e1, e2, ← Bool.decide_and]
      refine decide_eq_decide.2 ⟨fun h => ⟨Option.some.inj h.2.1, Option.some.inj h.2.2⟩, fun h => ⟨h2, by rw [h.1], by rw [h.2]⟩⟩
    refine .bind (a := decide (p = some (back / 256))) (.yes (decide_eq_true (by omega)) (.val r1 (.now' ?_))) ?_
    · rw [show shrI .i64 ((back : Nat) : Int) 8 = ((back / 256 : Nat) : Int) from shr8 hb, eP_eq]
    · refine .bind (a := callE back P) ?_ hg
      rw [hc]
      cases decide (p = some (back / 256)) with
      | true => exact .yes rfl (.val r2 (.now' (by rw [and255, eP_eq]; rfl)))
      | false => exact .no rfl (.now _)
  · have hc : callE back P = false := decide_eq_false (fun h => h2 h.1)
    rw [hc] at hg
    exact .bind (a := false) (.no (decide_eq_false (by omega)) (.now _)) (.bind (a := false) (.no rfl (.now _)) hg)
end Go.Proofs.YtcppmlgnceldmaaGreat.Fl

/- What an instruction leads to: the program's whole answer. No program in sight. -/
set_option linter.unusedVariables false
set_option maxRecDepth 100000
noncomputable section
namespace Go.Proofs.YtcppmlgnceldmaaGreat.Fl
open Go Go.Proofs.YtcppmlgnceldmaaGreat.Gp

def sizeV (m : Int) : Nat := ([0, 1, 1, 1, 2, 2, 2, 1, 1] : List Nat).getD m.toNat 0
theorem size_ev {m : Int} (h : 0 ≤ m ∧ m ≤ 8) : Ev (fun k => Size33 k m) ((sizeV m : Int), ()) := by
  have : m = 0 ∨ m = 1 ∨ m = 2 ∨ m = 3 ∨ m = 4 ∨ m = 5 ∨ m = 6 ∨ m = 7 ∨ m = 8 := by omega
  rcases this with rfl | rfl | rfl | rfl | rfl | rfl | rfl | rfl | rfl <;> exact .const rfl
theorem sizeV_le (m : Int) : sizeV m ≤ 2 := by
  unfold sizeV
  rw [List.getD_eq_getElem?_getD]
  cases h : ([0, 1, 1, 1, 2, 2, 2, 1, 1] : List Nat)[m.toNat]? with
  | none => decide
  | some x =>
    have := get_mem h
    simp only [List.mem_cons, List.not_mem_nil, or_false] at this
    show x ≤ 2
    omega
def backN (x : Ins) (addr : Int) : Nat := ((addr + (1 + (sizeV x.2.2.1 : Int))) % 65536).toNat
def pc1 (addr : Int) : Option Nat := some ((addr + 1) % 65536).toNat
def ends1 (code : Cod) (x : Ins) (addr : Int) (A : Rg) : List End := endsA code x.2.2.2 (setA A 7 (pc1 addr))
def wayA (code : Cod) (x : Ins) (addr : Int) (A : Rg) : Wy := (1 + (sizeV x.2.2.1 : Int), compI (sortI (toL (ends1 code x addr A))), openL (ends1 code x addr A), callL (backN x addr) (ends1 code x addr A))
theorem sort_ev {l : List Int} (h : l.length ≤ 1000) : Ev (fun k => Sort91 k () l) ((), sortI l) := .const (if_pos (by omega))
theorem comp_ev {l : List Int} (h : l.length ≤ 1000) : Ev (fun k => Compact92 k () l) ((), compI l) := .const (if_pos (by omega))
theorem leads_p {code : Cod} (hd : OkD code) {x : Ins} (hx : OkI x) {addr : Int} (ha : 0 ≤ addr ∧ addr < 65536) {A : Rg} (hA : Inv A) {r : Nums} (hr : RelP A r) :
    ∃ o, All2 RelE (ends1 code x addr A) o ∧ Ev (fun k => leads54 k code x addr r) ((wayA code x addr A, o, ()), ()) := by
  have hs := sizeV_le x.2.2.1
  have hv : ∀ n, pc1 addr = some n → n < 65536 := fun n hn => by unfold pc1 at hn; cases hn; omega
  have hset : RelP (setA A 7 (pc1 addr)) (r.set 7 (eP ((pc1 addr).map (· % 256)), if wdN 7 = true then eP ((pc1 addr).map (fun n => n / 256 % 256)) else 0)) := hr.put (by decide) rfl
  have e1 := set0_ev hr.len (i := 7) (by decide) hv
  have ep : eP (pc1 addr) = (addr + 1) % 65536 := by unfold pc1; show ((((addr + 1) % 65536).toNat : Nat) : Int) = _; omega
  rw [ep] at e1
  obtain ⟨o, ho, e2⟩ := ends_p hd hx.cyc (hA.set 7 (pc1 addr)) hset
  obtain ⟨hlen, hall⟩ := ends_ok (code := code) hx.cyc (hA.set 7 (pc1 addr))
  have hbk : backN x addr < 65536 := by unfold backN; omega
  have hback : (addr + (1 + (sizeV x.2.2.1 : Int))) % 65536 = (backN x addr : Int) := by unfold backN; omega
  have hw1 : w64 (addr + 1) = addr + 1 := w64_id (by omega) (by omega)
  have hw2 : w64 (1 + (sizeV x.2.2.1 : Int)) = 1 + (sizeV x.2.2.1 : Int) := w64_id (by omega) (by omega)
  have hw3 : w64 (addr + (1 + (sizeV x.2.2.1 : Int))) = addr + (1 + (sizeV x.2.2.1 : Int)) := w64_id (by omega) (by omega)
  refine ⟨o, ho, ?_⟩
  have hol := ho.len
  show Ev _ (((1 + (sizeV x.2.2.1 : Int), compI (sortI (toL (endsA code x.2.2.2 (setA A 7 (pc1 addr))))), openL (endsA code x.2.2.2 (setA A 7 (pc1 addr))), callL (backN x addr) (endsA code x.2.2.2 (setA A 7 (pc1 addr)))), o, ()), ())
  change All2 RelE (endsA code x.2.2.2 (setA A 7 (pc1 addr))) o at ho
  generalize endsA code x.2.2.2 (setA A 7 (pc1 addr)) = E at ho hol hlen hall
  have htl := toL_len E
  obtain ⟨y, hy, e3⟩ := Lp.countI (body := fun k => leads54.l0 k (((backN x addr : Nat) : Int), ()) (o, ())) E.length (fun (y : Lst) i => ((), (), i, (0, (), false, false), [], (1 + (sizeV x.2.2.1 : Int), (), y.1, y.2.1), y.2.2)) (fun y => ((), (), (0, (), false, false), [], (1 + (sizeV x.2.2.1 : Int), (), y.1, y.2.1), y.2.2))
    (fun i y => y = (openL (E.take i), callL (backN x addr) (E.take i), toL (E.take i)))
    (fun i y hi hy => by
      have hE : E[i]? = some E[i] := List.getElem?_eq_getElem hi
      obtain ⟨hinv, hpl⟩ := hall _ (get_mem hE)
      generalize E[i] = e at hE hinv hpl
      have hq : o[i]? = some o[i] := List.getElem?_eq_getElem (by rw [ho.len]; exact hi)
      obtain ⟨q1, q2⟩ := ho.at' i e _ hE hq
      have hil : i < o.length := get_lt hq
      generalize o[i] = z at hq q1 q2
      have hpc := wholeR_p q1 hinv (i := 7) (by decide)
      have htk := toL_len (E.take i)
      rw [List.length_take] at htk
      refine ⟨_, rfl, ?_⟩
      have t1 : openL (E.take (i + 1)) = (openL (E.take i) || (pcA e).isNone) := by
        unfold openL
        rw [List.take_add_one, hE, List.any_append]; simp
      have t2 : callL (backN x addr) (E.take (i + 1)) = (callL (backN x addr) (E.take i) || callE (backN x addr) e.2) := by
        unfold callL
        rw [List.take_add_one, hE, List.any_append]; simp
      have t3 : toL (E.take (i + 1)) = toL (E.take i) ++ pcL (pcA e) := by
        rw [List.take_add_one, hE, Option.toList_some, toL_snoc]
      rw [t1, t2, t3, hy]
      simp only [leads54.l0]
      have hw : w64 ((i : Int) + 1) = ((i + 1 : Nat) : Int) := w64_succ (by omega)
      have tail : ∀ (op : Bool) (to : List Int), Ev (fun k => Option.bind (cond (decide ((List.length z.2.2 : Int) ≥ 2))
            ((rd z.2.2 (w64 ((List.length z.2.2 : Int) - 2))).bind fun t63 =>
            some (t63 == (shrI .i64 ((backN x addr : Nat) : Int) 8)))
            (some false)) fun t68 =>
          Option.bind (cond t68
            ((rd z.2.2 (w64 ((List.length z.2.2 : Int) - 1))).bind fun t74 =>
            some (t74 == (ibits .and .i64 ((backN x addr : Nat) : Int) 255)))
            (some false)) fun t79 =>
          Option.bind
            (cond t79
              (some ((), (), ((0 : Int), (), false, false), ([] : List Int), (1 + (sizeV x.2.2.1 : Int), (), op, true), to))
              (some ((), (), (0, (), false, false), [], (1 + (sizeV x.2.2.1 : Int), (), op, callL (backN x addr) (E.take i)), to)) : Option (Unit × (Unit × ((Int × (Unit × (Bool × Bool))) × (List Int × ((Int × (Unit × (Bool × Bool))) × List Int)))))) fun ((_, _, o1_2, o2_2, o3_2, o4_2) : (Unit × (Unit × ((Int × (Unit × (Bool × Bool))) × (List Int × ((Int × (Unit × (Bool × Bool))) × List Int)))))) =>
          (some (Sum.inl ((), (), (w64 ((i : Int) + 1)), o1_2, o2_2, o3_2, o4_2)) : Option ((Unit × (Unit × (Int × ((Int × (Unit × (Bool × Bool))) × (List Int × ((Int × (Unit × (Bool × Bool))) × List Int)))))) ⊕ (Unit × (Unit × ((Int × (Unit × (Bool × Bool))) × (List Int × ((Int × (Unit × (Bool × Bool))) × List Int))))))))
          (.inl ((), (), ((i + 1 : Nat) : Int), (0, (), false, false), [], (1 + (sizeV x.2.2.1 : Int), (), op, callL (backN x addr) (E.take i) || callE (backN x addr) e.2), to)) := fun op to => by
        refine call_ev q2 hpl hbk ?_
        rw [hw]
        cases callE (backN x addr) e.2 with
        | true => rw [Bool.or_true]; exact .bind (.yes rfl (.now _)) (.now _)
        | false => rw [Bool.or_false]; exact .bind (.no rfl (.now _)) (.now _)
      refine .yes (decide_eq_true (by show (i : Int) < (o.length : Int); omega)) (.val (rd_some' hq) (.bind hpc ?_))
      cases hp : pcA e with
      | none =>
        have hp' : wholeA e.1 7 = none := hp
        rw [hp']
        refine .bind (a := ((), (), (), (0, (), false, false), [], (1 + (sizeV x.2.2.1 : Int), (), true, callL (backN x addr) (E.take i)), toL (E.take i), z)) (.yes rfl (.now _)) ?_
        have := tail true (toL (E.take i))
        rw [show (openL (E.take i) || (none : Option Nat).isNone) = true by simp, show pcL none = [] from rfl, List.append_nil]
        exact this
      | some n =>
        have hp' : wholeA e.1 7 = some n := hp
        rw [hp']
        refine .bind (a := ((), (), (), (0, (), false, false), [], (1 + (sizeV x.2.2.1 : Int), (), openL (E.take i), callL (backN x addr) (E.take i)), toL (E.take i) ++ [(n : Int)], z)) (.no (beq_false_of_ne (by show (n : Int) ≠ -1; omega)) (.val (a := ()) (if_pos (room_ok (by simp only [List.length_cons, List.length_nil]; omega))) (.now _))) ?_
        have := tail (openL (E.take i)) (toL (E.take i) ++ [(n : Int)])
        rw [show (openL (E.take i) || (some n).isNone) = openL (E.take i) by simp]
        exact this)
    (fun y _ => by
      simp only [leads54.l0]
      exact .no (decide_eq_false (by show ¬ ((E.length : Nat) : Int) < (o.length : Int); omega)) (.now _)) (b := (false, false, [])) rfl
  rw [List.take_length] at hy
  unfold leads54
  refine .bind (low16_ev _) ?_
  rw [hw1]
  refine .bind e1 (.bind (size_ev hx.mode) ?_)
  simp only [hw2, hw3]
  refine .bind (low16_ev _) ?_
  rw [hback]
  refine .bind e2 (.bind e3.ev ?_)
  rw [hy]
  exact .bind (sort_ev (by show (toL E).length ≤ 1000; omega)) (.bind (comp_ev (by show (sortI (toL E)).length ≤ 1000; rw [sortI_len]; omega)) (.now _))
end Go.Proofs.YtcppmlgnceldmaaGreat.Fl

/- What an instruction leads to: the program's Next. No program in sight. -/
set_option linter.unusedVariables false
set_option maxRecDepth 100000
noncomputable section
namespace Go.Proofs.YtcppmlgnceldmaaGreat.Fl
open Go Go.Proofs.YtcppmlgnceldmaaGreat.Gp

abbrev BgR := Ins × Int × Unit
def begunR (c : Cpu) (code : Cod) (addr : Int) : BgR := match atI code addr with
  | none => (none4, 19, ())
  | some op => match findI c (op : Int) with
    | none => (none4, 4, ())
    | some x => match atI code (addr + (sizeV x.2.2.1 : Int)) with
      | none => (none4, 13, ())
      | some _ => (x, 0, ())
theorem atI_in {code : Cod} (hd : OkD code) {x : Int} {n : Nat} (h : atI code x = some n) : 0 ≤ x ∧ x < 65536 := by
  have := hd.base
  unfold atI at h
  split at h
  · omega
  · cases h
theorem findI_mem {c : Cpu} {op : Int} {x : Ins} (h : findI c op = some x) : x ∈ c.2.1 := List.mem_of_find?_eq_some h
theorem eP_ne {n : Nat} : (eP (some n) == (-1)) = false := beq_false_of_ne (by show (n : Int) ≠ -1; omega)
theorem begun_p {c : Cpu} (hc : Wc c) {code : Cod} (hp : OkP c code) (hd : OkD code) {addr : Int} (ha : -9223372036854775808 ≤ addr ∧ addr ≤ 9223372036854775807) : Ev (fun k => begun53 k c code addr) (begunR c code addr, ()) := by
  cases h1 : atI code addr with
  | none =>
    have eB : begunR c code addr = (none4, 19, ()) := by unfold begunR; rw [h1]
    have e1 := at_ev hd ha
    rw [h1] at e1
    rw [eB]
    unfold begun53
    exact .bind e1 (.yes rfl (.now _))
  | some op =>
    have e1 := at_ev hd ha
    rw [h1] at e1
    have hf := find_ev hc (op : Int)
    cases h2 : findI c (op : Int) with
    | none =>
      have eB : begunR c code addr = (none4, 4, ()) := by unfold begunR; rw [h1]; simp only [h2]
      have eF : findR c (op : Int) = (none4, false, ()) := by unfold findR; rw [h2]
      rw [eF] at hf
      rw [eB]
      unfold begun53
      exact .bind e1 (.no eP_ne (.bind hf (.yes rfl (.now _))))
    | some x =>
      have eF : findR c (op : Int) = (x, true, ()) := by unfold findR; rw [h2]
      rw [eF] at hf
      have hx := hp.ins x (findI_mem h2)
      have hin := atI_in hd h1
      have hs := sizeV_le x.2.2.1
      have hw : w64 (addr + (sizeV x.2.2.1 : Int)) = addr + (sizeV x.2.2.1 : Int) := w64_id (by omega) (by omega)
      have e3 := at_ev hd (x := addr + (sizeV x.2.2.1 : Int)) (by omega)
      rw [← hw] at e3
      unfold begun53
      refine .bind e1 (.no eP_ne (.bind hf (.no rfl (.bind (size_ev hx.mode) (.bind e3 ?_)))))
      rw [hw]
      cases h3 : atI code (addr + (sizeV x.2.2.1 : Int)) with
      | none =>
        have eB : begunR c code addr = (none4, 13, ()) := by unfold begunR; rw [h1]; simp only [h2]; rw [h3]
        rw [eB]
        exact .yes rfl (.now _)
      | some n =>
        have eB : begunR c code addr = (x, 0, ()) := by unfold begunR; rw [h1]; simp only [h2]; rw [h3]
        rw [eB]
        exact .no eP_ne (.now _)
theorem begun_ok {c : Cpu} {code : Cod} (hp : OkP c code) (hd : OkD code) {addr : Int} (h : (begunR c code addr).2.1 = 0) : OkI (begunR c code addr).1 ∧ 0 ≤ addr ∧ addr < 65536 := by
  unfold begunR at h ⊢
  cases h1 : atI code addr with
  | none => rw [h1] at h; cases h
  | some op =>
    rw [h1] at h
    have hin := atI_in hd h1
    cases h2 : findI c (op : Int) with
    | none => simp only [h2] at h; cases h
    | some x =>
      simp only [h2] at h ⊢
      cases h3 : atI code (addr + (sizeV x.2.2.1 : Int)) with
      | none => rw [h3] at h; cases h
      | some n => exact ⟨hp.ins x (findI_mem h2), hin⟩
def zeroW : Wy := (0, [], false, false)
def nextR (c : Cpu) (code : Cod) (addr : Int) : Wy × Int × Unit := if (begunR c code addr).2.1 ≠ 0 then (zeroW, (begunR c code addr).2.1, ()) else (wayA code (begunR c code addr).1 addr A0, 0, ())
theorem next_p {c : Cpu} (hc : Wc c) {code : Cod} (hp : OkP c code) (hd : OkD code) {addr : Int} (ha : -9223372036854775808 ≤ addr ∧ addr ≤ 9223372036854775807) (h0 : Ev (fun k => Check20 k c code) (0, ())) : Ev (fun k => Next18 k c code addr) (nextR c code addr, ()) := by
  have hb := begun_p hc hp hd ha
  have hbo := begun_ok hp hd (addr := addr)
  unfold Next18 nextR
  refine .bind h0 (.no rfl (.bind hb ?_))
  generalize begunR c code addr = b at hbo
  by_cases h : b.2.1 ≠ 0
  · rw [if_pos h]
    exact .yes (bne_iff_ne.2 h) (.now _)
  · rw [if_neg h]
    have h : b.2.1 = 0 := by omega
    obtain ⟨hx, h1⟩ := hbo h
    obtain ⟨r, hr, en⟩ := none_p
    obtain ⟨o, ho, el⟩ := leads_p hd hx h1 inv0 hr
    refine .no (by rw [h]; rfl) (.bind (a := ((), wayA code b.1 addr A0, 0, (), false, false)) ?_ (.now _))
    exact Ev.agr (.bind en (Ev.agr (.bind el (.now _)) (.bind el (.now _)))) (.bind en (.bind el (.now _)))
theorem next_bad {c : Cpu} {code : Cod} {addr e : Int} (he : e ≠ 0) (h0 : Ev (fun k => Check20 k c code) (e, ())) : Ev (fun k => Next18 k c code addr) ((zeroW, e, ()), ()) := by
  unfold Next18
  exact .bind h0 (.yes (bne_iff_ne.2 he) (.now _))
end Go.Proofs.YtcppmlgnceldmaaGreat.Fl

/- What is known of registers: the reference's. No program in sight. -/
set_option linter.unusedVariables false
set_option maxRecDepth 100000
noncomputable section
namespace Go.Proofs.YtcppmlgnceldmaaGreat.Fl
open Go Go.Proofs.YtcppmlgnceldmaaGreat.Gp

def eR : Option Nat → Int × Bool
  | none => (0, false)
  | some n => ((n : Int), true)
theorem tmod_form (x M : Int) : Int.tmod x M = if 0 ≤ x then x % M else -((-x) % M) := by
  by_cases h : 0 ≤ x
  · rw [if_pos h, Int.tmod_eq_emod_of_nonneg h]
  · rw [if_neg h]
    have := Int.neg_tmod (-x) M
    rw [Int.neg_neg] at this
    rw [this, Int.tmod_eq_emod_of_nonneg (by omega)]
theorem known_ev {x : Int} (hx : -1000000 ≤ x ∧ x ≤ 1000000) {bits M : Int} (hb : bits = 8 ∧ M = 256 ∨ bits = 16 ∧ M = 65536) : Ev (fun k => known94 k x bits) ((x % M, true), ()) := by
  have hs : shlI .i64 1 bits = M := by rcases hb with ⟨rfl, rfl⟩ | ⟨rfl, rfl⟩ <;> rfl
  have h0 : ¬ bits < 0 := by omega
  have hne : ¬ M = 0 := by omega
  have key : -M < Int.tmod x M ∧ Int.tmod x M < M ∧ (Int.tmod x M + M) % M = x % M := by
    rw [tmod_form]
    rcases hb with ⟨_, rfl⟩ | ⟨_, rfl⟩ <;> split <;> omega
  unfold known94
  refine .val (a := M) (by rw [if_neg h0, hs]) (.val (a := Int.tmod x M) (if_neg hne) (.val (a := M) (by rw [if_neg h0, hs]) (.val (a := M) (by rw [if_neg h0, hs]) (.val (a := Int.tmod (w64 (Int.tmod x M + M)) M) (if_neg hne) (.now' ?_)))))
  rw [w64_id (by omega) (by omega), Int.tmod_eq_emod_of_nonneg (by omega), key.2.2]
theorem sign_ev (m : Int) : Ev (fun k => step1168 k m) (if m > 127 then w64 (m - 256) else m, ()) := by
  unfold step1168
  by_cases h : m > 127
  · rw [if_pos h]; exact .yes (decide_eq_true h) (.now _)
  · rw [if_neg h]; exact .no (decide_eq_false h) (.now _)
theorem thenA_1 (bits : Int) : (∀ v : Option Nat, v = none → Ev (fun k => then129 k bits () [eR v]) ((0, false), ())) ∧ ∀ (n : Nat) (y : Int × Bool), Ev (fun k => known94 k (n : Int) bits) (y, ()) → Ev (fun k => then129 k bits () [((n : Int), true)]) (y, ()) := by
  refine ⟨fun v hv => ?_, fun n y hy => ?_⟩
  · subst hv
    unfold then129
    refine .joinR (Lp.ev (.done ?_))
    simp only [then129.l0]
    exact .yes rfl (.val rfl (.yes rfl (.now _)))
  · unfold then129
    refine .joinL (S := Unit) (a := ((), (), (), (0, false), [(n : Int)])) (Lp.ev (.step (s' := ((), (), (), 1, (0, false), [(n : Int)])) ?_ (.done ?_))) ?_
    · simp only [then129.l0]
      exact .yes rfl (.val rfl (.no rfl (.val (a := ()) rfl (.now _))))
    · simp only [then129.l0]
      exact .no rfl (.now _)
    · exact .bind (a := ((n : Int), ())) (.val rfl (.now _)) (.bind hy (.now _))

theorem thenB_1 (bits : Int) : (∀ v : Option Nat, v = none → Ev (fun k => then129' k bits () [eR v]) ((0, false), ())) ∧ ∀ (n : Nat) (y : Int × Bool), Ev (fun k => known94 k (quoI .i64 (n : Int) 256) bits) (y, ()) → Ev (fun k => then129' k bits () [((n : Int), true)]) (y, ()) := by
  refine ⟨fun v hv => ?_, fun n y hy => ?_⟩
  · subst hv
    unfold then129'
    refine .joinR (Lp.ev (.done ?_))
    simp only [then129'.l0]
    exact .yes rfl (.val rfl (.yes rfl (.now _)))
  · unfold then129'
    refine .joinL (S := Unit) (a := ((), (), (), (0, false), [(n : Int)])) (Lp.ev (.step (s' := ((), (), (), 1, (0, false), [(n : Int)])) ?_ (.done ?_))) ?_
    · simp only [then129'.l0]
      exact .yes rfl (.val rfl (.no rfl (.val (a := ()) rfl (.now _))))
    · simp only [then129'.l0]
      exact .no rfl (.now _)
    · exact .bind (a := (quoI .i64 (n : Int) 256, ())) (.val rfl (.now _)) (.bind hy (.now _))

theorem thenC_2 (bits : Int) : (∀ v w : Option Nat, v = none ∨ w = none → Ev (fun k => then129'' k bits () [eR v, eR w]) ((0, false), ())) ∧ ∀ (n m : Nat) (y : Int × Bool), Ev (fun k => known94 k (w64 ((n : Int) + w64 (256 * (m : Int)))) bits) (y, ()) → Ev (fun k => then129'' k bits () [((n : Int), true), ((m : Int), true)]) (y, ()) := by
  refine ⟨fun v w hv => ?_, fun n m y hy => ?_⟩
  · unfold then129''
    cases v with
    | none =>
      refine .joinR (Lp.ev (.done ?_))
      simp only [then129''.l0]
      exact .yes rfl (.val rfl (.yes rfl (.now _)))
    | some n =>
      have hw : w = none := hv.resolve_left (fun h => by cases h)
      subst hw
      refine .joinR (Lp.ev (.step (s' := ((), (), (), 1, (0, false), [(n : Int)])) ?_ (.done ?_)))
      · simp only [then129''.l0]
        exact .yes rfl (.val rfl (.no rfl (.val (a := ()) rfl (.now _))))
      · simp only [then129''.l0]
        exact .yes rfl (.val rfl (.yes rfl (.now _)))
  · unfold then129''
    refine .joinL (S := Unit) (a := ((), (), (), (0, false), [(n : Int), (m : Int)])) (Lp.ev (.step (s' := ((), (), (), 1, (0, false), [(n : Int)])) ?_ (.step (s' := ((), (), (), 2, (0, false), [(n : Int), (m : Int)])) ?_ (.done ?_)))) ?_
    · simp only [then129''.l0]
      exact .yes rfl (.val rfl (.no rfl (.val (a := ()) rfl (.now _))))
    · simp only [then129''.l0]
      exact .yes rfl (.val rfl (.no rfl (.val (a := ()) rfl (.now _))))
    · simp only [then129''.l0]
      exact .no rfl (.now _)
    · exact .bind (a := (w64 ((n : Int) + w64 (256 * (m : Int))), ())) (.val rfl (.val rfl (.now _))) (.bind hy (.now _))

theorem thenD_1 (bits : Int) (b : Int) : (∀ v : Option Nat, v = none → Ev (fun k => then129''' k bits (b, ()) [eR v]) ((0, false), ())) ∧ ∀ (n : Nat) (y : Int × Bool), Ev (fun k => known94 k (w64 ((n : Int) + b)) bits) (y, ()) → Ev (fun k => then129''' k bits (b, ()) [((n : Int), true)]) (y, ()) := by
  refine ⟨fun v hv => ?_, fun n y hy => ?_⟩
  · subst hv
    unfold then129'''
    refine .joinR (Lp.ev (.done ?_))
    simp only [then129'''.l0]
    exact .yes rfl (.val rfl (.yes rfl (.now _)))
  · unfold then129'''
    refine .joinL (S := Unit) (a := ((b, ()), (), (), (0, false), [(n : Int)])) (Lp.ev (.step (s' := ((b, ()), (), (), 1, (0, false), [(n : Int)])) ?_ (.done ?_))) ?_
    · simp only [then129'''.l0]
      exact .yes rfl (.val rfl (.no rfl (.val (a := ()) rfl (.now _))))
    · simp only [then129'''.l0]
      exact .no rfl (.now _)
    · exact .bind (a := (w64 ((n : Int) + b), ())) (.val rfl (.now _)) (.bind hy (.now _))

theorem thenE_1 (bits : Int) (b : Int) : (∀ v : Option Nat, v = none → Ev (fun k => then129'''' k bits ((), ()) [eR v] b) ((0, false), b)) ∧ ∀ (n : Nat) (y : Int × Bool), Ev (fun k => known94 k (w64 ((n : Int) + b)) bits) (y, ()) → Ev (fun k => then129'''' k bits ((), ()) [((n : Int), true)] b) (y, b) := by
  refine ⟨fun v hv => ?_, fun n y hy => ?_⟩
  · subst hv
    unfold then129''''
    refine .joinR (Lp.ev (.done ?_))
    simp only [then129''''.l0]
    exact .yes rfl (.val rfl (.yes rfl (.now _)))
  · unfold then129''''
    refine .joinL (S := Unit) (a := (((), ()), (), (), b, (0, false), [(n : Int)])) (Lp.ev (.step (s' := (((), ()), (), (), 1, b, (0, false), [(n : Int)])) ?_ (.done ?_))) ?_
    · simp only [then129''''.l0]
      exact .yes rfl (.val rfl (.no rfl (.val (a := ()) rfl (.now _))))
    · simp only [then129''''.l0]
      exact .no rfl (.now _)
    · exact .bind (a := (w64 ((n : Int) + b), b)) (.val rfl (.now _)) (.bind hy (.now _))

theorem thenF_2 (bits : Int) : (∀ v w : Option Nat, v = none ∨ w = none → Ev (fun k => then129''''' k bits () [eR v, eR w]) ((0, false), ())) ∧ ∀ (n m : Nat) (y : Int × Bool), Ev (fun k => known94 k (w64 ((n : Int) + (m : Int))) bits) (y, ()) → Ev (fun k => then129''''' k bits () [((n : Int), true), ((m : Int), true)]) (y, ()) := by
  refine ⟨fun v w hv => ?_, fun n m y hy => ?_⟩
  · unfold then129'''''
    cases v with
    | none =>
      refine .joinR (Lp.ev (.done ?_))
      simp only [then129'''''.l0]
      exact .yes rfl (.val rfl (.yes rfl (.now _)))
    | some n =>
      have hw : w = none := hv.resolve_left (fun h => by cases h)
      subst hw
      refine .joinR (Lp.ev (.step (s' := ((), (), (), 1, (0, false), [(n : Int)])) ?_ (.done ?_)))
      · simp only [then129'''''.l0]
        exact .yes rfl (.val rfl (.no rfl (.val (a := ()) rfl (.now _))))
      · simp only [then129'''''.l0]
        exact .yes rfl (.val rfl (.yes rfl (.now _)))
  · unfold then129'''''
    refine .joinL (S := Unit) (a := ((), (), (), (0, false), [(n : Int), (m : Int)])) (Lp.ev (.step (s' := ((), (), (), 1, (0, false), [(n : Int)])) ?_ (.step (s' := ((), (), (), 2, (0, false), [(n : Int), (m : Int)])) ?_ (.done ?_)))) ?_
    · simp only [then129'''''.l0]
      exact .yes rfl (.val rfl (.no rfl (.val (a := ()) rfl (.now _))))
    · simp only [then129'''''.l0]
      exact .yes rfl (.val rfl (.no rfl (.val (a := ()) rfl (.now _))))
    · simp only [then129'''''.l0]
      exact .no rfl (.now _)
    · exact .bind (a := (w64 ((n : Int) + (m : Int)), ())) (.val rfl (.val rfl (.now _))) (.bind hy (.now _))

theorem thenG_2 (bits : Int) : (∀ v w : Option Nat, v = none ∨ w = none → Ev (fun k => then129'''''' k bits ((), ()) [eR v, eR w] ()) ((0, false), ())) ∧ ∀ (n m : Nat) (y : Int × Bool), Ev (fun k => known94 k (w64 ((n : Int) + (if (m : Int) > 127 then w64 ((m : Int) - 256) else (m : Int)))) bits) (y, ()) → Ev (fun k => then129'''''' k bits ((), ()) [((n : Int), true), ((m : Int), true)] ()) (y, ()) := by
  refine ⟨fun v w hv => ?_, fun n m y hy => ?_⟩
  · unfold then129''''''
    cases v with
    | none =>
      refine .joinR (Lp.ev (.done ?_))
      simp only [then129''''''.l0]
      exact .yes rfl (.val rfl (.yes rfl (.now _)))
    | some n =>
      have hw : w = none := hv.resolve_left (fun h => by cases h)
      subst hw
      refine .joinR (Lp.ev (.step (s' := (((), ()), (), (), 1, (), (0, false), [(n : Int)])) ?_ (.done ?_)))
      · simp only [then129''''''.l0]
        exact .yes rfl (.val rfl (.no rfl (.val (a := ()) rfl (.now _))))
      · simp only [then129''''''.l0]
        exact .yes rfl (.val rfl (.yes rfl (.now _)))
  · unfold then129''''''
    refine .joinL (S := Unit) (a := (((), ()), (), (), (), (0, false), [(n : Int), (m : Int)])) (Lp.ev (.step (s' := (((), ()), (), (), 1, (), (0, false), [(n : Int)])) ?_ (.step (s' := (((), ()), (), (), 2, (), (0, false), [(n : Int), (m : Int)])) ?_ (.done ?_)))) ?_
    · simp only [then129''''''.l0]
      exact .yes rfl (.val rfl (.no rfl (.val (a := ()) rfl (.now _))))
    · simp only [then129''''''.l0]
      exact .yes rfl (.val rfl (.no rfl (.val (a := ()) rfl (.now _))))
    · simp only [then129''''''.l0]
      exact .no rfl (.now _)
    · exact .bind (a := (w64 ((n : Int) + (if (m : Int) > 127 then w64 ((m : Int) - 256) else (m : Int))), ())) (.val rfl (.val rfl (.bind (sign_ev _) (.now _)))) (.bind hy (.now _))

end Go.Proofs.YtcppmlgnceldmaaGreat.Fl

/- What is known of registers: the reference's bank. No program in sight. -/
set_option linter.unusedVariables false
set_option maxRecDepth 100000
noncomputable section
namespace Go.Proofs.YtcppmlgnceldmaaGreat.Fl
open Go Go.Proofs.YtcppmlgnceldmaaGreat.Gp

abbrev Vals := List (Int × Bool)
abbrev WalkU := Vals × Unit
structure RelR (A : Rg) (b : Vals) : Prop where
  len : b.length = 18
  lo : ∀ i, i < 9 → b[2 * i]? = some (eR (A i).1)
  hi : ∀ i, i < 9 → wdN i = true → b[2 * i + 1]? = some (eR (A i).2)
theorem RelR.congr {A A' : Rg} {b : Vals} (h : RelR A b) (e1 : ∀ i, i < 9 → (A i).1 = (A' i).1) (e2 : ∀ i, i < 9 → wdN i = true → (A i).2 = (A' i).2) : RelR A' b :=
  ⟨h.len, fun i hi => by rw [← e1 i hi]; exact h.lo i hi, fun i hi hw => by rw [← e2 i hi hw]; exact h.hi i hi hw⟩
theorem RelR.put {A : Rg} {b b' : Vals} (h : RelR A b) {i : Nat} (hi : i < 9) {x : Option Nat × Option Nat} (hl : b'.length = 18) (h1 : b'[2 * i]? = some (eR x.1)) (h2 : wdN i = true → b'[2 * i + 1]? = some (eR x.2)) (h3 : ∀ j : Nat, j ≠ 2 * i → j ≠ 2 * i + 1 → b'[j]? = b[j]?) : RelR (putA A i x) b' := by
  refine ⟨hl, fun j hj => ?_, fun j hj hw => ?_⟩
  · unfold putA
    by_cases hji : j = i
    · subst hji; rw [if_pos rfl]; exact h1
    · rw [if_neg hji, h3 _ (by omega) (by omega)]; exact h.lo j hj
  · unfold putA
    by_cases hji : j = i
    · subst hji; rw [if_pos rfl]; exact h2 hw
    · rw [if_neg hji, h3 _ (by omega) (by omega)]; exact h.hi j hj hw
theorem wdN_ge {i : Nat} (hi : i < 9) : decide ((i : Int) ≥ 7) = wdN i := by
  have : i = 0 ∨ i = 1 ∨ i = 2 ∨ i = 3 ∨ i = 4 ∨ i = 5 ∨ i = 6 ∨ i = 7 ∨ i = 8 := by omega
  rcases this with rfl | rfl | rfl | rfl | rfl | rfl | rfl | rfl | rfl <;> rfl
theorem wideR_ev {i : Nat} (hi : i < 9) : Ev (fun k => wide131 k (i : Int)) (wdN i, ()) := by
  unfold wide131
  exact .now' (by rw [wdN_ge hi])
theorem two_in {i : Nat} (hi : i < 9) : (if 0 ≤ ((2 * i : Nat) : Int) ∧ ((2 * i : Nat) : Int) < 18 then some () else none) = some () := if_pos ⟨by omega, by omega⟩
theorem two1_in {i : Nat} (hi : i < 9) : (if 0 ≤ ((2 * i + 1 : Nat) : Int) ∧ ((2 * i + 1 : Nat) : Int) < 18 then some () else none) = some () := if_pos ⟨by omega, by omega⟩
theorem w2 {i : Nat} (hi : i < 9) : w64 (2 * (i : Int)) = ((2 * i : Nat) : Int) := by rw [w64_id (by omega) (by omega)]; omega
theorem w21 {i : Nat} (hi : i < 9) : w64 (((2 * i : Nat) : Int) + 1) = ((2 * i + 1 : Nat) : Int) := by rw [w64_id (by omega) (by omega)]; omega
theorem size_r {i : Nat} (hi : i < 9) : Ev (fun k => size165 k (i : Int)) (cond (wdN i) 16 8, ()) := by
  unfold size165
  refine .bind (wideR_ev hi) ?_
  cases wdN i with
  | true => exact .yes rfl (.now _)
  | false => exact .no rfl (.now _)
section
variable {A : Rg} {b : Vals} {o1 : Vals}
theorem get_r (h : RelR A b) (hA : Inv A) {i : Nat} (hi : i < 9) : Ev (fun k => get96 k () (i : Int) (b, ()) o1) (eR (wholeA A i), (b, ()), o1) := by
  have h1 := h.lo i hi
  obtain ⟨b1, b2⟩ := hA i
  unfold get96 wholeA
  simp only [w2 hi, w21 hi]
  refine .bind (wideR_ev hi) ?_
  cases hw : wdN i with
  | false => exact .yes rfl (.val (two_in hi) (.val (rd_some' h1) (.now _)))
  | true =>
    have h2 := h.hi i hi hw
    refine .no rfl (.val (two_in hi) (.val (rd_some' h1) (.val (two1_in hi) (.val (rd_some' h2) ?_))))
    rw [if_pos rfl]
    cases e1 : (A i).1 with
    | none => exact .bind ((thenC_2 16).1 none _ (.inl rfl)) (.now _)
    | some l =>
      cases e2 : (A i).2 with
      | none => exact .bind ((thenC_2 16).1 (some l) none (.inr rfl)) (.now _)
      | some hh =>
        have hl1 := b1 l e1
        have hl2 := b2 hh e2
        have hw3 : w64 ((l : Int) + w64 (256 * (hh : Int))) = ((l + 256 * hh : Nat) : Int) := by
          rw [w64_id (x := 256 * (hh : Int)) (by omega) (by omega), w64_id (by omega) (by omega)]; omega
        have hk := known_ev (x := ((l + 256 * hh : Nat) : Int)) (by omega) (bits := 16) (M := 65536) (.inr ⟨rfl, rfl⟩)
        rw [show ((l + 256 * hh : Nat) : Int) % 65536 = ((l + 256 * hh : Nat) : Int) by omega, ← hw3] at hk
        refine .bind ((thenC_2 16).2 l hh _ hk) (.now' ?_)
        rw [hw3]; rfl
theorem quo256n {n : Nat} (h : n < 65536) : quoI .i64 (n : Int) 256 = ((n / 256 : Nat) : Int) := by
  have e : Int.tdiv (n : Int) ((256 : Nat) : Int) = ((n / 256 : Nat) : Int) := (Int.ofNat_tdiv n 256).symm
  show IntKind.wrap .i64 (Int.tdiv (n : Int) ((256 : Nat) : Int)) = _
  rw [e]
  exact wrap64_nat (by omega)
theorem put93_r (h : RelR A b) {i : Nat} (hi : i < 9) {v : Option Nat} (hv : ∀ n, v = some n → n < 65536) : ∃ b', RelR (setA A i v) b' ∧ Ev (fun k => put93 k () (i : Int) (eR v) b) ((), b') := by
  have h1 := h.lo i hi
  have hl := h.len
  have eA : Ev (fun k => then129 k 8 () [eR v]) (eR (v.map (· % 256)), ()) := by
    cases v with
    | none => exact (thenA_1 8).1 none rfl
    | some n =>
      have := hv n rfl
      have hk := known_ev (x := (n : Int)) (by omega) (bits := 8) (M := 256) (.inl ⟨rfl, rfl⟩)
      exact ((thenA_1 8).2 n _ hk).to (by show (((n : Int) % 256, true), ()) = ((((n % 256 : Nat) : Int), true), ()); rw [Int.natCast_emod]; rfl)
  have eB : Ev (fun k => then129' k 8 () [eR v]) (eR (v.map (fun n => n / 256 % 256)), ()) := by
    cases v with
    | none => exact (thenB_1 8).1 none rfl
    | some n =>
      have := hv n rfl
      have hq : quoI .i64 (n : Int) 256 = ((n / 256 : Nat) : Int) := quo256n this
      have hk := known_ev (x := ((n / 256 : Nat) : Int)) (by omega) (bits := 8) (M := 256) (.inl ⟨rfl, rfl⟩)
      rw [← hq] at hk
      exact ((thenB_1 8).2 n _ hk).to (by rw [hq]; show ((((n / 256 : Nat) : Int) % 256, true), ()) = ((((n / 256 % 256 : Nat) : Int), true), ()); rw [Int.natCast_emod]; rfl)
  cases hw : wdN i with
  | false =>
    refine ⟨b.set (2 * i) (eR (v.map (· % 256))), h.put hi (by rw [List.length_set]; exact hl) (by rw [List.getElem?_set_self (by omega)]) (fun e => by rw [hw] at e; cases e) (fun j j1 _ => by rw [List.getElem?_set_ne (fun e => j1 e.symm)]), ?_⟩
    unfold put93
    simp only [w2 hi, w21 hi]
    refine .bind eA (.val (two_in hi) (.val (rd_some' h1) (.bind (wideR_ev hi) (.bind (a := (b.set (2 * i) (eR (v.map (· % 256))))) (.no hw (.now' (by rw [Int.toNat_natCast]))) (.now _)))))
  | true =>
    have h2 := h.hi i hi hw
    refine ⟨(b.set (2 * i) (eR (v.map (· % 256)))).set (2 * i + 1) (eR (v.map (fun n => n / 256 % 256))), h.put hi (by rw [List.length_set, List.length_set]; exact hl) (by rw [List.getElem?_set_ne (by omega), List.getElem?_set_self (by omega)]) (fun _ => by rw [List.getElem?_set_self (by rw [List.length_set]; omega)]) (fun j j1 j2 => by rw [List.getElem?_set_ne (fun e => j2 e.symm), List.getElem?_set_ne (fun e => j1 e.symm)]), ?_⟩
    unfold put93
    simp only [w2 hi, w21 hi]
    refine .bind eA (.val (two_in hi) (.val (rd_some' h1) (.bind (wideR_ev hi) (.bind (a := ((b.set (2 * i) (eR (v.map (· % 256)))).set (2 * i + 1) (eR (v.map (fun n => n / 256 % 256))))) (.yes hw (.bind eB (.val (two1_in hi) (.val (a := eR (A i).2) ?_ (.now' (by rw [Int.toNat_natCast, Int.toNat_natCast])))))) (.now _)))))
    rw [Int.toNat_natCast]
    exact rd_some' (by rw [List.getElem?_set_ne (by omega)]; exact h2)
theorem put93'_r (h : RelR A b) {i : Nat} (hi : i < 9) {v : Option Nat} (hv : ∀ n, v = some n → n < 65536) : ∃ b', RelR (setA A i v) b' ∧ Ev (fun k => put93' k () (i : Int) (eR v) (b, ()) o1) ((), (b', ()), o1) := by
  have h1 := h.lo i hi
  have hl := h.len
  have eA : Ev (fun k => then129 k 8 () [eR v]) (eR (v.map (· % 256)), ()) := by
    cases v with
    | none => exact (thenA_1 8).1 none rfl
    | some n =>
      have := hv n rfl
      have hk := known_ev (x := (n : Int)) (by omega) (bits := 8) (M := 256) (.inl ⟨rfl, rfl⟩)
      exact ((thenA_1 8).2 n _ hk).to (by show (((n : Int) % 256, true), ()) = ((((n % 256 : Nat) : Int), true), ()); rw [Int.natCast_emod]; rfl)
  have eB : Ev (fun k => then129' k 8 () [eR v]) (eR (v.map (fun n => n / 256 % 256)), ()) := by
    cases v with
    | none => exact (thenB_1 8).1 none rfl
    | some n =>
      have := hv n rfl
      have hq : quoI .i64 (n : Int) 256 = ((n / 256 : Nat) : Int) := quo256n this
      have hk := known_ev (x := ((n / 256 : Nat) : Int)) (by omega) (bits := 8) (M := 256) (.inl ⟨rfl, rfl⟩)
      rw [← hq] at hk
      exact ((thenB_1 8).2 n _ hk).to (by rw [hq]; show ((((n / 256 : Nat) : Int) % 256, true), ()) = ((((n / 256 % 256 : Nat) : Int), true), ()); rw [Int.natCast_emod]; rfl)
  cases hw : wdN i with
  | false =>
    refine ⟨b.set (2 * i) (eR (v.map (· % 256))), h.put hi (by rw [List.length_set]; exact hl) (by rw [List.getElem?_set_self (by omega)]) (fun e => by rw [hw] at e; cases e) (fun j j1 _ => by rw [List.getElem?_set_ne (fun e => j1 e.symm)]), ?_⟩
    unfold put93'
    simp only [w2 hi, w21 hi]
    refine .bind eA (.val (two_in hi) (.val (rd_some' h1) (.bind (wideR_ev hi) (.bind (a := (((b.set (2 * i) (eR (v.map (· % 256)))), ()), o1)) (.no hw (.now' (by rw [Int.toNat_natCast]))) (.now _)))))
  | true =>
    have h2 := h.hi i hi hw
    refine ⟨(b.set (2 * i) (eR (v.map (· % 256)))).set (2 * i + 1) (eR (v.map (fun n => n / 256 % 256))), h.put hi (by rw [List.length_set, List.length_set]; exact hl) (by rw [List.getElem?_set_ne (by omega), List.getElem?_set_self (by omega)]) (fun _ => by rw [List.getElem?_set_self (by rw [List.length_set]; omega)]) (fun j j1 j2 => by rw [List.getElem?_set_ne (fun e => j2 e.symm), List.getElem?_set_ne (fun e => j1 e.symm)]), ?_⟩
    unfold put93'
    simp only [w2 hi, w21 hi]
    refine .bind eA (.val (two_in hi) (.val (rd_some' h1) (.bind (wideR_ev hi) (.bind (a := ((((b.set (2 * i) (eR (v.map (· % 256)))).set (2 * i + 1) (eR (v.map (fun n => n / 256 % 256)))), ()), o1)) (.yes hw (.bind eB (.val (two1_in hi) (.val (a := eR (A i).2) ?_ (.now' (by rw [Int.toNat_natCast, Int.toNat_natCast])))))) (.now _)))))
    rw [Int.toNat_natCast]
    exact rd_some' (by rw [List.getElem?_set_ne (by omega)]; exact h2)
theorem add_congr {i : Nat} {by_ M bits : Int} (hbit : bits = 8 ∧ M = 256 ∧ wdN i = false ∨ bits = 16 ∧ M = 65536 ∧ wdN i = true) (h : RelR (setA A i ((wholeA A i).map fun n => (((n : Int) + by_) % M).toNat)) b) : RelR (addA A i by_) b := by
  refine h.congr (fun j hj => ?_) (fun j hj hw => ?_)
  · unfold addA setA putA
    by_cases hji : j = i
    · rw [if_pos hji, if_pos hji]
      cases wholeA A i with
      | none => rfl
      | some m =>
        show some ((((m : Int) + by_) % M).toNat % 256) = some ((((m : Int) + by_) % 65536).toNat % 256)
        rcases hbit with ⟨_, rfl, _⟩ | ⟨_, rfl, _⟩ <;> congr 1 <;> omega
    · rw [if_neg hji, if_neg hji]
  · unfold addA setA putA
    by_cases hji : j = i
    · rw [if_pos hji, if_pos hji]
      subst hji
      have : M = 65536 := by
        rcases hbit with ⟨_, _, c⟩ | ⟨_, c, _⟩
        · rw [hw] at c; cases c
        · exact c
      subst this
      cases wholeA A j <;> rfl
    · rw [if_neg hji, if_neg hji]
theorem plus_r (h : RelR A b) (hA : Inv A) {i : Nat} (hi : i < 9) {by_ : Int} (hb : -70000 ≤ by_ ∧ by_ ≤ 70000) : ∃ b', RelR (addA A i by_) b' ∧ Ev (fun k => cycle1164 k (i : Int) by_ () () (b, ()) o1) ((), (), (b', ()), o1) := by
  have hg := get_r (o1 := o1) h hA hi
  obtain ⟨M, bits, hM, hbit⟩ : ∃ M bits : Int, cond (wdN i) 16 8 = bits ∧ (bits = 8 ∧ M = 256 ∧ wdN i = false ∨ bits = 16 ∧ M = 65536 ∧ wdN i = true) := by
    cases wdN i with
    | true => exact ⟨65536, 16, rfl, .inr ⟨rfl, rfl, rfl⟩⟩
    | false => exact ⟨256, 8, rfl, .inl ⟨rfl, rfl, rfl⟩⟩
  have hMb : bits = 8 ∧ M = 256 ∨ bits = 16 ∧ M = 65536 := by
    rcases hbit with ⟨a, b, _⟩ | ⟨a, b, _⟩
    · exact .inl ⟨a, b⟩
    · exact .inr ⟨a, b⟩
  have hs := size_r hi
  rw [hM] at hs
  have eD : Ev (fun k => then129''' k bits (by_, ()) [eR (wholeA A i)]) (eR ((wholeA A i).map fun n => (((n : Int) + by_) % M).toNat), ()) := by
    cases hwh : wholeA A i with
    | none => exact (thenD_1 bits by_).1 none rfl
    | some n =>
      have := whole_lt hA hwh
      have hw : w64 ((n : Int) + by_) = (n : Int) + by_ := w64_id (by omega) (by omega)
      have hk := known_ev (x := (n : Int) + by_) (by omega) hMb
      rw [← hw] at hk
      refine ((thenD_1 bits by_).2 n _ hk).to ?_
      rw [hw]
      show ((((n : Int) + by_) % M, true), ()) = (((((((n : Int) + by_) % M).toNat : Nat) : Int), true), ())
      rw [Int.toNat_of_nonneg (Int.emod_nonneg _ (by omega))]
  obtain ⟨b', g1, g2⟩ := put93'_r (o1 := o1) h hi (v := (wholeA A i).map fun n => (((n : Int) + by_) % M).toNat) (fun n hn => by
    cases hwh : wholeA A i with
    | none => rw [hwh] at hn; cases hn
    | some m =>
      rw [hwh] at hn; cases hn
      show (((m : Int) + by_) % M).toNat < 65536
      rcases hMb with ⟨_, rfl⟩ | ⟨_, rfl⟩ <;> omega)
  refine ⟨b', add_congr hbit g1, ?_⟩
  unfold cycle1164
  have one : Ev (fun k => (get96 k () (i : Int) (b, ()) o1).bind fun t16 => (then129''' k bits (by_, ()) [t16.1]).bind fun t18 => (put93' k () (i : Int) t18.1 (t16.2.1.1, ()) t16.2.2).bind fun t19 => (some ((), (t19.2.1.1, t19.2.1.2), t19.2.2) : Option (Unit × (WalkU × Vals)))) ((), (b', ()), o1) := .bind hg (.bind eD (.bind g2 (.now _)))
  exact .bind (a := ((), (b', ()), o1)) (Ev.agr (.bind hs one) (.bind hs (Ev.agr one one))) (.now _)
theorem read_r {code : Cod} (hd : OkD code) {a : Option Nat} (ha : ∀ n, a = some n → n < 65536) : Ev (fun k => read167 k code (eR a)) (eR (atI code (eP a)), ()) := by
  have hl := hd.len
  have hbs := hd.base
  unfold read167
  have hw : w64 (code.1 + (code.2.1.length : Int)) = code.1 + (code.2.1.length : Int) := w64_id (by omega) (by omega)
  cases a with
  | none =>
    have : atI code (eP none) = none := if_neg (fun h => by have h : 0 ≤ (-1 : Int) := h.1; omega)
    rw [this]
    exact .yes rfl (.now _)
  | some n =>
    have hn := ha n rfl
    by_cases hin : code.1 ≤ (n : Int) ∧ (n : Int) < code.1 + (code.2.1.length : Int)
    · have e : atI code (eP (some n)) = some (code.2.1.getD ((n : Int) - code.1).toNat 0).toNat := if_pos ⟨by show (0 : Int) ≤ (n : Int); omega, hin.1, hin.2⟩
      have hg : code.2.1[((n : Int) - code.1).toNat]? = some (code.2.1.getD ((n : Int) - code.1).toNat 0) := by
        rw [List.getD_eq_getElem?_getD, List.getElem?_eq_getElem (by omega)]; rfl
      have hb := hd.byte _ (get_mem hg)
      have hw2 : w64 ((n : Int) - code.1) = (n : Int) - code.1 := w64_id (by omega) (by omega)
      rw [e]
      generalize code.2.1.getD ((n : Int) - code.1).toNat 0 = y at hg hb
      have hk := known_ev (x := y) (by omega) (bits := 8) (M := 256) (.inl ⟨rfl, rfl⟩)
      have hy : w64 y = y := w64_id (by omega) (by omega)
      refine .no ?_ (.val (a := y) ?_ ?_)
      · show cond (cond false true (decide ((n : Int) < code.1))) true (decide ((n : Int) ≥ w64 (code.1 + (code.2.1.length : Int)))) = false
        rw [hw, decide_eq_false (by omega)]
        exact decide_eq_false (by omega)
      · show rd code.2.1 (w64 ((n : Int) - code.1)) = some y
        rw [hw2]
        exact rd_at (i := ((n : Int) - code.1).toNat) (by omega) hg
      · rw [hy]
        refine .bind hk (.now' ?_)
        show ((y % 256, true), ()) = ((((y.toNat : Nat) : Int), true), ())
        rw [show y % 256 = ((y.toNat : Nat) : Int) by omega]
    · have e : atI code (eP (some n)) = none := if_neg (fun h => hin ⟨h.2.1, h.2.2⟩)
      rw [e]
      refine .yes ?_ (.now _)
      show cond (cond false true (decide ((n : Int) < code.1))) true (decide ((n : Int) ≥ w64 (code.1 + (code.2.1.length : Int)))) = true
      rw [hw]
      by_cases h1 : (n : Int) < code.1
      · rw [decide_eq_true h1]; rfl
      · rw [decide_eq_false h1]
        exact decide_eq_true (by omega)
end
end Go.Proofs.YtcppmlgnceldmaaGreat.Fl

/- What is known of registers: the reference's cycles and steps. No program in sight. -/
set_option linter.unusedVariables false
set_option maxRecDepth 100000
noncomputable section
namespace Go.Proofs.YtcppmlgnceldmaaGreat.Fl
open Go Go.Proofs.YtcppmlgnceldmaaGreat.Gp

section
variable {A : Rg} {b : Vals} {code : Cod} {P : Psh}
theorem data_r (hd : OkD code) (hA : Inv A) {a : Int} (h : a = 0 ∨ a = 1) : eR (dataA code A a) = eR (atI code (eP (wholeA A 7))) := by unfold dataA; rw [if_pos h]
theorem cycle_r (hd : OkD code) (h : RelR A b) (hA : Inv A) {c : Cyc} (hc : OkC c) (hP : P.length ≤ 1000) (h0 : c.1 ≠ 0) : ∃ b', RelR (busA code A P c).1 b' ∧ Ev (fun k => cycle133 k () code c (b, ()) (P.map eR)) ((), (b', ()), (busA code A P c).2.map eR) := by
  obtain ⟨bus, at_, reg, steps⟩ := c
  have h0 : bus ≠ 0 := h0
  have hreg : 0 ≤ reg ∧ reg < 9 := hc.reg
  obtain ⟨i, rfl⟩ : ∃ i : Nat, reg = (i : Int) := ⟨reg.toNat, by omega⟩
  have hi : i < 9 := by omega
  have hbus : 0 ≤ bus ∧ bus ≤ 2 := hc.bus
  have hat : 0 ≤ at_ ∧ at_ < 12 := hc.at'
  have w0 := get_r (o1 := P.map eR) h hA hi
  have w7 := get_r (o1 := P.map eR) h hA (i := 7) (by decide)
  have hrd := read_r hd (a := wholeA A 7) (fun n hn => whole_lt hA hn)
  obtain ⟨ra, ha1, ha2⟩ := plus_r (o1 := P.map eR) h hA (i := 7) (by decide) (by_ := 1) (by decide)
  obtain ⟨rb, hb1, hb2⟩ := plus_r (o1 := P.map eR) h hA (i := 3) (by decide) (by_ := -1) (by decide)
  obtain ⟨rc, hc1, hc2⟩ := plus_r (o1 := P.map eR) h hA (i := 3) (by decide) (by_ := 1) (by decide)
  have fin : ∀ b1, RelR (movA A at_) b1 → ∃ b', RelR (busA code A P (bus, at_, (i : Int), steps)).1 b' ∧ Ev (fun k => Option.bind
      (cond (((bus, at_, (i : Int), steps) : Cyc).1 == 1)
        ((put93' k () ((bus, at_, (i : Int), steps) : Cyc).2.2.1 (eR (dataA code A at_)) (b1, ()) (P.map eR)).bind fun t57 =>
        some (t57.2.1, t57.2.2))
        (Option.bind
          (cond (((bus, at_, (i : Int), steps) : Cyc).2.1 == 4)
            (Option.bind
              ((if room (List.length (P.map eR) + List.length [eR (wholeA A i)]) 16 then some () else none).bind fun _ =>
                some (((b1, ()) : WalkU), (P.map eR ++ [eR (wholeA A i)])) : Option (WalkU × Vals)) fun ((o0_6, o1_6) : (WalkU × Vals)) =>
            some (o0_6, o1_6))
            (some ((b1, ()), P.map eR)) : Option (WalkU × Vals)) fun ((o0_7, o1_7) : (WalkU × Vals)) =>
        some (o0_7, o1_7)) : Option (WalkU × Vals)) fun ((o0_8, o1_8) : (WalkU × Vals)) =>
    (some ((), o0_8, o1_8) : Option (Unit × (WalkU × Vals)))) ((), (b', ()), (busA code A P (bus, at_, (i : Int), steps)).2.map eR) := by
    intro b1 hb1
    have eB : busA code A P (bus, at_, (i : Int), steps) = (if bus = 1 then setA (movA A at_) i (dataA code A at_) else movA A at_, if bus = 2 ∧ at_ = 4 then P ++ [wholeA A i] else P) := by
      unfold busA
      show (if bus = 1 then setA (movA A at_) (i : Int).toNat (dataA code A at_) else movA A at_, if bus = 2 ∧ at_ = 4 then P ++ [wholeA A (i : Int).toNat] else P) = _
      rw [Int.toNat_natCast]
    rw [eB]
    by_cases h1 : bus = 1
    · subst h1
      obtain ⟨b2, g1, g2⟩ := put93'_r (o1 := P.map eR) hb1 hi (v := dataA code A at_) (fun n hn => data_lt hd hn)
      refine ⟨b2, by rw [if_pos rfl]; exact g1, .bind (a := ((b2, ()), P.map eR)) (.yes rfl (.bind g2 (.now _))) (.now' ?_)⟩
      show ((), (b2, ()), P.map eR) = ((), (b2, ()), (if (1 : Int) = 2 ∧ at_ = 4 then P ++ [wholeA A i] else P).map eR)
      rw [if_neg (by omega)]
    · have hn1 : (bus == 1) = false := beq_false_of_ne h1
      have hb2 : bus = 2 := by omega
      refine ⟨b1, by rw [if_neg h1]; exact hb1, ?_⟩
      by_cases h4 : at_ = 4
      · rw [if_pos (show bus = 2 ∧ at_ = 4 from ⟨hb2, h4⟩)]
        refine .bind (a := ((b1, ()), P.map eR ++ [eR (wholeA A i)])) (.no hn1 (.bind (a := ((b1, ()), P.map eR ++ [eR (wholeA A i)])) (.yes (by rw [h4]; rfl) (.bind (a := ((b1, ()), P.map eR ++ [eR (wholeA A i)])) (.val (a := ()) (if_pos (room_ok (by rw [List.length_map]; simp only [List.length_cons, List.length_nil]; omega))) (.now _)) (.now _))) (.now _))) (.now' ?_)
        rw [List.map_append]; rfl
      · rw [if_neg (show ¬ (bus = 2 ∧ at_ = 4) from fun h => h4 h.2)]
        exact .bind (a := ((b1, ()), P.map eR)) (.no hn1 (.bind (a := ((b1, ()), P.map eR)) (.no (beq_false_of_ne h4) (.now _)) (.now _))) (.now _)
  unfold cycle133
  simp only [agree_self]
  have dN : ¬ (at_ = 0 ∨ at_ = 1) → eR (dataA code A at_) = (0, false) := fun h => by unfold dataA; rw [if_neg h]; rfl
  by_cases h00 : at_ = 0
  · subst h00
    obtain ⟨b', g1, g2⟩ := fin ra ha1
    rw [data_r hd hA (.inl rfl)] at g2
    exact ⟨b', g1, .no (beq_false_of_ne h0) (.bind (a := ((), code, (bus, 0, (i : Int), steps), eR (wholeA A i), (), (b, ()), P.map eR, (), 0, false)) (.bind w0 (.now _)) (.bind (a := ((), (bus, 0, (i : Int), steps), eR (wholeA A i), (), ((), ()), (b, ()), P.map eR, (), eR (atI code (eP (wholeA A 7))))) (.yes rfl (.bind w7 (.bind hrd (.now _)))) (.bind (a := ((), (bus, 0, (i : Int), steps), eR (wholeA A i), (), (ra, ()), P.map eR, (), eR (atI code (eP (wholeA A 7))))) (.yes rfl (.bind ha2 (.now _))) g2)))⟩
  by_cases h01 : at_ = 1
  · subst h01
    obtain ⟨b', g1, g2⟩ := fin b h
    rw [data_r hd hA (.inr rfl)] at g2
    exact ⟨b', g1, .no (beq_false_of_ne h0) (.bind (a := ((), code, (bus, 1, (i : Int), steps), eR (wholeA A i), (), (b, ()), P.map eR, (), 0, false)) (.bind w0 (.now _)) (.bind (a := ((), (bus, 1, (i : Int), steps), eR (wholeA A i), (), ((), ()), (b, ()), P.map eR, (), eR (atI code (eP (wholeA A 7))))) (.yes rfl (.bind w7 (.bind hrd (.now _)))) (.bind (a := ((), (bus, 1, (i : Int), steps), eR (wholeA A i), (), (b, ()), P.map eR, (), eR (atI code (eP (wholeA A 7))))) (.no rfl (.bind (a := ((), (bus, 1, (i : Int), steps), eR (wholeA A i), (), (b, ()), P.map eR, (), eR (atI code (eP (wholeA A 7))))) (.no rfl (.bind (a := ((), (bus, 1, (i : Int), steps), eR (wholeA A i), (), (b, ()), P.map eR, (), eR (atI code (eP (wholeA A 7))))) (.no rfl (.now _)) (.now _))) (.now _))) g2)))⟩
  have hd0 := dN (by omega)
  have ng : cond (at_ == 0) true (at_ == 1) = false := by rw [beq_false_of_ne h00]; exact beq_false_of_ne h01
  have n0 : (at_ == 0) = false := beq_false_of_ne h00
  by_cases h04 : at_ = 4
  · subst h04
    obtain ⟨b', g1, g2⟩ := fin rb hb1
    rw [hd0] at g2
    exact ⟨b', g1, .no (beq_false_of_ne h0) (.bind (a := ((), code, (bus, 4, (i : Int), steps), eR (wholeA A i), (), (b, ()), P.map eR, (), 0, false)) (.bind w0 (.now _)) (.bind (a := ((), (bus, 4, (i : Int), steps), eR (wholeA A i), (), ((), ()), (b, ()), P.map eR, (), (0, false))) (.no rfl (.now _)) (.bind (a := ((), (bus, 4, (i : Int), steps), eR (wholeA A i), (), (rb, ()), P.map eR, (), (0, false))) (.no rfl (.bind (a := ((), (bus, 4, (i : Int), steps), eR (wholeA A i), (), (rb, ()), P.map eR, (), (0, false))) (.yes rfl (.bind hb2 (.now _))) (.now _))) g2)))⟩
  have n4 : (at_ == 4) = false := beq_false_of_ne h04
  by_cases h05 : at_ = 5
  · subst h05
    obtain ⟨b', g1, g2⟩ := fin rc hc1
    rw [hd0] at g2
    exact ⟨b', g1, .no (beq_false_of_ne h0) (.bind (a := ((), code, (bus, 5, (i : Int), steps), eR (wholeA A i), (), (b, ()), P.map eR, (), 0, false)) (.bind w0 (.now _)) (.bind (a := ((), (bus, 5, (i : Int), steps), eR (wholeA A i), (), ((), ()), (b, ()), P.map eR, (), (0, false))) (.no rfl (.now _)) (.bind (a := ((), (bus, 5, (i : Int), steps), eR (wholeA A i), (), (rc, ()), P.map eR, (), (0, false))) (.no rfl (.bind (a := ((), (bus, 5, (i : Int), steps), eR (wholeA A i), (), (rc, ()), P.map eR, (), (0, false))) (.no rfl (.bind (a := ((), (bus, 5, (i : Int), steps), eR (wholeA A i), (), (rc, ()), P.map eR, (), (0, false))) (.yes rfl (.bind hc2 (.now _))) (.now _))) (.now _))) g2)))⟩
  have n5 : (at_ == 5) = false := beq_false_of_ne h05
  have hmov : movA A at_ = A := by unfold movA; rw [if_neg h00, if_neg h04, if_neg h05]
  obtain ⟨b', g1, g2⟩ := fin b (by rw [hmov]; exact h)
  rw [hd0] at g2
  exact ⟨b', g1, .no (beq_false_of_ne h0) (.bind (a := ((), code, (bus, at_, (i : Int), steps), eR (wholeA A i), (), (b, ()), P.map eR, (), 0, false)) (.bind w0 (.now _)) (.bind (a := ((), (bus, at_, (i : Int), steps), eR (wholeA A i), (), ((), ()), (b, ()), P.map eR, (), (0, false))) (.no ng (.now _)) (.bind (a := ((), (bus, at_, (i : Int), steps), eR (wholeA A i), (), (b, ()), P.map eR, (), (0, false))) (.no n0 (.bind (a := ((), (bus, at_, (i : Int), steps), eR (wholeA A i), (), (b, ()), P.map eR, (), (0, false))) (.no n4 (.bind (a := ((), (bus, at_, (i : Int), steps), eR (wholeA A i), (), (b, ()), P.map eR, (), (0, false))) (.no n5 (.now _)) (.now _))) (.now _))) g2)))⟩
end
end Go.Proofs.YtcppmlgnceldmaaGreat.Fl
