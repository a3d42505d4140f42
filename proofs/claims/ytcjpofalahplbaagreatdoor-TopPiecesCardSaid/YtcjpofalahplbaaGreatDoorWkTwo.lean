/- A part of the proof that radiolinktop.TopPieces returns true for every list of numbers. -/
import Derived.Test.YtcjpofalahplbaaGreatDoorSymOne
section
set_option linter.unusedVariables false
set_option linter.unusedSimpArgs false
set_option maxRecDepth 100000
set_option maxHeartbeats 4000000
namespace Go.Eng
open Go Go.RowKit Go.Proofs
section
variable (p : Poly) (T : List (Nat × (List AV → Option AV)))
theorem w31 (h : (envL p T).sp 31 = none) (h103 : (envL p T).sp 103 = some (treeSp F103)) (h104 : (envL p T).sp 104 = some (treeSp F104)) (h105 : (envL p T).sp 105 = some (treeSp F105)) (h106 : (envL p T).sp 106 = some (treeSp F106)) (h107 : (envL p T).sp 107 = some (treeSp F107)) (h108 : (envL p T).sp 108 = some (treeSp F108)) (x : Pc) (c : Option Nat) (n : Nat) (hx : x.Ok) (hn5 : 5 ≤ n) (hn : n ≤ 1000) (hc : ∀ k, c = some k → x.bs.length ≤ k) : CallTo (envL p T) 31 [i64 6, x.v 0 false c, i64 n] Hp.empty fun v hp' => frz true hp' 20 v = some (.tup [cutA1 x n, cutA2 x n, i64 0]) := by
  have hI := IsH.empty
  have hm := hx.most
  have hp := Pc.pos hx
  have hne := hx.ne
  have hq : F104 [i64 6, x.v 0 false c] = some (bo true) := F104_eq hx (by decide) (by decide)
  obtain ⟨off, last, bs⟩ := x
  unfold cutA1 cutA2
  unfold Pc.v pcV Pc.part at *
  simp only at hm hp hq hne hc ⊢
  by_cases h0 : off = 0
  · subst h0
    simp only [beq_self_eq_true, if_true] at hq ⊢
    cases last with
    | true =>
      simp only [partF, if_true] at hq ⊢
      have hh : (headF 0).toNat = 2 := rfl
      rw [hh]
      by_cases hs : 2 + bs.length ≤ n
      · rw [if_pos hs, if_pos hs]
        refine CallTo.body (c := (Tryz.f31.body.getD .skip)) (nt := 75) (rs := #[.cell 6 79, .cell 7 79, .tmp 8]) (by assumption) (by kernel_rfl) ⟨by simp, by decide⟩ ?_
        show Ev _ (Code.seq _ _) _ _
        simp only [tmOf_cons, tmOf_nil, i64, bo, u8, nilS, Nat.zero_add, Nat.reduceAdd]
        refine Ev.seq ?_
        refine Ev.rg [0, 1, 2, 3] ?_
        refine RunTo.freeM rfl (RunOn.madeL (k := 0) hI rfl rfl (by decide) rfl Z15 Z5 ?_)
        intro hp1 hI1
        simp only [List.cons_append, List.nil_append, evc, repA, Eng.setMany, List.set_cons_zero, List.set_cons_succ, Nat.zero_mul, Nat.one_mul, List.take_succ_cons, List.take_zero, List.drop_zero, List.drop_succ_cons, Nat.zero_add, Nat.reduceAdd, Nat.reduceMul] at hI1
        refine RunTo.freeM rfl (RunOn.madeL (k := 1) hI1 rfl rfl (by decide) rfl Z31 Z5 ?_)
        intro hp2 hI2
        simp only [List.cons_append, List.nil_append, evc, repA, Eng.setMany, List.set_cons_zero, List.set_cons_succ, Nat.zero_mul, Nat.one_mul, List.take_succ_cons, List.take_zero, List.drop_zero, List.drop_succ_cons, Nat.zero_add, Nat.reduceAdd, Nat.reduceMul] at hI2
        refine RunTo.freeM rfl (RunOn.madeL (k := 2) hI2 rfl rfl (by decide) rfl Z31 Z5 ?_)
        intro hp3 hI3
        simp only [List.cons_append, List.nil_append, evc, repA, Eng.setMany, List.set_cons_zero, List.set_cons_succ, Nat.zero_mul, Nat.one_mul, List.take_succ_cons, List.take_zero, List.drop_zero, List.drop_succ_cons, Nat.zero_add, Nat.reduceAdd, Nat.reduceMul] at hI3
        refine Rp rfl Z1 ?_
        refine RunTo.nil ?_
        refine Ev.seq ?_
        refine Ev.rg [0, 1, 2, 3] ?_
        refine Rp rfl Z17 ?_
        refine Rl rfl Z7 ?_
        refine RunTo.freeM rfl (RunOn.tree rfl rfl (by decide) Z1 Z1 (by assumption) Z8 Z62 ?_)
        rw [show headF 0 = 2 from rfl]
        refine Rp rfl Z1 ?_
        refine RunTo.nil ?_
        refine Ev.seq ?_
        refine Ev.block ?_
        refine Ev.seq ?_
        refine Ev.rg [0, 1, 2, 3, 4] ?_
        refine Rp rfl Z1 ?_
        refine Rl rfl Z14 ?_
        refine RunTo.freeM rfl (RunOn.tree rfl rfl (by decide) Z1 Z1 (by assumption) Z8 (by exact hq) ?_)
        refine Rp rfl Z16 ?_
        refine Rp rfl Z1 ?_
        refine RunTo.nil ?_
        refine Ev.condF Z1 ?_
        refine Ev.seq ?_
        refine Ev.rg [0, 1, 2, 3, 4] ?_
        refine Rp rfl Z1 ?_
        refine Rp rfl Z1 ?_
        refine Rp rfl Z49 ?_
        refine Rp rfl Z18 ?_
        refine Rp rfl Z1 ?_
        refine RunTo.nil ?_
        refine Ev.condF Z1 ?_
        refine Ev.skip ?_
        refine Ev.seq ?_
        refine Ev.rg [0, 1] ?_
        refine Rl rfl Z14 ?_
        refine RunTo.freeM rfl (RunOn.storeL (n := 5) hI3 rfl rfl Z1 Z1 (by kernel_rfl) Z6 Z6 (by rfl) Z9 Z5 ?_)
        intro hp4 hI4
        simp only [set_last, List.set_set, List.set_cons_zero, List.set_cons_succ, List.take_succ_cons, List.take_zero, List.drop_succ_cons, List.drop_zero, Eng.setMany, evc, Nat.zero_add, Nat.reduceAdd, Nat.reduceMul, Nat.reduceSub] at hI4
        refine RunTo.nil ?_
        refine Ev.seq ?_
        refine Ev.rg [0, 1, 2, 3, 4] ?_
        refine Rp rfl Z12 ?_
        refine Rl rfl Z7 ?_
        refine RunTo.freeM rfl (RunOn.tree rfl rfl (by decide) Z1 Z1 (by assumption) Z8 (by exact F105_eq hne (by omega)) ?_)
        refine Rp rfl Z12 ?_
        refine RunTo.freeM rfl (RunOn.storeL (n := 1) hI4 rfl rfl Z1 Z1 (by kernel_rfl) Z6 Z6 (by rfl) Z9 Z5 ?_)
        intro hp5 hI5
        simp only [set_last, List.set_set, List.set_cons_zero, List.set_cons_succ, List.take_succ_cons, List.take_zero, List.drop_succ_cons, List.drop_zero, Eng.setMany, evc, Nat.zero_add, Nat.reduceAdd, Nat.reduceMul, Nat.reduceSub] at hI5
        refine RunTo.nil ?_
        refine Ev.seq ?_
        refine Ev.seq ?_
        refine Ev.rg [0, 1, 2, 3, 4, 5, 6] ?_
        refine Rp rfl Z1 ?_
        refine Rp rfl Z12 ?_
        refine Rl rfl Z7 ?_
        refine Rp rfl Z27 ?_
        refine Rp rfl Z34 ?_
        refine Rp rfl Z1 ?_
        refine Rp rfl Z61 ?_
        refine RunTo.nil ?_
        refine Ev.condT Z1 ?_
        refine Ev.seq ?_
        refine Ev.rg [0, 1, 2, 3, 4] ?_
        refine Rl rfl Z14 ?_
        refine Rp rfl Z80 ?_
        refine RunTo.freeM rfl (RunOn.storeL (n := 5) hI5 rfl rfl Z1 Z1 (by kernel_rfl) Z6 Z6 (by rfl) Z9 Z5 ?_)
        intro hp6 hI6
        simp only [set_last, List.set_set, List.set_cons_zero, List.set_cons_succ, List.take_succ_cons, List.take_zero, List.drop_succ_cons, List.drop_zero, Eng.setMany, evc, Nat.zero_add, Nat.reduceAdd, Nat.reduceMul, Nat.reduceSub] at hI6
        refine RunTo.freeM rfl (RunOn.storeL (n := 5) hI6 rfl rfl Z1 Z1 (by kernel_rfl) Z6 Z6 (by rfl) Z9 Z5 ?_)
        intro hp7 hI7
        simp only [set_last, List.set_set, List.set_cons_zero, List.set_cons_succ, List.take_succ_cons, List.take_zero, List.drop_succ_cons, List.drop_zero, Eng.setMany, evc, Nat.zero_add, Nat.reduceAdd, Nat.reduceMul, Nat.reduceSub] at hI7
        refine Rp rfl Z1 ?_
        refine RunTo.nil ?_
        refine Ev.ret ⟨.inr rfl, _, resC3 Z14 Z14, ?_⟩
        simp only [lk_up, lk_lf, Nat.reduceEqDiff, Nat.reduceLT, reduceIte, if_true, if_false, Nat.zero_add, i64, bo, u8, nilS, List.take_succ_cons, List.take_zero, List.drop_zero, List.drop_succ_cons]
        repeat first | exact allO_nil | with_reducible apply allO_cons | exact frz_sc | with_reducible exact frz_by1 _ _ | with_reducible exact frz_rg1 _ _ | with_reducible exact frz_par1 _ | with_reducible apply frz_ro1 | with_reducible apply frz_agg | with_reducible apply frz_tup
      · rw [if_neg hs, if_neg hs]
        have hd : bs.drop (n - 2) ≠ [] := by
          intro k
          have := congrArg List.length k
          simp at this
          omega
        have hoff : (((0 : Nat) : Int) + ((n : Int) - 2)) = ((n - 2 : Nat) : Int) := by omega
        refine CallTo.body (c := (Tryz.f31.body.getD .skip)) (nt := 75) (rs := #[.cell 6 79, .cell 7 79, .tmp 8]) (by assumption) (by kernel_rfl) ⟨by simp, by decide⟩ ?_
        show Ev _ (Code.seq _ _) _ _
        simp only [tmOf_cons, tmOf_nil, i64, bo, u8, nilS, Nat.zero_add, Nat.reduceAdd]
        refine Ev.seq ?_
        refine Ev.rg [0, 1, 2, 3] ?_
        refine RunTo.freeM rfl (RunOn.madeL (k := 0) hI rfl rfl (by decide) rfl Z15 Z5 ?_)
        intro hp1 hI1
        simp only [List.cons_append, List.nil_append, evc, repA, Eng.setMany, List.set_cons_zero, List.set_cons_succ, Nat.zero_mul, Nat.one_mul, List.take_succ_cons, List.take_zero, List.drop_zero, List.drop_succ_cons, Nat.zero_add, Nat.reduceAdd, Nat.reduceMul] at hI1
        refine RunTo.freeM rfl (RunOn.madeL (k := 1) hI1 rfl rfl (by decide) rfl Z31 Z5 ?_)
        intro hp2 hI2
        simp only [List.cons_append, List.nil_append, evc, repA, Eng.setMany, List.set_cons_zero, List.set_cons_succ, Nat.zero_mul, Nat.one_mul, List.take_succ_cons, List.take_zero, List.drop_zero, List.drop_succ_cons, Nat.zero_add, Nat.reduceAdd, Nat.reduceMul] at hI2
        refine RunTo.freeM rfl (RunOn.madeL (k := 2) hI2 rfl rfl (by decide) rfl Z31 Z5 ?_)
        intro hp3 hI3
        simp only [List.cons_append, List.nil_append, evc, repA, Eng.setMany, List.set_cons_zero, List.set_cons_succ, Nat.zero_mul, Nat.one_mul, List.take_succ_cons, List.take_zero, List.drop_zero, List.drop_succ_cons, Nat.zero_add, Nat.reduceAdd, Nat.reduceMul] at hI3
        refine Rp rfl Z1 ?_
        refine RunTo.nil ?_
        refine Ev.seq ?_
        refine Ev.rg [0, 1, 2, 3] ?_
        refine Rp rfl Z17 ?_
        refine Rl rfl Z7 ?_
        refine RunTo.freeM rfl (RunOn.tree rfl rfl (by decide) Z1 Z1 (by assumption) Z8 Z62 ?_)
        rw [show headF 0 = 2 from rfl]
        refine Rp rfl Z1 ?_
        refine RunTo.nil ?_
        refine Ev.seq ?_
        refine Ev.block ?_
        refine Ev.seq ?_
        refine Ev.rg [0, 1, 2, 3, 4] ?_
        refine Rp rfl Z1 ?_
        refine Rl rfl Z14 ?_
        refine RunTo.freeM rfl (RunOn.tree rfl rfl (by decide) Z1 Z1 (by assumption) Z8 (by exact hq) ?_)
        refine Rp rfl Z16 ?_
        refine Rp rfl Z1 ?_
        refine RunTo.nil ?_
        refine Ev.condF Z1 ?_
        refine Ev.seq ?_
        refine Ev.rg [0, 1, 2, 3, 4] ?_
        refine Rp rfl Z1 ?_
        refine Rp rfl Z1 ?_
        refine Rp rfl Z49 ?_
        refine Rp rfl Z18 ?_
        refine Rp rfl Z1 ?_
        refine RunTo.nil ?_
        refine Ev.condF Z1 ?_
        refine Ev.skip ?_
        refine Ev.seq ?_
        refine Ev.rg [0, 1] ?_
        refine Rl rfl Z14 ?_
        refine RunTo.freeM rfl (RunOn.storeL (n := 5) hI3 rfl rfl Z1 Z1 (by kernel_rfl) Z6 Z6 (by rfl) Z9 Z5 ?_)
        intro hp4 hI4
        simp only [set_last, List.set_set, List.set_cons_zero, List.set_cons_succ, List.take_succ_cons, List.take_zero, List.drop_succ_cons, List.drop_zero, Eng.setMany, evc, Nat.zero_add, Nat.reduceAdd, Nat.reduceMul, Nat.reduceSub] at hI4
        refine RunTo.nil ?_
        refine Ev.seq ?_
        refine Ev.rg [0, 1, 2, 3, 4] ?_
        refine Rp rfl Z12 ?_
        refine Rl rfl Z7 ?_
        refine RunTo.freeM rfl (RunOn.tree rfl rfl (by decide) Z1 Z1 (by assumption) Z8 (by exact F105_eq hne (by omega)) ?_)
        refine Rp rfl Z12 ?_
        refine RunTo.freeM rfl (RunOn.storeL (n := 1) hI4 rfl rfl Z1 Z1 (by kernel_rfl) Z6 Z6 (by rfl) Z9 Z5 ?_)
        intro hp5 hI5
        simp only [set_last, List.set_set, List.set_cons_zero, List.set_cons_succ, List.take_succ_cons, List.take_zero, List.drop_succ_cons, List.drop_zero, Eng.setMany, evc, Nat.zero_add, Nat.reduceAdd, Nat.reduceMul, Nat.reduceSub] at hI5
        refine RunTo.nil ?_
        refine Ev.seq ?_
        refine Ev.seq ?_
        refine Ev.rg [0, 1, 2, 3, 4, 5, 6] ?_
        refine Rp rfl Z1 ?_
        refine Rp rfl Z12 ?_
        refine Rl rfl Z7 ?_
        refine Rp rfl Z27 ?_
        refine Rp rfl Z34 ?_
        refine Rp rfl Z1 ?_
        refine Rp rfl Z73 ?_
        refine RunTo.nil ?_
        refine Ev.condF Z1 ?_
        refine Ev.skip ?_
        refine Ev.seq ?_
        refine Ev.rg [0, 1, 2, 3] ?_
        refine Rp rfl Z1 ?_
        refine Rp rfl Z1 ?_
        refine Rp rfl Z55 ?_
        refine Rp rfl Z1 ?_
        refine RunTo.nil ?_
        refine Ev.seq ?_
        refine Ev.rg [0, 1] ?_
        refine Rl rfl Z14 ?_
        refine RunTo.freeM rfl (RunOn.storeL (n := 5) hI5 rfl rfl Z1 Z1 (by kernel_rfl) Z6 Z6 (by rfl) Z9 Z5 ?_)
        intro hp6 hI6
        simp only [set_last, List.set_set, List.set_cons_zero, List.set_cons_succ, List.take_succ_cons, List.take_zero, List.drop_succ_cons, List.drop_zero, Eng.setMany, evc, Nat.zero_add, Nat.reduceAdd, Nat.reduceMul, Nat.reduceSub] at hI6
        refine RunTo.nil ?_
        refine Ev.seq ?_
        refine Ev.draw (M := [0, 1, 0, 7, 0, 16, 0, 112, 240, 15, 1023, 2047, 4095]) (l := [4, 5, 6, 7, 8, 0, 1, 2, 3, 9, 10, 11, 12]) (by kernel_rfl) (by kernel_rfl) (by kernel_rfl) ?_
        refine Rp rfl Z12 ?_
        refine Rl rfl Z7 ?_
        refine Rp rfl Z1 ?_
        refine Rp rfl (by ((conv => lhs; simp only [evs, evm, lk_up, lk_lf, Nat.reduceEqDiff, Nat.reduceLT, reduceIte, if_true, if_false, i64, bo, u8, nilS, Bool.not_true, Bool.not_false, List.take_succ_cons, List.take_zero, List.drop_zero, List.drop_succ_cons, List.toList_toArray, Int.reduceToNat, Nat.reduceMul, Nat.reduceAdd, Nat.reduceSub, Nat.zero_add]); exact pSlice_lo Z1 Z1 (slice_by_lo (n := n - 2) (by kernel_rfl) (by omega) (by omega) hc))) ?_
        refine RunTo.freeM rfl (RunOn.tree rfl rfl (by decide) Z1 Z1 (by assumption) Z8 (by exact F105_eq hd (by simp; omega)) ?_)
        refine Rp rfl Z19 ?_
        refine Rl rfl Z7 ?_
        refine Rp rfl Z1 ?_
        refine Rp rfl Z34 ?_
        refine Rp rfl Z19 ?_
        refine RunTo.freeM rfl (RunOn.storeL (n := 1) hI6 rfl rfl Z1 Z1 (by kernel_rfl) Z6 Z6 (by rfl) Z9 Z5 ?_)
        intro hp7 hI7
        simp only [set_last, List.set_set, List.set_cons_zero, List.set_cons_succ, List.take_succ_cons, List.take_zero, List.drop_succ_cons, List.drop_zero, Eng.setMany, evc, Nat.zero_add, Nat.reduceAdd, Nat.reduceMul, Nat.reduceSub] at hI7
        refine Rp rfl Z12 ?_
        refine RunTo.freeM rfl (RunOn.storeL (n := 1) hI7 rfl rfl Z1 Z1 (by kernel_rfl) Z6 Z6 (by rfl) Z9 Z5 ?_)
        intro hp8 hI8
        simp only [set_last, List.set_set, List.set_cons_zero, List.set_cons_succ, List.take_succ_cons, List.take_zero, List.drop_succ_cons, List.drop_zero, Eng.setMany, evc, Nat.zero_add, Nat.reduceAdd, Nat.reduceMul, Nat.reduceSub] at hI8
        refine RunTo.nil ?_
        refine Ev.seq ?_
        refine Ev.rg [0, 1, 2, 3, 4, 5, 6] ?_
        refine Rp rfl Z12 ?_
        refine Rl rfl Z7 ?_
        refine Rp rfl Z1 ?_
        refine Rp rfl Z1 ?_
        refine Rp rfl (by ((conv => lhs; simp only [evs, evm, lk_up, lk_lf, Nat.reduceEqDiff, Nat.reduceLT, reduceIte, if_true, if_false, i64, bo, u8, nilS, Bool.not_true, Bool.not_false, List.take_succ_cons, List.take_zero, List.drop_zero, List.drop_succ_cons, List.toList_toArray, Int.reduceToNat, Nat.reduceMul, Nat.reduceAdd, Nat.reduceSub, Nat.zero_add]); exact pSlice_hm Z1 Z1 Z1 (slice_by_hm (n := n - 2) (by kernel_rfl) (by omega) (by omega) (by omega)))) ?_
        refine Rp rfl Z12 ?_
        refine RunTo.freeM rfl (RunOn.storeL (n := 1) hI8 rfl rfl Z1 Z1 (by kernel_rfl) Z6 Z6 (by rfl) Z9 Z5 ?_)
        intro hp9 hI9
        simp only [set_last, List.set_set, List.set_cons_zero, List.set_cons_succ, List.take_succ_cons, List.take_zero, List.drop_succ_cons, List.drop_zero, Eng.setMany, evc, Nat.zero_add, Nat.reduceAdd, Nat.reduceMul, Nat.reduceSub] at hI9
        refine RunTo.nil ?_
        refine Ev.seq ?_
        refine Ev.draw (M := [0, 1, 3, 7, 0, 16, 63, 127, 15, 511, 1023, 2047]) (l := [0, 1, 2, 3, 4, 5, 6, 7, 8, 9, 10, 11]) (by kernel_rfl) (by kernel_rfl) (by kernel_rfl) ?_
        refine Rp rfl Z17 ?_
        refine Rl rfl Z7 ?_
        refine RunTo.freeM rfl (RunOn.tree rfl rfl (by decide) Z1 Z1 (by assumption) Z8 Z68 ?_)
        refine RunTo.freeM rfl (RunOn.tree rfl rfl (by decide) Z1 Z1 (by assumption) Z8 Z90 ?_)
        refine Rp rfl Z17 ?_
        refine Rl rfl Z7 ?_
        refine RunTo.freeM rfl (RunOn.tree rfl rfl (by decide) Z1 Z1 (by assumption) Z8 Z107 ?_)
        refine RunTo.freeM rfl (RunOn.tree rfl rfl (by decide) Z1 Z1 (by assumption) Z8 Z90 ?_)
        refine Rp rfl Z17 ?_
        refine RunTo.freeM rfl (RunOn.storeL (n := 1) hI9 rfl rfl Z1 Z1 (by kernel_rfl) Z6 Z6 (by rfl) Z9 Z5 ?_)
        intro hp10 hI10
        simp only [set_last, List.set_set, List.set_cons_zero, List.set_cons_succ, List.take_succ_cons, List.take_zero, List.drop_succ_cons, List.drop_zero, Eng.setMany, evc, Nat.zero_add, Nat.reduceAdd, Nat.reduceMul, Nat.reduceSub] at hI10
        refine Rp rfl Z17 ?_
        refine RunTo.freeM rfl (RunOn.storeL (n := 1) hI10 rfl rfl Z1 Z1 (by kernel_rfl) Z6 Z6 (by rfl) Z9 Z5 ?_)
        intro hp11 hI11
        simp only [set_last, List.set_set, List.set_cons_zero, List.set_cons_succ, List.take_succ_cons, List.take_zero, List.drop_succ_cons, List.drop_zero, Eng.setMany, evc, Nat.zero_add, Nat.reduceAdd, Nat.reduceMul, Nat.reduceSub] at hI11
        refine RunTo.nil ?_
        refine Ev.seq ?_
        refine Ev.draw (M := [0, 0, 1, 7, 15]) (l := [0, 2, 1, 3, 4]) (by kernel_rfl) (by kernel_rfl) (by kernel_rfl) ?_
        refine Rl rfl Z14 ?_
        refine RunTo.freeM rfl (RunOn.storeL (n := 5) hI11 rfl rfl Z1 Z1 (by kernel_rfl) Z6 Z6 (by rfl) Z9 Z5 ?_)
        intro hp12 hI12
        simp only [set_last, List.set_set, List.set_cons_zero, List.set_cons_succ, List.take_succ_cons, List.take_zero, List.drop_succ_cons, List.drop_zero, Eng.setMany, evc, Nat.zero_add, Nat.reduceAdd, Nat.reduceMul, Nat.reduceSub] at hI12
        refine Rl rfl Z14 ?_
        refine RunTo.freeM rfl (RunOn.storeL (n := 5) hI12 rfl rfl Z1 Z1 (by kernel_rfl) Z6 Z6 (by rfl) Z9 Z5 ?_)
        intro hp13 hI13
        simp only [set_last, List.set_set, List.set_cons_zero, List.set_cons_succ, List.take_succ_cons, List.take_zero, List.drop_succ_cons, List.drop_zero, Eng.setMany, evc, Nat.zero_add, Nat.reduceAdd, Nat.reduceMul, Nat.reduceSub] at hI13
        refine Rp rfl Z1 ?_
        refine RunTo.nil ?_
        refine Ev.ret ⟨.inr rfl, _, resC3 Z14 Z14, ?_⟩
        simp only [lk_up, lk_lf, Nat.reduceEqDiff, Nat.reduceLT, reduceIte, if_true, if_false, Nat.zero_add, i64, bo, u8, nilS, List.take_succ_cons, List.take_zero, List.drop_zero, List.drop_succ_cons]
        rw [hoff]
        repeat first | exact allO_nil | with_reducible apply allO_cons | exact frz_sc | with_reducible exact frz_by1 _ _ | with_reducible exact frz_rg1 _ _ | with_reducible exact frz_par1 _ | with_reducible apply frz_ro1 | with_reducible apply frz_agg | with_reducible apply frz_tup
    | false =>
      simp only [partF, if_true, if_false, Bool.false_eq_true, reduceIte] at hq ⊢
      have hh : (headF 1).toNat = 2 := rfl
      rw [hh]
      by_cases hs : 2 + bs.length ≤ n
      · rw [if_pos hs, if_pos hs]
        refine CallTo.body (c := (Tryz.f31.body.getD .skip)) (nt := 75) (rs := #[.cell 6 79, .cell 7 79, .tmp 8]) (by assumption) (by kernel_rfl) ⟨by simp, by decide⟩ ?_
        show Ev _ (Code.seq _ _) _ _
        simp only [tmOf_cons, tmOf_nil, i64, bo, u8, nilS, Nat.zero_add, Nat.reduceAdd]
        refine Ev.seq ?_
        refine Ev.rg [0, 1, 2, 3] ?_
        refine RunTo.freeM rfl (RunOn.madeL (k := 0) hI rfl rfl (by decide) rfl Z15 Z5 ?_)
        intro hp1 hI1
        simp only [List.cons_append, List.nil_append, evc, repA, Eng.setMany, List.set_cons_zero, List.set_cons_succ, Nat.zero_mul, Nat.one_mul, List.take_succ_cons, List.take_zero, List.drop_zero, List.drop_succ_cons, Nat.zero_add, Nat.reduceAdd, Nat.reduceMul] at hI1
        refine RunTo.freeM rfl (RunOn.madeL (k := 1) hI1 rfl rfl (by decide) rfl Z31 Z5 ?_)
        intro hp2 hI2
        simp only [List.cons_append, List.nil_append, evc, repA, Eng.setMany, List.set_cons_zero, List.set_cons_succ, Nat.zero_mul, Nat.one_mul, List.take_succ_cons, List.take_zero, List.drop_zero, List.drop_succ_cons, Nat.zero_add, Nat.reduceAdd, Nat.reduceMul] at hI2
        refine RunTo.freeM rfl (RunOn.madeL (k := 2) hI2 rfl rfl (by decide) rfl Z31 Z5 ?_)
        intro hp3 hI3
        simp only [List.cons_append, List.nil_append, evc, repA, Eng.setMany, List.set_cons_zero, List.set_cons_succ, Nat.zero_mul, Nat.one_mul, List.take_succ_cons, List.take_zero, List.drop_zero, List.drop_succ_cons, Nat.zero_add, Nat.reduceAdd, Nat.reduceMul] at hI3
        refine Rp rfl Z1 ?_
        refine RunTo.nil ?_
        refine Ev.seq ?_
        refine Ev.rg [0, 1, 2, 3] ?_
        refine Rp rfl Z17 ?_
        refine Rl rfl Z7 ?_
        refine RunTo.freeM rfl (RunOn.tree rfl rfl (by decide) Z1 Z1 (by assumption) Z8 Z62 ?_)
        rw [show headF 1 = 2 from rfl]
        refine Rp rfl Z1 ?_
        refine RunTo.nil ?_
        refine Ev.seq ?_
        refine Ev.block ?_
        refine Ev.seq ?_
        refine Ev.rg [0, 1, 2, 3, 4] ?_
        refine Rp rfl Z1 ?_
        refine Rl rfl Z14 ?_
        refine RunTo.freeM rfl (RunOn.tree rfl rfl (by decide) Z1 Z1 (by assumption) Z8 (by exact hq) ?_)
        refine Rp rfl Z16 ?_
        refine Rp rfl Z1 ?_
        refine RunTo.nil ?_
        refine Ev.condF Z1 ?_
        refine Ev.seq ?_
        refine Ev.rg [0, 1, 2, 3, 4] ?_
        refine Rp rfl Z1 ?_
        refine Rp rfl Z1 ?_
        refine Rp rfl Z49 ?_
        refine Rp rfl Z18 ?_
        refine Rp rfl Z1 ?_
        refine RunTo.nil ?_
        refine Ev.condF Z1 ?_
        refine Ev.skip ?_
        refine Ev.seq ?_
        refine Ev.rg [0, 1] ?_
        refine Rl rfl Z14 ?_
        refine RunTo.freeM rfl (RunOn.storeL (n := 5) hI3 rfl rfl Z1 Z1 (by kernel_rfl) Z6 Z6 (by rfl) Z9 Z5 ?_)
        intro hp4 hI4
        simp only [set_last, List.set_set, List.set_cons_zero, List.set_cons_succ, List.take_succ_cons, List.take_zero, List.drop_succ_cons, List.drop_zero, Eng.setMany, evc, Nat.zero_add, Nat.reduceAdd, Nat.reduceMul, Nat.reduceSub] at hI4
        refine RunTo.nil ?_
        refine Ev.seq ?_
        refine Ev.rg [0, 1, 2, 3, 4] ?_
        refine Rp rfl Z12 ?_
        refine Rl rfl Z7 ?_
        refine RunTo.freeM rfl (RunOn.tree rfl rfl (by decide) Z1 Z1 (by assumption) Z8 (by exact F105_eq hne (by omega)) ?_)
        refine Rp rfl Z12 ?_
        refine RunTo.freeM rfl (RunOn.storeL (n := 1) hI4 rfl rfl Z1 Z1 (by kernel_rfl) Z6 Z6 (by rfl) Z9 Z5 ?_)
        intro hp5 hI5
        simp only [set_last, List.set_set, List.set_cons_zero, List.set_cons_succ, List.take_succ_cons, List.take_zero, List.drop_succ_cons, List.drop_zero, Eng.setMany, evc, Nat.zero_add, Nat.reduceAdd, Nat.reduceMul, Nat.reduceSub] at hI5
        refine RunTo.nil ?_
        refine Ev.seq ?_
        refine Ev.seq ?_
        refine Ev.rg [0, 1, 2, 3, 4, 5, 6] ?_
        refine Rp rfl Z1 ?_
        refine Rp rfl Z12 ?_
        refine Rl rfl Z7 ?_
        refine Rp rfl Z27 ?_
        refine Rp rfl Z34 ?_
        refine Rp rfl Z1 ?_
        refine Rp rfl Z61 ?_
        refine RunTo.nil ?_
        refine Ev.condT Z1 ?_
        refine Ev.seq ?_
        refine Ev.rg [0, 1, 2, 3, 4] ?_
        refine Rl rfl Z14 ?_
        refine Rp rfl Z80 ?_
        refine RunTo.freeM rfl (RunOn.storeL (n := 5) hI5 rfl rfl Z1 Z1 (by kernel_rfl) Z6 Z6 (by rfl) Z9 Z5 ?_)
        intro hp6 hI6
        simp only [set_last, List.set_set, List.set_cons_zero, List.set_cons_succ, List.take_succ_cons, List.take_zero, List.drop_succ_cons, List.drop_zero, Eng.setMany, evc, Nat.zero_add, Nat.reduceAdd, Nat.reduceMul, Nat.reduceSub] at hI6
        refine RunTo.freeM rfl (RunOn.storeL (n := 5) hI6 rfl rfl Z1 Z1 (by kernel_rfl) Z6 Z6 (by rfl) Z9 Z5 ?_)
        intro hp7 hI7
        simp only [set_last, List.set_set, List.set_cons_zero, List.set_cons_succ, List.take_succ_cons, List.take_zero, List.drop_succ_cons, List.drop_zero, Eng.setMany, evc, Nat.zero_add, Nat.reduceAdd, Nat.reduceMul, Nat.reduceSub] at hI7
        refine Rp rfl Z1 ?_
        refine RunTo.nil ?_
        refine Ev.ret ⟨.inr rfl, _, resC3 Z14 Z14, ?_⟩
        simp only [lk_up, lk_lf, Nat.reduceEqDiff, Nat.reduceLT, reduceIte, if_true, if_false, Nat.zero_add, i64, bo, u8, nilS, List.take_succ_cons, List.take_zero, List.drop_zero, List.drop_succ_cons]
        repeat first | exact allO_nil | with_reducible apply allO_cons | exact frz_sc | with_reducible exact frz_by1 _ _ | with_reducible exact frz_rg1 _ _ | with_reducible exact frz_par1 _ | with_reducible apply frz_ro1 | with_reducible apply frz_agg | with_reducible apply frz_tup
      · rw [if_neg hs, if_neg hs]
        have hd : bs.drop (n - 2) ≠ [] := by
          intro k
          have := congrArg List.length k
          simp at this
          omega
        have hoff : (((0 : Nat) : Int) + ((n : Int) - 2)) = ((n - 2 : Nat) : Int) := by omega
        refine CallTo.body (c := (Tryz.f31.body.getD .skip)) (nt := 75) (rs := #[.cell 6 79, .cell 7 79, .tmp 8]) (by assumption) (by kernel_rfl) ⟨by simp, by decide⟩ ?_
        show Ev _ (Code.seq _ _) _ _
        simp only [tmOf_cons, tmOf_nil, i64, bo, u8, nilS, Nat.zero_add, Nat.reduceAdd]
        refine Ev.seq ?_
        refine Ev.rg [0, 1, 2, 3] ?_
        refine RunTo.freeM rfl (RunOn.madeL (k := 0) hI rfl rfl (by decide) rfl Z15 Z5 ?_)
        intro hp1 hI1
        simp only [List.cons_append, List.nil_append, evc, repA, Eng.setMany, List.set_cons_zero, List.set_cons_succ, Nat.zero_mul, Nat.one_mul, List.take_succ_cons, List.take_zero, List.drop_zero, List.drop_succ_cons, Nat.zero_add, Nat.reduceAdd, Nat.reduceMul] at hI1
        refine RunTo.freeM rfl (RunOn.madeL (k := 1) hI1 rfl rfl (by decide) rfl Z31 Z5 ?_)
        intro hp2 hI2
        simp only [List.cons_append, List.nil_append, evc, repA, Eng.setMany, List.set_cons_zero, List.set_cons_succ, Nat.zero_mul, Nat.one_mul, List.take_succ_cons, List.take_zero, List.drop_zero, List.drop_succ_cons, Nat.zero_add, Nat.reduceAdd, Nat.reduceMul] at hI2
        refine RunTo.freeM rfl (RunOn.madeL (k := 2) hI2 rfl rfl (by decide) rfl Z31 Z5 ?_)
        intro hp3 hI3
        simp only [List.cons_append, List.nil_append, evc, repA, Eng.setMany, List.set_cons_zero, List.set_cons_succ, Nat.zero_mul, Nat.one_mul, List.take_succ_cons, List.take_zero, List.drop_zero, List.drop_succ_cons, Nat.zero_add, Nat.reduceAdd, Nat.reduceMul] at hI3
        refine Rp rfl Z1 ?_
        refine RunTo.nil ?_
        refine Ev.seq ?_
        refine Ev.rg [0, 1, 2, 3] ?_
        refine Rp rfl Z17 ?_
        refine Rl rfl Z7 ?_
        refine RunTo.freeM rfl (RunOn.tree rfl rfl (by decide) Z1 Z1 (by assumption) Z8 Z62 ?_)
        rw [show headF 1 = 2 from rfl]
        refine Rp rfl Z1 ?_
        refine RunTo.nil ?_
        refine Ev.seq ?_
        refine Ev.block ?_
        refine Ev.seq ?_
        refine Ev.rg [0, 1, 2, 3, 4] ?_
        refine Rp rfl Z1 ?_
        refine Rl rfl Z14 ?_
        refine RunTo.freeM rfl (RunOn.tree rfl rfl (by decide) Z1 Z1 (by assumption) Z8 (by exact hq) ?_)
        refine Rp rfl Z16 ?_
        refine Rp rfl Z1 ?_
        refine RunTo.nil ?_
        refine Ev.condF Z1 ?_
        refine Ev.seq ?_
        refine Ev.rg [0, 1, 2, 3, 4] ?_
        refine Rp rfl Z1 ?_
        refine Rp rfl Z1 ?_
        refine Rp rfl Z49 ?_
        refine Rp rfl Z18 ?_
        refine Rp rfl Z1 ?_
        refine RunTo.nil ?_
        refine Ev.condF Z1 ?_
        refine Ev.skip ?_
        refine Ev.seq ?_
        refine Ev.rg [0, 1] ?_
        refine Rl rfl Z14 ?_
        refine RunTo.freeM rfl (RunOn.storeL (n := 5) hI3 rfl rfl Z1 Z1 (by kernel_rfl) Z6 Z6 (by rfl) Z9 Z5 ?_)
        intro hp4 hI4
        simp only [set_last, List.set_set, List.set_cons_zero, List.set_cons_succ, List.take_succ_cons, List.take_zero, List.drop_succ_cons, List.drop_zero, Eng.setMany, evc, Nat.zero_add, Nat.reduceAdd, Nat.reduceMul, Nat.reduceSub] at hI4
        refine RunTo.nil ?_
        refine Ev.seq ?_
        refine Ev.rg [0, 1, 2, 3, 4] ?_
        refine Rp rfl Z12 ?_
        refine Rl rfl Z7 ?_
        refine RunTo.freeM rfl (RunOn.tree rfl rfl (by decide) Z1 Z1 (by assumption) Z8 (by exact F105_eq hne (by omega)) ?_)
        refine Rp rfl Z12 ?_
        refine RunTo.freeM rfl (RunOn.storeL (n := 1) hI4 rfl rfl Z1 Z1 (by kernel_rfl) Z6 Z6 (by rfl) Z9 Z5 ?_)
        intro hp5 hI5
        simp only [set_last, List.set_set, List.set_cons_zero, List.set_cons_succ, List.take_succ_cons, List.take_zero, List.drop_succ_cons, List.drop_zero, Eng.setMany, evc, Nat.zero_add, Nat.reduceAdd, Nat.reduceMul, Nat.reduceSub] at hI5
        refine RunTo.nil ?_
        refine Ev.seq ?_
        refine Ev.seq ?_
        refine Ev.rg [0, 1, 2, 3, 4, 5, 6] ?_
        refine Rp rfl Z1 ?_
        refine Rp rfl Z12 ?_
        refine Rl rfl Z7 ?_
        refine Rp rfl Z27 ?_
        refine Rp rfl Z34 ?_
        refine Rp rfl Z1 ?_
        refine Rp rfl Z73 ?_
        refine RunTo.nil ?_
        refine Ev.condF Z1 ?_
        refine Ev.skip ?_
        refine Ev.seq ?_
        refine Ev.rg [0, 1, 2, 3] ?_
        refine Rp rfl Z1 ?_
        refine Rp rfl Z1 ?_
        refine Rp rfl Z55 ?_
        refine Rp rfl Z1 ?_
        refine RunTo.nil ?_
        refine Ev.seq ?_
        refine Ev.rg [0, 1] ?_
        refine Rl rfl Z14 ?_
        refine RunTo.freeM rfl (RunOn.storeL (n := 5) hI5 rfl rfl Z1 Z1 (by kernel_rfl) Z6 Z6 (by rfl) Z9 Z5 ?_)
        intro hp6 hI6
        simp only [set_last, List.set_set, List.set_cons_zero, List.set_cons_succ, List.take_succ_cons, List.take_zero, List.drop_succ_cons, List.drop_zero, Eng.setMany, evc, Nat.zero_add, Nat.reduceAdd, Nat.reduceMul, Nat.reduceSub] at hI6
        refine RunTo.nil ?_
        refine Ev.seq ?_
        refine Ev.draw (M := [0, 1, 0, 7, 0, 16, 0, 112, 240, 15, 1023, 2047, 4095]) (l := [4, 5, 6, 7, 8, 0, 1, 2, 3, 9, 10, 11, 12]) (by kernel_rfl) (by kernel_rfl) (by kernel_rfl) ?_
        refine Rp rfl Z12 ?_
        refine Rl rfl Z7 ?_
        refine Rp rfl Z1 ?_
        refine Rp rfl (by ((conv => lhs; simp only [evs, evm, lk_up, lk_lf, Nat.reduceEqDiff, Nat.reduceLT, reduceIte, if_true, if_false, i64, bo, u8, nilS, Bool.not_true, Bool.not_false, List.take_succ_cons, List.take_zero, List.drop_zero, List.drop_succ_cons, List.toList_toArray, Int.reduceToNat, Nat.reduceMul, Nat.reduceAdd, Nat.reduceSub, Nat.zero_add]); exact pSlice_lo Z1 Z1 (slice_by_lo (n := n - 2) (by kernel_rfl) (by omega) (by omega) hc))) ?_
        refine RunTo.freeM rfl (RunOn.tree rfl rfl (by decide) Z1 Z1 (by assumption) Z8 (by exact F105_eq hd (by simp; omega)) ?_)
        refine Rp rfl Z19 ?_
        refine Rl rfl Z7 ?_
        refine Rp rfl Z1 ?_
        refine Rp rfl Z34 ?_
        refine Rp rfl Z19 ?_
        refine RunTo.freeM rfl (RunOn.storeL (n := 1) hI6 rfl rfl Z1 Z1 (by kernel_rfl) Z6 Z6 (by rfl) Z9 Z5 ?_)
        intro hp7 hI7
        simp only [set_last, List.set_set, List.set_cons_zero, List.set_cons_succ, List.take_succ_cons, List.take_zero, List.drop_succ_cons, List.drop_zero, Eng.setMany, evc, Nat.zero_add, Nat.reduceAdd, Nat.reduceMul, Nat.reduceSub] at hI7
        refine Rp rfl Z12 ?_
        refine RunTo.freeM rfl (RunOn.storeL (n := 1) hI7 rfl rfl Z1 Z1 (by kernel_rfl) Z6 Z6 (by rfl) Z9 Z5 ?_)
        intro hp8 hI8
        simp only [set_last, List.set_set, List.set_cons_zero, List.set_cons_succ, List.take_succ_cons, List.take_zero, List.drop_succ_cons, List.drop_zero, Eng.setMany, evc, Nat.zero_add, Nat.reduceAdd, Nat.reduceMul, Nat.reduceSub] at hI8
        refine RunTo.nil ?_
        refine Ev.seq ?_
        refine Ev.rg [0, 1, 2, 3, 4, 5, 6] ?_
        refine Rp rfl Z12 ?_
        refine Rl rfl Z7 ?_
        refine Rp rfl Z1 ?_
        refine Rp rfl Z1 ?_
        refine Rp rfl (by ((conv => lhs; simp only [evs, evm, lk_up, lk_lf, Nat.reduceEqDiff, Nat.reduceLT, reduceIte, if_true, if_false, i64, bo, u8, nilS, Bool.not_true, Bool.not_false, List.take_succ_cons, List.take_zero, List.drop_zero, List.drop_succ_cons, List.toList_toArray, Int.reduceToNat, Nat.reduceMul, Nat.reduceAdd, Nat.reduceSub, Nat.zero_add]); exact pSlice_hm Z1 Z1 Z1 (slice_by_hm (n := n - 2) (by kernel_rfl) (by omega) (by omega) (by omega)))) ?_
        refine Rp rfl Z12 ?_
        refine RunTo.freeM rfl (RunOn.storeL (n := 1) hI8 rfl rfl Z1 Z1 (by kernel_rfl) Z6 Z6 (by rfl) Z9 Z5 ?_)
        intro hp9 hI9
        simp only [set_last, List.set_set, List.set_cons_zero, List.set_cons_succ, List.take_succ_cons, List.take_zero, List.drop_succ_cons, List.drop_zero, Eng.setMany, evc, Nat.zero_add, Nat.reduceAdd, Nat.reduceMul, Nat.reduceSub] at hI9
        refine RunTo.nil ?_
        refine Ev.seq ?_
        refine Ev.draw (M := [0, 1, 3, 7, 0, 16, 63, 127, 15, 511, 1023, 2047]) (l := [0, 1, 2, 3, 4, 5, 6, 7, 8, 9, 10, 11]) (by kernel_rfl) (by kernel_rfl) (by kernel_rfl) ?_
        refine Rp rfl Z17 ?_
        refine Rl rfl Z7 ?_
        refine RunTo.freeM rfl (RunOn.tree rfl rfl (by decide) Z1 Z1 (by assumption) Z8 Z68 ?_)
        refine RunTo.freeM rfl (RunOn.tree rfl rfl (by decide) Z1 Z1 (by assumption) Z8 Z90 ?_)
        refine Rp rfl Z17 ?_
        refine Rl rfl Z7 ?_
        refine RunTo.freeM rfl (RunOn.tree rfl rfl (by decide) Z1 Z1 (by assumption) Z8 Z107 ?_)
        refine RunTo.freeM rfl (RunOn.tree rfl rfl (by decide) Z1 Z1 (by assumption) Z8 Z90 ?_)
        refine Rp rfl Z17 ?_
        refine RunTo.freeM rfl (RunOn.storeL (n := 1) hI9 rfl rfl Z1 Z1 (by kernel_rfl) Z6 Z6 (by rfl) Z9 Z5 ?_)
        intro hp10 hI10
        simp only [set_last, List.set_set, List.set_cons_zero, List.set_cons_succ, List.take_succ_cons, List.take_zero, List.drop_succ_cons, List.drop_zero, Eng.setMany, evc, Nat.zero_add, Nat.reduceAdd, Nat.reduceMul, Nat.reduceSub] at hI10
        refine Rp rfl Z17 ?_
        refine RunTo.freeM rfl (RunOn.storeL (n := 1) hI10 rfl rfl Z1 Z1 (by kernel_rfl) Z6 Z6 (by rfl) Z9 Z5 ?_)
        intro hp11 hI11
        simp only [set_last, List.set_set, List.set_cons_zero, List.set_cons_succ, List.take_succ_cons, List.take_zero, List.drop_succ_cons, List.drop_zero, Eng.setMany, evc, Nat.zero_add, Nat.reduceAdd, Nat.reduceMul, Nat.reduceSub] at hI11
        refine RunTo.nil ?_
        refine Ev.seq ?_
        refine Ev.draw (M := [0, 0, 1, 7, 15]) (l := [0, 2, 1, 3, 4]) (by kernel_rfl) (by kernel_rfl) (by kernel_rfl) ?_
        refine Rl rfl Z14 ?_
        refine RunTo.freeM rfl (RunOn.storeL (n := 5) hI11 rfl rfl Z1 Z1 (by kernel_rfl) Z6 Z6 (by rfl) Z9 Z5 ?_)
        intro hp12 hI12
        simp only [set_last, List.set_set, List.set_cons_zero, List.set_cons_succ, List.take_succ_cons, List.take_zero, List.drop_succ_cons, List.drop_zero, Eng.setMany, evc, Nat.zero_add, Nat.reduceAdd, Nat.reduceMul, Nat.reduceSub] at hI12
        refine Rl rfl Z14 ?_
        refine RunTo.freeM rfl (RunOn.storeL (n := 5) hI12 rfl rfl Z1 Z1 (by kernel_rfl) Z6 Z6 (by rfl) Z9 Z5 ?_)
        intro hp13 hI13
        simp only [set_last, List.set_set, List.set_cons_zero, List.set_cons_succ, List.take_succ_cons, List.take_zero, List.drop_succ_cons, List.drop_zero, Eng.setMany, evc, Nat.zero_add, Nat.reduceAdd, Nat.reduceMul, Nat.reduceSub] at hI13
        refine Rp rfl Z1 ?_
        refine RunTo.nil ?_
        refine Ev.ret ⟨.inr rfl, _, resC3 Z14 Z14, ?_⟩
        simp only [lk_up, lk_lf, Nat.reduceEqDiff, Nat.reduceLT, reduceIte, if_true, if_false, Nat.zero_add, i64, bo, u8, nilS, List.take_succ_cons, List.take_zero, List.drop_zero, List.drop_succ_cons]
        rw [hoff]
        repeat first | exact allO_nil | with_reducible apply allO_cons | exact frz_sc | with_reducible exact frz_by1 _ _ | with_reducible exact frz_rg1 _ _ | with_reducible exact frz_par1 _ | with_reducible apply frz_ro1 | with_reducible apply frz_agg | with_reducible apply frz_tup
  · have hb : (off == 0) = false := beq_eq_false_iff_ne.2 h0
    simp only [hb] at hq ⊢
    cases last with
    | true =>
      simp only [partF, if_true, if_false, Bool.false_eq_true, reduceIte] at hq ⊢
      have hh : (headF 2).toNat = 4 := rfl
      rw [hh]
      by_cases hs : 4 + bs.length ≤ n
      · rw [if_pos hs, if_pos hs]
        refine CallTo.body (c := (Tryz.f31.body.getD .skip)) (nt := 75) (rs := #[.cell 6 79, .cell 7 79, .tmp 8]) (by assumption) (by kernel_rfl) ⟨by simp, by decide⟩ ?_
        show Ev _ (Code.seq _ _) _ _
        simp only [tmOf_cons, tmOf_nil, i64, bo, u8, nilS, Nat.zero_add, Nat.reduceAdd]
        refine Ev.seq ?_
        refine Ev.rg [0, 1, 2, 3] ?_
        refine RunTo.freeM rfl (RunOn.madeL (k := 0) hI rfl rfl (by decide) rfl Z15 Z5 ?_)
        intro hp1 hI1
        simp only [List.cons_append, List.nil_append, evc, repA, Eng.setMany, List.set_cons_zero, List.set_cons_succ, Nat.zero_mul, Nat.one_mul, List.take_succ_cons, List.take_zero, List.drop_zero, List.drop_succ_cons, Nat.zero_add, Nat.reduceAdd, Nat.reduceMul] at hI1
        refine RunTo.freeM rfl (RunOn.madeL (k := 1) hI1 rfl rfl (by decide) rfl Z31 Z5 ?_)
        intro hp2 hI2
        simp only [List.cons_append, List.nil_append, evc, repA, Eng.setMany, List.set_cons_zero, List.set_cons_succ, Nat.zero_mul, Nat.one_mul, List.take_succ_cons, List.take_zero, List.drop_zero, List.drop_succ_cons, Nat.zero_add, Nat.reduceAdd, Nat.reduceMul] at hI2
        refine RunTo.freeM rfl (RunOn.madeL (k := 2) hI2 rfl rfl (by decide) rfl Z31 Z5 ?_)
        intro hp3 hI3
        simp only [List.cons_append, List.nil_append, evc, repA, Eng.setMany, List.set_cons_zero, List.set_cons_succ, Nat.zero_mul, Nat.one_mul, List.take_succ_cons, List.take_zero, List.drop_zero, List.drop_succ_cons, Nat.zero_add, Nat.reduceAdd, Nat.reduceMul] at hI3
        refine Rp rfl Z1 ?_
        refine RunTo.nil ?_
        refine Ev.seq ?_
        refine Ev.rg [0, 1, 2, 3] ?_
        refine Rp rfl Z17 ?_
        refine Rl rfl Z7 ?_
        refine RunTo.freeM rfl (RunOn.tree rfl rfl (by decide) Z1 Z1 (by assumption) Z8 Z62 ?_)
        rw [show headF 2 = 4 from rfl]
        refine Rp rfl Z1 ?_
        refine RunTo.nil ?_
        refine Ev.seq ?_
        refine Ev.block ?_
        refine Ev.seq ?_
        refine Ev.rg [0, 1, 2, 3, 4] ?_
        refine Rp rfl Z1 ?_
        refine Rl rfl Z14 ?_
        refine RunTo.freeM rfl (RunOn.tree rfl rfl (by decide) Z1 Z1 (by assumption) Z8 (by exact hq) ?_)
        refine Rp rfl Z16 ?_
        refine Rp rfl Z1 ?_
        refine RunTo.nil ?_
        refine Ev.condF Z1 ?_
        refine Ev.seq ?_
        refine Ev.rg [0, 1, 2, 3, 4] ?_
        refine Rp rfl Z1 ?_
        refine Rp rfl Z1 ?_
        refine Rp rfl Z71 ?_
        refine Rp rfl Z18 ?_
        refine Rp rfl Z1 ?_
        refine RunTo.nil ?_
        refine Ev.condF Z1 ?_
        refine Ev.skip ?_
        refine Ev.seq ?_
        refine Ev.rg [0, 1] ?_
        refine Rl rfl Z14 ?_
        refine RunTo.freeM rfl (RunOn.storeL (n := 5) hI3 rfl rfl Z1 Z1 (by kernel_rfl) Z6 Z6 (by rfl) Z9 Z5 ?_)
        intro hp4 hI4
        simp only [set_last, List.set_set, List.set_cons_zero, List.set_cons_succ, List.take_succ_cons, List.take_zero, List.drop_succ_cons, List.drop_zero, Eng.setMany, evc, Nat.zero_add, Nat.reduceAdd, Nat.reduceMul, Nat.reduceSub] at hI4
        refine RunTo.nil ?_
        refine Ev.seq ?_
        refine Ev.rg [0, 1, 2, 3, 4] ?_
        refine Rp rfl Z12 ?_
        refine Rl rfl Z7 ?_
        refine RunTo.freeM rfl (RunOn.tree rfl rfl (by decide) Z1 Z1 (by assumption) Z8 (by exact F105_eq hne (by omega)) ?_)
        refine Rp rfl Z12 ?_
        refine RunTo.freeM rfl (RunOn.storeL (n := 1) hI4 rfl rfl Z1 Z1 (by kernel_rfl) Z6 Z6 (by rfl) Z9 Z5 ?_)
        intro hp5 hI5
        simp only [set_last, List.set_set, List.set_cons_zero, List.set_cons_succ, List.take_succ_cons, List.take_zero, List.drop_succ_cons, List.drop_zero, Eng.setMany, evc, Nat.zero_add, Nat.reduceAdd, Nat.reduceMul, Nat.reduceSub] at hI5
        refine RunTo.nil ?_
        refine Ev.seq ?_
        refine Ev.seq ?_
        refine Ev.rg [0, 1, 2, 3, 4, 5, 6] ?_
        refine Rp rfl Z1 ?_
        refine Rp rfl Z12 ?_
        refine Rl rfl Z7 ?_
        refine Rp rfl Z27 ?_
        refine Rp rfl Z34 ?_
        refine Rp rfl Z1 ?_
        refine Rp rfl Z61 ?_
        refine RunTo.nil ?_
        refine Ev.condT Z1 ?_
        refine Ev.seq ?_
        refine Ev.rg [0, 1, 2, 3, 4] ?_
        refine Rl rfl Z14 ?_
        refine Rp rfl Z80 ?_
        refine RunTo.freeM rfl (RunOn.storeL (n := 5) hI5 rfl rfl Z1 Z1 (by kernel_rfl) Z6 Z6 (by rfl) Z9 Z5 ?_)
        intro hp6 hI6
        simp only [set_last, List.set_set, List.set_cons_zero, List.set_cons_succ, List.take_succ_cons, List.take_zero, List.drop_succ_cons, List.drop_zero, Eng.setMany, evc, Nat.zero_add, Nat.reduceAdd, Nat.reduceMul, Nat.reduceSub] at hI6
        refine RunTo.freeM rfl (RunOn.storeL (n := 5) hI6 rfl rfl Z1 Z1 (by kernel_rfl) Z6 Z6 (by rfl) Z9 Z5 ?_)
        intro hp7 hI7
        simp only [set_last, List.set_set, List.set_cons_zero, List.set_cons_succ, List.take_succ_cons, List.take_zero, List.drop_succ_cons, List.drop_zero, Eng.setMany, evc, Nat.zero_add, Nat.reduceAdd, Nat.reduceMul, Nat.reduceSub] at hI7
        refine Rp rfl Z1 ?_
        refine RunTo.nil ?_
        refine Ev.ret ⟨.inr rfl, _, resC3 Z14 Z14, ?_⟩
        simp only [lk_up, lk_lf, Nat.reduceEqDiff, Nat.reduceLT, reduceIte, if_true, if_false, Nat.zero_add, i64, bo, u8, nilS, List.take_succ_cons, List.take_zero, List.drop_zero, List.drop_succ_cons]
        repeat first | exact allO_nil | with_reducible apply allO_cons | exact frz_sc | with_reducible exact frz_by1 _ _ | with_reducible exact frz_rg1 _ _ | with_reducible exact frz_par1 _ | with_reducible apply frz_ro1 | with_reducible apply frz_agg | with_reducible apply frz_tup
      · rw [if_neg hs, if_neg hs]
        have hd : bs.drop (n - 4) ≠ [] := by
          intro k
          have := congrArg List.length k
          simp at this
          omega
        have hoff : (((off : Nat) : Int) + ((n : Int) - 4)) = ((off + (n - 4) : Nat) : Int) := by omega
        refine CallTo.body (c := (Tryz.f31.body.getD .skip)) (nt := 75) (rs := #[.cell 6 79, .cell 7 79, .tmp 8]) (by assumption) (by kernel_rfl) ⟨by simp, by decide⟩ ?_
        show Ev _ (Code.seq _ _) _ _
        simp only [tmOf_cons, tmOf_nil, i64, bo, u8, nilS, Nat.zero_add, Nat.reduceAdd]
        refine Ev.seq ?_
        refine Ev.rg [0, 1, 2, 3] ?_
        refine RunTo.freeM rfl (RunOn.madeL (k := 0) hI rfl rfl (by decide) rfl Z15 Z5 ?_)
        intro hp1 hI1
        simp only [List.cons_append, List.nil_append, evc, repA, Eng.setMany, List.set_cons_zero, List.set_cons_succ, Nat.zero_mul, Nat.one_mul, List.take_succ_cons, List.take_zero, List.drop_zero, List.drop_succ_cons, Nat.zero_add, Nat.reduceAdd, Nat.reduceMul] at hI1
        refine RunTo.freeM rfl (RunOn.madeL (k := 1) hI1 rfl rfl (by decide) rfl Z31 Z5 ?_)
        intro hp2 hI2
        simp only [List.cons_append, List.nil_append, evc, repA, Eng.setMany, List.set_cons_zero, List.set_cons_succ, Nat.zero_mul, Nat.one_mul, List.take_succ_cons, List.take_zero, List.drop_zero, List.drop_succ_cons, Nat.zero_add, Nat.reduceAdd, Nat.reduceMul] at hI2
        refine RunTo.freeM rfl (RunOn.madeL (k := 2) hI2 rfl rfl (by decide) rfl Z31 Z5 ?_)
        intro hp3 hI3
        simp only [List.cons_append, List.nil_append, evc, repA, Eng.setMany, List.set_cons_zero, List.set_cons_succ, Nat.zero_mul, Nat.one_mul, List.take_succ_cons, List.take_zero, List.drop_zero, List.drop_succ_cons, Nat.zero_add, Nat.reduceAdd, Nat.reduceMul] at hI3
        refine Rp rfl Z1 ?_
        refine RunTo.nil ?_
        refine Ev.seq ?_
        refine Ev.rg [0, 1, 2, 3] ?_
        refine Rp rfl Z17 ?_
        refine Rl rfl Z7 ?_
        refine RunTo.freeM rfl (RunOn.tree rfl rfl (by decide) Z1 Z1 (by assumption) Z8 Z62 ?_)
        rw [show headF 2 = 4 from rfl]
        refine Rp rfl Z1 ?_
        refine RunTo.nil ?_
        refine Ev.seq ?_
        refine Ev.block ?_
        refine Ev.seq ?_
        refine Ev.rg [0, 1, 2, 3, 4] ?_
        refine Rp rfl Z1 ?_
        refine Rl rfl Z14 ?_
        refine RunTo.freeM rfl (RunOn.tree rfl rfl (by decide) Z1 Z1 (by assumption) Z8 (by exact hq) ?_)
        refine Rp rfl Z16 ?_
        refine Rp rfl Z1 ?_
        refine RunTo.nil ?_
        refine Ev.condF Z1 ?_
        refine Ev.seq ?_
        refine Ev.rg [0, 1, 2, 3, 4] ?_
        refine Rp rfl Z1 ?_
        refine Rp rfl Z1 ?_
        refine Rp rfl Z71 ?_
        refine Rp rfl Z18 ?_
        refine Rp rfl Z1 ?_
        refine RunTo.nil ?_
        refine Ev.condF Z1 ?_
        refine Ev.skip ?_
        refine Ev.seq ?_
        refine Ev.rg [0, 1] ?_
        refine Rl rfl Z14 ?_
        refine RunTo.freeM rfl (RunOn.storeL (n := 5) hI3 rfl rfl Z1 Z1 (by kernel_rfl) Z6 Z6 (by rfl) Z9 Z5 ?_)
        intro hp4 hI4
        simp only [set_last, List.set_set, List.set_cons_zero, List.set_cons_succ, List.take_succ_cons, List.take_zero, List.drop_succ_cons, List.drop_zero, Eng.setMany, evc, Nat.zero_add, Nat.reduceAdd, Nat.reduceMul, Nat.reduceSub] at hI4
        refine RunTo.nil ?_
        refine Ev.seq ?_
        refine Ev.rg [0, 1, 2, 3, 4] ?_
        refine Rp rfl Z12 ?_
        refine Rl rfl Z7 ?_
        refine RunTo.freeM rfl (RunOn.tree rfl rfl (by decide) Z1 Z1 (by assumption) Z8 (by exact F105_eq hne (by omega)) ?_)
        refine Rp rfl Z12 ?_
        refine RunTo.freeM rfl (RunOn.storeL (n := 1) hI4 rfl rfl Z1 Z1 (by kernel_rfl) Z6 Z6 (by rfl) Z9 Z5 ?_)
        intro hp5 hI5
        simp only [set_last, List.set_set, List.set_cons_zero, List.set_cons_succ, List.take_succ_cons, List.take_zero, List.drop_succ_cons, List.drop_zero, Eng.setMany, evc, Nat.zero_add, Nat.reduceAdd, Nat.reduceMul, Nat.reduceSub] at hI5
        refine RunTo.nil ?_
        refine Ev.seq ?_
        refine Ev.seq ?_
        refine Ev.rg [0, 1, 2, 3, 4, 5, 6] ?_
        refine Rp rfl Z1 ?_
        refine Rp rfl Z12 ?_
        refine Rl rfl Z7 ?_
        refine Rp rfl Z27 ?_
        refine Rp rfl Z34 ?_
        refine Rp rfl Z1 ?_
        refine Rp rfl Z73 ?_
        refine RunTo.nil ?_
        refine Ev.condF Z1 ?_
        refine Ev.skip ?_
        refine Ev.seq ?_
        refine Ev.rg [0, 1, 2, 3] ?_
        refine Rp rfl Z1 ?_
        refine Rp rfl Z1 ?_
        refine Rp rfl Z55 ?_
        refine Rp rfl Z1 ?_
        refine RunTo.nil ?_
        refine Ev.seq ?_
        refine Ev.rg [0, 1] ?_
        refine Rl rfl Z14 ?_
        refine RunTo.freeM rfl (RunOn.storeL (n := 5) hI5 rfl rfl Z1 Z1 (by kernel_rfl) Z6 Z6 (by rfl) Z9 Z5 ?_)
        intro hp6 hI6
        simp only [set_last, List.set_set, List.set_cons_zero, List.set_cons_succ, List.take_succ_cons, List.take_zero, List.drop_succ_cons, List.drop_zero, Eng.setMany, evc, Nat.zero_add, Nat.reduceAdd, Nat.reduceMul, Nat.reduceSub] at hI6
        refine RunTo.nil ?_
        refine Ev.seq ?_
        refine Ev.draw (M := [0, 1, 0, 7, 0, 16, 0, 112, 240, 15, 1023, 2047, 4095]) (l := [4, 5, 6, 7, 8, 0, 1, 2, 3, 9, 10, 11, 12]) (by kernel_rfl) (by kernel_rfl) (by kernel_rfl) ?_
        refine Rp rfl Z12 ?_
        refine Rl rfl Z7 ?_
        refine Rp rfl Z1 ?_
        refine Rp rfl (by ((conv => lhs; simp only [evs, evm, lk_up, lk_lf, Nat.reduceEqDiff, Nat.reduceLT, reduceIte, if_true, if_false, i64, bo, u8, nilS, Bool.not_true, Bool.not_false, List.take_succ_cons, List.take_zero, List.drop_zero, List.drop_succ_cons, List.toList_toArray, Int.reduceToNat, Nat.reduceMul, Nat.reduceAdd, Nat.reduceSub, Nat.zero_add]); exact pSlice_lo Z1 Z1 (slice_by_lo (n := n - 4) (by kernel_rfl) (by omega) (by omega) hc))) ?_
        refine RunTo.freeM rfl (RunOn.tree rfl rfl (by decide) Z1 Z1 (by assumption) Z8 (by exact F105_eq hd (by simp; omega)) ?_)
        refine Rp rfl Z19 ?_
        refine Rl rfl Z7 ?_
        refine Rp rfl Z1 ?_
        refine Rp rfl Z34 ?_
        refine Rp rfl Z19 ?_
        refine RunTo.freeM rfl (RunOn.storeL (n := 1) hI6 rfl rfl Z1 Z1 (by kernel_rfl) Z6 Z6 (by rfl) Z9 Z5 ?_)
        intro hp7 hI7
        simp only [set_last, List.set_set, List.set_cons_zero, List.set_cons_succ, List.take_succ_cons, List.take_zero, List.drop_succ_cons, List.drop_zero, Eng.setMany, evc, Nat.zero_add, Nat.reduceAdd, Nat.reduceMul, Nat.reduceSub] at hI7
        refine Rp rfl Z12 ?_
        refine RunTo.freeM rfl (RunOn.storeL (n := 1) hI7 rfl rfl Z1 Z1 (by kernel_rfl) Z6 Z6 (by rfl) Z9 Z5 ?_)
        intro hp8 hI8
        simp only [set_last, List.set_set, List.set_cons_zero, List.set_cons_succ, List.take_succ_cons, List.take_zero, List.drop_succ_cons, List.drop_zero, Eng.setMany, evc, Nat.zero_add, Nat.reduceAdd, Nat.reduceMul, Nat.reduceSub] at hI8
        refine RunTo.nil ?_
        refine Ev.seq ?_
        refine Ev.rg [0, 1, 2, 3, 4, 5, 6] ?_
        refine Rp rfl Z12 ?_
        refine Rl rfl Z7 ?_
        refine Rp rfl Z1 ?_
        refine Rp rfl Z1 ?_
        refine Rp rfl (by ((conv => lhs; simp only [evs, evm, lk_up, lk_lf, Nat.reduceEqDiff, Nat.reduceLT, reduceIte, if_true, if_false, i64, bo, u8, nilS, Bool.not_true, Bool.not_false, List.take_succ_cons, List.take_zero, List.drop_zero, List.drop_succ_cons, List.toList_toArray, Int.reduceToNat, Nat.reduceMul, Nat.reduceAdd, Nat.reduceSub, Nat.zero_add]); exact pSlice_hm Z1 Z1 Z1 (slice_by_hm (n := n - 4) (by kernel_rfl) (by omega) (by omega) (by omega)))) ?_
        refine Rp rfl Z12 ?_
        refine RunTo.freeM rfl (RunOn.storeL (n := 1) hI8 rfl rfl Z1 Z1 (by kernel_rfl) Z6 Z6 (by rfl) Z9 Z5 ?_)
        intro hp9 hI9
        simp only [set_last, List.set_set, List.set_cons_zero, List.set_cons_succ, List.take_succ_cons, List.take_zero, List.drop_succ_cons, List.drop_zero, Eng.setMany, evc, Nat.zero_add, Nat.reduceAdd, Nat.reduceMul, Nat.reduceSub] at hI9
        refine RunTo.nil ?_
        refine Ev.seq ?_
        refine Ev.draw (M := [0, 1, 3, 7, 0, 16, 63, 127, 15, 511, 1023, 2047]) (l := [0, 1, 2, 3, 4, 5, 6, 7, 8, 9, 10, 11]) (by kernel_rfl) (by kernel_rfl) (by kernel_rfl) ?_
        refine Rp rfl Z17 ?_
        refine Rl rfl Z7 ?_
        refine RunTo.freeM rfl (RunOn.tree rfl rfl (by decide) Z1 Z1 (by assumption) Z8 Z68 ?_)
        refine RunTo.freeM rfl (RunOn.tree rfl rfl (by decide) Z1 Z1 (by assumption) Z8 Z90 ?_)
        refine Rp rfl Z17 ?_
        refine Rl rfl Z7 ?_
        refine RunTo.freeM rfl (RunOn.tree rfl rfl (by decide) Z1 Z1 (by assumption) Z8 Z107 ?_)
        refine RunTo.freeM rfl (RunOn.tree rfl rfl (by decide) Z1 Z1 (by assumption) Z8 Z90 ?_)
        refine Rp rfl Z17 ?_
        refine RunTo.freeM rfl (RunOn.storeL (n := 1) hI9 rfl rfl Z1 Z1 (by kernel_rfl) Z6 Z6 (by rfl) Z9 Z5 ?_)
        intro hp10 hI10
        simp only [set_last, List.set_set, List.set_cons_zero, List.set_cons_succ, List.take_succ_cons, List.take_zero, List.drop_succ_cons, List.drop_zero, Eng.setMany, evc, Nat.zero_add, Nat.reduceAdd, Nat.reduceMul, Nat.reduceSub] at hI10
        refine Rp rfl Z17 ?_
        refine RunTo.freeM rfl (RunOn.storeL (n := 1) hI10 rfl rfl Z1 Z1 (by kernel_rfl) Z6 Z6 (by rfl) Z9 Z5 ?_)
        intro hp11 hI11
        simp only [set_last, List.set_set, List.set_cons_zero, List.set_cons_succ, List.take_succ_cons, List.take_zero, List.drop_succ_cons, List.drop_zero, Eng.setMany, evc, Nat.zero_add, Nat.reduceAdd, Nat.reduceMul, Nat.reduceSub] at hI11
        refine RunTo.nil ?_
        refine Ev.seq ?_
        refine Ev.draw (M := [0, 0, 1, 7, 15]) (l := [0, 2, 1, 3, 4]) (by kernel_rfl) (by kernel_rfl) (by kernel_rfl) ?_
        refine Rl rfl Z14 ?_
        refine RunTo.freeM rfl (RunOn.storeL (n := 5) hI11 rfl rfl Z1 Z1 (by kernel_rfl) Z6 Z6 (by rfl) Z9 Z5 ?_)
        intro hp12 hI12
        simp only [set_last, List.set_set, List.set_cons_zero, List.set_cons_succ, List.take_succ_cons, List.take_zero, List.drop_succ_cons, List.drop_zero, Eng.setMany, evc, Nat.zero_add, Nat.reduceAdd, Nat.reduceMul, Nat.reduceSub] at hI12
        refine Rl rfl Z14 ?_
        refine RunTo.freeM rfl (RunOn.storeL (n := 5) hI12 rfl rfl Z1 Z1 (by kernel_rfl) Z6 Z6 (by rfl) Z9 Z5 ?_)
        intro hp13 hI13
        simp only [set_last, List.set_set, List.set_cons_zero, List.set_cons_succ, List.take_succ_cons, List.take_zero, List.drop_succ_cons, List.drop_zero, Eng.setMany, evc, Nat.zero_add, Nat.reduceAdd, Nat.reduceMul, Nat.reduceSub] at hI13
        refine Rp rfl Z1 ?_
        refine RunTo.nil ?_
        refine Ev.ret ⟨.inr rfl, _, resC3 Z14 Z14, ?_⟩
        simp only [lk_up, lk_lf, Nat.reduceEqDiff, Nat.reduceLT, reduceIte, if_true, if_false, Nat.zero_add, i64, bo, u8, nilS, List.take_succ_cons, List.take_zero, List.drop_zero, List.drop_succ_cons]
        rw [hoff]
        repeat first | exact allO_nil | with_reducible apply allO_cons | exact frz_sc | with_reducible exact frz_by1 _ _ | with_reducible exact frz_rg1 _ _ | with_reducible exact frz_par1 _ | with_reducible apply frz_ro1 | with_reducible apply frz_agg | with_reducible apply frz_tup
    | false =>
      simp only [partF, if_true, if_false, Bool.false_eq_true, reduceIte] at hq ⊢
      have hh : (headF 3).toNat = 4 := rfl
      rw [hh]
      by_cases hs : 4 + bs.length ≤ n
      · rw [if_pos hs, if_pos hs]
        refine CallTo.body (c := (Tryz.f31.body.getD .skip)) (nt := 75) (rs := #[.cell 6 79, .cell 7 79, .tmp 8]) (by assumption) (by kernel_rfl) ⟨by simp, by decide⟩ ?_
        show Ev _ (Code.seq _ _) _ _
        simp only [tmOf_cons, tmOf_nil, i64, bo, u8, nilS, Nat.zero_add, Nat.reduceAdd]
        refine Ev.seq ?_
        refine Ev.rg [0, 1, 2, 3] ?_
        refine RunTo.freeM rfl (RunOn.madeL (k := 0) hI rfl rfl (by decide) rfl Z15 Z5 ?_)
        intro hp1 hI1
        simp only [List.cons_append, List.nil_append, evc, repA, Eng.setMany, List.set_cons_zero, List.set_cons_succ, Nat.zero_mul, Nat.one_mul, List.take_succ_cons, List.take_zero, List.drop_zero, List.drop_succ_cons, Nat.zero_add, Nat.reduceAdd, Nat.reduceMul] at hI1
        refine RunTo.freeM rfl (RunOn.madeL (k := 1) hI1 rfl rfl (by decide) rfl Z31 Z5 ?_)
        intro hp2 hI2
        simp only [List.cons_append, List.nil_append, evc, repA, Eng.setMany, List.set_cons_zero, List.set_cons_succ, Nat.zero_mul, Nat.one_mul, List.take_succ_cons, List.take_zero, List.drop_zero, List.drop_succ_cons, Nat.zero_add, Nat.reduceAdd, Nat.reduceMul] at hI2
        refine RunTo.freeM rfl (RunOn.madeL (k := 2) hI2 rfl rfl (by decide) rfl Z31 Z5 ?_)
        intro hp3 hI3
        simp only [List.cons_append, List.nil_append, evc, repA, Eng.setMany, List.set_cons_zero, List.set_cons_succ, Nat.zero_mul, Nat.one_mul, List.take_succ_cons, List.take_zero, List.drop_zero, List.drop_succ_cons, Nat.zero_add, Nat.reduceAdd, Nat.reduceMul] at hI3
        refine Rp rfl Z1 ?_
        refine RunTo.nil ?_
        refine Ev.seq ?_
        refine Ev.rg [0, 1, 2, 3] ?_
        refine Rp rfl Z17 ?_
        refine Rl rfl Z7 ?_
        refine RunTo.freeM rfl (RunOn.tree rfl rfl (by decide) Z1 Z1 (by assumption) Z8 Z62 ?_)
        rw [show headF 3 = 4 from rfl]
        refine Rp rfl Z1 ?_
        refine RunTo.nil ?_
        refine Ev.seq ?_
        refine Ev.block ?_
        refine Ev.seq ?_
        refine Ev.rg [0, 1, 2, 3, 4] ?_
        refine Rp rfl Z1 ?_
        refine Rl rfl Z14 ?_
        refine RunTo.freeM rfl (RunOn.tree rfl rfl (by decide) Z1 Z1 (by assumption) Z8 (by exact hq) ?_)
        refine Rp rfl Z16 ?_
        refine Rp rfl Z1 ?_
        refine RunTo.nil ?_
        refine Ev.condF Z1 ?_
        refine Ev.seq ?_
        refine Ev.rg [0, 1, 2, 3, 4] ?_
        refine Rp rfl Z1 ?_
        refine Rp rfl Z1 ?_
        refine Rp rfl Z71 ?_
        refine Rp rfl Z18 ?_
        refine Rp rfl Z1 ?_
        refine RunTo.nil ?_
        refine Ev.condF Z1 ?_
        refine Ev.skip ?_
        refine Ev.seq ?_
        refine Ev.rg [0, 1] ?_
        refine Rl rfl Z14 ?_
        refine RunTo.freeM rfl (RunOn.storeL (n := 5) hI3 rfl rfl Z1 Z1 (by kernel_rfl) Z6 Z6 (by rfl) Z9 Z5 ?_)
        intro hp4 hI4
        simp only [set_last, List.set_set, List.set_cons_zero, List.set_cons_succ, List.take_succ_cons, List.take_zero, List.drop_succ_cons, List.drop_zero, Eng.setMany, evc, Nat.zero_add, Nat.reduceAdd, Nat.reduceMul, Nat.reduceSub] at hI4
        refine RunTo.nil ?_
        refine Ev.seq ?_
        refine Ev.rg [0, 1, 2, 3, 4] ?_
        refine Rp rfl Z12 ?_
        refine Rl rfl Z7 ?_
        refine RunTo.freeM rfl (RunOn.tree rfl rfl (by decide) Z1 Z1 (by assumption) Z8 (by exact F105_eq hne (by omega)) ?_)
        refine Rp rfl Z12 ?_
        refine RunTo.freeM rfl (RunOn.storeL (n := 1) hI4 rfl rfl Z1 Z1 (by kernel_rfl) Z6 Z6 (by rfl) Z9 Z5 ?_)
        intro hp5 hI5
        simp only [set_last, List.set_set, List.set_cons_zero, List.set_cons_succ, List.take_succ_cons, List.take_zero, List.drop_succ_cons, List.drop_zero, Eng.setMany, evc, Nat.zero_add, Nat.reduceAdd, Nat.reduceMul, Nat.reduceSub] at hI5
        refine RunTo.nil ?_
        refine Ev.seq ?_
        refine Ev.seq ?_
        refine Ev.rg [0, 1, 2, 3, 4, 5, 6] ?_
        refine Rp rfl Z1 ?_
        refine Rp rfl Z12 ?_
        refine Rl rfl Z7 ?_
        refine Rp rfl Z27 ?_
        refine Rp rfl Z34 ?_
        refine Rp rfl Z1 ?_
        refine Rp rfl Z61 ?_
        refine RunTo.nil ?_
        refine Ev.condT Z1 ?_
        refine Ev.seq ?_
        refine Ev.rg [0, 1, 2, 3, 4] ?_
        refine Rl rfl Z14 ?_
        refine Rp rfl Z80 ?_
        refine RunTo.freeM rfl (RunOn.storeL (n := 5) hI5 rfl rfl Z1 Z1 (by kernel_rfl) Z6 Z6 (by rfl) Z9 Z5 ?_)
        intro hp6 hI6
        simp only [set_last, List.set_set, List.set_cons_zero, List.set_cons_succ, List.take_succ_cons, List.take_zero, List.drop_succ_cons, List.drop_zero, Eng.setMany, evc, Nat.zero_add, Nat.reduceAdd, Nat.reduceMul, Nat.reduceSub] at hI6
        refine RunTo.freeM rfl (RunOn.storeL (n := 5) hI6 rfl rfl Z1 Z1 (by kernel_rfl) Z6 Z6 (by rfl) Z9 Z5 ?_)
        intro hp7 hI7
        simp only [set_last, List.set_set, List.set_cons_zero, List.set_cons_succ, List.take_succ_cons, List.take_zero, List.drop_succ_cons, List.drop_zero, Eng.setMany, evc, Nat.zero_add, Nat.reduceAdd, Nat.reduceMul, Nat.reduceSub] at hI7
        refine Rp rfl Z1 ?_
        refine RunTo.nil ?_
        refine Ev.ret ⟨.inr rfl, _, resC3 Z14 Z14, ?_⟩
        simp only [lk_up, lk_lf, Nat.reduceEqDiff, Nat.reduceLT, reduceIte, if_true, if_false, Nat.zero_add, i64, bo, u8, nilS, List.take_succ_cons, List.take_zero, List.drop_zero, List.drop_succ_cons]
        repeat first | exact allO_nil | with_reducible apply allO_cons | exact frz_sc | with_reducible exact frz_by1 _ _ | with_reducible exact frz_rg1 _ _ | with_reducible exact frz_par1 _ | with_reducible apply frz_ro1 | with_reducible apply frz_agg | with_reducible apply frz_tup
      · rw [if_neg hs, if_neg hs]
        have hd : bs.drop (n - 4) ≠ [] := by
          intro k
          have := congrArg List.length k
          simp at this
          omega
        have hoff : (((off : Nat) : Int) + ((n : Int) - 4)) = ((off + (n - 4) : Nat) : Int) := by omega
        refine CallTo.body (c := (Tryz.f31.body.getD .skip)) (nt := 75) (rs := #[.cell 6 79, .cell 7 79, .tmp 8]) (by assumption) (by kernel_rfl) ⟨by simp, by decide⟩ ?_
        show Ev _ (Code.seq _ _) _ _
        simp only [tmOf_cons, tmOf_nil, i64, bo, u8, nilS, Nat.zero_add, Nat.reduceAdd]
        refine Ev.seq ?_
        refine Ev.rg [0, 1, 2, 3] ?_
        refine RunTo.freeM rfl (RunOn.madeL (k := 0) hI rfl rfl (by decide) rfl Z15 Z5 ?_)
        intro hp1 hI1
        simp only [List.cons_append, List.nil_append, evc, repA, Eng.setMany, List.set_cons_zero, List.set_cons_succ, Nat.zero_mul, Nat.one_mul, List.take_succ_cons, List.take_zero, List.drop_zero, List.drop_succ_cons, Nat.zero_add, Nat.reduceAdd, Nat.reduceMul] at hI1
        refine RunTo.freeM rfl (RunOn.madeL (k := 1) hI1 rfl rfl (by decide) rfl Z31 Z5 ?_)
        intro hp2 hI2
        simp only [List.cons_append, List.nil_append, evc, repA, Eng.setMany, List.set_cons_zero, List.set_cons_succ, Nat.zero_mul, Nat.one_mul, List.take_succ_cons, List.take_zero, List.drop_zero, List.drop_succ_cons, Nat.zero_add, Nat.reduceAdd, Nat.reduceMul] at hI2
        refine RunTo.freeM rfl (RunOn.madeL (k := 2) hI2 rfl rfl (by decide) rfl Z31 Z5 ?_)
        intro hp3 hI3
        simp only [List.cons_append, List.nil_append, evc, repA, Eng.setMany, List.set_cons_zero, List.set_cons_succ, Nat.zero_mul, Nat.one_mul, List.take_succ_cons, List.take_zero, List.drop_zero, List.drop_succ_cons, Nat.zero_add, Nat.reduceAdd, Nat.reduceMul] at hI3
        refine Rp rfl Z1 ?_
        refine RunTo.nil ?_
        refine Ev.seq ?_
        refine Ev.rg [0, 1, 2, 3] ?_
        refine Rp rfl Z17 ?_
        refine Rl rfl Z7 ?_
        refine RunTo.freeM rfl (RunOn.tree rfl rfl (by decide) Z1 Z1 (by assumption) Z8 Z62 ?_)
        rw [show headF 3 = 4 from rfl]
        refine Rp rfl Z1 ?_
        refine RunTo.nil ?_
        refine Ev.seq ?_
        refine Ev.block ?_
        refine Ev.seq ?_
        refine Ev.rg [0, 1, 2, 3, 4] ?_
        refine Rp rfl Z1 ?_
        refine Rl rfl Z14 ?_
        refine RunTo.freeM rfl (RunOn.tree rfl rfl (by decide) Z1 Z1 (by assumption) Z8 (by exact hq) ?_)
        refine Rp rfl Z16 ?_
        refine Rp rfl Z1 ?_
        refine RunTo.nil ?_
        refine Ev.condF Z1 ?_
        refine Ev.seq ?_
        refine Ev.rg [0, 1, 2, 3, 4] ?_
        refine Rp rfl Z1 ?_
        refine Rp rfl Z1 ?_
        refine Rp rfl Z71 ?_
        refine Rp rfl Z18 ?_
        refine Rp rfl Z1 ?_
        refine RunTo.nil ?_
        refine Ev.condF Z1 ?_
        refine Ev.skip ?_
        refine Ev.seq ?_
        refine Ev.rg [0, 1] ?_
        refine Rl rfl Z14 ?_
        refine RunTo.freeM rfl (RunOn.storeL (n := 5) hI3 rfl rfl Z1 Z1 (by kernel_rfl) Z6 Z6 (by rfl) Z9 Z5 ?_)
        intro hp4 hI4
        simp only [set_last, List.set_set, List.set_cons_zero, List.set_cons_succ, List.take_succ_cons, List.take_zero, List.drop_succ_cons, List.drop_zero, Eng.setMany, evc, Nat.zero_add, Nat.reduceAdd, Nat.reduceMul, Nat.reduceSub] at hI4
        refine RunTo.nil ?_
        refine Ev.seq ?_
        refine Ev.rg [0, 1, 2, 3, 4] ?_
        refine Rp rfl Z12 ?_
        refine Rl rfl Z7 ?_
        refine RunTo.freeM rfl (RunOn.tree rfl rfl (by decide) Z1 Z1 (by assumption) Z8 (by exact F105_eq hne (by omega)) ?_)
        refine Rp rfl Z12 ?_
        refine RunTo.freeM rfl (RunOn.storeL (n := 1) hI4 rfl rfl Z1 Z1 (by kernel_rfl) Z6 Z6 (by rfl) Z9 Z5 ?_)
        intro hp5 hI5
        simp only [set_last, List.set_set, List.set_cons_zero, List.set_cons_succ, List.take_succ_cons, List.take_zero, List.drop_succ_cons, List.drop_zero, Eng.setMany, evc, Nat.zero_add, Nat.reduceAdd, Nat.reduceMul, Nat.reduceSub] at hI5
        refine RunTo.nil ?_
        refine Ev.seq ?_
        refine Ev.seq ?_
        refine Ev.rg [0, 1, 2, 3, 4, 5, 6] ?_
        refine Rp rfl Z1 ?_
        refine Rp rfl Z12 ?_
        refine Rl rfl Z7 ?_
        refine Rp rfl Z27 ?_
        refine Rp rfl Z34 ?_
        refine Rp rfl Z1 ?_
        refine Rp rfl Z73 ?_
        refine RunTo.nil ?_
        refine Ev.condF Z1 ?_
        refine Ev.skip ?_
        refine Ev.seq ?_
        refine Ev.rg [0, 1, 2, 3] ?_
        refine Rp rfl Z1 ?_
        refine Rp rfl Z1 ?_
        refine Rp rfl Z55 ?_
        refine Rp rfl Z1 ?_
        refine RunTo.nil ?_
        refine Ev.seq ?_
        refine Ev.rg [0, 1] ?_
        refine Rl rfl Z14 ?_
        refine RunTo.freeM rfl (RunOn.storeL (n := 5) hI5 rfl rfl Z1 Z1 (by kernel_rfl) Z6 Z6 (by rfl) Z9 Z5 ?_)
        intro hp6 hI6
        simp only [set_last, List.set_set, List.set_cons_zero, List.set_cons_succ, List.take_succ_cons, List.take_zero, List.drop_succ_cons, List.drop_zero, Eng.setMany, evc, Nat.zero_add, Nat.reduceAdd, Nat.reduceMul, Nat.reduceSub] at hI6
        refine RunTo.nil ?_
        refine Ev.seq ?_
        refine Ev.draw (M := [0, 1, 0, 7, 0, 16, 0, 112, 240, 15, 1023, 2047, 4095]) (l := [4, 5, 6, 7, 8, 0, 1, 2, 3, 9, 10, 11, 12]) (by kernel_rfl) (by kernel_rfl) (by kernel_rfl) ?_
        refine Rp rfl Z12 ?_
        refine Rl rfl Z7 ?_
        refine Rp rfl Z1 ?_
        refine Rp rfl (by ((conv => lhs; simp only [evs, evm, lk_up, lk_lf, Nat.reduceEqDiff, Nat.reduceLT, reduceIte, if_true, if_false, i64, bo, u8, nilS, Bool.not_true, Bool.not_false, List.take_succ_cons, List.take_zero, List.drop_zero, List.drop_succ_cons, List.toList_toArray, Int.reduceToNat, Nat.reduceMul, Nat.reduceAdd, Nat.reduceSub, Nat.zero_add]); exact pSlice_lo Z1 Z1 (slice_by_lo (n := n - 4) (by kernel_rfl) (by omega) (by omega) hc))) ?_
        refine RunTo.freeM rfl (RunOn.tree rfl rfl (by decide) Z1 Z1 (by assumption) Z8 (by exact F105_eq hd (by simp; omega)) ?_)
        refine Rp rfl Z19 ?_
        refine Rl rfl Z7 ?_
        refine Rp rfl Z1 ?_
        refine Rp rfl Z34 ?_
        refine Rp rfl Z19 ?_
        refine RunTo.freeM rfl (RunOn.storeL (n := 1) hI6 rfl rfl Z1 Z1 (by kernel_rfl) Z6 Z6 (by rfl) Z9 Z5 ?_)
        intro hp7 hI7
        simp only [set_last, List.set_set, List.set_cons_zero, List.set_cons_succ, List.take_succ_cons, List.take_zero, List.drop_succ_cons, List.drop_zero, Eng.setMany, evc, Nat.zero_add, Nat.reduceAdd, Nat.reduceMul, Nat.reduceSub] at hI7
        refine Rp rfl Z12 ?_
        refine RunTo.freeM rfl (RunOn.storeL (n := 1) hI7 rfl rfl Z1 Z1 (by kernel_rfl) Z6 Z6 (by rfl) Z9 Z5 ?_)
        intro hp8 hI8
        simp only [set_last, List.set_set, List.set_cons_zero, List.set_cons_succ, List.take_succ_cons, List.take_zero, List.drop_succ_cons, List.drop_zero, Eng.setMany, evc, Nat.zero_add, Nat.reduceAdd, Nat.reduceMul, Nat.reduceSub] at hI8
        refine RunTo.nil ?_
        refine Ev.seq ?_
        refine Ev.rg [0, 1, 2, 3, 4, 5, 6] ?_
        refine Rp rfl Z12 ?_
        refine Rl rfl Z7 ?_
        refine Rp rfl Z1 ?_
        refine Rp rfl Z1 ?_
        refine Rp rfl (by ((conv => lhs; simp only [evs, evm, lk_up, lk_lf, Nat.reduceEqDiff, Nat.reduceLT, reduceIte, if_true, if_false, i64, bo, u8, nilS, Bool.not_true, Bool.not_false, List.take_succ_cons, List.take_zero, List.drop_zero, List.drop_succ_cons, List.toList_toArray, Int.reduceToNat, Nat.reduceMul, Nat.reduceAdd, Nat.reduceSub, Nat.zero_add]); exact pSlice_hm Z1 Z1 Z1 (slice_by_hm (n := n - 4) (by kernel_rfl) (by omega) (by omega) (by omega)))) ?_
        refine Rp rfl Z12 ?_
        refine RunTo.freeM rfl (RunOn.storeL (n := 1) hI8 rfl rfl Z1 Z1 (by kernel_rfl) Z6 Z6 (by rfl) Z9 Z5 ?_)
        intro hp9 hI9
        simp only [set_last, List.set_set, List.set_cons_zero, List.set_cons_succ, List.take_succ_cons, List.take_zero, List.drop_succ_cons, List.drop_zero, Eng.setMany, evc, Nat.zero_add, Nat.reduceAdd, Nat.reduceMul, Nat.reduceSub] at hI9
        refine RunTo.nil ?_
        refine Ev.seq ?_
        refine Ev.draw (M := [0, 1, 3, 7, 0, 16, 63, 127, 15, 511, 1023, 2047]) (l := [0, 1, 2, 3, 4, 5, 6, 7, 8, 9, 10, 11]) (by kernel_rfl) (by kernel_rfl) (by kernel_rfl) ?_
        refine Rp rfl Z17 ?_
        refine Rl rfl Z7 ?_
        refine RunTo.freeM rfl (RunOn.tree rfl rfl (by decide) Z1 Z1 (by assumption) Z8 Z68 ?_)
        refine RunTo.freeM rfl (RunOn.tree rfl rfl (by decide) Z1 Z1 (by assumption) Z8 Z90 ?_)
        refine Rp rfl Z17 ?_
        refine Rl rfl Z7 ?_
        refine RunTo.freeM rfl (RunOn.tree rfl rfl (by decide) Z1 Z1 (by assumption) Z8 Z107 ?_)
        refine RunTo.freeM rfl (RunOn.tree rfl rfl (by decide) Z1 Z1 (by assumption) Z8 Z90 ?_)
        refine Rp rfl Z17 ?_
        refine RunTo.freeM rfl (RunOn.storeL (n := 1) hI9 rfl rfl Z1 Z1 (by kernel_rfl) Z6 Z6 (by rfl) Z9 Z5 ?_)
        intro hp10 hI10
        simp only [set_last, List.set_set, List.set_cons_zero, List.set_cons_succ, List.take_succ_cons, List.take_zero, List.drop_succ_cons, List.drop_zero, Eng.setMany, evc, Nat.zero_add, Nat.reduceAdd, Nat.reduceMul, Nat.reduceSub] at hI10
        refine Rp rfl Z17 ?_
        refine RunTo.freeM rfl (RunOn.storeL (n := 1) hI10 rfl rfl Z1 Z1 (by kernel_rfl) Z6 Z6 (by rfl) Z9 Z5 ?_)
        intro hp11 hI11
        simp only [set_last, List.set_set, List.set_cons_zero, List.set_cons_succ, List.take_succ_cons, List.take_zero, List.drop_succ_cons, List.drop_zero, Eng.setMany, evc, Nat.zero_add, Nat.reduceAdd, Nat.reduceMul, Nat.reduceSub] at hI11
        refine RunTo.nil ?_
        refine Ev.seq ?_
        refine Ev.draw (M := [0, 0, 1, 7, 15]) (l := [0, 2, 1, 3, 4]) (by kernel_rfl) (by kernel_rfl) (by kernel_rfl) ?_
        refine Rl rfl Z14 ?_
        refine RunTo.freeM rfl (RunOn.storeL (n := 5) hI11 rfl rfl Z1 Z1 (by kernel_rfl) Z6 Z6 (by rfl) Z9 Z5 ?_)
        intro hp12 hI12
        simp only [set_last, List.set_set, List.set_cons_zero, List.set_cons_succ, List.take_succ_cons, List.take_zero, List.drop_succ_cons, List.drop_zero, Eng.setMany, evc, Nat.zero_add, Nat.reduceAdd, Nat.reduceMul, Nat.reduceSub] at hI12
        refine Rl rfl Z14 ?_
        refine RunTo.freeM rfl (RunOn.storeL (n := 5) hI12 rfl rfl Z1 Z1 (by kernel_rfl) Z6 Z6 (by rfl) Z9 Z5 ?_)
        intro hp13 hI13
        simp only [set_last, List.set_set, List.set_cons_zero, List.set_cons_succ, List.take_succ_cons, List.take_zero, List.drop_succ_cons, List.drop_zero, Eng.setMany, evc, Nat.zero_add, Nat.reduceAdd, Nat.reduceMul, Nat.reduceSub] at hI13
        refine Rp rfl Z1 ?_
        refine RunTo.nil ?_
        refine Ev.ret ⟨.inr rfl, _, resC3 Z14 Z14, ?_⟩
        simp only [lk_up, lk_lf, Nat.reduceEqDiff, Nat.reduceLT, reduceIte, if_true, if_false, Nat.zero_add, i64, bo, u8, nilS, List.take_succ_cons, List.take_zero, List.drop_zero, List.drop_succ_cons]
        rw [hoff]
        repeat first | exact allO_nil | with_reducible apply allO_cons | exact frz_sc | with_reducible exact frz_by1 _ _ | with_reducible exact frz_rg1 _ _ | with_reducible exact frz_par1 _ | with_reducible apply frz_ro1 | with_reducible apply frz_agg | with_reducible apply frz_tup
end
end Go.Eng
end
section
set_option linter.unusedVariables false
set_option linter.unusedSimpArgs false
set_option maxRecDepth 100000
set_option maxHeartbeats 4000000
namespace Go.Eng
open Go Go.RowKit Go.Proofs
section
variable (p : Poly) (T : List (Nat × (List AV → Option AV)))
theorem w346 (h : (envL p T).sp 346 = none) (h304 : (envL p T).sp 304 = some (treeSp F304)) (l : List Nat) (c : Option Nat) (hl2 : l.length ≤ 2100) (hz : ∀ b ∈ l, b = 0) : CallTo (envL p T) 346 [byV false l c, .fn 304 [] []] Hp.empty fun v hp' => frz true hp' 20 v = some (i64 (-1)) := by
  have hI := IsH.empty
  refine CallTo.body (c := (Tryz.f346.body.getD .skip)) (nt := 19) (rs := #[.tmp 4]) (by assumption) (by kernel_rfl) ⟨by simp, by decide⟩ ?_
  show Ev _ (Code.seq _ _) _ _
  simp only [tmOf_cons, tmOf_nil, i64, bo, u8, nilS, Nat.zero_add, Nat.reduceAdd]
  refine Ev.seq ?_
  refine Ev.rg [0] ?_
  refine Rp rfl Z1 ?_
  refine RunTo.nil ?_
  refine Ev.seq ?_
  refine Ev.seq ?_
  refine Ev.rg [0, 1, 2] ?_
  refine Rp rfl Z1 ?_
  refine Rp rfl Z27 ?_
  refine Rp rfl Z1 ?_
  refine RunTo.nil ?_
  refine Ev.block ?_
  refine Ev.loop (fun (x : List Nat × List Nat) s => l = x.1 ++ x.2 ∧ ∃ tm, s = ⟨19, tm, Hp.empty⟩ ∧ lk tm 0 = byV false l c ∧ lk tm 1 = .fn 304 [] [] ∧ lk tm 7 = .sc (.int .i64 l.length) ∧ lk tm 8 = .sc (.int .i64 x.1.length)) (fun x => x.2.length) ?_ (x := ([], l)) ⟨rfl, _, rfl, ?_, ?_, ?_, ?_⟩
  · rintro ⟨l1, l2⟩ s ⟨hl, tm, rfl, k0, k1, k7, k8⟩
    simp only at hl k8
    cases l2 with
    | nil =>
      have hlen : l.length = l1.length := by rw [hl]; simp
      refine Ev.seq ?_
      refine Ev.rg [0] ?_
      refine Rp rfl (Z39 (Y4 k0 k1 k7 k8)) ?_
      refine RunTo.nil ?_
      refine Ev.seq ?_
      refine Ev.condF (Z3 (Y4 k0 k1 k7 k8)) ?_
      refine Ev.exit ?_
      refine thenE_ext ?_
      refine inBlock_pos ?_
      refine Ev.seq ?_
      refine Ev.rg [0] ?_
      refine Rp rfl (Z3 (Y4 k0 k1 k7 k8)) ?_
      refine RunTo.nil ?_
      refine Ev.ret ⟨.inr rfl, _, res1, ?_⟩
      simp only [lk_up, lk_lf, Nat.reduceEqDiff, Nat.reduceLT, reduceIte, if_true, if_false, Nat.zero_add, i64, bo, u8, nilS, List.take_succ_cons, List.take_zero, List.drop_zero, List.drop_succ_cons, k0, k1, k7, k8]
      exact frz_sc
    | cons r l2 =>
      subst hl
      have hlen : (l1 ++ r :: l2).length = l1.length + l2.length + 1 := by simp; omega
      have hcons : (l1 ++ [r]).length = l1.length + 1 := by simp
      have hr : r = 0 := hz r (by simp)
      subst hr
      refine Ev.seq ?_
      refine Ev.rg [0] ?_
      refine Rp rfl (Z35 (Y4 k1 k8 k0 k7)) ?_
      refine RunTo.nil ?_
      refine Ev.seq ?_
      refine Ev.condT (Z3 (Y4 k1 k8 k0 k7)) ?_
      refine Ev.skip ?_
      refine Ev.seq ?_
      refine Ev.block ?_
      refine Ev.seq ?_
      refine Ev.rg [0, 1] ?_
      refine Rp rfl (Z3 (Y4 k1 k8 k0 k7)) ?_
      refine Rp rfl (Z3 (Y4 k1 k8 k0 k7)) ?_
      refine RunTo.nil ?_
      refine Ev.seq ?_
      refine Ev.rg [0, 1, 2, 3, 4, 5] ?_
      refine Rp rfl (Z3 (Y4 k1 k8 k0 k7)) ?_
      refine Rp rfl (Z3 (Y4 k1 k8 k0 k7)) ?_
      refine Rp rfl (Z3 (Y4 k1 k8 k0 k7)) ?_
      refine Rp rfl (by ((conv => lhs; simp only [evs, evm, lk_up, lk_lf, Nat.reduceEqDiff, Nat.reduceLT, reduceIte, if_true, if_false, i64, bo, u8, nilS, Bool.not_true, Bool.not_false, List.take_succ_cons, List.take_zero, List.drop_zero, List.drop_succ_cons, List.toList_toArray, Int.reduceToNat, Nat.reduceMul, Nat.reduceAdd, Nat.reduceSub, Nat.zero_add, k1, k8, k0, k7]); exact index_by (by kernel_rfl) (by omega))) ?_
      refine Rl rfl (Z94 (Y4 k1 k8 k0 k7)) ?_
      refine RunTo.freeM rfl (RunOn.tree rfl rfl (by decide) (Z3 (Y4 k1 k8 k0 k7)) (Z3 (Y4 k1 k8 k0 k7)) (by assumption) Z8 (by exact F304_eq) ?_)
      refine RunTo.nil ?_
      refine Ev.condF (Z3 (Y4 k1 k8 k0 k7)) ?_
      refine Ev.skip ?_
      refine Ev.rg [0, 1] ?_
      refine Rp rfl (Z36 (Y4 k1 k8 k0 k7)) ?_
      refine Rp rfl (Z3 (Y4 k1 k8 k0 k7)) ?_
      refine RunTo.nil ?_
      refine ⟨(l1 ++ [0], l2), ⟨by simp, _, rfl, ?_, ?_, ?_, ?_⟩, by simp⟩
      · exact (Z3 (Y4 k1 k8 k0 k7))
      · exact (Z3 (Y4 k1 k8 k0 k7))
      · exact (Z3 (Y4 k1 k8 k0 k7))
      · rw [hcons]
        exact (Z3 (Y4 k1 k8 k0 k7))
  · exact Z1
  · exact Z1
  · exact Z1
  · exact Z1
theorem w303 (h : (envL p T).sp 303 = none) (h346 : (envL p T).sp 346 = some (treeSp F346)) (l : List Nat) (c : Option Nat) (hl2 : l.length ≤ 2100) (hz : ∀ b ∈ l, b = 0) : CallTo (envL p T) 303 [byV false l c, .fn 304 [] []] Hp.empty fun v hp' => frz true hp' 20 v = some (bo false) := by
  have hI := IsH.empty
  refine CallTo.body (c := (Tryz.f303.body.getD .skip)) (nt := 9) (rs := #[.tmp 4]) (by assumption) (by kernel_rfl) ⟨by simp, by decide⟩ ?_
  show Ev _ (Code.seq _ _) _ _
  simp only [tmOf_cons, tmOf_nil, i64, bo, u8, nilS, Nat.zero_add, Nat.reduceAdd]
  refine Ev.seq ?_
  refine Ev.rg [0] ?_
  refine Rp rfl Z1 ?_
  refine RunTo.nil ?_
  refine Ev.seq ?_
  refine Ev.rg [0, 1, 2, 3, 4] ?_
  refine Rp rfl Z1 ?_
  refine Rp rfl Z1 ?_
  refine RunTo.freeM rfl (RunOn.tree rfl rfl (by decide) Z1 Z1 (by assumption) Z8 (by exact F346_eq hl2 hz) ?_)
  refine Rp rfl Z58 ?_
  refine Rp rfl Z1 ?_
  refine RunTo.nil ?_
  refine Ev.ret ⟨.inr rfl, _, res1, ?_⟩
  simp only [lk_up, lk_lf, Nat.reduceEqDiff, Nat.reduceLT, reduceIte, if_true, if_false, Nat.zero_add, i64, bo, u8, nilS, List.take_succ_cons, List.take_zero, List.drop_zero, List.drop_succ_cons]
  exact frz_sc
theorem w323a (h : (envL p T).sp 323 = none) (h302 : (envL p T).sp 302 = some (treeSp F302)) (l : List Rg) (c0 : Option Nat) (x : Pt) (c d : Option Nat) (hl2 : l.length ≤ 1000) : CallTo (envL p T) 323 [rgV false l c0, .fn 302 [] [.rp false (x.cells false c d)]] Hp.empty fun v hp' => frz true hp' 20 v = some (i64 (-1)) := by
  have hI := IsH.empty
  unfold Pt.cells paC
  refine CallTo.body (c := (Tryz.f323.body.getD .skip)) (nt := 19) (rs := #[.tmp 4]) (by assumption) (by kernel_rfl) ⟨by simp, by decide⟩ ?_
  show Ev _ (Code.seq _ _) _ _
  simp only [tmOf_cons, tmOf_nil, i64, bo, u8, nilS, Nat.zero_add, Nat.reduceAdd]
  refine Ev.seq ?_
  refine Ev.rg [0] ?_
  refine Rp rfl Z1 ?_
  refine RunTo.nil ?_
  refine Ev.seq ?_
  refine Ev.seq ?_
  refine Ev.rg [0, 1, 2] ?_
  refine Rp rfl Z1 ?_
  refine Rp rfl Z33 ?_
  refine Rp rfl Z1 ?_
  refine RunTo.nil ?_
  refine Ev.block ?_
  refine Ev.loop (fun (x' : List Rg × List Rg) s => l = x'.1 ++ x'.2 ∧ ∃ tm, s = ⟨19, tm, Hp.empty⟩ ∧ lk tm 0 = rgV false l c0 ∧ lk tm 1 = .fn 302 [] [.rp false [.sc (.int .i64 0), .sc (.bool false), .sc (.int .i64 x.len), byV false x.D c, rgV false x.R d]] ∧ lk tm 7 = .sc (.int .i64 l.length) ∧ lk tm 8 = .sc (.int .i64 x'.1.length)) (fun x' => x'.2.length) ?_ (x := ([], l)) ⟨rfl, _, rfl, ?_, ?_, ?_, ?_⟩
  · rintro ⟨l1, l2⟩ s ⟨hl, tm, rfl, k0, k1, k7, k8⟩
    simp only at hl k8
    cases l2 with
    | nil =>
      have hlen : l.length = l1.length := by rw [hl]; simp
      refine Ev.seq ?_
      refine Ev.rg [0] ?_
      refine Rp rfl (Z39 (Y4 k0 k1 k7 k8)) ?_
      refine RunTo.nil ?_
      refine Ev.seq ?_
      refine Ev.condF (Z3 (Y4 k0 k1 k7 k8)) ?_
      refine Ev.exit ?_
      refine thenE_ext ?_
      refine inBlock_pos ?_
      refine Ev.seq ?_
      refine Ev.rg [0] ?_
      refine Rp rfl (Z3 (Y4 k0 k1 k7 k8)) ?_
      refine RunTo.nil ?_
      refine Ev.ret ⟨.inr rfl, _, res1, ?_⟩
      simp only [lk_up, lk_lf, Nat.reduceEqDiff, Nat.reduceLT, reduceIte, if_true, if_false, Nat.zero_add, i64, bo, u8, nilS, List.take_succ_cons, List.take_zero, List.drop_zero, List.drop_succ_cons, k0, k1, k7, k8]
      exact frz_sc
    | cons r l2 =>
      subst hl
      have hlen : (l1 ++ r :: l2).length = l1.length + l2.length + 1 := by simp; omega
      have hcons : (l1 ++ [r]).length = l1.length + 1 := by simp
      refine Ev.seq ?_
      refine Ev.rg [0] ?_
      refine Rp rfl (Z35 (Y4 k1 k8 k0 k7)) ?_
      refine RunTo.nil ?_
      refine Ev.seq ?_
      refine Ev.condT (Z3 (Y4 k1 k8 k0 k7)) ?_
      refine Ev.skip ?_
      refine Ev.seq ?_
      refine Ev.block ?_
      refine Ev.seq ?_
      refine Ev.rg [0, 1] ?_
      refine Rp rfl (Z3 (Y4 k1 k8 k0 k7)) ?_
      refine Rp rfl (Z3 (Y4 k1 k8 k0 k7)) ?_
      refine RunTo.nil ?_
      refine Ev.seq ?_
      refine Ev.rg [0, 1, 2, 3, 4, 5] ?_
      refine Rp rfl (Z3 (Y4 k1 k8 k0 k7)) ?_
      refine Rp rfl (Z3 (Y4 k1 k8 k0 k7)) ?_
      refine Rp rfl (Z3 (Y4 k1 k8 k0 k7)) ?_
      refine Rp rfl (Z50 (Y4 k1 k8 k0 k7)) ?_
      refine Rl rfl (Z64 (Y4 k1 k8 k0 k7)) ?_
      refine RunTo.freeM rfl (RunOn.tree rfl rfl (by decide) (Z3 (Y4 k1 k8 k0 k7)) (Z3 (Y4 k1 k8 k0 k7)) (by assumption) Z8 (by exact F302_eq _ _ _) ?_)
      refine RunTo.nil ?_
      refine Ev.condF (Z3 (Y4 k1 k8 k0 k7)) ?_
      refine Ev.skip ?_
      refine Ev.rg [0, 1] ?_
      refine Rp rfl (Z36 (Y4 k1 k8 k0 k7)) ?_
      refine Rp rfl (Z3 (Y4 k1 k8 k0 k7)) ?_
      refine RunTo.nil ?_
      refine ⟨(l1 ++ [r], l2), ⟨by simp, _, rfl, ?_, ?_, ?_, ?_⟩, by simp⟩
      · exact (Z3 (Y4 k1 k8 k0 k7))
      · exact (Z3 (Y4 k1 k8 k0 k7))
      · exact (Z3 (Y4 k1 k8 k0 k7))
      · rw [hcons]
        exact (Z3 (Y4 k1 k8 k0 k7))
  · exact Z1
  · exact Z1
  · exact Z1
  · exact Z1
theorem w323b (h : (envL p T).sp 323 = none) (h286 : (envL p T).sp 286 = some (treeSp F286)) (l : List Rg) (c0 : Option Nat) (q : Pc) (poll : Int) (c : Option Nat) (hl2 : l.length ≤ 1000) (hq : ∀ r ∈ l, ¬ (r.1 ≤ q.off ∧ q.off + q.bs.length ≤ r.2)) : CallTo (envL p T) 323 [rgV false l c0, .fn 286 [] [.rp false (q.x poll false c)]] Hp.empty fun v hp' => frz true hp' 20 v = some (i64 (-1)) := by
  have hI := IsH.empty
  unfold Pc.x
  refine CallTo.body (c := (Tryz.f323.body.getD .skip)) (nt := 19) (rs := #[.tmp 4]) (by assumption) (by kernel_rfl) ⟨by simp, by decide⟩ ?_
  show Ev _ (Code.seq _ _) _ _
  simp only [tmOf_cons, tmOf_nil, i64, bo, u8, nilS, Nat.zero_add, Nat.reduceAdd]
  refine Ev.seq ?_
  refine Ev.rg [0] ?_
  refine Rp rfl Z1 ?_
  refine RunTo.nil ?_
  refine Ev.seq ?_
  refine Ev.seq ?_
  refine Ev.rg [0, 1, 2] ?_
  refine Rp rfl Z1 ?_
  refine Rp rfl Z33 ?_
  refine Rp rfl Z1 ?_
  refine RunTo.nil ?_
  refine Ev.block ?_
  refine Ev.loop (fun (x' : List Rg × List Rg) s => l = x'.1 ++ x'.2 ∧ ∃ tm, s = ⟨19, tm, Hp.empty⟩ ∧ lk tm 0 = rgV false l c0 ∧ lk tm 1 = .fn 286 [] [.rp false [.sc (.int .i64 0), .sc (.int .i64 q.part), .sc (.int .i64 poll), .sc (.int .i64 q.off), byV false q.bs c, .sc (.int .i64 (q.off + q.bs.length : Nat)), .sc (.bool q.last)]] ∧ lk tm 7 = .sc (.int .i64 l.length) ∧ lk tm 8 = .sc (.int .i64 x'.1.length)) (fun x' => x'.2.length) ?_ (x := ([], l)) ⟨rfl, _, rfl, ?_, ?_, ?_, ?_⟩
  · rintro ⟨l1, l2⟩ s ⟨hl, tm, rfl, k0, k1, k7, k8⟩
    simp only at hl k8
    cases l2 with
    | nil =>
      have hlen : l.length = l1.length := by rw [hl]; simp
      refine Ev.seq ?_
      refine Ev.rg [0] ?_
      refine Rp rfl (Z39 (Y4 k0 k1 k7 k8)) ?_
      refine RunTo.nil ?_
      refine Ev.seq ?_
      refine Ev.condF (Z3 (Y4 k0 k1 k7 k8)) ?_
      refine Ev.exit ?_
      refine thenE_ext ?_
      refine inBlock_pos ?_
      refine Ev.seq ?_
      refine Ev.rg [0] ?_
      refine Rp rfl (Z3 (Y4 k0 k1 k7 k8)) ?_
      refine RunTo.nil ?_
      refine Ev.ret ⟨.inr rfl, _, res1, ?_⟩
      simp only [lk_up, lk_lf, Nat.reduceEqDiff, Nat.reduceLT, reduceIte, if_true, if_false, Nat.zero_add, i64, bo, u8, nilS, List.take_succ_cons, List.take_zero, List.drop_zero, List.drop_succ_cons, k0, k1, k7, k8]
      exact frz_sc
    | cons r l2 =>
      subst hl
      have hlen : (l1 ++ r :: l2).length = l1.length + l2.length + 1 := by simp; omega
      have hcons : (l1 ++ [r]).length = l1.length + 1 := by simp
      refine Ev.seq ?_
      refine Ev.rg [0] ?_
      refine Rp rfl (Z35 (Y4 k1 k8 k0 k7)) ?_
      refine RunTo.nil ?_
      refine Ev.seq ?_
      refine Ev.condT (Z3 (Y4 k1 k8 k0 k7)) ?_
      refine Ev.skip ?_
      refine Ev.seq ?_
      refine Ev.block ?_
      refine Ev.seq ?_
      refine Ev.rg [0, 1] ?_
      refine Rp rfl (Z3 (Y4 k1 k8 k0 k7)) ?_
      refine Rp rfl (Z3 (Y4 k1 k8 k0 k7)) ?_
      refine RunTo.nil ?_
      refine Ev.seq ?_
      refine Ev.rg [0, 1, 2, 3, 4, 5] ?_
      refine Rp rfl (Z3 (Y4 k1 k8 k0 k7)) ?_
      refine Rp rfl (Z3 (Y4 k1 k8 k0 k7)) ?_
      refine Rp rfl (Z3 (Y4 k1 k8 k0 k7)) ?_
      refine Rp rfl (Z50 (Y4 k1 k8 k0 k7)) ?_
      refine Rl rfl (Z64 (Y4 k1 k8 k0 k7)) ?_
      refine RunTo.freeM rfl (RunOn.tree rfl rfl (by decide) (Z3 (Y4 k1 k8 k0 k7)) (Z3 (Y4 k1 k8 k0 k7)) (by assumption) Z8 (by exact F286_eq (q := q) (hq r (by simp))) ?_)
      refine RunTo.nil ?_
      refine Ev.condF (Z3 (Y4 k1 k8 k0 k7)) ?_
      refine Ev.skip ?_
      refine Ev.rg [0, 1] ?_
      refine Rp rfl (Z36 (Y4 k1 k8 k0 k7)) ?_
      refine Rp rfl (Z3 (Y4 k1 k8 k0 k7)) ?_
      refine RunTo.nil ?_
      refine ⟨(l1 ++ [r], l2), ⟨by simp, _, rfl, ?_, ?_, ?_, ?_⟩, by simp⟩
      · exact (Z3 (Y4 k1 k8 k0 k7))
      · exact (Z3 (Y4 k1 k8 k0 k7))
      · exact (Z3 (Y4 k1 k8 k0 k7))
      · rw [hcons]
        exact (Z3 (Y4 k1 k8 k0 k7))
  · exact Z1
  · exact Z1
  · exact Z1
  · exact Z1
theorem w323 (h : (envL p T).sp 323 = none) (h302 : (envL p T).sp 302 = some (treeSp F302)) (h286 : (envL p T).sp 286 = some (treeSp F286)) (l : List Rg) (c0 : Option Nat) (f : Clo) (hl2 : l.length ≤ 1000) (hf : Clo.none l f) : CallTo (envL p T) 323 [rgV false l c0, Clo.v f] Hp.empty fun v hp' => frz true hp' 20 v = some (i64 (-1)) := by
  rcases f with ⟨x, c, d⟩ | ⟨q, poll, c⟩
  · exact w323a p T h h302 l c0 x c d hl2
  · exact w323b p T h h286 l c0 q poll c hl2 hf
theorem w287 (h : (envL p T).sp 287 = none) (h323 : (envL p T).sp 323 = some (treeSp F323)) (l : List Rg) (c0 : Option Nat) (f : Clo) (hl2 : l.length ≤ 1000) (hf : Clo.none l f) : CallTo (envL p T) 287 [rgV false l c0, Clo.v f] Hp.empty fun v hp' => frz true hp' 20 v = some (bo false) := by
  have hI := IsH.empty
  have hF : F323 [rgV false l c0, Clo.v f] = some (i64 (-1)) := F323_eq hl2 hf
  rcases f with ⟨x, c, d⟩ | ⟨q, poll, c⟩
  · unfold Clo.v Pt.cells paC at *
    refine CallTo.body (c := (Tryz.f287.body.getD .skip)) (nt := 9) (rs := #[.tmp 4]) (by assumption) (by kernel_rfl) ⟨by simp, by decide⟩ ?_
    show Ev _ (Code.seq _ _) _ _
    simp only [tmOf_cons, tmOf_nil, i64, bo, u8, nilS, Nat.zero_add, Nat.reduceAdd]
    refine Ev.seq ?_
    refine Ev.rg [0] ?_
    refine Rp rfl Z1 ?_
    refine RunTo.nil ?_
    refine Ev.seq ?_
    refine Ev.rg [0, 1, 2, 3, 4] ?_
    refine Rp rfl Z1 ?_
    refine Rp rfl Z1 ?_
    refine RunTo.freeM rfl (RunOn.tree rfl rfl (by decide) Z1 Z1 (by assumption) Z8 (by exact hF) ?_)
    refine Rp rfl Z58 ?_
    refine Rp rfl Z1 ?_
    refine RunTo.nil ?_
    refine Ev.ret ⟨.inr rfl, _, res1, ?_⟩
    simp only [lk_up, lk_lf, Nat.reduceEqDiff, Nat.reduceLT, reduceIte, if_true, if_false, Nat.zero_add, i64, bo, u8, nilS, List.take_succ_cons, List.take_zero, List.drop_zero, List.drop_succ_cons]
    exact frz_sc
  · unfold Clo.v Pc.x at *
    refine CallTo.body (c := (Tryz.f287.body.getD .skip)) (nt := 9) (rs := #[.tmp 4]) (by assumption) (by kernel_rfl) ⟨by simp, by decide⟩ ?_
    show Ev _ (Code.seq _ _) _ _
    simp only [tmOf_cons, tmOf_nil, i64, bo, u8, nilS, Nat.zero_add, Nat.reduceAdd]
    refine Ev.seq ?_
    refine Ev.rg [0] ?_
    refine Rp rfl Z1 ?_
    refine RunTo.nil ?_
    refine Ev.seq ?_
    refine Ev.rg [0, 1, 2, 3, 4] ?_
    refine Rp rfl Z1 ?_
    refine Rp rfl Z1 ?_
    refine RunTo.freeM rfl (RunOn.tree rfl rfl (by decide) Z1 Z1 (by assumption) Z8 (by exact hF) ?_)
    refine Rp rfl Z58 ?_
    refine Rp rfl Z1 ?_
    refine RunTo.nil ?_
    refine Ev.ret ⟨.inr rfl, _, res1, ?_⟩
    simp only [lk_up, lk_lf, Nat.reduceEqDiff, Nat.reduceLT, reduceIte, if_true, if_false, Nat.zero_add, i64, bo, u8, nilS, List.take_succ_cons, List.take_zero, List.drop_zero, List.drop_succ_cons]
    exact frz_sc
end
end Go.Eng
end
section
set_option linter.unusedVariables false
set_option linter.unusedSimpArgs false
set_option maxRecDepth 100000
set_option maxHeartbeats 4000000
namespace Go.Eng
open Go Go.RowKit Go.Proofs
section
variable (p : Poly) (T : List (Nat × (List AV → Option AV)))
theorem c221 (h : (envL p T).sp 221 = none) (l : List Rg) (c : Option Nat) (hl0 : l.length ≠ 0) (hl2 : l.length ≤ 1000) (L : List (Option (List AV))) (k : Nat) (hk : L.length + 1 = k) (hL : k < 1000000) : ∀ hp0, IsH hp0 L [] → CallTo (envL p T) 221 [rgV false l c] hp0 fun v hp' => ∃ L' w', IsH hp' L' w' ∧ (v = .sl k 0 l.length none 3 ∧ L' = L ++ [some [], some (rgC l)] ∧ w' = []) := by
  intro hp0 hI
  subst hk
  unfold rgV
  refine CallTo.body (c := (Tryz.f221.body.getD .skip)) (nt := 8) (rs := #[.tmp 2]) (by assumption) (by kernel_rfl) ⟨by simp, by decide⟩ ?_
  show Ev _ (Code.seq _ _) _ _
  simp only [tmOf_cons, tmOf_nil, i64, bo, u8, nilS, Nat.zero_add, Nat.reduceAdd]
  refine Ev.seq ?_
  refine Ev.rg [0] ?_
  refine Rp rfl Z1 ?_
  refine RunTo.nil ?_
  refine Ev.seq ?_
  refine Ev.seq ?_
  refine Ev.rg [0, 1] ?_
  refine Rp rfl Z1 ?_
  refine Rp rfl Z108 ?_
  refine RunTo.nil ?_
  refine Ev.condF Z1 ?_
  refine Ev.skip ?_
  refine Ev.seq ?_
  refine Ev.rg [0, 1, 2, 3] ?_
  refine RunTo.freeM rfl (RunOn.madeL (k := _) hI rfl rfl (by decide) rfl Z98 Z5 ?_)
  intro hp1 hI1
  simp only [List.cons_append, List.nil_append, evc, repA, Eng.setMany, List.set_cons_zero, List.set_cons_succ, Nat.zero_mul, Nat.one_mul, List.take_succ_cons, List.take_zero, List.drop_zero, List.drop_succ_cons, Nat.zero_add, Nat.reduceAdd, Nat.reduceMul] at hI1
  refine Rp rfl Z1 ?_
  refine RunTo.freeM rfl (RunOn.appL (n := 3) hI1 rfl rfl (by decide) rfl rfl rfl (by kernel_rfl) (by kernel_rfl) Z1 Z1 (by exact src_ro (by rw [rgC_len])) (by exact appL_full (k := L.length + 1) (by simp) (get_last _ _) (by simp) (by omega) Z41 hl0 (by omega)) ?_)
  intro hp2 hI2
  simp only [List.cons_append, List.nil_append] at hI2
  refine Rp rfl Z1 ?_
  refine RunTo.nil ?_
  refine Ev.ret ⟨.inr rfl, _, res1, ?_⟩
  simp only [lk_up, lk_lf, Nat.reduceEqDiff, Nat.reduceLT, reduceIte, if_true, if_false, Nat.zero_add, i64, bo, u8, nilS, List.take_succ_cons, List.take_zero, List.drop_zero, List.drop_succ_cons]
  exact ⟨_, _, hI2.wlSet _, trivial, by simp, by rw [hI2.wl]; rfl⟩
theorem w229 (h : (envL p T).sp 229 = none) (h289 : (envL p T).sp 289 = some (treeSp F289)) (h221 : (envL p T).sp 221 = none) (l : List Rg) (c : Option Nat) (n : Nat) (hn : Nrm l) (hl0 : l ≠ []) (he : endG l ≤ n) (hn2 : n ≤ 65535) (hl2 : l.length ≤ 1000) : CallTo (envL p T) 229 [rgV false l c, i64 0, i64 n] Hp.empty fun v hp' => frz true hp' 20 v = some (.tup [rgN true (gapsG (l ++ [(n, n)]) 0), i64 0]) := by
  have hI := IsH.empty
  have hn0 : l.length ≠ 0 := fun k => hl0 (List.eq_nil_of_length_eq_zero k)
  have eq1 := List.dropLast_concat_getLast hl0
  have hend : endG l = (l.getLast hl0).2 := by
    rw [← endG_snoc l.dropLast (l.getLast hl0), eq1]
  generalize l.dropLast = l0 at eq1
  generalize l.getLast hl0 = q at eq1 hend
  have hlq : l.length = l0.length + 1 := by rw [← eq1]; simp
  subst eq1
  refine CallTo.body (c := (Tryz.f229.body.getD .skip)) (nt := 62) (rs := #[.tmp 6, .tmp 7]) (by assumption) (by kernel_rfl) ⟨by simp, by decide⟩ ?_
  show Ev _ (Code.seq _ _) _ _
  simp only [tmOf_cons, tmOf_nil, i64, bo, u8, nilS, Nat.zero_add, Nat.reduceAdd]
  refine Ev.seq ?_
  refine Ev.rg [0, 1] ?_
  refine Rp rfl Z1 ?_
  refine Rp rfl Z1 ?_
  refine RunTo.nil ?_
  refine Ev.seq ?_
  refine Ev.seq ?_
  refine Ev.rg [0, 1, 2] ?_
  refine Rp rfl Z1 ?_
  refine RunTo.freeM rfl (RunOn.tree rfl rfl (by decide) Z1 Z1 (by assumption) Z8 (by exact F289_eq hn (by omega)) ?_)
  refine Rp rfl Z16 ?_
  refine RunTo.nil ?_
  refine Ev.condF Z1 ?_
  refine Ev.skip ?_
  refine Ev.seq ?_
  refine Ev.seq ?_
  refine Ev.rg [0, 1, 2] ?_
  refine Rp rfl Z1 ?_
  refine Rp rfl Z33 ?_
  refine Rp rfl Z1 ?_
  refine RunTo.nil ?_
  refine Ev.seq ?_
  refine Ev.rg [0, 1, 2, 3, 4, 5, 6, 7, 8, 9, 10, 11, 12, 13, 14, 15] ?_
  refine Rp rfl Z1 ?_
  refine Rp rfl Z18 ?_
  refine Rp rfl Z1 ?_
  refine Gp rfl rfl Z2 Z1 ?_
  refine Gp rfl rfl Z2 Z63 ?_
  refine Gp rfl rfl Z2 Z1 ?_
  refine Gp rfl rfl Z2 Z1 ?_
  refine Gp rfl rfl Z2 Z1 ?_
  refine Gp rfl rfl Z2 Z1 ?_
  refine Gp rfl rfl Z2 Z55 ?_
  refine Gp rfl rfl Z2 (by ((conv => lhs; simp only [evs, evm, lk_up, lk_lf, Nat.reduceEqDiff, Nat.reduceLT, reduceIte, if_true, if_false, i64, bo, u8, nilS, Bool.not_true, Bool.not_false, List.take_succ_cons, List.take_zero, List.drop_zero, List.drop_succ_cons, List.toList_toArray, Int.reduceToNat, Nat.reduceMul, Nat.reduceAdd, Nat.reduceSub, Nat.zero_add]); exact index_rg (by kernel_rfl) (by omega))) ?_
  refine Gp rfl rfl Z2 Z124 ?_
  refine Gl rfl rfl Z2 Z13 ?_
  refine Gp rfl rfl Z2 Z18 ?_
  refine Gp rfl rfl Z2 Z1 ?_
  refine Rp rfl Z1 ?_
  refine RunTo.nil ?_
  refine Ev.condF Z1 ?_
  refine Ev.skip ?_
  refine Ev.seq ?_
  refine Ev.rg [0] ?_
  refine Rp rfl Z1 ?_
  refine RunTo.nil ?_
  refine Ev.seq ?_
  refine Ev.rg [0] ?_
  refine Rp rfl Z1 ?_
  refine RunTo.nil ?_
  refine Ev.seq ?_
  refine Ev.seq ?_
  refine Ev.rg [0, 1, 2, 3, 4, 5, 6, 7, 8] ?_
  refine Rp rfl Z1 ?_
  refine RunTo.freeM rfl (RunOn.callL hI rfl rfl (by decide) Z1 Z1 (by simp only [List.nil_append, List.append_nil, List.cons_append]; exact c221 p T h221 (l0 ++ [q]) c hn0 hl2 _ 1 rfl (by decide)) ?_)
  rintro _ _ _ hp1 ⟨rfl, rfl, rfl⟩ hI1
  simp only [List.cons_append, List.nil_append, List.length_cons, List.length_nil, Nat.zero_add, Nat.reduceAdd] at hI1
  refine Rp rfl Z1 ?_
  refine Rp rfl Z1 ?_
  refine Rp rfl Z122 ?_
  refine RunTo.freeM rfl (RunOn.madeL (k := 2) hI1 rfl rfl (by decide) rfl Z98 Z5 ?_)
  intro hp2 hI2
  simp only [List.cons_append, List.nil_append, evc, repA, Eng.setMany, List.set_cons_zero, List.set_cons_succ, Nat.zero_mul, Nat.one_mul, List.take_succ_cons, List.take_zero, List.drop_zero, List.drop_succ_cons, Nat.zero_add, Nat.reduceAdd, Nat.reduceMul] at hI2
  refine RunTo.freeM rfl (RunOn.appL (n := 3) hI2 rfl rfl (by decide) rfl rfl rfl (by kernel_rfl) (by kernel_rfl) Z1 Z1 Z148 (by exact appL_grow (k := 3) rfl rfl (rgC_len _) (by decide) Z41 (by decide) (by rfl) (by decide)) ?_)
  intro hp3 hI3
  simp only [List.cons_append, List.nil_append] at hI3
  have hfull : IsH hp3 [some [], none, some [i64 0, i64 n, i64 n], some (rgC ((l0 ++ [q]) ++ [(n, n)]))] [1] := by
    rw [rgC_append]
    exact hI3
  refine Rp rfl Z86 ?_
  refine Rp rfl Z1 ?_
  refine RunTo.nil ?_
  refine Ev.block ?_
  generalize hfl : (l0 ++ [q]) ++ [(n, n)] = full at hfull ⊢
  have hfn : full.length = (l0 ++ [q]).length + 1 := by rw [← hfl]; simp
  rw [← hfn]
  refine Ev.loop (fun (x : List Rg × List Rg × List Rg × Nat) s => full = x.1 ++ x.2.1 ∧ gapsG full 0 = x.2.2.1 ++ gapsG x.2.1 x.2.2.2 ∧ ∃ tm hp L w, s = ⟨62, tm, hp⟩ ∧ IsH hp L w ∧ L[3]? = some (some (rgC full)) ∧ L.length ≤ 4 + 3 * x.1.length ∧ x.2.2.1.length ≤ x.1.length ∧ lk tm 1 = .sc (.int .i64 0) ∧ ((x.2.2.1 = [] ∧ lk tm 9 = .sc (.slice none 0 0)) ∨ ∃ b, 3 ≠ b ∧ x.2.2.1 ≠ [] ∧ lk tm 9 = .sl b 0 x.2.2.1.length none 3 ∧ L[b]? = some (some (rgC x.2.2.1))) ∧ lk tm 10 = .sc (.int .i64 x.2.2.2) ∧ lk tm 40 = .sl 3 0 full.length none 3 ∧ lk tm 41 = .sc (.int .i64 full.length) ∧ lk tm 42 = .sc (.int .i64 x.1.length)) (fun x => x.2.1.length) ?_ (x := ([], full, [], 0)) ⟨rfl, rfl, _, _, _, _, rfl, hfull, rfl, by simp, by simp, ?_, .inl ⟨rfl, ?_⟩, ?_, ?_, ?_, ?_⟩
  · rintro ⟨l1, l2, out, a⟩ s ⟨hl, hg, tm, hp, L, w, rfl, hI4, h3, hLn, hon, k1, k9, k10, k40, k41, k42⟩
    simp only at hl hg hLn hon k1 k9 k10 k42
    cases l2 with
    | nil =>
      have hlen : full.length = l1.length := by rw [hl]; simp
      have hgo : gapsG full 0 = out := by rw [hg]; simp [gapsG]
      rw [hgo]
      rcases k9 with ⟨hout, k9⟩ | ⟨b, hb3, hout, k9, hb⟩
      · refine Ev.seq ?_
        refine Ev.rg [0] ?_
        refine Rp rfl (Z39 (Y6 k1 k10 k40 k41 k42 k9)) ?_
        refine RunTo.nil ?_
        refine Ev.seq ?_
        refine Ev.condF (Z3 (Y6 k1 k10 k40 k41 k42 k9)) ?_
        refine Ev.exit ?_
        refine thenE_ext ?_
        refine inBlock_pos ?_
        refine Ev.seq ?_
        refine Ev.rg [0, 1, 2] ?_
        refine Rp rfl (Z3 (Y6 k1 k10 k40 k41 k42 k9)) ?_
        refine Rp rfl (Z3 (Y6 k1 k10 k40 k41 k42 k9)) ?_
        refine Rp rfl (Z3 (Y6 k1 k10 k40 k41 k42 k9)) ?_
        refine RunTo.nil ?_
        refine Ev.ret ⟨.inr rfl, _, res2, ?_⟩
        simp only [lk_up, lk_lf, Nat.reduceEqDiff, Nat.reduceLT, reduceIte, if_true, if_false, Nat.zero_add, i64, bo, u8, nilS, List.take_succ_cons, List.take_zero, List.drop_zero, List.drop_succ_cons, k1, k10, k40, k41, k42, k9]
        subst hout
        repeat first | exact allO_nil | with_reducible apply allO_cons | exact frz_sc | with_reducible exact frz_by1 _ _ | with_reducible exact frz_rg1 _ _ | with_reducible exact frz_par1 _ | with_reducible apply frz_ro1 | with_reducible apply frz_agg | with_reducible apply frz_tup
      · refine Ev.seq ?_
        refine Ev.rg [0] ?_
        refine Rp rfl (Z39 (Y6 k1 k10 k40 k41 k42 k9)) ?_
        refine RunTo.nil ?_
        refine Ev.seq ?_
        refine Ev.condF (Z3 (Y6 k1 k10 k40 k41 k42 k9)) ?_
        refine Ev.exit ?_
        refine thenE_ext ?_
        refine inBlock_pos ?_
        refine Ev.seq ?_
        refine Ev.rg [0, 1, 2] ?_
        refine Rp rfl (Z3 (Y6 k1 k10 k40 k41 k42 k9)) ?_
        refine Rp rfl (Z3 (Y6 k1 k10 k40 k41 k42 k9)) ?_
        refine Rp rfl (Z3 (Y6 k1 k10 k40 k41 k42 k9)) ?_
        refine RunTo.nil ?_
        refine Ev.ret ⟨.inr rfl, _, res2, ?_⟩
        simp only [lk_up, lk_lf, Nat.reduceEqDiff, Nat.reduceLT, reduceIte, if_true, if_false, Nat.zero_add, i64, bo, u8, nilS, List.take_succ_cons, List.take_zero, List.drop_zero, List.drop_succ_cons, k1, k10, k40, k41, k42, k9]
        unfold rgN
        rw [if_neg hout]
        refine frz_tup (allO_cons (frz_slrg (hI4.wlSet _) hb rfl rfl) (allO_cons frz_sc allO_nil))
    | cons r l2 =>
      have hlen : full.length = l1.length + l2.length + 1 := by rw [hl]; simp; omega
      have hcons : (l1 ++ [r]).length = l1.length + 1 := by simp
      have h3' : L[3]? = some (some (rgC (l1 ++ r :: l2))) := by rw [← hl]; exact h3
      have h3l := lt_of_get h3
      by_cases hgt : a < r.1
      · rcases k9 with ⟨hout, k9⟩ | ⟨b, hb3, hout, k9, hb⟩
        · subst hout
          refine Ev.seq ?_
          refine Ev.rg [0] ?_
          refine Rp rfl (Z35 (Y6 k1 k10 k40 k41 k42 k9)) ?_
          refine RunTo.nil ?_
          refine Ev.seq ?_
          refine Ev.condT (Z3 (Y6 k1 k10 k40 k41 k42 k9)) ?_
          refine Ev.skip ?_
          refine Ev.seq ?_
          refine Ev.block ?_
          refine Ev.seq ?_
          refine Ev.rg [0, 1, 2, 3] ?_
          refine Rp rfl (Z149 (Y6 k1 k10 k40 k41 k42 k9)) ?_
          refine Rl rfl (by ((conv => lhs; simp only [evs, evm, lk_up, lk_lf, Nat.reduceEqDiff, Nat.reduceLT, reduceIte, if_true, if_false, i64, bo, u8, nilS, Bool.not_true, Bool.not_false, List.take_succ_cons, List.take_zero, List.drop_zero, List.drop_succ_cons, List.toList_toArray, Int.reduceToNat, Nat.reduceMul, Nat.reduceAdd, Nat.reduceSub, Nat.zero_add, k1, k10, k40, k41, k42, k9]); exact load_rg (by kernel_rfl) (by kernel_rfl) (hI4.get _ _ h3') (by simp))) ?_
          refine RunTo.freeM rfl (RunOn.madeL (k := _) hI4 rfl rfl (by decide) rfl (Z60 (Y6 k1 k10 k40 k41 k42 k9)) Z5 ?_)
          intro hp5 hI5
          refine RunTo.freeM rfl (RunOn.storeL (n := 3) hI5 rfl rfl (Z3 (Y6 k1 k10 k40 k41 k42 k9)) (Z3 (Y6 k1 k10 k40 k41 k42 k9)) (by kernel_rfl) Z6 Z6 (get_last _ _) Z9 Z5 ?_)
          intro hp6 hI6
          simp only [set_last, List.set_set, List.set_cons_zero, List.set_cons_succ, List.take_succ_cons, List.take_zero, List.drop_succ_cons, List.drop_zero, Eng.setMany, evc, Nat.zero_add, Nat.reduceAdd, Nat.reduceMul, Nat.reduceSub] at hI6
          refine RunTo.nil ?_
          refine Ev.seq ?_
          refine Ev.seq ?_
          refine Ev.rg [0, 1, 2, 3] ?_
          refine Rp rfl (Z23 (Y6 k1 k10 k40 k41 k42 k9)) ?_
          refine Rl rfl (Z29 (Y6 k1 k10 k40 k41 k42 k9)) ?_
          refine Rp rfl (Z3 (Y6 k1 k10 k40 k41 k42 k9)) ?_
          refine Rp rfl (Z65 (Y6 k1 k10 k40 k41 k42 k9)) ?_
          refine RunTo.nil ?_
          refine Ev.condT (Z3 (Y6 k1 k10 k40 k41 k42 k9)) ?_
          refine Ev.rg [0, 1, 2, 3, 4, 5, 6, 7, 8] ?_
          refine Rp rfl (Z3 (Y6 k1 k10 k40 k41 k42 k9)) ?_
          refine Rp rfl (Z3 (Y6 k1 k10 k40 k41 k42 k9)) ?_
          refine Rp rfl (Z3 (Y6 k1 k10 k40 k41 k42 k9)) ?_
          refine Rp rfl (Z23 (Y6 k1 k10 k40 k41 k42 k9)) ?_
          refine Rl rfl (Z29 (Y6 k1 k10 k40 k41 k42 k9)) ?_
          refine Rp rfl (by ((conv => lhs; simp only [evs, evm, lk_up, lk_lf, Nat.reduceEqDiff, Nat.reduceLT, reduceIte, if_true, if_false, i64, bo, u8, nilS, Bool.not_true, Bool.not_false, List.take_succ_cons, List.take_zero, List.drop_zero, List.drop_succ_cons, List.toList_toArray, Int.reduceToNat, Nat.reduceMul, Nat.reduceAdd, Nat.reduceSub, Nat.zero_add, k1, k10, k40, k41, k42, k9]); exact pBuild_st (z := [.sc (.int .i64 (0)), .sc (.int .i64 (0)), .sc (.int .i64 (0))]) (ps := [(0, 1), (1, 1), (2, 1)]) (Z3 (Y6 k1 k10 k40 k41 k42 k9)) (by kernel_rfl) (by kernel_rfl) (by simp [fillA, AV.cells, AV.one, Eng.setMany]; rfl))) ?_
          refine RunTo.freeM rfl (RunOn.madeL (k := _) hI6 rfl rfl (by decide) rfl (Z69 (Y6 k1 k10 k40 k41 k42 k9)) Z5 ?_)
          intro hp7 hI7
          simp only [List.cons_append, List.nil_append, evc, repA, Eng.setMany, List.set_cons_zero, List.set_cons_succ, Nat.zero_mul, Nat.one_mul, List.take_succ_cons, List.take_zero, List.drop_zero, List.drop_succ_cons, Nat.zero_add, Nat.reduceAdd, Nat.reduceMul] at hI7
          refine RunTo.freeM rfl (RunOn.appL (n := 3) hI7 rfl rfl (by decide) rfl rfl rfl (by kernel_rfl) (by kernel_rfl) (Z3 (Y6 k1 k10 k40 k41 k42 k9)) (Z3 (Y6 k1 k10 k40 k41 k42 k9)) Z70 (by exact appL_nil (k := L.length + 2) (by simp) (by decide) (by decide) (by omega)) ?_)
          intro hp8 hI8
          simp only [List.cons_append, List.nil_append] at hI8
          refine Rp rfl (Z3 (Y6 k1 k10 k40 k41 k42 k9)) ?_
          refine RunTo.nil ?_
          refine Ev.rg [0, 1, 2] ?_
          refine Rp rfl (Z43 (Y6 k1 k10 k40 k41 k42 k9)) ?_
          refine Rl rfl (by ((conv => lhs; simp only [evs, evm, lk_up, lk_lf, Nat.reduceEqDiff, Nat.reduceLT, reduceIte, if_true, if_false, i64, bo, u8, nilS, Bool.not_true, Bool.not_false, List.take_succ_cons, List.take_zero, List.drop_zero, List.drop_succ_cons, List.toList_toArray, Int.reduceToNat, Nat.reduceMul, Nat.reduceAdd, Nat.reduceSub, Nat.zero_add, k1, k10, k40, k41, k42, k9]); exact load_one (by kernel_rfl) (by kernel_rfl) (hI8.get _ _ (get_app (get_app (get_last _ _)))) rfl)) ?_
          refine Rp rfl (Z3 (Y6 k1 k10 k40 k41 k42 k9)) ?_
          refine RunTo.nil ?_
          refine Ev.rg [0, 1] ?_
          refine Rp rfl (Z36 (Y6 k1 k10 k40 k41 k42 k9)) ?_
          refine Rp rfl (Z3 (Y6 k1 k10 k40 k41 k42 k9)) ?_
          refine RunTo.nil ?_
          refine ⟨(l1 ++ [r], l2, [(a, r.1)], r.2), ⟨by rw [hl]; simp, by rw [hg]; simp [gapsG, hgt], _, _, _, _, rfl, hI8, get_app (get_app (get_app h3)), by simp; omega, by simp, ?_, .inr ⟨L.length + 2, by omega, by simp, ?_, ?_⟩, ?_, ?_, ?_, ?_⟩, by simp⟩
          · exact (Z3 (Y6 k1 k10 k40 k41 k42 k9))
          · exact (Z3 (Y6 k1 k10 k40 k41 k42 k9))
          · simp
            rfl
          · exact (Z3 (Y6 k1 k10 k40 k41 k42 k9))
          · exact (Z3 (Y6 k1 k10 k40 k41 k42 k9))
          · exact (Z3 (Y6 k1 k10 k40 k41 k42 k9))
          · rw [hcons]
            exact (Z3 (Y6 k1 k10 k40 k41 k42 k9))
        · have hbl := lt_of_get hb
          refine Ev.seq ?_
          refine Ev.rg [0] ?_
          refine Rp rfl (Z35 (Y6 k1 k10 k40 k41 k42 k9)) ?_
          refine RunTo.nil ?_
          refine Ev.seq ?_
          refine Ev.condT (Z3 (Y6 k1 k10 k40 k41 k42 k9)) ?_
          refine Ev.skip ?_
          refine Ev.seq ?_
          refine Ev.block ?_
          refine Ev.seq ?_
          refine Ev.rg [0, 1, 2, 3] ?_
          refine Rp rfl (Z149 (Y6 k1 k10 k40 k41 k42 k9)) ?_
          refine Rl rfl (by ((conv => lhs; simp only [evs, evm, lk_up, lk_lf, Nat.reduceEqDiff, Nat.reduceLT, reduceIte, if_true, if_false, i64, bo, u8, nilS, Bool.not_true, Bool.not_false, List.take_succ_cons, List.take_zero, List.drop_zero, List.drop_succ_cons, List.toList_toArray, Int.reduceToNat, Nat.reduceMul, Nat.reduceAdd, Nat.reduceSub, Nat.zero_add, k1, k10, k40, k41, k42, k9]); exact load_rg (by kernel_rfl) (by kernel_rfl) (hI4.get _ _ h3') (by simp))) ?_
          refine RunTo.freeM rfl (RunOn.madeL (k := _) hI4 rfl rfl (by decide) rfl (Z60 (Y6 k1 k10 k40 k41 k42 k9)) Z5 ?_)
          intro hp5 hI5
          refine RunTo.freeM rfl (RunOn.storeL (n := 3) hI5 rfl rfl (Z3 (Y6 k1 k10 k40 k41 k42 k9)) (Z3 (Y6 k1 k10 k40 k41 k42 k9)) (by kernel_rfl) Z6 Z6 (get_last _ _) Z9 Z5 ?_)
          intro hp6 hI6
          simp only [set_last, List.set_set, List.set_cons_zero, List.set_cons_succ, List.take_succ_cons, List.take_zero, List.drop_succ_cons, List.drop_zero, Eng.setMany, evc, Nat.zero_add, Nat.reduceAdd, Nat.reduceMul, Nat.reduceSub] at hI6
          refine RunTo.nil ?_
          refine Ev.seq ?_
          refine Ev.seq ?_
          refine Ev.rg [0, 1, 2, 3] ?_
          refine Rp rfl (Z23 (Y6 k1 k10 k40 k41 k42 k9)) ?_
          refine Rl rfl (Z29 (Y6 k1 k10 k40 k41 k42 k9)) ?_
          refine Rp rfl (Z3 (Y6 k1 k10 k40 k41 k42 k9)) ?_
          refine Rp rfl (Z65 (Y6 k1 k10 k40 k41 k42 k9)) ?_
          refine RunTo.nil ?_
          refine Ev.condT (Z3 (Y6 k1 k10 k40 k41 k42 k9)) ?_
          refine Ev.rg [0, 1, 2, 3, 4, 5, 6, 7, 8] ?_
          refine Rp rfl (Z3 (Y6 k1 k10 k40 k41 k42 k9)) ?_
          refine Rp rfl (Z3 (Y6 k1 k10 k40 k41 k42 k9)) ?_
          refine Rp rfl (Z3 (Y6 k1 k10 k40 k41 k42 k9)) ?_
          refine Rp rfl (Z23 (Y6 k1 k10 k40 k41 k42 k9)) ?_
          refine Rl rfl (Z29 (Y6 k1 k10 k40 k41 k42 k9)) ?_
          refine Rp rfl (by ((conv => lhs; simp only [evs, evm, lk_up, lk_lf, Nat.reduceEqDiff, Nat.reduceLT, reduceIte, if_true, if_false, i64, bo, u8, nilS, Bool.not_true, Bool.not_false, List.take_succ_cons, List.take_zero, List.drop_zero, List.drop_succ_cons, List.toList_toArray, Int.reduceToNat, Nat.reduceMul, Nat.reduceAdd, Nat.reduceSub, Nat.zero_add, k1, k10, k40, k41, k42, k9]); exact pBuild_st (z := [.sc (.int .i64 (0)), .sc (.int .i64 (0)), .sc (.int .i64 (0))]) (ps := [(0, 1), (1, 1), (2, 1)]) (Z3 (Y6 k1 k10 k40 k41 k42 k9)) (by kernel_rfl) (by kernel_rfl) (by simp [fillA, AV.cells, AV.one, Eng.setMany]; rfl))) ?_
          refine RunTo.freeM rfl (RunOn.madeL (k := _) hI6 rfl rfl (by decide) rfl (Z69 (Y6 k1 k10 k40 k41 k42 k9)) Z5 ?_)
          intro hp7 hI7
          simp only [List.cons_append, List.nil_append, evc, repA, Eng.setMany, List.set_cons_zero, List.set_cons_succ, Nat.zero_mul, Nat.one_mul, List.take_succ_cons, List.take_zero, List.drop_zero, List.drop_succ_cons, Nat.zero_add, Nat.reduceAdd, Nat.reduceMul] at hI7
          refine RunTo.freeM rfl (RunOn.appL (n := 3) hI7 rfl rfl (by decide) rfl rfl rfl (by kernel_rfl) (by kernel_rfl) (Z3 (Y6 k1 k10 k40 k41 k42 k9)) (Z3 (Y6 k1 k10 k40 k41 k42 k9)) Z70 (by exact appL_grow (k := L.length + 2) (by simp) (get_app (get_app hb)) (rgC_len _) (by decide) Z41 (by decide) (by rfl) (by omega)) ?_)
          intro hp8 hI8
          simp only [List.cons_append, List.nil_append] at hI8
          refine Rp rfl (Z3 (Y6 k1 k10 k40 k41 k42 k9)) ?_
          refine RunTo.nil ?_
          refine Ev.rg [0, 1, 2] ?_
          refine Rp rfl (Z43 (Y6 k1 k10 k40 k41 k42 k9)) ?_
          refine Rl rfl (by ((conv => lhs; simp only [evs, evm, lk_up, lk_lf, Nat.reduceEqDiff, Nat.reduceLT, reduceIte, if_true, if_false, i64, bo, u8, nilS, Bool.not_true, Bool.not_false, List.take_succ_cons, List.take_zero, List.drop_zero, List.drop_succ_cons, List.toList_toArray, Int.reduceToNat, Nat.reduceMul, Nat.reduceAdd, Nat.reduceSub, Nat.zero_add, k1, k10, k40, k41, k42, k9]); exact load_one (by kernel_rfl) (by kernel_rfl) (hI8.get _ _ (get_app (get_set_ne (by omega) (get_app (get_last _ _))))) rfl)) ?_
          refine Rp rfl (Z3 (Y6 k1 k10 k40 k41 k42 k9)) ?_
          refine RunTo.nil ?_
          refine Ev.rg [0, 1] ?_
          refine Rp rfl (Z36 (Y6 k1 k10 k40 k41 k42 k9)) ?_
          refine Rp rfl (Z3 (Y6 k1 k10 k40 k41 k42 k9)) ?_
          refine RunTo.nil ?_
          refine ⟨(l1 ++ [r], l2, out ++ [(a, r.1)], r.2), ⟨by rw [hl]; simp, by rw [hg]; simp [gapsG, hgt], _, _, _, _, rfl, hI8, get_app (get_set_ne (fun e => hb3 e.symm) (get_app (get_app h3))), by simp; omega, by simp; omega, ?_, .inr ⟨L.length + 2, by omega, by simp, ?_, ?_⟩, ?_, ?_, ?_, ?_⟩, by simp⟩
          · exact (Z3 (Y6 k1 k10 k40 k41 k42 k9))
          · show lk _ 9 = .sl _ 0 (out ++ [(a, r.1)]).length none 3
            rw [show (out ++ [(a, r.1)]).length = out.length + 1 from by simp]
            exact (Z3 (Y6 k1 k10 k40 k41 k42 k9))
          · rw [rgC_append]
            simp
            rfl
          · exact (Z3 (Y6 k1 k10 k40 k41 k42 k9))
          · exact (Z3 (Y6 k1 k10 k40 k41 k42 k9))
          · exact (Z3 (Y6 k1 k10 k40 k41 k42 k9))
          · rw [hcons]
            exact (Z3 (Y6 k1 k10 k40 k41 k42 k9))
      · refine Ev.seq ?_
        refine Ev.rg [0] ?_
        refine Rp rfl (Z35 (Y5 k1 k10 k40 k41 k42)) ?_
        refine RunTo.nil ?_
        refine Ev.seq ?_
        refine Ev.condT (Z3 (Y5 k1 k10 k40 k41 k42)) ?_
        refine Ev.skip ?_
        refine Ev.seq ?_
        refine Ev.block ?_
        refine Ev.seq ?_
        refine Ev.rg [0, 1, 2, 3] ?_
        refine Rp rfl (Z149 (Y5 k1 k10 k40 k41 k42)) ?_
        refine Rl rfl (by ((conv => lhs; simp only [evs, evm, lk_up, lk_lf, Nat.reduceEqDiff, Nat.reduceLT, reduceIte, if_true, if_false, i64, bo, u8, nilS, Bool.not_true, Bool.not_false, List.take_succ_cons, List.take_zero, List.drop_zero, List.drop_succ_cons, List.toList_toArray, Int.reduceToNat, Nat.reduceMul, Nat.reduceAdd, Nat.reduceSub, Nat.zero_add, k1, k10, k40, k41, k42]); exact load_rg (by kernel_rfl) (by kernel_rfl) (hI4.get _ _ h3') (by simp))) ?_
        refine RunTo.freeM rfl (RunOn.madeL (k := _) hI4 rfl rfl (by decide) rfl (Z60 (Y5 k1 k10 k40 k41 k42)) Z5 ?_)
        intro hp5 hI5
        refine RunTo.freeM rfl (RunOn.storeL (n := 3) hI5 rfl rfl (Z3 (Y5 k1 k10 k40 k41 k42)) (Z3 (Y5 k1 k10 k40 k41 k42)) (by kernel_rfl) Z6 Z6 (get_last _ _) Z9 Z5 ?_)
        intro hp6 hI6
        simp only [set_last, List.set_set, List.set_cons_zero, List.set_cons_succ, List.take_succ_cons, List.take_zero, List.drop_succ_cons, List.drop_zero, Eng.setMany, evc, Nat.zero_add, Nat.reduceAdd, Nat.reduceMul, Nat.reduceSub] at hI6
        refine RunTo.nil ?_
        refine Ev.seq ?_
        refine Ev.seq ?_
        refine Ev.rg [0, 1, 2, 3] ?_
        refine Rp rfl (Z23 (Y5 k1 k10 k40 k41 k42)) ?_
        refine Rl rfl (Z29 (Y5 k1 k10 k40 k41 k42)) ?_
        refine Rp rfl (Z3 (Y5 k1 k10 k40 k41 k42)) ?_
        refine Rp rfl (Z83 (Y5 k1 k10 k40 k41 k42)) ?_
        refine RunTo.nil ?_
        refine Ev.condF (Z3 (Y5 k1 k10 k40 k41 k42)) ?_
        refine Ev.skip ?_
        refine Ev.rg [0, 1, 2] ?_
        refine Rp rfl (Z43 (Y5 k1 k10 k40 k41 k42)) ?_
        refine Rl rfl (Z29 (Y5 k1 k10 k40 k41 k42)) ?_
        refine Rp rfl (Z3 (Y5 k1 k10 k40 k41 k42)) ?_
        refine RunTo.nil ?_
        refine Ev.rg [0, 1] ?_
        refine Rp rfl (Z36 (Y5 k1 k10 k40 k41 k42)) ?_
        refine Rp rfl (Z3 (Y5 k1 k10 k40 k41 k42)) ?_
        refine RunTo.nil ?_
        refine ⟨(l1 ++ [r], l2, out, r.2), ⟨by rw [hl]; simp, by rw [hg]; simp [gapsG, hgt], _, _, _, _, rfl, hI6, get_app h3, by simp; omega, by simp; omega, ?_, ?_, ?_, ?_, ?_, ?_⟩, by simp⟩
        · exact (Z3 (Y5 k1 k10 k40 k41 k42))
        · rcases k9 with ⟨hout, k9⟩ | ⟨b, hb3, hout, k9, hb⟩
          · exact .inl ⟨hout, by (((conv => lhs; simp only [evs, evm, lk_up, lk_lf, Nat.reduceEqDiff, Nat.reduceLT, reduceIte, if_true, if_false, i64, bo, u8, nilS, Bool.not_true, Bool.not_false, List.take_succ_cons, List.take_zero, List.drop_zero, List.drop_succ_cons, List.toList_toArray, Int.reduceToNat, Nat.reduceMul, Nat.reduceAdd, Nat.reduceSub, Nat.zero_add, k1, k10, k40, k41, k42, k9]); first | done | exact rfl))⟩
          · exact .inr ⟨b, hb3, hout, by (((conv => lhs; simp only [evs, evm, lk_up, lk_lf, Nat.reduceEqDiff, Nat.reduceLT, reduceIte, if_true, if_false, i64, bo, u8, nilS, Bool.not_true, Bool.not_false, List.take_succ_cons, List.take_zero, List.drop_zero, List.drop_succ_cons, List.toList_toArray, Int.reduceToNat, Nat.reduceMul, Nat.reduceAdd, Nat.reduceSub, Nat.zero_add, k1, k10, k40, k41, k42, k9]); first | done | exact rfl)), get_app hb⟩
        · exact (Z3 (Y5 k1 k10 k40 k41 k42))
        · exact (Z3 (Y5 k1 k10 k40 k41 k42))
        · exact (Z3 (Y5 k1 k10 k40 k41 k42))
        · rw [hcons]
          exact (Z3 (Y5 k1 k10 k40 k41 k42))
  · exact Z1
  · exact Z1
  · exact Z1
  · exact Z1
  · exact Z1
  · exact Z1
end
end Go.Eng
end
