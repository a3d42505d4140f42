/- A part of the proof that radiolinktop.TopPieces returns true for every list of numbers. -/
import Derived.Test.YtcjpofalahplbaaGreatDoorSymOne
section
set_option linter.unusedVariables false
set_option linter.unusedSimpArgs false
set_option maxRecDepth 100000
namespace Go.Eng
open Go Go.RowKit Go.Proofs
section
variable (p : Poly) (T : List (Nat × (List AV → Option AV)))
theorem w106 (h : (envL p T).sp 106 = none) (f l : Bool) : CallTo (envL p T) 106 [bo f, bo l] Hp.empty fun v hp' => frz true hp' 20 v = some (i64 (partF f l)) := by
  cases f <;> cases l
  · refine CallTo.body (c := (Tryz.f106.body.getD .skip)) (nt := 14) (rs := #[.tmp 4]) (by assumption) (by kernel_rfl) ⟨by simp, by decide⟩ ?_
    show Ev _ (Code.seq _ _) _ _
    simp only [tmOf_cons, tmOf_nil, i64, bo, u8, nilS, Nat.zero_add, Nat.reduceAdd]
    refine Ev.seq ?_
    refine Ev.rg [0] ?_
    refine Rp rfl Z1 ?_
    refine RunTo.nil ?_
    refine Ev.seq ?_
    refine Ev.block ?_
    refine Ev.seq ?_
    refine Ev.rg [0, 1, 2, 3, 4] ?_
    refine Rp rfl Z1 ?_
    refine Rp rfl Z1 ?_
    refine Gf rfl rfl Z2 ?_
    refine Rp rfl Z1 ?_
    refine Rp rfl Z1 ?_
    refine RunTo.nil ?_
    refine Ev.condF Z1 ?_
    refine Ev.seq ?_
    refine Ev.rg [0, 1] ?_
    refine Rp rfl Z1 ?_
    refine Rp rfl Z1 ?_
    refine RunTo.nil ?_
    refine Ev.condF Z1 ?_
    refine Ev.seq ?_
    refine Ev.rg [0, 1] ?_
    refine Rp rfl Z1 ?_
    refine Rp rfl Z1 ?_
    refine RunTo.nil ?_
    refine Ev.condF Z1 ?_
    refine Ev.skip ?_
    refine Ev.seq ?_
    refine Ev.rg [0] ?_
    refine Rp rfl Z1 ?_
    refine RunTo.nil ?_
    refine Ev.ret ⟨.inr rfl, _, res1, ?_⟩
    simp only [lk_up, lk_lf, Nat.reduceEqDiff, Nat.reduceLT, reduceIte, if_true, if_false, Nat.zero_add, i64, bo, u8, nilS, List.take_succ_cons, List.take_zero, List.drop_zero, List.drop_succ_cons]
    exact frz_sc
  · refine CallTo.body (c := (Tryz.f106.body.getD .skip)) (nt := 14) (rs := #[.tmp 4]) (by assumption) (by kernel_rfl) ⟨by simp, by decide⟩ ?_
    show Ev _ (Code.seq _ _) _ _
    simp only [tmOf_cons, tmOf_nil, i64, bo, u8, nilS, Nat.zero_add, Nat.reduceAdd]
    refine Ev.seq ?_
    refine Ev.rg [0] ?_
    refine Rp rfl Z1 ?_
    refine RunTo.nil ?_
    refine Ev.seq ?_
    refine Ev.block ?_
    refine Ev.seq ?_
    refine Ev.rg [0, 1, 2, 3, 4] ?_
    refine Rp rfl Z1 ?_
    refine Rp rfl Z1 ?_
    refine Gf rfl rfl Z2 ?_
    refine Rp rfl Z1 ?_
    refine Rp rfl Z1 ?_
    refine RunTo.nil ?_
    refine Ev.condF Z1 ?_
    refine Ev.seq ?_
    refine Ev.rg [0, 1] ?_
    refine Rp rfl Z1 ?_
    refine Rp rfl Z1 ?_
    refine RunTo.nil ?_
    refine Ev.condF Z1 ?_
    refine Ev.seq ?_
    refine Ev.rg [0, 1] ?_
    refine Rp rfl Z1 ?_
    refine Rp rfl Z1 ?_
    refine RunTo.nil ?_
    refine Ev.condT Z1 ?_
    refine Ev.seq ?_
    refine Ev.rg [0] ?_
    refine Rp rfl Z1 ?_
    refine RunTo.nil ?_
    refine Ev.ret ⟨.inr rfl, _, res1, ?_⟩
    simp only [lk_up, lk_lf, Nat.reduceEqDiff, Nat.reduceLT, reduceIte, if_true, if_false, Nat.zero_add, i64, bo, u8, nilS, List.take_succ_cons, List.take_zero, List.drop_zero, List.drop_succ_cons]
    exact frz_sc
  · refine CallTo.body (c := (Tryz.f106.body.getD .skip)) (nt := 14) (rs := #[.tmp 4]) (by assumption) (by kernel_rfl) ⟨by simp, by decide⟩ ?_
    show Ev _ (Code.seq _ _) _ _
    simp only [tmOf_cons, tmOf_nil, i64, bo, u8, nilS, Nat.zero_add, Nat.reduceAdd]
    refine Ev.seq ?_
    refine Ev.rg [0] ?_
    refine Rp rfl Z1 ?_
    refine RunTo.nil ?_
    refine Ev.seq ?_
    refine Ev.block ?_
    refine Ev.seq ?_
    refine Ev.rg [0, 1, 2, 3, 4] ?_
    refine Rp rfl Z1 ?_
    refine Rp rfl Z1 ?_
    refine Gp rfl rfl Z2 Z1 ?_
    refine Rp rfl Z1 ?_
    refine Rp rfl Z1 ?_
    refine RunTo.nil ?_
    refine Ev.condF Z1 ?_
    refine Ev.seq ?_
    refine Ev.rg [0, 1] ?_
    refine Rp rfl Z1 ?_
    refine Rp rfl Z1 ?_
    refine RunTo.nil ?_
    refine Ev.condT Z1 ?_
    refine Ev.seq ?_
    refine Ev.rg [0] ?_
    refine Rp rfl Z1 ?_
    refine RunTo.nil ?_
    refine Ev.ret ⟨.inr rfl, _, res1, ?_⟩
    simp only [lk_up, lk_lf, Nat.reduceEqDiff, Nat.reduceLT, reduceIte, if_true, if_false, Nat.zero_add, i64, bo, u8, nilS, List.take_succ_cons, List.take_zero, List.drop_zero, List.drop_succ_cons]
    exact frz_sc
  · refine CallTo.body (c := (Tryz.f106.body.getD .skip)) (nt := 14) (rs := #[.tmp 4]) (by assumption) (by kernel_rfl) ⟨by simp, by decide⟩ ?_
    show Ev _ (Code.seq _ _) _ _
    simp only [tmOf_cons, tmOf_nil, i64, bo, u8, nilS, Nat.zero_add, Nat.reduceAdd]
    refine Ev.seq ?_
    refine Ev.rg [0] ?_
    refine Rp rfl Z1 ?_
    refine RunTo.nil ?_
    refine Ev.seq ?_
    refine Ev.block ?_
    refine Ev.seq ?_
    refine Ev.rg [0, 1, 2, 3, 4] ?_
    refine Rp rfl Z1 ?_
    refine Rp rfl Z1 ?_
    refine Gp rfl rfl Z2 Z1 ?_
    refine Rp rfl Z1 ?_
    refine Rp rfl Z1 ?_
    refine RunTo.nil ?_
    refine Ev.condT Z1 ?_
    refine Ev.seq ?_
    refine Ev.rg [0] ?_
    refine Rp rfl Z1 ?_
    refine RunTo.nil ?_
    refine Ev.ret ⟨.inr rfl, _, res1, ?_⟩
    simp only [lk_up, lk_lf, Nat.reduceEqDiff, Nat.reduceLT, reduceIte, if_true, if_false, Nat.zero_add, i64, bo, u8, nilS, List.take_succ_cons, List.take_zero, List.drop_zero, List.drop_succ_cons]
    exact frz_sc
end
end Go.Eng
end
section
set_option linter.unusedVariables false
set_option linter.unusedSimpArgs false
set_option maxRecDepth 100000
namespace Go.Eng
open Go Go.RowKit Go.Proofs
section
variable (p : Poly) (T : List (Nat × (List AV → Option AV)))
theorem w84 (h : (envL p T).sp 84 = none) : CallTo (envL p T) 84 [i64 6] Hp.empty fun v hp' => frz true hp' 20 v = some (bo true) := by
  refine CallTo.body (c := (Tryz.f84.body.getD .skip)) (nt := 9) (rs := #[.tmp 2]) (by assumption) (by kernel_rfl) ⟨by simp, by decide⟩ ?_
  show Ev _ (Code.seq _ _) _ _
  simp only [tmOf_cons, tmOf_nil, i64, bo, u8, nilS, Nat.zero_add, Nat.reduceAdd]
  refine Ev.seq ?_
  refine Ev.rg [0] ?_
  refine Rp rfl Z1 ?_
  refine RunTo.nil ?_
  refine Ev.seq ?_
  refine Ev.rg [0, 1, 2, 3, 4, 5, 6] ?_
  refine Rp rfl Z1 ?_
  refine Rp rfl Z78 ?_
  refine Rp rfl Z1 ?_
  refine Gp rfl rfl Z2 Z1 ?_
  refine Gp rfl rfl Z2 Z61 ?_
  refine Rp rfl Z1 ?_
  refine Rp rfl Z1 ?_
  refine RunTo.nil ?_
  refine Ev.ret ⟨.inr rfl, _, res1, ?_⟩
  simp only [lk_up, lk_lf, Nat.reduceEqDiff, Nat.reduceLT, reduceIte, if_true, if_false, Nat.zero_add, i64, bo, u8, nilS, List.take_succ_cons, List.take_zero, List.drop_zero, List.drop_succ_cons]
  exact frz_sc
theorem w183 (h : (envL p T).sp 183 = none) : CallTo (envL p T) 183 [i64 6] Hp.empty fun v hp' => frz true hp' 20 v = some (bo true) := by
  refine CallTo.body (c := (Tryz.f183.body.getD .skip)) (nt := 9) (rs := #[.tmp 2]) (by assumption) (by kernel_rfl) ⟨by simp, by decide⟩ ?_
  show Ev _ (Code.seq _ _) _ _
  simp only [tmOf_cons, tmOf_nil, i64, bo, u8, nilS, Nat.zero_add, Nat.reduceAdd]
  refine Ev.seq ?_
  refine Ev.rg [0] ?_
  refine Rp rfl Z1 ?_
  refine RunTo.nil ?_
  refine Ev.seq ?_
  refine Ev.rg [0, 1, 2, 3, 4, 5, 6] ?_
  refine Rp rfl Z1 ?_
  refine Rp rfl Z78 ?_
  refine Rp rfl Z1 ?_
  refine Gp rfl rfl Z2 Z1 ?_
  refine Gp rfl rfl Z2 Z61 ?_
  refine Rp rfl Z1 ?_
  refine Rp rfl Z1 ?_
  refine RunTo.nil ?_
  refine Ev.ret ⟨.inr rfl, _, res1, ?_⟩
  simp only [lk_up, lk_lf, Nat.reduceEqDiff, Nat.reduceLT, reduceIte, if_true, if_false, Nat.zero_add, i64, bo, u8, nilS, List.take_succ_cons, List.take_zero, List.drop_zero, List.drop_succ_cons]
  exact frz_sc
theorem w169 (h : (envL p T).sp 169 = none) (h183 : (envL p T).sp 183 = some (treeSp F183)) (x : Int) : CallTo (envL p T) 169 [i64 6, i64 x] Hp.empty fun v hp' => frz true hp' 20 v = some (i64 (x % 64)) := by
  refine CallTo.body (c := (Tryz.f169.body.getD .skip)) (nt := 13) (rs := #[.tmp 4]) (by assumption) (by kernel_rfl) ⟨by simp, by decide⟩ ?_
  show Ev _ (Code.seq _ _) _ _
  simp only [tmOf_cons, tmOf_nil, i64, bo, u8, nilS, Nat.zero_add, Nat.reduceAdd]
  refine Ev.seq ?_
  refine Ev.rg [0] ?_
  refine Rp rfl Z1 ?_
  refine RunTo.nil ?_
  refine Ev.seq ?_
  refine Ev.seq ?_
  refine Ev.rg [0, 1, 2] ?_
  refine Rp rfl Z1 ?_
  refine RunTo.freeM rfl (RunOn.tree rfl rfl (by decide) Z1 Z1 (by assumption) Z8 (by exact F183_eq) ?_)
  refine Rp rfl Z16 ?_
  refine RunTo.nil ?_
  refine Ev.condF Z1 ?_
  refine Ev.skip ?_
  refine Ev.seq ?_
  refine Ev.rg [0, 1, 2, 3, 4, 5] ?_
  refine Rp rfl Z1 ?_
  refine Rp rfl Z1 ?_
  refine Rp rfl Z121 ?_
  refine Rp rfl (by ((conv => lhs; simp only [evs, evm, lk_up, lk_lf, Nat.reduceEqDiff, Nat.reduceLT, reduceIte, if_true, if_false, i64, bo, u8, nilS, Bool.not_true, Bool.not_false, List.take_succ_cons, List.take_zero, List.drop_zero, List.drop_succ_cons, List.toList_toArray, Int.reduceToNat, Nat.reduceMul, Nat.reduceAdd, Nat.reduceSub, Nat.zero_add]); exact bin_is (v := .sc (.int .i64 (63))) (by kernel_rfl))) ?_
  refine Rp rfl (by ((conv => lhs; simp only [evs, evm, lk_up, lk_lf, Nat.reduceEqDiff, Nat.reduceLT, reduceIte, if_true, if_false, i64, bo, u8, nilS, Bool.not_true, Bool.not_false, List.take_succ_cons, List.take_zero, List.drop_zero, List.drop_succ_cons, List.toList_toArray, Int.reduceToNat, Nat.reduceMul, Nat.reduceAdd, Nat.reduceSub, Nat.zero_add]); exact and63_ok (by first | rfl | omega))) ?_
  refine Rp rfl Z1 ?_
  refine RunTo.nil ?_
  refine Ev.ret ⟨.inr rfl, _, res1, ?_⟩
  simp only [lk_up, lk_lf, Nat.reduceEqDiff, Nat.reduceLT, reduceIte, if_true, if_false, Nat.zero_add, i64, bo, u8, nilS, List.take_succ_cons, List.take_zero, List.drop_zero, List.drop_succ_cons]
  exact frz_sc
theorem w107 (h : (envL p T).sp 107 = none) (a : Int) : CallTo (envL p T) 107 [i64 a] Hp.empty fun v hp' => frz true hp' 20 v = some (bo (a == 0 || a == 1)) := by
  refine CallTo.body (c := (Tryz.f107.body.getD .skip)) (nt := 9) (rs := #[.tmp 2]) (by assumption) (by kernel_rfl) ⟨by simp, by decide⟩ ?_
  show Ev _ (Code.seq _ _) _ _
  simp only [tmOf_cons, tmOf_nil, i64, bo, u8, nilS, Nat.zero_add, Nat.reduceAdd]
  refine Ev.seq ?_
  refine Ev.rg [0] ?_
  refine Rp rfl Z1 ?_
  refine RunTo.nil ?_
  refine Ev.seq ?_
  refine Ev.rg [0, 1, 2, 3, 4, 5, 6] ?_
  refine Rp rfl Z1 ?_
  refine Rp rfl Z103 ?_
  refine Rp rfl Z1 ?_
  cases hb : (a == 0) with
  | false =>
    refine Gp rfl rfl Z2 Z1 ?_
    refine Gp rfl rfl Z2 Z103 ?_
    refine Rp rfl Z1 ?_
    refine Rp rfl Z1 ?_
    refine RunTo.nil ?_
    refine Ev.ret ⟨.inr rfl, _, res1, ?_⟩
    simp only [lk_up, lk_lf, Nat.reduceEqDiff, Nat.reduceLT, reduceIte, if_true, if_false, Nat.zero_add, i64, bo, u8, nilS, List.take_succ_cons, List.take_zero, List.drop_zero, List.drop_succ_cons]
    exact frz_sc
  | true =>
    refine Gf rfl rfl Z2 ?_
    refine Gf rfl rfl Z2 ?_
    refine Rp rfl Z1 ?_
    refine Rp rfl Z1 ?_
    refine RunTo.nil ?_
    refine Ev.ret ⟨.inr rfl, _, res1, ?_⟩
    simp only [lk_up, lk_lf, Nat.reduceEqDiff, Nat.reduceLT, reduceIte, if_true, if_false, Nat.zero_add, i64, bo, u8, nilS, List.take_succ_cons, List.take_zero, List.drop_zero, List.drop_succ_cons]
    exact frz_sc
theorem w108 (h : (envL p T).sp 108 = none) (a : Int) : CallTo (envL p T) 108 [i64 a] Hp.empty fun v hp' => frz true hp' 20 v = some (bo (a == 0 || a == 2)) := by
  refine CallTo.body (c := (Tryz.f108.body.getD .skip)) (nt := 9) (rs := #[.tmp 2]) (by assumption) (by kernel_rfl) ⟨by simp, by decide⟩ ?_
  show Ev _ (Code.seq _ _) _ _
  simp only [tmOf_cons, tmOf_nil, i64, bo, u8, nilS, Nat.zero_add, Nat.reduceAdd]
  refine Ev.seq ?_
  refine Ev.rg [0] ?_
  refine Rp rfl Z1 ?_
  refine RunTo.nil ?_
  refine Ev.seq ?_
  refine Ev.rg [0, 1, 2, 3, 4, 5, 6] ?_
  refine Rp rfl Z1 ?_
  refine Rp rfl Z103 ?_
  refine Rp rfl Z1 ?_
  cases hb : (a == 0) with
  | false =>
    refine Gp rfl rfl Z2 Z1 ?_
    refine Gp rfl rfl Z2 Z103 ?_
    refine Rp rfl Z1 ?_
    refine Rp rfl Z1 ?_
    refine RunTo.nil ?_
    refine Ev.ret ⟨.inr rfl, _, res1, ?_⟩
    simp only [lk_up, lk_lf, Nat.reduceEqDiff, Nat.reduceLT, reduceIte, if_true, if_false, Nat.zero_add, i64, bo, u8, nilS, List.take_succ_cons, List.take_zero, List.drop_zero, List.drop_succ_cons]
    exact frz_sc
  | true =>
    refine Gf rfl rfl Z2 ?_
    refine Gf rfl rfl Z2 ?_
    refine Rp rfl Z1 ?_
    refine Rp rfl Z1 ?_
    refine RunTo.nil ?_
    refine Ev.ret ⟨.inr rfl, _, res1, ?_⟩
    simp only [lk_up, lk_lf, Nat.reduceEqDiff, Nat.reduceLT, reduceIte, if_true, if_false, Nat.zero_add, i64, bo, u8, nilS, List.take_succ_cons, List.take_zero, List.drop_zero, List.drop_succ_cons]
    exact frz_sc
theorem w103 (h : (envL p T).sp 103 = none) (h107 : (envL p T).sp 107 = some (treeSp F107)) (a : Int) : CallTo (envL p T) 103 [i64 a] Hp.empty fun v hp' => frz true hp' 20 v = some (i64 (headF a)) := by
  refine CallTo.body (c := (Tryz.f103.body.getD .skip)) (nt := 5) (rs := #[.tmp 2]) (by assumption) (by kernel_rfl) ⟨by simp, by decide⟩ ?_
  show Ev _ (Code.seq _ _) _ _
  simp only [tmOf_cons, tmOf_nil, i64, bo, u8, nilS, Nat.zero_add, Nat.reduceAdd]
  refine Ev.seq ?_
  refine Ev.rg [0] ?_
  refine Rp rfl Z1 ?_
  refine RunTo.nil ?_
  refine Ev.seq ?_
  refine Ev.seq ?_
  refine Ev.rg [0, 1] ?_
  refine Rp rfl Z1 ?_
  refine RunTo.freeM rfl (RunOn.tree rfl rfl (by decide) Z1 Z1 (by assumption) Z8 Z68 ?_)
  unfold headF
  cases hb : (a == 0 || a == 1) with
  | false =>
    refine RunTo.nil ?_
    refine Ev.condF Z1 ?_
    refine Ev.skip ?_
    refine Ev.seq ?_
    refine Ev.rg [0] ?_
    refine Rp rfl Z1 ?_
    refine RunTo.nil ?_
    refine Ev.ret ⟨.inr rfl, _, res1, ?_⟩
    simp only [lk_up, lk_lf, Nat.reduceEqDiff, Nat.reduceLT, reduceIte, if_true, if_false, Nat.zero_add, i64, bo, u8, nilS, List.take_succ_cons, List.take_zero, List.drop_zero, List.drop_succ_cons]
    exact frz_sc
  | true =>
    refine RunTo.nil ?_
    refine Ev.condT Z1 ?_
    refine Ev.seq ?_
    refine Ev.rg [0] ?_
    refine Rp rfl Z1 ?_
    refine RunTo.nil ?_
    refine Ev.ret ⟨.inr rfl, _, res1, ?_⟩
    simp only [lk_up, lk_lf, Nat.reduceEqDiff, Nat.reduceLT, reduceIte, if_true, if_false, Nat.zero_add, i64, bo, u8, nilS, List.take_succ_cons, List.take_zero, List.drop_zero, List.drop_succ_cons]
    exact frz_sc
theorem w184 (h : (envL p T).sp 184 = none) (h169 : (envL p T).sp 169 = some (treeSp F169)) (a b : Int) (hab : 0 ≤ a ∧ a < 64 ∧ 0 ≤ b ∧ b < 64) : CallTo (envL p T) 184 [i64 6, i64 a, i64 b] Hp.empty fun v hp' => frz true hp' 20 v = some (i64 ((b - a) % 64)) := by
  refine CallTo.body (c := (Tryz.f184.body.getD .skip)) (nt := 12) (rs := #[.tmp 6]) (by assumption) (by kernel_rfl) ⟨by simp, by decide⟩ ?_
  show Ev _ (Code.seq _ _) _ _
  simp only [tmOf_cons, tmOf_nil, i64, bo, u8, nilS, Nat.zero_add, Nat.reduceAdd]
  refine Ev.seq ?_
  refine Ev.rg [0] ?_
  refine Rp rfl Z1 ?_
  refine RunTo.nil ?_
  refine Ev.seq ?_
  refine Ev.rg [0, 1, 2, 3, 4, 5] ?_
  refine Rp rfl Z1 ?_
  refine Rp rfl Z1 ?_
  refine Rp rfl Z1 ?_
  refine Rp rfl Z55 ?_
  refine RunTo.freeM rfl (RunOn.tree rfl rfl (by decide) Z1 Z1 (by assumption) Z8 (by exact F169_eq _) ?_)
  refine Rp rfl Z1 ?_
  refine RunTo.nil ?_
  refine Ev.ret ⟨.inr rfl, _, res1, ?_⟩
  simp only [lk_up, lk_lf, Nat.reduceEqDiff, Nat.reduceLT, reduceIte, if_true, if_false, Nat.zero_add, i64, bo, u8, nilS, List.take_succ_cons, List.take_zero, List.drop_zero, List.drop_succ_cons]
  exact frz_sc
theorem w13 (h : (envL p T).sp 13 = none) (n m : Int) (hm : 1 ≤ m) : CallTo (envL p T) 13 [i64 n, i64 m] Hp.empty fun v hp' => frz true hp' 20 v = some (i64 (modF n m)) := by
  refine CallTo.body (c := (Tryz.f13.body.getD .skip)) (nt := 16) (rs := #[.tmp 4]) (by assumption) (by kernel_rfl) ⟨by simp, by decide⟩ ?_
  show Ev _ (Code.seq _ _) _ _
  simp only [tmOf_cons, tmOf_nil, i64, bo, u8, nilS, Nat.zero_add, Nat.reduceAdd]
  refine Ev.seq ?_
  refine Ev.rg [0] ?_
  refine Rp rfl Z1 ?_
  refine RunTo.nil ?_
  refine Ev.seq ?_
  refine Ev.seq ?_
  refine Ev.rg [0, 1] ?_
  refine Rp rfl Z1 ?_
  refine Rp rfl Z18 ?_
  refine RunTo.nil ?_
  refine Ev.condF Z1 ?_
  refine Ev.skip ?_
  refine Ev.seq ?_
  refine Ev.rg [0, 1, 2, 3] ?_
  refine Rp rfl Z1 ?_
  refine Rp rfl Z1 ?_
  refine Rp rfl (by ((conv => lhs; simp only [evs, evm, lk_up, lk_lf, Nat.reduceEqDiff, Nat.reduceLT, reduceIte, if_true, if_false, i64, bo, u8, nilS, Bool.not_true, Bool.not_false, List.take_succ_cons, List.take_zero, List.drop_zero, List.drop_succ_cons, List.toList_toArray, Int.reduceToNat, Nat.reduceMul, Nat.reduceAdd, Nat.reduceSub, Nat.zero_add]); exact rem_ok (by omega))) ?_
  refine Rp rfl Z1 ?_
  refine RunTo.nil ?_
  refine Ev.seq ?_
  refine Ev.seq ?_
  refine Ev.rg [0, 1] ?_
  refine Rp rfl Z1 ?_
  refine Rp rfl Z103 ?_
  refine RunTo.nil ?_
  unfold modF
  generalize n.tmod m = q
  by_cases hlt : q < 0
  · rw [if_pos hlt, decide_eq_true hlt]
    refine Ev.condT Z1 ?_
    refine Ev.rg [0, 1, 2, 3] ?_
    refine Rp rfl Z1 ?_
    refine Rp rfl Z1 ?_
    refine Rp rfl Z103 ?_
    refine Rp rfl Z1 ?_
    refine RunTo.nil ?_
    refine Ev.seq ?_
    refine Ev.rg [0, 1] ?_
    refine Rp rfl Z1 ?_
    refine Rp rfl Z1 ?_
    refine RunTo.nil ?_
    refine Ev.ret ⟨.inr rfl, _, res1, ?_⟩
    simp only [lk_up, lk_lf, Nat.reduceEqDiff, Nat.reduceLT, reduceIte, if_true, if_false, Nat.zero_add, i64, bo, u8, nilS, List.take_succ_cons, List.take_zero, List.drop_zero, List.drop_succ_cons]
    exact frz_sc
  · rw [if_neg hlt, decide_eq_false hlt]
    refine Ev.condF Z1 ?_
    refine Ev.skip ?_
    refine Ev.seq ?_
    refine Ev.rg [0, 1] ?_
    refine Rp rfl Z1 ?_
    refine Rp rfl Z1 ?_
    refine RunTo.nil ?_
    refine Ev.ret ⟨.inr rfl, _, res1, ?_⟩
    simp only [lk_up, lk_lf, Nat.reduceEqDiff, Nat.reduceLT, reduceIte, if_true, if_false, Nat.zero_add, i64, bo, u8, nilS, List.take_succ_cons, List.take_zero, List.drop_zero, List.drop_succ_cons]
    exact frz_sc
end
end Go.Eng
end
section
set_option linter.unusedVariables false
set_option linter.unusedSimpArgs false
set_option maxRecDepth 100000
set_option maxHeartbeats 4000000
namespace Go.Eng
open Go Go.RowKit Go.Proofs
section
variable (p : Poly) (T : List (Nat × (List AV → Option AV)))
theorem w304 (h : (envL p T).sp 304 = none) : CallTo (envL p T) 304 [u8 0] Hp.empty fun v hp' => frz true hp' 20 v = some (bo false) := by
  refine CallTo.body (c := (Tryz.f304.body.getD .skip)) (nt := 5) (rs := #[.tmp 2]) (by assumption) (by kernel_rfl) ⟨by simp, by decide⟩ ?_
  show Ev _ (Code.seq _ _) _ _
  simp only [tmOf_cons, tmOf_nil, i64, bo, u8, nilS, Nat.zero_add, Nat.reduceAdd]
  refine Ev.seq ?_
  refine Ev.rg [0] ?_
  refine Rp rfl Z1 ?_
  refine RunTo.nil ?_
  refine Ev.seq ?_
  refine Ev.rg [0, 1, 2] ?_
  refine Rp rfl Z1 ?_
  refine Rp rfl (by ((conv => lhs; simp only [evs, evm, lk_up, lk_lf, Nat.reduceEqDiff, Nat.reduceLT, reduceIte, if_true, if_false, i64, bo, u8, nilS, Bool.not_true, Bool.not_false, List.take_succ_cons, List.take_zero, List.drop_zero, List.drop_succ_cons, List.toList_toArray, Int.reduceToNat, Nat.reduceMul, Nat.reduceAdd, Nat.reduceSub, Nat.zero_add]); exact neq8_f (by omega))) ?_
  refine Rp rfl Z1 ?_
  refine RunTo.nil ?_
  refine Ev.ret ⟨.inr rfl, _, res1, ?_⟩
  simp only [lk_up, lk_lf, Nat.reduceEqDiff, Nat.reduceLT, reduceIte, if_true, if_false, Nat.zero_add, i64, bo, u8, nilS, List.take_succ_cons, List.take_zero, List.drop_zero, List.drop_succ_cons]
  exact frz_sc
theorem w302 (h : (envL p T).sp 302 = none) (a b : Int) (l : List AV) : CallTo (envL p T) 302 [.agg [i64 0, i64 a, i64 b], .rp false (i64 0 :: l)] Hp.empty fun v hp' => frz true hp' 20 v = some (bo false) := by
  have hI := IsH.empty
  refine CallTo.body (c := (Tryz.f302.body.getD .skip)) (nt := 9) (rs := #[.tmp 3]) (by assumption) (by kernel_rfl) ⟨by simp, by decide⟩ ?_
  show Ev _ (Code.seq _ _) _ _
  simp only [tmOf_cons, tmOf_nil, i64, bo, u8, nilS, Nat.zero_add, Nat.reduceAdd]
  refine Ev.seq ?_
  refine Ev.rg [0, 1] ?_
  refine RunTo.freeM rfl (RunOn.madeL (k := 0) hI rfl rfl (by decide) rfl Z15 Z5 ?_)
  intro hp1 hI1
  simp only [List.cons_append, List.nil_append, evc, repA, Eng.setMany, List.set_cons_zero, List.set_cons_succ, Nat.zero_mul, Nat.one_mul, List.take_succ_cons, List.take_zero, List.drop_zero, List.drop_succ_cons, Nat.zero_add, Nat.reduceAdd, Nat.reduceMul] at hI1
  refine Rp rfl Z1 ?_
  refine RunTo.nil ?_
  refine Ev.seq ?_
  refine Ev.rg [0, 1, 2, 3, 4, 5] ?_
  refine Rp rfl Z11 ?_
  refine Rl rfl Z7 ?_
  refine Rp rfl Z21 ?_
  refine Rl rfl Z13 ?_
  refine Rp rfl Z44 ?_
  refine Rp rfl Z1 ?_
  refine RunTo.nil ?_
  refine Ev.ret ⟨.inr rfl, _, res1, ?_⟩
  simp only [lk_up, lk_lf, Nat.reduceEqDiff, Nat.reduceLT, reduceIte, if_true, if_false, Nat.zero_add, i64, bo, u8, nilS, List.take_succ_cons, List.take_zero, List.drop_zero, List.drop_succ_cons]
  exact frz_sc
theorem w228 (h : (envL p T).sp 228 = none) (x : Pt) (c d : Option Nat) : CallTo (envL p T) 228 [.agg (x.cells false c d), .rp false [i64 0]] Hp.empty fun v hp' => frz true hp' 20 v = some (bo true) := by
  have hI := IsH.empty
  unfold Pt.cells paC
  refine CallTo.body (c := (Tryz.f228.body.getD .skip)) (nt := 8) (rs := #[.tmp 3]) (by assumption) (by kernel_rfl) ⟨by simp, by decide⟩ ?_
  show Ev _ (Code.seq _ _) _ _
  simp only [tmOf_cons, tmOf_nil, i64, bo, u8, nilS, Nat.zero_add, Nat.reduceAdd]
  refine Ev.seq ?_
  refine Ev.rg [0, 1] ?_
  refine RunTo.freeM rfl (RunOn.madeL (k := 0) hI rfl rfl (by decide) rfl Z15 Z5 ?_)
  intro hp1 hI1
  simp only [List.cons_append, List.nil_append, evc, repA, Eng.setMany, List.set_cons_zero, List.set_cons_succ, Nat.zero_mul, Nat.one_mul, List.take_succ_cons, List.take_zero, List.drop_zero, List.drop_succ_cons, Nat.zero_add, Nat.reduceAdd, Nat.reduceMul] at hI1
  refine Rp rfl Z1 ?_
  refine RunTo.nil ?_
  refine Ev.seq ?_
  refine Ev.rg [0, 1, 2, 3, 4] ?_
  refine Rp rfl Z11 ?_
  refine Rl rfl Z7 ?_
  refine Rl rfl Z13 ?_
  refine Rp rfl Z26 ?_
  refine Rp rfl Z1 ?_
  refine RunTo.nil ?_
  refine Ev.ret ⟨.inr rfl, _, res1, ?_⟩
  simp only [lk_up, lk_lf, Nat.reduceEqDiff, Nat.reduceLT, reduceIte, if_true, if_false, Nat.zero_add, i64, bo, u8, nilS, List.take_succ_cons, List.take_zero, List.drop_zero, List.drop_succ_cons]
  exact frz_sc
theorem w286 (h : (envL p T).sp 286 = none) (r : Rg) (q : Pc) (poll : Int) (c : Option Nat) (hq : ¬ (r.1 ≤ q.off ∧ q.off + q.bs.length ≤ r.2)) : CallTo (envL p T) 286 [.agg [i64 0, i64 r.1, i64 r.2], .rp false (q.x poll false c)] Hp.empty fun v hp' => frz true hp' 20 v = some (bo false) := by
  have hI := IsH.empty
  unfold Pc.x
  by_cases h1 : r.1 ≤ q.off
  · have h2 : ¬ (q.off + q.bs.length ≤ r.2) := fun k => hq ⟨h1, k⟩
    refine CallTo.body (c := (Tryz.f286.body.getD .skip)) (nt := 17) (rs := #[.tmp 3]) (by assumption) (by kernel_rfl) ⟨by simp, by decide⟩ ?_
    show Ev _ (Code.seq _ _) _ _
    simp only [tmOf_cons, tmOf_nil, i64, bo, u8, nilS, Nat.zero_add, Nat.reduceAdd]
    refine Ev.seq ?_
    refine Ev.rg [0, 1] ?_
    refine RunTo.freeM rfl (RunOn.madeL (k := 0) hI rfl rfl (by decide) rfl Z15 Z5 ?_)
    intro hp1 hI1
    simp only [List.cons_append, List.nil_append, evc, repA, Eng.setMany, List.set_cons_zero, List.set_cons_succ, Nat.zero_mul, Nat.one_mul, List.take_succ_cons, List.take_zero, List.drop_zero, List.drop_succ_cons, Nat.zero_add, Nat.reduceAdd, Nat.reduceMul] at hI1
    refine Rp rfl Z1 ?_
    refine RunTo.nil ?_
    refine Ev.seq ?_
    refine Ev.rg [0, 1, 2, 3, 4, 5, 6, 7, 8, 9, 10, 11, 12, 13] ?_
    refine Rp rfl Z17 ?_
    refine Rl rfl Z7 ?_
    refine Rp rfl Z21 ?_
    refine Rp rfl (by ((conv => lhs; simp only [evs, evm, lk_up, lk_lf, Nat.reduceEqDiff, Nat.reduceLT, reduceIte, if_true, if_false, i64, bo, u8, nilS, Bool.not_true, Bool.not_false, List.take_succ_cons, List.take_zero, List.drop_zero, List.drop_succ_cons, List.toList_toArray, Int.reduceToNat, Nat.reduceMul, Nat.reduceAdd, Nat.reduceSub, Nat.zero_add]); exact field_rp (d := 3) (by kernel_rfl) Z9)) ?_
    refine Rl rfl Z13 ?_
    refine Rp rfl Z61 ?_
    refine Rp rfl Z1 ?_
    refine Gp rfl rfl Z2 Z24 ?_
    refine Gl rfl rfl Z2 Z7 ?_
    refine Gp rfl rfl Z2 (by ((conv => lhs; simp only [evs, evm, lk_up, lk_lf, Nat.reduceEqDiff, Nat.reduceLT, reduceIte, if_true, if_false, i64, bo, u8, nilS, Bool.not_true, Bool.not_false, List.take_succ_cons, List.take_zero, List.drop_zero, List.drop_succ_cons, List.toList_toArray, Int.reduceToNat, Nat.reduceMul, Nat.reduceAdd, Nat.reduceSub, Nat.zero_add]); exact field_rp (d := 5) (by kernel_rfl) Z9)) ?_
    refine Gl rfl rfl Z2 Z13 ?_
    refine Gp rfl rfl Z2 Z58 ?_
    refine Rp rfl Z1 ?_
    refine Rp rfl Z1 ?_
    refine RunTo.nil ?_
    refine Ev.ret ⟨.inr rfl, _, res1, ?_⟩
    simp only [lk_up, lk_lf, Nat.reduceEqDiff, Nat.reduceLT, reduceIte, if_true, if_false, Nat.zero_add, i64, bo, u8, nilS, List.take_succ_cons, List.take_zero, List.drop_zero, List.drop_succ_cons]
    exact frz_sc
  · refine CallTo.body (c := (Tryz.f286.body.getD .skip)) (nt := 17) (rs := #[.tmp 3]) (by assumption) (by kernel_rfl) ⟨by simp, by decide⟩ ?_
    show Ev _ (Code.seq _ _) _ _
    simp only [tmOf_cons, tmOf_nil, i64, bo, u8, nilS, Nat.zero_add, Nat.reduceAdd]
    refine Ev.seq ?_
    refine Ev.rg [0, 1] ?_
    refine RunTo.freeM rfl (RunOn.madeL (k := 0) hI rfl rfl (by decide) rfl Z15 Z5 ?_)
    intro hp1 hI1
    simp only [List.cons_append, List.nil_append, evc, repA, Eng.setMany, List.set_cons_zero, List.set_cons_succ, Nat.zero_mul, Nat.one_mul, List.take_succ_cons, List.take_zero, List.drop_zero, List.drop_succ_cons, Nat.zero_add, Nat.reduceAdd, Nat.reduceMul] at hI1
    refine Rp rfl Z1 ?_
    refine RunTo.nil ?_
    refine Ev.seq ?_
    refine Ev.rg [0, 1, 2, 3, 4, 5, 6, 7, 8, 9, 10, 11, 12, 13] ?_
    refine Rp rfl Z17 ?_
    refine Rl rfl Z7 ?_
    refine Rp rfl Z21 ?_
    refine Rp rfl (by ((conv => lhs; simp only [evs, evm, lk_up, lk_lf, Nat.reduceEqDiff, Nat.reduceLT, reduceIte, if_true, if_false, i64, bo, u8, nilS, Bool.not_true, Bool.not_false, List.take_succ_cons, List.take_zero, List.drop_zero, List.drop_succ_cons, List.toList_toArray, Int.reduceToNat, Nat.reduceMul, Nat.reduceAdd, Nat.reduceSub, Nat.zero_add]); exact field_rp (d := 3) (by kernel_rfl) Z9)) ?_
    refine Rl rfl Z13 ?_
    refine Rp rfl Z73 ?_
    refine Rp rfl Z1 ?_
    refine Gf rfl rfl Z2 ?_
    refine Gf rfl rfl Z2 ?_
    refine Gf rfl rfl Z2 ?_
    refine Gf rfl rfl Z2 ?_
    refine Gf rfl rfl Z2 ?_
    refine Rp rfl Z1 ?_
    refine Rp rfl Z1 ?_
    refine RunTo.nil ?_
    refine Ev.ret ⟨.inr rfl, _, res1, ?_⟩
    simp only [lk_up, lk_lf, Nat.reduceEqDiff, Nat.reduceLT, reduceIte, if_true, if_false, Nat.zero_add, i64, bo, u8, nilS, List.take_succ_cons, List.take_zero, List.drop_zero, List.drop_succ_cons]
    exact frz_sc
theorem w119 (h : (envL p T).sp 119 = none) (n : Int) (D : List Nat) (cd : Option Nat) (l : List Rg) (c : Option Nat) (hl : l ≠ []) (hl2 : l.length ≤ 1000) : CallTo (envL p T) 119 [.agg (paC n (byV false D cd) (rgV false l c))] Hp.empty fun v hp' => frz true hp' 20 v = some (bo (decide (0 < n ∧ l = [(0, n.toNat)]))) := by
  have hI := IsH.empty
  cases l with
  | nil => exact absurd rfl hl
  | cons r l =>
  unfold paC
  by_cases h1 : 0 < n
  · cases l with
    | nil =>
      have hlen : ([r] : List Rg).length = 1 := rfl
      by_cases h2 : r.1 = 0
      · by_cases h3 : (r.2 : Int) = n
        · rw [decide_eq_true (show 0 < n ∧ [r] = [(0, n.toNat)] from ⟨h1, by rw [show r = (0, n.toNat) from Prod.ext h2 (by omega)]⟩)]
          refine CallTo.body (c := (Tryz.f119.body.getD .skip)) (nt := 30) (rs := #[.tmp 2]) (by assumption) (by kernel_rfl) ⟨by simp, by decide⟩ ?_
          show Ev _ (Code.seq _ _) _ _
          simp only [tmOf_cons, tmOf_nil, i64, bo, u8, nilS, Nat.zero_add, Nat.reduceAdd]
          refine Ev.seq ?_
          refine Ev.rg [0, 1] ?_
          refine RunTo.freeM rfl (RunOn.madeL (k := 0) hI rfl rfl (by decide) rfl Z15 Z5 ?_)
          intro hp1 hI1
          simp only [List.cons_append, List.nil_append, evc, repA, Eng.setMany, List.set_cons_zero, List.set_cons_succ, Nat.zero_mul, Nat.one_mul, List.take_succ_cons, List.take_zero, List.drop_zero, List.drop_succ_cons, Nat.zero_add, Nat.reduceAdd, Nat.reduceMul] at hI1
          refine Rp rfl Z1 ?_
          refine RunTo.nil ?_
          refine Ev.seq ?_
          refine Ev.draw (M := [0, 1, 3, 7, 15, 31, 63, 127, 255, 511, 1023, 2047, 4095, 8191, 16383, 32767, 65535, 131071, 262143, 524287, 1048575, 2097151, 4194303, 262143, 8650751, 33554431, 67108863, 134217727]) (l := [0, 1, 2, 3, 4, 5, 6, 7, 8, 9, 10, 11, 12, 13, 14, 15, 16, 17, 18, 19, 20, 21, 22, 23, 24, 25, 26, 27]) (by kernel_rfl) (by kernel_rfl) (by kernel_rfl) ?_
          refine Rp rfl Z24 ?_
          refine Rl rfl Z7 ?_
          refine Rp rfl Z63 ?_
          refine Rp rfl Z1 ?_
          refine Gp rfl rfl Z2 Z12 ?_
          refine Gl rfl rfl Z2 Z7 ?_
          refine Gp rfl rfl Z2 Z33 ?_
          refine Gp rfl rfl Z2 Z26 ?_
          refine Rp rfl Z1 ?_
          refine Rp rfl Z1 ?_
          refine Gp rfl rfl Z2 Z12 ?_
          refine Gl rfl rfl Z2 Z7 ?_
          refine Gp rfl rfl Z2 Z109 ?_
          refine Gp rfl rfl Z2 Z116 ?_
          refine Gl rfl rfl Z2 Z13 ?_
          refine Gp rfl rfl Z2 Z26 ?_
          refine Rp rfl Z1 ?_
          refine Rp rfl Z1 ?_
          refine Gp rfl rfl Z2 Z12 ?_
          refine Gl rfl rfl Z2 Z7 ?_
          refine Gp rfl rfl Z2 Z109 ?_
          refine Gp rfl rfl Z2 Z124 ?_
          refine Gl rfl rfl Z2 Z13 ?_
          refine Gp rfl rfl Z2 Z24 ?_
          refine Gl rfl rfl Z2 Z7 ?_
          refine Gp rfl rfl Z2 Z26 ?_
          refine Rp rfl Z1 ?_
          refine Rp rfl Z1 ?_
          refine RunTo.nil ?_
          refine Ev.ret ⟨.inr rfl, _, res1, ?_⟩
          simp only [lk_up, lk_lf, Nat.reduceEqDiff, Nat.reduceLT, reduceIte, if_true, if_false, Nat.zero_add, i64, bo, u8, nilS, List.take_succ_cons, List.take_zero, List.drop_zero, List.drop_succ_cons]
          exact frz_sc
        · rw [decide_eq_false (fun k => h3 (by have := List.head_eq_of_cons_eq k.2; rw [this]; simp only; omega))]
          refine CallTo.body (c := (Tryz.f119.body.getD .skip)) (nt := 30) (rs := #[.tmp 2]) (by assumption) (by kernel_rfl) ⟨by simp, by decide⟩ ?_
          show Ev _ (Code.seq _ _) _ _
          simp only [tmOf_cons, tmOf_nil, i64, bo, u8, nilS, Nat.zero_add, Nat.reduceAdd]
          refine Ev.seq ?_
          refine Ev.rg [0, 1] ?_
          refine RunTo.freeM rfl (RunOn.madeL (k := 0) hI rfl rfl (by decide) rfl Z15 Z5 ?_)
          intro hp1 hI1
          simp only [List.cons_append, List.nil_append, evc, repA, Eng.setMany, List.set_cons_zero, List.set_cons_succ, Nat.zero_mul, Nat.one_mul, List.take_succ_cons, List.take_zero, List.drop_zero, List.drop_succ_cons, Nat.zero_add, Nat.reduceAdd, Nat.reduceMul] at hI1
          refine Rp rfl Z1 ?_
          refine RunTo.nil ?_
          refine Ev.seq ?_
          refine Ev.draw (M := [0, 1, 3, 7, 15, 31, 63, 127, 255, 511, 1023, 2047, 4095, 8191, 16383, 32767, 65535, 131071, 262143, 524287, 1048575, 2097151, 4194303, 262143, 8650751, 33554431, 67108863, 134217727]) (l := [0, 1, 2, 3, 4, 5, 6, 7, 8, 9, 10, 11, 12, 13, 14, 15, 16, 17, 18, 19, 20, 21, 22, 23, 24, 25, 26, 27]) (by kernel_rfl) (by kernel_rfl) (by kernel_rfl) ?_
          refine Rp rfl Z24 ?_
          refine Rl rfl Z7 ?_
          refine Rp rfl Z63 ?_
          refine Rp rfl Z1 ?_
          refine Gp rfl rfl Z2 Z12 ?_
          refine Gl rfl rfl Z2 Z7 ?_
          refine Gp rfl rfl Z2 Z33 ?_
          refine Gp rfl rfl Z2 Z26 ?_
          refine Rp rfl Z1 ?_
          refine Rp rfl Z1 ?_
          refine Gp rfl rfl Z2 Z12 ?_
          refine Gl rfl rfl Z2 Z7 ?_
          refine Gp rfl rfl Z2 Z109 ?_
          refine Gp rfl rfl Z2 Z116 ?_
          refine Gl rfl rfl Z2 Z13 ?_
          refine Gp rfl rfl Z2 Z26 ?_
          refine Rp rfl Z1 ?_
          refine Rp rfl Z1 ?_
          refine Gp rfl rfl Z2 Z12 ?_
          refine Gl rfl rfl Z2 Z7 ?_
          refine Gp rfl rfl Z2 Z109 ?_
          refine Gp rfl rfl Z2 Z124 ?_
          refine Gl rfl rfl Z2 Z13 ?_
          refine Gp rfl rfl Z2 Z24 ?_
          refine Gl rfl rfl Z2 Z7 ?_
          refine Gp rfl rfl Z2 Z45 ?_
          refine Rp rfl Z1 ?_
          refine Rp rfl Z1 ?_
          refine RunTo.nil ?_
          refine Ev.ret ⟨.inr rfl, _, res1, ?_⟩
          simp only [lk_up, lk_lf, Nat.reduceEqDiff, Nat.reduceLT, reduceIte, if_true, if_false, Nat.zero_add, i64, bo, u8, nilS, List.take_succ_cons, List.take_zero, List.drop_zero, List.drop_succ_cons]
          exact frz_sc
      · rw [decide_eq_false (fun k => h2 (by have := List.head_eq_of_cons_eq k.2; rw [this]))]
        refine CallTo.body (c := (Tryz.f119.body.getD .skip)) (nt := 30) (rs := #[.tmp 2]) (by assumption) (by kernel_rfl) ⟨by simp, by decide⟩ ?_
        show Ev _ (Code.seq _ _) _ _
        simp only [tmOf_cons, tmOf_nil, i64, bo, u8, nilS, Nat.zero_add, Nat.reduceAdd]
        refine Ev.seq ?_
        refine Ev.rg [0, 1] ?_
        refine RunTo.freeM rfl (RunOn.madeL (k := 0) hI rfl rfl (by decide) rfl Z15 Z5 ?_)
        intro hp1 hI1
        simp only [List.cons_append, List.nil_append, evc, repA, Eng.setMany, List.set_cons_zero, List.set_cons_succ, Nat.zero_mul, Nat.one_mul, List.take_succ_cons, List.take_zero, List.drop_zero, List.drop_succ_cons, Nat.zero_add, Nat.reduceAdd, Nat.reduceMul] at hI1
        refine Rp rfl Z1 ?_
        refine RunTo.nil ?_
        refine Ev.seq ?_
        refine Ev.draw (M := [0, 1, 3, 7, 15, 31, 63, 127, 255, 511, 1023, 2047, 4095, 8191, 16383, 32767, 65535, 131071, 262143, 524287, 1048575, 2097151, 4194303, 262143, 8650751, 33554431, 67108863, 134217727]) (l := [0, 1, 2, 3, 4, 5, 6, 7, 8, 9, 10, 11, 12, 13, 14, 15, 16, 17, 18, 19, 20, 21, 22, 23, 24, 25, 26, 27]) (by kernel_rfl) (by kernel_rfl) (by kernel_rfl) ?_
        refine Rp rfl Z24 ?_
        refine Rl rfl Z7 ?_
        refine Rp rfl Z63 ?_
        refine Rp rfl Z1 ?_
        refine Gp rfl rfl Z2 Z12 ?_
        refine Gl rfl rfl Z2 Z7 ?_
        refine Gp rfl rfl Z2 Z33 ?_
        refine Gp rfl rfl Z2 Z26 ?_
        refine Rp rfl Z1 ?_
        refine Rp rfl Z1 ?_
        refine Gp rfl rfl Z2 Z12 ?_
        refine Gl rfl rfl Z2 Z7 ?_
        refine Gp rfl rfl Z2 Z109 ?_
        refine Gp rfl rfl Z2 Z116 ?_
        refine Gl rfl rfl Z2 Z13 ?_
        refine Gp rfl rfl Z2 Z45 ?_
        refine Rp rfl Z1 ?_
        refine Rp rfl Z1 ?_
        refine Gf rfl rfl Z2 ?_
        refine Gf rfl rfl Z2 ?_
        refine Gf rfl rfl Z2 ?_
        refine Gf rfl rfl Z2 ?_
        refine Gf rfl rfl Z2 ?_
        refine Gf rfl rfl Z2 ?_
        refine Gf rfl rfl Z2 ?_
        refine Gf rfl rfl Z2 ?_
        refine Rp rfl Z1 ?_
        refine Rp rfl Z1 ?_
        refine RunTo.nil ?_
        refine Ev.ret ⟨.inr rfl, _, res1, ?_⟩
        simp only [lk_up, lk_lf, Nat.reduceEqDiff, Nat.reduceLT, reduceIte, if_true, if_false, Nat.zero_add, i64, bo, u8, nilS, List.take_succ_cons, List.take_zero, List.drop_zero, List.drop_succ_cons]
        exact frz_sc
    | cons b l =>
      have hlen : (r :: b :: l : List Rg).length = l.length + 2 := rfl
      rw [decide_eq_false (fun k => by simpa using k.2)]
      refine CallTo.body (c := (Tryz.f119.body.getD .skip)) (nt := 30) (rs := #[.tmp 2]) (by assumption) (by kernel_rfl) ⟨by simp, by decide⟩ ?_
      show Ev _ (Code.seq _ _) _ _
      simp only [tmOf_cons, tmOf_nil, i64, bo, u8, nilS, Nat.zero_add, Nat.reduceAdd]
      refine Ev.seq ?_
      refine Ev.rg [0, 1] ?_
      refine RunTo.freeM rfl (RunOn.madeL (k := 0) hI rfl rfl (by decide) rfl Z15 Z5 ?_)
      intro hp1 hI1
      simp only [List.cons_append, List.nil_append, evc, repA, Eng.setMany, List.set_cons_zero, List.set_cons_succ, Nat.zero_mul, Nat.one_mul, List.take_succ_cons, List.take_zero, List.drop_zero, List.drop_succ_cons, Nat.zero_add, Nat.reduceAdd, Nat.reduceMul] at hI1
      refine Rp rfl Z1 ?_
      refine RunTo.nil ?_
      refine Ev.seq ?_
      refine Ev.draw (M := [0, 1, 3, 7, 15, 31, 63, 127, 255, 511, 1023, 2047, 4095, 8191, 16383, 32767, 65535, 131071, 262143, 524287, 1048575, 2097151, 4194303, 262143, 8650751, 33554431, 67108863, 134217727]) (l := [0, 1, 2, 3, 4, 5, 6, 7, 8, 9, 10, 11, 12, 13, 14, 15, 16, 17, 18, 19, 20, 21, 22, 23, 24, 25, 26, 27]) (by kernel_rfl) (by kernel_rfl) (by kernel_rfl) ?_
      refine Rp rfl Z24 ?_
      refine Rl rfl Z7 ?_
      refine Rp rfl Z63 ?_
      refine Rp rfl Z1 ?_
      refine Gp rfl rfl Z2 Z12 ?_
      refine Gl rfl rfl Z2 Z7 ?_
      refine Gp rfl rfl Z2 Z33 ?_
      refine Gp rfl rfl Z2 Z45 ?_
      refine Rp rfl Z1 ?_
      refine Rp rfl Z1 ?_
      refine Gf rfl rfl Z2 ?_
      refine Gf rfl rfl Z2 ?_
      refine Gf rfl rfl Z2 ?_
      refine Gf rfl rfl Z2 ?_
      refine Gf rfl rfl Z2 ?_
      refine Gf rfl rfl Z2 ?_
      refine Rp rfl Z1 ?_
      refine Rp rfl Z1 ?_
      refine Gf rfl rfl Z2 ?_
      refine Gf rfl rfl Z2 ?_
      refine Gf rfl rfl Z2 ?_
      refine Gf rfl rfl Z2 ?_
      refine Gf rfl rfl Z2 ?_
      refine Gf rfl rfl Z2 ?_
      refine Gf rfl rfl Z2 ?_
      refine Gf rfl rfl Z2 ?_
      refine Rp rfl Z1 ?_
      refine Rp rfl Z1 ?_
      refine RunTo.nil ?_
      refine Ev.ret ⟨.inr rfl, _, res1, ?_⟩
      simp only [lk_up, lk_lf, Nat.reduceEqDiff, Nat.reduceLT, reduceIte, if_true, if_false, Nat.zero_add, i64, bo, u8, nilS, List.take_succ_cons, List.take_zero, List.drop_zero, List.drop_succ_cons]
      exact frz_sc
  · rw [decide_eq_false (fun k => h1 k.1)]
    refine CallTo.body (c := (Tryz.f119.body.getD .skip)) (nt := 30) (rs := #[.tmp 2]) (by assumption) (by kernel_rfl) ⟨by simp, by decide⟩ ?_
    show Ev _ (Code.seq _ _) _ _
    simp only [tmOf_cons, tmOf_nil, i64, bo, u8, nilS, Nat.zero_add, Nat.reduceAdd]
    refine Ev.seq ?_
    refine Ev.rg [0, 1] ?_
    refine RunTo.freeM rfl (RunOn.madeL (k := 0) hI rfl rfl (by decide) rfl Z15 Z5 ?_)
    intro hp1 hI1
    simp only [List.cons_append, List.nil_append, evc, repA, Eng.setMany, List.set_cons_zero, List.set_cons_succ, Nat.zero_mul, Nat.one_mul, List.take_succ_cons, List.take_zero, List.drop_zero, List.drop_succ_cons, Nat.zero_add, Nat.reduceAdd, Nat.reduceMul] at hI1
    refine Rp rfl Z1 ?_
    refine RunTo.nil ?_
    refine Ev.seq ?_
    refine Ev.draw (M := [0, 1, 3, 7, 15, 31, 63, 127, 255, 511, 1023, 2047, 4095, 8191, 16383, 32767, 65535, 131071, 262143, 524287, 1048575, 2097151, 4194303, 262143, 8650751, 33554431, 67108863, 134217727]) (l := [0, 1, 2, 3, 4, 5, 6, 7, 8, 9, 10, 11, 12, 13, 14, 15, 16, 17, 18, 19, 20, 21, 22, 23, 24, 25, 26, 27]) (by kernel_rfl) (by kernel_rfl) (by kernel_rfl) ?_
    refine Rp rfl Z24 ?_
    refine Rl rfl Z7 ?_
    refine Rp rfl Z28 ?_
    refine Rp rfl Z1 ?_
    refine Gf rfl rfl Z2 ?_
    refine Gf rfl rfl Z2 ?_
    refine Gf rfl rfl Z2 ?_
    refine Gf rfl rfl Z2 ?_
    refine Rp rfl Z1 ?_
    refine Rp rfl Z1 ?_
    refine Gf rfl rfl Z2 ?_
    refine Gf rfl rfl Z2 ?_
    refine Gf rfl rfl Z2 ?_
    refine Gf rfl rfl Z2 ?_
    refine Gf rfl rfl Z2 ?_
    refine Gf rfl rfl Z2 ?_
    refine Rp rfl Z1 ?_
    refine Rp rfl Z1 ?_
    refine Gf rfl rfl Z2 ?_
    refine Gf rfl rfl Z2 ?_
    refine Gf rfl rfl Z2 ?_
    refine Gf rfl rfl Z2 ?_
    refine Gf rfl rfl Z2 ?_
    refine Gf rfl rfl Z2 ?_
    refine Gf rfl rfl Z2 ?_
    refine Gf rfl rfl Z2 ?_
    refine Rp rfl Z1 ?_
    refine Rp rfl Z1 ?_
    refine RunTo.nil ?_
    refine Ev.ret ⟨.inr rfl, _, res1, ?_⟩
    simp only [lk_up, lk_lf, Nat.reduceEqDiff, Nat.reduceLT, reduceIte, if_true, if_false, Nat.zero_add, i64, bo, u8, nilS, List.take_succ_cons, List.take_zero, List.drop_zero, List.drop_succ_cons]
    exact frz_sc
theorem w112 (h : (envL p T).sp 112 = none) (h184 : (envL p T).sp 184 = some (treeSp F184)) (x : Sd) (n : Int) (hx : 0 ≤ x.fi ∧ x.fi < 64 ∧ 0 ≤ n ∧ n < 64) : CallTo (envL p T) 112 [.rp false x.c, i64 n] Hp.empty fun v hp' => frz true hp' 20 v = some (i64 ((n - x.fi) % 64)) := by
  unfold Sd.c stC
  refine CallTo.body (c := (Tryz.f112.body.getD .skip)) (nt := 18) (rs := #[.tmp 4]) (by assumption) (by kernel_rfl) ⟨by simp, by decide⟩ ?_
  show Ev _ (Code.seq _ _) _ _
  simp only [tmOf_cons, tmOf_nil, i64, bo, u8, nilS, Nat.zero_add, Nat.reduceAdd]
  refine Ev.seq ?_
  refine Ev.rg [0] ?_
  refine Rp rfl Z1 ?_
  refine RunTo.nil ?_
  refine Ev.seq ?_
  refine Ev.draw (M := [0, 1, 3, 7, 15, 31, 0, 64, 192, 448, 960, 0, 4095, 8191]) (l := [0, 1, 2, 3, 4, 5, 6, 7, 8, 9, 10, 11, 12, 13]) (by kernel_rfl) (by kernel_rfl) (by kernel_rfl) ?_
  refine Rp rfl Z1 ?_
  refine Rp rfl Z1 ?_
  refine Rp rfl Z21 ?_
  refine Rp rfl Z21 ?_
  refine Rp rfl Z21 ?_
  refine Rl rfl Z13 ?_
  refine Rp rfl Z1 ?_
  refine Rp rfl Z1 ?_
  refine Rp rfl Z21 ?_
  refine Rp rfl Z135 ?_
  refine Rl rfl Z13 ?_
  refine Rp rfl Z1 ?_
  refine RunTo.freeM rfl (RunOn.tree rfl rfl (by decide) Z1 Z1 (by assumption) Z8 (by exact F184_eq hx) ?_)
  refine Rp rfl Z1 ?_
  refine RunTo.nil ?_
  refine Ev.ret ⟨.inr rfl, _, res1, ?_⟩
  simp only [lk_up, lk_lf, Nat.reduceEqDiff, Nat.reduceLT, reduceIte, if_true, if_false, Nat.zero_add, i64, bo, u8, nilS, List.take_succ_cons, List.take_zero, List.drop_zero, List.drop_succ_cons]
  exact frz_sc
theorem w142 (h : (envL p T).sp 142 = none) (x : Nm) (n : Int) (hx : 0 ≤ n ∧ n < 64) : CallTo (envL p T) 142 [.rp false x.c, i64 n] Hp.empty fun v hp' => frz true hp' 20 v = some (bo true) := by
  unfold Nm.c stC
  refine CallTo.body (c := (Tryz.f142.body.getD .skip)) (nt := 18) (rs := #[.tmp 4]) (by assumption) (by kernel_rfl) ⟨by simp, by decide⟩ ?_
  show Ev _ (Code.seq _ _) _ _
  simp only [tmOf_cons, tmOf_nil, i64, bo, u8, nilS, Nat.zero_add, Nat.reduceAdd]
  refine Ev.seq ?_
  refine Ev.rg [0] ?_
  refine Rp rfl Z1 ?_
  refine RunTo.nil ?_
  refine Ev.seq ?_
  refine Ev.rg [0, 1, 2, 3, 4, 5, 6, 7, 8, 9, 10, 11, 12, 13] ?_
  refine Rp rfl Z1 ?_
  refine Rp rfl Z78 ?_
  refine Rp rfl Z1 ?_
  refine Gp rfl rfl Z2 Z1 ?_
  refine Gp rfl rfl Z2 Z1 ?_
  refine Gp rfl rfl Z2 Z1 ?_
  refine Gp rfl rfl Z2 Z21 ?_
  refine Gp rfl rfl Z2 Z21 ?_
  refine Gp rfl rfl Z2 Z21 ?_
  refine Gl rfl rfl Z2 Z13 ?_
  refine Gp rfl rfl Z2 Z121 ?_
  refine Gp rfl rfl Z2 Z25 ?_
  refine Rp rfl Z1 ?_
  refine Rp rfl Z1 ?_
  refine RunTo.nil ?_
  refine Ev.ret ⟨.inr rfl, _, res1, ?_⟩
  simp only [lk_up, lk_lf, Nat.reduceEqDiff, Nat.reduceLT, reduceIte, if_true, if_false, Nat.zero_add, i64, bo, u8, nilS, List.take_succ_cons, List.take_zero, List.drop_zero, List.drop_succ_cons]
  exact frz_sc
theorem w117 (h : (envL p T).sp 117 = none) (h169 : (envL p T).sp 169 = some (treeSp F169)) (x : Sd) (n : Int) (hx : 0 ≤ n ∧ n < 64) : CallTo (envL p T) 117 [.rp false x.c, i64 n] Hp.empty fun v hp' => frz true hp' 20 v = some (i64 ((n + 1) % 64)) := by
  unfold Sd.c stC
  refine CallTo.body (c := (Tryz.f117.body.getD .skip)) (nt := 14) (rs := #[.tmp 4]) (by assumption) (by kernel_rfl) ⟨by simp, by decide⟩ ?_
  show Ev _ (Code.seq _ _) _ _
  simp only [tmOf_cons, tmOf_nil, i64, bo, u8, nilS, Nat.zero_add, Nat.reduceAdd]
  refine Ev.seq ?_
  refine Ev.rg [0] ?_
  refine Rp rfl Z1 ?_
  refine RunTo.nil ?_
  refine Ev.seq ?_
  refine Ev.rg [0, 1, 2, 3, 4, 5, 6, 7, 8, 9] ?_
  refine Rp rfl Z1 ?_
  refine Rp rfl Z1 ?_
  refine Rp rfl Z21 ?_
  refine Rp rfl Z21 ?_
  refine Rp rfl Z21 ?_
  refine Rl rfl Z13 ?_
  refine Rp rfl Z1 ?_
  refine Rp rfl Z34 ?_
  refine RunTo.freeM rfl (RunOn.tree rfl rfl (by decide) Z1 Z1 (by assumption) Z8 (by exact F169_eq _) ?_)
  refine Rp rfl Z1 ?_
  refine RunTo.nil ?_
  refine Ev.ret ⟨.inr rfl, _, res1, ?_⟩
  simp only [lk_up, lk_lf, Nat.reduceEqDiff, Nat.reduceLT, reduceIte, if_true, if_false, Nat.zero_add, i64, bo, u8, nilS, List.take_succ_cons, List.take_zero, List.drop_zero, List.drop_succ_cons]
  exact frz_sc
end
end Go.Eng
end
section
set_option linter.unusedVariables false
set_option linter.unusedSimpArgs false
set_option maxRecDepth 100000
set_option maxHeartbeats 4000000
namespace Go.Eng
open Go Go.RowKit Go.Proofs
section
variable (p : Poly) (T : List (Nat × (List AV → Option AV)))
theorem w104 (h : (envL p T).sp 104 = none) (h84 : (envL p T).sp 84 = some (treeSp F84)) (h107 : (envL p T).sp 107 = some (treeSp F107)) (x : Pc) (poll : Int) (c : Option Nat) (hx : x.Ok) (k0 : 0 ≤ poll) (k1 : poll ≤ 1) : CallTo (envL p T) 104 [i64 6, x.v poll false c] Hp.empty fun v hp' => frz true hp' 20 v = some (bo true) := by
  have hI := IsH.empty
  have hr := x.part_range
  have hm := hx.most
  have hp := Pc.pos hx
  have hb := x.begins
  unfold Pc.v pcV
  generalize x.part = q at *
  by_cases h0 : x.off = 0
  · rw [h0] at hb
    refine CallTo.body (c := (Tryz.f104.body.getD .skip)) (nt := 70) (rs := #[.tmp 4]) (by assumption) (by kernel_rfl) ⟨by simp, by decide⟩ ?_
    show Ev _ (Code.seq _ _) _ _
    simp only [tmOf_cons, tmOf_nil, i64, bo, u8, nilS, Nat.zero_add, Nat.reduceAdd]
    refine Ev.seq ?_
    refine Ev.rg [0, 1] ?_
    refine RunTo.freeM rfl (RunOn.madeL (k := 0) hI rfl rfl (by decide) rfl Z15 Z5 ?_)
    intro hp1 hI1
    simp only [List.cons_append, List.nil_append, evc, repA, Eng.setMany, List.set_cons_zero, List.set_cons_succ, Nat.zero_mul, Nat.one_mul, List.take_succ_cons, List.take_zero, List.drop_zero, List.drop_succ_cons, Nat.zero_add, Nat.reduceAdd, Nat.reduceMul] at hI1
    refine Rp rfl Z1 ?_
    refine RunTo.nil ?_
    refine Ev.seq ?_
    refine Ev.seq ?_
    refine Ev.draw (M := [0, 1, 3, 7, 15, 31, 63, 127, 255, 511, 1023, 511, 2559, 8191, 16383, 32767, 65535, 131071, 262143, 524287, 1048575, 2097151, 4194303, 8388607, 16777215, 33554431, 67108863, 134217727, 268435455, 536870911, 1073741823, 2147483647, 4294967295, 8589934591, 17179869183]) (l := [0, 1, 2, 3, 4, 5, 6, 7, 8, 9, 10, 11, 12, 13, 14, 15, 16, 17, 18, 19, 20, 21, 22, 23, 24, 25, 26, 27, 28, 29, 30, 31, 32, 33, 34]) (by kernel_rfl) (by kernel_rfl) (by kernel_rfl) ?_
    refine Rp rfl Z1 ?_
    refine RunTo.freeM rfl (RunOn.tree rfl rfl (by decide) Z1 Z1 (by assumption) Z8 (by exact F84_eq) ?_)
    refine Rp rfl Z16 ?_
    refine Rp rfl Z1 ?_
    refine Gp rfl rfl Z2 Z11 ?_
    refine Gl rfl rfl Z2 Z7 ?_
    refine Gp rfl rfl Z2 Z18 ?_
    refine Rp rfl Z1 ?_
    refine Rp rfl Z1 ?_
    refine Gp rfl rfl Z2 Z11 ?_
    refine Gl rfl rfl Z2 Z7 ?_
    refine Gp rfl rfl Z2 Z1 ?_
    refine Gp rfl rfl Z2 Z121 ?_
    refine Gp rfl rfl Z2 Z58 ?_
    refine Rp rfl Z1 ?_
    refine Rp rfl Z1 ?_
    refine Gp rfl rfl Z2 Z17 ?_
    refine Gl rfl rfl Z2 Z7 ?_
    refine Gp rfl rfl Z2 Z18 ?_
    refine Rp rfl Z1 ?_
    refine Rp rfl Z1 ?_
    refine Gp rfl rfl Z2 Z17 ?_
    refine Gl rfl rfl Z2 Z7 ?_
    refine Gp rfl rfl Z2 Z28 ?_
    refine Rp rfl Z1 ?_
    refine Rp rfl Z1 ?_
    refine Gp rfl rfl Z2 Z24 ?_
    refine Gl rfl rfl Z2 Z7 ?_
    refine Gp rfl rfl Z2 Z18 ?_
    refine Rp rfl Z1 ?_
    refine Rp rfl Z1 ?_
    refine Gp rfl rfl Z2 Z24 ?_
    refine Gl rfl rfl Z2 Z7 ?_
    refine Gp rfl rfl Z2 Z28 ?_
    refine Rp rfl Z1 ?_
    refine RunTo.nil ?_
    refine Ev.condF Z1 ?_
    refine Ev.skip ?_
    refine Ev.seq ?_
    refine Ev.seq ?_
    refine Ev.draw (M := [0, 1, 3, 0, 8, 24, 63, 127, 255, 511, 1023, 2047, 4095, 8191, 16383, 32767, 65535]) (l := [0, 1, 2, 3, 4, 5, 6, 7, 8, 9, 10, 11, 12, 13, 14, 15, 16]) (by kernel_rfl) (by kernel_rfl) (by kernel_rfl) ?_
    refine Rp rfl Z17 ?_
    refine Rl rfl Z7 ?_
    refine RunTo.freeM rfl (RunOn.tree rfl rfl (by decide) Z1 Z1 (by assumption) Z8 Z68 ?_)
    rw [show (q == 0 || q == 1) = true from hb]
    refine Rp rfl Z19 ?_
    refine Rl rfl Z7 ?_
    refine Rp rfl Z26 ?_
    refine Rp rfl Z1 ?_
    refine Rp rfl Z1 ?_
    refine Gp rfl rfl Z2 Z19 ?_
    refine Gl rfl rfl Z2 Z7 ?_
    refine Gp rfl rfl Z2 Z18 ?_
    refine Rp rfl Z1 ?_
    refine Rp rfl Z1 ?_
    refine Gp rfl rfl Z2 Z19 ?_
    refine Gl rfl rfl Z2 Z7 ?_
    refine Gp rfl rfl Z2 Z28 ?_
    refine Rp rfl Z1 ?_
    refine RunTo.nil ?_
    refine Ev.condF Z1 ?_
    refine Ev.skip ?_
    refine Ev.seq ?_
    refine Ev.rg [0, 1, 2, 3, 4, 5, 6, 7, 8, 9, 10, 11, 12, 13] ?_
    refine Rp rfl Z12 ?_
    refine Rl rfl Z7 ?_
    refine Rp rfl Z27 ?_
    refine Rp rfl Z78 ?_
    refine Rp rfl Z1 ?_
    refine Gp rfl rfl Z2 Z12 ?_
    refine Gl rfl rfl Z2 Z7 ?_
    refine Gp rfl rfl Z2 Z27 ?_
    refine Gp rfl rfl Z2 Z19 ?_
    refine Gl rfl rfl Z2 Z7 ?_
    refine Gp rfl rfl Z2 Z55 ?_
    refine Gp rfl rfl Z2 Z61 ?_
    refine Rp rfl Z1 ?_
    refine Rp rfl Z1 ?_
    refine RunTo.nil ?_
    refine Ev.ret ⟨.inr rfl, _, res1, ?_⟩
    simp only [lk_up, lk_lf, Nat.reduceEqDiff, Nat.reduceLT, reduceIte, if_true, if_false, Nat.zero_add, i64, bo, u8, nilS, List.take_succ_cons, List.take_zero, List.drop_zero, List.drop_succ_cons]
    exact frz_sc
  · rw [show (x.off == 0) = false from beq_eq_false_iff_ne.2 h0] at hb
    refine CallTo.body (c := (Tryz.f104.body.getD .skip)) (nt := 70) (rs := #[.tmp 4]) (by assumption) (by kernel_rfl) ⟨by simp, by decide⟩ ?_
    show Ev _ (Code.seq _ _) _ _
    simp only [tmOf_cons, tmOf_nil, i64, bo, u8, nilS, Nat.zero_add, Nat.reduceAdd]
    refine Ev.seq ?_
    refine Ev.rg [0, 1] ?_
    refine RunTo.freeM rfl (RunOn.madeL (k := 0) hI rfl rfl (by decide) rfl Z15 Z5 ?_)
    intro hp1 hI1
    simp only [List.cons_append, List.nil_append, evc, repA, Eng.setMany, List.set_cons_zero, List.set_cons_succ, Nat.zero_mul, Nat.one_mul, List.take_succ_cons, List.take_zero, List.drop_zero, List.drop_succ_cons, Nat.zero_add, Nat.reduceAdd, Nat.reduceMul] at hI1
    refine Rp rfl Z1 ?_
    refine RunTo.nil ?_
    refine Ev.seq ?_
    refine Ev.seq ?_
    refine Ev.draw (M := [0, 1, 3, 7, 15, 31, 63, 127, 255, 511, 1023, 511, 2559, 8191, 16383, 32767, 65535, 131071, 262143, 524287, 1048575, 2097151, 4194303, 8388607, 16777215, 33554431, 67108863, 134217727, 268435455, 536870911, 1073741823, 2147483647, 4294967295, 8589934591, 17179869183]) (l := [0, 1, 2, 3, 4, 5, 6, 7, 8, 9, 10, 11, 12, 13, 14, 15, 16, 17, 18, 19, 20, 21, 22, 23, 24, 25, 26, 27, 28, 29, 30, 31, 32, 33, 34]) (by kernel_rfl) (by kernel_rfl) (by kernel_rfl) ?_
    refine Rp rfl Z1 ?_
    refine RunTo.freeM rfl (RunOn.tree rfl rfl (by decide) Z1 Z1 (by assumption) Z8 (by exact F84_eq) ?_)
    refine Rp rfl Z16 ?_
    refine Rp rfl Z1 ?_
    refine Gp rfl rfl Z2 Z11 ?_
    refine Gl rfl rfl Z2 Z7 ?_
    refine Gp rfl rfl Z2 Z18 ?_
    refine Rp rfl Z1 ?_
    refine Rp rfl Z1 ?_
    refine Gp rfl rfl Z2 Z11 ?_
    refine Gl rfl rfl Z2 Z7 ?_
    refine Gp rfl rfl Z2 Z1 ?_
    refine Gp rfl rfl Z2 Z121 ?_
    refine Gp rfl rfl Z2 Z58 ?_
    refine Rp rfl Z1 ?_
    refine Rp rfl Z1 ?_
    refine Gp rfl rfl Z2 Z17 ?_
    refine Gl rfl rfl Z2 Z7 ?_
    refine Gp rfl rfl Z2 Z18 ?_
    refine Rp rfl Z1 ?_
    refine Rp rfl Z1 ?_
    refine Gp rfl rfl Z2 Z17 ?_
    refine Gl rfl rfl Z2 Z7 ?_
    refine Gp rfl rfl Z2 Z28 ?_
    refine Rp rfl Z1 ?_
    refine Rp rfl Z1 ?_
    refine Gp rfl rfl Z2 Z24 ?_
    refine Gl rfl rfl Z2 Z7 ?_
    refine Gp rfl rfl Z2 Z18 ?_
    refine Rp rfl Z1 ?_
    refine Rp rfl Z1 ?_
    refine Gp rfl rfl Z2 Z24 ?_
    refine Gl rfl rfl Z2 Z7 ?_
    refine Gp rfl rfl Z2 Z28 ?_
    refine Rp rfl Z1 ?_
    refine RunTo.nil ?_
    refine Ev.condF Z1 ?_
    refine Ev.skip ?_
    refine Ev.seq ?_
    refine Ev.seq ?_
    refine Ev.draw (M := [0, 1, 3, 0, 8, 24, 63, 127, 255, 511, 1023, 2047, 4095, 8191, 16383, 32767, 65535]) (l := [0, 1, 2, 3, 4, 5, 6, 7, 8, 9, 10, 11, 12, 13, 14, 15, 16]) (by kernel_rfl) (by kernel_rfl) (by kernel_rfl) ?_
    refine Rp rfl Z17 ?_
    refine Rl rfl Z7 ?_
    refine RunTo.freeM rfl (RunOn.tree rfl rfl (by decide) Z1 Z1 (by assumption) Z8 Z68 ?_)
    rw [hb]
    refine Rp rfl Z19 ?_
    refine Rl rfl Z7 ?_
    refine Rp rfl Z45 ?_
    refine Rp rfl Z1 ?_
    refine Rp rfl Z1 ?_
    refine Gp rfl rfl Z2 Z19 ?_
    refine Gl rfl rfl Z2 Z7 ?_
    refine Gp rfl rfl Z2 Z18 ?_
    refine Rp rfl Z1 ?_
    refine Rp rfl Z1 ?_
    refine Gp rfl rfl Z2 Z19 ?_
    refine Gl rfl rfl Z2 Z7 ?_
    refine Gp rfl rfl Z2 Z28 ?_
    refine Rp rfl Z1 ?_
    refine RunTo.nil ?_
    refine Ev.condF Z1 ?_
    refine Ev.skip ?_
    refine Ev.seq ?_
    refine Ev.rg [0, 1, 2, 3, 4, 5, 6, 7, 8, 9, 10, 11, 12, 13] ?_
    refine Rp rfl Z12 ?_
    refine Rl rfl Z7 ?_
    refine Rp rfl Z27 ?_
    refine Rp rfl Z78 ?_
    refine Rp rfl Z1 ?_
    refine Gp rfl rfl Z2 Z12 ?_
    refine Gl rfl rfl Z2 Z7 ?_
    refine Gp rfl rfl Z2 Z27 ?_
    refine Gp rfl rfl Z2 Z19 ?_
    refine Gl rfl rfl Z2 Z7 ?_
    refine Gp rfl rfl Z2 Z55 ?_
    refine Gp rfl rfl Z2 Z61 ?_
    refine Rp rfl Z1 ?_
    refine Rp rfl Z1 ?_
    refine RunTo.nil ?_
    refine Ev.ret ⟨.inr rfl, _, res1, ?_⟩
    simp only [lk_up, lk_lf, Nat.reduceEqDiff, Nat.reduceLT, reduceIte, if_true, if_false, Nat.zero_add, i64, bo, u8, nilS, List.take_succ_cons, List.take_zero, List.drop_zero, List.drop_succ_cons]
    exact frz_sc
end
end Go.Eng
end
section
set_option linter.unusedVariables false
set_option linter.unusedSimpArgs false
set_option maxRecDepth 100000
set_option maxHeartbeats 4000000
namespace Go.Eng
open Go Go.RowKit Go.Proofs
section
variable (p : Poly) (T : List (Nat × (List AV → Option AV)))
theorem w105 (h : (envL p T).sp 105 = none) (l : List Nat) (c : Option Nat) (hl : l ≠ []) (hl2 : l.length ≤ 2100) : CallTo (envL p T) 105 [byV false l c] Hp.empty fun v hp' => frz true hp' 20 v = some (byV true l none) := by
  have hI := IsH.empty
  have hn : l.length ≠ 0 := fun k => hl (List.eq_nil_of_length_eq_zero k)
  unfold byV
  refine CallTo.body (c := (Tryz.f105.body.getD .skip)) (nt := 8) (rs := #[.tmp 2]) (by assumption) (by kernel_rfl) ⟨by simp, by decide⟩ ?_
  show Ev _ (Code.seq _ _) _ _
  simp only [tmOf_cons, tmOf_nil, i64, bo, u8, nilS, Nat.zero_add, Nat.reduceAdd]
  refine Ev.seq ?_
  refine Ev.rg [0] ?_
  refine Rp rfl Z1 ?_
  refine RunTo.nil ?_
  refine Ev.seq ?_
  refine Ev.seq ?_
  refine Ev.rg [0, 1] ?_
  refine Rp rfl Z1 ?_
  refine Rp rfl Z108 ?_
  refine RunTo.nil ?_
  refine Ev.condF Z1 ?_
  refine Ev.skip ?_
  refine Ev.seq ?_
  refine Ev.rg [0, 1, 2, 3] ?_
  refine RunTo.freeM rfl (RunOn.madeL (k := 0) hI rfl rfl (by decide) rfl Z79 Z5 ?_)
  intro hp1 hI1
  simp only [List.cons_append, List.nil_append, evc, repA, Eng.setMany, List.set_cons_zero, List.set_cons_succ, Nat.zero_mul, Nat.one_mul, List.take_succ_cons, List.take_zero, List.drop_zero, List.drop_succ_cons, Nat.zero_add, Nat.reduceAdd, Nat.reduceMul] at hI1
  refine Rp rfl Z1 ?_
  refine RunTo.freeM rfl (RunOn.appL (n := 1) hI1 rfl rfl (by decide) rfl rfl rfl (by kernel_rfl) (by kernel_rfl) Z1 Z1 (by exact src_ro (by rw [byC_len]; omega)) (by exact appL_full rfl rfl (by decide) (by omega) Z41 hn (by decide)) ?_)
  intro hp2 hI2
  simp only [List.cons_append, List.nil_append] at hI2
  refine Rp rfl Z1 ?_
  refine RunTo.nil ?_
  refine Ev.ret ⟨.inr rfl, _, res1, ?_⟩
  simp only [lk_up, lk_lf, Nat.reduceEqDiff, Nat.reduceLT, reduceIte, if_true, if_false, Nat.zero_add, i64, bo, u8, nilS, List.take_succ_cons, List.take_zero, List.drop_zero, List.drop_succ_cons]
  refine frz_slby (b := 1) (hI2.wlSet _) (by rfl) ?_ rfl
  first | rfl | simp [repA]
theorem w285 (h : (envL p T).sp 285 = none) (l : List Rg) (c : Option Nat) (hl2 : l.length ≤ 2100) : CallTo (envL p T) 285 [rgV false l c] Hp.empty fun v hp' => frz true hp' 20 v = some (i64 (endG l)) := by
  have hI := IsH.empty
  by_cases hl : l = []
  · subst hl
    have hlen : ([] : List Rg).length = 0 := rfl
    refine CallTo.body (c := (Tryz.f285.body.getD .skip)) (nt := 13) (rs := #[.tmp 2]) (by assumption) (by kernel_rfl) ⟨by simp, by decide⟩ ?_
    show Ev _ (Code.seq _ _) _ _
    simp only [tmOf_cons, tmOf_nil, i64, bo, u8, nilS, Nat.zero_add, Nat.reduceAdd]
    refine Ev.seq ?_
    refine Ev.rg [0] ?_
    refine Rp rfl Z1 ?_
    refine RunTo.nil ?_
    refine Ev.seq ?_
    refine Ev.seq ?_
    refine Ev.rg [0, 1, 2] ?_
    refine Rp rfl Z1 ?_
    refine Rp rfl Z33 ?_
    refine Rp rfl Z26 ?_
    refine RunTo.nil ?_
    refine Ev.condT Z1 ?_
    refine Ev.seq ?_
    refine Ev.rg [0] ?_
    refine Rp rfl Z1 ?_
    refine RunTo.nil ?_
    refine Ev.ret ⟨.inr rfl, _, res1, ?_⟩
    simp only [lk_up, lk_lf, Nat.reduceEqDiff, Nat.reduceLT, reduceIte, if_true, if_false, Nat.zero_add, i64, bo, u8, nilS, List.take_succ_cons, List.take_zero, List.drop_zero, List.drop_succ_cons]
    exact frz_sc
  · rw [← List.dropLast_concat_getLast hl] at hl2 ⊢
    generalize l.dropLast = l1 at *
    generalize l.getLast hl = r at *
    have hlen : (l1 ++ [r]).length = l1.length + 1 := by simp
    rw [endG_snoc]
    refine CallTo.body (c := (Tryz.f285.body.getD .skip)) (nt := 13) (rs := #[.tmp 2]) (by assumption) (by kernel_rfl) ⟨by simp, by decide⟩ ?_
    show Ev _ (Code.seq _ _) _ _
    simp only [tmOf_cons, tmOf_nil, i64, bo, u8, nilS, Nat.zero_add, Nat.reduceAdd]
    refine Ev.seq ?_
    refine Ev.rg [0] ?_
    refine Rp rfl Z1 ?_
    refine RunTo.nil ?_
    refine Ev.seq ?_
    refine Ev.seq ?_
    refine Ev.rg [0, 1, 2] ?_
    refine Rp rfl Z1 ?_
    refine Rp rfl Z33 ?_
    refine Rp rfl Z45 ?_
    refine RunTo.nil ?_
    refine Ev.condF Z1 ?_
    refine Ev.skip ?_
    refine Ev.seq ?_
    refine Ev.rg [0, 1, 2, 3, 4, 5, 6, 7] ?_
    refine Rp rfl Z1 ?_
    refine Rp rfl Z1 ?_
    refine Rp rfl Z33 ?_
    refine Rp rfl Z55 ?_
    refine Rp rfl (by ((conv => lhs; simp only [evs, evm, lk_up, lk_lf, Nat.reduceEqDiff, Nat.reduceLT, reduceIte, if_true, if_false, i64, bo, u8, nilS, Bool.not_true, Bool.not_false, List.take_succ_cons, List.take_zero, List.drop_zero, List.drop_succ_cons, List.toList_toArray, Int.reduceToNat, Nat.reduceMul, Nat.reduceAdd, Nat.reduceSub, Nat.zero_add]); exact index_rg (by kernel_rfl) (by omega))) ?_
    refine Rp rfl Z124 ?_
    refine Rl rfl Z13 ?_
    refine Rp rfl Z1 ?_
    refine RunTo.nil ?_
    refine Ev.ret ⟨.inr rfl, _, res1, ?_⟩
    simp only [lk_up, lk_lf, Nat.reduceEqDiff, Nat.reduceLT, reduceIte, if_true, if_false, Nat.zero_add, i64, bo, u8, nilS, List.take_succ_cons, List.take_zero, List.drop_zero, List.drop_succ_cons]
    exact frz_sc
theorem w289 (h : (envL p T).sp 289 = none) (l : List Rg) (c : Option Nat) (hn : Nrm l) (hl2 : l.length ≤ 2100) : CallTo (envL p T) 289 [rgV false l c] Hp.empty fun v hp' => frz true hp' 20 v = some (bo true) := by
  have hI := IsH.empty
  refine CallTo.body (c := (Tryz.f289.body.getD .skip)) (nt := 38) (rs := #[.tmp 2]) (by assumption) (by kernel_rfl) ⟨by simp, by decide⟩ ?_
  show Ev _ (Code.seq _ _) _ _
  simp only [tmOf_cons, tmOf_nil, i64, bo, u8, nilS, Nat.zero_add, Nat.reduceAdd]
  refine Ev.seq ?_
  refine Ev.rg [0] ?_
  refine Rp rfl Z1 ?_
  refine RunTo.nil ?_
  refine Ev.seq ?_
  refine Ev.seq ?_
  refine Ev.rg [0, 1, 2] ?_
  refine Rp rfl Z1 ?_
  refine Rp rfl Z33 ?_
  refine Rp rfl Z1 ?_
  refine RunTo.nil ?_
  refine Ev.block ?_
  refine Ev.loop (fun (x : List Rg × List Rg) s => l = x.1 ++ x.2 ∧ ∃ tm hp L w, s = ⟨38, tm, hp⟩ ∧ IsH hp L w ∧ L.length ≤ x.1.length ∧ lk tm 0 = rgV false l c ∧ lk tm 5 = rgV false l c ∧ lk tm 6 = .sc (.int .i64 l.length) ∧ lk tm 7 = .sc (.int .i64 x.1.length)) (fun x => x.2.length) ?_ (x := ([], l)) ⟨rfl, _, _, _, _, rfl, hI, by simp, ?_, ?_, ?_, ?_⟩
  · rintro ⟨l1, l2⟩ s ⟨hl, tm, hp, L, w, rfl, hI1, hLn, k0, k5, k6, k7⟩
    simp only at hl hLn k7
    cases l2 with
    | nil =>
      have hlen : l.length = l1.length := by rw [hl]; simp
      refine Ev.seq ?_
      refine Ev.rg [0] ?_
      refine Rp rfl (Z39 (Y4 k0 k5 k6 k7)) ?_
      refine RunTo.nil ?_
      refine Ev.seq ?_
      refine Ev.condF (Z3 (Y4 k0 k5 k6 k7)) ?_
      refine Ev.exit ?_
      refine thenE_ext ?_
      refine inBlock_pos ?_
      refine Ev.seq ?_
      refine Ev.rg [0] ?_
      refine Rp rfl (Z3 (Y4 k0 k5 k6 k7)) ?_
      refine RunTo.nil ?_
      refine Ev.ret ⟨.inr rfl, _, res1, ?_⟩
      simp only [lk_up, lk_lf, Nat.reduceEqDiff, Nat.reduceLT, reduceIte, if_true, if_false, Nat.zero_add, i64, bo, u8, nilS, List.take_succ_cons, List.take_zero, List.drop_zero, List.drop_succ_cons, k0, k5, k6, k7]
      exact frz_sc
    | cons r l2 =>
      subst hl
      have hlen : (l1 ++ r :: l2).length = l1.length + l2.length + 1 := by simp; omega
      have hr := hn.1 r (by simp)
      have hcons : (l1 ++ [r]).length = l1.length + 1 := by simp
      by_cases h0 : l1 = []
      · have hz : l1.length = 0 := by rw [h0]; rfl
        refine Ev.seq ?_
        refine Ev.rg [0] ?_
        refine Rp rfl (Z35 (Y4 k7 k0 k5 k6)) ?_
        refine RunTo.nil ?_
        refine Ev.seq ?_
        refine Ev.condT (Z3 (Y4 k7 k0 k5 k6)) ?_
        refine Ev.skip ?_
        refine Ev.seq ?_
        refine Ev.block ?_
        refine Ev.seq ?_
        refine Ev.rg [0, 1, 2, 3, 4, 5] ?_
        refine Rp rfl (Z3 (Y4 k7 k0 k5 k6)) ?_
        refine Rp rfl (Z50 (Y4 k7 k0 k5 k6)) ?_
        refine Rl rfl (Z64 (Y4 k7 k0 k5 k6)) ?_
        refine RunTo.freeM rfl (RunOn.madeL (k := _) hI1 rfl rfl (by decide) rfl (Z60 (Y4 k7 k0 k5 k6)) Z5 ?_)
        intro hp2 hI2
        refine Rp rfl (Z3 (Y4 k7 k0 k5 k6)) ?_
        refine RunTo.freeM rfl (RunOn.storeL (n := 3) hI2 rfl rfl (Z3 (Y4 k7 k0 k5 k6)) (Z3 (Y4 k7 k0 k5 k6)) (by kernel_rfl) Z6 Z6 (get_last _ _) Z9 Z5 ?_)
        intro hp3 hI3
        simp only [set_last, List.set_set, List.set_cons_zero, List.set_cons_succ, List.take_succ_cons, List.take_zero, List.drop_succ_cons, List.drop_zero, Eng.setMany, evc, Nat.zero_add, Nat.reduceAdd, Nat.reduceMul, Nat.reduceSub] at hI3
        refine RunTo.nil ?_
        refine Ev.seq ?_
        refine Ev.draw (M := [0, 1, 3, 7, 15, 31, 15, 79, 255, 511, 1023, 2047, 4095, 8191, 16383, 32767, 16383, 16383, 147455, 475135, 999423, 2047999, 4194303, 8388607, 16777215]) (l := [0, 1, 2, 3, 4, 5, 6, 7, 8, 9, 10, 11, 12, 13, 14, 15, 16, 17, 18, 19, 20, 21, 22, 23, 24]) (by kernel_rfl) (by kernel_rfl) (by kernel_rfl) ?_
        refine Rp rfl (Z23 (Y4 k7 k0 k5 k6)) ?_
        refine Rl rfl (Z29 (Y4 k7 k0 k5 k6)) ?_
        refine Rp rfl (Z39 (Y4 k7 k0 k5 k6)) ?_
        refine Rp rfl (Z3 (Y4 k7 k0 k5 k6)) ?_
        refine Gp rfl rfl (Z10 (Y4 k7 k0 k5 k6)) (Z23 (Y4 k7 k0 k5 k6)) ?_
        refine Gl rfl rfl (Z10 (Y4 k7 k0 k5 k6)) (Z29 (Y4 k7 k0 k5 k6)) ?_
        refine Gp rfl rfl (Z10 (Y4 k7 k0 k5 k6)) (Z43 (Y4 k7 k0 k5 k6)) ?_
        refine Gl rfl rfl (Z10 (Y4 k7 k0 k5 k6)) (Z29 (Y4 k7 k0 k5 k6)) ?_
        refine Gp rfl rfl (Z10 (Y4 k7 k0 k5 k6)) (Z143 (Y4 k7 k0 k5 k6)) ?_
        refine Rp rfl (Z3 (Y4 k7 k0 k5 k6)) ?_
        refine Rp rfl (Z3 (Y4 k7 k0 k5 k6)) ?_
        refine Gp rfl rfl (Z10 (Y4 k7 k0 k5 k6)) (Z3 (Y4 k7 k0 k5 k6)) ?_
        refine Gp rfl rfl (Z10 (Y4 k7 k0 k5 k6)) (Z83 (Y4 k7 k0 k5 k6)) ?_
        refine Gp rfl rfl (Z10 (Y4 k7 k0 k5 k6)) (Z3 (Y4 k7 k0 k5 k6)) ?_
        refine Gf rfl rfl (Z10 (Y4 k7 k0 k5 k6)) ?_
        refine Gf rfl rfl (Z10 (Y4 k7 k0 k5 k6)) ?_
        refine Gf rfl rfl (Z10 (Y4 k7 k0 k5 k6)) ?_
        refine Gf rfl rfl (Z10 (Y4 k7 k0 k5 k6)) ?_
        refine Gf rfl rfl (Z10 (Y4 k7 k0 k5 k6)) ?_
        refine Gf rfl rfl (Z10 (Y4 k7 k0 k5 k6)) ?_
        refine Gf rfl rfl (Z10 (Y4 k7 k0 k5 k6)) ?_
        refine Gf rfl rfl (Z10 (Y4 k7 k0 k5 k6)) ?_
        refine Gf rfl rfl (Z10 (Y4 k7 k0 k5 k6)) ?_
        refine Gp rfl rfl (Z10 (Y4 k7 k0 k5 k6)) (Z3 (Y4 k7 k0 k5 k6)) ?_
        refine Rp rfl (Z3 (Y4 k7 k0 k5 k6)) ?_
        refine RunTo.nil ?_
        refine Ev.condF (Z3 (Y4 k7 k0 k5 k6)) ?_
        refine Ev.skip ?_
        refine Ev.rg [0, 1] ?_
        refine Rp rfl (Z36 (Y4 k7 k0 k5 k6)) ?_
        refine Rp rfl (Z3 (Y4 k7 k0 k5 k6)) ?_
        refine RunTo.nil ?_
        refine ⟨(l1 ++ [r], l2), ⟨by simp, _, _, _, _, rfl, hI3, by simp; omega, ?_, ?_, ?_, ?_⟩, by simp⟩
        · exact (Z3 (Y4 k7 k0 k5 k6))
        · exact (Z3 (Y4 k7 k0 k5 k6))
        · exact (Z3 (Y4 k7 k0 k5 k6))
        · rw [hcons]
          exact (Z3 (Y4 k7 k0 k5 k6))
      · have hz : 0 < l1.length := List.length_pos_iff.2 h0
        have eq1 := List.dropLast_concat_getLast h0
        generalize l1.dropLast = l0 at eq1
        generalize l1.getLast h0 = q at eq1
        have hq : q.2 < r.1 := (List.pairwise_append.1 hn.2).2.2 q (by rw [← eq1]; simp) r (by simp)
        have hl0 : l1.length = l0.length + 1 := by rw [← eq1]; simp
        have e : rgV false (l1 ++ r :: l2) c = rgV false (l0 ++ q :: (r :: l2)) c := by rw [← eq1]; simp
        rw [e] at k0
        refine Ev.seq ?_
        refine Ev.rg [0] ?_
        refine Rp rfl (Z35 (Y4 k7 k5 k6 k0)) ?_
        refine RunTo.nil ?_
        refine Ev.seq ?_
        refine Ev.condT (Z3 (Y4 k7 k5 k6 k0)) ?_
        refine Ev.skip ?_
        refine Ev.seq ?_
        refine Ev.block ?_
        refine Ev.seq ?_
        refine Ev.rg [0, 1, 2, 3, 4, 5] ?_
        refine Rp rfl (Z3 (Y4 k7 k5 k6 k0)) ?_
        refine Rp rfl (Z50 (Y4 k7 k5 k6 k0)) ?_
        refine Rl rfl (Z64 (Y4 k7 k5 k6 k0)) ?_
        refine RunTo.freeM rfl (RunOn.madeL (k := _) hI1 rfl rfl (by decide) rfl (Z60 (Y4 k7 k5 k6 k0)) Z5 ?_)
        intro hp2 hI2
        refine Rp rfl (Z3 (Y4 k7 k5 k6 k0)) ?_
        refine RunTo.freeM rfl (RunOn.storeL (n := 3) hI2 rfl rfl (Z3 (Y4 k7 k5 k6 k0)) (Z3 (Y4 k7 k5 k6 k0)) (by kernel_rfl) Z6 Z6 (get_last _ _) Z9 Z5 ?_)
        intro hp3 hI3
        simp only [set_last, List.set_set, List.set_cons_zero, List.set_cons_succ, List.take_succ_cons, List.take_zero, List.drop_succ_cons, List.drop_zero, Eng.setMany, evc, Nat.zero_add, Nat.reduceAdd, Nat.reduceMul, Nat.reduceSub] at hI3
        refine RunTo.nil ?_
        refine Ev.seq ?_
        refine Ev.draw (M := [0, 1, 3, 7, 15, 31, 15, 79, 255, 511, 1023, 2047, 4095, 8191, 16383, 32767, 16383, 16383, 147455, 475135, 999423, 2047999, 4194303, 8388607, 16777215]) (l := [0, 1, 2, 3, 4, 5, 6, 7, 8, 9, 10, 11, 12, 13, 14, 15, 16, 17, 18, 19, 20, 21, 22, 23, 24]) (by kernel_rfl) (by kernel_rfl) (by kernel_rfl) ?_
        refine Rp rfl (Z23 (Y4 k7 k5 k6 k0)) ?_
        refine Rl rfl (Z29 (Y4 k7 k5 k6 k0)) ?_
        refine Rp rfl (Z39 (Y4 k7 k5 k6 k0)) ?_
        refine Rp rfl (Z3 (Y4 k7 k5 k6 k0)) ?_
        refine Gp rfl rfl (Z10 (Y4 k7 k5 k6 k0)) (Z23 (Y4 k7 k5 k6 k0)) ?_
        refine Gl rfl rfl (Z10 (Y4 k7 k5 k6 k0)) (Z29 (Y4 k7 k5 k6 k0)) ?_
        refine Gp rfl rfl (Z10 (Y4 k7 k5 k6 k0)) (Z43 (Y4 k7 k5 k6 k0)) ?_
        refine Gl rfl rfl (Z10 (Y4 k7 k5 k6 k0)) (Z29 (Y4 k7 k5 k6 k0)) ?_
        refine Gp rfl rfl (Z10 (Y4 k7 k5 k6 k0)) (Z143 (Y4 k7 k5 k6 k0)) ?_
        refine Rp rfl (Z3 (Y4 k7 k5 k6 k0)) ?_
        refine Rp rfl (Z3 (Y4 k7 k5 k6 k0)) ?_
        refine Gp rfl rfl (Z10 (Y4 k7 k5 k6 k0)) (Z3 (Y4 k7 k5 k6 k0)) ?_
        refine Gp rfl rfl (Z10 (Y4 k7 k5 k6 k0)) (Z65 (Y4 k7 k5 k6 k0)) ?_
        refine Gp rfl rfl (Z10 (Y4 k7 k5 k6 k0)) (Z3 (Y4 k7 k5 k6 k0)) ?_
        refine Gp rfl rfl (Z10 (Y4 k7 k5 k6 k0)) (Z23 (Y4 k7 k5 k6 k0)) ?_
        refine Gl rfl rfl (Z10 (Y4 k7 k5 k6 k0)) (Z29 (Y4 k7 k5 k6 k0)) ?_
        refine Gp rfl rfl (Z10 (Y4 k7 k5 k6 k0)) (Z3 (Y4 k7 k5 k6 k0)) ?_
        refine Gp rfl rfl (Z10 (Y4 k7 k5 k6 k0)) (Z3 (Y4 k7 k5 k6 k0)) ?_
        refine Gp rfl rfl (Z10 (Y4 k7 k5 k6 k0)) (Z87 (Y4 k7 k5 k6 k0)) ?_
        refine Gp rfl rfl (Z10 (Y4 k7 k5 k6 k0)) (Z50 (Y4 k7 k5 k6 k0)) ?_
        refine Gp rfl rfl (Z10 (Y4 k7 k5 k6 k0)) (Z144 (Y4 k7 k5 k6 k0)) ?_
        refine Gl rfl rfl (Z10 (Y4 k7 k5 k6 k0)) (Z94 (Y4 k7 k5 k6 k0)) ?_
        refine Gp rfl rfl (Z10 (Y4 k7 k5 k6 k0)) (by ((conv => lhs; simp only [evs, evm, lk_up, lk_lf, Nat.reduceEqDiff, Nat.reduceLT, reduceIte, if_true, if_false, i64, bo, u8, nilS, Bool.not_true, Bool.not_false, List.take_succ_cons, List.take_zero, List.drop_zero, List.drop_succ_cons, List.toList_toArray, Int.reduceToNat, Nat.reduceMul, Nat.reduceAdd, Nat.reduceSub, Nat.zero_add, k7, k5, k6, k0]); exact leq_f (by omega))) ?_
        refine Gp rfl rfl (Z10 (Y4 k7 k5 k6 k0)) (Z3 (Y4 k7 k5 k6 k0)) ?_
        refine Rp rfl (Z3 (Y4 k7 k5 k6 k0)) ?_
        refine RunTo.nil ?_
        refine Ev.condF (Z3 (Y4 k7 k5 k6 k0)) ?_
        refine Ev.skip ?_
        refine Ev.rg [0, 1] ?_
        refine Rp rfl (Z36 (Y4 k7 k5 k6 k0)) ?_
        refine Rp rfl (Z3 (Y4 k7 k5 k6 k0)) ?_
        refine RunTo.nil ?_
        refine ⟨(l1 ++ [r], l2), ⟨by simp, _, _, _, _, rfl, hI3, by simp; omega, ?_, ?_, ?_, ?_⟩, by simp⟩
        · rw [e]
          exact (Z3 (Y4 k7 k5 k6 k0))
        · exact (Z3 (Y4 k7 k5 k6 k0))
        · exact (Z3 (Y4 k7 k5 k6 k0))
        · rw [hcons]
          exact (Z3 (Y4 k7 k5 k6 k0))
  all_goals ((conv => lhs; simp only [evs, evm, lk_up, lk_lf, Nat.reduceEqDiff, Nat.reduceLT, reduceIte, if_true, if_false, i64, bo, u8, nilS, Bool.not_true, Bool.not_false, List.take_succ_cons, List.take_zero, List.drop_zero, List.drop_succ_cons, List.toList_toArray, Int.reduceToNat, Nat.reduceMul, Nat.reduceAdd, Nat.reduceSub, Nat.zero_add]); first | done | exact rfl)
end
end Go.Eng
end
section
set_option linter.unusedVariables false
set_option linter.unusedSimpArgs false
set_option maxRecDepth 100000
set_option maxHeartbeats 4000000
namespace Go.Eng
open Go Go.RowKit Go.Proofs
section
variable (p : Poly) (T : List (Nat × (List AV → Option AV)))
theorem w32 (h : (envL p T).sp 32 = none) (h104 : (envL p T).sp 104 = some (treeSp F104)) (h107 : (envL p T).sp 107 = some (treeSp F107)) (x : Pc) (c : Option Nat) (hx : x.Ok) : CallTo (envL p T) 32 [i64 6, x.v 1 false c] Hp.empty fun v hp' => frz true hp' 20 v = some (.tup [byV true x.enc none, i64 0]) := by
  have hI := IsH.empty
  have hm := hx.most
  have hp := Pc.pos hx
  have hq : ∀ f, F104 [i64 6, x.v 1 false f] = some (bo true) := fun f => F104_eq hx (by decide) (by decide)
  obtain ⟨off, last, bs⟩ := x
  unfold Pc.enc
  unfold Pc.v pcV Pc.part at *
  simp only at hm hp hq ⊢
  by_cases h0 : off = 0
  · subst h0
    simp only [beq_self_eq_true, if_true] at hq ⊢
    cases last with
    | true =>
      simp only [partF, if_true] at hq ⊢
      unfold byV at *
      refine CallTo.body (c := (Tryz.f32.body.getD .skip)) (nt := 47) (rs := #[.tmp 4, .tmp 5]) (by assumption) (by kernel_rfl) ⟨by simp, by decide⟩ ?_
      show Ev _ (Code.seq _ _) _ _
      simp only [tmOf_cons, tmOf_nil, i64, bo, u8, nilS, Nat.zero_add, Nat.reduceAdd]
      refine Ev.seq ?_
      refine Ev.rg [0, 1, 2] ?_
      refine RunTo.freeM rfl (RunOn.madeL (k := 0) hI rfl rfl (by decide) rfl Z15 Z5 ?_)
      intro hp1 hI1
      simp only [List.cons_append, List.nil_append, evc, repA, Eng.setMany, List.set_cons_zero, List.set_cons_succ, Nat.zero_mul, Nat.one_mul, List.take_succ_cons, List.take_zero, List.drop_zero, List.drop_succ_cons, Nat.zero_add, Nat.reduceAdd, Nat.reduceMul] at hI1
      refine Rp rfl Z1 ?_
      refine Rp rfl Z1 ?_
      refine RunTo.nil ?_
      refine Ev.seq ?_
      refine Ev.seq ?_
      refine Ev.rg [0, 1, 2, 3] ?_
      refine Rp rfl Z1 ?_
      refine Rl rfl Z14 ?_
      refine RunTo.freeM rfl (RunOn.tree rfl rfl (by decide) Z1 Z1 (by assumption) Z8 (by exact hq _) ?_)
      refine Rp rfl Z16 ?_
      refine RunTo.nil ?_
      refine Ev.condF Z1 ?_
      refine Ev.skip ?_
      refine Ev.seq ?_
      refine Ev.rg [0, 1, 2, 3, 4, 5, 6, 7, 8, 9, 10, 11] ?_
      refine Rp rfl Z24 ?_
      refine Rl rfl Z7 ?_
      refine Rp rfl Z127 ?_
      refine Rp rfl Z89 ?_
      refine Rp rfl Z17 ?_
      refine Rl rfl Z7 ?_
      refine Rp rfl Z57 ?_
      refine Rp rfl Z89 ?_
      refine Rp rfl Z11 ?_
      refine Rl rfl Z7 ?_
      refine Rp rfl Z89 ?_
      refine Rp rfl Z1 ?_
      refine RunTo.nil ?_
      refine Ev.seq ?_
      refine Ev.rg [0, 1, 2, 3, 4, 5, 6] ?_
      refine Rp rfl Z1 ?_
      refine Rp rfl (by ((conv => lhs; simp only [evs, evm, lk_up, lk_lf, Nat.reduceEqDiff, Nat.reduceLT, reduceIte, if_true, if_false, i64, bo, u8, nilS, Bool.not_true, Bool.not_false, List.take_succ_cons, List.take_zero, List.drop_zero, List.drop_succ_cons, List.toList_toArray, Int.reduceToNat, Nat.reduceMul, Nat.reduceAdd, Nat.reduceSub, Nat.zero_add]); exact bin_is (v := .sc (.int .i64 (192))) (by kernel_rfl))) ?_
      refine Rp rfl (by ((conv => lhs; simp only [evs, evm, lk_up, lk_lf, Nat.reduceEqDiff, Nat.reduceLT, reduceIte, if_true, if_false, i64, bo, u8, nilS, Bool.not_true, Bool.not_false, List.take_succ_cons, List.take_zero, List.drop_zero, List.drop_succ_cons, List.toList_toArray, Int.reduceToNat, Nat.reduceMul, Nat.reduceAdd, Nat.reduceSub, Nat.zero_add]); exact cv_is (w := .sc (.int .u8 (192))) (by kernel_rfl))) ?_
      refine Rp rfl Z1 ?_
      refine Rp rfl (by ((conv => lhs; simp only [evs, evm, lk_up, lk_lf, Nat.reduceEqDiff, Nat.reduceLT, reduceIte, if_true, if_false, i64, bo, u8, nilS, Bool.not_true, Bool.not_false, List.take_succ_cons, List.take_zero, List.drop_zero, List.drop_succ_cons, List.toList_toArray, Int.reduceToNat, Nat.reduceMul, Nat.reduceAdd, Nat.reduceSub, Nat.zero_add]); exact cv_is (w := .sc (.int .u8 (0))) (by kernel_rfl))) ?_
      refine RunTo.freeM rfl (RunOn.madeL (k := 1) hI1 rfl rfl (by decide) rfl Z79 Z5 ?_)
      intro hp2 hI2
      simp only [List.cons_append, List.nil_append, evc, repA, Eng.setMany, List.set_cons_zero, List.set_cons_succ, Nat.zero_mul, Nat.one_mul, List.take_succ_cons, List.take_zero, List.drop_zero, List.drop_succ_cons, Nat.zero_add, Nat.reduceAdd, Nat.reduceMul] at hI2
      refine Rp rfl Z1 ?_
      refine RunTo.nil ?_
      refine Ev.seq ?_
      refine Ev.seq ?_
      refine Ev.rg [0, 1, 2, 3] ?_
      refine Rp rfl Z17 ?_
      refine Rl rfl Z7 ?_
      refine RunTo.freeM rfl (RunOn.tree rfl rfl (by decide) Z1 Z1 (by assumption) Z8 Z68 ?_)
      refine Rp rfl Z16 ?_
      refine RunTo.nil ?_
      refine Ev.condF Z1 ?_
      refine Ev.skip ?_
      refine Ev.seq ?_
      refine Ev.rg [0, 1, 2, 3, 4, 5] ?_
      refine Rp rfl Z1 ?_
      refine Rp rfl Z12 ?_
      refine Rl rfl Z7 ?_
      refine RunTo.freeM rfl (RunOn.appL (n := 1) hI2 rfl rfl (by decide) rfl rfl rfl (by kernel_rfl) (by kernel_rfl) Z1 Z1 (by exact src_ro (by rw [byC_len]; omega)) (by exact appL_full (k := 2) rfl rfl (by simp) (by omega) Z41 (by omega) (by decide)) ?_)
      intro hp3 hI3
      simp only [List.cons_append, List.nil_append] at hI3
      refine Rp rfl Z1 ?_
      refine Rp rfl Z1 ?_
      refine RunTo.nil ?_
      refine Ev.ret ⟨.inr rfl, _, res2, ?_⟩
      simp only [lk_up, lk_lf, Nat.reduceEqDiff, Nat.reduceLT, reduceIte, if_true, if_false, Nat.zero_add, i64, bo, u8, nilS, List.take_succ_cons, List.take_zero, List.drop_zero, List.drop_succ_cons]
      refine frz_tup (allO_cons (frz_slby (hI3.wlSet _) (by rfl) ?_ ?_) (allO_cons frz_sc allO_nil))
      · simp [byC, u8]
      · simp; omega
    | false =>
      simp only [partF, if_true, if_false, Bool.false_eq_true, reduceIte] at hq ⊢
      unfold byV at *
      refine CallTo.body (c := (Tryz.f32.body.getD .skip)) (nt := 47) (rs := #[.tmp 4, .tmp 5]) (by assumption) (by kernel_rfl) ⟨by simp, by decide⟩ ?_
      show Ev _ (Code.seq _ _) _ _
      simp only [tmOf_cons, tmOf_nil, i64, bo, u8, nilS, Nat.zero_add, Nat.reduceAdd]
      refine Ev.seq ?_
      refine Ev.rg [0, 1, 2] ?_
      refine RunTo.freeM rfl (RunOn.madeL (k := 0) hI rfl rfl (by decide) rfl Z15 Z5 ?_)
      intro hp1 hI1
      simp only [List.cons_append, List.nil_append, evc, repA, Eng.setMany, List.set_cons_zero, List.set_cons_succ, Nat.zero_mul, Nat.one_mul, List.take_succ_cons, List.take_zero, List.drop_zero, List.drop_succ_cons, Nat.zero_add, Nat.reduceAdd, Nat.reduceMul] at hI1
      refine Rp rfl Z1 ?_
      refine Rp rfl Z1 ?_
      refine RunTo.nil ?_
      refine Ev.seq ?_
      refine Ev.seq ?_
      refine Ev.rg [0, 1, 2, 3] ?_
      refine Rp rfl Z1 ?_
      refine Rl rfl Z14 ?_
      refine RunTo.freeM rfl (RunOn.tree rfl rfl (by decide) Z1 Z1 (by assumption) Z8 (by exact hq _) ?_)
      refine Rp rfl Z16 ?_
      refine RunTo.nil ?_
      refine Ev.condF Z1 ?_
      refine Ev.skip ?_
      refine Ev.seq ?_
      refine Ev.rg [0, 1, 2, 3, 4, 5, 6, 7, 8, 9, 10, 11] ?_
      refine Rp rfl Z24 ?_
      refine Rl rfl Z7 ?_
      refine Rp rfl Z127 ?_
      refine Rp rfl Z89 ?_
      refine Rp rfl Z17 ?_
      refine Rl rfl Z7 ?_
      refine Rp rfl (by ((conv => lhs; simp only [evs, evm, lk_up, lk_lf, Nat.reduceEqDiff, Nat.reduceLT, reduceIte, if_true, if_false, i64, bo, u8, nilS, Bool.not_true, Bool.not_false, List.take_succ_cons, List.take_zero, List.drop_zero, List.drop_succ_cons, List.toList_toArray, Int.reduceToNat, Nat.reduceMul, Nat.reduceAdd, Nat.reduceSub, Nat.zero_add]); exact bin_is (v := .sc (.int .i64 (4096))) (by kernel_rfl))) ?_
      refine Rp rfl Z128 ?_
      refine Rp rfl Z11 ?_
      refine Rl rfl Z7 ?_
      refine Rp rfl Z128 ?_
      refine Rp rfl Z1 ?_
      refine RunTo.nil ?_
      refine Ev.seq ?_
      refine Ev.rg [0, 1, 2, 3, 4, 5, 6] ?_
      refine Rp rfl Z1 ?_
      refine Rp rfl (by ((conv => lhs; simp only [evs, evm, lk_up, lk_lf, Nat.reduceEqDiff, Nat.reduceLT, reduceIte, if_true, if_false, i64, bo, u8, nilS, Bool.not_true, Bool.not_false, List.take_succ_cons, List.take_zero, List.drop_zero, List.drop_succ_cons, List.toList_toArray, Int.reduceToNat, Nat.reduceMul, Nat.reduceAdd, Nat.reduceSub, Nat.zero_add]); exact bin_is (v := .sc (.int .i64 (208))) (by kernel_rfl))) ?_
      refine Rp rfl (by ((conv => lhs; simp only [evs, evm, lk_up, lk_lf, Nat.reduceEqDiff, Nat.reduceLT, reduceIte, if_true, if_false, i64, bo, u8, nilS, Bool.not_true, Bool.not_false, List.take_succ_cons, List.take_zero, List.drop_zero, List.drop_succ_cons, List.toList_toArray, Int.reduceToNat, Nat.reduceMul, Nat.reduceAdd, Nat.reduceSub, Nat.zero_add]); exact cv_is (w := .sc (.int .u8 (208))) (by kernel_rfl))) ?_
      refine Rp rfl Z1 ?_
      refine Rp rfl (by ((conv => lhs; simp only [evs, evm, lk_up, lk_lf, Nat.reduceEqDiff, Nat.reduceLT, reduceIte, if_true, if_false, i64, bo, u8, nilS, Bool.not_true, Bool.not_false, List.take_succ_cons, List.take_zero, List.drop_zero, List.drop_succ_cons, List.toList_toArray, Int.reduceToNat, Nat.reduceMul, Nat.reduceAdd, Nat.reduceSub, Nat.zero_add]); exact cv_is (w := .sc (.int .u8 (0))) (by kernel_rfl))) ?_
      refine RunTo.freeM rfl (RunOn.madeL (k := 1) hI1 rfl rfl (by decide) rfl Z79 Z5 ?_)
      intro hp2 hI2
      simp only [List.cons_append, List.nil_append, evc, repA, Eng.setMany, List.set_cons_zero, List.set_cons_succ, Nat.zero_mul, Nat.one_mul, List.take_succ_cons, List.take_zero, List.drop_zero, List.drop_succ_cons, Nat.zero_add, Nat.reduceAdd, Nat.reduceMul] at hI2
      refine Rp rfl Z1 ?_
      refine RunTo.nil ?_
      refine Ev.seq ?_
      refine Ev.seq ?_
      refine Ev.rg [0, 1, 2, 3] ?_
      refine Rp rfl Z17 ?_
      refine Rl rfl Z7 ?_
      refine RunTo.freeM rfl (RunOn.tree rfl rfl (by decide) Z1 Z1 (by assumption) Z8 Z68 ?_)
      refine Rp rfl Z16 ?_
      refine RunTo.nil ?_
      refine Ev.condF Z1 ?_
      refine Ev.skip ?_
      refine Ev.seq ?_
      refine Ev.rg [0, 1, 2, 3, 4, 5] ?_
      refine Rp rfl Z1 ?_
      refine Rp rfl Z12 ?_
      refine Rl rfl Z7 ?_
      refine RunTo.freeM rfl (RunOn.appL (n := 1) hI2 rfl rfl (by decide) rfl rfl rfl (by kernel_rfl) (by kernel_rfl) Z1 Z1 (by exact src_ro (by rw [byC_len]; omega)) (by exact appL_full (k := 2) rfl rfl (by simp) (by omega) Z41 (by omega) (by decide)) ?_)
      intro hp3 hI3
      simp only [List.cons_append, List.nil_append] at hI3
      refine Rp rfl Z1 ?_
      refine Rp rfl Z1 ?_
      refine RunTo.nil ?_
      refine Ev.ret ⟨.inr rfl, _, res2, ?_⟩
      simp only [lk_up, lk_lf, Nat.reduceEqDiff, Nat.reduceLT, reduceIte, if_true, if_false, Nat.zero_add, i64, bo, u8, nilS, List.take_succ_cons, List.take_zero, List.drop_zero, List.drop_succ_cons]
      refine frz_tup (allO_cons (frz_slby (hI3.wlSet _) (by rfl) ?_ ?_) (allO_cons frz_sc allO_nil))
      · simp [byC, u8]
      · simp; omega
  · have hb : (off == 0) = false := beq_eq_false_iff_ne.2 h0
    simp only [hb] at hq ⊢
    cases last with
    | true =>
      simp only [partF, if_true, if_false, Bool.false_eq_true, reduceIte] at hq ⊢
      unfold byV at *
      refine CallTo.body (c := (Tryz.f32.body.getD .skip)) (nt := 47) (rs := #[.tmp 4, .tmp 5]) (by assumption) (by kernel_rfl) ⟨by simp, by decide⟩ ?_
      show Ev _ (Code.seq _ _) _ _
      simp only [tmOf_cons, tmOf_nil, i64, bo, u8, nilS, Nat.zero_add, Nat.reduceAdd]
      refine Ev.seq ?_
      refine Ev.rg [0, 1, 2] ?_
      refine RunTo.freeM rfl (RunOn.madeL (k := 0) hI rfl rfl (by decide) rfl Z15 Z5 ?_)
      intro hp1 hI1
      simp only [List.cons_append, List.nil_append, evc, repA, Eng.setMany, List.set_cons_zero, List.set_cons_succ, Nat.zero_mul, Nat.one_mul, List.take_succ_cons, List.take_zero, List.drop_zero, List.drop_succ_cons, Nat.zero_add, Nat.reduceAdd, Nat.reduceMul] at hI1
      refine Rp rfl Z1 ?_
      refine Rp rfl Z1 ?_
      refine RunTo.nil ?_
      refine Ev.seq ?_
      refine Ev.seq ?_
      refine Ev.rg [0, 1, 2, 3] ?_
      refine Rp rfl Z1 ?_
      refine Rl rfl Z14 ?_
      refine RunTo.freeM rfl (RunOn.tree rfl rfl (by decide) Z1 Z1 (by assumption) Z8 (by exact hq _) ?_)
      refine Rp rfl Z16 ?_
      refine RunTo.nil ?_
      refine Ev.condF Z1 ?_
      refine Ev.skip ?_
      refine Ev.seq ?_
      refine Ev.rg [0, 1, 2, 3, 4, 5, 6, 7, 8, 9, 10, 11] ?_
      refine Rp rfl Z24 ?_
      refine Rl rfl Z7 ?_
      refine Rp rfl Z127 ?_
      refine Rp rfl Z89 ?_
      refine Rp rfl Z17 ?_
      refine Rl rfl Z7 ?_
      refine Rp rfl (by ((conv => lhs; simp only [evs, evm, lk_up, lk_lf, Nat.reduceEqDiff, Nat.reduceLT, reduceIte, if_true, if_false, i64, bo, u8, nilS, Bool.not_true, Bool.not_false, List.take_succ_cons, List.take_zero, List.drop_zero, List.drop_succ_cons, List.toList_toArray, Int.reduceToNat, Nat.reduceMul, Nat.reduceAdd, Nat.reduceSub, Nat.zero_add]); exact bin_is (v := .sc (.int .i64 (8192))) (by kernel_rfl))) ?_
      refine Rp rfl Z129 ?_
      refine Rp rfl Z11 ?_
      refine Rl rfl Z7 ?_
      refine Rp rfl Z129 ?_
      refine Rp rfl Z1 ?_
      refine RunTo.nil ?_
      refine Ev.seq ?_
      refine Ev.rg [0, 1, 2, 3, 4, 5, 6] ?_
      refine Rp rfl Z1 ?_
      refine Rp rfl (by ((conv => lhs; simp only [evs, evm, lk_up, lk_lf, Nat.reduceEqDiff, Nat.reduceLT, reduceIte, if_true, if_false, i64, bo, u8, nilS, Bool.not_true, Bool.not_false, List.take_succ_cons, List.take_zero, List.drop_zero, List.drop_succ_cons, List.toList_toArray, Int.reduceToNat, Nat.reduceMul, Nat.reduceAdd, Nat.reduceSub, Nat.zero_add]); exact bin_is (v := .sc (.int .i64 (224))) (by kernel_rfl))) ?_
      refine Rp rfl (by ((conv => lhs; simp only [evs, evm, lk_up, lk_lf, Nat.reduceEqDiff, Nat.reduceLT, reduceIte, if_true, if_false, i64, bo, u8, nilS, Bool.not_true, Bool.not_false, List.take_succ_cons, List.take_zero, List.drop_zero, List.drop_succ_cons, List.toList_toArray, Int.reduceToNat, Nat.reduceMul, Nat.reduceAdd, Nat.reduceSub, Nat.zero_add]); exact cv_is (w := .sc (.int .u8 (224))) (by kernel_rfl))) ?_
      refine Rp rfl Z1 ?_
      refine Rp rfl (by ((conv => lhs; simp only [evs, evm, lk_up, lk_lf, Nat.reduceEqDiff, Nat.reduceLT, reduceIte, if_true, if_false, i64, bo, u8, nilS, Bool.not_true, Bool.not_false, List.take_succ_cons, List.take_zero, List.drop_zero, List.drop_succ_cons, List.toList_toArray, Int.reduceToNat, Nat.reduceMul, Nat.reduceAdd, Nat.reduceSub, Nat.zero_add]); exact cv_is (w := .sc (.int .u8 (0))) (by kernel_rfl))) ?_
      refine RunTo.freeM rfl (RunOn.madeL (k := 1) hI1 rfl rfl (by decide) rfl Z79 Z5 ?_)
      intro hp2 hI2
      simp only [List.cons_append, List.nil_append, evc, repA, Eng.setMany, List.set_cons_zero, List.set_cons_succ, Nat.zero_mul, Nat.one_mul, List.take_succ_cons, List.take_zero, List.drop_zero, List.drop_succ_cons, Nat.zero_add, Nat.reduceAdd, Nat.reduceMul] at hI2
      refine Rp rfl Z1 ?_
      refine RunTo.nil ?_
      refine Ev.seq ?_
      refine Ev.seq ?_
      refine Ev.rg [0, 1, 2, 3] ?_
      refine Rp rfl Z17 ?_
      refine Rl rfl Z7 ?_
      refine RunTo.freeM rfl (RunOn.tree rfl rfl (by decide) Z1 Z1 (by assumption) Z8 Z68 ?_)
      refine Rp rfl Z16 ?_
      refine RunTo.nil ?_
      refine Ev.condT Z1 ?_
      refine Ev.rg [0, 1, 2, 3, 4, 5, 6, 7, 8, 9, 10] ?_
      refine Rp rfl Z1 ?_
      refine Rp rfl Z19 ?_
      refine Rl rfl Z7 ?_
      refine Rp rfl (by ((conv => lhs; simp only [evs, evm, lk_up, lk_lf, Nat.reduceEqDiff, Nat.reduceLT, reduceIte, if_true, if_false, i64, bo, u8, nilS, Bool.not_true, Bool.not_false, List.take_succ_cons, List.take_zero, List.drop_zero, List.drop_succ_cons, List.toList_toArray, Int.reduceToNat, Nat.reduceMul, Nat.reduceAdd, Nat.reduceSub, Nat.zero_add]); exact shr8 (by omega) (by omega))) ?_
      refine Rp rfl (by ((conv => lhs; simp only [evs, evm, lk_up, lk_lf, Nat.reduceEqDiff, Nat.reduceLT, reduceIte, if_true, if_false, i64, bo, u8, nilS, Bool.not_true, Bool.not_false, List.take_succ_cons, List.take_zero, List.drop_zero, List.drop_succ_cons, List.toList_toArray, Int.reduceToNat, Nat.reduceMul, Nat.reduceAdd, Nat.reduceSub, Nat.zero_add]); exact cv_is (w := .sc (.int .u8 (0))) (by kernel_rfl))) ?_
      refine Rp rfl Z19 ?_
      refine Rl rfl Z7 ?_
      refine Rp rfl Z138 ?_
      refine RunTo.freeM rfl (RunOn.madeL (k := 2) hI2 rfl rfl (by decide) rfl Z79 Z5 ?_)
      intro hp3 hI3
      simp only [List.cons_append, List.nil_append, evc, repA, Eng.setMany, List.set_cons_zero, List.set_cons_succ, Nat.zero_mul, Nat.one_mul, List.take_succ_cons, List.take_zero, List.drop_zero, List.drop_succ_cons, Nat.zero_add, Nat.reduceAdd, Nat.reduceMul] at hI3
      refine RunTo.freeM rfl (RunOn.appL (n := 1) hI3 rfl rfl (by decide) rfl rfl rfl (by kernel_rfl) (by kernel_rfl) Z1 Z1 Z148 (by exact appL_full (k := 3) rfl rfl (by simp) (by decide) (by decide) (by decide) (by decide)) ?_)
      intro hp4 hI4
      simp only [List.cons_append, List.nil_append] at hI4
      refine Rp rfl Z1 ?_
      refine RunTo.nil ?_
      refine Ev.seq ?_
      refine Ev.rg [0, 1, 2, 3, 4, 5] ?_
      refine Rp rfl Z1 ?_
      refine Rp rfl Z12 ?_
      refine Rl rfl Z7 ?_
      refine RunTo.freeM rfl (RunOn.appL (n := 1) hI4 rfl rfl (by decide) rfl rfl rfl (by kernel_rfl) (by kernel_rfl) Z1 Z1 (by exact src_ro (by rw [byC_len]; omega)) (by exact appL_grow (k := 4) rfl rfl (by simp) (by decide) Z41 (by omega) (by simp [byC, List.all_eq_true, AV.one, u8]) (by decide)) ?_)
      intro hp5 hI5
      simp only [List.cons_append, List.nil_append] at hI5
      refine Rp rfl Z1 ?_
      refine Rp rfl Z1 ?_
      refine RunTo.nil ?_
      refine Ev.ret ⟨.inr rfl, _, res2, ?_⟩
      simp only [lk_up, lk_lf, Nat.reduceEqDiff, Nat.reduceLT, reduceIte, if_true, if_false, Nat.zero_add, i64, bo, u8, nilS, List.take_succ_cons, List.take_zero, List.drop_zero, List.drop_succ_cons]
      refine frz_tup (allO_cons (frz_slby (hI5.wlSet _) (by rfl) ?_ ?_) (allO_cons frz_sc allO_nil))
      · simp [byC, u8]
      · simp; omega
    | false =>
      simp only [partF, if_true, if_false, Bool.false_eq_true, reduceIte] at hq ⊢
      unfold byV at *
      refine CallTo.body (c := (Tryz.f32.body.getD .skip)) (nt := 47) (rs := #[.tmp 4, .tmp 5]) (by assumption) (by kernel_rfl) ⟨by simp, by decide⟩ ?_
      show Ev _ (Code.seq _ _) _ _
      simp only [tmOf_cons, tmOf_nil, i64, bo, u8, nilS, Nat.zero_add, Nat.reduceAdd]
      refine Ev.seq ?_
      refine Ev.rg [0, 1, 2] ?_
      refine RunTo.freeM rfl (RunOn.madeL (k := 0) hI rfl rfl (by decide) rfl Z15 Z5 ?_)
      intro hp1 hI1
      simp only [List.cons_append, List.nil_append, evc, repA, Eng.setMany, List.set_cons_zero, List.set_cons_succ, Nat.zero_mul, Nat.one_mul, List.take_succ_cons, List.take_zero, List.drop_zero, List.drop_succ_cons, Nat.zero_add, Nat.reduceAdd, Nat.reduceMul] at hI1
      refine Rp rfl Z1 ?_
      refine Rp rfl Z1 ?_
      refine RunTo.nil ?_
      refine Ev.seq ?_
      refine Ev.seq ?_
      refine Ev.rg [0, 1, 2, 3] ?_
      refine Rp rfl Z1 ?_
      refine Rl rfl Z14 ?_
      refine RunTo.freeM rfl (RunOn.tree rfl rfl (by decide) Z1 Z1 (by assumption) Z8 (by exact hq _) ?_)
      refine Rp rfl Z16 ?_
      refine RunTo.nil ?_
      refine Ev.condF Z1 ?_
      refine Ev.skip ?_
      refine Ev.seq ?_
      refine Ev.rg [0, 1, 2, 3, 4, 5, 6, 7, 8, 9, 10, 11] ?_
      refine Rp rfl Z24 ?_
      refine Rl rfl Z7 ?_
      refine Rp rfl Z127 ?_
      refine Rp rfl Z89 ?_
      refine Rp rfl Z17 ?_
      refine Rl rfl Z7 ?_
      refine Rp rfl (by ((conv => lhs; simp only [evs, evm, lk_up, lk_lf, Nat.reduceEqDiff, Nat.reduceLT, reduceIte, if_true, if_false, i64, bo, u8, nilS, Bool.not_true, Bool.not_false, List.take_succ_cons, List.take_zero, List.drop_zero, List.drop_succ_cons, List.toList_toArray, Int.reduceToNat, Nat.reduceMul, Nat.reduceAdd, Nat.reduceSub, Nat.zero_add]); exact bin_is (v := .sc (.int .i64 (12288))) (by kernel_rfl))) ?_
      refine Rp rfl Z130 ?_
      refine Rp rfl Z11 ?_
      refine Rl rfl Z7 ?_
      refine Rp rfl Z130 ?_
      refine Rp rfl Z1 ?_
      refine RunTo.nil ?_
      refine Ev.seq ?_
      refine Ev.rg [0, 1, 2, 3, 4, 5, 6] ?_
      refine Rp rfl Z1 ?_
      refine Rp rfl (by ((conv => lhs; simp only [evs, evm, lk_up, lk_lf, Nat.reduceEqDiff, Nat.reduceLT, reduceIte, if_true, if_false, i64, bo, u8, nilS, Bool.not_true, Bool.not_false, List.take_succ_cons, List.take_zero, List.drop_zero, List.drop_succ_cons, List.toList_toArray, Int.reduceToNat, Nat.reduceMul, Nat.reduceAdd, Nat.reduceSub, Nat.zero_add]); exact bin_is (v := .sc (.int .i64 (240))) (by kernel_rfl))) ?_
      refine Rp rfl (by ((conv => lhs; simp only [evs, evm, lk_up, lk_lf, Nat.reduceEqDiff, Nat.reduceLT, reduceIte, if_true, if_false, i64, bo, u8, nilS, Bool.not_true, Bool.not_false, List.take_succ_cons, List.take_zero, List.drop_zero, List.drop_succ_cons, List.toList_toArray, Int.reduceToNat, Nat.reduceMul, Nat.reduceAdd, Nat.reduceSub, Nat.zero_add]); exact cv_is (w := .sc (.int .u8 (240))) (by kernel_rfl))) ?_
      refine Rp rfl Z1 ?_
      refine Rp rfl (by ((conv => lhs; simp only [evs, evm, lk_up, lk_lf, Nat.reduceEqDiff, Nat.reduceLT, reduceIte, if_true, if_false, i64, bo, u8, nilS, Bool.not_true, Bool.not_false, List.take_succ_cons, List.take_zero, List.drop_zero, List.drop_succ_cons, List.toList_toArray, Int.reduceToNat, Nat.reduceMul, Nat.reduceAdd, Nat.reduceSub, Nat.zero_add]); exact cv_is (w := .sc (.int .u8 (0))) (by kernel_rfl))) ?_
      refine RunTo.freeM rfl (RunOn.madeL (k := 1) hI1 rfl rfl (by decide) rfl Z79 Z5 ?_)
      intro hp2 hI2
      simp only [List.cons_append, List.nil_append, evc, repA, Eng.setMany, List.set_cons_zero, List.set_cons_succ, Nat.zero_mul, Nat.one_mul, List.take_succ_cons, List.take_zero, List.drop_zero, List.drop_succ_cons, Nat.zero_add, Nat.reduceAdd, Nat.reduceMul] at hI2
      refine Rp rfl Z1 ?_
      refine RunTo.nil ?_
      refine Ev.seq ?_
      refine Ev.seq ?_
      refine Ev.rg [0, 1, 2, 3] ?_
      refine Rp rfl Z17 ?_
      refine Rl rfl Z7 ?_
      refine RunTo.freeM rfl (RunOn.tree rfl rfl (by decide) Z1 Z1 (by assumption) Z8 Z68 ?_)
      refine Rp rfl Z16 ?_
      refine RunTo.nil ?_
      refine Ev.condT Z1 ?_
      refine Ev.rg [0, 1, 2, 3, 4, 5, 6, 7, 8, 9, 10] ?_
      refine Rp rfl Z1 ?_
      refine Rp rfl Z19 ?_
      refine Rl rfl Z7 ?_
      refine Rp rfl (by ((conv => lhs; simp only [evs, evm, lk_up, lk_lf, Nat.reduceEqDiff, Nat.reduceLT, reduceIte, if_true, if_false, i64, bo, u8, nilS, Bool.not_true, Bool.not_false, List.take_succ_cons, List.take_zero, List.drop_zero, List.drop_succ_cons, List.toList_toArray, Int.reduceToNat, Nat.reduceMul, Nat.reduceAdd, Nat.reduceSub, Nat.zero_add]); exact shr8 (by omega) (by omega))) ?_
      refine Rp rfl (by ((conv => lhs; simp only [evs, evm, lk_up, lk_lf, Nat.reduceEqDiff, Nat.reduceLT, reduceIte, if_true, if_false, i64, bo, u8, nilS, Bool.not_true, Bool.not_false, List.take_succ_cons, List.take_zero, List.drop_zero, List.drop_succ_cons, List.toList_toArray, Int.reduceToNat, Nat.reduceMul, Nat.reduceAdd, Nat.reduceSub, Nat.zero_add]); exact cv_is (w := .sc (.int .u8 (0))) (by kernel_rfl))) ?_
      refine Rp rfl Z19 ?_
      refine Rl rfl Z7 ?_
      refine Rp rfl Z138 ?_
      refine RunTo.freeM rfl (RunOn.madeL (k := 2) hI2 rfl rfl (by decide) rfl Z79 Z5 ?_)
      intro hp3 hI3
      simp only [List.cons_append, List.nil_append, evc, repA, Eng.setMany, List.set_cons_zero, List.set_cons_succ, Nat.zero_mul, Nat.one_mul, List.take_succ_cons, List.take_zero, List.drop_zero, List.drop_succ_cons, Nat.zero_add, Nat.reduceAdd, Nat.reduceMul] at hI3
      refine RunTo.freeM rfl (RunOn.appL (n := 1) hI3 rfl rfl (by decide) rfl rfl rfl (by kernel_rfl) (by kernel_rfl) Z1 Z1 Z148 (by exact appL_full (k := 3) rfl rfl (by simp) (by decide) (by decide) (by decide) (by decide)) ?_)
      intro hp4 hI4
      simp only [List.cons_append, List.nil_append] at hI4
      refine Rp rfl Z1 ?_
      refine RunTo.nil ?_
      refine Ev.seq ?_
      refine Ev.rg [0, 1, 2, 3, 4, 5] ?_
      refine Rp rfl Z1 ?_
      refine Rp rfl Z12 ?_
      refine Rl rfl Z7 ?_
      refine RunTo.freeM rfl (RunOn.appL (n := 1) hI4 rfl rfl (by decide) rfl rfl rfl (by kernel_rfl) (by kernel_rfl) Z1 Z1 (by exact src_ro (by rw [byC_len]; omega)) (by exact appL_grow (k := 4) rfl rfl (by simp) (by decide) Z41 (by omega) (by simp [byC, List.all_eq_true, AV.one, u8]) (by decide)) ?_)
      intro hp5 hI5
      simp only [List.cons_append, List.nil_append] at hI5
      refine Rp rfl Z1 ?_
      refine Rp rfl Z1 ?_
      refine RunTo.nil ?_
      refine Ev.ret ⟨.inr rfl, _, res2, ?_⟩
      simp only [lk_up, lk_lf, Nat.reduceEqDiff, Nat.reduceLT, reduceIte, if_true, if_false, Nat.zero_add, i64, bo, u8, nilS, List.take_succ_cons, List.take_zero, List.drop_zero, List.drop_succ_cons]
      refine frz_tup (allO_cons (frz_slby (hI5.wlSet _) (by rfl) ?_ ?_) (allO_cons frz_sc allO_nil))
      · simp [byC, u8]
      · simp; omega
end
end Go.Eng
end
section
set_option linter.unusedVariables false
set_option linter.unusedSimpArgs false
set_option maxRecDepth 100000
set_option maxHeartbeats 4000000
namespace Go.Eng
open Go Go.RowKit Go.Proofs
section
variable (p : Poly) (T : List (Nat × (List AV → Option AV)))
theorem w110 (h : (envL p T).sp 110 = none) (h84 : (envL p T).sp 84 = some (treeSp F84)) (h103 : (envL p T).sp 103 = some (treeSp F103)) (h104 : (envL p T).sp 104 = some (treeSp F104)) (h105 : (envL p T).sp 105 = some (treeSp F105)) (x : Pc) (hx : x.Ok) : CallTo (envL p T) 110 [i64 6, byV false x.enc none] Hp.empty fun v hp' => frz true hp' 20 v = some (.tup [x.v 1 true none, i64 0]) := by
  have hI := IsH.empty
  have hm := hx.most
  have hp := Pc.pos hx
  have hne := hx.ne
  have hq : F104 [i64 6, x.v 1 false none] = some (bo true) := F104_eq hx (by decide) (by decide)
  obtain ⟨off, last, bs⟩ := x
  unfold Pc.enc
  unfold Pc.v pcV Pc.part at *
  simp only at hm hp hq hne ⊢
  by_cases h0 : off = 0
  · subst h0
    simp only [beq_self_eq_true, if_true] at hq ⊢
    cases last with
    | true =>
      simp only [partF, if_true] at hq ⊢
      have hlen : (192 :: 0 :: bs : List Nat).length = bs.length + 2 := rfl
      show CallTo _ _ [_, byV false (192 :: 0 :: bs) none] _ _
      refine CallTo.body (c := (Tryz.f110.body.getD .skip)) (nt := 75) (rs := #[.cell 4 79, .tmp 5]) (by assumption) (by kernel_rfl) ⟨by simp, by decide⟩ ?_
      show Ev _ (Code.seq _ _) _ _
      simp only [tmOf_cons, tmOf_nil, i64, bo, u8, nilS, Nat.zero_add, Nat.reduceAdd]
      refine Ev.seq ?_
      refine Ev.rg [0, 1] ?_
      refine RunTo.freeM rfl (RunOn.madeL (k := 0) hI rfl rfl (by decide) rfl Z31 Z5 ?_)
      intro hp1 hI1
      simp only [List.cons_append, List.nil_append, evc, repA, Eng.setMany, List.set_cons_zero, List.set_cons_succ, Nat.zero_mul, Nat.one_mul, List.take_succ_cons, List.take_zero, List.drop_zero, List.drop_succ_cons, Nat.zero_add, Nat.reduceAdd, Nat.reduceMul] at hI1
      refine Rp rfl Z1 ?_
      refine RunTo.nil ?_
      refine Ev.seq ?_
      refine Ev.block ?_
      refine Ev.seq ?_
      refine Ev.rg [0, 1, 2, 3] ?_
      refine Rp rfl Z1 ?_
      refine RunTo.freeM rfl (RunOn.tree rfl rfl (by decide) Z1 Z1 (by assumption) Z8 (by exact F84_eq) ?_)
      refine Rp rfl Z16 ?_
      refine Rp rfl Z1 ?_
      refine RunTo.nil ?_
      refine Ev.condF Z1 ?_
      refine Ev.seq ?_
      refine Ev.rg [0, 1, 2, 3] ?_
      refine Rp rfl Z1 ?_
      refine Rp rfl Z27 ?_
      refine Rp rfl Z18 ?_
      refine Rp rfl Z1 ?_
      refine RunTo.nil ?_
      refine Ev.condF Z1 ?_
      refine Ev.skip ?_
      refine Ev.seq ?_
      refine Ev.draw (M := [0, 1, 3, 7, 15, 0, 32, 96, 224, 511, 1023]) (l := [0, 1, 2, 3, 4, 5, 6, 7, 8, 9, 10]) (by kernel_rfl) (by kernel_rfl) (by kernel_rfl) ?_
      refine Rp rfl Z1 ?_
      refine Rp rfl Z131 ?_
      refine Rl rfl Z13 ?_
      refine Rp rfl (by ((conv => lhs; simp only [evs, evm, lk_up, lk_lf, Nat.reduceEqDiff, Nat.reduceLT, reduceIte, if_true, if_false, i64, bo, u8, nilS, Bool.not_true, Bool.not_false, List.take_succ_cons, List.take_zero, List.drop_zero, List.drop_succ_cons, List.toList_toArray, Int.reduceToNat, Nat.reduceMul, Nat.reduceAdd, Nat.reduceSub, Nat.zero_add]); exact cv_is (w := .sc (.int .i64 (192))) (by kernel_rfl))) ?_
      refine Rp rfl Z89 ?_
      refine Rp rfl Z1 ?_
      refine Rp rfl Z132 ?_
      refine Rl rfl Z13 ?_
      refine Rp rfl (by ((conv => lhs; simp only [evs, evm, lk_up, lk_lf, Nat.reduceEqDiff, Nat.reduceLT, reduceIte, if_true, if_false, i64, bo, u8, nilS, Bool.not_true, Bool.not_false, List.take_succ_cons, List.take_zero, List.drop_zero, List.drop_succ_cons, List.toList_toArray, Int.reduceToNat, Nat.reduceMul, Nat.reduceAdd, Nat.reduceSub, Nat.zero_add]); exact cv_is (w := .sc (.int .i64 (0))) (by kernel_rfl))) ?_
      refine Rp rfl Z89 ?_
      refine Rp rfl Z1 ?_
      refine RunTo.nil ?_
      refine Ev.seq ?_
      refine Ev.rg [0, 1, 2, 3, 4, 5, 6, 7, 8, 9, 10] ?_
      refine Rp rfl Z1 ?_
      refine Rp rfl Z49 ?_
      refine Rp rfl Z38 ?_
      refine Rp rfl Z1 ?_
      refine Rp rfl (by ((conv => lhs; simp only [evs, evm, lk_up, lk_lf, Nat.reduceEqDiff, Nat.reduceLT, reduceIte, if_true, if_false, i64, bo, u8, nilS, Bool.not_true, Bool.not_false, List.take_succ_cons, List.take_zero, List.drop_zero, List.drop_succ_cons, List.toList_toArray, Int.reduceToNat, Nat.reduceMul, Nat.reduceAdd, Nat.reduceSub, Nat.zero_add]); exact bin_is (v := .sc (.int .i64 (12))) (by kernel_rfl))) ?_
      refine Rp rfl Z57 ?_
      refine Rp rfl Z1 ?_
      refine Rp rfl Z57 ?_
      refine Rp rfl Z80 ?_
      refine RunTo.freeM rfl (RunOn.madeL (k := 1) hI1 rfl rfl (by decide) rfl Z31 Z5 ?_)
      intro hp2 hI2
      simp only [List.cons_append, List.nil_append, evc, repA, Eng.setMany, List.set_cons_zero, List.set_cons_succ, Nat.zero_mul, Nat.one_mul, List.take_succ_cons, List.take_zero, List.drop_zero, List.drop_succ_cons, Nat.zero_add, Nat.reduceAdd, Nat.reduceMul] at hI2
      refine RunTo.freeM rfl (RunOn.storeL (n := 5) hI2 rfl rfl Z1 Z1 (by kernel_rfl) Z6 Z6 (by rfl) Z9 Z5 ?_)
      intro hp3 hI3
      simp only [set_last, List.set_set, List.set_cons_zero, List.set_cons_succ, List.take_succ_cons, List.take_zero, List.drop_succ_cons, List.drop_zero, Eng.setMany, evc, Nat.zero_add, Nat.reduceAdd, Nat.reduceMul, Nat.reduceSub] at hI3
      refine RunTo.nil ?_
      refine Ev.seq ?_
      refine Ev.rg [0, 1, 2, 3] ?_
      refine Rp rfl Z17 ?_
      refine Rl rfl Z7 ?_
      refine RunTo.freeM rfl (RunOn.tree rfl rfl (by decide) Z1 Z1 (by assumption) Z8 Z62 ?_)
      rw [show headF 0 = 2 from rfl]
      refine Rp rfl Z1 ?_
      refine RunTo.nil ?_
      refine Ev.seq ?_
      refine Ev.seq ?_
      refine Ev.rg [0, 1, 2, 3] ?_
      refine Rp rfl Z1 ?_
      refine Rp rfl Z27 ?_
      refine Rp rfl Z1 ?_
      refine Rp rfl Z73 ?_
      refine RunTo.nil ?_
      refine Ev.condF Z1 ?_
      refine Ev.skip ?_
      refine Ev.seq ?_
      refine Ev.seq ?_
      refine Ev.rg [0, 1] ?_
      refine Rp rfl Z1 ?_
      refine Rp rfl Z45 ?_
      refine RunTo.nil ?_
      refine Ev.condF Z1 ?_
      refine Ev.skip ?_
      refine Ev.seq ?_
      refine Ev.rg [0, 1, 2, 3, 4, 5] ?_
      refine Rp rfl Z1 ?_
      refine Rp rfl Z1 ?_
      refine Rp rfl (by ((conv => lhs; simp only [evs, evm, lk_up, lk_lf, Nat.reduceEqDiff, Nat.reduceLT, reduceIte, if_true, if_false, i64, bo, u8, nilS, Bool.not_true, Bool.not_false, List.take_succ_cons, List.take_zero, List.drop_zero, List.drop_succ_cons, List.toList_toArray, Int.reduceToNat, Nat.reduceMul, Nat.reduceAdd, Nat.reduceSub, Nat.zero_add]); exact pSlice_lo Z1 Z1 (slice_by_lo (n := 2) (by kernel_rfl) (by rfl) (by first | omega | (simp; omega) | simp) (by first | assumption | (intro _ hh; cases hh))))) ?_
      refine RunTo.freeM rfl (RunOn.tree rfl rfl (by decide) Z1 Z1 (by assumption) Z8 (by exact F105_eq hne (by omega)) ?_)
      refine Rp rfl Z12 ?_
      refine RunTo.freeM rfl (RunOn.storeL (n := 1) hI3 rfl rfl Z1 Z1 (by kernel_rfl) Z6 Z6 (by rfl) Z9 Z5 ?_)
      intro hp4 hI4
      simp only [set_last, List.set_set, List.set_cons_zero, List.set_cons_succ, List.take_succ_cons, List.take_zero, List.drop_succ_cons, List.drop_zero, Eng.setMany, evc, Nat.zero_add, Nat.reduceAdd, Nat.reduceMul, Nat.reduceSub] at hI4
      refine RunTo.nil ?_
      refine Ev.seq ?_
      refine Ev.seq ?_
      refine Ev.rg [0, 1, 2, 3, 4, 5, 6, 7, 8] ?_
      refine Rp rfl Z1 ?_
      refine Rp rfl Z38 ?_
      refine Rp rfl Z45 ?_
      refine Rp rfl Z1 ?_
      refine Gp rfl rfl Z2 Z1 ?_
      refine Gl rfl rfl Z2 Z14 ?_
      refine RunTo.guardOnM rfl rfl (by decide) Z2 (RunOn.tree rfl rfl (by decide) Z1 Z1 (by assumption) Z8 (by exact hq) ?_)
      refine Gp rfl rfl Z2 Z16 ?_
      refine Rp rfl Z1 ?_
      refine RunTo.nil ?_
      refine Ev.condF Z1 ?_
      refine Ev.skip ?_
      refine Ev.seq ?_
      refine Ev.rg [0, 1, 2] ?_
      refine Rl rfl Z14 ?_
      refine RunTo.freeM rfl (RunOn.storeL (n := 5) hI4 rfl rfl Z1 Z1 (by kernel_rfl) Z6 Z6 (by rfl) Z9 Z5 ?_)
      intro hp5 hI5
      simp only [set_last, List.set_set, List.set_cons_zero, List.set_cons_succ, List.take_succ_cons, List.take_zero, List.drop_succ_cons, List.drop_zero, Eng.setMany, evc, Nat.zero_add, Nat.reduceAdd, Nat.reduceMul, Nat.reduceSub] at hI5
      refine Rp rfl Z1 ?_
      refine RunTo.nil ?_
      refine Ev.ret ⟨.inr rfl, _, resC2 Z14, ?_⟩
      simp only [lk_up, lk_lf, Nat.reduceEqDiff, Nat.reduceLT, reduceIte, if_true, if_false, Nat.zero_add, i64, bo, u8, nilS, List.take_succ_cons, List.take_zero, List.drop_zero, List.drop_succ_cons]
      repeat first | exact allO_nil | with_reducible apply allO_cons | exact frz_sc | with_reducible exact frz_by1 _ _ | with_reducible exact frz_rg1 _ _ | with_reducible exact frz_par1 _ | with_reducible apply frz_ro1 | with_reducible apply frz_agg | with_reducible apply frz_tup
    | false =>
      simp only [partF, if_true, if_false, Bool.false_eq_true, reduceIte] at hq ⊢
      have hlen : (208 :: 0 :: bs : List Nat).length = bs.length + 2 := rfl
      show CallTo _ _ [_, byV false (208 :: 0 :: bs) none] _ _
      refine CallTo.body (c := (Tryz.f110.body.getD .skip)) (nt := 75) (rs := #[.cell 4 79, .tmp 5]) (by assumption) (by kernel_rfl) ⟨by simp, by decide⟩ ?_
      show Ev _ (Code.seq _ _) _ _
      simp only [tmOf_cons, tmOf_nil, i64, bo, u8, nilS, Nat.zero_add, Nat.reduceAdd]
      refine Ev.seq ?_
      refine Ev.rg [0, 1] ?_
      refine RunTo.freeM rfl (RunOn.madeL (k := 0) hI rfl rfl (by decide) rfl Z31 Z5 ?_)
      intro hp1 hI1
      simp only [List.cons_append, List.nil_append, evc, repA, Eng.setMany, List.set_cons_zero, List.set_cons_succ, Nat.zero_mul, Nat.one_mul, List.take_succ_cons, List.take_zero, List.drop_zero, List.drop_succ_cons, Nat.zero_add, Nat.reduceAdd, Nat.reduceMul] at hI1
      refine Rp rfl Z1 ?_
      refine RunTo.nil ?_
      refine Ev.seq ?_
      refine Ev.block ?_
      refine Ev.seq ?_
      refine Ev.rg [0, 1, 2, 3] ?_
      refine Rp rfl Z1 ?_
      refine RunTo.freeM rfl (RunOn.tree rfl rfl (by decide) Z1 Z1 (by assumption) Z8 (by exact F84_eq) ?_)
      refine Rp rfl Z16 ?_
      refine Rp rfl Z1 ?_
      refine RunTo.nil ?_
      refine Ev.condF Z1 ?_
      refine Ev.seq ?_
      refine Ev.rg [0, 1, 2, 3] ?_
      refine Rp rfl Z1 ?_
      refine Rp rfl Z27 ?_
      refine Rp rfl Z18 ?_
      refine Rp rfl Z1 ?_
      refine RunTo.nil ?_
      refine Ev.condF Z1 ?_
      refine Ev.skip ?_
      refine Ev.seq ?_
      refine Ev.draw (M := [0, 1, 3, 7, 15, 0, 32, 96, 224, 511, 1023]) (l := [0, 1, 2, 3, 4, 5, 6, 7, 8, 9, 10]) (by kernel_rfl) (by kernel_rfl) (by kernel_rfl) ?_
      refine Rp rfl Z1 ?_
      refine Rp rfl Z131 ?_
      refine Rl rfl Z13 ?_
      refine Rp rfl (by ((conv => lhs; simp only [evs, evm, lk_up, lk_lf, Nat.reduceEqDiff, Nat.reduceLT, reduceIte, if_true, if_false, i64, bo, u8, nilS, Bool.not_true, Bool.not_false, List.take_succ_cons, List.take_zero, List.drop_zero, List.drop_succ_cons, List.toList_toArray, Int.reduceToNat, Nat.reduceMul, Nat.reduceAdd, Nat.reduceSub, Nat.zero_add]); exact cv_is (w := .sc (.int .i64 (208))) (by kernel_rfl))) ?_
      refine Rp rfl Z128 ?_
      refine Rp rfl Z1 ?_
      refine Rp rfl Z132 ?_
      refine Rl rfl Z13 ?_
      refine Rp rfl (by ((conv => lhs; simp only [evs, evm, lk_up, lk_lf, Nat.reduceEqDiff, Nat.reduceLT, reduceIte, if_true, if_false, i64, bo, u8, nilS, Bool.not_true, Bool.not_false, List.take_succ_cons, List.take_zero, List.drop_zero, List.drop_succ_cons, List.toList_toArray, Int.reduceToNat, Nat.reduceMul, Nat.reduceAdd, Nat.reduceSub, Nat.zero_add]); exact cv_is (w := .sc (.int .i64 (0))) (by kernel_rfl))) ?_
      refine Rp rfl Z128 ?_
      refine Rp rfl Z1 ?_
      refine RunTo.nil ?_
      refine Ev.seq ?_
      refine Ev.rg [0, 1, 2, 3, 4, 5, 6, 7, 8, 9, 10] ?_
      refine Rp rfl Z1 ?_
      refine Rp rfl Z49 ?_
      refine Rp rfl Z38 ?_
      refine Rp rfl Z1 ?_
      refine Rp rfl (by ((conv => lhs; simp only [evs, evm, lk_up, lk_lf, Nat.reduceEqDiff, Nat.reduceLT, reduceIte, if_true, if_false, i64, bo, u8, nilS, Bool.not_true, Bool.not_false, List.take_succ_cons, List.take_zero, List.drop_zero, List.drop_succ_cons, List.toList_toArray, Int.reduceToNat, Nat.reduceMul, Nat.reduceAdd, Nat.reduceSub, Nat.zero_add]); exact bin_is (v := .sc (.int .i64 (13))) (by kernel_rfl))) ?_
      refine Rp rfl Z38 ?_
      refine Rp rfl Z1 ?_
      refine Rp rfl Z57 ?_
      refine Rp rfl Z80 ?_
      refine RunTo.freeM rfl (RunOn.madeL (k := 1) hI1 rfl rfl (by decide) rfl Z31 Z5 ?_)
      intro hp2 hI2
      simp only [List.cons_append, List.nil_append, evc, repA, Eng.setMany, List.set_cons_zero, List.set_cons_succ, Nat.zero_mul, Nat.one_mul, List.take_succ_cons, List.take_zero, List.drop_zero, List.drop_succ_cons, Nat.zero_add, Nat.reduceAdd, Nat.reduceMul] at hI2
      refine RunTo.freeM rfl (RunOn.storeL (n := 5) hI2 rfl rfl Z1 Z1 (by kernel_rfl) Z6 Z6 (by rfl) Z9 Z5 ?_)
      intro hp3 hI3
      simp only [set_last, List.set_set, List.set_cons_zero, List.set_cons_succ, List.take_succ_cons, List.take_zero, List.drop_succ_cons, List.drop_zero, Eng.setMany, evc, Nat.zero_add, Nat.reduceAdd, Nat.reduceMul, Nat.reduceSub] at hI3
      refine RunTo.nil ?_
      refine Ev.seq ?_
      refine Ev.rg [0, 1, 2, 3] ?_
      refine Rp rfl Z17 ?_
      refine Rl rfl Z7 ?_
      refine RunTo.freeM rfl (RunOn.tree rfl rfl (by decide) Z1 Z1 (by assumption) Z8 Z62 ?_)
      rw [show headF 1 = 2 from rfl]
      refine Rp rfl Z1 ?_
      refine RunTo.nil ?_
      refine Ev.seq ?_
      refine Ev.seq ?_
      refine Ev.rg [0, 1, 2, 3] ?_
      refine Rp rfl Z1 ?_
      refine Rp rfl Z27 ?_
      refine Rp rfl Z1 ?_
      refine Rp rfl Z73 ?_
      refine RunTo.nil ?_
      refine Ev.condF Z1 ?_
      refine Ev.skip ?_
      refine Ev.seq ?_
      refine Ev.seq ?_
      refine Ev.rg [0, 1] ?_
      refine Rp rfl Z1 ?_
      refine Rp rfl Z45 ?_
      refine RunTo.nil ?_
      refine Ev.condF Z1 ?_
      refine Ev.skip ?_
      refine Ev.seq ?_
      refine Ev.rg [0, 1, 2, 3, 4, 5] ?_
      refine Rp rfl Z1 ?_
      refine Rp rfl Z1 ?_
      refine Rp rfl (by ((conv => lhs; simp only [evs, evm, lk_up, lk_lf, Nat.reduceEqDiff, Nat.reduceLT, reduceIte, if_true, if_false, i64, bo, u8, nilS, Bool.not_true, Bool.not_false, List.take_succ_cons, List.take_zero, List.drop_zero, List.drop_succ_cons, List.toList_toArray, Int.reduceToNat, Nat.reduceMul, Nat.reduceAdd, Nat.reduceSub, Nat.zero_add]); exact pSlice_lo Z1 Z1 (slice_by_lo (n := 2) (by kernel_rfl) (by rfl) (by first | omega | (simp; omega) | simp) (by first | assumption | (intro _ hh; cases hh))))) ?_
      refine RunTo.freeM rfl (RunOn.tree rfl rfl (by decide) Z1 Z1 (by assumption) Z8 (by exact F105_eq hne (by omega)) ?_)
      refine Rp rfl Z12 ?_
      refine RunTo.freeM rfl (RunOn.storeL (n := 1) hI3 rfl rfl Z1 Z1 (by kernel_rfl) Z6 Z6 (by rfl) Z9 Z5 ?_)
      intro hp4 hI4
      simp only [set_last, List.set_set, List.set_cons_zero, List.set_cons_succ, List.take_succ_cons, List.take_zero, List.drop_succ_cons, List.drop_zero, Eng.setMany, evc, Nat.zero_add, Nat.reduceAdd, Nat.reduceMul, Nat.reduceSub] at hI4
      refine RunTo.nil ?_
      refine Ev.seq ?_
      refine Ev.seq ?_
      refine Ev.rg [0, 1, 2, 3, 4, 5, 6, 7, 8] ?_
      refine Rp rfl Z1 ?_
      refine Rp rfl Z38 ?_
      refine Rp rfl Z45 ?_
      refine Rp rfl Z1 ?_
      refine Gp rfl rfl Z2 Z1 ?_
      refine Gl rfl rfl Z2 Z14 ?_
      refine RunTo.guardOnM rfl rfl (by decide) Z2 (RunOn.tree rfl rfl (by decide) Z1 Z1 (by assumption) Z8 (by exact hq) ?_)
      refine Gp rfl rfl Z2 Z16 ?_
      refine Rp rfl Z1 ?_
      refine RunTo.nil ?_
      refine Ev.condF Z1 ?_
      refine Ev.skip ?_
      refine Ev.seq ?_
      refine Ev.rg [0, 1, 2] ?_
      refine Rl rfl Z14 ?_
      refine RunTo.freeM rfl (RunOn.storeL (n := 5) hI4 rfl rfl Z1 Z1 (by kernel_rfl) Z6 Z6 (by rfl) Z9 Z5 ?_)
      intro hp5 hI5
      simp only [set_last, List.set_set, List.set_cons_zero, List.set_cons_succ, List.take_succ_cons, List.take_zero, List.drop_succ_cons, List.drop_zero, Eng.setMany, evc, Nat.zero_add, Nat.reduceAdd, Nat.reduceMul, Nat.reduceSub] at hI5
      refine Rp rfl Z1 ?_
      refine RunTo.nil ?_
      refine Ev.ret ⟨.inr rfl, _, resC2 Z14, ?_⟩
      simp only [lk_up, lk_lf, Nat.reduceEqDiff, Nat.reduceLT, reduceIte, if_true, if_false, Nat.zero_add, i64, bo, u8, nilS, List.take_succ_cons, List.take_zero, List.drop_zero, List.drop_succ_cons]
      repeat first | exact allO_nil | with_reducible apply allO_cons | exact frz_sc | with_reducible exact frz_by1 _ _ | with_reducible exact frz_rg1 _ _ | with_reducible exact frz_par1 _ | with_reducible apply frz_ro1 | with_reducible apply frz_agg | with_reducible apply frz_tup
  · have hb : (off == 0) = false := beq_eq_false_iff_ne.2 h0
    simp only [hb] at hq ⊢
    cases last with
    | true =>
      simp only [partF, if_true, if_false, Bool.false_eq_true, reduceIte] at hq ⊢
      have hlen : (224 :: 0 :: 0 :: off :: bs : List Nat).length = bs.length + 4 := rfl
      show CallTo _ _ [_, byV false (224 :: 0 :: 0 :: off :: bs) none] _ _
      refine CallTo.body (c := (Tryz.f110.body.getD .skip)) (nt := 75) (rs := #[.cell 4 79, .tmp 5]) (by assumption) (by kernel_rfl) ⟨by simp, by decide⟩ ?_
      show Ev _ (Code.seq _ _) _ _
      simp only [tmOf_cons, tmOf_nil, i64, bo, u8, nilS, Nat.zero_add, Nat.reduceAdd]
      refine Ev.seq ?_
      refine Ev.rg [0, 1] ?_
      refine RunTo.freeM rfl (RunOn.madeL (k := 0) hI rfl rfl (by decide) rfl Z31 Z5 ?_)
      intro hp1 hI1
      simp only [List.cons_append, List.nil_append, evc, repA, Eng.setMany, List.set_cons_zero, List.set_cons_succ, Nat.zero_mul, Nat.one_mul, List.take_succ_cons, List.take_zero, List.drop_zero, List.drop_succ_cons, Nat.zero_add, Nat.reduceAdd, Nat.reduceMul] at hI1
      refine Rp rfl Z1 ?_
      refine RunTo.nil ?_
      refine Ev.seq ?_
      refine Ev.block ?_
      refine Ev.seq ?_
      refine Ev.rg [0, 1, 2, 3] ?_
      refine Rp rfl Z1 ?_
      refine RunTo.freeM rfl (RunOn.tree rfl rfl (by decide) Z1 Z1 (by assumption) Z8 (by exact F84_eq) ?_)
      refine Rp rfl Z16 ?_
      refine Rp rfl Z1 ?_
      refine RunTo.nil ?_
      refine Ev.condF Z1 ?_
      refine Ev.seq ?_
      refine Ev.rg [0, 1, 2, 3] ?_
      refine Rp rfl Z1 ?_
      refine Rp rfl Z27 ?_
      refine Rp rfl Z18 ?_
      refine Rp rfl Z1 ?_
      refine RunTo.nil ?_
      refine Ev.condF Z1 ?_
      refine Ev.skip ?_
      refine Ev.seq ?_
      refine Ev.draw (M := [0, 1, 3, 7, 15, 0, 32, 96, 224, 511, 1023]) (l := [0, 1, 2, 3, 4, 5, 6, 7, 8, 9, 10]) (by kernel_rfl) (by kernel_rfl) (by kernel_rfl) ?_
      refine Rp rfl Z1 ?_
      refine Rp rfl Z131 ?_
      refine Rl rfl Z13 ?_
      refine Rp rfl (by ((conv => lhs; simp only [evs, evm, lk_up, lk_lf, Nat.reduceEqDiff, Nat.reduceLT, reduceIte, if_true, if_false, i64, bo, u8, nilS, Bool.not_true, Bool.not_false, List.take_succ_cons, List.take_zero, List.drop_zero, List.drop_succ_cons, List.toList_toArray, Int.reduceToNat, Nat.reduceMul, Nat.reduceAdd, Nat.reduceSub, Nat.zero_add]); exact cv_is (w := .sc (.int .i64 (224))) (by kernel_rfl))) ?_
      refine Rp rfl Z129 ?_
      refine Rp rfl Z1 ?_
      refine Rp rfl Z132 ?_
      refine Rl rfl Z13 ?_
      refine Rp rfl (by ((conv => lhs; simp only [evs, evm, lk_up, lk_lf, Nat.reduceEqDiff, Nat.reduceLT, reduceIte, if_true, if_false, i64, bo, u8, nilS, Bool.not_true, Bool.not_false, List.take_succ_cons, List.take_zero, List.drop_zero, List.drop_succ_cons, List.toList_toArray, Int.reduceToNat, Nat.reduceMul, Nat.reduceAdd, Nat.reduceSub, Nat.zero_add]); exact cv_is (w := .sc (.int .i64 (0))) (by kernel_rfl))) ?_
      refine Rp rfl Z129 ?_
      refine Rp rfl Z1 ?_
      refine RunTo.nil ?_
      refine Ev.seq ?_
      refine Ev.rg [0, 1, 2, 3, 4, 5, 6, 7, 8, 9, 10] ?_
      refine Rp rfl Z1 ?_
      refine Rp rfl Z49 ?_
      refine Rp rfl Z38 ?_
      refine Rp rfl Z1 ?_
      refine Rp rfl (by ((conv => lhs; simp only [evs, evm, lk_up, lk_lf, Nat.reduceEqDiff, Nat.reduceLT, reduceIte, if_true, if_false, i64, bo, u8, nilS, Bool.not_true, Bool.not_false, List.take_succ_cons, List.take_zero, List.drop_zero, List.drop_succ_cons, List.toList_toArray, Int.reduceToNat, Nat.reduceMul, Nat.reduceAdd, Nat.reduceSub, Nat.zero_add]); exact bin_is (v := .sc (.int .i64 (14))) (by kernel_rfl))) ?_
      refine Rp rfl Z74 ?_
      refine Rp rfl Z1 ?_
      refine Rp rfl Z57 ?_
      refine Rp rfl Z80 ?_
      refine RunTo.freeM rfl (RunOn.madeL (k := 1) hI1 rfl rfl (by decide) rfl Z31 Z5 ?_)
      intro hp2 hI2
      simp only [List.cons_append, List.nil_append, evc, repA, Eng.setMany, List.set_cons_zero, List.set_cons_succ, Nat.zero_mul, Nat.one_mul, List.take_succ_cons, List.take_zero, List.drop_zero, List.drop_succ_cons, Nat.zero_add, Nat.reduceAdd, Nat.reduceMul] at hI2
      refine RunTo.freeM rfl (RunOn.storeL (n := 5) hI2 rfl rfl Z1 Z1 (by kernel_rfl) Z6 Z6 (by rfl) Z9 Z5 ?_)
      intro hp3 hI3
      simp only [set_last, List.set_set, List.set_cons_zero, List.set_cons_succ, List.take_succ_cons, List.take_zero, List.drop_succ_cons, List.drop_zero, Eng.setMany, evc, Nat.zero_add, Nat.reduceAdd, Nat.reduceMul, Nat.reduceSub] at hI3
      refine RunTo.nil ?_
      refine Ev.seq ?_
      refine Ev.rg [0, 1, 2, 3] ?_
      refine Rp rfl Z17 ?_
      refine Rl rfl Z7 ?_
      refine RunTo.freeM rfl (RunOn.tree rfl rfl (by decide) Z1 Z1 (by assumption) Z8 Z62 ?_)
      rw [show headF 2 = 4 from rfl]
      refine Rp rfl Z1 ?_
      refine RunTo.nil ?_
      refine Ev.seq ?_
      refine Ev.seq ?_
      refine Ev.rg [0, 1, 2, 3] ?_
      refine Rp rfl Z1 ?_
      refine Rp rfl Z27 ?_
      refine Rp rfl Z1 ?_
      refine Rp rfl Z73 ?_
      refine RunTo.nil ?_
      refine Ev.condF Z1 ?_
      refine Ev.skip ?_
      refine Ev.seq ?_
      refine Ev.seq ?_
      refine Ev.rg [0, 1] ?_
      refine Rp rfl Z1 ?_
      refine Rp rfl Z26 ?_
      refine RunTo.nil ?_
      refine Ev.condT Z1 ?_
      refine Ev.draw (M := [0, 1, 3, 7, 15, 0, 32, 96, 224, 511, 1023, 2047]) (l := [0, 1, 2, 3, 4, 5, 6, 7, 8, 9, 10, 11]) (by kernel_rfl) (by kernel_rfl) (by kernel_rfl) ?_
      refine Rp rfl Z1 ?_
      refine Rp rfl (by ((conv => lhs; simp only [evs, evm, lk_up, lk_lf, Nat.reduceEqDiff, Nat.reduceLT, reduceIte, if_true, if_false, i64, bo, u8, nilS, Bool.not_true, Bool.not_false, List.take_succ_cons, List.take_zero, List.drop_zero, List.drop_succ_cons, List.toList_toArray, Int.reduceToNat, Nat.reduceMul, Nat.reduceAdd, Nat.reduceSub, Nat.zero_add]); exact index_by (l1 := [_, _]) (by kernel_rfl) (by rfl))) ?_
      refine Rl rfl Z13 ?_
      refine Rp rfl (by ((conv => lhs; simp only [evs, evm, lk_up, lk_lf, Nat.reduceEqDiff, Nat.reduceLT, reduceIte, if_true, if_false, i64, bo, u8, nilS, Bool.not_true, Bool.not_false, List.take_succ_cons, List.take_zero, List.drop_zero, List.drop_succ_cons, List.toList_toArray, Int.reduceToNat, Nat.reduceMul, Nat.reduceAdd, Nat.reduceSub, Nat.zero_add]); exact cv_is (w := .sc (.int .i64 (0))) (by kernel_rfl))) ?_
      refine Rp rfl Z57 ?_
      refine Rp rfl Z1 ?_
      refine Rp rfl (by ((conv => lhs; simp only [evs, evm, lk_up, lk_lf, Nat.reduceEqDiff, Nat.reduceLT, reduceIte, if_true, if_false, i64, bo, u8, nilS, Bool.not_true, Bool.not_false, List.take_succ_cons, List.take_zero, List.drop_zero, List.drop_succ_cons, List.toList_toArray, Int.reduceToNat, Nat.reduceMul, Nat.reduceAdd, Nat.reduceSub, Nat.zero_add]); exact index_by (l1 := [_, _, _]) (by kernel_rfl) (by rfl))) ?_
      refine Rl rfl Z13 ?_
      refine Rp rfl (by ((conv => lhs; simp only [evs, evm, lk_up, lk_lf, Nat.reduceEqDiff, Nat.reduceLT, reduceIte, if_true, if_false, i64, bo, u8, nilS, Bool.not_true, Bool.not_false, List.take_succ_cons, List.take_zero, List.drop_zero, List.drop_succ_cons, List.toList_toArray, Int.reduceToNat, Nat.reduceMul, Nat.reduceAdd, Nat.reduceSub, Nat.zero_add]); exact cv_i64 (by kernel_rfl) (by kernel_rfl) (by omega) (by omega))) ?_
      refine Rp rfl (by ((conv => lhs; simp only [evs, evm, lk_up, lk_lf, Nat.reduceEqDiff, Nat.reduceLT, reduceIte, if_true, if_false, i64, bo, u8, nilS, Bool.not_true, Bool.not_false, List.take_succ_cons, List.take_zero, List.drop_zero, List.drop_succ_cons, List.toList_toArray, Int.reduceToNat, Nat.reduceMul, Nat.reduceAdd, Nat.reduceSub, Nat.zero_add]); exact or_zero (by omega) (by omega) (by first | rfl | omega))) ?_
      refine Rp rfl Z19 ?_
      refine RunTo.freeM rfl (RunOn.storeL (n := 1) hI3 rfl rfl Z1 Z1 (by kernel_rfl) Z6 Z6 (by rfl) Z9 Z5 ?_)
      intro hp4 hI4
      simp only [set_last, List.set_set, List.set_cons_zero, List.set_cons_succ, List.take_succ_cons, List.take_zero, List.drop_succ_cons, List.drop_zero, Eng.setMany, evc, Nat.zero_add, Nat.reduceAdd, Nat.reduceMul, Nat.reduceSub] at hI4
      refine RunTo.nil ?_
      refine Ev.seq ?_
      refine Ev.rg [0, 1, 2, 3, 4, 5] ?_
      refine Rp rfl Z1 ?_
      refine Rp rfl Z1 ?_
      refine Rp rfl (by ((conv => lhs; simp only [evs, evm, lk_up, lk_lf, Nat.reduceEqDiff, Nat.reduceLT, reduceIte, if_true, if_false, i64, bo, u8, nilS, Bool.not_true, Bool.not_false, List.take_succ_cons, List.take_zero, List.drop_zero, List.drop_succ_cons, List.toList_toArray, Int.reduceToNat, Nat.reduceMul, Nat.reduceAdd, Nat.reduceSub, Nat.zero_add]); exact pSlice_lo Z1 Z1 (slice_by_lo (n := 4) (by kernel_rfl) (by rfl) (by first | omega | (simp; omega) | simp) (by first | assumption | (intro _ hh; cases hh))))) ?_
      refine RunTo.freeM rfl (RunOn.tree rfl rfl (by decide) Z1 Z1 (by assumption) Z8 (by exact F105_eq hne (by omega)) ?_)
      refine Rp rfl Z12 ?_
      refine RunTo.freeM rfl (RunOn.storeL (n := 1) hI4 rfl rfl Z1 Z1 (by kernel_rfl) Z6 Z6 (by rfl) Z9 Z5 ?_)
      intro hp5 hI5
      simp only [set_last, List.set_set, List.set_cons_zero, List.set_cons_succ, List.take_succ_cons, List.take_zero, List.drop_succ_cons, List.drop_zero, Eng.setMany, evc, Nat.zero_add, Nat.reduceAdd, Nat.reduceMul, Nat.reduceSub] at hI5
      refine RunTo.nil ?_
      refine Ev.seq ?_
      refine Ev.seq ?_
      refine Ev.rg [0, 1, 2, 3, 4, 5, 6, 7, 8] ?_
      refine Rp rfl Z1 ?_
      refine Rp rfl Z38 ?_
      refine Rp rfl Z45 ?_
      refine Rp rfl Z1 ?_
      refine Gp rfl rfl Z2 Z1 ?_
      refine Gl rfl rfl Z2 Z14 ?_
      refine RunTo.guardOnM rfl rfl (by decide) Z2 (RunOn.tree rfl rfl (by decide) Z1 Z1 (by assumption) Z8 (by exact hq) ?_)
      refine Gp rfl rfl Z2 Z16 ?_
      refine Rp rfl Z1 ?_
      refine RunTo.nil ?_
      refine Ev.condF Z1 ?_
      refine Ev.skip ?_
      refine Ev.seq ?_
      refine Ev.rg [0, 1, 2] ?_
      refine Rl rfl Z14 ?_
      refine RunTo.freeM rfl (RunOn.storeL (n := 5) hI5 rfl rfl Z1 Z1 (by kernel_rfl) Z6 Z6 (by rfl) Z9 Z5 ?_)
      intro hp6 hI6
      simp only [set_last, List.set_set, List.set_cons_zero, List.set_cons_succ, List.take_succ_cons, List.take_zero, List.drop_succ_cons, List.drop_zero, Eng.setMany, evc, Nat.zero_add, Nat.reduceAdd, Nat.reduceMul, Nat.reduceSub] at hI6
      refine Rp rfl Z1 ?_
      refine RunTo.nil ?_
      refine Ev.ret ⟨.inr rfl, _, resC2 Z14, ?_⟩
      simp only [lk_up, lk_lf, Nat.reduceEqDiff, Nat.reduceLT, reduceIte, if_true, if_false, Nat.zero_add, i64, bo, u8, nilS, List.take_succ_cons, List.take_zero, List.drop_zero, List.drop_succ_cons]
      repeat first | exact allO_nil | with_reducible apply allO_cons | exact frz_sc | with_reducible exact frz_by1 _ _ | with_reducible exact frz_rg1 _ _ | with_reducible exact frz_par1 _ | with_reducible apply frz_ro1 | with_reducible apply frz_agg | with_reducible apply frz_tup
    | false =>
      simp only [partF, if_true, if_false, Bool.false_eq_true, reduceIte] at hq ⊢
      have hlen : (240 :: 0 :: 0 :: off :: bs : List Nat).length = bs.length + 4 := rfl
      show CallTo _ _ [_, byV false (240 :: 0 :: 0 :: off :: bs) none] _ _
      refine CallTo.body (c := (Tryz.f110.body.getD .skip)) (nt := 75) (rs := #[.cell 4 79, .tmp 5]) (by assumption) (by kernel_rfl) ⟨by simp, by decide⟩ ?_
      show Ev _ (Code.seq _ _) _ _
      simp only [tmOf_cons, tmOf_nil, i64, bo, u8, nilS, Nat.zero_add, Nat.reduceAdd]
      refine Ev.seq ?_
      refine Ev.rg [0, 1] ?_
      refine RunTo.freeM rfl (RunOn.madeL (k := 0) hI rfl rfl (by decide) rfl Z31 Z5 ?_)
      intro hp1 hI1
      simp only [List.cons_append, List.nil_append, evc, repA, Eng.setMany, List.set_cons_zero, List.set_cons_succ, Nat.zero_mul, Nat.one_mul, List.take_succ_cons, List.take_zero, List.drop_zero, List.drop_succ_cons, Nat.zero_add, Nat.reduceAdd, Nat.reduceMul] at hI1
      refine Rp rfl Z1 ?_
      refine RunTo.nil ?_
      refine Ev.seq ?_
      refine Ev.block ?_
      refine Ev.seq ?_
      refine Ev.rg [0, 1, 2, 3] ?_
      refine Rp rfl Z1 ?_
      refine RunTo.freeM rfl (RunOn.tree rfl rfl (by decide) Z1 Z1 (by assumption) Z8 (by exact F84_eq) ?_)
      refine Rp rfl Z16 ?_
      refine Rp rfl Z1 ?_
      refine RunTo.nil ?_
      refine Ev.condF Z1 ?_
      refine Ev.seq ?_
      refine Ev.rg [0, 1, 2, 3] ?_
      refine Rp rfl Z1 ?_
      refine Rp rfl Z27 ?_
      refine Rp rfl Z18 ?_
      refine Rp rfl Z1 ?_
      refine RunTo.nil ?_
      refine Ev.condF Z1 ?_
      refine Ev.skip ?_
      refine Ev.seq ?_
      refine Ev.draw (M := [0, 1, 3, 7, 15, 0, 32, 96, 224, 511, 1023]) (l := [0, 1, 2, 3, 4, 5, 6, 7, 8, 9, 10]) (by kernel_rfl) (by kernel_rfl) (by kernel_rfl) ?_
      refine Rp rfl Z1 ?_
      refine Rp rfl Z131 ?_
      refine Rl rfl Z13 ?_
      refine Rp rfl (by ((conv => lhs; simp only [evs, evm, lk_up, lk_lf, Nat.reduceEqDiff, Nat.reduceLT, reduceIte, if_true, if_false, i64, bo, u8, nilS, Bool.not_true, Bool.not_false, List.take_succ_cons, List.take_zero, List.drop_zero, List.drop_succ_cons, List.toList_toArray, Int.reduceToNat, Nat.reduceMul, Nat.reduceAdd, Nat.reduceSub, Nat.zero_add]); exact cv_is (w := .sc (.int .i64 (240))) (by kernel_rfl))) ?_
      refine Rp rfl Z130 ?_
      refine Rp rfl Z1 ?_
      refine Rp rfl Z132 ?_
      refine Rl rfl Z13 ?_
      refine Rp rfl (by ((conv => lhs; simp only [evs, evm, lk_up, lk_lf, Nat.reduceEqDiff, Nat.reduceLT, reduceIte, if_true, if_false, i64, bo, u8, nilS, Bool.not_true, Bool.not_false, List.take_succ_cons, List.take_zero, List.drop_zero, List.drop_succ_cons, List.toList_toArray, Int.reduceToNat, Nat.reduceMul, Nat.reduceAdd, Nat.reduceSub, Nat.zero_add]); exact cv_is (w := .sc (.int .i64 (0))) (by kernel_rfl))) ?_
      refine Rp rfl Z130 ?_
      refine Rp rfl Z1 ?_
      refine RunTo.nil ?_
      refine Ev.seq ?_
      refine Ev.rg [0, 1, 2, 3, 4, 5, 6, 7, 8, 9, 10] ?_
      refine Rp rfl Z1 ?_
      refine Rp rfl Z49 ?_
      refine Rp rfl Z38 ?_
      refine Rp rfl Z1 ?_
      refine Rp rfl (by ((conv => lhs; simp only [evs, evm, lk_up, lk_lf, Nat.reduceEqDiff, Nat.reduceLT, reduceIte, if_true, if_false, i64, bo, u8, nilS, Bool.not_true, Bool.not_false, List.take_succ_cons, List.take_zero, List.drop_zero, List.drop_succ_cons, List.toList_toArray, Int.reduceToNat, Nat.reduceMul, Nat.reduceAdd, Nat.reduceSub, Nat.zero_add]); exact bin_is (v := .sc (.int .i64 (15))) (by kernel_rfl))) ?_
      refine Rp rfl Z49 ?_
      refine Rp rfl Z1 ?_
      refine Rp rfl Z57 ?_
      refine Rp rfl Z80 ?_
      refine RunTo.freeM rfl (RunOn.madeL (k := 1) hI1 rfl rfl (by decide) rfl Z31 Z5 ?_)
      intro hp2 hI2
      simp only [List.cons_append, List.nil_append, evc, repA, Eng.setMany, List.set_cons_zero, List.set_cons_succ, Nat.zero_mul, Nat.one_mul, List.take_succ_cons, List.take_zero, List.drop_zero, List.drop_succ_cons, Nat.zero_add, Nat.reduceAdd, Nat.reduceMul] at hI2
      refine RunTo.freeM rfl (RunOn.storeL (n := 5) hI2 rfl rfl Z1 Z1 (by kernel_rfl) Z6 Z6 (by rfl) Z9 Z5 ?_)
      intro hp3 hI3
      simp only [set_last, List.set_set, List.set_cons_zero, List.set_cons_succ, List.take_succ_cons, List.take_zero, List.drop_succ_cons, List.drop_zero, Eng.setMany, evc, Nat.zero_add, Nat.reduceAdd, Nat.reduceMul, Nat.reduceSub] at hI3
      refine RunTo.nil ?_
      refine Ev.seq ?_
      refine Ev.rg [0, 1, 2, 3] ?_
      refine Rp rfl Z17 ?_
      refine Rl rfl Z7 ?_
      refine RunTo.freeM rfl (RunOn.tree rfl rfl (by decide) Z1 Z1 (by assumption) Z8 Z62 ?_)
      rw [show headF 3 = 4 from rfl]
      refine Rp rfl Z1 ?_
      refine RunTo.nil ?_
      refine Ev.seq ?_
      refine Ev.seq ?_
      refine Ev.rg [0, 1, 2, 3] ?_
      refine Rp rfl Z1 ?_
      refine Rp rfl Z27 ?_
      refine Rp rfl Z1 ?_
      refine Rp rfl Z73 ?_
      refine RunTo.nil ?_
      refine Ev.condF Z1 ?_
      refine Ev.skip ?_
      refine Ev.seq ?_
      refine Ev.seq ?_
      refine Ev.rg [0, 1] ?_
      refine Rp rfl Z1 ?_
      refine Rp rfl Z26 ?_
      refine RunTo.nil ?_
      refine Ev.condT Z1 ?_
      refine Ev.draw (M := [0, 1, 3, 7, 15, 0, 32, 96, 224, 511, 1023, 2047]) (l := [0, 1, 2, 3, 4, 5, 6, 7, 8, 9, 10, 11]) (by kernel_rfl) (by kernel_rfl) (by kernel_rfl) ?_
      refine Rp rfl Z1 ?_
      refine Rp rfl (by ((conv => lhs; simp only [evs, evm, lk_up, lk_lf, Nat.reduceEqDiff, Nat.reduceLT, reduceIte, if_true, if_false, i64, bo, u8, nilS, Bool.not_true, Bool.not_false, List.take_succ_cons, List.take_zero, List.drop_zero, List.drop_succ_cons, List.toList_toArray, Int.reduceToNat, Nat.reduceMul, Nat.reduceAdd, Nat.reduceSub, Nat.zero_add]); exact index_by (l1 := [_, _]) (by kernel_rfl) (by rfl))) ?_
      refine Rl rfl Z13 ?_
      refine Rp rfl (by ((conv => lhs; simp only [evs, evm, lk_up, lk_lf, Nat.reduceEqDiff, Nat.reduceLT, reduceIte, if_true, if_false, i64, bo, u8, nilS, Bool.not_true, Bool.not_false, List.take_succ_cons, List.take_zero, List.drop_zero, List.drop_succ_cons, List.toList_toArray, Int.reduceToNat, Nat.reduceMul, Nat.reduceAdd, Nat.reduceSub, Nat.zero_add]); exact cv_is (w := .sc (.int .i64 (0))) (by kernel_rfl))) ?_
      refine Rp rfl Z57 ?_
      refine Rp rfl Z1 ?_
      refine Rp rfl (by ((conv => lhs; simp only [evs, evm, lk_up, lk_lf, Nat.reduceEqDiff, Nat.reduceLT, reduceIte, if_true, if_false, i64, bo, u8, nilS, Bool.not_true, Bool.not_false, List.take_succ_cons, List.take_zero, List.drop_zero, List.drop_succ_cons, List.toList_toArray, Int.reduceToNat, Nat.reduceMul, Nat.reduceAdd, Nat.reduceSub, Nat.zero_add]); exact index_by (l1 := [_, _, _]) (by kernel_rfl) (by rfl))) ?_
      refine Rl rfl Z13 ?_
      refine Rp rfl (by ((conv => lhs; simp only [evs, evm, lk_up, lk_lf, Nat.reduceEqDiff, Nat.reduceLT, reduceIte, if_true, if_false, i64, bo, u8, nilS, Bool.not_true, Bool.not_false, List.take_succ_cons, List.take_zero, List.drop_zero, List.drop_succ_cons, List.toList_toArray, Int.reduceToNat, Nat.reduceMul, Nat.reduceAdd, Nat.reduceSub, Nat.zero_add]); exact cv_i64 (by kernel_rfl) (by kernel_rfl) (by omega) (by omega))) ?_
      refine Rp rfl (by ((conv => lhs; simp only [evs, evm, lk_up, lk_lf, Nat.reduceEqDiff, Nat.reduceLT, reduceIte, if_true, if_false, i64, bo, u8, nilS, Bool.not_true, Bool.not_false, List.take_succ_cons, List.take_zero, List.drop_zero, List.drop_succ_cons, List.toList_toArray, Int.reduceToNat, Nat.reduceMul, Nat.reduceAdd, Nat.reduceSub, Nat.zero_add]); exact or_zero (by omega) (by omega) (by first | rfl | omega))) ?_
      refine Rp rfl Z19 ?_
      refine RunTo.freeM rfl (RunOn.storeL (n := 1) hI3 rfl rfl Z1 Z1 (by kernel_rfl) Z6 Z6 (by rfl) Z9 Z5 ?_)
      intro hp4 hI4
      simp only [set_last, List.set_set, List.set_cons_zero, List.set_cons_succ, List.take_succ_cons, List.take_zero, List.drop_succ_cons, List.drop_zero, Eng.setMany, evc, Nat.zero_add, Nat.reduceAdd, Nat.reduceMul, Nat.reduceSub] at hI4
      refine RunTo.nil ?_
      refine Ev.seq ?_
      refine Ev.rg [0, 1, 2, 3, 4, 5] ?_
      refine Rp rfl Z1 ?_
      refine Rp rfl Z1 ?_
      refine Rp rfl (by ((conv => lhs; simp only [evs, evm, lk_up, lk_lf, Nat.reduceEqDiff, Nat.reduceLT, reduceIte, if_true, if_false, i64, bo, u8, nilS, Bool.not_true, Bool.not_false, List.take_succ_cons, List.take_zero, List.drop_zero, List.drop_succ_cons, List.toList_toArray, Int.reduceToNat, Nat.reduceMul, Nat.reduceAdd, Nat.reduceSub, Nat.zero_add]); exact pSlice_lo Z1 Z1 (slice_by_lo (n := 4) (by kernel_rfl) (by rfl) (by first | omega | (simp; omega) | simp) (by first | assumption | (intro _ hh; cases hh))))) ?_
      refine RunTo.freeM rfl (RunOn.tree rfl rfl (by decide) Z1 Z1 (by assumption) Z8 (by exact F105_eq hne (by omega)) ?_)
      refine Rp rfl Z12 ?_
      refine RunTo.freeM rfl (RunOn.storeL (n := 1) hI4 rfl rfl Z1 Z1 (by kernel_rfl) Z6 Z6 (by rfl) Z9 Z5 ?_)
      intro hp5 hI5
      simp only [set_last, List.set_set, List.set_cons_zero, List.set_cons_succ, List.take_succ_cons, List.take_zero, List.drop_succ_cons, List.drop_zero, Eng.setMany, evc, Nat.zero_add, Nat.reduceAdd, Nat.reduceMul, Nat.reduceSub] at hI5
      refine RunTo.nil ?_
      refine Ev.seq ?_
      refine Ev.seq ?_
      refine Ev.rg [0, 1, 2, 3, 4, 5, 6, 7, 8] ?_
      refine Rp rfl Z1 ?_
      refine Rp rfl Z38 ?_
      refine Rp rfl Z45 ?_
      refine Rp rfl Z1 ?_
      refine Gp rfl rfl Z2 Z1 ?_
      refine Gl rfl rfl Z2 Z14 ?_
      refine RunTo.guardOnM rfl rfl (by decide) Z2 (RunOn.tree rfl rfl (by decide) Z1 Z1 (by assumption) Z8 (by exact hq) ?_)
      refine Gp rfl rfl Z2 Z16 ?_
      refine Rp rfl Z1 ?_
      refine RunTo.nil ?_
      refine Ev.condF Z1 ?_
      refine Ev.skip ?_
      refine Ev.seq ?_
      refine Ev.rg [0, 1, 2] ?_
      refine Rl rfl Z14 ?_
      refine RunTo.freeM rfl (RunOn.storeL (n := 5) hI5 rfl rfl Z1 Z1 (by kernel_rfl) Z6 Z6 (by rfl) Z9 Z5 ?_)
      intro hp6 hI6
      simp only [set_last, List.set_set, List.set_cons_zero, List.set_cons_succ, List.take_succ_cons, List.take_zero, List.drop_succ_cons, List.drop_zero, Eng.setMany, evc, Nat.zero_add, Nat.reduceAdd, Nat.reduceMul, Nat.reduceSub] at hI6
      refine Rp rfl Z1 ?_
      refine RunTo.nil ?_
      refine Ev.ret ⟨.inr rfl, _, resC2 Z14, ?_⟩
      simp only [lk_up, lk_lf, Nat.reduceEqDiff, Nat.reduceLT, reduceIte, if_true, if_false, Nat.zero_add, i64, bo, u8, nilS, List.take_succ_cons, List.take_zero, List.drop_zero, List.drop_succ_cons]
      repeat first | exact allO_nil | with_reducible apply allO_cons | exact frz_sc | with_reducible exact frz_by1 _ _ | with_reducible exact frz_rg1 _ _ | with_reducible exact frz_par1 _ | with_reducible apply frz_ro1 | with_reducible apply frz_agg | with_reducible apply frz_tup
end
end Go.Eng
end
