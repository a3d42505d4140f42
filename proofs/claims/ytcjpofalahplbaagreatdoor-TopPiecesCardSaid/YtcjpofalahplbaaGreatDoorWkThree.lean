/- A part of the proof that radiolinktop.TopPieces returns true for every list of numbers. -/
import Derived.Test.YtcjpofalahplbaaGreatDoorSymOne
section
set_option linter.unusedVariables false
set_option linter.unusedSimpArgs false
set_option maxRecDepth 100000
set_option maxHeartbeats 4000000
namespace Go.Eng
open Go Go.RowKit Go.Proofs
section
variable (p : Poly) (T : List (Nat × (List AV → Option AV)))
theorem c325 (h : (envL p T).sp 325 = none) (n : Nat) (h0 : 0 < n) (h1 : n ≤ 2000) (L : List (Option (List AV))) (k : Nat) (hk : L.length = k) (hL : k < 1000000) : ∀ hp0, IsH hp0 L [] → CallTo (envL p T) 325 [nilS, i64 n] hp0 fun v hp' => ∃ L' w', IsH hp' L' w' ∧ (v = .sl k 0 0 none 3 ∧ L' = L ++ [some (repA [i64 0, i64 0, i64 0] n)] ∧ w' = []) := by
  intro hp0 hI
  subst hk
  have e1 : ((n : Int) - 0) = (n : Int) := by omega
  refine CallTo.body (c := (Tryz.f325.body.getD .skip)) (nt := 27) (rs := #[.tmp 4]) (by assumption) (by kernel_rfl) ⟨by simp, by decide⟩ ?_
  show Ev _ (Code.seq _ _) _ _
  simp only [tmOf_cons, tmOf_nil, i64, bo, u8, nilS, Nat.zero_add, Nat.reduceAdd]
  refine Ev.seq ?_
  refine Ev.rg [0] ?_
  refine Rp rfl Z1 ?_
  refine RunTo.nil ?_
  refine Ev.seq ?_
  refine Ev.seq ?_
  refine Ev.rg [0, 1] ?_
  refine Rp rfl Z1 ?_
  refine Rp rfl Z18 ?_
  refine RunTo.nil ?_
  refine Ev.condF Z1 ?_
  refine Ev.skip ?_
  refine Ev.seq ?_
  refine Ev.seq ?_
  refine Ev.rg [0, 1, 2, 3, 4, 5, 6, 7] ?_
  refine Rp rfl Z1 ?_
  refine Rp rfl Z1 ?_
  refine Rp rfl (by ((conv => lhs; simp only [evs, evm, lk_up, lk_lf, Nat.reduceEqDiff, Nat.reduceLT, reduceIte, if_true, if_false, i64, bo, u8, nilS, Bool.not_true, Bool.not_false, List.take_succ_cons, List.take_zero, List.drop_zero, List.drop_succ_cons, List.toList_toArray, Int.reduceToNat, Nat.reduceMul, Nat.reduceAdd, Nat.reduceSub, Nat.zero_add]); exact pCall_cap Z1 (cap_nil (by kernel_rfl)))) ?_
  refine Rp rfl Z1 ?_
  refine Rp rfl Z47 ?_
  refine Rp rfl Z57 ?_
  refine Rp rfl Z55 ?_
  refine Rp rfl Z1 ?_
  refine RunTo.nil ?_
  refine Ev.seq ?_
  refine Ev.rg [0, 1] ?_
  refine Rp rfl Z1 ?_
  refine Rp rfl Z63 ?_
  refine RunTo.nil ?_
  refine Ev.condT Z1 ?_
  refine Ev.rg [0, 1, 2, 3, 4, 5, 6, 7, 8, 9] ?_
  refine Rp rfl Z1 ?_
  refine Rp rfl Z1 ?_
  refine Rp rfl (by ((conv => lhs; simp only [evs, evm, lk_up, lk_lf, Nat.reduceEqDiff, Nat.reduceLT, reduceIte, if_true, if_false, i64, bo, u8, nilS, Bool.not_true, Bool.not_false, List.take_succ_cons, List.take_zero, List.drop_zero, List.drop_succ_cons, List.toList_toArray, Int.reduceToNat, Nat.reduceMul, Nat.reduceAdd, Nat.reduceSub, Nat.zero_add]); exact pCall_cap Z1 (cap_nil (by kernel_rfl)))) ?_
  refine Rp rfl Z1 ?_
  refine Rp rfl Z1 ?_
  rw [e1]
  refine RunTo.freeM rfl (RunOn.appZ (n := 3) (z := [.sc (.int .i64 (0)), .sc (.int .i64 (0)), .sc (.int .i64 (0))]) hI rfl rfl (by decide) rfl rfl rfl (by kernel_rfl) (by kernel_rfl) Z1 Z1 Z41 (by exact appL_nil (k := L.length) rfl (by omega) Z41 (by omega)) ?_)
  intro hp1 hI1
  simp only [List.cons_append, List.nil_append] at hI1
  refine Rp rfl Z1 ?_
  refine Rp rfl Z47 ?_
  refine Rp rfl Z1 ?_
  refine Rp rfl Z1 ?_
  refine RunTo.nil ?_
  refine Ev.seq ?_
  refine Ev.rg [0, 1] ?_
  refine Rp rfl Z1 ?_
  refine Rp rfl Z1 ?_
  refine RunTo.nil ?_
  refine Ev.ret ⟨.inr rfl, _, res1, ?_⟩
  simp only [lk_up, lk_lf, Nat.reduceEqDiff, Nat.reduceLT, reduceIte, if_true, if_false, Nat.zero_add, i64, bo, u8, nilS, List.take_succ_cons, List.take_zero, List.drop_zero, List.drop_succ_cons]
  refine ⟨_, _, hI1.wlSet _, ?_, ?_, ?_⟩
  · kernel_rfl
  · rfl
  · simp [hI1.wl]
theorem w290 (h : (envL p T).sp 290 = none) (h325 : (envL p T).sp 325 = none) (bef : List Rg) (r : Rg) (beh : List Rg) (hb1 : bef.length ≤ 900) (hb2 : beh.length ≤ 900) : CallTo (envL p T) 290 [.ro false [rgP bef, rgV false [r] (some 1), rgP beh] 3 (some 3) 1] Hp.empty fun v hp' => frz true hp' 20 v = some (rgV true (bef ++ r :: beh) none) := by
  have hI := IsH.empty
  have hr1 : ([r] : List Rg).length = 1 := rfl
  unfold rgP
  by_cases ha : bef = [] <;> by_cases hc : beh = []
  · rw [if_pos ha, if_pos hc]
    show CallTo _ _ [.ro false [nilS, rgV false [r] (some 1), nilS] 3 (some 3) 1] _ _
    have hsum : (1 : Int) = ((0 + 1 + 0 : Nat) : Int) := by omega
    refine CallTo.body (c := (Tryz.f290.body.getD .skip)) (nt := 36) (rs := #[.tmp 2]) (by assumption) (by kernel_rfl) ⟨by simp, by decide⟩ ?_
    show Ev _ (Code.seq _ _) _ _
    simp only [tmOf_cons, tmOf_nil, i64, bo, u8, nilS, Nat.zero_add, Nat.reduceAdd]
    refine Ev.seq ?_
    refine Ev.rg [0] ?_
    refine Rp rfl Z1 ?_
    refine RunTo.nil ?_
    refine Ev.seq ?_
    refine Ev.rg [0] ?_
    refine Rp rfl Z1 ?_
    refine RunTo.nil ?_
    refine Ev.seq ?_
    refine Ev.seq ?_
    refine Ev.rg [0, 1, 2] ?_
    refine Rp rfl Z1 ?_
    refine Rp rfl Z48 ?_
    refine Rp rfl Z1 ?_
    refine RunTo.nil ?_
    refine Ev.block ?_
    refine Ev.unroll ?_
    refine Ev.seq ?_
    refine Ev.rg [0] ?_
    refine Rp rfl Z25 ?_
    refine RunTo.nil ?_
    refine Ev.seq ?_
    refine Ev.condT Z1 ?_
    refine Ev.skip ?_
    refine Ev.seq ?_
    refine Ev.block ?_
    refine Ev.seq ?_
    refine Ev.rg [0, 1, 2] ?_
    refine Rp rfl Z32 ?_
    refine Rl rfl Z13 ?_
    refine Rp rfl Z1 ?_
    refine RunTo.nil ?_
    refine Ev.seq ?_
    refine Ev.rg [0, 1, 2, 3, 4] ?_
    refine Rp rfl Z1 ?_
    refine Rp rfl Z1 ?_
    refine Rp rfl Z47 ?_
    refine Rp rfl Z57 ?_
    refine Rp rfl Z1 ?_
    refine RunTo.nil ?_
    refine Ev.seq ?_
    refine Ev.rg [0, 1] ?_
    refine Rp rfl Z1 ?_
    refine Rp rfl Z18 ?_
    refine RunTo.nil ?_
    refine Ev.condF Z1 ?_
    refine Ev.skip ?_
    refine Ev.rg [0, 1] ?_
    refine Rp rfl Z38 ?_
    refine Rp rfl Z1 ?_
    refine RunTo.nil ?_
    refine Ev.unroll ?_
    refine Ev.seq ?_
    refine Ev.rg [0] ?_
    refine Rp rfl Z25 ?_
    refine RunTo.nil ?_
    refine Ev.seq ?_
    refine Ev.condT Z1 ?_
    refine Ev.skip ?_
    refine Ev.seq ?_
    refine Ev.block ?_
    refine Ev.seq ?_
    refine Ev.rg [0, 1, 2] ?_
    refine Rp rfl Z32 ?_
    refine Rl rfl Z13 ?_
    refine Rp rfl Z1 ?_
    refine RunTo.nil ?_
    refine Ev.seq ?_
    refine Ev.rg [0, 1, 2, 3, 4] ?_
    refine Rp rfl Z1 ?_
    refine Rp rfl Z1 ?_
    refine Rp rfl Z33 ?_
    refine Rp rfl Z38 ?_
    refine Rp rfl Z1 ?_
    refine RunTo.nil ?_
    refine Ev.seq ?_
    refine Ev.rg [0, 1] ?_
    refine Rp rfl Z1 ?_
    refine Rp rfl Z18 ?_
    refine RunTo.nil ?_
    refine Ev.condF Z1 ?_
    refine Ev.skip ?_
    refine Ev.rg [0, 1] ?_
    refine Rp rfl Z74 ?_
    refine Rp rfl Z1 ?_
    refine RunTo.nil ?_
    refine Ev.unroll ?_
    refine Ev.seq ?_
    refine Ev.rg [0] ?_
    refine Rp rfl Z25 ?_
    refine RunTo.nil ?_
    refine Ev.seq ?_
    refine Ev.condT Z1 ?_
    refine Ev.skip ?_
    refine Ev.seq ?_
    refine Ev.block ?_
    refine Ev.seq ?_
    refine Ev.rg [0, 1, 2] ?_
    refine Rp rfl Z32 ?_
    refine Rl rfl Z13 ?_
    refine Rp rfl Z1 ?_
    refine RunTo.nil ?_
    refine Ev.seq ?_
    refine Ev.rg [0, 1, 2, 3, 4] ?_
    refine Rp rfl Z1 ?_
    refine Rp rfl Z1 ?_
    refine Rp rfl Z47 ?_
    refine Rp rfl Z38 ?_
    refine Rp rfl Z1 ?_
    refine RunTo.nil ?_
    refine Ev.seq ?_
    refine Ev.rg [0, 1] ?_
    refine Rp rfl Z1 ?_
    refine Rp rfl Z18 ?_
    refine RunTo.nil ?_
    refine Ev.condF Z1 ?_
    refine Ev.skip ?_
    refine Ev.rg [0, 1] ?_
    refine Rp rfl Z49 ?_
    refine Rp rfl Z1 ?_
    refine RunTo.nil ?_
    refine Ev.unroll ?_
    refine Ev.seq ?_
    refine Ev.rg [0] ?_
    refine Rp rfl Z18 ?_
    refine RunTo.nil ?_
    refine Ev.seq ?_
    refine Ev.condF Z1 ?_
    refine Ev.exit ?_
    refine thenE_ext ?_
    refine thenE_ext ?_
    refine inBlock_pos ?_
    refine Ev.seq ?_
    refine Ev.rg [0, 1, 2] ?_
    refine Rp rfl Z1 ?_
    refine RunTo.freeM rfl (RunOn.callL hI rfl rfl (by decide) Z1 Z1 (by simp only [List.nil_append, List.append_nil, List.cons_append]; exact c325 p T h325 (0 + 1 + 0) (by omega) (by omega) _ 0 rfl (by decide)) ?_)
    rintro _ _ _ hp1 ⟨rfl, rfl, rfl⟩ hI1
    simp only [List.cons_append, List.nil_append, List.length_cons, List.length_nil, Nat.zero_add, Nat.reduceAdd] at hI1
    refine Rp rfl Z1 ?_
    refine RunTo.nil ?_
    refine Ev.seq ?_
    refine Ev.seq ?_
    refine Ev.rg [0, 1, 2] ?_
    refine Rp rfl Z1 ?_
    refine Rp rfl Z48 ?_
    refine Rp rfl Z1 ?_
    refine RunTo.nil ?_
    refine Ev.block ?_
    refine Ev.unroll ?_
    refine Ev.seq ?_
    refine Ev.rg [0] ?_
    refine Rp rfl Z25 ?_
    refine RunTo.nil ?_
    refine Ev.seq ?_
    refine Ev.condT Z1 ?_
    refine Ev.skip ?_
    refine Ev.seq ?_
    refine Ev.block ?_
    refine Ev.seq ?_
    refine Ev.rg [0, 1, 2] ?_
    refine Rp rfl Z32 ?_
    refine Rl rfl Z13 ?_
    refine Rp rfl Z1 ?_
    refine RunTo.nil ?_
    refine Ev.rg [0, 1, 2, 3] ?_
    refine Rp rfl Z1 ?_
    refine Rp rfl Z1 ?_
    refine RunTo.freeM rfl (RunOn.appL (n := 3) hI1 rfl rfl (by decide) rfl rfl rfl (by kernel_rfl) (by kernel_rfl) Z1 Z1 Z96 Z97 ?_)
    intro hp2 hI2
    simp only [List.cons_append, List.nil_append] at hI2
    refine Rp rfl Z1 ?_
    refine RunTo.nil ?_
    refine Ev.rg [0, 1] ?_
    refine Rp rfl Z38 ?_
    refine Rp rfl Z1 ?_
    refine RunTo.nil ?_
    refine Ev.unroll ?_
    refine Ev.seq ?_
    refine Ev.rg [0] ?_
    refine Rp rfl Z25 ?_
    refine RunTo.nil ?_
    refine Ev.seq ?_
    refine Ev.condT Z1 ?_
    refine Ev.skip ?_
    refine Ev.seq ?_
    refine Ev.block ?_
    refine Ev.seq ?_
    refine Ev.rg [0, 1, 2] ?_
    refine Rp rfl Z32 ?_
    refine Rl rfl Z13 ?_
    refine Rp rfl Z1 ?_
    refine RunTo.nil ?_
    refine Ev.rg [0, 1, 2, 3] ?_
    refine Rp rfl Z1 ?_
    refine Rp rfl Z1 ?_
    refine RunTo.freeM rfl (RunOn.appL (n := 3) hI2 rfl rfl (by decide) rfl rfl rfl (by kernel_rfl) (by kernel_rfl) Z1 Z1 Z75 (by exact appL_put (by rfl) Z81 Z82 (by simp; try (first | exact ha | exact hc)) (rgC_one _) (rgC_len _) (by simp)) ?_)
    intro hp3 hI3
    simp only [List.cons_append, List.nil_append] at hI3
    have f3 : Eng.setMany (([] : List AV) ++ repA [i64 0, i64 0, i64 0] (0 + 1 + 0)) (0 + 0 * 3) (rgC [r]) = (rgC [r]) ++ repA [i64 0, i64 0, i64 0] ((0 + 1 + 0) - 1) := by
      rw [fill_pad _ _ _ _ 1 _ Z54 Z54 (by omega)]
      simp [rgC_append, rgC]
    rw [List.nil_append] at f3
    rw [f3] at hI3
    refine Rp rfl Z1 ?_
    refine RunTo.nil ?_
    refine Ev.rg [0, 1] ?_
    refine Rp rfl Z74 ?_
    refine Rp rfl Z1 ?_
    refine RunTo.nil ?_
    refine Ev.unroll ?_
    refine Ev.seq ?_
    refine Ev.rg [0] ?_
    refine Rp rfl Z25 ?_
    refine RunTo.nil ?_
    refine Ev.seq ?_
    refine Ev.condT Z1 ?_
    refine Ev.skip ?_
    refine Ev.seq ?_
    refine Ev.block ?_
    refine Ev.seq ?_
    refine Ev.rg [0, 1, 2] ?_
    refine Rp rfl Z32 ?_
    refine Rl rfl Z13 ?_
    refine Rp rfl Z1 ?_
    refine RunTo.nil ?_
    refine Ev.rg [0, 1, 2, 3] ?_
    refine Rp rfl Z1 ?_
    refine Rp rfl Z1 ?_
    refine RunTo.freeM rfl (RunOn.appL (n := 3) hI3 rfl rfl (by decide) rfl rfl rfl (by kernel_rfl) (by kernel_rfl) Z1 Z1 Z96 Z97 ?_)
    intro hp4 hI4
    simp only [List.cons_append, List.nil_append] at hI4
    refine Rp rfl Z1 ?_
    refine RunTo.nil ?_
    refine Ev.rg [0, 1] ?_
    refine Rp rfl Z49 ?_
    refine Rp rfl Z1 ?_
    refine RunTo.nil ?_
    refine Ev.unroll ?_
    refine Ev.seq ?_
    refine Ev.rg [0] ?_
    refine Rp rfl Z18 ?_
    refine RunTo.nil ?_
    refine Ev.seq ?_
    refine Ev.condF Z1 ?_
    refine Ev.exit ?_
    refine thenE_ext ?_
    refine thenE_ext ?_
    refine inBlock_pos ?_
    refine Ev.seq ?_
    refine Ev.rg [0, 1] ?_
    refine Rp rfl Z1 ?_
    refine Rp rfl Z1 ?_
    refine RunTo.nil ?_
    refine Ev.ret ⟨.inr rfl, _, res1, ?_⟩
    simp only [lk_up, lk_lf, Nat.reduceEqDiff, Nat.reduceLT, reduceIte, if_true, if_false, Nat.zero_add, i64, bo, u8, nilS, List.take_succ_cons, List.take_zero, List.drop_zero, List.drop_succ_cons]
    subst ha; subst hc
    exact frz_pad (bs := [r]) (hI4.wlSet _) (by rfl) (by simp) (by simp)
  · rw [if_pos ha, if_neg hc]
    show CallTo _ _ [.ro false [nilS, rgV false [r] (some 1), rgV false beh none] 3 (some 3) 1] _ _
    have hsum : ((1 : Int) + (beh.length : Int)) = ((0 + 1 + beh.length : Nat) : Int) := by omega
    refine CallTo.body (c := (Tryz.f290.body.getD .skip)) (nt := 36) (rs := #[.tmp 2]) (by assumption) (by kernel_rfl) ⟨by simp, by decide⟩ ?_
    show Ev _ (Code.seq _ _) _ _
    simp only [tmOf_cons, tmOf_nil, i64, bo, u8, nilS, Nat.zero_add, Nat.reduceAdd]
    refine Ev.seq ?_
    refine Ev.rg [0] ?_
    refine Rp rfl Z1 ?_
    refine RunTo.nil ?_
    refine Ev.seq ?_
    refine Ev.rg [0] ?_
    refine Rp rfl Z1 ?_
    refine RunTo.nil ?_
    refine Ev.seq ?_
    refine Ev.seq ?_
    refine Ev.rg [0, 1, 2] ?_
    refine Rp rfl Z1 ?_
    refine Rp rfl Z48 ?_
    refine Rp rfl Z1 ?_
    refine RunTo.nil ?_
    refine Ev.block ?_
    refine Ev.unroll ?_
    refine Ev.seq ?_
    refine Ev.rg [0] ?_
    refine Rp rfl Z25 ?_
    refine RunTo.nil ?_
    refine Ev.seq ?_
    refine Ev.condT Z1 ?_
    refine Ev.skip ?_
    refine Ev.seq ?_
    refine Ev.block ?_
    refine Ev.seq ?_
    refine Ev.rg [0, 1, 2] ?_
    refine Rp rfl Z32 ?_
    refine Rl rfl Z13 ?_
    refine Rp rfl Z1 ?_
    refine RunTo.nil ?_
    refine Ev.seq ?_
    refine Ev.rg [0, 1, 2, 3, 4] ?_
    refine Rp rfl Z1 ?_
    refine Rp rfl Z1 ?_
    refine Rp rfl Z47 ?_
    refine Rp rfl Z57 ?_
    refine Rp rfl Z1 ?_
    refine RunTo.nil ?_
    refine Ev.seq ?_
    refine Ev.rg [0, 1] ?_
    refine Rp rfl Z1 ?_
    refine Rp rfl Z18 ?_
    refine RunTo.nil ?_
    refine Ev.condF Z1 ?_
    refine Ev.skip ?_
    refine Ev.rg [0, 1] ?_
    refine Rp rfl Z38 ?_
    refine Rp rfl Z1 ?_
    refine RunTo.nil ?_
    refine Ev.unroll ?_
    refine Ev.seq ?_
    refine Ev.rg [0] ?_
    refine Rp rfl Z25 ?_
    refine RunTo.nil ?_
    refine Ev.seq ?_
    refine Ev.condT Z1 ?_
    refine Ev.skip ?_
    refine Ev.seq ?_
    refine Ev.block ?_
    refine Ev.seq ?_
    refine Ev.rg [0, 1, 2] ?_
    refine Rp rfl Z32 ?_
    refine Rl rfl Z13 ?_
    refine Rp rfl Z1 ?_
    refine RunTo.nil ?_
    refine Ev.seq ?_
    refine Ev.rg [0, 1, 2, 3, 4] ?_
    refine Rp rfl Z1 ?_
    refine Rp rfl Z1 ?_
    refine Rp rfl Z33 ?_
    refine Rp rfl Z38 ?_
    refine Rp rfl Z1 ?_
    refine RunTo.nil ?_
    refine Ev.seq ?_
    refine Ev.rg [0, 1] ?_
    refine Rp rfl Z1 ?_
    refine Rp rfl Z18 ?_
    refine RunTo.nil ?_
    refine Ev.condF Z1 ?_
    refine Ev.skip ?_
    refine Ev.rg [0, 1] ?_
    refine Rp rfl Z74 ?_
    refine Rp rfl Z1 ?_
    refine RunTo.nil ?_
    refine Ev.unroll ?_
    refine Ev.seq ?_
    refine Ev.rg [0] ?_
    refine Rp rfl Z25 ?_
    refine RunTo.nil ?_
    refine Ev.seq ?_
    refine Ev.condT Z1 ?_
    refine Ev.skip ?_
    refine Ev.seq ?_
    refine Ev.block ?_
    refine Ev.seq ?_
    refine Ev.rg [0, 1, 2] ?_
    refine Rp rfl Z32 ?_
    refine Rl rfl Z13 ?_
    refine Rp rfl Z1 ?_
    refine RunTo.nil ?_
    refine Ev.seq ?_
    refine Ev.rg [0, 1, 2, 3, 4] ?_
    refine Rp rfl Z1 ?_
    refine Rp rfl Z1 ?_
    refine Rp rfl Z33 ?_
    refine Rp rfl Z34 ?_
    refine Rp rfl Z1 ?_
    refine RunTo.nil ?_
    refine Ev.seq ?_
    refine Ev.rg [0, 1] ?_
    refine Rp rfl Z1 ?_
    refine Rp rfl Z18 ?_
    refine RunTo.nil ?_
    refine Ev.condF Z1 ?_
    refine Ev.skip ?_
    refine Ev.rg [0, 1] ?_
    refine Rp rfl Z49 ?_
    refine Rp rfl Z1 ?_
    refine RunTo.nil ?_
    refine Ev.unroll ?_
    refine Ev.seq ?_
    refine Ev.rg [0] ?_
    refine Rp rfl Z18 ?_
    refine RunTo.nil ?_
    refine Ev.seq ?_
    refine Ev.condF Z1 ?_
    refine Ev.exit ?_
    refine thenE_ext ?_
    refine thenE_ext ?_
    refine inBlock_pos ?_
    refine Ev.seq ?_
    refine Ev.rg [0, 1, 2] ?_
    refine Rp rfl Z1 ?_
    rw [hsum]
    refine RunTo.freeM rfl (RunOn.callL hI rfl rfl (by decide) Z1 Z1 (by simp only [List.nil_append, List.append_nil, List.cons_append]; exact c325 p T h325 (0 + 1 + beh.length) (by omega) (by omega) _ 0 rfl (by decide)) ?_)
    rintro _ _ _ hp1 ⟨rfl, rfl, rfl⟩ hI1
    simp only [List.cons_append, List.nil_append, List.length_cons, List.length_nil, Nat.zero_add, Nat.reduceAdd] at hI1
    refine Rp rfl Z1 ?_
    refine RunTo.nil ?_
    refine Ev.seq ?_
    refine Ev.seq ?_
    refine Ev.rg [0, 1, 2] ?_
    refine Rp rfl Z1 ?_
    refine Rp rfl Z48 ?_
    refine Rp rfl Z1 ?_
    refine RunTo.nil ?_
    refine Ev.block ?_
    refine Ev.unroll ?_
    refine Ev.seq ?_
    refine Ev.rg [0] ?_
    refine Rp rfl Z25 ?_
    refine RunTo.nil ?_
    refine Ev.seq ?_
    refine Ev.condT Z1 ?_
    refine Ev.skip ?_
    refine Ev.seq ?_
    refine Ev.block ?_
    refine Ev.seq ?_
    refine Ev.rg [0, 1, 2] ?_
    refine Rp rfl Z32 ?_
    refine Rl rfl Z13 ?_
    refine Rp rfl Z1 ?_
    refine RunTo.nil ?_
    refine Ev.rg [0, 1, 2, 3] ?_
    refine Rp rfl Z1 ?_
    refine Rp rfl Z1 ?_
    refine RunTo.freeM rfl (RunOn.appL (n := 3) hI1 rfl rfl (by decide) rfl rfl rfl (by kernel_rfl) (by kernel_rfl) Z1 Z1 Z96 Z97 ?_)
    intro hp2 hI2
    simp only [List.cons_append, List.nil_append] at hI2
    refine Rp rfl Z1 ?_
    refine RunTo.nil ?_
    refine Ev.rg [0, 1] ?_
    refine Rp rfl Z38 ?_
    refine Rp rfl Z1 ?_
    refine RunTo.nil ?_
    refine Ev.unroll ?_
    refine Ev.seq ?_
    refine Ev.rg [0] ?_
    refine Rp rfl Z25 ?_
    refine RunTo.nil ?_
    refine Ev.seq ?_
    refine Ev.condT Z1 ?_
    refine Ev.skip ?_
    refine Ev.seq ?_
    refine Ev.block ?_
    refine Ev.seq ?_
    refine Ev.rg [0, 1, 2] ?_
    refine Rp rfl Z32 ?_
    refine Rl rfl Z13 ?_
    refine Rp rfl Z1 ?_
    refine RunTo.nil ?_
    refine Ev.rg [0, 1, 2, 3] ?_
    refine Rp rfl Z1 ?_
    refine Rp rfl Z1 ?_
    refine RunTo.freeM rfl (RunOn.appL (n := 3) hI2 rfl rfl (by decide) rfl rfl rfl (by kernel_rfl) (by kernel_rfl) Z1 Z1 Z75 (by exact appL_put (by rfl) Z81 Z82 (by simp; try (first | exact ha | exact hc)) (rgC_one _) (rgC_len _) (by simp)) ?_)
    intro hp3 hI3
    simp only [List.cons_append, List.nil_append] at hI3
    have f3 : Eng.setMany (([] : List AV) ++ repA [i64 0, i64 0, i64 0] (0 + 1 + beh.length)) (0 + 0 * 3) (rgC [r]) = (rgC [r]) ++ repA [i64 0, i64 0, i64 0] ((0 + 1 + beh.length) - 1) := by
      rw [fill_pad _ _ _ _ 1 _ Z54 Z54 (by omega)]
      simp [rgC_append, rgC]
    rw [List.nil_append] at f3
    rw [f3] at hI3
    refine Rp rfl Z1 ?_
    refine RunTo.nil ?_
    refine Ev.rg [0, 1] ?_
    refine Rp rfl Z74 ?_
    refine Rp rfl Z1 ?_
    refine RunTo.nil ?_
    refine Ev.unroll ?_
    refine Ev.seq ?_
    refine Ev.rg [0] ?_
    refine Rp rfl Z25 ?_
    refine RunTo.nil ?_
    refine Ev.seq ?_
    refine Ev.condT Z1 ?_
    refine Ev.skip ?_
    refine Ev.seq ?_
    refine Ev.block ?_
    refine Ev.seq ?_
    refine Ev.rg [0, 1, 2] ?_
    refine Rp rfl Z32 ?_
    refine Rl rfl Z13 ?_
    refine Rp rfl Z1 ?_
    refine RunTo.nil ?_
    refine Ev.rg [0, 1, 2, 3] ?_
    refine Rp rfl Z1 ?_
    refine Rp rfl Z1 ?_
    refine RunTo.freeM rfl (RunOn.appL (n := 3) hI3 rfl rfl (by decide) rfl rfl rfl (by kernel_rfl) (by kernel_rfl) Z1 Z1 Z75 (by exact appL_put (by rfl) Z81 Z82 (by simp; try (first | exact ha | exact hc)) (rgC_one _) (rgC_len _) (by simp)) ?_)
    intro hp4 hI4
    simp only [List.cons_append, List.nil_append] at hI4
    have f4 : Eng.setMany (rgC [r] ++ repA [i64 0, i64 0, i64 0] ((0 + 1 + beh.length) - 1)) (0 + ([r] : List Rg).length * 3) (rgC beh) = (rgC (r :: beh)) ++ repA [i64 0, i64 0, i64 0] (((0 + 1 + beh.length) - 1) - beh.length) := by
      rw [fill_pad _ _ _ _ beh.length _ Z54 Z54 (by omega)]
      simp [rgC_append, rgC]
    rw [f4] at hI4
    refine Rp rfl Z1 ?_
    refine RunTo.nil ?_
    refine Ev.rg [0, 1] ?_
    refine Rp rfl Z49 ?_
    refine Rp rfl Z1 ?_
    refine RunTo.nil ?_
    refine Ev.unroll ?_
    refine Ev.seq ?_
    refine Ev.rg [0] ?_
    refine Rp rfl Z18 ?_
    refine RunTo.nil ?_
    refine Ev.seq ?_
    refine Ev.condF Z1 ?_
    refine Ev.exit ?_
    refine thenE_ext ?_
    refine thenE_ext ?_
    refine inBlock_pos ?_
    refine Ev.seq ?_
    refine Ev.rg [0, 1] ?_
    refine Rp rfl Z1 ?_
    refine Rp rfl Z1 ?_
    refine RunTo.nil ?_
    refine Ev.ret ⟨.inr rfl, _, res1, ?_⟩
    simp only [lk_up, lk_lf, Nat.reduceEqDiff, Nat.reduceLT, reduceIte, if_true, if_false, Nat.zero_add, i64, bo, u8, nilS, List.take_succ_cons, List.take_zero, List.drop_zero, List.drop_succ_cons]
    subst ha
    exact frz_pad (bs := r :: beh) (hI4.wlSet _) (by rfl) (by simp) (by simp; omega)
  · rw [if_neg ha, if_pos hc]
    show CallTo _ _ [.ro false [rgV false bef none, rgV false [r] (some 1), nilS] 3 (some 3) 1] _ _
    have hsum : ((0 : Int) + (bef.length : Int) + (([r] : List Rg).length : Int) + 0) = ((bef.length + 1 + 0) : Nat) := by omega
    refine CallTo.body (c := (Tryz.f290.body.getD .skip)) (nt := 36) (rs := #[.tmp 2]) (by assumption) (by kernel_rfl) ⟨by simp, by decide⟩ ?_
    show Ev _ (Code.seq _ _) _ _
    simp only [tmOf_cons, tmOf_nil, i64, bo, u8, nilS, Nat.zero_add, Nat.reduceAdd]
    refine Ev.seq ?_
    refine Ev.rg [0] ?_
    refine Rp rfl Z1 ?_
    refine RunTo.nil ?_
    refine Ev.seq ?_
    refine Ev.rg [0] ?_
    refine Rp rfl Z1 ?_
    refine RunTo.nil ?_
    refine Ev.seq ?_
    refine Ev.seq ?_
    refine Ev.rg [0, 1, 2] ?_
    refine Rp rfl Z1 ?_
    refine Rp rfl Z48 ?_
    refine Rp rfl Z1 ?_
    refine RunTo.nil ?_
    refine Ev.block ?_
    refine Ev.unroll ?_
    refine Ev.seq ?_
    refine Ev.rg [0] ?_
    refine Rp rfl Z25 ?_
    refine RunTo.nil ?_
    refine Ev.seq ?_
    refine Ev.condT Z1 ?_
    refine Ev.skip ?_
    refine Ev.seq ?_
    refine Ev.block ?_
    refine Ev.seq ?_
    refine Ev.rg [0, 1, 2] ?_
    refine Rp rfl Z32 ?_
    refine Rl rfl Z13 ?_
    refine Rp rfl Z1 ?_
    refine RunTo.nil ?_
    refine Ev.seq ?_
    refine Ev.rg [0, 1, 2, 3, 4] ?_
    refine Rp rfl Z1 ?_
    refine Rp rfl Z1 ?_
    refine Rp rfl Z33 ?_
    refine Rp rfl Z34 ?_
    refine Rp rfl Z1 ?_
    refine RunTo.nil ?_
    refine Ev.seq ?_
    refine Ev.rg [0, 1] ?_
    refine Rp rfl Z1 ?_
    refine Rp rfl Z18 ?_
    refine RunTo.nil ?_
    refine Ev.condF Z1 ?_
    refine Ev.skip ?_
    refine Ev.rg [0, 1] ?_
    refine Rp rfl Z38 ?_
    refine Rp rfl Z1 ?_
    refine RunTo.nil ?_
    refine Ev.unroll ?_
    refine Ev.seq ?_
    refine Ev.rg [0] ?_
    refine Rp rfl Z25 ?_
    refine RunTo.nil ?_
    refine Ev.seq ?_
    refine Ev.condT Z1 ?_
    refine Ev.skip ?_
    refine Ev.seq ?_
    refine Ev.block ?_
    refine Ev.seq ?_
    refine Ev.rg [0, 1, 2] ?_
    refine Rp rfl Z32 ?_
    refine Rl rfl Z13 ?_
    refine Rp rfl Z1 ?_
    refine RunTo.nil ?_
    refine Ev.seq ?_
    refine Ev.rg [0, 1, 2, 3, 4] ?_
    refine Rp rfl Z1 ?_
    refine Rp rfl Z1 ?_
    refine Rp rfl Z33 ?_
    refine Rp rfl Z34 ?_
    refine Rp rfl Z1 ?_
    refine RunTo.nil ?_
    refine Ev.seq ?_
    refine Ev.rg [0, 1] ?_
    refine Rp rfl Z1 ?_
    refine Rp rfl Z18 ?_
    refine RunTo.nil ?_
    refine Ev.condF Z1 ?_
    refine Ev.skip ?_
    refine Ev.rg [0, 1] ?_
    refine Rp rfl Z74 ?_
    refine Rp rfl Z1 ?_
    refine RunTo.nil ?_
    refine Ev.unroll ?_
    refine Ev.seq ?_
    refine Ev.rg [0] ?_
    refine Rp rfl Z25 ?_
    refine RunTo.nil ?_
    refine Ev.seq ?_
    refine Ev.condT Z1 ?_
    refine Ev.skip ?_
    refine Ev.seq ?_
    refine Ev.block ?_
    refine Ev.seq ?_
    refine Ev.rg [0, 1, 2] ?_
    refine Rp rfl Z32 ?_
    refine Rl rfl Z13 ?_
    refine Rp rfl Z1 ?_
    refine RunTo.nil ?_
    refine Ev.seq ?_
    refine Ev.rg [0, 1, 2, 3, 4] ?_
    refine Rp rfl Z1 ?_
    refine Rp rfl Z1 ?_
    refine Rp rfl Z47 ?_
    refine Rp rfl Z34 ?_
    refine Rp rfl Z1 ?_
    refine RunTo.nil ?_
    refine Ev.seq ?_
    refine Ev.rg [0, 1] ?_
    refine Rp rfl Z1 ?_
    refine Rp rfl Z18 ?_
    refine RunTo.nil ?_
    refine Ev.condF Z1 ?_
    refine Ev.skip ?_
    refine Ev.rg [0, 1] ?_
    refine Rp rfl Z49 ?_
    refine Rp rfl Z1 ?_
    refine RunTo.nil ?_
    refine Ev.unroll ?_
    refine Ev.seq ?_
    refine Ev.rg [0] ?_
    refine Rp rfl Z18 ?_
    refine RunTo.nil ?_
    refine Ev.seq ?_
    refine Ev.condF Z1 ?_
    refine Ev.exit ?_
    refine thenE_ext ?_
    refine thenE_ext ?_
    refine inBlock_pos ?_
    refine Ev.seq ?_
    refine Ev.rg [0, 1, 2] ?_
    refine Rp rfl Z1 ?_
    rw [hsum]
    refine RunTo.freeM rfl (RunOn.callL hI rfl rfl (by decide) Z1 Z1 (by simp only [List.nil_append, List.append_nil, List.cons_append]; exact c325 p T h325 (bef.length + 1 + 0) (by omega) (by omega) _ 0 rfl (by decide)) ?_)
    rintro _ _ _ hp1 ⟨rfl, rfl, rfl⟩ hI1
    simp only [List.cons_append, List.nil_append, List.length_cons, List.length_nil, Nat.zero_add, Nat.reduceAdd] at hI1
    refine Rp rfl Z1 ?_
    refine RunTo.nil ?_
    refine Ev.seq ?_
    refine Ev.seq ?_
    refine Ev.rg [0, 1, 2] ?_
    refine Rp rfl Z1 ?_
    refine Rp rfl Z48 ?_
    refine Rp rfl Z1 ?_
    refine RunTo.nil ?_
    refine Ev.block ?_
    refine Ev.unroll ?_
    refine Ev.seq ?_
    refine Ev.rg [0] ?_
    refine Rp rfl Z25 ?_
    refine RunTo.nil ?_
    refine Ev.seq ?_
    refine Ev.condT Z1 ?_
    refine Ev.skip ?_
    refine Ev.seq ?_
    refine Ev.block ?_
    refine Ev.seq ?_
    refine Ev.rg [0, 1, 2] ?_
    refine Rp rfl Z32 ?_
    refine Rl rfl Z13 ?_
    refine Rp rfl Z1 ?_
    refine RunTo.nil ?_
    refine Ev.rg [0, 1, 2, 3] ?_
    refine Rp rfl Z1 ?_
    refine Rp rfl Z1 ?_
    refine RunTo.freeM rfl (RunOn.appL (n := 3) hI1 rfl rfl (by decide) rfl rfl rfl (by kernel_rfl) (by kernel_rfl) Z1 Z1 Z75 (by exact appL_put (by rfl) Z81 Z82 (by simp; try (first | exact ha | exact hc)) (rgC_one _) (rgC_len _) (by simp)) ?_)
    intro hp2 hI2
    simp only [List.cons_append, List.nil_append] at hI2
    have f2 : Eng.setMany (([] : List AV) ++ repA [i64 0, i64 0, i64 0] (bef.length + 1 + 0)) (0 + 0 * 3) (rgC bef) = (rgC bef) ++ repA [i64 0, i64 0, i64 0] ((bef.length + 1 + 0) - bef.length) := by
      rw [fill_pad _ _ _ _ bef.length _ Z54 Z54 (by omega)]
      simp [rgC_append, rgC]
    rw [List.nil_append] at f2
    rw [f2] at hI2
    refine Rp rfl Z1 ?_
    refine RunTo.nil ?_
    refine Ev.rg [0, 1] ?_
    refine Rp rfl Z38 ?_
    refine Rp rfl Z1 ?_
    refine RunTo.nil ?_
    refine Ev.unroll ?_
    refine Ev.seq ?_
    refine Ev.rg [0] ?_
    refine Rp rfl Z25 ?_
    refine RunTo.nil ?_
    refine Ev.seq ?_
    refine Ev.condT Z1 ?_
    refine Ev.skip ?_
    refine Ev.seq ?_
    refine Ev.block ?_
    refine Ev.seq ?_
    refine Ev.rg [0, 1, 2] ?_
    refine Rp rfl Z32 ?_
    refine Rl rfl Z13 ?_
    refine Rp rfl Z1 ?_
    refine RunTo.nil ?_
    refine Ev.rg [0, 1, 2, 3] ?_
    refine Rp rfl Z1 ?_
    refine Rp rfl Z1 ?_
    refine RunTo.freeM rfl (RunOn.appL (n := 3) hI2 rfl rfl (by decide) rfl rfl rfl (by kernel_rfl) (by kernel_rfl) Z1 Z1 Z75 (by exact appL_put (by rfl) Z81 Z82 (by simp; try (first | exact ha | exact hc)) (rgC_one _) (rgC_len _) (by simp)) ?_)
    intro hp3 hI3
    simp only [List.cons_append, List.nil_append] at hI3
    have f3 : Eng.setMany (rgC bef ++ repA [i64 0, i64 0, i64 0] ((bef.length + 1 + 0) - bef.length)) (0 + bef.length * 3) (rgC [r]) = (rgC (bef ++ [r])) ++ repA [i64 0, i64 0, i64 0] (((bef.length + 1 + 0) - bef.length) - 1) := by
      rw [fill_pad _ _ _ _ 1 _ Z54 Z54 (by omega)]
      simp [rgC_append, rgC]
    rw [f3] at hI3
    refine Rp rfl Z1 ?_
    refine RunTo.nil ?_
    refine Ev.rg [0, 1] ?_
    refine Rp rfl Z74 ?_
    refine Rp rfl Z1 ?_
    refine RunTo.nil ?_
    refine Ev.unroll ?_
    refine Ev.seq ?_
    refine Ev.rg [0] ?_
    refine Rp rfl Z25 ?_
    refine RunTo.nil ?_
    refine Ev.seq ?_
    refine Ev.condT Z1 ?_
    refine Ev.skip ?_
    refine Ev.seq ?_
    refine Ev.block ?_
    refine Ev.seq ?_
    refine Ev.rg [0, 1, 2] ?_
    refine Rp rfl Z32 ?_
    refine Rl rfl Z13 ?_
    refine Rp rfl Z1 ?_
    refine RunTo.nil ?_
    refine Ev.rg [0, 1, 2, 3] ?_
    refine Rp rfl Z1 ?_
    refine Rp rfl Z1 ?_
    refine RunTo.freeM rfl (RunOn.appL (n := 3) hI3 rfl rfl (by decide) rfl rfl rfl (by kernel_rfl) (by kernel_rfl) Z1 Z1 Z96 Z97 ?_)
    intro hp4 hI4
    simp only [List.cons_append, List.nil_append] at hI4
    refine Rp rfl Z1 ?_
    refine RunTo.nil ?_
    refine Ev.rg [0, 1] ?_
    refine Rp rfl Z49 ?_
    refine Rp rfl Z1 ?_
    refine RunTo.nil ?_
    refine Ev.unroll ?_
    refine Ev.seq ?_
    refine Ev.rg [0] ?_
    refine Rp rfl Z18 ?_
    refine RunTo.nil ?_
    refine Ev.seq ?_
    refine Ev.condF Z1 ?_
    refine Ev.exit ?_
    refine thenE_ext ?_
    refine thenE_ext ?_
    refine inBlock_pos ?_
    refine Ev.seq ?_
    refine Ev.rg [0, 1] ?_
    refine Rp rfl Z1 ?_
    refine Rp rfl Z1 ?_
    refine RunTo.nil ?_
    refine Ev.ret ⟨.inr rfl, _, res1, ?_⟩
    simp only [lk_up, lk_lf, Nat.reduceEqDiff, Nat.reduceLT, reduceIte, if_true, if_false, Nat.zero_add, i64, bo, u8, nilS, List.take_succ_cons, List.take_zero, List.drop_zero, List.drop_succ_cons]
    subst hc
    have e : bef ++ r :: [] = bef ++ [r] := rfl
    exact frz_pad (bs := bef ++ [r]) (hI4.wlSet _) (by rfl) (by simp) (by simp)
  · rw [if_neg ha, if_neg hc]
    show CallTo _ _ [.ro false [rgV false bef none, rgV false [r] (some 1), rgV false beh none] 3 (some 3) 1] _ _
    have hsum : ((0 : Int) + (bef.length : Int) + (([r] : List Rg).length : Int) + (beh.length : Int)) = ((bef.length + 1 + beh.length) : Nat) := by omega
    refine CallTo.body (c := (Tryz.f290.body.getD .skip)) (nt := 36) (rs := #[.tmp 2]) (by assumption) (by kernel_rfl) ⟨by simp, by decide⟩ ?_
    show Ev _ (Code.seq _ _) _ _
    simp only [tmOf_cons, tmOf_nil, i64, bo, u8, nilS, Nat.zero_add, Nat.reduceAdd]
    refine Ev.seq ?_
    refine Ev.rg [0] ?_
    refine Rp rfl Z1 ?_
    refine RunTo.nil ?_
    refine Ev.seq ?_
    refine Ev.rg [0] ?_
    refine Rp rfl Z1 ?_
    refine RunTo.nil ?_
    refine Ev.seq ?_
    refine Ev.seq ?_
    refine Ev.rg [0, 1, 2] ?_
    refine Rp rfl Z1 ?_
    refine Rp rfl Z48 ?_
    refine Rp rfl Z1 ?_
    refine RunTo.nil ?_
    refine Ev.block ?_
    refine Ev.unroll ?_
    refine Ev.seq ?_
    refine Ev.rg [0] ?_
    refine Rp rfl Z25 ?_
    refine RunTo.nil ?_
    refine Ev.seq ?_
    refine Ev.condT Z1 ?_
    refine Ev.skip ?_
    refine Ev.seq ?_
    refine Ev.block ?_
    refine Ev.seq ?_
    refine Ev.rg [0, 1, 2] ?_
    refine Rp rfl Z32 ?_
    refine Rl rfl Z13 ?_
    refine Rp rfl Z1 ?_
    refine RunTo.nil ?_
    refine Ev.seq ?_
    refine Ev.rg [0, 1, 2, 3, 4] ?_
    refine Rp rfl Z1 ?_
    refine Rp rfl Z1 ?_
    refine Rp rfl Z33 ?_
    refine Rp rfl Z34 ?_
    refine Rp rfl Z1 ?_
    refine RunTo.nil ?_
    refine Ev.seq ?_
    refine Ev.rg [0, 1] ?_
    refine Rp rfl Z1 ?_
    refine Rp rfl Z18 ?_
    refine RunTo.nil ?_
    refine Ev.condF Z1 ?_
    refine Ev.skip ?_
    refine Ev.rg [0, 1] ?_
    refine Rp rfl Z38 ?_
    refine Rp rfl Z1 ?_
    refine RunTo.nil ?_
    refine Ev.unroll ?_
    refine Ev.seq ?_
    refine Ev.rg [0] ?_
    refine Rp rfl Z25 ?_
    refine RunTo.nil ?_
    refine Ev.seq ?_
    refine Ev.condT Z1 ?_
    refine Ev.skip ?_
    refine Ev.seq ?_
    refine Ev.block ?_
    refine Ev.seq ?_
    refine Ev.rg [0, 1, 2] ?_
    refine Rp rfl Z32 ?_
    refine Rl rfl Z13 ?_
    refine Rp rfl Z1 ?_
    refine RunTo.nil ?_
    refine Ev.seq ?_
    refine Ev.rg [0, 1, 2, 3, 4] ?_
    refine Rp rfl Z1 ?_
    refine Rp rfl Z1 ?_
    refine Rp rfl Z33 ?_
    refine Rp rfl Z34 ?_
    refine Rp rfl Z1 ?_
    refine RunTo.nil ?_
    refine Ev.seq ?_
    refine Ev.rg [0, 1] ?_
    refine Rp rfl Z1 ?_
    refine Rp rfl Z18 ?_
    refine RunTo.nil ?_
    refine Ev.condF Z1 ?_
    refine Ev.skip ?_
    refine Ev.rg [0, 1] ?_
    refine Rp rfl Z74 ?_
    refine Rp rfl Z1 ?_
    refine RunTo.nil ?_
    refine Ev.unroll ?_
    refine Ev.seq ?_
    refine Ev.rg [0] ?_
    refine Rp rfl Z25 ?_
    refine RunTo.nil ?_
    refine Ev.seq ?_
    refine Ev.condT Z1 ?_
    refine Ev.skip ?_
    refine Ev.seq ?_
    refine Ev.block ?_
    refine Ev.seq ?_
    refine Ev.rg [0, 1, 2] ?_
    refine Rp rfl Z32 ?_
    refine Rl rfl Z13 ?_
    refine Rp rfl Z1 ?_
    refine RunTo.nil ?_
    refine Ev.seq ?_
    refine Ev.rg [0, 1, 2, 3, 4] ?_
    refine Rp rfl Z1 ?_
    refine Rp rfl Z1 ?_
    refine Rp rfl Z33 ?_
    refine Rp rfl Z34 ?_
    refine Rp rfl Z1 ?_
    refine RunTo.nil ?_
    refine Ev.seq ?_
    refine Ev.rg [0, 1] ?_
    refine Rp rfl Z1 ?_
    refine Rp rfl Z18 ?_
    refine RunTo.nil ?_
    refine Ev.condF Z1 ?_
    refine Ev.skip ?_
    refine Ev.rg [0, 1] ?_
    refine Rp rfl Z49 ?_
    refine Rp rfl Z1 ?_
    refine RunTo.nil ?_
    refine Ev.unroll ?_
    refine Ev.seq ?_
    refine Ev.rg [0] ?_
    refine Rp rfl Z18 ?_
    refine RunTo.nil ?_
    refine Ev.seq ?_
    refine Ev.condF Z1 ?_
    refine Ev.exit ?_
    refine thenE_ext ?_
    refine thenE_ext ?_
    refine inBlock_pos ?_
    refine Ev.seq ?_
    refine Ev.rg [0, 1, 2] ?_
    refine Rp rfl Z1 ?_
    rw [hsum]
    refine RunTo.freeM rfl (RunOn.callL hI rfl rfl (by decide) Z1 Z1 (by simp only [List.nil_append, List.append_nil, List.cons_append]; exact c325 p T h325 (bef.length + 1 + beh.length) (by omega) (by omega) _ 0 rfl (by decide)) ?_)
    rintro _ _ _ hp1 ⟨rfl, rfl, rfl⟩ hI1
    simp only [List.cons_append, List.nil_append, List.length_cons, List.length_nil, Nat.zero_add, Nat.reduceAdd] at hI1
    refine Rp rfl Z1 ?_
    refine RunTo.nil ?_
    refine Ev.seq ?_
    refine Ev.seq ?_
    refine Ev.rg [0, 1, 2] ?_
    refine Rp rfl Z1 ?_
    refine Rp rfl Z48 ?_
    refine Rp rfl Z1 ?_
    refine RunTo.nil ?_
    refine Ev.block ?_
    refine Ev.unroll ?_
    refine Ev.seq ?_
    refine Ev.rg [0] ?_
    refine Rp rfl Z25 ?_
    refine RunTo.nil ?_
    refine Ev.seq ?_
    refine Ev.condT Z1 ?_
    refine Ev.skip ?_
    refine Ev.seq ?_
    refine Ev.block ?_
    refine Ev.seq ?_
    refine Ev.rg [0, 1, 2] ?_
    refine Rp rfl Z32 ?_
    refine Rl rfl Z13 ?_
    refine Rp rfl Z1 ?_
    refine RunTo.nil ?_
    refine Ev.rg [0, 1, 2, 3] ?_
    refine Rp rfl Z1 ?_
    refine Rp rfl Z1 ?_
    refine RunTo.freeM rfl (RunOn.appL (n := 3) hI1 rfl rfl (by decide) rfl rfl rfl (by kernel_rfl) (by kernel_rfl) Z1 Z1 Z75 (by exact appL_put (by rfl) Z81 Z82 (by simp; try (first | exact ha | exact hc)) (rgC_one _) (rgC_len _) (by simp)) ?_)
    intro hp2 hI2
    simp only [List.cons_append, List.nil_append] at hI2
    have f2 : Eng.setMany (([] : List AV) ++ repA [i64 0, i64 0, i64 0] (bef.length + 1 + beh.length)) (0 + 0 * 3) (rgC bef) = (rgC bef) ++ repA [i64 0, i64 0, i64 0] ((bef.length + 1 + beh.length) - bef.length) := by
      rw [fill_pad _ _ _ _ bef.length _ Z54 Z54 (by omega)]
      simp [rgC_append, rgC]
    rw [List.nil_append] at f2
    rw [f2] at hI2
    refine Rp rfl Z1 ?_
    refine RunTo.nil ?_
    refine Ev.rg [0, 1] ?_
    refine Rp rfl Z38 ?_
    refine Rp rfl Z1 ?_
    refine RunTo.nil ?_
    refine Ev.unroll ?_
    refine Ev.seq ?_
    refine Ev.rg [0] ?_
    refine Rp rfl Z25 ?_
    refine RunTo.nil ?_
    refine Ev.seq ?_
    refine Ev.condT Z1 ?_
    refine Ev.skip ?_
    refine Ev.seq ?_
    refine Ev.block ?_
    refine Ev.seq ?_
    refine Ev.rg [0, 1, 2] ?_
    refine Rp rfl Z32 ?_
    refine Rl rfl Z13 ?_
    refine Rp rfl Z1 ?_
    refine RunTo.nil ?_
    refine Ev.rg [0, 1, 2, 3] ?_
    refine Rp rfl Z1 ?_
    refine Rp rfl Z1 ?_
    refine RunTo.freeM rfl (RunOn.appL (n := 3) hI2 rfl rfl (by decide) rfl rfl rfl (by kernel_rfl) (by kernel_rfl) Z1 Z1 Z75 (by exact appL_put (by rfl) Z81 Z82 (by simp; try (first | exact ha | exact hc)) (rgC_one _) (rgC_len _) (by simp)) ?_)
    intro hp3 hI3
    simp only [List.cons_append, List.nil_append] at hI3
    have f3 : Eng.setMany (rgC bef ++ repA [i64 0, i64 0, i64 0] ((bef.length + 1 + beh.length) - bef.length)) (0 + bef.length * 3) (rgC [r]) = (rgC (bef ++ [r])) ++ repA [i64 0, i64 0, i64 0] (((bef.length + 1 + beh.length) - bef.length) - 1) := by
      rw [fill_pad _ _ _ _ 1 _ Z54 Z54 (by omega)]
      simp [rgC_append, rgC]
    rw [f3] at hI3
    refine Rp rfl Z1 ?_
    refine RunTo.nil ?_
    refine Ev.rg [0, 1] ?_
    refine Rp rfl Z74 ?_
    refine Rp rfl Z1 ?_
    refine RunTo.nil ?_
    refine Ev.unroll ?_
    refine Ev.seq ?_
    refine Ev.rg [0] ?_
    refine Rp rfl Z25 ?_
    refine RunTo.nil ?_
    refine Ev.seq ?_
    refine Ev.condT Z1 ?_
    refine Ev.skip ?_
    refine Ev.seq ?_
    refine Ev.block ?_
    refine Ev.seq ?_
    refine Ev.rg [0, 1, 2] ?_
    refine Rp rfl Z32 ?_
    refine Rl rfl Z13 ?_
    refine Rp rfl Z1 ?_
    refine RunTo.nil ?_
    refine Ev.rg [0, 1, 2, 3] ?_
    refine Rp rfl Z1 ?_
    refine Rp rfl Z1 ?_
    refine RunTo.freeM rfl (RunOn.appL (n := 3) hI3 rfl rfl (by decide) rfl rfl rfl (by kernel_rfl) (by kernel_rfl) Z1 Z1 Z75 (by exact appL_put (by rfl) Z81 Z82 (by simp; try (first | exact ha | exact hc)) (rgC_one _) (rgC_len _) (by simp)) ?_)
    intro hp4 hI4
    simp only [List.cons_append, List.nil_append] at hI4
    have f4 : Eng.setMany (rgC (bef ++ [r]) ++ repA [i64 0, i64 0, i64 0] (((bef.length + 1 + beh.length) - bef.length) - 1)) (0 + (bef.length + ([r] : List Rg).length) * 3) (rgC beh) = (rgC (bef ++ [r] ++ beh)) ++ repA [i64 0, i64 0, i64 0] ((((bef.length + 1 + beh.length) - bef.length) - 1) - beh.length) := by
      rw [fill_pad _ _ _ _ beh.length _ Z54 Z54 (by omega)]
      simp [rgC_append, rgC]
    rw [f4] at hI4
    refine Rp rfl Z1 ?_
    refine RunTo.nil ?_
    refine Ev.rg [0, 1] ?_
    refine Rp rfl Z49 ?_
    refine Rp rfl Z1 ?_
    refine RunTo.nil ?_
    refine Ev.unroll ?_
    refine Ev.seq ?_
    refine Ev.rg [0] ?_
    refine Rp rfl Z18 ?_
    refine RunTo.nil ?_
    refine Ev.seq ?_
    refine Ev.condF Z1 ?_
    refine Ev.exit ?_
    refine thenE_ext ?_
    refine thenE_ext ?_
    refine inBlock_pos ?_
    refine Ev.seq ?_
    refine Ev.rg [0, 1] ?_
    refine Rp rfl Z1 ?_
    refine Rp rfl Z1 ?_
    refine RunTo.nil ?_
    refine Ev.ret ⟨.inr rfl, _, res1, ?_⟩
    simp only [lk_up, lk_lf, Nat.reduceEqDiff, Nat.reduceLT, reduceIte, if_true, if_false, Nat.zero_add, i64, bo, u8, nilS, List.take_succ_cons, List.take_zero, List.drop_zero, List.drop_succ_cons]
    have e : bef ++ r :: beh = bef ++ [r] ++ beh := by simp
    rw [e]
    exact frz_pad (bs := bef ++ [r] ++ beh) (hI4.wlSet _) (by rfl) (by simp) (by simp; omega)
end
end Go.Eng
end
section
set_option linter.unusedVariables false
set_option linter.unusedSimpArgs false
set_option maxRecDepth 100000
set_option maxHeartbeats 4000000
namespace Go.Eng
open Go Go.RowKit Go.Proofs
section
variable (p : Poly) (T : List (Nat × (List AV → Option AV)))
theorem w226 (h : (envL p T).sp 226 = none) (h289 : (envL p T).sp 289 = some (treeSp F289)) (h290 : (envL p T).sp 290 = some (treeSp F290)) (l : List Rg) (c : Option Nat) (r0 : Rg) (hn : Nrm l) (hr : r0.1 < r0.2) (hl2 : l.length ≤ 800) (h4 : r0.2 ≤ 65535) (h5 : endG l ≤ 65535) : CallTo (envL p T) 226 [rgV false l c, .agg [i64 0, i64 r0.1, i64 r0.2]] Hp.empty fun v hp' => frz true hp' 20 v = some (.tup [rgV true (unionG l [] [] r0) none, i64 0]) := by
  have hI := IsH.empty
  have hone : F289 [rgV false [r0] (some 1)] = some (bo true) := F289_eq (Nrm.one hr) (by simp)
  refine CallTo.body (c := (Tryz.f226.body.getD .skip)) (nt := 67) (rs := #[.tmp 4, .tmp 5]) (by assumption) (by kernel_rfl) ⟨by simp, by decide⟩ ?_
  show Ev _ (Code.seq _ _) _ _
  simp only [tmOf_cons, tmOf_nil, i64, bo, u8, nilS, Nat.zero_add, Nat.reduceAdd]
  refine Ev.seq ?_
  refine Ev.rg [0, 1, 2] ?_
  refine RunTo.freeM rfl (RunOn.madeL (k := 0) hI rfl rfl (by decide) rfl Z15 Z5 ?_)
  intro hp1 hI1
  simp only [List.cons_append, List.nil_append, evc, repA, Eng.setMany, List.set_cons_zero, List.set_cons_succ, Nat.zero_mul, Nat.one_mul, List.take_succ_cons, List.take_zero, List.drop_zero, List.drop_succ_cons, Nat.zero_add, Nat.reduceAdd, Nat.reduceMul] at hI1
  refine Rp rfl Z1 ?_
  refine Rp rfl Z1 ?_
  refine RunTo.nil ?_
  refine Ev.seq ?_
  refine Ev.seq ?_
  refine Ev.rg [0, 1, 2, 3, 4, 5, 6, 7, 8] ?_
  refine Rp rfl Z1 ?_
  refine RunTo.freeM rfl (RunOn.tree rfl rfl (by decide) Z1 Z1 (by assumption) Z8 (by exact F289_eq hn (by omega)) ?_)
  refine Rp rfl Z16 ?_
  refine Rp rfl Z1 ?_
  refine Gl rfl rfl Z2 Z133 ?_
  refine RunTo.guardOnM rfl rfl (by decide) Z2 (RunOn.madeL (k := 1) hI1 rfl rfl (by decide) rfl Z98 Z5 ?_)
  intro hp2 hI2
  simp only [List.cons_append, List.nil_append, evc, repA, Eng.setMany, List.set_cons_zero, List.set_cons_succ, Nat.zero_mul, Nat.one_mul, List.take_succ_cons, List.take_zero, List.drop_zero, List.drop_succ_cons, Nat.zero_add, Nat.reduceAdd, Nat.reduceMul] at hI2
  refine RunTo.guardOnM rfl rfl (by decide) Z2 (RunOn.tree rfl rfl (by decide) Z1 Z1 (by assumption) Z8 (by exact hone) ?_)
  refine Gp rfl rfl Z2 Z16 ?_
  refine Rp rfl Z1 ?_
  refine RunTo.nil ?_
  refine Ev.condF Z1 ?_
  refine Ev.skip ?_
  refine Ev.seq ?_
  refine Ev.rg [0, 1] ?_
  refine Rp rfl Z1 ?_
  refine Rp rfl Z1 ?_
  refine RunTo.nil ?_
  refine Ev.seq ?_
  refine Ev.seq ?_
  refine Ev.rg [0, 1, 2] ?_
  refine Rp rfl Z1 ?_
  refine Rp rfl Z33 ?_
  refine Rp rfl Z1 ?_
  refine RunTo.nil ?_
  refine Ev.block ?_
  refine Ev.loop (fun (x : List Rg × List Rg × List Rg × List Rg × Rg × Nat × Nat) s => l = x.1 ++ x.2.1 ∧ unionG l [] [] r0 = unionG x.2.1 x.2.2.1 x.2.2.2.1 x.2.2.2.2.1 ∧ ∃ tm hp L w, s = ⟨67, tm, hp⟩ ∧ IsH hp L w ∧ L.length ≤ 2 + 4 * x.1.length ∧ x.2.2.1.length ≤ x.1.length ∧ x.2.2.2.1.length ≤ x.1.length ∧ L[0]? = some (some [.sc (.int .i64 0), .sc (.int .i64 x.2.2.2.2.1.1), .sc (.int .i64 x.2.2.2.2.1.2)])
    ∧ (0 < x.2.2.2.2.2.1 ∧ 0 < x.2.2.2.2.2.2 ∧ x.2.2.2.2.2.1 ≠ x.2.2.2.2.2.2 ∧ x.2.2.2.2.2.1 ≤ L.length ∧ x.2.2.2.2.2.2 ≤ L.length) ∧ ((x.2.2.1 = [] ∧ lk tm 6 = .sc (.slice none 0 0)) ∨ (x.2.2.1 ≠ [] ∧ lk tm 6 = .sl x.2.2.2.2.2.1 0 x.2.2.1.length none 3 ∧ L[x.2.2.2.2.2.1]? = some (some (rgC x.2.2.1)))) ∧ ((x.2.2.2.1 = [] ∧ lk tm 7 = .sc (.slice none 0 0)) ∨ (x.2.2.2.1 ≠ [] ∧ lk tm 7 = .sl x.2.2.2.2.2.2 0 x.2.2.2.1.length none 3 ∧ L[x.2.2.2.2.2.2]? = some (some (rgC x.2.2.2.1)))) ∧ lk tm 3 = .ptr 0 0 ∧ lk tm 19 = rgV false l c ∧ lk tm 20 = .sc (.int .i64 l.length) ∧ lk tm 21 = .sc (.int .i64 x.1.length)) (fun x => x.2.1.length) ?_ (x := ([], l, [], [], r0, 1, 2)) ⟨rfl, rfl, _, _, _, _, rfl, hI2, by simp, by simp, by simp, rfl, ⟨by simp, by simp, by simp, by simp, by simp⟩, .inl ⟨rfl, ?_⟩, .inl ⟨rfl, ?_⟩, ?_, ?_, ?_, ?_⟩
  · rintro ⟨l1, l2, bef, beh, r, kb, kh⟩ s ⟨hl, hg, tm, hp, L, w, rfl, hI4, hLn, hbn, hhn, h0, hks, k6, k7, k3, k19, k20, k21⟩
    simp only at hl hg hLn hbn hhn h0 hks k6 k7 k3 k19 k20 k21
    obtain ⟨q1, q2, q3, q4, q5⟩ := hks
    cases l2 with
    | nil =>
      have hlen : l.length = l1.length := by rw [hl]; simp
      have hgo : unionG l [] [] r0 = bef ++ (r :: beh) := by rw [hg]; simp [unionG]
      rw [hgo]
      rcases k6 with ⟨hb, k6⟩ | ⟨hb, k6, hbk⟩
      · have hP6 : rgP bef = nilS := if_pos hb
        rcases k7 with ⟨hh, k7⟩ | ⟨hh, k7, hhk⟩
        · have hP7 : rgP beh = nilS := if_pos hh
          have hF := F290_eq (a := bef) (r := r) (b := beh) (by omega) (by omega)
          rw [hP6, hP7] at hF
          refine Ev.seq ?_
          refine Ev.rg [0] ?_
          refine Rp rfl (Z39 (Y6 k3 k19 k20 k21 k6 k7)) ?_
          refine RunTo.nil ?_
          refine Ev.seq ?_
          refine Ev.condF (Z3 (Y6 k3 k19 k20 k21 k6 k7)) ?_
          refine Ev.exit ?_
          refine thenE_ext ?_
          refine inBlock_pos ?_
          refine Ev.seq ?_
          refine Ev.rg [0, 1, 2, 3, 4, 5, 6, 7] ?_
          refine Rp rfl (Z3 (Y6 k3 k19 k20 k21 k6 k7)) ?_
          refine Rl rfl (Z113 (Y6 k3 k19 k20 k21 k6 k7)) ?_
          refine RunTo.freeM rfl (RunOn.madeL (k := _) hI4 rfl rfl (by decide) rfl (Z69 (Y6 k3 k19 k20 k21 k6 k7)) Z5 ?_)
          intro hp3 hI3
          simp only [List.cons_append, List.nil_append, evc, repA, Eng.setMany, List.set_cons_zero, List.set_cons_succ, Nat.zero_mul, Nat.one_mul, List.take_succ_cons, List.take_zero, List.drop_zero, List.drop_succ_cons, Nat.zero_add, Nat.reduceAdd, Nat.reduceMul] at hI3
          refine Rp rfl (Z3 (Y6 k3 k19 k20 k21 k6 k7)) ?_
          refine RunTo.freeM rfl (RunOn.madeL (k := _) hI3 rfl rfl (by decide) rfl (Z114 (Y6 k3 k19 k20 k21 k6 k7)) Z5 ?_)
          intro hp5 hI5
          simp only [List.cons_append, List.nil_append, evc, repA, Eng.setMany, List.set_cons_zero, List.set_cons_succ, Nat.zero_mul, Nat.one_mul, List.take_succ_cons, List.take_zero, List.drop_zero, List.drop_succ_cons, Nat.zero_add, Nat.reduceAdd, Nat.reduceMul] at hI5
          refine RunTo.freeM rfl (RunOn.tree rfl rfl (by decide) (Z3 (Y6 k3 k19 k20 k21 k6 k7)) (Z3 (Y6 k3 k19 k20 k21 k6 k7)) (by assumption) (by simp only [List.nil_append, List.append_nil, List.cons_append]; exact allO_cons (frz_sl (IsH.wlSet (by assumption) []) (get_last _ _) (by simp) (allO_cons frz_sc (allO_cons (frz_slrg (rs := [r]) (IsH.wlSet (by assumption) []) (get_app (get_last _ _)) rfl rfl) (allO_cons frz_sc allO_nil)))) allO_nil) (by exact hF) ?_)
          refine Rp rfl (Z3 (Y6 k3 k19 k20 k21 k6 k7)) ?_
          refine Rp rfl (Z3 (Y6 k3 k19 k20 k21 k6 k7)) ?_
          refine RunTo.nil ?_
          refine Ev.ret ⟨.inr rfl, _, res2, ?_⟩
          simp only [lk_up, lk_lf, Nat.reduceEqDiff, Nat.reduceLT, reduceIte, if_true, if_false, Nat.zero_add, i64, bo, u8, nilS, List.take_succ_cons, List.take_zero, List.drop_zero, List.drop_succ_cons, k3, k19, k20, k21, k6, k7]
          repeat first | exact allO_nil | with_reducible apply allO_cons | exact frz_sc | with_reducible exact frz_by1 _ _ | with_reducible exact frz_rg1 _ _ | with_reducible exact frz_par1 _ | with_reducible apply frz_ro1 | with_reducible apply frz_agg | with_reducible apply frz_tup
        · have hP7 : rgP beh = rgV false beh none := if_neg hh
          have hF := F290_eq (a := bef) (r := r) (b := beh) (by omega) (by omega)
          rw [hP6, hP7] at hF
          refine Ev.seq ?_
          refine Ev.rg [0] ?_
          refine Rp rfl (Z39 (Y6 k3 k19 k20 k21 k6 k7)) ?_
          refine RunTo.nil ?_
          refine Ev.seq ?_
          refine Ev.condF (Z3 (Y6 k3 k19 k20 k21 k6 k7)) ?_
          refine Ev.exit ?_
          refine thenE_ext ?_
          refine inBlock_pos ?_
          refine Ev.seq ?_
          refine Ev.rg [0, 1, 2, 3, 4, 5, 6, 7] ?_
          refine Rp rfl (Z3 (Y6 k3 k19 k20 k21 k6 k7)) ?_
          refine Rl rfl (Z113 (Y6 k3 k19 k20 k21 k6 k7)) ?_
          refine RunTo.freeM rfl (RunOn.madeL (k := _) hI4 rfl rfl (by decide) rfl (Z69 (Y6 k3 k19 k20 k21 k6 k7)) Z5 ?_)
          intro hp3 hI3
          simp only [List.cons_append, List.nil_append, evc, repA, Eng.setMany, List.set_cons_zero, List.set_cons_succ, Nat.zero_mul, Nat.one_mul, List.take_succ_cons, List.take_zero, List.drop_zero, List.drop_succ_cons, Nat.zero_add, Nat.reduceAdd, Nat.reduceMul] at hI3
          refine Rp rfl (Z3 (Y6 k3 k19 k20 k21 k6 k7)) ?_
          refine RunTo.freeM rfl (RunOn.madeL (k := _) hI3 rfl rfl (by decide) rfl (Z114 (Y6 k3 k19 k20 k21 k6 k7)) Z5 ?_)
          intro hp5 hI5
          simp only [List.cons_append, List.nil_append, evc, repA, Eng.setMany, List.set_cons_zero, List.set_cons_succ, Nat.zero_mul, Nat.one_mul, List.take_succ_cons, List.take_zero, List.drop_zero, List.drop_succ_cons, Nat.zero_add, Nat.reduceAdd, Nat.reduceMul] at hI5
          refine RunTo.freeM rfl (RunOn.tree rfl rfl (by decide) (Z3 (Y6 k3 k19 k20 k21 k6 k7)) (Z3 (Y6 k3 k19 k20 k21 k6 k7)) (by assumption) (by simp only [List.nil_append, List.append_nil, List.cons_append]; exact allO_cons (frz_sl (IsH.wlSet (by assumption) []) (get_last _ _) (by simp) (allO_cons frz_sc (allO_cons (frz_slrg (rs := [r]) (IsH.wlSet (by assumption) []) (get_app (get_last _ _)) rfl rfl) (allO_cons (frz_slrg (rs := beh) (IsH.wlSet (by assumption) []) (get_app (get_app hhk)) rfl rfl) allO_nil)))) allO_nil) (by exact hF) ?_)
          refine Rp rfl (Z3 (Y6 k3 k19 k20 k21 k6 k7)) ?_
          refine Rp rfl (Z3 (Y6 k3 k19 k20 k21 k6 k7)) ?_
          refine RunTo.nil ?_
          refine Ev.ret ⟨.inr rfl, _, res2, ?_⟩
          simp only [lk_up, lk_lf, Nat.reduceEqDiff, Nat.reduceLT, reduceIte, if_true, if_false, Nat.zero_add, i64, bo, u8, nilS, List.take_succ_cons, List.take_zero, List.drop_zero, List.drop_succ_cons, k3, k19, k20, k21, k6, k7]
          repeat first | exact allO_nil | with_reducible apply allO_cons | exact frz_sc | with_reducible exact frz_by1 _ _ | with_reducible exact frz_rg1 _ _ | with_reducible exact frz_par1 _ | with_reducible apply frz_ro1 | with_reducible apply frz_agg | with_reducible apply frz_tup
      · have hP6 : rgP bef = rgV false bef none := if_neg hb
        rcases k7 with ⟨hh, k7⟩ | ⟨hh, k7, hhk⟩
        · have hP7 : rgP beh = nilS := if_pos hh
          have hF := F290_eq (a := bef) (r := r) (b := beh) (by omega) (by omega)
          rw [hP6, hP7] at hF
          refine Ev.seq ?_
          refine Ev.rg [0] ?_
          refine Rp rfl (Z39 (Y6 k3 k19 k20 k21 k6 k7)) ?_
          refine RunTo.nil ?_
          refine Ev.seq ?_
          refine Ev.condF (Z3 (Y6 k3 k19 k20 k21 k6 k7)) ?_
          refine Ev.exit ?_
          refine thenE_ext ?_
          refine inBlock_pos ?_
          refine Ev.seq ?_
          refine Ev.rg [0, 1, 2, 3, 4, 5, 6, 7] ?_
          refine Rp rfl (Z3 (Y6 k3 k19 k20 k21 k6 k7)) ?_
          refine Rl rfl (Z113 (Y6 k3 k19 k20 k21 k6 k7)) ?_
          refine RunTo.freeM rfl (RunOn.madeL (k := _) hI4 rfl rfl (by decide) rfl (Z69 (Y6 k3 k19 k20 k21 k6 k7)) Z5 ?_)
          intro hp3 hI3
          simp only [List.cons_append, List.nil_append, evc, repA, Eng.setMany, List.set_cons_zero, List.set_cons_succ, Nat.zero_mul, Nat.one_mul, List.take_succ_cons, List.take_zero, List.drop_zero, List.drop_succ_cons, Nat.zero_add, Nat.reduceAdd, Nat.reduceMul] at hI3
          refine Rp rfl (Z3 (Y6 k3 k19 k20 k21 k6 k7)) ?_
          refine RunTo.freeM rfl (RunOn.madeL (k := _) hI3 rfl rfl (by decide) rfl (Z114 (Y6 k3 k19 k20 k21 k6 k7)) Z5 ?_)
          intro hp5 hI5
          simp only [List.cons_append, List.nil_append, evc, repA, Eng.setMany, List.set_cons_zero, List.set_cons_succ, Nat.zero_mul, Nat.one_mul, List.take_succ_cons, List.take_zero, List.drop_zero, List.drop_succ_cons, Nat.zero_add, Nat.reduceAdd, Nat.reduceMul] at hI5
          refine RunTo.freeM rfl (RunOn.tree rfl rfl (by decide) (Z3 (Y6 k3 k19 k20 k21 k6 k7)) (Z3 (Y6 k3 k19 k20 k21 k6 k7)) (by assumption) (by simp only [List.nil_append, List.append_nil, List.cons_append]; exact allO_cons (frz_sl (IsH.wlSet (by assumption) []) (get_last _ _) (by simp) (allO_cons (frz_slrg (rs := bef) (IsH.wlSet (by assumption) []) (get_app (get_app hbk)) rfl rfl) (allO_cons (frz_slrg (rs := [r]) (IsH.wlSet (by assumption) []) (get_app (get_last _ _)) rfl rfl) (allO_cons frz_sc allO_nil)))) allO_nil) (by exact hF) ?_)
          refine Rp rfl (Z3 (Y6 k3 k19 k20 k21 k6 k7)) ?_
          refine Rp rfl (Z3 (Y6 k3 k19 k20 k21 k6 k7)) ?_
          refine RunTo.nil ?_
          refine Ev.ret ⟨.inr rfl, _, res2, ?_⟩
          simp only [lk_up, lk_lf, Nat.reduceEqDiff, Nat.reduceLT, reduceIte, if_true, if_false, Nat.zero_add, i64, bo, u8, nilS, List.take_succ_cons, List.take_zero, List.drop_zero, List.drop_succ_cons, k3, k19, k20, k21, k6, k7]
          repeat first | exact allO_nil | with_reducible apply allO_cons | exact frz_sc | with_reducible exact frz_by1 _ _ | with_reducible exact frz_rg1 _ _ | with_reducible exact frz_par1 _ | with_reducible apply frz_ro1 | with_reducible apply frz_agg | with_reducible apply frz_tup
        · have hP7 : rgP beh = rgV false beh none := if_neg hh
          have hF := F290_eq (a := bef) (r := r) (b := beh) (by omega) (by omega)
          rw [hP6, hP7] at hF
          refine Ev.seq ?_
          refine Ev.rg [0] ?_
          refine Rp rfl (Z39 (Y6 k3 k19 k20 k21 k6 k7)) ?_
          refine RunTo.nil ?_
          refine Ev.seq ?_
          refine Ev.condF (Z3 (Y6 k3 k19 k20 k21 k6 k7)) ?_
          refine Ev.exit ?_
          refine thenE_ext ?_
          refine inBlock_pos ?_
          refine Ev.seq ?_
          refine Ev.rg [0, 1, 2, 3, 4, 5, 6, 7] ?_
          refine Rp rfl (Z3 (Y6 k3 k19 k20 k21 k6 k7)) ?_
          refine Rl rfl (Z113 (Y6 k3 k19 k20 k21 k6 k7)) ?_
          refine RunTo.freeM rfl (RunOn.madeL (k := _) hI4 rfl rfl (by decide) rfl (Z69 (Y6 k3 k19 k20 k21 k6 k7)) Z5 ?_)
          intro hp3 hI3
          simp only [List.cons_append, List.nil_append, evc, repA, Eng.setMany, List.set_cons_zero, List.set_cons_succ, Nat.zero_mul, Nat.one_mul, List.take_succ_cons, List.take_zero, List.drop_zero, List.drop_succ_cons, Nat.zero_add, Nat.reduceAdd, Nat.reduceMul] at hI3
          refine Rp rfl (Z3 (Y6 k3 k19 k20 k21 k6 k7)) ?_
          refine RunTo.freeM rfl (RunOn.madeL (k := _) hI3 rfl rfl (by decide) rfl (Z114 (Y6 k3 k19 k20 k21 k6 k7)) Z5 ?_)
          intro hp5 hI5
          simp only [List.cons_append, List.nil_append, evc, repA, Eng.setMany, List.set_cons_zero, List.set_cons_succ, Nat.zero_mul, Nat.one_mul, List.take_succ_cons, List.take_zero, List.drop_zero, List.drop_succ_cons, Nat.zero_add, Nat.reduceAdd, Nat.reduceMul] at hI5
          refine RunTo.freeM rfl (RunOn.tree rfl rfl (by decide) (Z3 (Y6 k3 k19 k20 k21 k6 k7)) (Z3 (Y6 k3 k19 k20 k21 k6 k7)) (by assumption) (by simp only [List.nil_append, List.append_nil, List.cons_append]; exact allO_cons (frz_sl (IsH.wlSet (by assumption) []) (get_last _ _) (by simp) (allO_cons (frz_slrg (rs := bef) (IsH.wlSet (by assumption) []) (get_app (get_app hbk)) rfl rfl) (allO_cons (frz_slrg (rs := [r]) (IsH.wlSet (by assumption) []) (get_app (get_last _ _)) rfl rfl) (allO_cons (frz_slrg (rs := beh) (IsH.wlSet (by assumption) []) (get_app (get_app hhk)) rfl rfl) allO_nil)))) allO_nil) (by exact hF) ?_)
          refine Rp rfl (Z3 (Y6 k3 k19 k20 k21 k6 k7)) ?_
          refine Rp rfl (Z3 (Y6 k3 k19 k20 k21 k6 k7)) ?_
          refine RunTo.nil ?_
          refine Ev.ret ⟨.inr rfl, _, res2, ?_⟩
          simp only [lk_up, lk_lf, Nat.reduceEqDiff, Nat.reduceLT, reduceIte, if_true, if_false, Nat.zero_add, i64, bo, u8, nilS, List.take_succ_cons, List.take_zero, List.drop_zero, List.drop_succ_cons, k3, k19, k20, k21, k6, k7]
          repeat first | exact allO_nil | with_reducible apply allO_cons | exact frz_sc | with_reducible exact frz_by1 _ _ | with_reducible exact frz_rg1 _ _ | with_reducible exact frz_par1 _ | with_reducible apply frz_ro1 | with_reducible apply frz_agg | with_reducible apply frz_tup
    | cons x l2 =>
      subst hl
      have hlen : (l1 ++ x :: l2).length = l1.length + l2.length + 1 := by simp; omega
      have hcons : (l1 ++ [x]).length = l1.length + 1 := by simp
      have h0l := lt_of_get h0
      by_cases hlt : x.2 < r.1
      · have hg2 : unionG (l1 ++ x :: l2) [] [] r0 = unionG l2 (bef ++ [x]) beh r := by rw [hg]; simp [unionG, hlt]
        rcases k6 with ⟨hb, k6⟩ | ⟨hb, k6, hbk⟩
        · subst hb
          refine Ev.seq ?_
          refine Ev.rg [0] ?_
          refine Rp rfl (Z35 (Y5 k3 k21 k19 k20 k6)) ?_
          refine RunTo.nil ?_
          refine Ev.seq ?_
          refine Ev.condT (Z3 (Y5 k3 k21 k19 k20 k6)) ?_
          refine Ev.skip ?_
          refine Ev.seq ?_
          refine Ev.block ?_
          refine Ev.seq ?_
          refine Ev.rg [0, 1, 2, 3] ?_
          refine Rp rfl (Z50 (Y5 k3 k21 k19 k20 k6)) ?_
          refine Rl rfl (Z64 (Y5 k3 k21 k19 k20 k6)) ?_
          refine RunTo.freeM rfl (RunOn.madeL (k := _) hI4 rfl rfl (by decide) rfl (Z60 (Y5 k3 k21 k19 k20 k6)) Z5 ?_)
          intro hp3 hI3
          refine RunTo.freeM rfl (RunOn.storeL (n := 3) hI3 rfl rfl (Z3 (Y5 k3 k21 k19 k20 k6)) (Z3 (Y5 k3 k21 k19 k20 k6)) (by kernel_rfl) Z6 Z6 (get_last _ _) Z9 Z5 ?_)
          intro hp5 hI5
          simp only [set_last, List.set_set, List.set_cons_zero, List.set_cons_succ, List.take_succ_cons, List.take_zero, List.drop_succ_cons, List.drop_zero, Eng.setMany, evc, Nat.zero_add, Nat.reduceAdd, Nat.reduceMul, Nat.reduceSub] at hI5
          refine RunTo.nil ?_
          refine Ev.seq ?_
          refine Ev.rg [0, 1, 2, 3] ?_
          refine Rp rfl (Z56 (Y5 k3 k21 k19 k20 k6)) ?_
          refine Rl rfl (Z51 (Y5 k3 k21 k19 k20 k6)) ?_
          refine Rp rfl (Z56 (Y5 k3 k21 k19 k20 k6)) ?_
          refine RunTo.freeM rfl (RunOn.storeL (n := 1) hI5 rfl rfl (Z3 (Y5 k3 k21 k19 k20 k6)) (Z3 (Y5 k3 k21 k19 k20 k6)) (by kernel_rfl) Z6 Z6 (get_last _ _) Z9 Z5 ?_)
          intro hp6 hI6
          simp only [set_last, List.set_set, List.set_cons_zero, List.set_cons_succ, List.take_succ_cons, List.take_zero, List.drop_succ_cons, List.drop_zero, Eng.setMany, evc, Nat.zero_add, Nat.reduceAdd, Nat.reduceMul, Nat.reduceSub] at hI6
          refine RunTo.nil ?_
          refine Ev.block ?_
          refine Ev.seq ?_
          refine Ev.rg [0, 1, 2, 3, 4, 5] ?_
          refine Rp rfl (Z43 (Y5 k3 k21 k19 k20 k6)) ?_
          refine Rl rfl (Z29 (Y5 k3 k21 k19 k20 k6)) ?_
          refine Rp rfl (Z23 (Y5 k3 k21 k19 k20 k6)) ?_
          refine Rl rfl (Z51 (Y5 k3 k21 k19 k20 k6)) ?_
          refine Rp rfl (Z35 (Y5 k3 k21 k19 k20 k6)) ?_
          refine Rp rfl (Z3 (Y5 k3 k21 k19 k20 k6)) ?_
          refine RunTo.nil ?_
          refine Ev.condT (Z3 (Y5 k3 k21 k19 k20 k6)) ?_
          refine Ev.rg [0, 1, 2, 3, 4] ?_
          refine Rp rfl (Z3 (Y5 k3 k21 k19 k20 k6)) ?_
          refine Rl rfl (Z115 (Y5 k3 k21 k19 k20 k6)) ?_
          refine RunTo.freeM rfl (RunOn.madeL (k := _) hI6 rfl rfl (by decide) rfl (Z69 (Y5 k3 k21 k19 k20 k6)) Z5 ?_)
          intro hp7 hI7
          simp only [List.cons_append, List.nil_append, evc, repA, Eng.setMany, List.set_cons_zero, List.set_cons_succ, Nat.zero_mul, Nat.one_mul, List.take_succ_cons, List.take_zero, List.drop_zero, List.drop_succ_cons, Nat.zero_add, Nat.reduceAdd, Nat.reduceMul] at hI7
          refine RunTo.freeM rfl (RunOn.appL (n := 3) hI7 rfl rfl (by decide) rfl rfl rfl (by kernel_rfl) (by kernel_rfl) (Z3 (Y5 k3 k21 k19 k20 k6)) (Z3 (Y5 k3 k21 k19 k20 k6)) Z70 (by exact appL_nil (k := L.length + 2) (by simp) (by decide) (by decide) (by omega)) ?_)
          intro hp8 hI8
          simp only [List.cons_append, List.nil_append] at hI8
          refine Rp rfl (Z3 (Y5 k3 k21 k19 k20 k6)) ?_
          refine RunTo.nil ?_
          refine Ev.rg [0, 1] ?_
          refine Rp rfl (Z36 (Y5 k3 k21 k19 k20 k6)) ?_
          refine Rp rfl (Z3 (Y5 k3 k21 k19 k20 k6)) ?_
          refine RunTo.nil ?_
          refine ⟨(l1 ++ [x], l2, [] ++ [x], beh, r, L.length + 2, kh), ⟨by simp, hg2, _, _, _, _, rfl, hI8, by simp; omega, by simp, by simp; omega, get_app (get_app (get_app h0)), ⟨by first | omega | (simp only; omega), by first | omega | (simp only; omega), by first | omega | (simp only; omega), by simp; try omega, by simp; try omega⟩, .inr ⟨by simp, ?_, ?_⟩, ?_, ?_, ?_, ?_, ?_⟩, by simp⟩
          · exact (Z3 (Y5 k3 k21 k19 k20 k6))
          · simp
            rfl
          · rcases k7 with ⟨hh, k7⟩ | ⟨hh, k7, hhk⟩
            · exact .inl ⟨hh, by (((conv => lhs; simp only [evs, evm, lk_up, lk_lf, Nat.reduceEqDiff, Nat.reduceLT, reduceIte, if_true, if_false, i64, bo, u8, nilS, Bool.not_true, Bool.not_false, List.take_succ_cons, List.take_zero, List.drop_zero, List.drop_succ_cons, List.toList_toArray, Int.reduceToNat, Nat.reduceMul, Nat.reduceAdd, Nat.reduceSub, Nat.zero_add, k3, k21, k19, k20, k6, k7]); first | done | exact rfl))⟩
            · exact .inr ⟨hh, by (((conv => lhs; simp only [evs, evm, lk_up, lk_lf, Nat.reduceEqDiff, Nat.reduceLT, reduceIte, if_true, if_false, i64, bo, u8, nilS, Bool.not_true, Bool.not_false, List.take_succ_cons, List.take_zero, List.drop_zero, List.drop_succ_cons, List.toList_toArray, Int.reduceToNat, Nat.reduceMul, Nat.reduceAdd, Nat.reduceSub, Nat.zero_add, k3, k21, k19, k20, k6, k7]); first | done | exact rfl)), get_app (get_app (get_app hhk))⟩
          · exact (Z3 (Y5 k3 k21 k19 k20 k6))
          · exact (Z3 (Y5 k3 k21 k19 k20 k6))
          · exact (Z3 (Y5 k3 k21 k19 k20 k6))
          · rw [hcons]
            exact (Z3 (Y5 k3 k21 k19 k20 k6))
        · have hkl := lt_of_get hbk
          refine Ev.seq ?_
          refine Ev.rg [0] ?_
          refine Rp rfl (Z35 (Y5 k3 k21 k19 k20 k6)) ?_
          refine RunTo.nil ?_
          refine Ev.seq ?_
          refine Ev.condT (Z3 (Y5 k3 k21 k19 k20 k6)) ?_
          refine Ev.skip ?_
          refine Ev.seq ?_
          refine Ev.block ?_
          refine Ev.seq ?_
          refine Ev.rg [0, 1, 2, 3] ?_
          refine Rp rfl (Z50 (Y5 k3 k21 k19 k20 k6)) ?_
          refine Rl rfl (Z64 (Y5 k3 k21 k19 k20 k6)) ?_
          refine RunTo.freeM rfl (RunOn.madeL (k := _) hI4 rfl rfl (by decide) rfl (Z60 (Y5 k3 k21 k19 k20 k6)) Z5 ?_)
          intro hp3 hI3
          refine RunTo.freeM rfl (RunOn.storeL (n := 3) hI3 rfl rfl (Z3 (Y5 k3 k21 k19 k20 k6)) (Z3 (Y5 k3 k21 k19 k20 k6)) (by kernel_rfl) Z6 Z6 (get_last _ _) Z9 Z5 ?_)
          intro hp5 hI5
          simp only [set_last, List.set_set, List.set_cons_zero, List.set_cons_succ, List.take_succ_cons, List.take_zero, List.drop_succ_cons, List.drop_zero, Eng.setMany, evc, Nat.zero_add, Nat.reduceAdd, Nat.reduceMul, Nat.reduceSub] at hI5
          refine RunTo.nil ?_
          refine Ev.seq ?_
          refine Ev.rg [0, 1, 2, 3] ?_
          refine Rp rfl (Z56 (Y5 k3 k21 k19 k20 k6)) ?_
          refine Rl rfl (Z51 (Y5 k3 k21 k19 k20 k6)) ?_
          refine Rp rfl (Z56 (Y5 k3 k21 k19 k20 k6)) ?_
          refine RunTo.freeM rfl (RunOn.storeL (n := 1) hI5 rfl rfl (Z3 (Y5 k3 k21 k19 k20 k6)) (Z3 (Y5 k3 k21 k19 k20 k6)) (by kernel_rfl) Z6 Z6 (get_last _ _) Z9 Z5 ?_)
          intro hp6 hI6
          simp only [set_last, List.set_set, List.set_cons_zero, List.set_cons_succ, List.take_succ_cons, List.take_zero, List.drop_succ_cons, List.drop_zero, Eng.setMany, evc, Nat.zero_add, Nat.reduceAdd, Nat.reduceMul, Nat.reduceSub] at hI6
          refine RunTo.nil ?_
          refine Ev.block ?_
          refine Ev.seq ?_
          refine Ev.rg [0, 1, 2, 3, 4, 5] ?_
          refine Rp rfl (Z43 (Y5 k3 k21 k19 k20 k6)) ?_
          refine Rl rfl (Z29 (Y5 k3 k21 k19 k20 k6)) ?_
          refine Rp rfl (Z23 (Y5 k3 k21 k19 k20 k6)) ?_
          refine Rl rfl (Z51 (Y5 k3 k21 k19 k20 k6)) ?_
          refine Rp rfl (Z35 (Y5 k3 k21 k19 k20 k6)) ?_
          refine Rp rfl (Z3 (Y5 k3 k21 k19 k20 k6)) ?_
          refine RunTo.nil ?_
          refine Ev.condT (Z3 (Y5 k3 k21 k19 k20 k6)) ?_
          refine Ev.rg [0, 1, 2, 3, 4] ?_
          refine Rp rfl (Z3 (Y5 k3 k21 k19 k20 k6)) ?_
          refine Rl rfl (Z115 (Y5 k3 k21 k19 k20 k6)) ?_
          refine RunTo.freeM rfl (RunOn.madeL (k := _) hI6 rfl rfl (by decide) rfl (Z69 (Y5 k3 k21 k19 k20 k6)) Z5 ?_)
          intro hp7 hI7
          simp only [List.cons_append, List.nil_append, evc, repA, Eng.setMany, List.set_cons_zero, List.set_cons_succ, Nat.zero_mul, Nat.one_mul, List.take_succ_cons, List.take_zero, List.drop_zero, List.drop_succ_cons, Nat.zero_add, Nat.reduceAdd, Nat.reduceMul] at hI7
          refine RunTo.freeM rfl (RunOn.appL (n := 3) hI7 rfl rfl (by decide) rfl rfl rfl (by kernel_rfl) (by kernel_rfl) (Z3 (Y5 k3 k21 k19 k20 k6)) (Z3 (Y5 k3 k21 k19 k20 k6)) Z70 (by exact appL_grow (k := L.length + 2) (by simp) (get_app (get_app hbk)) (rgC_len _) (by decide) Z41 (by decide) (by rfl) (by omega)) ?_)
          intro hp8 hI8
          simp only [List.cons_append, List.nil_append] at hI8
          refine Rp rfl (Z3 (Y5 k3 k21 k19 k20 k6)) ?_
          refine RunTo.nil ?_
          refine Ev.rg [0, 1] ?_
          refine Rp rfl (Z36 (Y5 k3 k21 k19 k20 k6)) ?_
          refine Rp rfl (Z3 (Y5 k3 k21 k19 k20 k6)) ?_
          refine RunTo.nil ?_
          refine ⟨(l1 ++ [x], l2, bef ++ [x], beh, r, L.length + 2, kh), ⟨by simp, hg2, _, _, _, _, rfl, hI8, by simp; omega, by simp; omega, by simp; omega, get_app (get_set_ne (by omega) (get_app (get_app h0))), ⟨by first | omega | (simp only; omega), by first | omega | (simp only; omega), by first | omega | (simp only; omega), by simp; try omega, by simp; try omega⟩, .inr ⟨by simp, ?_, ?_⟩, ?_, ?_, ?_, ?_, ?_⟩, by simp⟩
          · show lk _ 6 = .sl _ 0 (bef ++ [x]).length none 3
            rw [show (bef ++ [x]).length = bef.length + 1 from by simp]
            exact (Z3 (Y5 k3 k21 k19 k20 k6))
          · rw [rgC_append]
            simp
            rfl
          · rcases k7 with ⟨hh, k7⟩ | ⟨hh, k7, hhk⟩
            · exact .inl ⟨hh, by (((conv => lhs; simp only [evs, evm, lk_up, lk_lf, Nat.reduceEqDiff, Nat.reduceLT, reduceIte, if_true, if_false, i64, bo, u8, nilS, Bool.not_true, Bool.not_false, List.take_succ_cons, List.take_zero, List.drop_zero, List.drop_succ_cons, List.toList_toArray, Int.reduceToNat, Nat.reduceMul, Nat.reduceAdd, Nat.reduceSub, Nat.zero_add, k3, k21, k19, k20, k6, k7]); first | done | exact rfl))⟩
            · exact .inr ⟨hh, by (((conv => lhs; simp only [evs, evm, lk_up, lk_lf, Nat.reduceEqDiff, Nat.reduceLT, reduceIte, if_true, if_false, i64, bo, u8, nilS, Bool.not_true, Bool.not_false, List.take_succ_cons, List.take_zero, List.drop_zero, List.drop_succ_cons, List.toList_toArray, Int.reduceToNat, Nat.reduceMul, Nat.reduceAdd, Nat.reduceSub, Nat.zero_add, k3, k21, k19, k20, k6, k7]); first | done | exact rfl)), get_app (get_set_ne q3 (get_app (get_app hhk)))⟩
          · exact (Z3 (Y5 k3 k21 k19 k20 k6))
          · exact (Z3 (Y5 k3 k21 k19 k20 k6))
          · exact (Z3 (Y5 k3 k21 k19 k20 k6))
          · rw [hcons]
            exact (Z3 (Y5 k3 k21 k19 k20 k6))
      · by_cases hgt : r.2 < x.1
        · have hg2 : unionG (l1 ++ x :: l2) [] [] r0 = unionG l2 bef (beh ++ [x]) r := by rw [hg]; simp [unionG, hlt, hgt]
          rcases k7 with ⟨hh, k7⟩ | ⟨hh, k7, hhk⟩
          · subst hh
            refine Ev.seq ?_
            refine Ev.rg [0] ?_
            refine Rp rfl (Z35 (Y5 k3 k21 k19 k20 k7)) ?_
            refine RunTo.nil ?_
            refine Ev.seq ?_
            refine Ev.condT (Z3 (Y5 k3 k21 k19 k20 k7)) ?_
            refine Ev.skip ?_
            refine Ev.seq ?_
            refine Ev.block ?_
            refine Ev.seq ?_
            refine Ev.rg [0, 1, 2, 3] ?_
            refine Rp rfl (Z50 (Y5 k3 k21 k19 k20 k7)) ?_
            refine Rl rfl (Z64 (Y5 k3 k21 k19 k20 k7)) ?_
            refine RunTo.freeM rfl (RunOn.madeL (k := _) hI4 rfl rfl (by decide) rfl (Z60 (Y5 k3 k21 k19 k20 k7)) Z5 ?_)
            intro hp3 hI3
            refine RunTo.freeM rfl (RunOn.storeL (n := 3) hI3 rfl rfl (Z3 (Y5 k3 k21 k19 k20 k7)) (Z3 (Y5 k3 k21 k19 k20 k7)) (by kernel_rfl) Z6 Z6 (get_last _ _) Z9 Z5 ?_)
            intro hp5 hI5
            simp only [set_last, List.set_set, List.set_cons_zero, List.set_cons_succ, List.take_succ_cons, List.take_zero, List.drop_succ_cons, List.drop_zero, Eng.setMany, evc, Nat.zero_add, Nat.reduceAdd, Nat.reduceMul, Nat.reduceSub] at hI5
            refine RunTo.nil ?_
            refine Ev.seq ?_
            refine Ev.rg [0, 1, 2, 3] ?_
            refine Rp rfl (Z56 (Y5 k3 k21 k19 k20 k7)) ?_
            refine Rl rfl (Z51 (Y5 k3 k21 k19 k20 k7)) ?_
            refine Rp rfl (Z56 (Y5 k3 k21 k19 k20 k7)) ?_
            refine RunTo.freeM rfl (RunOn.storeL (n := 1) hI5 rfl rfl (Z3 (Y5 k3 k21 k19 k20 k7)) (Z3 (Y5 k3 k21 k19 k20 k7)) (by kernel_rfl) Z6 Z6 (get_last _ _) Z9 Z5 ?_)
            intro hp6 hI6
            simp only [set_last, List.set_set, List.set_cons_zero, List.set_cons_succ, List.take_succ_cons, List.take_zero, List.drop_succ_cons, List.drop_zero, Eng.setMany, evc, Nat.zero_add, Nat.reduceAdd, Nat.reduceMul, Nat.reduceSub] at hI6
            refine RunTo.nil ?_
            refine Ev.block ?_
            refine Ev.seq ?_
            refine Ev.rg [0, 1, 2, 3, 4, 5] ?_
            refine Rp rfl (Z43 (Y5 k3 k21 k19 k20 k7)) ?_
            refine Rl rfl (Z29 (Y5 k3 k21 k19 k20 k7)) ?_
            refine Rp rfl (Z23 (Y5 k3 k21 k19 k20 k7)) ?_
            refine Rl rfl (Z51 (Y5 k3 k21 k19 k20 k7)) ?_
            refine Rp rfl (Z39 (Y5 k3 k21 k19 k20 k7)) ?_
            refine Rp rfl (Z3 (Y5 k3 k21 k19 k20 k7)) ?_
            refine RunTo.nil ?_
            refine Ev.condF (Z3 (Y5 k3 k21 k19 k20 k7)) ?_
            refine Ev.seq ?_
            refine Ev.rg [0, 1, 2, 3, 4, 5] ?_
            refine Rp rfl (Z23 (Y5 k3 k21 k19 k20 k7)) ?_
            refine Rl rfl (Z29 (Y5 k3 k21 k19 k20 k7)) ?_
            refine Rp rfl (Z43 (Y5 k3 k21 k19 k20 k7)) ?_
            refine Rl rfl (Z51 (Y5 k3 k21 k19 k20 k7)) ?_
            refine Rp rfl (Z65 (Y5 k3 k21 k19 k20 k7)) ?_
            refine Rp rfl (Z3 (Y5 k3 k21 k19 k20 k7)) ?_
            refine RunTo.nil ?_
            refine Ev.condT (Z3 (Y5 k3 k21 k19 k20 k7)) ?_
            refine Ev.rg [0, 1, 2, 3, 4] ?_
            refine Rp rfl (Z3 (Y5 k3 k21 k19 k20 k7)) ?_
            refine Rl rfl (Z115 (Y5 k3 k21 k19 k20 k7)) ?_
            refine RunTo.freeM rfl (RunOn.madeL (k := _) hI6 rfl rfl (by decide) rfl (Z69 (Y5 k3 k21 k19 k20 k7)) Z5 ?_)
            intro hp7 hI7
            simp only [List.cons_append, List.nil_append, evc, repA, Eng.setMany, List.set_cons_zero, List.set_cons_succ, Nat.zero_mul, Nat.one_mul, List.take_succ_cons, List.take_zero, List.drop_zero, List.drop_succ_cons, Nat.zero_add, Nat.reduceAdd, Nat.reduceMul] at hI7
            refine RunTo.freeM rfl (RunOn.appL (n := 3) hI7 rfl rfl (by decide) rfl rfl rfl (by kernel_rfl) (by kernel_rfl) (Z3 (Y5 k3 k21 k19 k20 k7)) (Z3 (Y5 k3 k21 k19 k20 k7)) Z70 (by exact appL_nil (k := L.length + 2) (by simp) (by decide) (by decide) (by omega)) ?_)
            intro hp8 hI8
            simp only [List.cons_append, List.nil_append] at hI8
            refine Rp rfl (Z3 (Y5 k3 k21 k19 k20 k7)) ?_
            refine RunTo.nil ?_
            refine Ev.rg [0, 1] ?_
            refine Rp rfl (Z36 (Y5 k3 k21 k19 k20 k7)) ?_
            refine Rp rfl (Z3 (Y5 k3 k21 k19 k20 k7)) ?_
            refine RunTo.nil ?_
            refine ⟨(l1 ++ [x], l2, bef, [] ++ [x], r, kb, L.length + 2), ⟨by simp, hg2, _, _, _, _, rfl, hI8, by simp; omega, by simp; omega, by simp, get_app (get_app (get_app h0)), ⟨by first | omega | (simp only; omega), by first | omega | (simp only; omega), by first | omega | (simp only; omega), by simp; try omega, by simp; try omega⟩, ?_, .inr ⟨by simp, ?_, ?_⟩, ?_, ?_, ?_, ?_⟩, by simp⟩
            · rcases k6 with ⟨hb, k6⟩ | ⟨hb, k6, hbk⟩
              · exact .inl ⟨hb, by (((conv => lhs; simp only [evs, evm, lk_up, lk_lf, Nat.reduceEqDiff, Nat.reduceLT, reduceIte, if_true, if_false, i64, bo, u8, nilS, Bool.not_true, Bool.not_false, List.take_succ_cons, List.take_zero, List.drop_zero, List.drop_succ_cons, List.toList_toArray, Int.reduceToNat, Nat.reduceMul, Nat.reduceAdd, Nat.reduceSub, Nat.zero_add, k3, k21, k19, k20, k7, k6]); first | done | exact rfl))⟩
              · exact .inr ⟨hb, by (((conv => lhs; simp only [evs, evm, lk_up, lk_lf, Nat.reduceEqDiff, Nat.reduceLT, reduceIte, if_true, if_false, i64, bo, u8, nilS, Bool.not_true, Bool.not_false, List.take_succ_cons, List.take_zero, List.drop_zero, List.drop_succ_cons, List.toList_toArray, Int.reduceToNat, Nat.reduceMul, Nat.reduceAdd, Nat.reduceSub, Nat.zero_add, k3, k21, k19, k20, k7, k6]); first | done | exact rfl)), get_app (get_app (get_app hbk))⟩
            · exact (Z3 (Y5 k3 k21 k19 k20 k7))
            · simp
              rfl
            · exact (Z3 (Y5 k3 k21 k19 k20 k7))
            · exact (Z3 (Y5 k3 k21 k19 k20 k7))
            · exact (Z3 (Y5 k3 k21 k19 k20 k7))
            · rw [hcons]
              exact (Z3 (Y5 k3 k21 k19 k20 k7))
          · have hkl := lt_of_get hhk
            refine Ev.seq ?_
            refine Ev.rg [0] ?_
            refine Rp rfl (Z35 (Y5 k3 k21 k19 k20 k7)) ?_
            refine RunTo.nil ?_
            refine Ev.seq ?_
            refine Ev.condT (Z3 (Y5 k3 k21 k19 k20 k7)) ?_
            refine Ev.skip ?_
            refine Ev.seq ?_
            refine Ev.block ?_
            refine Ev.seq ?_
            refine Ev.rg [0, 1, 2, 3] ?_
            refine Rp rfl (Z50 (Y5 k3 k21 k19 k20 k7)) ?_
            refine Rl rfl (Z64 (Y5 k3 k21 k19 k20 k7)) ?_
            refine RunTo.freeM rfl (RunOn.madeL (k := _) hI4 rfl rfl (by decide) rfl (Z60 (Y5 k3 k21 k19 k20 k7)) Z5 ?_)
            intro hp3 hI3
            refine RunTo.freeM rfl (RunOn.storeL (n := 3) hI3 rfl rfl (Z3 (Y5 k3 k21 k19 k20 k7)) (Z3 (Y5 k3 k21 k19 k20 k7)) (by kernel_rfl) Z6 Z6 (get_last _ _) Z9 Z5 ?_)
            intro hp5 hI5
            simp only [set_last, List.set_set, List.set_cons_zero, List.set_cons_succ, List.take_succ_cons, List.take_zero, List.drop_succ_cons, List.drop_zero, Eng.setMany, evc, Nat.zero_add, Nat.reduceAdd, Nat.reduceMul, Nat.reduceSub] at hI5
            refine RunTo.nil ?_
            refine Ev.seq ?_
            refine Ev.rg [0, 1, 2, 3] ?_
            refine Rp rfl (Z56 (Y5 k3 k21 k19 k20 k7)) ?_
            refine Rl rfl (Z51 (Y5 k3 k21 k19 k20 k7)) ?_
            refine Rp rfl (Z56 (Y5 k3 k21 k19 k20 k7)) ?_
            refine RunTo.freeM rfl (RunOn.storeL (n := 1) hI5 rfl rfl (Z3 (Y5 k3 k21 k19 k20 k7)) (Z3 (Y5 k3 k21 k19 k20 k7)) (by kernel_rfl) Z6 Z6 (get_last _ _) Z9 Z5 ?_)
            intro hp6 hI6
            simp only [set_last, List.set_set, List.set_cons_zero, List.set_cons_succ, List.take_succ_cons, List.take_zero, List.drop_succ_cons, List.drop_zero, Eng.setMany, evc, Nat.zero_add, Nat.reduceAdd, Nat.reduceMul, Nat.reduceSub] at hI6
            refine RunTo.nil ?_
            refine Ev.block ?_
            refine Ev.seq ?_
            refine Ev.rg [0, 1, 2, 3, 4, 5] ?_
            refine Rp rfl (Z43 (Y5 k3 k21 k19 k20 k7)) ?_
            refine Rl rfl (Z29 (Y5 k3 k21 k19 k20 k7)) ?_
            refine Rp rfl (Z23 (Y5 k3 k21 k19 k20 k7)) ?_
            refine Rl rfl (Z51 (Y5 k3 k21 k19 k20 k7)) ?_
            refine Rp rfl (Z39 (Y5 k3 k21 k19 k20 k7)) ?_
            refine Rp rfl (Z3 (Y5 k3 k21 k19 k20 k7)) ?_
            refine RunTo.nil ?_
            refine Ev.condF (Z3 (Y5 k3 k21 k19 k20 k7)) ?_
            refine Ev.seq ?_
            refine Ev.rg [0, 1, 2, 3, 4, 5] ?_
            refine Rp rfl (Z23 (Y5 k3 k21 k19 k20 k7)) ?_
            refine Rl rfl (Z29 (Y5 k3 k21 k19 k20 k7)) ?_
            refine Rp rfl (Z43 (Y5 k3 k21 k19 k20 k7)) ?_
            refine Rl rfl (Z51 (Y5 k3 k21 k19 k20 k7)) ?_
            refine Rp rfl (Z65 (Y5 k3 k21 k19 k20 k7)) ?_
            refine Rp rfl (Z3 (Y5 k3 k21 k19 k20 k7)) ?_
            refine RunTo.nil ?_
            refine Ev.condT (Z3 (Y5 k3 k21 k19 k20 k7)) ?_
            refine Ev.rg [0, 1, 2, 3, 4] ?_
            refine Rp rfl (Z3 (Y5 k3 k21 k19 k20 k7)) ?_
            refine Rl rfl (Z115 (Y5 k3 k21 k19 k20 k7)) ?_
            refine RunTo.freeM rfl (RunOn.madeL (k := _) hI6 rfl rfl (by decide) rfl (Z69 (Y5 k3 k21 k19 k20 k7)) Z5 ?_)
            intro hp7 hI7
            simp only [List.cons_append, List.nil_append, evc, repA, Eng.setMany, List.set_cons_zero, List.set_cons_succ, Nat.zero_mul, Nat.one_mul, List.take_succ_cons, List.take_zero, List.drop_zero, List.drop_succ_cons, Nat.zero_add, Nat.reduceAdd, Nat.reduceMul] at hI7
            refine RunTo.freeM rfl (RunOn.appL (n := 3) hI7 rfl rfl (by decide) rfl rfl rfl (by kernel_rfl) (by kernel_rfl) (Z3 (Y5 k3 k21 k19 k20 k7)) (Z3 (Y5 k3 k21 k19 k20 k7)) Z70 (by exact appL_grow (k := L.length + 2) (by simp) (get_app (get_app hhk)) (rgC_len _) (by decide) Z41 (by decide) (by rfl) (by omega)) ?_)
            intro hp8 hI8
            simp only [List.cons_append, List.nil_append] at hI8
            refine Rp rfl (Z3 (Y5 k3 k21 k19 k20 k7)) ?_
            refine RunTo.nil ?_
            refine Ev.rg [0, 1] ?_
            refine Rp rfl (Z36 (Y5 k3 k21 k19 k20 k7)) ?_
            refine Rp rfl (Z3 (Y5 k3 k21 k19 k20 k7)) ?_
            refine RunTo.nil ?_
            refine ⟨(l1 ++ [x], l2, bef, beh ++ [x], r, kb, L.length + 2), ⟨by simp, hg2, _, _, _, _, rfl, hI8, by simp; omega, by simp; omega, by simp; omega, get_app (get_set_ne (by omega) (get_app (get_app h0))), ⟨by first | omega | (simp only; omega), by first | omega | (simp only; omega), by first | omega | (simp only; omega), by simp; try omega, by simp; try omega⟩, ?_, .inr ⟨by simp, ?_, ?_⟩, ?_, ?_, ?_, ?_⟩, by simp⟩
            · rcases k6 with ⟨hb, k6⟩ | ⟨hb, k6, hbk⟩
              · exact .inl ⟨hb, by (((conv => lhs; simp only [evs, evm, lk_up, lk_lf, Nat.reduceEqDiff, Nat.reduceLT, reduceIte, if_true, if_false, i64, bo, u8, nilS, Bool.not_true, Bool.not_false, List.take_succ_cons, List.take_zero, List.drop_zero, List.drop_succ_cons, List.toList_toArray, Int.reduceToNat, Nat.reduceMul, Nat.reduceAdd, Nat.reduceSub, Nat.zero_add, k3, k21, k19, k20, k7, k6]); first | done | exact rfl))⟩
              · exact .inr ⟨hb, by (((conv => lhs; simp only [evs, evm, lk_up, lk_lf, Nat.reduceEqDiff, Nat.reduceLT, reduceIte, if_true, if_false, i64, bo, u8, nilS, Bool.not_true, Bool.not_false, List.take_succ_cons, List.take_zero, List.drop_zero, List.drop_succ_cons, List.toList_toArray, Int.reduceToNat, Nat.reduceMul, Nat.reduceAdd, Nat.reduceSub, Nat.zero_add, k3, k21, k19, k20, k7, k6]); first | done | exact rfl)), get_app (get_set_ne (fun e => q3 e.symm) (get_app (get_app hbk)))⟩
            · show lk _ 7 = .sl _ 0 (beh ++ [x]).length none 3
              rw [show (beh ++ [x]).length = beh.length + 1 from by simp]
              exact (Z3 (Y5 k3 k21 k19 k20 k7))
            · rw [rgC_append]
              simp
              rfl
            · exact (Z3 (Y5 k3 k21 k19 k20 k7))
            · exact (Z3 (Y5 k3 k21 k19 k20 k7))
            · exact (Z3 (Y5 k3 k21 k19 k20 k7))
            · rw [hcons]
              exact (Z3 (Y5 k3 k21 k19 k20 k7))
        · have hg2 : unionG (l1 ++ x :: l2) [] [] r0 = unionG l2 bef beh (min r.1 x.1, max r.2 x.2) := by rw [hg]; simp [unionG, hlt, hgt]
          have e1 : (if (x.1 : Int) < (r.1 : Int) then (x.1 : Int) else (r.1 : Int)) = ((min r.1 x.1 : Nat) : Int) := by split <;> omega
          have e2 : (if (x.2 : Int) > (r.2 : Int) then (x.2 : Int) else (r.2 : Int)) = ((max r.2 x.2 : Nat) : Int) := by split <;> omega
          refine Ev.seq ?_
          refine Ev.rg [0] ?_
          refine Rp rfl (Z35 (Y4 k3 k21 k19 k20)) ?_
          refine RunTo.nil ?_
          refine Ev.seq ?_
          refine Ev.condT (Z3 (Y4 k3 k21 k19 k20)) ?_
          refine Ev.skip ?_
          refine Ev.seq ?_
          refine Ev.block ?_
          refine Ev.seq ?_
          refine Ev.rg [0, 1, 2, 3] ?_
          refine Rp rfl (Z50 (Y4 k3 k21 k19 k20)) ?_
          refine Rl rfl (Z64 (Y4 k3 k21 k19 k20)) ?_
          refine RunTo.freeM rfl (RunOn.madeL (k := _) hI4 rfl rfl (by decide) rfl (Z60 (Y4 k3 k21 k19 k20)) Z5 ?_)
          intro hp3 hI3
          refine RunTo.freeM rfl (RunOn.storeL (n := 3) hI3 rfl rfl (Z3 (Y4 k3 k21 k19 k20)) (Z3 (Y4 k3 k21 k19 k20)) (by kernel_rfl) Z6 Z6 (get_last _ _) Z9 Z5 ?_)
          intro hp5 hI5
          simp only [set_last, List.set_set, List.set_cons_zero, List.set_cons_succ, List.take_succ_cons, List.take_zero, List.drop_succ_cons, List.drop_zero, Eng.setMany, evc, Nat.zero_add, Nat.reduceAdd, Nat.reduceMul, Nat.reduceSub] at hI5
          refine RunTo.nil ?_
          refine Ev.seq ?_
          refine Ev.rg [0, 1, 2, 3] ?_
          refine Rp rfl (Z56 (Y4 k3 k21 k19 k20)) ?_
          refine Rl rfl (Z51 (Y4 k3 k21 k19 k20)) ?_
          refine Rp rfl (Z56 (Y4 k3 k21 k19 k20)) ?_
          refine RunTo.freeM rfl (RunOn.storeL (n := 1) hI5 rfl rfl (Z3 (Y4 k3 k21 k19 k20)) (Z3 (Y4 k3 k21 k19 k20)) (by kernel_rfl) Z6 Z6 (get_last _ _) Z9 Z5 ?_)
          intro hp6 hI6
          simp only [set_last, List.set_set, List.set_cons_zero, List.set_cons_succ, List.take_succ_cons, List.take_zero, List.drop_succ_cons, List.drop_zero, Eng.setMany, evc, Nat.zero_add, Nat.reduceAdd, Nat.reduceMul, Nat.reduceSub] at hI6
          refine RunTo.nil ?_
          refine Ev.block ?_
          refine Ev.seq ?_
          refine Ev.rg [0, 1, 2, 3, 4, 5] ?_
          refine Rp rfl (Z43 (Y4 k3 k21 k19 k20)) ?_
          refine Rl rfl (Z29 (Y4 k3 k21 k19 k20)) ?_
          refine Rp rfl (Z23 (Y4 k3 k21 k19 k20)) ?_
          refine Rl rfl (Z51 (Y4 k3 k21 k19 k20)) ?_
          refine Rp rfl (Z39 (Y4 k3 k21 k19 k20)) ?_
          refine Rp rfl (Z3 (Y4 k3 k21 k19 k20)) ?_
          refine RunTo.nil ?_
          refine Ev.condF (Z3 (Y4 k3 k21 k19 k20)) ?_
          refine Ev.seq ?_
          refine Ev.rg [0, 1, 2, 3, 4, 5] ?_
          refine Rp rfl (Z23 (Y4 k3 k21 k19 k20)) ?_
          refine Rl rfl (Z29 (Y4 k3 k21 k19 k20)) ?_
          refine Rp rfl (Z43 (Y4 k3 k21 k19 k20)) ?_
          refine Rl rfl (Z51 (Y4 k3 k21 k19 k20)) ?_
          refine Rp rfl (Z83 (Y4 k3 k21 k19 k20)) ?_
          refine Rp rfl (Z3 (Y4 k3 k21 k19 k20)) ?_
          refine RunTo.nil ?_
          refine Ev.condF (Z3 (Y4 k3 k21 k19 k20)) ?_
          refine Ev.draw (M := [0, 1, 0, 4, 15, 0, 32, 0, 128, 480, 127, 1151, 4095, 8191]) (l := [0, 1, 2, 3, 4, 5, 6, 10, 11, 7, 8, 9, 12, 13]) (by kernel_rfl) (by kernel_rfl) (by kernel_rfl) ?_
          refine Rp rfl (Z23 (Y4 k3 k21 k19 k20)) ?_
          refine Rl rfl (Z51 (Y4 k3 k21 k19 k20)) ?_
          refine Rp rfl (Z23 (Y4 k3 k21 k19 k20)) ?_
          refine Rl rfl (Z29 (Y4 k3 k21 k19 k20)) ?_
          refine Rp rfl (by ((conv => lhs; simp only [evs, evm, lk_up, lk_lf, Nat.reduceEqDiff, Nat.reduceLT, reduceIte, if_true, if_false, i64, bo, u8, nilS, Bool.not_true, Bool.not_false, List.take_succ_cons, List.take_zero, List.drop_zero, List.drop_succ_cons, List.toList_toArray, Int.reduceToNat, Nat.reduceMul, Nat.reduceAdd, Nat.reduceSub, Nat.zero_add, k3, k21, k19, k20]); exact pCall_min (Z3 (Y4 k3 k21 k19 k20)))) ?_
          refine Rp rfl (Z43 (Y4 k3 k21 k19 k20)) ?_
          refine Rl rfl (Z51 (Y4 k3 k21 k19 k20)) ?_
          refine Rp rfl (Z23 (Y4 k3 k21 k19 k20)) ?_
          refine RunTo.freeM rfl (RunOn.storeL (n := 1) hI6 rfl rfl (Z3 (Y4 k3 k21 k19 k20)) (Z3 (Y4 k3 k21 k19 k20)) (by kernel_rfl) Z6 Z6 (get_app (by assumption)) Z9 Z5 ?_)
          intro hp7 hI7
          simp only [set_last, List.set_set, List.set_cons_zero, List.set_cons_succ, List.take_succ_cons, List.take_zero, List.drop_succ_cons, List.drop_zero, Eng.setMany, evc, Nat.zero_add, Nat.reduceAdd, Nat.reduceMul, Nat.reduceSub] at hI7
          refine Rp rfl (Z43 (Y4 k3 k21 k19 k20)) ?_
          refine Rl rfl (by ((conv => lhs; simp only [evs, evm, lk_up, lk_lf, Nat.reduceEqDiff, Nat.reduceLT, reduceIte, if_true, if_false, i64, bo, u8, nilS, Bool.not_true, Bool.not_false, List.take_succ_cons, List.take_zero, List.drop_zero, List.drop_succ_cons, List.toList_toArray, Int.reduceToNat, Nat.reduceMul, Nat.reduceAdd, Nat.reduceSub, Nat.zero_add, k3, k21, k19, k20]); exact load_one (by kernel_rfl) (by kernel_rfl) (hI7.get _ _ (get_set_ne (by omega) (get_last _ _))) rfl)) ?_
          refine Rp rfl (by ((conv => lhs; simp only [evs, evm, lk_up, lk_lf, Nat.reduceEqDiff, Nat.reduceLT, reduceIte, if_true, if_false, i64, bo, u8, nilS, Bool.not_true, Bool.not_false, List.take_succ_cons, List.take_zero, List.drop_zero, List.drop_succ_cons, List.toList_toArray, Int.reduceToNat, Nat.reduceMul, Nat.reduceAdd, Nat.reduceSub, Nat.zero_add, k3, k21, k19, k20]); exact pCall_max (Z3 (Y4 k3 k21 k19 k20)))) ?_
          refine Rp rfl (Z43 (Y4 k3 k21 k19 k20)) ?_
          refine RunTo.freeM rfl (RunOn.storeL (n := 1) hI7 rfl rfl (Z3 (Y4 k3 k21 k19 k20)) (Z3 (Y4 k3 k21 k19 k20)) (by kernel_rfl) Z6 Z6 (get_set_self (get_app (by assumption))) Z9 Z5 ?_)
          intro hp8 hI8
          simp only [set_last, List.set_set, List.set_cons_zero, List.set_cons_succ, List.take_succ_cons, List.take_zero, List.drop_succ_cons, List.drop_zero, Eng.setMany, evc, Nat.zero_add, Nat.reduceAdd, Nat.reduceMul, Nat.reduceSub] at hI8
          refine RunTo.nil ?_
          refine Ev.rg [0, 1] ?_
          refine Rp rfl (Z36 (Y4 k3 k21 k19 k20)) ?_
          refine Rp rfl (Z3 (Y4 k3 k21 k19 k20)) ?_
          refine RunTo.nil ?_
          rw [e1, e2] at hI8
          refine ⟨(l1 ++ [x], l2, bef, beh, (min r.1 x.1, max r.2 x.2), kb, kh), ⟨by simp, hg2, _, _, _, _, rfl, hI8, by simp; omega, by simp; omega, by simp; omega, get_set_self (get_app h0), ⟨q1, q2, q3, by simp; omega, by simp; omega⟩, ?_, ?_, ?_, ?_, ?_, ?_⟩, by simp⟩
          · rcases k6 with ⟨hb, k6⟩ | ⟨hb, k6, hbk⟩
            · exact .inl ⟨hb, by (((conv => lhs; simp only [evs, evm, lk_up, lk_lf, Nat.reduceEqDiff, Nat.reduceLT, reduceIte, if_true, if_false, i64, bo, u8, nilS, Bool.not_true, Bool.not_false, List.take_succ_cons, List.take_zero, List.drop_zero, List.drop_succ_cons, List.toList_toArray, Int.reduceToNat, Nat.reduceMul, Nat.reduceAdd, Nat.reduceSub, Nat.zero_add, k3, k21, k19, k20, k6]); first | done | exact rfl))⟩
            · exact .inr ⟨hb, by (((conv => lhs; simp only [evs, evm, lk_up, lk_lf, Nat.reduceEqDiff, Nat.reduceLT, reduceIte, if_true, if_false, i64, bo, u8, nilS, Bool.not_true, Bool.not_false, List.take_succ_cons, List.take_zero, List.drop_zero, List.drop_succ_cons, List.toList_toArray, Int.reduceToNat, Nat.reduceMul, Nat.reduceAdd, Nat.reduceSub, Nat.zero_add, k3, k21, k19, k20, k6]); first | done | exact rfl)), get_set_ne (Nat.ne_of_lt q1) (get_app hbk)⟩
          · rcases k7 with ⟨hh, k7⟩ | ⟨hh, k7, hhk⟩
            · exact .inl ⟨hh, by (((conv => lhs; simp only [evs, evm, lk_up, lk_lf, Nat.reduceEqDiff, Nat.reduceLT, reduceIte, if_true, if_false, i64, bo, u8, nilS, Bool.not_true, Bool.not_false, List.take_succ_cons, List.take_zero, List.drop_zero, List.drop_succ_cons, List.toList_toArray, Int.reduceToNat, Nat.reduceMul, Nat.reduceAdd, Nat.reduceSub, Nat.zero_add, k3, k21, k19, k20, k7]); first | done | exact rfl))⟩
            · exact .inr ⟨hh, by (((conv => lhs; simp only [evs, evm, lk_up, lk_lf, Nat.reduceEqDiff, Nat.reduceLT, reduceIte, if_true, if_false, i64, bo, u8, nilS, Bool.not_true, Bool.not_false, List.take_succ_cons, List.take_zero, List.drop_zero, List.drop_succ_cons, List.toList_toArray, Int.reduceToNat, Nat.reduceMul, Nat.reduceAdd, Nat.reduceSub, Nat.zero_add, k3, k21, k19, k20, k7]); first | done | exact rfl)), get_set_ne (Nat.ne_of_lt q2) (get_app hhk)⟩
          · exact (Z3 (Y4 k3 k21 k19 k20))
          · exact (Z3 (Y4 k3 k21 k19 k20))
          · exact (Z3 (Y4 k3 k21 k19 k20))
          · rw [hcons]
            exact (Z3 (Y4 k3 k21 k19 k20))
  · exact Z1
  · exact Z1
  · exact Z1
  · exact Z1
  · exact Z1
  · exact Z1
end
end Go.Eng
end
section
set_option linter.unusedVariables false
set_option linter.unusedSimpArgs false
set_option maxRecDepth 100000
set_option maxHeartbeats 4000000
namespace Go.Eng
open Go Go.RowKit Go.Proofs
section
variable (p : Poly) (T : List (Nat × (List AV → Option AV)))
theorem w222 (h : (envL p T).sp 222 = none) (h285 : (envL p T).sp 285 = some (treeSp F285)) (q : Pc) (poll : Int) (c : Option Nat) (x : Pt) (cd cr : Option Nat) (hf : Fits q x) : CallTo (envL p T) 222 [.agg (q.x poll false c), .agg (x.cells false cd cr)] Hp.empty fun v hp' => frz true hp' 20 v = some (bo false) := by
  have hI := IsH.empty
  obtain ⟨hf1, hf2, hf3, hf4⟩ := hf
  unfold Pc.x Pt.cells paC Pt.len
  cases hl : q.last with
  | true =>
    obtain ⟨e1, e2⟩ := hf1 hl
    rw [e1]
    simp only
    refine CallTo.body (c := (Tryz.f222.body.getD .skip)) (nt := 35) (rs := #[.tmp 4]) (by assumption) (by kernel_rfl) ⟨by simp, by decide⟩ ?_
    show Ev _ (Code.seq _ _) _ _
    simp only [tmOf_cons, tmOf_nil, i64, bo, u8, nilS, Nat.zero_add, Nat.reduceAdd]
    refine Ev.seq ?_
    refine Ev.rg [0, 1, 2] ?_
    refine RunTo.freeM rfl (RunOn.madeL (k := 0) hI rfl rfl (by decide) rfl Z15 Z5 ?_)
    intro hp1 hI1
    simp only [List.cons_append, List.nil_append, evc, repA, Eng.setMany, List.set_cons_zero, List.set_cons_succ, Nat.zero_mul, Nat.one_mul, List.take_succ_cons, List.take_zero, List.drop_zero, List.drop_succ_cons, Nat.zero_add, Nat.reduceAdd, Nat.reduceMul] at hI1
    refine RunTo.freeM rfl (RunOn.madeL (k := 1) hI1 rfl rfl (by decide) rfl Z15 Z5 ?_)
    intro hp2 hI2
    simp only [List.cons_append, List.nil_append, evc, repA, Eng.setMany, List.set_cons_zero, List.set_cons_succ, Nat.zero_mul, Nat.one_mul, List.take_succ_cons, List.take_zero, List.drop_zero, List.drop_succ_cons, Nat.zero_add, Nat.reduceAdd, Nat.reduceMul] at hI2
    refine Rp rfl Z1 ?_
    refine RunTo.nil ?_
    refine Ev.seq ?_
    refine Ev.rg [0, 1, 2, 3] ?_
    refine Rp rfl Z24 ?_
    refine Rl rfl Z7 ?_
    refine Rp rfl Z44 ?_
    refine Rp rfl Z1 ?_
    refine RunTo.nil ?_
    refine Ev.seq ?_
    refine Ev.block ?_
    refine Ev.seq ?_
    refine Ev.rg [0, 1, 2] ?_
    refine Rp rfl Z37 ?_
    refine Rl rfl Z7 ?_
    refine Rp rfl Z1 ?_
    refine RunTo.nil ?_
    refine Ev.condT Z1 ?_
    refine Ev.seq ?_
    refine Ev.draw (M := [0, 1, 3, 7, 3, 19, 63, 127, 255, 511, 1023, 2047, 511, 4607, 16383, 32767, 65535]) (l := [0, 1, 2, 3, 4, 5, 6, 7, 8, 9, 10, 11, 12, 13, 14, 15, 16]) (by kernel_rfl) (by kernel_rfl) (by kernel_rfl) ?_
    refine Rp rfl Z1 ?_
    refine Rp rfl Z1 ?_
    refine Gf rfl rfl Z2 ?_
    refine Gf rfl rfl Z2 ?_
    refine Gf rfl rfl Z2 ?_
    refine Gf rfl rfl Z2 ?_
    refine Gf rfl rfl Z2 ?_
    refine Rp rfl Z1 ?_
    refine Rp rfl Z1 ?_
    refine Gp rfl rfl Z2 Z12 ?_
    refine Gl rfl rfl Z2 Z7 ?_
    refine RunTo.guardOnM rfl rfl (by decide) Z2 (RunOn.tree rfl rfl (by decide) Z1 Z1 (by assumption) Z8 Z134 ?_)
    refine Gp rfl rfl Z2 Z66 ?_
    refine Gl rfl rfl Z2 Z7 ?_
    refine Gp rfl rfl Z2 Z28 ?_
    refine Rp rfl Z1 ?_
    refine Rp rfl Z1 ?_
    refine RunTo.nil ?_
    refine Ev.ret ⟨.inr rfl, _, res1, ?_⟩
    simp only [lk_up, lk_lf, Nat.reduceEqDiff, Nat.reduceLT, reduceIte, if_true, if_false, Nat.zero_add, i64, bo, u8, nilS, List.take_succ_cons, List.take_zero, List.drop_zero, List.drop_succ_cons]
    exact frz_sc
  | false =>
    have e1 := hf2 hl
    cases hln : x.ln with
    | none =>
      simp only
      refine CallTo.body (c := (Tryz.f222.body.getD .skip)) (nt := 35) (rs := #[.tmp 4]) (by assumption) (by kernel_rfl) ⟨by simp, by decide⟩ ?_
      show Ev _ (Code.seq _ _) _ _
      simp only [tmOf_cons, tmOf_nil, i64, bo, u8, nilS, Nat.zero_add, Nat.reduceAdd]
      refine Ev.seq ?_
      refine Ev.rg [0, 1, 2] ?_
      refine RunTo.freeM rfl (RunOn.madeL (k := 0) hI rfl rfl (by decide) rfl Z15 Z5 ?_)
      intro hp1 hI1
      simp only [List.cons_append, List.nil_append, evc, repA, Eng.setMany, List.set_cons_zero, List.set_cons_succ, Nat.zero_mul, Nat.one_mul, List.take_succ_cons, List.take_zero, List.drop_zero, List.drop_succ_cons, Nat.zero_add, Nat.reduceAdd, Nat.reduceMul] at hI1
      refine RunTo.freeM rfl (RunOn.madeL (k := 1) hI1 rfl rfl (by decide) rfl Z15 Z5 ?_)
      intro hp2 hI2
      simp only [List.cons_append, List.nil_append, evc, repA, Eng.setMany, List.set_cons_zero, List.set_cons_succ, Nat.zero_mul, Nat.one_mul, List.take_succ_cons, List.take_zero, List.drop_zero, List.drop_succ_cons, Nat.zero_add, Nat.reduceAdd, Nat.reduceMul] at hI2
      refine Rp rfl Z1 ?_
      refine RunTo.nil ?_
      refine Ev.seq ?_
      refine Ev.rg [0, 1, 2, 3] ?_
      refine Rp rfl Z24 ?_
      refine Rl rfl Z7 ?_
      refine Rp rfl Z44 ?_
      refine Rp rfl Z1 ?_
      refine RunTo.nil ?_
      refine Ev.seq ?_
      refine Ev.block ?_
      refine Ev.seq ?_
      refine Ev.rg [0, 1, 2] ?_
      refine Rp rfl Z37 ?_
      refine Rl rfl Z7 ?_
      refine Rp rfl Z1 ?_
      refine RunTo.nil ?_
      refine Ev.condF Z1 ?_
      refine Ev.seq ?_
      refine Ev.rg [0, 1] ?_
      refine Rp rfl Z1 ?_
      refine Rp rfl Z1 ?_
      refine RunTo.nil ?_
      refine Ev.condF Z1 ?_
      refine Ev.skip ?_
      refine Ev.seq ?_
      refine Ev.rg [0] ?_
      refine Rp rfl Z1 ?_
      refine RunTo.nil ?_
      refine Ev.ret ⟨.inr rfl, _, res1, ?_⟩
      simp only [lk_up, lk_lf, Nat.reduceEqDiff, Nat.reduceLT, reduceIte, if_true, if_false, Nat.zero_add, i64, bo, u8, nilS, List.take_succ_cons, List.take_zero, List.drop_zero, List.drop_succ_cons]
      exact frz_sc
    | some n =>
      have e2 := e1 n hln
      simp only
      refine CallTo.body (c := (Tryz.f222.body.getD .skip)) (nt := 35) (rs := #[.tmp 4]) (by assumption) (by kernel_rfl) ⟨by simp, by decide⟩ ?_
      show Ev _ (Code.seq _ _) _ _
      simp only [tmOf_cons, tmOf_nil, i64, bo, u8, nilS, Nat.zero_add, Nat.reduceAdd]
      refine Ev.seq ?_
      refine Ev.rg [0, 1, 2] ?_
      refine RunTo.freeM rfl (RunOn.madeL (k := 0) hI rfl rfl (by decide) rfl Z15 Z5 ?_)
      intro hp1 hI1
      simp only [List.cons_append, List.nil_append, evc, repA, Eng.setMany, List.set_cons_zero, List.set_cons_succ, Nat.zero_mul, Nat.one_mul, List.take_succ_cons, List.take_zero, List.drop_zero, List.drop_succ_cons, Nat.zero_add, Nat.reduceAdd, Nat.reduceMul] at hI1
      refine RunTo.freeM rfl (RunOn.madeL (k := 1) hI1 rfl rfl (by decide) rfl Z15 Z5 ?_)
      intro hp2 hI2
      simp only [List.cons_append, List.nil_append, evc, repA, Eng.setMany, List.set_cons_zero, List.set_cons_succ, Nat.zero_mul, Nat.one_mul, List.take_succ_cons, List.take_zero, List.drop_zero, List.drop_succ_cons, Nat.zero_add, Nat.reduceAdd, Nat.reduceMul] at hI2
      refine Rp rfl Z1 ?_
      refine RunTo.nil ?_
      refine Ev.seq ?_
      refine Ev.rg [0, 1, 2, 3] ?_
      refine Rp rfl Z24 ?_
      refine Rl rfl Z7 ?_
      refine Rp rfl Z91 ?_
      refine Rp rfl Z1 ?_
      refine RunTo.nil ?_
      refine Ev.seq ?_
      refine Ev.block ?_
      refine Ev.seq ?_
      refine Ev.rg [0, 1, 2] ?_
      refine Rp rfl Z37 ?_
      refine Rl rfl Z7 ?_
      refine Rp rfl Z1 ?_
      refine RunTo.nil ?_
      refine Ev.condF Z1 ?_
      refine Ev.seq ?_
      refine Ev.rg [0, 1] ?_
      refine Rp rfl Z1 ?_
      refine Rp rfl Z1 ?_
      refine RunTo.nil ?_
      refine Ev.condT Z1 ?_
      refine Ev.seq ?_
      refine Ev.rg [0, 1, 2, 3, 4, 5] ?_
      refine Rp rfl Z66 ?_
      refine Rl rfl Z7 ?_
      refine Rp rfl Z24 ?_
      refine Rl rfl Z7 ?_
      refine Rp rfl Z58 ?_
      refine Rp rfl Z1 ?_
      refine RunTo.nil ?_
      refine Ev.ret ⟨.inr rfl, _, res1, ?_⟩
      simp only [lk_up, lk_lf, Nat.reduceEqDiff, Nat.reduceLT, reduceIte, if_true, if_false, Nat.zero_add, i64, bo, u8, nilS, List.take_succ_cons, List.take_zero, List.drop_zero, List.drop_succ_cons]
      exact frz_sc
theorem w223 (h : (envL p T).sp 223 = none) (h287 : (envL p T).sp 287 = some (treeSp F287)) (q : Pc) (poll : Int) (c : Option Nat) (x : Pt) (cd cr : Option Nat) (hf : Fits q x) : CallTo (envL p T) 223 [.agg (q.x poll false c), .agg (x.cells false cd cr)] Hp.empty fun v hp' => frz true hp' 20 v = some (bo false) := by
  have hI := IsH.empty
  obtain ⟨hf1, hf2, hf3, hf4⟩ := hf
  have hF : ∀ d, F287 [rgV false x.R d, Clo.v (.inr (q, poll, c))] = some (bo false) := fun d => F287_eq hf4 hf3
  unfold Clo.v at hF
  unfold Pc.x at *
  unfold Pt.cells paC
  refine CallTo.body (c := (Tryz.f223.body.getD .skip)) (nt := 21) (rs := #[.tmp 4]) (by assumption) (by kernel_rfl) ⟨by simp, by decide⟩ ?_
  show Ev _ (Code.seq _ _) _ _
  simp only [tmOf_cons, tmOf_nil, i64, bo, u8, nilS, Nat.zero_add, Nat.reduceAdd]
  refine Ev.seq ?_
  refine Ev.rg [0, 1, 2] ?_
  refine RunTo.freeM rfl (RunOn.madeL (k := 0) hI rfl rfl (by decide) rfl Z15 Z5 ?_)
  intro hp1 hI1
  simp only [List.cons_append, List.nil_append, evc, repA, Eng.setMany, List.set_cons_zero, List.set_cons_succ, Nat.zero_mul, Nat.one_mul, List.take_succ_cons, List.take_zero, List.drop_zero, List.drop_succ_cons, Nat.zero_add, Nat.reduceAdd, Nat.reduceMul] at hI1
  refine RunTo.freeM rfl (RunOn.madeL (k := 1) hI1 rfl rfl (by decide) rfl Z15 Z5 ?_)
  intro hp2 hI2
  simp only [List.cons_append, List.nil_append, evc, repA, Eng.setMany, List.set_cons_zero, List.set_cons_succ, Nat.zero_mul, Nat.one_mul, List.take_succ_cons, List.take_zero, List.drop_zero, List.drop_succ_cons, Nat.zero_add, Nat.reduceAdd, Nat.reduceMul] at hI2
  refine Rp rfl Z1 ?_
  refine RunTo.nil ?_
  refine Ev.seq ?_
  refine Ev.rg [0, 1] ?_
  refine Rp rfl Z92 ?_
  refine Rp rfl Z1 ?_
  refine RunTo.nil ?_
  refine Ev.seq ?_
  refine Ev.rg [0, 1, 2, 3, 4, 5, 6, 7, 8, 9, 10, 11, 12, 13, 14] ?_
  refine Rp rfl Z12 ?_
  refine Rl rfl Z7 ?_
  refine Rp rfl Z1 ?_
  refine RunTo.freeM rfl (RunOn.tree rfl rfl (by decide) Z1 Z1 (by assumption) Z8 (by exact hF _) ?_)
  refine Rp rfl Z1 ?_
  refine Gf rfl rfl Z2 ?_
  refine Gf rfl rfl Z2 ?_
  refine Gf rfl rfl Z2 ?_
  refine Gf rfl rfl Z2 ?_
  refine Gu rfl rfl Z2 ?_
  refine Gu rfl rfl Z2 ?_
  refine Gu rfl rfl Z2 ?_
  refine Gf rfl rfl Z2 ?_
  refine Rp rfl Z1 ?_
  refine Rp rfl Z1 ?_
  refine RunTo.nil ?_
  refine Ev.ret ⟨.inr rfl, _, res1, ?_⟩
  simp only [lk_up, lk_lf, Nat.reduceEqDiff, Nat.reduceLT, reduceIte, if_true, if_false, Nat.zero_add, i64, bo, u8, nilS, List.take_succ_cons, List.take_zero, List.drop_zero, List.drop_succ_cons]
  exact frz_sc
theorem w113 (h : (envL p T).sp 113 = none) (h112 : (envL p T).sp 112 = some (treeSp F112)) (x : Pt) (cd cr : Option Nat) (m : Nm) (hm : m.fi = 0) : CallTo (envL p T) 113 [.agg (x.cells false cd cr), i64 0, .rp false [.rp false m.c]] Hp.empty fun v hp' => frz true hp' 20 v = some (i64 0) := by
  have hI := IsH.empty
  have hF : F112 [.rp false m.c, i64 0] = some (i64 ((0 - m.fi) % 64)) := F112_eq (by omega)
  rw [hm] at hF
  unfold Pt.cells paC
  unfold Nm.c stC at *
  refine CallTo.body (c := (Tryz.f113.body.getD .skip)) (nt := 12) (rs := #[.tmp 5]) (by assumption) (by kernel_rfl) ⟨by simp, by decide⟩ ?_
  show Ev _ (Code.seq _ _) _ _
  simp only [tmOf_cons, tmOf_nil, i64, bo, u8, nilS, Nat.zero_add, Nat.reduceAdd]
  refine Ev.seq ?_
  refine Ev.rg [0, 1] ?_
  refine RunTo.freeM rfl (RunOn.madeL (k := 0) hI rfl rfl (by decide) rfl Z15 Z5 ?_)
  intro hp1 hI1
  simp only [List.cons_append, List.nil_append, evc, repA, Eng.setMany, List.set_cons_zero, List.set_cons_succ, Nat.zero_mul, Nat.one_mul, List.take_succ_cons, List.take_zero, List.drop_zero, List.drop_succ_cons, Nat.zero_add, Nat.reduceAdd, Nat.reduceMul] at hI1
  refine Rp rfl Z1 ?_
  refine RunTo.nil ?_
  refine Ev.seq ?_
  refine Ev.rg [0, 1, 2, 3, 4, 5, 6] ?_
  refine Rl rfl Z13 ?_
  refine Rp rfl Z11 ?_
  refine Rl rfl Z7 ?_
  refine RunTo.freeM rfl (RunOn.tree rfl rfl (by decide) Z1 Z1 (by assumption) Z8 (by exact hF) ?_)
  refine Rp rfl Z1 ?_
  refine Rp rfl Z57 ?_
  refine Rp rfl Z1 ?_
  refine RunTo.nil ?_
  refine Ev.ret ⟨.inr rfl, _, res1, ?_⟩
  simp only [lk_up, lk_lf, Nat.reduceEqDiff, Nat.reduceLT, reduceIte, if_true, if_false, Nat.zero_add, i64, bo, u8, nilS, List.take_succ_cons, List.take_zero, List.drop_zero, List.drop_succ_cons]
  exact frz_sc
theorem w227 (h : (envL p T).sp 227 = none) (h228 : (envL p T).sp 228 = some (treeSp F228)) (x : Pt) (cd cr cap : Option Nat) : CallTo (envL p T) 227 [.ro false (x.cells false cd cr) 1 cap 5, .fn 228 [] [.rp false [i64 0]]] Hp.empty fun v hp' => frz true hp' 20 v = some (i64 0) := by
  have hI := IsH.empty
  have hF : F228 [.agg (x.cells false cd cr), .rp false [i64 0]] = some (bo true) := F228_eq x cd cr
  unfold Pt.cells paC at *
  refine CallTo.body (c := (Tryz.f227.body.getD .skip)) (nt := 19) (rs := #[.tmp 4]) (by assumption) (by kernel_rfl) ⟨by simp, by decide⟩ ?_
  show Ev _ (Code.seq _ _) _ _
  simp only [tmOf_cons, tmOf_nil, i64, bo, u8, nilS, Nat.zero_add, Nat.reduceAdd]
  refine Ev.seq ?_
  refine Ev.rg [0] ?_
  refine Rp rfl Z1 ?_
  refine RunTo.nil ?_
  refine Ev.seq ?_
  refine Ev.seq ?_
  refine Ev.rg [0, 1, 2] ?_
  refine Rp rfl Z1 ?_
  refine Rp rfl Z48 ?_
  refine Rp rfl Z1 ?_
  refine RunTo.nil ?_
  refine Ev.block ?_
  refine Ev.unroll ?_
  refine Ev.seq ?_
  refine Ev.rg [0] ?_
  refine Rp rfl Z25 ?_
  refine RunTo.nil ?_
  refine Ev.seq ?_
  refine Ev.condT Z1 ?_
  refine Ev.skip ?_
  refine Ev.seq ?_
  refine Ev.block ?_
  refine Ev.seq ?_
  refine Ev.rg [0, 1] ?_
  refine Rp rfl Z1 ?_
  refine Rp rfl Z1 ?_
  refine RunTo.nil ?_
  refine Ev.seq ?_
  refine Ev.rg [0, 1, 2, 3, 4, 5] ?_
  refine Rp rfl Z1 ?_
  refine Rp rfl Z1 ?_
  refine Rp rfl Z1 ?_
  refine Rp rfl Z67 ?_
  refine Rl rfl Z76 ?_
  refine RunTo.freeM rfl (RunOn.tree rfl rfl (by decide) Z1 Z1 (by assumption) Z8 (by exact hF) ?_)
  refine RunTo.nil ?_
  refine Ev.condT Z1 ?_
  refine Ev.seq ?_
  refine Ev.rg [0, 1] ?_
  refine Rp rfl Z1 ?_
  refine Rp rfl Z1 ?_
  refine RunTo.nil ?_
  refine Ev.ret ⟨.inr rfl, _, res1, ?_⟩
  simp only [lk_up, lk_lf, Nat.reduceEqDiff, Nat.reduceLT, reduceIte, if_true, if_false, Nat.zero_add, i64, bo, u8, nilS, List.take_succ_cons, List.take_zero, List.drop_zero, List.drop_succ_cons]
  exact frz_sc
theorem w111 (h : (envL p T).sp 111 = none) (h113 : (envL p T).sp 113 = some (treeSp F113)) (x : Par) (m : Nm) (hm : m.fi = 0) : CallTo (envL p T) 111 [x.v false, i64 0, .fn 113 [] [.rp false [.rp false m.c]]] Hp.empty fun v hp' => frz true hp' 20 v = some (.tup [i64 0, bo x.has]) := by
  have hI := IsH.empty
  cases x with
  | none =>
    unfold Par.v Nm.c stC
    refine CallTo.body (c := (Tryz.f111.body.getD .skip)) (nt := 49) (rs := #[.tmp 6, .tmp 7]) (by assumption) (by kernel_rfl) ⟨by simp, by decide⟩ ?_
    show Ev _ (Code.seq _ _) _ _
    simp only [tmOf_cons, tmOf_nil, i64, bo, u8, nilS, Nat.zero_add, Nat.reduceAdd]
    refine Ev.seq ?_
    refine Ev.rg [0, 1] ?_
    refine Rp rfl Z1 ?_
    refine Rp rfl Z1 ?_
    refine RunTo.nil ?_
    refine Ev.seq ?_
    refine Ev.rg [0, 1, 2] ?_
    refine Rp rfl Z1 ?_
    refine Rp rfl Z47 ?_
    refine Rp rfl Z1 ?_
    refine RunTo.nil ?_
    refine Ev.seq ?_
    refine Ev.rg [0, 1, 2] ?_
    refine Rp rfl Z1 ?_
    refine Rp rfl Z1 ?_
    refine Rp rfl Z1 ?_
    refine RunTo.nil ?_
    refine Ev.seq ?_
    refine Ev.block ?_
    refine Ev.unroll ?_
    refine Ev.seq ?_
    refine Ev.seq ?_
    refine Ev.rg [0, 1, 2] ?_
    refine Rp rfl Z1 ?_
    refine Rp rfl Z1 ?_
    refine Rp rfl Z18 ?_
    refine RunTo.nil ?_
    refine Ev.condF Z1 ?_
    refine Ev.exit ?_
    refine thenE_ext ?_
    refine thenE_ext ?_
    refine inBlock_pos ?_
    refine Ev.seq ?_
    refine Ev.rg [0, 1, 2, 3, 4, 5, 6, 7, 8, 9, 10, 11, 12, 13, 14, 15] ?_
    refine Rp rfl Z1 ?_
    refine Rp rfl Z1 ?_
    refine Rp rfl Z1 ?_
    refine Rp rfl Z18 ?_
    refine Rp rfl Z1 ?_
    refine Gf rfl rfl Z2 ?_
    refine Gf rfl rfl Z2 ?_
    refine Gf rfl rfl Z2 ?_
    refine Gf rfl rfl Z2 ?_
    refine Gf rfl rfl Z2 ?_
    refine Gf rfl rfl Z2 ?_
    refine Gf rfl rfl Z2 ?_
    refine Gf rfl rfl Z2 ?_
    refine Rp rfl Z1 ?_
    refine Rp rfl Z1 ?_
    refine Rp rfl Z1 ?_
    refine RunTo.nil ?_
    refine Ev.ret ⟨.inr rfl, _, res2, ?_⟩
    simp only [lk_up, lk_lf, Nat.reduceEqDiff, Nat.reduceLT, reduceIte, if_true, if_false, Nat.zero_add, i64, bo, u8, nilS, List.take_succ_cons, List.take_zero, List.drop_zero, List.drop_succ_cons]
    repeat first | exact allO_nil | with_reducible apply allO_cons | exact frz_sc | with_reducible exact frz_by1 _ _ | with_reducible exact frz_rg1 _ _ | with_reducible exact frz_par1 _ | with_reducible apply frz_ro1 | with_reducible apply frz_agg | with_reducible apply frz_tup
  | gone cap =>
    unfold Par.v Nm.c stC
    refine CallTo.body (c := (Tryz.f111.body.getD .skip)) (nt := 49) (rs := #[.tmp 6, .tmp 7]) (by assumption) (by kernel_rfl) ⟨by simp, by decide⟩ ?_
    show Ev _ (Code.seq _ _) _ _
    simp only [tmOf_cons, tmOf_nil, i64, bo, u8, nilS, Nat.zero_add, Nat.reduceAdd]
    refine Ev.seq ?_
    refine Ev.rg [0, 1] ?_
    refine Rp rfl Z1 ?_
    refine Rp rfl Z1 ?_
    refine RunTo.nil ?_
    refine Ev.seq ?_
    refine Ev.rg [0, 1, 2] ?_
    refine Rp rfl Z1 ?_
    refine Rp rfl Z48 ?_
    refine Rp rfl Z1 ?_
    refine RunTo.nil ?_
    refine Ev.seq ?_
    refine Ev.rg [0, 1, 2] ?_
    refine Rp rfl Z1 ?_
    refine Rp rfl Z1 ?_
    refine Rp rfl Z1 ?_
    refine RunTo.nil ?_
    refine Ev.seq ?_
    refine Ev.block ?_
    refine Ev.unroll ?_
    refine Ev.seq ?_
    refine Ev.seq ?_
    refine Ev.rg [0, 1, 2] ?_
    refine Rp rfl Z1 ?_
    refine Rp rfl Z1 ?_
    refine Rp rfl Z18 ?_
    refine RunTo.nil ?_
    refine Ev.condF Z1 ?_
    refine Ev.exit ?_
    refine thenE_ext ?_
    refine thenE_ext ?_
    refine inBlock_pos ?_
    refine Ev.seq ?_
    refine Ev.rg [0, 1, 2, 3, 4, 5, 6, 7, 8, 9, 10, 11, 12, 13, 14, 15] ?_
    refine Rp rfl Z1 ?_
    refine Rp rfl Z1 ?_
    refine Rp rfl Z1 ?_
    refine Rp rfl Z18 ?_
    refine Rp rfl Z1 ?_
    refine Gf rfl rfl Z2 ?_
    refine Gf rfl rfl Z2 ?_
    refine Gf rfl rfl Z2 ?_
    refine Gf rfl rfl Z2 ?_
    refine Gf rfl rfl Z2 ?_
    refine Gf rfl rfl Z2 ?_
    refine Gf rfl rfl Z2 ?_
    refine Gf rfl rfl Z2 ?_
    refine Rp rfl Z1 ?_
    refine Rp rfl Z1 ?_
    refine Rp rfl Z1 ?_
    refine RunTo.nil ?_
    refine Ev.ret ⟨.inr rfl, _, res2, ?_⟩
    simp only [lk_up, lk_lf, Nat.reduceEqDiff, Nat.reduceLT, reduceIte, if_true, if_false, Nat.zero_add, i64, bo, u8, nilS, List.take_succ_cons, List.take_zero, List.drop_zero, List.drop_succ_cons]
    repeat first | exact allO_nil | with_reducible apply allO_cons | exact frz_sc | with_reducible exact frz_by1 _ _ | with_reducible exact frz_rg1 _ _ | with_reducible exact frz_par1 _ | with_reducible apply frz_ro1 | with_reducible apply frz_agg | with_reducible apply frz_tup
  | one x cd cr cap =>
    have hF : F113 [.agg (x.cells false cd cr), i64 0, .rp false [.rp false m.c]] = some (i64 0) := F113_eq hm
    unfold Par.v
    unfold Pt.cells paC at *
    unfold Nm.c stC at *
    refine CallTo.body (c := (Tryz.f111.body.getD .skip)) (nt := 49) (rs := #[.tmp 6, .tmp 7]) (by assumption) (by kernel_rfl) ⟨by simp, by decide⟩ ?_
    show Ev _ (Code.seq _ _) _ _
    simp only [tmOf_cons, tmOf_nil, i64, bo, u8, nilS, Nat.zero_add, Nat.reduceAdd]
    refine Ev.seq ?_
    refine Ev.rg [0, 1] ?_
    refine Rp rfl Z1 ?_
    refine Rp rfl Z1 ?_
    refine RunTo.nil ?_
    refine Ev.seq ?_
    refine Ev.rg [0, 1, 2] ?_
    refine Rp rfl Z1 ?_
    refine Rp rfl Z48 ?_
    refine Rp rfl Z1 ?_
    refine RunTo.nil ?_
    refine Ev.seq ?_
    refine Ev.rg [0, 1, 2] ?_
    refine Rp rfl Z1 ?_
    refine Rp rfl Z1 ?_
    refine Rp rfl Z1 ?_
    refine RunTo.nil ?_
    refine Ev.seq ?_
    refine Ev.block ?_
    refine Ev.unroll ?_
    refine Ev.seq ?_
    refine Ev.seq ?_
    refine Ev.rg [0, 1, 2] ?_
    refine Rp rfl Z1 ?_
    refine Rp rfl Z1 ?_
    refine Rp rfl Z25 ?_
    refine RunTo.nil ?_
    refine Ev.condT Z1 ?_
    refine Ev.skip ?_
    refine Ev.block ?_
    refine Ev.seq ?_
    refine Ev.rg [0, 1, 2, 3, 4, 5, 6] ?_
    refine Rp rfl Z1 ?_
    refine Rp rfl Z1 ?_
    refine Rp rfl Z38 ?_
    refine Rp rfl (by ((conv => lhs; simp only [evs, evm, lk_up, lk_lf, Nat.reduceEqDiff, Nat.reduceLT, reduceIte, if_true, if_false, i64, bo, u8, nilS, Bool.not_true, Bool.not_false, List.take_succ_cons, List.take_zero, List.drop_zero, List.drop_succ_cons, List.toList_toArray, Int.reduceToNat, Nat.reduceMul, Nat.reduceAdd, Nat.reduceSub, Nat.zero_add]); exact cv_is (w := .sc (.int .u64 (1))) (by kernel_rfl))) ?_
    refine Rp rfl (by ((conv => lhs; simp only [evs, evm, lk_up, lk_lf, Nat.reduceEqDiff, Nat.reduceLT, reduceIte, if_true, if_false, i64, bo, u8, nilS, Bool.not_true, Bool.not_false, List.take_succ_cons, List.take_zero, List.drop_zero, List.drop_succ_cons, List.toList_toArray, Int.reduceToNat, Nat.reduceMul, Nat.reduceAdd, Nat.reduceSub, Nat.zero_add]); exact bin_is (v := .sc (.int .u64 (0))) (by kernel_rfl))) ?_
    refine Rp rfl (by ((conv => lhs; simp only [evs, evm, lk_up, lk_lf, Nat.reduceEqDiff, Nat.reduceLT, reduceIte, if_true, if_false, i64, bo, u8, nilS, Bool.not_true, Bool.not_false, List.take_succ_cons, List.take_zero, List.drop_zero, List.drop_succ_cons, List.toList_toArray, Int.reduceToNat, Nat.reduceMul, Nat.reduceAdd, Nat.reduceSub, Nat.zero_add]); exact cv_is (w := .sc (.int .i64 (0))) (by kernel_rfl))) ?_
    refine Rp rfl Z1 ?_
    refine RunTo.nil ?_
    refine Ev.seq ?_
    refine Ev.rg [0, 1, 2, 3, 4, 5, 6, 7] ?_
    refine Rp rfl Z1 ?_
    refine Rp rfl Z1 ?_
    refine Rp rfl Z1 ?_
    refine Rp rfl Z67 ?_
    refine Rl rfl Z76 ?_
    refine Rp rfl Z1 ?_
    refine RunTo.freeM rfl (RunOn.tree rfl rfl (by decide) Z1 Z1 (by assumption) Z8 (by exact hF) ?_)
    refine Rp rfl Z18 ?_
    refine RunTo.nil ?_
    refine Ev.condF Z1 ?_
    refine Ev.rg [0, 1] ?_
    refine Rp rfl Z1 ?_
    refine Rp rfl Z1 ?_
    refine RunTo.nil ?_
    refine Ev.unroll ?_
    refine Ev.seq ?_
    refine Ev.seq ?_
    refine Ev.rg [0, 1, 2] ?_
    refine Rp rfl Z1 ?_
    refine Rp rfl Z1 ?_
    refine Rp rfl Z18 ?_
    refine RunTo.nil ?_
    refine Ev.condF Z1 ?_
    refine Ev.exit ?_
    refine thenE_ext ?_
    refine thenE_ext ?_
    refine inBlock_pos ?_
    refine Ev.seq ?_
    refine Ev.rg [0, 1, 2, 3, 4, 5, 6, 7, 8, 9, 10, 11, 12, 13, 14, 15] ?_
    refine Rp rfl Z1 ?_
    refine Rp rfl Z1 ?_
    refine Rp rfl Z1 ?_
    refine Rp rfl Z25 ?_
    refine Rp rfl Z1 ?_
    refine Gp rfl rfl Z2 Z1 ?_
    refine Gp rfl rfl Z2 Z1 ?_
    refine Gp rfl rfl Z2 Z1 ?_
    refine Gp rfl rfl Z2 Z67 ?_
    refine Gl rfl rfl Z2 Z76 ?_
    refine Gp rfl rfl Z2 Z1 ?_
    refine RunTo.guardOnM rfl rfl (by decide) Z2 (RunOn.tree rfl rfl (by decide) Z1 Z1 (by assumption) Z8 (by exact hF) ?_)
    refine Gp rfl rfl Z2 Z26 ?_
    refine Rp rfl Z1 ?_
    refine Rp rfl Z1 ?_
    refine Rp rfl Z1 ?_
    refine RunTo.nil ?_
    refine Ev.ret ⟨.inr rfl, _, res2, ?_⟩
    simp only [lk_up, lk_lf, Nat.reduceEqDiff, Nat.reduceLT, reduceIte, if_true, if_false, Nat.zero_add, i64, bo, u8, nilS, List.take_succ_cons, List.take_zero, List.drop_zero, List.drop_succ_cons]
    repeat first | exact allO_nil | with_reducible apply allO_cons | exact frz_sc | with_reducible exact frz_by1 _ _ | with_reducible exact frz_rg1 _ _ | with_reducible exact frz_par1 _ | with_reducible apply frz_ro1 | with_reducible apply frz_agg | with_reducible apply frz_tup
theorem w114 (h : (envL p T).sp 114 = none) (h112 : (envL p T).sp 112 = some (treeSp F112)) (h222 : (envL p T).sp 222 = some (treeSp F222)) (h223 : (envL p T).sp 223 = some (treeSp F223)) (m : Nm) (q : Pc) (poll : Int) (c : Option Nat) (hm : m.fi = 0) (hf : ∀ y a b c, m.px = .one y a b c → Fits q y) : CallTo (envL p T) 114 [.rp false m.c, .agg (q.x poll false c), i64 0, bo m.px.has] Hp.empty fun v hp' => frz true hp' 20 v = some (i64 0) := by
  have hI := IsH.empty
  have hF : F112 [.rp false m.c, i64 0] = some (i64 ((0 - m.fi) % 64)) := F112_eq (by omega)
  rw [hm] at hF
  obtain ⟨fi, ne, up, ma, le, due, px⟩ := m
  simp only at hm hf hF ⊢
  cases px with
  | none =>
    unfold Nm.c stC Par.has at *
    unfold Pc.x
    refine CallTo.body (c := (Tryz.f114.body.getD .skip)) (nt := 59) (rs := #[.tmp 8]) (by assumption) (by kernel_rfl) ⟨by simp, by decide⟩ ?_
    show Ev _ (Code.seq _ _) _ _
    simp only [tmOf_cons, tmOf_nil, i64, bo, u8, nilS, Nat.zero_add, Nat.reduceAdd]
    refine Ev.seq ?_
    refine Ev.rg [0, 1] ?_
    refine RunTo.freeM rfl (RunOn.madeL (k := 0) hI rfl rfl (by decide) rfl Z15 Z5 ?_)
    intro hp1 hI1
    simp only [List.cons_append, List.nil_append, evc, repA, Eng.setMany, List.set_cons_zero, List.set_cons_succ, Nat.zero_mul, Nat.one_mul, List.take_succ_cons, List.take_zero, List.drop_zero, List.drop_succ_cons, Nat.zero_add, Nat.reduceAdd, Nat.reduceMul] at hI1
    refine Rp rfl Z1 ?_
    refine RunTo.nil ?_
    refine Ev.seq ?_
    refine Ev.block ?_
    refine Ev.seq ?_
    refine Ev.draw (M := [0, 0, 2, 6, 15, 0, 32, 96, 224, 480, 992, 2016, 4064, 8191, 16383]) (l := [0, 1, 2, 3, 4, 5, 6, 7, 8, 9, 10, 11, 12, 13, 14]) (by kernel_rfl) (by kernel_rfl) (by kernel_rfl) ?_
    refine Rp rfl Z1 ?_
    refine Rp rfl Z11 ?_
    refine Rp rfl Z11 ?_
    refine Rl rfl Z7 ?_
    refine RunTo.freeM rfl (RunOn.tree rfl rfl (by decide) Z1 Z1 (by assumption) Z8 (by exact hF) ?_)
    refine Rp rfl Z1 ?_
    refine Rp rfl Z1 ?_
    refine Rp rfl Z21 ?_
    refine Rp rfl Z21 ?_
    refine Rp rfl Z21 ?_
    refine Rl rfl Z13 ?_
    refine Rp rfl Z71 ?_
    refine Rp rfl Z99 ?_
    refine Rp rfl Z58 ?_
    refine Rp rfl Z1 ?_
    refine RunTo.nil ?_
    refine Ev.condF Z1 ?_
    refine Ev.seq ?_
    refine Ev.rg [0, 1, 2] ?_
    refine Rp rfl Z1 ?_
    refine Rp rfl Z16 ?_
    refine Rp rfl Z1 ?_
    refine RunTo.nil ?_
    refine Ev.condT Z1 ?_
    refine Ev.seq ?_
    refine Ev.rg [0] ?_
    refine Rp rfl Z1 ?_
    refine RunTo.nil ?_
    refine Ev.ret ⟨.inr rfl, _, res1, ?_⟩
    simp only [lk_up, lk_lf, Nat.reduceEqDiff, Nat.reduceLT, reduceIte, if_true, if_false, Nat.zero_add, i64, bo, u8, nilS, List.take_succ_cons, List.take_zero, List.drop_zero, List.drop_succ_cons]
    exact frz_sc
  | gone cap =>
    unfold Nm.c stC Par.has at *
    unfold Pc.x
    refine CallTo.body (c := (Tryz.f114.body.getD .skip)) (nt := 59) (rs := #[.tmp 8]) (by assumption) (by kernel_rfl) ⟨by simp, by decide⟩ ?_
    show Ev _ (Code.seq _ _) _ _
    simp only [tmOf_cons, tmOf_nil, i64, bo, u8, nilS, Nat.zero_add, Nat.reduceAdd]
    refine Ev.seq ?_
    refine Ev.rg [0, 1] ?_
    refine RunTo.freeM rfl (RunOn.madeL (k := 0) hI rfl rfl (by decide) rfl Z15 Z5 ?_)
    intro hp1 hI1
    simp only [List.cons_append, List.nil_append, evc, repA, Eng.setMany, List.set_cons_zero, List.set_cons_succ, Nat.zero_mul, Nat.one_mul, List.take_succ_cons, List.take_zero, List.drop_zero, List.drop_succ_cons, Nat.zero_add, Nat.reduceAdd, Nat.reduceMul] at hI1
    refine Rp rfl Z1 ?_
    refine RunTo.nil ?_
    refine Ev.seq ?_
    refine Ev.block ?_
    refine Ev.seq ?_
    refine Ev.draw (M := [0, 0, 2, 6, 15, 0, 32, 96, 224, 480, 992, 2016, 4064, 8191, 16383]) (l := [0, 1, 2, 3, 4, 5, 6, 7, 8, 9, 10, 11, 12, 13, 14]) (by kernel_rfl) (by kernel_rfl) (by kernel_rfl) ?_
    refine Rp rfl Z1 ?_
    refine Rp rfl Z11 ?_
    refine Rp rfl Z11 ?_
    refine Rl rfl Z7 ?_
    refine RunTo.freeM rfl (RunOn.tree rfl rfl (by decide) Z1 Z1 (by assumption) Z8 (by exact hF) ?_)
    refine Rp rfl Z1 ?_
    refine Rp rfl Z1 ?_
    refine Rp rfl Z21 ?_
    refine Rp rfl Z21 ?_
    refine Rp rfl Z21 ?_
    refine Rl rfl Z13 ?_
    refine Rp rfl Z71 ?_
    refine Rp rfl Z99 ?_
    refine Rp rfl Z58 ?_
    refine Rp rfl Z1 ?_
    refine RunTo.nil ?_
    refine Ev.condF Z1 ?_
    refine Ev.seq ?_
    refine Ev.rg [0, 1, 2] ?_
    refine Rp rfl Z1 ?_
    refine Rp rfl Z16 ?_
    refine Rp rfl Z1 ?_
    refine RunTo.nil ?_
    refine Ev.condT Z1 ?_
    refine Ev.seq ?_
    refine Ev.rg [0] ?_
    refine Rp rfl Z1 ?_
    refine RunTo.nil ?_
    refine Ev.ret ⟨.inr rfl, _, res1, ?_⟩
    simp only [lk_up, lk_lf, Nat.reduceEqDiff, Nat.reduceLT, reduceIte, if_true, if_false, Nat.zero_add, i64, bo, u8, nilS, List.take_succ_cons, List.take_zero, List.drop_zero, List.drop_succ_cons]
    exact frz_sc
  | one x cd cr cap =>
    have hfx := hf x cd cr cap rfl
    have hA : F222 [.agg (q.x poll false c), .agg (x.cells false cd cr)] = some (bo false) := F222_eq hfx
    have hB : F223 [.agg (q.x poll false c), .agg (x.cells false cd cr)] = some (bo false) := F223_eq hfx
    unfold Nm.c stC Par.has Par.v at *
    unfold Pt.cells paC at *
    unfold Pc.x at *
    refine CallTo.body (c := (Tryz.f114.body.getD .skip)) (nt := 59) (rs := #[.tmp 8]) (by assumption) (by kernel_rfl) ⟨by simp, by decide⟩ ?_
    show Ev _ (Code.seq _ _) _ _
    simp only [tmOf_cons, tmOf_nil, i64, bo, u8, nilS, Nat.zero_add, Nat.reduceAdd]
    refine Ev.seq ?_
    refine Ev.rg [0, 1] ?_
    refine RunTo.freeM rfl (RunOn.madeL (k := 0) hI rfl rfl (by decide) rfl Z15 Z5 ?_)
    intro hp1 hI1
    simp only [List.cons_append, List.nil_append, evc, repA, Eng.setMany, List.set_cons_zero, List.set_cons_succ, Nat.zero_mul, Nat.one_mul, List.take_succ_cons, List.take_zero, List.drop_zero, List.drop_succ_cons, Nat.zero_add, Nat.reduceAdd, Nat.reduceMul] at hI1
    refine Rp rfl Z1 ?_
    refine RunTo.nil ?_
    refine Ev.seq ?_
    refine Ev.block ?_
    refine Ev.seq ?_
    refine Ev.draw (M := [0, 0, 2, 6, 15, 0, 32, 96, 224, 480, 992, 2016, 4064, 8191, 16383]) (l := [0, 1, 2, 3, 4, 5, 6, 7, 8, 9, 10, 11, 12, 13, 14]) (by kernel_rfl) (by kernel_rfl) (by kernel_rfl) ?_
    refine Rp rfl Z1 ?_
    refine Rp rfl Z11 ?_
    refine Rp rfl Z11 ?_
    refine Rl rfl Z7 ?_
    refine RunTo.freeM rfl (RunOn.tree rfl rfl (by decide) Z1 Z1 (by assumption) Z8 (by exact hF) ?_)
    refine Rp rfl Z1 ?_
    refine Rp rfl Z1 ?_
    refine Rp rfl Z21 ?_
    refine Rp rfl Z21 ?_
    refine Rp rfl Z21 ?_
    refine Rl rfl Z13 ?_
    refine Rp rfl Z71 ?_
    refine Rp rfl Z99 ?_
    refine Rp rfl Z58 ?_
    refine Rp rfl Z1 ?_
    refine RunTo.nil ?_
    refine Ev.condF Z1 ?_
    refine Ev.seq ?_
    refine Ev.rg [0, 1, 2] ?_
    refine Rp rfl Z1 ?_
    refine Rp rfl Z16 ?_
    refine Rp rfl Z1 ?_
    refine RunTo.nil ?_
    refine Ev.condF Z1 ?_
    refine Ev.seq ?_
    refine Ev.rg [0, 1, 2, 3, 4, 5, 6, 7, 8, 9] ?_
    refine Rp rfl Z1 ?_
    refine Rp rfl Z1 ?_
    refine Rp rfl Z21 ?_
    refine Rp rfl Z59 ?_
    refine Rl rfl Z13 ?_
    refine Rp rfl Z1 ?_
    refine Rp rfl Z67 ?_
    refine Rp rfl Z116 ?_
    refine Rl rfl Z13 ?_
    refine Rp rfl Z1 ?_
    refine RunTo.nil ?_
    refine Ev.condF Z1 ?_
    refine Ev.seq ?_
    refine Ev.draw (M := [0, 0, 2, 6, 14, 30, 0, 126, 254, 511, 1023]) (l := [0, 1, 2, 3, 4, 5, 6, 7, 8, 9, 10]) (by kernel_rfl) (by kernel_rfl) (by kernel_rfl) ?_
    refine Rl rfl Z100 ?_
    refine Rp rfl Z1 ?_
    refine Rp rfl Z1 ?_
    refine Rp rfl Z21 ?_
    refine Rp rfl Z59 ?_
    refine Rl rfl Z13 ?_
    refine Rp rfl Z1 ?_
    refine Rp rfl Z67 ?_
    refine Rl rfl Z76 ?_
    refine RunTo.freeM rfl (RunOn.tree rfl rfl (by decide) Z1 Z1 (by assumption) Z8 (by exact hA) ?_)
    refine Rp rfl Z1 ?_
    refine RunTo.nil ?_
    refine Ev.condF Z1 ?_
    refine Ev.seq ?_
    refine Ev.draw (M := [0, 0, 2, 6, 14, 30, 0, 126, 254, 511, 1023]) (l := [0, 1, 2, 3, 4, 5, 6, 7, 8, 9, 10]) (by kernel_rfl) (by kernel_rfl) (by kernel_rfl) ?_
    refine Rl rfl Z100 ?_
    refine Rp rfl Z1 ?_
    refine Rp rfl Z1 ?_
    refine Rp rfl Z21 ?_
    refine Rp rfl Z59 ?_
    refine Rl rfl Z13 ?_
    refine Rp rfl Z1 ?_
    refine Rp rfl Z67 ?_
    refine Rl rfl Z76 ?_
    refine RunTo.freeM rfl (RunOn.tree rfl rfl (by decide) Z1 Z1 (by assumption) Z8 (by exact hB) ?_)
    refine Rp rfl Z1 ?_
    refine RunTo.nil ?_
    refine Ev.condF Z1 ?_
    refine Ev.skip ?_
    refine Ev.seq ?_
    refine Ev.rg [0] ?_
    refine Rp rfl Z1 ?_
    refine RunTo.nil ?_
    refine Ev.ret ⟨.inr rfl, _, res1, ?_⟩
    simp only [lk_up, lk_lf, Nat.reduceEqDiff, Nat.reduceLT, reduceIte, if_true, if_false, Nat.zero_add, i64, bo, u8, nilS, List.take_succ_cons, List.take_zero, List.drop_zero, List.drop_succ_cons]
    exact frz_sc
end
end Go.Eng
end
