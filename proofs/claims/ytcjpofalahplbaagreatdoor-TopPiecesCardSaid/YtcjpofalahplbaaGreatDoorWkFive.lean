/- A part of the proof that radiolinktop.TopPieces returns true for every list of numbers. -/
import Derived.Test.YtcjpofalahplbaaGreatDoorSymOne
section
set_option linter.unusedVariables false
set_option linter.unusedSimpArgs false
set_option maxRecDepth 100000
set_option maxHeartbeats 4000000
namespace Go.Eng
open Go Go.RowKit Go.Proofs
section
variable (p : Poly) (T : List (Nat × (List AV → Option AV)))
theorem c221 (h : (envL p T).sp 221 = none) (l : List Rg) (c : Option Nat) (hl0 : l.length ≠ 0) (hl2 : l.length ≤ 1000) (L : List (Option (List AV))) (k : Nat) (hk : L.length + 1 = k) (hL : k < 1000000) : ∀ hp0, IsH hp0 L [] → CallTo (envL p T) 221 [rgV false l c] hp0 fun v hp' => ∃ L' w', IsH hp' L' w' ∧ (v = .sl k 0 l.length none 3 ∧ L' = L ++ [some [], some (rgC l)] ∧ w' = []) := by
  intro hp0 hI
  subst hk
  unfold rgV
  refine CallTo.body (c := (Tryz.f221.body.getD .skip)) (nt := 8) (rs := #[.tmp 2]) (by assumption) (by kernel_rfl) ⟨by simp, by decide⟩ ?_
  show Ev _ (Code.seq _ _) _ _
  simp only [tmOf_cons, tmOf_nil, i64, bo, u8, nilS, Nat.zero_add, Nat.reduceAdd]
  refine Ev.seq ?_
  refine Ev.rg [0] ?_
  refine Rp rfl Z1 ?_
  refine RunTo.nil ?_
  refine Ev.seq ?_
  refine Ev.seq ?_
  refine Ev.rg [0, 1] ?_
  refine Rp rfl Z1 ?_
  refine Rp rfl Z108 ?_
  refine RunTo.nil ?_
  refine Ev.condF Z1 ?_
  refine Ev.skip ?_
  refine Ev.seq ?_
  refine Ev.rg [0, 1, 2, 3] ?_
  refine RunTo.freeM rfl (RunOn.madeL (k := _) hI rfl rfl (by decide) rfl Z98 Z5 ?_)
  intro hp1 hI1
  simp only [List.cons_append, List.nil_append, evc, repA, Eng.setMany, List.set_cons_zero, List.set_cons_succ, Nat.zero_mul, Nat.one_mul, List.take_succ_cons, List.take_zero, List.drop_zero, List.drop_succ_cons, Nat.zero_add, Nat.reduceAdd, Nat.reduceMul] at hI1
  refine Rp rfl Z1 ?_
  refine RunTo.freeM rfl (RunOn.appL (n := 3) hI1 rfl rfl (by decide) rfl rfl rfl (by kernel_rfl) (by kernel_rfl) Z1 Z1 (by exact src_ro (by rw [rgC_len])) (by exact appL_full (k := L.length + 1) (by simp) (get_last _ _) (by simp) (by omega) Z41 hl0 (by omega)) ?_)
  intro hp2 hI2
  simp only [List.cons_append, List.nil_append] at hI2
  refine Rp rfl Z1 ?_
  refine RunTo.nil ?_
  refine Ev.ret ⟨.inr rfl, _, res1, ?_⟩
  simp only [lk_up, lk_lf, Nat.reduceEqDiff, Nat.reduceLT, reduceIte, if_true, if_false, Nat.zero_add, i64, bo, u8, nilS, List.take_succ_cons, List.take_zero, List.drop_zero, List.drop_succ_cons]
  exact ⟨_, _, hI2.wlSet _, trivial, by simp, by rw [hI2.wl]; rfl⟩
theorem c105 (h : (envL p T).sp 105 = none) (l : List Nat) (c : Option Nat) (hl0 : l.length ≠ 0) (hl2 : l.length ≤ 2100) (L : List (Option (List AV))) (k : Nat) (hk : L.length + 1 = k) (hL : k < 1000000) : ∀ hp0, IsH hp0 L [] → CallTo (envL p T) 105 [byV false l c] hp0 fun v hp' => ∃ L' w', IsH hp' L' w' ∧ (v = .sl k 0 l.length none 1 ∧ L' = L ++ [some [], some (byC l)] ∧ w' = []) := by
  intro hp0 hI
  subst hk
  unfold byV
  refine CallTo.body (c := (Tryz.f105.body.getD .skip)) (nt := 8) (rs := #[.tmp 2]) (by assumption) (by kernel_rfl) ⟨by simp, by decide⟩ ?_
  show Ev _ (Code.seq _ _) _ _
  simp only [tmOf_cons, tmOf_nil, i64, bo, u8, nilS, Nat.zero_add, Nat.reduceAdd]
  refine Ev.seq ?_
  refine Ev.rg [0] ?_
  refine Rp rfl Z1 ?_
  refine RunTo.nil ?_
  refine Ev.seq ?_
  refine Ev.seq ?_
  refine Ev.rg [0, 1] ?_
  refine Rp rfl Z1 ?_
  refine Rp rfl Z108 ?_
  refine RunTo.nil ?_
  refine Ev.condF Z1 ?_
  refine Ev.skip ?_
  refine Ev.seq ?_
  refine Ev.rg [0, 1, 2, 3] ?_
  refine RunTo.freeM rfl (RunOn.madeL (k := _) hI rfl rfl (by decide) rfl Z79 Z5 ?_)
  intro hp1 hI1
  simp only [List.cons_append, List.nil_append, evc, repA, Eng.setMany, List.set_cons_zero, List.set_cons_succ, Nat.zero_mul, Nat.one_mul, List.take_succ_cons, List.take_zero, List.drop_zero, List.drop_succ_cons, Nat.zero_add, Nat.reduceAdd, Nat.reduceMul] at hI1
  refine Rp rfl Z1 ?_
  refine RunTo.freeM rfl (RunOn.appL (n := 1) hI1 rfl rfl (by decide) rfl rfl rfl (by kernel_rfl) (by kernel_rfl) Z1 Z1 (by exact src_ro (by rw [byC_len]; omega)) (by exact appL_full (k := L.length + 1) (by simp) (get_last _ _) (by simp) (by omega) Z41 hl0 (by omega)) ?_)
  intro hp2 hI2
  simp only [List.cons_append, List.nil_append] at hI2
  refine Rp rfl Z1 ?_
  refine RunTo.nil ?_
  refine Ev.ret ⟨.inr rfl, _, res1, ?_⟩
  simp only [lk_up, lk_lf, Nat.reduceEqDiff, Nat.reduceLT, reduceIte, if_true, if_false, Nat.zero_add, i64, bo, u8, nilS, List.take_succ_cons, List.take_zero, List.drop_zero, List.drop_succ_cons]
  exact ⟨_, _, hI2.wlSet _, trivial, by simp, by rw [hI2.wl]; rfl⟩
theorem c220 (h : (envL p T).sp 220 = none) (a b c d e : AV) (cap : Option Nat) (L : List (Option (List AV))) (k : Nat) (hk : L.length + 1 = k) (hL : k < 1000000) : ∀ hp0, IsH hp0 L [] → CallTo (envL p T) 220 [.ro false [a, b, c, d, e] 1 cap 5] hp0 fun v hp' => ∃ L' w', IsH hp' L' w' ∧ (v = .sl k 0 1 none 5 ∧ L' = L ++ [some [], some [a, b, c, d, e]] ∧ w' = []) := by
  intro hp0 hI
  subst hk
  have h10 : (1 : Nat) ≠ 0 := by decide
  refine CallTo.body (c := (Tryz.f220.body.getD .skip)) (nt := 8) (rs := #[.tmp 2]) (by assumption) (by kernel_rfl) ⟨by simp, by decide⟩ ?_
  show Ev _ (Code.seq _ _) _ _
  simp only [tmOf_cons, tmOf_nil, i64, bo, u8, nilS, Nat.zero_add, Nat.reduceAdd]
  refine Ev.seq ?_
  refine Ev.rg [0] ?_
  refine Rp rfl Z1 ?_
  refine RunTo.nil ?_
  refine Ev.seq ?_
  refine Ev.seq ?_
  refine Ev.rg [0, 1] ?_
  refine Rp rfl Z1 ?_
  refine Rp rfl Z108 ?_
  refine RunTo.nil ?_
  refine Ev.condF Z1 ?_
  refine Ev.skip ?_
  refine Ev.seq ?_
  refine Ev.rg [0, 1, 2, 3] ?_
  refine RunTo.freeM rfl (RunOn.madeL (k := _) hI rfl rfl (by decide) rfl (by ((conv => lhs; simp only [evs, evm, lk_up, lk_lf, Nat.reduceEqDiff, Nat.reduceLT, reduceIte, if_true, if_false, i64, bo, u8, nilS, Bool.not_true, Bool.not_false, List.take_succ_cons, List.take_zero, List.drop_zero, List.drop_succ_cons, List.toList_toArray, Int.reduceToNat, Nat.reduceMul, Nat.reduceAdd, Nat.reduceSub, Nat.zero_add]); exact build_sl (sz := 5) (z := [.sc (.int .i64 (0)), .sc (.bool false), .sc (.int .i64 (0)), .sc (.slice none 0 0), .sc (.slice none 0 0)]) Z1 (by kernel_rfl) (by decide) rfl)) Z5 ?_)
  intro hp1 hI1
  simp only [List.cons_append, List.nil_append, evc, repA, Eng.setMany, List.set_cons_zero, List.set_cons_succ, Nat.zero_mul, Nat.one_mul, List.take_succ_cons, List.take_zero, List.drop_zero, List.drop_succ_cons, Nat.zero_add, Nat.reduceAdd, Nat.reduceMul] at hI1
  refine Rp rfl Z1 ?_
  refine RunTo.freeM rfl (RunOn.appL (n := 5) hI1 rfl rfl (by decide) rfl rfl rfl (by kernel_rfl) (by kernel_rfl) Z1 Z1 (by exact src_ro (by rfl)) (by exact appL_full (k := L.length + 1) (by simp) (get_last _ _) (by simp) (by decide) (by decide) (by decide) (by omega)) ?_)
  intro hp2 hI2
  simp only [List.cons_append, List.nil_append] at hI2
  refine Rp rfl Z1 ?_
  refine RunTo.nil ?_
  refine Ev.ret ⟨.inr rfl, _, res1, ?_⟩
  simp only [lk_up, lk_lf, Nat.reduceEqDiff, Nat.reduceLT, reduceIte, if_true, if_false, Nat.zero_add, i64, bo, u8, nilS, List.take_succ_cons, List.take_zero, List.drop_zero, List.drop_succ_cons]
  exact ⟨_, _, hI2.wlSet _, trivial, by simp, by rw [hI2.wl]; rfl⟩
theorem c220n (h : (envL p T).sp 220 = none) (L : List (Option (List AV))) : ∀ hp0, IsH hp0 L [] → CallTo (envL p T) 220 [nilS] hp0 fun v hp' => ∃ L' w', IsH hp' L' w' ∧ (v = nilS ∧ L' = L ∧ w' = []) := by
  intro hp0 hI
  refine CallTo.body (c := (Tryz.f220.body.getD .skip)) (nt := 8) (rs := #[.tmp 2]) (by assumption) (by kernel_rfl) ⟨by simp, by decide⟩ ?_
  show Ev _ (Code.seq _ _) _ _
  simp only [tmOf_cons, tmOf_nil, i64, bo, u8, nilS, Nat.zero_add, Nat.reduceAdd]
  refine Ev.seq ?_
  refine Ev.rg [0] ?_
  refine Rp rfl Z1 ?_
  refine RunTo.nil ?_
  refine Ev.seq ?_
  refine Ev.seq ?_
  refine Ev.rg [0, 1] ?_
  refine Rp rfl Z1 ?_
  refine Rp rfl Z1 ?_
  refine RunTo.nil ?_
  refine Ev.condT Z1 ?_
  refine Ev.seq ?_
  refine Ev.rg [0] ?_
  refine Rp rfl Z1 ?_
  refine RunTo.nil ?_
  refine Ev.ret ⟨.inr rfl, _, res1, ?_⟩
  simp only [lk_up, lk_lf, Nat.reduceEqDiff, Nat.reduceLT, reduceIte, if_true, if_false, Nat.zero_add, i64, bo, u8, nilS, List.take_succ_cons, List.take_zero, List.drop_zero, List.drop_succ_cons]
  exact ⟨_, _, hI.wlSet _, trivial, rfl, by rw [hI.wl]; rfl⟩
theorem c109n (h : (envL p T).sp 109 = none) (h220 : (envL p T).sp 220 = none) (A B : Option (List AV)) : ∀ hp0, IsH hp0 [A, B] [] → CallTo (envL p T) 109 [.agg (Nm.c ⟨0, 0, 0, -1, 0, false, .none⟩)] hp0 fun v hp' => ∃ L' w', IsH hp' L' w' ∧ (v = .ptr 3 0 ∧ L' = [A, B, some (Nm.c ⟨0, 0, 0, -1, 0, false, .none⟩), some (Nm.c ⟨0, 0, 0, -1, 0, false, .none⟩)] ∧ w' = []) := by
  intro hp0 hI
  simp only [Nm.c, stC, Par.v]
  refine CallTo.body (c := (Tryz.f109.body.getD .skip)) (nt := 39) (rs := #[.tmp 2]) (by assumption) (by kernel_rfl) ⟨by simp, by decide⟩ ?_
  show Ev _ (Code.seq _ _) _ _
  simp only [tmOf_cons, tmOf_nil, i64, bo, u8, nilS, Nat.zero_add, Nat.reduceAdd]
  refine Ev.seq ?_
  refine Ev.rg [0, 1] ?_
  refine RunTo.freeM rfl (RunOn.madeL (k := 2) hI rfl rfl (by decide) rfl Z15 Z5 ?_)
  intro hp1 hI1
  simp only [List.cons_append, List.nil_append, evc, repA, Eng.setMany, List.set_cons_zero, List.set_cons_succ, Nat.zero_mul, Nat.one_mul, List.take_succ_cons, List.take_zero, List.drop_zero, List.drop_succ_cons, Nat.zero_add, Nat.reduceAdd, Nat.reduceMul] at hI1
  refine Rp rfl Z1 ?_
  refine RunTo.nil ?_
  refine Ev.seq ?_
  refine Ev.rg [0, 1, 2, 3, 4] ?_
  refine Rp rfl Z40 ?_
  refine Rl rfl Z7 ?_
  refine RunTo.freeM rfl (RunOn.callL hI1 rfl rfl (by decide) Z1 Z1 (by simp only [List.nil_append, List.append_nil, List.cons_append]; exact c220n p T h220 _) ?_)
  rintro _ _ _ hp2 ⟨rfl, rfl, rfl⟩ hI2
  simp only [List.cons_append, List.nil_append, List.length_cons, List.length_nil, Nat.zero_add, Nat.reduceAdd] at hI2
  refine Rp rfl Z40 ?_
  refine RunTo.freeM rfl (RunOn.storeL (n := 1) hI2 rfl rfl Z1 Z1 (by kernel_rfl) Z6 Z6 (by rfl) Z9 Z5 ?_)
  intro hp3 hI3
  simp only [set_last, List.set_set, List.set_cons_zero, List.set_cons_succ, List.take_succ_cons, List.take_zero, List.drop_succ_cons, List.drop_zero, Eng.setMany, evc, Nat.zero_add, Nat.reduceAdd, Nat.reduceMul, Nat.reduceSub] at hI3
  refine RunTo.nil ?_
  refine Ev.seq ?_
  refine Ev.seq ?_
  refine Ev.rg [0, 1, 2, 3] ?_
  refine Rp rfl Z40 ?_
  refine Rl rfl Z7 ?_
  refine Rp rfl Z47 ?_
  refine Rp rfl Z1 ?_
  refine RunTo.nil ?_
  refine Ev.block ?_
  refine Ev.unroll ?_
  refine Ev.seq ?_
  refine Ev.rg [0] ?_
  refine Rp rfl Z18 ?_
  refine RunTo.nil ?_
  refine Ev.seq ?_
  refine Ev.condF Z1 ?_
  refine Ev.exit ?_
  refine thenE_ext ?_
  refine thenE_ext ?_
  refine inBlock_pos ?_
  refine Ev.seq ?_
  refine Ev.rg [0, 1, 2, 3] ?_
  refine Rl rfl Z52 ?_
  refine Rp rfl Z77 ?_
  refine RunTo.freeM rfl (RunOn.madeL (k := 3) hI3 rfl rfl (by decide) rfl Z15 Z5 ?_)
  intro hp4 hI4
  simp only [List.cons_append, List.nil_append, evc, repA, Eng.setMany, List.set_cons_zero, List.set_cons_succ, Nat.zero_mul, Nat.one_mul, List.take_succ_cons, List.take_zero, List.drop_zero, List.drop_succ_cons, Nat.zero_add, Nat.reduceAdd, Nat.reduceMul] at hI4
  refine Rp rfl Z1 ?_
  refine RunTo.nil ?_
  refine Ev.ret ⟨.inr rfl, _, res1, ?_⟩
  simp only [lk_up, lk_lf, Nat.reduceEqDiff, Nat.reduceLT, reduceIte, if_true, if_false, Nat.zero_add, i64, bo, u8, nilS, List.take_succ_cons, List.take_zero, List.drop_zero, List.drop_succ_cons]
  exact ⟨_, _, hI4.wlSet _, trivial, rfl, by rw [hI4.wl, hI.n]; rfl⟩
def midL (A B : Option (List AV)) (x : Pt) : List (Option (List AV)) := [A, B, some (stC 0 1 1 1 3 true (.sl 4 0 1 none 5)), some [], some (paC x.len (.sl 6 0 x.D.length none 1) (.sl 8 0 x.R.length none 3)), some [], some (byC x.D), some [], some (rgC x.R), some (stC 0 1 1 1 3 true (.sl 4 0 1 none 5))]
theorem c109m (h : (envL p T).sp 109 = none) (h105 : (envL p T).sp 105 = none) (h220 : (envL p T).sp 220 = none) (h221 : (envL p T).sp 221 = none) (A B : Option (List AV)) (x : Pt) (cap : Option Nat) (hx : x.Ok) (hl : x.R.length ≤ 60) : ∀ hp0, IsH hp0 [A, B] [] → CallTo (envL p T) 109 [.agg (Nm.c ⟨0, 1, 1, 1, 3, true, .one x none none cap⟩)] hp0 fun v hp' => ∃ L' w', IsH hp' L' w' ∧ (v = .ptr 9 0 ∧ L' = midL A B x ∧ w' = []) := by
  intro hp0 hI
  have hd := hx.dl
  have hm := hx.most
  have he := (cov_end hx.nrm hx.ne).1
  have hR : x.R.length ≠ 0 := fun k => hx.ne (List.eq_nil_of_length_eq_zero k)
  simp only [Nm.c, stC, Par.v, Pt.cells, paC]
  refine CallTo.body (c := (Tryz.f109.body.getD .skip)) (nt := 39) (rs := #[.tmp 2]) (by assumption) (by kernel_rfl) ⟨by simp, by decide⟩ ?_
  show Ev _ (Code.seq _ _) _ _
  simp only [tmOf_cons, tmOf_nil, i64, bo, u8, nilS, Nat.zero_add, Nat.reduceAdd]
  refine Ev.seq ?_
  refine Ev.rg [0, 1] ?_
  refine RunTo.freeM rfl (RunOn.madeL (k := 2) hI rfl rfl (by decide) rfl Z15 Z5 ?_)
  intro hp1 hI1
  simp only [List.cons_append, List.nil_append, evc, repA, Eng.setMany, List.set_cons_zero, List.set_cons_succ, Nat.zero_mul, Nat.one_mul, List.take_succ_cons, List.take_zero, List.drop_zero, List.drop_succ_cons, Nat.zero_add, Nat.reduceAdd, Nat.reduceMul] at hI1
  refine Rp rfl Z1 ?_
  refine RunTo.nil ?_
  refine Ev.seq ?_
  refine Ev.rg [0, 1, 2, 3, 4] ?_
  refine Rp rfl Z40 ?_
  refine Rl rfl Z7 ?_
  refine RunTo.freeM rfl (RunOn.callL hI1 rfl rfl (by decide) Z1 Z1 (by simp only [List.nil_append, List.append_nil, List.cons_append]; exact c220 p T h220 _ _ _ _ _ cap _ 4 rfl (by decide)) ?_)
  rintro _ _ _ hp2 ⟨rfl, rfl, rfl⟩ hI2
  simp only [List.cons_append, List.nil_append, List.length_cons, List.length_nil, Nat.zero_add, Nat.reduceAdd] at hI2
  refine Rp rfl Z40 ?_
  refine RunTo.freeM rfl (RunOn.storeL (n := 1) hI2 rfl rfl Z1 Z1 (by kernel_rfl) Z6 Z6 (by rfl) Z9 Z5 ?_)
  intro hp3 hI3
  simp only [set_last, List.set_set, List.set_cons_zero, List.set_cons_succ, List.take_succ_cons, List.take_zero, List.drop_succ_cons, List.drop_zero, Eng.setMany, evc, Nat.zero_add, Nat.reduceAdd, Nat.reduceMul, Nat.reduceSub] at hI3
  refine RunTo.nil ?_
  refine Ev.seq ?_
  refine Ev.seq ?_
  refine Ev.rg [0, 1, 2, 3] ?_
  refine Rp rfl Z40 ?_
  refine Rl rfl Z7 ?_
  refine Rp rfl Z86 ?_
  refine Rp rfl Z1 ?_
  refine RunTo.nil ?_
  refine Ev.block ?_
  refine Ev.unroll ?_
  refine Ev.seq ?_
  refine Ev.rg [0] ?_
  refine Rp rfl Z25 ?_
  refine RunTo.nil ?_
  refine Ev.seq ?_
  refine Ev.condT Z1 ?_
  refine Ev.skip ?_
  refine Ev.seq ?_
  refine Ev.block ?_
  refine Ev.seq ?_
  refine Ev.rg [0, 1] ?_
  refine Rp rfl Z1 ?_
  refine Rp rfl Z1 ?_
  refine RunTo.nil ?_
  refine Ev.seq ?_
  refine Ev.rg [0, 1, 2, 3, 4] ?_
  refine Rp rfl Z40 ?_
  refine Rl rfl Z7 ?_
  refine Rp rfl Z1 ?_
  refine Rp rfl Z93 ?_
  refine Rp rfl Z1 ?_
  refine RunTo.nil ?_
  refine Ev.draw (M := [0, 0, 0, 4, 12, 28, 60, 0, 128, 384, 896, 2044, 4093, 8189, 16381, 32767, 65535, 131071]) (l := [2, 3, 4, 5, 6, 7, 8, 9, 10, 11, 0, 12, 13, 14, 1, 15, 16, 17]) (by kernel_rfl) (by kernel_rfl) (by kernel_rfl) ?_
  refine Rp rfl Z1 ?_
  refine Rp rfl Z1 ?_
  refine Rp rfl Z19 ?_
  refine Rl rfl Z7 ?_
  refine RunTo.freeM rfl (RunOn.callL hI3 rfl rfl (by decide) Z1 Z1 (by simp only [List.nil_append, List.append_nil, List.cons_append]; exact c105 p T h105 x.D none (by omega) (by omega) _ 6 rfl (by decide)) ?_)
  rintro _ _ _ hp4 ⟨rfl, rfl, rfl⟩ hI4
  simp only [List.cons_append, List.nil_append, List.length_cons, List.length_nil, Nat.zero_add, Nat.reduceAdd] at hI4
  refine Rp rfl Z1 ?_
  refine Rp rfl Z1 ?_
  refine Rp rfl Z12 ?_
  refine Rl rfl Z7 ?_
  refine RunTo.freeM rfl (RunOn.callL hI4 rfl rfl (by decide) Z1 Z1 (by simp only [List.nil_append, List.append_nil, List.cons_append]; exact c221 p T h221 x.R none hR (by omega) _ 8 rfl (by decide)) ?_)
  rintro _ _ _ hp5 ⟨rfl, rfl, rfl⟩ hI5
  simp only [List.cons_append, List.nil_append, List.length_cons, List.length_nil, Nat.zero_add, Nat.reduceAdd] at hI5
  refine Rp rfl Z1 ?_
  refine Rp rfl Z1 ?_
  refine Rp rfl Z19 ?_
  refine RunTo.freeM rfl (RunOn.storeL (n := 1) hI5 rfl rfl Z1 Z1 (by kernel_rfl) Z6 Z6 (by rfl) Z9 Z5 ?_)
  intro hp6 hI6
  simp only [set_last, List.set_set, List.set_cons_zero, List.set_cons_succ, List.take_succ_cons, List.take_zero, List.drop_succ_cons, List.drop_zero, Eng.setMany, evc, Nat.zero_add, Nat.reduceAdd, Nat.reduceMul, Nat.reduceSub] at hI6
  refine Rp rfl Z1 ?_
  refine Rp rfl Z1 ?_
  refine Rp rfl Z12 ?_
  refine RunTo.freeM rfl (RunOn.storeL (n := 1) hI6 rfl rfl Z1 Z1 (by kernel_rfl) Z6 Z6 (by rfl) Z9 Z5 ?_)
  intro hp7 hI7
  simp only [set_last, List.set_set, List.set_cons_zero, List.set_cons_succ, List.take_succ_cons, List.take_zero, List.drop_succ_cons, List.drop_zero, Eng.setMany, evc, Nat.zero_add, Nat.reduceAdd, Nat.reduceMul, Nat.reduceSub] at hI7
  refine RunTo.nil ?_
  refine Ev.rg [0, 1] ?_
  refine Rp rfl Z38 ?_
  refine Rp rfl Z1 ?_
  refine RunTo.nil ?_
  refine Ev.unroll ?_
  refine Ev.seq ?_
  refine Ev.rg [0] ?_
  refine Rp rfl Z18 ?_
  refine RunTo.nil ?_
  refine Ev.seq ?_
  refine Ev.condF Z1 ?_
  refine Ev.exit ?_
  refine thenE_ext ?_
  refine thenE_ext ?_
  refine inBlock_pos ?_
  refine Ev.seq ?_
  refine Ev.rg [0, 1, 2, 3] ?_
  refine Rl rfl Z52 ?_
  refine Rp rfl Z77 ?_
  refine RunTo.freeM rfl (RunOn.madeL (k := 9) hI7 rfl rfl (by decide) rfl Z15 Z5 ?_)
  intro hp8 hI8
  simp only [List.cons_append, List.nil_append, evc, repA, Eng.setMany, List.set_cons_zero, List.set_cons_succ, Nat.zero_mul, Nat.one_mul, List.take_succ_cons, List.take_zero, List.drop_zero, List.drop_succ_cons, Nat.zero_add, Nat.reduceAdd, Nat.reduceMul] at hI8
  refine Rp rfl Z1 ?_
  refine RunTo.nil ?_
  refine Ev.ret ⟨.inr rfl, _, res1, ?_⟩
  simp only [lk_up, lk_lf, Nat.reduceEqDiff, Nat.reduceLT, reduceIte, if_true, if_false, Nat.zero_add, i64, bo, u8, nilS, List.take_succ_cons, List.take_zero, List.drop_zero, List.drop_succ_cons]
  exact ⟨_, _, hI8.wlSet _, trivial, rfl, by rw [hI8.wl, hI.n]; rfl⟩
end
end Go.Eng
end
section
set_option linter.unusedVariables false
set_option linter.unusedSimpArgs false
set_option maxRecDepth 100000
set_option maxHeartbeats 4000000
namespace Go.Eng
open Go Go.RowKit Go.Proofs
section
variable (p : Poly) (T : List (Nat × (List AV → Option AV)))
theorem set_self {α : Type} {L : List α} {b : Nat} {x : α} (h : L[b]? = some x) : L.set b x = L := by
  apply List.ext_getElem?
  intro i
  rw [List.getElem?_set]
  by_cases e : b = i
  · subst e
    have hb : b < L.length := by
      rcases Nat.lt_or_ge b L.length with q | q
      · exact q
      · rw [List.getElem?_eq_none q] at h; cases h
    rw [if_pos rfl, if_pos hb, h]
  · rw [if_neg e]
theorem ints_at (t : List Int) (a : Int) (h0 : 0 ≤ a) (h : a.toNat < t.length) : (List.drop ((a + 1 - 1).toNat * 1) (List.map i64 t))[0]? = some (i64 (t.getD a.toNat 0)) := by
  rw [show (a + 1 - 1).toNat * 1 = a.toNat by omega, List.getElem?_drop]
  simp [h]
theorem modF_range {n m : Int} (h : 1 ≤ m) (h2 : m < 1000000000) : 0 ≤ modF n m ∧ modF n m < m := by
  unfold modF
  have h3 := Int.tmod_lt_of_pos n (show 0 < m by omega)
  have h4 : -m < n.tmod m := by
    have := Int.tmod_lt_of_pos (-n) (show 0 < m by omega)
    rw [Int.neg_tmod] at this
    omega
  generalize n.tmod m = q at *
  split
  · rw [wrap_id (by omega) (by omega)]; omega
  · omega
theorem c18 (h : (envL p T).sp 18 = none) (h13 : (envL p T).sp 13 = some (treeSp F13)) (t : List Int) (a n : Int) (hn : 1 ≤ n) (hn2 : n < 1000000000) (ha : 0 ≤ a) (hlen : t.length < 1000000) (L : List (Option (List AV))) (b : Nat) (hb : L[b]? = some (some (diceB t a))) (hL : L.length < 1000000) : ∀ hp0, IsH hp0 L [] → CallTo (envL p T) 18 [.ptr b 0, i64 n] hp0 fun v hp' => ∃ L' w', IsH hp' L' w' ∧ ∃ x a' : Int, v = i64 x ∧ 0 ≤ x ∧ x < n ∧ 0 ≤ a' ∧ L' = L.set b (some (diceB t a')) ∧ ∀ c ∈ w', c = b := by
  intro hp0 hI
  unfold diceB at *
  have hbl := lt_of_get hb
  by_cases hlt : (t.length : Int) ≤ a
  · refine CallTo.body (c := (Tryz.f18.body.getD .skip)) (nt := 35) (rs := #[.tmp 4]) (by assumption) (by kernel_rfl) ⟨by simp, by decide⟩ ?_
    show Ev _ (Code.seq _ _) _ _
    simp only [tmOf_cons, tmOf_nil, i64, bo, u8, nilS, Nat.zero_add, Nat.reduceAdd]
    refine Ev.seq ?_
    refine Ev.rg [0] ?_
    refine Rp rfl Z1 ?_
    refine RunTo.nil ?_
    refine Ev.seq ?_
    refine Ev.seq ?_
    refine Ev.draw (M := [0, 1, 3, 7, 0, 16, 48, 112, 240, 511]) (l := [0, 1, 2, 3, 4, 5, 6, 7, 8, 9]) (by kernel_rfl) (by kernel_rfl) (by kernel_rfl) ?_
    refine Rp rfl Z1 ?_
    refine Rp rfl Z1 ?_
    refine Rp rfl Z17 ?_
    refine Rl rfl Z22 ?_
    refine Rp rfl Z1 ?_
    refine Rp rfl Z1 ?_
    refine Rp rfl Z11 ?_
    refine Rl rfl Z22 ?_
    refine Rp rfl Z48 ?_
    refine Rp rfl Z78 ?_
    refine RunTo.nil ?_
    refine Ev.condT Z1 ?_
    refine Ev.seq ?_
    refine Ev.rg [0] ?_
    refine Rp rfl Z1 ?_
    refine RunTo.nil ?_
    refine Ev.ret ⟨.inr rfl, _, res1, ?_⟩
    simp only [lk_up, lk_lf, Nat.reduceEqDiff, Nat.reduceLT, reduceIte, if_true, if_false, Nat.zero_add, i64, bo, u8, nilS, List.take_succ_cons, List.take_zero, List.drop_zero, List.drop_succ_cons]
    refine ⟨_, _, hI.wlSet _, 0, a, rfl, Int.le_refl _, by omega, ha, ?_, ?_⟩
    · exact (set_self hb).symm
    · rw [hI.wl]; intro c hc; simp at hc
  · have hta : a.toNat < t.length := by omega
    refine CallTo.body (c := (Tryz.f18.body.getD .skip)) (nt := 35) (rs := #[.tmp 4]) (by assumption) (by kernel_rfl) ⟨by simp, by decide⟩ ?_
    show Ev _ (Code.seq _ _) _ _
    simp only [tmOf_cons, tmOf_nil, i64, bo, u8, nilS, Nat.zero_add, Nat.reduceAdd]
    refine Ev.seq ?_
    refine Ev.rg [0] ?_
    refine Rp rfl Z1 ?_
    refine RunTo.nil ?_
    refine Ev.seq ?_
    refine Ev.seq ?_
    refine Ev.draw (M := [0, 1, 3, 7, 0, 16, 48, 112, 240, 511]) (l := [0, 1, 2, 3, 4, 5, 6, 7, 8, 9]) (by kernel_rfl) (by kernel_rfl) (by kernel_rfl) ?_
    refine Rp rfl Z1 ?_
    refine Rp rfl Z1 ?_
    refine Rp rfl Z17 ?_
    refine Rl rfl Z22 ?_
    refine Rp rfl Z1 ?_
    refine Rp rfl Z1 ?_
    refine Rp rfl Z11 ?_
    refine Rl rfl Z22 ?_
    refine Rp rfl Z48 ?_
    refine Rp rfl Z58 ?_
    refine RunTo.nil ?_
    refine Ev.condF Z1 ?_
    refine Ev.skip ?_
    refine Ev.seq ?_
    refine Ev.rg [0, 1, 2, 3, 4, 5, 6, 7] ?_
    refine Rp rfl Z1 ?_
    refine Rp rfl Z1 ?_
    refine Rp rfl Z17 ?_
    refine Rl rfl Z22 ?_
    refine Rp rfl Z34 ?_
    refine Rp rfl Z1 ?_
    refine Rp rfl Z17 ?_
    refine RunTo.freeM rfl (RunOn.storeL (n := 1) hI rfl rfl Z1 Z1 (by kernel_rfl) Z6 Z6 (by assumption) Z9 Z5 ?_)
    intro hp1 hI1
    simp only [set_last, List.set_set, List.set_cons_zero, List.set_cons_succ, List.take_succ_cons, List.take_zero, List.drop_succ_cons, List.drop_zero, Eng.setMany, evc, Nat.zero_add, Nat.reduceAdd, Nat.reduceMul, Nat.reduceSub] at hI1
    refine RunTo.nil ?_
    refine Ev.seq ?_
    refine Ev.draw (M := [0, 1, 3, 7, 0, 16, 48, 112, 240, 511, 1023, 0, 4095, 8191]) (l := [0, 1, 2, 3, 4, 5, 6, 7, 8, 9, 10, 11, 12, 13]) (by kernel_rfl) (by kernel_rfl) (by kernel_rfl) ?_
    refine Rp rfl Z1 ?_
    refine Rp rfl Z1 ?_
    refine Rp rfl Z11 ?_
    refine Rl rfl Z72 ?_
    refine Rp rfl Z1 ?_
    refine Rp rfl Z1 ?_
    refine Rp rfl Z17 ?_
    refine Rl rfl Z72 ?_
    refine Rp rfl Z55 ?_
    refine Rp rfl Z32 ?_
    refine Rl rfl (by ((conv => lhs; simp only [evs, evm, lk_up, lk_lf, Nat.reduceEqDiff, Nat.reduceLT, reduceIte, if_true, if_false, i64, bo, u8, nilS, Bool.not_true, Bool.not_false, List.take_succ_cons, List.take_zero, List.drop_zero, List.drop_succ_cons, List.toList_toArray, Int.reduceToNat, Nat.reduceMul, Nat.reduceAdd, Nat.reduceSub, Nat.zero_add]); exact load_rp (by kernel_rfl) (by kernel_rfl) (ints_at t a ha hta))) ?_
    refine Rp rfl Z1 ?_
    refine RunTo.freeM rfl (RunOn.tree rfl rfl (by decide) Z1 Z1 (by assumption) Z8 (by exact F13_eq hn) ?_)
    refine Rp rfl Z1 ?_
    refine RunTo.nil ?_
    refine Ev.ret ⟨.inr rfl, _, res1, ?_⟩
    simp only [lk_up, lk_lf, Nat.reduceEqDiff, Nat.reduceLT, reduceIte, if_true, if_false, Nat.zero_add, i64, bo, u8, nilS, List.take_succ_cons, List.take_zero, List.drop_zero, List.drop_succ_cons]
    obtain ⟨m1, m2⟩ := modF_range (n := t.getD a.toNat 0) hn hn2
    refine ⟨_, _, hI1.wlSet _, modF (t.getD a.toNat 0) n, a + 1, rfl, m1, m2, by omega, rfl, ?_⟩
    rw [hI1.wl]
    intro c hc
    simp at hc
    exact hc.1
def BySl (L : List (Option (List AV))) (lo : Nat) (v : AV) (bs : List Nat) : Prop := (bs = [] ∧ v = nilS) ∨ ∃ k, lo ≤ k ∧ bs ≠ [] ∧ v = .sl k 0 bs.length none 1 ∧ L[k]? = some (some (byC bs))
theorem c54 (h : (envL p T).sp 54 = none) (h18 : (envL p T).sp 18 = none) (h13 : (envL p T).sp 13 = some (treeSp F13)) (t : List Int) (a n : Int) (hn : 0 ≤ n) (hn2 : n < 1000) (ha : 0 ≤ a) (hlen : t.length < 1000000) (L : List (Option (List AV))) (b : Nat) (hb : L[b]? = some (some (diceB t a))) (hL : L.length < 10000) : ∀ hp0, IsH hp0 L [] → CallTo (envL p T) 54 [.ptr b 0, i64 n] hp0 fun v hp' => ∃ L' w', IsH hp' L' w' ∧ ∃ (bs : List Nat) (a' : Int) (J : List (Option (List AV))), 0 ≤ a' ∧ L' = L.set b (some (diceB t a')) ++ J ∧ BySl L' L.length v bs ∧ (bs.length : Int) ≤ n ∧ (∀ c ∈ bs, c < 256) ∧ J.length ≤ 2000 ∧ ∀ c ∈ w', c = b := by
  intro hp0 hI
  have hbl := lt_of_get hb
  refine CallTo.body (c := (Tryz.f54.body.getD .skip)) (nt := 22) (rs := #[.tmp 4]) (by assumption) (by kernel_rfl) ⟨by simp, by decide⟩ ?_
  show Ev _ (Code.seq _ _) _ _
  simp only [tmOf_cons, tmOf_nil, i64, bo, u8, nilS, Nat.zero_add, Nat.reduceAdd]
  refine Ev.seq ?_
  refine Ev.rg [0] ?_
  refine Rp rfl Z1 ?_
  refine RunTo.nil ?_
  refine Ev.seq ?_
  refine Ev.rg [0] ?_
  refine Rp rfl Z1 ?_
  refine RunTo.nil ?_
  refine Ev.seq ?_
  refine Ev.seq ?_
  refine Ev.rg [0, 1, 2, 3, 4] ?_
  refine Rp rfl Z1 ?_
  refine Rp rfl Z1 ?_
  refine Rp rfl Z34 ?_
  refine RunTo.freeM rfl (RunOn.callL hI rfl rfl (by decide) Z1 Z1 (by simp only [List.nil_append, List.append_nil, List.cons_append]; exact c18 p T h18 h13 t a (n + 1) (by omega) (by omega) ha hlen L b hb (by omega)) ?_)
  rintro v L1 w1 hp1 ⟨x, a1, rfl, hx0, hx1, ha1, rfl, hw1⟩ hI1
  refine Rp rfl Z1 ?_
  refine RunTo.nil ?_
  refine Ev.block ?_
  have hxk : x = (x.toNat : Int) := by omega
  rw [hxk]
  refine Ev.loop (fun (y : Nat × List Nat) s => y.1 + y.2.length = x.toNat ∧ (∀ c ∈ y.2, c < 256) ∧ ∃ tm hp a' J w, s = ⟨22, tm, hp⟩ ∧ 0 ≤ a' ∧ IsH hp (L.set b (some (diceB t a')) ++ J) w ∧ J.length ≤ 2 * y.2.length ∧ BySl (L.set b (some (diceB t a')) ++ J) L.length (lk tm 5) y.2 ∧ lk tm 0 = .ptr b 0 ∧ lk tm 6 = .sc (.int .i64 y.1) ∧ ∀ c ∈ w, c = b ∨ L.length ≤ c) (fun y => y.1) ?_ (x := (x.toNat, [])) ⟨by simp, by simp, _, _, a1, [], _, rfl, ha1, by rw [List.append_nil]; exact hI1, by simp, .inl ⟨rfl, ?_⟩, ?_, ?_, ?_⟩
  · rintro ⟨k, bs⟩ s ⟨hk, hbs, tm, hp, a2, J, w, rfl, ha2, hI2, hJ, hv, k0, k6, hw⟩
    simp only at hk hbs hJ hv k6
    have hJn : J.length ≤ 2002 := by omega
    have hbJ : (L.set b (some (diceB t a2)) ++ J)[b]? = some (some (diceB t a2)) := get_app (get_set_self hb)
    cases k with
    | zero =>
      refine Ev.seq ?_
      refine Ev.seq ?_
      refine Ev.rg [0, 1] ?_
      refine Rp rfl (Z3 (Y2 k0 k6)) ?_
      refine Rp rfl (Z83 (Y2 k0 k6)) ?_
      refine RunTo.nil ?_
      refine Ev.condF (Z3 (Y2 k0 k6)) ?_
      refine Ev.exit ?_
      refine thenE_ext ?_
      refine inBlock_pos ?_
      refine Ev.seq ?_
      refine Ev.rg [0, 1] ?_
      refine Rp rfl (Z3 (Y2 k0 k6)) ?_
      refine Rp rfl (Z3 (Y2 k0 k6)) ?_
      refine RunTo.nil ?_
      refine Ev.ret ⟨.inr rfl, _, res1, ?_⟩
      simp only [lk_up, lk_lf, Nat.reduceEqDiff, Nat.reduceLT, reduceIte, if_true, if_false, Nat.zero_add, i64, bo, u8, nilS, List.take_succ_cons, List.take_zero, List.drop_zero, List.drop_succ_cons, k0, k6]
      refine ⟨_, _, hI2.wlSet _, bs, a2, J, ha2, rfl, hv, by omega, hbs, by omega, ?_⟩
      intro c hc
      rw [hI2.wl, hI.n] at hc
      simp only [List.mem_filter, decide_eq_true_eq] at hc
      rcases hw c hc.1 with q | q
      · exact q
      · omega
    | succ k =>
      rcases hv with ⟨hb0, k5⟩ | ⟨kk, hkk, hne, k5, hbk⟩
      · subst hb0
        have hJ0 : J.length = 0 := by simpa using hJ
        refine Ev.seq ?_
        refine Ev.seq ?_
        refine Ev.rg [0, 1] ?_
        refine Rp rfl (Z3 (Y3 k0 k6 k5)) ?_
        refine Rp rfl (Z65 (Y3 k0 k6 k5)) ?_
        refine RunTo.nil ?_
        refine Ev.condT (Z3 (Y3 k0 k6 k5)) ?_
        refine Ev.skip ?_
        refine Ev.seq ?_
        refine Ev.block ?_
        refine Ev.rg [0, 1, 2, 3, 4, 5, 6] ?_
        refine Rp rfl (Z3 (Y3 k0 k6 k5)) ?_
        refine Rp rfl (Z3 (Y3 k0 k6 k5)) ?_
        refine RunTo.freeM rfl (RunOn.callL hI2 rfl rfl (by decide) (Z3 (Y3 k0 k6 k5)) (Z3 (Y3 k0 k6 k5)) (by simp only [List.nil_append, List.append_nil, List.cons_append]; exact c18 p T h18 h13 t a2 256 (by decide) (by decide) ha2 hlen _ b hbJ (by simp; omega)) ?_)
        rintro v L3 w3 hp3 ⟨z, a3, rfl, hz0, hz1, ha3, rfl, hw3⟩ hI3
        have hset : (L.set b (some (diceB t a2)) ++ J).set b (some (diceB t a3)) = L.set b (some (diceB t a3)) ++ J := by
          rw [List.set_append_left _ _ (by simpa using hbl), List.set_set]
        rw [hset] at hI3
        obtain ⟨zn, rfl⟩ := Int.eq_ofNat_of_zero_le hz0
        refine Rp rfl (by ((conv => lhs; simp only [evs, evm, lk_up, lk_lf, Nat.reduceEqDiff, Nat.reduceLT, reduceIte, if_true, if_false, i64, bo, u8, nilS, Bool.not_true, Bool.not_false, List.take_succ_cons, List.take_zero, List.drop_zero, List.drop_succ_cons, List.toList_toArray, Int.reduceToNat, Nat.reduceMul, Nat.reduceAdd, Nat.reduceSub, Nat.zero_add, k0, k6, k5]); exact cv_u8 (by kernel_rfl) (by kernel_rfl) (by omega) (by omega))) ?_
        refine RunTo.freeM rfl (RunOn.madeL (k := _) hI3 rfl rfl (by decide) rfl (by ((conv => lhs; simp only [evs, evm, lk_up, lk_lf, Nat.reduceEqDiff, Nat.reduceLT, reduceIte, if_true, if_false, i64, bo, u8, nilS, Bool.not_true, Bool.not_false, List.take_succ_cons, List.take_zero, List.drop_zero, List.drop_succ_cons, List.toList_toArray, Int.reduceToNat, Nat.reduceMul, Nat.reduceAdd, Nat.reduceSub, Nat.zero_add, k0, k6, k5]); exact build_sl (sz := 1) (z := [.sc (.int .u8 (0))]) (Z3 (Y3 k0 k6 k5)) (by kernel_rfl) (by decide) rfl)) Z5 ?_)
        intro hp4 hI4
        simp only [List.cons_append, List.nil_append, evc, repA, Eng.setMany, List.set_cons_zero, List.set_cons_succ, Nat.zero_mul, Nat.one_mul, List.take_succ_cons, List.take_zero, List.drop_zero, List.drop_succ_cons, Nat.zero_add, Nat.reduceAdd, Nat.reduceMul] at hI4
        refine RunTo.freeM rfl (RunOn.appL (n := 1) hI4 rfl rfl (by decide) rfl rfl rfl (by kernel_rfl) (by kernel_rfl) (Z3 (Y3 k0 k6 k5)) (Z3 (Y3 k0 k6 k5)) Z70 (by exact appL_nil (k := L.length + J.length + 1) (by simp; omega) (by decide) (by decide) (by omega)) ?_)
        intro hp5 hI5
        simp only [List.cons_append, List.nil_append] at hI5
        refine Rp rfl (Z3 (Y3 k0 k6 k5)) ?_
        refine RunTo.nil ?_
        refine Ev.rg [0, 1, 2] ?_
        refine Rp rfl (Z3 (Y3 k0 k6 k5)) ?_
        refine Rp rfl (Z87 (Y3 k0 k6 k5)) ?_
        refine Rp rfl (Z3 (Y3 k0 k6 k5)) ?_
        refine RunTo.nil ?_
        refine ⟨(k, [zn]), ⟨by simp at hk ⊢; omega, by simp; omega, _, _, a3, (J ++ [some [u8 zn]]) ++ [some (byC [zn])], _, rfl, ha3, by rw [← List.append_assoc, ← List.append_assoc]; exact hI5, by simp only [List.length_append, List.length_cons, List.length_nil]; omega, .inr ⟨L.length + J.length + 1, by omega, by simp, ?_, ?_⟩, ?_, ?_, ?_⟩, by simp⟩
        · exact (Z3 (Y3 k0 k6 k5))
        · rw [← List.append_assoc, ← List.append_assoc]
          exact get_last_eq (by simp; omega)
        · exact (Z3 (Y3 k0 k6 k5))
        · show lk _ 6 = .sc (.int .i64 (k : Int))
          rw [show (k : Int) = ((k + 1 : Nat) : Int) - 1 by omega]
          exact (Z3 (Y3 k0 k6 k5))
        · intro c hc
          simp only [List.nil_append, List.mem_append] at hc
          rcases hc with q | q
          · exact .inl (hw3 c q)
          · exact hw c q
      · have hbk2 : ∀ a3, (L.set b (some (diceB t a3)) ++ J)[kk]? = some (some (byC bs)) := by
          intro a3
          rw [List.getElem?_append_right (by simpa using hkk)] at hbk ⊢
          simpa using hbk
        have hkl := lt_of_get hbk
        simp only [List.length_append, List.length_set] at hkl
        have hbl2 : bs.length ≠ 0 := fun q => hne (List.eq_nil_of_length_eq_zero q)
        refine Ev.seq ?_
        refine Ev.seq ?_
        refine Ev.rg [0, 1] ?_
        refine Rp rfl (Z3 (Y3 k0 k6 k5)) ?_
        refine Rp rfl (Z65 (Y3 k0 k6 k5)) ?_
        refine RunTo.nil ?_
        refine Ev.condT (Z3 (Y3 k0 k6 k5)) ?_
        refine Ev.skip ?_
        refine Ev.seq ?_
        refine Ev.block ?_
        refine Ev.rg [0, 1, 2, 3, 4, 5, 6] ?_
        refine Rp rfl (Z3 (Y3 k0 k6 k5)) ?_
        refine Rp rfl (Z3 (Y3 k0 k6 k5)) ?_
        refine RunTo.freeM rfl (RunOn.callL hI2 rfl rfl (by decide) (Z3 (Y3 k0 k6 k5)) (Z3 (Y3 k0 k6 k5)) (by simp only [List.nil_append, List.append_nil, List.cons_append]; exact c18 p T h18 h13 t a2 256 (by decide) (by decide) ha2 hlen _ b hbJ (by simp; omega)) ?_)
        rintro v L3 w3 hp3 ⟨z, a3, rfl, hz0, hz1, ha3, rfl, hw3⟩ hI3
        have hset : (L.set b (some (diceB t a2)) ++ J).set b (some (diceB t a3)) = L.set b (some (diceB t a3)) ++ J := by
          rw [List.set_append_left _ _ (by simpa using hbl), List.set_set]
        rw [hset] at hI3
        obtain ⟨zn, rfl⟩ := Int.eq_ofNat_of_zero_le hz0
        refine Rp rfl (by ((conv => lhs; simp only [evs, evm, lk_up, lk_lf, Nat.reduceEqDiff, Nat.reduceLT, reduceIte, if_true, if_false, i64, bo, u8, nilS, Bool.not_true, Bool.not_false, List.take_succ_cons, List.take_zero, List.drop_zero, List.drop_succ_cons, List.toList_toArray, Int.reduceToNat, Nat.reduceMul, Nat.reduceAdd, Nat.reduceSub, Nat.zero_add, k0, k6, k5]); exact cv_u8 (by kernel_rfl) (by kernel_rfl) (by omega) (by omega))) ?_
        refine RunTo.freeM rfl (RunOn.madeL (k := _) hI3 rfl rfl (by decide) rfl (by ((conv => lhs; simp only [evs, evm, lk_up, lk_lf, Nat.reduceEqDiff, Nat.reduceLT, reduceIte, if_true, if_false, i64, bo, u8, nilS, Bool.not_true, Bool.not_false, List.take_succ_cons, List.take_zero, List.drop_zero, List.drop_succ_cons, List.toList_toArray, Int.reduceToNat, Nat.reduceMul, Nat.reduceAdd, Nat.reduceSub, Nat.zero_add, k0, k6, k5]); exact build_sl (sz := 1) (z := [.sc (.int .u8 (0))]) (Z3 (Y3 k0 k6 k5)) (by kernel_rfl) (by decide) rfl)) Z5 ?_)
        intro hp4 hI4
        simp only [List.cons_append, List.nil_append, evc, repA, Eng.setMany, List.set_cons_zero, List.set_cons_succ, Nat.zero_mul, Nat.one_mul, List.take_succ_cons, List.take_zero, List.drop_zero, List.drop_succ_cons, Nat.zero_add, Nat.reduceAdd, Nat.reduceMul] at hI4
        refine RunTo.freeM rfl (RunOn.appL (n := 1) hI4 rfl rfl (by decide) rfl rfl rfl (by kernel_rfl) (by kernel_rfl) (Z3 (Y3 k0 k6 k5)) (Z3 (Y3 k0 k6 k5)) Z70 (by exact appL_grow (k := L.length + J.length + 1) (by simp; omega) (get_app (hbk2 a3)) (by rw [byC_len]; omega) (by decide) Z41 (by decide) (by rfl) (by omega)) ?_)
        intro hp5 hI5
        simp only [List.cons_append, List.nil_append] at hI5
        refine Rp rfl (Z3 (Y3 k0 k6 k5)) ?_
        refine RunTo.nil ?_
        refine Ev.rg [0, 1, 2] ?_
        refine Rp rfl (Z3 (Y3 k0 k6 k5)) ?_
        refine Rp rfl (Z87 (Y3 k0 k6 k5)) ?_
        refine Rp rfl (Z3 (Y3 k0 k6 k5)) ?_
        refine RunTo.nil ?_
        have hJ2 : (L.set b (some (diceB t a3)) ++ J ++ [some [u8 (zn : Int)]]).set kk none = L.set b (some (diceB t a3)) ++ (J ++ [some [u8 (zn : Int)]]).set (kk - L.length) none := by
          rw [List.append_assoc, List.set_append_right _ _ (by simpa using hkk)]
          simp
        have hnew : byC bs ++ List.take (1 * 1) (List.drop 0 [u8 (zn : Int)]) = byC (bs ++ [zn]) := by simp [byC]
        simp only [u8] at hJ2 hnew
        rw [hJ2, hnew] at hI5
        refine ⟨(k, bs ++ [zn]), ⟨by simp at hk ⊢; omega, ?_, _, _, a3, (J ++ [some [u8 zn]]).set (kk - L.length) none ++ [some (byC (bs ++ [zn]))], _, rfl, ha3, by rw [← List.append_assoc]; exact hI5, by simp at hJ ⊢; omega, .inr ⟨L.length + J.length + 1, by omega, by simp, ?_, ?_⟩, ?_, ?_, ?_⟩, by simp⟩
        · intro c hc
          rcases List.mem_append.1 hc with q | q
          · exact hbs c q
          · rw [List.mem_singleton.1 q]; omega
        · show lk _ 5 = .sl _ 0 (bs ++ [zn]).length none 1
          rw [show (bs ++ [zn]).length = bs.length + 1 from by simp]
          exact (Z3 (Y3 k0 k6 k5))
        · rw [← List.append_assoc]
          exact get_last_eq (by simp; omega)
        · exact (Z3 (Y3 k0 k6 k5))
        · show lk _ 6 = .sc (.int .i64 (k : Int))
          rw [show (k : Int) = ((k + 1 : Nat) : Int) - 1 by omega]
          exact (Z3 (Y3 k0 k6 k5))
        · intro c hc
          simp only [List.mem_cons, List.mem_append] at hc
          rcases hc with q | q | q
          · right; omega
          · exact .inl (hw3 c q)
          · exact hw c q
  · exact Z1
  · exact Z1
  · exact Z1
  · intro c hc
    exact .inl (hw1 c (by simpa using hc))
end
end Go.Eng
end
section
set_option linter.unusedVariables false
set_option linter.unusedSimpArgs false
set_option maxRecDepth 100000
set_option maxHeartbeats 4000000
namespace Go.Eng
open Go Go.RowKit Go.Proofs
section
variable (p : Poly) (T : List (Nat × (List AV → Option AV)))
theorem c29 (h : (envL p T).sp 29 = none) (h54 : (envL p T).sp 54 = none) (h18 : (envL p T).sp 18 = none) (h13 : (envL p T).sp 13 = some (treeSp F13)) (t : List Int) (a n : Int) (hn : 1 ≤ n) (hn2 : n < 1000) (ha : 0 ≤ a) (hlen : t.length < 1000000) (L : List (Option (List AV))) (b : Nat) (hb : L[b]? = some (some (diceB t a))) (hL : L.length < 5000) : ∀ hp0, IsH hp0 L [] → CallTo (envL p T) 29 [.ptr b 0, i64 n] hp0 fun v hp' => ∃ L' w', IsH hp' L' w' ∧ ∃ (u : List Nat) (a' : Int) (J : List (Option (List AV))) (k : Nat) (cap : Option Nat), 0 ≤ a' ∧ L' = L.set b (some (diceB t a')) ++ J ∧ u ≠ [] ∧ v = .sl k 0 u.length cap 1 ∧ (∀ c, cap = some c → u.length ≤ c) ∧ L.length ≤ k ∧ L'[k]? = some (some (byC u)) ∧ (u.length : Int) ≤ n ∧ (∀ c ∈ u, c < 256) ∧ J.length ≤ 2010 ∧ ∀ c ∈ w', c = b := by
  intro hp0 hI
  have hbl := lt_of_get hb
  refine CallTo.body (c := (Tryz.f29.body.getD .skip)) (nt := 14) (rs := #[.tmp 4]) (by assumption) (by kernel_rfl) ⟨by simp, by decide⟩ ?_
  show Ev _ (Code.seq _ _) _ _
  simp only [tmOf_cons, tmOf_nil, i64, bo, u8, nilS, Nat.zero_add, Nat.reduceAdd]
  refine Ev.seq ?_
  refine Ev.rg [0] ?_
  refine Rp rfl Z1 ?_
  refine RunTo.nil ?_
  refine Ev.seq ?_
  refine Ev.rg [0, 1, 2, 3, 4, 5, 6, 7, 8, 9] ?_
  refine Rp rfl Z1 ?_
  refine RunTo.freeM rfl (RunOn.callL hI rfl rfl (by decide) Z1 Z1 (by simp only [List.nil_append, List.append_nil, List.cons_append]; exact c18 p T h18 h13 t a 256 (by decide) (by decide) ha hlen L b hb (by omega)) ?_)
  rintro v L1 w1 hp1 ⟨z, a1, rfl, hz0, hz1, ha1, rfl, hw1⟩ hI1
  obtain ⟨zn, rfl⟩ := Int.eq_ofNat_of_zero_le hz0
  refine Rp rfl Z138 ?_
  refine RunTo.freeM rfl (RunOn.madeL (k := _) hI1 rfl rfl (by decide) rfl Z79 Z5 ?_)
  intro hp2 hI2
  simp only [List.cons_append, List.nil_append, evc, repA, Eng.setMany, List.set_cons_zero, List.set_cons_succ, Nat.zero_mul, Nat.one_mul, List.take_succ_cons, List.take_zero, List.drop_zero, List.drop_succ_cons, Nat.zero_add, Nat.reduceAdd, Nat.reduceMul] at hI2
  refine Rp rfl Z1 ?_
  refine Rp rfl Z1 ?_
  refine Rp rfl Z55 ?_
  refine RunTo.freeM rfl (RunOn.callL hI2 rfl rfl (by decide) Z1 Z1 (by simp only [List.nil_append, List.append_nil, List.cons_append]; exact c54 p T h54 h18 h13 t a1 (n - 1) (by omega) (by omega) ha1 hlen _ b (get_app (get_set_self hb)) (by simp; omega)) ?_)
  rintro v L2 w2 hp2 ⟨bs, a2, J, ha2, rfl, hv, hbl2, hb256, hJ, hw2⟩ hI3
  have hset : (L.set b (some (diceB t a1)) ++ [some [AV.sc (.int .u8 (zn : Int))]]).set b (some (diceB t a2)) = L.set b (some (diceB t a2)) ++ [some [AV.sc (.int .u8 (zn : Int))]] := by
    rw [List.set_append_left _ _ (by simpa using hbl), List.set_set]
  rw [hset] at hI3 hv
  have hsl : (L.set b (some (diceB t a2)) ++ [some [AV.sc (.int .u8 (zn : Int))]] ++ J)[L.length]? = some (some [AV.sc (.int .u8 (zn : Int))]) := get_app (get_last_eq (by simp))
  have hsl2 : (L.set b (some (diceB t a2)) ++ [some [AV.sc (.int .u8 (zn : Int))]] ++ J)[(L.set b (some (diceB t a1))).length]? = some (some [AV.sc (.int .u8 (zn : Int))]) := by
    rw [List.length_set]
    exact hsl
  rcases hv with ⟨hb0, rfl⟩ | ⟨k, hk, hne, rfl, hgk⟩
  · subst hb0
    refine RunTo.freeM rfl (RunOn.appL (n := 1) hI3 rfl rfl (by decide) rfl rfl rfl (by kernel_rfl) (by kernel_rfl) Z1 Z1 Z96 Z97 ?_)
    intro hp4 hI4
    simp only [List.cons_append, List.nil_append] at hI4
    refine Rp rfl Z1 ?_
    refine RunTo.nil ?_
    refine Ev.ret ⟨.inr rfl, _, res1, ?_⟩
    simp only [lk_up, lk_lf, Nat.reduceEqDiff, Nat.reduceLT, reduceIte, if_true, if_false, Nat.zero_add, i64, bo, u8, nilS, List.take_succ_cons, List.take_zero, List.drop_zero, List.drop_succ_cons]
    refine ⟨_, _, hI4.wlSet _, [zn], a2, [some [AV.sc (.int .u8 (zn : Int))]] ++ J, L.length, some 1, ha2, by rw [List.append_assoc], by simp, by simp, (by intro c hc; cases hc; simp), Nat.le_refl _, hsl, by simp; omega, by simp; omega, by simp; omega, ?_⟩
    intro c hc
    rw [hI4.wl] at hc
    simp only [List.mem_filter, List.mem_append] at hc
    rcases hc.1 with q | q | q
    · exact hw2 c q
    · exact hw1 c q
    · simp at q
  · have hm : bs.length ≠ 0 := fun q => hne (List.eq_nil_of_length_eq_zero q)
    have hcs : List.take (1 * 1) (List.drop 0 [AV.sc (.int .u8 (zn : Int))]) ++ List.take (bs.length * 1) (List.drop 0 (byC bs)) = byC (zn :: bs) := by
      rw [Nat.mul_one, Nat.mul_one, List.drop_zero, List.drop_zero, ← byC_len bs, List.take_length]
      rfl
    refine RunTo.freeM rfl (RunOn.appL (n := 1) hI3 rfl rfl (by decide) rfl rfl rfl (by kernel_rfl) (by kernel_rfl) Z1 Z1 (by exact src_sl hgk (by simp [byC_len])) (by exact appL_full (k := L.length + 1 + J.length) (by simp; omega) hsl2 (by simp) (by omega) Z41 hm (by omega)) ?_)
    intro hp4 hI4
    simp only [List.cons_append, List.nil_append] at hI4
    rw [hcs] at hI4
    refine Rp rfl Z1 ?_
    refine RunTo.nil ?_
    refine Ev.ret ⟨.inr rfl, _, res1, ?_⟩
    simp only [lk_up, lk_lf, Nat.reduceEqDiff, Nat.reduceLT, reduceIte, if_true, if_false, Nat.zero_add, i64, bo, u8, nilS, List.take_succ_cons, List.take_zero, List.drop_zero, List.drop_succ_cons]
    refine ⟨_, _, hI4.wlSet _, zn :: bs, a2, [some [AV.sc (.int .u8 (zn : Int))]] ++ J ++ [some (byC (zn :: bs))], L.length + 1 + J.length, none, ha2, by simp only [List.append_assoc], by simp, by simp; omega, (by intro c hc; cases hc), by omega, get_last_eq (by simp; omega), by simp; omega, ?_, by simp; omega, ?_⟩
    · intro c hc
      rcases List.mem_cons.1 hc with q | q
      · subst q; omega
      · exact hb256 c q
    intro c hc
    rw [hI4.wl] at hc
    simp only [List.mem_filter, List.mem_append] at hc
    rcases hc.1 with q | q | q
    · exact hw2 c q
    · exact hw1 c q
    · simp at q
theorem c12 (h : (envL p T).sp 12 = none) (t : List Int) (L : List (Option (List AV))) (hL : L.length < 100000) : ∀ hp0, IsH hp0 L [] → CallTo (envL p T) 12 [.ro false (t.map i64) t.length none 1] hp0 fun v hp' => ∃ L' w', IsH hp' L' w' ∧ (v = .ptr L.length 0 ∧ L' = L ++ [some (diceB t 0)] ∧ w' = []) := by
  intro hp0 hI
  refine CallTo.body (c := (Tryz.f12.body.getD .skip)) (nt := 6) (rs := #[.tmp 2]) (by assumption) (by kernel_rfl) ⟨by simp, by decide⟩ ?_
  show Ev _ (Code.seq _ _) _ _
  simp only [tmOf_cons, tmOf_nil, i64, bo, u8, nilS, Nat.zero_add, Nat.reduceAdd]
  refine Ev.seq ?_
  refine Ev.rg [0] ?_
  refine Rp rfl Z1 ?_
  refine RunTo.nil ?_
  refine Ev.seq ?_
  refine Ev.rg [0, 1, 2, 3] ?_
  refine Rp rfl Z1 ?_
  refine Rp rfl (by ((conv => lhs; simp only [evs, evm, lk_up, lk_lf, Nat.reduceEqDiff, Nat.reduceLT, reduceIte, if_true, if_false, i64, bo, u8, nilS, Bool.not_true, Bool.not_false, List.take_succ_cons, List.take_zero, List.drop_zero, List.drop_succ_cons, List.toList_toArray, Int.reduceToNat, Nat.reduceMul, Nat.reduceAdd, Nat.reduceSub, Nat.zero_add]); exact pBuild_st (z := [.sc (.slice none 0 0), .sc (.int .i64 (0))]) (ps := [(0, 1), (1, 1)]) Z1 (by kernel_rfl) (by kernel_rfl) (by simp [fillA, AV.cells, AV.one, Eng.setMany]; rfl))) ?_
  refine RunTo.freeM rfl (RunOn.madeL (k := _) hI rfl rfl (by decide) rfl Z15 Z5 ?_)
  intro hp1 hI1
  simp only [List.cons_append, List.nil_append, evc, repA, Eng.setMany, List.set_cons_zero, List.set_cons_succ, Nat.zero_mul, Nat.one_mul, List.take_succ_cons, List.take_zero, List.drop_zero, List.drop_succ_cons, Nat.zero_add, Nat.reduceAdd, Nat.reduceMul] at hI1
  refine Rp rfl Z1 ?_
  refine RunTo.nil ?_
  refine Ev.ret ⟨.inr rfl, _, res1, ?_⟩
  simp only [lk_up, lk_lf, Nat.reduceEqDiff, Nat.reduceLT, reduceIte, if_true, if_false, Nat.zero_add, i64, bo, u8, nilS, List.take_succ_cons, List.take_zero, List.drop_zero, List.drop_succ_cons]
  exact ⟨_, _, hI1.wlSet _, trivial, rfl, by rw [hI1.wl]; rfl⟩
end
end Go.Eng
end
section
set_option linter.unusedVariables false
set_option linter.unusedSimpArgs false
set_option maxRecDepth 100000
set_option maxHeartbeats 4000000
namespace Go.Eng
open Go Go.RowKit Go.Proofs
section
variable (p : Poly) (T : List (Nat × (List AV → Option AV)))
theorem w28 (h : (envL p T).sp 28 = none) (l : List Nat) (c d : Option Nat) : CallTo (envL p T) 28 [byV false l c, byV false l d] Hp.empty fun v hp' => frz true hp' 20 v = some (bo true) := by
  have hI := IsH.empty
  refine CallTo.body (c := (Tryz.f28.body.getD .skip)) (nt := 10) (rs := #[.tmp 4]) (by assumption) (by kernel_rfl) ⟨by simp, by decide⟩ ?_
  show Ev _ (Code.seq _ _) _ _
  simp only [tmOf_cons, tmOf_nil, i64, bo, u8, nilS, Nat.zero_add, Nat.reduceAdd]
  refine Ev.seq ?_
  refine Ev.rg [0] ?_
  refine Rp rfl Z1 ?_
  refine RunTo.nil ?_
  refine Ev.seq ?_
  refine Ev.rg [0, 1, 2, 3, 4, 5] ?_
  refine Rp rfl Z1 ?_
  refine Rl rfl (by ((conv => lhs; simp only [evs, evm, lk_up, lk_lf, Nat.reduceEqDiff, Nat.reduceLT, reduceIte, if_true, if_false, i64, bo, u8, nilS, Bool.not_true, Bool.not_false, List.take_succ_cons, List.take_zero, List.drop_zero, List.drop_succ_cons, List.toList_toArray, Int.reduceToNat, Nat.reduceMul, Nat.reduceAdd, Nat.reduceSub, Nat.zero_add]); exact str_by (by kernel_rfl))) ?_
  refine Rp rfl Z1 ?_
  refine Rl rfl (by ((conv => lhs; simp only [evs, evm, lk_up, lk_lf, Nat.reduceEqDiff, Nat.reduceLT, reduceIte, if_true, if_false, i64, bo, u8, nilS, Bool.not_true, Bool.not_false, List.take_succ_cons, List.take_zero, List.drop_zero, List.drop_succ_cons, List.toList_toArray, Int.reduceToNat, Nat.reduceMul, Nat.reduceAdd, Nat.reduceSub, Nat.zero_add]); exact str_by (by kernel_rfl))) ?_
  refine Rp rfl (by ((conv => lhs; simp only [evs, evm, lk_up, lk_lf, Nat.reduceEqDiff, Nat.reduceLT, reduceIte, if_true, if_false, i64, bo, u8, nilS, Bool.not_true, Bool.not_false, List.take_succ_cons, List.take_zero, List.drop_zero, List.drop_succ_cons, List.toList_toArray, Int.reduceToNat, Nat.reduceMul, Nat.reduceAdd, Nat.reduceSub, Nat.zero_add]); exact eql_str)) ?_
  refine Rp rfl Z1 ?_
  refine RunTo.nil ?_
  refine Ev.ret ⟨.inr rfl, _, res1, ?_⟩
  simp only [lk_up, lk_lf, Nat.reduceEqDiff, Nat.reduceLT, reduceIte, if_true, if_false, Nat.zero_add, i64, bo, u8, nilS, List.take_succ_cons, List.take_zero, List.drop_zero, List.drop_succ_cons]
  exact frz_sc
end
end Go.Eng
end
section
set_option linter.unusedVariables false
set_option linter.unusedSimpArgs false
set_option maxRecDepth 100000
set_option maxHeartbeats 4000000
namespace Go.Eng
open Go Go.RowKit Go.Proofs
section
variable (p : Poly) (T : List (Nat × (List AV → Option AV)))
theorem w289n (h : (envL p T).sp 289 = none) : CallTo (envL p T) 289 [nilS] Hp.empty fun v hp' => frz true hp' 20 v = some (bo true) := by
  have hI := IsH.empty
  refine CallTo.body (c := (Tryz.f289.body.getD .skip)) (nt := 38) (rs := #[.tmp 2]) (by assumption) (by kernel_rfl) ⟨by simp, by decide⟩ ?_
  show Ev _ (Code.seq _ _) _ _
  simp only [tmOf_cons, tmOf_nil, i64, bo, u8, nilS, Nat.zero_add, Nat.reduceAdd]
  refine Ev.seq ?_
  refine Ev.rg [0] ?_
  refine Rp rfl Z1 ?_
  refine RunTo.nil ?_
  refine Ev.seq ?_
  refine Ev.seq ?_
  refine Ev.rg [0, 1, 2] ?_
  refine Rp rfl Z1 ?_
  refine Rp rfl Z47 ?_
  refine Rp rfl Z1 ?_
  refine RunTo.nil ?_
  refine Ev.block ?_
  refine Ev.unroll ?_
  refine Ev.seq ?_
  refine Ev.rg [0] ?_
  refine Rp rfl Z18 ?_
  refine RunTo.nil ?_
  refine Ev.seq ?_
  refine Ev.condF Z1 ?_
  refine Ev.exit ?_
  refine thenE_ext ?_
  refine thenE_ext ?_
  refine inBlock_pos ?_
  refine Ev.seq ?_
  refine Ev.rg [0] ?_
  refine Rp rfl Z1 ?_
  refine RunTo.nil ?_
  refine Ev.ret ⟨.inr rfl, _, res1, ?_⟩
  simp only [lk_up, lk_lf, Nat.reduceEqDiff, Nat.reduceLT, reduceIte, if_true, if_false, Nat.zero_add, i64, bo, u8, nilS, List.take_succ_cons, List.take_zero, List.drop_zero, List.drop_succ_cons]
  exact frz_sc
theorem w226n (h : (envL p T).sp 226 = none) (h289 : (envL p T).sp 289 = some (treeSp F289)) (h290 : (envL p T).sp 290 = some (treeSp F290)) (r0 : Rg) (hr : r0.1 < r0.2) (h4 : r0.2 ≤ 65535) : CallTo (envL p T) 226 [nilS, .agg [i64 0, i64 r0.1, i64 r0.2]] Hp.empty fun v hp' => frz true hp' 20 v = some (.tup [rgV true [r0] none, i64 0]) := by
  have hI := IsH.empty
  have hone : F289 [rgV false [r0] (some 1)] = some (bo true) := F289_eq (Nrm.one hr) (by simp)
  have hF : F290 [.ro false [rgP [], rgV false [r0] (some 1), rgP []] 3 (some 3) 1] = some (rgV true ([] ++ r0 :: []) none) := F290_eq (by simp) (by simp)
  rw [show rgP [] = nilS from rfl, List.nil_append] at hF
  refine CallTo.body (c := (Tryz.f226.body.getD .skip)) (nt := 67) (rs := #[.tmp 4, .tmp 5]) (by assumption) (by kernel_rfl) ⟨by simp, by decide⟩ ?_
  show Ev _ (Code.seq _ _) _ _
  simp only [tmOf_cons, tmOf_nil, i64, bo, u8, nilS, Nat.zero_add, Nat.reduceAdd]
  refine Ev.seq ?_
  refine Ev.rg [0, 1, 2] ?_
  refine RunTo.freeM rfl (RunOn.madeL (k := 0) hI rfl rfl (by decide) rfl Z15 Z5 ?_)
  intro hp1 hI1
  simp only [List.cons_append, List.nil_append, evc, repA, Eng.setMany, List.set_cons_zero, List.set_cons_succ, Nat.zero_mul, Nat.one_mul, List.take_succ_cons, List.take_zero, List.drop_zero, List.drop_succ_cons, Nat.zero_add, Nat.reduceAdd, Nat.reduceMul] at hI1
  refine Rp rfl Z1 ?_
  refine Rp rfl Z1 ?_
  refine RunTo.nil ?_
  refine Ev.seq ?_
  refine Ev.seq ?_
  refine Ev.rg [0, 1, 2, 3, 4, 5, 6, 7, 8] ?_
  refine Rp rfl Z1 ?_
  refine RunTo.freeM rfl (RunOn.tree rfl rfl (by decide) Z1 Z1 (by assumption) Z8 (by exact F289_nil) ?_)
  refine Rp rfl Z16 ?_
  refine Rp rfl Z1 ?_
  refine Gl rfl rfl Z2 Z133 ?_
  refine RunTo.guardOnM rfl rfl (by decide) Z2 (RunOn.madeL (k := 1) hI1 rfl rfl (by decide) rfl Z98 Z5 ?_)
  intro hp2 hI2
  simp only [List.cons_append, List.nil_append, evc, repA, Eng.setMany, List.set_cons_zero, List.set_cons_succ, Nat.zero_mul, Nat.one_mul, List.take_succ_cons, List.take_zero, List.drop_zero, List.drop_succ_cons, Nat.zero_add, Nat.reduceAdd, Nat.reduceMul] at hI2
  refine RunTo.guardOnM rfl rfl (by decide) Z2 (RunOn.tree rfl rfl (by decide) Z1 Z1 (by assumption) Z8 (by exact hone) ?_)
  refine Gp rfl rfl Z2 Z16 ?_
  refine Rp rfl Z1 ?_
  refine RunTo.nil ?_
  refine Ev.condF Z1 ?_
  refine Ev.skip ?_
  refine Ev.seq ?_
  refine Ev.rg [0, 1] ?_
  refine Rp rfl Z1 ?_
  refine Rp rfl Z1 ?_
  refine RunTo.nil ?_
  refine Ev.seq ?_
  refine Ev.seq ?_
  refine Ev.rg [0, 1, 2] ?_
  refine Rp rfl Z1 ?_
  refine Rp rfl Z47 ?_
  refine Rp rfl Z1 ?_
  refine RunTo.nil ?_
  refine Ev.block ?_
  refine Ev.unroll ?_
  refine Ev.seq ?_
  refine Ev.rg [0] ?_
  refine Rp rfl Z18 ?_
  refine RunTo.nil ?_
  refine Ev.seq ?_
  refine Ev.condF Z1 ?_
  refine Ev.exit ?_
  refine thenE_ext ?_
  refine thenE_ext ?_
  refine inBlock_pos ?_
  refine Ev.seq ?_
  refine Ev.rg [0, 1, 2, 3, 4, 5, 6, 7] ?_
  refine Rp rfl Z1 ?_
  refine Rl rfl Z133 ?_
  refine RunTo.freeM rfl (RunOn.madeL (k := 2) hI2 rfl rfl (by decide) rfl Z98 Z5 ?_)
  intro hp3 hI3
  simp only [List.cons_append, List.nil_append, evc, repA, Eng.setMany, List.set_cons_zero, List.set_cons_succ, Nat.zero_mul, Nat.one_mul, List.take_succ_cons, List.take_zero, List.drop_zero, List.drop_succ_cons, Nat.zero_add, Nat.reduceAdd, Nat.reduceMul] at hI3
  refine Rp rfl Z1 ?_
  refine RunTo.freeM rfl (RunOn.madeL (k := 3) hI3 rfl rfl (by decide) rfl (by ((conv => lhs; simp only [evs, evm, lk_up, lk_lf, Nat.reduceEqDiff, Nat.reduceLT, reduceIte, if_true, if_false, i64, bo, u8, nilS, Bool.not_true, Bool.not_false, List.take_succ_cons, List.take_zero, List.drop_zero, List.drop_succ_cons, List.toList_toArray, Int.reduceToNat, Nat.reduceMul, Nat.reduceAdd, Nat.reduceSub, Nat.zero_add]); exact build_sl (sz := 1) (z := [.sc (.slice none 0 0)]) Z1 (by kernel_rfl) (by decide) rfl)) Z5 ?_)
  intro hp4 hI4
  simp only [List.cons_append, List.nil_append, evc, repA, Eng.setMany, List.set_cons_zero, List.set_cons_succ, Nat.zero_mul, Nat.one_mul, List.take_succ_cons, List.take_zero, List.drop_zero, List.drop_succ_cons, Nat.zero_add, Nat.reduceAdd, Nat.reduceMul] at hI4
  refine RunTo.freeM rfl (RunOn.tree rfl rfl (by decide) Z1 Z1 (by assumption) (by simp only [List.nil_append, List.append_nil, List.cons_append]; exact allO_cons (frz_sl (b := 3) (IsH.wlSet (by assumption) []) (by rfl) (by simp) (allO_cons frz_sc (allO_cons (frz_slrg (b := 2) (rs := [r0]) (IsH.wlSet (by assumption) []) (by rfl) rfl rfl) (allO_cons frz_sc allO_nil)))) allO_nil) (by exact hF) ?_)
  refine Rp rfl Z1 ?_
  refine Rp rfl Z1 ?_
  refine RunTo.nil ?_
  refine Ev.ret ⟨.inr rfl, _, res2, ?_⟩
  simp only [lk_up, lk_lf, Nat.reduceEqDiff, Nat.reduceLT, reduceIte, if_true, if_false, Nat.zero_add, i64, bo, u8, nilS, List.take_succ_cons, List.take_zero, List.drop_zero, List.drop_succ_cons]
  repeat first | exact allO_nil | with_reducible apply allO_cons | exact frz_sc | with_reducible exact frz_by1 _ _ | with_reducible exact frz_rg1 _ _ | with_reducible exact frz_par1 _ | with_reducible apply frz_ro1 | with_reducible apply frz_agg | with_reducible apply frz_tup
end
end Go.Eng
end
section
set_option linter.unusedVariables false
set_option linter.unusedSimpArgs false
set_option maxRecDepth 100000
set_option maxHeartbeats 4000000
namespace Go.Eng
open Go Go.RowKit Go.Proofs
section
variable (p : Poly) (T : List (Nat × (List AV → Option AV)))
theorem c115 (h : (envL p T).sp 115 = none) (fi ne up ma le : Int) (due : Bool) (pv : AV) (q : Pc) (w0 : Bool) (cap : Option Nat) (L : List (Option (List AV))) (b : Nat) (hb : L[b]? = some (some (stC fi ne up ma le due pv))) (hL : L.length < 100000) : ∀ hp0, IsH hp0 L [] → CallTo (envL p T) 115 [.ptr b 0, q.v 1 w0 cap] hp0 fun v hp' => ∃ L' w', IsH hp' L' w' ∧ (v = .tup [] ∧ L' = (L ++ [some [i64 0, i64 q.part, i64 1, i64 q.off, byV w0 q.bs cap]]).set b (some (stC fi ne ne ma le true pv)) ∧ w' = [b, b]) := by
  intro hp0 hI
  have hbl := lt_of_get hb
  unfold stC at *
  unfold Pc.v pcV
  refine CallTo.body (c := (Tryz.f115.body.getD .skip)) (nt := 20) (rs := #[]) (by assumption) (by kernel_rfl) ⟨by simp, by decide⟩ ?_
  show Ev _ (Code.seq _ _) _ _
  simp only [tmOf_cons, tmOf_nil, i64, bo, u8, nilS, Nat.zero_add, Nat.reduceAdd]
  refine Ev.seq ?_
  refine Ev.rg [0] ?_
  refine RunTo.freeM rfl (RunOn.madeL (k := _) hI rfl rfl (by decide) rfl Z15 Z5 ?_)
  intro hp1 hI1
  simp only [List.cons_append, List.nil_append, evc, repA, Eng.setMany, List.set_cons_zero, List.set_cons_succ, Nat.zero_mul, Nat.one_mul, List.take_succ_cons, List.take_zero, List.drop_zero, List.drop_succ_cons, Nat.zero_add, Nat.reduceAdd, Nat.reduceMul] at hI1
  refine RunTo.nil ?_
  refine Ev.seq ?_
  refine Ev.rg [0, 1, 2] ?_
  refine Rp rfl Z24 ?_
  refine Rl rfl Z104 ?_
  refine Rp rfl Z26 ?_
  refine RunTo.nil ?_
  refine Ev.condT Z1 ?_
  refine Ev.rg [0, 1, 2, 3, 4, 5, 6, 7, 8, 9, 10, 11, 12, 13, 14] ?_
  refine Rp rfl Z1 ?_
  refine Rp rfl Z1 ?_
  refine Rp rfl Z1 ?_
  refine Rp rfl Z1 ?_
  refine Rp rfl Z11 ?_
  refine Rp rfl Z53 ?_
  refine Rl rfl Z88 ?_
  refine Rp rfl Z1 ?_
  refine Rp rfl Z11 ?_
  refine Rp rfl (by ((conv => lhs; simp only [evs, evm, lk_up, lk_lf, Nat.reduceEqDiff, Nat.reduceLT, reduceIte, if_true, if_false, i64, bo, u8, nilS, Bool.not_true, Bool.not_false, List.take_succ_cons, List.take_zero, List.drop_zero, List.drop_succ_cons, List.toList_toArray, Int.reduceToNat, Nat.reduceMul, Nat.reduceAdd, Nat.reduceSub, Nat.zero_add]); exact field_ptr (d := 12) (by kernel_rfl))) ?_
  refine RunTo.freeM rfl (RunOn.storeL (n := 1) hI1 rfl rfl Z1 Z1 (by kernel_rfl) Z6 Z6 (get_app (by assumption)) Z9 Z5 ?_)
  intro hp2 hI2
  simp only [set_last, List.set_set, List.set_cons_zero, List.set_cons_succ, List.take_succ_cons, List.take_zero, List.drop_succ_cons, List.drop_zero, Eng.setMany, evc, Nat.zero_add, Nat.reduceAdd, Nat.reduceMul, Nat.reduceSub] at hI2
  refine Rp rfl Z1 ?_
  refine Rp rfl Z11 ?_
  refine Rp rfl Z42 ?_
  refine RunTo.freeM rfl (RunOn.storeL (n := 1) hI2 rfl rfl Z1 Z1 (by kernel_rfl) Z6 Z6 (get_set_self (get_app (by assumption))) Z9 Z5 ?_)
  intro hp3 hI3
  simp only [set_last, List.set_set, List.set_cons_zero, List.set_cons_succ, List.take_succ_cons, List.take_zero, List.drop_succ_cons, List.drop_zero, Eng.setMany, evc, Nat.zero_add, Nat.reduceAdd, Nat.reduceMul, Nat.reduceSub] at hI3
  refine RunTo.nil ?_
  refine ⟨.inl rfl, _, rfl, ?_⟩
  exact ⟨_, _, hI3.wlSet _, rfl, rfl, by rw [hI3.wl, hI.n]; simp [hbl]⟩
def PvOk (L : List (Option (List AV))) (b : Nat) (pv : AV) (px : Par) : Prop := ∀ (L' : List (Option (List AV))) (hp : Hp) (w : List Nat) (n : Nat), IsH hp L' w → (∀ k cs, k ≠ b → L[k]? = some (some cs) → L'[k]? = some (some cs)) → frz false hp (n + 5) pv = some (px.v false)
theorem frz_side {L L' : List (Option (List AV))} {hp : Hp} {w : List Nat} {b n : Nat} {fi ne up ma le : Int} {due : Bool} {pv : AV} {px : Par} (hI : IsH hp L' w) (hg : L'[b]? = some (some (stC fi ne up ma le due pv))) (hk : ∀ k cs, k ≠ b → L[k]? = some (some cs) → L'[k]? = some (some cs)) (hpv : PvOk L b pv px) : frz false hp (n + 6) (.ptr b 0) = some (.rp false (Nm.c ⟨fi, ne, up, ma, le, due, px⟩)) := by
  refine frz_ptr hI hg (by simp [stC]) ?_
  exact allO_cons frz_sc (allO_cons frz_sc (allO_cons frz_sc (allO_cons frz_sc (allO_cons frz_sc (allO_cons frz_sc (allO_cons frz_sc (allO_cons frz_sc (allO_cons frz_sc (allO_cons frz_sc (allO_cons frz_sc (allO_cons frz_sc (allO_cons frz_sc (allO_cons (hpv L' hp w n hI hk) allO_nil)))))))))))))
theorem c121a (h : (envL p T).sp 121 = none) (up : Int) (due : Bool) (pv : AV) (L : List (Option (List AV))) (b : Nat) (hb : L[b]? = some (some (stC 0 1 up (-1) 0 due pv))) (hL : L.length < 100000) : ∀ hp0, IsH hp0 L [] → CallTo (envL p T) 121 [.ptr b 0] hp0 fun v hp' => ∃ L' w', IsH hp' L' w' ∧ (v = .tup [] ∧ L' = L.set b (some (stC 0 1 up 1 3 due pv)) ∧ w' = [b, b]) := by
  intro hp0 hI
  have hbl := lt_of_get hb
  unfold stC at *
  refine CallTo.body (c := (Tryz.f121.body.getD .skip)) (nt := 81) (rs := #[]) (by assumption) (by kernel_rfl) ⟨by simp, by decide⟩ ?_
  show Ev _ (Code.seq _ _) _ _
  simp only [tmOf_cons, tmOf_nil, i64, bo, u8, nilS, Nat.zero_add, Nat.reduceAdd]
  refine Ev.seq ?_
  refine Ev.seq ?_
  refine Ev.draw (M := [0, 1, 3, 7, 15, 31, 63, 127, 127, 383, 895, 1919, 3967, 8191, 16383, 32767, 65535, 65535, 196607, 458751, 983039, 2031615, 4194303, 65535, 65535, 16842751, 50397183, 117506047, 251723775, 536870911, 1073741823, 2147483647, 4294967295]) (l := [0, 1, 2, 3, 4, 5, 6, 7, 8, 9, 10, 11, 12, 13, 14, 15, 16, 17, 18, 19, 20, 21, 22, 23, 24, 25, 26, 27, 28, 29, 30, 31, 32]) (by kernel_rfl) (by kernel_rfl) (by kernel_rfl) ?_
  refine Rp rfl Z1 ?_
  refine Rp rfl Z1 ?_
  refine Rp rfl Z11 ?_
  refine Rp rfl Z46 ?_
  refine Rl rfl Z22 ?_
  refine Rp rfl Z44 ?_
  refine Rp rfl Z1 ?_
  refine Gf rfl rfl Z2 ?_
  refine Gf rfl rfl Z2 ?_
  refine Gf rfl rfl Z2 ?_
  refine Gf rfl rfl Z2 ?_
  refine Gf rfl rfl Z2 ?_
  refine Gf rfl rfl Z2 ?_
  refine Gf rfl rfl Z2 ?_
  refine Gf rfl rfl Z2 ?_
  refine Gf rfl rfl Z2 ?_
  refine Gu rfl rfl Z2 ?_
  refine Gu rfl rfl Z2 ?_
  refine Gu rfl rfl Z2 ?_
  refine Gu rfl rfl Z2 ?_
  refine Gu rfl rfl Z2 ?_
  refine Gu rfl rfl Z2 ?_
  refine Gu rfl rfl Z2 ?_
  refine Gu rfl rfl Z2 ?_
  refine Gu rfl rfl Z2 ?_
  refine Gu rfl rfl Z2 ?_
  refine Gu rfl rfl Z2 ?_
  refine Gu rfl rfl Z2 ?_
  refine Gu rfl rfl Z2 ?_
  refine Gu rfl rfl Z2 ?_
  refine Gu rfl rfl Z2 ?_
  refine Gf rfl rfl Z2 ?_
  refine Rp rfl Z1 ?_
  refine RunTo.nil ?_
  refine Ev.condF Z1 ?_
  refine Ev.skip ?_
  refine Ev.seq ?_
  refine Ev.draw (M := [0, 1, 3, 7, 15, 31, 63, 127, 255, 511, 1023, 2047, 127, 4223, 12415, 28799, 61567, 131071, 262143]) (l := [0, 1, 2, 3, 4, 5, 6, 7, 8, 9, 10, 11, 12, 13, 14, 15, 16, 17, 18]) (by kernel_rfl) (by kernel_rfl) (by kernel_rfl) ?_
  refine Rp rfl Z1 ?_
  refine Rp rfl Z1 ?_
  refine Rp rfl Z11 ?_
  refine Rp rfl Z46 ?_
  refine Rl rfl Z22 ?_
  refine Rp rfl Z26 ?_
  refine Rp rfl Z1 ?_
  refine Gp rfl rfl Z2 Z1 ?_
  refine Gp rfl rfl Z2 Z1 ?_
  refine Gp rfl rfl Z2 Z11 ?_
  refine Gp rfl rfl Z2 Z37 ?_
  refine Gl rfl rfl Z2 Z22 ?_
  refine Gp rfl rfl Z2 Z1 ?_
  refine Gp rfl rfl Z2 Z1 ?_
  refine Gp rfl rfl Z2 Z11 ?_
  refine Gp rfl rfl Z2 Z53 ?_
  refine Gl rfl rfl Z2 Z22 ?_
  refine Gp rfl rfl Z2 Z91 ?_
  refine Rp rfl Z1 ?_
  refine RunTo.nil ?_
  refine Ev.condT Z1 ?_
  refine Ev.draw (M := [0, 0, 0, 4, 12, 28, 60, 0, 128, 384, 896, 1920, 3968, 8189, 16381, 32765, 65533, 131071, 262143, 524287, 1048575]) (l := [0, 2, 3, 4, 5, 6, 7, 8, 9, 10, 11, 12, 13, 14, 15, 16, 1, 17, 18, 19, 20]) (by kernel_rfl) (by kernel_rfl) (by kernel_rfl) ?_
  refine Rp rfl Z1 ?_
  refine Rp rfl Z1 ?_
  refine Rp rfl Z1 ?_
  refine Rp rfl Z11 ?_
  refine Rp rfl Z53 ?_
  refine Rl rfl Z22 ?_
  refine Rp rfl Z1 ?_
  refine Rp rfl Z1 ?_
  refine Rp rfl Z11 ?_
  refine Rp rfl Z11 ?_
  refine Rp rfl Z19 ?_
  refine Rl rfl Z22 ?_
  refine Rp rfl Z1 ?_
  refine Rp rfl Z11 ?_
  refine Rp rfl Z46 ?_
  refine RunTo.freeM rfl (RunOn.storeL (n := 1) hI rfl rfl Z1 Z1 (by kernel_rfl) Z6 Z6 (by assumption) Z9 Z5 ?_)
  intro hp1 hI1
  simp only [set_last, List.set_set, List.set_cons_zero, List.set_cons_succ, List.take_succ_cons, List.take_zero, List.drop_succ_cons, List.drop_zero, Eng.setMany, evc, Nat.zero_add, Nat.reduceAdd, Nat.reduceMul, Nat.reduceSub] at hI1
  refine Rp rfl Z1 ?_
  refine Rp rfl Z1 ?_
  refine Rp rfl Z11 ?_
  refine Rp rfl Z102 ?_
  refine RunTo.freeM rfl (RunOn.storeL (n := 1) hI1 rfl rfl Z1 Z1 (by kernel_rfl) Z6 Z6 (get_set_self (by assumption)) Z9 Z5 ?_)
  intro hp2 hI2
  simp only [set_last, List.set_set, List.set_cons_zero, List.set_cons_succ, List.take_succ_cons, List.take_zero, List.drop_succ_cons, List.drop_zero, Eng.setMany, evc, Nat.zero_add, Nat.reduceAdd, Nat.reduceMul, Nat.reduceSub] at hI2
  refine RunTo.nil ?_
  refine ⟨.inl rfl, _, rfl, ?_⟩
  exact ⟨_, _, hI2.wlSet _, rfl, rfl, by rw [hI2.wl, hI.n]; simp [hbl]⟩
theorem c121c (h : (envL p T).sp 121 = none) (up : Int) (due : Bool) (pv : AV) (L : List (Option (List AV))) (b : Nat) (hb : L[b]? = some (some (stC 1 1 up (-1) 0 due pv))) (hL : L.length < 100000) : ∀ hp0, IsH hp0 L [] → CallTo (envL p T) 121 [.ptr b 0] hp0 fun v hp' => ∃ L' w', IsH hp' L' w' ∧ (v = .tup [] ∧ L' = L ∧ w' = []) := by
  intro hp0 hI
  have hbl := lt_of_get hb
  unfold stC at *
  refine CallTo.body (c := (Tryz.f121.body.getD .skip)) (nt := 81) (rs := #[]) (by assumption) (by kernel_rfl) ⟨by simp, by decide⟩ ?_
  show Ev _ (Code.seq _ _) _ _
  simp only [tmOf_cons, tmOf_nil, i64, bo, u8, nilS, Nat.zero_add, Nat.reduceAdd]
  refine Ev.seq ?_
  refine Ev.seq ?_
  refine Ev.draw (M := [0, 1, 3, 7, 15, 31, 63, 127, 127, 383, 895, 1919, 3967, 8191, 16383, 32767, 65535, 65535, 196607, 458751, 983039, 2031615, 4194303, 65535, 65535, 16842751, 50397183, 117506047, 251723775, 536870911, 1073741823, 2147483647, 4294967295]) (l := [0, 1, 2, 3, 4, 5, 6, 7, 8, 9, 10, 11, 12, 13, 14, 15, 16, 17, 18, 19, 20, 21, 22, 23, 24, 25, 26, 27, 28, 29, 30, 31, 32]) (by kernel_rfl) (by kernel_rfl) (by kernel_rfl) ?_
  refine Rp rfl Z1 ?_
  refine Rp rfl Z1 ?_
  refine Rp rfl Z11 ?_
  refine Rp rfl Z46 ?_
  refine Rl rfl Z22 ?_
  refine Rp rfl Z44 ?_
  refine Rp rfl Z1 ?_
  refine Gf rfl rfl Z2 ?_
  refine Gf rfl rfl Z2 ?_
  refine Gf rfl rfl Z2 ?_
  refine Gf rfl rfl Z2 ?_
  refine Gf rfl rfl Z2 ?_
  refine Gf rfl rfl Z2 ?_
  refine Gf rfl rfl Z2 ?_
  refine Gf rfl rfl Z2 ?_
  refine Gf rfl rfl Z2 ?_
  refine Gu rfl rfl Z2 ?_
  refine Gu rfl rfl Z2 ?_
  refine Gu rfl rfl Z2 ?_
  refine Gu rfl rfl Z2 ?_
  refine Gu rfl rfl Z2 ?_
  refine Gu rfl rfl Z2 ?_
  refine Gu rfl rfl Z2 ?_
  refine Gu rfl rfl Z2 ?_
  refine Gu rfl rfl Z2 ?_
  refine Gu rfl rfl Z2 ?_
  refine Gu rfl rfl Z2 ?_
  refine Gu rfl rfl Z2 ?_
  refine Gu rfl rfl Z2 ?_
  refine Gu rfl rfl Z2 ?_
  refine Gu rfl rfl Z2 ?_
  refine Gf rfl rfl Z2 ?_
  refine Rp rfl Z1 ?_
  refine RunTo.nil ?_
  refine Ev.condF Z1 ?_
  refine Ev.skip ?_
  refine Ev.seq ?_
  refine Ev.draw (M := [0, 1, 3, 7, 15, 31, 63, 127, 255, 511, 1023, 2047, 127, 4223, 12415, 28799, 61567, 131071, 262143]) (l := [0, 1, 2, 3, 4, 5, 6, 7, 8, 9, 10, 11, 12, 13, 14, 15, 16, 17, 18]) (by kernel_rfl) (by kernel_rfl) (by kernel_rfl) ?_
  refine Rp rfl Z1 ?_
  refine Rp rfl Z1 ?_
  refine Rp rfl Z11 ?_
  refine Rp rfl Z46 ?_
  refine Rl rfl Z22 ?_
  refine Rp rfl Z26 ?_
  refine Rp rfl Z1 ?_
  refine Gp rfl rfl Z2 Z1 ?_
  refine Gp rfl rfl Z2 Z1 ?_
  refine Gp rfl rfl Z2 Z11 ?_
  refine Gp rfl rfl Z2 Z37 ?_
  refine Gl rfl rfl Z2 Z22 ?_
  refine Gp rfl rfl Z2 Z1 ?_
  refine Gp rfl rfl Z2 Z1 ?_
  refine Gp rfl rfl Z2 Z11 ?_
  refine Gp rfl rfl Z2 Z53 ?_
  refine Gl rfl rfl Z2 Z22 ?_
  refine Gp rfl rfl Z2 Z44 ?_
  refine Rp rfl Z1 ?_
  refine RunTo.nil ?_
  refine Ev.condF Z1 ?_
  refine Ev.skip ?_
  refine ⟨.inl rfl, _, rfl, ?_⟩
  exact ⟨_, _, hI.wlSet _, rfl, rfl, by rw [hI.wl]; rfl⟩
theorem c121b (h : (envL p T).sp 121 = none) (h112 : (envL p T).sp 112 = some (treeSp F112)) (up : Int) (due : Bool) (pv : AV) (px : Par) (L : List (Option (List AV))) (b : Nat) (hb : L[b]? = some (some (stC 0 1 up 1 3 due pv))) (hpv : PvOk L b pv px) (hL : L.length < 100000) : ∀ hp0, IsH hp0 L [] → CallTo (envL p T) 121 [.ptr b 0] hp0 fun v hp' => ∃ L' w', IsH hp' L' w' ∧ (v = .tup [] ∧ L' = L ∧ w' = []) := by
  intro hp0 hI
  have hbl := lt_of_get hb
  have hF : F112 [.rp false (Nm.c ⟨0, 1, up, 1, 3, due, px⟩), i64 1] = some (i64 1) := F112_eq (n := 1) (by simp)
  have hz := frz_side (n := 14) (IsH.wlSet (by assumption) []) hb (fun k cs _ hk => hk) hpv
  unfold stC at hb
  refine CallTo.body (c := (Tryz.f121.body.getD .skip)) (nt := 81) (rs := #[]) (by assumption) (by kernel_rfl) ⟨by simp, by decide⟩ ?_
  show Ev _ (Code.seq _ _) _ _
  simp only [tmOf_cons, tmOf_nil, i64, bo, u8, nilS, Nat.zero_add, Nat.reduceAdd]
  refine Ev.seq ?_
  refine Ev.seq ?_
  refine Ev.draw (M := [0, 1, 3, 7, 15, 31, 63, 127, 127, 383, 895, 1919, 3967, 8191, 16383, 32767, 65535, 65535, 196607, 458751, 983039, 2031615, 4194303, 65535, 65535, 16842751, 50397183, 117506047, 251723775, 536870911, 1073741823, 2147483647, 4294967295]) (l := [0, 1, 2, 3, 4, 5, 6, 7, 8, 9, 10, 11, 12, 13, 14, 15, 16, 17, 18, 19, 20, 21, 22, 23, 24, 25, 26, 27, 28, 29, 30, 31, 32]) (by kernel_rfl) (by kernel_rfl) (by kernel_rfl) ?_
  refine Rp rfl Z1 ?_
  refine Rp rfl Z1 ?_
  refine Rp rfl Z11 ?_
  refine Rp rfl Z46 ?_
  refine Rl rfl Z22 ?_
  refine Rp rfl Z91 ?_
  refine Rp rfl Z1 ?_
  refine Gp rfl rfl Z2 Z1 ?_
  refine Gp rfl rfl Z2 Z1 ?_
  refine Gp rfl rfl Z2 Z1 ?_
  refine Gp rfl rfl Z2 Z11 ?_
  refine Gp rfl rfl Z2 Z46 ?_
  refine Gl rfl rfl Z2 Z22 ?_
  refine RunTo.guardOnM rfl rfl (by decide) Z2 (RunOn.tree rfl rfl (by decide) Z1 Z1 (by assumption) (by simp only [List.nil_append, List.append_nil, List.cons_append]; exact allO_cons hz (allO_cons frz_sc allO_nil)) (by exact hF) ?_)
  refine Gp rfl rfl Z2 Z45 ?_
  refine Gp rfl rfl Z2 Z1 ?_
  refine Gp rfl rfl Z2 Z1 ?_
  refine Gp rfl rfl Z2 Z1 ?_
  refine Gp rfl rfl Z2 Z1 ?_
  refine Gp rfl rfl Z2 Z11 ?_
  refine Gp rfl rfl Z2 Z46 ?_
  refine Gl rfl rfl Z2 Z22 ?_
  refine RunTo.guardOnM rfl rfl (by decide) Z2 (RunOn.tree rfl rfl (by decide) Z1 Z1 (by assumption) (by simp only [List.nil_append, List.append_nil, List.cons_append]; exact allO_cons hz (allO_cons frz_sc allO_nil)) (by exact hF) ?_)
  refine Gp rfl rfl Z2 Z1 ?_
  refine Gp rfl rfl Z2 Z1 ?_
  refine Gp rfl rfl Z2 Z1 ?_
  refine Gp rfl rfl Z2 Z11 ?_
  refine Gp rfl rfl Z2 Z53 ?_
  refine Gl rfl rfl Z2 Z22 ?_
  refine RunTo.guardOnM rfl rfl (by decide) Z2 (RunOn.tree rfl rfl (by decide) Z1 Z1 (by assumption) (by simp only [List.nil_append, List.append_nil, List.cons_append]; exact allO_cons hz (allO_cons frz_sc allO_nil)) (by exact hF) ?_)
  refine Gp rfl rfl Z2 Z28 ?_
  refine Gp rfl rfl Z2 Z1 ?_
  refine Rp rfl Z1 ?_
  refine RunTo.nil ?_
  refine Ev.condF Z1 ?_
  refine Ev.skip ?_
  refine Ev.seq ?_
  refine Ev.draw (M := [0, 1, 3, 7, 15, 31, 63, 127, 255, 511, 1023, 2047, 127, 4223, 12415, 28799, 61567, 131071, 262143]) (l := [0, 1, 2, 3, 4, 5, 6, 7, 8, 9, 10, 11, 12, 13, 14, 15, 16, 17, 18]) (by kernel_rfl) (by kernel_rfl) (by kernel_rfl) ?_
  refine Rp rfl Z1 ?_
  refine Rp rfl Z1 ?_
  refine Rp rfl Z11 ?_
  refine Rp rfl Z46 ?_
  refine Rl rfl Z22 ?_
  refine Rp rfl Z45 ?_
  refine Rp rfl Z1 ?_
  refine Gf rfl rfl Z2 ?_
  refine Gf rfl rfl Z2 ?_
  refine Gf rfl rfl Z2 ?_
  refine Gf rfl rfl Z2 ?_
  refine Gf rfl rfl Z2 ?_
  refine Gf rfl rfl Z2 ?_
  refine Gf rfl rfl Z2 ?_
  refine Gf rfl rfl Z2 ?_
  refine Gf rfl rfl Z2 ?_
  refine Gf rfl rfl Z2 ?_
  refine Gf rfl rfl Z2 ?_
  refine Rp rfl Z1 ?_
  refine RunTo.nil ?_
  refine Ev.condF Z1 ?_
  refine Ev.skip ?_
  refine ⟨.inl rfl, _, rfl, ?_⟩
  exact ⟨_, _, hI.wlSet _, rfl, rfl, by rw [hI.wl]; rfl⟩
theorem c121d (h : (envL p T).sp 121 = none) (h112 : (envL p T).sp 112 = some (treeSp F112)) (up : Int) (due : Bool) (pv : AV) (px : Par) (L : List (Option (List AV))) (b : Nat) (hb : L[b]? = some (some (stC 1 1 up 1 3 due pv))) (hpv : PvOk L b pv px) (hL : L.length < 100000) : ∀ hp0, IsH hp0 L [] → CallTo (envL p T) 121 [.ptr b 0] hp0 fun v hp' => ∃ L' w', IsH hp' L' w' ∧ (v = .tup [] ∧ L' = L.set b (some (stC 1 1 up (-1) 0 due pv)) ∧ w' = [b, b]) := by
  intro hp0 hI
  have hbl := lt_of_get hb
  have hF : F112 [.rp false (Nm.c ⟨1, 1, up, 1, 3, due, px⟩), i64 1] = some (i64 0) := F112_eq (n := 1) (by simp)
  have hz := frz_side (n := 14) (IsH.wlSet (by assumption) []) hb (fun k cs _ hk => hk) hpv
  unfold stC at *
  refine CallTo.body (c := (Tryz.f121.body.getD .skip)) (nt := 81) (rs := #[]) (by assumption) (by kernel_rfl) ⟨by simp, by decide⟩ ?_
  show Ev _ (Code.seq _ _) _ _
  simp only [tmOf_cons, tmOf_nil, i64, bo, u8, nilS, Nat.zero_add, Nat.reduceAdd]
  refine Ev.seq ?_
  refine Ev.seq ?_
  refine Ev.draw (M := [0, 1, 3, 7, 15, 31, 63, 127, 127, 383, 895, 1919, 3967, 8191, 16383, 32767, 65535, 65535, 196607, 458751, 983039, 2031615, 4194303, 65535, 65535, 16842751, 50397183, 117506047, 251723775, 536870911, 1073741823, 2147483647, 4294967295]) (l := [0, 1, 2, 3, 4, 5, 6, 7, 8, 9, 10, 11, 12, 13, 14, 15, 16, 17, 18, 19, 20, 21, 22, 23, 24, 25, 26, 27, 28, 29, 30, 31, 32]) (by kernel_rfl) (by kernel_rfl) (by kernel_rfl) ?_
  refine Rp rfl Z1 ?_
  refine Rp rfl Z1 ?_
  refine Rp rfl Z11 ?_
  refine Rp rfl Z46 ?_
  refine Rl rfl Z22 ?_
  refine Rp rfl Z91 ?_
  refine Rp rfl Z1 ?_
  refine Gp rfl rfl Z2 Z1 ?_
  refine Gp rfl rfl Z2 Z1 ?_
  refine Gp rfl rfl Z2 Z1 ?_
  refine Gp rfl rfl Z2 Z11 ?_
  refine Gp rfl rfl Z2 Z46 ?_
  refine Gl rfl rfl Z2 Z22 ?_
  refine RunTo.guardOnM rfl rfl (by decide) Z2 (RunOn.tree rfl rfl (by decide) Z1 Z1 (by assumption) (by simp only [List.nil_append, List.append_nil, List.cons_append]; exact allO_cons hz (allO_cons frz_sc allO_nil)) (by exact hF) ?_)
  refine Gp rfl rfl Z2 Z26 ?_
  refine Gp rfl rfl Z2 Z1 ?_
  refine Gf rfl rfl Z2 ?_
  refine Gf rfl rfl Z2 ?_
  refine Gf rfl rfl Z2 ?_
  refine Gf rfl rfl Z2 ?_
  refine Gf rfl rfl Z2 ?_
  refine Gf rfl rfl Z2 ?_
  refine Gf rfl rfl Z2 ?_
  refine Gf rfl rfl Z2 ?_
  refine Gf rfl rfl Z2 ?_
  refine Gf rfl rfl Z2 ?_
  refine Gf rfl rfl Z2 ?_
  refine Gf rfl rfl Z2 ?_
  refine Gf rfl rfl Z2 ?_
  refine Gf rfl rfl Z2 ?_
  refine Gf rfl rfl Z2 ?_
  refine Gp rfl rfl Z2 Z1 ?_
  refine Rp rfl Z1 ?_
  refine RunTo.nil ?_
  refine Ev.condT Z1 ?_
  refine Ev.rg [0, 1, 2, 3, 4, 5, 6, 7, 8, 9] ?_
  refine Rp rfl Z1 ?_
  refine Rp rfl Z1 ?_
  refine Rp rfl Z1 ?_
  refine Rp rfl Z11 ?_
  refine Rp rfl Z46 ?_
  refine RunTo.freeM rfl (RunOn.storeL (n := 1) hI rfl rfl Z1 Z1 (by kernel_rfl) Z6 Z6 (by assumption) Z9 Z5 ?_)
  intro hp1 hI1
  simp only [set_last, List.set_set, List.set_cons_zero, List.set_cons_succ, List.take_succ_cons, List.take_zero, List.drop_succ_cons, List.drop_zero, Eng.setMany, evc, Nat.zero_add, Nat.reduceAdd, Nat.reduceMul, Nat.reduceSub] at hI1
  refine Rp rfl Z1 ?_
  refine Rp rfl Z11 ?_
  refine Rp rfl Z102 ?_
  refine RunTo.freeM rfl (RunOn.storeL (n := 1) hI1 rfl rfl Z1 Z1 (by kernel_rfl) Z6 Z6 (get_set_self (by assumption)) Z9 Z5 ?_)
  intro hp2 hI2
  simp only [set_last, List.set_set, List.set_cons_zero, List.set_cons_succ, List.take_succ_cons, List.take_zero, List.drop_succ_cons, List.drop_zero, Eng.setMany, evc, Nat.zero_add, Nat.reduceAdd, Nat.reduceMul, Nat.reduceSub] at hI2
  refine RunTo.nil ?_
  refine Ev.seq ?_
  refine Ev.draw (M := [0, 1, 3, 7, 15, 31, 63, 127, 255, 511, 1023, 2047, 127, 4223, 12415, 28799, 61567, 131071, 262143]) (l := [0, 1, 2, 3, 4, 5, 6, 7, 8, 9, 10, 11, 12, 13, 14, 15, 16, 17, 18]) (by kernel_rfl) (by kernel_rfl) (by kernel_rfl) ?_
  refine Rp rfl Z1 ?_
  refine Rp rfl Z1 ?_
  refine Rp rfl Z11 ?_
  refine Rp rfl Z46 ?_
  refine Rl rfl Z72 ?_
  refine Rp rfl Z26 ?_
  refine Rp rfl Z1 ?_
  refine Gp rfl rfl Z2 Z1 ?_
  refine Gp rfl rfl Z2 Z1 ?_
  refine Gp rfl rfl Z2 Z11 ?_
  refine Gp rfl rfl Z2 Z37 ?_
  refine Gl rfl rfl Z2 Z72 ?_
  refine Gp rfl rfl Z2 Z1 ?_
  refine Gp rfl rfl Z2 Z1 ?_
  refine Gp rfl rfl Z2 Z11 ?_
  refine Gp rfl rfl Z2 Z53 ?_
  refine Gl rfl rfl Z2 Z72 ?_
  refine Gp rfl rfl Z2 Z44 ?_
  refine Rp rfl Z1 ?_
  refine RunTo.nil ?_
  refine Ev.condF Z1 ?_
  refine Ev.skip ?_
  refine ⟨.inl rfl, _, rfl, ?_⟩
  exact ⟨_, _, hI2.wlSet _, rfl, rfl, by rw [hI2.wl, hI.n]; simp [hbl]⟩
end
end Go.Eng
end
section
set_option linter.unusedVariables false
set_option linter.unusedSimpArgs false
set_option maxRecDepth 100000
set_option maxHeartbeats 4000000
namespace Go.Eng
open Go Go.RowKit Go.Proofs
section
variable (p : Poly) (T : List (Nat × (List AV → Option AV)))
theorem c120a (h : (envL p T).sp 120 = none) (h112 : (envL p T).sp 112 = some (treeSp F112)) (up ma le : Int) (due : Bool) (bp : Nat) (cap : Option Nat) (len : Int) (dv cv : AV) (px : Par) (L : List (Option (List AV))) (b : Nat) (hu : 0 ≤ up ∧ up ≤ 1) (hb : L[b]? = some (some (stC 0 1 up ma le due (.sl bp 0 1 cap 5)))) (hp : L[bp]? = some (some (paC len dv cv))) (hpv : PvOk L b (.sl bp 0 1 cap 5) px) (hL : L.length < 100000) : ∀ hp0, IsH hp0 L [] → CallTo (envL p T) 120 [.ptr b 0] hp0 fun v hp' => ∃ L' w', IsH hp' L' w' ∧ (v = .tup [] ∧ L' = L ∧ w' = []) := by
  intro hp0 hI
  have hbl := lt_of_get hb
  have hF : F112 [.rp false (Nm.c ⟨0, 1, up, ma, le, due, px⟩), i64 1] = some (i64 1) := F112_eq (n := 1) (by simp)
  have hG : F112 [.rp false (Nm.c ⟨0, 1, up, ma, le, due, px⟩), i64 up] = some (i64 up) := by
    have := F112_eq (x := ⟨0, 1, up, ma, le, due, px⟩) (n := up) (by simp; omega)
    rw [show (up - 0) % 64 = up by omega] at this
    exact this
  have hz := frz_side (n := 14) (IsH.wlSet (by assumption) []) hb (fun k cs _ hk => hk) hpv
  unfold stC at hb
  unfold paC at hp
  refine CallTo.body (c := (Tryz.f120.body.getD .skip)) (nt := 80) (rs := #[]) (by assumption) (by kernel_rfl) ⟨by simp, by decide⟩ ?_
  show Ev _ (Code.seq _ _) _ _
  simp only [tmOf_cons, tmOf_nil, i64, bo, u8, nilS, Nat.zero_add, Nat.reduceAdd]
  refine Ev.seq ?_
  refine Ev.block ?_
  refine Ev.unroll ?_
  refine Ev.seq ?_
  refine Ev.seq ?_
  refine Ev.draw (M := [0, 1, 3, 7, 15, 31, 63, 127, 255, 511, 1023, 2047, 4095, 8191, 16383, 32767, 255, 65791, 196863, 459007, 983295, 2097151, 4194303, 8388607, 16777215, 33554431, 67108863, 134217727, 268435455, 536870911, 1073741823, 2147483647, 4294967295]) (l := [0, 1, 2, 3, 4, 5, 6, 7, 8, 9, 10, 11, 12, 13, 14, 15, 16, 17, 18, 19, 20, 21, 22, 23, 24, 25, 26, 27, 28, 29, 30, 31, 32]) (by kernel_rfl) (by kernel_rfl) (by kernel_rfl) ?_
  refine Rp rfl Z1 ?_
  refine Rp rfl Z1 ?_
  refine Rp rfl Z11 ?_
  refine Rp rfl Z40 ?_
  refine Rl rfl Z22 ?_
  refine Rp rfl Z86 ?_
  refine Rp rfl Z63 ?_
  refine Rp rfl Z1 ?_
  refine Gp rfl rfl Z2 Z1 ?_
  refine Gp rfl rfl Z2 Z1 ?_
  refine Gp rfl rfl Z2 Z11 ?_
  refine Gp rfl rfl Z2 Z40 ?_
  refine Gl rfl rfl Z2 Z22 ?_
  refine Gp rfl rfl Z2 Z93 ?_
  refine Gp rfl rfl Z2 Z11 ?_
  refine Gl rfl rfl Z2 Z22 ?_
  refine Gp rfl rfl Z2 Z1 ?_
  refine Gp rfl rfl Z2 Z1 ?_
  refine Gp rfl rfl Z2 Z11 ?_
  refine Gp rfl rfl Z2 Z37 ?_
  refine Gl rfl rfl Z2 Z22 ?_
  refine Gp rfl rfl Z2 Z26 ?_
  refine Rp rfl Z1 ?_
  refine Rp rfl Z1 ?_
  refine Gp rfl rfl Z2 Z1 ?_
  refine Gp rfl rfl Z2 Z1 ?_
  refine Gp rfl rfl Z2 Z11 ?_
  refine Gp rfl rfl Z2 Z40 ?_
  refine Gl rfl rfl Z2 Z22 ?_
  refine Gp rfl rfl Z2 Z93 ?_
  refine Gp rfl rfl Z2 Z17 ?_
  refine Gl rfl rfl Z2 Z22 ?_
  refine Rp rfl Z1 ?_
  refine RunTo.nil ?_
  refine Ev.condF Z1 ?_
  refine Ev.exit ?_
  refine thenE_ext ?_
  refine thenE_ext ?_
  refine inBlock_pos ?_
  refine Ev.seq ?_
  refine Ev.draw (M := [0, 0, 2, 6, 14, 30, 63, 0, 0, 256, 768, 1792, 3840, 8191, 16383]) (l := [0, 1, 2, 3, 4, 5, 6, 7, 8, 9, 10, 11, 12, 13, 14]) (by kernel_rfl) (by kernel_rfl) (by kernel_rfl) ?_
  refine Rp rfl Z1 ?_
  refine Rp rfl Z1 ?_
  refine Rp rfl Z1 ?_
  refine Rp rfl Z11 ?_
  refine Rp rfl Z42 ?_
  refine Rl rfl Z22 ?_
  refine RunTo.freeM rfl (RunOn.tree rfl rfl (by decide) Z1 Z1 (by assumption) (by simp only [List.nil_append, List.append_nil, List.cons_append]; exact allO_cons hz (allO_cons frz_sc allO_nil)) (by exact hG) ?_)
  refine Rp rfl Z1 ?_
  refine Rp rfl Z1 ?_
  refine Rp rfl Z1 ?_
  refine Rp rfl Z11 ?_
  refine Rp rfl Z53 ?_
  refine Rl rfl Z22 ?_
  refine RunTo.freeM rfl (RunOn.tree rfl rfl (by decide) Z1 Z1 (by assumption) (by simp only [List.nil_append, List.append_nil, List.cons_append]; exact allO_cons hz (allO_cons frz_sc allO_nil)) (by exact hF) ?_)
  refine Rp rfl Z28 ?_
  refine RunTo.nil ?_
  refine Ev.condF Z1 ?_
  refine Ev.skip ?_
  refine ⟨.inl rfl, _, rfl, ?_⟩
  exact ⟨_, _, hI.wlSet _, rfl, rfl, by rw [hI.wl]; rfl⟩
theorem c120b (h : (envL p T).sp 120 = none) (h112 : (envL p T).sp 112 = some (treeSp F112)) (h117 : (envL p T).sp 117 = some (treeSp F117)) (up ma le : Int) (due : Bool) (bp : Nat) (L : List (Option (List AV))) (b : Nat) (hne : bp ≠ b) (hu : 0 ≤ up ∧ up ≤ 1) (hb : L[b]? = some (some (stC 0 1 up ma le due (.sl bp 0 1 none 5)))) (hp : L[bp]? = some (some [i64 0, bo true, i64 0, nilS, nilS])) (hL : L.length < 100000) : ∀ hp0, IsH hp0 L [] → CallTo (envL p T) 120 [.ptr b 0] hp0 fun v hp' => ∃ L' w', IsH hp' L' w' ∧ (v = .tup [] ∧ L' = L.set b (some (stC 1 1 1 ma le due (.sl bp 5 0 none 5))) ∧ ∀ c ∈ w', c = b) := by
  intro hp0 hI
  have hbl := lt_of_get hb
  have hbpl := lt_of_get hp
  have hpv : PvOk L b (.sl bp 5 0 none 5) (.gone none) := by
    intro L' hp1 w n hI1 hk
    exact frz_sl hI1 (hk bp _ hne hp) (by simp) allO_nil
  have hA : F117 [.rp false (Nm.c ⟨0, 1, up, ma, le, due, .gone none⟩), i64 0] = some (i64 1) := F117_eq (n := 0) (by decide)
  have hF : F112 [.rp false (Nm.c ⟨1, 1, up, ma, le, due, .gone none⟩), i64 1] = some (i64 0) := F112_eq (n := 1) (by simp)
  have hG : F112 [.rp false (Nm.c ⟨1, 1, up, ma, le, due, .gone none⟩), i64 up] = some (i64 ((up - 1) % 64)) := F112_eq (n := up) (by simp; omega)
  unfold stC at hb ⊢
  refine CallTo.body (c := (Tryz.f120.body.getD .skip)) (nt := 80) (rs := #[]) (by assumption) (by kernel_rfl) ⟨by simp, by decide⟩ ?_
  show Ev _ (Code.seq _ _) _ _
  simp only [tmOf_cons, tmOf_nil, i64, bo, u8, nilS, Nat.zero_add, Nat.reduceAdd]
  refine Ev.seq ?_
  refine Ev.block ?_
  refine Ev.unroll ?_
  refine Ev.seq ?_
  refine Ev.seq ?_
  refine Ev.draw (M := [0, 1, 3, 7, 15, 31, 63, 127, 255, 511, 1023, 2047, 4095, 8191, 16383, 32767, 255, 65791, 196863, 459007, 983295, 2097151, 4194303, 8388607, 16777215, 33554431, 67108863, 134217727, 268435455, 536870911, 1073741823, 2147483647, 4294967295]) (l := [0, 1, 2, 3, 4, 5, 6, 7, 8, 9, 10, 11, 12, 13, 14, 15, 16, 17, 18, 19, 20, 21, 22, 23, 24, 25, 26, 27, 28, 29, 30, 31, 32]) (by kernel_rfl) (by kernel_rfl) (by kernel_rfl) ?_
  refine Rp rfl Z1 ?_
  refine Rp rfl Z1 ?_
  refine Rp rfl Z11 ?_
  refine Rp rfl Z40 ?_
  refine Rl rfl Z22 ?_
  refine Rp rfl Z86 ?_
  refine Rp rfl Z63 ?_
  refine Rp rfl Z1 ?_
  refine Gp rfl rfl Z2 Z1 ?_
  refine Gp rfl rfl Z2 Z1 ?_
  refine Gp rfl rfl Z2 Z11 ?_
  refine Gp rfl rfl Z2 Z40 ?_
  refine Gl rfl rfl Z2 Z22 ?_
  refine Gp rfl rfl Z2 Z93 ?_
  refine Gp rfl rfl Z2 Z11 ?_
  refine Gl rfl rfl Z2 Z22 ?_
  refine Gp rfl rfl Z2 Z1 ?_
  refine Gp rfl rfl Z2 Z1 ?_
  refine Gp rfl rfl Z2 Z11 ?_
  refine Gp rfl rfl Z2 Z37 ?_
  refine Gl rfl rfl Z2 Z22 ?_
  refine Gp rfl rfl Z2 Z26 ?_
  refine Rp rfl Z1 ?_
  refine Rp rfl Z1 ?_
  refine Gp rfl rfl Z2 Z1 ?_
  refine Gp rfl rfl Z2 Z1 ?_
  refine Gp rfl rfl Z2 Z11 ?_
  refine Gp rfl rfl Z2 Z40 ?_
  refine Gl rfl rfl Z2 Z22 ?_
  refine Gp rfl rfl Z2 Z93 ?_
  refine Gp rfl rfl Z2 Z17 ?_
  refine Gl rfl rfl Z2 Z22 ?_
  refine Rp rfl Z1 ?_
  refine RunTo.nil ?_
  refine Ev.condT Z1 ?_
  refine Ev.skip ?_
  refine Ev.block ?_
  refine Ev.seq ?_
  refine Ev.rg [0, 1, 2, 3, 4, 5, 6, 7, 8, 9, 10] ?_
  refine Rp rfl Z1 ?_
  refine Rp rfl Z1 ?_
  refine Rp rfl Z1 ?_
  refine Rp rfl Z11 ?_
  refine Rp rfl Z40 ?_
  refine Rl rfl Z22 ?_
  refine Rp rfl (by ((conv => lhs; simp only [evs, evm, lk_up, lk_lf, Nat.reduceEqDiff, Nat.reduceLT, reduceIte, if_true, if_false, i64, bo, u8, nilS, Bool.not_true, Bool.not_false, List.take_succ_cons, List.take_zero, List.drop_zero, List.drop_succ_cons, List.toList_toArray, Int.reduceToNat, Nat.reduceMul, Nat.reduceAdd, Nat.reduceSub, Nat.zero_add]); exact pSlice_lo Z1 Z1 (slice_sl (by kernel_rfl) (cut_lo (l := 1) rfl (by first | omega | simp))))) ?_
  refine Rp rfl Z1 ?_
  refine Rp rfl Z11 ?_
  refine Rp rfl Z40 ?_
  refine RunTo.freeM rfl (RunOn.storeL (n := 1) hI rfl rfl Z1 Z1 (by kernel_rfl) Z6 Z6 (by assumption) Z9 Z5 ?_)
  intro hp1 hI1
  simp only [set_last, List.set_set, List.set_cons_zero, List.set_cons_succ, List.take_succ_cons, List.take_zero, List.drop_succ_cons, List.drop_zero, Eng.setMany, evc, Nat.zero_add, Nat.reduceAdd, Nat.reduceMul, Nat.reduceSub] at hI1
  refine RunTo.nil ?_
  refine Ev.rg [0, 1, 2, 3, 4, 5, 6, 7, 8, 9, 10, 11] ?_
  refine Rp rfl Z1 ?_
  refine Rp rfl Z1 ?_
  refine Rp rfl Z1 ?_
  refine Rp rfl Z1 ?_
  refine Rp rfl Z11 ?_
  refine Rp rfl Z37 ?_
  refine Rl rfl Z72 ?_
  have hz1 := frz_side (n := 14) (IsH.wlSet (by assumption) []) (get_set_self hb) (fun k cs q hk => get_set_ne (fun e => q e.symm) hk) hpv
  refine RunTo.freeM rfl (RunOn.tree rfl rfl (by decide) Z1 Z1 (by assumption) (by simp only [List.nil_append, List.append_nil, List.cons_append]; exact allO_cons hz1 (allO_cons frz_sc allO_nil)) (by exact hA) ?_)
  refine Rp rfl Z1 ?_
  refine Rp rfl Z11 ?_
  refine Rp rfl Z37 ?_
  refine RunTo.freeM rfl (RunOn.storeL (n := 1) hI1 rfl rfl Z1 Z1 (by kernel_rfl) Z6 Z6 (get_set_self (by assumption)) Z9 Z5 ?_)
  intro hp2 hI2
  simp only [set_last, List.set_set, List.set_cons_zero, List.set_cons_succ, List.take_succ_cons, List.take_zero, List.drop_succ_cons, List.drop_zero, Eng.setMany, evc, Nat.zero_add, Nat.reduceAdd, Nat.reduceMul, Nat.reduceSub] at hI2
  refine RunTo.nil ?_
  refine Ev.unroll ?_
  refine Ev.seq ?_
  refine Ev.seq ?_
  refine Ev.draw (M := [0, 1, 3, 7, 15, 31, 63, 127, 255, 511, 1023, 2047, 4095, 8191, 16383, 32767, 255, 65791, 196863, 459007, 983295, 2097151, 4194303, 8388607, 16777215, 33554431, 67108863, 134217727, 268435455, 536870911, 1073741823, 2147483647, 4294967295]) (l := [0, 1, 2, 3, 4, 5, 6, 7, 8, 9, 10, 11, 12, 13, 14, 15, 16, 17, 18, 19, 20, 21, 22, 23, 24, 25, 26, 27, 28, 29, 30, 31, 32]) (by kernel_rfl) (by kernel_rfl) (by kernel_rfl) ?_
  refine Rp rfl Z1 ?_
  refine Rp rfl Z1 ?_
  refine Rp rfl Z11 ?_
  refine Rp rfl Z40 ?_
  refine Rl rfl Z72 ?_
  refine Rp rfl Z86 ?_
  refine Rp rfl Z28 ?_
  refine Rp rfl Z1 ?_
  refine Gf rfl rfl Z2 ?_
  refine Gf rfl rfl Z2 ?_
  refine Gf rfl rfl Z2 ?_
  refine Gf rfl rfl Z2 ?_
  refine Gf rfl rfl Z2 ?_
  refine Gf rfl rfl Z2 ?_
  refine Gf rfl rfl Z2 ?_
  refine Gf rfl rfl Z2 ?_
  refine Gf rfl rfl Z2 ?_
  refine Gf rfl rfl Z2 ?_
  refine Gf rfl rfl Z2 ?_
  refine Gf rfl rfl Z2 ?_
  refine Gf rfl rfl Z2 ?_
  refine Gf rfl rfl Z2 ?_
  refine Rp rfl Z1 ?_
  refine Rp rfl Z1 ?_
  refine Gf rfl rfl Z2 ?_
  refine Gf rfl rfl Z2 ?_
  refine Gf rfl rfl Z2 ?_
  refine Gf rfl rfl Z2 ?_
  refine Gf rfl rfl Z2 ?_
  refine Gf rfl rfl Z2 ?_
  refine Gf rfl rfl Z2 ?_
  refine Gf rfl rfl Z2 ?_
  refine Rp rfl Z1 ?_
  refine RunTo.nil ?_
  refine Ev.condF Z1 ?_
  refine Ev.exit ?_
  refine thenE_ext ?_
  refine thenE_ext ?_
  refine inBlock_pos ?_
  refine Ev.seq ?_
  refine Ev.draw (M := [0, 0, 2, 6, 14, 30, 63, 0, 0, 256, 768, 1792, 3840, 8191, 16383]) (l := [0, 1, 2, 3, 4, 5, 6, 7, 8, 9, 10, 11, 12, 13, 14]) (by kernel_rfl) (by kernel_rfl) (by kernel_rfl) ?_
  refine Rp rfl Z1 ?_
  refine Rp rfl Z1 ?_
  refine Rp rfl Z1 ?_
  refine Rp rfl Z11 ?_
  refine Rp rfl Z42 ?_
  refine Rl rfl Z72 ?_
  have hz2 := frz_side (n := 14) (IsH.wlSet (by assumption) []) (get_set_self hb) (fun k cs q hk => get_set_ne (fun e => q e.symm) hk) hpv
  refine RunTo.freeM rfl (RunOn.tree rfl rfl (by decide) Z1 Z1 (by assumption) (by simp only [List.nil_append, List.append_nil, List.cons_append]; exact allO_cons hz2 (allO_cons frz_sc allO_nil)) (by exact hG) ?_)
  refine Rp rfl Z1 ?_
  refine Rp rfl Z1 ?_
  refine Rp rfl Z1 ?_
  refine Rp rfl Z11 ?_
  refine Rp rfl Z53 ?_
  refine Rl rfl Z72 ?_
  refine RunTo.freeM rfl (RunOn.tree rfl rfl (by decide) Z1 Z1 (by assumption) (by simp only [List.nil_append, List.append_nil, List.cons_append]; exact allO_cons hz2 (allO_cons frz_sc allO_nil)) (by exact hF) ?_)
  have hup : up = 0 ∨ up = 1 := by omega
  rcases hup with rfl | rfl
  · rw [show ((0 : Int) - 1) % 64 = 63 from rfl]
    refine Rp rfl Z63 ?_
    refine RunTo.nil ?_
    refine Ev.condT Z1 ?_
    refine Ev.rg [0, 1, 2, 3, 4, 5, 6, 7, 8, 9] ?_
    refine Rp rfl Z1 ?_
    refine Rp rfl Z1 ?_
    refine Rp rfl Z1 ?_
    refine Rp rfl Z11 ?_
    refine Rp rfl Z37 ?_
    refine Rl rfl Z72 ?_
    refine Rp rfl Z1 ?_
    refine Rp rfl Z11 ?_
    refine Rp rfl Z42 ?_
    refine RunTo.freeM rfl (RunOn.storeL (n := 1) hI2 rfl rfl Z1 Z1 (by kernel_rfl) Z6 Z6 (get_set_self (by assumption)) Z9 Z5 ?_)
    intro hp3 hI3
    simp only [set_last, List.set_set, List.set_cons_zero, List.set_cons_succ, List.take_succ_cons, List.take_zero, List.drop_succ_cons, List.drop_zero, Eng.setMany, evc, Nat.zero_add, Nat.reduceAdd, Nat.reduceMul, Nat.reduceSub] at hI3
    refine RunTo.nil ?_
    refine ⟨.inl rfl, _, rfl, ?_⟩
    exact ⟨_, _, hI3.wlSet _, rfl, rfl, by rw [hI3.wl]; intro c hc; simp at hc; exact hc.1⟩
  · rw [show ((1 : Int) - 1) % 64 = 0 from rfl]
    refine Rp rfl Z28 ?_
    refine RunTo.nil ?_
    refine Ev.condF Z1 ?_
    refine Ev.skip ?_
    refine ⟨.inl rfl, _, rfl, ?_⟩
    exact ⟨_, _, hI2.wlSet _, rfl, rfl, by rw [hI2.wl]; intro c hc; simp at hc; exact hc.1⟩
end
end Go.Eng
end
