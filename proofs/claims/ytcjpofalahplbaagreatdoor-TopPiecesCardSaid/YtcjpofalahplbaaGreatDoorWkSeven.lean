/- A part of the proof that radiolinktop.TopPieces returns true for every list of numbers. -/
import Derived.Test.YtcjpofalahplbaaGreatDoorSymOne
import Derived.Test.YtcjpofalahplbaaGreatDoorWkSix
section
set_option linter.unusedVariables false
set_option linter.unusedSimpArgs false
set_option maxRecDepth 100000
set_option maxHeartbeats 4000000
namespace Go.Eng
open Go Go.RowKit Go.Proofs
section
variable (p : Poly) (T : List (Nat × (List AV → Option AV)))
theorem frz_sideV {L : List (Option (List AV))} {hp : Hp} {w : List Nat} {b n : Nat} {fi ne up ma le : Int} {due : Bool} {pv t : AV} (hI : IsH hp L w) (hg : L[b]? = some (some (stC fi ne up ma le due pv))) (hpv : frz false hp (n + 5) pv = some t) : frz false hp (n + 6) (.ptr b 0) = some (.rp false (Sd.c ⟨fi, ne, up, ma, le, due, t⟩)) := by
  refine frz_ptr hI hg (by simp [stC]) ?_
  exact allO_cons frz_sc (allO_cons frz_sc (allO_cons frz_sc (allO_cons frz_sc (allO_cons frz_sc (allO_cons frz_sc (allO_cons frz_sc (allO_cons frz_sc (allO_cons frz_sc (allO_cons frz_sc (allO_cons frz_sc (allO_cons frz_sc (allO_cons frz_sc (allO_cons hpv allO_nil)))))))))))))
theorem c116m (h : (envL p T).sp 116 = none) (a b c d e : AV) (ho : [a, b, c, d, e].all AV.one = true) (L : List (Option (List AV))) (k m : Nat) (hm : L.length = m) (hk : L[k]? = some (some [a, b, c, d, e])) (hL : m < 100000) : ∀ hp0, IsH hp0 L [] → CallTo (envL p T) 116 [nilS, i64 0, .sl k 0 1 (some 1) 5] hp0 fun v hp' => ∃ L' w', IsH hp' L' w' ∧ (v = .sl m 0 1 none 5 ∧ L' = L ++ [some [a, b, c, d, e]] ∧ w' = []) := by
  subst hm
  exact c116 p T h a b c d e ho L k hk hL
theorem w33n (h : (envL p T).sp 33 = none) (h46 : (envL p T).sp 46 = some (treeSp F46)) (h109 : (envL p T).sp 109 = none) (h220 : (envL p T).sp 220 = none) (h110 : (envL p T).sp 110 = some (treeSp F110)) (h108 : (envL p T).sp 108 = some (treeSp F108)) (h112 : (envL p T).sp 112 = some (treeSp F112)) (h111 : (envL p T).sp 111 = some (treeSp F111)) (h114 : (envL p T).sp 114 = some (treeSp F114)) (h116 : (envL p T).sp 116 = none) (h117 : (envL p T).sp 117 = some (treeSp F117)) (h118 : (envL p T).sp 118 = none) (h226 : (envL p T).sp 226 = some (treeSp F226)) (h119 : (envL p T).sp 119 = some (treeSp F119)) (h120 : (envL p T).sp 120 = none) (h121 : (envL p T).sp 121 = none) (h115 : (envL p T).sp 115 = none) (q : Pc) (hq : q.Ok) : CallTo (envL p T) 33 [.agg (Nm.c ⟨0, 0, 0, -1, 0, false, .none⟩), byV false q.enc none] Hp.empty fun v hp' => frz true hp' 20 v = some (rcOut ⟨0, 0, 0, -1, 0, false, .none⟩ q) := by
  have hI := IsH.empty
  have hm := hq.most
  have hpos := Pc.pos hq
  have hV : F46 [.agg (Nm.c ⟨0, 0, 0, -1, 0, false, .none⟩)] = some (bo true) := F46_eq .init
  unfold Nm.c stC Par.v at *
  refine CallTo.body (c := (Tryz.f33.body.getD .skip)) (nt := 154) (rs := #[.cell 4 75, .tmp 5, .tmp 6]) (by assumption) (by kernel_rfl) ⟨by simp, by decide⟩ ?_
  show Ev _ (Code.seq _ _) _ _
  simp only [tmOf_cons, tmOf_nil, i64, bo, u8, nilS, Nat.zero_add, Nat.reduceAdd]
  refine Ev.seq ?_
  refine Ev.rg [0, 1, 2, 3] ?_
  refine RunTo.freeM rfl (RunOn.madeL (k := 0) hI rfl rfl (by decide) rfl Z15 Z5 ?_)
  intro hp1 hI1
  simp only [List.cons_append, List.nil_append, evc, repA, Eng.setMany, List.set_cons_zero, List.set_cons_succ, Nat.zero_mul, Nat.one_mul, List.take_succ_cons, List.take_zero, List.drop_zero, List.drop_succ_cons, Nat.zero_add, Nat.reduceAdd, Nat.reduceMul] at hI1
  refine RunTo.freeM rfl (RunOn.madeL (k := 1) hI1 rfl rfl (by decide) rfl Z140 Z5 ?_)
  intro hp2 hI2
  simp only [List.cons_append, List.nil_append, evc, repA, Eng.setMany, List.set_cons_zero, List.set_cons_succ, Nat.zero_mul, Nat.one_mul, List.take_succ_cons, List.take_zero, List.drop_zero, List.drop_succ_cons, Nat.zero_add, Nat.reduceAdd, Nat.reduceMul] at hI2
  refine Rp rfl Z1 ?_
  refine Rp rfl Z1 ?_
  refine RunTo.nil ?_
  refine Ev.seq ?_
  refine Ev.seq ?_
  refine Ev.rg [0, 1, 2] ?_
  refine Rl rfl Z52 ?_
  refine RunTo.freeM rfl (RunOn.tree rfl rfl (by decide) Z1 Z1 (by assumption) Z8 (by exact hV) ?_)
  refine Rp rfl Z16 ?_
  refine RunTo.nil ?_
  refine Ev.condF Z1 ?_
  refine Ev.skip ?_
  refine Ev.seq ?_
  refine Ev.rg [0, 1, 2, 3] ?_
  refine Rl rfl Z52 ?_
  refine RunTo.freeM rfl (RunOn.callL hI2 rfl rfl (by decide) Z1 Z1 (by simp only [List.nil_append, List.append_nil, List.cons_append]; exact c109n p T h109 h220 _ _) ?_)
  rintro _ _ _ hp3 ⟨rfl, rfl, rfl⟩ hI3
  simp only [List.cons_append, List.nil_append, List.length_cons, List.length_nil, Nat.zero_add, Nat.reduceAdd] at hI3
  simp only [Nm.c, stC, Par.v] at hI3
  refine RunTo.freeM rfl (RunOn.madeL (k := 4) hI3 rfl rfl (by decide) rfl (by ((conv => lhs; simp only [evs, evm, lk_up, lk_lf, Nat.reduceEqDiff, Nat.reduceLT, reduceIte, if_true, if_false, i64, bo, u8, nilS, Bool.not_true, Bool.not_false, List.take_succ_cons, List.take_zero, List.drop_zero, List.drop_succ_cons, List.toList_toArray, Int.reduceToNat, Nat.reduceMul, Nat.reduceAdd, Nat.reduceSub, Nat.zero_add]); exact allocA_ok (z := [.sc (.pointer none)]) (by kernel_rfl))) Z5 ?_)
  intro hp4 hI4
  simp only [List.cons_append, List.nil_append, evc, repA, Eng.setMany, List.set_cons_zero, List.set_cons_succ, Nat.zero_mul, Nat.one_mul, List.take_succ_cons, List.take_zero, List.drop_zero, List.drop_succ_cons, Nat.zero_add, Nat.reduceAdd, Nat.reduceMul] at hI4
  refine RunTo.freeM rfl (RunOn.storeL (n := 1) hI4 rfl rfl Z1 Z1 (by kernel_rfl) Z6 Z6 (by rfl) Z9 Z5 ?_)
  intro hp5 hI5
  simp only [set_last, List.set_set, List.set_cons_zero, List.set_cons_succ, List.take_succ_cons, List.take_zero, List.drop_succ_cons, List.drop_zero, Eng.setMany, evc, Nat.zero_add, Nat.reduceAdd, Nat.reduceMul, Nat.reduceSub] at hI5
  refine RunTo.nil ?_
  refine Ev.seq ?_
  refine Ev.rg [0, 1, 2, 3, 4, 5, 6, 7, 8, 9, 10] ?_
  refine Rp rfl Z11 ?_
  refine Rp rfl Z11 ?_
  refine Rl rfl Z7 ?_
  refine Rp rfl Z1 ?_
  refine RunTo.freeM rfl (RunOn.tree rfl rfl (by decide) Z1 Z1 (by assumption) Z8 (by exact F110_eq hq) ?_)
  unfold Pc.v pcV
  refine Rp rfl Z1 ?_
  refine Rp rfl Z1 ?_
  refine Rp rfl Z1 ?_
  refine RunTo.freeM rfl (RunOn.madeL (k := 5) hI5 rfl rfl (by decide) rfl Z31 Z5 ?_)
  intro hp6 hI6
  simp only [List.cons_append, List.nil_append, evc, repA, Eng.setMany, List.set_cons_zero, List.set_cons_succ, Nat.zero_mul, Nat.one_mul, List.take_succ_cons, List.take_zero, List.drop_zero, List.drop_succ_cons, Nat.zero_add, Nat.reduceAdd, Nat.reduceMul] at hI6
  refine RunTo.freeM rfl (RunOn.storeL (n := 5) hI6 rfl rfl Z1 Z1 (by kernel_rfl) Z6 Z6 (by rfl) Z9 Z5 ?_)
  intro hp7 hI7
  simp only [set_last, List.set_set, List.set_cons_zero, List.set_cons_succ, List.take_succ_cons, List.take_zero, List.drop_succ_cons, List.drop_zero, Eng.setMany, evc, Nat.zero_add, Nat.reduceAdd, Nat.reduceMul, Nat.reduceSub] at hI7
  refine Rp rfl Z1 ?_
  refine RunTo.nil ?_
  refine Ev.seq ?_
  refine Ev.seq ?_
  refine Ev.rg [0, 1] ?_
  refine Rp rfl Z1 ?_
  refine Rp rfl Z44 ?_
  refine RunTo.nil ?_
  refine Ev.condF Z1 ?_
  refine Ev.skip ?_
  refine Ev.seq ?_
  refine Ev.draw (M := [0, 0, 2, 0, 8, 24, 62, 0, 128, 384, 1023, 0, 4095]) (l := [7, 8, 9, 0, 1, 2, 3, 4, 5, 6, 10, 11, 12]) (by kernel_rfl) (by kernel_rfl) (by kernel_rfl) ?_
  refine Rp rfl Z17 ?_
  refine Rl rfl Z7 ?_
  refine RunTo.freeM rfl (RunOn.tree rfl rfl (by decide) Z1 Z1 (by assumption) Z8 Z107 ?_)
  rw [Pc.ends]
  have e1 : ((q.off : Int) + (q.bs.length : Int)) = ((q.off + q.bs.length : Nat) : Int) := by omega
  refine Rl rfl Z14 ?_
  refine Rp rfl Z19 ?_
  refine Rl rfl Z7 ?_
  refine Rp rfl Z12 ?_
  refine Rl rfl Z7 ?_
  refine Rp rfl Z27 ?_
  refine Rp rfl Z34 ?_
  refine Rp rfl (by ((conv => lhs; simp only [evs, evm, lk_up, lk_lf, Nat.reduceEqDiff, Nat.reduceLT, reduceIte, if_true, if_false, i64, bo, u8, nilS, Bool.not_true, Bool.not_false, List.take_succ_cons, List.take_zero, List.drop_zero, List.drop_succ_cons, List.toList_toArray, Int.reduceToNat, Nat.reduceMul, Nat.reduceAdd, Nat.reduceSub, Nat.zero_add]); exact pBuild_st (z := [.sc (.int .i64 (0)), .sc (.int .i64 (0)), .sc (.int .i64 (0)), .sc (.int .i64 (0)), .sc (.slice none 0 0), .sc (.int .i64 (0)), .sc (.bool false)]) (ps := [(0, 5), (5, 1), (6, 1)]) Z1 (by kernel_rfl) (by kernel_rfl) rfl)) ?_
  refine RunTo.freeM rfl (RunOn.madeL (k := 6) hI7 rfl rfl (by decide) rfl (by ((conv => lhs; simp only [evs, evm, lk_up, lk_lf, Nat.reduceEqDiff, Nat.reduceLT, reduceIte, if_true, if_false, i64, bo, u8, nilS, Bool.not_true, Bool.not_false, List.take_succ_cons, List.take_zero, List.drop_zero, List.drop_succ_cons, List.toList_toArray, Int.reduceToNat, Nat.reduceMul, Nat.reduceAdd, Nat.reduceSub, Nat.zero_add]); exact allocA_ok (z := [.sc (.int .i64 (0)), .sc (.int .i64 (0)), .sc (.int .i64 (0)), .sc (.int .i64 (0)), .sc (.slice none 0 0), .sc (.int .i64 (0)), .sc (.bool false)]) (by kernel_rfl))) Z5 ?_)
  intro hp8 hI8
  simp only [List.cons_append, List.nil_append, evc, repA, Eng.setMany, List.set_cons_zero, List.set_cons_succ, Nat.zero_mul, Nat.one_mul, List.take_succ_cons, List.take_zero, List.drop_zero, List.drop_succ_cons, Nat.zero_add, Nat.reduceAdd, Nat.reduceMul] at hI8
  refine RunTo.freeM rfl (RunOn.storeL (n := 7) hI8 rfl rfl Z1 Z1 (by kernel_rfl) Z6 Z6 (by rfl) Z9 Z5 ?_)
  intro hp9 hI9
  simp only [set_last, List.set_set, List.set_cons_zero, List.set_cons_succ, List.take_succ_cons, List.take_zero, List.drop_succ_cons, List.drop_zero, Eng.setMany, evc, Nat.zero_add, Nat.reduceAdd, Nat.reduceMul, Nat.reduceSub] at hI9
  refine RunTo.nil ?_
  refine Ev.seq ?_
  refine Ev.draw (M := [0, 1, 3, 7, 15, 0, 0, 64, 192, 480, 0, 2047, 4095, 8191, 8191, 16383, 65535]) (l := [5, 6, 7, 8, 9, 0, 1, 2, 3, 4, 10, 11, 12, 13, 14, 15, 16]) (by kernel_rfl) (by kernel_rfl) (by kernel_rfl) ?_
  refine Rl rfl Z7 ?_
  refine Rp rfl Z11 ?_
  refine Rp rfl Z11 ?_
  refine Rl rfl Z7 ?_
  rw [e1]
  rw [e1] at hI9
  have hF : F112 [.rp false (Nm.c ⟨0, 0, 0, -1, 0, false, .none⟩), i64 0] = some (i64 0) := F112_eq (n := 0) (by simp)
  have hG : F111 [nilS, i64 0, .fn 113 [] [.rp false [.rp false (Nm.c ⟨0, 0, 0, -1, 0, false, .none⟩)]]] = some (.tup [i64 0, bo false]) := F111_eq (x := .none) rfl
  have hH : F114 [.rp false (Nm.c ⟨0, 0, 0, -1, 0, false, .none⟩), .agg (q.x 1 false none), i64 0, bo false] = some (i64 0) := F114_eq (m := ⟨0, 0, 0, -1, 0, false, .none⟩) rfl (fun y a b c e => by cases e)
  unfold Pc.x at hH
  have hz : ∀ n, frz false hp9 (n + 6) (.ptr 3 0) = some (.rp false (Nm.c ⟨0, 0, 0, -1, 0, false, .none⟩)) := fun n => frz_side (b := 3) hI9 rfl (fun k cs _ hk => hk) (pv_none _ 3)
  have hz2 : frz false (hp9.wlSet []) 20 (.ptr 3 0) = some (.rp false (Nm.c ⟨0, 0, 0, -1, 0, false, .none⟩)) := frz_side (n := 14) (b := 3) (IsH.wlSet (by assumption) []) rfl (fun k cs _ hk => hk) (pv_none _ 3)
  refine RunTo.freeM rfl (RunOn.tree rfl rfl (by decide) Z1 Z1 (by assumption) (by simp only [List.nil_append, List.append_nil, List.cons_append]; exact allO_cons hz2 (allO_cons frz_sc allO_nil)) (by exact hF) ?_)
  refine Rl rfl Z7 ?_
  refine Rp rfl Z1 ?_
  refine Rp rfl Z11 ?_
  refine Rp rfl Z40 ?_
  refine Rl rfl Z7 ?_
  refine Rp rfl Z92 ?_
  have hz3 : frz false (hp9.wlSet []) 19 (.ptr 4 0) = some (.rp false [.rp false (Nm.c ⟨0, 0, 0, -1, 0, false, .none⟩)]) := frz_ptr (n := 18) (IsH.wlSet (by assumption) []) rfl (by simp) (allO_cons (frz_side (n := 12) (b := 3) (IsH.wlSet (by assumption) []) rfl (fun k cs _ hk => hk) (pv_none _ 3)) allO_nil)
  refine RunTo.freeM rfl (RunOn.tree rfl rfl (by decide) Z1 Z1 (by assumption) (by simp only [List.nil_append, List.append_nil, List.cons_append]; exact allO_cons frz_sc (allO_cons frz_sc (allO_cons (frz_fn allO_nil (allO_cons hz3 allO_nil)) allO_nil))) (by exact hG) ?_)
  refine Rp rfl Z1 ?_
  refine Rp rfl Z1 ?_
  refine Rp rfl Z1 ?_
  refine Rp rfl Z1 ?_
  refine Rp rfl Z1 ?_
  refine RunTo.nil ?_
  refine Ev.seq ?_
  refine Ev.seq ?_
  refine Ev.rg [0, 1, 2, 3, 4, 5] ?_
  refine Rl rfl Z7 ?_
  refine Rl rfl Z100 ?_
  refine Rp rfl Z1 ?_
  refine Rp rfl Z1 ?_
  refine RunTo.freeM rfl (RunOn.tree rfl rfl (by decide) Z1 Z1 (by assumption) (by simp only [List.nil_append, List.append_nil, List.cons_append]; exact allO_cons hz2 (allO_cons (frz_agg (allO_cons frz_sc (allO_cons frz_sc (allO_cons frz_sc (allO_cons frz_sc (allO_cons (frz_by0 _ _) (allO_cons frz_sc (allO_cons frz_sc allO_nil)))))))) (allO_cons frz_sc (allO_cons frz_sc allO_nil)))) (by exact hH) ?_)
  refine Rp rfl Z1 ?_
  refine RunTo.nil ?_
  refine Ev.seq ?_
  refine Ev.rg [0, 1] ?_
  refine Rp rfl Z1 ?_
  refine Rp rfl Z44 ?_
  refine RunTo.nil ?_
  refine Ev.condF Z1 ?_
  refine Ev.skip ?_
  refine Ev.seq ?_
  refine Ev.seq ?_
  refine Ev.rg [0, 1] ?_
  refine Rp rfl Z1 ?_
  refine Rp rfl Z16 ?_
  refine RunTo.nil ?_
  refine Ev.condT Z1 ?_
  refine Ev.draw (M := [0, 0, 2, 6, 14, 30, 0, 0, 128, 384, 896, 1920, 4094, 8191, 16383, 32767, 65535]) (l := [1, 2, 3, 4, 5, 6, 7, 8, 9, 10, 11, 12, 0, 13, 14, 15, 16]) (by kernel_rfl) (by kernel_rfl) (by kernel_rfl) ?_
  refine Rl rfl Z7 ?_
  refine Rp rfl Z1 ?_
  refine Rp rfl Z11 ?_
  refine Rp rfl Z40 ?_
  refine Rl rfl Z7 ?_
  refine Rp rfl Z1 ?_
  refine Rp rfl Z11 ?_
  refine Rp rfl Z11 ?_
  refine Rl rfl Z7 ?_
  refine Rp rfl (by ((conv => lhs; simp only [evs, evm, lk_up, lk_lf, Nat.reduceEqDiff, Nat.reduceLT, reduceIte, if_true, if_false, i64, bo, u8, nilS, Bool.not_true, Bool.not_false, List.take_succ_cons, List.take_zero, List.drop_zero, List.drop_succ_cons, List.toList_toArray, Int.reduceToNat, Nat.reduceMul, Nat.reduceAdd, Nat.reduceSub, Nat.zero_add]); exact pBuild_st (z := [.sc (.int .i64 (0)), .sc (.bool false), .sc (.int .i64 (0)), .sc (.slice none 0 0), .sc (.slice none 0 0)]) (ps := [(0, 1), (1, 1), (2, 1), (3, 1), (4, 1)]) Z1 (by kernel_rfl) (by kernel_rfl) (by simp [fillA, AV.cells, AV.one, Eng.setMany]; rfl))) ?_
  refine RunTo.freeM rfl (RunOn.madeL (k := 7) hI9 rfl rfl (by decide) rfl (by ((conv => lhs; simp only [evs, evm, lk_up, lk_lf, Nat.reduceEqDiff, Nat.reduceLT, reduceIte, if_true, if_false, i64, bo, u8, nilS, Bool.not_true, Bool.not_false, List.take_succ_cons, List.take_zero, List.drop_zero, List.drop_succ_cons, List.toList_toArray, Int.reduceToNat, Nat.reduceMul, Nat.reduceAdd, Nat.reduceSub, Nat.zero_add]); exact build_sl (sz := 5) (z := [.sc (.int .i64 (0)), .sc (.bool false), .sc (.int .i64 (0)), .sc (.slice none 0 0), .sc (.slice none 0 0)]) Z1 (by kernel_rfl) (by decide) rfl)) Z5 ?_)
  intro hp10 hI10
  simp only [List.cons_append, List.nil_append, evc, repA, Eng.setMany, List.set_cons_zero, List.set_cons_succ, Nat.zero_mul, Nat.one_mul, List.take_succ_cons, List.take_zero, List.drop_zero, List.drop_succ_cons, Nat.zero_add, Nat.reduceAdd, Nat.reduceMul] at hI10
  refine RunTo.freeM rfl (RunOn.callL hI10 rfl rfl (by decide) Z1 Z1 (by simp only [List.nil_append, List.append_nil, List.cons_append]; exact c116m p T h116 (i64 0) (bo false) (i64 (-1)) nilS nilS rfl _ 7 8 rfl rfl (by decide)) ?_)
  rintro _ _ _ hp11 ⟨rfl, rfl, rfl⟩ hI11
  simp only [List.cons_append, List.nil_append, List.length_cons, List.length_nil, Nat.zero_add, Nat.reduceAdd] at hI11
  refine Rl rfl Z7 ?_
  refine Rp rfl Z1 ?_
  refine Rp rfl Z11 ?_
  refine Rp rfl Z40 ?_
  refine RunTo.freeM rfl (RunOn.storeL (n := 1) hI11 rfl rfl Z1 Z1 (by kernel_rfl) Z6 Z6 (by rfl) Z9 Z5 ?_)
  intro hp12 hI12
  simp only [set_last, List.set_set, List.set_cons_zero, List.set_cons_succ, List.take_succ_cons, List.take_zero, List.drop_succ_cons, List.drop_zero, Eng.setMany, evc, Nat.zero_add, Nat.reduceAdd, Nat.reduceMul, Nat.reduceSub] at hI12
  refine RunTo.nil ?_
  refine Ev.seq ?_
  refine Ev.seq ?_
  refine Ev.draw (M := [0, 0, 2, 6, 15, 0, 0, 64, 192, 448, 960, 2047, 4095]) (l := [0, 1, 2, 3, 4, 5, 6, 7, 8, 9, 10, 11, 12]) (by kernel_rfl) (by kernel_rfl) (by kernel_rfl) ?_
  refine Rl rfl Z7 ?_
  refine Rp rfl Z11 ?_
  refine Rp rfl Z11 ?_
  refine Rl rfl Z7 ?_
  have hA : F112 [.rp false (Sd.c ⟨0, 0, 0, -1, 0, false, .ro false [i64 0, bo false, i64 (-1), nilS, nilS] 1 none 5⟩), i64 0] = some (i64 0) := F112_eqv (x := ⟨0, 0, 0, -1, 0, false, _⟩) (n := 0) (by simp)
  have hB : F117 [.rp false (Sd.c ⟨0, 0, 0, -1, 0, false, .ro false [i64 0, bo false, i64 (-1), nilS, nilS] 1 none 5⟩), i64 0] = some (i64 1) := F117_eqv (x := ⟨0, 0, 0, -1, 0, false, _⟩) (n := 0) (by simp)
  have hz4 : frz false (hp12.wlSet []) 20 (.ptr 3 0) = some (.rp false (Sd.c ⟨0, 0, 0, -1, 0, false, .ro false [i64 0, bo false, i64 (-1), nilS, nilS] 1 none 5⟩)) := frz_sideV (n := 14) (b := 3) (IsH.wlSet (by assumption) []) rfl (frz_sl (n := 18) (IsH.wlSet (by assumption) []) (b := 8) rfl (by simp) (allO_cons frz_sc (allO_cons frz_sc (allO_cons frz_sc (allO_cons frz_sc (allO_cons frz_sc allO_nil))))))
  refine RunTo.freeM rfl (RunOn.tree rfl rfl (by decide) Z1 Z1 (by assumption) (by simp only [List.nil_append, List.append_nil, List.cons_append]; exact allO_cons hz4 (allO_cons frz_sc allO_nil)) (by exact hA) ?_)
  refine Rl rfl Z7 ?_
  refine Rl rfl Z7 ?_
  refine Rp rfl Z1 ?_
  refine Rp rfl Z11 ?_
  refine Rp rfl Z53 ?_
  refine Rl rfl Z7 ?_
  refine RunTo.freeM rfl (RunOn.tree rfl rfl (by decide) Z1 Z1 (by assumption) (by simp only [List.nil_append, List.append_nil, List.cons_append]; exact allO_cons hz4 (allO_cons frz_sc allO_nil)) (by exact hA) ?_)
  refine Rp rfl Z78 ?_
  refine RunTo.nil ?_
  refine Ev.condT Z1 ?_
  refine Ev.draw (M := [0, 0, 0, 4, 12, 30, 63, 127, 255, 511]) (l := [1, 2, 3, 4, 5, 0, 6, 7, 8, 9]) (by kernel_rfl) (by kernel_rfl) (by kernel_rfl) ?_
  refine Rl rfl Z7 ?_
  refine Rp rfl Z11 ?_
  refine Rp rfl Z11 ?_
  refine Rl rfl Z7 ?_
  refine RunTo.freeM rfl (RunOn.tree rfl rfl (by decide) Z1 Z1 (by assumption) (by simp only [List.nil_append, List.append_nil, List.cons_append]; exact allO_cons hz4 (allO_cons frz_sc allO_nil)) (by exact hB) ?_)
  refine Rl rfl Z7 ?_
  refine Rp rfl Z1 ?_
  refine Rp rfl Z11 ?_
  refine Rp rfl Z53 ?_
  refine RunTo.freeM rfl (RunOn.storeL (n := 1) hI12 rfl rfl Z1 Z1 (by kernel_rfl) Z6 Z6 (by rfl) Z9 Z5 ?_)
  intro hp13 hI13
  simp only [set_last, List.set_set, List.set_cons_zero, List.set_cons_succ, List.take_succ_cons, List.take_zero, List.drop_succ_cons, List.drop_zero, Eng.setMany, evc, Nat.zero_add, Nat.reduceAdd, Nat.reduceMul, Nat.reduceSub] at hI13
  refine RunTo.nil ?_
  refine Ev.seq ?_
  refine Ev.rg [0, 1, 2, 3, 4, 5, 6, 7] ?_
  refine Rl rfl Z7 ?_
  refine Rp rfl Z1 ?_
  refine Rp rfl Z11 ?_
  refine Rp rfl Z40 ?_
  refine Rl rfl Z7 ?_
  refine Rp rfl Z1 ?_
  refine Rp rfl Z93 ?_
  refine Rp rfl Z1 ?_
  refine RunTo.nil ?_
  refine Ev.seq ?_
  refine Ev.rg [0, 1, 2] ?_
  refine Rl rfl Z100 ?_
  refine Rp rfl Z1 ?_
  refine RunTo.freeM rfl (RunOn.callL hI13 rfl rfl (by decide) Z1 Z1 (by simp only [List.nil_append, List.append_nil, List.cons_append]; exact c118n p T h118 h226 q true none hq _ 8 rfl (by simp)) ?_)
  rintro _ L2 w2 hp14 ⟨rfl, hw2, hk, hlen, hd, hb⟩ hI14
  have hD : (Par.none.put q).D.length = q.off + q.bs.length := by simp only [Par.put]; rw [putB_len]; simp
  have gp : L2[8]? = some (some (paC (Par.none.put q).len (.sl 10 0 (Par.none.put q).D.length none 1) (rgV true (Par.none.put q).R none))) := by
    rw [put_len, hD]
    exact hb
  have gd : L2[10]? = some (some (byC (Par.none.put q).D)) := hd
  have hl2 : L2.length < 90000 := by rw [hlen]; simp
  refine RunTo.nil ?_
  cases hw : (Par.none.put q).whole with
  | false =>
    have hR : rcOut ⟨0, 0, 0, -1, 0, false, .none⟩ q = .tup [.agg (Nm.cw ⟨0, 1, 1, 1, 3, true, .one (Par.none.put q) none none none⟩), nilS, i64 0] := by simp [rcOut, Nm.put, hw]
    rw [hR]
    refine t33a p T h112 h119 h120 h121 h115 _ _ L2 _ hI14 hl2 3 8 10 4 5 6 ?_ ?_ ?_ ?_ ?_ 0 (-1) 0 false (by decide) (.inl ⟨rfl, rfl⟩) q (Par.none.put q) (hk 1 _ (by decide) rfl) (hk 4 _ (by decide) rfl) (hk 5 _ (by decide) rfl) (hk 6 _ (by decide) rfl) (hk 3 _ (by decide) rfl) gp gd (by decide) (by decide) (by decide) (by decide) (by decide) (by decide) (by decide) (by decide) Z123 Z123 hw
    · exact Z1
    · exact Z1
    · exact Z1
    · exact Z1
    · exact Z1
  | true =>
    have hR : rcOut ⟨0, 0, 0, -1, 0, false, .none⟩ q = .tup [.agg (Nm.cw ⟨1, 1, 1, -1, 0, true, .gone none⟩), byV true (Par.none.put q).D none, i64 0] := by simp [rcOut, Nm.put, hw]
    rw [hR]
    refine t33b p T h112 h117 h119 h120 h121 h115 _ _ L2 _ hI14 hl2 3 8 10 4 5 6 ?_ ?_ ?_ ?_ ?_ 0 (-1) 0 false (by decide) (.inl ⟨rfl, rfl⟩) q (Par.none.put q) (hk 1 _ (by decide) rfl) (hk 4 _ (by decide) rfl) (hk 5 _ (by decide) rfl) (hk 6 _ (by decide) rfl) (hk 3 _ (by decide) rfl) gp gd (by decide) (by decide) (by decide) (by decide) (by decide) (by decide) (by decide) (by decide) (by decide) (by decide) Z123 Z123 hw
    · exact Z1
    · exact Z1
    · exact Z1
    · exact Z1
    · exact Z1
end
end Go.Eng
end
section
set_option linter.unusedVariables false
set_option linter.unusedSimpArgs false
set_option maxRecDepth 100000
set_option maxHeartbeats 4000000
namespace Go.Eng
open Go Go.RowKit Go.Proofs
section
variable (p : Poly) (T : List (Nat × (List AV → Option AV)))
theorem w33m (h : (envL p T).sp 33 = none) (h46 : (envL p T).sp 46 = some (treeSp F46)) (h109 : (envL p T).sp 109 = none) (h105 : (envL p T).sp 105 = none) (h220 : (envL p T).sp 220 = none) (h221 : (envL p T).sp 221 = none) (h110 : (envL p T).sp 110 = some (treeSp F110)) (h108 : (envL p T).sp 108 = some (treeSp F108)) (h112 : (envL p T).sp 112 = some (treeSp F112)) (h111 : (envL p T).sp 111 = some (treeSp F111)) (h114 : (envL p T).sp 114 = some (treeSp F114)) (h117 : (envL p T).sp 117 = some (treeSp F117)) (h118 : (envL p T).sp 118 = none) (h226 : (envL p T).sp 226 = some (treeSp F226)) (h119 : (envL p T).sp 119 = some (treeSp F119)) (h120 : (envL p T).sp 120 = none) (h121 : (envL p T).sp 121 = none) (h115 : (envL p T).sp 115 = none) (q : Pc) (hq : q.Ok) (x : Pt) (cap : Option Nat) (hx : x.Ok) (hl : x.R.length ≤ 60) (hfit : Fits q x) : CallTo (envL p T) 33 [.agg (Nm.c ⟨0, 1, 1, 1, 3, true, .one x none none cap⟩), byV false q.enc none] Hp.empty fun v hp' => frz true hp' 20 v = some (rcOut ⟨0, 1, 1, 1, 3, true, .one x none none cap⟩ q) := by
  have hI := IsH.empty
  have hm := hq.most
  have hpos := Pc.pos hq
  have hV : F46 [.agg (Nm.c ⟨0, 1, 1, 1, 3, true, .one x none none cap⟩)] = some (bo true) := F46_eq (.mid x cap hx hl)
  have hF : F112 [.rp false (Nm.c ⟨0, 1, 1, 1, 3, true, .one x none none none⟩), i64 0] = some (i64 0) := F112_eq (n := 0) (by simp)
  have hF1 : F112 [.rp false (Nm.c ⟨0, 1, 1, 1, 3, true, .one x none none none⟩), i64 1] = some (i64 1) := F112_eq (n := 1) (by simp)
  have hG : F111 [(Par.one x none none none).v false, i64 0, .fn 113 [] [.rp false [.rp false (Nm.c ⟨0, 1, 1, 1, 3, true, .one x none none none⟩)]]] = some (.tup [i64 0, bo true]) := F111_eq (x := .one x none none none) rfl
  have hH : F114 [.rp false (Nm.c ⟨0, 1, 1, 1, 3, true, .one x none none none⟩), .agg (q.x 1 false none), i64 0, bo true] = some (i64 0) := F114_eq (m := ⟨0, 1, 1, 1, 3, true, .one x none none none⟩) rfl (fun y a b c e => by injection e with e; rw [← e]; exact hfit)
  unfold Pc.x at hH
  have e1 : ((q.off : Int) + (q.bs.length : Int)) = ((q.off + q.bs.length : Nat) : Int) := by omega
  simp only [Nm.c, stC, Par.v, Pt.cells, paC] at hV ⊢
  refine CallTo.body (c := (Tryz.f33.body.getD .skip)) (nt := 154) (rs := #[.cell 4 75, .tmp 5, .tmp 6]) (by assumption) (by kernel_rfl) ⟨by simp, by decide⟩ ?_
  show Ev _ (Code.seq _ _) _ _
  simp only [tmOf_cons, tmOf_nil, i64, bo, u8, nilS, Nat.zero_add, Nat.reduceAdd]
  refine Ev.seq ?_
  refine Ev.rg [0, 1, 2, 3] ?_
  refine RunTo.freeM rfl (RunOn.madeL (k := 0) hI rfl rfl (by decide) rfl Z15 Z5 ?_)
  intro hp1 hI1
  simp only [List.cons_append, List.nil_append, evc, repA, Eng.setMany, List.set_cons_zero, List.set_cons_succ, Nat.zero_mul, Nat.one_mul, List.take_succ_cons, List.take_zero, List.drop_zero, List.drop_succ_cons, Nat.zero_add, Nat.reduceAdd, Nat.reduceMul] at hI1
  refine RunTo.freeM rfl (RunOn.madeL (k := 1) hI1 rfl rfl (by decide) rfl Z140 Z5 ?_)
  intro hp2 hI2
  simp only [List.cons_append, List.nil_append, evc, repA, Eng.setMany, List.set_cons_zero, List.set_cons_succ, Nat.zero_mul, Nat.one_mul, List.take_succ_cons, List.take_zero, List.drop_zero, List.drop_succ_cons, Nat.zero_add, Nat.reduceAdd, Nat.reduceMul] at hI2
  refine Rp rfl Z1 ?_
  refine Rp rfl Z1 ?_
  refine RunTo.nil ?_
  refine Ev.seq ?_
  refine Ev.seq ?_
  refine Ev.rg [0, 1, 2] ?_
  refine Rl rfl Z52 ?_
  refine RunTo.freeM rfl (RunOn.tree rfl rfl (by decide) Z1 Z1 (by assumption) Z8 (by exact hV) ?_)
  refine Rp rfl Z16 ?_
  refine RunTo.nil ?_
  refine Ev.condF Z1 ?_
  refine Ev.skip ?_
  refine Ev.seq ?_
  refine Ev.rg [0, 1, 2, 3] ?_
  refine Rl rfl Z52 ?_
  refine RunTo.freeM rfl (RunOn.callL hI2 rfl rfl (by decide) Z1 Z1 (by simp only [List.nil_append, List.append_nil, List.cons_append]; exact c109m p T h109 h105 h220 h221 _ _ x cap hx hl) ?_)
  rintro _ _ _ hp3 ⟨rfl, rfl, rfl⟩ hI3
  simp only [List.cons_append, List.nil_append, List.length_cons, List.length_nil, Nat.zero_add, Nat.reduceAdd] at hI3
  simp only [midL, stC] at hI3
  refine RunTo.freeM rfl (RunOn.madeL (k := 10) hI3 rfl rfl (by decide) rfl (by ((conv => lhs; simp only [evs, evm, lk_up, lk_lf, Nat.reduceEqDiff, Nat.reduceLT, reduceIte, if_true, if_false, i64, bo, u8, nilS, Bool.not_true, Bool.not_false, List.take_succ_cons, List.take_zero, List.drop_zero, List.drop_succ_cons, List.toList_toArray, Int.reduceToNat, Nat.reduceMul, Nat.reduceAdd, Nat.reduceSub, Nat.zero_add]); exact allocA_ok (z := [.sc (.pointer none)]) (by kernel_rfl))) Z5 ?_)
  intro hp4 hI4
  simp only [List.cons_append, List.nil_append, evc, repA, Eng.setMany, List.set_cons_zero, List.set_cons_succ, Nat.zero_mul, Nat.one_mul, List.take_succ_cons, List.take_zero, List.drop_zero, List.drop_succ_cons, Nat.zero_add, Nat.reduceAdd, Nat.reduceMul] at hI4
  refine RunTo.freeM rfl (RunOn.storeL (n := 1) hI4 rfl rfl Z1 Z1 (by kernel_rfl) Z6 Z6 (by rfl) Z9 Z5 ?_)
  intro hp5 hI5
  simp only [set_last, List.set_set, List.set_cons_zero, List.set_cons_succ, List.take_succ_cons, List.take_zero, List.drop_succ_cons, List.drop_zero, Eng.setMany, evc, Nat.zero_add, Nat.reduceAdd, Nat.reduceMul, Nat.reduceSub] at hI5
  refine RunTo.nil ?_
  refine Ev.seq ?_
  refine Ev.rg [0, 1, 2, 3, 4, 5, 6, 7, 8, 9, 10] ?_
  refine Rp rfl Z11 ?_
  refine Rp rfl Z11 ?_
  refine Rl rfl Z7 ?_
  refine Rp rfl Z1 ?_
  refine RunTo.freeM rfl (RunOn.tree rfl rfl (by decide) Z1 Z1 (by assumption) Z8 (by exact F110_eq hq) ?_)
  unfold Pc.v pcV
  refine Rp rfl Z1 ?_
  refine Rp rfl Z1 ?_
  refine Rp rfl Z1 ?_
  refine RunTo.freeM rfl (RunOn.madeL (k := 11) hI5 rfl rfl (by decide) rfl Z31 Z5 ?_)
  intro hp6 hI6
  simp only [List.cons_append, List.nil_append, evc, repA, Eng.setMany, List.set_cons_zero, List.set_cons_succ, Nat.zero_mul, Nat.one_mul, List.take_succ_cons, List.take_zero, List.drop_zero, List.drop_succ_cons, Nat.zero_add, Nat.reduceAdd, Nat.reduceMul] at hI6
  refine RunTo.freeM rfl (RunOn.storeL (n := 5) hI6 rfl rfl Z1 Z1 (by kernel_rfl) Z6 Z6 (by rfl) Z9 Z5 ?_)
  intro hp7 hI7
  simp only [set_last, List.set_set, List.set_cons_zero, List.set_cons_succ, List.take_succ_cons, List.take_zero, List.drop_succ_cons, List.drop_zero, Eng.setMany, evc, Nat.zero_add, Nat.reduceAdd, Nat.reduceMul, Nat.reduceSub] at hI7
  refine Rp rfl Z1 ?_
  refine RunTo.nil ?_
  refine Ev.seq ?_
  refine Ev.seq ?_
  refine Ev.rg [0, 1] ?_
  refine Rp rfl Z1 ?_
  refine Rp rfl Z44 ?_
  refine RunTo.nil ?_
  refine Ev.condF Z1 ?_
  refine Ev.skip ?_
  refine Ev.seq ?_
  refine Ev.draw (M := [0, 0, 2, 0, 8, 24, 62, 0, 128, 384, 1023, 0, 4095]) (l := [7, 8, 9, 0, 1, 2, 3, 4, 5, 6, 10, 11, 12]) (by kernel_rfl) (by kernel_rfl) (by kernel_rfl) ?_
  refine Rp rfl Z17 ?_
  refine Rl rfl Z7 ?_
  refine RunTo.freeM rfl (RunOn.tree rfl rfl (by decide) Z1 Z1 (by assumption) Z8 Z107 ?_)
  rw [Pc.ends]
  refine Rl rfl Z14 ?_
  refine Rp rfl Z19 ?_
  refine Rl rfl Z7 ?_
  refine Rp rfl Z12 ?_
  refine Rl rfl Z7 ?_
  refine Rp rfl Z27 ?_
  refine Rp rfl Z34 ?_
  refine Rp rfl (by ((conv => lhs; simp only [evs, evm, lk_up, lk_lf, Nat.reduceEqDiff, Nat.reduceLT, reduceIte, if_true, if_false, i64, bo, u8, nilS, Bool.not_true, Bool.not_false, List.take_succ_cons, List.take_zero, List.drop_zero, List.drop_succ_cons, List.toList_toArray, Int.reduceToNat, Nat.reduceMul, Nat.reduceAdd, Nat.reduceSub, Nat.zero_add]); exact pBuild_st (z := [.sc (.int .i64 (0)), .sc (.int .i64 (0)), .sc (.int .i64 (0)), .sc (.int .i64 (0)), .sc (.slice none 0 0), .sc (.int .i64 (0)), .sc (.bool false)]) (ps := [(0, 5), (5, 1), (6, 1)]) Z1 (by kernel_rfl) (by kernel_rfl) rfl)) ?_
  refine RunTo.freeM rfl (RunOn.madeL (k := 12) hI7 rfl rfl (by decide) rfl (by ((conv => lhs; simp only [evs, evm, lk_up, lk_lf, Nat.reduceEqDiff, Nat.reduceLT, reduceIte, if_true, if_false, i64, bo, u8, nilS, Bool.not_true, Bool.not_false, List.take_succ_cons, List.take_zero, List.drop_zero, List.drop_succ_cons, List.toList_toArray, Int.reduceToNat, Nat.reduceMul, Nat.reduceAdd, Nat.reduceSub, Nat.zero_add]); exact allocA_ok (z := [.sc (.int .i64 (0)), .sc (.int .i64 (0)), .sc (.int .i64 (0)), .sc (.int .i64 (0)), .sc (.slice none 0 0), .sc (.int .i64 (0)), .sc (.bool false)]) (by kernel_rfl))) Z5 ?_)
  intro hp8 hI8
  simp only [List.cons_append, List.nil_append, evc, repA, Eng.setMany, List.set_cons_zero, List.set_cons_succ, Nat.zero_mul, Nat.one_mul, List.take_succ_cons, List.take_zero, List.drop_zero, List.drop_succ_cons, Nat.zero_add, Nat.reduceAdd, Nat.reduceMul] at hI8
  refine RunTo.freeM rfl (RunOn.storeL (n := 7) hI8 rfl rfl Z1 Z1 (by kernel_rfl) Z6 Z6 (by rfl) Z9 Z5 ?_)
  intro hp9 hI9
  simp only [set_last, List.set_set, List.set_cons_zero, List.set_cons_succ, List.take_succ_cons, List.take_zero, List.drop_succ_cons, List.drop_zero, Eng.setMany, evc, Nat.zero_add, Nat.reduceAdd, Nat.reduceMul, Nat.reduceSub] at hI9
  refine RunTo.nil ?_
  refine Ev.seq ?_
  refine Ev.draw (M := [0, 1, 3, 7, 15, 0, 0, 64, 192, 480, 0, 2047, 4095, 8191, 8191, 16383, 65535]) (l := [5, 6, 7, 8, 9, 0, 1, 2, 3, 4, 10, 11, 12, 13, 14, 15, 16]) (by kernel_rfl) (by kernel_rfl) (by kernel_rfl) ?_
  refine Rl rfl Z7 ?_
  refine Rp rfl Z11 ?_
  refine Rp rfl Z11 ?_
  refine Rl rfl Z7 ?_
  rw [e1]
  rw [e1] at hI9
  have hz2 : frz false (hp9.wlSet []) 20 (.ptr 9 0) = some (.rp false (Nm.c ⟨0, 1, 1, 1, 3, true, .one x none none none⟩)) := frz_side (n := 14) (b := 9) (IsH.wlSet (by assumption) []) rfl (fun k cs _ hk => hk) (pv_one (bp := 4) (bd := 6) (by decide) (by decide) rfl rfl (.inr ⟨8, by decide, rfl, rfl⟩))
  have hz1 : frz false (hp9.wlSet []) 20 (.sl 4 0 1 none 5) = some ((Par.one x none none none).v false) := pv_one (b := 9) (bp := 4) (bd := 6) (by decide) (by decide) rfl rfl (.inr ⟨8, by decide, rfl, rfl⟩) _ _ _ 15 (IsH.wlSet (by assumption) []) (fun k cs _ hk => hk)
  refine RunTo.freeM rfl (RunOn.tree rfl rfl (by decide) Z1 Z1 (by assumption) (by simp only [List.nil_append, List.append_nil, List.cons_append]; exact allO_cons hz2 (allO_cons frz_sc allO_nil)) (by exact hF) ?_)
  refine Rl rfl Z7 ?_
  refine Rp rfl Z1 ?_
  refine Rp rfl Z11 ?_
  refine Rp rfl Z40 ?_
  refine Rl rfl Z7 ?_
  refine Rp rfl Z92 ?_
  have hz3 : frz false (hp9.wlSet []) 19 (.ptr 10 0) = some (.rp false [.rp false (Nm.c ⟨0, 1, 1, 1, 3, true, .one x none none none⟩)]) := frz_ptr (n := 18) (IsH.wlSet (by assumption) []) rfl (by simp) (allO_cons (frz_side (n := 12) (b := 9) (IsH.wlSet (by assumption) []) rfl (fun k cs _ hk => hk) (pv_one (bp := 4) (bd := 6) (by decide) (by decide) rfl rfl (.inr ⟨8, by decide, rfl, rfl⟩))) allO_nil)
  refine RunTo.freeM rfl (RunOn.tree rfl rfl (by decide) Z1 Z1 (by assumption) (by simp only [List.nil_append, List.append_nil, List.cons_append]; exact allO_cons hz1 (allO_cons frz_sc (allO_cons (frz_fn allO_nil (allO_cons hz3 allO_nil)) allO_nil))) (by exact hG) ?_)
  refine Rp rfl Z1 ?_
  refine Rp rfl Z1 ?_
  refine Rp rfl Z1 ?_
  refine Rp rfl Z1 ?_
  refine Rp rfl Z1 ?_
  refine RunTo.nil ?_
  refine Ev.seq ?_
  refine Ev.seq ?_
  refine Ev.rg [0, 1, 2, 3, 4, 5] ?_
  refine Rl rfl Z7 ?_
  refine Rl rfl Z100 ?_
  refine Rp rfl Z1 ?_
  refine Rp rfl Z1 ?_
  refine RunTo.freeM rfl (RunOn.tree rfl rfl (by decide) Z1 Z1 (by assumption) (by simp only [List.nil_append, List.append_nil, List.cons_append]; exact allO_cons hz2 (allO_cons (frz_agg (allO_cons frz_sc (allO_cons frz_sc (allO_cons frz_sc (allO_cons frz_sc (allO_cons (frz_by0 _ _) (allO_cons frz_sc (allO_cons frz_sc allO_nil)))))))) (allO_cons frz_sc (allO_cons frz_sc allO_nil)))) (by exact hH) ?_)
  refine Rp rfl Z1 ?_
  refine RunTo.nil ?_
  refine Ev.seq ?_
  refine Ev.rg [0, 1] ?_
  refine Rp rfl Z1 ?_
  refine Rp rfl Z44 ?_
  refine RunTo.nil ?_
  refine Ev.condF Z1 ?_
  refine Ev.skip ?_
  refine Ev.seq ?_
  refine Ev.seq ?_
  refine Ev.rg [0, 1] ?_
  refine Rp rfl Z1 ?_
  refine Rp rfl Z16 ?_
  refine RunTo.nil ?_
  refine Ev.condF Z1 ?_
  refine Ev.skip ?_
  refine Ev.seq ?_
  refine Ev.seq ?_
  refine Ev.draw (M := [0, 0, 2, 6, 15, 0, 0, 64, 192, 448, 960, 2047, 4095]) (l := [0, 1, 2, 3, 4, 5, 6, 7, 8, 9, 10, 11, 12]) (by kernel_rfl) (by kernel_rfl) (by kernel_rfl) ?_
  refine Rl rfl Z7 ?_
  refine Rp rfl Z11 ?_
  refine Rp rfl Z11 ?_
  refine Rl rfl Z7 ?_
  refine RunTo.freeM rfl (RunOn.tree rfl rfl (by decide) Z1 Z1 (by assumption) (by simp only [List.nil_append, List.append_nil, List.cons_append]; exact allO_cons hz2 (allO_cons frz_sc allO_nil)) (by exact hF) ?_)
  refine Rl rfl Z7 ?_
  refine Rl rfl Z7 ?_
  refine Rp rfl Z1 ?_
  refine Rp rfl Z11 ?_
  refine Rp rfl Z53 ?_
  refine Rl rfl Z7 ?_
  refine RunTo.freeM rfl (RunOn.tree rfl rfl (by decide) Z1 Z1 (by assumption) (by simp only [List.nil_append, List.append_nil, List.cons_append]; exact allO_cons hz2 (allO_cons frz_sc allO_nil)) (by exact hF1) ?_)
  refine Rp rfl Z58 ?_
  refine RunTo.nil ?_
  refine Ev.condF Z1 ?_
  refine Ev.skip ?_
  refine Ev.seq ?_
  refine Ev.rg [0, 1, 2, 3, 4, 5, 6, 7] ?_
  refine Rl rfl Z7 ?_
  refine Rp rfl Z1 ?_
  refine Rp rfl Z11 ?_
  refine Rp rfl Z40 ?_
  refine Rl rfl Z7 ?_
  refine Rp rfl Z1 ?_
  refine Rp rfl Z93 ?_
  refine Rp rfl Z1 ?_
  refine RunTo.nil ?_
  refine Ev.seq ?_
  refine Ev.rg [0, 1, 2] ?_
  refine Rl rfl Z100 ?_
  refine Rp rfl Z1 ?_
  have hcap : rcOut ⟨0, 1, 1, 1, 3, true, .one x none none cap⟩ q = rcOut ⟨0, 1, 1, 1, 3, true, .one x none none none⟩ q := rfl
  have hul : ((Par.one x none none none).put q).R.length ≤ 1000 := by
    have := unionG_len x.R [] [] (q.off, q.off + q.bs.length)
    simp only [Par.put]
    simp at this
    omega
  rcases Nat.lt_or_ge x.D.length (q.off + q.bs.length) with hgt | hle
  · refine RunTo.freeM rfl (RunOn.callL hI9 rfl rfl (by decide) Z1 Z1 (by simp only [List.nil_append, List.append_nil, List.cons_append]; exact c118g p T h118 h226 q true none hq x hx hl hgt _ 4 6 8 (by decide) (by decide) (by decide) rfl rfl rfl (by simp)) ?_)
    rintro _ L2 w2 hp14 ⟨rfl, hw2, hk, hlen, hd, hb⟩ hI14
    have hD : ((Par.one x none none none).put q).D.length = q.off + q.bs.length := by simp only [Par.put]; rw [putB_len]; omega
    have gp : L2[4]? = some (some (paC ((Par.one x none none none).put q).len (.sl 14 0 ((Par.one x none none none).put q).D.length none 1) (rgV true ((Par.one x none none none).put q).R none))) := by
      rw [put_len, hD]
      exact hb
    have gd : L2[14]? = some (some (byC ((Par.one x none none none).put q).D)) := hd
    have hl2 : L2.length < 90000 := by rw [hlen]; simp
    refine RunTo.nil ?_
    cases hw : ((Par.one x none none none).put q).whole with
    | false =>
      have hR : rcOut ⟨0, 1, 1, 1, 3, true, .one x none none cap⟩ q = .tup [.agg (Nm.cw ⟨0, 1, 1, 1, 3, true, .one ((Par.one x none none none).put q) none none none⟩), nilS, i64 0] := by
        rw [hcap]
        simp [rcOut, Nm.put, hw]
      rw [hR]
      refine t33a p T h112 h119 h120 h121 h115 _ _ L2 _ hI14 hl2 9 4 14 10 11 12 ?_ ?_ ?_ ?_ ?_ 1 1 3 true (by decide) (.inr ⟨rfl, rfl⟩) q ((Par.one x none none none).put q) (hk 1 _ (by decide) (by decide) rfl) (hk 10 _ (by decide) (by decide) rfl) (hk 11 _ (by decide) (by decide) rfl) (hk 12 _ (by decide) (by decide) rfl) (hk 9 _ (by decide) (by decide) rfl) gp gd (by decide) (by decide) (by decide) (by decide) (by decide) (by decide) (by decide) (by decide) unionG_ne hul hw
      · exact Z1
      · exact Z1
      · exact Z1
      · exact Z1
      · exact Z1
    | true =>
      have hR : rcOut ⟨0, 1, 1, 1, 3, true, .one x none none cap⟩ q = .tup [.agg (Nm.cw ⟨1, 1, 1, -1, 0, true, .gone none⟩), byV true ((Par.one x none none none).put q).D none, i64 0] := by
        rw [hcap]
        simp [rcOut, Nm.put, hw]
      rw [hR]
      refine t33b p T h112 h117 h119 h120 h121 h115 _ _ L2 _ hI14 hl2 9 4 14 10 11 12 ?_ ?_ ?_ ?_ ?_ 1 1 3 true (by decide) (.inr ⟨rfl, rfl⟩) q ((Par.one x none none none).put q) (hk 1 _ (by decide) (by decide) rfl) (hk 10 _ (by decide) (by decide) rfl) (hk 11 _ (by decide) (by decide) rfl) (hk 12 _ (by decide) (by decide) rfl) (hk 9 _ (by decide) (by decide) rfl) gp gd (by decide) (by decide) (by decide) (by decide) (by decide) (by decide) (by decide) (by decide) (by decide) (by decide) unionG_ne hul hw
      · exact Z1
      · exact Z1
      · exact Z1
      · exact Z1
      · exact Z1
  · refine RunTo.freeM rfl (RunOn.callL hI9 rfl rfl (by decide) Z1 Z1 (by simp only [List.nil_append, List.append_nil, List.cons_append]; exact c118k p T h118 h226 q true none hq x hx hl hle _ 4 6 8 (by decide) (by decide) (by decide) rfl rfl rfl (by simp)) ?_)
    rintro _ L2 w2 hp14 ⟨rfl, hw2, hk, hlen, hd, hb⟩ hI14
    have hD : ((Par.one x none none none).put q).D.length = x.D.length := by simp only [Par.put]; rw [putB_len]; omega
    have gp : L2[4]? = some (some (paC ((Par.one x none none none).put q).len (.sl 6 0 ((Par.one x none none none).put q).D.length none 1) (rgV true ((Par.one x none none none).put q).R none))) := by
      rw [put_len, hD]
      exact hb
    have gd : L2[6]? = some (some (byC ((Par.one x none none none).put q).D)) := hd
    have hl2 : L2.length < 90000 := by rw [hlen]; simp
    refine RunTo.nil ?_
    cases hw : ((Par.one x none none none).put q).whole with
    | false =>
      have hR : rcOut ⟨0, 1, 1, 1, 3, true, .one x none none cap⟩ q = .tup [.agg (Nm.cw ⟨0, 1, 1, 1, 3, true, .one ((Par.one x none none none).put q) none none none⟩), nilS, i64 0] := by
        rw [hcap]
        simp [rcOut, Nm.put, hw]
      rw [hR]
      refine t33a p T h112 h119 h120 h121 h115 _ _ L2 _ hI14 hl2 9 4 6 10 11 12 ?_ ?_ ?_ ?_ ?_ 1 1 3 true (by decide) (.inr ⟨rfl, rfl⟩) q ((Par.one x none none none).put q) (hk 1 _ (by decide) (by decide) rfl) (hk 10 _ (by decide) (by decide) rfl) (hk 11 _ (by decide) (by decide) rfl) (hk 12 _ (by decide) (by decide) rfl) (hk 9 _ (by decide) (by decide) rfl) gp gd (by decide) (by decide) (by decide) (by decide) (by decide) (by decide) (by decide) (by decide) unionG_ne hul hw
      · exact Z1
      · exact Z1
      · exact Z1
      · exact Z1
      · exact Z1
    | true =>
      have hR : rcOut ⟨0, 1, 1, 1, 3, true, .one x none none cap⟩ q = .tup [.agg (Nm.cw ⟨1, 1, 1, -1, 0, true, .gone none⟩), byV true ((Par.one x none none none).put q).D none, i64 0] := by
        rw [hcap]
        simp [rcOut, Nm.put, hw]
      rw [hR]
      refine t33b p T h112 h117 h119 h120 h121 h115 _ _ L2 _ hI14 hl2 9 4 6 10 11 12 ?_ ?_ ?_ ?_ ?_ 1 1 3 true (by decide) (.inr ⟨rfl, rfl⟩) q ((Par.one x none none none).put q) (hk 1 _ (by decide) (by decide) rfl) (hk 10 _ (by decide) (by decide) rfl) (hk 11 _ (by decide) (by decide) rfl) (hk 12 _ (by decide) (by decide) rfl) (hk 9 _ (by decide) (by decide) rfl) gp gd (by decide) (by decide) (by decide) (by decide) (by decide) (by decide) (by decide) (by decide) (by decide) (by decide) unionG_ne hul hw
      · exact Z1
      · exact Z1
      · exact Z1
      · exact Z1
      · exact Z1
end
end Go.Eng
end
section
set_option linter.unusedVariables false
set_option linter.unusedSimpArgs false
set_option maxRecDepth 100000
set_option maxHeartbeats 4000000
namespace Go.Eng
open Go Go.RowKit Go.Proofs
def pT (n : Nat) : List Bool := List.replicate n true
def p1 : List Bool := pT 8 ++ [false, true, false]
def p2 : List Bool := pT 10 ++ [false, true, false]
def pZ : List Bool := p2 ++ [false, true, false, false]
def pA : List Bool := pZ ++ pT 8 ++ [false, true, false]
def pB : List Bool := pZ ++ pT 11 ++ [true, false]
def pC : List Bool := pB ++ [false, true, false, false] ++ [true, false, true, false]
section
variable (p : Poly) (T : List (Nat × (List AV → Option AV)))
def hit (i : Nat) (gs : List Rg) : Bool := gs.any fun g => decide (g.1 ≤ i ∧ i < g.2)
theorem hit_snoc (i : Nat) (l : List Rg) (g : Rg) : hit i (l ++ [g]) = (hit i l || decide (g.1 ≤ i ∧ i < g.2)) := by simp [hit]
theorem lC (tm : Tr AV) (hp : Hp) (L : List (Option (List AV))) (w : List Nat) (hI : IsH hp L w) (b22 i : Nat) (u : AV) (mv : AV) (gs : List Rg) (hi : i < 100000) (k22 : lk tm 22 = .ptr b22 0) (k24 : lk tm 24 = i64 i) (k25 : lk tm 25 = bo false) (k26 : lk tm 26 = i64 0) (g22 : L[b22]? = some (some [u, mv])) (hmv : (gs = [] ∧ mv = nilS) ∨ mv = rgV true gs none) (hg : gs.length ≤ 1000) (Q : Ex → St → Prop)
    (hq : ∀ tm', (∀ t ∈ [3, 4, 5, 6, 8, 14, 15, 19, 20, 22, 24], lk tm' t = lk tm t) → lk tm' 25 = bo (hit i gs) → Q (.ext 8) ⟨214, tm', hp⟩) : Ev (envL p T) (nav pC (Tryz.f4.body.getD .skip)) ⟨214, tm, hp⟩ Q := by
  show Ev _ (Code.loop _) _ _
  refine Ev.loop (fun (y : List Rg × List Rg) s => gs = y.1 ++ y.2 ∧ ∃ tm', s = ⟨214, tm', hp⟩ ∧ (∀ t ∈ [3, 4, 5, 6, 8, 14, 15, 19, 20, 22, 24], lk tm' t = lk tm t) ∧ lk tm' 25 = bo (hit i y.1) ∧ lk tm' 26 = i64 y.1.length) (fun y => y.2.length) ?_ (x := ([], gs)) ⟨rfl, tm, rfl, fun t _ => rfl, k25, k26⟩
  rintro ⟨d, r⟩ s ⟨hgs, tm', rfl, hk, k25', k26'⟩
  simp only at hgs k25' k26'
  have k22' : lk tm' 22 = .ptr b22 0 := (hk 22 (by simp)).trans k22
  have k24' : lk tm' 24 = i64 i := (hk 24 (by simp)).trans k24
  have kp : ∀ {tm2 : Tr AV}, (∀ t ∈ [3, 4, 5, 6, 8, 14, 15, 19, 20, 22, 24], lk tm2 t = lk tm' t) → ∀ t ∈ [3, 4, 5, 6, 8, 14, 15, 19, 20, 22, 24], lk tm2 t = lk tm t := fun h t ht => (h t ht).trans (hk t ht)
  cases r with
  | nil =>
    rw [List.append_nil] at hgs
    subst hgs
    rcases hmv with ⟨hg0, rfl⟩ | rfl
    · subst hg0
      have e0 : (([] : List Rg).length : Int) = 0 := rfl
      rw [e0] at k26'
      refine Ev.seq ?_
      refine Ev.seq ?_
      refine Ev.rg [0, 1, 2, 3, 4] ?_
      refine Rp rfl (Z3 (Y8 k22 k24 k25 k26 k22' k24' k25' k26')) ?_
      refine Rp rfl (Z23 (Y8 k22 k24 k25 k26 k22' k24' k25' k26')) ?_
      refine Rl rfl (Z30 (Y8 k22 k24 k25 k26 k22' k24' k25' k26')) ?_
      refine Rp rfl (Z141 (Y8 k22 k24 k25 k26 k22' k24' k25' k26')) ?_
      refine Rp rfl (Z39 (Y8 k22 k24 k25 k26 k22' k24' k25' k26')) ?_
      refine RunTo.nil ?_
      refine Ev.condF (Z3 (Y8 k22 k24 k25 k26 k22' k24' k25' k26')) ?_
      refine Ev.exit ?_
      refine thenE_ext ?_
      refine hq _ (kp ?_) ?_
      · intro t ht
        simp only [List.mem_cons, List.not_mem_nil, or_false] at ht
        rcases ht with rfl | rfl | rfl | rfl | rfl | rfl | rfl | rfl | rfl | rfl | rfl <;> simp only [lk_up, Nat.reduceEqDiff, Nat.reduceLT, reduceIte]
      · simp only [lk_up, Nat.reduceEqDiff, Nat.reduceLT, reduceIte]
        exact k25'
    · refine Ev.seq ?_
      refine Ev.seq ?_
      refine Ev.rg [0, 1, 2, 3, 4] ?_
      refine Rp rfl (Z3 (Y8 k22 k24 k25 k26 k22' k24' k25' k26')) ?_
      refine Rp rfl (Z23 (Y8 k22 k24 k25 k26 k22' k24' k25' k26')) ?_
      refine Rl rfl (Z30 (Y8 k22 k24 k25 k26 k22' k24' k25' k26')) ?_
      refine Rp rfl (Z110 (Y8 k22 k24 k25 k26 k22' k24' k25' k26')) ?_
      refine Rp rfl (Z39 (Y8 k22 k24 k25 k26 k22' k24' k25' k26')) ?_
      refine RunTo.nil ?_
      refine Ev.condF (Z3 (Y8 k22 k24 k25 k26 k22' k24' k25' k26')) ?_
      refine Ev.exit ?_
      refine thenE_ext ?_
      refine hq _ (kp ?_) ?_
      · intro t ht
        simp only [List.mem_cons, List.not_mem_nil, or_false] at ht
        rcases ht with rfl | rfl | rfl | rfl | rfl | rfl | rfl | rfl | rfl | rfl | rfl <;> simp only [lk_up, Nat.reduceEqDiff, Nat.reduceLT, reduceIte]
      · simp only [lk_up, Nat.reduceEqDiff, Nat.reduceLT, reduceIte]
        exact k25'
  | cons g r =>
    have hmv2 : mv = rgV true (d ++ g :: r) none := by
      rcases hmv with ⟨e, _⟩ | e
      · rw [hgs] at e
        simp at e
      · rw [e, hgs]
    subst hmv2
    have hlen : (d ++ g :: r).length = d.length + (r.length + 1) := by simp
    rw [hgs] at hg
    cases hh : hit i d with
    | true =>
      rw [hh] at k25'
      refine Ev.seq ?_
      refine Ev.seq ?_
      refine Ev.rg [0, 1, 2, 3, 4] ?_
      refine Rp rfl (Z3 (Y8 k22 k24 k25 k26 k25' k26' k22' k24')) ?_
      refine Rp rfl (Z23 (Y8 k22 k24 k25 k26 k25' k26' k22' k24')) ?_
      refine Rl rfl (Z30 (Y8 k22 k24 k25 k26 k25' k26' k22' k24')) ?_
      refine Rp rfl (Z110 (Y8 k22 k24 k25 k26 k25' k26' k22' k24')) ?_
      refine Rp rfl (Z35 (Y8 k22 k24 k25 k26 k25' k26' k22' k24')) ?_
      refine RunTo.nil ?_
      refine Ev.condT (Z3 (Y8 k22 k24 k25 k26 k25' k26' k22' k24')) ?_
      refine Ev.skip ?_
      refine Ev.seq ?_
      refine Ev.block ?_
      refine Ev.rg [0, 1, 2, 3, 4, 5, 6, 7, 8, 9, 10, 11, 12, 13, 14, 15, 16, 17, 18, 19, 20, 21] ?_
      refine Rp rfl (Z3 (Y8 k22 k24 k25 k26 k25' k26' k22' k24')) ?_
      refine Rp rfl (Z3 (Y8 k22 k24 k25 k26 k25' k26' k22' k24')) ?_
      refine Gf rfl rfl (Z10 (Y8 k22 k24 k25 k26 k25' k26' k22' k24')) ?_
      refine Gf rfl rfl (Z10 (Y8 k22 k24 k25 k26 k25' k26' k22' k24')) ?_
      refine Gf rfl rfl (Z10 (Y8 k22 k24 k25 k26 k25' k26' k22' k24')) ?_
      refine Gf rfl rfl (Z10 (Y8 k22 k24 k25 k26 k25' k26' k22' k24')) ?_
      refine Gf rfl rfl (Z10 (Y8 k22 k24 k25 k26 k25' k26' k22' k24')) ?_
      refine Gf rfl rfl (Z10 (Y8 k22 k24 k25 k26 k25' k26' k22' k24')) ?_
      refine Gf rfl rfl (Z10 (Y8 k22 k24 k25 k26 k25' k26' k22' k24')) ?_
      refine Gf rfl rfl (Z10 (Y8 k22 k24 k25 k26 k25' k26' k22' k24')) ?_
      refine Gf rfl rfl (Z10 (Y8 k22 k24 k25 k26 k25' k26' k22' k24')) ?_
      refine Gu rfl rfl (Z10 (Y8 k22 k24 k25 k26 k25' k26' k22' k24')) ?_
      refine Gu rfl rfl (Z10 (Y8 k22 k24 k25 k26 k25' k26' k22' k24')) ?_
      refine Gu rfl rfl (Z10 (Y8 k22 k24 k25 k26 k25' k26' k22' k24')) ?_
      refine Gu rfl rfl (Z10 (Y8 k22 k24 k25 k26 k25' k26' k22' k24')) ?_
      refine Gu rfl rfl (Z10 (Y8 k22 k24 k25 k26 k25' k26' k22' k24')) ?_
      refine Gu rfl rfl (Z10 (Y8 k22 k24 k25 k26 k25' k26' k22' k24')) ?_
      refine Gu rfl rfl (Z10 (Y8 k22 k24 k25 k26 k25' k26' k22' k24')) ?_
      refine Gu rfl rfl (Z10 (Y8 k22 k24 k25 k26 k25' k26' k22' k24')) ?_
      refine Gf rfl rfl (Z10 (Y8 k22 k24 k25 k26 k25' k26' k22' k24')) ?_
      refine Rp rfl (Z3 (Y8 k22 k24 k25 k26 k25' k26' k22' k24')) ?_
      refine Rp rfl (Z3 (Y8 k22 k24 k25 k26 k25' k26' k22' k24')) ?_
      refine RunTo.nil ?_
      refine Ev.rg [0, 1, 2] ?_
      refine Rp rfl (Z3 (Y8 k22 k24 k25 k26 k25' k26' k22' k24')) ?_
      refine Rp rfl (Z36 (Y8 k22 k24 k25 k26 k25' k26' k22' k24')) ?_
      refine Rp rfl (Z3 (Y8 k22 k24 k25 k26 k25' k26' k22' k24')) ?_
      refine RunTo.nil ?_
      refine ⟨(d ++ [g], r), ⟨by simp [hgs], _, rfl, kp ?_, ?_, ?_⟩, by simp⟩
      · intro t ht
        simp only [List.mem_cons, List.not_mem_nil, or_false] at ht
        rcases ht with rfl | rfl | rfl | rfl | rfl | rfl | rfl | rfl | rfl | rfl | rfl <;> simp only [lk_up, Nat.reduceEqDiff, Nat.reduceLT, reduceIte]
      · rw [hit_snoc, hh]
        exact (Z3 (Y8 k22 k24 k25 k26 k25' k26' k22' k24'))
      · have e : ((d ++ [g]).length : Int) = (d.length : Int) + 1 := by simp
        rw [e]
        exact (Z3 (Y8 k22 k24 k25 k26 k25' k26' k22' k24'))
    | false =>
      rw [hh] at k25'
      have hs : hit i (d ++ [g]) = decide (g.1 ≤ i ∧ i < g.2) := by rw [hit_snoc, hh]; rfl
      rcases Nat.lt_or_ge i g.1 with c | c
      · rw [decide_eq_false (by omega)] at hs
        refine Ev.seq ?_
        refine Ev.seq ?_
        refine Ev.rg [0, 1, 2, 3, 4] ?_
        refine Rp rfl (Z3 (Y8 k22 k24 k25 k26 k25' k26' k22' k24')) ?_
        refine Rp rfl (Z23 (Y8 k22 k24 k25 k26 k25' k26' k22' k24')) ?_
        refine Rl rfl (Z30 (Y8 k22 k24 k25 k26 k25' k26' k22' k24')) ?_
        refine Rp rfl (Z110 (Y8 k22 k24 k25 k26 k25' k26' k22' k24')) ?_
        refine Rp rfl (Z35 (Y8 k22 k24 k25 k26 k25' k26' k22' k24')) ?_
        refine RunTo.nil ?_
        refine Ev.condT (Z3 (Y8 k22 k24 k25 k26 k25' k26' k22' k24')) ?_
        refine Ev.skip ?_
        refine Ev.seq ?_
        refine Ev.block ?_
        refine Ev.rg [0, 1, 2, 3, 4, 5, 6, 7, 8, 9, 10, 11, 12, 13, 14, 15, 16, 17, 18, 19, 20, 21] ?_
        refine Rp rfl (Z3 (Y8 k22 k24 k25 k26 k25' k26' k22' k24')) ?_
        refine Rp rfl (Z3 (Y8 k22 k24 k25 k26 k25' k26' k22' k24')) ?_
        refine Gp rfl rfl (Z10 (Y8 k22 k24 k25 k26 k25' k26' k22' k24')) (Z3 (Y8 k22 k24 k25 k26 k25' k26' k22' k24')) ?_
        refine Gp rfl rfl (Z10 (Y8 k22 k24 k25 k26 k25' k26' k22' k24')) (Z23 (Y8 k22 k24 k25 k26 k25' k26' k22' k24')) ?_
        refine Gl rfl rfl (Z10 (Y8 k22 k24 k25 k26 k25' k26' k22' k24')) (Z30 (Y8 k22 k24 k25 k26 k25' k26' k22' k24')) ?_
        refine Gp rfl rfl (Z10 (Y8 k22 k24 k25 k26 k25' k26' k22' k24')) (Z3 (Y8 k22 k24 k25 k26 k25' k26' k22' k24')) ?_
        refine Gp rfl rfl (Z10 (Y8 k22 k24 k25 k26 k25' k26' k22' k24')) (Z50 (Y8 k22 k24 k25 k26 k25' k26' k22' k24')) ?_
        refine Gp rfl rfl (Z10 (Y8 k22 k24 k25 k26 k25' k26' k22' k24')) (Z142 (Y8 k22 k24 k25 k26 k25' k26' k22' k24')) ?_
        refine Gl rfl rfl (Z10 (Y8 k22 k24 k25 k26 k25' k26' k22' k24')) (Z94 (Y8 k22 k24 k25 k26 k25' k26' k22' k24')) ?_
        refine Gp rfl rfl (Z10 (Y8 k22 k24 k25 k26 k25' k26' k22' k24')) (Z143 (Y8 k22 k24 k25 k26 k25' k26' k22' k24')) ?_
        refine Gp rfl rfl (Z10 (Y8 k22 k24 k25 k26 k25' k26' k22' k24')) (Z3 (Y8 k22 k24 k25 k26 k25' k26' k22' k24')) ?_
        refine Gf rfl rfl (Z10 (Y8 k22 k24 k25 k26 k25' k26' k22' k24')) ?_
        refine Gf rfl rfl (Z10 (Y8 k22 k24 k25 k26 k25' k26' k22' k24')) ?_
        refine Gf rfl rfl (Z10 (Y8 k22 k24 k25 k26 k25' k26' k22' k24')) ?_
        refine Gf rfl rfl (Z10 (Y8 k22 k24 k25 k26 k25' k26' k22' k24')) ?_
        refine Gf rfl rfl (Z10 (Y8 k22 k24 k25 k26 k25' k26' k22' k24')) ?_
        refine Gf rfl rfl (Z10 (Y8 k22 k24 k25 k26 k25' k26' k22' k24')) ?_
        refine Gf rfl rfl (Z10 (Y8 k22 k24 k25 k26 k25' k26' k22' k24')) ?_
        refine Gf rfl rfl (Z10 (Y8 k22 k24 k25 k26 k25' k26' k22' k24')) ?_
        refine Gp rfl rfl (Z10 (Y8 k22 k24 k25 k26 k25' k26' k22' k24')) (Z3 (Y8 k22 k24 k25 k26 k25' k26' k22' k24')) ?_
        refine Rp rfl (Z3 (Y8 k22 k24 k25 k26 k25' k26' k22' k24')) ?_
        refine Rp rfl (Z3 (Y8 k22 k24 k25 k26 k25' k26' k22' k24')) ?_
        refine RunTo.nil ?_
        refine Ev.rg [0, 1, 2] ?_
        refine Rp rfl (Z3 (Y8 k22 k24 k25 k26 k25' k26' k22' k24')) ?_
        refine Rp rfl (Z36 (Y8 k22 k24 k25 k26 k25' k26' k22' k24')) ?_
        refine Rp rfl (Z3 (Y8 k22 k24 k25 k26 k25' k26' k22' k24')) ?_
        refine RunTo.nil ?_
        refine ⟨(d ++ [g], r), ⟨by simp [hgs], _, rfl, kp ?_, ?_, ?_⟩, by simp⟩
        · intro t ht
          simp only [List.mem_cons, List.not_mem_nil, or_false] at ht
          rcases ht with rfl | rfl | rfl | rfl | rfl | rfl | rfl | rfl | rfl | rfl | rfl <;> simp only [lk_up, Nat.reduceEqDiff, Nat.reduceLT, reduceIte]
        · rw [hs]
          exact (Z3 (Y8 k22 k24 k25 k26 k25' k26' k22' k24'))
        · have e : ((d ++ [g]).length : Int) = (d.length : Int) + 1 := by simp
          rw [e]
          exact (Z3 (Y8 k22 k24 k25 k26 k25' k26' k22' k24'))
      · rcases Nat.lt_or_ge i g.2 with c2 | c2
        · rw [decide_eq_true ⟨c, c2⟩] at hs
          refine Ev.seq ?_
          refine Ev.seq ?_
          refine Ev.rg [0, 1, 2, 3, 4] ?_
          refine Rp rfl (Z3 (Y8 k22 k24 k25 k26 k25' k26' k22' k24')) ?_
          refine Rp rfl (Z23 (Y8 k22 k24 k25 k26 k25' k26' k22' k24')) ?_
          refine Rl rfl (Z30 (Y8 k22 k24 k25 k26 k25' k26' k22' k24')) ?_
          refine Rp rfl (Z110 (Y8 k22 k24 k25 k26 k25' k26' k22' k24')) ?_
          refine Rp rfl (Z35 (Y8 k22 k24 k25 k26 k25' k26' k22' k24')) ?_
          refine RunTo.nil ?_
          refine Ev.condT (Z3 (Y8 k22 k24 k25 k26 k25' k26' k22' k24')) ?_
          refine Ev.skip ?_
          refine Ev.seq ?_
          refine Ev.block ?_
          refine Ev.rg [0, 1, 2, 3, 4, 5, 6, 7, 8, 9, 10, 11, 12, 13, 14, 15, 16, 17, 18, 19, 20, 21] ?_
          refine Rp rfl (Z3 (Y8 k22 k24 k25 k26 k25' k26' k22' k24')) ?_
          refine Rp rfl (Z3 (Y8 k22 k24 k25 k26 k25' k26' k22' k24')) ?_
          refine Gp rfl rfl (Z10 (Y8 k22 k24 k25 k26 k25' k26' k22' k24')) (Z3 (Y8 k22 k24 k25 k26 k25' k26' k22' k24')) ?_
          refine Gp rfl rfl (Z10 (Y8 k22 k24 k25 k26 k25' k26' k22' k24')) (Z23 (Y8 k22 k24 k25 k26 k25' k26' k22' k24')) ?_
          refine Gl rfl rfl (Z10 (Y8 k22 k24 k25 k26 k25' k26' k22' k24')) (Z30 (Y8 k22 k24 k25 k26 k25' k26' k22' k24')) ?_
          refine Gp rfl rfl (Z10 (Y8 k22 k24 k25 k26 k25' k26' k22' k24')) (Z3 (Y8 k22 k24 k25 k26 k25' k26' k22' k24')) ?_
          refine Gp rfl rfl (Z10 (Y8 k22 k24 k25 k26 k25' k26' k22' k24')) (Z50 (Y8 k22 k24 k25 k26 k25' k26' k22' k24')) ?_
          refine Gp rfl rfl (Z10 (Y8 k22 k24 k25 k26 k25' k26' k22' k24')) (Z142 (Y8 k22 k24 k25 k26 k25' k26' k22' k24')) ?_
          refine Gl rfl rfl (Z10 (Y8 k22 k24 k25 k26 k25' k26' k22' k24')) (Z94 (Y8 k22 k24 k25 k26 k25' k26' k22' k24')) ?_
          refine Gp rfl rfl (Z10 (Y8 k22 k24 k25 k26 k25' k26' k22' k24')) (by ((conv => lhs; simp only [evs, evm, lk_up, lk_lf, Nat.reduceEqDiff, Nat.reduceLT, reduceIte, if_true, if_false, i64, bo, u8, nilS, Bool.not_true, Bool.not_false, List.take_succ_cons, List.take_zero, List.drop_zero, List.drop_succ_cons, List.toList_toArray, Int.reduceToNat, Nat.reduceMul, Nat.reduceAdd, Nat.reduceSub, Nat.zero_add, k22, k24, k25, k26, k25', k26', k22', k24']); exact geq_t (by omega))) ?_
          refine Gp rfl rfl (Z10 (Y8 k22 k24 k25 k26 k25' k26' k22' k24')) (Z3 (Y8 k22 k24 k25 k26 k25' k26' k22' k24')) ?_
          refine Gp rfl rfl (Z10 (Y8 k22 k24 k25 k26 k25' k26' k22' k24')) (Z3 (Y8 k22 k24 k25 k26 k25' k26' k22' k24')) ?_
          refine Gp rfl rfl (Z10 (Y8 k22 k24 k25 k26 k25' k26' k22' k24')) (Z23 (Y8 k22 k24 k25 k26 k25' k26' k22' k24')) ?_
          refine Gl rfl rfl (Z10 (Y8 k22 k24 k25 k26 k25' k26' k22' k24')) (Z30 (Y8 k22 k24 k25 k26 k25' k26' k22' k24')) ?_
          refine Gp rfl rfl (Z10 (Y8 k22 k24 k25 k26 k25' k26' k22' k24')) (Z3 (Y8 k22 k24 k25 k26 k25' k26' k22' k24')) ?_
          refine Gp rfl rfl (Z10 (Y8 k22 k24 k25 k26 k25' k26' k22' k24')) (Z50 (Y8 k22 k24 k25 k26 k25' k26' k22' k24')) ?_
          refine Gp rfl rfl (Z10 (Y8 k22 k24 k25 k26 k25' k26' k22' k24')) (Z144 (Y8 k22 k24 k25 k26 k25' k26' k22' k24')) ?_
          refine Gl rfl rfl (Z10 (Y8 k22 k24 k25 k26 k25' k26' k22' k24')) (Z94 (Y8 k22 k24 k25 k26 k25' k26' k22' k24')) ?_
          refine Gp rfl rfl (Z10 (Y8 k22 k24 k25 k26 k25' k26' k22' k24')) (Z35 (Y8 k22 k24 k25 k26 k25' k26' k22' k24')) ?_
          refine Gp rfl rfl (Z10 (Y8 k22 k24 k25 k26 k25' k26' k22' k24')) (Z3 (Y8 k22 k24 k25 k26 k25' k26' k22' k24')) ?_
          refine Rp rfl (Z3 (Y8 k22 k24 k25 k26 k25' k26' k22' k24')) ?_
          refine Rp rfl (Z3 (Y8 k22 k24 k25 k26 k25' k26' k22' k24')) ?_
          refine RunTo.nil ?_
          refine Ev.rg [0, 1, 2] ?_
          refine Rp rfl (Z3 (Y8 k22 k24 k25 k26 k25' k26' k22' k24')) ?_
          refine Rp rfl (Z36 (Y8 k22 k24 k25 k26 k25' k26' k22' k24')) ?_
          refine Rp rfl (Z3 (Y8 k22 k24 k25 k26 k25' k26' k22' k24')) ?_
          refine RunTo.nil ?_
          refine ⟨(d ++ [g], r), ⟨by simp [hgs], _, rfl, kp ?_, ?_, ?_⟩, by simp⟩
          · intro t ht
            simp only [List.mem_cons, List.not_mem_nil, or_false] at ht
            rcases ht with rfl | rfl | rfl | rfl | rfl | rfl | rfl | rfl | rfl | rfl | rfl <;> simp only [lk_up, Nat.reduceEqDiff, Nat.reduceLT, reduceIte]
          · rw [hs]
            exact (Z3 (Y8 k22 k24 k25 k26 k25' k26' k22' k24'))
          · have e : ((d ++ [g]).length : Int) = (d.length : Int) + 1 := by simp
            rw [e]
            exact (Z3 (Y8 k22 k24 k25 k26 k25' k26' k22' k24'))
        · rw [decide_eq_false (by omega)] at hs
          refine Ev.seq ?_
          refine Ev.seq ?_
          refine Ev.rg [0, 1, 2, 3, 4] ?_
          refine Rp rfl (Z3 (Y8 k22 k24 k25 k26 k25' k26' k22' k24')) ?_
          refine Rp rfl (Z23 (Y8 k22 k24 k25 k26 k25' k26' k22' k24')) ?_
          refine Rl rfl (Z30 (Y8 k22 k24 k25 k26 k25' k26' k22' k24')) ?_
          refine Rp rfl (Z110 (Y8 k22 k24 k25 k26 k25' k26' k22' k24')) ?_
          refine Rp rfl (Z35 (Y8 k22 k24 k25 k26 k25' k26' k22' k24')) ?_
          refine RunTo.nil ?_
          refine Ev.condT (Z3 (Y8 k22 k24 k25 k26 k25' k26' k22' k24')) ?_
          refine Ev.skip ?_
          refine Ev.seq ?_
          refine Ev.block ?_
          refine Ev.rg [0, 1, 2, 3, 4, 5, 6, 7, 8, 9, 10, 11, 12, 13, 14, 15, 16, 17, 18, 19, 20, 21] ?_
          refine Rp rfl (Z3 (Y8 k22 k24 k25 k26 k25' k26' k22' k24')) ?_
          refine Rp rfl (Z3 (Y8 k22 k24 k25 k26 k25' k26' k22' k24')) ?_
          refine Gp rfl rfl (Z10 (Y8 k22 k24 k25 k26 k25' k26' k22' k24')) (Z3 (Y8 k22 k24 k25 k26 k25' k26' k22' k24')) ?_
          refine Gp rfl rfl (Z10 (Y8 k22 k24 k25 k26 k25' k26' k22' k24')) (Z23 (Y8 k22 k24 k25 k26 k25' k26' k22' k24')) ?_
          refine Gl rfl rfl (Z10 (Y8 k22 k24 k25 k26 k25' k26' k22' k24')) (Z30 (Y8 k22 k24 k25 k26 k25' k26' k22' k24')) ?_
          refine Gp rfl rfl (Z10 (Y8 k22 k24 k25 k26 k25' k26' k22' k24')) (Z3 (Y8 k22 k24 k25 k26 k25' k26' k22' k24')) ?_
          refine Gp rfl rfl (Z10 (Y8 k22 k24 k25 k26 k25' k26' k22' k24')) (Z50 (Y8 k22 k24 k25 k26 k25' k26' k22' k24')) ?_
          refine Gp rfl rfl (Z10 (Y8 k22 k24 k25 k26 k25' k26' k22' k24')) (Z142 (Y8 k22 k24 k25 k26 k25' k26' k22' k24')) ?_
          refine Gl rfl rfl (Z10 (Y8 k22 k24 k25 k26 k25' k26' k22' k24')) (Z94 (Y8 k22 k24 k25 k26 k25' k26' k22' k24')) ?_
          refine Gp rfl rfl (Z10 (Y8 k22 k24 k25 k26 k25' k26' k22' k24')) (by ((conv => lhs; simp only [evs, evm, lk_up, lk_lf, Nat.reduceEqDiff, Nat.reduceLT, reduceIte, if_true, if_false, i64, bo, u8, nilS, Bool.not_true, Bool.not_false, List.take_succ_cons, List.take_zero, List.drop_zero, List.drop_succ_cons, List.toList_toArray, Int.reduceToNat, Nat.reduceMul, Nat.reduceAdd, Nat.reduceSub, Nat.zero_add, k22, k24, k25, k26, k25', k26', k22', k24']); exact geq_t (by omega))) ?_
          refine Gp rfl rfl (Z10 (Y8 k22 k24 k25 k26 k25' k26' k22' k24')) (Z3 (Y8 k22 k24 k25 k26 k25' k26' k22' k24')) ?_
          refine Gp rfl rfl (Z10 (Y8 k22 k24 k25 k26 k25' k26' k22' k24')) (Z3 (Y8 k22 k24 k25 k26 k25' k26' k22' k24')) ?_
          refine Gp rfl rfl (Z10 (Y8 k22 k24 k25 k26 k25' k26' k22' k24')) (Z23 (Y8 k22 k24 k25 k26 k25' k26' k22' k24')) ?_
          refine Gl rfl rfl (Z10 (Y8 k22 k24 k25 k26 k25' k26' k22' k24')) (Z30 (Y8 k22 k24 k25 k26 k25' k26' k22' k24')) ?_
          refine Gp rfl rfl (Z10 (Y8 k22 k24 k25 k26 k25' k26' k22' k24')) (Z3 (Y8 k22 k24 k25 k26 k25' k26' k22' k24')) ?_
          refine Gp rfl rfl (Z10 (Y8 k22 k24 k25 k26 k25' k26' k22' k24')) (Z50 (Y8 k22 k24 k25 k26 k25' k26' k22' k24')) ?_
          refine Gp rfl rfl (Z10 (Y8 k22 k24 k25 k26 k25' k26' k22' k24')) (Z144 (Y8 k22 k24 k25 k26 k25' k26' k22' k24')) ?_
          refine Gl rfl rfl (Z10 (Y8 k22 k24 k25 k26 k25' k26' k22' k24')) (Z94 (Y8 k22 k24 k25 k26 k25' k26' k22' k24')) ?_
          refine Gp rfl rfl (Z10 (Y8 k22 k24 k25 k26 k25' k26' k22' k24')) (Z39 (Y8 k22 k24 k25 k26 k25' k26' k22' k24')) ?_
          refine Gp rfl rfl (Z10 (Y8 k22 k24 k25 k26 k25' k26' k22' k24')) (Z3 (Y8 k22 k24 k25 k26 k25' k26' k22' k24')) ?_
          refine Rp rfl (Z3 (Y8 k22 k24 k25 k26 k25' k26' k22' k24')) ?_
          refine Rp rfl (Z3 (Y8 k22 k24 k25 k26 k25' k26' k22' k24')) ?_
          refine RunTo.nil ?_
          refine Ev.rg [0, 1, 2] ?_
          refine Rp rfl (Z3 (Y8 k22 k24 k25 k26 k25' k26' k22' k24')) ?_
          refine Rp rfl (Z36 (Y8 k22 k24 k25 k26 k25' k26' k22' k24')) ?_
          refine Rp rfl (Z3 (Y8 k22 k24 k25 k26 k25' k26' k22' k24')) ?_
          refine RunTo.nil ?_
          refine ⟨(d ++ [g], r), ⟨by simp [hgs], _, rfl, kp ?_, ?_, ?_⟩, by simp⟩
          · intro t ht
            simp only [List.mem_cons, List.not_mem_nil, or_false] at ht
            rcases ht with rfl | rfl | rfl | rfl | rfl | rfl | rfl | rfl | rfl | rfl | rfl <;> simp only [lk_up, Nat.reduceEqDiff, Nat.reduceLT, reduceIte]
          · rw [hs]
            exact (Z3 (Y8 k22 k24 k25 k26 k25' k26' k22' k24'))
          · have e : ((d ++ [g]).length : Int) = (d.length : Int) + 1 := by simp
            rw [e]
            exact (Z3 (Y8 k22 k24 k25 k26 k25' k26' k22' k24'))
def comeC (n : Nat) (c : Nat → Bool) : List AV := (List.range n).map fun i => bo (c i)
theorem comeC_len (n : Nat) (c : Nat → Bool) : (comeC n c).length = n := by simp [comeC]
theorem comeC_get {n i : Nat} (c : Nat → Bool) (h : i < n) : (comeC n c)[i]? = some (bo (c i)) := by simp [comeC, h]
theorem lB (tm : Tr AV) (hp : Hp) (L : List (Option (List AV))) (w : List Nat) (hI : IsH hp L w) (b22 ku kc n : Nat) (cu : Option Nat) (u mv : AV) (gs : List Rg) (c : Nat → Bool) (hn : n < 1000) (k4 : lk tm 4 = .sl ku 0 n cu 1) (k14 : lk tm 14 = .sl kc 0 n (some n) 1) (k22 : lk tm 22 = .ptr b22 0) (k24 : lk tm 24 = i64 0) (g22 : L[b22]? = some (some [u, mv])) (gkc : L[kc]? = some (some (comeC n c))) (hmv : (gs = [] ∧ mv = nilS) ∨ mv = rgV true gs none) (hg : gs.length ≤ 1000) (hc : ∀ i, i < n → hit i gs = !(c i)) (Q : Ex → St → Prop)
    (hq : ∀ tm', (∀ t ∈ [3, 4, 5, 6, 8, 14, 15], lk tm' t = lk tm t) → Q (.ext 6) ⟨214, tm', hp⟩) : Ev (envL p T) (nav pB (Tryz.f4.body.getD .skip)) ⟨214, tm, hp⟩ Q := by
  show Ev _ (Code.loop _) _ _
  refine Ev.loop (fun (i : Nat) s => i ≤ n ∧ ∃ tm', s = ⟨214, tm', hp⟩ ∧ (∀ t ∈ [3, 4, 5, 6, 8, 14, 15, 22], lk tm' t = lk tm t) ∧ lk tm' 24 = i64 i) (fun i => n - i) ?_ (x := 0) ⟨Nat.zero_le _, tm, rfl, fun t _ => rfl, k24⟩
  rintro i s ⟨hin, tm', rfl, hk, k24'⟩
  have k4' : lk tm' 4 = .sl ku 0 n cu 1 := (hk 4 (by simp)).trans k4
  have k14' : lk tm' 14 = .sl kc 0 n (some n) 1 := (hk 14 (by simp)).trans k14
  have k22' : lk tm' 22 = .ptr b22 0 := (hk 22 (by simp)).trans k22
  rcases Nat.lt_or_ge i n with hlt | hge
  · refine Ev.seq ?_
    refine Ev.seq ?_
    refine Ev.rg [0, 1, 2, 3] ?_
    refine Rp rfl (Z3 (Y8 k4 k14 k22 k24 k24' k4' k14' k22')) ?_
    refine Rp rfl (Z3 (Y8 k4 k14 k22 k24 k24' k4' k14' k22')) ?_
    refine Rp rfl (Z111 (Y8 k4 k14 k22 k24 k24' k4' k14' k22')) ?_
    refine Rp rfl (Z35 (Y8 k4 k14 k22 k24 k24' k4' k14' k22')) ?_
    refine RunTo.nil ?_
    refine Ev.condT (Z3 (Y8 k4 k14 k22 k24 k24' k4' k14' k22')) ?_
    refine Ev.skip ?_
    refine Ev.seq ?_
    refine Ev.block ?_
    refine Ev.seq ?_
    refine Ev.rg [0] ?_
    refine Rp rfl (Z3 (Y8 k4 k14 k22 k24 k24' k4' k14' k22')) ?_
    refine RunTo.nil ?_
    refine Ev.seq ?_
    refine Ev.seq ?_
    refine Ev.rg [0] ?_
    refine Rp rfl (Z3 (Y8 k4 k14 k22 k24 k24' k4' k14' k22')) ?_
    refine RunTo.nil ?_
    refine Ev.block ?_
    refine lC p T _ _ L w hI b22 i u mv gs (by omega) ?_ ?_ ?_ ?_ g22 hmv hg _ ?_
    · exact (Z3 (Y8 k4 k14 k22 k24 k24' k4' k14' k22'))
    · exact (Z3 (Y8 k4 k14 k22 k24 k24' k4' k14' k22'))
    · exact (Z3 (Y8 k4 k14 k22 k24 k24' k4' k14' k22'))
    · exact (Z3 (Y8 k4 k14 k22 k24 k24' k4' k14' k22'))
    intro tm2 hk2 k25
    rw [hc i hlt] at k25
    have q24 : lk tm2 24 = i64 i := (hk2 24 (by simp)).trans (Z20 (Y9 k4 k14 k22 k24 k24' k4' k14' k22' k25))
    have q14 : lk tm2 14 = .sl kc 0 n (some n) 1 := (hk2 14 (by simp)).trans (Z20 (Y10 k4 k14 k22 k24 k24' k4' k14' k22' k25 q24))
    have hci : (comeC n c)[Int.toNat (i : Int) * 1]? = some (bo (c i)) := by
      rw [Int.toNat_natCast, Nat.mul_one]
      exact comeC_get c hlt
    have hk3 : ∀ t ∈ [3, 4, 5, 6, 8, 14, 15, 22], lk tm2 t = lk tm t := by
      intro t ht
      refine Eq.trans (hk2 t ?_) (Eq.trans ?_ (hk t ht))
      · simp only [List.mem_cons, List.not_mem_nil, or_false] at ht ⊢
        omega
      · simp only [List.mem_cons, List.not_mem_nil, or_false] at ht
        rcases ht with rfl | rfl | rfl | rfl | rfl | rfl | rfl | rfl <;> simp only [lk_up, Nat.reduceEqDiff, Nat.reduceLT, reduceIte]
    cases hcc : c i with
    | false =>
      rw [hcc] at k25 hci
      refine inBlock_pos ?_
      refine Ev.seq ?_
      refine Ev.rg [0, 1, 2, 3, 4, 5] ?_
      refine Rp rfl (Z3 (Y11 k4 k14 k22 k24 k24' k4' k14' k22' k25 q24 q14)) ?_
      refine Rp rfl (Z3 (Y11 k4 k14 k22 k24 k24' k4' k14' k22' k25 q24 q14)) ?_
      refine Rp rfl (Z3 (Y11 k4 k14 k22 k24 k24' k4' k14' k22' k25 q24 q14)) ?_
      refine Rp rfl (Z145 (Y11 k4 k14 k22 k24 k24' k4' k14' k22' k25 q24 q14)) ?_
      refine Rl rfl (by ((conv => lhs; simp only [evs, evm, lk_up, lk_lf, Nat.reduceEqDiff, Nat.reduceLT, reduceIte, if_true, if_false, i64, bo, u8, nilS, Bool.not_true, Bool.not_false, List.take_succ_cons, List.take_zero, List.drop_zero, List.drop_succ_cons, List.toList_toArray, Int.reduceToNat, Nat.reduceMul, Nat.reduceAdd, Nat.reduceSub, Nat.zero_add, k4, k14, k22, k24, k24', k4', k14', k22', k25, q24, q14]); exact load_one (by kernel_rfl) (by kernel_rfl) (hI.get _ _ gkc) hci)) ?_
      refine Rp rfl (Z3 (Y11 k4 k14 k22 k24 k24' k4' k14' k22' k25 q24 q14)) ?_
      refine RunTo.nil ?_
      refine Ev.condF (Z3 (Y11 k4 k14 k22 k24 k24' k4' k14' k22' k25 q24 q14)) ?_
      refine Ev.skip ?_
      refine Ev.rg [0, 1, 2] ?_
      refine Rp rfl (Z3 (Y11 k4 k14 k22 k24 k24' k4' k14' k22' k25 q24 q14)) ?_
      refine Rp rfl (Z36 (Y11 k4 k14 k22 k24 k24' k4' k14' k22' k25 q24 q14)) ?_
      refine Rp rfl (Z3 (Y11 k4 k14 k22 k24 k24' k4' k14' k22' k25 q24 q14)) ?_
      refine RunTo.nil ?_
      refine ⟨i + 1, ⟨hlt, _, rfl, ?_, ?_⟩, by omega⟩
      · intro t ht
        refine Eq.trans ?_ (hk3 t ht)
        simp only [List.mem_cons, List.not_mem_nil, or_false] at ht
        rcases ht with rfl | rfl | rfl | rfl | rfl | rfl | rfl | rfl <;> simp only [lk_up, Nat.reduceEqDiff, Nat.reduceLT, reduceIte]
      · have e : ((i + 1 : Nat) : Int) = (i : Int) + 1 := by omega
        rw [e]
        exact (Z3 (Y11 k4 k14 k22 k24 k24' k4' k14' k22' k25 q24 q14))
    | true =>
      rw [hcc] at k25 hci
      refine inBlock_pos ?_
      refine Ev.seq ?_
      refine Ev.rg [0, 1, 2, 3, 4, 5] ?_
      refine Rp rfl (Z3 (Y11 k4 k14 k22 k24 k24' k4' k14' k22' k25 q24 q14)) ?_
      refine Rp rfl (Z3 (Y11 k4 k14 k22 k24 k24' k4' k14' k22' k25 q24 q14)) ?_
      refine Rp rfl (Z3 (Y11 k4 k14 k22 k24 k24' k4' k14' k22' k25 q24 q14)) ?_
      refine Rp rfl (Z145 (Y11 k4 k14 k22 k24 k24' k4' k14' k22' k25 q24 q14)) ?_
      refine Rl rfl (by ((conv => lhs; simp only [evs, evm, lk_up, lk_lf, Nat.reduceEqDiff, Nat.reduceLT, reduceIte, if_true, if_false, i64, bo, u8, nilS, Bool.not_true, Bool.not_false, List.take_succ_cons, List.take_zero, List.drop_zero, List.drop_succ_cons, List.toList_toArray, Int.reduceToNat, Nat.reduceMul, Nat.reduceAdd, Nat.reduceSub, Nat.zero_add, k4, k14, k22, k24, k24', k4', k14', k22', k25, q24, q14]); exact load_one (by kernel_rfl) (by kernel_rfl) (hI.get _ _ gkc) hci)) ?_
      refine Rp rfl (Z3 (Y11 k4 k14 k22 k24 k24' k4' k14' k22' k25 q24 q14)) ?_
      refine RunTo.nil ?_
      refine Ev.condF (Z3 (Y11 k4 k14 k22 k24 k24' k4' k14' k22' k25 q24 q14)) ?_
      refine Ev.skip ?_
      refine Ev.rg [0, 1, 2] ?_
      refine Rp rfl (Z3 (Y11 k4 k14 k22 k24 k24' k4' k14' k22' k25 q24 q14)) ?_
      refine Rp rfl (Z36 (Y11 k4 k14 k22 k24 k24' k4' k14' k22' k25 q24 q14)) ?_
      refine Rp rfl (Z3 (Y11 k4 k14 k22 k24 k24' k4' k14' k22' k25 q24 q14)) ?_
      refine RunTo.nil ?_
      refine ⟨i + 1, ⟨hlt, _, rfl, ?_, ?_⟩, by omega⟩
      · intro t ht
        refine Eq.trans ?_ (hk3 t ht)
        simp only [List.mem_cons, List.not_mem_nil, or_false] at ht
        rcases ht with rfl | rfl | rfl | rfl | rfl | rfl | rfl | rfl <;> simp only [lk_up, Nat.reduceEqDiff, Nat.reduceLT, reduceIte]
      · have e : ((i + 1 : Nat) : Int) = (i : Int) + 1 := by omega
        rw [e]
        exact (Z3 (Y11 k4 k14 k22 k24 k24' k4' k14' k22' k25 q24 q14))
  · refine Ev.seq ?_
    refine Ev.seq ?_
    refine Ev.rg [0, 1, 2, 3] ?_
    refine Rp rfl (Z3 (Y8 k4 k14 k22 k24 k24' k4' k14' k22')) ?_
    refine Rp rfl (Z3 (Y8 k4 k14 k22 k24 k24' k4' k14' k22')) ?_
    refine Rp rfl (Z111 (Y8 k4 k14 k22 k24 k24' k4' k14' k22')) ?_
    refine Rp rfl (Z39 (Y8 k4 k14 k22 k24 k24' k4' k14' k22')) ?_
    refine RunTo.nil ?_
    refine Ev.condF (Z3 (Y8 k4 k14 k22 k24 k24' k4' k14' k22')) ?_
    refine Ev.exit ?_
    refine thenE_ext ?_
    refine hq _ ?_
    intro t ht
    refine Eq.trans ?_ (hk t ?_)
    · simp only [List.mem_cons, List.not_mem_nil, or_false] at ht
      rcases ht with rfl | rfl | rfl | rfl | rfl | rfl | rfl <;> simp only [lk_up, Nat.reduceEqDiff, Nat.reduceLT, reduceIte]
    · simp only [List.mem_cons, List.not_mem_nil, or_false] at ht ⊢
      omega
theorem set_id {α : Type} {L : List α} {b : Nat} {x : α} (h : L[b]? = some x) : L.set b x = L := by
  apply List.ext_getElem?
  intro i
  rw [List.getElem?_set]
  by_cases e : b = i
  · subst e
    have hb : b < L.length := by
      rcases Nat.lt_or_ge b L.length with q | q
      · exact q
      · rw [List.getElem?_eq_none q] at h; cases h
    rw [if_pos rfl, if_pos hb, h]
  · rw [if_neg e]
theorem comeC_set {n k : Nat} {c c2 : Nat → Bool} (hk : k < n) (h : ∀ i, c2 i = (c i || decide (i = k))) : Eng.setMany (comeC n c) k [AV.sc (.bool true)] = comeC n c2 := by
  rw [setMany_eq _ _ _ (by rw [comeC_len]; simp; omega)]
  apply List.ext_getElem?
  intro i
  rcases Nat.lt_or_ge i n with hi | hi
  · rw [comeC_get c2 hi, h i]
    rcases Nat.lt_trichotomy i k with q | q | q
    · rw [List.getElem?_append_left Z125, List.getElem?_take_of_lt q, comeC_get c hi, decide_eq_false (by omega), Bool.or_false]
    · subst q
      rw [List.getElem?_append_right Z125]
      simp [comeC_len, Nat.min_eq_left (Nat.le_of_lt hi), bo]
    · rw [List.getElem?_append_right Z125]
      have e : (List.take k (comeC n c)).length = k := by simp [comeC_len]; omega
      rw [e, List.getElem?_append_right (by simp; omega), List.getElem?_drop]
      have e2 : k + [AV.sc (Value.bool true)].length + (i - k - [AV.sc (Value.bool true)].length) = i := by simp; omega
      rw [e2, comeC_get c hi, decide_eq_false (by omega), Bool.or_false]
  · rw [List.getElem?_eq_none Z125, List.getElem?_eq_none (by rw [comeC_len]; omega)]
theorem lA (tm : Tr AV) (hp : Hp) (L : List (Option (List AV))) (w : List Nat) (hI : IsH hp L w) (hL : L.length < 100000) (b17 kc n off len : Nat) (c : Nat → Bool) (pt : AV) (d : AV) (hn : n < 1000) (hd : (∃ w l c s, d = .ro w l len c s) ∨ ∃ b o c s, d = .sl b o len c s) (hle : off + len ≤ n) (k14 : lk tm 14 = .sl kc 0 n (some n) 1) (k17 : lk tm 17 = .ptr b17 0) (k21 : lk tm 21 = i64 0) (g17 : L[b17]? = some (some [i64 0, pt, i64 1, i64 off, d])) (gkc : L[kc]? = some (some (comeC n c))) (hne : kc ≠ b17) (Q : Ex → St → Prop)
    (hq : ∀ tm' hp' w' c', (∀ t ∈ [3, 4, 5, 6, 8, 14, 15, 19, 20], lk tm' t = lk tm t) → (∀ i, c' i = (c i || decide (off ≤ i ∧ i < off + len))) → IsH hp' (L.set kc (some (comeC n c'))) w' → Q (.ext 4) ⟨214, tm', hp'⟩) : Ev (envL p T) (nav pA (Tryz.f4.body.getD .skip)) ⟨214, tm, hp⟩ Q := by
  show Ev _ (Code.loop _) _ _
  refine Ev.loop (fun (j : Nat) s => j ≤ len ∧ ∃ tm' hp' w' c', s = ⟨214, tm', hp'⟩ ∧ (∀ t ∈ [3, 4, 5, 6, 8, 14, 15, 17, 19, 20], lk tm' t = lk tm t) ∧ lk tm' 21 = i64 j ∧ (∀ i, c' i = (c i || decide (off ≤ i ∧ i < off + j))) ∧ IsH hp' (L.set kc (some (comeC n c'))) w') (fun j => len - j) ?_ (x := 0) ⟨Nat.zero_le _, tm, hp, w, c, rfl, fun t _ => rfl, k21, fun i => by rw [decide_eq_false (by omega), Bool.or_false], by rw [set_id gkc]; exact hI⟩
  rintro j s ⟨hj, tm', hp', w', c', rfl, hk, k21', hc', hI'⟩
  have k14' : lk tm' 14 = .sl kc 0 n (some n) 1 := (hk 14 (by simp)).trans k14
  have k17' : lk tm' 17 = .ptr b17 0 := (hk 17 (by simp)).trans k17
  have g17' : (L.set kc (some (comeC n c')))[b17]? = some (some [i64 0, pt, i64 1, i64 off, d]) := get_set_ne hne g17
  have gk' : (L.set kc (some (comeC n c')))[kc]? = some (some (comeC n c')) := get_set_self gkc
  have hlen : (comeC n c').length = n := comeC_len n c'
  have hd2 : lenA Tryz.prog 37 d = some (.sc (.int .i64 len)) := by
    rcases hd with ⟨_, _, _, _, e⟩ | ⟨_, _, _, _, e⟩ <;> rw [e] <;> rfl
  rcases Nat.lt_or_ge j len with hlt | hge
  · refine Ev.seq ?_
    refine Ev.seq ?_
    refine Ev.rg [0, 1, 2, 3, 4] ?_
    refine Rp rfl (Z3 (Y6 k14 k17 k21 k21' k14' k17')) ?_
    refine Rp rfl (Z126 (Y6 k14 k17 k21 k21' k14' k17')) ?_
    refine Rl rfl (Z30 (Y6 k14 k17 k21 k21' k14' k17')) ?_
    refine Rp rfl (by ((conv => lhs; simp only [evs, evm, lk_up, lk_lf, Nat.reduceEqDiff, Nat.reduceLT, reduceIte, if_true, if_false, i64, bo, u8, nilS, Bool.not_true, Bool.not_false, List.take_succ_cons, List.take_zero, List.drop_zero, List.drop_succ_cons, List.toList_toArray, Int.reduceToNat, Nat.reduceMul, Nat.reduceAdd, Nat.reduceSub, Nat.zero_add, k14, k17, k21, k21', k14', k17']); exact pCall_len (Z3 (Y6 k14 k17 k21 k21' k14' k17')) hd2)) ?_
    refine Rp rfl (Z35 (Y6 k14 k17 k21 k21' k14' k17')) ?_
    refine RunTo.nil ?_
    refine Ev.condT (Z3 (Y6 k14 k17 k21 k21' k14' k17')) ?_
    refine Ev.skip ?_
    refine Ev.seq ?_
    refine Ev.block ?_
    refine Ev.rg [0, 1, 2, 3, 4, 5, 6] ?_
    refine Rp rfl (Z3 (Y6 k14 k17 k21 k21' k14' k17')) ?_
    refine Rp rfl (Z117 (Y6 k14 k17 k21 k21' k14' k17')) ?_
    refine Rl rfl (Z30 (Y6 k14 k17 k21 k21' k14' k17')) ?_
    refine Rp rfl (Z3 (Y6 k14 k17 k21 k21' k14' k17')) ?_
    refine Rp rfl (Z36 (Y6 k14 k17 k21 k21' k14' k17')) ?_
    refine Rp rfl (Z145 (Y6 k14 k17 k21 k21' k14' k17')) ?_
    rw [show (0 + ((off : Int) + (j : Int)).toNat * 1) = off + j by omega]
    refine RunTo.freeM rfl (RunOn.storeL (n := 1) hI' rfl rfl (Z20 (Y6 k14 k17 k21 k21' k14' k17')) (Z20 (Y6 k14 k17 k21 k21' k14' k17')) (by kernel_rfl) rfl rfl gk' (by omega) (by simp; omega) ?_)
    intro hp3 hI3
    have hset : Eng.setMany (comeC n c') (off + j) (AV.cells (AV.sc (.bool true))) = comeC n (fun i => c' i || decide (i = off + j)) := comeC_set (by omega) (fun i => rfl)
    rw [hset, List.set_set] at hI3
    refine RunTo.nil ?_
    refine Ev.rg [0, 1, 2] ?_
    refine Rp rfl (Z3 (Y6 k14 k17 k21 k21' k14' k17')) ?_
    refine Rp rfl (Z36 (Y6 k14 k17 k21 k21' k14' k17')) ?_
    refine Rp rfl (Z3 (Y6 k14 k17 k21 k21' k14' k17')) ?_
    refine RunTo.nil ?_
    refine ⟨j + 1, ⟨hlt, _, hp3, _, _, rfl, ?_, ?_, ?_, hI3⟩, by omega⟩
    · intro t ht
      refine Eq.trans ?_ (hk t ht)
      simp only [List.mem_cons, List.not_mem_nil, or_false] at ht
      rcases ht with rfl | rfl | rfl | rfl | rfl | rfl | rfl | rfl | rfl | rfl <;> simp only [lk_up, Nat.reduceEqDiff, Nat.reduceLT, reduceIte]
    · have e : ((j + 1 : Nat) : Int) = (j : Int) + 1 := by omega
      rw [e]
      exact (Z3 (Y6 k14 k17 k21 k21' k14' k17'))
    · intro i
      simp only [hc' i, Bool.or_assoc]
      congr 1
      rw [← Bool.decide_or]
      exact decide_eq_decide.2 (by omega)
  · refine Ev.seq ?_
    refine Ev.seq ?_
    refine Ev.rg [0, 1, 2, 3, 4] ?_
    refine Rp rfl (Z3 (Y6 k14 k17 k21 k21' k14' k17')) ?_
    refine Rp rfl (Z126 (Y6 k14 k17 k21 k21' k14' k17')) ?_
    refine Rl rfl (Z30 (Y6 k14 k17 k21 k21' k14' k17')) ?_
    refine Rp rfl (by ((conv => lhs; simp only [evs, evm, lk_up, lk_lf, Nat.reduceEqDiff, Nat.reduceLT, reduceIte, if_true, if_false, i64, bo, u8, nilS, Bool.not_true, Bool.not_false, List.take_succ_cons, List.take_zero, List.drop_zero, List.drop_succ_cons, List.toList_toArray, Int.reduceToNat, Nat.reduceMul, Nat.reduceAdd, Nat.reduceSub, Nat.zero_add, k14, k17, k21, k21', k14', k17']); exact pCall_len (Z3 (Y6 k14 k17 k21 k21' k14' k17')) hd2)) ?_
    refine Rp rfl (Z39 (Y6 k14 k17 k21 k21' k14' k17')) ?_
    refine RunTo.nil ?_
    refine Ev.condF (Z3 (Y6 k14 k17 k21 k21' k14' k17')) ?_
    refine Ev.exit ?_
    refine thenE_ext ?_
    refine hq _ hp' w' c' ?_ ?_ hI'
    · intro t ht
      refine Eq.trans ?_ (hk t ?_)
      · simp only [List.mem_cons, List.not_mem_nil, or_false] at ht
        rcases ht with rfl | rfl | rfl | rfl | rfl | rfl | rfl | rfl | rfl <;> simp only [lk_up, Nat.reduceEqDiff, Nat.reduceLT, reduceIte]
      · simp only [List.mem_cons, List.not_mem_nil, or_false] at ht ⊢
        omega
    · intro i
      rw [hc' i, show j = len by omega]
end
end Go.Eng
end
