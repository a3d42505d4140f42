/- A part of the proof that radiolinktop.TopPieces returns true for every list of numbers. -/
import Derived.Test.YtcjpofalahplbaaGreatDoorSymOne
import Derived.Test.YtcjpofalahplbaaGreatDoorWkFive
section
set_option linter.unusedVariables false
set_option linter.unusedSimpArgs false
set_option maxRecDepth 100000
set_option maxHeartbeats 4000000
namespace Go.Eng
open Go Go.RowKit Go.Proofs
section
variable (p : Poly) (T : List (Nat × (List AV → Option AV)))
theorem c118n (h : (envL p T).sp 118 = none) (h226 : (envL p T).sp 226 = some (treeSp F226)) (q : Pc) (w0 : Bool) (cap : Option Nat) (hq : q.Ok) (L : List (Option (List AV))) (b : Nat) (hb : L[b]? = some (some [i64 0, bo false, i64 (-1), nilS, nilS])) (hL : L.length < 100000) : ∀ hp0, IsH hp0 L [] → CallTo (envL p T) 118 [.agg (q.x 1 w0 cap), .ptr b 0] hp0 fun v hp' => ∃ L' w', IsH hp' L' w' ∧ v = .tup [] ∧ (∀ c ∈ w', c = b) ∧ (∀ j cs, j ≠ b → L[j]? = some (some cs) → L'[j]? = some (some cs)) ∧ L'.length = L.length + 2 ∧ L'[L.length + 1]? = some (some (byC (putB [] q.off q.bs))) ∧ L'[b]? = some (some [i64 0, bo false, i64 (if q.last then (q.off + q.bs.length : Nat) else -1), .sl (L.length + 1) 0 (q.off + q.bs.length) none 1, rgV true [(q.off, q.off + q.bs.length)] none]) := by
  intro hp0 hI
  have hbl := lt_of_get hb
  have hm := hq.most
  have hpos := Pc.pos hq
  have e1 : (((q.off + q.bs.length : Nat) : Int) - 0) = ((q.off + q.bs.length : Nat) : Int) := by omega
  unfold Pc.x
  refine CallTo.body (c := (Tryz.f118.body.getD .skip)) (nt := 63) (rs := #[]) (by assumption) (by kernel_rfl) ⟨by simp, by decide⟩ ?_
  show Ev _ (Code.seq _ _) _ _
  simp only [tmOf_cons, tmOf_nil, i64, bo, u8, nilS, Nat.zero_add, Nat.reduceAdd]
  refine Ev.seq ?_
  refine Ev.rg [0] ?_
  refine RunTo.freeM rfl (RunOn.madeL (k := _) hI rfl rfl (by decide) rfl Z15 Z5 ?_)
  intro hp1 hI1
  simp only [List.cons_append, List.nil_append, evc, repA, Eng.setMany, List.set_cons_zero, List.set_cons_succ, Nat.zero_mul, Nat.one_mul, List.take_succ_cons, List.take_zero, List.drop_zero, List.drop_succ_cons, Nat.zero_add, Nat.reduceAdd, Nat.reduceMul] at hI1
  refine RunTo.nil ?_
  refine Ev.seq ?_
  refine Ev.seq ?_
  refine Ev.draw (M := [0, 1, 0, 4, 12, 28, 60, 127, 255]) (l := [0, 1, 2, 3, 4, 5, 6, 7, 8]) (by kernel_rfl) (by kernel_rfl) (by kernel_rfl) ?_
  refine Rp rfl Z66 ?_
  refine Rl rfl Z104 ?_
  refine Rp rfl Z1 ?_
  refine Rp rfl Z1 ?_
  refine Rp rfl Z19 ?_
  refine Rl rfl Z88 ?_
  refine Rp rfl Z47 ?_
  refine Rp rfl Z55 ?_
  refine Rp rfl Z1 ?_
  refine RunTo.nil ?_
  refine Ev.seq ?_
  refine Ev.rg [0, 1] ?_
  refine Rp rfl Z1 ?_
  refine Rp rfl Z63 ?_
  refine RunTo.nil ?_
  refine Ev.condT Z1 ?_
  refine Ev.rg [0, 1, 2, 3, 4, 5, 6, 7, 8, 9] ?_
  refine Rp rfl Z1 ?_
  refine Rp rfl Z1 ?_
  refine Rp rfl Z1 ?_
  refine Rp rfl Z19 ?_
  refine Rl rfl Z88 ?_
  refine Rp rfl Z1 ?_
  rw [e1]
  refine RunTo.freeM rfl (RunOn.appZ (n := 1) (z := [.sc (.int .u8 (0))]) hI1 rfl rfl (by decide) rfl rfl rfl (by kernel_rfl) (by kernel_rfl) Z1 Z1 Z41 (by exact appL_nil (k := L.length + 1) (by simp) (by omega) Z41 (by omega)) ?_)
  intro hp2 hI2
  simp only [List.cons_append, List.nil_append] at hI2
  refine Rp rfl Z1 ?_
  refine Rp rfl Z19 ?_
  refine RunTo.freeM rfl (RunOn.storeL (n := 1) hI2 rfl rfl Z1 Z1 (by kernel_rfl) Z6 Z6 (get_app (get_app (by assumption))) Z9 Z5 ?_)
  intro hp3 hI3
  simp only [set_last, List.set_set, List.set_cons_zero, List.set_cons_succ, List.take_succ_cons, List.take_zero, List.drop_succ_cons, List.drop_zero, Eng.setMany, evc, Nat.zero_add, Nat.reduceAdd, Nat.reduceMul, Nat.reduceSub] at hI3
  refine RunTo.nil ?_
  refine Ev.seq ?_
  refine Ev.draw (M := [0, 1, 3, 7, 0, 16, 48, 127, 0, 256, 768, 2047]) (l := [0, 1, 2, 3, 4, 5, 6, 7, 8, 9, 10, 11]) (by kernel_rfl) (by kernel_rfl) (by kernel_rfl) ?_
  refine Rp rfl Z1 ?_
  refine Rp rfl Z1 ?_
  refine Rp rfl Z19 ?_
  refine Rl rfl (by ((conv => lhs; simp only [evs, evm, lk_up, lk_lf, Nat.reduceEqDiff, Nat.reduceLT, reduceIte, if_true, if_false, i64, bo, u8, nilS, Bool.not_true, Bool.not_false, List.take_succ_cons, List.take_zero, List.drop_zero, List.drop_succ_cons, List.toList_toArray, Int.reduceToNat, Nat.reduceMul, Nat.reduceAdd, Nat.reduceSub, Nat.zero_add]); exact load_one (by kernel_rfl) (by kernel_rfl) (hI3.get _ _ (get_set_self (get_app (get_app (by assumption))))) rfl)) ?_
  refine Rp rfl Z11 ?_
  refine Rp rfl Z19 ?_
  refine Rl rfl (by ((conv => lhs; simp only [evs, evm, lk_up, lk_lf, Nat.reduceEqDiff, Nat.reduceLT, reduceIte, if_true, if_false, i64, bo, u8, nilS, Bool.not_true, Bool.not_false, List.take_succ_cons, List.take_zero, List.drop_zero, List.drop_succ_cons, List.toList_toArray, Int.reduceToNat, Nat.reduceMul, Nat.reduceAdd, Nat.reduceSub, Nat.zero_add]); exact load_one (by kernel_rfl) (by kernel_rfl) (hI3.get _ _ (get_set_ne (by omega) (get_app (get_last _ _)))) rfl)) ?_
  refine Rp rfl (by ((conv => lhs; simp only [evs, evm, lk_up, lk_lf, Nat.reduceEqDiff, Nat.reduceLT, reduceIte, if_true, if_false, i64, bo, u8, nilS, Bool.not_true, Bool.not_false, List.take_succ_cons, List.take_zero, List.drop_zero, List.drop_succ_cons, List.toList_toArray, Int.reduceToNat, Nat.reduceMul, Nat.reduceAdd, Nat.reduceSub, Nat.zero_add]); exact pSlice_lo Z1 Z1 (slice_sl (by kernel_rfl) (cut_lo (l := q.off) rfl (by omega))))) ?_
  refine Rp rfl Z11 ?_
  refine Rp rfl Z12 ?_
  refine Rl rfl (by ((conv => lhs; simp only [evs, evm, lk_up, lk_lf, Nat.reduceEqDiff, Nat.reduceLT, reduceIte, if_true, if_false, i64, bo, u8, nilS, Bool.not_true, Bool.not_false, List.take_succ_cons, List.take_zero, List.drop_zero, List.drop_succ_cons, List.toList_toArray, Int.reduceToNat, Nat.reduceMul, Nat.reduceAdd, Nat.reduceSub, Nat.zero_add]); exact load_one (by kernel_rfl) (by kernel_rfl) (hI3.get _ _ (get_set_ne (by omega) (get_app (get_last _ _)))) rfl)) ?_
  rw [set_app2 hbl] at hI3
  refine RunTo.freeM rfl (RunOn.copyL (n := 1) hI3 rfl rfl (by decide) rfl rfl (by kernel_rfl) Z1 Z1 (by exact src_ro (by rw [byC_len]; omega)) (by exact get_last_eq (by simp)) (by omega) ?_ (byC_one _) (by simp; omega) ?_)
  · simp [repA_len, byC_len]
  intro hp4 hI4
  have hc : Eng.setMany (repA [AV.sc (.int .u8 0)] (q.off + q.bs.length)) (q.off * 1) (byC q.bs) = byC (putB [] q.off q.bs) := by
    rw [byC_repl, Nat.mul_one, ← copy_put]
    simp [padB]
  rw [set_last_eq (by simp), hc] at hI4
  refine RunTo.nil ?_
  refine Ev.seq ?_
  refine Ev.draw (M := [0, 0, 2, 6, 14, 0, 32, 96, 0, 256, 768, 0, 2048, 8160, 16382, 32766, 65534, 65534, 131071, 393215, 917503]) (l := [1, 2, 3, 4, 5, 6, 7, 8, 9, 10, 11, 12, 13, 14, 0, 15, 16, 18, 19, 20, 17]) (by kernel_rfl) (by kernel_rfl) (by kernel_rfl) ?_
  refine Rp rfl Z1 ?_
  refine Rp rfl Z1 ?_
  refine Rp rfl Z12 ?_
  refine Rl rfl (by ((conv => lhs; simp only [evs, evm, lk_up, lk_lf, Nat.reduceEqDiff, Nat.reduceLT, reduceIte, if_true, if_false, i64, bo, u8, nilS, Bool.not_true, Bool.not_false, List.take_succ_cons, List.take_zero, List.drop_zero, List.drop_succ_cons, List.toList_toArray, Int.reduceToNat, Nat.reduceMul, Nat.reduceAdd, Nat.reduceSub, Nat.zero_add]); exact load_one (by kernel_rfl) (by kernel_rfl) (hI4.get _ _ (get_app (get_app (get_set_self (by assumption))))) rfl)) ?_
  refine Rp rfl Z11 ?_
  refine Rp rfl Z11 ?_
  refine Rl rfl (by ((conv => lhs; simp only [evs, evm, lk_up, lk_lf, Nat.reduceEqDiff, Nat.reduceLT, reduceIte, if_true, if_false, i64, bo, u8, nilS, Bool.not_true, Bool.not_false, List.take_succ_cons, List.take_zero, List.drop_zero, List.drop_succ_cons, List.toList_toArray, Int.reduceToNat, Nat.reduceMul, Nat.reduceAdd, Nat.reduceSub, Nat.zero_add]); exact load_one (by kernel_rfl) (by kernel_rfl) (hI4.get _ _ (get_app (get_last_eq (by simp)))) rfl)) ?_
  refine Rp rfl Z11 ?_
  refine Rp rfl Z19 ?_
  refine Rl rfl (by ((conv => lhs; simp only [evs, evm, lk_up, lk_lf, Nat.reduceEqDiff, Nat.reduceLT, reduceIte, if_true, if_false, i64, bo, u8, nilS, Bool.not_true, Bool.not_false, List.take_succ_cons, List.take_zero, List.drop_zero, List.drop_succ_cons, List.toList_toArray, Int.reduceToNat, Nat.reduceMul, Nat.reduceAdd, Nat.reduceSub, Nat.zero_add]); exact load_one (by kernel_rfl) (by kernel_rfl) (hI4.get _ _ (get_app (get_last_eq (by simp)))) rfl)) ?_
  refine Rp rfl Z66 ?_
  refine Rl rfl (by ((conv => lhs; simp only [evs, evm, lk_up, lk_lf, Nat.reduceEqDiff, Nat.reduceLT, reduceIte, if_true, if_false, i64, bo, u8, nilS, Bool.not_true, Bool.not_false, List.take_succ_cons, List.take_zero, List.drop_zero, List.drop_succ_cons, List.toList_toArray, Int.reduceToNat, Nat.reduceMul, Nat.reduceAdd, Nat.reduceSub, Nat.zero_add]); exact load_one (by kernel_rfl) (by kernel_rfl) (hI4.get _ _ (get_app (get_last_eq (by simp)))) rfl)) ?_
  refine Rp rfl Z122 ?_
  refine RunTo.freeM rfl (RunOn.tree rfl rfl (by decide) Z1 Z1 (by assumption) Z8 (by exact F226_nil (r := (q.off, q.off + q.bs.length)) Z105 Z105) ?_)
  cases hl : q.last with
  | true =>
    refine Rp rfl Z1 ?_
    refine Rp rfl Z1 ?_
    refine Rp rfl Z1 ?_
    refine Rp rfl Z1 ?_
    refine Rp rfl Z12 ?_
    refine RunTo.freeM rfl (RunOn.storeL (n := 1) hI4 rfl rfl Z1 Z1 (by kernel_rfl) Z6 Z6 (get_app (get_app (get_set_self (by assumption)))) Z9 Z5 ?_)
    intro hp5 hI5
    simp only [set_last, List.set_set, List.set_cons_zero, List.set_cons_succ, List.take_succ_cons, List.take_zero, List.drop_succ_cons, List.drop_zero, Eng.setMany, evc, Nat.zero_add, Nat.reduceAdd, Nat.reduceMul, Nat.reduceSub] at hI5
    refine Rp rfl Z1 ?_
    refine RunTo.nil ?_
    refine Ev.seq ?_
    refine Ev.rg [0, 1] ?_
    refine Rp rfl Z37 ?_
    refine Rl rfl (by ((conv => lhs; simp only [evs, evm, lk_up, lk_lf, Nat.reduceEqDiff, Nat.reduceLT, reduceIte, if_true, if_false, i64, bo, u8, nilS, Bool.not_true, Bool.not_false, List.take_succ_cons, List.take_zero, List.drop_zero, List.drop_succ_cons, List.toList_toArray, Int.reduceToNat, Nat.reduceMul, Nat.reduceAdd, Nat.reduceSub, Nat.zero_add]); exact load_one (by kernel_rfl) (by kernel_rfl) (hI5.get _ _ (get_set_ne (by omega) (get_app (get_last_eq (by simp))))) rfl)) ?_
    refine RunTo.nil ?_
    rw [set_app2 (by simpa using hbl), List.set_set] at hI5
    rw [hl]
    refine Ev.condT Z1 ?_
    refine Ev.rg [0, 1, 2, 3, 4, 5] ?_
    refine Rp rfl Z1 ?_
    refine Rp rfl Z66 ?_
    refine Rl rfl (by ((conv => lhs; simp only [evs, evm, lk_up, lk_lf, Nat.reduceEqDiff, Nat.reduceLT, reduceIte, if_true, if_false, i64, bo, u8, nilS, Bool.not_true, Bool.not_false, List.take_succ_cons, List.take_zero, List.drop_zero, List.drop_succ_cons, List.toList_toArray, Int.reduceToNat, Nat.reduceMul, Nat.reduceAdd, Nat.reduceSub, Nat.zero_add]); exact load_one (by kernel_rfl) (by kernel_rfl) (hI5.get _ _ (get_app (get_last_eq (by simp)))) rfl)) ?_
    refine Rp rfl Z1 ?_
    refine Rp rfl Z24 ?_
    refine RunTo.freeM rfl (RunOn.storeL (n := 1) hI5 rfl rfl Z1 Z1 (by kernel_rfl) Z6 Z6 (get_app (get_app (get_set_self (by assumption)))) Z9 Z5 ?_)
    intro hp6 hI6
    simp only [set_last, List.set_set, List.set_cons_zero, List.set_cons_succ, List.take_succ_cons, List.take_zero, List.drop_succ_cons, List.drop_zero, Eng.setMany, evc, Nat.zero_add, Nat.reduceAdd, Nat.reduceMul, Nat.reduceSub] at hI6
    refine RunTo.nil ?_
    rw [set_app2 (by simpa using hbl), List.set_set] at hI6
    refine ⟨.inl rfl, _, rfl, ?_⟩
    refine ⟨_, _, hI6.wlSet _, rfl, ?_, fun j cs hj hk => get_app (get_app (get_set_ne (fun e => hj e.symm) hk)), by simp, get_last_eq (by simp), get_app (get_app (get_set_self hb))⟩
    intro c hc
    rw [hI6.wl, hI.n] at hc
    simp at hc
    omega
  | false =>
    refine Rp rfl Z1 ?_
    refine Rp rfl Z1 ?_
    refine Rp rfl Z1 ?_
    refine Rp rfl Z1 ?_
    refine Rp rfl Z12 ?_
    refine RunTo.freeM rfl (RunOn.storeL (n := 1) hI4 rfl rfl Z1 Z1 (by kernel_rfl) Z6 Z6 (get_app (get_app (get_set_self (by assumption)))) Z9 Z5 ?_)
    intro hp5 hI5
    simp only [set_last, List.set_set, List.set_cons_zero, List.set_cons_succ, List.take_succ_cons, List.take_zero, List.drop_succ_cons, List.drop_zero, Eng.setMany, evc, Nat.zero_add, Nat.reduceAdd, Nat.reduceMul, Nat.reduceSub] at hI5
    refine Rp rfl Z1 ?_
    refine RunTo.nil ?_
    refine Ev.seq ?_
    refine Ev.rg [0, 1] ?_
    refine Rp rfl Z37 ?_
    refine Rl rfl (by ((conv => lhs; simp only [evs, evm, lk_up, lk_lf, Nat.reduceEqDiff, Nat.reduceLT, reduceIte, if_true, if_false, i64, bo, u8, nilS, Bool.not_true, Bool.not_false, List.take_succ_cons, List.take_zero, List.drop_zero, List.drop_succ_cons, List.toList_toArray, Int.reduceToNat, Nat.reduceMul, Nat.reduceAdd, Nat.reduceSub, Nat.zero_add]); exact load_one (by kernel_rfl) (by kernel_rfl) (hI5.get _ _ (get_set_ne (by omega) (get_app (get_last_eq (by simp))))) rfl)) ?_
    refine RunTo.nil ?_
    rw [set_app2 (by simpa using hbl), List.set_set] at hI5
    rw [hl]
    refine Ev.condF Z1 ?_
    refine Ev.skip ?_
    refine ⟨.inl rfl, _, rfl, ?_⟩
    refine ⟨_, _, hI5.wlSet _, rfl, ?_, fun j cs hj hk => get_app (get_app (get_set_ne (fun e => hj e.symm) hk)), by simp, get_last_eq (by simp), get_app (get_app (get_set_self hb))⟩
    intro c hc
    rw [hI5.wl, hI.n] at hc
    simp at hc
    omega
end
end Go.Eng
end
section
set_option linter.unusedVariables false
set_option linter.unusedSimpArgs false
set_option maxRecDepth 100000
set_option maxHeartbeats 4000000
namespace Go.Eng
open Go Go.RowKit Go.Proofs
section
variable (p : Poly) (T : List (Nat × (List AV → Option AV)))
theorem zeros_one (n : Nat) : (repA [AV.sc (.int .u8 0)] n).all AV.one = true := by
  rw [byC_repl]
  exact byC_one _
theorem c118g (h : (envL p T).sp 118 = none) (h226 : (envL p T).sp 226 = some (treeSp F226)) (q : Pc) (w0 : Bool) (cap : Option Nat) (hq : q.Ok) (x : Pt) (hx : x.Ok) (hl : x.R.length ≤ 60) (hgt : x.D.length < q.off + q.bs.length) (L : List (Option (List AV))) (b bd bc : Nat) (n1 : b ≠ bd) (n2 : b ≠ bc) (n3 : bd ≠ bc) (hb : L[b]? = some (some [i64 0, bo false, i64 x.len, .sl bd 0 x.D.length none 1, .sl bc 0 x.R.length none 3])) (hbd : L[bd]? = some (some (byC x.D))) (hbc : L[bc]? = some (some (rgC x.R))) (hL : L.length < 100000) : ∀ hp0, IsH hp0 L [] → CallTo (envL p T) 118 [.agg (q.x 1 w0 cap), .ptr b 0] hp0 fun v hp' => ∃ L' w', IsH hp' L' w' ∧ v = .tup [] ∧ (∀ c ∈ w', c = b ∨ c = bd) ∧ (∀ j cs, j ≠ b → j ≠ bd → L[j]? = some (some cs) → L'[j]? = some (some cs)) ∧ L'.length = L.length + 2 ∧ L'[L.length + 1]? = some (some (byC (putB x.D q.off q.bs))) ∧ L'[b]? = some (some [i64 0, bo false, i64 (if q.last then (q.off + q.bs.length : Nat) else x.len), .sl (L.length + 1) 0 (q.off + q.bs.length) none 1, rgV true (unionG x.R [] [] (q.off, q.off + q.bs.length)) none]) := by
  intro hp0 hI
  have hbl := lt_of_get hb
  have hbdl := lt_of_get hbd
  have hbcl := lt_of_get hbc
  have hm := hq.most
  have hpos := Pc.pos hq
  have e1 : (((q.off + q.bs.length : Nat) : Int) - (x.D.length : Int)) = ((q.off + q.bs.length - x.D.length : Nat) : Int) := by omega
  have e2 : x.D.length + (q.off + q.bs.length - x.D.length) = q.off + q.bs.length := by omega
  unfold Pc.x
  refine CallTo.body (c := (Tryz.f118.body.getD .skip)) (nt := 63) (rs := #[]) (by assumption) (by kernel_rfl) ⟨by simp, by decide⟩ ?_
  show Ev _ (Code.seq _ _) _ _
  simp only [tmOf_cons, tmOf_nil, i64, bo, u8, nilS, Nat.zero_add, Nat.reduceAdd]
  refine Ev.seq ?_
  refine Ev.rg [0] ?_
  refine RunTo.freeM rfl (RunOn.madeL (k := _) hI rfl rfl (by decide) rfl Z15 Z5 ?_)
  intro hp1 hI1
  simp only [List.cons_append, List.nil_append, evc, repA, Eng.setMany, List.set_cons_zero, List.set_cons_succ, Nat.zero_mul, Nat.one_mul, List.take_succ_cons, List.take_zero, List.drop_zero, List.drop_succ_cons, Nat.zero_add, Nat.reduceAdd, Nat.reduceMul] at hI1
  refine RunTo.nil ?_
  refine Ev.seq ?_
  refine Ev.seq ?_
  refine Ev.draw (M := [0, 1, 0, 4, 12, 28, 60, 127, 255]) (l := [0, 1, 2, 3, 4, 5, 6, 7, 8]) (by kernel_rfl) (by kernel_rfl) (by kernel_rfl) ?_
  refine Rp rfl Z66 ?_
  refine Rl rfl Z104 ?_
  refine Rp rfl Z1 ?_
  refine Rp rfl Z1 ?_
  refine Rp rfl Z19 ?_
  refine Rl rfl Z88 ?_
  refine Rp rfl Z86 ?_
  refine Rp rfl Z55 ?_
  refine Rp rfl Z1 ?_
  refine RunTo.nil ?_
  refine Ev.seq ?_
  refine Ev.rg [0, 1] ?_
  refine Rp rfl Z1 ?_
  refine Rp rfl Z63 ?_
  refine RunTo.nil ?_
  refine Ev.condT Z1 ?_
  refine Ev.rg [0, 1, 2, 3, 4, 5, 6, 7, 8, 9] ?_
  refine Rp rfl Z1 ?_
  refine Rp rfl Z1 ?_
  refine Rp rfl Z1 ?_
  refine Rp rfl Z19 ?_
  refine Rl rfl Z88 ?_
  refine Rp rfl Z1 ?_
  rw [e1]
  refine RunTo.freeM rfl (RunOn.appZ (n := 1) (z := [.sc (.int .u8 (0))]) hI1 rfl rfl (by decide) rfl rfl rfl (by kernel_rfl) (by kernel_rfl) Z1 Z1 Z41 (by exact appL_grow (k := L.length + 1) (by simp) (get_app hbd) (by rw [byC_len]; omega) (by decide) Z41 (by omega) (zeros_one _) (by omega)) ?_)
  intro hp2 hI2
  simp only [List.cons_append, List.nil_append] at hI2
  have hpad : byC x.D ++ repA [AV.sc (.int .u8 0)] (q.off + q.bs.length - x.D.length) = byC (padB x.D (q.off + q.bs.length)) := by
    rw [byC_repl, ← byC_append]
    rfl
  rw [List.set_append_left _ _ hbdl, hpad] at hI2
  rw [e2]
  have hb' : (L.set bd none)[b]? = some (some [i64 0, bo false, i64 x.len, .sl bd 0 x.D.length none 1, .sl bc 0 x.R.length none 3]) := get_set_ne (fun e => n1 e.symm) hb
  have hbc' : (L.set bd none)[bc]? = some (some (rgC x.R)) := get_set_ne n3 hbc
  refine Rp rfl Z1 ?_
  refine Rp rfl Z19 ?_
  refine RunTo.freeM rfl (RunOn.storeL (n := 1) hI2 rfl rfl Z1 Z1 (by kernel_rfl) Z6 Z6 (get_app (get_app (by assumption))) Z9 Z5 ?_)
  intro hp3 hI3
  simp only [set_last, List.set_set, List.set_cons_zero, List.set_cons_succ, List.take_succ_cons, List.take_zero, List.drop_succ_cons, List.drop_zero, Eng.setMany, evc, Nat.zero_add, Nat.reduceAdd, Nat.reduceMul, Nat.reduceSub] at hI3
  refine RunTo.nil ?_
  refine Ev.seq ?_
  refine Ev.draw (M := [0, 1, 3, 7, 0, 16, 48, 127, 0, 256, 768, 2047]) (l := [0, 1, 2, 3, 4, 5, 6, 7, 8, 9, 10, 11]) (by kernel_rfl) (by kernel_rfl) (by kernel_rfl) ?_
  refine Rp rfl Z1 ?_
  refine Rp rfl Z1 ?_
  refine Rp rfl Z19 ?_
  refine Rl rfl (by ((conv => lhs; simp only [evs, evm, lk_up, lk_lf, Nat.reduceEqDiff, Nat.reduceLT, reduceIte, if_true, if_false, i64, bo, u8, nilS, Bool.not_true, Bool.not_false, List.take_succ_cons, List.take_zero, List.drop_zero, List.drop_succ_cons, List.toList_toArray, Int.reduceToNat, Nat.reduceMul, Nat.reduceAdd, Nat.reduceSub, Nat.zero_add]); exact load_one (by kernel_rfl) (by kernel_rfl) (hI3.get _ _ (get_set_self (get_app (get_app (by assumption))))) rfl)) ?_
  refine Rp rfl Z11 ?_
  refine Rp rfl Z19 ?_
  refine Rl rfl (by ((conv => lhs; simp only [evs, evm, lk_up, lk_lf, Nat.reduceEqDiff, Nat.reduceLT, reduceIte, if_true, if_false, i64, bo, u8, nilS, Bool.not_true, Bool.not_false, List.take_succ_cons, List.take_zero, List.drop_zero, List.drop_succ_cons, List.toList_toArray, Int.reduceToNat, Nat.reduceMul, Nat.reduceAdd, Nat.reduceSub, Nat.zero_add]); exact load_one (by kernel_rfl) (by kernel_rfl) (hI3.get _ _ (get_set_ne (by omega) (get_app (get_last_eq (by simp))))) rfl)) ?_
  refine Rp rfl (by ((conv => lhs; simp only [evs, evm, lk_up, lk_lf, Nat.reduceEqDiff, Nat.reduceLT, reduceIte, if_true, if_false, i64, bo, u8, nilS, Bool.not_true, Bool.not_false, List.take_succ_cons, List.take_zero, List.drop_zero, List.drop_succ_cons, List.toList_toArray, Int.reduceToNat, Nat.reduceMul, Nat.reduceAdd, Nat.reduceSub, Nat.zero_add]); exact pSlice_lo Z1 Z1 (slice_sl (by kernel_rfl) (cut_lo (l := q.off) rfl (by omega))))) ?_
  refine Rp rfl Z11 ?_
  refine Rp rfl Z12 ?_
  refine Rl rfl (by ((conv => lhs; simp only [evs, evm, lk_up, lk_lf, Nat.reduceEqDiff, Nat.reduceLT, reduceIte, if_true, if_false, i64, bo, u8, nilS, Bool.not_true, Bool.not_false, List.take_succ_cons, List.take_zero, List.drop_zero, List.drop_succ_cons, List.toList_toArray, Int.reduceToNat, Nat.reduceMul, Nat.reduceAdd, Nat.reduceSub, Nat.zero_add]); exact load_one (by kernel_rfl) (by kernel_rfl) (hI3.get _ _ (get_set_ne (by omega) (get_app (get_last_eq (by simp))))) rfl)) ?_
  have hlb : b < (L.set bd none).length := by simpa using hbl
  rw [set_app2 hlb] at hI3
  refine RunTo.freeM rfl (RunOn.copyL (n := 1) hI3 rfl rfl (by decide) rfl rfl (by kernel_rfl) Z1 Z1 (by exact src_ro (by rw [byC_len]; omega)) (by exact get_last_eq (by simp)) (by omega) ?_ (byC_one _) (by simp; omega) ?_)
  · simp [byC_len, padB_len]
    omega
  intro hp4 hI4
  have hc : Eng.setMany (byC (padB x.D (q.off + q.bs.length))) (q.off * 1) (byC q.bs) = byC (putB x.D q.off q.bs) := by
    rw [Nat.mul_one, copy_put]
  rw [set_last_eq (by simp), hc] at hI4
  refine RunTo.nil ?_
  refine Ev.seq ?_
  refine Ev.draw (M := [0, 0, 2, 6, 14, 0, 32, 96, 0, 256, 768, 0, 2048, 8160, 16382, 32766, 65534, 65534, 131071, 393215, 917503]) (l := [1, 2, 3, 4, 5, 6, 7, 8, 9, 10, 11, 12, 13, 14, 0, 15, 16, 18, 19, 20, 17]) (by kernel_rfl) (by kernel_rfl) (by kernel_rfl) ?_
  refine Rp rfl Z1 ?_
  refine Rp rfl Z1 ?_
  refine Rp rfl Z12 ?_
  refine Rl rfl (by ((conv => lhs; simp only [evs, evm, lk_up, lk_lf, Nat.reduceEqDiff, Nat.reduceLT, reduceIte, if_true, if_false, i64, bo, u8, nilS, Bool.not_true, Bool.not_false, List.take_succ_cons, List.take_zero, List.drop_zero, List.drop_succ_cons, List.toList_toArray, Int.reduceToNat, Nat.reduceMul, Nat.reduceAdd, Nat.reduceSub, Nat.zero_add]); exact load_one (by kernel_rfl) (by kernel_rfl) (hI4.get _ _ (get_app (get_app (get_set_self (by assumption))))) rfl)) ?_
  refine Rp rfl Z11 ?_
  refine Rp rfl Z11 ?_
  refine Rl rfl (by ((conv => lhs; simp only [evs, evm, lk_up, lk_lf, Nat.reduceEqDiff, Nat.reduceLT, reduceIte, if_true, if_false, i64, bo, u8, nilS, Bool.not_true, Bool.not_false, List.take_succ_cons, List.take_zero, List.drop_zero, List.drop_succ_cons, List.toList_toArray, Int.reduceToNat, Nat.reduceMul, Nat.reduceAdd, Nat.reduceSub, Nat.zero_add]); exact load_one (by kernel_rfl) (by kernel_rfl) (hI4.get _ _ (get_app (get_last_eq (by simp)))) rfl)) ?_
  refine Rp rfl Z11 ?_
  refine Rp rfl Z19 ?_
  refine Rl rfl (by ((conv => lhs; simp only [evs, evm, lk_up, lk_lf, Nat.reduceEqDiff, Nat.reduceLT, reduceIte, if_true, if_false, i64, bo, u8, nilS, Bool.not_true, Bool.not_false, List.take_succ_cons, List.take_zero, List.drop_zero, List.drop_succ_cons, List.toList_toArray, Int.reduceToNat, Nat.reduceMul, Nat.reduceAdd, Nat.reduceSub, Nat.zero_add]); exact load_one (by kernel_rfl) (by kernel_rfl) (hI4.get _ _ (get_app (get_last_eq (by simp)))) rfl)) ?_
  refine Rp rfl Z66 ?_
  refine Rl rfl (by ((conv => lhs; simp only [evs, evm, lk_up, lk_lf, Nat.reduceEqDiff, Nat.reduceLT, reduceIte, if_true, if_false, i64, bo, u8, nilS, Bool.not_true, Bool.not_false, List.take_succ_cons, List.take_zero, List.drop_zero, List.drop_succ_cons, List.toList_toArray, Int.reduceToNat, Nat.reduceMul, Nat.reduceAdd, Nat.reduceSub, Nat.zero_add]); exact load_one (by kernel_rfl) (by kernel_rfl) (hI4.get _ _ (get_app (get_last_eq (by simp)))) rfl)) ?_
  refine Rp rfl Z122 ?_
  have hF := F226_eq (l := x.R) (c := none) (r := (q.off, q.off + q.bs.length)) hx.nrm Z105 (by omega) Z105 (by have := hx.most; omega)
  refine RunTo.freeM rfl (RunOn.tree rfl rfl (by decide) Z1 Z1 (by assumption) (by simp only [List.nil_append, List.append_nil, List.cons_append]; exact allO_cons (frz_slrg (rs := x.R) (IsH.wlSet (by assumption) []) (get_app (get_app (get_set_ne n2 hbc'))) rfl rfl) (allO_cons (frz_agg (allO_cons frz_sc (allO_cons frz_sc (allO_cons frz_sc allO_nil)))) allO_nil)) (by exact hF) ?_)
  cases hl : q.last with
  | true =>
    refine Rp rfl Z1 ?_
    refine Rp rfl Z1 ?_
    refine Rp rfl Z1 ?_
    refine Rp rfl Z1 ?_
    refine Rp rfl Z12 ?_
    refine RunTo.freeM rfl (RunOn.storeL (n := 1) hI4 rfl rfl Z1 Z1 (by kernel_rfl) Z6 Z6 (get_app (get_app (get_set_self (by assumption)))) Z9 Z5 ?_)
    intro hp5 hI5
    simp only [set_last, List.set_set, List.set_cons_zero, List.set_cons_succ, List.take_succ_cons, List.take_zero, List.drop_succ_cons, List.drop_zero, Eng.setMany, evc, Nat.zero_add, Nat.reduceAdd, Nat.reduceMul, Nat.reduceSub] at hI5
    refine Rp rfl Z1 ?_
    refine RunTo.nil ?_
    refine Ev.seq ?_
    refine Ev.rg [0, 1] ?_
    refine Rp rfl Z37 ?_
    refine Rl rfl (by ((conv => lhs; simp only [evs, evm, lk_up, lk_lf, Nat.reduceEqDiff, Nat.reduceLT, reduceIte, if_true, if_false, i64, bo, u8, nilS, Bool.not_true, Bool.not_false, List.take_succ_cons, List.take_zero, List.drop_zero, List.drop_succ_cons, List.toList_toArray, Int.reduceToNat, Nat.reduceMul, Nat.reduceAdd, Nat.reduceSub, Nat.zero_add]); exact load_one (by kernel_rfl) (by kernel_rfl) (hI5.get _ _ (get_set_ne (by omega) (get_app (get_last_eq (by simp))))) rfl)) ?_
    refine RunTo.nil ?_
    rw [set_app2 (by simpa using hbl), List.set_set] at hI5
    rw [hl]
    refine Ev.condT Z1 ?_
    refine Ev.rg [0, 1, 2, 3, 4, 5] ?_
    refine Rp rfl Z1 ?_
    refine Rp rfl Z66 ?_
    refine Rl rfl (by ((conv => lhs; simp only [evs, evm, lk_up, lk_lf, Nat.reduceEqDiff, Nat.reduceLT, reduceIte, if_true, if_false, i64, bo, u8, nilS, Bool.not_true, Bool.not_false, List.take_succ_cons, List.take_zero, List.drop_zero, List.drop_succ_cons, List.toList_toArray, Int.reduceToNat, Nat.reduceMul, Nat.reduceAdd, Nat.reduceSub, Nat.zero_add]); exact load_one (by kernel_rfl) (by kernel_rfl) (hI5.get _ _ (get_app (get_last_eq (by simp)))) rfl)) ?_
    refine Rp rfl Z1 ?_
    refine Rp rfl Z24 ?_
    refine RunTo.freeM rfl (RunOn.storeL (n := 1) hI5 rfl rfl Z1 Z1 (by kernel_rfl) Z6 Z6 (get_app (get_app (get_set_self (by assumption)))) Z9 Z5 ?_)
    intro hp6 hI6
    simp only [set_last, List.set_set, List.set_cons_zero, List.set_cons_succ, List.take_succ_cons, List.take_zero, List.drop_succ_cons, List.drop_zero, Eng.setMany, evc, Nat.zero_add, Nat.reduceAdd, Nat.reduceMul, Nat.reduceSub] at hI6
    refine RunTo.nil ?_
    rw [set_app2 (by simpa using hbl), List.set_set] at hI6
    refine ⟨.inl rfl, _, rfl, ?_⟩
    refine ⟨_, _, hI6.wlSet _, rfl, ?_, fun j cs hj hj2 hk => get_app (get_app (get_set_ne (fun e => hj e.symm) (get_set_ne (fun e => hj2 e.symm) hk))), by simp, get_last_eq (by simp), get_app (get_app (get_set_self hb'))⟩
    intro c hc
    rw [hI6.wl, hI.n] at hc
    simp at hc
    omega
  | false =>
    refine Rp rfl Z1 ?_
    refine Rp rfl Z1 ?_
    refine Rp rfl Z1 ?_
    refine Rp rfl Z1 ?_
    refine Rp rfl Z12 ?_
    refine RunTo.freeM rfl (RunOn.storeL (n := 1) hI4 rfl rfl Z1 Z1 (by kernel_rfl) Z6 Z6 (get_app (get_app (get_set_self (by assumption)))) Z9 Z5 ?_)
    intro hp5 hI5
    simp only [set_last, List.set_set, List.set_cons_zero, List.set_cons_succ, List.take_succ_cons, List.take_zero, List.drop_succ_cons, List.drop_zero, Eng.setMany, evc, Nat.zero_add, Nat.reduceAdd, Nat.reduceMul, Nat.reduceSub] at hI5
    refine Rp rfl Z1 ?_
    refine RunTo.nil ?_
    refine Ev.seq ?_
    refine Ev.rg [0, 1] ?_
    refine Rp rfl Z37 ?_
    refine Rl rfl (by ((conv => lhs; simp only [evs, evm, lk_up, lk_lf, Nat.reduceEqDiff, Nat.reduceLT, reduceIte, if_true, if_false, i64, bo, u8, nilS, Bool.not_true, Bool.not_false, List.take_succ_cons, List.take_zero, List.drop_zero, List.drop_succ_cons, List.toList_toArray, Int.reduceToNat, Nat.reduceMul, Nat.reduceAdd, Nat.reduceSub, Nat.zero_add]); exact load_one (by kernel_rfl) (by kernel_rfl) (hI5.get _ _ (get_set_ne (by omega) (get_app (get_last_eq (by simp))))) rfl)) ?_
    refine RunTo.nil ?_
    rw [set_app2 (by simpa using hbl), List.set_set] at hI5
    rw [hl]
    refine Ev.condF Z1 ?_
    refine Ev.skip ?_
    refine ⟨.inl rfl, _, rfl, ?_⟩
    refine ⟨_, _, hI5.wlSet _, rfl, ?_, fun j cs hj hj2 hk => get_app (get_app (get_set_ne (fun e => hj e.symm) (get_set_ne (fun e => hj2 e.symm) hk))), by simp, get_last_eq (by simp), get_app (get_app (get_set_self hb'))⟩
    intro c hc
    rw [hI5.wl, hI.n] at hc
    simp at hc
    omega
end
end Go.Eng
end
section
set_option linter.unusedVariables false
set_option linter.unusedSimpArgs false
set_option maxRecDepth 100000
set_option maxHeartbeats 4000000
namespace Go.Eng
open Go Go.RowKit Go.Proofs
section
variable (p : Poly) (T : List (Nat × (List AV → Option AV)))
theorem c118k (h : (envL p T).sp 118 = none) (h226 : (envL p T).sp 226 = some (treeSp F226)) (q : Pc) (w0 : Bool) (cap : Option Nat) (hq : q.Ok) (x : Pt) (hx : x.Ok) (hl : x.R.length ≤ 60) (hle : q.off + q.bs.length ≤ x.D.length) (L : List (Option (List AV))) (b bd bc : Nat) (n1 : b ≠ bd) (n2 : b ≠ bc) (n3 : bd ≠ bc) (hb : L[b]? = some (some [i64 0, bo false, i64 x.len, .sl bd 0 x.D.length none 1, .sl bc 0 x.R.length none 3])) (hbd : L[bd]? = some (some (byC x.D))) (hbc : L[bc]? = some (some (rgC x.R))) (hL : L.length < 100000) : ∀ hp0, IsH hp0 L [] → CallTo (envL p T) 118 [.agg (q.x 1 w0 cap), .ptr b 0] hp0 fun v hp' => ∃ L' w', IsH hp' L' w' ∧ v = .tup [] ∧ (∀ c ∈ w', c = b ∨ c = bd) ∧ (∀ j cs, j ≠ b → j ≠ bd → L[j]? = some (some cs) → L'[j]? = some (some cs)) ∧ L'.length = L.length + 1 ∧ L'[bd]? = some (some (byC (putB x.D q.off q.bs))) ∧ L'[b]? = some (some [i64 0, bo false, i64 (if q.last then (q.off + q.bs.length : Nat) else x.len), .sl bd 0 x.D.length none 1, rgV true (unionG x.R [] [] (q.off, q.off + q.bs.length)) none]) := by
  intro hp0 hI
  have hbl := lt_of_get hb
  have hbdl := lt_of_get hbd
  have hbcl := lt_of_get hbc
  have hm := hq.most
  have hpos := Pc.pos hq
  have hdm : x.D.length ≤ 2000 := by rw [hx.dl]; exact hx.most
  unfold Pc.x
  refine CallTo.body (c := (Tryz.f118.body.getD .skip)) (nt := 63) (rs := #[]) (by assumption) (by kernel_rfl) ⟨by simp, by decide⟩ ?_
  show Ev _ (Code.seq _ _) _ _
  simp only [tmOf_cons, tmOf_nil, i64, bo, u8, nilS, Nat.zero_add, Nat.reduceAdd]
  refine Ev.seq ?_
  refine Ev.rg [0] ?_
  refine RunTo.freeM rfl (RunOn.madeL (k := _) hI rfl rfl (by decide) rfl Z15 Z5 ?_)
  intro hp1 hI1
  simp only [List.cons_append, List.nil_append, evc, repA, Eng.setMany, List.set_cons_zero, List.set_cons_succ, Nat.zero_mul, Nat.one_mul, List.take_succ_cons, List.take_zero, List.drop_zero, List.drop_succ_cons, Nat.zero_add, Nat.reduceAdd, Nat.reduceMul] at hI1
  refine RunTo.nil ?_
  refine Ev.seq ?_
  refine Ev.seq ?_
  refine Ev.draw (M := [0, 1, 0, 4, 12, 28, 60, 127, 255]) (l := [0, 1, 2, 3, 4, 5, 6, 7, 8]) (by kernel_rfl) (by kernel_rfl) (by kernel_rfl) ?_
  refine Rp rfl Z66 ?_
  refine Rl rfl Z104 ?_
  refine Rp rfl Z1 ?_
  refine Rp rfl Z1 ?_
  refine Rp rfl Z19 ?_
  refine Rl rfl Z88 ?_
  refine Rp rfl Z86 ?_
  refine Rp rfl Z55 ?_
  refine Rp rfl Z1 ?_
  refine RunTo.nil ?_
  refine Ev.seq ?_
  refine Ev.rg [0, 1] ?_
  refine Rp rfl Z1 ?_
  refine Rp rfl Z28 ?_
  refine RunTo.nil ?_
  refine Ev.condF Z1 ?_
  refine Ev.skip ?_
  refine Ev.seq ?_
  refine Ev.draw (M := [0, 1, 3, 7, 0, 16, 48, 127, 0, 256, 768, 2047]) (l := [0, 1, 2, 3, 4, 5, 6, 7, 8, 9, 10, 11]) (by kernel_rfl) (by kernel_rfl) (by kernel_rfl) ?_
  refine Rp rfl Z1 ?_
  refine Rp rfl Z1 ?_
  refine Rp rfl Z19 ?_
  refine Rl rfl Z88 ?_
  refine Rp rfl Z11 ?_
  refine Rp rfl Z19 ?_
  refine Rl rfl Z104 ?_
  refine Rp rfl (by ((conv => lhs; simp only [evs, evm, lk_up, lk_lf, Nat.reduceEqDiff, Nat.reduceLT, reduceIte, if_true, if_false, i64, bo, u8, nilS, Bool.not_true, Bool.not_false, List.take_succ_cons, List.take_zero, List.drop_zero, List.drop_succ_cons, List.toList_toArray, Int.reduceToNat, Nat.reduceMul, Nat.reduceAdd, Nat.reduceSub, Nat.zero_add]); exact pSlice_lo Z1 Z1 (slice_sl (by kernel_rfl) (cut_lo (l := q.off) rfl (by omega))))) ?_
  refine Rp rfl Z11 ?_
  refine Rp rfl Z12 ?_
  refine Rl rfl Z104 ?_
  refine RunTo.freeM rfl (RunOn.copyL (n := 1) hI1 rfl rfl (by decide) rfl rfl (by kernel_rfl) Z1 Z1 (by exact src_ro (by rw [byC_len]; omega)) (by exact get_app hbd) (by omega) ?_ (byC_one _) (by simp; omega) ?_)
  · simp [byC_len]
    omega
  intro hp4 hI4
  have hpad : padB x.D (q.off + q.bs.length) = x.D := by simp [padB, Nat.sub_eq_zero_of_le hle]
  have hc : Eng.setMany (byC x.D) (q.off * 1) (byC q.bs) = byC (putB x.D q.off q.bs) := by
    rw [Nat.mul_one, ← copy_put, hpad]
  rw [List.set_append_left _ _ hbdl, hc] at hI4
  have hb' : (L.set bd (some (byC (putB x.D q.off q.bs))))[b]? = some (some [i64 0, bo false, i64 x.len, .sl bd 0 x.D.length none 1, .sl bc 0 x.R.length none 3]) := get_set_ne (fun e => n1 e.symm) hb
  have hbc' : (L.set bd (some (byC (putB x.D q.off q.bs))))[bc]? = some (some (rgC x.R)) := get_set_ne n3 hbc
  refine RunTo.nil ?_
  refine Ev.seq ?_
  refine Ev.draw (M := [0, 0, 2, 6, 14, 0, 32, 96, 0, 256, 768, 0, 2048, 8160, 16382, 32766, 65534, 65534, 131071, 393215, 917503]) (l := [1, 2, 3, 4, 5, 6, 7, 8, 9, 10, 11, 12, 13, 14, 0, 15, 16, 18, 19, 20, 17]) (by kernel_rfl) (by kernel_rfl) (by kernel_rfl) ?_
  refine Rp rfl Z1 ?_
  refine Rp rfl Z1 ?_
  refine Rp rfl Z12 ?_
  refine Rl rfl Z88 ?_
  refine Rp rfl Z11 ?_
  refine Rp rfl Z11 ?_
  refine Rl rfl (by ((conv => lhs; simp only [evs, evm, lk_up, lk_lf, Nat.reduceEqDiff, Nat.reduceLT, reduceIte, if_true, if_false, i64, bo, u8, nilS, Bool.not_true, Bool.not_false, List.take_succ_cons, List.take_zero, List.drop_zero, List.drop_succ_cons, List.toList_toArray, Int.reduceToNat, Nat.reduceMul, Nat.reduceAdd, Nat.reduceSub, Nat.zero_add]); exact load_one (by kernel_rfl) (by kernel_rfl) (hI4.get _ _ (get_last_eq (by simp))) rfl)) ?_
  refine Rp rfl Z11 ?_
  refine Rp rfl Z19 ?_
  refine Rl rfl (by ((conv => lhs; simp only [evs, evm, lk_up, lk_lf, Nat.reduceEqDiff, Nat.reduceLT, reduceIte, if_true, if_false, i64, bo, u8, nilS, Bool.not_true, Bool.not_false, List.take_succ_cons, List.take_zero, List.drop_zero, List.drop_succ_cons, List.toList_toArray, Int.reduceToNat, Nat.reduceMul, Nat.reduceAdd, Nat.reduceSub, Nat.zero_add]); exact load_one (by kernel_rfl) (by kernel_rfl) (hI4.get _ _ (get_last_eq (by simp))) rfl)) ?_
  refine Rp rfl Z66 ?_
  refine Rl rfl (by ((conv => lhs; simp only [evs, evm, lk_up, lk_lf, Nat.reduceEqDiff, Nat.reduceLT, reduceIte, if_true, if_false, i64, bo, u8, nilS, Bool.not_true, Bool.not_false, List.take_succ_cons, List.take_zero, List.drop_zero, List.drop_succ_cons, List.toList_toArray, Int.reduceToNat, Nat.reduceMul, Nat.reduceAdd, Nat.reduceSub, Nat.zero_add]); exact load_one (by kernel_rfl) (by kernel_rfl) (hI4.get _ _ (get_last_eq (by simp))) rfl)) ?_
  refine Rp rfl Z122 ?_
  have hF := F226_eq (l := x.R) (c := none) (r := (q.off, q.off + q.bs.length)) hx.nrm Z105 (by omega) Z105 (by have := hx.most; omega)
  refine RunTo.freeM rfl (RunOn.tree rfl rfl (by decide) Z1 Z1 (by assumption) (by simp only [List.nil_append, List.append_nil, List.cons_append]; exact allO_cons (frz_slrg (rs := x.R) (IsH.wlSet (by assumption) []) (get_app hbc') rfl rfl) (allO_cons (frz_agg (allO_cons frz_sc (allO_cons frz_sc (allO_cons frz_sc allO_nil)))) allO_nil)) (by exact hF) ?_)
  cases hl : q.last with
  | true =>
    refine Rp rfl Z1 ?_
    refine Rp rfl Z1 ?_
    refine Rp rfl Z1 ?_
    refine Rp rfl Z1 ?_
    refine Rp rfl Z12 ?_
    refine RunTo.freeM rfl (RunOn.storeL (n := 1) hI4 rfl rfl Z1 Z1 (by kernel_rfl) Z6 Z6 (get_app (by assumption)) Z9 Z5 ?_)
    intro hp2 hI2
    simp only [set_last, List.set_set, List.set_cons_zero, List.set_cons_succ, List.take_succ_cons, List.take_zero, List.drop_succ_cons, List.drop_zero, Eng.setMany, evc, Nat.zero_add, Nat.reduceAdd, Nat.reduceMul, Nat.reduceSub] at hI2
    refine Rp rfl Z1 ?_
    refine RunTo.nil ?_
    refine Ev.seq ?_
    refine Ev.rg [0, 1] ?_
    refine Rp rfl Z37 ?_
    refine Rl rfl (by ((conv => lhs; simp only [evs, evm, lk_up, lk_lf, Nat.reduceEqDiff, Nat.reduceLT, reduceIte, if_true, if_false, i64, bo, u8, nilS, Bool.not_true, Bool.not_false, List.take_succ_cons, List.take_zero, List.drop_zero, List.drop_succ_cons, List.toList_toArray, Int.reduceToNat, Nat.reduceMul, Nat.reduceAdd, Nat.reduceSub, Nat.zero_add]); exact load_one (by kernel_rfl) (by kernel_rfl) (hI2.get _ _ (get_set_ne (by omega) (get_last_eq (by simp)))) rfl)) ?_
    refine RunTo.nil ?_
    rw [List.set_append_left _ _ (by simpa using hbl)] at hI2
    rw [hl]
    refine Ev.condT Z1 ?_
    refine Ev.rg [0, 1, 2, 3, 4, 5] ?_
    refine Rp rfl Z1 ?_
    refine Rp rfl Z66 ?_
    refine Rl rfl (by ((conv => lhs; simp only [evs, evm, lk_up, lk_lf, Nat.reduceEqDiff, Nat.reduceLT, reduceIte, if_true, if_false, i64, bo, u8, nilS, Bool.not_true, Bool.not_false, List.take_succ_cons, List.take_zero, List.drop_zero, List.drop_succ_cons, List.toList_toArray, Int.reduceToNat, Nat.reduceMul, Nat.reduceAdd, Nat.reduceSub, Nat.zero_add]); exact load_one (by kernel_rfl) (by kernel_rfl) (hI2.get _ _ (get_last_eq (by simp))) rfl)) ?_
    refine Rp rfl Z1 ?_
    refine Rp rfl Z24 ?_
    refine RunTo.freeM rfl (RunOn.storeL (n := 1) hI2 rfl rfl Z1 Z1 (by kernel_rfl) Z6 Z6 (get_app (get_set_self (by assumption))) Z9 Z5 ?_)
    intro hp3 hI3
    simp only [set_last, List.set_set, List.set_cons_zero, List.set_cons_succ, List.take_succ_cons, List.take_zero, List.drop_succ_cons, List.drop_zero, Eng.setMany, evc, Nat.zero_add, Nat.reduceAdd, Nat.reduceMul, Nat.reduceSub] at hI3
    refine RunTo.nil ?_
    rw [List.set_append_left _ _ (by simpa using hbl), List.set_set] at hI3
    refine ⟨.inl rfl, _, rfl, ?_⟩
    refine ⟨_, _, hI3.wlSet _, rfl, ?_, fun j cs hj hj2 hk => get_app (get_set_ne (fun e => hj e.symm) (get_set_ne (fun e => hj2 e.symm) hk)), by simp, get_app (get_set_ne n1 (get_set_self hbd)), get_app (get_set_self hb')⟩
    intro c hc
    rw [hI3.wl, hI.n] at hc
    simp at hc
    omega
  | false =>
    refine Rp rfl Z1 ?_
    refine Rp rfl Z1 ?_
    refine Rp rfl Z1 ?_
    refine Rp rfl Z1 ?_
    refine Rp rfl Z12 ?_
    refine RunTo.freeM rfl (RunOn.storeL (n := 1) hI4 rfl rfl Z1 Z1 (by kernel_rfl) Z6 Z6 (get_app (by assumption)) Z9 Z5 ?_)
    intro hp2 hI2
    simp only [set_last, List.set_set, List.set_cons_zero, List.set_cons_succ, List.take_succ_cons, List.take_zero, List.drop_succ_cons, List.drop_zero, Eng.setMany, evc, Nat.zero_add, Nat.reduceAdd, Nat.reduceMul, Nat.reduceSub] at hI2
    refine Rp rfl Z1 ?_
    refine RunTo.nil ?_
    refine Ev.seq ?_
    refine Ev.rg [0, 1] ?_
    refine Rp rfl Z37 ?_
    refine Rl rfl (by ((conv => lhs; simp only [evs, evm, lk_up, lk_lf, Nat.reduceEqDiff, Nat.reduceLT, reduceIte, if_true, if_false, i64, bo, u8, nilS, Bool.not_true, Bool.not_false, List.take_succ_cons, List.take_zero, List.drop_zero, List.drop_succ_cons, List.toList_toArray, Int.reduceToNat, Nat.reduceMul, Nat.reduceAdd, Nat.reduceSub, Nat.zero_add]); exact load_one (by kernel_rfl) (by kernel_rfl) (hI2.get _ _ (get_set_ne (by omega) (get_last_eq (by simp)))) rfl)) ?_
    refine RunTo.nil ?_
    rw [List.set_append_left _ _ (by simpa using hbl)] at hI2
    rw [hl]
    refine Ev.condF Z1 ?_
    refine Ev.skip ?_
    refine ⟨.inl rfl, _, rfl, ?_⟩
    refine ⟨_, _, hI2.wlSet _, rfl, ?_, fun j cs hj hj2 hk => get_app (get_set_ne (fun e => hj e.symm) (get_set_ne (fun e => hj2 e.symm) hk)), by simp, get_app (get_set_ne n1 (get_set_self hbd)), get_app (get_set_self hb')⟩
    intro c hc
    rw [hI2.wl, hI.n] at hc
    simp at hc
    omega
end
end Go.Eng
end
section
set_option linter.unusedVariables false
set_option linter.unusedSimpArgs false
set_option maxRecDepth 100000
set_option maxHeartbeats 4000000
namespace Go.Eng
open Go Go.RowKit Go.Proofs
section
variable (p : Poly) (T : List (Nat × (List AV → Option AV)))
theorem c116 (h : (envL p T).sp 116 = none) (a b c d e : AV) (ho : [a, b, c, d, e].all AV.one = true) (L : List (Option (List AV))) (k : Nat) (hk : L[k]? = some (some [a, b, c, d, e])) (hL : L.length < 100000) : ∀ hp0, IsH hp0 L [] → CallTo (envL p T) 116 [nilS, i64 0, .sl k 0 1 (some 1) 5] hp0 fun v hp' => ∃ L' w', IsH hp' L' w' ∧ (v = .sl L.length 0 1 none 5 ∧ L' = L ++ [some [a, b, c, d, e]] ∧ w' = []) := by
  intro hp0 hI
  refine CallTo.body (c := (Tryz.f116.body.getD .skip)) (nt := 95) (rs := #[.tmp 6]) (by assumption) (by kernel_rfl) ⟨by simp, by decide⟩ ?_
  show Ev _ (Code.seq _ _) _ _
  simp only [tmOf_cons, tmOf_nil, i64, bo, u8, nilS, Nat.zero_add, Nat.reduceAdd]
  refine Ev.seq ?_
  refine Ev.rg [0] ?_
  refine Rp rfl Z1 ?_
  refine RunTo.nil ?_
  refine Ev.seq ?_
  refine Ev.rg [0, 1, 2] ?_
  refine Rp rfl Z1 ?_
  refine Rp rfl Z1 ?_
  refine Rp rfl Z1 ?_
  refine RunTo.nil ?_
  refine Ev.seq ?_
  refine Ev.rg [0, 1, 2] ?_
  refine Rp rfl Z1 ?_
  refine Rp rfl Z86 ?_
  refine Rp rfl Z1 ?_
  refine RunTo.nil ?_
  refine Ev.seq ?_
  refine Ev.seq ?_
  refine Ev.rg [0, 1] ?_
  refine Rp rfl Z1 ?_
  refine Rp rfl Z45 ?_
  refine RunTo.nil ?_
  refine Ev.condF Z1 ?_
  refine Ev.skip ?_
  refine Ev.seq ?_
  refine Ev.rg [0, 1, 2] ?_
  refine Rp rfl Z1 ?_
  refine Rp rfl Z47 ?_
  refine Rp rfl Z1 ?_
  refine RunTo.nil ?_
  refine Ev.seq ?_
  refine Ev.seq ?_
  refine Ev.rg [0, 1, 2] ?_
  refine Rp rfl Z1 ?_
  refine Rp rfl Z1 ?_
  refine Rp rfl Z26 ?_
  refine RunTo.nil ?_
  refine Ev.condT Z1 ?_
  refine Ev.seq ?_
  refine Ev.rg [0, 1, 2, 3] ?_
  refine Rp rfl Z1 ?_
  refine Rp rfl Z1 ?_
  refine RunTo.freeM rfl (RunOn.appL (n := 5) hI rfl rfl (by decide) rfl rfl rfl (by kernel_rfl) (by kernel_rfl) Z1 Z1 (by exact src_sl hk (by simp)) (by exact appL_nil rfl (by decide) (by decide) (by omega)) ?_)
  intro hp1 hI1
  simp only [List.cons_append, List.nil_append] at hI1
  refine Rp rfl Z1 ?_
  refine RunTo.nil ?_
  refine Ev.ret ⟨.inr rfl, _, res1, ?_⟩
  simp only [lk_up, lk_lf, Nat.reduceEqDiff, Nat.reduceLT, reduceIte, if_true, if_false, Nat.zero_add, i64, bo, u8, nilS, List.take_succ_cons, List.take_zero, List.drop_zero, List.drop_succ_cons]
  exact ⟨_, _, hI1.wlSet _, trivial, rfl, by rw [hI1.wl]; rfl⟩
end
end Go.Eng
end
section
set_option linter.unusedVariables false
set_option linter.unusedSimpArgs false
set_option maxRecDepth 100000
set_option maxHeartbeats 4000000
namespace Go.Eng
open Go Go.RowKit Go.Proofs
def nav : List Bool → Code → Code
  | b :: p, .seq a c => nav p (match b with | true => c | false => a)
  | b :: p, .cond _ a c => nav p (match b with | true => c | false => a)
  | _ :: p, .block _ c => nav p c
  | _ :: p, .loop c => nav p c
  | _, c => c
section
variable (p : Poly) (T : List (Nat × (List AV → Option AV)))
theorem pv_none (L : List (Option (List AV))) (b : Nat) : PvOk L b nilS .none := fun L' hp w n hI hk => frz_sc
theorem pv_one {L : List (Option (List AV))} {b bp bd : Nat} {cap : Option Nat} {x : Pt} {cv : AV} (n1 : bp ≠ b) (n2 : bd ≠ b) (hp : L[bp]? = some (some (paC x.len (.sl bd 0 x.D.length none 1) cv))) (hd : L[bd]? = some (some (byC x.D))) (hc : cv = rgV true x.R none ∨ ∃ bc, bc ≠ b ∧ cv = .sl bc 0 x.R.length none 3 ∧ L[bc]? = some (some (rgC x.R))) : PvOk L b (.sl bp 0 1 cap 5) (.one x none none cap) := by
  intro L' hp1 w n hI hk
  refine frz_sl hI (hk bp _ n1 hp) (by simp [paC]) ?_
  have hz : frz false hp1 (n + 4) cv = some (rgV false x.R none) := by
    rcases hc with e | ⟨bc, n3, e, hg⟩
    · rw [e]; exact frz_rg0 _ _
    · rw [e]; exact frz_slrg hI (hk bc _ n3 hg) rfl rfl
  exact allO_cons frz_sc (allO_cons frz_sc (allO_cons frz_sc (allO_cons (frz_slby hI (hk bd _ n2 hd) rfl rfl) (allO_cons hz allO_nil))))
theorem pv_gone {L : List (Option (List AV))} {b bp : Nat} {cs : List AV} (n1 : bp ≠ b) (hp : L[bp]? = some (some cs)) (hl : cs.length = 5) : PvOk L b (.sl bp 5 0 none 5) (.gone none) := by
  intro L' hp1 w n hI hk
  exact frz_sl hI (hk bp _ n1 hp) (by simp [hl]) allO_nil
theorem put_len (m : Par) (q : Pc) : (m.put q).len = if q.last then ((q.off + q.bs.length : Nat) : Int) else (match m with | .one x _ _ _ => x.len | _ => -1) := by
  cases m <;> cases hq : q.last <;> simp [Par.put, Pt.len, hq]
theorem resC1 {E : Env} {nt : Nat} {tm : Tr AV} {hp : Hp} {a u x : Nat} {t : TypeId} {v : AV} {r : Option Nat} (h : loadA E.P hp t (lk tm a) = some (v, r)) : resultsA E ⟨nt, tm, hp⟩ #[.cell a t, .tmp u, .tmp x] = some (.tup [v, lk tm u, lk tm x]) := by
  have e : (St.mk nt tm hp).tmp a = lk tm a := rfl
  simp only [resultsA, resA, e, h]
  rfl
def rcOf (x : Pt) : AV := .tup [.agg (if x.whole then (Nm.cw ⟨1, 1, 1, -1, 0, true, .gone none⟩) else (Nm.cw ⟨0, 1, 1, 1, 3, true, .one x none none none⟩)), if x.whole then byV true x.D none else nilS, i64 0]
def zeroR : List AV := [i64 0, i64 0, i64 0, i64 0, i64 0, i64 0, i64 0, i64 0, i64 0, i64 0, i64 0, i64 0, bo false, nilS]
def PvT (L : List (Option (List AV))) (b : Nat) (pv t : AV) : Prop := ∀ (L' : List (Option (List AV))) (hp : Hp) (w : List Nat) (n : Nat), IsH hp L' w → (∀ k cs, k ≠ b → L[k]? = some (some cs) → L'[k]? = some (some cs)) → frz true hp (n + 5) pv = some t
theorem t33c (h115 : (envL p T).sp 115 = none) (tm : Tr AV) (hp : Hp) (L : List (Option (List AV))) (w : List Nat) (hI : IsH hp L w) (hL : L.length < 95000) (s c7 c8 : Nat) (k4 : lk tm 4 = .ptr 1 0) (k7 : lk tm 7 = .ptr c7 0) (k8 : lk tm 8 = .ptr c8 0) (ov o : AV) (k15 : lk tm 15 = ov)
    (fi up ma le : Int) (due : Bool) (bp po pn : Nat) (t : AV) (q : Pc)
    (g1 : L[1]? = some (some zeroR)) (g7 : L[c7]? = some (some [.ptr s 0])) (g8 : L[c8]? = some (some [i64 0, i64 q.part, i64 1, i64 q.off, byV true q.bs none])) (gs : L[s]? = some (some (stC fi 1 up ma le due (.sl bp po pn none 5))))
    (n1 : s ≠ 1) (n4 : c7 ≠ s) (n5 : c8 ≠ s) (hpv : PvT (L.set s none) 1 (.sl bp po pn none 5) t) (hov : PvT (L.set s none) 1 ov o) :
    Ev (envL p T) (nav [true, true, true, true, true, true, true, true, true, true, true, true, true, true, true, true] (Tryz.f33.body.getD .skip)) ⟨154, tm, hp⟩ (fun e s => (e = .nrm ∨ e = .ret) ∧ ∃ v, resultsA (envL p T) s #[.cell 4 75, .tmp 5, .tmp 6] = some v ∧ frz true (s.hp.wlSet (s.hp.wl.filter (· < Hp.empty.n))) 20 v = some (.tup [.agg (stC fi 1 1 ma le true t), o, i64 0])) := by
  show Ev _ (Code.seq _ _) _ _
  refine Ev.seq ?_
  refine Ev.rg [0, 1, 2] ?_
  refine Rl rfl (Z30 (Y4 k4 k7 k8 k15)) ?_
  refine Rl rfl (Z106 (Y4 k4 k7 k8 k15)) ?_
  refine RunTo.freeM rfl (RunOn.callL hI rfl rfl (by decide) (Z3 (Y4 k4 k7 k8 k15)) (Z3 (Y4 k4 k7 k8 k15)) (by simp only [List.nil_append, List.append_nil, List.cons_append]; exact c115 p T h115 fi 1 up ma le due (.sl bp po pn none 5) q true none L s gs (by omega)) ?_)
  rintro _ _ _ hp1 ⟨rfl, rfl, rfl⟩ hI1
  simp only [List.cons_append, List.nil_append, List.length_cons, List.length_nil, Nat.zero_add, Nat.reduceAdd] at hI1
  have hsl := lt_of_get gs
  have f1 : ((L ++ [some [i64 0, i64 q.part, i64 1, i64 q.off, byV true q.bs none]]).set s (some (stC fi 1 1 ma le true (.sl bp po pn none 5))))[1]? = some (some zeroR) := get_set_ne n1 (get_app g1)
  have f7 : ((L ++ [some [i64 0, i64 q.part, i64 1, i64 q.off, byV true q.bs none]]).set s (some (stC fi 1 1 ma le true (.sl bp po pn none 5))))[c7]? = some (some [.ptr s 0]) := get_set_ne (fun e => n4 e.symm) (get_app g7)
  have fs : ((L ++ [some [i64 0, i64 q.part, i64 1, i64 q.off, byV true q.bs none]]).set s (some (stC fi 1 1 ma le true (.sl bp po pn none 5))))[s]? = some (some (stC fi 1 1 ma le true (.sl bp po pn none 5))) := get_set_self (get_app gs)
  have fl : ((L ++ [some [i64 0, i64 q.part, i64 1, i64 q.off, byV true q.bs none]]).set s (some (stC fi 1 1 ma le true (.sl bp po pn none 5)))).length < 99999 := by simp; omega
  have fk : ∀ (k : Nat) (cs : List AV), (L.set s none)[k]? = some (some cs) → ((L ++ [some [i64 0, i64 q.part, i64 1, i64 q.off, byV true q.bs none]]).set s (some (stC fi 1 1 ma le true (.sl bp po pn none 5))))[k]? = some (some cs) := by
    intro k cs hk
    by_cases e : k = s
    · subst e
      rw [List.getElem?_set_self hsl] at hk
      cases hk
    · rw [List.getElem?_set_ne (fun q => e q.symm)] at hk
      exact get_set_ne (fun q => e q.symm) (get_app hk)
  generalize (L ++ [some [i64 0, i64 q.part, i64 1, i64 q.off, byV true q.bs none]]).set s (some (stC fi 1 1 ma le true (.sl bp po pn none 5))) = L2 at *
  unfold stC at fs
  unfold zeroR at f1
  refine RunTo.nil ?_
  refine Ev.seq ?_
  refine Ev.rg [0, 1, 2, 3, 4, 5, 6, 7] ?_
  refine Rl rfl (Z30 (Y4 k4 k7 k8 k15)) ?_
  refine Rp rfl (Z3 (Y4 k4 k7 k8 k15)) ?_
  refine Rp rfl (Z56 (Y4 k4 k7 k8 k15)) ?_
  refine Rl rfl (Z139 (Y4 k4 k7 k8 k15)) ?_
  refine Rp rfl (Z3 (Y4 k4 k7 k8 k15)) ?_
  refine RunTo.freeM rfl (RunOn.storeL (n := 14) hI1 rfl rfl (Z3 (Y4 k4 k7 k8 k15)) (Z3 (Y4 k4 k7 k8 k15)) (by kernel_rfl) Z6 Z6 (by assumption) Z9 Z5 ?_)
  intro hp2 hI2
  simp only [set_last, List.set_set, List.set_cons_zero, List.set_cons_succ, List.take_succ_cons, List.take_zero, List.drop_succ_cons, List.drop_zero, Eng.setMany, evc, Nat.zero_add, Nat.reduceAdd, Nat.reduceMul, Nat.reduceSub] at hI2
  refine Rp rfl (Z3 (Y4 k4 k7 k8 k15)) ?_
  refine Rp rfl (Z3 (Y4 k4 k7 k8 k15)) ?_
  refine RunTo.nil ?_
  refine Ev.ret ⟨.inr rfl, _, resC1 (by (((conv => lhs; simp only [evs, evm, lk_up, lk_lf, Nat.reduceEqDiff, Nat.reduceLT, reduceIte, if_true, if_false, i64, bo, u8, nilS, Bool.not_true, Bool.not_false, List.take_succ_cons, List.take_zero, List.drop_zero, List.drop_succ_cons, List.toList_toArray, Int.reduceToNat, Nat.reduceMul, Nat.reduceAdd, Nat.reduceSub, Nat.zero_add, k4, k7, k8, k15])); exact load_agg (n := 14) (by kernel_rfl) (by kernel_rfl) (hI2.get _ _ (get_set_self f1)) (by simp))), ?_⟩
  (conv => lhs; simp only [evs, evm, lk_up, lk_lf, Nat.reduceEqDiff, Nat.reduceLT, reduceIte, if_true, if_false, i64, bo, u8, nilS, Bool.not_true, Bool.not_false, List.take_succ_cons, List.take_zero, List.drop_zero, List.drop_succ_cons, List.toList_toArray, Int.reduceToNat, Nat.reduceMul, Nat.reduceAdd, Nat.reduceSub, Nat.zero_add, k4, k7, k8, k15])
  have hI3 := hI2.wlSet (hp2.wl.filter (· < Hp.empty.n))
  exact frz_tup (allO_cons (frz_agg (allO_cons frz_sc (allO_cons frz_sc (allO_cons frz_sc (allO_cons frz_sc (allO_cons frz_sc (allO_cons frz_sc (allO_cons frz_sc (allO_cons frz_sc (allO_cons frz_sc (allO_cons frz_sc (allO_cons frz_sc (allO_cons frz_sc (allO_cons frz_sc (allO_cons (hpv _ _ _ 13 hI3 (fun k cs e hk => get_set_ne (fun q => e q.symm) (fk k cs hk))) allO_nil))))))))))))))) (allO_cons (hov _ _ _ 14 hI3 (fun k cs e hk => get_set_ne (fun q => e q.symm) (fk k cs hk))) (allO_cons frz_sc allO_nil)))
theorem pvT_one {L : List (Option (List AV))} {s bp bd : Nat} {x : Pt} (n6 : bp ≠ s) (n7 : bd ≠ s) (n2 : bp ≠ 1) (n3 : bd ≠ 1) (gp : L[bp]? = some (some (paC x.len (.sl bd 0 x.D.length none 1) (rgV true x.R none)))) (gd : L[bd]? = some (some (byC x.D))) : PvT (L.set s none) 1 (.sl bp 0 1 none 5) ((Par.one x none none none).v true) := by
  intro L' hp w n hI hk
  refine frz_sl hI (hk bp _ n2 (get_set_ne (fun e => n6 e.symm) gp)) (by simp [paC]) ?_
  exact allO_cons frz_sc (allO_cons frz_sc (allO_cons frz_sc (allO_cons (frz_slby hI (hk bd _ n3 (get_set_ne (fun e => n7 e.symm) gd)) rfl rfl) (allO_cons (frz_rg1 _ _) allO_nil))))
theorem pvT_gone {L : List (Option (List AV))} {s bp : Nat} {cs : List AV} (n6 : bp ≠ s) (n2 : bp ≠ 1) (gp : L[bp]? = some (some cs)) (hl : cs.length = 5) : PvT (L.set s none) 1 (.sl bp 5 0 none 5) ((Par.gone none).v true) := by
  intro L' hp w n hI hk
  exact frz_sl hI (hk bp _ n2 (get_set_ne (fun e => n6 e.symm) gp)) (by simp [hl]) allO_nil
theorem pvT_by {L : List (Option (List AV))} {s bd : Nat} {D : List Nat} (n7 : bd ≠ s) (n3 : bd ≠ 1) (gd : L[bd]? = some (some (byC D))) : PvT (L.set s none) 1 (.sl bd 0 D.length none 1) (byV true D none) := by
  intro L' hp w n hI hk
  exact frz_slby hI (hk bd _ n3 (get_set_ne (fun e => n7 e.symm) gd)) rfl rfl
theorem t33a (h112 : (envL p T).sp 112 = some (treeSp F112)) (h119 : (envL p T).sp 119 = some (treeSp F119)) (h120 : (envL p T).sp 120 = none) (h121 : (envL p T).sp 121 = none) (h115 : (envL p T).sp 115 = none)
    (tm : Tr AV) (hp : Hp) (L : List (Option (List AV))) (w : List Nat) (hI : IsH hp L w) (hL : L.length < 90000) (s bp bd c7 c8 c10 : Nat) (k4 : lk tm 4 = .ptr 1 0) (k7 : lk tm 7 = .ptr c7 0) (k8 : lk tm 8 = .ptr c8 0) (k10 : lk tm 10 = .ptr c10 0) (k14 : lk tm 14 = .ptr bp 0)
    (up ma le : Int) (due : Bool) (hu : 0 ≤ up ∧ up ≤ 1) (hst : (ma = -1 ∧ le = 0) ∨ (ma = 1 ∧ le = 3)) (q : Pc) (x : Pt)
    (g1 : L[1]? = some (some zeroR)) (g7 : L[c7]? = some (some [.ptr s 0])) (g8 : L[c8]? = some (some [i64 0, i64 q.part, i64 1, i64 q.off, byV true q.bs none])) (g10 : L[c10]? = some (some (q.x 1 true none))) (gs : L[s]? = some (some (stC 0 1 up ma le due (.sl bp 0 1 none 5)))) (gp : L[bp]? = some (some (paC x.len (.sl bd 0 x.D.length none 1) (rgV true x.R none)))) (gd : L[bd]? = some (some (byC x.D)))
    (n1 : s ≠ 1) (n2 : bp ≠ 1) (n3 : bd ≠ 1) (n4 : c7 ≠ s) (n5 : c8 ≠ s) (n6 : bp ≠ s) (n7 : bd ≠ s) (n8 : bd ≠ bp) (hne : x.R ≠ []) (hl : x.R.length ≤ 1000) (hw : x.whole = false) :
    Ev (envL p T) (nav [true, true, true, true, true, true, true, true, true, true, true, true] (Tryz.f33.body.getD .skip)) ⟨154, tm, hp⟩ (fun e s => (e = .nrm ∨ e = .ret) ∧ ∃ v, resultsA (envL p T) s #[.cell 4 75, .tmp 5, .tmp 6] = some v ∧ frz true (s.hp.wlSet (s.hp.wl.filter (· < Hp.empty.n))) 20 v = some (.tup [.agg (Nm.cw ⟨0, 1, 1, 1, 3, true, .one x none none none⟩), nilS, i64 0])) := by
  show Ev _ (Code.seq _ _) _ _
  have hF : F119 [.agg (paC x.len (byV false x.D none) (rgV false x.R none))] = some (bo x.whole) := F119_eq hne hl
  rw [hw] at hF
  have hpv := pv_one (cap := none) n6 n7 gp gd (.inl rfl)
  have hpt := pvT_one n6 n7 n2 n3 gp gd
  have hno : PvT (L.set s none) 1 nilS nilS := fun L' hp w n hI hk => frz_sc
  unfold paC at gp hF
  refine Ev.seq ?_
  refine Ev.rg [0] ?_
  refine Rp rfl (Z3 (Y5 k4 k7 k8 k10 k14)) ?_
  refine RunTo.nil ?_
  refine Ev.seq ?_
  refine Ev.seq ?_
  refine Ev.rg [0, 1, 2, 3] ?_
  refine Rp rfl (Z3 (Y5 k4 k7 k8 k10 k14)) ?_
  refine Rp rfl (Z3 (Y5 k4 k7 k8 k10 k14)) ?_
  refine Rl rfl (Z106 (Y5 k4 k7 k8 k10 k14)) ?_
  refine RunTo.freeM rfl (RunOn.tree rfl rfl (by decide) (Z3 (Y5 k4 k7 k8 k10 k14)) (Z3 (Y5 k4 k7 k8 k10 k14)) (by assumption) (by simp only [List.nil_append, List.append_nil, List.cons_append]; exact allO_cons (frz_agg (allO_cons frz_sc (allO_cons frz_sc (allO_cons frz_sc (allO_cons (frz_slby (IsH.wlSet (by assumption) []) gd rfl rfl) (allO_cons (frz_rg0 _ _) allO_nil)))))) allO_nil) (by exact hF) ?_)
  refine RunTo.nil ?_
  refine Ev.condF (Z3 (Y5 k4 k7 k8 k10 k14)) ?_
  refine Ev.skip ?_
  refine Ev.seq ?_
  refine Ev.rg [0, 1] ?_
  refine Rl rfl (Z30 (Y5 k4 k7 k8 k10 k14)) ?_
  refine RunTo.freeM rfl (RunOn.callL hI rfl rfl (by decide) (Z3 (Y5 k4 k7 k8 k10 k14)) (Z3 (Y5 k4 k7 k8 k10 k14)) (by simp only [List.nil_append, List.append_nil, List.cons_append]; exact c120a p T h120 h112 up ma le due bp none x.len _ _ (.one x none none none) L s hu gs gp hpv (by omega)) ?_)
  rintro _ _ _ hp1 ⟨rfl, rfl, rfl⟩ hI1
  simp only [List.cons_append, List.nil_append, List.length_cons, List.length_nil, Nat.zero_add, Nat.reduceAdd] at hI1
  refine RunTo.nil ?_
  refine Ev.seq ?_
  refine Ev.rg [0, 1] ?_
  refine Rl rfl (Z30 (Y5 k4 k7 k8 k10 k14)) ?_
  rcases hst with ⟨rfl, rfl⟩ | ⟨rfl, rfl⟩
  · refine RunTo.freeM rfl (RunOn.callL hI1 rfl rfl (by decide) (Z3 (Y5 k4 k7 k8 k10 k14)) (Z3 (Y5 k4 k7 k8 k10 k14)) (by simp only [List.nil_append, List.append_nil, List.cons_append]; exact c121a p T h121 up due _ _ s gs (by omega)) ?_)
    rintro _ _ _ hp2 ⟨rfl, rfl, rfl⟩ hI2
    simp only [List.cons_append, List.nil_append, List.length_cons, List.length_nil, Nat.zero_add, Nat.reduceAdd] at hI2
    refine RunTo.nil ?_
    refine t33c p T h115 _ _ _ _ (by assumption) (by simp; omega) s c7 c8 ?_ ?_ ?_ nilS nilS ?_ 0 up 1 3 due bp 0 1 _ q (get_set_ne n1 g1) (get_set_ne (fun e => n4 e.symm) g7) (get_set_ne (fun e => n5 e.symm) g8) (get_set_self gs) n1 n4 n5 ?_ ?_
    · exact (Z3 (Y5 k4 k7 k8 k10 k14))
    · exact (Z3 (Y5 k4 k7 k8 k10 k14))
    · exact (Z3 (Y5 k4 k7 k8 k10 k14))
    · exact (Z3 (Y5 k4 k7 k8 k10 k14))
    · rw [List.set_set]; exact hpt
    · rw [List.set_set]; exact hno
  · refine RunTo.freeM rfl (RunOn.callL hI1 rfl rfl (by decide) (Z3 (Y5 k4 k7 k8 k10 k14)) (Z3 (Y5 k4 k7 k8 k10 k14)) (by simp only [List.nil_append, List.append_nil, List.cons_append]; exact c121b p T h121 h112 up due _ _ _ s gs hpv (by omega)) ?_)
    rintro _ _ _ hp2 ⟨rfl, rfl, rfl⟩ hI2
    simp only [List.cons_append, List.nil_append, List.length_cons, List.length_nil, Nat.zero_add, Nat.reduceAdd] at hI2
    refine RunTo.nil ?_
    refine t33c p T h115 _ _ _ _ (by assumption) (by omega) s c7 c8 ?_ ?_ ?_ nilS nilS ?_ 0 up 1 3 due bp 0 1 _ q g1 g7 g8 gs n1 n4 n5 hpt hno
    · exact (Z3 (Y5 k4 k7 k8 k10 k14))
    · exact (Z3 (Y5 k4 k7 k8 k10 k14))
    · exact (Z3 (Y5 k4 k7 k8 k10 k14))
    · exact (Z3 (Y5 k4 k7 k8 k10 k14))
theorem t33b (h112 : (envL p T).sp 112 = some (treeSp F112)) (h117 : (envL p T).sp 117 = some (treeSp F117)) (h119 : (envL p T).sp 119 = some (treeSp F119)) (h120 : (envL p T).sp 120 = none) (h121 : (envL p T).sp 121 = none) (h115 : (envL p T).sp 115 = none)
    (tm : Tr AV) (hp : Hp) (L : List (Option (List AV))) (w : List Nat) (hI : IsH hp L w) (hL : L.length < 90000) (s bp bd c7 c8 c10 : Nat) (k4 : lk tm 4 = .ptr 1 0) (k7 : lk tm 7 = .ptr c7 0) (k8 : lk tm 8 = .ptr c8 0) (k10 : lk tm 10 = .ptr c10 0) (k14 : lk tm 14 = .ptr bp 0)
    (up ma le : Int) (due : Bool) (hu : 0 ≤ up ∧ up ≤ 1) (hst : (ma = -1 ∧ le = 0) ∨ (ma = 1 ∧ le = 3)) (q : Pc) (x : Pt)
    (g1 : L[1]? = some (some zeroR)) (g7 : L[c7]? = some (some [.ptr s 0])) (g8 : L[c8]? = some (some [i64 0, i64 q.part, i64 1, i64 q.off, byV true q.bs none])) (g10 : L[c10]? = some (some (q.x 1 true none))) (gs : L[s]? = some (some (stC 0 1 up ma le due (.sl bp 0 1 none 5)))) (gp : L[bp]? = some (some (paC x.len (.sl bd 0 x.D.length none 1) (rgV true x.R none)))) (gd : L[bd]? = some (some (byC x.D)))
    (n1 : s ≠ 1) (n2 : bp ≠ 1) (n3 : bd ≠ 1) (n4 : c7 ≠ s) (n5 : c8 ≠ s) (n6 : bp ≠ s) (n7 : bd ≠ s) (n8 : bd ≠ bp) (n9 : c7 ≠ bp) (n10 : c8 ≠ bp) (hne : x.R ≠ []) (hl : x.R.length ≤ 1000) (hw : x.whole = true) :
    Ev (envL p T) (nav [true, true, true, true, true, true, true, true, true, true, true, true] (Tryz.f33.body.getD .skip)) ⟨154, tm, hp⟩ (fun e s => (e = .nrm ∨ e = .ret) ∧ ∃ v, resultsA (envL p T) s #[.cell 4 75, .tmp 5, .tmp 6] = some v ∧ frz true (s.hp.wlSet (s.hp.wl.filter (· < Hp.empty.n))) 20 v = some (.tup [.agg (Nm.cw ⟨1, 1, 1, -1, 0, true, .gone none⟩), byV true x.D none, i64 0])) := by
  show Ev _ (Code.seq _ _) _ _
  have hF : F119 [.agg (paC x.len (byV false x.D none) (rgV false x.R none))] = some (bo x.whole) := F119_eq hne hl
  rw [hw] at hF
  unfold paC at gp hF
  unfold Pc.x at g10
  refine Ev.seq ?_
  refine Ev.rg [0] ?_
  refine Rp rfl (Z3 (Y5 k4 k7 k8 k10 k14)) ?_
  refine RunTo.nil ?_
  refine Ev.seq ?_
  refine Ev.seq ?_
  refine Ev.rg [0, 1, 2, 3] ?_
  refine Rp rfl (Z3 (Y5 k4 k7 k8 k10 k14)) ?_
  refine Rp rfl (Z3 (Y5 k4 k7 k8 k10 k14)) ?_
  refine Rl rfl (Z106 (Y5 k4 k7 k8 k10 k14)) ?_
  refine RunTo.freeM rfl (RunOn.tree rfl rfl (by decide) (Z3 (Y5 k4 k7 k8 k10 k14)) (Z3 (Y5 k4 k7 k8 k10 k14)) (by assumption) (by simp only [List.nil_append, List.append_nil, List.cons_append]; exact allO_cons (frz_agg (allO_cons frz_sc (allO_cons frz_sc (allO_cons frz_sc (allO_cons (frz_slby (IsH.wlSet (by assumption) []) gd rfl rfl) (allO_cons (frz_rg0 _ _) allO_nil)))))) allO_nil) (by exact hF) ?_)
  refine RunTo.nil ?_
  refine Ev.condT (Z3 (Y5 k4 k7 k8 k10 k14)) ?_
  refine Ev.seq ?_
  refine Ev.rg [0, 1, 2, 3, 4] ?_
  refine Rp rfl (Z3 (Y5 k4 k7 k8 k10 k14)) ?_
  refine Rp rfl (Z3 (Y5 k4 k7 k8 k10 k14)) ?_
  refine Rp rfl (Z117 (Y5 k4 k7 k8 k10 k14)) ?_
  refine Rl rfl (Z30 (Y5 k4 k7 k8 k10 k14)) ?_
  refine Rp rfl (Z3 (Y5 k4 k7 k8 k10 k14)) ?_
  refine RunTo.nil ?_
  refine Ev.rg [0, 1, 2, 3, 4, 5, 6] ?_
  refine Rp rfl (Z3 (Y5 k4 k7 k8 k10 k14)) ?_
  refine Rp rfl (Z56 (Y5 k4 k7 k8 k10 k14)) ?_
  refine Rp rfl (Z56 (Y5 k4 k7 k8 k10 k14)) ?_
  refine Rl rfl (Z30 (Y5 k4 k7 k8 k10 k14)) ?_
  refine Rp rfl (by ((conv => lhs; simp only [evs, evm, lk_up, lk_lf, Nat.reduceEqDiff, Nat.reduceLT, reduceIte, if_true, if_false, i64, bo, u8, nilS, Bool.not_true, Bool.not_false, List.take_succ_cons, List.take_zero, List.drop_zero, List.drop_succ_cons, List.toList_toArray, Int.reduceToNat, Nat.reduceMul, Nat.reduceAdd, Nat.reduceSub, Nat.zero_add, k4, k7, k8, k10, k14]); exact pBuild_st (z := [.sc (.int .i64 (0)), .sc (.bool false), .sc (.int .i64 (0)), .sc (.slice none 0 0), .sc (.slice none 0 0)]) (ps := [(0, 1), (1, 1), (2, 1), (3, 1), (4, 1)]) (Z3 (Y5 k4 k7 k8 k10 k14)) (by kernel_rfl) (by kernel_rfl) (by simp [fillA, AV.cells, AV.one, Eng.setMany]; rfl))) ?_
  refine Rp rfl (Z3 (Y5 k4 k7 k8 k10 k14)) ?_
  refine RunTo.freeM rfl (RunOn.storeL (n := 5) hI rfl rfl (Z3 (Y5 k4 k7 k8 k10 k14)) (Z3 (Y5 k4 k7 k8 k10 k14)) (by kernel_rfl) Z6 Z6 (by assumption) Z9 Z5 ?_)
  intro hp1 hI1
  simp only [set_last, List.set_set, List.set_cons_zero, List.set_cons_succ, List.take_succ_cons, List.take_zero, List.drop_succ_cons, List.drop_zero, Eng.setMany, evc, Nat.zero_add, Nat.reduceAdd, Nat.reduceMul, Nat.reduceSub] at hI1
  refine RunTo.nil ?_
  refine Ev.seq ?_
  refine Ev.rg [0, 1] ?_
  have e1 : (L.set bp (some [AV.sc (.int .i64 0), AV.sc (.bool true), AV.sc (.int .i64 0), AV.sc (.slice none 0 0), AV.sc (.slice none 0 0)]))[1]? = some (some zeroR) := get_set_ne n2 g1
  have e7 : (L.set bp (some [AV.sc (.int .i64 0), AV.sc (.bool true), AV.sc (.int .i64 0), AV.sc (.slice none 0 0), AV.sc (.slice none 0 0)]))[c7]? = some (some [.ptr s 0]) := get_set_ne (fun e => n9 e.symm) g7
  have e8 : (L.set bp (some [AV.sc (.int .i64 0), AV.sc (.bool true), AV.sc (.int .i64 0), AV.sc (.slice none 0 0), AV.sc (.slice none 0 0)]))[c8]? = some (some [i64 0, i64 q.part, i64 1, i64 q.off, byV true q.bs none]) := get_set_ne (fun e => n10 e.symm) g8
  have es : (L.set bp (some [AV.sc (.int .i64 0), AV.sc (.bool true), AV.sc (.int .i64 0), AV.sc (.slice none 0 0), AV.sc (.slice none 0 0)]))[s]? = some (some (stC 0 1 up ma le due (.sl bp 0 1 none 5))) := get_set_ne n6 gs
  have ep : (L.set bp (some [AV.sc (.int .i64 0), AV.sc (.bool true), AV.sc (.int .i64 0), AV.sc (.slice none 0 0), AV.sc (.slice none 0 0)]))[bp]? = some (some [i64 0, bo true, i64 0, nilS, nilS]) := get_set_self gp
  have ed : (L.set bp (some [AV.sc (.int .i64 0), AV.sc (.bool true), AV.sc (.int .i64 0), AV.sc (.slice none 0 0), AV.sc (.slice none 0 0)]))[bd]? = some (some (byC x.D)) := get_set_ne (fun e => n8 e.symm) gd
  have hl2 : (L.set bp (some [AV.sc (.int .i64 0), AV.sc (.bool true), AV.sc (.int .i64 0), AV.sc (.slice none 0 0), AV.sc (.slice none 0 0)])).length < 90000 := by simpa using hL
  generalize (L.set bp (some [AV.sc (.int .i64 0), AV.sc (.bool true), AV.sc (.int .i64 0), AV.sc (.slice none 0 0), AV.sc (.slice none 0 0)])) = L2 at *
  have hpv := pv_gone n6 ep rfl
  have hpt := pvT_gone n6 n2 ep rfl
  have hby := pvT_by n7 n3 ed
  refine Rl rfl (Z30 (Y5 k4 k7 k8 k10 k14)) ?_
  refine RunTo.freeM rfl (RunOn.callL hI1 rfl rfl (by decide) (Z3 (Y5 k4 k7 k8 k10 k14)) (Z3 (Y5 k4 k7 k8 k10 k14)) (by simp only [List.nil_append, List.append_nil, List.cons_append]; exact c120b p T h120 h112 h117 up ma le due bp L2 s n6 hu es ep (by omega)) ?_)
  rintro _ L3 w3 hp3 ⟨rfl, rfl, hw3⟩ hI3
  have f7 : (L2.set s (some (stC 1 1 1 ma le due (.sl bp 5 0 none 5))))[c7]? = some (some [.ptr s 0]) := get_set_ne (fun e => n4 e.symm) e7
  refine RunTo.nil ?_
  refine Ev.seq ?_
  refine Ev.rg [0, 1] ?_
  refine Rl rfl (Z30 (Y5 k4 k7 k8 k10 k14)) ?_
  rcases hst with ⟨rfl, rfl⟩ | ⟨rfl, rfl⟩
  · refine RunTo.freeM rfl (RunOn.callL hI3 rfl rfl (by decide) (Z3 (Y5 k4 k7 k8 k10 k14)) (Z3 (Y5 k4 k7 k8 k10 k14)) (by simp only [List.nil_append, List.append_nil, List.cons_append]; exact c121c p T h121 1 due _ _ s (get_set_self es) (by simp; omega)) ?_)
    rintro _ _ _ hp2 ⟨rfl, rfl, rfl⟩ hI2
    simp only [List.cons_append, List.nil_append, List.length_cons, List.length_nil, Nat.zero_add, Nat.reduceAdd] at hI2
    refine RunTo.nil ?_
    refine t33c p T h115 _ _ _ _ (by assumption) (by simp; omega) s c7 c8 ?_ ?_ ?_ (.sl bd 0 x.D.length none 1) _ ?_ 1 1 (-1) 0 due bp 5 0 _ q (get_set_ne n1 e1) (get_set_ne (fun e => n4 e.symm) e7) (get_set_ne (fun e => n5 e.symm) e8) (get_set_self es) n1 n4 n5 ?_ ?_
    · exact (Z3 (Y5 k4 k7 k8 k10 k14))
    · exact (Z3 (Y5 k4 k7 k8 k10 k14))
    · exact (Z3 (Y5 k4 k7 k8 k10 k14))
    · exact (Z3 (Y5 k4 k7 k8 k10 k14))
    · rw [List.set_set]; exact hpt
    · rw [List.set_set]; exact hby
  · refine RunTo.freeM rfl (RunOn.callL hI3 rfl rfl (by decide) (Z3 (Y5 k4 k7 k8 k10 k14)) (Z3 (Y5 k4 k7 k8 k10 k14)) (by simp only [List.nil_append, List.append_nil, List.cons_append]; exact c121d p T h121 h112 1 due _ (.gone none) _ s (get_set_self es) (pv_gone n6 (get_set_ne (fun e => n6 e.symm) ep) rfl) (by simp; omega)) ?_)
    rintro _ _ _ hp2 ⟨rfl, rfl, rfl⟩ hI2
    simp only [List.cons_append, List.nil_append, List.length_cons, List.length_nil, Nat.zero_add, Nat.reduceAdd] at hI2
    refine RunTo.nil ?_
    refine t33c p T h115 _ _ _ _ (by assumption) (by simp; omega) s c7 c8 ?_ ?_ ?_ (.sl bd 0 x.D.length none 1) _ ?_ 1 1 (-1) 0 due bp 5 0 _ q (get_set_ne n1 (get_set_ne n1 e1)) (get_set_ne (fun e => n4 e.symm) (get_set_ne (fun e => n4 e.symm) e7)) (get_set_ne (fun e => n5 e.symm) (get_set_ne (fun e => n5 e.symm) e8)) (get_set_self (get_set_self es)) n1 n4 n5 ?_ ?_
    · exact (Z3 (Y5 k4 k7 k8 k10 k14))
    · exact (Z3 (Y5 k4 k7 k8 k10 k14))
    · exact (Z3 (Y5 k4 k7 k8 k10 k14))
    · exact (Z3 (Y5 k4 k7 k8 k10 k14))
    · rw [List.set_set, List.set_set]; exact hpt
    · rw [List.set_set, List.set_set]; exact hby
end
end Go.Eng
end
