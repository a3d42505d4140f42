/- A part of the proof that radiolinktop.TopPieces returns true for every list of numbers. -/
import Derived.Test.YtcjpofalahplbaaGreatDoorSymOne
section
set_option linter.unusedVariables false
set_option linter.unusedSimpArgs false
set_option maxRecDepth 100000
set_option maxHeartbeats 4000000
namespace Go.Eng
open Go Go.RowKit Go.Proofs
section
variable (p : Poly) (T : List (Nat × (List AV → Option AV)))
theorem w244 (h : (envL p T).sp 244 = none) (h289 : (envL p T).sp 289 = some (treeSp F289)) (h287 : (envL p T).sp 287 = some (treeSp F287)) (h285 : (envL p T).sp 285 = some (treeSp F285)) (h119 : (envL p T).sp 119 = some (treeSp F119)) (h229 : (envL p T).sp 229 = some (treeSp F229)) (h303 : (envL p T).sp 303 = some (treeSp F303)) (x : Pt) (hx : x.Ok) (hlen : x.R.length ≤ 1000) : CallTo (envL p T) 244 [.agg (x.cells false none none)] Hp.empty fun v hp' => frz true hp' 20 v = some (bo true) := by
  have hI := IsH.empty
  have hR : x.R.length ≠ 0 := fun k => hx.ne (List.eq_nil_of_length_eq_zero k)
  have hA : F287 [rgV false x.R none, .fn 302 [] [.rp false (x.cells false none none)]] = some (bo false) := F287_eq (f := .inl (x, none, none)) hlen trivial
  have hB : F119 [.agg (paC x.len (byV false x.D none) (rgV false x.R none))] = some (bo (decide (0 < x.len ∧ x.R = [(0, x.len.toNat)]))) := F119_eq hx.ne hlen
  have hC : decide (0 < x.len ∧ x.R = [(0, x.len.toNat)]) = false := by
    refine decide_eq_false fun k => ?_
    cases hln : x.ln with
    | none => simp [Pt.len, hln] at k
    | some n =>
      simp only [Pt.len, hln] at k
      exact hx.open_ n hln (by simpa using k.2)
  rw [hC] at hB
  have hD : F229 [rgV false x.R none, i64 0, i64 (x.D.length : Nat)] = some (.tup [rgN true (gapsG (x.R ++ [(x.D.length, x.D.length)]) 0), i64 0]) := F229_eq hx.nrm hx.ne (by rw [hx.dl]; exact Nat.le_refl _) (by rw [hx.dl]; have := hx.most; omega) hlen
  have hdl := hx.dl
  have hmost := hx.most
  have hgap : ∀ g ∈ gapsG (x.R ++ [(x.D.length, x.D.length)]) 0, g.1 < g.2 ∧ g.2 ≤ x.D.length ∧ ∀ b ∈ (x.D.drop g.1).take (g.2 - g.1), b = 0 := by
    intro g hg
    obtain ⟨g1, g2, g3⟩ := gap_out hx.nrm (fun r hr => by rw [hdl]; exact endG_le hx.nrm r hr) hg
    refine ⟨g1, g2, fun b hb => ?_⟩
    obtain ⟨i, hi, e⟩ := List.mem_iff_getElem.1 hb
    simp at hi
    have h1 : x.D.getD (g.1 + i) 0 = 0 := hx.zero (g.1 + i) (by omega) (g3 _ (by omega) (by omega))
    rw [← e, List.getElem_take, List.getElem_drop]
    rw [List.getD_eq_getElem?_getD, List.getElem?_eq_getElem (by omega)] at h1
    exact h1
  have hlnn : x.len = -1 ∨ (1 ≤ x.len ∧ x.len ≤ 2000 ∧ (x.D.length : Int) ≤ x.len) := by
    cases hln : x.ln with
    | none => left; simp [Pt.len, hln]
    | some n =>
      right
      obtain ⟨e1, e2⟩ := hx.ln n hln
      have e3 := (cov_end hx.nrm hx.ne).1
      simp only [Pt.len, hln]
      omega
  unfold Pt.cells paC at *
  generalize x.len = ln at *
  generalize hG : gapsG (x.R ++ [(x.D.length, x.D.length)]) 0 = G at *
  have hGl : G.length ≤ x.R.length + 1 := by rw [← hG]; exact Nat.le_trans (gapsG_len _ _) (by simp)
  rcases hlnn with hl1 | ⟨hl1, hl2, hl3⟩
  · have hl9 : ln < 1 := by omega
    refine CallTo.body (c := (Tryz.f244.body.getD .skip)) (nt := 108) (rs := #[.tmp 2]) (by assumption) (by kernel_rfl) ⟨by simp, by decide⟩ ?_
    show Ev _ (Code.seq _ _) _ _
    simp only [tmOf_cons, tmOf_nil, i64, bo, u8, nilS, Nat.zero_add, Nat.reduceAdd]
    refine Ev.seq ?_
    refine Ev.rg [0, 1] ?_
    refine RunTo.freeM rfl (RunOn.madeL (k := 0) hI rfl rfl (by decide) rfl Z15 Z5 ?_)
    intro hp1 hI1
    simp only [List.cons_append, List.nil_append, evc, repA, Eng.setMany, List.set_cons_zero, List.set_cons_succ, Nat.zero_mul, Nat.one_mul, List.take_succ_cons, List.take_zero, List.drop_zero, List.drop_succ_cons, Nat.zero_add, Nat.reduceAdd, Nat.reduceMul] at hI1
    refine Rp rfl Z1 ?_
    refine RunTo.nil ?_
    refine Ev.seq ?_
    refine Ev.seq ?_
    refine Ev.rg [0, 1] ?_
    refine Rp rfl Z17 ?_
    refine Rl rfl Z7 ?_
    refine RunTo.nil ?_
    refine Ev.condF Z1 ?_
    refine Ev.skip ?_
    refine Ev.seq ?_
    refine Ev.seq ?_
    refine Ev.rg [0, 1, 2, 3, 4, 5, 6, 7, 8, 9, 10, 11, 12, 13, 14, 15, 16, 17, 18, 19, 20] ?_
    refine Rp rfl Z24 ?_
    refine Rl rfl Z7 ?_
    refine Rp rfl Z44 ?_
    refine Rp rfl Z1 ?_
    refine Gf rfl rfl Z2 ?_
    refine Gf rfl rfl Z2 ?_
    refine Gf rfl rfl Z2 ?_
    refine Gf rfl rfl Z2 ?_
    refine Gu rfl rfl Z2 ?_
    refine Gu rfl rfl Z2 ?_
    refine Gu rfl rfl Z2 ?_
    refine Gf rfl rfl Z2 ?_
    refine Gf rfl rfl Z2 ?_
    refine Gu rfl rfl Z2 ?_
    refine Gu rfl rfl Z2 ?_
    refine Gu rfl rfl Z2 ?_
    refine Gu rfl rfl Z2 ?_
    refine Gu rfl rfl Z2 ?_
    refine Gu rfl rfl Z2 ?_
    refine Gf rfl rfl Z2 ?_
    refine Rp rfl Z1 ?_
    refine RunTo.nil ?_
    refine Ev.condF Z1 ?_
    refine Ev.skip ?_
    refine Ev.seq ?_
    refine Ev.rg [0, 1] ?_
    refine Rp rfl Z92 ?_
    refine Rp rfl Z1 ?_
    refine RunTo.nil ?_
    refine Ev.seq ?_
    refine Ev.seq ?_
    refine Ev.draw (M := [0, 1, 3, 7, 15, 31, 63, 127, 255, 511, 1023, 2047, 4095, 2047, 16383, 32767, 65535, 131071, 262143, 524287, 131071, 1179647, 3276799, 8388607, 16777215, 33554431, 67108863, 134217727, 268435455, 536870911, 1073741823, 2147483647, 4294967295, 8589934591, 17179869183]) (l := [0, 1, 2, 3, 4, 5, 6, 7, 8, 9, 10, 11, 12, 13, 14, 15, 16, 20, 21, 22, 17, 18, 19, 23, 24, 25, 26, 27, 28, 29, 30, 31, 32, 33, 34]) (by kernel_rfl) (by kernel_rfl) (by kernel_rfl) ?_
    refine Rp rfl Z12 ?_
    refine Rl rfl Z7 ?_
    refine Rp rfl Z33 ?_
    refine Rp rfl Z45 ?_
    refine Rp rfl Z1 ?_
    refine Gp rfl rfl Z2 Z12 ?_
    refine Gl rfl rfl Z2 Z7 ?_
    refine RunTo.guardOnM rfl rfl (by decide) Z2 (RunOn.tree rfl rfl (by decide) Z1 Z1 (by assumption) Z8 (by exact F289_eq hx.nrm (by omega)) ?_)
    refine Gp rfl rfl Z2 Z16 ?_
    refine Rp rfl Z1 ?_
    refine Rp rfl Z1 ?_
    refine Gp rfl rfl Z2 Z12 ?_
    refine Gl rfl rfl Z2 Z7 ?_
    refine Gp rfl rfl Z2 Z1 ?_
    refine RunTo.guardOnM rfl rfl (by decide) Z2 (RunOn.tree rfl rfl (by decide) Z1 Z1 (by assumption) Z8 (by exact hA) ?_)
    refine Rp rfl Z1 ?_
    refine Rp rfl Z1 ?_
    refine Gp rfl rfl Z2 Z12 ?_
    refine Gl rfl rfl Z2 Z7 ?_
    refine RunTo.guardOnM rfl rfl (by decide) Z2 (RunOn.tree rfl rfl (by decide) Z1 Z1 (by assumption) Z8 Z134 ?_)
    refine Gp rfl rfl Z2 Z19 ?_
    refine Gl rfl rfl Z2 Z7 ?_
    refine Gp rfl rfl Z2 Z27 ?_
    refine Gp rfl rfl Z2 Z44 ?_
    refine Rp rfl Z1 ?_
    refine Rp rfl Z1 ?_
    refine Gp rfl rfl Z2 Z19 ?_
    refine Gl rfl rfl Z2 Z7 ?_
    refine Gp rfl rfl Z2 Z27 ?_
    refine Gp rfl rfl Z2 Z28 ?_
    refine Rp rfl Z1 ?_
    refine Rp rfl Z1 ?_
    refine Gl rfl rfl Z2 Z14 ?_
    refine RunTo.guardOnM rfl rfl (by decide) Z2 (RunOn.tree rfl rfl (by decide) Z1 Z1 (by assumption) Z8 (by exact hB) ?_)
    refine Rp rfl Z1 ?_
    refine RunTo.nil ?_
    refine Ev.condF Z1 ?_
    refine Ev.skip ?_
    refine Ev.seq ?_
    refine Ev.rg [0, 1, 2, 3, 4, 5, 6, 7, 8, 9, 10, 11, 12] ?_
    refine Rp rfl Z12 ?_
    refine Rl rfl Z7 ?_
    refine Rp rfl Z11 ?_
    refine Rl rfl Z7 ?_
    refine Rp rfl Z19 ?_
    refine Rl rfl Z7 ?_
    refine Rp rfl Z27 ?_
    refine RunTo.freeM rfl (RunOn.tree rfl rfl (by decide) Z1 Z1 (by assumption) Z8 (by exact hD) ?_)
    refine Rp rfl Z1 ?_
    refine Rp rfl Z1 ?_
    refine Rp rfl Z1 ?_
    refine Rp rfl Z1 ?_
    refine Rp rfl Z1 ?_
    refine RunTo.nil ?_
    refine Ev.seq ?_
    refine Ev.seq ?_
    refine Ev.rg [0, 1, 2] ?_
    refine Rp rfl Z1 ?_
    by_cases hG0 : G = []
    · rw [show rgN true G = nilS from if_pos hG0]
      refine Rp rfl Z47 ?_
      refine Rp rfl Z1 ?_
      refine RunTo.nil ?_
      refine Ev.block ?_
      refine Ev.unroll ?_
      refine Ev.seq ?_
      refine Ev.rg [0] ?_
      refine Rp rfl Z18 ?_
      refine RunTo.nil ?_
      refine Ev.seq ?_
      refine Ev.condF Z1 ?_
      refine Ev.exit ?_
      refine thenE_ext ?_
      refine thenE_ext ?_
      refine inBlock_pos ?_
      refine Ev.seq ?_
      refine Ev.rg [0] ?_
      refine Rp rfl Z1 ?_
      refine RunTo.nil ?_
      refine Ev.ret ⟨.inr rfl, _, res1, ?_⟩
      simp only [lk_up, lk_lf, Nat.reduceEqDiff, Nat.reduceLT, reduceIte, if_true, if_false, Nat.zero_add, i64, bo, u8, nilS, List.take_succ_cons, List.take_zero, List.drop_zero, List.drop_succ_cons]
      exact frz_sc
    · rw [show rgN true G = rgV true G none from if_neg hG0]
      refine Rp rfl Z33 ?_
      refine Rp rfl Z1 ?_
      refine RunTo.nil ?_
      refine Ev.block ?_
      refine Ev.loop (fun (y : List Rg × List Rg) s => G = y.1 ++ y.2 ∧ ∃ tm hp L w, s = ⟨108, tm, hp⟩ ∧ IsH hp L w ∧ L[0]? = some (some [.sc (.int .i64 0), .sc (.bool false), .sc (.int .i64 ln), byV false x.D none, rgV false x.R none]) ∧ L.length ≤ 1 + y.1.length ∧ lk tm 1 = .ptr 0 0 ∧ lk tm 93 = rgV true G none ∧ lk tm 94 = .sc (.int .i64 G.length) ∧ lk tm 95 = .sc (.int .i64 y.1.length)) (fun y => y.2.length) ?_ (x := ([], G)) ⟨rfl, _, _, _, _, rfl, hI1, rfl, by simp, ?_, ?_, ?_, ?_⟩
      · rintro ⟨l1, l2⟩ s ⟨hl, tm, hp, L, w, rfl, hI4, h0, hLn, k1, k93, k94, k95⟩
        simp only at hl hLn k95
        cases l2 with
        | nil =>
          have hlen : G.length = l1.length := by rw [hl]; simp
          refine Ev.seq ?_
          refine Ev.rg [0] ?_
          refine Rp rfl (Z39 (Y4 k1 k93 k94 k95)) ?_
          refine RunTo.nil ?_
          refine Ev.seq ?_
          refine Ev.condF (Z3 (Y4 k1 k93 k94 k95)) ?_
          refine Ev.exit ?_
          refine thenE_ext ?_
          refine inBlock_pos ?_
          refine Ev.seq ?_
          refine Ev.rg [0] ?_
          refine Rp rfl (Z3 (Y4 k1 k93 k94 k95)) ?_
          refine RunTo.nil ?_
          refine Ev.ret ⟨.inr rfl, _, res1, ?_⟩
          simp only [lk_up, lk_lf, Nat.reduceEqDiff, Nat.reduceLT, reduceIte, if_true, if_false, Nat.zero_add, i64, bo, u8, nilS, List.take_succ_cons, List.take_zero, List.drop_zero, List.drop_succ_cons, k1, k93, k94, k95]
          exact frz_sc
        | cons r l2 =>
          obtain ⟨g1, g2, g3⟩ := hgap r (by rw [hl]; simp)
          have hlen : G.length = l1.length + l2.length + 1 := by rw [hl]; simp; omega
          have hcons : (l1 ++ [r]).length = l1.length + 1 := by simp
          have k93' : lk tm 93 = rgV true (l1 ++ r :: l2) none := by rw [k93, hl]
          have h0l := lt_of_get h0
          clear k93
          refine Ev.seq ?_
          refine Ev.rg [0] ?_
          refine Rp rfl (Z35 (Y4 k1 k94 k95 k93')) ?_
          refine RunTo.nil ?_
          refine Ev.seq ?_
          refine Ev.condT (Z3 (Y4 k1 k94 k95 k93')) ?_
          refine Ev.skip ?_
          refine Ev.seq ?_
          refine Ev.block ?_
          refine Ev.seq ?_
          refine Ev.rg [0, 1, 2, 3] ?_
          refine Rp rfl (Z50 (Y4 k1 k94 k95 k93')) ?_
          refine Rl rfl (Z64 (Y4 k1 k94 k95 k93')) ?_
          refine RunTo.freeM rfl (RunOn.madeL (k := _) hI4 rfl rfl (by decide) rfl (Z60 (Y4 k1 k94 k95 k93')) Z5 ?_)
          intro hp2 hI2
          refine RunTo.freeM rfl (RunOn.storeL (n := 3) hI2 rfl rfl (Z3 (Y4 k1 k94 k95 k93')) (Z3 (Y4 k1 k94 k95 k93')) (by kernel_rfl) Z6 Z6 (get_last _ _) Z9 Z5 ?_)
          intro hp3 hI3
          simp only [set_last, List.set_set, List.set_cons_zero, List.set_cons_succ, List.take_succ_cons, List.take_zero, List.drop_succ_cons, List.drop_zero, Eng.setMany, evc, Nat.zero_add, Nat.reduceAdd, Nat.reduceMul, Nat.reduceSub] at hI3
          refine RunTo.nil ?_
          refine Ev.seq ?_
          refine Ev.rg [0, 1, 2, 3, 4, 5, 6, 7] ?_
          refine Rp rfl (Z117 (Y4 k1 k94 k95 k93')) ?_
          refine Rl rfl (Z51 (Y4 k1 k94 k95 k93')) ?_
          refine Rp rfl (Z23 (Y4 k1 k94 k95 k93')) ?_
          refine Rl rfl (Z29 (Y4 k1 k94 k95 k93')) ?_
          refine Rp rfl (Z43 (Y4 k1 k94 k95 k93')) ?_
          refine Rl rfl (Z29 (Y4 k1 k94 k95 k93')) ?_
          refine Rp rfl (by ((conv => lhs; simp only [evs, evm, lk_up, lk_lf, Nat.reduceEqDiff, Nat.reduceLT, reduceIte, if_true, if_false, i64, bo, u8, nilS, Bool.not_true, Bool.not_false, List.take_succ_cons, List.take_zero, List.drop_zero, List.drop_succ_cons, List.toList_toArray, Int.reduceToNat, Nat.reduceMul, Nat.reduceAdd, Nat.reduceSub, Nat.zero_add, k1, k94, k95, k93']); exact pSlice_lh (Z3 (Y4 k1 k94 k95 k93')) (Z3 (Y4 k1 k94 k95 k93')) (Z3 (Y4 k1 k94 k95 k93')) (slice_by_lh (n := r.1) (m := r.2) (by kernel_rfl) rfl rfl (by omega) (by omega)))) ?_
          refine RunTo.freeM rfl (RunOn.tree rfl rfl (by decide) (Z3 (Y4 k1 k94 k95 k93')) (Z3 (Y4 k1 k94 k95 k93')) (by assumption) Z8 (by exact F303_eq (by simp; omega) g3) ?_)
          refine RunTo.nil ?_
          refine Ev.condF (Z3 (Y4 k1 k94 k95 k93')) ?_
          refine Ev.skip ?_
          refine Ev.rg [0, 1] ?_
          refine Rp rfl (Z36 (Y4 k1 k94 k95 k93')) ?_
          refine Rp rfl (Z3 (Y4 k1 k94 k95 k93')) ?_
          refine RunTo.nil ?_
          refine ⟨(l1 ++ [r], l2), ⟨by rw [hl]; simp, _, _, _, _, rfl, hI3, get_app h0, by simp; omega, ?_, ?_, ?_, ?_⟩, by simp⟩
          · exact (Z3 (Y4 k1 k94 k95 k93'))
          · rw [hl]
            exact (Z3 (Y4 k1 k94 k95 k93'))
          · exact (Z3 (Y4 k1 k94 k95 k93'))
          · rw [hcons]
            exact (Z3 (Y4 k1 k94 k95 k93'))
      · exact Z1
      · exact Z1
      · exact Z1
      · exact Z1
  · have hl9 : 1 ≤ ln := hl1
    refine CallTo.body (c := (Tryz.f244.body.getD .skip)) (nt := 108) (rs := #[.tmp 2]) (by assumption) (by kernel_rfl) ⟨by simp, by decide⟩ ?_
    show Ev _ (Code.seq _ _) _ _
    simp only [tmOf_cons, tmOf_nil, i64, bo, u8, nilS, Nat.zero_add, Nat.reduceAdd]
    refine Ev.seq ?_
    refine Ev.rg [0, 1] ?_
    refine RunTo.freeM rfl (RunOn.madeL (k := 0) hI rfl rfl (by decide) rfl Z15 Z5 ?_)
    intro hp1 hI1
    simp only [List.cons_append, List.nil_append, evc, repA, Eng.setMany, List.set_cons_zero, List.set_cons_succ, Nat.zero_mul, Nat.one_mul, List.take_succ_cons, List.take_zero, List.drop_zero, List.drop_succ_cons, Nat.zero_add, Nat.reduceAdd, Nat.reduceMul] at hI1
    refine Rp rfl Z1 ?_
    refine RunTo.nil ?_
    refine Ev.seq ?_
    refine Ev.seq ?_
    refine Ev.rg [0, 1] ?_
    refine Rp rfl Z17 ?_
    refine Rl rfl Z7 ?_
    refine RunTo.nil ?_
    refine Ev.condF Z1 ?_
    refine Ev.skip ?_
    refine Ev.seq ?_
    refine Ev.seq ?_
    refine Ev.rg [0, 1, 2, 3, 4, 5, 6, 7, 8, 9, 10, 11, 12, 13, 14, 15, 16, 17, 18, 19, 20] ?_
    refine Rp rfl Z24 ?_
    refine Rl rfl Z7 ?_
    refine Rp rfl Z91 ?_
    refine Rp rfl Z1 ?_
    refine Gp rfl rfl Z2 Z24 ?_
    refine Gl rfl rfl Z2 Z7 ?_
    refine Gp rfl rfl Z2 Z18 ?_
    refine Gp rfl rfl Z2 Z1 ?_
    refine Gp rfl rfl Z2 Z24 ?_
    refine Gl rfl rfl Z2 Z7 ?_
    refine Gp rfl rfl Z2 Z28 ?_
    refine Gp rfl rfl Z2 Z1 ?_
    refine Gp rfl rfl Z2 Z1 ?_
    refine Gp rfl rfl Z2 Z19 ?_
    refine Gl rfl rfl Z2 Z7 ?_
    refine Gp rfl rfl Z2 Z27 ?_
    refine Gp rfl rfl Z2 Z24 ?_
    refine Gl rfl rfl Z2 Z7 ?_
    refine Gp rfl rfl Z2 Z28 ?_
    refine Gp rfl rfl Z2 Z1 ?_
    refine Rp rfl Z1 ?_
    refine RunTo.nil ?_
    refine Ev.condF Z1 ?_
    refine Ev.skip ?_
    refine Ev.seq ?_
    refine Ev.rg [0, 1] ?_
    refine Rp rfl Z92 ?_
    refine Rp rfl Z1 ?_
    refine RunTo.nil ?_
    refine Ev.seq ?_
    refine Ev.seq ?_
    refine Ev.draw (M := [0, 1, 3, 7, 15, 31, 63, 127, 255, 511, 1023, 2047, 4095, 2047, 16383, 32767, 65535, 131071, 262143, 524287, 131071, 1179647, 3276799, 8388607, 16777215, 33554431, 67108863, 134217727, 268435455, 536870911, 1073741823, 2147483647, 4294967295, 8589934591, 17179869183]) (l := [0, 1, 2, 3, 4, 5, 6, 7, 8, 9, 10, 11, 12, 13, 14, 15, 16, 20, 21, 22, 17, 18, 19, 23, 24, 25, 26, 27, 28, 29, 30, 31, 32, 33, 34]) (by kernel_rfl) (by kernel_rfl) (by kernel_rfl) ?_
    refine Rp rfl Z12 ?_
    refine Rl rfl Z7 ?_
    refine Rp rfl Z33 ?_
    refine Rp rfl Z45 ?_
    refine Rp rfl Z1 ?_
    refine Gp rfl rfl Z2 Z12 ?_
    refine Gl rfl rfl Z2 Z7 ?_
    refine RunTo.guardOnM rfl rfl (by decide) Z2 (RunOn.tree rfl rfl (by decide) Z1 Z1 (by assumption) Z8 (by exact F289_eq hx.nrm (by omega)) ?_)
    refine Gp rfl rfl Z2 Z16 ?_
    refine Rp rfl Z1 ?_
    refine Rp rfl Z1 ?_
    refine Gp rfl rfl Z2 Z12 ?_
    refine Gl rfl rfl Z2 Z7 ?_
    refine Gp rfl rfl Z2 Z1 ?_
    refine RunTo.guardOnM rfl rfl (by decide) Z2 (RunOn.tree rfl rfl (by decide) Z1 Z1 (by assumption) Z8 (by exact hA) ?_)
    refine Rp rfl Z1 ?_
    refine Rp rfl Z1 ?_
    refine Gp rfl rfl Z2 Z12 ?_
    refine Gl rfl rfl Z2 Z7 ?_
    refine RunTo.guardOnM rfl rfl (by decide) Z2 (RunOn.tree rfl rfl (by decide) Z1 Z1 (by assumption) Z8 Z134 ?_)
    refine Gp rfl rfl Z2 Z19 ?_
    refine Gl rfl rfl Z2 Z7 ?_
    refine Gp rfl rfl Z2 Z27 ?_
    refine Gp rfl rfl Z2 Z44 ?_
    refine Rp rfl Z1 ?_
    refine Rp rfl Z1 ?_
    refine Gp rfl rfl Z2 Z19 ?_
    refine Gl rfl rfl Z2 Z7 ?_
    refine Gp rfl rfl Z2 Z27 ?_
    refine Gp rfl rfl Z2 Z28 ?_
    refine Rp rfl Z1 ?_
    refine Rp rfl Z1 ?_
    refine Gl rfl rfl Z2 Z14 ?_
    refine RunTo.guardOnM rfl rfl (by decide) Z2 (RunOn.tree rfl rfl (by decide) Z1 Z1 (by assumption) Z8 (by exact hB) ?_)
    refine Rp rfl Z1 ?_
    refine RunTo.nil ?_
    refine Ev.condF Z1 ?_
    refine Ev.skip ?_
    refine Ev.seq ?_
    refine Ev.rg [0, 1, 2, 3, 4, 5, 6, 7, 8, 9, 10, 11, 12] ?_
    refine Rp rfl Z12 ?_
    refine Rl rfl Z7 ?_
    refine Rp rfl Z11 ?_
    refine Rl rfl Z7 ?_
    refine Rp rfl Z19 ?_
    refine Rl rfl Z7 ?_
    refine Rp rfl Z27 ?_
    refine RunTo.freeM rfl (RunOn.tree rfl rfl (by decide) Z1 Z1 (by assumption) Z8 (by exact hD) ?_)
    refine Rp rfl Z1 ?_
    refine Rp rfl Z1 ?_
    refine Rp rfl Z1 ?_
    refine Rp rfl Z1 ?_
    refine Rp rfl Z1 ?_
    refine RunTo.nil ?_
    refine Ev.seq ?_
    refine Ev.seq ?_
    refine Ev.rg [0, 1, 2] ?_
    refine Rp rfl Z1 ?_
    by_cases hG0 : G = []
    · rw [show rgN true G = nilS from if_pos hG0]
      refine Rp rfl Z47 ?_
      refine Rp rfl Z1 ?_
      refine RunTo.nil ?_
      refine Ev.block ?_
      refine Ev.unroll ?_
      refine Ev.seq ?_
      refine Ev.rg [0] ?_
      refine Rp rfl Z18 ?_
      refine RunTo.nil ?_
      refine Ev.seq ?_
      refine Ev.condF Z1 ?_
      refine Ev.exit ?_
      refine thenE_ext ?_
      refine thenE_ext ?_
      refine inBlock_pos ?_
      refine Ev.seq ?_
      refine Ev.rg [0] ?_
      refine Rp rfl Z1 ?_
      refine RunTo.nil ?_
      refine Ev.ret ⟨.inr rfl, _, res1, ?_⟩
      simp only [lk_up, lk_lf, Nat.reduceEqDiff, Nat.reduceLT, reduceIte, if_true, if_false, Nat.zero_add, i64, bo, u8, nilS, List.take_succ_cons, List.take_zero, List.drop_zero, List.drop_succ_cons]
      exact frz_sc
    · rw [show rgN true G = rgV true G none from if_neg hG0]
      refine Rp rfl Z33 ?_
      refine Rp rfl Z1 ?_
      refine RunTo.nil ?_
      refine Ev.block ?_
      refine Ev.loop (fun (y : List Rg × List Rg) s => G = y.1 ++ y.2 ∧ ∃ tm hp L w, s = ⟨108, tm, hp⟩ ∧ IsH hp L w ∧ L[0]? = some (some [.sc (.int .i64 0), .sc (.bool false), .sc (.int .i64 ln), byV false x.D none, rgV false x.R none]) ∧ L.length ≤ 1 + y.1.length ∧ lk tm 1 = .ptr 0 0 ∧ lk tm 93 = rgV true G none ∧ lk tm 94 = .sc (.int .i64 G.length) ∧ lk tm 95 = .sc (.int .i64 y.1.length)) (fun y => y.2.length) ?_ (x := ([], G)) ⟨rfl, _, _, _, _, rfl, hI1, rfl, by simp, ?_, ?_, ?_, ?_⟩
      · rintro ⟨l1, l2⟩ s ⟨hl, tm, hp, L, w, rfl, hI4, h0, hLn, k1, k93, k94, k95⟩
        simp only at hl hLn k95
        cases l2 with
        | nil =>
          have hlen : G.length = l1.length := by rw [hl]; simp
          refine Ev.seq ?_
          refine Ev.rg [0] ?_
          refine Rp rfl (Z39 (Y4 k1 k93 k94 k95)) ?_
          refine RunTo.nil ?_
          refine Ev.seq ?_
          refine Ev.condF (Z3 (Y4 k1 k93 k94 k95)) ?_
          refine Ev.exit ?_
          refine thenE_ext ?_
          refine inBlock_pos ?_
          refine Ev.seq ?_
          refine Ev.rg [0] ?_
          refine Rp rfl (Z3 (Y4 k1 k93 k94 k95)) ?_
          refine RunTo.nil ?_
          refine Ev.ret ⟨.inr rfl, _, res1, ?_⟩
          simp only [lk_up, lk_lf, Nat.reduceEqDiff, Nat.reduceLT, reduceIte, if_true, if_false, Nat.zero_add, i64, bo, u8, nilS, List.take_succ_cons, List.take_zero, List.drop_zero, List.drop_succ_cons, k1, k93, k94, k95]
          exact frz_sc
        | cons r l2 =>
          obtain ⟨g1, g2, g3⟩ := hgap r (by rw [hl]; simp)
          have hlen : G.length = l1.length + l2.length + 1 := by rw [hl]; simp; omega
          have hcons : (l1 ++ [r]).length = l1.length + 1 := by simp
          have k93' : lk tm 93 = rgV true (l1 ++ r :: l2) none := by rw [k93, hl]
          have h0l := lt_of_get h0
          clear k93
          refine Ev.seq ?_
          refine Ev.rg [0] ?_
          refine Rp rfl (Z35 (Y4 k1 k94 k95 k93')) ?_
          refine RunTo.nil ?_
          refine Ev.seq ?_
          refine Ev.condT (Z3 (Y4 k1 k94 k95 k93')) ?_
          refine Ev.skip ?_
          refine Ev.seq ?_
          refine Ev.block ?_
          refine Ev.seq ?_
          refine Ev.rg [0, 1, 2, 3] ?_
          refine Rp rfl (Z50 (Y4 k1 k94 k95 k93')) ?_
          refine Rl rfl (Z64 (Y4 k1 k94 k95 k93')) ?_
          refine RunTo.freeM rfl (RunOn.madeL (k := _) hI4 rfl rfl (by decide) rfl (Z60 (Y4 k1 k94 k95 k93')) Z5 ?_)
          intro hp2 hI2
          refine RunTo.freeM rfl (RunOn.storeL (n := 3) hI2 rfl rfl (Z3 (Y4 k1 k94 k95 k93')) (Z3 (Y4 k1 k94 k95 k93')) (by kernel_rfl) Z6 Z6 (get_last _ _) Z9 Z5 ?_)
          intro hp3 hI3
          simp only [set_last, List.set_set, List.set_cons_zero, List.set_cons_succ, List.take_succ_cons, List.take_zero, List.drop_succ_cons, List.drop_zero, Eng.setMany, evc, Nat.zero_add, Nat.reduceAdd, Nat.reduceMul, Nat.reduceSub] at hI3
          refine RunTo.nil ?_
          refine Ev.seq ?_
          refine Ev.rg [0, 1, 2, 3, 4, 5, 6, 7] ?_
          refine Rp rfl (Z117 (Y4 k1 k94 k95 k93')) ?_
          refine Rl rfl (Z51 (Y4 k1 k94 k95 k93')) ?_
          refine Rp rfl (Z23 (Y4 k1 k94 k95 k93')) ?_
          refine Rl rfl (Z29 (Y4 k1 k94 k95 k93')) ?_
          refine Rp rfl (Z43 (Y4 k1 k94 k95 k93')) ?_
          refine Rl rfl (Z29 (Y4 k1 k94 k95 k93')) ?_
          refine Rp rfl (by ((conv => lhs; simp only [evs, evm, lk_up, lk_lf, Nat.reduceEqDiff, Nat.reduceLT, reduceIte, if_true, if_false, i64, bo, u8, nilS, Bool.not_true, Bool.not_false, List.take_succ_cons, List.take_zero, List.drop_zero, List.drop_succ_cons, List.toList_toArray, Int.reduceToNat, Nat.reduceMul, Nat.reduceAdd, Nat.reduceSub, Nat.zero_add, k1, k94, k95, k93']); exact pSlice_lh (Z3 (Y4 k1 k94 k95 k93')) (Z3 (Y4 k1 k94 k95 k93')) (Z3 (Y4 k1 k94 k95 k93')) (slice_by_lh (n := r.1) (m := r.2) (by kernel_rfl) rfl rfl (by omega) (by omega)))) ?_
          refine RunTo.freeM rfl (RunOn.tree rfl rfl (by decide) (Z3 (Y4 k1 k94 k95 k93')) (Z3 (Y4 k1 k94 k95 k93')) (by assumption) Z8 (by exact F303_eq (by simp; omega) g3) ?_)
          refine RunTo.nil ?_
          refine Ev.condF (Z3 (Y4 k1 k94 k95 k93')) ?_
          refine Ev.skip ?_
          refine Ev.rg [0, 1] ?_
          refine Rp rfl (Z36 (Y4 k1 k94 k95 k93')) ?_
          refine Rp rfl (Z3 (Y4 k1 k94 k95 k93')) ?_
          refine RunTo.nil ?_
          refine ⟨(l1 ++ [r], l2), ⟨by rw [hl]; simp, _, _, _, _, rfl, hI3, get_app h0, by simp; omega, ?_, ?_, ?_, ?_⟩, by simp⟩
          · exact (Z3 (Y4 k1 k94 k95 k93'))
          · rw [hl]
            exact (Z3 (Y4 k1 k94 k95 k93'))
          · exact (Z3 (Y4 k1 k94 k95 k93'))
          · rw [hcons]
            exact (Z3 (Y4 k1 k94 k95 k93'))
      · exact Z1
      · exact Z1
      · exact Z1
      · exact Z1
end
end Go.Eng
end
section
set_option linter.unusedVariables false
set_option linter.unusedSimpArgs false
set_option maxRecDepth 100000
set_option maxHeartbeats 4000000
namespace Go.Eng
open Go Go.RowKit Go.Proofs
section
variable (p : Poly) (T : List (Nat × (List AV → Option AV)))
theorem w143 (h : (envL p T).sp 143 = none) (h142 : (envL p T).sp 142 = some (treeSp F142)) (h244 : (envL p T).sp 244 = some (treeSp F244)) (h112 : (envL p T).sp 112 = some (treeSp F112)) (h117 : (envL p T).sp 117 = some (treeSp F117)) (m : Nm) (hv : VSt m) : CallTo (envL p T) 143 [.rp false m.c] Hp.empty fun v hp' => frz true hp' 20 v = some (bo true) := by
  have hI := IsH.empty
  cases hv with
  | init =>
    unfold Nm.c stC Par.v
    refine CallTo.body (c := (Tryz.f143.body.getD .skip)) (nt := 125) (rs := #[.tmp 2]) (by assumption) (by kernel_rfl) ⟨by simp, by decide⟩ ?_
    show Ev _ (Code.seq _ _) _ _
    simp only [tmOf_cons, tmOf_nil, i64, bo, u8, nilS, Nat.zero_add, Nat.reduceAdd]
    refine Ev.seq ?_
    refine Ev.rg [0] ?_
    refine Rp rfl Z1 ?_
    refine RunTo.nil ?_
    refine Ev.seq ?_
    refine Ev.rg [0, 1, 2, 3, 4, 5, 6] ?_
    refine Rp rfl Z1 ?_
    refine Rp rfl Z1 ?_
    refine Rp rfl Z21 ?_
    refine Rp rfl Z59 ?_
    refine Rl rfl Z13 ?_
    refine Rp rfl Z47 ?_
    refine Rp rfl Z1 ?_
    refine RunTo.nil ?_
    refine Ev.seq ?_
    refine Ev.seq ?_
    refine Ev.rg [0, 1] ?_
    refine Rp rfl Z1 ?_
    refine Rp rfl Z26 ?_
    refine RunTo.nil ?_
    refine Ev.condT Z1 ?_
    refine Ev.seq ?_
    refine Ev.draw (M := [0, 1, 3, 7, 15, 0, 32, 96, 224, 480, 1023, 2047]) (l := [0, 1, 2, 3, 4, 5, 6, 7, 8, 9, 10, 11]) (by kernel_rfl) (by kernel_rfl) (by kernel_rfl) ?_
    refine Rp rfl Z1 ?_
    refine Rp rfl Z1 ?_
    refine Rp rfl Z21 ?_
    refine Rp rfl Z118 ?_
    refine Rl rfl Z13 ?_
    refine Rp rfl Z1 ?_
    refine Rp rfl Z1 ?_
    refine Rp rfl Z21 ?_
    refine Rp rfl Z135 ?_
    refine Rl rfl Z13 ?_
    refine Rp rfl Z26 ?_
    refine Rp rfl Z1 ?_
    refine RunTo.nil ?_
    refine Ev.ret ⟨.inr rfl, _, res1, ?_⟩
    simp only [lk_up, lk_lf, Nat.reduceEqDiff, Nat.reduceLT, reduceIte, if_true, if_false, Nat.zero_add, i64, bo, u8, nilS, List.take_succ_cons, List.take_zero, List.drop_zero, List.drop_succ_cons]
    exact frz_sc
  | fin cap =>
    unfold Nm.c stC Par.v
    refine CallTo.body (c := (Tryz.f143.body.getD .skip)) (nt := 125) (rs := #[.tmp 2]) (by assumption) (by kernel_rfl) ⟨by simp, by decide⟩ ?_
    show Ev _ (Code.seq _ _) _ _
    simp only [tmOf_cons, tmOf_nil, i64, bo, u8, nilS, Nat.zero_add, Nat.reduceAdd]
    refine Ev.seq ?_
    refine Ev.rg [0] ?_
    refine Rp rfl Z1 ?_
    refine RunTo.nil ?_
    refine Ev.seq ?_
    refine Ev.rg [0, 1, 2, 3, 4, 5, 6] ?_
    refine Rp rfl Z1 ?_
    refine Rp rfl Z1 ?_
    refine Rp rfl Z21 ?_
    refine Rp rfl Z59 ?_
    refine Rl rfl Z13 ?_
    refine Rp rfl Z48 ?_
    refine Rp rfl Z1 ?_
    refine RunTo.nil ?_
    refine Ev.seq ?_
    refine Ev.seq ?_
    refine Ev.rg [0, 1] ?_
    refine Rp rfl Z1 ?_
    refine Rp rfl Z26 ?_
    refine RunTo.nil ?_
    refine Ev.condT Z1 ?_
    refine Ev.seq ?_
    refine Ev.draw (M := [0, 1, 3, 7, 15, 0, 32, 96, 224, 480, 1023, 2047]) (l := [0, 1, 2, 3, 4, 5, 6, 7, 8, 9, 10, 11]) (by kernel_rfl) (by kernel_rfl) (by kernel_rfl) ?_
    refine Rp rfl Z1 ?_
    refine Rp rfl Z1 ?_
    refine Rp rfl Z21 ?_
    refine Rp rfl Z118 ?_
    refine Rl rfl Z13 ?_
    refine Rp rfl Z1 ?_
    refine Rp rfl Z1 ?_
    refine Rp rfl Z21 ?_
    refine Rp rfl Z135 ?_
    refine Rl rfl Z13 ?_
    refine Rp rfl Z26 ?_
    refine Rp rfl Z1 ?_
    refine RunTo.nil ?_
    refine Ev.ret ⟨.inr rfl, _, res1, ?_⟩
    simp only [lk_up, lk_lf, Nat.reduceEqDiff, Nat.reduceLT, reduceIte, if_true, if_false, Nat.zero_add, i64, bo, u8, nilS, List.take_succ_cons, List.take_zero, List.drop_zero, List.drop_succ_cons]
    exact frz_sc
  | mid x cap hx hxl =>
    have hA : F142 [.rp false (Nm.c ⟨0, 1, 1, 1, 3, true, .one x none none cap⟩), i64 0] = some (bo true) := F142_eq (by decide)
    have hB : F244 [.agg (x.cells false none none)] = some (bo true) := F244_eq hx (by omega)
    have hC : F112 [.rp false (Nm.c ⟨0, 1, 1, 1, 3, true, .one x none none cap⟩), i64 0] = some (i64 0) := F112_eq (n := 0) (by simp)
    have hD : F112 [.rp false (Nm.c ⟨0, 1, 1, 1, 3, true, .one x none none cap⟩), i64 1] = some (i64 1) := F112_eq (n := 1) (by simp)
    have hE : F117 [.rp false (Nm.c ⟨0, 1, 1, 1, 3, true, .one x none none cap⟩), i64 0] = some (i64 1) := F117_eq (n := 0) (by decide)
    unfold Nm.c stC Par.v at *
    unfold Pt.cells paC at *
    refine CallTo.body (c := (Tryz.f143.body.getD .skip)) (nt := 125) (rs := #[.tmp 2]) (by assumption) (by kernel_rfl) ⟨by simp, by decide⟩ ?_
    show Ev _ (Code.seq _ _) _ _
    simp only [tmOf_cons, tmOf_nil, i64, bo, u8, nilS, Nat.zero_add, Nat.reduceAdd]
    refine Ev.seq ?_
    refine Ev.rg [0] ?_
    refine Rp rfl Z1 ?_
    refine RunTo.nil ?_
    refine Ev.seq ?_
    refine Ev.rg [0, 1, 2, 3, 4, 5, 6] ?_
    refine Rp rfl Z1 ?_
    refine Rp rfl Z1 ?_
    refine Rp rfl Z21 ?_
    refine Rp rfl Z59 ?_
    refine Rl rfl Z13 ?_
    refine Rp rfl Z48 ?_
    refine Rp rfl Z1 ?_
    refine RunTo.nil ?_
    refine Ev.seq ?_
    refine Ev.seq ?_
    refine Ev.rg [0, 1] ?_
    refine Rp rfl Z1 ?_
    refine Rp rfl Z45 ?_
    refine RunTo.nil ?_
    refine Ev.condF Z1 ?_
    refine Ev.skip ?_
    refine Ev.seq ?_
    refine Ev.seq ?_
    refine Ev.rg [0, 1, 2, 3, 4, 5, 6] ?_
    refine Rp rfl Z1 ?_
    refine Rp rfl Z1 ?_
    refine Rp rfl Z21 ?_
    refine Rp rfl Z59 ?_
    refine Rl rfl Z13 ?_
    refine Rp rfl Z48 ?_
    refine Rp rfl Z1 ?_
    refine RunTo.nil ?_
    refine Ev.block ?_
    refine Ev.unroll ?_
    refine Ev.seq ?_
    refine Ev.rg [0] ?_
    refine Rp rfl Z25 ?_
    refine RunTo.nil ?_
    refine Ev.seq ?_
    refine Ev.condT Z1 ?_
    refine Ev.skip ?_
    refine Ev.seq ?_
    refine Ev.block ?_
    refine Ev.seq ?_
    refine Ev.rg [0, 1, 2, 3, 4, 5] ?_
    refine Rp rfl Z1 ?_
    refine Rp rfl Z67 ?_
    refine Rl rfl Z76 ?_
    refine RunTo.freeM rfl (RunOn.madeL (k := 0) hI rfl rfl (by decide) rfl Z119 Z5 ?_)
    intro hp1 hI1
    simp only [List.cons_append, List.nil_append, evc, repA, Eng.setMany, List.set_cons_zero, List.set_cons_succ, Nat.zero_mul, Nat.one_mul, List.take_succ_cons, List.take_zero, List.drop_zero, List.drop_succ_cons, Nat.zero_add, Nat.reduceAdd, Nat.reduceMul] at hI1
    refine Rp rfl Z1 ?_
    refine RunTo.freeM rfl (RunOn.storeL (n := 5) hI1 rfl rfl Z1 Z1 (by kernel_rfl) Z6 Z6 (by rfl) Z9 Z5 ?_)
    intro hp2 hI2
    simp only [set_last, List.set_set, List.set_cons_zero, List.set_cons_succ, List.take_succ_cons, List.take_zero, List.drop_succ_cons, List.drop_zero, Eng.setMany, evc, Nat.zero_add, Nat.reduceAdd, Nat.reduceMul, Nat.reduceSub] at hI2
    refine RunTo.nil ?_
    refine Ev.seq ?_
    refine Ev.draw (M := [0, 0, 2, 7, 15, 31, 63, 127, 255, 511, 1023, 2047, 2047, 6143, 16383, 2047, 2047, 67583, 198655, 460799, 985087, 2097151, 4194303, 8388607, 16777215, 33554431, 67108863, 134217727, 268435455, 268435455, 805306367, 2147483647, 268435455, 268435455, 8858370047, 26038239231, 60397977599, 129117454335, 268435455, 275146342399, 1091190128639, 2190701756415, 4389725011967, 8796093022207, 17592186044415, 35184372088831, 70368744177663]) (l := [0, 1, 2, 3, 4, 5, 6, 7, 8, 9, 10, 11, 12, 13, 14, 15, 16, 17, 18, 19, 20, 21, 22, 23, 24, 25, 26, 27, 28, 29, 30, 31, 32, 33, 34, 35, 36, 37, 38, 39, 40, 41, 42, 43, 44, 45, 46]) (by kernel_rfl) (by kernel_rfl) (by kernel_rfl) ?_
    refine Rp rfl Z1 ?_
    refine Rp rfl Z11 ?_
    refine Rl rfl Z7 ?_
    refine RunTo.freeM rfl (RunOn.tree rfl rfl (by decide) Z1 Z1 (by assumption) Z8 (by exact hA) ?_)
    refine Rp rfl Z16 ?_
    refine Rp rfl Z1 ?_
    refine Gl rfl rfl Z2 Z14 ?_
    refine RunTo.guardOnM rfl rfl (by decide) Z2 (RunOn.tree rfl rfl (by decide) Z1 Z1 (by assumption) Z8 (by exact hB) ?_)
    refine Gp rfl rfl Z2 Z16 ?_
    refine Rp rfl Z1 ?_
    refine Rp rfl Z1 ?_
    refine Gp rfl rfl Z2 Z1 ?_
    refine Gp rfl rfl Z2 Z11 ?_
    refine Gl rfl rfl Z2 Z7 ?_
    refine RunTo.guardOnM rfl rfl (by decide) Z2 (RunOn.tree rfl rfl (by decide) Z1 Z1 (by assumption) Z8 (by exact hC) ?_)
    refine Gp rfl rfl Z2 Z1 ?_
    refine Gp rfl rfl Z2 Z1 ?_
    refine Gp rfl rfl Z2 Z1 ?_
    refine Gp rfl rfl Z2 Z21 ?_
    refine Gp rfl rfl Z2 Z118 ?_
    refine Gl rfl rfl Z2 Z13 ?_
    refine RunTo.guardOnM rfl rfl (by decide) Z2 (RunOn.tree rfl rfl (by decide) Z1 Z1 (by assumption) Z8 (by exact hD) ?_)
    refine Gp rfl rfl Z2 Z58 ?_
    refine Rp rfl Z1 ?_
    refine Rp rfl Z1 ?_
    refine Gp rfl rfl Z2 Z1 ?_
    refine Gp rfl rfl Z2 Z28 ?_
    refine Gp rfl rfl Z2 Z1 ?_
    refine Gf rfl rfl Z2 ?_
    refine Gf rfl rfl Z2 ?_
    refine Gf rfl rfl Z2 ?_
    refine Gf rfl rfl Z2 ?_
    refine Gf rfl rfl Z2 ?_
    refine Gf rfl rfl Z2 ?_
    refine Gf rfl rfl Z2 ?_
    refine Gf rfl rfl Z2 ?_
    refine Gf rfl rfl Z2 ?_
    refine Gf rfl rfl Z2 ?_
    refine Gf rfl rfl Z2 ?_
    refine Gf rfl rfl Z2 ?_
    refine Gf rfl rfl Z2 ?_
    refine Gf rfl rfl Z2 ?_
    refine Gf rfl rfl Z2 ?_
    refine Gf rfl rfl Z2 ?_
    refine Gf rfl rfl Z2 ?_
    refine Gp rfl rfl Z2 Z1 ?_
    refine Rp rfl Z1 ?_
    refine RunTo.nil ?_
    refine Ev.condF Z1 ?_
    refine Ev.skip ?_
    refine Ev.rg [0, 1] ?_
    refine Rp rfl Z38 ?_
    refine Rp rfl Z1 ?_
    refine RunTo.nil ?_
    refine Ev.unroll ?_
    refine Ev.seq ?_
    refine Ev.rg [0] ?_
    refine Rp rfl Z18 ?_
    refine RunTo.nil ?_
    refine Ev.seq ?_
    refine Ev.condF Z1 ?_
    refine Ev.exit ?_
    refine thenE_ext ?_
    refine thenE_ext ?_
    refine inBlock_pos ?_
    refine Ev.seq ?_
    refine Ev.rg [0, 1, 2, 3, 4, 5, 6, 7, 8] ?_
    refine Rp rfl Z1 ?_
    refine Rp rfl Z1 ?_
    refine Rp rfl Z21 ?_
    refine Rp rfl Z59 ?_
    refine Rl rfl Z13 ?_
    refine Rp rfl Z67 ?_
    refine Rl rfl Z76 ?_
    refine RunTo.freeM rfl (RunOn.madeL (k := 1) hI2 rfl rfl (by decide) rfl Z119 Z5 ?_)
    intro hp3 hI3
    simp only [List.cons_append, List.nil_append, evc, repA, Eng.setMany, List.set_cons_zero, List.set_cons_succ, Nat.zero_mul, Nat.one_mul, List.take_succ_cons, List.take_zero, List.drop_zero, List.drop_succ_cons, Nat.zero_add, Nat.reduceAdd, Nat.reduceMul] at hI3
    refine RunTo.freeM rfl (RunOn.storeL (n := 5) hI3 rfl rfl Z1 Z1 (by kernel_rfl) Z6 Z6 (by rfl) Z9 Z5 ?_)
    intro hp4 hI4
    simp only [set_last, List.set_set, List.set_cons_zero, List.set_cons_succ, List.take_succ_cons, List.take_zero, List.drop_succ_cons, List.drop_zero, Eng.setMany, evc, Nat.zero_add, Nat.reduceAdd, Nat.reduceMul, Nat.reduceSub] at hI4
    refine RunTo.nil ?_
    refine Ev.seq ?_
    refine Ev.draw (M := [0, 1, 3, 7, 15, 7, 39, 103, 231, 487, 1023, 2047, 4095, 8191, 16383, 16383, 49151, 114687, 245759, 507903, 16383, 1064959, 4177919, 8372223, 16760831, 33554431, 16383, 67125247, 201342975, 469778431, 1006649343, 2147483647, 4294967295, 8589934591]) (l := [0, 1, 2, 3, 4, 5, 6, 7, 8, 9, 10, 11, 12, 13, 14, 15, 16, 17, 18, 19, 20, 21, 22, 23, 24, 25, 26, 27, 28, 29, 30, 31, 32, 33]) (by kernel_rfl) (by kernel_rfl) (by kernel_rfl) ?_
    refine Rp rfl Z17 ?_
    refine Rl rfl Z7 ?_
    refine Rp rfl Z1 ?_
    refine Gf rfl rfl Z2 ?_
    refine Gf rfl rfl Z2 ?_
    refine Gf rfl rfl Z2 ?_
    refine Gf rfl rfl Z2 ?_
    refine Gf rfl rfl Z2 ?_
    refine Gf rfl rfl Z2 ?_
    refine Gf rfl rfl Z2 ?_
    refine Gf rfl rfl Z2 ?_
    refine Rp rfl Z1 ?_
    refine Rp rfl Z16 ?_
    refine Rp rfl Z1 ?_
    refine Gp rfl rfl Z2 Z1 ?_
    refine Gp rfl rfl Z2 Z1 ?_
    refine Gp rfl rfl Z2 Z1 ?_
    refine Gp rfl rfl Z2 Z21 ?_
    refine Gp rfl rfl Z2 Z59 ?_
    refine Gl rfl rfl Z2 Z13 ?_
    refine Gp rfl rfl Z2 Z1 ?_
    refine Gp rfl rfl Z2 Z57 ?_
    refine Gp rfl rfl Z2 Z67 ?_
    refine Gp rfl rfl Z2 Z21 ?_
    refine Gl rfl rfl Z2 Z13 ?_
    refine RunTo.guardOnM rfl rfl (by decide) Z2 (RunOn.tree rfl rfl (by decide) Z1 Z1 (by assumption) Z8 (by exact hE) ?_)
    refine Gp rfl rfl Z2 Z1 ?_
    refine Gp rfl rfl Z2 Z1 ?_
    refine Gp rfl rfl Z2 Z21 ?_
    refine Gp rfl rfl Z2 Z118 ?_
    refine Gl rfl rfl Z2 Z13 ?_
    refine Gp rfl rfl Z2 Z26 ?_
    refine Rp rfl Z1 ?_
    refine Rp rfl Z1 ?_
    refine RunTo.nil ?_
    refine Ev.ret ⟨.inr rfl, _, res1, ?_⟩
    simp only [lk_up, lk_lf, Nat.reduceEqDiff, Nat.reduceLT, reduceIte, if_true, if_false, Nat.zero_add, i64, bo, u8, nilS, List.take_succ_cons, List.take_zero, List.drop_zero, List.drop_succ_cons]
    exact frz_sc
theorem w46 (h : (envL p T).sp 46 = none) (h102 : (envL p T).sp 102 = some (treeSp F102)) (h142 : (envL p T).sp 142 = some (treeSp F142)) (h143 : (envL p T).sp 143 = some (treeSp F143)) (h112 : (envL p T).sp 112 = some (treeSp F112)) (m : Nm) (hv : VSt m) : CallTo (envL p T) 46 [.agg m.c] Hp.empty fun v hp' => frz true hp' 20 v = some (bo true) := by
  have hI := IsH.empty
  have hV : F143 [.rp false m.c] = some (bo true) := F143_eq hv
  cases hv with
  | init =>
    have hA : F142 [.rp false (Nm.c ⟨0, 0, 0, -1, 0, false, .none⟩), i64 0] = some (bo true) := F142_eq (by decide)
    have hC : F112 [.rp false (Nm.c ⟨0, 0, 0, -1, 0, false, .none⟩), i64 0] = some (i64 0) := F112_eq (n := 0) (by simp)
    unfold Nm.c stC Par.v at *
    refine CallTo.body (c := (Tryz.f46.body.getD .skip)) (nt := 108) (rs := #[.tmp 2]) (by assumption) (by kernel_rfl) ⟨by simp, by decide⟩ ?_
    show Ev _ (Code.seq _ _) _ _
    simp only [tmOf_cons, tmOf_nil, i64, bo, u8, nilS, Nat.zero_add, Nat.reduceAdd]
    refine Ev.seq ?_
    refine Ev.rg [0, 1] ?_
    refine RunTo.freeM rfl (RunOn.madeL (k := 0) hI rfl rfl (by decide) rfl Z15 Z5 ?_)
    intro hp1 hI1
    simp only [List.cons_append, List.nil_append, evc, repA, Eng.setMany, List.set_cons_zero, List.set_cons_succ, Nat.zero_mul, Nat.one_mul, List.take_succ_cons, List.take_zero, List.drop_zero, List.drop_succ_cons, Nat.zero_add, Nat.reduceAdd, Nat.reduceMul] at hI1
    refine Rp rfl Z1 ?_
    refine RunTo.nil ?_
    refine Ev.seq ?_
    refine Ev.rg [0, 1, 2, 3] ?_
    refine Rl rfl Z52 ?_
    refine Rp rfl Z77 ?_
    refine RunTo.freeM rfl (RunOn.madeL (k := 1) hI1 rfl rfl (by decide) rfl Z15 Z5 ?_)
    intro hp2 hI2
    simp only [List.cons_append, List.nil_append, evc, repA, Eng.setMany, List.set_cons_zero, List.set_cons_succ, Nat.zero_mul, Nat.one_mul, List.take_succ_cons, List.take_zero, List.drop_zero, List.drop_succ_cons, Nat.zero_add, Nat.reduceAdd, Nat.reduceMul] at hI2
    refine Rp rfl Z1 ?_
    refine RunTo.nil ?_
    refine Ev.seq ?_
    refine Ev.seq ?_
    refine Ev.rg [0, 1, 2, 3, 4, 5, 6, 7, 8, 9, 10, 11, 12, 13, 14, 15, 16, 17, 18, 19, 20, 21, 22, 23, 24] ?_
    refine Rp rfl Z11 ?_
    refine Rl rfl Z136 ?_
    refine RunTo.freeM rfl (RunOn.tree rfl rfl (by decide) Z1 Z1 (by assumption) Z8 Z137 ?_)
    refine Rp rfl Z16 ?_
    refine Rp rfl Z1 ?_
    refine Gp rfl rfl Z2 Z1 ?_
    refine Gp rfl rfl Z2 Z37 ?_
    refine Gl rfl rfl Z2 Z7 ?_
    refine RunTo.guardOnM rfl rfl (by decide) Z2 (RunOn.tree rfl rfl (by decide) Z1 Z1 (by assumption) Z8 (by exact hA) ?_)
    refine Gp rfl rfl Z2 Z16 ?_
    refine Rp rfl Z1 ?_
    refine Rp rfl Z1 ?_
    refine Gp rfl rfl Z2 Z1 ?_
    refine Gp rfl rfl Z2 Z53 ?_
    refine Gl rfl rfl Z2 Z7 ?_
    refine RunTo.guardOnM rfl rfl (by decide) Z2 (RunOn.tree rfl rfl (by decide) Z1 Z1 (by assumption) Z8 (by exact hA) ?_)
    refine Gp rfl rfl Z2 Z16 ?_
    refine Rp rfl Z1 ?_
    refine Rp rfl Z1 ?_
    refine Gp rfl rfl Z2 Z1 ?_
    refine Gp rfl rfl Z2 Z42 ?_
    refine Gl rfl rfl Z2 Z7 ?_
    refine RunTo.guardOnM rfl rfl (by decide) Z2 (RunOn.tree rfl rfl (by decide) Z1 Z1 (by assumption) Z8 (by exact hA) ?_)
    refine Gp rfl rfl Z2 Z16 ?_
    refine Rp rfl Z1 ?_
    refine RunTo.nil ?_
    refine Ev.condF Z1 ?_
    refine Ev.skip ?_
    refine Ev.seq ?_
    refine Ev.rg [0, 1, 2, 3, 4] ?_
    refine Rp rfl Z1 ?_
    refine Rp rfl Z53 ?_
    refine Rl rfl Z7 ?_
    refine RunTo.freeM rfl (RunOn.tree rfl rfl (by decide) Z1 Z1 (by assumption) Z8 (by exact hC) ?_)
    refine Rp rfl Z1 ?_
    refine RunTo.nil ?_
    refine Ev.seq ?_
    refine Ev.seq ?_
    refine Ev.rg [0, 1, 2, 3, 4, 5, 6, 7, 8, 9, 10, 11, 12, 13, 14, 15, 16, 17, 18, 19, 20, 21, 22, 23, 24, 25, 26, 27, 28, 29, 30, 31, 32] ?_
    refine Rp rfl Z1 ?_
    refine Rp rfl Z11 ?_
    refine Rp rfl Z11 ?_
    refine Rl rfl Z7 ?_
    refine Rp rfl Z71 ?_
    refine Rp rfl Z99 ?_
    refine Rp rfl Z28 ?_
    refine Rp rfl Z1 ?_
    refine Gp rfl rfl Z2 Z1 ?_
    refine Gp rfl rfl Z2 Z42 ?_
    refine Gl rfl rfl Z2 Z7 ?_
    refine RunTo.guardOnM rfl rfl (by decide) Z2 (RunOn.tree rfl rfl (by decide) Z1 Z1 (by assumption) Z8 (by exact hC) ?_)
    refine Gp rfl rfl Z2 Z1 ?_
    refine Gp rfl rfl Z2 Z28 ?_
    refine Rp rfl Z1 ?_
    refine Rp rfl Z1 ?_
    refine Gp rfl rfl Z2 Z101 ?_
    refine Gl rfl rfl Z2 Z7 ?_
    refine Gp rfl rfl Z2 Z18 ?_
    refine Rp rfl Z1 ?_
    refine Rp rfl Z1 ?_
    refine Gp rfl rfl Z2 Z101 ?_
    refine Gl rfl rfl Z2 Z7 ?_
    refine Gp rfl rfl Z2 Z11 ?_
    refine Gp rfl rfl Z2 Z12 ?_
    refine Gl rfl rfl Z2 Z7 ?_
    refine Gp rfl rfl Z2 Z28 ?_
    refine Rp rfl Z1 ?_
    refine Rp rfl Z1 ?_
    refine Gp rfl rfl Z2 Z1 ?_
    refine RunTo.guardOnM rfl rfl (by decide) Z2 (RunOn.tree rfl rfl (by decide) Z1 Z1 (by assumption) Z8 (by exact hV) ?_)
    refine Gp rfl rfl Z2 Z16 ?_
    refine Rp rfl Z1 ?_
    refine RunTo.nil ?_
    refine Ev.condF Z1 ?_
    refine Ev.skip ?_
    refine Ev.seq ?_
    refine Ev.seq ?_
    refine Ev.rg [0, 1, 2] ?_
    refine Rp rfl Z46 ?_
    refine Rl rfl Z7 ?_
    refine Rp rfl Z26 ?_
    refine RunTo.nil ?_
    refine Ev.condT Z1 ?_
    refine Ev.seq ?_
    refine Ev.rg [0, 1, 2, 3] ?_
    refine Rp rfl Z102 ?_
    refine Rl rfl Z7 ?_
    refine Rp rfl Z26 ?_
    refine Rp rfl Z1 ?_
    refine RunTo.nil ?_
    refine Ev.ret ⟨.inr rfl, _, res1, ?_⟩
    simp only [lk_up, lk_lf, Nat.reduceEqDiff, Nat.reduceLT, reduceIte, if_true, if_false, Nat.zero_add, i64, bo, u8, nilS, List.take_succ_cons, List.take_zero, List.drop_zero, List.drop_succ_cons]
    exact frz_sc
  | fin cap =>
    have hA : F142 [.rp false (Nm.c ⟨1, 1, 1, -1, 0, true, .gone cap⟩), i64 1] = some (bo true) := F142_eq (by decide)
    have hC : F112 [.rp false (Nm.c ⟨1, 1, 1, -1, 0, true, .gone cap⟩), i64 1] = some (i64 0) := F112_eq (n := 1) (by simp)
    unfold Nm.c stC Par.v at *
    refine CallTo.body (c := (Tryz.f46.body.getD .skip)) (nt := 108) (rs := #[.tmp 2]) (by assumption) (by kernel_rfl) ⟨by simp, by decide⟩ ?_
    show Ev _ (Code.seq _ _) _ _
    simp only [tmOf_cons, tmOf_nil, i64, bo, u8, nilS, Nat.zero_add, Nat.reduceAdd]
    refine Ev.seq ?_
    refine Ev.rg [0, 1] ?_
    refine RunTo.freeM rfl (RunOn.madeL (k := 0) hI rfl rfl (by decide) rfl Z15 Z5 ?_)
    intro hp1 hI1
    simp only [List.cons_append, List.nil_append, evc, repA, Eng.setMany, List.set_cons_zero, List.set_cons_succ, Nat.zero_mul, Nat.one_mul, List.take_succ_cons, List.take_zero, List.drop_zero, List.drop_succ_cons, Nat.zero_add, Nat.reduceAdd, Nat.reduceMul] at hI1
    refine Rp rfl Z1 ?_
    refine RunTo.nil ?_
    refine Ev.seq ?_
    refine Ev.rg [0, 1, 2, 3] ?_
    refine Rl rfl Z52 ?_
    refine Rp rfl Z77 ?_
    refine RunTo.freeM rfl (RunOn.madeL (k := 1) hI1 rfl rfl (by decide) rfl Z15 Z5 ?_)
    intro hp2 hI2
    simp only [List.cons_append, List.nil_append, evc, repA, Eng.setMany, List.set_cons_zero, List.set_cons_succ, Nat.zero_mul, Nat.one_mul, List.take_succ_cons, List.take_zero, List.drop_zero, List.drop_succ_cons, Nat.zero_add, Nat.reduceAdd, Nat.reduceMul] at hI2
    refine Rp rfl Z1 ?_
    refine RunTo.nil ?_
    refine Ev.seq ?_
    refine Ev.seq ?_
    refine Ev.rg [0, 1, 2, 3, 4, 5, 6, 7, 8, 9, 10, 11, 12, 13, 14, 15, 16, 17, 18, 19, 20, 21, 22, 23, 24] ?_
    refine Rp rfl Z11 ?_
    refine Rl rfl Z136 ?_
    refine RunTo.freeM rfl (RunOn.tree rfl rfl (by decide) Z1 Z1 (by assumption) Z8 Z137 ?_)
    refine Rp rfl Z16 ?_
    refine Rp rfl Z1 ?_
    refine Gp rfl rfl Z2 Z1 ?_
    refine Gp rfl rfl Z2 Z37 ?_
    refine Gl rfl rfl Z2 Z7 ?_
    refine RunTo.guardOnM rfl rfl (by decide) Z2 (RunOn.tree rfl rfl (by decide) Z1 Z1 (by assumption) Z8 (by exact hA) ?_)
    refine Gp rfl rfl Z2 Z16 ?_
    refine Rp rfl Z1 ?_
    refine Rp rfl Z1 ?_
    refine Gp rfl rfl Z2 Z1 ?_
    refine Gp rfl rfl Z2 Z53 ?_
    refine Gl rfl rfl Z2 Z7 ?_
    refine RunTo.guardOnM rfl rfl (by decide) Z2 (RunOn.tree rfl rfl (by decide) Z1 Z1 (by assumption) Z8 (by exact hA) ?_)
    refine Gp rfl rfl Z2 Z16 ?_
    refine Rp rfl Z1 ?_
    refine Rp rfl Z1 ?_
    refine Gp rfl rfl Z2 Z1 ?_
    refine Gp rfl rfl Z2 Z42 ?_
    refine Gl rfl rfl Z2 Z7 ?_
    refine RunTo.guardOnM rfl rfl (by decide) Z2 (RunOn.tree rfl rfl (by decide) Z1 Z1 (by assumption) Z8 (by exact hA) ?_)
    refine Gp rfl rfl Z2 Z16 ?_
    refine Rp rfl Z1 ?_
    refine RunTo.nil ?_
    refine Ev.condF Z1 ?_
    refine Ev.skip ?_
    refine Ev.seq ?_
    refine Ev.rg [0, 1, 2, 3, 4] ?_
    refine Rp rfl Z1 ?_
    refine Rp rfl Z53 ?_
    refine Rl rfl Z7 ?_
    refine RunTo.freeM rfl (RunOn.tree rfl rfl (by decide) Z1 Z1 (by assumption) Z8 (by exact hC) ?_)
    refine Rp rfl Z1 ?_
    refine RunTo.nil ?_
    refine Ev.seq ?_
    refine Ev.seq ?_
    refine Ev.rg [0, 1, 2, 3, 4, 5, 6, 7, 8, 9, 10, 11, 12, 13, 14, 15, 16, 17, 18, 19, 20, 21, 22, 23, 24, 25, 26, 27, 28, 29, 30, 31, 32] ?_
    refine Rp rfl Z1 ?_
    refine Rp rfl Z11 ?_
    refine Rp rfl Z11 ?_
    refine Rl rfl Z7 ?_
    refine Rp rfl Z71 ?_
    refine Rp rfl Z99 ?_
    refine Rp rfl Z28 ?_
    refine Rp rfl Z1 ?_
    refine Gp rfl rfl Z2 Z1 ?_
    refine Gp rfl rfl Z2 Z42 ?_
    refine Gl rfl rfl Z2 Z7 ?_
    refine RunTo.guardOnM rfl rfl (by decide) Z2 (RunOn.tree rfl rfl (by decide) Z1 Z1 (by assumption) Z8 (by exact hC) ?_)
    refine Gp rfl rfl Z2 Z1 ?_
    refine Gp rfl rfl Z2 Z28 ?_
    refine Rp rfl Z1 ?_
    refine Rp rfl Z1 ?_
    refine Gp rfl rfl Z2 Z101 ?_
    refine Gl rfl rfl Z2 Z7 ?_
    refine Gp rfl rfl Z2 Z18 ?_
    refine Rp rfl Z1 ?_
    refine Rp rfl Z1 ?_
    refine Gp rfl rfl Z2 Z101 ?_
    refine Gl rfl rfl Z2 Z7 ?_
    refine Gp rfl rfl Z2 Z11 ?_
    refine Gp rfl rfl Z2 Z12 ?_
    refine Gl rfl rfl Z2 Z7 ?_
    refine Gp rfl rfl Z2 Z28 ?_
    refine Rp rfl Z1 ?_
    refine Rp rfl Z1 ?_
    refine Gp rfl rfl Z2 Z1 ?_
    refine RunTo.guardOnM rfl rfl (by decide) Z2 (RunOn.tree rfl rfl (by decide) Z1 Z1 (by assumption) Z8 (by exact hV) ?_)
    refine Gp rfl rfl Z2 Z16 ?_
    refine Rp rfl Z1 ?_
    refine RunTo.nil ?_
    refine Ev.condF Z1 ?_
    refine Ev.skip ?_
    refine Ev.seq ?_
    refine Ev.seq ?_
    refine Ev.rg [0, 1, 2] ?_
    refine Rp rfl Z46 ?_
    refine Rl rfl Z7 ?_
    refine Rp rfl Z26 ?_
    refine RunTo.nil ?_
    refine Ev.condT Z1 ?_
    refine Ev.seq ?_
    refine Ev.rg [0, 1, 2, 3] ?_
    refine Rp rfl Z102 ?_
    refine Rl rfl Z7 ?_
    refine Rp rfl Z26 ?_
    refine Rp rfl Z1 ?_
    refine RunTo.nil ?_
    refine Ev.ret ⟨.inr rfl, _, res1, ?_⟩
    simp only [lk_up, lk_lf, Nat.reduceEqDiff, Nat.reduceLT, reduceIte, if_true, if_false, Nat.zero_add, i64, bo, u8, nilS, List.take_succ_cons, List.take_zero, List.drop_zero, List.drop_succ_cons]
    exact frz_sc
  | mid x cap hx hxl =>
    have hA : F142 [.rp false (Nm.c ⟨0, 1, 1, 1, 3, true, .one x none none cap⟩), i64 0] = some (bo true) := F142_eq (by decide)
    have hA1 : F142 [.rp false (Nm.c ⟨0, 1, 1, 1, 3, true, .one x none none cap⟩), i64 1] = some (bo true) := F142_eq (by decide)
    have hC : F112 [.rp false (Nm.c ⟨0, 1, 1, 1, 3, true, .one x none none cap⟩), i64 1] = some (i64 1) := F112_eq (n := 1) (by simp)
    unfold Nm.c stC Par.v at *
    unfold Pt.cells paC at *
    refine CallTo.body (c := (Tryz.f46.body.getD .skip)) (nt := 108) (rs := #[.tmp 2]) (by assumption) (by kernel_rfl) ⟨by simp, by decide⟩ ?_
    show Ev _ (Code.seq _ _) _ _
    simp only [tmOf_cons, tmOf_nil, i64, bo, u8, nilS, Nat.zero_add, Nat.reduceAdd]
    refine Ev.seq ?_
    refine Ev.rg [0, 1] ?_
    refine RunTo.freeM rfl (RunOn.madeL (k := 0) hI rfl rfl (by decide) rfl Z15 Z5 ?_)
    intro hp1 hI1
    simp only [List.cons_append, List.nil_append, evc, repA, Eng.setMany, List.set_cons_zero, List.set_cons_succ, Nat.zero_mul, Nat.one_mul, List.take_succ_cons, List.take_zero, List.drop_zero, List.drop_succ_cons, Nat.zero_add, Nat.reduceAdd, Nat.reduceMul] at hI1
    refine Rp rfl Z1 ?_
    refine RunTo.nil ?_
    refine Ev.seq ?_
    refine Ev.rg [0, 1, 2, 3] ?_
    refine Rl rfl Z52 ?_
    refine Rp rfl Z77 ?_
    refine RunTo.freeM rfl (RunOn.madeL (k := 1) hI1 rfl rfl (by decide) rfl Z15 Z5 ?_)
    intro hp2 hI2
    simp only [List.cons_append, List.nil_append, evc, repA, Eng.setMany, List.set_cons_zero, List.set_cons_succ, Nat.zero_mul, Nat.one_mul, List.take_succ_cons, List.take_zero, List.drop_zero, List.drop_succ_cons, Nat.zero_add, Nat.reduceAdd, Nat.reduceMul] at hI2
    refine Rp rfl Z1 ?_
    refine RunTo.nil ?_
    refine Ev.seq ?_
    refine Ev.seq ?_
    refine Ev.rg [0, 1, 2, 3, 4, 5, 6, 7, 8, 9, 10, 11, 12, 13, 14, 15, 16, 17, 18, 19, 20, 21, 22, 23, 24] ?_
    refine Rp rfl Z11 ?_
    refine Rl rfl Z136 ?_
    refine RunTo.freeM rfl (RunOn.tree rfl rfl (by decide) Z1 Z1 (by assumption) Z8 Z137 ?_)
    refine Rp rfl Z16 ?_
    refine Rp rfl Z1 ?_
    refine Gp rfl rfl Z2 Z1 ?_
    refine Gp rfl rfl Z2 Z37 ?_
    refine Gl rfl rfl Z2 Z7 ?_
    refine RunTo.guardOnM rfl rfl (by decide) Z2 (RunOn.tree rfl rfl (by decide) Z1 Z1 (by assumption) Z8 (by exact hA) ?_)
    refine Gp rfl rfl Z2 Z16 ?_
    refine Rp rfl Z1 ?_
    refine Rp rfl Z1 ?_
    refine Gp rfl rfl Z2 Z1 ?_
    refine Gp rfl rfl Z2 Z53 ?_
    refine Gl rfl rfl Z2 Z7 ?_
    refine RunTo.guardOnM rfl rfl (by decide) Z2 (RunOn.tree rfl rfl (by decide) Z1 Z1 (by assumption) Z8 (by exact hA1) ?_)
    refine Gp rfl rfl Z2 Z16 ?_
    refine Rp rfl Z1 ?_
    refine Rp rfl Z1 ?_
    refine Gp rfl rfl Z2 Z1 ?_
    refine Gp rfl rfl Z2 Z42 ?_
    refine Gl rfl rfl Z2 Z7 ?_
    refine RunTo.guardOnM rfl rfl (by decide) Z2 (RunOn.tree rfl rfl (by decide) Z1 Z1 (by assumption) Z8 (by exact hA1) ?_)
    refine Gp rfl rfl Z2 Z16 ?_
    refine Rp rfl Z1 ?_
    refine RunTo.nil ?_
    refine Ev.condF Z1 ?_
    refine Ev.skip ?_
    refine Ev.seq ?_
    refine Ev.rg [0, 1, 2, 3, 4] ?_
    refine Rp rfl Z1 ?_
    refine Rp rfl Z53 ?_
    refine Rl rfl Z7 ?_
    refine RunTo.freeM rfl (RunOn.tree rfl rfl (by decide) Z1 Z1 (by assumption) Z8 (by exact hC) ?_)
    refine Rp rfl Z1 ?_
    refine RunTo.nil ?_
    refine Ev.seq ?_
    refine Ev.seq ?_
    refine Ev.rg [0, 1, 2, 3, 4, 5, 6, 7, 8, 9, 10, 11, 12, 13, 14, 15, 16, 17, 18, 19, 20, 21, 22, 23, 24, 25, 26, 27, 28, 29, 30, 31, 32] ?_
    refine Rp rfl Z1 ?_
    refine Rp rfl Z11 ?_
    refine Rp rfl Z11 ?_
    refine Rl rfl Z7 ?_
    refine Rp rfl Z71 ?_
    refine Rp rfl Z99 ?_
    refine Rp rfl Z28 ?_
    refine Rp rfl Z1 ?_
    refine Gp rfl rfl Z2 Z1 ?_
    refine Gp rfl rfl Z2 Z42 ?_
    refine Gl rfl rfl Z2 Z7 ?_
    refine RunTo.guardOnM rfl rfl (by decide) Z2 (RunOn.tree rfl rfl (by decide) Z1 Z1 (by assumption) Z8 (by exact hC) ?_)
    refine Gp rfl rfl Z2 Z1 ?_
    refine Gp rfl rfl Z2 Z28 ?_
    refine Rp rfl Z1 ?_
    refine Rp rfl Z1 ?_
    refine Gp rfl rfl Z2 Z101 ?_
    refine Gl rfl rfl Z2 Z7 ?_
    refine Gp rfl rfl Z2 Z18 ?_
    refine Rp rfl Z1 ?_
    refine Rp rfl Z1 ?_
    refine Gp rfl rfl Z2 Z101 ?_
    refine Gl rfl rfl Z2 Z7 ?_
    refine Gp rfl rfl Z2 Z11 ?_
    refine Gp rfl rfl Z2 Z12 ?_
    refine Gl rfl rfl Z2 Z7 ?_
    refine Gp rfl rfl Z2 Z28 ?_
    refine Rp rfl Z1 ?_
    refine Rp rfl Z1 ?_
    refine Gp rfl rfl Z2 Z1 ?_
    refine RunTo.guardOnM rfl rfl (by decide) Z2 (RunOn.tree rfl rfl (by decide) Z1 Z1 (by assumption) Z8 (by exact hV) ?_)
    refine Gp rfl rfl Z2 Z16 ?_
    refine Rp rfl Z1 ?_
    refine RunTo.nil ?_
    refine Ev.condF Z1 ?_
    refine Ev.skip ?_
    refine Ev.seq ?_
    refine Ev.seq ?_
    refine Ev.rg [0, 1, 2] ?_
    refine Rp rfl Z46 ?_
    refine Rl rfl Z7 ?_
    refine Rp rfl Z45 ?_
    refine RunTo.nil ?_
    refine Ev.condF Z1 ?_
    refine Ev.skip ?_
    refine Ev.seq ?_
    refine Ev.rg [0, 1, 2, 3, 4, 5, 6, 7, 8, 9, 10, 11, 12, 13, 14, 15, 16, 17, 18, 19, 20, 21, 22, 23, 24, 25, 26, 27, 28, 29, 30, 31, 32] ?_
    refine Rp rfl Z1 ?_
    refine Rp rfl Z46 ?_
    refine Rl rfl Z7 ?_
    refine RunTo.freeM rfl (RunOn.tree rfl rfl (by decide) Z1 Z1 (by assumption) Z8 (by exact hA1) ?_)
    refine Rp rfl Z1 ?_
    refine Gp rfl rfl Z2 Z1 ?_
    refine Gp rfl rfl Z2 Z46 ?_
    refine Gl rfl rfl Z2 Z7 ?_
    refine RunTo.guardOnM rfl rfl (by decide) Z2 (RunOn.tree rfl rfl (by decide) Z1 Z1 (by assumption) Z8 (by exact hC) ?_)
    refine Gp rfl rfl Z2 Z78 ?_
    refine Rp rfl Z1 ?_
    refine Rp rfl Z1 ?_
    refine Gp rfl rfl Z2 Z1 ?_
    refine Gp rfl rfl Z2 Z46 ?_
    refine Gl rfl rfl Z2 Z7 ?_
    refine RunTo.guardOnM rfl rfl (by decide) Z2 (RunOn.tree rfl rfl (by decide) Z1 Z1 (by assumption) Z8 (by exact hC) ?_)
    refine Gp rfl rfl Z2 Z1 ?_
    refine Gp rfl rfl Z2 Z61 ?_
    refine Rp rfl Z1 ?_
    refine Rp rfl Z1 ?_
    refine Gp rfl rfl Z2 Z102 ?_
    refine Gl rfl rfl Z2 Z7 ?_
    refine Gp rfl rfl Z2 Z78 ?_
    refine Rp rfl Z1 ?_
    refine Rp rfl Z1 ?_
    refine Gp rfl rfl Z2 Z102 ?_
    refine Gl rfl rfl Z2 Z7 ?_
    refine Gp rfl rfl Z2 Z11 ?_
    refine Gp rfl rfl Z2 Z19 ?_
    refine Gl rfl rfl Z2 Z7 ?_
    refine Gp rfl rfl Z2 Z61 ?_
    refine Rp rfl Z1 ?_
    refine Rp rfl Z1 ?_
    refine RunTo.nil ?_
    refine Ev.ret ⟨.inr rfl, _, res1, ?_⟩
    simp only [lk_up, lk_lf, Nat.reduceEqDiff, Nat.reduceLT, reduceIte, if_true, if_false, Nat.zero_add, i64, bo, u8, nilS, List.take_succ_cons, List.take_zero, List.drop_zero, List.drop_succ_cons]
    exact frz_sc
end
end Go.Eng
end
section
set_option linter.unusedVariables false
set_option linter.unusedSimpArgs false
set_option maxRecDepth 100000
set_option maxHeartbeats 4000000
namespace Go.Eng
open Go Go.RowKit Go.Proofs
section
variable (p : Poly) (T : List (Nat × (List AV → Option AV)))
theorem w122 (h : (envL p T).sp 122 = none) (h227 : (envL p T).sp 227 = some (treeSp F227)) (h229 : (envL p T).sp 229 = some (treeSp F229)) (x : Pt) (cap : Option Nat) (hx : x.Ok) (hl : x.R.length ≤ 1000) : CallTo (envL p T) 122 [.rp false (Nm.c ⟨0, 1, 1, 1, 3, true, .one x none none cap⟩), i64 0] Hp.empty fun v hp' => frz true hp' 20 v = some (rgN true (gapsG (x.R ++ [(x.until, x.until)]) 0)) := by
  have hI := IsH.empty
  have hA : F227 [.ro false (x.cells false none none) 1 cap 5, .fn 228 [] [.rp false [i64 0]]] = some (i64 0) := F227_eq x none none cap
  have hm := hx.most
  have hB : F229 [rgV false x.R none, i64 0, i64 (x.until : Nat)] = some (.tup [rgN true (gapsG (x.R ++ [(x.until, x.until)]) 0), i64 0]) := by
    refine F229_eq hx.nrm hx.ne ?_ ?_ hl
    · unfold Pt.until
      cases hln : x.ln with
      | none => simp only; omega
      | some n => exact (hx.ln n hln).1
    · unfold Pt.until
      cases hln : x.ln with
      | none => exact Nat.le_refl _
      | some n => have := (hx.ln n hln).2; simp only; omega
  cases hln : x.ln with
  | none =>
    have e1 : x.len = -1 := by simp [Pt.len, hln]
    have e2 : x.until = 65535 := by simp [Pt.until, hln]
    rw [e2] at hB ⊢
    simp only [Nm.c, stC, Par.v, Pt.cells, paC, e1] at hA ⊢
    refine CallTo.body (c := (Tryz.f122.body.getD .skip)) (nt := 45) (rs := #[.tmp 4]) (by assumption) (by kernel_rfl) ⟨by simp, by decide⟩ ?_
    show Ev _ (Code.seq _ _) _ _
    simp only [tmOf_cons, tmOf_nil, i64, bo, u8, nilS, Nat.zero_add, Nat.reduceAdd]
    refine Ev.seq ?_
    refine Ev.rg [0, 1] ?_
    refine RunTo.freeM rfl (RunOn.madeL (k := 0) hI rfl rfl (by decide) rfl Z15 Z5 ?_)
    intro hp1 hI1
    simp only [List.cons_append, List.nil_append, evc, repA, Eng.setMany, List.set_cons_zero, List.set_cons_succ, Nat.zero_mul, Nat.one_mul, List.take_succ_cons, List.take_zero, List.drop_zero, List.drop_succ_cons, Nat.zero_add, Nat.reduceAdd, Nat.reduceMul] at hI1
    refine Rp rfl Z1 ?_
    refine RunTo.nil ?_
    refine Ev.seq ?_
    refine Ev.rg [0, 1, 2, 3, 4, 5, 6, 7] ?_
    refine Rp rfl Z1 ?_
    refine Rp rfl Z1 ?_
    refine Rp rfl Z21 ?_
    refine Rp rfl Z59 ?_
    refine Rl rfl Z13 ?_
    refine Rp rfl Z92 ?_
    refine RunTo.freeM rfl (RunOn.tree rfl rfl (by decide) Z1 Z1 (by assumption) Z8 (by exact hA) ?_)
    refine Rp rfl Z1 ?_
    refine RunTo.nil ?_
    refine Ev.seq ?_
    refine Ev.seq ?_
    refine Ev.rg [0, 1] ?_
    refine Rp rfl Z1 ?_
    refine Rp rfl Z18 ?_
    refine RunTo.nil ?_
    refine Ev.condF Z1 ?_
    refine Ev.skip ?_
    refine Ev.seq ?_
    refine Ev.rg [0, 1, 2, 3, 4, 5, 6, 7, 8, 9] ?_
    refine Rp rfl Z1 ?_
    refine Rp rfl Z1 ?_
    refine Rp rfl Z21 ?_
    refine Rp rfl Z59 ?_
    refine Rl rfl Z13 ?_
    refine Rp rfl Z1 ?_
    refine Rp rfl Z67 ?_
    refine Rl rfl Z76 ?_
    refine RunTo.freeM rfl (RunOn.madeL (k := 1) hI1 rfl rfl (by decide) rfl Z119 Z5 ?_)
    intro hp2 hI2
    simp only [List.cons_append, List.nil_append, evc, repA, Eng.setMany, List.set_cons_zero, List.set_cons_succ, Nat.zero_mul, Nat.one_mul, List.take_succ_cons, List.take_zero, List.drop_zero, List.drop_succ_cons, Nat.zero_add, Nat.reduceAdd, Nat.reduceMul] at hI2
    refine RunTo.freeM rfl (RunOn.storeL (n := 5) hI2 rfl rfl Z1 Z1 (by kernel_rfl) Z6 Z6 (by rfl) Z9 Z5 ?_)
    intro hp3 hI3
    simp only [set_last, List.set_set, List.set_cons_zero, List.set_cons_succ, List.take_succ_cons, List.take_zero, List.drop_succ_cons, List.drop_zero, Eng.setMany, evc, Nat.zero_add, Nat.reduceAdd, Nat.reduceMul, Nat.reduceSub] at hI3
    refine RunTo.nil ?_
    refine Ev.seq ?_
    refine Ev.seq ?_
    refine Ev.rg [0, 1] ?_
    refine Rp rfl Z17 ?_
    refine Rl rfl Z7 ?_
    refine RunTo.nil ?_
    refine Ev.condF Z1 ?_
    refine Ev.skip ?_
    refine Ev.seq ?_
    refine Ev.rg [0, 1, 2] ?_
    refine Rp rfl Z24 ?_
    refine Rl rfl Z7 ?_
    refine Rp rfl Z1 ?_
    refine RunTo.nil ?_
    refine Ev.seq ?_
    refine Ev.seq ?_
    refine Ev.rg [0, 1] ?_
    refine Rp rfl Z1 ?_
    refine Rp rfl Z26 ?_
    refine RunTo.nil ?_
    refine Ev.condT Z1 ?_
    refine Ev.rg [0] ?_
    refine Rp rfl Z1 ?_
    refine RunTo.nil ?_
    refine Ev.seq ?_
    refine Ev.rg [0, 1, 2, 3, 4, 5, 6, 7, 8, 9] ?_
    refine Rp rfl Z12 ?_
    refine Rl rfl Z7 ?_
    refine Rl rfl Z7 ?_
    refine Rp rfl Z1 ?_
    refine RunTo.freeM rfl (RunOn.tree rfl rfl (by decide) Z1 Z1 (by assumption) Z8 (by exact hB) ?_)
    refine Rp rfl Z1 ?_
    refine Rp rfl Z1 ?_
    refine Rp rfl Z1 ?_
    refine Rp rfl Z1 ?_
    refine Rp rfl Z1 ?_
    refine RunTo.nil ?_
    refine Ev.seq ?_
    refine Ev.rg [0, 1] ?_
    refine Rp rfl Z1 ?_
    refine Rp rfl Z1 ?_
    refine RunTo.nil ?_
    refine Ev.ret ⟨.inr rfl, _, res1, ?_⟩
    simp only [lk_up, lk_lf, Nat.reduceEqDiff, Nat.reduceLT, reduceIte, if_true, if_false, Nat.zero_add, i64, bo, u8, nilS, List.take_succ_cons, List.take_zero, List.drop_zero, List.drop_succ_cons]
    first | exact frz_rgN1 _ | (rw [hG]; exact frz_rgN1 _)
  | some n =>
    have e1 : x.len = (x.until : Nat) := by simp [Pt.len, Pt.until, hln]
    simp only [Nm.c, stC, Par.v, Pt.cells, paC, e1] at hA ⊢
    refine CallTo.body (c := (Tryz.f122.body.getD .skip)) (nt := 45) (rs := #[.tmp 4]) (by assumption) (by kernel_rfl) ⟨by simp, by decide⟩ ?_
    show Ev _ (Code.seq _ _) _ _
    simp only [tmOf_cons, tmOf_nil, i64, bo, u8, nilS, Nat.zero_add, Nat.reduceAdd]
    refine Ev.seq ?_
    refine Ev.rg [0, 1] ?_
    refine RunTo.freeM rfl (RunOn.madeL (k := 0) hI rfl rfl (by decide) rfl Z15 Z5 ?_)
    intro hp1 hI1
    simp only [List.cons_append, List.nil_append, evc, repA, Eng.setMany, List.set_cons_zero, List.set_cons_succ, Nat.zero_mul, Nat.one_mul, List.take_succ_cons, List.take_zero, List.drop_zero, List.drop_succ_cons, Nat.zero_add, Nat.reduceAdd, Nat.reduceMul] at hI1
    refine Rp rfl Z1 ?_
    refine RunTo.nil ?_
    refine Ev.seq ?_
    refine Ev.rg [0, 1, 2, 3, 4, 5, 6, 7] ?_
    refine Rp rfl Z1 ?_
    refine Rp rfl Z1 ?_
    refine Rp rfl Z21 ?_
    refine Rp rfl Z59 ?_
    refine Rl rfl Z13 ?_
    refine Rp rfl Z92 ?_
    refine RunTo.freeM rfl (RunOn.tree rfl rfl (by decide) Z1 Z1 (by assumption) Z8 (by exact hA) ?_)
    refine Rp rfl Z1 ?_
    refine RunTo.nil ?_
    refine Ev.seq ?_
    refine Ev.seq ?_
    refine Ev.rg [0, 1] ?_
    refine Rp rfl Z1 ?_
    refine Rp rfl Z18 ?_
    refine RunTo.nil ?_
    refine Ev.condF Z1 ?_
    refine Ev.skip ?_
    refine Ev.seq ?_
    refine Ev.rg [0, 1, 2, 3, 4, 5, 6, 7, 8, 9] ?_
    refine Rp rfl Z1 ?_
    refine Rp rfl Z1 ?_
    refine Rp rfl Z21 ?_
    refine Rp rfl Z59 ?_
    refine Rl rfl Z13 ?_
    refine Rp rfl Z1 ?_
    refine Rp rfl Z67 ?_
    refine Rl rfl Z76 ?_
    refine RunTo.freeM rfl (RunOn.madeL (k := 1) hI1 rfl rfl (by decide) rfl Z119 Z5 ?_)
    intro hp2 hI2
    simp only [List.cons_append, List.nil_append, evc, repA, Eng.setMany, List.set_cons_zero, List.set_cons_succ, Nat.zero_mul, Nat.one_mul, List.take_succ_cons, List.take_zero, List.drop_zero, List.drop_succ_cons, Nat.zero_add, Nat.reduceAdd, Nat.reduceMul] at hI2
    refine RunTo.freeM rfl (RunOn.storeL (n := 5) hI2 rfl rfl Z1 Z1 (by kernel_rfl) Z6 Z6 (by rfl) Z9 Z5 ?_)
    intro hp3 hI3
    simp only [set_last, List.set_set, List.set_cons_zero, List.set_cons_succ, List.take_succ_cons, List.take_zero, List.drop_succ_cons, List.drop_zero, Eng.setMany, evc, Nat.zero_add, Nat.reduceAdd, Nat.reduceMul, Nat.reduceSub] at hI3
    refine RunTo.nil ?_
    refine Ev.seq ?_
    refine Ev.seq ?_
    refine Ev.rg [0, 1] ?_
    refine Rp rfl Z17 ?_
    refine Rl rfl Z7 ?_
    refine RunTo.nil ?_
    refine Ev.condF Z1 ?_
    refine Ev.skip ?_
    refine Ev.seq ?_
    refine Ev.rg [0, 1, 2] ?_
    refine Rp rfl Z24 ?_
    refine Rl rfl Z7 ?_
    refine Rp rfl Z1 ?_
    refine RunTo.nil ?_
    refine Ev.seq ?_
    refine Ev.seq ?_
    refine Ev.rg [0, 1] ?_
    refine Rp rfl Z1 ?_
    refine Rp rfl Z45 ?_
    refine RunTo.nil ?_
    refine Ev.condF Z1 ?_
    refine Ev.skip ?_
    refine Ev.seq ?_
    refine Ev.rg [0, 1, 2, 3, 4, 5, 6, 7, 8, 9] ?_
    refine Rp rfl Z12 ?_
    refine Rl rfl Z7 ?_
    refine Rl rfl Z7 ?_
    refine Rp rfl Z1 ?_
    refine RunTo.freeM rfl (RunOn.tree rfl rfl (by decide) Z1 Z1 (by assumption) Z8 (by exact hB) ?_)
    refine Rp rfl Z1 ?_
    refine Rp rfl Z1 ?_
    refine Rp rfl Z1 ?_
    refine Rp rfl Z1 ?_
    refine Rp rfl Z1 ?_
    refine RunTo.nil ?_
    refine Ev.seq ?_
    refine Ev.rg [0, 1] ?_
    refine Rp rfl Z1 ?_
    refine Rp rfl Z1 ?_
    refine RunTo.nil ?_
    refine Ev.ret ⟨.inr rfl, _, res1, ?_⟩
    simp only [lk_up, lk_lf, Nat.reduceEqDiff, Nat.reduceLT, reduceIte, if_true, if_false, Nat.zero_add, i64, bo, u8, nilS, List.take_succ_cons, List.take_zero, List.drop_zero, List.drop_succ_cons]
    first | exact frz_rgN1 _ | (rw [hG]; exact frz_rgN1 _)
theorem w34 (h : (envL p T).sp 34 = none) (h46 : (envL p T).sp 46 = some (treeSp F46)) (h122 : (envL p T).sp 122 = some (treeSp F122)) (h117 : (envL p T).sp 117 = some (treeSp F117)) (m : Nm) (hv : VSt m) : CallTo (envL p T) 34 [.agg m.c] Hp.empty fun v hp' => frz true hp' 20 v = some (stOut m) := by
  have hI := IsH.empty
  have hV : F46 [.agg m.c] = some (bo true) := F46_eq hv
  cases hv with
  | init =>
    unfold Nm.c stC Par.v at *
    unfold stOut
    refine CallTo.body (c := (Tryz.f34.body.getD .skip)) (nt := 45) (rs := #[.cell 2 90, .tmp 3]) (by assumption) (by kernel_rfl) ⟨by simp, by decide⟩ ?_
    show Ev _ (Code.seq _ _) _ _
    simp only [tmOf_cons, tmOf_nil, i64, bo, u8, nilS, Nat.zero_add, Nat.reduceAdd]
    refine Ev.seq ?_
    refine Ev.rg [0, 1, 2] ?_
    refine RunTo.freeM rfl (RunOn.madeL (k := 0) hI rfl rfl (by decide) rfl Z15 Z5 ?_)
    intro hp1 hI1
    simp only [List.cons_append, List.nil_append, evc, repA, Eng.setMany, List.set_cons_zero, List.set_cons_succ, Nat.zero_mul, Nat.one_mul, List.take_succ_cons, List.take_zero, List.drop_zero, List.drop_succ_cons, Nat.zero_add, Nat.reduceAdd, Nat.reduceMul] at hI1
    refine RunTo.freeM rfl (RunOn.madeL (k := 1) hI1 rfl rfl (by decide) rfl Z84 Z5 ?_)
    intro hp2 hI2
    simp only [List.cons_append, List.nil_append, evc, repA, Eng.setMany, List.set_cons_zero, List.set_cons_succ, Nat.zero_mul, Nat.one_mul, List.take_succ_cons, List.take_zero, List.drop_zero, List.drop_succ_cons, Nat.zero_add, Nat.reduceAdd, Nat.reduceMul] at hI2
    refine Rp rfl Z1 ?_
    refine RunTo.nil ?_
    refine Ev.seq ?_
    refine Ev.seq ?_
    refine Ev.rg [0, 1, 2] ?_
    refine Rl rfl Z52 ?_
    refine RunTo.freeM rfl (RunOn.tree rfl rfl (by decide) Z1 Z1 (by assumption) Z8 (by exact hV) ?_)
    refine Rp rfl Z16 ?_
    refine RunTo.nil ?_
    refine Ev.condF Z1 ?_
    refine Ev.skip ?_
    refine Ev.seq ?_
    refine Ev.rg [0, 1, 2, 3] ?_
    refine Rl rfl Z52 ?_
    refine Rp rfl Z77 ?_
    refine RunTo.freeM rfl (RunOn.madeL (k := 2) hI2 rfl rfl (by decide) rfl Z15 Z5 ?_)
    intro hp3 hI3
    simp only [List.cons_append, List.nil_append, evc, repA, Eng.setMany, List.set_cons_zero, List.set_cons_succ, Nat.zero_mul, Nat.one_mul, List.take_succ_cons, List.take_zero, List.drop_zero, List.drop_succ_cons, Nat.zero_add, Nat.reduceAdd, Nat.reduceMul] at hI3
    refine Rp rfl Z1 ?_
    refine RunTo.nil ?_
    refine Ev.seq ?_
    refine Ev.rg [0, 1, 2, 3, 4] ?_
    refine Rp rfl Z42 ?_
    refine Rl rfl Z7 ?_
    refine Rp rfl Z120 ?_
    refine RunTo.freeM rfl (RunOn.madeL (k := 3) hI3 rfl rfl (by decide) rfl Z84 Z5 ?_)
    intro hp4 hI4
    simp only [List.cons_append, List.nil_append, evc, repA, Eng.setMany, List.set_cons_zero, List.set_cons_succ, Nat.zero_mul, Nat.one_mul, List.take_succ_cons, List.take_zero, List.drop_zero, List.drop_succ_cons, Nat.zero_add, Nat.reduceAdd, Nat.reduceMul] at hI4
    refine RunTo.freeM rfl (RunOn.storeL (n := 2) hI4 rfl rfl Z1 Z1 (by kernel_rfl) Z6 Z6 (by rfl) Z9 Z5 ?_)
    intro hp5 hI5
    simp only [set_last, List.set_set, List.set_cons_zero, List.set_cons_succ, List.take_succ_cons, List.take_zero, List.drop_succ_cons, List.drop_zero, Eng.setMany, evc, Nat.zero_add, Nat.reduceAdd, Nat.reduceMul, Nat.reduceSub] at hI5
    refine RunTo.nil ?_
    refine Ev.seq ?_
    refine Ev.seq ?_
    refine Ev.rg [0, 1, 2] ?_
    refine Rp rfl Z37 ?_
    refine Rl rfl Z7 ?_
    refine Rp rfl Z1 ?_
    refine RunTo.nil ?_
    refine Ev.block ?_
    refine Ev.unroll ?_
    refine Ev.seq ?_
    refine Ev.seq ?_
    refine Ev.rg [0, 1, 2, 3] ?_
    refine Rp rfl Z1 ?_
    refine Rp rfl Z42 ?_
    refine Rl rfl Z7 ?_
    refine Rp rfl Z44 ?_
    refine RunTo.nil ?_
    refine Ev.condF Z1 ?_
    refine Ev.exit ?_
    refine thenE_ext ?_
    refine thenE_ext ?_
    refine inBlock_pos ?_
    refine Ev.seq ?_
    refine Ev.rg [0, 1, 2] ?_
    refine Rl rfl Z85 ?_
    refine RunTo.freeM rfl (RunOn.storeL (n := 2) hI5 rfl rfl Z1 Z1 (by kernel_rfl) Z6 Z6 (by rfl) Z9 Z5 ?_)
    intro hp6 hI6
    simp only [set_last, List.set_set, List.set_cons_zero, List.set_cons_succ, List.take_succ_cons, List.take_zero, List.drop_succ_cons, List.drop_zero, Eng.setMany, evc, Nat.zero_add, Nat.reduceAdd, Nat.reduceMul, Nat.reduceSub] at hI6
    refine Rp rfl Z1 ?_
    refine RunTo.nil ?_
    refine Ev.ret ⟨.inr rfl, _, resC2 Z85, ?_⟩
    simp only [lk_up, lk_lf, Nat.reduceEqDiff, Nat.reduceLT, reduceIte, if_true, if_false, Nat.zero_add, i64, bo, u8, nilS, List.take_succ_cons, List.take_zero, List.drop_zero, List.drop_succ_cons]
    repeat first | exact allO_nil | with_reducible apply allO_cons | exact frz_sc | with_reducible exact frz_by1 _ _ | with_reducible exact frz_rg1 _ _ | with_reducible exact frz_par1 _ | with_reducible apply frz_ro1 | with_reducible apply frz_agg | with_reducible apply frz_tup
  | fin cap =>
    unfold Nm.c stC Par.v at *
    unfold stOut
    refine CallTo.body (c := (Tryz.f34.body.getD .skip)) (nt := 45) (rs := #[.cell 2 90, .tmp 3]) (by assumption) (by kernel_rfl) ⟨by simp, by decide⟩ ?_
    show Ev _ (Code.seq _ _) _ _
    simp only [tmOf_cons, tmOf_nil, i64, bo, u8, nilS, Nat.zero_add, Nat.reduceAdd]
    refine Ev.seq ?_
    refine Ev.rg [0, 1, 2] ?_
    refine RunTo.freeM rfl (RunOn.madeL (k := 0) hI rfl rfl (by decide) rfl Z15 Z5 ?_)
    intro hp1 hI1
    simp only [List.cons_append, List.nil_append, evc, repA, Eng.setMany, List.set_cons_zero, List.set_cons_succ, Nat.zero_mul, Nat.one_mul, List.take_succ_cons, List.take_zero, List.drop_zero, List.drop_succ_cons, Nat.zero_add, Nat.reduceAdd, Nat.reduceMul] at hI1
    refine RunTo.freeM rfl (RunOn.madeL (k := 1) hI1 rfl rfl (by decide) rfl Z84 Z5 ?_)
    intro hp2 hI2
    simp only [List.cons_append, List.nil_append, evc, repA, Eng.setMany, List.set_cons_zero, List.set_cons_succ, Nat.zero_mul, Nat.one_mul, List.take_succ_cons, List.take_zero, List.drop_zero, List.drop_succ_cons, Nat.zero_add, Nat.reduceAdd, Nat.reduceMul] at hI2
    refine Rp rfl Z1 ?_
    refine RunTo.nil ?_
    refine Ev.seq ?_
    refine Ev.seq ?_
    refine Ev.rg [0, 1, 2] ?_
    refine Rl rfl Z52 ?_
    refine RunTo.freeM rfl (RunOn.tree rfl rfl (by decide) Z1 Z1 (by assumption) Z8 (by exact hV) ?_)
    refine Rp rfl Z16 ?_
    refine RunTo.nil ?_
    refine Ev.condF Z1 ?_
    refine Ev.skip ?_
    refine Ev.seq ?_
    refine Ev.rg [0, 1, 2, 3] ?_
    refine Rl rfl Z52 ?_
    refine Rp rfl Z77 ?_
    refine RunTo.freeM rfl (RunOn.madeL (k := 2) hI2 rfl rfl (by decide) rfl Z15 Z5 ?_)
    intro hp3 hI3
    simp only [List.cons_append, List.nil_append, evc, repA, Eng.setMany, List.set_cons_zero, List.set_cons_succ, Nat.zero_mul, Nat.one_mul, List.take_succ_cons, List.take_zero, List.drop_zero, List.drop_succ_cons, Nat.zero_add, Nat.reduceAdd, Nat.reduceMul] at hI3
    refine Rp rfl Z1 ?_
    refine RunTo.nil ?_
    refine Ev.seq ?_
    refine Ev.rg [0, 1, 2, 3, 4] ?_
    refine Rp rfl Z42 ?_
    refine Rl rfl Z7 ?_
    refine Rp rfl Z120 ?_
    refine RunTo.freeM rfl (RunOn.madeL (k := 3) hI3 rfl rfl (by decide) rfl Z84 Z5 ?_)
    intro hp4 hI4
    simp only [List.cons_append, List.nil_append, evc, repA, Eng.setMany, List.set_cons_zero, List.set_cons_succ, Nat.zero_mul, Nat.one_mul, List.take_succ_cons, List.take_zero, List.drop_zero, List.drop_succ_cons, Nat.zero_add, Nat.reduceAdd, Nat.reduceMul] at hI4
    refine RunTo.freeM rfl (RunOn.storeL (n := 2) hI4 rfl rfl Z1 Z1 (by kernel_rfl) Z6 Z6 (by rfl) Z9 Z5 ?_)
    intro hp5 hI5
    simp only [set_last, List.set_set, List.set_cons_zero, List.set_cons_succ, List.take_succ_cons, List.take_zero, List.drop_succ_cons, List.drop_zero, Eng.setMany, evc, Nat.zero_add, Nat.reduceAdd, Nat.reduceMul, Nat.reduceSub] at hI5
    refine RunTo.nil ?_
    refine Ev.seq ?_
    refine Ev.seq ?_
    refine Ev.rg [0, 1, 2] ?_
    refine Rp rfl Z37 ?_
    refine Rl rfl Z7 ?_
    refine Rp rfl Z1 ?_
    refine RunTo.nil ?_
    refine Ev.block ?_
    refine Ev.unroll ?_
    refine Ev.seq ?_
    refine Ev.seq ?_
    refine Ev.rg [0, 1, 2, 3] ?_
    refine Rp rfl Z1 ?_
    refine Rp rfl Z42 ?_
    refine Rl rfl Z7 ?_
    refine Rp rfl Z44 ?_
    refine RunTo.nil ?_
    refine Ev.condF Z1 ?_
    refine Ev.exit ?_
    refine thenE_ext ?_
    refine thenE_ext ?_
    refine inBlock_pos ?_
    refine Ev.seq ?_
    refine Ev.rg [0, 1, 2] ?_
    refine Rl rfl Z85 ?_
    refine RunTo.freeM rfl (RunOn.storeL (n := 2) hI5 rfl rfl Z1 Z1 (by kernel_rfl) Z6 Z6 (by rfl) Z9 Z5 ?_)
    intro hp6 hI6
    simp only [set_last, List.set_set, List.set_cons_zero, List.set_cons_succ, List.take_succ_cons, List.take_zero, List.drop_succ_cons, List.drop_zero, Eng.setMany, evc, Nat.zero_add, Nat.reduceAdd, Nat.reduceMul, Nat.reduceSub] at hI6
    refine Rp rfl Z1 ?_
    refine RunTo.nil ?_
    refine Ev.ret ⟨.inr rfl, _, resC2 Z85, ?_⟩
    simp only [lk_up, lk_lf, Nat.reduceEqDiff, Nat.reduceLT, reduceIte, if_true, if_false, Nat.zero_add, i64, bo, u8, nilS, List.take_succ_cons, List.take_zero, List.drop_zero, List.drop_succ_cons]
    repeat first | exact allO_nil | with_reducible apply allO_cons | exact frz_sc | with_reducible exact frz_by1 _ _ | with_reducible exact frz_rg1 _ _ | with_reducible exact frz_par1 _ | with_reducible apply frz_ro1 | with_reducible apply frz_agg | with_reducible apply frz_tup
  | mid x cap hx hxl =>
    have hB : F122 [.rp false (Nm.c ⟨0, 1, 1, 1, 3, true, .one x none none cap⟩), i64 0] = some (rgN true (gapsG (x.R ++ [(x.until, x.until)]) 0)) := F122_eq hx (by omega)
    have hE : F117 [.rp false (Nm.c ⟨0, 1, 1, 1, 3, true, .one x none none cap⟩), i64 0] = some (i64 1) := F117_eq (n := 0) (by decide)
    have hGl : (gapsG (x.R ++ [(x.until, x.until)]) 0).length ≤ 61 := Nat.le_trans (gapsG_len _ _) (by simp; omega)
    unfold Nm.c stC Par.v at *
    unfold Pt.cells paC at *
    unfold stOut
    simp only
    generalize gapsG (x.R ++ [(x.until, x.until)]) 0 = G at *
    by_cases hG : G = []
    · have e : rgN true G = nilS := if_pos hG
      rw [e] at hB ⊢
      refine CallTo.body (c := (Tryz.f34.body.getD .skip)) (nt := 45) (rs := #[.cell 2 90, .tmp 3]) (by assumption) (by kernel_rfl) ⟨by simp, by decide⟩ ?_
      show Ev _ (Code.seq _ _) _ _
      simp only [tmOf_cons, tmOf_nil, i64, bo, u8, nilS, Nat.zero_add, Nat.reduceAdd]
      refine Ev.seq ?_
      refine Ev.rg [0, 1, 2] ?_
      refine RunTo.freeM rfl (RunOn.madeL (k := 0) hI rfl rfl (by decide) rfl Z15 Z5 ?_)
      intro hp1 hI1
      simp only [List.cons_append, List.nil_append, evc, repA, Eng.setMany, List.set_cons_zero, List.set_cons_succ, Nat.zero_mul, Nat.one_mul, List.take_succ_cons, List.take_zero, List.drop_zero, List.drop_succ_cons, Nat.zero_add, Nat.reduceAdd, Nat.reduceMul] at hI1
      refine RunTo.freeM rfl (RunOn.madeL (k := 1) hI1 rfl rfl (by decide) rfl Z84 Z5 ?_)
      intro hp2 hI2
      simp only [List.cons_append, List.nil_append, evc, repA, Eng.setMany, List.set_cons_zero, List.set_cons_succ, Nat.zero_mul, Nat.one_mul, List.take_succ_cons, List.take_zero, List.drop_zero, List.drop_succ_cons, Nat.zero_add, Nat.reduceAdd, Nat.reduceMul] at hI2
      refine Rp rfl Z1 ?_
      refine RunTo.nil ?_
      refine Ev.seq ?_
      refine Ev.seq ?_
      refine Ev.rg [0, 1, 2] ?_
      refine Rl rfl Z52 ?_
      refine RunTo.freeM rfl (RunOn.tree rfl rfl (by decide) Z1 Z1 (by assumption) Z8 (by exact hV) ?_)
      refine Rp rfl Z16 ?_
      refine RunTo.nil ?_
      refine Ev.condF Z1 ?_
      refine Ev.skip ?_
      refine Ev.seq ?_
      refine Ev.rg [0, 1, 2, 3] ?_
      refine Rl rfl Z52 ?_
      refine Rp rfl Z77 ?_
      refine RunTo.freeM rfl (RunOn.madeL (k := 2) hI2 rfl rfl (by decide) rfl Z15 Z5 ?_)
      intro hp3 hI3
      simp only [List.cons_append, List.nil_append, evc, repA, Eng.setMany, List.set_cons_zero, List.set_cons_succ, Nat.zero_mul, Nat.one_mul, List.take_succ_cons, List.take_zero, List.drop_zero, List.drop_succ_cons, Nat.zero_add, Nat.reduceAdd, Nat.reduceMul] at hI3
      refine Rp rfl Z1 ?_
      refine RunTo.nil ?_
      refine Ev.seq ?_
      refine Ev.rg [0, 1, 2, 3, 4] ?_
      refine Rp rfl Z42 ?_
      refine Rl rfl Z7 ?_
      refine Rp rfl Z120 ?_
      refine RunTo.freeM rfl (RunOn.madeL (k := 3) hI3 rfl rfl (by decide) rfl Z84 Z5 ?_)
      intro hp4 hI4
      simp only [List.cons_append, List.nil_append, evc, repA, Eng.setMany, List.set_cons_zero, List.set_cons_succ, Nat.zero_mul, Nat.one_mul, List.take_succ_cons, List.take_zero, List.drop_zero, List.drop_succ_cons, Nat.zero_add, Nat.reduceAdd, Nat.reduceMul] at hI4
      refine RunTo.freeM rfl (RunOn.storeL (n := 2) hI4 rfl rfl Z1 Z1 (by kernel_rfl) Z6 Z6 (by rfl) Z9 Z5 ?_)
      intro hp5 hI5
      simp only [set_last, List.set_set, List.set_cons_zero, List.set_cons_succ, List.take_succ_cons, List.take_zero, List.drop_succ_cons, List.drop_zero, Eng.setMany, evc, Nat.zero_add, Nat.reduceAdd, Nat.reduceMul, Nat.reduceSub] at hI5
      refine RunTo.nil ?_
      refine Ev.seq ?_
      refine Ev.seq ?_
      refine Ev.rg [0, 1, 2] ?_
      refine Rp rfl Z37 ?_
      refine Rl rfl Z7 ?_
      refine Rp rfl Z1 ?_
      refine RunTo.nil ?_
      refine Ev.block ?_
      refine Ev.unroll ?_
      refine Ev.seq ?_
      refine Ev.seq ?_
      refine Ev.rg [0, 1, 2, 3] ?_
      refine Rp rfl Z1 ?_
      refine Rp rfl Z42 ?_
      refine Rl rfl Z7 ?_
      refine Rp rfl Z91 ?_
      refine RunTo.nil ?_
      refine Ev.condT Z1 ?_
      refine Ev.skip ?_
      refine Ev.seq ?_
      refine Ev.block ?_
      refine Ev.seq ?_
      refine Ev.rg [0, 1, 2, 3] ?_
      refine Rp rfl Z1 ?_
      refine Rp rfl Z1 ?_
      refine RunTo.freeM rfl (RunOn.tree rfl rfl (by decide) Z1 Z1 (by assumption) Z8 (by exact hB) ?_)
      refine Rp rfl Z1 ?_
      refine RunTo.nil ?_
      refine Ev.seq ?_
      refine Ev.seq ?_
      refine Ev.rg [0, 1, 2, 3, 4, 5, 6] ?_
      refine Rp rfl Z17 ?_
      refine Rl rfl Z7 ?_
      refine Rp rfl Z47 ?_
      refine Rp rfl Z1 ?_
      refine Rp rfl Z47 ?_
      refine Rp rfl Z57 ?_
      refine Rp rfl Z28 ?_
      refine RunTo.nil ?_
      refine Ev.condF Z1 ?_
      refine Ev.skip ?_
      refine Ev.rg [0, 1, 2, 3, 4, 5] ?_
      refine Rp rfl Z17 ?_
      refine Rl rfl Z7 ?_
      refine Rp rfl Z1 ?_
      refine RunTo.freeM rfl (RunOn.appL (n := 3) hI5 rfl rfl (by decide) rfl rfl rfl (by kernel_rfl) (by kernel_rfl) Z1 Z1 Z96 Z97 ?_)
      intro hp6 hI6
      simp only [List.cons_append, List.nil_append] at hI6
      refine Rp rfl Z17 ?_
      refine RunTo.freeM rfl (RunOn.storeL (n := 1) hI6 rfl rfl Z1 Z1 (by kernel_rfl) Z6 Z6 (by rfl) Z9 Z5 ?_)
      intro hp7 hI7
      simp only [set_last, List.set_set, List.set_cons_zero, List.set_cons_succ, List.take_succ_cons, List.take_zero, List.drop_succ_cons, List.drop_zero, Eng.setMany, evc, Nat.zero_add, Nat.reduceAdd, Nat.reduceMul, Nat.reduceSub] at hI7
      refine RunTo.nil ?_
      refine Ev.rg [0, 1, 2, 3] ?_
      refine Rp rfl Z1 ?_
      refine Rp rfl Z1 ?_
      refine RunTo.freeM rfl (RunOn.tree rfl rfl (by decide) Z1 Z1 (by assumption) Z8 (by exact hE) ?_)
      refine Rp rfl Z1 ?_
      refine RunTo.nil ?_
      refine Ev.unroll ?_
      refine Ev.seq ?_
      refine Ev.seq ?_
      refine Ev.rg [0, 1, 2, 3] ?_
      refine Rp rfl Z1 ?_
      refine Rp rfl Z42 ?_
      refine Rl rfl Z7 ?_
      refine Rp rfl Z44 ?_
      refine RunTo.nil ?_
      refine Ev.condF Z1 ?_
      refine Ev.exit ?_
      refine thenE_ext ?_
      refine thenE_ext ?_
      refine inBlock_pos ?_
      refine Ev.seq ?_
      refine Ev.rg [0, 1, 2] ?_
      refine Rl rfl Z85 ?_
      refine RunTo.freeM rfl (RunOn.storeL (n := 2) hI7 rfl rfl Z1 Z1 (by kernel_rfl) Z6 Z6 (by rfl) Z9 Z5 ?_)
      intro hp8 hI8
      simp only [set_last, List.set_set, List.set_cons_zero, List.set_cons_succ, List.take_succ_cons, List.take_zero, List.drop_succ_cons, List.drop_zero, Eng.setMany, evc, Nat.zero_add, Nat.reduceAdd, Nat.reduceMul, Nat.reduceSub] at hI8
      refine Rp rfl Z1 ?_
      refine RunTo.nil ?_
      refine Ev.ret ⟨.inr rfl, _, resC2 Z85, ?_⟩
      simp only [lk_up, lk_lf, Nat.reduceEqDiff, Nat.reduceLT, reduceIte, if_true, if_false, Nat.zero_add, i64, bo, u8, nilS, List.take_succ_cons, List.take_zero, List.drop_zero, List.drop_succ_cons]
      repeat first | exact allO_nil | with_reducible apply allO_cons | exact frz_sc | with_reducible exact frz_by1 _ _ | with_reducible exact frz_rg1 _ _ | with_reducible exact frz_par1 _ | with_reducible apply frz_ro1 | with_reducible apply frz_agg | with_reducible apply frz_tup
    · have e : rgN true G = rgV true G none := if_neg hG
      have hG0 : G.length ≠ 0 := fun k => hG (List.eq_nil_of_length_eq_zero k)
      rw [e] at hB ⊢
      refine CallTo.body (c := (Tryz.f34.body.getD .skip)) (nt := 45) (rs := #[.cell 2 90, .tmp 3]) (by assumption) (by kernel_rfl) ⟨by simp, by decide⟩ ?_
      show Ev _ (Code.seq _ _) _ _
      simp only [tmOf_cons, tmOf_nil, i64, bo, u8, nilS, Nat.zero_add, Nat.reduceAdd]
      refine Ev.seq ?_
      refine Ev.rg [0, 1, 2] ?_
      refine RunTo.freeM rfl (RunOn.madeL (k := 0) hI rfl rfl (by decide) rfl Z15 Z5 ?_)
      intro hp1 hI1
      simp only [List.cons_append, List.nil_append, evc, repA, Eng.setMany, List.set_cons_zero, List.set_cons_succ, Nat.zero_mul, Nat.one_mul, List.take_succ_cons, List.take_zero, List.drop_zero, List.drop_succ_cons, Nat.zero_add, Nat.reduceAdd, Nat.reduceMul] at hI1
      refine RunTo.freeM rfl (RunOn.madeL (k := 1) hI1 rfl rfl (by decide) rfl Z84 Z5 ?_)
      intro hp2 hI2
      simp only [List.cons_append, List.nil_append, evc, repA, Eng.setMany, List.set_cons_zero, List.set_cons_succ, Nat.zero_mul, Nat.one_mul, List.take_succ_cons, List.take_zero, List.drop_zero, List.drop_succ_cons, Nat.zero_add, Nat.reduceAdd, Nat.reduceMul] at hI2
      refine Rp rfl Z1 ?_
      refine RunTo.nil ?_
      refine Ev.seq ?_
      refine Ev.seq ?_
      refine Ev.rg [0, 1, 2] ?_
      refine Rl rfl Z52 ?_
      refine RunTo.freeM rfl (RunOn.tree rfl rfl (by decide) Z1 Z1 (by assumption) Z8 (by exact hV) ?_)
      refine Rp rfl Z16 ?_
      refine RunTo.nil ?_
      refine Ev.condF Z1 ?_
      refine Ev.skip ?_
      refine Ev.seq ?_
      refine Ev.rg [0, 1, 2, 3] ?_
      refine Rl rfl Z52 ?_
      refine Rp rfl Z77 ?_
      refine RunTo.freeM rfl (RunOn.madeL (k := 2) hI2 rfl rfl (by decide) rfl Z15 Z5 ?_)
      intro hp3 hI3
      simp only [List.cons_append, List.nil_append, evc, repA, Eng.setMany, List.set_cons_zero, List.set_cons_succ, Nat.zero_mul, Nat.one_mul, List.take_succ_cons, List.take_zero, List.drop_zero, List.drop_succ_cons, Nat.zero_add, Nat.reduceAdd, Nat.reduceMul] at hI3
      refine Rp rfl Z1 ?_
      refine RunTo.nil ?_
      refine Ev.seq ?_
      refine Ev.rg [0, 1, 2, 3, 4] ?_
      refine Rp rfl Z42 ?_
      refine Rl rfl Z7 ?_
      refine Rp rfl Z120 ?_
      refine RunTo.freeM rfl (RunOn.madeL (k := 3) hI3 rfl rfl (by decide) rfl Z84 Z5 ?_)
      intro hp4 hI4
      simp only [List.cons_append, List.nil_append, evc, repA, Eng.setMany, List.set_cons_zero, List.set_cons_succ, Nat.zero_mul, Nat.one_mul, List.take_succ_cons, List.take_zero, List.drop_zero, List.drop_succ_cons, Nat.zero_add, Nat.reduceAdd, Nat.reduceMul] at hI4
      refine RunTo.freeM rfl (RunOn.storeL (n := 2) hI4 rfl rfl Z1 Z1 (by kernel_rfl) Z6 Z6 (by rfl) Z9 Z5 ?_)
      intro hp5 hI5
      simp only [set_last, List.set_set, List.set_cons_zero, List.set_cons_succ, List.take_succ_cons, List.take_zero, List.drop_succ_cons, List.drop_zero, Eng.setMany, evc, Nat.zero_add, Nat.reduceAdd, Nat.reduceMul, Nat.reduceSub] at hI5
      refine RunTo.nil ?_
      refine Ev.seq ?_
      refine Ev.seq ?_
      refine Ev.rg [0, 1, 2] ?_
      refine Rp rfl Z37 ?_
      refine Rl rfl Z7 ?_
      refine Rp rfl Z1 ?_
      refine RunTo.nil ?_
      refine Ev.block ?_
      refine Ev.unroll ?_
      refine Ev.seq ?_
      refine Ev.seq ?_
      refine Ev.rg [0, 1, 2, 3] ?_
      refine Rp rfl Z1 ?_
      refine Rp rfl Z42 ?_
      refine Rl rfl Z7 ?_
      refine Rp rfl Z91 ?_
      refine RunTo.nil ?_
      refine Ev.condT Z1 ?_
      refine Ev.skip ?_
      refine Ev.seq ?_
      refine Ev.block ?_
      refine Ev.seq ?_
      refine Ev.rg [0, 1, 2, 3] ?_
      refine Rp rfl Z1 ?_
      refine Rp rfl Z1 ?_
      refine RunTo.freeM rfl (RunOn.tree rfl rfl (by decide) Z1 Z1 (by assumption) Z8 (by exact hB) ?_)
      refine Rp rfl Z1 ?_
      refine RunTo.nil ?_
      refine Ev.seq ?_
      refine Ev.seq ?_
      refine Ev.rg [0, 1, 2, 3, 4, 5, 6] ?_
      refine Rp rfl Z17 ?_
      refine Rl rfl Z7 ?_
      refine Rp rfl Z47 ?_
      refine Rp rfl Z1 ?_
      refine Rp rfl Z33 ?_
      refine Rp rfl Z34 ?_
      refine Rp rfl Z28 ?_
      refine RunTo.nil ?_
      refine Ev.condF Z1 ?_
      refine Ev.skip ?_
      refine Ev.rg [0, 1, 2, 3, 4, 5] ?_
      refine Rp rfl Z17 ?_
      refine Rl rfl Z7 ?_
      refine Rp rfl Z1 ?_
      refine RunTo.freeM rfl (RunOn.appL (n := 3) hI5 rfl rfl (by decide) rfl rfl rfl (by kernel_rfl) (by kernel_rfl) Z1 Z1 Z75 (by exact appL_nil (k := 4) rfl hG0 Z41 (by decide)) ?_)
      intro hp6 hI6
      simp only [List.cons_append, List.nil_append] at hI6
      refine Rp rfl Z17 ?_
      refine RunTo.freeM rfl (RunOn.storeL (n := 1) hI6 rfl rfl Z1 Z1 (by kernel_rfl) Z6 Z6 (by rfl) Z9 Z5 ?_)
      intro hp7 hI7
      simp only [set_last, List.set_set, List.set_cons_zero, List.set_cons_succ, List.take_succ_cons, List.take_zero, List.drop_succ_cons, List.drop_zero, Eng.setMany, evc, Nat.zero_add, Nat.reduceAdd, Nat.reduceMul, Nat.reduceSub] at hI7
      refine RunTo.nil ?_
      refine Ev.rg [0, 1, 2, 3] ?_
      refine Rp rfl Z1 ?_
      refine Rp rfl Z1 ?_
      refine RunTo.freeM rfl (RunOn.tree rfl rfl (by decide) Z1 Z1 (by assumption) Z8 (by exact hE) ?_)
      refine Rp rfl Z1 ?_
      refine RunTo.nil ?_
      refine Ev.unroll ?_
      refine Ev.seq ?_
      refine Ev.seq ?_
      refine Ev.rg [0, 1, 2, 3] ?_
      refine Rp rfl Z1 ?_
      refine Rp rfl Z42 ?_
      refine Rl rfl Z7 ?_
      refine Rp rfl Z44 ?_
      refine RunTo.nil ?_
      refine Ev.condF Z1 ?_
      refine Ev.exit ?_
      refine thenE_ext ?_
      refine thenE_ext ?_
      refine inBlock_pos ?_
      refine Ev.seq ?_
      refine Ev.rg [0, 1, 2] ?_
      refine Rl rfl Z85 ?_
      refine RunTo.freeM rfl (RunOn.storeL (n := 2) hI7 rfl rfl Z1 Z1 (by kernel_rfl) Z6 Z6 (by rfl) Z9 Z5 ?_)
      intro hp8 hI8
      simp only [set_last, List.set_set, List.set_cons_zero, List.set_cons_succ, List.take_succ_cons, List.take_zero, List.drop_succ_cons, List.drop_zero, Eng.setMany, evc, Nat.zero_add, Nat.reduceAdd, Nat.reduceMul, Nat.reduceSub] at hI8
      refine Rp rfl Z1 ?_
      refine RunTo.nil ?_
      refine Ev.ret ⟨.inr rfl, _, resC2 Z85, ?_⟩
      simp only [lk_up, lk_lf, Nat.reduceEqDiff, Nat.reduceLT, reduceIte, if_true, if_false, Nat.zero_add, i64, bo, u8, nilS, List.take_succ_cons, List.take_zero, List.drop_zero, List.drop_succ_cons]
      refine frz_tup (allO_cons (frz_agg (allO_cons frz_sc (allO_cons (frz_slrg (hI8.wlSet _) (by rfl) rfl rfl) allO_nil))) (allO_cons frz_sc allO_nil))
end
end Go.Eng
end
