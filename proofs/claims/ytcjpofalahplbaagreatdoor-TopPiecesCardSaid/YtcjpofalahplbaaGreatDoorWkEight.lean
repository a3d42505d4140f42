/- A part of the proof that radiolinktop.TopPieces returns true for every list of numbers. -/
import Derived.Test.YtcjpofalahplbaaGreatDoorSymOne
import Derived.Test.YtcjpofalahplbaaGreatDoorWkFive
import Derived.Test.YtcjpofalahplbaaGreatDoorWkSeven
section
set_option linter.unusedVariables false
set_option linter.unusedSimpArgs false
set_option maxRecDepth 100000
set_option maxHeartbeats 8000000
namespace Go.Eng
open Go Go.RowKit Go.Proofs
structure Hd2 (b ku b5 b6 kp kc m : Nat) (cu cap : Option Nat) (u : List Nat) (t : List Int) (left : Nat) (s : St) (tm : Tr AV) (hp : Hp) (L : List (Option (List AV))) (w : List Nat) (a : Int) (ps : List PA) (x : Pt) (cur : Nm) (c : Nat → Bool) : Prop where
  s : s = ⟨214, tm, hp⟩
  hI : IsH hp L w
  hL : L.length + 3 * left ≤ 8000
  k3 : lk tm 3 = .ptr b 0
  k4 : lk tm 4 = .sl ku 0 u.length cu 1
  k5 : lk tm 5 = .ptr b5 0
  k6 : lk tm 6 = .ptr b6 0
  k8 : lk tm 8 = .sl kp 0 m cap 5
  k14 : lk tm 14 = .sl kc 0 u.length (some u.length) 1
  k15 : lk tm 15 = i64 left
  hf : HF L b ku b5 b6 kp kc (diceB t a) (byC u) [i64 6, i64 8, i64 4, i64 3, i64 0, i64 32] (stC cur.fi cur.ne cur.up cur.ma cur.le cur.due (cur.px.v true)) (pvC ps) (comeC u.length c)
  ha : 0 ≤ a
  hm : ps.length = m
  hl : left ≤ m
  dv : ∀ y ∈ ps, DvOk ku u cu y
  cm : Come u x ((ps.take left).map (·.1))
  cc : ∀ i, i < u.length → (c i = true ↔ cov x.R i)
  hR : x.R.length + left ≤ 20
  cr : Cur u cur x left
theorem pa_one {x : PA} (h : AV.one x.2 = true) : (AV.cells (.agg (paL x))).all AV.one = true := by
  simp only [AV.cells, paL, List.all_cons, List.all_nil, h, Bool.and_true]
  rfl
theorem par_one (x : Par) : AV.one (x.v true) = true := by cases x <;> rfl
theorem st_one {fi ne up ma le : Int} {due : Bool} {pv : AV} (h : AV.one pv = true) : (AV.cells (.agg (stC fi ne up ma le due pv))).all AV.one = true := by
  simp only [AV.cells, stC, List.all_cons, List.all_nil, h, Bool.and_true]
  rfl
section
variable (p : Poly) (T : List (Nat × (List AV → Option AV)))
theorem l2 (h18 : (envL p T).sp 18 = none) (h13 : (envL p T).sp 13 = some (treeSp F13)) (h32 : (envL p T).sp 32 = some (treeSp F32)) (h33 : (envL p T).sp 33 = some (treeSp F33)) (h34 : (envL p T).sp 34 = some (treeSp F34)) (h28 : (envL p T).sp 28 = some (treeSp F28))
    (b ku b5 b6 kp kc m : Nat) (cu cap : Option Nat) (u : List Nat) (t : List Int) (hn : Dn b ku b5 b6 kp kc) (hcu : ∀ k, cu = some k → u.length ≤ k) (hu0 : 0 < u.length) (hu1 : u.length ≤ 60) (hub : ∀ b ∈ u, b < 256) (hmm : m ≤ 20) (ht : t.length < 1000000) (left : Nat) (s : St) (tm : Tr AV) (hp : Hp) (L : List (Option (List AV))) (w : List Nat) (a : Int) (ps : List PA) (x : Pt) (cur : Nm) (c : Nat → Bool) (H : Hd2 b ku b5 b6 kp kc m cu cap u t left s tm hp L w a ps x cur c) (Q : Ex → St → Prop)
    (hq : ∀ tm' hp' L' w' v, lk tm' 6 = .ptr b6 0 → IsH hp' L' w' → L'[b6]? = some (some (stC 1 1 1 (-1) 0 true v)) → Q (.ext 2) ⟨214, tm', hp'⟩) : Ev (envL p T) (nav p2 (Tryz.f4.body.getD .skip)) s Q := by
  show Ev _ (Code.loop _) _ _
  refine Ev.loop (fun (left : Nat) s => ∃ tm hp L w a ps x cur c, Hd2 b ku b5 b6 kp kc m cu cap u t left s tm hp L w a ps x cur c) (fun l => l) ?_ (x := left) ⟨tm, hp, L, w, a, ps, x, cur, c, H⟩
  clear H s tm hp L w a ps x cur c left
  rintro left s ⟨tm, hp, L, w, a, ps, x, cur, c, rfl, hI, hL, k3, k4, k5, k6, k8, k14, k15, hf, ha, hm, hl, dv, cm, cc, hR, cr⟩
  cases left with
  | zero =>
    have hf6 := hf.b6
    have hfin : cur = ⟨1, 1, 1, -1, 0, true, .gone none⟩ := by
      cases cr with
      | init _ h => omega
      | mid _ _ h _ => omega
      | fin _ => rfl
    subst hfin
    have e0 : ((0 : Nat) : Int) = 0 := rfl
    rw [e0] at k15
    refine Ev.seq ?_
    refine Ev.seq ?_
    refine Ev.rg [0, 1] ?_
    refine Rp rfl (Z3 (Y7 k3 k4 k5 k6 k8 k14 k15)) ?_
    refine Rp rfl (Z83 (Y7 k3 k4 k5 k6 k8 k14 k15)) ?_
    refine RunTo.nil ?_
    refine Ev.condF (Z3 (Y7 k3 k4 k5 k6 k8 k14 k15)) ?_
    refine Ev.exit ?_
    refine thenE_ext ?_
    refine hq _ hp L w _ ?_ hI hf6
    exact (Z3 (Y7 k3 k4 k5 k6 k8 k14 k15))
  | succ l =>
    have hnn := hn
    unfold Dn at hnn
    refine Ev.seq ?_
    refine Ev.seq ?_
    refine Ev.rg [0, 1] ?_
    refine Rp rfl (Z3 (Y7 k3 k4 k5 k6 k8 k14 k15)) ?_
    refine Rp rfl (Z65 (Y7 k3 k4 k5 k6 k8 k14 k15)) ?_
    refine RunTo.nil ?_
    refine Ev.condT (Z3 (Y7 k3 k4 k5 k6 k8 k14 k15)) ?_
    refine Ev.skip ?_
    refine Ev.seq ?_
    refine Ev.block ?_
    refine Ev.seq ?_
    refine Ev.rg [0, 1, 2, 3] ?_
    refine Rp rfl (Z3 (Y7 k3 k4 k5 k6 k8 k14 k15)) ?_
    refine Rp rfl (Z3 (Y7 k3 k4 k5 k6 k8 k14 k15)) ?_
    refine RunTo.freeM rfl (RunOn.callL hI rfl rfl (by decide) (Z3 (Y7 k3 k4 k5 k6 k8 k14 k15)) (Z3 (Y7 k3 k4 k5 k6 k8 k14 k15)) (by simp only [List.nil_append, List.append_nil, List.cons_append]; exact c18 p T h18 h13 t a ((l + 1 : Nat) : Int) (by omega) (by omega) ha ht L b hf.b (by omega)) ?_)
    rintro v L1 w1 hp1 ⟨kz, a1, rfl, hk0, hk1, ha1, rfl, hw1⟩ hI1
    obtain ⟨k, rfl⟩ := Int.eq_ofNat_of_zero_le hk0
    have hkl : k ≤ l := by omega
    have hkm : k < ps.length := by omega
    have hlm : l < ps.length := by omega
    have hst := cm.step hlm hkl
    have hf1 := hf.setb hn (diceB t a1)
    have hL1 : (L.set b (some (diceB t a1))).length = L.length := by simp
    generalize L.set b (some (diceB t a1)) = L1 at *
    subst hm
    have g1p := hf1.kp
    refine Rp rfl (Z3 (Y7 k3 k4 k5 k6 k14 k15 k8)) ?_
    refine RunTo.nil ?_
    refine Ev.seq ?_
    refine Ev.rg [0, 1, 2, 3, 4, 5] ?_
    refine Rp rfl (Z3 (Y7 k3 k4 k5 k6 k14 k15 k8)) ?_
    refine Rp rfl (Z3 (Y7 k3 k4 k5 k6 k14 k15 k8)) ?_
    refine Rp rfl (Z112 (Y7 k3 k4 k5 k6 k14 k15 k8)) ?_
    refine Rl rfl (by ((conv => lhs; simp only [evs, evm, lk_up, lk_lf, Nat.reduceEqDiff, Nat.reduceLT, reduceIte, if_true, if_false, i64, bo, u8, nilS, Bool.not_true, Bool.not_false, List.take_succ_cons, List.take_zero, List.drop_zero, List.drop_succ_cons, List.toList_toArray, Int.reduceToNat, Nat.reduceMul, Nat.reduceAdd, Nat.reduceSub, Nat.zero_add, k3, k4, k5, k6, k14, k15, k8]); exact load_pv (ps := ps) (k := k) (by kernel_rfl) (by kernel_rfl) (hI1.get _ _ g1p) hkm (by omega))) ?_
    unfold paL
    refine RunTo.freeM rfl (RunOn.madeL (k := _) hI1 rfl rfl (by decide) rfl (Z146 (Y7 k3 k4 k5 k6 k14 k15 k8)) Z5 ?_)
    intro hp2 hI2
    have hone := (dv _ (List.getElem_mem hkm)).one
    have honl := (dv _ (List.getElem_mem hlm)).one
    refine RunTo.freeM rfl (RunOn.storeL (n := 5) hI2 rfl rfl (Z20 (Y7 k3 k4 k5 k6 k14 k15 k8)) (Z20 (Y7 k3 k4 k5 k6 k14 k15 k8)) (by kernel_rfl) rfl (pa_one hone) (get_last _ _) (by decide) (by simp; omega) ?_)
    intro hp3 hI3
    rw [set_last, setMany_all (by rfl)] at hI3
    have hI3' : IsH hp3 (L1 ++ [some (paL ps[k])]) (L1.length :: (w1 ++ w)) := hI3
    have g3p : (L1 ++ [some (paL ps[k])])[kp]? = some (some (pvC ps)) := get_app g1p
    refine RunTo.nil ?_
    refine Ev.seq ?_
    refine Ev.rg [0, 1, 2, 3, 4, 5, 6, 7, 8] ?_
    refine Rp rfl (Z3 (Y7 k3 k4 k5 k6 k14 k15 k8)) ?_
    refine Rp rfl (Z3 (Y7 k3 k4 k5 k6 k14 k15 k8)) ?_
    refine Rp rfl (Z3 (Y7 k3 k4 k5 k6 k14 k15 k8)) ?_
    refine Rp rfl (Z3 (Y7 k3 k4 k5 k6 k14 k15 k8)) ?_
    refine Rp rfl (Z87 (Y7 k3 k4 k5 k6 k14 k15 k8)) ?_
    refine Rp rfl (Z112 (Y7 k3 k4 k5 k6 k14 k15 k8)) ?_
    refine Rl rfl (by ((conv => lhs; simp only [evs, evm, lk_up, lk_lf, Nat.reduceEqDiff, Nat.reduceLT, reduceIte, if_true, if_false, i64, bo, u8, nilS, Bool.not_true, Bool.not_false, List.take_succ_cons, List.take_zero, List.drop_zero, List.drop_succ_cons, List.toList_toArray, Int.reduceToNat, Nat.reduceMul, Nat.reduceAdd, Nat.reduceSub, Nat.zero_add, k3, k4, k5, k6, k14, k15, k8]); exact load_pv (ps := ps) (k := l) (by kernel_rfl) (by kernel_rfl) (hI3'.get _ _ g3p) hlm (by omega))) ?_
    unfold paL
    refine Rp rfl (Z112 (Y7 k3 k4 k5 k6 k14 k15 k8)) ?_
    rw [show 0 + Int.toNat (k : Int) * 5 = k * 5 by omega]
    refine RunTo.freeM rfl (RunOn.storeL (n := 5) hI3' rfl rfl (Z20 (Y7 k3 k4 k5 k6 k14 k15 k8)) (Z20 (Y7 k3 k4 k5 k6 k14 k15 k8)) (by kernel_rfl) rfl (pa_one honl) g3p (by rw [pvC_len]; omega) (by simp; omega) ?_)
    intro hp4 hI4
    have eset : Eng.setMany (pvC ps) (k * 5) (AV.cells (.agg (paL ps[l]))) = pvC (ps.set k ps[l]) := pvC_set hkm ps[l]
    rw [eset] at hI4
    have hkpl := lt_of_get g1p
    have hf4 := (hf1.app [some (paL ps[k])]).setp hn (pvC (ps.set k ps[l]))
    have gq4 : ((L1 ++ [some (paL ps[k])]).set kp (some (pvC (ps.set k ps[l]))))[L1.length]? = some (some [i64 0, i64 ps[k].1.part, i64 0, i64 ps[k].1.off, ps[k].2]) := get_set_ne (by omega) (get_last _ _)
    have hL4 : ((L1 ++ [some (paL ps[k])]).set kp (some (pvC (ps.set k ps[l])))).length = L.length + 1 := by simp [hL1]
    have hj : L1.length ≠ b ∧ L1.length ≠ ku ∧ L1.length ≠ b5 ∧ L1.length ≠ b6 ∧ L1.length ≠ kp ∧ L1.length ≠ kc := by
      have q1 := lt_of_get hf1.b
      have q2 := lt_of_get hf1.ku
      have q3 := lt_of_get hf1.b5
      have q4 := lt_of_get hf1.b6
      have q5 := lt_of_get hf1.kc
      omega
    generalize (L1 ++ [some (paL ps[k])]).set kp (some (pvC (ps.set k ps[l]))) = L4 at *
    clear hI3 hI3' hI2 hI1 hI g3p g1p hf1 hf
    generalize L1.length = j at *
    refine RunTo.nil ?_
    refine Ev.seq ?_
    refine Ev.rg [0, 1] ?_
    refine Rp rfl (Z43 (Y7 k3 k4 k5 k6 k14 k15 k8)) ?_
    refine RunTo.freeM rfl (RunOn.storeL (n := 1) hI4 rfl rfl (Z3 (Y7 k3 k4 k5 k6 k14 k15 k8)) (Z3 (Y7 k3 k4 k5 k6 k14 k15 k8)) (by kernel_rfl) Z6 Z6 (by assumption) Z9 Z5 ?_)
    intro hp5 hI5
    simp only [set_last, List.set_set, List.set_cons_zero, List.set_cons_succ, List.take_succ_cons, List.take_zero, List.drop_succ_cons, List.drop_zero, Eng.setMany, evc, Nat.zero_add, Nat.reduceAdd, Nat.reduceMul, Nat.reduceSub] at hI5
    refine RunTo.nil ?_
    refine Ev.seq ?_
    refine Ev.rg [0, 1, 2, 3, 4, 5, 6, 7, 8] ?_
    refine Rp rfl (Z56 (Y7 k3 k4 k5 k6 k14 k15 k8)) ?_
    have hf5 : HF (L4.set j (some [i64 0, i64 ps[k].1.part, AV.sc (.int .i64 1), i64 ps[k].1.off, ps[k].2])) b ku b5 b6 kp kc (diceB t a1) (byC u) [i64 6, i64 8, i64 4, i64 3, i64 0, i64 32] (stC cur.fi cur.ne cur.up cur.ma cur.le cur.due (cur.px.v true)) (pvC (ps.set k ps[l])) (comeC u.length c) :=
      ⟨get_set_ne (by omega) hf4.b, get_set_ne (by omega) hf4.ku, get_set_ne (by omega) hf4.b5, get_set_ne (by omega) hf4.b6, get_set_ne (by omega) hf4.kp, get_set_ne (by omega) hf4.kc⟩
    have gq5 : (L4.set j (some [i64 0, i64 ps[k].1.part, AV.sc (.int .i64 1), i64 ps[k].1.off, ps[k].2]))[j]? = some (some [i64 0, i64 ps[k].1.part, i64 1, i64 ps[k].1.off, ps[k].2]) := get_set_self gq4
    have hL5 : (L4.set j (some [i64 0, i64 ps[k].1.part, AV.sc (.int .i64 1), i64 ps[k].1.off, ps[k].2])).length = L.length + 1 := by simp [hL4]
    generalize L4.set j (some [i64 0, i64 ps[k].1.part, AV.sc (.int .i64 1), i64 ps[k].1.off, ps[k].2]) = L5 at *
    clear hf4 gq4 hI4
    have g5 := hf5.b5
    have hqin := hst.pin _ List.mem_cons_self
    have hqle := hqin.le
    have hqok : ps[k].1.Ok := ⟨by intro e; have := hqin.pos; rw [e] at this; simp at this, by omega⟩
    obtain ⟨cq, hzq, hcq⟩ := (dv _ (List.getElem_mem hkm)).frz (n := 17) (IsH.wlSet (by assumption) []) hf5.ku hcu
    have h32e : F32 [i64 6, .agg [i64 0, i64 ps[k].1.part, i64 1, i64 ps[k].1.off, byV false ps[k].1.bs cq]] = some (.tup [byV true ps[k].1.enc none, i64 0]) := F32_eq hqok
    refine Rl rfl (Z30 (Y7 k3 k4 k5 k6 k14 k15 k8)) ?_
    refine Rl rfl (Z106 (Y7 k3 k4 k5 k6 k14 k15 k8)) ?_
    refine RunTo.freeM rfl (RunOn.tree rfl rfl (by decide) (Z3 (Y7 k3 k4 k5 k6 k14 k15 k8)) (Z3 (Y7 k3 k4 k5 k6 k14 k15 k8)) (by assumption) (by simp only [List.nil_append, List.append_nil, List.cons_append]; exact allO_cons frz_sc (allO_cons (frz_agg (allO_cons frz_sc (allO_cons frz_sc (allO_cons frz_sc (allO_cons frz_sc (allO_cons hzq allO_nil)))))) allO_nil)) (by exact h32e) ?_)
    refine Rp rfl (Z3 (Y7 k3 k4 k5 k6 k14 k15 k8)) ?_
    refine Rp rfl (Z3 (Y7 k3 k4 k5 k6 k14 k15 k8)) ?_
    refine Rp rfl (Z3 (Y7 k3 k4 k5 k6 k14 k15 k8)) ?_
    refine Rp rfl (Z3 (Y7 k3 k4 k5 k6 k14 k15 k8)) ?_
    refine Rp rfl (Z3 (Y7 k3 k4 k5 k6 k14 k15 k8)) ?_
    refine RunTo.nil ?_
    refine Ev.seq ?_
    refine Ev.seq ?_
    refine Ev.rg [0, 1] ?_
    refine Rp rfl (Z3 (Y7 k3 k4 k5 k6 k14 k15 k8)) ?_
    refine Rp rfl (Z95 (Y7 k3 k4 k5 k6 k14 k15 k8)) ?_
    refine RunTo.nil ?_
    refine Ev.condF (Z3 (Y7 k3 k4 k5 k6 k14 k15 k8)) ?_
    refine Ev.skip ?_
    refine Ev.seq ?_
    refine Ev.rg [0] ?_
    refine Rp rfl (Z3 (Y7 k3 k4 k5 k6 k14 k15 k8)) ?_
    refine RunTo.nil ?_
    refine Ev.seq ?_
    refine Ev.rg [0, 1, 2, 3, 4, 5, 6, 7, 8, 9] ?_
    have hRc : RcPre cur ps[k].1 := cr.pre hst hu0 (by omega) hub (by omega)
    have h33e : F33 [.agg cur.c, byV false ps[k].1.enc none] = some (rcOut cur ps[k].1) := F33_eq hRc
    have hX := cr.put ps[k].1
    have hcm2 := hst.put
    have hne2 : (x.put ps[k].1).R ≠ [] := unionG_ne
    have hlen2 : (((ps.set k ps[l]).take l).map (·.1)).length = l := by simp; omega
    have hcr2 : Cur u (cur.put ps[k].1) (x.put ps[k].1) l := cr.next hcm2 hu0 (by
      constructor
      · intro e
        rw [e] at hlen2
        simpa using hlen2.symm
      · intro e
        exact List.eq_nil_of_length_eq_zero (by omega))
    have hR2 : (x.put ps[k].1).R.length + l ≤ 20 := by
      have := unionG_len x.R [] [] (ps[k].1.off, ps[k].1.off + ps[k].1.bs.length)
      simp only [Pt.put]
      simp at this
      omega
    have hVs := hcr2.st hcm2 hlen2 hu0 (by omega) hub (by omega)
    obtain ⟨mv, gs, hso, hmv, hgl, hgn⟩ := hcr2.named hne2 hcm2 hlen2 (by omega)
    have hwl : (cur.px.put ps[k].1).whole = decide (l = 0) := by
      rw [hX]
      rcases Nat.eq_zero_or_pos l with e | e
      · subst e
        exact (hcm2.whole hu0).2 (List.eq_nil_of_length_eq_zero hlen2)
      · rw [decide_eq_false (by omega)]
        cases hb : (x.put ps[k].1).whole with
        | false => rfl
        | true =>
          rw [(hcm2.whole hu0).1 hb] at hlen2
          simp at hlen2
          omega
    have hDu : l = 0 → (cur.px.put ps[k].1).D = u := by
      intro e
      subst e
      rw [hX]
      have e0 : ((ps.set k ps[0]).take 0).map (fun y : PA => y.1) = [] := rfl
      rw [e0] at hcm2
      exact hcm2.done hu0
    have h34e : F34 [.agg (cur.put ps[k].1).c] = some (stOut (cur.put ps[k].1)) := F34_eq hVs
    rw [hso] at h34e
    unfold rcOut at h33e
    rw [hwl] at h33e
    obtain ⟨ov, hov⟩ : ∃ ov, ov = (if decide (l = 0) = true then byV true (cur.px.put ps[k].1).D none else nilS) := ⟨_, rfl⟩
    rw [← hov] at h33e
    generalize cur.put ps[k].1 = nm at *
    unfold Nm.cw Nm.c stC at h33e
    unfold Nm.c stC at h34e
    have g6 := hf5.b6
    unfold stC at g6
    refine Rl rfl (Z139 (Y7 k3 k4 k5 k6 k14 k15 k8)) ?_
    refine Rp rfl (Z3 (Y7 k3 k4 k5 k6 k14 k15 k8)) ?_
    refine RunTo.freeM rfl (RunOn.tree rfl rfl (by decide) (Z3 (Y7 k3 k4 k5 k6 k14 k15 k8)) (Z3 (Y7 k3 k4 k5 k6 k14 k15 k8)) (by assumption) (by simp only [List.nil_append, List.append_nil, List.cons_append]; exact allO_cons (frz_agg (allO_cons frz_sc (allO_cons frz_sc (allO_cons frz_sc (allO_cons frz_sc (allO_cons frz_sc (allO_cons frz_sc (allO_cons frz_sc (allO_cons frz_sc (allO_cons frz_sc (allO_cons frz_sc (allO_cons frz_sc (allO_cons frz_sc (allO_cons frz_sc (allO_cons (frz_par0 _) allO_nil))))))))))))))) (allO_cons (frz_by0 _ _) allO_nil)) (by exact h33e) ?_)
    refine Rp rfl (Z3 (Y7 k3 k4 k5 k6 k14 k15 k8)) ?_
    refine Rp rfl (Z3 (Y7 k3 k4 k5 k6 k14 k15 k8)) ?_
    refine Rp rfl (Z3 (Y7 k3 k4 k5 k6 k14 k15 k8)) ?_
    refine Rp rfl (Z3 (Y7 k3 k4 k5 k6 k14 k15 k8)) ?_
    refine RunTo.freeM rfl (RunOn.storeL (n := 14) hI5 rfl rfl (Z20 (Y7 k3 k4 k5 k6 k14 k15 k8)) (Z20 (Y7 k3 k4 k5 k6 k14 k15 k8)) (by kernel_rfl) rfl (st_one (par_one _)) hf5.b6 (by simp [stC]) (by omega) ?_)
    intro hp6 hI6
    rw [setMany_all (by rfl)] at hI6
    have hI6' : IsH hp6 (L5.set b6 (some (stC nm.fi nm.ne nm.up nm.ma nm.le nm.due (nm.px.v true)))) (b6 :: j :: kp :: j :: (w1 ++ w)) := hI6
    have hf6 := hf5.set6 hn (stC nm.fi nm.ne nm.up nm.ma nm.le nm.due (nm.px.v true))
    have gq6 : (L5.set b6 (some (stC nm.fi nm.ne nm.up nm.ma nm.le nm.due (nm.px.v true))))[j]? = some (some [i64 0, i64 ps[k].1.part, i64 1, i64 ps[k].1.off, ps[k].2]) := get_set_ne (by omega) gq5
    have hL6 : (L5.set b6 (some (stC nm.fi nm.ne nm.up nm.ma nm.le nm.due (nm.px.v true)))).length = L.length + 1 := by simp [hL5]
    generalize L5.set b6 (some (stC nm.fi nm.ne nm.up nm.ma nm.le nm.due (nm.px.v true))) = L6 at *
    clear hI6 hI5 hf5 gq5 g5 g6 hL5
    refine Rp rfl (Z3 (Y7 k3 k4 k5 k6 k14 k15 k8)) ?_
    refine Rp rfl (Z3 (Y7 k3 k4 k5 k6 k14 k15 k8)) ?_
    refine RunTo.nil ?_
    refine Ev.seq ?_
    refine Ev.seq ?_
    refine Ev.rg [0] ?_
    refine Rp rfl (Z3 (Y7 k3 k4 k5 k6 k14 k15 k8)) ?_
    refine RunTo.nil ?_
    refine Ev.block ?_
    refine lA p T _ _ L6 _ hI6' (by omega) j kc u.length ps[k].1.off ps[k].1.bs.length c (i64 ps[k].1.part) ps[k].2 (by omega) (dv _ (List.getElem_mem hkm)).len hqle ?_ ?_ ?_ gq6 hf6.kc (by omega) _ ?_
    · exact (Z3 (Y7 k3 k4 k5 k6 k14 k15 k8))
    · exact (Z3 (Y7 k3 k4 k5 k6 k14 k15 k8))
    · exact (Z3 (Y7 k3 k4 k5 k6 k14 k15 k8))
    intro tm2 hp7 w7 c2 hk2 hc2 hI7
    have q3 : lk tm2 3 = .ptr b 0 := (hk2 3 (by simp)).trans (Z20 (Y7 k3 k4 k5 k6 k14 k15 k8))
    have q4 : lk tm2 4 = .sl ku 0 u.length cu 1 := (hk2 4 (by simp)).trans (Z20 (Y8 k3 k4 k5 k6 k14 k15 k8 q3))
    have q5 : lk tm2 5 = .ptr b5 0 := (hk2 5 (by simp)).trans (Z20 (Y9 k3 k4 k5 k6 k14 k15 k8 q3 q4))
    have q6 : lk tm2 6 = .ptr b6 0 := (hk2 6 (by simp)).trans (Z20 (Y10 k3 k4 k5 k6 k14 k15 k8 q3 q4 q5))
    have q8 : lk tm2 8 = .sl kp 0 ps.length cap 5 := (hk2 8 (by simp)).trans (Z20 (Y11 k3 k4 k5 k6 k14 k15 k8 q3 q4 q5 q6))
    have q14 : lk tm2 14 = .sl kc 0 u.length (some u.length) 1 := (hk2 14 (by simp)).trans (Z20 (Y12 k3 k4 k5 k6 k14 k15 k8 q3 q4 q5 q6 q8))
    have q15 : lk tm2 15 = i64 ((l + 1 : Nat) : Int) := (hk2 15 (by simp)).trans (Z20 (Y13 k3 k4 k5 k6 k14 k15 k8 q3 q4 q5 q6 q8 q14))
    have q19 : lk tm2 19 = i64 0 := (hk2 19 (by simp)).trans (Z20 (Y14 k3 k4 k5 k6 k14 k15 k8 q3 q4 q5 q6 q8 q14 q15))
    have q20 : lk tm2 20 = ov := (hk2 20 (by simp)).trans (Z20 (Y15 k3 k4 k5 k6 k14 k15 k8 q3 q4 q5 q6 q8 q14 q15 q19))
    have hf7 := hf6.setc hn (comeC u.length c2)
    have hL7 : (L6.set kc (some (comeC u.length c2))).length = L.length + 1 := by simp [hL6]
    generalize L6.set kc (some (comeC u.length c2)) = L7 at *
    clear hI6' hf6 gq6 hL6 hk2
    clear k3 k4 k5 k6 k8 k14 k15
    have g6 := hf7.b6
    unfold stC at g6
    refine inBlock_pos ?_
    refine Ev.seq ?_
    refine Ev.rg [0, 1, 2, 3, 4, 5, 6, 7] ?_
    refine Rl rfl (Z139 (Y9 q3 q4 q5 q6 q8 q14 q15 q19 q20)) ?_
    refine RunTo.freeM rfl (RunOn.tree rfl rfl (by decide) (Z3 (Y9 q3 q4 q5 q6 q8 q14 q15 q19 q20)) (Z3 (Y9 q3 q4 q5 q6 q8 q14 q15 q19 q20)) (by assumption) (by simp only [List.nil_append, List.append_nil, List.cons_append]; exact allO_cons (frz_agg (allO_cons frz_sc (allO_cons frz_sc (allO_cons frz_sc (allO_cons frz_sc (allO_cons frz_sc (allO_cons frz_sc (allO_cons frz_sc (allO_cons frz_sc (allO_cons frz_sc (allO_cons frz_sc (allO_cons frz_sc (allO_cons frz_sc (allO_cons frz_sc (allO_cons (frz_par0 _) allO_nil))))))))))))))) allO_nil) (by exact h34e) ?_)
    refine Rp rfl (Z3 (Y9 q3 q4 q5 q6 q8 q14 q15 q19 q20)) ?_
    refine Rp rfl (Z3 (Y9 q3 q4 q5 q6 q8 q14 q15 q19 q20)) ?_
    refine Rp rfl (Z3 (Y9 q3 q4 q5 q6 q8 q14 q15 q19 q20)) ?_
    refine RunTo.freeM rfl (RunOn.madeL (k := _) hI7 rfl rfl (by decide) rfl (by ((conv => lhs; simp only [evs, evm, lk_up, lk_lf, Nat.reduceEqDiff, Nat.reduceLT, reduceIte, if_true, if_false, i64, bo, u8, nilS, Bool.not_true, Bool.not_false, List.take_succ_cons, List.take_zero, List.drop_zero, List.drop_succ_cons, List.toList_toArray, Int.reduceToNat, Nat.reduceMul, Nat.reduceAdd, Nat.reduceSub, Nat.zero_add, q3, q4, q5, q6, q8, q14, q15, q19, q20]); exact allocA_ok (z := [.sc (.int .i64 (0)), .sc (.slice none 0 0)]) (by kernel_rfl))) Z5 ?_)
    intro hp8 hI8
    have hmo : AV.one mv = true := by
      rcases hmv with ⟨_, e⟩ | e <;> rw [e] <;> rfl
    have hmall : (AV.cells (.agg [i64 1, mv])).all AV.one = true := by
      simp only [AV.cells, List.all_cons, List.all_nil, hmo, Bool.and_true]
      rfl
    refine RunTo.freeM rfl (RunOn.storeL (n := 2) hI8 rfl rfl (Z20 (Y9 q3 q4 q5 q6 q8 q14 q15 q19 q20)) (Z20 (Y9 q3 q4 q5 q6 q8 q14 q15 q19 q20)) (by kernel_rfl) rfl hmall (get_last _ _) (by decide) (by simp; omega) ?_)
    intro hp9 hI9
    rw [set_last, setMany_all (by rfl)] at hI9
    have hf9 := hf7.app [some (AV.cells (.agg [i64 1, mv]))]
    have cc2 : ∀ i, i < u.length → (c2 i = true ↔ cov (x.put ps[k].1).R i) := by
      intro i hi
      have hr : (ps[k].1.off, ps[k].1.off + ps[k].1.bs.length).1 < (ps[k].1.off, ps[k].1.off + ps[k].1.bs.length).2 := by
        have := hqin.pos
        simp only
        omega
      rw [hc2 i, Bool.or_eq_true, decide_eq_true_iff, cc i hi]
      exact ((union_ok hst.nrm hr).2 i).symm
    have hhit : ∀ i, i < u.length → hit i gs = !(c2 i) := by
      intro i hi
      have h1 : hit i gs = true ↔ ¬ c2 i = true := by
        rw [hit, List.any_eq_true]
        simp only [decide_eq_true_eq]
        rw [cc2 i hi]
        exact hgn i hi
      cases e1 : hit i gs <;> cases e2 : c2 i <;> simp_all
    have hdv2 : ∀ y ∈ ps.set k ps[l], DvOk ku u cu y := by
      intro y hy
      rcases List.mem_or_eq_of_mem_set hy with e | e
      · exact dv y e
      · rw [e]; exact dv _ (List.getElem_mem hlm)
    rcases Nat.eq_zero_or_pos l with e | e
    · subst e
      rw [if_pos (by decide), hDu rfl] at hov
      subst hov
      refine Rp rfl (Z3 (Y9 q3 q4 q5 q6 q8 q14 q19 q15 q20)) ?_
      refine RunTo.nil ?_
      refine Ev.seq ?_
      refine Ev.seq ?_
      refine Ev.rg [0, 1, 2, 3, 4, 5, 6, 7, 8, 9, 10, 11, 12, 13, 14, 15, 16, 17, 18, 19, 20, 21, 22, 23] ?_
      refine Rp rfl (Z3 (Y9 q3 q4 q5 q6 q8 q14 q19 q15 q20)) ?_
      refine Rp rfl (Z95 (Y9 q3 q4 q5 q6 q8 q14 q19 q15 q20)) ?_
      refine Rp rfl (Z3 (Y9 q3 q4 q5 q6 q8 q14 q19 q15 q20)) ?_
      refine Gp rfl rfl (Z10 (Y9 q3 q4 q5 q6 q8 q14 q19 q15 q20)) (Z3 (Y9 q3 q4 q5 q6 q8 q14 q19 q15 q20)) ?_
      refine Gp rfl rfl (Z10 (Y9 q3 q4 q5 q6 q8 q14 q19 q15 q20)) (Z95 (Y9 q3 q4 q5 q6 q8 q14 q19 q15 q20)) ?_
      refine Rp rfl (Z3 (Y9 q3 q4 q5 q6 q8 q14 q19 q15 q20)) ?_
      refine Rp rfl (Z3 (Y9 q3 q4 q5 q6 q8 q14 q19 q15 q20)) ?_
      refine Gp rfl rfl (Z10 (Y9 q3 q4 q5 q6 q8 q14 q19 q15 q20)) (Z3 (Y9 q3 q4 q5 q6 q8 q14 q19 q15 q20)) ?_
      refine Gp rfl rfl (Z10 (Y9 q3 q4 q5 q6 q8 q14 q19 q15 q20)) (by ((conv => lhs; simp only [evs, evm, lk_up, lk_lf, Nat.reduceEqDiff, Nat.reduceLT, reduceIte, if_true, if_false, i64, bo, u8, nilS, Bool.not_true, Bool.not_false, List.take_succ_cons, List.take_zero, List.drop_zero, List.drop_succ_cons, List.toList_toArray, Int.reduceToNat, Nat.reduceMul, Nat.reduceAdd, Nat.reduceSub, Nat.zero_add, q3, q4, q5, q6, q8, q14, q19, q15, q20]); exact pCall_len (Z3 (Y9 q3 q4 q5 q6 q8 q14 q19 q15 q20)) (len_by (by kernel_rfl)))) ?_
      refine Gp rfl rfl (Z10 (Y9 q3 q4 q5 q6 q8 q14 q19 q15 q20)) (Z65 (Y9 q3 q4 q5 q6 q8 q14 q19 q15 q20)) ?_
      refine Gp rfl rfl (Z10 (Y9 q3 q4 q5 q6 q8 q14 q19 q15 q20)) (Z3 (Y9 q3 q4 q5 q6 q8 q14 q19 q15 q20)) ?_
      refine Gp rfl rfl (Z10 (Y9 q3 q4 q5 q6 q8 q14 q19 q15 q20)) (Z147 (Y9 q3 q4 q5 q6 q8 q14 q19 q15 q20)) ?_
      refine Gp rfl rfl (Z10 (Y9 q3 q4 q5 q6 q8 q14 q19 q15 q20)) (Z3 (Y9 q3 q4 q5 q6 q8 q14 q19 q15 q20)) ?_
      refine Rp rfl (Z3 (Y9 q3 q4 q5 q6 q8 q14 q19 q15 q20)) ?_
      refine Rp rfl (Z3 (Y9 q3 q4 q5 q6 q8 q14 q19 q15 q20)) ?_
      refine Gp rfl rfl (Z10 (Y9 q3 q4 q5 q6 q8 q14 q19 q15 q20)) (Z3 (Y9 q3 q4 q5 q6 q8 q14 q19 q15 q20)) ?_
      refine Gp rfl rfl (Z10 (Y9 q3 q4 q5 q6 q8 q14 q19 q15 q20)) (Z147 (Y9 q3 q4 q5 q6 q8 q14 q19 q15 q20)) ?_
      refine Gp rfl rfl (Z10 (Y9 q3 q4 q5 q6 q8 q14 q19 q15 q20)) (Z3 (Y9 q3 q4 q5 q6 q8 q14 q19 q15 q20)) ?_
      refine Gp rfl rfl (Z10 (Y9 q3 q4 q5 q6 q8 q14 q19 q15 q20)) (Z3 (Y9 q3 q4 q5 q6 q8 q14 q19 q15 q20)) ?_
      refine Gp rfl rfl (Z10 (Y9 q3 q4 q5 q6 q8 q14 q19 q15 q20)) (Z3 (Y9 q3 q4 q5 q6 q8 q14 q19 q15 q20)) ?_
      refine RunTo.guardOnM rfl rfl (by decide) (Z10 (Y9 q3 q4 q5 q6 q8 q14 q19 q15 q20)) (RunOn.tree rfl rfl (by decide) (Z3 (Y9 q3 q4 q5 q6 q8 q14 q19 q15 q20)) (Z3 (Y9 q3 q4 q5 q6 q8 q14 q19 q15 q20)) (by assumption) (by simp only [List.nil_append, List.append_nil, List.cons_append]; exact allO_cons (frz_by0 _ _) (allO_cons (frz_slby (IsH.wlSet (by assumption) []) hf9.ku rfl rfl) allO_nil)) (by exact F28_eq u none cu) ?_)
      refine Gp rfl rfl (Z10 (Y9 q3 q4 q5 q6 q8 q14 q19 q15 q20)) (by ((conv => lhs; simp only [evs, evm, lk_up, lk_lf, Nat.reduceEqDiff, Nat.reduceLT, reduceIte, if_true, if_false, i64, bo, u8, nilS, Bool.not_true, Bool.not_false, List.take_succ_cons, List.take_zero, List.drop_zero, List.drop_succ_cons, List.toList_toArray, Int.reduceToNat, Nat.reduceMul, Nat.reduceAdd, Nat.reduceSub, Nat.zero_add, q3, q4, q5, q6, q8, q14, q19, q15, q20]); exact un_not)) ?_
      refine Gp rfl rfl (Z10 (Y9 q3 q4 q5 q6 q8 q14 q19 q15 q20)) (Z3 (Y9 q3 q4 q5 q6 q8 q14 q19 q15 q20)) ?_
      refine Rp rfl (Z3 (Y9 q3 q4 q5 q6 q8 q14 q19 q15 q20)) ?_
      refine RunTo.nil ?_
      refine Ev.condF (Z3 (Y9 q3 q4 q5 q6 q8 q14 q19 q15 q20)) ?_
      refine Ev.skip ?_
      refine Ev.seq ?_
      refine Ev.rg [0] ?_
      refine Rp rfl (Z3 (Y9 q3 q4 q5 q6 q8 q14 q19 q15 q20)) ?_
      refine RunTo.nil ?_
      refine Ev.block ?_
      refine lB p T _ _ (L7 ++ [some [i64 1, mv]]) _ hI9 L7.length ku kc u.length cu (i64 1) mv gs c2 (by omega) ?_ ?_ ?_ ?_ (get_last _ _) (get_app hf7.kc) hmv (by omega) hhit _ ?_
      · exact (Z3 (Y9 q3 q4 q5 q6 q8 q14 q19 q15 q20))
      · exact (Z3 (Y9 q3 q4 q5 q6 q8 q14 q19 q15 q20))
      · exact (Z3 (Y9 q3 q4 q5 q6 q8 q14 q19 q15 q20))
      · exact (Z3 (Y9 q3 q4 q5 q6 q8 q14 q19 q15 q20))
      intro tm3 hk3
      have r3 : lk tm3 3 = .ptr b 0 := (hk3 3 (by simp)).trans (Z20 (Y9 q3 q4 q5 q6 q8 q14 q19 q15 q20))
      have r4 : lk tm3 4 = .sl ku 0 u.length cu 1 := (hk3 4 (by simp)).trans (Z20 (Y10 q3 q4 q5 q6 q8 q14 q19 q15 q20 r3))
      have r5 : lk tm3 5 = .ptr b5 0 := (hk3 5 (by simp)).trans (Z20 (Y11 q3 q4 q5 q6 q8 q14 q19 q15 q20 r3 r4))
      have r6 : lk tm3 6 = .ptr b6 0 := (hk3 6 (by simp)).trans (Z20 (Y12 q3 q4 q5 q6 q8 q14 q19 q15 q20 r3 r4 r5))
      have r8 : lk tm3 8 = .sl kp 0 ps.length cap 5 := (hk3 8 (by simp)).trans (Z20 (Y13 q3 q4 q5 q6 q8 q14 q19 q15 q20 r3 r4 r5 r6))
      have r14 : lk tm3 14 = .sl kc 0 u.length (some u.length) 1 := (hk3 14 (by simp)).trans (Z20 (Y14 q3 q4 q5 q6 q8 q14 q19 q15 q20 r3 r4 r5 r6 r8))
      have r15 : lk tm3 15 = i64 (0 + 1 : Nat) := (hk3 15 (by simp)).trans (Z20 (Y15 q3 q4 q5 q6 q8 q14 q19 q15 q20 r3 r4 r5 r6 r8 r14))
      clear q3 q4 q5 q6 q8 q14 q15 q19 q20 hk3
      refine inBlock_pos ?_
      refine Ev.rg [0, 1, 2] ?_
      refine Rp rfl (Z3 (Y7 r3 r4 r5 r6 r8 r14 r15)) ?_
      refine Rp rfl (by ((conv => lhs; simp only [evs, evm, lk_up, lk_lf, Nat.reduceEqDiff, Nat.reduceLT, reduceIte, if_true, if_false, i64, bo, u8, nilS, Bool.not_true, Bool.not_false, List.take_succ_cons, List.take_zero, List.drop_zero, List.drop_succ_cons, List.toList_toArray, Int.reduceToNat, Nat.reduceMul, Nat.reduceAdd, Nat.reduceSub, Nat.zero_add, r3, r4, r5, r6, r8, r14, r15]); exact bin_is (v := .sc (.int .i64 (0))) (by kernel_rfl))) ?_
      refine Rp rfl (Z3 (Y7 r3 r4 r5 r6 r8 r14 r15)) ?_
      refine RunTo.nil ?_
      refine ⟨0, ⟨_, _, _, _, a1, ps.set k ps[0], x.put ps[k].1, nm, c2, ⟨rfl, hI9, by simp; omega, ?_, ?_, ?_, ?_, ?_, ?_, ?_, hf9, ha1, by simp, by omega, hdv2, hcm2, cc2, hR2, hcr2⟩⟩, by omega⟩
      · exact (Z3 (Y7 r3 r4 r5 r6 r8 r14 r15))
      · exact (Z3 (Y7 r3 r4 r5 r6 r8 r14 r15))
      · exact (Z3 (Y7 r3 r4 r5 r6 r8 r14 r15))
      · exact (Z3 (Y7 r3 r4 r5 r6 r8 r14 r15))
      · exact (Z3 (Y7 r3 r4 r5 r6 r8 r14 r15))
      · exact (Z3 (Y7 r3 r4 r5 r6 r8 r14 r15))
      · rw [show ((0 : Nat) : Int) = ((0 + 1 : Nat) : Int) - 1 by omega]
        exact (Z3 (Y7 r3 r4 r5 r6 r8 r14 r15))
    · rw [if_neg (by simp; omega)] at hov
      subst hov
      refine Rp rfl (Z3 (Y9 q3 q4 q5 q6 q8 q14 q15 q19 q20)) ?_
      refine RunTo.nil ?_
      refine Ev.seq ?_
      refine Ev.seq ?_
      refine Ev.rg [0, 1, 2, 3, 4, 5, 6, 7, 8, 9, 10, 11, 12, 13, 14, 15, 16, 17, 18, 19, 20, 21, 22, 23] ?_
      refine Rp rfl (Z3 (Y9 q3 q4 q5 q6 q8 q14 q15 q19 q20)) ?_
      refine Rp rfl (Z95 (Y9 q3 q4 q5 q6 q8 q14 q15 q19 q20)) ?_
      refine Rp rfl (Z3 (Y9 q3 q4 q5 q6 q8 q14 q15 q19 q20)) ?_
      refine Gp rfl rfl (Z10 (Y9 q3 q4 q5 q6 q8 q14 q15 q19 q20)) (Z3 (Y9 q3 q4 q5 q6 q8 q14 q15 q19 q20)) ?_
      refine Gp rfl rfl (Z10 (Y9 q3 q4 q5 q6 q8 q14 q15 q19 q20)) (Z95 (Y9 q3 q4 q5 q6 q8 q14 q15 q19 q20)) ?_
      refine Rp rfl (Z3 (Y9 q3 q4 q5 q6 q8 q14 q15 q19 q20)) ?_
      refine Rp rfl (Z3 (Y9 q3 q4 q5 q6 q8 q14 q15 q19 q20)) ?_
      refine Gp rfl rfl (Z10 (Y9 q3 q4 q5 q6 q8 q14 q15 q19 q20)) (Z3 (Y9 q3 q4 q5 q6 q8 q14 q15 q19 q20)) ?_
      refine Gp rfl rfl (Z10 (Y9 q3 q4 q5 q6 q8 q14 q15 q19 q20)) (Z141 (Y9 q3 q4 q5 q6 q8 q14 q15 q19 q20)) ?_
      refine Gp rfl rfl (Z10 (Y9 q3 q4 q5 q6 q8 q14 q15 q19 q20)) (Z83 (Y9 q3 q4 q5 q6 q8 q14 q15 q19 q20)) ?_
      refine Gp rfl rfl (Z10 (Y9 q3 q4 q5 q6 q8 q14 q15 q19 q20)) (Z3 (Y9 q3 q4 q5 q6 q8 q14 q15 q19 q20)) ?_
      refine Gp rfl rfl (Z10 (Y9 q3 q4 q5 q6 q8 q14 q15 q19 q20)) (by ((conv => lhs; simp only [evs, evm, lk_up, lk_lf, Nat.reduceEqDiff, Nat.reduceLT, reduceIte, if_true, if_false, i64, bo, u8, nilS, Bool.not_true, Bool.not_false, List.take_succ_cons, List.take_zero, List.drop_zero, List.drop_succ_cons, List.toList_toArray, Int.reduceToNat, Nat.reduceMul, Nat.reduceAdd, Nat.reduceSub, Nat.zero_add, q3, q4, q5, q6, q8, q14, q15, q19, q20]); exact eql_f (by omega))) ?_
      refine Gp rfl rfl (Z10 (Y9 q3 q4 q5 q6 q8 q14 q15 q19 q20)) (Z3 (Y9 q3 q4 q5 q6 q8 q14 q15 q19 q20)) ?_
      refine Rp rfl (Z3 (Y9 q3 q4 q5 q6 q8 q14 q15 q19 q20)) ?_
      refine Rp rfl (Z3 (Y9 q3 q4 q5 q6 q8 q14 q15 q19 q20)) ?_
      refine Gp rfl rfl (Z10 (Y9 q3 q4 q5 q6 q8 q14 q15 q19 q20)) (Z3 (Y9 q3 q4 q5 q6 q8 q14 q15 q19 q20)) ?_
      refine Gp rfl rfl (Z10 (Y9 q3 q4 q5 q6 q8 q14 q15 q19 q20)) (by ((conv => lhs; simp only [evs, evm, lk_up, lk_lf, Nat.reduceEqDiff, Nat.reduceLT, reduceIte, if_true, if_false, i64, bo, u8, nilS, Bool.not_true, Bool.not_false, List.take_succ_cons, List.take_zero, List.drop_zero, List.drop_succ_cons, List.toList_toArray, Int.reduceToNat, Nat.reduceMul, Nat.reduceAdd, Nat.reduceSub, Nat.zero_add, q3, q4, q5, q6, q8, q14, q15, q19, q20]); exact eql_f (by omega))) ?_
      refine Gp rfl rfl (Z10 (Y9 q3 q4 q5 q6 q8 q14 q15 q19 q20)) (Z3 (Y9 q3 q4 q5 q6 q8 q14 q15 q19 q20)) ?_
      refine Gf rfl rfl (Z10 (Y9 q3 q4 q5 q6 q8 q14 q15 q19 q20)) ?_
      refine Gf rfl rfl (Z10 (Y9 q3 q4 q5 q6 q8 q14 q15 q19 q20)) ?_
      refine Gf rfl rfl (Z10 (Y9 q3 q4 q5 q6 q8 q14 q15 q19 q20)) ?_
      refine Gf rfl rfl (Z10 (Y9 q3 q4 q5 q6 q8 q14 q15 q19 q20)) ?_
      refine Gp rfl rfl (Z10 (Y9 q3 q4 q5 q6 q8 q14 q15 q19 q20)) (Z3 (Y9 q3 q4 q5 q6 q8 q14 q15 q19 q20)) ?_
      refine Rp rfl (Z3 (Y9 q3 q4 q5 q6 q8 q14 q15 q19 q20)) ?_
      refine RunTo.nil ?_
      refine Ev.condF (Z3 (Y9 q3 q4 q5 q6 q8 q14 q15 q19 q20)) ?_
      refine Ev.skip ?_
      refine Ev.seq ?_
      refine Ev.rg [0] ?_
      refine Rp rfl (Z3 (Y9 q3 q4 q5 q6 q8 q14 q15 q19 q20)) ?_
      refine RunTo.nil ?_
      refine Ev.block ?_
      refine lB p T _ _ (L7 ++ [some [i64 1, mv]]) _ hI9 L7.length ku kc u.length cu (i64 1) mv gs c2 (by omega) ?_ ?_ ?_ ?_ (get_last _ _) (get_app hf7.kc) hmv (by omega) hhit _ ?_
      · exact (Z3 (Y9 q3 q4 q5 q6 q8 q14 q15 q19 q20))
      · exact (Z3 (Y9 q3 q4 q5 q6 q8 q14 q15 q19 q20))
      · exact (Z3 (Y9 q3 q4 q5 q6 q8 q14 q15 q19 q20))
      · exact (Z3 (Y9 q3 q4 q5 q6 q8 q14 q15 q19 q20))
      intro tm3 hk3
      have r3 : lk tm3 3 = .ptr b 0 := (hk3 3 (by simp)).trans (Z20 (Y9 q3 q4 q5 q6 q8 q14 q15 q19 q20))
      have r4 : lk tm3 4 = .sl ku 0 u.length cu 1 := (hk3 4 (by simp)).trans (Z20 (Y10 q3 q4 q5 q6 q8 q14 q15 q19 q20 r3))
      have r5 : lk tm3 5 = .ptr b5 0 := (hk3 5 (by simp)).trans (Z20 (Y11 q3 q4 q5 q6 q8 q14 q15 q19 q20 r3 r4))
      have r6 : lk tm3 6 = .ptr b6 0 := (hk3 6 (by simp)).trans (Z20 (Y12 q3 q4 q5 q6 q8 q14 q15 q19 q20 r3 r4 r5))
      have r8 : lk tm3 8 = .sl kp 0 ps.length cap 5 := (hk3 8 (by simp)).trans (Z20 (Y13 q3 q4 q5 q6 q8 q14 q15 q19 q20 r3 r4 r5 r6))
      have r14 : lk tm3 14 = .sl kc 0 u.length (some u.length) 1 := (hk3 14 (by simp)).trans (Z20 (Y14 q3 q4 q5 q6 q8 q14 q15 q19 q20 r3 r4 r5 r6 r8))
      have r15 : lk tm3 15 = i64 (l + 1 : Nat) := (hk3 15 (by simp)).trans (Z20 (Y15 q3 q4 q5 q6 q8 q14 q15 q19 q20 r3 r4 r5 r6 r8 r14))
      clear q3 q4 q5 q6 q8 q14 q15 q19 q20 hk3
      refine inBlock_pos ?_
      refine Ev.rg [0, 1, 2] ?_
      refine Rp rfl (Z3 (Y7 r3 r4 r5 r6 r8 r14 r15)) ?_
      refine Rp rfl (Z87 (Y7 r3 r4 r5 r6 r8 r14 r15)) ?_
      refine Rp rfl (Z3 (Y7 r3 r4 r5 r6 r8 r14 r15)) ?_
      refine RunTo.nil ?_
      refine ⟨l, ⟨_, _, _, _, a1, ps.set k ps[l], x.put ps[k].1, nm, c2, ⟨rfl, hI9, by simp; omega, ?_, ?_, ?_, ?_, ?_, ?_, ?_, hf9, ha1, by simp, by omega, hdv2, hcm2, cc2, hR2, hcr2⟩⟩, by omega⟩
      · exact (Z3 (Y7 r3 r4 r5 r6 r8 r14 r15))
      · exact (Z3 (Y7 r3 r4 r5 r6 r8 r14 r15))
      · exact (Z3 (Y7 r3 r4 r5 r6 r8 r14 r15))
      · exact (Z3 (Y7 r3 r4 r5 r6 r8 r14 r15))
      · exact (Z3 (Y7 r3 r4 r5 r6 r8 r14 r15))
      · exact (Z3 (Y7 r3 r4 r5 r6 r8 r14 r15))
      · rw [show ((l : Nat) : Int) = ((l + 1 : Nat) : Int) - 1 by omega]
        exact (Z3 (Y7 r3 r4 r5 r6 r8 r14 r15))
end
end Go.Eng
end
section
set_option linter.unusedVariables false
set_option linter.unusedSimpArgs false
set_option maxRecDepth 100000
set_option maxHeartbeats 8000000
namespace Go.Eng
open Go Go.RowKit Go.Proofs
structure Hd1 (b ku b5 b6 : Nat) (cu : Option Nat) (u : List Nat) (t : List Int) (n : Nat) (s : St) (tm : Tr AV) (hp : Hp) (L : List (Option (List AV))) (w : List Nat) (a : Int) (kp : Nat) (cap : Option Nat) (ps : List PA) : Prop where
  s : s = ⟨214, tm, hp⟩
  hI : IsH hp L w
  hL : L.length + 6 * n ≤ 7000
  k3 : lk tm 3 = .ptr b 0
  k4 : lk tm 4 = .sl ku 0 u.length cu 1
  k5 : lk tm 5 = .ptr b5 0
  k6 : lk tm 6 = .ptr b6 0
  k8 : lk tm 8 = .sl kp 0 ps.length cap 5
  k9 : lk tm 9 = i64 n
  hb : L[b]? = some (some (diceB t a))
  hku : L[ku]? = some (some (byC u))
  h5 : L[b5]? = some (some [i64 6, i64 8, i64 4, i64 3, i64 0, i64 32])
  h6 : L[b6]? = some (some (stC 0 0 0 (-1) 0 false nilS))
  hkp : L[kp]? = some (some (pvC ps))
  ne : b ≠ kp ∧ ku ≠ kp ∧ b5 ≠ kp ∧ b6 ≠ kp
  ha : 0 ≤ a
  hc : cap = none ∨ cap = some ps.length
  hm : ps.length + n ≤ 10
  h0 : 0 < ps.length
  dv : ∀ y ∈ ps, DvOk ku u cu y
  cm : Cuts u (ps.map (·.1))
theorem set_mid {α : Type} {L : List α} {x y z : α} : (L ++ [x] ++ [y]).set L.length z = L ++ [z] ++ [y] := by simp
theorem fresh_all {anc : Nat → Nat} {i b j : Nat} {w : List Nat} (h : ∀ c ∈ w, c ≠ b) : fresh1 anc i (some b) [(j, w)] = true := by
  have e2 : w.contains b = false := by
    rw [Bool.eq_false_iff]
    intro q
    exact h b (by simpa using q) rfl
  simp only [fresh1, List.all_cons, List.all_nil, Bool.and_true]
  rw [e2]
  simp
section
variable (p : Poly) (T : List (Nat × (List AV → Option AV)))
theorem l1 (h18 : (envL p T).sp 18 = none) (h13 : (envL p T).sp 13 = some (treeSp F13)) (h31 : (envL p T).sp 31 = some (treeSp F31))
    (b ku b5 b6 : Nat) (cu : Option Nat) (u : List Nat) (t : List Int) (hn : b ≠ ku ∧ b ≠ b5 ∧ b ≠ b6 ∧ ku ≠ b5 ∧ ku ≠ b6 ∧ b5 ≠ b6) (hcu : ∀ k, cu = some k → u.length ≤ k) (hu0 : 0 < u.length) (hu1 : u.length ≤ 60) (ht : t.length < 1000000) (n : Nat) (s : St) (tm : Tr AV) (hp : Hp) (L : List (Option (List AV))) (w : List Nat) (a : Int) (kp : Nat) (cap : Option Nat) (ps : List PA) (H : Hd1 b ku b5 b6 cu u t n s tm hp L w a kp cap ps) (Q : Ex → St → Prop)
    (hq : ∀ tm hp L w a kp cap ps, Hd1 b ku b5 b6 cu u t 0 ⟨214, tm, hp⟩ tm hp L w a kp cap ps → Q (.ext 0) ⟨214, tm, hp⟩) : Ev (envL p T) (nav p1 (Tryz.f4.body.getD .skip)) s Q := by
  show Ev _ (Code.loop _) _ _
  refine Ev.loop (fun (n : Nat) s => ∃ tm hp L w a kp cap ps, Hd1 b ku b5 b6 cu u t n s tm hp L w a kp cap ps) (fun l => l) ?_ (x := n) ⟨tm, hp, L, w, a, kp, cap, ps, H⟩
  clear H s tm hp L w a ps kp cap n
  rintro n s ⟨tm, hp, L, w, a, kp, cap, ps, rfl, hI, hL, k3, k4, k5, k6, k8, k9, hb, hku, h5, h6, hkp, hne, ha, hc, hm, h0, dv, cm⟩
  cases n with
  | zero =>
    have e0 : ((0 : Nat) : Int) = 0 := rfl
    rw [e0] at k9
    refine Ev.seq ?_
    refine Ev.seq ?_
    refine Ev.rg [0, 1] ?_
    refine Rp rfl (Z3 (Y6 k3 k4 k5 k6 k8 k9)) ?_
    refine Rp rfl (Z83 (Y6 k3 k4 k5 k6 k8 k9)) ?_
    refine RunTo.nil ?_
    refine Ev.condF (Z3 (Y6 k3 k4 k5 k6 k8 k9)) ?_
    refine Ev.exit ?_
    refine thenE_ext ?_
    refine hq _ hp L w a kp cap ps ⟨rfl, hI, by omega, ?_, ?_, ?_, ?_, ?_, ?_, hb, hku, h5, h6, hkp, hne, ha, hc, by omega, h0, dv, cm⟩
    · exact (Z3 (Y6 k3 k4 k5 k6 k8 k9))
    · exact (Z3 (Y6 k3 k4 k5 k6 k8 k9))
    · exact (Z3 (Y6 k3 k4 k5 k6 k8 k9))
    · exact (Z3 (Y6 k3 k4 k5 k6 k8 k9))
    · exact (Z3 (Y6 k3 k4 k5 k6 k8 k9))
    · rw [e0]
      exact (Z3 (Y6 k3 k4 k5 k6 k8 k9))
  | succ l =>
    refine Ev.seq ?_
    refine Ev.seq ?_
    refine Ev.rg [0, 1] ?_
    refine Rp rfl (Z3 (Y6 k3 k4 k5 k6 k8 k9)) ?_
    refine Rp rfl (Z65 (Y6 k3 k4 k5 k6 k8 k9)) ?_
    refine RunTo.nil ?_
    refine Ev.condT (Z3 (Y6 k3 k4 k5 k6 k8 k9)) ?_
    refine Ev.skip ?_
    refine Ev.seq ?_
    refine Ev.block ?_
    refine Ev.seq ?_
    refine Ev.rg [0, 1, 2, 3, 4] ?_
    refine Rp rfl (Z3 (Y6 k3 k4 k5 k6 k8 k9)) ?_
    refine Rp rfl (Z3 (Y6 k3 k4 k5 k6 k8 k9)) ?_
    refine Rp rfl (Z111 (Y6 k3 k4 k5 k6 k8 k9)) ?_
    refine RunTo.freeM rfl (RunOn.callL hI rfl rfl (by decide) (Z3 (Y6 k3 k4 k5 k6 k8 k9)) (Z3 (Y6 k3 k4 k5 k6 k8 k9)) (by simp only [List.nil_append, List.append_nil, List.cons_append]; exact c18 p T h18 h13 t a (ps.length : Int) (by omega) (by omega) ha ht L b hb (by omega)) ?_)
    rintro v L1 w1 hp1 ⟨kz, a1, rfl, hk0, hk1, ha1, rfl, hw1⟩ hI1
    obtain ⟨k, rfl⟩ := Int.eq_ofNat_of_zero_le hk0
    have hkl : k < ps.length := by omega
    refine Rp rfl (Z3 (Y6 k3 k4 k5 k6 k8 k9)) ?_
    refine RunTo.nil ?_
    refine Ev.seq ?_
    refine Ev.draw (M := [0, 1, 0, 0, 12, 28, 0, 64, 192, 511, 1023, 2047, 2047, 2047, 0, 0, 53247, 122879, 262143]) (l := [6, 7, 0, 1, 2, 3, 4, 5, 8, 9, 10, 11, 14, 15, 16, 12, 17, 13, 18]) (by kernel_rfl) (by kernel_rfl) (by kernel_rfl) ?_
    refine Rp rfl (Z3 (Y6 k3 k4 k5 k6 k8 k9)) ?_
    refine RunTo.freeM rfl (RunOn.callL hI1 rfl rfl (by decide) (Z3 (Y6 k3 k4 k5 k6 k8 k9)) (Z3 (Y6 k3 k4 k5 k6 k8 k9)) (by simp only [List.nil_append, List.append_nil, List.cons_append]; exact c18 p T h18 h13 t a1 20 (by decide) (by decide) ha1 ht _ b (get_set_self hb) (by simp; omega)) ?_)
    rintro v L2 w2 hp2 ⟨y, a2, rfl, hy0, hy1, ha2, rfl, hw2⟩ hI2
    obtain ⟨y, rfl⟩ := Int.eq_ofNat_of_zero_le hy0
    rw [List.set_set] at hI2
    have fb : (L.set b (some (diceB t a2)))[b]? = some (some (diceB t a2)) := get_set_self hb
    have fku : (L.set b (some (diceB t a2)))[ku]? = some (some (byC u)) := get_set_ne (by omega) hku
    have f5 : (L.set b (some (diceB t a2)))[b5]? = some (some [i64 6, i64 8, i64 4, i64 3, i64 0, i64 32]) := get_set_ne (by omega) h5
    have f6 : (L.set b (some (diceB t a2)))[b6]? = some (some (stC 0 0 0 (-1) 0 false nilS)) := get_set_ne (by omega) h6
    have fkp : (L.set b (some (diceB t a2)))[kp]? = some (some (pvC ps)) := get_set_ne (by omega) hkp
    have fl : (L.set b (some (diceB t a2))).length = L.length := by simp
    generalize L.set b (some (diceB t a2)) = L2 at *
    clear hI1 hI hb hku h5 h6 hkp
    refine Rp rfl (Z56 (Y6 k3 k4 k5 k6 k8 k9)) ?_
    refine RunTo.freeM rfl (RunOn.load rfl (by decide) rfl (by (((conv => lhs; simp only [evs, evm, lk_up, lk_lf, Nat.reduceEqDiff, Nat.reduceLT, reduceIte, if_true, if_false, i64, bo, u8, nilS, Bool.not_true, Bool.not_false, List.take_succ_cons, List.take_zero, List.drop_zero, List.drop_succ_cons, List.toList_toArray, Int.reduceToNat, Nat.reduceMul, Nat.reduceAdd, Nat.reduceSub, Nat.zero_add, k3, k4, k5, k6, k8, k9])); exact load_one (by kernel_rfl) (by kernel_rfl) (hI2.get _ _ f5) rfl)) (fresh_all (fun c hc => by rw [hw2 c hc]; omega)) ?_)
    refine Rp rfl (Z3 (Y6 k3 k4 k5 k6 k8 k9)) ?_
    refine Rp rfl (Z3 (Y6 k3 k4 k5 k6 k8 k9)) ?_
    refine Rp rfl (Z112 (Y6 k3 k4 k5 k6 k8 k9)) ?_
    refine RunTo.freeM rfl (RunOn.load rfl (by decide) rfl (by (((conv => lhs; simp only [evs, evm, lk_up, lk_lf, Nat.reduceEqDiff, Nat.reduceLT, reduceIte, if_true, if_false, i64, bo, u8, nilS, Bool.not_true, Bool.not_false, List.take_succ_cons, List.take_zero, List.drop_zero, List.drop_succ_cons, List.toList_toArray, Int.reduceToNat, Nat.reduceMul, Nat.reduceAdd, Nat.reduceSub, Nat.zero_add, k3, k4, k5, k6, k8, k9])); exact load_pv (ps := ps) (k := k) (by kernel_rfl) (by kernel_rfl) (hI2.get _ _ fkp) hkl (by omega))) (fresh_all (fun c hc => by rw [hw2 c hc]; omega)) ?_)
    have hxin := cm.pin ps[k].1 (List.mem_map.2 ⟨ps[k], List.getElem_mem hkl, rfl⟩)
    have hxle := hxin.le
    have hxpos := hxin.pos
    have hxok : ps[k].1.Ok := ⟨by intro e; rw [e] at hxpos; simp at hxpos, by omega⟩
    obtain ⟨cq, hzq, hcq⟩ := (dv _ (List.getElem_mem hkl)).frz (n := 17) (IsH.wlSet (by assumption) []) fku hcu
    have h31e : F31 [i64 6, .agg [i64 0, i64 ps[k].1.part, i64 0, i64 ps[k].1.off, byV false ps[k].1.bs cq], i64 (5 + (y : Int))] = some (.tup [cutA1 ps[k].1 (5 + y), cutA2 ps[k].1 (5 + y), i64 0]) := by
      have := F31_eq (x := ps[k].1) (c := cq) (n := 5 + y) hxok (by omega) (by omega) hcq
      rw [show ((5 + y : Nat) : Int) = 5 + (y : Int) by omega] at this
      exact this
    unfold paL
    refine Rp rfl (Z36 (Y6 k3 k4 k5 k6 k8 k9)) ?_
    refine RunTo.freeM rfl (RunOn.tree rfl rfl (by decide) (Z3 (Y6 k3 k4 k5 k6 k8 k9)) (Z3 (Y6 k3 k4 k5 k6 k8 k9)) (by assumption) (by simp only [List.nil_append, List.append_nil, List.cons_append]; exact allO_cons frz_sc (allO_cons (frz_agg (allO_cons frz_sc (allO_cons frz_sc (allO_cons frz_sc (allO_cons frz_sc (allO_cons hzq allO_nil)))))) (allO_cons frz_sc allO_nil))) (by exact h31e) ?_)
    have hhd : 0 < (headF ps[k].1.part).toNat ∧ (headF ps[k].1.part).toNat ≤ 4 := by
      unfold headF
      split <;> decide
    have hone := (dv _ (List.getElem_mem hkl)).one
    obtain ⟨r1, o1, d1, r2, o2, d2, e1, e2, ho1, ho2, hcase⟩ : ∃ (r1 o1 : Int) (d1 : AV) (r2 o2 : Int) (d2 : AV), cutA1 ps[k].1 (5 + y) = .agg [i64 0, i64 r1, i64 0, i64 o1, d1] ∧ cutA2 ps[k].1 (5 + y) = .agg [i64 0, i64 r2, i64 0, i64 o2, d2] ∧ AV.one d1 = true ∧ AV.one d2 = true ∧ (d2 = nilS ∨ ∃ m, 0 < m ∧ m < ps[k].1.bs.length ∧ [i64 0, i64 r1, i64 0, i64 o1, d1] = paL (ps[k].1.fst m, byV true (ps[k].1.bs.take m) (some m)) ∧ [i64 0, i64 r2, i64 0, i64 o2, d2] = paL (ps[k].1.snd m, byV true (ps[k].1.bs.drop m) none) ∧ d2 = byV true (ps[k].1.bs.drop m) none) := by
      by_cases hs : (headF ps[k].1.part).toNat + ps[k].1.bs.length ≤ 5 + y
      · refine ⟨ps[k].1.part, ps[k].1.off, byV true ps[k].1.bs none, 0, 0, nilS, ?_, ?_, rfl, rfl, .inl rfl⟩
        · unfold cutA1
          rw [if_pos hs]
          rfl
        · unfold cutA2
          rw [if_pos hs]
      · refine ⟨partF (ps[k].1.off == 0) false, ps[k].1.off, byV true (ps[k].1.bs.take (5 + y - (headF ps[k].1.part).toNat)) (some (5 + y - (headF ps[k].1.part).toNat)), partF false ps[k].1.last, (ps[k].1.off + (5 + y - (headF ps[k].1.part).toNat) : Nat), byV true (ps[k].1.bs.drop (5 + y - (headF ps[k].1.part).toNat)) none, ?_, ?_, rfl, rfl, .inr ⟨5 + y - (headF ps[k].1.part).toNat, by omega, by omega, rfl, ?_, rfl⟩⟩
        · unfold cutA1
          rw [if_neg hs]
          rfl
        · unfold cutA2
          rw [if_neg hs]
          rfl
        · unfold paL
          simp only [Pc.part, Pc.snd]
          have hz : (ps[k].1.off + (5 + y - (headF ps[k].1.part).toNat) == 0) = false := beq_eq_false_iff_ne.2 (by omega)
          simp only [Pc.part] at hz
          rw [hz]
    rw [e1, e2]
    have ha1 : (AV.cells (.agg [i64 0, i64 r1, i64 0, i64 o1, d1])).all AV.one = true := by
      simp only [AV.cells, List.all_cons, List.all_nil, ho1, Bool.and_true]
      rfl
    have ha2' : (AV.cells (.agg [i64 0, i64 r2, i64 0, i64 o2, d2])).all AV.one = true := by
      simp only [AV.cells, List.all_cons, List.all_nil, ho2, Bool.and_true]
      rfl
    refine Rp rfl (Z3 (Y6 k3 k4 k5 k6 k8 k9)) ?_
    refine Rp rfl (Z3 (Y6 k3 k4 k5 k6 k8 k9)) ?_
    refine RunTo.freeM rfl (RunOn.madeL (k := _) hI2 rfl rfl (by decide) rfl (Z146 (Y6 k3 k4 k5 k6 k8 k9)) Z5 ?_)
    intro hp3 hI3
    refine RunTo.freeM rfl (RunOn.madeL (k := _) hI3 rfl rfl (by decide) rfl (Z146 (Y6 k3 k4 k5 k6 k8 k9)) Z5 ?_)
    intro hp4 hI4
    refine RunTo.freeM rfl (RunOn.storeL (n := 5) hI4 rfl rfl (Z20 (Y6 k3 k4 k5 k6 k8 k9)) (Z20 (Y6 k3 k4 k5 k6 k8 k9)) (by kernel_rfl) rfl ha1 (get_app (get_last _ _)) (by decide) (by simp; omega) ?_)
    intro hp5 hI5
    rw [set_mid, setMany_all (by rfl)] at hI5
    refine Rp rfl (Z3 (Y6 k3 k4 k5 k6 k8 k9)) ?_
    refine RunTo.freeM rfl (RunOn.storeL (n := 5) hI5 rfl rfl (Z20 (Y6 k3 k4 k5 k6 k8 k9)) (Z20 (Y6 k3 k4 k5 k6 k8 k9)) (by kernel_rfl) rfl ha2' (get_last_eq (by simp)) (by decide) (by simp; omega) ?_)
    intro hp6 hI6
    rw [set_last_eq (by simp), setMany_all (by rfl)] at hI6
    have hI6' : IsH hp6 (L2 ++ [some [i64 0, i64 r1, i64 0, i64 o1, d1]] ++ [some [i64 0, i64 r2, i64 0, i64 o2, d2]]) _ := hI6
    rw [show (L2 ++ [some [AV.sc (.int .i64 0), AV.sc (.int .i64 0), AV.sc (.int .i64 0), AV.sc (.int .i64 0), AV.sc (.slice none 0 0)]]).length = L2.length + 1 by simp]
    have x1 : (L2 ++ [some [i64 0, i64 r1, i64 0, i64 o1, d1]] ++ [some [i64 0, i64 r2, i64 0, i64 o2, d2]])[L2.length]? = some (some [i64 0, i64 r1, i64 0, i64 o1, d1]) := get_app (get_last _ _)
    have x2 : (L2 ++ [some [i64 0, i64 r1, i64 0, i64 o1, d1]] ++ [some [i64 0, i64 r2, i64 0, i64 o2, d2]])[L2.length + 1]? = some (some [i64 0, i64 r2, i64 0, i64 o2, d2]) := get_last_eq (by simp)
    have xb : (L2 ++ [some [i64 0, i64 r1, i64 0, i64 o1, d1]] ++ [some [i64 0, i64 r2, i64 0, i64 o2, d2]])[b]? = some (some (diceB t a2)) := get_app (get_app fb)
    have xku : (L2 ++ [some [i64 0, i64 r1, i64 0, i64 o1, d1]] ++ [some [i64 0, i64 r2, i64 0, i64 o2, d2]])[ku]? = some (some (byC u)) := get_app (get_app fku)
    have x5 : (L2 ++ [some [i64 0, i64 r1, i64 0, i64 o1, d1]] ++ [some [i64 0, i64 r2, i64 0, i64 o2, d2]])[b5]? = some (some [i64 6, i64 8, i64 4, i64 3, i64 0, i64 32]) := get_app (get_app f5)
    have x6 : (L2 ++ [some [i64 0, i64 r1, i64 0, i64 o1, d1]] ++ [some [i64 0, i64 r2, i64 0, i64 o2, d2]])[b6]? = some (some (stC 0 0 0 (-1) 0 false nilS)) := get_app (get_app f6)
    have xkp : (L2 ++ [some [i64 0, i64 r1, i64 0, i64 o1, d1]] ++ [some [i64 0, i64 r2, i64 0, i64 o2, d2]])[kp]? = some (some (pvC ps)) := get_app (get_app fkp)
    have xl : (L2 ++ [some [i64 0, i64 r1, i64 0, i64 o1, d1]] ++ [some [i64 0, i64 r2, i64 0, i64 o2, d2]]).length = L.length + 2 := by simp [fl]
    have hj1 : L2.length ≠ b ∧ L2.length ≠ ku ∧ L2.length ≠ b5 ∧ L2.length ≠ b6 ∧ L2.length ≠ kp ∧ L2.length + 1 ≠ kp := by
      have q1 := lt_of_get fb
      have q2 := lt_of_get fku
      have q3 := lt_of_get f5
      have q4 := lt_of_get f6
      have q5 := lt_of_get fkp
      omega
    generalize L2 ++ [some [i64 0, i64 r1, i64 0, i64 o1, d1]] ++ [some [i64 0, i64 r2, i64 0, i64 o2, d2]] = L3 at *
    clear hI6 hI5 hI4 hI3 hI2 fb fku f5 f6 fkp
    generalize L2.length = j at *
    rcases hcase with e | ⟨m, hm0, hm1, eA, eB, eD⟩
    · subst e
      refine Rp rfl (Z3 (Y6 k3 k4 k5 k6 k8 k9)) ?_
      refine Rp rfl (Z3 (Y6 k3 k4 k5 k6 k8 k9)) ?_
      refine RunTo.nil ?_
      refine Ev.seq ?_
      refine Ev.seq ?_
      refine Ev.rg [0, 1] ?_
      refine Rp rfl (Z3 (Y6 k3 k4 k5 k6 k8 k9)) ?_
      refine Rp rfl (Z95 (Y6 k3 k4 k5 k6 k8 k9)) ?_
      refine RunTo.nil ?_
      refine Ev.condF (Z3 (Y6 k3 k4 k5 k6 k8 k9)) ?_
      refine Ev.skip ?_
      refine Ev.seq ?_
      refine Ev.rg [0, 1, 2, 3] ?_
      refine Rp rfl (Z126 (Y6 k3 k4 k5 k6 k8 k9)) ?_
      refine Rl rfl (Z30 (Y6 k3 k4 k5 k6 k8 k9)) ?_
      refine Rp rfl (Z141 (Y6 k3 k4 k5 k6 k8 k9)) ?_
      refine Rp rfl (Z83 (Y6 k3 k4 k5 k6 k8 k9)) ?_
      refine RunTo.nil ?_
      refine Ev.condF (Z3 (Y6 k3 k4 k5 k6 k8 k9)) ?_
      refine Ev.skip ?_
      refine Ev.rg [0, 1, 2] ?_
      refine Rp rfl (Z3 (Y6 k3 k4 k5 k6 k8 k9)) ?_
      refine Rp rfl (Z87 (Y6 k3 k4 k5 k6 k8 k9)) ?_
      refine Rp rfl (Z3 (Y6 k3 k4 k5 k6 k8 k9)) ?_
      refine RunTo.nil ?_
      refine ⟨l, ⟨_, _, _, _, a2, kp, cap, ps, ⟨rfl, hI6', by omega, ?_, ?_, ?_, ?_, ?_, ?_, xb, xku, x5, x6, xkp, hne, ha2, hc, by omega, h0, dv, cm⟩⟩, by omega⟩
      · exact (Z3 (Y6 k3 k4 k5 k6 k8 k9))
      · exact (Z3 (Y6 k3 k4 k5 k6 k8 k9))
      · exact (Z3 (Y6 k3 k4 k5 k6 k8 k9))
      · exact (Z3 (Y6 k3 k4 k5 k6 k8 k9))
      · exact (Z3 (Y6 k3 k4 k5 k6 k8 k9))
      · rw [show ((l : Nat) : Int) = ((l + 1 : Nat) : Int) - 1 by omega]
        exact (Z3 (Y6 k3 k4 k5 k6 k8 k9))
    · subst eD
      have hdl : (List.drop m ps[k].1.bs).length = ps[k].1.bs.length - m := by simp
      refine Rp rfl (Z3 (Y6 k3 k4 k5 k6 k8 k9)) ?_
      refine Rp rfl (Z3 (Y6 k3 k4 k5 k6 k8 k9)) ?_
      refine RunTo.nil ?_
      refine Ev.seq ?_
      refine Ev.seq ?_
      refine Ev.rg [0, 1] ?_
      refine Rp rfl (Z3 (Y6 k3 k4 k5 k6 k8 k9)) ?_
      refine Rp rfl (Z95 (Y6 k3 k4 k5 k6 k8 k9)) ?_
      refine RunTo.nil ?_
      refine Ev.condF (Z3 (Y6 k3 k4 k5 k6 k8 k9)) ?_
      refine Ev.skip ?_
      refine Ev.seq ?_
      refine Ev.rg [0, 1, 2, 3] ?_
      refine Rp rfl (Z126 (Y6 k3 k4 k5 k6 k8 k9)) ?_
      refine Rl rfl (Z30 (Y6 k3 k4 k5 k6 k8 k9)) ?_
      refine Rp rfl (by ((conv => lhs; simp only [evs, evm, lk_up, lk_lf, Nat.reduceEqDiff, Nat.reduceLT, reduceIte, if_true, if_false, i64, bo, u8, nilS, Bool.not_true, Bool.not_false, List.take_succ_cons, List.take_zero, List.drop_zero, List.drop_succ_cons, List.toList_toArray, Int.reduceToNat, Nat.reduceMul, Nat.reduceAdd, Nat.reduceSub, Nat.zero_add, k3, k4, k5, k6, k8, k9]); exact pCall_len (Z3 (Y6 k3 k4 k5 k6 k8 k9)) (len_by (by kernel_rfl)))) ?_
      refine Rp rfl (Z65 (Y6 k3 k4 k5 k6 k8 k9)) ?_
      refine RunTo.nil ?_
      refine Ev.condT (Z3 (Y6 k3 k4 k5 k6 k8 k9)) ?_
      refine Ev.seq ?_
      refine Ev.rg [0, 1, 2, 3, 4] ?_
      refine Rp rfl (Z3 (Y6 k3 k4 k5 k6 k8 k9)) ?_
      refine Rp rfl (Z3 (Y6 k3 k4 k5 k6 k8 k9)) ?_
      refine Rl rfl (Z106 (Y6 k3 k4 k5 k6 k8 k9)) ?_
      refine Rp rfl (Z112 (Y6 k3 k4 k5 k6 k8 k9)) ?_
      rw [show 0 + Int.toNat (k : Int) * 5 = k * 5 by omega]
      refine RunTo.freeM rfl (RunOn.storeL (n := 5) hI6' rfl rfl (Z20 (Y6 k3 k4 k5 k6 k8 k9)) (Z20 (Y6 k3 k4 k5 k6 k8 k9)) (by kernel_rfl) rfl ha1 xkp (by rw [pvC_len]; omega) (by omega) ?_)
      intro hp7 hI7
      have eset : Eng.setMany (pvC ps) (k * 5) (AV.cells (.agg [i64 0, i64 r1, i64 0, i64 o1, d1])) = pvC (ps.set k (ps[k].1.fst m, byV true (ps[k].1.bs.take m) (some m))) := by
        rw [eA]
        exact pvC_set hkl _
      rw [eset] at hI7
      have z2 : (L3.set kp (some (pvC (ps.set k (ps[k].1.fst m, byV true (ps[k].1.bs.take m) (some m))))))[j + 1]? = some (some [i64 0, i64 r2, i64 0, i64 o2, byV true (ps[k].1.bs.drop m) none]) := get_set_ne (by omega) x2
      have zb : (L3.set kp (some (pvC (ps.set k (ps[k].1.fst m, byV true (ps[k].1.bs.take m) (some m))))))[b]? = some (some (diceB t a2)) := get_set_ne (by omega) xb
      have zku : (L3.set kp (some (pvC (ps.set k (ps[k].1.fst m, byV true (ps[k].1.bs.take m) (some m))))))[ku]? = some (some (byC u)) := get_set_ne (by omega) xku
      have z5 : (L3.set kp (some (pvC (ps.set k (ps[k].1.fst m, byV true (ps[k].1.bs.take m) (some m))))))[b5]? = some (some [i64 6, i64 8, i64 4, i64 3, i64 0, i64 32]) := get_set_ne (by omega) x5
      have z6 : (L3.set kp (some (pvC (ps.set k (ps[k].1.fst m, byV true (ps[k].1.bs.take m) (some m))))))[b6]? = some (some (stC 0 0 0 (-1) 0 false nilS)) := get_set_ne (by omega) x6
      have zkp : (L3.set kp (some (pvC (ps.set k (ps[k].1.fst m, byV true (ps[k].1.bs.take m) (some m))))))[kp]? = some (some (pvC (ps.set k (ps[k].1.fst m, byV true (ps[k].1.bs.take m) (some m))))) := get_set_self xkp
      have zl : (L3.set kp (some (pvC (ps.set k (ps[k].1.fst m, byV true (ps[k].1.bs.take m) (some m)))))).length = L.length + 2 := by simp [xl]
      generalize L3.set kp (some (pvC (ps.set k (ps[k].1.fst m, byV true (ps[k].1.bs.take m) (some m))))) = L4 at *
      refine RunTo.nil ?_
      refine Ev.rg [0, 1, 2, 3, 4] ?_
      refine Rp rfl (Z3 (Y6 k3 k4 k5 k6 k8 k9)) ?_
      refine Rl rfl (Z106 (Y6 k3 k4 k5 k6 k8 k9)) ?_
      refine RunTo.freeM rfl (RunOn.madeL (k := _) hI7 rfl rfl (by decide) rfl (by ((conv => lhs; simp only [evs, evm, lk_up, lk_lf, Nat.reduceEqDiff, Nat.reduceLT, reduceIte, if_true, if_false, i64, bo, u8, nilS, Bool.not_true, Bool.not_false, List.take_succ_cons, List.take_zero, List.drop_zero, List.drop_succ_cons, List.toList_toArray, Int.reduceToNat, Nat.reduceMul, Nat.reduceAdd, Nat.reduceSub, Nat.zero_add, k3, k4, k5, k6, k8, k9]); exact build_sl (sz := 5) (z := [.sc (.int .i64 (0)), .sc (.int .i64 (0)), .sc (.int .i64 (0)), .sc (.int .i64 (0)), .sc (.slice none 0 0)]) (Z3 (Y6 k3 k4 k5 k6 k8 k9)) (by kernel_rfl) (by decide) rfl)) Z5 ?_)
      intro hp8 hI8
      simp only [List.cons_append, List.nil_append, evc, repA, Eng.setMany, List.set_cons_zero, List.set_cons_succ, Nat.zero_mul, Nat.one_mul, List.take_succ_cons, List.take_zero, List.drop_zero, List.drop_succ_cons, Nat.zero_add, Nat.reduceAdd, Nat.reduceMul] at hI8
      have hdv : ∀ z ∈ ps.set k (ps[k].1.fst m, byV true (ps[k].1.bs.take m) (some m)) ++ [(ps[k].1.snd m, byV true (ps[k].1.bs.drop m) none)], DvOk ku u cu z := by
        intro z hz
        rcases List.mem_append.1 hz with q | q
        · rcases List.mem_or_eq_of_mem_set q with e | e
          · exact dv z e
          · rw [e]
            exact .inl ⟨some m, rfl, fun k' hk' => by injection hk' with hk'; simp [Pc.fst]; omega⟩
        · rw [List.mem_singleton.1 q]
          exact .inl ⟨none, rfl, fun k' hk' => by cases hk'⟩
      have hcuts : Cuts u ((ps.set k (ps[k].1.fst m, byV true (ps[k].1.bs.take m) (some m)) ++ [(ps[k].1.snd m, byV true (ps[k].1.bs.drop m) none)]).map (·.1)) := by
        obtain ⟨r, q1, q2⟩ := perm_set hkl (ps[k].1.fst m, byV true (ps[k].1.bs.take m) (some m))
        have q3 := cm.perm (q1.map (fun z : PA => z.1))
        have q4 := Cuts.cut (m := m) (p := ps[k].1) (ps := r.map (fun z : PA => z.1)) (by simpa using q3) hm0 hm1
        refine q4.perm ?_
        rw [List.map_append]
        refine List.Perm.trans ?_ List.perm_append_comm
        exact ((q2.map (fun z : PA => z.1)).symm).cons _
      have hlb := lt_of_get zb
      have hlku := lt_of_get zku
      have hl5 := lt_of_get z5
      have hl6 := lt_of_get z6
      rcases hc with rfl | rfl
      · refine RunTo.freeM rfl (RunOn.appL (n := 5) hI8 rfl rfl (by decide) rfl rfl rfl (by kernel_rfl) (by kernel_rfl) (Z3 (Y6 k3 k4 k5 k6 k9 k8)) (Z3 (Y6 k3 k4 k5 k6 k9 k8)) Z70 (by exact appL_grow (k := L4.length + 1) (by simp) (get_app zkp) (by rw [pvC_len, List.length_set]) (by decide) Z41 (by decide) (by rfl) (by omega)) ?_)
        intro hp9 hI9
        simp only [List.cons_append, List.nil_append] at hI9
        have hnew : pvC (ps.set k (ps[k].1.fst m, byV true (ps[k].1.bs.take m) (some m))) ++ List.take (1 * 5) (List.drop 0 [AV.sc (.int .i64 0), AV.sc (.int .i64 r2), AV.sc (.int .i64 0), AV.sc (.int .i64 o2), byV true (List.drop m ps[k].1.bs) none]) = pvC (ps.set k (ps[k].1.fst m, byV true (ps[k].1.bs.take m) (some m)) ++ [(ps[k].1.snd m, byV true (ps[k].1.bs.drop m) none)]) := by
          rw [pvC_append]
          simp only [pvC, List.append_nil]
          rw [← eB]
          rfl
        rw [hnew] at hI9
        refine Rp rfl (Z3 (Y6 k3 k4 k5 k6 k9 k8)) ?_
        refine RunTo.nil ?_
        refine Ev.rg [0, 1, 2] ?_
        refine Rp rfl (Z3 (Y6 k3 k4 k5 k6 k9 k8)) ?_
        refine Rp rfl (Z87 (Y6 k3 k4 k5 k6 k9 k8)) ?_
        refine Rp rfl (Z3 (Y6 k3 k4 k5 k6 k9 k8)) ?_
        refine RunTo.nil ?_
        refine ⟨l, ⟨_, _, _, _, a2, L4.length + 1, none, ps.set k (ps[k].1.fst m, byV true (ps[k].1.bs.take m) (some m)) ++ [(ps[k].1.snd m, byV true (ps[k].1.bs.drop m) none)], ⟨rfl, hI9, by simp; omega, ?_, ?_, ?_, ?_, ?_, ?_, get_app (get_set_ne (by omega) (get_app zb)), get_app (get_set_ne (by omega) (get_app zku)), get_app (get_set_ne (by omega) (get_app z5)), get_app (get_set_ne (by omega) (get_app z6)), get_last_eq (by simp), by omega, ha2, .inl rfl, by simp; omega, by simp, hdv, hcuts⟩⟩, by omega⟩
        · exact (Z3 (Y6 k3 k4 k5 k6 k9 k8))
        · exact (Z3 (Y6 k3 k4 k5 k6 k9 k8))
        · exact (Z3 (Y6 k3 k4 k5 k6 k9 k8))
        · exact (Z3 (Y6 k3 k4 k5 k6 k9 k8))
        · rw [show (ps.set k (ps[k].1.fst m, byV true (ps[k].1.bs.take m) (some m)) ++ [(ps[k].1.snd m, byV true (ps[k].1.bs.drop m) none)]).length = ps.length + 1 by simp]
          exact (Z3 (Y6 k3 k4 k5 k6 k9 k8))
        · rw [show ((l : Nat) : Int) = ((l + 1 : Nat) : Int) - 1 by omega]
          exact (Z3 (Y6 k3 k4 k5 k6 k9 k8))
      · refine RunTo.freeM rfl (RunOn.appL (n := 5) hI8 rfl rfl (by decide) rfl rfl rfl (by kernel_rfl) (by kernel_rfl) (Z3 (Y6 k3 k4 k5 k6 k9 k8)) (Z3 (Y6 k3 k4 k5 k6 k9 k8)) Z70 (by exact appL_full (k := L4.length + 1) (by simp) (get_app zkp) (by rw [pvC_len, List.length_set]; omega) (by omega) Z41 (by decide) (by omega)) ?_)
        intro hp9 hI9
        simp only [List.cons_append, List.nil_append] at hI9
        have hnew : List.take (ps.length * 5) (List.drop 0 (pvC (ps.set k (ps[k].1.fst m, byV true (ps[k].1.bs.take m) (some m))))) ++ List.take (1 * 5) (List.drop 0 [AV.sc (.int .i64 0), AV.sc (.int .i64 r2), AV.sc (.int .i64 0), AV.sc (.int .i64 o2), byV true (List.drop m ps[k].1.bs) none]) = pvC (ps.set k (ps[k].1.fst m, byV true (ps[k].1.bs.take m) (some m)) ++ [(ps[k].1.snd m, byV true (ps[k].1.bs.drop m) none)]) := by
          rw [pvC_append]
          rw [List.drop_zero, List.take_of_length_le (l := pvC (ps.set k (ps[k].1.fst m, byV true (ps[k].1.bs.take m) (some m)))) (by rw [pvC_len, List.length_set]; omega)]
          simp only [pvC, List.append_nil]
          rw [← eB]
          rfl
        rw [hnew] at hI9
        refine Rp rfl (Z3 (Y6 k3 k4 k5 k6 k9 k8)) ?_
        refine RunTo.nil ?_
        refine Ev.rg [0, 1, 2] ?_
        refine Rp rfl (Z3 (Y6 k3 k4 k5 k6 k9 k8)) ?_
        refine Rp rfl (Z87 (Y6 k3 k4 k5 k6 k9 k8)) ?_
        refine Rp rfl (Z3 (Y6 k3 k4 k5 k6 k9 k8)) ?_
        refine RunTo.nil ?_
        refine ⟨l, ⟨_, _, _, _, a2, L4.length + 1, none, ps.set k (ps[k].1.fst m, byV true (ps[k].1.bs.take m) (some m)) ++ [(ps[k].1.snd m, byV true (ps[k].1.bs.drop m) none)], ⟨rfl, hI9, by simp; omega, ?_, ?_, ?_, ?_, ?_, ?_, get_app (get_app zb), get_app (get_app zku), get_app (get_app z5), get_app (get_app z6), get_last_eq (by simp), by omega, ha2, .inl rfl, by simp; omega, by simp, hdv, hcuts⟩⟩, by omega⟩
        · exact (Z3 (Y6 k3 k4 k5 k6 k9 k8))
        · exact (Z3 (Y6 k3 k4 k5 k6 k9 k8))
        · exact (Z3 (Y6 k3 k4 k5 k6 k9 k8))
        · exact (Z3 (Y6 k3 k4 k5 k6 k9 k8))
        · rw [show (ps.set k (ps[k].1.fst m, byV true (ps[k].1.bs.take m) (some m)) ++ [(ps[k].1.snd m, byV true (ps[k].1.bs.drop m) none)]).length = ps.length + 1 by simp]
          exact (Z3 (Y6 k3 k4 k5 k6 k9 k8))
        · rw [show ((l : Nat) : Int) = ((l + 1 : Nat) : Int) - 1 by omega]
          exact (Z3 (Y6 k3 k4 k5 k6 k9 k8))
end
end Go.Eng
end
section
set_option linter.unusedVariables false
set_option linter.unusedSimpArgs false
set_option maxRecDepth 100000
set_option maxHeartbeats 8000000
namespace Go.Eng
open Go Go.RowKit Go.Proofs
section
variable (p : Poly) (T : List (Nat × (List AV → Option AV)))
theorem w4 (h : (envL p T).sp 4 = none) (h10 : (envL p T).sp 10 = some (treeSp F10)) (h11 : (envL p T).sp 11 = some (treeSp F11)) (h12 : (envL p T).sp 12 = none) (h29 : (envL p T).sp 29 = none) (h54 : (envL p T).sp 54 = none) (h21 : (envL p T).sp 21 = some (treeSp F21)) (h30 : (envL p T).sp 30 = some (treeSp F30)) (h18 : (envL p T).sp 18 = none) (h13 : (envL p T).sp 13 = some (treeSp F13)) (h31 : (envL p T).sp 31 = some (treeSp F31)) (h32 : (envL p T).sp 32 = some (treeSp F32)) (h33 : (envL p T).sp 33 = some (treeSp F33)) (h34 : (envL p T).sp 34 = some (treeSp F34)) (h28 : (envL p T).sp 28 = some (treeSp F28)) (t : List Int) : CallTo (envL p T) 4 [.ro false (t.map i64) t.length none 1] Hp.empty fun v hp' => frz true hp' 20 v = some (bo true) := by
  have hI := IsH.empty
  have hL10 := F10_eq t
  by_cases ht : t.length ≤ 400
  · rw [decide_eq_true ht] at hL10
    refine CallTo.body (c := (Tryz.f4.body.getD .skip)) (nt := 214) (rs := #[.tmp 2]) (by assumption) (by kernel_rfl) ⟨by simp, by decide⟩ ?_
    show Ev _ (Code.seq _ _) _ _
    simp only [tmOf_cons, tmOf_nil, i64, bo, u8, nilS, Nat.zero_add, Nat.reduceAdd]
    refine Ev.seq ?_
    refine Ev.rg [0] ?_
    refine Rp rfl Z1 ?_
    refine RunTo.nil ?_
    refine Ev.seq ?_
    refine Ev.seq ?_
    refine Ev.rg [0, 1, 2] ?_
    refine Rp rfl Z1 ?_
    refine RunTo.freeM rfl (RunOn.tree rfl rfl (by decide) Z1 Z1 (by assumption) (by simp only [List.nil_append, List.append_nil, List.cons_append]; exact allO_cons (frz_ro0 (allO_sc (fun z hz => by obtain ⟨q, _, rfl⟩ := List.mem_map.1 hz; exact ⟨_, rfl⟩))) allO_nil) (by exact hL10) ?_)
    refine Rp rfl Z16 ?_
    refine RunTo.nil ?_
    refine Ev.condF Z1 ?_
    refine Ev.skip ?_
    refine Ev.seq ?_
    refine Ev.rg [0, 1, 2] ?_
    refine Rp rfl Z1 ?_
    refine RunTo.freeM rfl (RunOn.callL hI rfl rfl (by decide) Z1 Z1 (by simp only [List.nil_append, List.append_nil, List.cons_append]; exact c12 p T h12 t _ (by decide)) ?_)
    rintro _ _ _ hp1 ⟨rfl, rfl, rfl⟩ hI1
    simp only [List.cons_append, List.nil_append, List.length_cons, List.length_nil, Nat.zero_add, Nat.reduceAdd] at hI1
    refine Rp rfl Z1 ?_
    refine RunTo.nil ?_
    refine Ev.seq ?_
    refine Ev.rg [0, 1, 2] ?_
    refine Rp rfl Z1 ?_
    refine RunTo.freeM rfl (RunOn.callL hI1 rfl rfl (by decide) Z1 Z1 (by simp only [List.nil_append, List.append_nil, List.cons_append]; exact c29 p T h29 h54 h18 h13 t 0 60 (by decide) (by decide) (by decide) (by omega) _ 0 rfl (by simp)) ?_)
    rintro v L1 w1 hp2 ⟨u, a, J, ku, cu, ha, rfl, hu, rfl, hcu, hkl, hgu, hul, hub, hJ, hw1⟩ hI2
    have fb : ([some (diceB t 0)].set 0 (some (diceB t a)) ++ J)[0]? = some (some (diceB t a)) := rfl
    have fl : ([some (diceB t 0)].set 0 (some (diceB t a)) ++ J).length = J.length + 1 := by simp
    have hk0 : 1 ≤ ku := hkl
    have hkul := lt_of_get hgu
    generalize [some (diceB t 0)].set 0 (some (diceB t a)) ++ J = L1 at *
    simp only [List.length_nil]
    refine Rp rfl Z1 ?_
    refine RunTo.nil ?_
    refine Ev.seq ?_
    refine Ev.rg [0, 1, 2] ?_
    refine RunTo.freeM rfl (RunOn.tree rfl rfl (by decide) Z1 Z1 (by assumption) Z8 (by exact F21_eq) ?_)
    unfold linkC
    refine RunTo.freeM rfl (RunOn.madeL (k := _) hI2 rfl rfl (by decide) rfl (by ((conv => lhs; simp only [evs, evm, lk_up, lk_lf, Nat.reduceEqDiff, Nat.reduceLT, reduceIte, if_true, if_false, i64, bo, u8, nilS, Bool.not_true, Bool.not_false, List.take_succ_cons, List.take_zero, List.drop_zero, List.drop_succ_cons, List.toList_toArray, Int.reduceToNat, Nat.reduceMul, Nat.reduceAdd, Nat.reduceSub, Nat.zero_add]); exact allocA_ok (z := [.sc (.int .i64 (0)), .sc (.int .i64 (0)), .sc (.int .i64 (0)), .sc (.int .i64 (0)), .sc (.int .i64 (0)), .sc (.int .i64 (0))]) (by kernel_rfl))) Z5 ?_)
    intro hp3 hI3
    refine RunTo.freeM rfl (RunOn.storeL (n := 6) hI3 rfl rfl Z1 Z1 (by kernel_rfl) Z6 Z6 (get_last _ _) Z9 Z5 ?_)
    intro hp4 hI4
    simp only [set_last, List.set_set, List.set_cons_zero, List.set_cons_succ, List.take_succ_cons, List.take_zero, List.drop_succ_cons, List.drop_zero, Eng.setMany, evc, Nat.zero_add, Nat.reduceAdd, Nat.reduceMul, Nat.reduceSub] at hI4
    refine RunTo.nil ?_
    refine Ev.seq ?_
    refine Ev.rg [0, 1, 2, 3, 4, 5, 6, 7] ?_
    refine Rl rfl (by ((conv => lhs; simp only [evs, evm, lk_up, lk_lf, Nat.reduceEqDiff, Nat.reduceLT, reduceIte, if_true, if_false, i64, bo, u8, nilS, Bool.not_true, Bool.not_false, List.take_succ_cons, List.take_zero, List.drop_zero, List.drop_succ_cons, List.toList_toArray, Int.reduceToNat, Nat.reduceMul, Nat.reduceAdd, Nat.reduceSub, Nat.zero_add]); exact load_agg (n := 6) (by kernel_rfl) (by kernel_rfl) (IsH.get (by assumption) _ _ (by exact (get_last _ _))) Z9)) ?_
    have hI4' : IsH hp4 (L1 ++ [some [i64 6, i64 8, i64 4, i64 3, i64 0, i64 32]]) (L1.length :: (w1 ++ [])) := hI4
    have gb : (L1 ++ [some [i64 6, i64 8, i64 4, i64 3, i64 0, i64 32]])[0]? = some (some (diceB t a)) := get_app fb
    have gku : (L1 ++ [some [i64 6, i64 8, i64 4, i64 3, i64 0, i64 32]])[ku]? = some (some (byC u)) := get_app hgu
    have g5 : (L1 ++ [some [i64 6, i64 8, i64 4, i64 3, i64 0, i64 32]])[L1.length]? = some (some [i64 6, i64 8, i64 4, i64 3, i64 0, i64 32]) := get_last _ _
    have gl : (L1 ++ [some [i64 6, i64 8, i64 4, i64 3, i64 0, i64 32]]).length = J.length + 2 := by simp [fl]
    have gj : L1.length < (L1 ++ [some [i64 6, i64 8, i64 4, i64 3, i64 0, i64 32]]).length := by simp
    generalize L1 ++ [some [i64 6, i64 8, i64 4, i64 3, i64 0, i64 32]] = L2 at *
    clear hI4 hI3 hI2 fb hgu
    generalize L1.length = b5 at *
    refine RunTo.freeM rfl (RunOn.tree rfl rfl (by decide) Z1 Z1 (by assumption) Z8 (by exact F30_eq) ?_)
    unfold stC
    refine Rp rfl Z1 ?_
    refine Rp rfl Z1 ?_
    refine Rp rfl Z1 ?_
    refine RunTo.freeM rfl (RunOn.madeL (k := _) hI4' rfl rfl (by decide) rfl Z140 Z5 ?_)
    intro hp5 hI5
    refine RunTo.freeM rfl (RunOn.storeL (n := 14) hI5 rfl rfl Z1 Z1 (by kernel_rfl) Z6 Z6 (get_last _ _) Z9 Z5 ?_)
    intro hp6 hI6
    simp only [set_last, List.set_set, List.set_cons_zero, List.set_cons_succ, List.take_succ_cons, List.take_zero, List.drop_succ_cons, List.drop_zero, Eng.setMany, evc, Nat.zero_add, Nat.reduceAdd, Nat.reduceMul, Nat.reduceSub] at hI6
    refine Rp rfl Z1 ?_
    refine RunTo.nil ?_
    refine Ev.seq ?_
    refine Ev.seq ?_
    refine Ev.rg [0, 1, 2, 3, 4, 5] ?_
    refine RunTo.freeM rfl (RunOn.tree rfl rfl (by decide) Z1 Z1 (by assumption) Z8 (by exact F11_eq) ?_)
    refine Rp rfl Z16 ?_
    refine Rp rfl Z1 ?_
    refine Gp rfl rfl Z2 Z1 ?_
    refine Gp rfl rfl Z2 Z44 ?_
    refine Rp rfl Z1 ?_
    refine RunTo.nil ?_
    refine Ev.condF Z1 ?_
    refine Ev.skip ?_
    refine Ev.seq ?_
    refine Ev.rg [0, 1, 2, 3] ?_
    refine Rp rfl Z1 ?_
    refine Rp rfl Z80 ?_
    refine RunTo.freeM rfl (RunOn.madeL (k := _) hI6 rfl rfl (by decide) rfl (by ((conv => lhs; simp only [evs, evm, lk_up, lk_lf, Nat.reduceEqDiff, Nat.reduceLT, reduceIte, if_true, if_false, i64, bo, u8, nilS, Bool.not_true, Bool.not_false, List.take_succ_cons, List.take_zero, List.drop_zero, List.drop_succ_cons, List.toList_toArray, Int.reduceToNat, Nat.reduceMul, Nat.reduceAdd, Nat.reduceSub, Nat.zero_add]); exact build_sl (sz := 5) (z := [.sc (.int .i64 (0)), .sc (.int .i64 (0)), .sc (.int .i64 (0)), .sc (.int .i64 (0)), .sc (.slice none 0 0)]) Z1 (by kernel_rfl) (by decide) rfl)) Z5 ?_)
    intro hp7 hI7
    simp only [List.cons_append, List.nil_append, evc, repA, Eng.setMany, List.set_cons_zero, List.set_cons_succ, Nat.zero_mul, Nat.one_mul, List.take_succ_cons, List.take_zero, List.drop_zero, List.drop_succ_cons, Nat.zero_add, Nat.reduceAdd, Nat.reduceMul] at hI7
    refine Rp rfl Z1 ?_
    refine RunTo.nil ?_
    refine Ev.seq ?_
    refine Ev.seq ?_
    refine Ev.rg [0, 1, 2] ?_
    refine Rp rfl Z1 ?_
    rw [show (L2 ++ [some [AV.sc (.int .i64 6), AV.sc (.int .i64 8), AV.sc (.int .i64 4), AV.sc (.int .i64 3), AV.sc (.int .i64 0), AV.sc (.int .i64 32), AV.sc (.int .i64 0), AV.sc (.int .i64 0), AV.sc (.int .i64 0), AV.sc (.int .i64 (-1)), AV.sc (.int .i64 0), AV.sc (.int .i64 0), AV.sc (.bool false), AV.sc (.slice none 0 0)]]).length = L2.length + 1 by simp]
    have hI7' : IsH hp7 (L2 ++ [some (stC 0 0 0 (-1) 0 false nilS)] ++ [some (pvC [(⟨0, true, u⟩, AV.sl ku 0 u.length cu 1)])]) (L2.length :: b5 :: (w1 ++ [])) := hI7
    have xb : (L2 ++ [some (stC 0 0 0 (-1) 0 false nilS)] ++ [some (pvC [(⟨0, true, u⟩, AV.sl ku 0 u.length cu 1)])])[0]? = some (some (diceB t a)) := get_app (get_app gb)
    have xku : (L2 ++ [some (stC 0 0 0 (-1) 0 false nilS)] ++ [some (pvC [(⟨0, true, u⟩, AV.sl ku 0 u.length cu 1)])])[ku]? = some (some (byC u)) := get_app (get_app gku)
    have x5 : (L2 ++ [some (stC 0 0 0 (-1) 0 false nilS)] ++ [some (pvC [(⟨0, true, u⟩, AV.sl ku 0 u.length cu 1)])])[b5]? = some (some [i64 6, i64 8, i64 4, i64 3, i64 0, i64 32]) := get_app (get_app g5)
    have x6 : (L2 ++ [some (stC 0 0 0 (-1) 0 false nilS)] ++ [some (pvC [(⟨0, true, u⟩, AV.sl ku 0 u.length cu 1)])])[L2.length]? = some (some (stC 0 0 0 (-1) 0 false nilS)) := get_app (get_last _ _)
    have xp : (L2 ++ [some (stC 0 0 0 (-1) 0 false nilS)] ++ [some (pvC [(⟨0, true, u⟩, AV.sl ku 0 u.length cu 1)])])[L2.length + 1]? = some (some (pvC [(⟨0, true, u⟩, AV.sl ku 0 u.length cu 1)])) := get_last_eq (by simp)
    have xl : (L2 ++ [some (stC 0 0 0 (-1) 0 false nilS)] ++ [some (pvC [(⟨0, true, u⟩, AV.sl ku 0 u.length cu 1)])]).length = J.length + 4 := by simp [gl]
    have hkl2 := lt_of_get gku
    have h0l := lt_of_get gb
    generalize (L2 ++ [some (stC 0 0 0 (-1) 0 false nilS)] ++ [some (pvC [(⟨0, true, u⟩, AV.sl ku 0 u.length cu 1)])]) = L3 at *
    clear hI7 hI6 hI5 hI4' gku g5
    generalize L2.length = b6 at *
    have hb5 : b5 = J.length + 1 := by omega
    have hu0 : 0 < u.length := List.length_pos_iff.2 hu
    refine RunTo.freeM rfl (RunOn.callL hI7' rfl rfl (by decide) Z1 Z1 (by simp only [List.nil_append, List.append_nil, List.cons_append]; exact c18 p T h18 h13 t a 10 (by decide) (by decide) ha (by omega) _ 0 xb (by omega)) ?_)
    rintro v L4 w4 hp8 ⟨n, a4, rfl, hn0, hn1, ha4, rfl, hw4⟩ hI8
    obtain ⟨n, rfl⟩ := Int.eq_ofNat_of_zero_le hn0
    refine Rp rfl Z1 ?_
    refine RunTo.nil ?_
    refine Ev.block ?_
    refine l1 p T h18 h13 h31 0 ku b5 b6 cu u t (by omega) hcu hu0 (by omega) (by omega) n _ _ hp8 _ _ a4 (b6 + 1) (some 1) [(⟨0, true, u⟩, AV.sl ku 0 u.length cu 1)] ⟨rfl, hI8, by simp; omega, ?_, ?_, ?_, ?_, ?_, ?_, get_set_self xb, get_set_ne (by omega) xku, get_set_ne (by omega) x5, get_set_ne (by omega) x6, get_set_ne (by omega) xp, by omega, ha4, .inr rfl, by simp; omega, by simp, ?_, ?_⟩ _ ?_
    · exact Z1
    · exact Z1
    · exact Z1
    · exact Z1
    · exact Z1
    · exact Z1
    · intro y hy
      rw [List.mem_singleton.1 hy]
      exact .inr ⟨rfl, rfl⟩
    · exact Cuts.one hu0
    intro tm2 hp9 L5 w5 a5 kp cap ps H
    obtain ⟨_, hI9, hL9, k3, k4, k5, k6, k8, k9, hb, hku, h5, h6, hkp, hne, ha5, hc, hm, h0, dv, cm⟩ := H
    refine inBlock_pos ?_
    refine Ev.seq ?_
    refine Ev.rg [0, 1, 2, 3] ?_
    refine Rp rfl (Z3 (Y6 k3 k4 k5 k6 k8 k9)) ?_
    refine Rp rfl (Z111 (Y6 k3 k4 k5 k6 k8 k9)) ?_
    refine RunTo.freeM rfl (RunOn.madeL (k := L5.length) hI9 rfl rfl (by decide) rfl (by (((conv => lhs; simp only [evs, evm, lk_up, lk_lf, Nat.reduceEqDiff, Nat.reduceLT, reduceIte, if_true, if_false, i64, bo, u8, nilS, Bool.not_true, Bool.not_false, List.take_succ_cons, List.take_zero, List.drop_zero, List.drop_succ_cons, List.toList_toArray, Int.reduceToNat, Nat.reduceMul, Nat.reduceAdd, Nat.reduceSub, Nat.zero_add, k3, k4, k5, k6, k8, k9])); exact make_ok (sz := 1) (z := [AV.sc (.bool false)]) (n := u.length) (by kernel_rfl) (Z20 (Y6 k3 k4 k5 k6 k8 k9)) (Z20 (Y6 k3 k4 k5 k6 k8 k9)) (by omega))) (by omega) ?_)
    intro hp10 hI10
    rw [comeC_zero] at hI10
    have hI10' : IsH hp10 (L5 ++ [some (comeC u.length fun _ => false)]) w5 := hI10
    have hDn : Dn 0 ku b5 b6 kp L5.length := by
      have q1 := lt_of_get hb
      have q2 := lt_of_get hku
      have q3 := lt_of_get h5
      have q4 := lt_of_get h6
      have q5 := lt_of_get hkp
      unfold Dn
      omega
    refine Rp rfl (Z3 (Y6 k3 k4 k5 k6 k8 k9)) ?_
    refine RunTo.nil ?_
    refine Ev.seq ?_
    refine Ev.seq ?_
    refine Ev.rg [0, 1, 2] ?_
    refine Rp rfl (Z3 (Y6 k3 k4 k5 k6 k8 k9)) ?_
    refine Rp rfl (Z111 (Y6 k3 k4 k5 k6 k8 k9)) ?_
    refine Rp rfl (Z3 (Y6 k3 k4 k5 k6 k8 k9)) ?_
    refine RunTo.nil ?_
    refine Ev.block ?_
    refine l2 p T h18 h13 h32 h33 h34 h28 0 ku b5 b6 kp L5.length ps.length cu cap u t hDn hcu hu0 (by omega) hub (by omega) (by omega) ps.length _ _ hp10 _ _ a5 ps ⟨[], [], none⟩ ⟨0, 0, 0, -1, 0, false, .none⟩ (fun _ => false) ⟨rfl, hI10', by simp; omega, ?_, ?_, ?_, ?_, ?_, ?_, ?_, ⟨get_app hb, get_app hku, get_app h5, get_app h6, get_app hkp, get_last _ _⟩, ha5, rfl, Nat.le_refl _, dv, ?_, fun i hi => ?_, by simp; omega, .init _ h0⟩ _ ?_
    · exact (Z3 (Y6 k3 k4 k5 k6 k8 k9))
    · exact (Z3 (Y6 k3 k4 k5 k6 k8 k9))
    · exact (Z3 (Y6 k3 k4 k5 k6 k8 k9))
    · exact (Z3 (Y6 k3 k4 k5 k6 k8 k9))
    · exact (Z3 (Y6 k3 k4 k5 k6 k8 k9))
    · exact (Z3 (Y6 k3 k4 k5 k6 k8 k9))
    · exact (Z3 (Y6 k3 k4 k5 k6 k8 k9))
    · rw [List.take_length]
      exact Come.nil cm
    · constructor
      · intro e
        cases e
      · intro e
        exact absurd e (cov_nil i)
    intro tm3 hp11 L6 w6 v k6' hI11 h6'
    unfold stC at h6'
    refine inBlock_pos ?_
    refine Ev.seq ?_
    refine Ev.rg [0, 1, 2, 3] ?_
    refine Rp rfl (by ((conv => lhs; simp only [evs, evm, lk_up, lk_lf, Nat.reduceEqDiff, Nat.reduceLT, reduceIte, if_true, if_false, i64, bo, u8, nilS, Bool.not_true, Bool.not_false, List.take_succ_cons, List.take_zero, List.drop_zero, List.drop_succ_cons, List.toList_toArray, Int.reduceToNat, Nat.reduceMul, Nat.reduceAdd, Nat.reduceSub, Nat.zero_add, k3, k4, k5, k6, k8, k9, k6']); exact field_ptr (d := 6) (by kernel_rfl))) ?_
    refine Rl rfl (Z30 (Y7 k3 k4 k5 k6 k8 k9 k6')) ?_
    refine Rp rfl (Z147 (Y7 k3 k4 k5 k6 k8 k9 k6')) ?_
    refine Rp rfl (Z3 (Y7 k3 k4 k5 k6 k8 k9 k6')) ?_
    refine RunTo.nil ?_
    refine Ev.ret ⟨.inr rfl, _, res1, ?_⟩
    simp only [lk_up, lk_lf, Nat.reduceEqDiff, Nat.reduceLT, reduceIte, if_true, if_false, Nat.zero_add, i64, bo, u8, nilS, List.take_succ_cons, List.take_zero, List.drop_zero, List.drop_succ_cons, k3, k4, k5, k6, k8, k9, k6']
    exact frz_sc
  · rw [decide_eq_false ht] at hL10
    refine CallTo.body (c := (Tryz.f4.body.getD .skip)) (nt := 214) (rs := #[.tmp 2]) (by assumption) (by kernel_rfl) ⟨by simp, by decide⟩ ?_
    show Ev _ (Code.seq _ _) _ _
    simp only [tmOf_cons, tmOf_nil, i64, bo, u8, nilS, Nat.zero_add, Nat.reduceAdd]
    refine Ev.seq ?_
    refine Ev.rg [0] ?_
    refine Rp rfl Z1 ?_
    refine RunTo.nil ?_
    refine Ev.seq ?_
    refine Ev.seq ?_
    refine Ev.rg [0, 1, 2] ?_
    refine Rp rfl Z1 ?_
    refine RunTo.freeM rfl (RunOn.tree rfl rfl (by decide) Z1 Z1 (by assumption) (by simp only [List.nil_append, List.append_nil, List.cons_append]; exact allO_cons (frz_ro0 (allO_sc (fun z hz => by obtain ⟨q, _, rfl⟩ := List.mem_map.1 hz; exact ⟨_, rfl⟩))) allO_nil) (by exact hL10) ?_)
    refine Rp rfl Z16 ?_
    refine RunTo.nil ?_
    refine Ev.condT Z1 ?_
    refine Ev.seq ?_
    refine Ev.rg [0, 1] ?_
    refine RunTo.freeM rfl (RunOn.tree rfl rfl (by decide) Z1 Z1 (by assumption) Z8 (by exact F11_eq) ?_)
    refine Rp rfl Z1 ?_
    refine RunTo.nil ?_
    refine Ev.ret ⟨.inr rfl, _, res1, ?_⟩
    simp only [lk_up, lk_lf, Nat.reduceEqDiff, Nat.reduceLT, reduceIte, if_true, if_false, Nat.zero_add, i64, bo, u8, nilS, List.take_succ_cons, List.take_zero, List.drop_zero, List.drop_succ_cons]
    exact frz_sc
end
end Go.Eng
end
