/- A part of the proof that radiolinktop.TopPieces returns true for every list of numbers. -/
import Derived.Test.YtcjpofalahplbaaGreatDoorSeatOne
import Derived.Test.YtcjpofalahplbaaGreatDoorRows
import Derived.Maps.Keyed
import Derived.ProofKit
import Derived.LaidMore
import Derived.OpenShut
import Derived.FnData
import Derived.Stop.Joined
section
set_option linter.unusedVariables false
set_option linter.unusedSimpArgs false
namespace Go.Eng
open Go Go.RowKit Go.Proofs Go.ChangeShapes Go.WideShapes Go.ChangeAt Go.WideMaps Go.WideElems Go.Maps
open Go.Proofs.YtcjpofalahplbaaGreatDoor
theorem gLanes : Tryz.prog.globalNamed "radiolink/stream.lanes" = some 0 := by kernel_rfl
theorem gPoly : Tryz.prog.globalNamed "radiolink/check.polynomials" = some 1 := by kernel_rfl
theorem tLanes : (Tryz.prog.globals[0]?).map (·.type) = some 374 := by kernel_rfl
theorem tPoly : (Tryz.prog.globals[1]?).map (·.type) = some 378 := by kernel_rfl
theorem c374 : Tryz.prog.cellsOf 374 = 32 := by kernel_rfl
theorem c373 : Tryz.prog.cellsOf 373 = 4 := by kernel_rfl
theorem c3 : Tryz.prog.cellsOf 3 = 1 := by kernel_rfl
abbrev lists : List (String × DataW Unit) := [("radiolink/stream.lanes", Rows.laid_radiolink_stream_lanes), ("radiolink/check.polynomials", Rows.laid_radiolink_check_polynomials)]
def i64V (i : Int) : Value := .int .i64 i
def lanesD : List (DataW Unit) := [[0,4,8,12],[1,5,9,13],[2,6,10,14],[3,7,11,15],[0,5,10,15],[1,6,11,12],[2,7,8,13],[3,4,9,14]].map fun (r : List Int) => .agg (r.map fun z => .lit (.int .i64 z))
theorem lanesD_eq : (Rows.laid_radiolink_stream_lanes : DataW Unit) = .agg lanesD := rfl
set_option maxRecDepth 100000
theorem row4 {W : World} {m : Nat} {l : List Value} {x : DataW Unit × List MemPlace} {a b c d : Int} (h : DataW.trod (fun _ => ()) Tryz.prog W 0 (fun _ => true) false m 373 l = some x) (e : x.1 = .agg [.lit (.int .i64 a), .lit (.int .i64 b), .lit (.int .i64 c), .lit (.int .i64 d)]) : l = [i64V a, i64V b, i64V c, i64V d] := by
  obtain ⟨xs, k, rfl, rfl, hlen, hn, hel⟩ := DataW.trod_array Tryz.underlying373 h
  rw [c373] at hlen
  simp only [DataW.agg.injEq] at e
  have one : ∀ (i : Nat) (z : Int), i < 4 → (xs.map (·.1))[i]? = some (.lit (.int .i64 z)) → l[i]? = some (i64V z) := by
    intro i z hi hz
    have hi2 : i < xs.length := by omega
    have h1 := hel i hi
    rw [c3, Nat.mul_one, List.getElem?_eq_getElem hi2] at h1
    obtain ⟨n, q1, q2, _⟩ := DataW.trod_int Tryz.underlying3 h1
    rw [List.getElem?_map, List.getElem?_eq_getElem hi2, q2] at hz
    simp at hz
    subst hz
    have := congrArg (fun l => l[0]?) q1
    simp only [List.getElem?_cons_zero] at this
    rw [List.getElem?_take, if_pos (by omega), List.getElem?_drop, Nat.add_zero] at this
    exact this
  rw [e] at one
  have o0 := one 0 a (by omega) rfl
  have o1 := one 1 b (by omega) rfl
  have o2 := one 2 c (by omega) rfl
  have o3 := one 3 d (by omega) rfl
  match l, hlen with
  | [p, q, r, s], _ =>
    simp at o0 o1 o2 o3
    rw [o0, o1, o2, o3]
theorem of_laid {W : World} (h : laidMetH Tryz.prog lists W) : ∃ p : Poly, GlobW (GZ p) W := by
  rw [MakeChecks.laidMetH_plain _ _ _ (by kernel_rfl)] at h
  obtain ⟨ps, ⟨g0, t0, cs0, f0, p0, q0, hg0, ht0, hv0, hd0, ⟨g1, t1, cs1, f1, p1, q1, hg1, ht1, hv1, hd1, _, rfl⟩, rfl⟩, _, hplace⟩ := h
  obtain rfl := Option.some.inj (gLanes.symm.trans hg0)
  obtain rfl := Option.some.inj (gPoly.symm.trans hg1)
  obtain rfl := Option.some.inj (tLanes.symm.trans ht0)
  obtain rfl := Option.some.inj (tPoly.symm.trans ht1)
  rcases WideElems.open_map Tryz.underlying378 hd1 with ⟨_, hx⟩ | ⟨bm, es, clock, m, rfl, hcs, hb, _, F, hx⟩
  · simp [Rows.laid_radiolink_check_polynomials] at hx
  simp only [Prod.mk.injEq] at hx
  have hcell : W.cell? ⟨1, 0, none⟩ = some (.map (some bm)) := by
    have := World.var?_cell hg1 hv1 0
    rw [Array.eq_one_of_toList hcs] at this
    simpa using this
  -- the object of the map's variable
  obtain ⟨o1, ho1⟩ : ∃ o1, W.heap[1]? = some o1 := by
    have hlt := World.block_lt_of_cell? W _ hcell
    exact ⟨W.heap[1], Array.getElem?_eq_getElem hlt⟩
  have look : ∀ w : World, w.heap[bm]? = some (.map es clock) → (Instr.lookup 378 (.map (some bm)) (.int .i64 8) true).run Tryz.prog w = .ok (.tuple #[.int .i64 7, .bool true]) w := by
    intro w hw
    have zero : (zeroValue 3).run Tryz.prog w = .ok (.int .i64 0) w := by kernel_rfl
    rcases fit_look (w := w) true (int_keyed Tryz.underlying3) Tryz.underlying378 zero hw F (keyOf_int_mk Tryz.underlying3 (a := 8) (by decide)) with ⟨_, _, hat⟩ | ⟨e0, y, _, _, hrun, hRv, hat, _⟩
    · have := hat .nil
      rw [← hx.1] at this
      exact absurd this (by intro e; cases e)
    · obtain ⟨r, e1, rfl, _⟩ := elemAt_int Tryz.underlying3 hRv
      have := hat .nil
      rw [← hx.1] at this
      have e2 : Rows.laid_radiolink_check_polynomials.atKey (.int .i64 8) (.nil : DataW Unit) = .lit (.int .i64 7) := rfl
      rw [e2] at this
      cases this
      rw [e1] at hrun
      exact hrun
  let p : Poly := ⟨o1, bm, .map es clock, fun w hw => by
    rw [← hcell]
    simp only [World.cell?, hw, ho1], look⟩
  refine ⟨p, fun g cs hg => ?_, fun c o hc => ?_⟩
  · simp only [GZ, lanesRd] at hg
    split at hg
    · rename_i e
      subst e
      injection hg with hg; subst hg
      obtain ⟨xs, k, rfl, hx0, hlen, hn, hel⟩ := DataW.trod_array Tryz.underlying374 hd0
      rw [c374] at hlen
      simp only [Prod.mk.injEq] at hx0
      have row : ∀ (i : Nat) (a b c d : Int), i < 8 → (xs.map (·.1))[i]? = some (.agg [.lit (.int .i64 a), .lit (.int .i64 b), .lit (.int .i64 c), .lit (.int .i64 d)]) → (cs0.toList.drop (i * 4)).take 4 = [i64V a, i64V b, i64V c, i64V d] := by
        intro i a b c d hi hz
        have hi2 : i < xs.length := by omega
        have h1 := hel i hi
        rw [c373, List.getElem?_eq_getElem hi2] at h1
        rw [List.getElem?_map, List.getElem?_eq_getElem hi2] at hz
        simp at hz
        exact row4 h1 hz
      have hxs : xs.map (·.1) = lanesD := by
        have := hx0.1
        rw [lanesD_eq] at this
        simp only [DataW.agg.injEq] at this
        exact this.symm
      rw [hxs] at row
      have r0 := row 0 _ _ _ _ (by omega) rfl
      have r1 := row 1 _ _ _ _ (by omega) rfl
      have r2 := row 2 _ _ _ _ (by omega) rfl
      have r3 := row 3 _ _ _ _ (by omega) rfl
      have r4 := row 4 _ _ _ _ (by omega) rfl
      have r5 := row 5 _ _ _ _ (by omega) rfl
      have r6 := row 6 _ _ _ _ (by omega) rfl
      have r7 := row 7 _ _ _ _ (by omega) rfl
      have all : cs0.toList = lanesL.map i64V := by
        have cut : ∀ (l : List Value), l.length = 32 → l = (l.drop (0*4)).take 4 ++ (l.drop (1*4)).take 4 ++ (l.drop (2*4)).take 4 ++ (l.drop (3*4)).take 4 ++ (l.drop (4*4)).take 4 ++ (l.drop (5*4)).take 4 ++ (l.drop (6*4)).take 4 ++ (l.drop (7*4)).take 4 := by
          intro l hl
          match l, hl with
          | [a0,a1,a2,a3,a4,a5,a6,a7,a8,a9,a10,a11,a12,a13,a14,a15,a16,a17,a18,a19,a20,a21,a22,a23,a24,a25,a26,a27,a28,a29,a30,a31], _ => rfl
        rw [cut _ hlen, r0, r1, r2, r3, r4, r5, r6, r7]
        rfl
      refine .rp (fun i => i64V (lanesL.getD i 0)) (noRho_un _) (fun q => by cases q) (fun i hi => ?_) ?_ (fun i x hx => ?_)
      · rw [Nat.zero_add, World.var?_cell hg0 hv0 i]
        have : cs0[i]? = cs0.toList[i]? := by simp
        rw [this, all, List.getElem?_map]
        have hi2 : i < lanesL.length := by simpa using hi
        simp [hi2]
      · have h0 : W.cell? ⟨0, 0, none⟩ = cs0[0]? := World.var?_cell hg0 hv0 0
        have : cs0[0]? = cs0.toList[0]? := by simp
        rw [this, all] at h0
        exact World.block_lt_of_cell? W (a := ⟨0, 0, none⟩) (u := i64V 0) h0
      · rw [List.getElem?_map] at hx
        cases hl : lanesL[i]? with
        | none => rw [hl] at hx; cases hx
        | some z =>
          rw [hl] at hx; injection hx with hx; subst hx
          simp [hl, i64V]
          exact .sc _
    · cases hg
  · simp only [GZ, List.mem_cons, Prod.mk.injEq, List.mem_nil_iff, or_false] at hc
    rcases hc with ⟨rfl, rfl⟩ | ⟨rfl, rfl⟩
    · exact ⟨ho1, noRho_un _⟩
    · exact ⟨hb, noRho_un _⟩
end Go.Eng
end
