/- A part of the proof that radiolinktop.TopPieces returns true for every list of numbers. -/
import Derived.Test.YtcjpofalahplbaaGreatDoorFnOne
import Derived.Test.YtcjpofalahplbaaGreatDoorChOne
import Derived.Test.YtcjpofalahplbaaGreatDoorSeatTwo
section
namespace Go.Proofs.YtcjpofalahplbaaGreatDoor.pieces
open Go.ChangeShapes Go.WideShapes Go.ChangeAt Go.WideMaps Go.WideElems Go.RowKit
open Go.Eng (Poly GZ GlobW VR VRs noRho noRho_un pieces_tree of_laid)
set_option linter.unusedVariables false
theorem walk (p : Poly) (w : World) (hg : GlobW (GZ p) w) (v : Value) (t : List Int) (hv : VR noRho w.heap.size w (.ro false (t.map Go.Eng.i64) t.length none 1) v) : Calls Tryz.prog 4 #[v] w fun e w' => e = .returned (.bool true) ∧ Below w.heap.size w w' := by
  refine ((pieces_tree p t).2 w [v] hg (VRs.cons hv VRs.nil)).mono ?_
  rintro e w' ⟨y, rfl, hf, hy⟩
  have := (hy noRho 0 (fun c _ => ⟨noRho_un c, Nat.zero_le c⟩)).sc_inv
  exact ⟨by rw [this], ⟨hf.os, hf.tape, hf.output, hf.size, hf.keep⟩⟩
theorem row_vr {w : World} {x : Addr} {len cap : Nat} {zs : List Int} (hl : len ≤ cap) (hz : zs.length = cap) (hcell : ∀ i, i < zs.length → w.cell? (x.add i) = some (.int .i64 (zs.getD i 0))) : VR noRho w.heap.size w (.ro false ((zs.take len).map Go.Eng.i64) (zs.take len).length none 1) (.slice (some x) len cap) := by
  have e : (zs.take len).length = len := by simp; omega
  rw [e]
  refine .ro (fun i => .int .i64 (zs.getD i 0)) (by simp; omega) hl (fun k hk => by cases hk) (fun _ h => by cases h) (fun hne => ?_) (fun i y hy => ?_)
  · obtain ⟨b, off, spot⟩ := x
    have h0 : 0 < len := by
      rcases Nat.eq_zero_or_pos len with q | q
      · rw [q] at hne
        simp at hne
      · exact q
    have hc := hcell 0 (by omega)
    have hspot : spot = none := by simpa [Addr.add] using World.cell?_spot hc
    subst hspot
    refine ⟨b, off, rfl, noRho_un _, (fun q => by cases q), fun i hi => ?_⟩
    have := hcell i (by simp at hi; omega)
    have e3 : (Addr.mk b off none).add i = ⟨b, off + i, none⟩ := by
      unfold Addr.add
      split
      · rename_i q
        rw [q]
        rfl
      · rfl
    rw [e3] at this
    exact this
  · rw [List.getElem?_map] at hy
    cases hq : (zs.take len)[i]? with
    | none => rw [hq] at hy; cases hy
    | some z =>
      rw [hq] at hy
      injection hy with hy
      subst hy
      have hi : i < len := by
        have := (List.getElem?_eq_some_iff.1 hq).1
        simp at this
        omega
      rw [List.getElem?_take, if_pos hi] at hq
      have e2 : zs.getD i 0 = z := by rw [List.getD_eq_getElem?_getD, hq]; rfl
      rw [e2]
      exact .sc _
theorem door_met (os : Os) (args : Array Value) : laidMetH Tryz.prog Rows.topPiecesRow.laid ((World.doorLaid Tryz.prog 4000 os).forCall (fun _ _ => 0) ⟨#[], args, []⟩).memory :=
  laidMetH_of_parts3 (fuel := 12) (laidMet_of_run' 12 (by kernel_rfl) (by kernel_rfl)) (by kernel_rfl) (by kernel_rfl)
set_option maxRecDepth 100000 in
theorem lifted (os : Os) (started : os.Started) (H : Type) (enc : TypeId × Value → H) :
    ReturnsInHanded {} Tryz.checked os 4 .any (fun w args => (Rows.topPiecesSpec.pre enc Tryz.prog Tryz.f4 [] false w args ∧ laidMetH Tryz.prog Rows.topPiecesRow.laid w) ∧ sizedMet enc Tryz.prog Tryz.f4 (OpenSpec.ofChange Rows.topPiecesSpec) false w args)
      (Rows.topPiecesSpec.post enc Tryz.prog Tryz.f4 false true false false) := by
  refine returnsInHanded_of_change_and (C := Tryz.checked) (X := fun w _ => laidMetH Tryz.prog Rows.topPiecesRow.laid w) (fun _ _ _ hh h => h.of_heap hh) own started (by kernel_rfl) Tryz.func4
    (ChangeSpec.witness_shaped (enc := enc) (C := Tryz.checked) (os := os) (X := fun w _ => laidMetH Tryz.prog Rows.topPiecesRow.laid w) false (World.doorLaid Tryz.prog 4000 os) #[.slice none 0 0] 8 rfl (World.shaped_of_RefB (by kernel_rfl) (by kernel_rfl)) (by kernel_rfl) (by kernel_rfl) (by kernel_rfl) (door_met os _)) ?_
  intro W base args ds gs before hval0 hW _ _ hL _
  have hval : ∀ (j : Nat) t v, Tryz.f4.params[j]? = some t → args[j]? = some v → Value.okWide Tryz.prog W .any base t v := hval0
  have hW' := hW
  obtain ⟨p, q, hA0, hV, rfl, hfz, hnd⟩ := hW
  have hA : DataW.TrodAll enc Tryz.prog W 0 (fun _ => true) true Tryz.f4.params.toList args.toList ds p := hA0
  rw [Tryz.params4] at hA hval
  obtain ⟨v0, vs0, d0, ds0, p0, q0, hargs, rfl, rfl, h0, r0⟩ := trodAll_cons hA
  obtain ⟨rfl, rfl, rfl⟩ := trodAll_nil r0
  obtain rfl : args = #[v0] := by cases args; simp_all
  obtain ⟨rfl, rfl⟩ := trodVars_none hV
  obtain ⟨a0, len0, cap0, rfl⟩ := okWide_slice Tryz.underlying22 (hval 0 22 v0 rfl rfl)
  have k0 := h0
  have lt0 : ∀ x ∈ p0, x.block < W.heap.size := by obtain ⟨m, hm⟩ := k0; exact DataW.trod_lt m _ _ _ hm
  obtain ⟨pl, hg⟩ := of_laid hL
  obtain ⟨t, hv⟩ : ∃ t : List Int, VR noRho W.heap.size W (.ro false (t.map Go.Eng.i64) t.length none 1) (.slice a0 len0 cap0) := by
    obtain ⟨fuel, hf⟩ := h0
    rcases open_ints Tryz.underlying22 Tryz.underlying3 (by kernel_rfl) hf with ⟨hcs, _⟩ | ⟨x, l, c, zs, hcs, _, hl, hm, hz, _, hcell, hwz⟩
    · simp [Value.cells] at hcs
      obtain ⟨rfl, rfl, rfl⟩ := hcs
      exact ⟨[], .ro (fun _ => undef) rfl (Nat.le_refl _) (fun k hk => by cases hk) (fun h => absurd rfl h) (fun h => absurd rfl h) (fun i y hy => by simp at hy)⟩
    · simp [Value.cells] at hcs
      obtain ⟨rfl, rfl, rfl⟩ := hcs
      exact ⟨zs.take len0, row_vr hl (by simpa using hz) hcell⟩
  clear hA0 hval0
  refine (walk pl W hg _ t hv).mono fun e W' ⟨he, bel⟩ => ?_
  subst he
  exact ⟨_, rfl, _, _, _, [], _, [], hW', trodAll_mk1 (shut_bool Tryz.underlying4 _), (trodAll_cons_mk (Below.trod laidOut (by kernel_rfl) (of_decide_eq_true (by kernel_rfl)) k0 bel lt0) trodAll_mk0), rfl, bel.frame _, fun h => by cases h⟩
end Go.Proofs.YtcjpofalahplbaaGreatDoor.pieces
end
