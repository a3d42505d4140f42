/- A part of the proof that radiolinktop.TopPieces returns true for every list of numbers. -/
import Derived.Test.YtcjpofalahplbaaGreatDoorEngOne
import Derived.LoopN
import Derived.RangeFuncRecord
import Derived.Recover
section
set_option linter.unusedVariables false
set_option linter.unusedSimpArgs false
namespace Go.Eng
open Go Go.RowKit
section
variable {P : Program} {w : World} {ρ : Rho} {B : Nat}
theorem opCopy_ok {ts : Array TypeId} {t ty : TypeId} (h0 : ts[0]? = some t) {hp hp' : Hp} {d s v : AV} {dv sv : Value} (h : opCopy P hp t d s = some (v, hp')) (hs : Sim ρ B w hp) (hr : VR ρ B w d dv) (hx : VR ρ B w s sv) :
    ∃ y w' ρ', (Builtin.copy_ ts ty #[dv, sv]).run P w = .ok y w' ∧ Eff ρ B w hp v hp' y w' ρ' ∧ HpKeep hp hp' := by
  unfold opCopy at h
  split at h
  · rename_i el hu
    split at h
    · rename_i sz hsz
      split at h
      · rename_i n b o len cap k hn
        split at h
        · rename_i hk
          subst hk
          split at h
          · rename_i cs hcs
            split at h
            · rename_i hall
              split at h
              · rename_i hp2 hw
                simp only [Option.some.injEq, Prod.mk.injEq] at h
                obtain ⟨rfl, rfl⟩ := h
                obtain ⟨us, hus, hul, hfc⟩ := srcCells_ok (P := P) hcs hs hx
                obtain ⟨l, ck, o', rfl, hl, g1, g2, g3, g4⟩ := hr.sl_inv
                obtain ⟨w', hst, s2, sim2, hkk, hn2⟩ := write_ok (P := P) hw hs hl hus (ones_ok hus hall)
                have hst2 : (storeCells ⟨l.c, o', none⟩ us).run P w = .ok () w' := by
                  rcases g3 with g3 | g3
                  · have hl0 : len = 0 := by omega
                    have : us = [] := List.eq_nil_of_length_eq_zero (by rw [hul, hl0]; simp [Nat.min])
                    subst this
                    simp only [storeCells] at hst ⊢
                    exact hst
                  · rw [g3]; exact hst
                refine ⟨_, w', ρ, ?_, ⟨s2, sim2, RhoIn.refl _ _ _, .sc _⟩, hkk⟩
                simp only [Builtin.copy_, h0, List.getElem?_toArray, List.getElem?_cons_zero, List.getElem?_cons_succ, Sem.run_bind, run_underlying hu, Result.andThen, srcLen_ok hn hx, run_sizeOf hsz, hfc w (fun _ => rfl), hst2, Sem.run_pure]
              · cases h
            · cases h
          · cases h
        · cases h
      · rename_i n hn
        simp only [Option.some.injEq, Prod.mk.injEq] at h
        obtain ⟨rfl, rfl⟩ := h
        have e := hr.sc_inv
        subst e
        have hsrc : ∃ us : Array Value, (Builtin.firstCells sz 0 sv).run P w = .ok us w := by
          unfold srcLen at hn
          split at hn
          · obtain ⟨l, ck, o', rfl, _⟩ := hx.sl_inv
            exact ⟨#[], by simp [Builtin.firstCells, loadCells, loadCellsFrom]⟩
          · obtain ⟨a, ck, ys, rfl, _⟩ := hx.ro_inv
            cases a with
            | none => exact ⟨#[], by simp [Builtin.firstCells]⟩
            | some a => exact ⟨#[], by simp [Builtin.firstCells, loadCells, loadCellsFrom]⟩
          · have e := hx.sc_inv; subst e
            exact ⟨#[], by simp [Builtin.firstCells]⟩
          · have e := hx.sc_inv; subst e
            exact ⟨_, rfl⟩
          · cases hn
        obtain ⟨us, hus⟩ := hsrc
        refine ⟨goInt 0, w, ρ, ?_, Eff.same hs (.sc _), HpKeep.refl _⟩
        have hm : Nat.min n 0 = 0 := Nat.min_zero n
        simp only [Builtin.copy_, h0, List.getElem?_toArray, List.getElem?_cons_zero, List.getElem?_cons_succ, Sem.run_bind, run_underlying hu, Result.andThen, srcLen_ok hn hx, run_sizeOf hsz, hm, hus, Sem.run_pure]
        rfl
      · cases h
    · cases h
  · cases h

def Enter (P : Program) (g : FuncId) : Prop := ∃ fn, P.funcs[g]? = some fn ∧ (fn.name == "runtime.NumGoroutine") = false ∧ fn.body.isSome = true
structure HpWf (hp : Hp) : Prop where
  out : ∀ b, hp.n ≤ b → hp.get b = none
  low : hp.n ≤ 1000000000
theorem Sim.wf {hp : Hp} (h : Sim ρ B w hp) : HpWf hp := ⟨h.out, h.low⟩
theorem HpWf.lt {hp : Hp} (h : HpWf hp) {b : Nat} {x : Blk} (hg : hp.get b = some x) : b < hp.n := by
  rcases Nat.lt_or_ge b hp.n with q | q
  · exact q
  · rw [h.out b q] at hg; cases hg
theorem HpWf.wlSet {hp : Hp} (h : HpWf hp) (l : List Nat) : HpWf (hp.wlSet l) := ⟨by intro b; rw [Hp.n_wlSet, Hp.get_wlSet]; exact h.out b, by rw [Hp.n_wlSet]; exact h.low⟩
theorem HpWf.set {hp : Hp} (h : HpWf hp) {b : Nat} {x y : Blk} (hg : hp.get b = some x) : HpKeep hp ((hp.set b y).log b) ∧ HpWf ((hp.set b y).log b) := by
  have hb := h.lt hg
  have hb30 : b < 1000000000 := by have := h.low; omega
  refine ⟨⟨by rw [Hp.n_log, Hp.n_set]; exact Nat.le_refl _, fun x _ hx => by rw [Hp.wl_log, Hp.wl_set]; exact List.mem_cons_of_mem _ hx, fun x _ hx => ?_⟩, fun x hx => ?_, by rw [Hp.n_log, Hp.n_set]; exact h.low⟩
  · rw [Hp.wl_log] at hx
    rw [Hp.get_log, Hp.get_set _ _ _ _ hb30, if_neg (fun q => hx (by rw [q]; exact List.mem_cons_self))]
  · rw [Hp.n_log, Hp.n_set] at hx
    rw [Hp.get_log, Hp.get_set _ _ _ _ hb30, if_neg (by omega)]; exact h.out x hx
theorem HpWf.new {hp : Hp} (h : HpWf hp) (cs : List AV) (hn : hp.n < 1000000000) : HpKeep hp (hp.new cs) ∧ HpWf (hp.new cs) :=
  ⟨HpKeep.new hp cs hn, fun b hb => by rw [Hp.n_new] at hb; rw [Hp.get_new _ _ _ hn, if_neg (by omega)]; exact h.out b (by omega), by rw [Hp.n_new]; omega⟩
theorem HpWf.write {hp hp' : Hp} (h : HpWf hp) {b off : Nat} {xs : List AV} (hw : hp.write b off xs = some hp') : HpKeep hp hp' ∧ HpWf hp' := by
  unfold Hp.write at hw
  split at hw
  · split at hw
    · injection hw with hw; subst hw; exact h.set (by assumption)
    · cases hw
  · cases hw
theorem HpWf.fresh {hp hp' : Hp} (h : HpWf hp) {cells : List AV} {n sz : Nat} {v : AV} (hf : freshA hp cells n sz = some (v, hp')) : HpKeep hp hp' ∧ HpWf hp' := by
  unfold freshA at hf
  split at hf
  · simp only [Option.some.injEq, Prod.mk.injEq] at hf
    obtain ⟨_, rfl⟩ := hf
    exact h.new _ (by assumption)
  · cases hf
def GlobR (G : Globs) (ρ : Rho) (B : Nat) (w : World) : Prop := (∀ g cs, G.rd g = some cs → VR ρ B w (.rp false cs) (.pointer (some ⟨g, 0, none⟩))) ∧ ∀ c o, (c, o) ∈ G.ob → w.heap[c]? = some o ∧ ¬ Managed ρ c
theorem GlobR.step {G : Globs} {ρ ρ' : Rho} {B : Nat} {w w' : World} (h : GlobR G ρ B w) {n : Nat} (s : Step n ρ w ρ' w') : GlobR G ρ' B w' := by
  refine ⟨fun g cs hg => (h.1 g cs hg).step s, fun c o hc => ?_⟩
  obtain ⟨h1, h2⟩ := h.2 c o hc
  have hlt : c < w.heap.size := (Array.getElem?_eq_some_iff.1 h1).1
  refine ⟨by rw [s.keepM hlt h2]; exact h1, fun hm => ?_⟩
  rcases s.managed hm with q | q
  · exact h2 q
  · omega
def CallOk (P : Program) (G : Globs) (call : CallT) : Prop := ∀ g args hp v hp', call g args hp = some (v, hp') → Enter P g ∧ (HpWf hp → HpKeep hp hp' ∧ HpWf hp') ∧
  ∀ ρ B w vs, Sim ρ B w hp → GlobR G ρ B w → B ≤ w.heap.size → Free ρ hp.n hp'.n → VRs ρ B w args vs →
    Calls P g ⟨vs⟩ w fun e w' => ∃ y ρ', e = .returned y ∧ Eff ρ B w hp v hp' y w' ρ'
theorem run_callFunc {g : FuncId} (h : Enter P g) (args : Array Value) : (callFunc g args).run P w = .ok (.enter g args) w := by
  obtain ⟨fn, h1, h2, h3⟩ := h
  have h4 : fn.body.isNone = false := by cases hb : fn.body <;> simp_all
  simp only [callFunc, Sem.run_bind]
  show ((program : Sem Program).run P w).andThen _ = _
  simp only [program, Sem.run, Result.andThen, h1, h2, h4, Bool.false_eq_true, if_false]
  rfl

variable {a : Act}
theorem opEff_ok {ev : Operand → Option AV} {G : Globs} {call : CallT} (hc : CallOk P G call) (hG : GlobR G ρ B w) {o : Oper} {hp hp' : Hp} {v : AV} (h : opEff P call ev hp o.op = some (v, hp')) (hs : Sim ρ B w hp) (he : EvR ρ B w ev a.eval) (hf : Free ρ hp.n hp'.n) (hB : B ≤ w.heap.size) :
    ∀ (next : Act → World → Prop) (Q : Exit → Act → World → Prop), (∀ y w' ρ', Eff ρ B w hp v hp' y w' ρ' → next (a.put o.dst y) w') → o.wp P a w next Q := by
  obtain ⟨dst, op, type, pos, after, guard⟩ := o
  cases op with
  | store t p x =>
    simp only [opEff, eStore] at h
    split at h
    · rename_i pv xv hpv hxv
      split at h
      · rename_i hp2 hst
        simp only [Option.some.injEq, Prod.mk.injEq] at h
        obtain ⟨rfl, rfl⟩ := h
        obtain ⟨w', hrun, s2, sim2, hk, hn⟩ := storeA_ok (P := P) hst hs (he p _ hpv) (he x _ hxv)
        intro next Q hnext
        have hr : (execOp a.eval { dst, op := .store t p x, type, pos, after, guard }).run P w = .ok .skip w' := by
          simp only [execOp, Sem.run_bind, hrun, Result.andThen, Sem.run_pure]
        unfold Oper.wp
        rw [hr, Oper.upon_skip]
        exact hnext _ _ ρ ⟨s2, sim2, RhoIn.refl _ _ _, VR.undef⟩
      · cases h
    · cases h
  | call c =>
    obtain ⟨callee, args, ts⟩ := c
    simp only [opEff, eCall] at h
    cases callee with
    | value f =>
      simp only [eValue] at h
      split at h
      · rename_i g first cap l hfv hl
        obtain ⟨h1, h2, h3⟩ := hc _ _ _ _ _ h
        obtain ⟨lv, cv, hv, hr1, hr2⟩ := (he f _ hfv).fn_inv
        have hal := evL_ok he hl
        have hcall := h3 ρ B w _ hs hG hB hf ((hr1.append hal).append hr2)
        intro next Q hnext
        have hr : (execOp a.eval { dst, op := .call { callee := .value f, args, argTypes := ts }, type, pos, after, guard }).run P w = .ok (.enter g ⟨(lv ++ args.toList.map a.eval) ++ cv⟩) w := by
          have e1 : ((⟨lv⟩ : Array Value) ++ args.map a.eval) ++ (⟨cv⟩ : Array Value) = ⟨(lv ++ args.toList.map a.eval) ++ cv⟩ := by
            apply Array.ext'; simp
          simp only [execOp, resolve, Sem.run_bind, hv, Deferred.ofValue, Sem.run_pure, Result.andThen, invoke]
          rw [e1]
          exact run_callFunc h1 _
        unfold Oper.wp
        rw [hr, Oper.upon_enter]
        refine hcall.mono ?_
        rintro e w' ⟨y, ρ', rfl, hy⟩
        exact hnext y w' ρ' hy
      · cases h
    | builtin b =>
      cases b with
      | append =>
        simp only [eBuiltin, eAppend] at h
        split at h
        · rename_i t u s x ht hu hxs
          have hargs : args.map a.eval = #[a.eval s, a.eval x] := by rw [arr_map, hxs]; rfl
          have fin : ∀ y w' ρ', (Builtin.append_ ts type #[a.eval s, a.eval x]).run P w = .ok y w' → Eff ρ B w hp v hp' y w' ρ' → ∀ (next : Act → World → Prop) (Q : Exit → Act → World → Prop), (∀ y w' ρ', Eff ρ B w hp v hp' y w' ρ' → next (a.put dst y) w') →
              ({ dst, op := .call { callee := .builtin .append, args, argTypes := ts }, type, pos, after, guard } : Oper).wp P a w next Q := by
            intro y w' ρ' hrun hy next Q hnext
            have hr : (execOp a.eval { dst, op := .call { callee := .builtin .append, args, argTypes := ts }, type, pos, after, guard }).run P w = .ok (.value y) w' := by
              simp only [execOp, resolve, invoke, builtin, Sem.run_bind, Sem.run_pure, Result.andThen, hargs, hrun]
            unfold Oper.wp
            rw [hr, Oper.upon_value]
            exact hnext y w' ρ' hy
          split at h
          · rename_i sv xv kd hsv hxv hud
            obtain ⟨y, w', ρ', hrun, hy, hk⟩ := opAppendZ_ok (ty := type) ht hu hud h hs (he s _ hsv) (he x _ hxv) hf hB
            exact fin y w' ρ' hrun hy
          · rename_i sv xv ud hnd hsv hxv hud
            have hn : notInt ud = true := by cases ud <;> first | rfl | (exact absurd rfl (hnd _))
            obtain ⟨y, w', ρ', hrun, hy, hk⟩ := opAppend_ok (ty := type) ht hu hud hn h hs (he s _ hsv) (he x _ hxv) hf hB
            exact fin y w' ρ' hrun hy
          · cases h
        · cases h
      | copy =>
        simp only [eBuiltin, eCopy] at h
        split at h
        · rename_i t d s ht hxs
          have hargs : args.map a.eval = #[a.eval d, a.eval s] := by rw [arr_map, hxs]; rfl
          split at h
          · rename_i dv sv hdv hsv
            obtain ⟨y, w', ρ', hrun, hy, hk⟩ := opCopy_ok (ty := type) ht h hs (he d _ hdv) (he s _ hsv)
            intro next Q hnext
            have hr : (execOp a.eval { dst, op := .call { callee := .builtin .copy, args, argTypes := ts }, type, pos, after, guard }).run P w = .ok (.value y) w' := by
              simp only [execOp, resolve, invoke, builtin, Sem.run_bind, Sem.run_pure, Result.andThen, hargs, hrun]
            unfold Oper.wp
            rw [hr, Oper.upon_value]
            exact hnext y w' ρ' hy
          · cases h
        · cases h
      | _ => simp [eBuiltin] at h
    | invoke r m => simp at h
  | _ => simp [opEff] at h

/-! ### Frames -/
structure SR (E : Env) (ds : List Deferred) (ρ : Rho) (B : Nat) (w : World) (s : St) (a : Act) : Prop where
  sim : Sim ρ B w s.hp
  tm : ∀ t, VR ρ B w (s.tmp t) (a.tmps.getD t undef)
  nt : a.tmps.size = s.nt
  few : s.nt < 1000000
  df : a.defers = ds
  gl : GlobR E.glob ρ B w
  hB : B ≤ w.heap.size
variable {E : Env} {ds : List Deferred}
theorem SR.ev {s : St} (h : SR E ds ρ B w s a) : EvR ρ B w (evalA E s) a.eval := by
  intro x u hx
  cases x with
  | tmp t => simp only [evalA] at hx; injection hx with hx; subst hx; exact h.tm t
  | const v => simp only [evalA] at hx; injection hx with hx; subst hx; exact VR.ofVal v
  | global g =>
    simp only [evalA] at hx
    split at hx
    · injection hx with hx; subst hx; exact h.gl.1 g _ (by assumption)
    · cases hx
  | func f => simp only [evalA] at hx; injection hx with hx; subst hx; exact .fn rfl rfl (fun i x y hx => by simp at hx) (fun i x y hx => by simp at hx)
theorem St.tmp_put {s s' : St} {d : Tmp} {v : AV} (h : s.put (some d) v = some s') (hf : s.nt < 1000000) (t : Nat) : s'.tmp t = if t = d then v else s.tmp t := by
  obtain ⟨nt, tm, hp⟩ := s
  simp only [St.put] at h
  split at h
  · rename_i hd
    injection h with h; subst h
    simp only [St.tmp]
    have hf2 : nt < 1000000 := hf
    have hd2 : d < 2 ^ fuelT - 1 := Nat.lt_trans (Nat.lt_trans hd hf2) (by decide)
    rw [Tr.get_put fuelT tm d v t hd2]
    by_cases e : t = d
    · rw [if_pos e, if_pos e]
    · rw [if_neg e, if_neg e]
  · cases h
theorem St.hp_put {s s' : St} {d : Option Tmp} {v : AV} (h : s.put d v = some s') : s'.hp = s.hp ∧ s'.nt = s.nt ∧ ∀ x, d = some x → x < s.nt := by
  obtain ⟨nt, tm, hp⟩ := s
  cases d with
  | none => simp only [St.put] at h; injection h with h; subst h; exact ⟨rfl, rfl, fun x hx => by cases hx⟩
  | some d =>
    simp only [St.put] at h
    split at h
    · injection h with h; subst h; exact ⟨rfl, rfl, fun x hx => by injection hx with hx; subst hx; assumption⟩
    · cases h
theorem SR.put {s s' : St} {d : Option Tmp} {v : AV} {y : Value} (h : SR E ds ρ B w s a) (hp : s.put d v = some s') (hv : VR ρ B w v y) : SR E ds ρ B w s' (a.put d y) := by
  obtain ⟨h1, h2, h3⟩ := St.hp_put hp
  cases d with
  | none =>
    obtain ⟨nt, tm, hp'⟩ := s
    simp only [St.put] at hp; injection hp with hp; subst hp
    exact h
  | some d =>
    have hd := h3 d rfl
    refine ⟨by rw [h1]; exact h.sim, fun t => ?_, by rw [h2]; simp [Act.put, h.nt], by rw [h2]; exact h.few, h.df, h.gl, h.hB⟩
    rw [St.tmp_put hp h.few]
    simp only [Act.put]
    by_cases e : t = d
    · subst e
      rw [if_pos rfl]
      have hlt : t < a.tmps.size := by rw [h.nt]; exact hd
      simpa [hlt] using hv
    · rw [if_neg e]
      have := h.tm t
      simpa [Array.getElem?_setIfInBounds_ne (Ne.symm e)] using this
theorem SR.world {s : St} {ρ' : Rho} {w' : World} {hp : Hp} (h : SR E ds ρ B w s a) {n : Nat} (st : Step n ρ w ρ' w') (hs : Sim ρ' B w' hp) : SR E ds ρ' B w' (s.withHp hp) a := by
  obtain ⟨nt, tm, hp0⟩ := s
  exact ⟨hs, fun t => (h.tm t).step st, h.nt, h.few, h.df, h.gl.step st, Nat.le_trans h.hB st.size⟩
theorem St.hp_withHp (s : St) (hp : Hp) : (s.withHp hp).hp = hp := by cases s; rfl
theorem St.put_withHp {s s' : St} {d : Option Tmp} {v : AV} (h : s.put d v = some s') (hp : Hp) : (s.withHp hp).put d v = some (s'.withHp hp) := by
  obtain ⟨nt, tm, hp0⟩ := s
  cases d with
  | none => simp only [St.put] at h ⊢; injection h with h; subst h; rfl
  | some d =>
    simp only [St.put, St.withHp] at h ⊢
    split at h
    · rename_i hd
      injection h with h; subst h
      exact if_pos hd
    · cases h
theorem putD_inv {s s' : St} {d : Option Tmp} {v : AV} {dn dn' : Done} (h : putD s d v dn = some (s', dn')) : s.put d v = some s' ∧ dn' = dn := by
  unfold putD at h
  split at h
  · simp only [Option.some.injEq, Prod.mk.injEq] at h
    obtain ⟨rfl, rfl⟩ := h
    exact ⟨by assumption, rfl⟩
  · cases h

theorem wantedA_ok {ops : Array Oper} {s : St} {o : Oper} {b : Bool} (h : SR E ds ρ B w s a) (hw : wantedA ops s o = some b) : Region.wanted o (yielded ops a.tmps) = b := by
  unfold wantedA at hw
  unfold Region.wanted
  split at hw
  · rename_i hg
    injection hw with hw
    rw [hg]; exact hw
  · rename_i j want hg
    rw [hg]
    simp only
    unfold wantedG at hw
    split at hw
    · rename_i d hd
      split at hw
      · rename_i hlt
        have hr := h.tm d
        have hsz : d < a.tmps.size := by rw [h.nt]; exact hlt
        have hge : a.tmps[d]? = some (a.tmps.getD d undef) := by simp [hsz]
        split at hw
        · rename_i c hc
          injection hw with hw
          rw [hc] at hr
          have := hr.sc_inv
          rw [this] at hge
          simp only [yielded, hd, Option.bind_some, hge]
          rw [← hw]
          cases c <;> cases want <;> rfl
        · rename_i hc
          injection hw with hw
          rw [hc] at hr
          obtain ⟨vs, e, hvs⟩ := hr.tup_inv
          rw [e] at hge
          simp only [yielded, hd, Option.bind_some, hge]
          rw [← hw]
          rfl
        · cases hw
      · cases hw
    · cases hw

structure SStep (E : Env) (ds : List Deferred) (ρ : Rho) (B : Nat) (w : World) (n : Nat) (s' : St) (ρ' : Rho) (a' : Act) (w' : World) : Prop where
  step : Step n ρ w ρ' w'
  rin : RhoIn ρ ρ' n s'.hp.n
  sr : SR E ds ρ' B w' s' a'
theorem SStep.trans {n : Nat} {s1 s2 : St} {ρ1 ρ2 : Rho} {a1 a2 : Act} {w1 w2 : World} (h : SStep E ds ρ B w n s1 ρ1 a1 w1) (k : SStep E ds ρ1 B w1 s1.hp.n s2 ρ2 a2 w2) (h1 : n ≤ s1.hp.n) (h2 : s1.hp.n ≤ s2.hp.n) (hf : Free ρ n s1.hp.n) : SStep E ds ρ B w n s2 ρ2 a2 w2 :=
  ⟨h.step.trans k.step hf, h.rin.trans k.rin h1 h2, k.sr⟩
theorem HpKeep.ofSet {hp hp' : Hp} (h : HpKeep (hp.wlSet []) hp') : HpKeep hp (hp'.wlSet (hp'.wl ++ hp.wl)) := by
  refine ⟨by rw [Hp.n_wlSet]; have := h.n; rw [Hp.n_wlSet] at this; exact this, fun b _ hb => by rw [Hp.wl_wlSet]; exact List.mem_append_right _ hb, fun b hb hn => ?_⟩
  rw [Hp.wl_wlSet] at hn
  rw [Hp.get_wlSet]
  have := h.get b (by rw [Hp.n_wlSet]; exact hb) (fun q => hn (List.mem_append_left _ q))
  rw [this, Hp.get_wlSet]
theorem stepOp_ok {call : CallT} (hc : CallOk E.P E.glob call) {anc : Nat → Nat} {s s' : St} {dn dn' : Done} {i : Nat} {o : Oper} (h : stepOp E call anc s dn i o = some (s', dn')) (hr : SR E ds ρ B w s a) (hf : Free ρ s.hp.n s'.hp.n) :
    ∀ (next : Act → World → Prop) (Q : Exit → Act → World → Prop), (∀ a' w' ρ', SStep E ds ρ B w s.hp.n s' ρ' a' w' → next a' w') → o.wp E.P a w next Q := by
  unfold stepOp at h
  split at h
  · unfold stPure at h
    split at h
    · rename_i v hv
      rw [forceV_eq] at h
      obtain ⟨hp, rfl⟩ := putD_inv h
      obtain ⟨y, hrun, hvy⟩ := opPure_ok (w := w) hv hr.ev
      intro next Q hnext
      unfold Oper.wp
      rw [hrun, Oper.upon_value]
      exact hnext _ _ ρ ⟨Step.refl _ _ _, RhoIn.refl _ _ _, hr.put hp hvy⟩
    · cases h
  · unfold stLoad at h
    split at h
    · rename_i v r hv
      split at h
      · obtain ⟨hp, rfl⟩ := putD_inv h
        obtain ⟨y, hrun, hvy⟩ := opLoad_ok (w := w) hv hr.sim hr.ev
        intro next Q hnext
        unfold Oper.wp
        rw [hrun, Oper.upon_value]
        exact hnext _ _ ρ ⟨Step.refl _ _ _, RhoIn.refl _ _ _, hr.put hp hvy⟩
      · cases h
    · cases h
  · unfold stAlloc at h
    split at h
    · rename_i cs f hv
      split at h
      · rename_i t hp
        split at h
        · rename_i hroom
          simp only [Option.some.injEq, Prod.mk.injEq] at h
          obtain ⟨rfl, rfl⟩ := h
          obtain ⟨arr, el, y, hrun, hsz, hcs, hy⟩ := opAlloc_ok (w := w) hv hr.ev
          have hfr : ρ s.hp.n = none := hf _ (Nat.le_refl _) (by rw [St.hp_withHp, Hp.n_new]; omega)
          obtain ⟨s1, sim1, r1⟩ := hr.sim.alloc cs arr el hroom hfr hr.hB (by omega) (fun i x hx => by
            obtain ⟨y, hy, hv⟩ := hcs.get hx
            exact ⟨y, by simpa using hy, hv⟩)
          intro next Q hnext
          unfold Oper.wp
          rw [hrun, Oper.upon_value]
          refine hnext _ _ _ ⟨s1 _, by rw [St.hp_withHp, Hp.n_new]; exact r1, ?_⟩
          exact (hr.world (s1 0) sim1).put (St.put_withHp hp _) (hy _ _ _ _ (Rho.add_same _ _ _))
        · cases h
      · cases h
    · cases h
  · unfold stEff at h
    split at h
    · rename_i v hp' hv
      split at h
      · rename_i t hp
        simp only [Option.some.injEq, Prod.mk.injEq] at h
        obtain ⟨rfl, rfl⟩ := h
        have hwp := opEff_ok hc hr.gl hv (hr.sim.wlSet []) hr.ev (by rw [Hp.n_wlSet]; rw [St.hp_withHp, Hp.n_wlSet] at hf; exact hf) hr.hB
        intro next Q hnext
        refine hwp next Q (fun y w' ρ' he => hnext _ _ ρ' ⟨by have := he.step; rw [Hp.n_wlSet] at this; exact this, ?_, ?_⟩)
        · have := he.rin
          rw [Hp.n_wlSet] at this
          rw [St.hp_withHp, Hp.n_wlSet]; exact this
        · exact (hr.world he.step (he.sim.wlSet _)).put (St.put_withHp hp _) he.val
      · cases h
    · cases h

/-! ### What is written is told -/
theorem appendA_keep {hp hp' : Hp} (hw : HpWf hp) {sz m : Nat} {s v : AV} {new : List AV} (h : appendA hp sz s m new = some (v, hp')) : HpKeep hp hp' ∧ HpWf hp' := by
  unfold appendA at h
  split at h
  · split at h <;> first | (simp only [Option.some.injEq, Prod.mk.injEq] at h; obtain ⟨_, rfl⟩ := h; exact ⟨HpKeep.refl _, hw⟩) | (cases h; done)
  · split at h
    · split at h
      · exact hw.fresh h
      · cases h
    · split at h
      · exact hw.fresh h
      · cases h
    · split at h
      · split at h
        · split at h
          · split at h
            · rename_i hr
              simp only [Option.some.injEq, Prod.mk.injEq] at h; obtain ⟨_, rfl⟩ := h
              exact hw.write hr
            · cases h
          · cases h
        · split at h
          · exact hw.fresh h
          · cases h
      · cases h
    · split at h
      · split at h
        · rename_i hg
          split at h
          · split at h
            · rename_i hr
              simp only [Option.some.injEq, Prod.mk.injEq] at h; obtain ⟨_, rfl⟩ := h
              exact hw.write hr
            · cases h
          · split at h
            · obtain ⟨h1, h2⟩ := hw.set (y := ⟨_, false⟩) hg
              obtain ⟨h3, h4⟩ := h2.fresh h
              exact ⟨h1.trans h3, h4⟩
            · cases h
        · cases h
      · cases h
    · cases h
theorem opEff_keep {G : Globs} {call : CallT} (hc : CallOk P G call) {ev : Operand → Option AV} {o : Op} {hp hp' : Hp} (hw : HpWf hp) {v : AV} (h : opEff P call ev hp o = some (v, hp')) : HpKeep hp hp' ∧ HpWf hp' := by
  cases o with
  | store t p x =>
    simp only [opEff, eStore] at h
    split at h
    · split at h
      · rename_i hst
        simp only [Option.some.injEq, Prod.mk.injEq] at h
        obtain ⟨_, rfl⟩ := h
        unfold storeA at hst
        split at hst
        · split at hst
          · exact hw.write hst
          · cases hst
        · cases hst
      · cases h
    · cases h
  | call c =>
    obtain ⟨callee, args, ts⟩ := c
    simp only [opEff, eCall] at h
    cases callee with
    | value f =>
      simp only [eValue] at h
      split at h
      · exact (hc _ _ _ _ _ h).2.1 hw
      · cases h
    | builtin b =>
      cases b with
      | append =>
        simp only [eBuiltin, eAppend] at h
        split at h
        · split at h
          · unfold opAppendZ at h
            (repeat' split at h) <;> first | (cases h; done) | exact appendA_keep hw h
          · unfold opAppend at h
            (repeat' split at h) <;> first | (cases h; done) | exact appendA_keep hw h
          · cases h
        · cases h
      | copy =>
        simp only [eBuiltin, eCopy] at h
        split at h
        · split at h
          · unfold opCopy at h
            (repeat' split at h) <;> first
              | (cases h; done)
              | (simp only [Option.some.injEq, Prod.mk.injEq] at h; obtain ⟨e1, rfl⟩ := h; clear e1; first | exact ⟨HpKeep.refl _, hw⟩ | (rename_i hr; exact hw.write hr))
          · cases h
        · cases h
      | _ => simp [eBuiltin] at h
    | invoke r m => simp at h
  | _ => simp [opEff] at h
theorem stepOp_keep {call : CallT} (hc : CallOk E.P E.glob call) {anc : Nat → Nat} {s s' : St} (hw : HpWf s.hp) {dn dn' : Done} {i : Nat} {o : Oper} (h : stepOp E call anc s dn i o = some (s', dn')) : HpKeep s.hp s'.hp ∧ HpWf s'.hp := by
  unfold stepOp at h
  split at h
  · unfold stPure at h
    split at h
    · rw [forceV_eq] at h
      rw [(St.hp_put (putD_inv h).1).1]; exact ⟨HpKeep.refl _, hw⟩
    · cases h
  · unfold stLoad at h
    split at h
    · split at h
      · rw [(St.hp_put (putD_inv h).1).1]; exact ⟨HpKeep.refl _, hw⟩
      · cases h
    · cases h
  · unfold stAlloc at h
    split at h
    · split at h
      · split at h
        · simp only [Option.some.injEq, Prod.mk.injEq] at h
          obtain ⟨rfl, _⟩ := h
          rw [St.hp_withHp]; exact hw.new _ (by assumption)
        · cases h
      · cases h
    · cases h
  · unfold stEff at h
    split at h
    · rename_i hv
      split at h
      · simp only [Option.some.injEq, Prod.mk.injEq] at h
        obtain ⟨rfl, _⟩ := h
        obtain ⟨h1, h2⟩ := opEff_keep hc (hw.wlSet []) hv
        rw [St.hp_withHp]; exact ⟨h1.ofSet, h2.wlSet _⟩
      · cases h
    · cases h
theorem runOps_keep {call : CallT} (hc : CallOk E.P E.glob call) {ops : Array Oper} {anc : Nat → Nat} : ∀ (l : List Nat) {s s' : St} {dn dn' : Done}, HpWf s.hp → runOps E call ops anc l s dn = some (s', dn') → HpKeep s.hp s'.hp ∧ HpWf s'.hp := by
  intro l
  induction l with
  | nil =>
    intro s s' dn dn' hw h
    rw [runOps_nil] at h
    simp only [Option.some.injEq, Prod.mk.injEq] at h
    obtain ⟨rfl, _⟩ := h
    exact ⟨HpKeep.refl _, hw⟩
  | cons i l ih =>
    intro s s' dn dn' hw h
    rw [runOps_cons] at h
    unfold run1 at h
    cases ho : ops[i]? with
    | none => rw [ho] at h; cases h
    | some o =>
      rw [ho] at h
      simp only [runO] at h
      split at h
      · unfold contD at h
        split at h
        · rename_i h1
          obtain ⟨k1, w1⟩ := stepOp_keep hc hw h1
          obtain ⟨k2, w2⟩ := ih w1 h
          exact ⟨k1.trans k2, w2⟩
        · cases h
      · unfold contD at h
        split at h
        · rename_i h1
          have e := (St.hp_put (putD_inv h1).1).1
          rw [← e] at hw ⊢
          exact ih hw h
        · cases h
      · cases h

theorem runOps_ok {call : CallT} (hc : CallOk E.P E.glob call) {ops : Array Oper} {anc : Nat → Nat} {Q : Exit → Act → World → Prop} : ∀ (l : List Nat) {ρ : Rho} {w : World} {a : Act} {s s' : St} {dn dn' : Done}, runOps E call ops anc l s dn = some (s', dn') → SR E ds ρ B w s a → Free ρ s.hp.n s'.hp.n →
    (∀ a' w' ρ', SStep E ds ρ B w s.hp.n s' ρ' a' w' → Q .normal a' w') → wpOps E.P ops Q l a w := by
  intro l
  induction l with
  | nil =>
    intro ρ w a s s' dn dn' h hr hf hQ
    rw [runOps_nil] at h
    simp only [Option.some.injEq, Prod.mk.injEq] at h
    obtain ⟨rfl, rfl⟩ := h
    exact hQ _ _ ρ ⟨Step.refl _ _ _, RhoIn.refl _ _ _, hr⟩
  | cons i l ih =>
    intro ρ w a s s' dn dn' h hr hf hQ
    rw [runOps_cons] at h
    unfold run1 at h
    rw [wpOps_cons]
    unfold wpOp
    cases ho : ops[i]? with
    | none => rw [ho] at h; cases h
    | some o =>
      rw [ho] at h
      simp only [runO] at h
      simp only
      split at h
      · rename_i hw
        rw [wantedA_ok hr hw, if_pos rfl]
        unfold contD at h
        split at h
        · rename_i s1 dn1 h1
          obtain ⟨hk1, hw1⟩ := stepOp_keep hc hr.sim.wf h1
          have hn1 := hk1.n
          have hn2 := (runOps_keep hc l hw1 h).1.n
          have hwp := stepOp_ok hc h1 hr (hf.cut hn2)
          refine .inl (hwp _ _ fun a1 w1 ρ1 hs1 => ?_)
          exact ih h hs1.sr (hf.next hs1.rin hn1) fun a2 w2 ρ2 hs2 => hQ a2 w2 ρ2 (hs1.trans hs2 hn1 hn2 (hf.cut hn2))
        · cases h
      · rename_i hw
        rw [wantedA_ok hr hw, if_neg (by simp)]
        unfold contD at h
        split at h
        · rename_i s1 dn1 h1
          have hp := (putD_inv h1).1
          have e := (St.hp_put hp).1
          refine ih h (hr.put hp VR.undef) (by rw [e]; exact hf) fun a2 w2 ρ2 hs2 => ?_
          rw [e] at hs2
          exact hQ a2 w2 ρ2 hs2
        · cases h
      · cases h
end
end Go.Eng
end
section
set_option linter.unusedVariables false
set_option linter.unusedSimpArgs false
namespace Go.Eng
open Go Go.RowKit
section
variable {P : Program} {ev ev' : Operand → Option AV}
theorem evL_congr : ∀ (l : List Operand), (∀ x ∈ l, ev x = ev' x) → evL ev l = evL ev' l := by
  intro l
  induction l with
  | nil => intro _; rfl
  | cons x l ih =>
    intro h
    simp only [evL]
    rw [h x List.mem_cons_self, ih fun y hy => h y (List.mem_cons_of_mem _ hy)]
theorem evP_congr : ∀ (l : List (Nat × Operand)), (∀ x ∈ l.map (·.2), ev x = ev' x) → evP ev l = evP ev' l := by
  intro l
  induction l with
  | nil => intro _; rfl
  | cons x l ih =>
    intro h
    obtain ⟨i, x⟩ := x
    simp only [evP]
    rw [h x (by simp), ih fun y hy => h y (by simp at hy ⊢; exact .inr hy)]
theorem omap_congr {x : Option Operand} (h : ∀ y ∈ x.toArray, ev y = ev' y) : x.map ev = x.map ev' := by
  cases x with
  | none => rfl
  | some y => simp at h; simp [h]
theorem opPure_congr {t : TypeId} {o : Op} (h : ∀ x ∈ o.operands, ev x = ev' x) : opPure P ev t o = opPure P ev' t o := by
  cases o with
  | move x => exact h x (by simp [Op.operands])
  | assign x => exact h x (by simp [Op.operands])
  | pick c a b => simp only [opPure, pPick, h c (by simp [Op.operands]), h a (by simp [Op.operands]), h b (by simp [Op.operands])]
  | nilCheck x => simp only [opPure, pNil, h x (by simp [Op.operands])]
  | binOp op t x y k => simp only [opPure, pBin, h x (by simp [Op.operands]), h y (by simp [Op.operands])]
  | unOp op k x => simp only [opPure, pUn, h x (by simp [Op.operands])]
  | convert s d x => simp only [opPure, pConv, h x (by simp [Op.operands])]
  | fieldAddr s x f => simp only [opPure, pFA, h x (by simp [Op.operands])]
  | indexAddr t x i => simp only [opPure, pIA, h x (by simp [Op.operands]), h i (by simp [Op.operands])]
  | field t x f => simp only [opPure, pField, h x (by simp [Op.operands])]
  | index t x i => simp only [opPure, pIndex, h x (by simp [Op.operands]), h i (by simp [Op.operands])]
  | extract x i => simp only [opPure, pExtract, h x (by simp [Op.operands])]
  | slice t x lo hi mx =>
    simp only [Op.operands, Array.mem_append] at h
    simp only [opPure, pSlice, h x (by simp), omap_congr (x := lo) fun y hy => h y (by simp only [hy, true_or, or_true]), omap_congr (x := hi) fun y hy => h y (by simp only [hy, true_or, or_true]),
      omap_congr (x := mx) fun y hy => h y (by simp only [hy, or_true])]
  | makeFunc fn first cap =>
    simp only [Op.operands, Array.mem_append] at h
    simp only [opPure, pFunc, evL_congr first.toList fun y hy => h y (.inl (by simpa using hy)), evL_congr cap.toList fun y hy => h y (.inr (by simpa using hy))]
  | makeInterface t x => simp only [opPure, pIfc, h x (by simp [Op.operands])]
  | build t parts =>
    have e := evP_congr (ev := ev) (ev' := ev') parts.toList fun y hy => h y (by simpa [Op.operands] using hy)
    simp only [opPure, pBuild, e]
  | call c =>
    obtain ⟨callee, args, ts⟩ := c
    have e := evL_congr (ev := ev) (ev' := ev') args.toList fun y hy => h y (by simp [Op.operands, Call.operands]; exact .inr (by simpa using hy))
    simp only [opPure, pCall]
    cases callee with
    | builtin b =>
      have one : ∀ x, args[0]? = some x → ev x = ev' x := fun x hx => h x (by
        simp only [Op.operands, Call.operands, Array.mem_append]; right; exact Array.mem_of_getElem? hx)
      cases b with
      | len =>
        simp only [pBuiltin, pLen]
        split
        · rename_i x _ hx
          rw [one x hx]
        · rfl
      | cap =>
        simp only [pBuiltin, pCap]
        split
        · rename_i x _ hx
          rw [one x hx]
        · rfl
      | min => simp only [pBuiltin, pMin, e]
      | max => simp only [pBuiltin, pMax, e]
      | _ => rfl
    | _ => rfl
  | _ => rfl
theorem opLoad_ev {hp : Hp} {o : Op} (h : ∀ x ∈ o.operands, ev x = ev' x) : opLoad P ev hp o = opLoad P ev' hp o := by
  cases o with
  | load t x => simp only [opLoad, qLoad, h x (by simp [Op.operands])]
  | convert s d x => simp only [opLoad, qStr, h x (by simp [Op.operands])]
  | _ => rfl
theorem opAlloc_ev {o : Op} (h : ∀ x ∈ o.operands, ev x = ev' x) : opAlloc P ev o = opAlloc P ev' o := by
  cases o with
  | box t x => simp only [opAlloc, aBox, h x (by simp [Op.operands])]
  | buildSlice t n parts =>
    have e := evP_congr (ev := ev) (ev' := ev') parts.toList fun y hy => h y (by simpa [Op.operands] using hy)
    simp only [opAlloc, aBuild, e]
  | makeSlice t l c => simp only [opAlloc, aMake, h l (by simp [Op.operands]), h c (by simp [Op.operands])]
  | _ => rfl
theorem opEff_ev {call : CallT} {hp : Hp} {o : Op} (h : ∀ x ∈ o.operands, ev x = ev' x) : opEff P call ev hp o = opEff P call ev' hp o := by
  cases o with
  | store t a x => simp only [opEff, eStore, h a (by simp [Op.operands]), h x (by simp [Op.operands])]
  | call c =>
    obtain ⟨callee, args, ts⟩ := c
    have e := evL_congr (ev := ev) (ev' := ev') args.toList fun y hy => h y (by simp [Op.operands, Call.operands]; exact .inr (by simpa using hy))
    have two : ∀ x y, args.toList = [x, y] → ev x = ev' x ∧ ev y = ev' y := fun x y hx => ⟨h x (by
        simp only [Op.operands, Call.operands, Array.mem_append]; right; rw [← Array.mem_toList_iff, hx]; simp), h y (by
        simp only [Op.operands, Call.operands, Array.mem_append]; right; rw [← Array.mem_toList_iff, hx]; simp)⟩
    simp only [opEff, eCall]
    cases callee with
    | value f => simp only [eValue, e, h f (by simp [Op.operands, Call.operands])]
    | builtin b =>
      cases b with
      | append =>
        simp only [eBuiltin, eAppend]
        split
        · rename_i t u x y h0 h1 hx
          rw [(two x y hx).1, (two x y hx).2]
        · rfl
      | copy =>
        simp only [eBuiltin, eCopy]
        split
        · rename_i t x y h0 hx
          rw [(two x y hx).1, (two x y hx).2]
        · rfl
      | _ => rfl
    | _ => rfl
  | _ => rfl
theorem opLoad_named {ρ : Rho} {B : Nat} {w : World} {e : Operand → Value} {hp : Hp} {o : Op} {v : AV} {b : Nat} (h : opLoad P ev hp o = some (v, some b)) (he : EvR ρ B w ev e) : ∃ l, ρ b = some l := by
  cases o with
  | load t x =>
    simp only [opLoad, qLoad] at h
    split at h
    · rename_i u hu
      have hr := he x u hu
      unfold loadA at h
      split at h
      · split at h
        · split at h
          · simp only [Option.some.injEq, Prod.mk.injEq] at h
            obtain ⟨l, hl, _⟩ := hr.ptr_inv
            exact ⟨l, by rw [← h.2]; exact hl⟩
          · cases h
        · split at h <;> simp at h
        · cases h
      · split at h
        · split at h
          · simp only [Option.some.injEq, Prod.mk.injEq] at h
            obtain ⟨l, hl, _⟩ := hr.ptr_inv
            exact ⟨l, by rw [← h.2]; exact hl⟩
          · cases h
        · simp at h
        · cases h
      · cases h
    · cases h
  | convert s d x =>
    simp only [opLoad, qStr] at h
    split at h
    · rename_i u hu
      have hr := he x u hu
      unfold strA at h
      split at h
      · split at h
        · split at h
          · split at h
            · split at h
              · simp only [Option.some.injEq, Prod.mk.injEq] at h
                obtain ⟨l, _, _, _, hl, _⟩ := hr.sl_inv
                exact ⟨l, by rw [← h.2]; exact hl⟩
              · cases h
            · cases h
          · split at h
            · split at h <;> simp at h
            · cases h
          · simp at h
          · cases h
        · cases h
      · cases h
    · cases h
  | _ => simp [opLoad] at h
end

/-! ### Ancestors -/
def AncOk (ops : Array Oper) (M : List Nat) : Prop := ∀ i k, (ancOf M i).testBit k = true → ∃ o e, ops[i]? = some o ∧ e ∈ o.after ∧ Region.binds .any e = true ∧ (k = e.on ∨ (ancOf M e.on).testBit k = true)
theorem ancStep_spec (acc : List Nat) : ∀ (l : List Edge) (z : Nat) (k : Nat), (l.foldl (fun s e => if Region.binds .any e then (s ||| 2 ^ e.on) ||| acc.getD e.on 0 else s) z).testBit k = true →
    z.testBit k = true ∨ ∃ e ∈ l, Region.binds .any e = true ∧ (k = e.on ∨ (acc.getD e.on 0).testBit k = true) := by
  intro l
  induction l with
  | nil => intro z k h; exact .inl h
  | cons e l ih =>
    intro z k h
    simp only [List.foldl_cons] at h
    rcases ih _ k h with h1 | ⟨x, hx, hb⟩
    · split at h1
      · rename_i hb
        rw [Nat.testBit_or, Nat.testBit_or, Bool.or_eq_true, Bool.or_eq_true] at h1
        rcases h1 with (h1 | h1) | h1
        · exact .inl h1
        · rw [Nat.testBit_two_pow] at h1
          exact .inr ⟨e, List.mem_cons_self, hb, .inl (by simpa using (of_decide_eq_true h1).symm)⟩
        · exact .inr ⟨e, List.mem_cons_self, hb, .inr h1⟩
      · exact .inl h1
    · exact .inr ⟨x, List.mem_cons_of_mem _ hx, hb⟩
theorem ancGo_spec : ∀ (r : List Oper) (acc : List Nat) (done : List Oper), done.length = acc.length →
    (∀ i k, (acc.getD i 0).testBit k = true → ∃ o e, done[i]? = some o ∧ e ∈ o.after ∧ Region.binds .any e = true ∧ (k = e.on ∨ (acc.getD e.on 0).testBit k = true)) →
    ∀ i k, ((ancGo r acc).getD i 0).testBit k = true → ∃ o e, (done ++ r)[i]? = some o ∧ e ∈ o.after ∧ Region.binds .any e = true ∧ (k = e.on ∨ ((ancGo r acc).getD e.on 0).testBit k = true) := by
  intro r
  induction r with
  | nil => intro acc done hl h; simpa [ancGo] using h
  | cons o r ih =>
    intro acc done hl h
    simp only [ancGo]
    have old : ∀ i, ∀ k, (acc.getD i 0).testBit k = true → i < acc.length := fun i k hk => by
      rcases Nat.lt_or_ge i acc.length with q | q
      · exact q
      · simp [List.getD, List.getElem?_eq_none q] at hk
    have lift : ∀ i k x, (acc.getD i 0).testBit k = true → ((acc ++ [x]).getD i 0).testBit k = true := fun i k x hk => by
      have hi := old i k hk
      simpa [List.getD, List.getElem?_append_left hi] using hk
    have := ih (acc ++ [ancStep acc o]) (done ++ [o]) (by simp [hl]) ?_
    · simpa using this
    · intro i k hk
      rcases Nat.lt_trichotomy i acc.length with q | q | q
      · have e1 : (acc ++ [ancStep acc o]).getD i 0 = acc.getD i 0 := by simp [List.getD, List.getElem?_append_left q]
        rw [e1] at hk
        obtain ⟨o', e, h1, h2, h3, h4⟩ := h i k hk
        refine ⟨o', e, ?_, h2, h3, h4.imp id (lift _ _ _)⟩
        rw [List.getElem?_append_left (by omega)]; exact h1
      · have e1 : (acc ++ [ancStep acc o]).getD i 0 = ancStep acc o := by simp [List.getD, q]
        rw [e1] at hk
        unfold ancStep at hk
        rcases ancStep_spec acc _ 0 k hk with h1 | ⟨e, he, hb, h1⟩
        · simp at h1
        · exact ⟨o, e, by rw [q, ← hl]; simp, by simpa using he, hb, h1.imp id (lift _ _ _)⟩
      · simp [List.getD, List.getElem?_eq_none (show (acc ++ [ancStep acc o]).length ≤ i by simp; omega)] at hk
theorem ancs_ok (ops : Array Oper) : AncOk ops (ancs ops) := by
  intro i k h
  have := ancGo_spec ops.toList [] [] rfl (fun i k h => by simp [List.getD] at h) i k h
  simpa [ancs, ancOf] using this

/-! ### Orders -/
theorem order_spec {P : Program} {ops : Array Oper} {M : List Nat} : ∀ (l : List Nat) (D : Nat) (X0 : List Nat), orderOk P ops M l D = true → (∀ k, D.testBit k = true ↔ k ∈ X0) → X0.Nodup →
    (X0 ++ l).Nodup ∧ (∀ k, k < ops.size ↔ k ∈ X0 ++ l) ∧ ∀ X i Y, l = X ++ i :: Y → (∀ k, (ancOf M i).testBit k = true → k ∈ X0 ++ X) ∧ (effAt P ops i = true → ∀ k ∈ X0 ++ X, (ancOf M i).testBit k = true) := by
  intro l
  induction l with
  | nil =>
    intro D X0 h hD hN
    simp only [orderOk, beq_iff_eq] at h
    refine ⟨by simpa using hN, fun k => ?_, fun X i Y hl => by simp at hl⟩
    rw [List.append_nil, ← hD k, h, Nat.testBit_two_pow_sub_one]
    simp
  | cons i l ih =>
    intro D X0 h hD hN
    simp only [orderOk, Bool.and_eq_true, decide_eq_true_eq, Bool.not_eq_true', beq_iff_eq, Bool.or_eq_true] at h
    obtain ⟨⟨⟨⟨h1, h2⟩, h3⟩, h4⟩, h5⟩ := h
    have hi : i ∉ X0 := fun hm => by rw [← hD i, h2] at hm; cases hm
    obtain ⟨g1, g2, g3⟩ := ih (D ||| 2 ^ i) (X0 ++ [i]) h5 (fun k => by
      rw [Nat.testBit_or, Bool.or_eq_true, hD k, Nat.testBit_two_pow, List.mem_append, List.mem_singleton, decide_eq_true_eq]
      exact ⟨fun q => q.imp id Eq.symm, fun q => q.imp id Eq.symm⟩) (by
      rw [List.nodup_append]; exact ⟨hN, by simp, fun a ha b hb => by simp at hb; subst hb; intro e; subst e; exact hi ha⟩)
    rw [List.append_assoc, List.singleton_append] at g1 g2
    refine ⟨g1, g2, fun X j Y hl => ?_⟩
    cases X with
    | nil =>
      simp at hl
      obtain ⟨rfl, rfl⟩ := hl
      rw [List.append_nil]
      refine ⟨fun k hk => (hD k).1 ?_, fun he k hk => ?_⟩
      · rw [← h3, Nat.testBit_and, Bool.and_eq_true] at hk; exact hk.2
      · rcases h4 with h4 | h4
        · rw [he] at h4; cases h4
        · have := (hD k).2 hk
          rw [← h4, Nat.testBit_and, Bool.and_eq_true] at this; exact this.2
    | cons x X =>
      simp at hl
      obtain ⟨rfl, rfl⟩ := hl
      have := g3 X j Y rfl
      rw [List.append_assoc, List.singleton_append] at this
      exact this
theorem names_spec {ops : Array Oper} {M : List Nat} (h : namesOk ops M = true) {i j : Nat} {o q : Oper} {d : Tmp} (hi : ops[i]? = some o) (hj : ops[j]? = some q) (hd : o.dst = some d) (hq : d ∈ q.looksAt ops ∨ q.dst = some d) :
    j = i ∨ (ancOf M i).testBit j = true ∨ (ancOf M j).testBit i = true := by
  have hlt : ∀ {k : Nat} {o : Oper}, ops[k]? = some o → k < ops.size := fun h => (Array.getElem?_eq_some_iff.1 h).1
  unfold namesOk at h
  rw [List.all_eq_true] at h
  have h1 := h i (List.mem_range.2 (hlt hi))
  rw [hi] at h1
  simp only [namesOk1, hd] at h1
  rw [List.all_eq_true] at h1
  have h2 := h1 j (List.mem_range.2 (hlt hj))
  rw [hj] at h2
  simp only [Bool.or_eq_true, beq_iff_eq, Bool.and_eq_true, Bool.not_eq_true'] at h2
  rcases h2 with ((h2 | h2) | h2) | h2
  · exact .inl h2
  · exact .inr (.inl h2)
  · exact .inr (.inr h2)
  · rcases hq with hq | hq
    · have := h2.1; simp at this; exact absurd hq this
    · have := h2.2; rw [hq] at this; simp at this
theorem edges_spec {ops : Array Oper} (h : edgesOk ops = true) {i : Nat} {o : Oper} (hi : ops[i]? = some o) {e : Edge} (he : e ∈ o.after) (hb : Region.binds .any e = true) : e.on < i := by
  unfold edgesOk at h
  rw [List.all_eq_true] at h
  have h1 := h i (List.mem_range.2 (Array.getElem?_eq_some_iff.1 hi).1)
  rw [hi] at h1
  simp only [List.all_eq_true] at h1
  have := h1 e (by simpa using he)
  simp only [Bool.or_eq_true, Bool.not_eq_true', decide_eq_true_eq, hb] at this
  simpa using this

/-! ### Runs, cut -/
theorem runOps_append {E : Env} {call : CallT} {ops : Array Oper} {anc : Nat → Nat} : ∀ (X Y : List Nat) {s s' : St} {dn dn' : Done}, runOps E call ops anc (X ++ Y) s dn = some (s', dn') → ∃ s1 dn1, runOps E call ops anc X s dn = some (s1, dn1) ∧ runOps E call ops anc Y s1 dn1 = some (s', dn') := by
  intro X
  induction X with
  | nil => intro Y s s' dn dn' h; exact ⟨s, dn, rfl, h⟩
  | cons i X ih =>
    intro Y s s' dn dn' h
    rw [List.cons_append, runOps_cons] at h
    simp only [runOps_cons]
    unfold run1 at h ⊢
    cases ho : ops[i]? with
    | none => rw [ho] at h; cases h
    | some o =>
      rw [ho] at h
      simp only [runO] at h ⊢
      split at h
      · unfold contD at h ⊢
        split at h
        · rename_i s2 dn2 h2
          obtain ⟨s1, dn1, h3, h4⟩ := ih Y h
          exact ⟨s1, dn1, h3, h4⟩
        · cases h
      · unfold contD at h ⊢
        split at h
        · rename_i s2 dn2 h2
          obtain ⟨s1, dn1, h3, h4⟩ := ih Y h
          exact ⟨s1, dn1, h3, h4⟩
        · cases h
      · cases h
end Go.Eng
end
section
set_option linter.unusedVariables false
set_option linter.unusedSimpArgs false
namespace Go.Eng
open Go Go.RowKit
section
variable {E : Env} {call : CallT} {ops : Array Oper} {anc : Nat → Nat}
theorem runOps_comp : ∀ (X Y : List Nat) {s s1 s' : St} {dn dn1 dn' : Done}, runOps E call ops anc X s dn = some (s1, dn1) → runOps E call ops anc Y s1 dn1 = some (s', dn') → runOps E call ops anc (X ++ Y) s dn = some (s', dn') := by
  intro X
  induction X with
  | nil =>
    intro Y s s1 s' dn dn1 dn' h k
    rw [runOps_nil] at h
    simp only [Option.some.injEq, Prod.mk.injEq] at h
    obtain ⟨rfl, rfl⟩ := h
    exact k
  | cons i X ih =>
    intro Y s s1 s' dn dn1 dn' h k
    rw [runOps_cons] at h
    rw [List.cons_append, runOps_cons]
    unfold run1 at h ⊢
    cases ho : ops[i]? with
    | none => rw [ho] at h; cases h
    | some o =>
      rw [ho] at h
      simp only [runO] at h ⊢
      split at h
      · unfold contD at h ⊢
        split at h
        · exact ih Y h k
        · cases h
      · unfold contD at h ⊢
        split at h
        · exact ih Y h k
        · cases h
      · cases h

inductive OneR (E : Env) (call : CallT) (ops : Array Oper) (anc : Nat → Nat) (s : St) (dn : Done) (i : Nat) (o : Oper) (s1 : St) (dn1 : Done) : AV → Prop
  | off : wantedA ops s o = some false → s.put o.dst undefA = some s1 → dn1 = dn → OneR E call ops anc s dn i o s1 dn1 undefA
  | pure {v : AV} : wantedA ops s o = some true → clsOf E.P o.op = .pure → opPure E.P (evalA E s) o.type o.op = some v → s.put o.dst v = some s1 → dn1 = dn → OneR E call ops anc s dn i o s1 dn1 v
  | load {v : AV} {r : Option Nat} : wantedA ops s o = some true → clsOf E.P o.op = .load → opLoad E.P (evalA E s) s.hp o.op = some (v, r) → fresh1 anc i r dn = true → s.put o.dst v = some s1 → dn1 = dn → OneR E call ops anc s dn i o s1 dn1 v
  | alloc {cs : List AV} {f : Nat → AV} {t : St} : wantedA ops s o = some true → clsOf E.P o.op = .alloc → opAlloc E.P (evalA E s) o.op = some (cs, f) → s.put o.dst (f s.hp.n) = some t → s.hp.n < 1000000000 → s1 = t.withHp (s.hp.new cs) → dn1 = dn → OneR E call ops anc s dn i o s1 dn1 (f s.hp.n)
  | eff {v : AV} {hp : Hp} {t : St} : wantedA ops s o = some true → clsOf E.P o.op = .eff → opEff E.P call (evalA E s) (s.hp.wlSet []) o.op = some (v, hp) → s.put o.dst v = some t → s1 = t.withHp (hp.wlSet (hp.wl ++ s.hp.wl)) → dn1 = (i, hp.wl) :: dn → OneR E call ops anc s dn i o s1 dn1 v
theorem stepOp_inv {s s1 : St} {dn dn1 : Done} {i : Nat} {o : Oper} (hw : wantedA ops s o = some true) (h : stepOp E call anc s dn i o = some (s1, dn1)) : ∃ v, OneR E call ops anc s dn i o s1 dn1 v := by
  unfold stepOp at h
  split at h
  · rename_i hc
    unfold stPure at h
    split at h
    · rename_i v hv
      rw [forceV_eq] at h
      obtain ⟨h1, h2⟩ := putD_inv h
      exact ⟨v, .pure hw hc hv h1 h2⟩
    · cases h
  · rename_i hc
    unfold stLoad at h
    split at h
    · rename_i v r hv
      split at h
      · rename_i hf
        obtain ⟨h1, h2⟩ := putD_inv h
        exact ⟨v, .load hw hc hv hf h1 h2⟩
      · cases h
    · cases h
  · rename_i hc
    unfold stAlloc at h
    split at h
    · rename_i cs f hv
      split at h
      · rename_i t ht
        split at h
        · rename_i hn
          simp only [Option.some.injEq, Prod.mk.injEq] at h
          exact ⟨_, .alloc hw hc hv ht hn h.1.symm h.2.symm⟩
        · cases h
      · cases h
    · cases h
  · rename_i hc
    unfold stEff at h
    split at h
    · rename_i v hp hv
      split at h
      · rename_i t ht
        simp only [Option.some.injEq, Prod.mk.injEq] at h
        exact ⟨v, .eff hw hc hv ht h.1.symm h.2.symm⟩
      · cases h
    · cases h
theorem run_one {i : Nat} {l : List Nat} {s s' : St} {dn dn' : Done} (h : runOps E call ops anc (i :: l) s dn = some (s', dn')) :
    ∃ o s1 dn1 v, ops[i]? = some o ∧ OneR E call ops anc s dn i o s1 dn1 v ∧ runOps E call ops anc [i] s dn = some (s1, dn1) ∧ runOps E call ops anc l s1 dn1 = some (s', dn') := by
  have hcut : ∃ s1 dn1, runOps E call ops anc [i] s dn = some (s1, dn1) ∧ runOps E call ops anc l s1 dn1 = some (s', dn') := runOps_append [i] l h
  obtain ⟨s1, dn1, h1, h2⟩ := hcut
  have h3 := h1
  rw [runOps_cons] at h1
  unfold run1 at h1
  cases ho : ops[i]? with
  | none => rw [ho] at h1; cases h1
  | some o =>
    rw [ho] at h1
    simp only [runO] at h1
    split at h1
    · rename_i hw
      unfold contD at h1
      split at h1
      · rename_i s2 dn2 h4
        rw [runOps_nil] at h1
        simp only [Option.some.injEq, Prod.mk.injEq] at h1
        obtain ⟨rfl, rfl⟩ := h1
        obtain ⟨v, hv⟩ := stepOp_inv hw h4
        exact ⟨o, _, _, v, rfl, hv, h3, h2⟩
      · cases h1
    · rename_i hw
      unfold contD at h1
      split at h1
      · rename_i s2 dn2 h4
        rw [runOps_nil] at h1
        simp only [Option.some.injEq, Prod.mk.injEq] at h1
        obtain ⟨rfl, rfl⟩ := h1
        obtain ⟨h5, h6⟩ := putD_inv h4
        exact ⟨o, _, _, _, rfl, .off hw h5 h6, h3, h2⟩
      · cases h1
    · cases h1
theorem St.tmp_withHp (s : St) (hp : Hp) (t : Nat) : (s.withHp hp).tmp t = s.tmp t := by cases s; rfl
theorem St.nt_withHp (s : St) (hp : Hp) : (s.withHp hp).nt = s.nt := by cases s; rfl
theorem St.put_tmp {s s' : St} {d : Option Tmp} {v : AV} (h : s.put d v = some s') (hf : s.nt < 1000000) (t : Nat) : s'.tmp t = if d = some t then v else s.tmp t := by
  cases d with
  | none => simp only [St.put] at h; injection h with h; subst h; simp
  | some d =>
    rw [St.tmp_put h hf]
    by_cases e : t = d
    · simp [e]
    · rw [if_neg e, if_neg (fun q => e (by injection q with q; exact q.symm))]
theorem OneR.tmp {s s1 : St} {dn dn1 : Done} {i : Nat} {o : Oper} {v : AV} (h : OneR E call ops anc s dn i o s1 dn1 v) (hf : s.nt < 1000000) :
    (∀ t, s1.tmp t = if o.dst = some t then v else s.tmp t) ∧ s1.nt = s.nt ∧ ∀ d, o.dst = some d → d < s.nt := by
  cases h with
  | off _ h _ => exact ⟨St.put_tmp h hf, (St.hp_put h).2⟩
  | pure _ _ _ h _ => exact ⟨St.put_tmp h hf, (St.hp_put h).2⟩
  | load _ _ _ _ h _ => exact ⟨St.put_tmp h hf, (St.hp_put h).2⟩
  | alloc _ _ _ h _ e _ => subst e; exact ⟨fun t => by rw [St.tmp_withHp]; exact St.put_tmp h hf t, by rw [St.nt_withHp]; exact (St.hp_put h).2.1, (St.hp_put h).2.2⟩
  | eff _ _ _ h e _ => subst e; exact ⟨fun t => by rw [St.tmp_withHp]; exact St.put_tmp h hf t, by rw [St.nt_withHp]; exact (St.hp_put h).2.1, (St.hp_put h).2.2⟩
end

/-! ### Temporaries by those who wrote them -/
def dstAt (ops : Array Oper) (j : Nat) : Option Tmp := (ops[j]?).bind (·.dst)
def updT (f : Nat → AV) (d : Option Tmp) (v : AV) : Nat → AV := fun t => if d = some t then v else f t
def wr (ops : Array Oper) (val : Nat → AV) (L : Nat → Bool) : List Nat → (Nat → AV) → Nat → AV
  | [], f => f
  | j :: l, f => wr ops val L l (if L j then updT f (dstAt ops j) (val j) else f)
section
variable {ops : Array Oper} {val : Nat → AV}
theorem wr_append {L : Nat → Bool} : ∀ (X Y : List Nat) (f : Nat → AV), wr ops val L (X ++ Y) f = wr ops val L Y (wr ops val L X f) := by
  intro X
  induction X with
  | nil => intro Y f; rfl
  | cons j X ih => intro Y f; simp only [List.cons_append, wr]; exact ih Y _
theorem wr_congr {L L' : Nat → Bool} {t : Nat} : ∀ (l : List Nat) {f f' : Nat → AV}, f t = f' t → (∀ j ∈ l, dstAt ops j = some t → L j = L' j) → wr ops val L l f t = wr ops val L' l f' t := by
  intro l
  induction l with
  | nil => intro f f' h _; exact h
  | cons j l ih =>
    intro f f' h hL
    simp only [wr]
    refine ih ?_ fun k hk => hL k (List.mem_cons_of_mem _ hk)
    by_cases e : dstAt ops j = some t
    · rw [← hL j List.mem_cons_self e]
      cases L j with
      | true => simp [updT, e]
      | false => simpa using h
    · have : ∀ (b : Bool) (g : Nat → AV), (if b = true then updT g (dstAt ops j) (val j) else g) t = g t := by
        intro b g; cases b <;> simp [updT, e]
      rw [this, this]; exact h
theorem wr_none : ∀ (l : List Nat) (f : Nat → AV), wr ops val (fun _ => false) l f = f := by
  intro l
  induction l with
  | nil => intro f; rfl
  | cons j l ih => intro f; simp only [wr]; exact ih f
theorem wr_skip {L : Nat → Bool} {t : Nat} (l : List Nat) (f : Nat → AV) (h : ∀ j ∈ l, dstAt ops j = some t → L j = false) : wr ops val L l f t = f t := by
  rw [wr_congr (L' := fun _ => false) l (f' := f) rfl h, wr_none]
end
theorem takeWhile_cut {X Y : List Nat} {j : Nat} (h : j ∉ X) : (X ++ j :: Y).takeWhile (fun x => x != j) = X := by
  induction X with
  | nil => simp
  | cons x X ih =>
    have hx : x ≠ j := fun e => h (by rw [e]; exact List.mem_cons_self)
    rw [List.cons_append, List.takeWhile_cons, if_pos (by simpa using hx), ih fun hm => h (List.mem_cons_of_mem _ hm)]

/-! ### The run -/
structure TR (E : Env) (call : CallT) (ops : Array Oper) (M : List Nat) (τ : List Nat) (s sF : St) (dnF : Done) : Prop where
  run : runOps E call ops (ancOf M) τ s [] = some (sF, dnF)
  nd : τ.Nodup
  cov : ∀ k, k < ops.size ↔ k ∈ τ
  ord : ∀ X i Y, τ = X ++ i :: Y → (∀ k, (ancOf M i).testBit k = true → k ∈ X) ∧ (effAt E.P ops i = true → ∀ k ∈ X, (ancOf M i).testBit k = true)
  nam : namesOk ops M = true
  few : s.nt < 1000000
  wf : HpWf s.hp
  hc : CallOk E.P E.glob call
noncomputable def valOf (E : Env) (call : CallT) (ops : Array Oper) (M : List Nat) (τ : List Nat) (s : St) (j : Nat) : AV :=
  match dstAt ops j, runOps E call ops (ancOf M) (τ.takeWhile (fun x => x != j) ++ [j]) s [] with
  | some d, some (s', _) => s'.tmp d
  | _, _ => undefA
section
variable {E : Env} {call : CallT} {ops : Array Oper} {M : List Nat} {τ : List Nat} {s sF : St} {dnF : Done}
theorem TR.at (h : TR E call ops M τ s sF dnF) {X Y : List Nat} (e : τ = X ++ Y) : ∃ sX dnX, runOps E call ops (ancOf M) X s [] = some (sX, dnX) ∧ runOps E call ops (ancOf M) Y sX dnX = some (sF, dnF) := by
  have := h.run
  rw [e] at this
  exact runOps_append X Y this
theorem TR.notin (h : TR E call ops M τ s sF dnF) {X Y : List Nat} {i : Nat} (e : τ = X ++ i :: Y) : i ∉ X ∧ i ∉ Y ∧ ∀ k ∈ X, k ∉ Y := by
  have := h.nd
  rw [e, List.nodup_append] at this
  obtain ⟨h1, h2, h3⟩ := this
  rw [List.nodup_cons] at h2
  exact ⟨fun hm => h3 i hm i List.mem_cons_self rfl, h2.1, fun k hk hY => h3 k hk k (List.mem_cons_of_mem _ hY) rfl⟩
theorem TR.split (h : TR E call ops M τ s sF dnF) {i : Nat} (hi : i ∈ τ) : ∃ X Y, τ = X ++ i :: Y := List.append_of_mem hi
theorem TR.seg (h : TR E call ops M τ s sF dnF) : ∀ (l X0 Y : List Nat) {s1 s2 : St} {dn1 dn2 : Done}, τ = X0 ++ (l ++ Y) → runOps E call ops (ancOf M) X0 s [] = some (s1, dn1) → s1.nt = s.nt → HpWf s1.hp →
    runOps E call ops (ancOf M) l s1 dn1 = some (s2, dn2) → s2.nt = s.nt ∧ HpWf s2.hp ∧ s1.hp.n ≤ s2.hp.n ∧ (∀ t, s2.tmp t = wr ops (valOf E call ops M τ s) (fun _ => true) l s1.tmp t) ∧
      ∃ ds, dn2 = ds ++ dn1 ∧ (∀ p ∈ ds, p.1 ∈ l ∧ effAt E.P ops p.1 = true) ∧ ∀ b, b < s1.hp.n → (∀ p ∈ ds, b ∉ p.2) → s2.hp.get b = s1.hp.get b := by
  intro l
  induction l with
  | nil =>
    intro X0 Y s1 s2 dn1 dn2 e h0 hnt hw hr
    rw [runOps_nil] at hr
    simp only [Option.some.injEq, Prod.mk.injEq] at hr
    obtain ⟨rfl, rfl⟩ := hr
    exact ⟨hnt, hw, Nat.le_refl _, fun _ => rfl, [], rfl, by simp, fun b _ _ => rfl⟩
  | cons i l ih =>
    intro X0 Y s1 s2 dn1 dn2 e h0 hnt hw hr
    have hrun := hr
    obtain ⟨o, s', dn', v, ho, h1, h2, h3⟩ := run_one hr
    have hfew : s1.nt < 1000000 := by rw [hnt]; exact h.few
    obtain ⟨t1, t2, t3⟩ := h1.tmp hfew
    have hi := (h.notin (by rw [e, List.cons_append])).1
    have hwx : HpWf s'.hp := by
      have := runOps_keep h.hc [i] hw h2
      exact this.2
    have hcx : runOps E call ops (ancOf M) (X0 ++ [i]) s [] = some (s', dn') := runOps_comp X0 [i] h0 h2
    obtain ⟨g1, g2, g3, g4, ds, g5, g6, g7⟩ := ih (X0 ++ [i]) Y (by rw [e]; simp) hcx (t2.trans hnt) hwx h3
    have hval : ∀ d, o.dst = some d → valOf E call ops M τ s i = v := by
      intro d hd
      unfold valOf
      have e1 : τ.takeWhile (fun x => x != i) = X0 := by rw [e]; exact takeWhile_cut hi
      have e2 : dstAt ops i = some d := by simp [dstAt, ho, hd]
      rw [e1, e2, hcx]
      simp only
      rw [t1 d, if_pos hd]
    have htm : ∀ t, s2.tmp t = wr ops (valOf E call ops M τ s) (fun _ => true) (i :: l) s1.tmp t := by
      intro t
      rw [g4 t]
      simp only [wr, if_true]
      refine wr_congr l ?_ fun _ _ _ => rfl
      rw [t1 t]
      have e2 : dstAt ops i = o.dst := by simp [dstAt, ho]
      simp only [updT, e2]
      by_cases ed : o.dst = some t
      · rw [if_pos ed, if_pos ed, hval t ed]
      · rw [if_neg ed, if_neg ed]
    have same : s'.hp = s1.hp → dn' = dn1 → s2.nt = s.nt ∧ HpWf s2.hp ∧ s1.hp.n ≤ s2.hp.n ∧ (∀ t, s2.tmp t = wr ops (valOf E call ops M τ s) (fun _ => true) (i :: l) s1.tmp t) ∧
      ∃ ds, dn2 = ds ++ dn1 ∧ (∀ p ∈ ds, p.1 ∈ i :: l ∧ effAt E.P ops p.1 = true) ∧ ∀ b, b < s1.hp.n → (∀ p ∈ ds, b ∉ p.2) → s2.hp.get b = s1.hp.get b := by
      intro e1 e2
      rw [e1] at g3 g7
      subst e2
      exact ⟨g1, g2, g3, htm, ds, g5, fun p hp => ⟨List.mem_cons_of_mem _ (g6 p hp).1, (g6 p hp).2⟩, g7⟩
    cases h1 with
    | off _ hp hd => exact same (St.hp_put hp).1 hd
    | pure _ _ _ hp hd => exact same (St.hp_put hp).1 hd
    | load _ _ _ _ hp hd => exact same (St.hp_put hp).1 hd
    | alloc _ _ _ hp hn hs1 hd =>
      subst hs1; subst hd
      rw [St.hp_withHp, Hp.n_new] at g3
      rw [St.hp_withHp] at g7
      refine ⟨g1, g2, by omega, htm, ds, g5, fun p hp => ⟨List.mem_cons_of_mem _ (g6 p hp).1, (g6 p hp).2⟩, fun b hb hf => ?_⟩
      rw [g7 b (by rw [Hp.n_new]; omega) hf, Hp.get_new _ _ _ hn, if_neg (by omega)]
    | @eff _ hp _ _ hcl hv hp' hs1 hd =>
      subst hs1; subst hd
      have hk := (opEff_keep h.hc (hw.wlSet []) hv).1
      have hkn := hk.n
      rw [Hp.n_wlSet] at hkn
      rw [St.hp_withHp, Hp.n_wlSet] at g3
      rw [St.hp_withHp] at g7
      refine ⟨g1, g2, Nat.le_trans hkn g3, htm, ds ++ [(i, hp.wl)], by rw [g5]; simp, fun p hp => ?_, fun b hb hf => ?_⟩
      · rw [List.mem_append, List.mem_singleton] at hp
        rcases hp with hp | hp
        · exact ⟨List.mem_cons_of_mem _ (g6 p hp).1, (g6 p hp).2⟩
        · subst hp
          refine ⟨List.mem_cons_self, ?_⟩
          simp [effAt, ho, hcl]
      · rw [g7 b (by rw [Hp.n_wlSet]; omega) (fun p hp => hf p (List.mem_append_left _ hp)), Hp.get_wlSet]
        have := hk.get b (by rw [Hp.n_wlSet]; exact hb) (hf (i, hp.wl) (by simp))
        rw [this, Hp.get_wlSet]
theorem TR.pre (h : TR E call ops M τ s sF dnF) {X Y : List Nat} (e : τ = X ++ Y) {sX : St} {dnX : Done} (hx : runOps E call ops (ancOf M) X s [] = some (sX, dnX)) :
    sX.nt = s.nt ∧ HpWf sX.hp ∧ s.hp.n ≤ sX.hp.n ∧ ∀ t, sX.tmp t = wr ops (valOf E call ops M τ s) (fun _ => true) X s.tmp t := by
  obtain ⟨h1, h2, h3, h4, _⟩ := h.seg X [] Y e rfl rfl h.wf hx
  exact ⟨h1, h2, h3, h4⟩
theorem TR.mid (h : TR E call ops M τ s sF dnF) {X l Y : List Nat} (e : τ = X ++ (l ++ Y)) {sX : St} {dnX : Done} (hx : runOps E call ops (ancOf M) X s [] = some (sX, dnX)) {sY : St} {dnY : Done} (hy : runOps E call ops (ancOf M) l sX dnX = some (sY, dnY)) :
    sX.hp.n ≤ sY.hp.n ∧ ∃ ds, dnY = ds ++ dnX ∧ (∀ p ∈ ds, p.1 ∈ l ∧ effAt E.P ops p.1 = true) ∧ ∀ b, b < sX.hp.n → (∀ p ∈ ds, b ∉ p.2) → sY.hp.get b = sX.hp.get b := by
  obtain ⟨p1, p2, p3, p4⟩ := h.pre e hx
  obtain ⟨h1, h2, h3, h4, h5⟩ := h.seg l X Y e hx p1 p2 hy
  exact ⟨h3, h5⟩

def Born (E : Env) (call : CallT) (ops : Array Oper) (M : List Nat) (τ : List Nat) (s : St) (i b : Nat) (cs : List AV) : Prop :=
  ∃ X Y sX dnX s1 dn1, τ = X ++ i :: Y ∧ runOps E call ops (ancOf M) X s [] = some (sX, dnX) ∧ runOps E call ops (ancOf M) (X ++ [i]) s [] = some (s1, dn1) ∧ b = sX.hp.n ∧ s1.hp = sX.hp.new cs ∧ sX.hp.n < 1000000000 ∧ dn1 = dnX
theorem split_unique {X Y X' Y' : List Nat} {i : Nat} (h : X ++ i :: Y = X' ++ i :: Y') (h1 : i ∉ X) (h2 : i ∉ X') : X = X' ∧ Y = Y' := by
  induction X generalizing X' with
  | nil =>
    cases X' with
    | nil => simp at h; exact ⟨rfl, h⟩
    | cons x X' => simp at h; exact absurd (by rw [h.1]; exact List.mem_cons_self) h2
  | cons x X ih =>
    cases X' with
    | nil => simp at h; exact absurd (by rw [← h.1]; exact List.mem_cons_self) h1
    | cons y X' =>
      simp at h
      obtain ⟨rfl, h⟩ := h
      obtain ⟨e1, e2⟩ := ih h (fun q => h1 (List.mem_cons_of_mem _ q)) (fun q => h2 (List.mem_cons_of_mem _ q))
      exact ⟨by rw [e1], e2⟩
theorem TR.births (h : TR E call ops M τ s sF dnF) : ∀ (l X0 Y : List Nat) {s1 s2 : St} {dn1 dn2 : Done}, τ = X0 ++ (l ++ Y) → runOps E call ops (ancOf M) X0 s [] = some (s1, dn1) →
    runOps E call ops (ancOf M) l s1 dn1 = some (s2, dn2) → (∀ j ∈ l, effAt E.P ops j = false) → ∀ b x, s1.hp.n ≤ b → s2.hp.get b = some x → ∃ j cs, j ∈ l ∧ Born E call ops M τ s j b cs ∧ x = ⟨cs, true⟩ := by
  intro l
  induction l with
  | nil =>
    intro X0 Y s1 s2 dn1 dn2 e h0 hr _ b x hb hx
    obtain ⟨_, hw, _⟩ := h.pre e h0
    rw [runOps_nil] at hr
    simp only [Option.some.injEq, Prod.mk.injEq] at hr
    obtain ⟨rfl, rfl⟩ := hr
    rw [hw.out b hb] at hx; cases hx
  | cons i l ih =>
    intro X0 Y s1 s2 dn1 dn2 e h0 hr hne b x hb hx
    obtain ⟨o, s', dn', v, ho, h1, h2, h3⟩ := run_one hr
    have hcx : runOps E call ops (ancOf M) (X0 ++ [i]) s [] = some (s', dn') := runOps_comp X0 [i] h0 h2
    have e' : τ = (X0 ++ [i]) ++ (l ++ Y) := by rw [e]; simp
    have rest : s'.hp.n ≤ b → ∃ j cs, j ∈ i :: l ∧ Born E call ops M τ s j b cs ∧ x = ⟨cs, true⟩ := fun hb => by
      obtain ⟨j, cs, q1, q2, q3⟩ := ih (X0 ++ [i]) Y e' hcx h3 (fun j hj => hne j (List.mem_cons_of_mem _ hj)) b x hb hx
      exact ⟨j, cs, List.mem_cons_of_mem _ q1, q2, q3⟩
    cases h1 with
    | off _ hp hd => exact rest (by rw [(St.hp_put hp).1]; exact hb)
    | pure _ _ _ hp hd => exact rest (by rw [(St.hp_put hp).1]; exact hb)
    | load _ _ _ _ hp hd => exact rest (by rw [(St.hp_put hp).1]; exact hb)
    | @alloc cs f t _ _ _ hp hn hs1 hd =>
      subst hd
      have hhp : s'.hp = s1.hp.new cs := by rw [hs1, St.hp_withHp]
      by_cases eb : b = s1.hp.n
      · obtain ⟨_, ds, q1, q2, q3⟩ := h.mid e' hcx h3
        have hds : ds = [] := by
          cases ds with
          | nil => rfl
          | cons p ds =>
            have := q2 p List.mem_cons_self
            rw [hne p.1 (List.mem_cons_of_mem _ this.1)] at this
            cases this.2
        subst hds
        have := q3 b (by rw [hhp, Hp.n_new]; omega) (by simp)
        rw [this, hhp, Hp.get_new _ _ _ hn, if_pos eb] at hx
        injection hx with hx
        exact ⟨i, cs, List.mem_cons_self, ⟨X0, l ++ Y, s1, dn', s', dn', by rw [e]; rfl, h0, hcx, eb, hhp, hn, rfl⟩, hx.symm⟩
      · exact rest (by rw [hhp, Hp.n_new]; omega)
    | eff _ hcl _ _ _ _ =>
      have := hne i List.mem_cons_self
      simp [effAt, ho, hcl] at this
end
end Go.Eng
end
section
set_option linter.unusedVariables false
set_option linter.unusedSimpArgs false
namespace Go.Eng
open Go Go.RowKit
section
variable {E : Env} {ds : List Deferred} {call : CallT} {ops : Array Oper} {M : List Nat} {τ : List Nat} {s sF : St} {dnF : Done}
theorem dstAt_of {j : Nat} {o : Oper} (h : ops[j]? = some o) : dstAt ops j = o.dst := by simp [dstAt, h]
theorem dstAt_inv {j : Nat} {t : Tmp} (h : dstAt ops j = some t) : ∃ o, ops[j]? = some o ∧ o.dst = some t := by
  unfold dstAt at h
  cases ho : ops[j]? with
  | none => simp [ho] at h
  | some o => simp [ho] at h; exact ⟨o, rfl, h⟩
theorem TR.val (h : TR E call ops M τ s sF dnF) {X Y : List Nat} {i : Nat} (e : τ = X ++ i :: Y) {sX s1 : St} {dnX dn1 : Done} (hx : runOps E call ops (ancOf M) X s [] = some (sX, dnX)) (h1 : runOps E call ops (ancOf M) [i] sX dnX = some (s1, dn1))
    {o : Oper} (ho : ops[i]? = some o) {v : AV} (hr : OneR E call ops (ancOf M) sX dnX i o s1 dn1 v) {d : Tmp} (hd : o.dst = some d) : valOf E call ops M τ s i = v := by
  obtain ⟨q1, _⟩ := h.pre e hx
  obtain ⟨t1, _⟩ := hr.tmp (by rw [q1]; exact h.few)
  unfold valOf
  have e1 : τ.takeWhile (fun x => x != i) = X := by rw [e]; exact takeWhile_cut (h.notin e).1
  rw [e1, dstAt_of ho, hd, runOps_comp X [i] hx h1]
  simp only
  rw [t1 d, if_pos hd]
theorem TR.wr_at (h : TR E call ops M τ s sF dnF) {X Y : List Nat} {i : Nat} (e : τ = X ++ i :: Y) {sX : St} {dnX : Done} (hx : runOps E call ops (ancOf M) X s [] = some (sX, dnX)) {o : Oper} (ho : ops[i]? = some o)
    {L : Nat → Bool} (hcl : ∀ j, L j = true → ∀ k, (ancOf M j).testBit k = true → L k = true) (hi : L i = false) (ha : ∀ k, (ancOf M i).testBit k = true → L k = true) {t : Tmp} (ht : t ∈ o.looksAt ops) :
    wr ops (valOf E call ops M τ s) L τ s.tmp t = sX.tmp t := by
  obtain ⟨_, _, _, q4⟩ := h.pre e hx
  obtain ⟨n1, n2, n3⟩ := h.notin e
  rw [q4 t]
  have e2 : wr ops (valOf E call ops M τ s) L τ s.tmp t = wr ops (valOf E call ops M τ s) L (X ++ i :: Y) s.tmp t := by rw [← e]
  rw [e2, wr_append, wr_skip (i :: Y)]
  · refine wr_congr X rfl fun j hj hd => ?_
    obtain ⟨q, hq, hqd⟩ := dstAt_inv hd
    rcases names_spec h.nam hq ho hqd (.inl ht) with h1 | h1 | h1
    · subst h1; exact absurd hj n1
    · exfalso
      obtain ⟨X1, X2, hX⟩ := List.append_of_mem hj
      have := (h.ord X1 j (X2 ++ i :: Y) (by rw [e, hX]; simp)).1 i h1
      exact n1 (by rw [hX]; exact List.mem_append_left _ this)
    · exact ha j h1
  · intro j hj hd
    rcases List.mem_cons.1 hj with hj | hj
    · rw [hj]; exact hi
    · obtain ⟨q, hq, hqd⟩ := dstAt_inv hd
      rcases names_spec h.nam hq ho hqd (.inl ht) with h1 | h1 | h1
      · subst h1; exact hi
      · cases hL : L j with
        | false => rfl
        | true => have := hcl j hL i h1; rw [hi] at this; cases this
      · have := (h.ord X i Y e).1 j h1
        exact absurd hj (n3 j this)
theorem TR.wr_put (h : TR E call ops M τ s sF dnF) {X Y : List Nat} {i : Nat} (e : τ = X ++ i :: Y) {o : Oper} (ho : ops[i]? = some o)
    {L : Nat → Bool} (hcl : ∀ j, L j = true → ∀ k, (ancOf M j).testBit k = true → L k = true) (hi : L i = false) (t : Tmp) :
    wr ops (valOf E call ops M τ s) (fun j => j == i || L j) τ s.tmp t = if o.dst = some t then valOf E call ops M τ s i else wr ops (valOf E call ops M τ s) L τ s.tmp t := by
  obtain ⟨n1, n2, n3⟩ := h.notin e
  by_cases hd : o.dst = some t
  · rw [if_pos hd]
    have e2 : wr ops (valOf E call ops M τ s) (fun j => j == i || L j) τ s.tmp t = wr ops (valOf E call ops M τ s) (fun j => j == i || L j) (X ++ i :: Y) s.tmp t := by rw [← e]
    rw [e2, wr_append, wr]
    rw [wr_skip Y]
    · simp [updT, dstAt_of ho, hd]
    · intro j hj hjd
      obtain ⟨q, hq, hqd⟩ := dstAt_inv hjd
      have hne : j ≠ i := fun e => by subst e; exact n2 hj
      have : L j = false := by
        rcases names_spec h.nam ho hq hd (.inr hqd) with h1 | h1 | h1
        · exact absurd h1 hne
        · have := (h.ord X i Y e).1 j h1
          exact absurd hj (n3 j this)
        · cases hL : L j with
          | false => rfl
          | true => have := hcl j hL i h1; rw [hi] at this; cases this
      simp [this, hne]
  · rw [if_neg hd]
    refine wr_congr τ rfl fun j _ hjd => ?_
    have hne : j ≠ i := fun e => by subst e; rw [dstAt_of ho] at hjd; exact hd hjd
    simp [hne]
theorem TR.born_lt (h : TR E call ops M τ s sF dnF) {X Y : List Nat} (e : τ = X ++ Y) {sX : St} {dnX : Done} (hx : runOps E call ops (ancOf M) X s [] = some (sX, dnX)) {j b : Nat} {cs : List AV} (hb : Born E call ops M τ s j b cs) (hj : j ∈ X) : b < sX.hp.n := by
  obtain ⟨U, V, sU, dnU, s1, dn1, e1, hU, h1, rfl, hn, _, _⟩ := hb
  obtain ⟨X1, X2, rfl⟩ := List.append_of_mem hj
  rw [List.append_assoc, List.cons_append] at e
  have := (split_unique (e1.symm.trans e) (h.notin e1).1 (h.notin e).1).1
  subst this
  have e3 : U ++ j :: X2 = (U ++ [j]) ++ X2 := by simp
  rw [e3] at hx
  obtain ⟨s2, dn2, h2, h3⟩ := runOps_append (U ++ [j]) X2 hx
  rw [h1] at h2
  simp only [Option.some.injEq, Prod.mk.injEq] at h2
  obtain ⟨rfl, rfl⟩ := h2
  have := (h.mid (Y := Y) (by rw [e]; simp) h1 h3).1
  rw [hn, Hp.n_new] at this
  omega
theorem TR.born_ge (h : TR E call ops M τ s sF dnF) {X Y : List Nat} (e : τ = X ++ Y) {sX : St} {dnX : Done} (hx : runOps E call ops (ancOf M) X s [] = some (sX, dnX)) {j b : Nat} {cs : List AV} (hb : Born E call ops M τ s j b cs) (hj : j ∈ Y) : sX.hp.n ≤ b := by
  obtain ⟨U, V, sU, dnU, s1, dn1, e1, hU, h1, rfl, hn, _, _⟩ := hb
  obtain ⟨Y1, Y2, rfl⟩ := List.append_of_mem hj
  rw [← List.append_assoc] at e
  have := (split_unique (e1.symm.trans e) (h.notin e1).1 (h.notin e).1).1
  subst this
  obtain ⟨s2, dn2, h2, h3⟩ := runOps_append X Y1 hU
  rw [hx] at h2
  simp only [Option.some.injEq, Prod.mk.injEq] at h2
  obtain ⟨rfl, rfl⟩ := h2
  exact (h.mid (Y := j :: Y2) (by rw [e]; simp) hx h3).1

structure Inv (E : Env) (ds : List Deferred) (call : CallT) (ops : Array Oper) (M : List Nat) (τ : List Nat) (s sF : St) (B : Nat) (ρ0 : Rho) (w0 : World) (L : Nat → Bool) (T R : List Nat) (sT : St) (dnT : Done) (ρ : Rho) (w : World) (a : Act) : Prop where
  cut : τ = T ++ R
  pt : runOps E call ops (ancOf M) T s [] = some (sT, dnT)
  inL : ∀ j ∈ T, L j = true
  eff : ∀ j, L j = true → effAt E.P ops j = true → j ∈ T
  cl : ∀ j, L j = true → ∀ k, (ancOf M j).testBit k = true → L k = true
  tm : ∀ t, VR ρ B w (wr ops (valOf E call ops M τ s) L τ s.tmp t) (a.tmps.getD t undef)
  nt : a.tmps.size = s.nt
  df : a.defers = ds
  gl : GlobR E.glob ρ B w
  hB : B ≤ w.heap.size
  sim : Sim ρ B w sT.hp
  pend : ∀ j b cs, j ∈ R → L j = true → Born E call ops M τ s j b cs → ∃ l, ρ b = some l ∧ CellsAt ρ B w l cs ∧ ∀ b' l', ρ b' = some l' → l'.c = l.c → b' = b
  dom : ∀ b, sT.hp.n ≤ b → b < sF.hp.n → ρ b ≠ none → ∃ j cs, j ∈ R ∧ L j = true ∧ Born E call ops M τ s j b cs
  step : Step s.hp.n ρ0 w0 ρ w
  rin : RhoIn ρ0 ρ s.hp.n sF.hp.n
variable {B : Nat} {ρ0 ρ : Rho} {w0 w : World} {a : Act} {L : Nat → Bool} {T R : List Nat} {sT : St} {dnT : Done}
theorem Inv.noEff (h : TR E call ops M τ s sF dnF) (I : Inv E ds call ops M τ s sF B ρ0 w0 L T R sT dnT ρ w a) {j : Nat} (hj : j ∈ R) (hL : L j = true) : effAt E.P ops j = false := by
  cases he : effAt E.P ops j with
  | false => rfl
  | true =>
    have hT := I.eff j hL he
    have := h.nd
    rw [I.cut, List.nodup_append] at this
    exact absurd rfl (this.2.2 j hT j hj)
theorem Inv.simAt (h : TR E call ops M τ s sF dnF) (I : Inv E ds call ops M τ s sF B ρ0 w0 L T R sT dnT ρ w a) {R1 R2 : List Nat} (e : R = R1 ++ R2) (hL : ∀ j ∈ R1, L j = true) {sX : St} {dnX : Done} (hx : runOps E call ops (ancOf M) (T ++ R1) s [] = some (sX, dnX)) : Sim ρ B w sX.hp := by
  have e1 : τ = T ++ (R1 ++ R2) := by rw [I.cut, e]
  have e2 : τ = (T ++ R1) ++ R2 := by rw [e1]; simp
  obtain ⟨s2, dn2, h2, h3⟩ := runOps_append T R1 hx
  rw [I.pt] at h2
  simp only [Option.some.injEq, Prod.mk.injEq] at h2
  obtain ⟨rfl, rfl⟩ := h2
  have hne : ∀ j ∈ R1, effAt E.P ops j = false := fun j hj => I.noEff h (by rw [e]; exact List.mem_append_left _ hj) (hL j hj)
  obtain ⟨m1, ds, m2, m3, m4⟩ := h.mid e1 I.pt h3
  have hds : ∀ p ∈ ds, False := fun p hp => by
    have := m3 p hp
    rw [hne p.1 this.1] at this
    cases this.2
  have old : ∀ b, b < sT.hp.n → sX.hp.get b = sT.hp.get b := fun b hb => m4 b hb fun p hp => (hds p hp).elim
  have new : ∀ b cs, ¬ b < sT.hp.n → sX.hp.get b = some ⟨cs, true⟩ → ∃ l, ρ b = some l ∧ CellsAt ρ B w l cs ∧ ∀ b' l', ρ b' = some l' → l'.c = l.c → b' = b := fun b cs hb hx => by
    obtain ⟨j, cs', q1, q2, q3⟩ := h.births R1 T R2 e1 I.pt h3 hne b _ (by omega) hx
    injection q3 with q3; subst q3
    exact I.pend j b cs (by rw [e]; exact List.mem_append_left _ q1) (hL j q1) q2
  obtain ⟨_, wf, _⟩ := h.pre e2 hx
  refine ⟨fun b cs hb => ?_, fun b b' cs cs' l l' hb hb' hl hl' hll => ?_, I.sim.new, wf.out, wf.low⟩
  · by_cases hlt : b < sT.hp.n
    · rw [old b hlt] at hb; exact I.sim.blk b cs hb
    · obtain ⟨l, q1, q2, _⟩ := new b cs hlt hb
      exact ⟨l, q1, q2⟩
  · by_cases hlt : b < sT.hp.n
    · by_cases hlt' : b' < sT.hp.n
      · rw [old b hlt] at hb; rw [old b' hlt'] at hb'
        exact I.sim.inj b b' cs cs' l l' hb hb' hl hl' hll
      · obtain ⟨k, q1, q2, q3⟩ := new b' cs' hlt' hb'
        rw [hl'] at q1; injection q1 with q1; subst q1
        exact q3 b l hl hll
    · obtain ⟨k, q1, q2, q3⟩ := new b cs hlt hb
      rw [hl] at q1; injection q1 with q1; subst q1
      exact (q3 b' l' hl' hll.symm).symm

theorem wanted_tm {o : Oper} {sX : St} {b : Bool} (hw : wantedA ops sX o = some b) (hn : a.tmps.size = sX.nt) (ht : ∀ t ∈ o.looksAt ops, VR ρ B w (sX.tmp t) (a.tmps.getD t undef)) : Region.wanted o (yielded ops a.tmps) = b := by
  unfold wantedA at hw
  unfold Region.wanted
  split at hw
  · rename_i hg
    injection hw with hw
    rw [hg]; exact hw
  · rename_i j want hg
    rw [hg]
    simp only
    unfold wantedG at hw
    split at hw
    · rename_i d hd
      split at hw
      · rename_i hlt
        have hr := ht d (List.mem_append_right _ (by simp [hg, hd]))
        have hsz : d < a.tmps.size := by rw [hn]; exact hlt
        have hge : a.tmps[d]? = some (a.tmps.getD d undef) := by simp [hsz]
        split at hw
        · rename_i c hc
          injection hw with hw
          rw [hc] at hr
          have := hr.sc_inv
          rw [this] at hge
          simp only [yielded, hd, Option.bind_some, hge]
          rw [← hw]
          cases c <;> cases want <;> rfl
        · rename_i hc
          injection hw with hw
          rw [hc] at hr
          obtain ⟨vs, e, hvs⟩ := hr.tup_inv
          rw [e] at hge
          simp only [yielded, hd, Option.bind_some, hge]
          rw [← hw]
          rfl
        · cases hw
      · cases hw
    · cases hw
open Classical in
noncomputable def cutEv (E : Env) (sX : St) (o : Op) : Operand → Option AV := fun x => if x ∈ o.operands then evalA E sX x else none
theorem cutEv_eq {sX : St} {o : Op} : ∀ x ∈ o.operands, evalA E sX x = cutEv E sX o x := fun x hx => by simp [cutEv, hx]
theorem cutEv_ok {sX : St} {o : Oper} (hg : GlobR E.glob ρ B w) (ht : ∀ t ∈ o.looksAt ops, VR ρ B w (sX.tmp t) (a.tmps.getD t undef)) : EvR ρ B w (cutEv E sX o.op) a.eval := by
  intro x u hx
  unfold cutEv at hx
  split at hx
  · rename_i hm
    cases x with
    | tmp t =>
      simp only [evalA] at hx; injection hx with hx; subst hx
      exact ht t (List.mem_append_left _ (List.mem_filterMap.2 ⟨.tmp t, by simpa using hm, rfl⟩))
    | const v => simp only [evalA] at hx; injection hx with hx; subst hx; exact VR.ofVal v
    | global g =>
      simp only [evalA] at hx
      split at hx
      · injection hx with hx; subst hx; exact hg.1 g _ (by assumption)
      · cases hx
    | func f => simp only [evalA] at hx; injection hx with hx; subst hx; exact .fn rfl rfl (fun i x y hx => by simp at hx) (fun i x y hx => by simp at hx)
  · cases hx
theorem Hp.get_empty (b : Nat) : Hp.empty.get b = none := by
  show Tr.get Tr.lf b = none
  cases b <;> rfl
theorem Sim.ofEmpty (hn : ∀ b l, ρ b = some l → B ≤ l.c ∧ l.c < w.heap.size) : Sim ρ B w Hp.empty :=
  ⟨fun b cs h => (by rw [Hp.get_empty] at h; cases h), fun b b' cs cs' l l' h => (by rw [Hp.get_empty] at h; cases h), hn, fun b _ => Hp.get_empty b, by decide⟩
noncomputable def Hp.one (b : Nat) (x : Blk) : Hp := (⟨b + 1, .lf, []⟩ : Hp).set b x
theorem Hp.get_one {b : Nat} {x : Blk} (hb : b < 1000000000) (j : Nat) : (Hp.one b x).get j = if j = b then some x else none := by
  unfold Hp.one
  rw [Hp.get_set _ _ _ _ hb]
  by_cases e : j = b
  · rw [if_pos e, if_pos e]
  · rw [if_neg e, if_neg e]; exact Hp.get_empty j
theorem Hp.n_one (b : Nat) (x : Blk) : (Hp.one b x).n = b + 1 := by unfold Hp.one; rw [Hp.n_set]
theorem Sim.ofOne (hn : ∀ b l, ρ b = some l → B ≤ l.c ∧ l.c < w.heap.size) {b : Nat} {x : Blk} (hb : b < 1000000000) (h : ∀ cs, x = ⟨cs, true⟩ → ∃ l, ρ b = some l ∧ CellsAt ρ B w l cs) : Sim ρ B w (Hp.one b x) := by
  refine ⟨fun b' cs hx => ?_, fun b1 b2 cs cs' l l' h1 h2 _ _ _ => ?_, hn, fun b' hb' => ?_, by rw [Hp.n_one]; omega⟩
  · rw [Hp.get_one hb] at hx
    split at hx
    · rename_i e; subst e; injection hx with hx; exact h cs hx
    · cases hx
  · rw [Hp.get_one hb] at h1 h2
    split at h1
    · split at h2
      · omega
      · cases h2
    · cases h1
  · rw [Hp.n_one] at hb'
    rw [Hp.get_one hb, if_neg (by omega)]

variable {ρ' : Rho} {w' : World}
theorem Inv.tms (h : TR E call ops M τ s sF dnF) (I : Inv E ds call ops M τ s sF B ρ0 w0 L T R sT dnT ρ w a) {X Y : List Nat} {i : Nat} (e : τ = X ++ i :: Y) (hi : L i = false)
    {sX s1 : St} {dnX dn1 : Done} (hx : runOps E call ops (ancOf M) X s [] = some (sX, dnX)) (h1 : runOps E call ops (ancOf M) [i] sX dnX = some (s1, dn1))
    {o : Oper} (ho : ops[i]? = some o) {v : AV} (hr : OneR E call ops (ancOf M) sX dnX i o s1 dn1 v) {n : Nat} (st : Step n ρ w ρ' w') {y : Value} (hv : VR ρ' B w' v y) :
    (∀ t, VR ρ' B w' (wr ops (valOf E call ops M τ s) (fun j => j == i || L j) τ s.tmp t) ((a.put o.dst y).tmps.getD t undef)) ∧ (a.put o.dst y).tmps.size = s.nt ∧ (a.put o.dst y).defers = ds := by
  obtain ⟨q1, _⟩ := h.pre e hx
  obtain ⟨_, _, t3⟩ := hr.tmp (by rw [q1]; exact h.few)
  have hval := fun d hd => h.val e hx h1 ho hr (d := d) hd
  have hw := h.wr_put e ho I.cl hi
  refine ⟨fun t => ?_, ?_, ?_⟩
  · rw [hw t]
    cases hd : o.dst with
    | none => rw [if_neg (by simp)]; exact (I.tm t).step st
    | some d =>
      have hlt : d < a.tmps.size := by rw [I.nt, ← q1]; exact t3 d hd
      simp only [Act.put]
      by_cases ed : d = t
      · subst ed
        rw [if_pos rfl, hval d hd]
        simpa [hlt] using hv
      · rw [if_neg (fun q => ed (by injection q))]
        have := (I.tm t).step st
        simpa [Array.getElem?_setIfInBounds_ne ed] using this
  · cases hd : o.dst with
    | none => exact I.nt
    | some d => simp [Act.put, I.nt]
  · cases hd : o.dst with
    | none => exact I.df
    | some d => exact I.df
theorem cl_next {i : Nat} (hcl : ∀ j, L j = true → ∀ k, (ancOf M j).testBit k = true → L k = true) (ha : ∀ k, (ancOf M i).testBit k = true → L k = true) :
    ∀ j, (j == i || L j) = true → ∀ k, (ancOf M j).testBit k = true → (k == i || L k) = true := by
  intro j hj k hk
  rw [Bool.or_eq_true, beq_iff_eq] at hj
  rw [Bool.or_eq_true]
  right
  rcases hj with hj | hj
  · subst hj; exact ha k hk
  · exact hcl j hj k hk
theorem or_inv {i j : Nat} (h : (j == i || L j) = true) : j = i ∨ L j = true := by simpa using h
theorem or_old {i j : Nat} (h : L j = true) : (j == i || L j) = true := by simp [h]
end
end Go.Eng
end
section
set_option linter.unusedVariables false
set_option linter.unusedSimpArgs false
namespace Go.Eng
open Go Go.RowKit
section
variable {E : Env} {ds : List Deferred} {call : CallT} {ops : Array Oper} {M : List Nat} {τ : List Nat} {s sF : St} {dnF : Done}
variable {B : Nat} {ρ0 ρ ρ' : Rho} {w0 w w' : World} {a : Act} {L : Nat → Bool} {T R : List Nat} {sT : St} {dnT : Done}
theorem notBorn {X Y : List Nat} {i : Nat} (h : TR E call ops M τ s sF dnF) (e : τ = X ++ i :: Y) {sX s1 : St} {dnX dn1 : Done} (hx : runOps E call ops (ancOf M) X s [] = some (sX, dnX)) (h1 : runOps E call ops (ancOf M) [i] sX dnX = some (s1, dn1))
    {b : Nat} {cs : List AV} (hb : Born E call ops M τ s i b cs) : b = sX.hp.n ∧ s1.hp = sX.hp.new cs ∧ sX.hp.n < 1000000000 := by
  obtain ⟨U, V, sU, dnU, s2, dn2, e1, hU, h2, rfl, hn, hlt, _⟩ := hb
  have := (split_unique (e1.symm.trans e) (h.notin e1).1 (h.notin e).1).1
  subst this
  rw [hx] at hU
  simp only [Option.some.injEq, Prod.mk.injEq] at hU
  obtain ⟨rfl, rfl⟩ := hU
  rw [runOps_comp U [i] hx h1] at h2
  simp only [Option.some.injEq, Prod.mk.injEq] at h2
  obtain ⟨rfl, rfl⟩ := h2
  exact ⟨rfl, hn, hlt⟩
theorem Inv.quiet (h : TR E call ops M τ s sF dnF) (I : Inv E ds call ops M τ s sF B ρ0 w0 L T R sT dnT ρ w a) {X Y : List Nat} {i : Nat} (e : τ = X ++ i :: Y) (hi : L i = false) (ha : ∀ k, (ancOf M i).testBit k = true → L k = true)
    {sX s1 : St} {dnX dn1 : Done} (hx : runOps E call ops (ancOf M) X s [] = some (sX, dnX)) (h1 : runOps E call ops (ancOf M) [i] sX dnX = some (s1, dn1))
    {o : Oper} (ho : ops[i]? = some o) {v : AV} (hr : OneR E call ops (ancOf M) sX dnX i o s1 dn1 v) (hne : effAt E.P ops i = false) (hs : s1.hp = sX.hp) {y : Value} (hv : VR ρ B w v y) :
    Inv E ds call ops M τ s sF B ρ0 w0 (fun j => j == i || L j) T R sT dnT ρ w (a.put o.dst y) := by
  obtain ⟨t1, t2, t3⟩ := I.tms h e hi hx h1 ho hr (Step.refl 0 ρ w) hv
  have nb : ∀ b cs, ¬ Born E call ops M τ s i b cs := fun b cs hb => by
    obtain ⟨_, q, _⟩ := notBorn h e hx h1 hb
    rw [hs] at q
    have := congrArg Hp.n q
    rw [Hp.n_new] at this
    omega
  refine ⟨I.cut, I.pt, fun j hj => or_old (I.inL j hj), fun j hj he => ?_, cl_next I.cl ha, t1, t2, t3, I.gl, I.hB, I.sim, fun j b cs hj hL hb => ?_, fun b h1 h2 h3 => ?_, I.step, I.rin⟩
  · rcases or_inv hj with hj | hj
    · subst hj; rw [hne] at he; cases he
    · exact I.eff j hj he
  · rcases or_inv hL with hL | hL
    · subst hL; exact absurd hb (nb _ _)
    · exact I.pend j b cs hj hL hb
  · obtain ⟨j, cs, q1, q2, q3⟩ := I.dom b h1 h2 h3
    exact ⟨j, cs, q1, or_old q2, q3⟩
theorem Inv.mem (h : TR E call ops M τ s sF dnF) (I : Inv E ds call ops M τ s sF B ρ0 w0 L T R sT dnT ρ w a) {i : Nat} (hm : i ∈ τ) (hi : L i = false) : ∃ R1 R2, R = R1 ++ i :: R2 ∧ τ = (T ++ R1) ++ i :: R2 := by
  have hR : i ∈ R := by
    rw [I.cut, List.mem_append] at hm
    rcases hm with q | q
    · rw [I.inL i q] at hi; cases hi
    · exact q
  obtain ⟨R1, R2, e⟩ := List.append_of_mem hR
  exact ⟨R1, R2, e, by rw [I.cut, e]; simp⟩
theorem Inv.readAt (h : TR E call ops M τ s sF dnF) (I : Inv E ds call ops M τ s sF B ρ0 w0 L T R sT dnT ρ w a) {R1 R2 : List Nat} {i : Nat} (e : R = R1 ++ i :: R2) (hi : L i = false) (ha : ∀ k, (ancOf M i).testBit k = true → L k = true)
    {sX : St} {dnX : Done} (hx : runOps E call ops (ancOf M) (T ++ R1) s [] = some (sX, dnX)) (r : Option Nat) (hf : fresh1 (ancOf M) i r dnX = true) (hn : ∀ b, r = some b → ∃ l, ρ b = some l) :
    ∃ hp, Sim ρ B w hp ∧ ∀ b, r = some b → sX.hp.get b = hp.get b := by
  have e1 : τ = T ++ (R1 ++ (i :: R2)) := by rw [I.cut, e]
  have e2 : τ = (T ++ R1) ++ (i :: R2) := by rw [e1]; simp
  obtain ⟨_, wf, _⟩ := h.pre e2 hx
  cases r with
  | none => exact ⟨Hp.empty, Sim.ofEmpty I.sim.new, fun b hb => by cases hb⟩
  | some b =>
    cases hg : sX.hp.get b with
    | none => exact ⟨Hp.empty, Sim.ofEmpty I.sim.new, fun b' hb => by injection hb with hb; subst hb; rw [hg, Hp.get_empty]⟩
    | some x =>
      have hlt := wf.lt hg
      have hb30 : b < 1000000000 := by have := wf.low; omega
      refine ⟨Hp.one b x, Sim.ofOne I.sim.new hb30 fun cs hc => ?_, fun b' hb => by injection hb with hb; subst hb; rw [hg, Hp.get_one hb30, if_pos rfl]⟩
      subst hc
      -- effects between are no ancestors
      have effs : ∀ p ∈ dnX, p.1 ∈ R1 → effAt E.P ops p.1 = true → b ∉ p.2 := by
        intro p hp hR he
        simp only [fresh1, List.all_eq_true] at hf
        have := hf p hp
        simp only [Bool.or_eq_true, Bool.not_eq_true'] at this
        rcases this with q | q
        · have hL := ha _ q
          have hne := I.noEff h (by rw [e]; exact List.mem_append_left _ hR) hL
          rw [he] at hne; cases hne
        · simpa using q
      by_cases hT : b < sT.hp.n
      · obtain ⟨s2, dn2, h2, h3⟩ := runOps_append T R1 hx
        rw [I.pt] at h2
        simp only [Option.some.injEq, Prod.mk.injEq] at h2
        obtain ⟨rfl, rfl⟩ := h2
        obtain ⟨_, ds, m2, m3, m4⟩ := h.mid e1 I.pt h3
        have := m4 b hT fun p hp => effs p (by rw [m2]; exact List.mem_append_left _ hp) (m3 p hp).1 (m3 p hp).2
        rw [hg] at this
        exact I.sim.blk b cs this.symm
      · obtain ⟨l0, hl0⟩ := hn b rfl
        have hF : b < sF.hp.n := by
          have := (h.mid (l := i :: R2) (Y := []) (by rw [e2]; simp) hx (by
            obtain ⟨s3, dn3, h3, h4⟩ := h.at e2
            rw [hx] at h3
            simp only [Option.some.injEq, Prod.mk.injEq] at h3
            obtain ⟨rfl, rfl⟩ := h3
            exact h4)).1
          omega
        obtain ⟨j, cs', j1, j2, j3⟩ := I.dom b (by omega) hF (by rw [hl0]; simp)
        obtain ⟨l, p1, p2, p3⟩ := I.pend j b cs' j1 j2 j3
        have hj : j ∈ R1 := by
          rw [e, List.mem_append] at j1
          rcases j1 with q | q
          · exact q
          · have := h.born_ge e2 hx j3 q
            omega
        obtain ⟨V1, V2, rfl⟩ := List.append_of_mem hj
        have j3' := j3
        obtain ⟨U, V, sU, dnU, s1, dn1, u1, u2, u3, u4, u5, u6, u7⟩ := j3
        have e3 : τ = (T ++ V1) ++ j :: (V2 ++ i :: R2) := by rw [e1]; simp
        have := (split_unique (u1.symm.trans e3) (h.notin u1).1 (h.notin e3).1).1
        subst this
        have e4 : T ++ (V1 ++ j :: V2) = ((T ++ V1) ++ [j]) ++ V2 := by simp
        rw [e4] at hx
        obtain ⟨s3, dn3, h3, h4⟩ := runOps_append _ V2 hx
        rw [u3] at h3
        simp only [Option.some.injEq, Prod.mk.injEq] at h3
        obtain ⟨rfl, rfl⟩ := h3
        obtain ⟨_, ds, m2, m3, m4⟩ := h.mid (Y := i :: R2) (by rw [e3]; simp) u3 h4
        have := m4 b (by rw [u5, Hp.n_new]; omega) fun p hp => effs p (by rw [m2]; exact List.mem_append_left _ hp) (by
          have := (m3 p hp).1
          exact List.mem_append_right _ (List.mem_cons_of_mem _ this)) (m3 p hp).2
        rw [hg, u5, Hp.get_new _ _ _ u6, if_pos u4] at this
        injection this with this
        injection this with this
        subst this
        exact ⟨l, p1, p2⟩
theorem Inv.stay (h : TR E call ops M τ s sF dnF) (I : Inv E ds call ops M τ s sF B ρ0 w0 L T R sT dnT ρ w a) {i : Nat} (hm : i ∈ τ) (hi : L i = false) (ha : ∀ k, (ancOf M i).testBit k = true → L k = true) (hne : effAt E.P ops i = false)
    {Q : Exit → Act → World → Prop} {K : Act → World → Prop} (hK : ∀ ρ' w' a', Inv E ds call ops M τ s sF B ρ0 w0 (fun j => j == i || L j) T R sT dnT ρ' w' a' → K a' w') : wpOp E.P ops Q i K a w := by
  obtain ⟨R1, R2, eR, e⟩ := I.mem h hm hi
  obtain ⟨sX, dnX, hx, hrest⟩ := h.at e
  obtain ⟨o, s1, dn1, v, ho, hr, h1, hafter⟩ := run_one hrest
  obtain ⟨q1, wf, q3, _⟩ := h.pre e hx
  have ht : ∀ t ∈ o.looksAt ops, VR ρ B w (sX.tmp t) (a.tmps.getD t undef) := fun t htt => by
    have := I.tm t
    rw [h.wr_at e hx ho I.cl hi ha htt] at this
    exact this
  have hnt : a.tmps.size = sX.nt := by rw [I.nt, q1]
  have hev := cutEv_ok (w := w) (a := a) I.gl ht
  unfold wpOp
  rw [ho]
  simp only
  have hr0 := hr
  cases hr with
  | off hw hp hd =>
    rw [wanted_tm hw hnt ht, if_neg (by simp)]
    exact hK _ _ _ (I.quiet h e hi ha hx h1 ho hr0 hne (St.hp_put hp).1 VR.undef)
  | pure hw hc hv hp hd =>
    rw [wanted_tm hw hnt ht, if_pos rfl]
    rw [opPure_congr cutEv_eq] at hv
    obtain ⟨y, hrun, hvy⟩ := opPure_ok (w := w) hv hev
    refine .inl ?_
    unfold Oper.wp
    rw [hrun, Oper.upon_value]
    exact hK _ _ _ (I.quiet h e hi ha hx h1 ho hr0 hne (St.hp_put hp).1 hvy)
  | @load _ r hw hc hv hfr hp hd =>
    rw [wanted_tm hw hnt ht, if_pos rfl]
    rw [opLoad_ev cutEv_eq] at hv
    obtain ⟨hp', hsim, hcg⟩ := I.readAt h eR hi ha hx r hfr (fun b hb => by subst hb; exact opLoad_named hv hev)
    obtain ⟨y, hrun, hvy⟩ := opLoad_ok (w := w) (opLoad_congr hv hcg) hsim hev
    refine .inl ?_
    unfold Oper.wp
    rw [hrun, Oper.upon_value]
    exact hK _ _ _ (I.quiet h e hi ha hx h1 ho hr0 hne (St.hp_put hp).1 hvy)
  | @alloc cs f t hw hc hv hp hn hs1 hd =>
    rw [wanted_tm hw hnt ht, if_pos rfl]
    rw [opAlloc_ev cutEv_eq] at hv
    obtain ⟨arr, el, y, hrun, hsz, hcs, hy⟩ := opAlloc_ok (w := w) hv hev
    refine .inl ?_
    unfold Oper.wp
    rw [hrun, Oper.upon_value]
    have hhp : s1.hp = sX.hp.new cs := by rw [hs1, St.hp_withHp]
    have hc1 : runOps E call ops (ancOf M) ((T ++ R1) ++ [i]) s [] = some (s1, dn1) := runOps_comp _ [i] hx h1
    have e' : τ = ((T ++ R1) ++ [i]) ++ R2 := by rw [e]; simp
    have hgeT : sT.hp.n ≤ sX.hp.n := by
      obtain ⟨s2, dn2, h2, h3⟩ := runOps_append T R1 hx
      rw [I.pt] at h2
      simp only [Option.some.injEq, Prod.mk.injEq] at h2
      obtain ⟨rfl, rfl⟩ := h2
      exact (h.mid (Y := i :: R2) (by rw [e]; simp) I.pt h3).1
    have hltF : sX.hp.n < sF.hp.n := by
      have := (h.mid (Y := []) (by rw [e']; simp) hc1 hafter).1
      rw [hhp, Hp.n_new] at this; omega
    have hborn : Born E call ops M τ s i sX.hp.n cs := ⟨T ++ R1, R2, sX, dnX, s1, dn1, e, hx, hc1, rfl, hhp, hn, hd⟩
    have hfree : ρ sX.hp.n = none := by
      cases hρ : ρ sX.hp.n with
      | none => rfl
      | some l =>
        exfalso
        obtain ⟨j, cs', j1, j2, j3⟩ := I.dom _ hgeT hltF (by rw [hρ]; simp)
        rw [eR, List.mem_append, List.mem_cons] at j1
        rcases j1 with q | q | q
        · have := h.born_lt e hx j3 (List.mem_append_right _ q); omega
        · subst q; rw [hi] at j2; cases j2
        · have := h.born_ge e' hc1 j3 q
          rw [hhp, Hp.n_new] at this; omega
    obtain ⟨st, sim'⟩ := I.sim.place hgeT hfree (.cells arr el) ⟨w.heap.size, 0, arr.size⟩ rfl I.hB
    obtain ⟨t1, t2, t3⟩ := I.tms h e hi hx h1 ho hr0 (st 0) (hy _ B (w.alloc (.cells arr el)) _ (Rho.add_same _ _ _))
    have hiR : i ∈ R := by rw [eR]; simp
    refine hK (ρ.add sX.hp.n ⟨w.heap.size, 0, arr.size⟩) _ _ ⟨I.cut, I.pt, fun j hj => or_old (I.inL j hj), fun j hj he => ?_, cl_next I.cl ha, t1, t2, t3, I.gl.step (st 0), Nat.le_trans I.hB (st 0).size, sim', fun j b ds hj hL hb => ?_, fun b h1 h2 h3 => ?_,
      I.step.trans (st s.hp.n) (Free.self _ _), fun b hb => ?_⟩
    · rcases or_inv hj with hj | hj
      · subst hj; rw [hne] at he; cases he
      · exact I.eff j hj he
    · rcases or_inv hL with hL | hL
      · subst hL
        obtain ⟨rfl, q2, _⟩ := notBorn h e hx h1 hb
        have : ds = cs := by
          have e3 : (sX.hp.new cs).get sX.hp.n = (sX.hp.new ds).get sX.hp.n := by rw [← hhp, q2]
          rw [Hp.get_new _ _ _ hn, Hp.get_new _ _ _ hn, if_pos rfl, if_pos rfl] at e3
          injection e3 with e3; injection e3 with e3; exact e3.symm
        subst this
        refine ⟨_, Rho.add_same _ _ _, ⟨arr, el, by simpa using heap_alloc_new w _, rfl, by simp [hsz], fun k x hk => ?_⟩, fun b' l' hb' hl' => ?_⟩
        · obtain ⟨z, hz, hvz⟩ := hcs.get hk
          exact ⟨z, by simpa using hz, hvz.step (st 0)⟩
        · by_cases eb : b' = sX.hp.n
          · exact eb
          · rw [Rho.add_other _ _ eb] at hb'
            have := (I.sim.new b' l' hb').2
            simp only at hl'
            omega
      · obtain ⟨l, p1, p2, p3⟩ := I.pend j b ds hj hL hb
        have hne2 : b ≠ sX.hp.n := fun eb => by subst eb; rw [hfree] at p1; cases p1
        refine ⟨l, by rw [Rho.add_other _ _ hne2]; exact p1, p2.step (st 0) (Below.heap_alloc w _ _ (I.sim.new b l p1).2), fun b' l' hb' hl' => ?_⟩
        by_cases eb : b' = sX.hp.n
        · subst eb
          rw [Rho.add_same] at hb'; injection hb' with hb'; subst hb'
          have := (I.sim.new b l p1).2
          simp only at hl'
          omega
        · rw [Rho.add_other _ _ eb] at hb'
          exact p3 b' l' hb' hl'
    · by_cases eb : b = sX.hp.n
      · subst eb; exact ⟨i, cs, hiR, by simp, hborn⟩
      · rw [Rho.add_other _ _ eb] at h3
        obtain ⟨j, cs', j1, j2, j3⟩ := I.dom b h1 h2 h3
        exact ⟨j, cs', j1, or_old j2, j3⟩
    · rw [Rho.add_other _ _ (by intro eb; subst eb; exact hb ⟨q3, hltF⟩)]
      exact I.rin b hb
  | eff hw hc _ _ _ _ => simp [effAt, ho, hc] at hne
end
end Go.Eng
end
section
set_option linter.unusedVariables false
set_option linter.unusedSimpArgs false
namespace Go.Eng
open Go Go.RowKit
section
variable {E : Env} {ds : List Deferred} {call : CallT} {ops : Array Oper} {M : List Nat} {τ : List Nat} {s sF : St} {dnF : Done}
variable {B : Nat} {ρ0 ρ ρ' : Rho} {w0 w w' : World} {a : Act} {L : Nat → Bool} {T R : List Nat} {sT : St} {dnT : Done}
theorem Inv.adv (h : TR E call ops M τ s sF dnF) (hfree : Free ρ0 s.hp.n sF.hp.n) (I : Inv E ds call ops M τ s sF B ρ0 w0 L T R sT dnT ρ w a) {i : Nat} (hm : i ∈ τ) (hi : L i = false) (ha : ∀ k, (ancOf M i).testBit k = true → L k = true) (he : effAt E.P ops i = true)
    {Q : Exit → Act → World → Prop} {K : Act → World → Prop} (hK : ∀ T' R' sT' dnT' ρ' w' a', Inv E ds call ops M τ s sF B ρ0 w0 (fun j => j == i || L j) T' R' sT' dnT' ρ' w' a' → K a' w') : wpOp E.P ops Q i K a w := by
  obtain ⟨R1, R2, eR, e⟩ := I.mem h hm hi
  obtain ⟨sX, dnX, hx, hrest⟩ := h.at e
  obtain ⟨o, s1, dn1, v, ho, hr, h1, hafter⟩ := run_one hrest
  obtain ⟨q1, wf, q3, _⟩ := h.pre e hx
  have hall : ∀ k ∈ T ++ R1, L k = true := fun k hk => ha k ((h.ord _ i R2 e).2 he k hk)
  have ht : ∀ t ∈ o.looksAt ops, VR ρ B w (sX.tmp t) (a.tmps.getD t undef) := fun t htt => by
    have := I.tm t
    rw [h.wr_at e hx ho I.cl hi ha htt] at this
    exact this
  have hnt : a.tmps.size = sX.nt := by rw [I.nt, q1]
  have hev := cutEv_ok (w := w) (a := a) I.gl ht
  have hsim := I.simAt h eR (fun j hj => hall j (List.mem_append_right _ hj)) hx
  have hc1 : runOps E call ops (ancOf M) ((T ++ R1) ++ [i]) s [] = some (s1, dn1) := runOps_comp _ [i] hx h1
  have e' : τ = ((T ++ R1) ++ [i]) ++ R2 := by rw [e]; simp
  have hgeT : sT.hp.n ≤ sX.hp.n := by
    obtain ⟨s2, dn2, h2, h3⟩ := runOps_append T R1 hx
    rw [I.pt] at h2
    simp only [Option.some.injEq, Prod.mk.injEq] at h2
    obtain ⟨rfl, rfl⟩ := h2
    exact (h.mid (Y := i :: R2) (by rw [e]; simp) I.pt h3).1
  have hX1 : sX.hp.n ≤ s1.hp.n := (h.mid (l := [i]) (Y := R2) (by rw [e]; simp) hx h1).1
  have h1F : s1.hp.n ≤ sF.hp.n := (h.mid (l := R2) (Y := []) (by rw [e']; simp) hc1 hafter).1
  have hfr : Free ρ sX.hp.n s1.hp.n := fun b b1 b2 => by
    cases hρ : ρ b with
    | none => rfl
    | some l =>
      exfalso
      obtain ⟨j, cs', j1, j2, j3⟩ := I.dom b (by omega) (by omega) (by rw [hρ]; simp)
      rw [eR, List.mem_append, List.mem_cons] at j1
      rcases j1 with q | q | q
      · have := h.born_lt e hx j3 (List.mem_append_right _ q); omega
      · subst q; rw [hi] at j2; cases j2
      · have := h.born_ge e' hc1 j3 q; omega
  have r1i : i ∉ R2 := (h.notin e).2.1
  -- what is left to show once the effect is done
  have fin : ∀ ρ' w' y, Step sX.hp.n ρ w ρ' w' → RhoIn ρ ρ' sX.hp.n s1.hp.n → Sim ρ' B w' s1.hp → VR ρ' B w' v y → K (a.put o.dst y) w' := by
    intro ρ' w' y st rin sim' hv
    obtain ⟨t1, t2, t3⟩ := I.tms h e hi hx h1 ho hr st hv
    refine hK ((T ++ R1) ++ [i]) R2 s1 dn1 ρ' w' _ ⟨e', hc1, fun j hj => ?_, fun j hj hej => ?_, cl_next I.cl ha, t1, t2, t3, I.gl.step st, Nat.le_trans I.hB st.size, sim', fun j b cs hj hL hb => ?_, fun b b1 b2 b3 => ?_,
      I.step.trans st (hfree.cut (by omega)), fun b hb => ?_⟩
    · rw [List.mem_append, List.mem_singleton] at hj
      rcases hj with hj | hj
      · exact or_old (hall j hj)
      · subst hj; simp
    · rcases or_inv hj with hj | hj
      · subst hj; simp
      · have := I.eff j hj hej
        simp [this]
    · have hne : j ≠ i := fun e => by subst e; exact r1i hj
      rcases or_inv hL with hL | hL
      · exact absurd hL hne
      · obtain ⟨l, p1, p2, p3⟩ := I.pend j b cs (by rw [eR]; simp [hj]) hL hb
        have hge := h.born_ge e' hc1 hb hj
        have hnew := (I.sim.new b l p1).2
        refine ⟨l, st.ext b l p1, p2.step st (st.keep l.c hnew fun b' l' hlt hb' hc => ?_), fun b' l' hb' hc => ?_⟩
        · have := p3 b' l' hb' hc
          omega
        · rcases st.man b' l' hb' with q | q | ⟨b0, l0, q0, q1, q2⟩
          · exact p3 b' l' q hc
          · omega
          · have := p3 b0 l0 q1 (q2.trans hc)
            omega
    · rw [rin b (by omega)] at b3
      obtain ⟨j, cs, j1, j2, j3⟩ := I.dom b (by omega) b2 b3
      refine ⟨j, cs, ?_, or_old j2, j3⟩
      rw [eR, List.mem_append, List.mem_cons] at j1
      rcases j1 with q | q | q
      · have := h.born_lt e hx j3 (List.mem_append_right _ q); omega
      · subst q; rw [hi] at j2; cases j2
      · exact q
    · rw [rin b (by omega)]; exact I.rin b hb
  have cls : clsOf E.P o.op = .eff := by simpa [effAt, ho] using he
  unfold wpOp
  rw [ho]
  simp only
  cases hr with
  | off hw hp hd =>
    rw [wanted_tm hw hnt ht, if_neg (by simp)]
    have := (St.hp_put hp).1
    exact fin ρ w _ (Step.refl _ _ _) (by rw [this]; exact RhoIn.refl _ _ _) (by rw [this]; exact hsim) VR.undef
  | pure _ hc _ _ _ => rw [cls] at hc; cases hc
  | load _ hc _ _ _ _ => rw [cls] at hc; cases hc
  | alloc _ hc _ _ _ _ _ => rw [cls] at hc; cases hc
  | @eff _ hp _ hw hc hv hp' hs1 hd =>
    rw [wanted_tm hw hnt ht, if_pos rfl]
    rw [opEff_ev cutEv_eq] at hv
    have hh : s1.hp = hp.wlSet (hp.wl ++ sX.hp.wl) := by rw [hs1, St.hp_withHp]
    have hn1 : s1.hp.n = hp.n := by rw [hh, Hp.n_wlSet]
    refine .inl (opEff_ok h.hc I.gl hv (hsim.wlSet []) hev (by rw [Hp.n_wlSet, ← hn1]; exact hfr) I.hB _ _ fun y w' ρ' hy => ?_)
    have k1 := hy.step
    have k2 := hy.rin
    rw [Hp.n_wlSet] at k1 k2
    exact fin ρ' w' y k1 (by rw [hn1]; exact k2) (by rw [hh]; exact hy.sim.wlSet _) hy.val
theorem Inv.go (h : TR E call ops M τ s sF dnF) (hfree : Free ρ0 s.hp.n sF.hp.n) (I : Inv E ds call ops M τ s sF B ρ0 w0 L T R sT dnT ρ w a) {i : Nat} (hm : i ∈ τ) (hi : L i = false) (ha : ∀ k, (ancOf M i).testBit k = true → L k = true)
    {Q : Exit → Act → World → Prop} {K : Act → World → Prop} (hK : ∀ T' R' sT' dnT' ρ' w' a', Inv E ds call ops M τ s sF B ρ0 w0 (fun j => j == i || L j) T' R' sT' dnT' ρ' w' a' → K a' w') : wpOp E.P ops Q i K a w := by
  cases he : effAt E.P ops i with
  | false => exact I.stay h hm hi ha he fun ρ' w' a' I' => hK _ _ _ _ _ _ _ I'
  | true => exact I.adv h hfree hm hi ha he hK
theorem Inv.fin (h : TR E call ops M τ s sF dnF) (I : Inv E ds call ops M τ s sF B ρ0 w0 L T R sT dnT ρ w a) (hall : ∀ j ∈ τ, L j = true) : SStep E ds ρ0 B w0 s.hp.n sF ρ a w := by
  have hx : runOps E call ops (ancOf M) (T ++ R) s [] = some (sF, dnF) := by rw [← I.cut]; exact h.run
  have sim := I.simAt h (R1 := R) (R2 := []) (by simp) (fun j hj => hall j (by rw [I.cut]; exact List.mem_append_right _ hj)) hx
  obtain ⟨q1, wf, q3, q4⟩ := h.pre (X := τ) (Y := []) (by simp) h.run
  refine ⟨I.step, I.rin, sim, fun t => ?_, by rw [I.nt, q1], by rw [q1]; exact h.few, I.df, I.gl, I.hB⟩
  rw [q4 t, wr_congr (L' := L) τ rfl fun j hj _ => (hall j hj).symm]
  exact I.tm t
theorem Inv.start (h : TR E call ops M τ s sF dnF) (hfree : Free ρ s.hp.n sF.hp.n) (hr : SR E ds ρ B w s a) : Inv E ds call ops M τ s sF B ρ w (fun _ => false) [] τ s [] ρ w a := by
  refine ⟨rfl, rfl, by simp, by simp, by simp, fun t => ?_, hr.nt, hr.df, hr.gl, hr.hB, hr.sim, fun j b cs hj hL => (by cases hL), fun b h1 h2 h3 => ?_, Step.refl _ _ _, RhoIn.refl _ _ _⟩
  · rw [wr_none]; exact hr.tm t
  · exact absurd (hfree b h1 h2) h3
theorem filter_lt {p q : Nat → Bool} (hpq : ∀ x, q x = true → p x = true) {i : Nat} (hp : p i = true) (hq : q i = false) : ∀ (l : List Nat), i ∈ l → (l.filter q).length < (l.filter p).length := by
  have le : ∀ (l : List Nat), (l.filter q).length ≤ (l.filter p).length := by
    intro l
    induction l with
    | nil => simp
    | cons x l ih =>
      rw [List.filter_cons, List.filter_cons]
      cases hx : q x with
      | true => rw [if_pos rfl, if_pos (hpq x hx), List.length_cons, List.length_cons]; omega
      | false => rw [if_neg (by simp)]; split <;> (try rw [List.length_cons]) <;> omega
  intro l
  induction l with
  | nil => intro h; cases h
  | cons x l ih =>
    intro h
    rw [List.filter_cons, List.filter_cons]
    by_cases e : x = i
    · subst e
      rw [hp, hq, if_pos rfl, if_neg (by simp)]
      have := le l
      simp; omega
    · have hm : i ∈ l := by
        rcases List.mem_cons.1 h with q | q
        · exact absurd q.symm e
        · exact q
      have := ih hm
      cases hx : q x with
      | true => rw [if_pos rfl, if_pos (hpq x hx), List.length_cons, List.length_cons]; omega
      | false => rw [if_neg (by simp)]; split <;> (try rw [List.length_cons]) <;> omega
theorem any_ok (h : TR E call ops M τ s sF dnF) (hM : AncOk ops M) (hE : edgesOk ops = true) (hfree : Free ρ0 s.hp.n sF.hp.n) {Q : Exit → Act → World → Prop} (hQ : ∀ ρ' w' a', SStep E ds ρ0 B w0 s.hp.n sF ρ' a' w' → Q .normal a' w') :
    ∀ (fuel : Nat) (listed : Array Bool) (T R : List Nat) (sT : St) (dnT : Done) (ρ : Rho) (w : World) (a : Act), listed.size = ops.size → ((List.range ops.size).filter fun j => !listed.getD j false).length ≤ fuel →
      Inv E ds call ops M τ s sF B ρ0 w0 (fun j => listed.getD j false) T R sT dnT ρ w a → wpAny E.P .any ops Q fuel listed a w := by
  have getD_eq : ∀ (listed : Array Bool) (j : Nat), j < listed.size → listed.getD j true = listed.getD j false := fun listed j hj => by simp [hj]
  have endQ : ∀ (listed : Array Bool) (T R : List Nat) (sT : St) (dnT : Done) (ρ : Rho) (w : World) (a : Act), listed.size = ops.size → Region.ready .any ops listed = [] →
      Inv E ds call ops M τ s sF B ρ0 w0 (fun j => listed.getD j false) T R sT dnT ρ w a → Q .normal a w := by
    intro listed T R sT dnT ρ w a hsz hr I
    have all : ∀ n j, j < n → j < ops.size → listed.getD j false = true := by
      intro n
      induction n with
      | zero => intro j hj; omega
      | succ n ih =>
        intro j hj hlt
        cases hc : listed.getD j false with
        | true => rfl
        | false =>
          exfalso
          have : j ∈ Region.ready .any ops listed := mem_ready.2 ⟨by rw [getD_eq _ _ (by omega)]; exact hc, ops[j], Array.getElem?_eq_getElem hlt, fun e he hb => by
            have := edges_spec hE (Array.getElem?_eq_getElem hlt) he hb
            exact ih e.on (by omega) (by omega)⟩
          rw [hr] at this; cases this
    exact hQ _ _ _ (I.fin h fun j hj => all (j + 1) j (by omega) ((h.cov j).2 hj))
  intro fuel
  induction fuel with
  | zero =>
    intro listed T R sT dnT ρ w a hsz hfu I
    have hr : Region.ready .any ops listed = [] := by
      cases hr : Region.ready .any ops listed with
      | nil => rfl
      | cons j r =>
        exfalso
        have hj : j ∈ Region.ready .any ops listed := by rw [hr]; exact List.mem_cons_self
        obtain ⟨h0, o, ho, _⟩ := mem_ready.1 hj
        have hlt : j < ops.size := (Array.getElem?_eq_some_iff.1 ho).1
        rw [getD_eq _ _ (by omega)] at h0
        have : j ∈ (List.range ops.size).filter fun j => !listed.getD j false := List.mem_filter.2 ⟨List.mem_range.2 hlt, by simp only [h0]; rfl⟩
        have := List.length_pos_of_mem this
        omega
    exact ⟨hr, endQ listed T R sT dnT ρ w a hsz hr I⟩
  | succ fuel ih =>
    intro listed T R sT dnT ρ w a hsz hfu I
    refine ⟨fun hr => endQ listed T R sT dnT ρ w a hsz hr I, fun i hi => ?_⟩
    obtain ⟨h0, o, ho, hed⟩ := mem_ready.1 hi
    have hlt : i < ops.size := (Array.getElem?_eq_some_iff.1 ho).1
    rw [getD_eq _ _ (by omega)] at h0
    have ha : ∀ k, (ancOf M i).testBit k = true → listed.getD k false = true := fun k hk => by
      obtain ⟨o', e, q1, q2, q3, q4⟩ := hM i k hk
      rw [ho] at q1; injection q1 with q1; subst q1
      have := hed e q2 q3
      rcases q4 with q4 | q4
      · rw [q4]; exact this
      · exact I.cl e.on this k q4
    refine I.go h hfree ((h.cov i).1 hlt) h0 ha fun T' R' sT' dnT' ρ' w' a' I' => ?_
    have eL : (fun j => j == i || listed.getD j false) = fun j => (listed.setIfInBounds i true).getD j false := by
      funext j
      by_cases e : i = j
      · subst e
        have : i < listed.size := by omega
        simp [this]
      · rw [getD_set_ne false e]
        simp [Ne.symm e]
    rw [eL] at I'
    refine ih _ T' R' sT' dnT' ρ' w' a' (by simpa using hsz) ?_ I'
    have := filter_lt (p := fun j => !listed.getD j false) (q := fun j => !(listed.setIfInBounds i true).getD j false) (fun x hx => by
      have := congrFun eL x
      rw [← this] at hx
      simp only [Bool.not_eq_true', Bool.or_eq_false_iff] at hx
      simp only [hx.2]; rfl) (i := i) (by simp only [h0]; rfl) (by
      have := congrFun eL i
      rw [← this]; simp) (List.range ops.size) (List.mem_range.2 hlt)
    omega
end
end Go.Eng
end
section
set_option linter.unusedVariables false
set_option linter.unusedSimpArgs false
namespace Go.Eng
open Go Go.RowKit
def exOf : Ex → Exit
  | .nrm => .normal
  | .ext id => .exit id
  | .ret => .ret
section
variable {E : Env} {ds : List Deferred} {B : Nat} {ρ : Rho} {w : World} {a : Act}
theorem SStep.drew {n : Nat} {s : St} (h : SR E ds ρ B w s a) : SR E ds ρ B w.drew s a :=
  ⟨h.sim.drew, fun t => (h.tm t).step (Step.drew 0 ρ w), h.nt, h.few, h.df, h.gl.step (Step.drew 0 ρ w), h.hB⟩
theorem tmOf_get : ∀ (l : List AV) (i : Nat) (t : Tr AV) (j : Nat), i + l.length ≤ 1000000 → (tmOf l i t).get j = if i ≤ j ∧ j < i + l.length then l[j - i]? else t.get j := by
  intro l
  induction l with
  | nil => intro i t j _; simp [tmOf]; omega
  | cons x l ih =>
    intro i t j hi
    simp only [List.length_cons] at hi
    simp only [tmOf]
    rw [ih _ _ _ (by omega), Tr.get_put fuelT t i x _ (by show i < 2 ^ 30 - 1; omega)]
    by_cases h1 : i + 1 ≤ j ∧ j < i + 1 + l.length
    · rw [if_pos h1, if_pos (by simp; omega)]
      have : j - i = (j - (i + 1)) + 1 := by omega
      rw [this, List.getElem?_cons_succ]
    · rw [if_neg h1]
      by_cases h2 : j = i
      · subst h2
        rw [if_pos rfl, if_pos (by simp)]
        simp
      · rw [if_neg h2, if_neg (by simp; omega)]
theorem SR.enter {hp : Hp} {args : List AV} {vs : List Value} {nt : Nat} (h1 : args.length ≤ nt) (h2 : nt < 1000000) (hs : Sim ρ B w hp) (hg : GlobR E.glob ρ B w) (hB : B ≤ w.heap.size) (hv : VRs ρ B w args vs) :
    SR E [] ρ B w ⟨nt, tmOf args 0 .lf, hp⟩ { tmps := (⟨vs⟩ : Array Value) ++ Array.replicate (nt - (⟨vs⟩ : Array Value).size) undef, defers := [] } := by
  have hl := hv.1
  refine ⟨hs, fun t => ?_, by simp; omega, h2, rfl, hg, hB⟩
  simp only [St.tmp]
  rw [tmOf_get args 0 .lf t (by omega)]
  by_cases ht : t < args.length
  · rw [if_pos (by omega)]
    simp only [Nat.sub_zero]
    obtain ⟨y, hy, hr⟩ := hv.get (List.getElem?_eq_getElem ht)
    rw [List.getElem?_eq_getElem ht]
    have e : ((⟨vs⟩ : Array Value) ++ Array.replicate (nt - (⟨vs⟩ : Array Value).size) undef).getD t undef = y := by
      have hlt : t < vs.length := by omega
      simp only [Array.getD_eq_getD_getElem?]
      rw [Array.getElem?_append_left (by simpa using hlt)]
      simp [hy]
    rw [e]
    exact hr
  · rw [if_neg (by omega), Tr.get_lf]
    have e : ((⟨vs⟩ : Array Value) ++ Array.replicate (nt - (⟨vs⟩ : Array Value).size) undef).getD t undef = undef := by
      simp only [Array.getD_eq_getD_getElem?]
      rw [Array.getElem?_append_right (by simp; omega)]
      cases hx : (Array.replicate (nt - (⟨vs⟩ : Array Value).size) undef)[t - (⟨vs⟩ : Array Value).size]? with
      | none => rfl
      | some z =>
        have := Array.mem_of_getElem? hx
        simp at this
        simp [this.2]
    rw [e]
    exact VR.undef
theorem sure_as {u : Value} {t : TypeId} {y : Value} (h : (Instr.loadAt t u).run E.P w = .ok y w) : (do loadVar t (← asAddr u) : Sem Value).run E.P w = .ok y w := by
  have e : ∃ b, u = .pointer (some b) := by
    simp only [Instr.loadAt] at h
    rw [Sem.run_bind] at h
    cases u with
    | pointer p =>
      cases p with
      | some b => exact ⟨b, rfl⟩
      | none => simp [Instr.sureAddr, stuck, Sem.run, Result.andThen] at h
    | _ => simp [Instr.sureAddr, stuck, Sem.run, Result.andThen] at h
  obtain ⟨b, rfl⟩ := e
  exact h
theorem results_list {s : St} (hr : SR E ds ρ B w s a) : ∀ (l : List ResultVar) {vs : List AV}, resA E s l = some vs → ∃ ys, (l.mapM (fun (r : ResultVar) => match r with
    | .tmp t => (pure (a.tmps.getD t undef) : Sem Value)
    | .cell x t => do loadVar t (← asAddr (a.tmps.getD x undef)))).run E.P w = .ok ys w ∧ VRs ρ B w vs ys := by
  intro l
  induction l with
  | nil =>
    intro vs h
    simp only [resA] at h; injection h with h; subst h
    exact ⟨[], by simp [Sem.run_pure], VRs.nil⟩
  | cons x l ih =>
    intro vs h
    cases x with
    | tmp t =>
      simp only [resA] at h
      split at h
      · rename_i r hl
        injection h with h; subst h
        obtain ⟨ys, h1, h2⟩ := ih hl
        refine ⟨a.tmps.getD t undef :: ys, ?_, VRs.cons (hr.tm t) h2⟩
        simp only [List.mapM_cons, Sem.run_bind, Sem.run_pure, Result.andThen, h1]
      · cases h
    | cell x t =>
      simp only [resA] at h
      split at h
      · rename_i v r l' hv hl
        injection h with h; subst h
        obtain ⟨ys, h1, h2⟩ := ih hl
        obtain ⟨y, h3, h4⟩ := loadA_ok (P := E.P) hv hr.sim (hr.tm x)
        refine ⟨y :: ys, ?_, VRs.cons h4 h2⟩
        have h5 := sure_as h3
        rw [List.mapM_cons, Sem.run_bind]
        simp only
        rw [h5]
        simp only [Result.andThen, Sem.run_bind, h1, Sem.run_pure]
      · cases h
theorem results_ok {s : St} (hr : SR E ds ρ B w s a) {fn : Func} {v : AV} (h : resultsA E s fn.results = some v) : ∃ y, (results fn a.tmps).run E.P w = .ok y w ∧ VR ρ B w v y := by
  unfold resultsA at h
  have fin : ∀ l, resA E s fn.results.toList = some l → ∃ ys, (results fn a.tmps).run E.P w = .ok (if h : (⟨ys⟩ : Array Value).size = 1 then (⟨ys⟩ : Array Value)[0] else .tuple ⟨ys⟩) w ∧ VRs ρ B w l ys := by
    intro l hl
    obtain ⟨ys, h1, h2⟩ := results_list hr _ hl
    refine ⟨ys, ?_, h2⟩
    unfold results
    have e : fn.results = fn.results.toList.toArray := by simp
    rw [e, List.mapM_toArray, Sem.run_bind, map_eq_pure_bind, Sem.run_bind]
    refine Eq.trans (congrArg (fun z => (Result.andThen z _).andThen _) h1) ?_
    simp only [Result.andThen, Sem.run_pure]
  split at h
  · rename_i x hl
    injection h with h; subst h
    obtain ⟨ys, h1, h2⟩ := fin _ hl
    obtain ⟨y, l, rfl, h3, h4⟩ := h2.cons_inv
    rw [h4.nil_inv] at h1
    exact ⟨y, h1, h3⟩
  · rename_i l hne hl
    injection h with h; subst h
    obtain ⟨ys, h1, h2⟩ := fin _ hl
    have hn : ¬ (⟨ys⟩ : Array Value).size = 1 := by
      intro hs
      have hs2 : l.length = 1 := by rw [h2.1]; simpa using hs
      cases l with
      | nil => simp at hs2
      | cons x l =>
        cases l with
        | nil => exact hne x rfl
        | cons _ _ => simp at hs2
    rw [dif_neg hn] at h1
    exact ⟨_, h1, .tup' h2⟩
  · cases h

/-! ### Code -/
structure IhOk (E : Env) (n : Nat) (ih : Ih) : Prop where
  keep : ∀ c s e s', ih c s = some (e, s') → HpWf s.hp → HpKeep s.hp s'.hp ∧ HpWf s'.hp
  wp : ∀ c s e s', ih c s = some (e, s') → ∀ {ds : List Deferred} (ρ : Rho) (B : Nat) (w : World) (a : Act) (Q : Exit → Act → World → Prop), SR E ds ρ B w s a → Free ρ s.hp.n s'.hp.n →
    (∀ ρ' a' w', SStep E ds ρ B w s.hp.n s' ρ' a' w' → Q (exOf e) a' w') → c.wp E.P Q a w
  loop : ∀ b s e s', ih (.loop b) s = some (e, s') → ∀ {ds : List Deferred} (ρ : Rho) (B : Nat) (w : World) (a : Act) (Q : Exit → Act → World → Prop), SR E ds ρ B w s a → Free ρ s.hp.n s'.hp.n →
    (∀ ρ' a' w', SStep E ds ρ B w s.hp.n s' ρ' a' w' → Q (exOf e) a' w') → Code.rounds E.P b Q n a w
def spCall (E : Env) : CallT := fun g args hp => match E.sp g with
  | some f => f args hp
  | none => none
theorem callA_ok {n : Nat} {ih : Ih} (hi : IhOk E n ih) (hsp : CallOk E.P E.glob (spCall E)) : CallOk E.P E.glob (callA E ih) := by
  intro g args hp v hp' h
  unfold callA at h
  split at h
  · rename_i f hf
    exact hsp g args hp v hp' (by simp only [spCall, hf]; exact h)
  · unfold bodyA at h
    split at h
    · rename_i c nt rs hfd
      unfold fdata at hfd
      split at hfd
      · rename_i fn hfn
        split at hfd
        · cases hfd
        · rename_i hname
          split at hfd
          · rename_i c' hbody
            simp only [Option.some.injEq, Prod.mk.injEq] at hfd
            obtain ⟨rfl, rfl, rfl⟩ := hfd
            unfold inA at h
            split at h
            · rename_i hsz
              have main : ∃ e s', ih c' ⟨fn.ntmps, tmOf args 0 .lf, hp⟩ = some (e, s') ∧ (e = .nrm ∨ e = .ret) ∧ resultsA E s' fn.results = some v ∧ hp' = s'.hp.wlSet (s'.hp.wl.filter (· < hp.n)) := by
                unfold endA at h
                have bk : ∀ s', backA E hp.n fn.results s' = some (v, hp') → resultsA E s' fn.results = some v ∧ hp' = s'.hp.wlSet (s'.hp.wl.filter (· < hp.n)) := by
                  intro s' hb
                  unfold backA at hb
                  split at hb
                  · rename_i v' hv
                    simp only [Option.some.injEq, Prod.mk.injEq] at hb
                    obtain ⟨rfl, rfl⟩ := hb
                    exact ⟨hv, rfl⟩
                  · cases hb
                split at h
                · rename_i s' hs
                  obtain ⟨q1, q2⟩ := bk s' h
                  exact ⟨_, s', hs, .inl rfl, q1, q2⟩
                · rename_i s' hs
                  obtain ⟨q1, q2⟩ := bk s' h
                  exact ⟨_, s', hs, .inr rfl, q1, q2⟩
                · cases h
              obtain ⟨e, s', hs, he, hv, rfl⟩ := main
              refine ⟨⟨fn, hfn, by simpa using hname, by rw [hbody]; rfl⟩, fun hw => ?_, ?_⟩
              · obtain ⟨k, wf⟩ := hi.keep _ _ _ _ hs hw
                refine ⟨⟨by rw [Hp.n_wlSet]; exact k.n, fun b hb hm => ?_, fun b hb hm => ?_⟩, wf.wlSet _⟩
                · rw [Hp.wl_wlSet]
                  exact List.mem_filter.2 ⟨k.wl b hb hm, by simpa using hb⟩
                · rw [Hp.wl_wlSet] at hm
                  rw [Hp.get_wlSet]
                  exact k.get b hb fun q => hm (List.mem_filter.2 ⟨q, by simpa using hb⟩)
              · intro ρ B w vs hsim hg hB hf hvs
                refine calls_of_wp hfn hbody (hi.wp _ _ _ _ hs ρ B w _ _ (SR.enter hsz.1 hsz.2 hsim hg hB hvs) (by rw [Hp.n_wlSet] at hf; exact hf) fun ρ' a' w' hst => ?_)
                obtain ⟨y, hy, hvy⟩ := results_ok hst.sr hv
                have fin : a'.defers = [] ∧ ∃ v, (results fn a'.tmps).run E.P w' = .ok v w' ∧ ∃ y' ρ'', Ending.returned v = .returned y' ∧ Eff ρ B w hp (‹AV›) (s'.hp.wlSet (s'.hp.wl.filter (· < hp.n))) y' w' ρ'' :=
                  ⟨hst.sr.df, y, hy, y, ρ', rfl, ⟨hst.step, hst.sr.sim.wlSet _, by rw [Hp.n_wlSet]; exact hst.rin, hvy⟩⟩
                rcases he with rfl | rfl
                · exact fin
                · exact fin
            · cases h
          · cases hfd
      · cases hfd
    · cases h
end
end Go.Eng
end
section
set_option linter.unusedVariables false
set_option linter.unusedSimpArgs false
namespace Go.Eng
open Go Go.RowKit
section
variable {E : Env}
theorem endR_inv {r : Option (St × Done)} {e : Ex} {s' : St} (h : endR r = some (e, s')) : e = .nrm ∧ ∃ dn, r = some (s', dn) := by
  unfold endR at h
  split at h
  · simp only [Option.some.injEq, Prod.mk.injEq] at h
    obtain ⟨rfl, rfl⟩ := h
    exact ⟨rfl, _, rfl⟩
  · cases h
theorem evRegion_ok {n : Nat} {ih : Ih} (hm : E.P.follows .mixedOrders = true) (hi : IhOk E n ih) (hsp : CallOk E.P E.glob (spCall E)) {id : Nat} {ops : Array Oper} {draw : Bool} {s s' : St} {e : Ex} (h : evRegion E ih ops draw s = some (e, s')) :
    (HpWf s.hp → HpKeep s.hp s'.hp ∧ HpWf s'.hp) ∧ ∀ {ds : List Deferred} (ρ : Rho) (B : Nat) (w : World) (a : Act) (Q : Exit → Act → World → Prop), SR E ds ρ B w s a → Free ρ s.hp.n s'.hp.n →
    (∀ ρ' a' w', SStep E ds ρ B w s.hp.n s' ρ' a' w' → Q (exOf e) a' w') → (Code.region id ops draw).wp E.P Q a w := by
  have hc := callA_ok hi hsp
  unfold evRegion at h
  cases draw with
  | false =>
    simp only at h
    obtain ⟨rfl, dn, hr⟩ := endR_inv h
    exact ⟨fun hw => runOps_keep hc _ hw hr, fun ρ B w a Q hs hf hQ => wp_region (runOps_ok hc _ hr hs hf fun a' w' ρ' hst => hQ ρ' a' w' hst)⟩
  | true =>
    simp only at h
    unfold evDraw at h
    split at h
    · rename_i hreg
      obtain ⟨rfl, dn, hr⟩ := endR_inv h
      refine ⟨fun hw => runOps_keep hc _ hw hr, fun ρ B w a Q hs hf hQ => ?_⟩
      simp only [regOk, Bool.and_eq_true] at hreg
      obtain ⟨⟨hE, hN⟩, hO⟩ := hreg
      obtain ⟨o1, o2, o3⟩ := order_spec (tau E.P ops (ancs ops)) 0 [] hO (fun k => by simp) (by simp)
      have htr : TR E (callA E ih) ops (ancs ops) (tau E.P ops (ancs ops)) s s' dn :=
        ⟨hr, by simpa using o1, fun k => by simpa using o2 k, fun X i Y e => by simpa using o3 X i Y e, hN, hs.few, hs.sim.wf, hc⟩
      have hs' := SStep.drew (n := 0) hs
      refine wp_region_any hm ?_
      refine any_ok htr (ancs_ok ops) hE hf (ρ0 := ρ) (w0 := w.drew) (B := B) (fun ρ' w' a' hst => hQ ρ' a' w' ⟨(Step.drew s.hp.n ρ w).trans hst.step (Free.self _ _), hst.rin, hst.sr⟩) ops.size (Array.replicate ops.size false) [] (tau E.P ops (ancs ops)) s [] ρ w.drew a (by simp) ?_ ?_
      · have : ((List.range ops.size).filter fun j => !(Array.replicate ops.size false).getD j false).length ≤ (List.range ops.size).length := List.length_filter_le _ _
        simpa using this
      · have e : (fun j => (Array.replicate ops.size false).getD j false) = fun _ => false := by
          funext j
          simp only [Array.getD_eq_getD_getElem?, Array.getElem?_replicate]
          split <;> rfl
        rw [e]
        exact Inv.start htr hf hs'
    · cases h
theorem evC_ok (hm : E.P.follows .mixedOrders = true) (hsp : CallOk E.P E.glob (spCall E)) : ∀ n, IhOk E n (evC E n) := by
  intro n
  induction n with
  | zero =>
    exact ⟨fun c s e s' h => (by rw [evC_zero] at h; cases h), fun c s e s' h => (by rw [evC_zero] at h; cases h), fun b s e s' h => (by rw [evC_zero] at h; cases h)⟩
  | succ n hi =>
    -- a loop's rounds
    have hloop : ∀ b s e s', evC E (n + 1) (.loop b) s = some (e, s') → (HpWf s.hp → HpKeep s.hp s'.hp ∧ HpWf s'.hp) ∧ ∀ {ds : List Deferred} (ρ : Rho) (B : Nat) (w : World) (a : Act) (Q : Exit → Act → World → Prop), SR E ds ρ B w s a → Free ρ s.hp.n s'.hp.n →
        (∀ ρ' a' w', SStep E ds ρ B w s.hp.n s' ρ' a' w' → Q (exOf e) a' w') → Code.rounds E.P b Q (n + 1) a w := by
      intro b s e s' h
      rw [evC_succ] at h
      simp only [evB] at h
      cases h1 : evC E n b s with
      | none => rw [h1] at h; simp [evSeq] at h
      | some r =>
        obtain ⟨e1, s1⟩ := r
        rw [h1] at h
        refine ⟨fun hw => ?_, fun ρ B w a Q hs hf hQ => ?_⟩
        · obtain ⟨k1, w1⟩ := hi.keep _ _ _ _ h1 hw
          cases e1 with
          | nrm =>
            simp only [evSeq] at h
            obtain ⟨k2, w2⟩ := hi.keep _ _ _ _ h w1
            exact ⟨k1.trans k2, w2⟩
          | ext id => simp only [evSeq, Option.some.injEq, Prod.mk.injEq] at h; obtain ⟨_, rfl⟩ := h; exact ⟨k1, w1⟩
          | ret => simp only [evSeq, Option.some.injEq, Prod.mk.injEq] at h; obtain ⟨_, rfl⟩ := h; exact ⟨k1, w1⟩
        · rw [rounds_succ]
          obtain ⟨k1, w1⟩ := hi.keep _ _ _ _ h1 hs.sim.wf
          cases e1 with
          | nrm =>
            simp only [evSeq] at h
            obtain ⟨k2, w2⟩ := hi.keep _ _ _ _ h w1
            refine hi.wp _ _ _ _ h1 ρ B w a _ hs (hf.cut k2.n) fun ρ1 a1 w1 st1 => ?_
            show Code.rounds E.P b Q n a1 w1
            exact hi.loop _ _ _ _ h ρ1 B w1 a1 Q st1.sr (hf.next st1.rin k1.n) fun ρ2 a2 w2 st2 => hQ _ _ _ (st1.trans st2 k1.n k2.n (hf.cut k2.n))
          | ext id =>
            simp only [evSeq, Option.some.injEq, Prod.mk.injEq] at h; obtain ⟨rfl, rfl⟩ := h
            exact hi.wp _ _ _ _ h1 ρ B w a _ hs hf fun ρ1 a1 w1 st1 => hQ _ _ _ st1
          | ret =>
            simp only [evSeq, Option.some.injEq, Prod.mk.injEq] at h; obtain ⟨rfl, rfl⟩ := h
            exact hi.wp _ _ _ _ h1 ρ B w a _ hs hf fun ρ1 a1 w1 st1 => hQ _ _ _ st1
    have hall : ∀ c s e s', evC E (n + 1) c s = some (e, s') → (HpWf s.hp → HpKeep s.hp s'.hp ∧ HpWf s'.hp) ∧ ∀ {ds : List Deferred} (ρ : Rho) (B : Nat) (w : World) (a : Act) (Q : Exit → Act → World → Prop), SR E ds ρ B w s a → Free ρ s.hp.n s'.hp.n →
        (∀ ρ' a' w', SStep E ds ρ B w s.hp.n s' ρ' a' w' → Q (exOf e) a' w') → c.wp E.P Q a w := by
      intro c s e s' h
      have here : ∀ {e0 : Ex}, some (e0, s) = some (e, s') → (HpWf s.hp → HpKeep s.hp s'.hp ∧ HpWf s'.hp) ∧ ∀ {ds : List Deferred} (ρ : Rho) (B : Nat) (w : World) (a : Act) (Q : Exit → Act → World → Prop), SR E ds ρ B w s a → Free ρ s.hp.n s'.hp.n →
          (∀ ρ' a' w', SStep E ds ρ B w s.hp.n s' ρ' a' w' → Q (exOf e) a' w') → Q (exOf e0) a w := by
        intro e0 h
        simp only [Option.some.injEq, Prod.mk.injEq] at h
        obtain ⟨rfl, rfl⟩ := h
        exact ⟨fun hw => ⟨HpKeep.refl _, hw⟩, fun ρ B w a Q hs _ hQ => hQ ρ a w ⟨Step.refl _ _ _, RhoIn.refl _ _ _, hs⟩⟩
      cases c with
      | loop b =>
        obtain ⟨q1, q2⟩ := hloop b s e s' h
        exact ⟨q1, fun ρ B w a Q hs hf hQ => wp_loop_rounds (n + 1) (q2 ρ B w a Q hs hf hQ)⟩
      | skip =>
        rw [evC_succ] at h; simp only [evB] at h
        obtain ⟨q1, q2⟩ := here h
        exact ⟨q1, fun ρ B w a Q hs hf hQ => wp_skip (q2 ρ B w a Q hs hf hQ)⟩
      | label l =>
        rw [evC_succ] at h; simp only [evB] at h
        obtain ⟨q1, q2⟩ := here h
        exact ⟨q1, fun ρ B w a Q hs hf hQ => wp_label (q2 ρ B w a Q hs hf hQ)⟩
      | exit id =>
        rw [evC_succ] at h; simp only [evB] at h
        obtain ⟨q1, q2⟩ := here h
        exact ⟨q1, fun ρ B w a Q hs hf hQ => wp_exit (q2 ρ B w a Q hs hf hQ)⟩
      | ret =>
        rw [evC_succ] at h; simp only [evB] at h
        obtain ⟨q1, q2⟩ := here h
        exact ⟨q1, fun ρ B w a Q hs hf hQ => wp_ret (q2 ρ B w a Q hs hf hQ)⟩
      | region id ops draw =>
        rw [evC_succ] at h; simp only [evB] at h
        exact evRegion_ok hm hi hsp h
      | seq x y =>
        rw [evC_succ] at h; simp only [evB] at h
        cases h1 : evC E n x s with
        | none => rw [h1] at h; simp [evSeq] at h
        | some r =>
          obtain ⟨e1, s1⟩ := r
          rw [h1] at h
          cases e1 with
          | nrm =>
            simp only [evSeq] at h
            refine ⟨fun hw => ?_, fun ρ B w a Q hs hf hQ => ?_⟩
            · obtain ⟨k1, w1⟩ := hi.keep _ _ _ _ h1 hw
              obtain ⟨k2, w2⟩ := hi.keep _ _ _ _ h w1
              exact ⟨k1.trans k2, w2⟩
            · obtain ⟨k1, w1⟩ := hi.keep _ _ _ _ h1 hs.sim.wf
              obtain ⟨k2, w2⟩ := hi.keep _ _ _ _ h w1
              refine wp_seq (hi.wp _ _ _ _ h1 ρ B w a _ hs (hf.cut k2.n) fun ρ1 a1 w1 st1 => ?_)
              show y.wp E.P Q a1 w1
              exact hi.wp _ _ _ _ h ρ1 B w1 a1 Q st1.sr (hf.next st1.rin k1.n) fun ρ2 a2 w2 st2 => hQ _ _ _ (st1.trans st2 k1.n k2.n (hf.cut k2.n))
          | ext id =>
            simp only [evSeq, Option.some.injEq, Prod.mk.injEq] at h; obtain ⟨rfl, rfl⟩ := h
            exact ⟨hi.keep _ _ _ _ h1, fun ρ B w a Q hs hf hQ => wp_seq (hi.wp _ _ _ _ h1 ρ B w a _ hs hf fun ρ1 a1 w1 st1 => hQ _ _ _ st1)⟩
          | ret =>
            simp only [evSeq, Option.some.injEq, Prod.mk.injEq] at h; obtain ⟨rfl, rfl⟩ := h
            exact ⟨hi.keep _ _ _ _ h1, fun ρ B w a Q hs hf hQ => wp_seq (hi.wp _ _ _ _ h1 ρ B w a _ hs hf fun ρ1 a1 w1 st1 => hQ _ _ _ st1)⟩
      | cond x y z =>
        rw [evC_succ] at h; simp only [evB] at h
        unfold evCond at h
        split at h
        · rename_i hx
          exact ⟨hi.keep _ _ _ _ h, fun ρ B w a Q hs hf hQ => wp_cond_true ((hs.ev x _ hx).sc_inv) (hi.wp _ _ _ _ h ρ B w a Q hs hf hQ)⟩
        · rename_i hx
          exact ⟨hi.keep _ _ _ _ h, fun ρ B w a Q hs hf hQ => wp_cond_false ((hs.ev x _ hx).sc_inv) (hi.wp _ _ _ _ h ρ B w a Q hs hf hQ)⟩
        · cases h
      | block id b =>
        rw [evC_succ] at h; simp only [evB] at h
        cases h1 : evC E n b s with
        | none => rw [h1] at h; simp [evBlock] at h
        | some r =>
          obtain ⟨e1, s1⟩ := r
          rw [h1] at h
          cases e1 with
          | nrm =>
            simp only [evBlock, Option.some.injEq, Prod.mk.injEq] at h; obtain ⟨rfl, rfl⟩ := h
            exact ⟨hi.keep _ _ _ _ h1, fun ρ B w a Q hs hf hQ => wp_block (hi.wp _ _ _ _ h1 ρ B w a _ hs hf fun ρ1 a1 w1 st1 => hQ _ _ _ st1)⟩
          | ret =>
            simp only [evBlock, Option.some.injEq, Prod.mk.injEq] at h; obtain ⟨rfl, rfl⟩ := h
            exact ⟨hi.keep _ _ _ _ h1, fun ρ B w a Q hs hf hQ => wp_block (hi.wp _ _ _ _ h1 ρ B w a _ hs hf fun ρ1 a1 w1 st1 => hQ _ _ _ st1)⟩
          | ext i =>
            simp only [evBlock] at h
            by_cases e2 : i = id
            · rw [if_pos e2] at h
              simp only [Option.some.injEq, Prod.mk.injEq] at h; obtain ⟨rfl, rfl⟩ := h
              refine ⟨hi.keep _ _ _ _ h1, fun ρ B w a Q hs hf hQ => wp_block (hi.wp _ _ _ _ h1 ρ B w a _ hs hf fun ρ1 a1 w1 st1 => ?_)⟩
              simp only [exOf, Exit.inBlock, e2, if_true]
              exact hQ _ _ _ st1
            · rw [if_neg e2] at h
              simp only [Option.some.injEq, Prod.mk.injEq] at h; obtain ⟨rfl, rfl⟩ := h
              refine ⟨hi.keep _ _ _ _ h1, fun ρ B w a Q hs hf hQ => wp_block (hi.wp _ _ _ _ h1 ρ B w a _ hs hf fun ρ1 a1 w1 st1 => ?_)⟩
              simp only [exOf, Exit.inBlock, e2, if_false]
              exact hQ _ _ _ st1
      | _ => rw [evC_succ] at h; simp [evB] at h
    exact ⟨fun c s e s' h => (hall c s e s' h).1, fun c s e s' h => (hall c s e s' h).2, fun b s e s' h => (hloop b s e s' h).2⟩
theorem callC_ok (hm : E.P.follows .mixedOrders = true) (hsp : CallOk E.P E.glob (spCall E)) (n : Nat) : CallOk E.P E.glob (callA E (evC E n)) := callA_ok (evC_ok hm hsp n) hsp
end
end Go.Eng
end
section
set_option linter.unusedVariables false
set_option linter.unusedSimpArgs false
namespace Go.Eng
open Go Go.RowKit

noncomputable def allO (g : AV → Option AV) : List AV → Option (List AV)
  | [] => some []
  | x :: l => match g x, allO g l with
    | some y, some r => some (y :: r)
    | _, _ => none
noncomputable def frzB (own : Bool) (hp : Hp) (ih : AV → Option AV) : AV → Option AV
  | .sc v => some (.sc v)
  | .any => some .any
  | .ptr b off => match hp.get b with
    | some ⟨cs, true⟩ => if off ≤ cs.length then (match allO ih (cs.drop off) with
      | some l => some (.rp own l)
      | none => none) else none
    | _ => none
  | .sl b off len cap sz => match hp.read b off (len * sz) with
    | some cs => (match allO ih cs with
      | some l => some (.ro own l len cap sz)
      | none => none)
    | none => none
  | .ro w cs len cap sz => if (!own || w) = true then (match allO ih cs with
    | some l => some (.ro own l len cap sz)
    | none => none) else none
  | .rp w cs => if (!own || w) = true then (match allO ih cs with
    | some l => some (.rp own l)
    | none => none) else none
  | .fn f a b => match allO ih a, allO ih b with
    | some a, some b => some (.fn f a b)
    | _, _ => none
  | .ifc t v => match ih v with
    | some v => some (.ifc t v)
    | none => none
  | .agg cs => match allO ih cs with
    | some l => some (.agg l)
    | none => none
  | .tup cs => match allO ih cs with
    | some l => some (.tup l)
    | none => none
noncomputable def frz (own : Bool) (hp : Hp) (n : Nat) : AV → Option AV :=
  Nat.rec (motive := fun _ => AV → Option AV) (fun _ => none) (fun _ ih => frzB own hp ih) n
theorem frz_zero (own : Bool) (hp : Hp) (a : AV) : frz own hp 0 a = none := rfl
theorem frz_succ (own : Bool) (hp : Hp) (n : Nat) (a : AV) : frz own hp (n + 1) a = frzB own hp (frz own hp n) a := rfl

section
variable {ρ ρ1 : Rho} {B B1 : Nat} {w : World}
theorem allO_get {g : AV → Option AV} : ∀ {l r : List AV}, allO g l = some r → r.length = l.length ∧ ∀ (i : Nat) y, r[i]? = some y → ∃ x, l[i]? = some x ∧ g x = some y := by
  intro l
  induction l with
  | nil => intro r h; simp only [allO] at h; injection h with h; subst h; exact ⟨rfl, fun i y hy => by simp at hy⟩
  | cons x l ih =>
    intro r h
    simp only [allO] at h
    split at h
    · rename_i y r' hy hr
      injection h with h; subst h
      obtain ⟨h1, h2⟩ := ih hr
      refine ⟨by simp [h1], fun i z hz => ?_⟩
      cases i with
      | zero => simp at hz; subst hz; exact ⟨x, rfl, hy⟩
      | succ i => simp at hz; simpa using h2 i z hz
    · cases h
theorem frz_ok {hp : Hp} (hs : Sim ρ B w hp) {own : Bool} (hC : ∀ c, (own = true → B ≤ c) → ¬ Managed ρ1 c ∧ (own = true → B1 ≤ c)) : ∀ (n : Nat) {a t : AV} {v : Value}, frz own hp n a = some t → VR ρ B w a v → VR ρ1 B1 w t v := by
  intro n
  induction n with
  | zero => intro a t v h; rw [frz_zero] at h; cases h
  | succ n ih =>
    intro a t v h hv
    have hlist : ∀ {l r : List AV} {vs : List Value}, allO (frz own hp n) l = some r → VRs ρ B w l vs → VRs ρ1 B1 w r vs := by
      intro l r vs hl hvs
      obtain ⟨h1, h2⟩ := allO_get hl
      refine ⟨by rw [h1, hvs.1], fun i x y hx hy => ?_⟩
      obtain ⟨z, hz, hg⟩ := h2 i x hx
      exact ih hg (hvs.2 i z y hz hy)
    rw [frz_succ] at h
    cases a with
    | sc u => simp only [frzB] at h; injection h with h; subst h; rw [hv.sc_inv]; exact .sc u
    | any => simp only [frzB] at h; injection h with h; subst h; exact .any
    | ptr b off =>
      simp only [frzB] at h
      split at h
      · rename_i cs hg
        split at h
        · rename_i hoff
          split at h
          · rename_i l hl
            injection h with h; subst h
            obtain ⟨k, hk, rfl⟩ := hv.ptr_inv
            obtain ⟨hm, hb⟩ := hC k.c (fun _ => (hs.new b k hk).1)
            obtain ⟨k', hk', arr, el, c1, c2, c3, c4⟩ := hs.blk b cs hg
            rw [hk] at hk'; injection hk' with hk'; subst hk'
            obtain ⟨q1, q2⟩ := allO_get hl
            have hlen : l.length = cs.length - off := by rw [q1]; simp
            refine .rp (fun i => (arr[k.sh + off + i]?).getD undef) hm hb (fun i hi => ?_) (hs.new b k hk).2 (fun i x hx => ?_)
            · have hlt : k.sh + off + i < arr.size := by omega
              simp only [World.cell?, c1]
              simp [hlt]
            · obtain ⟨z, hz, hgz⟩ := q2 i x hx
              rw [List.getElem?_drop] at hz
              obtain ⟨y, hy, hvy⟩ := c4 _ _ hz
              rw [show k.sh + (off + i) = k.sh + off + i from by omega] at hy
              rw [hy]
              exact ih hgz hvy
          · cases h
        · cases h
      · cases h
    | sl b off len cap sz =>
      simp only [frzB] at h
      split at h
      · rename_i cs hrd
        split at h
        · rename_i l hl
          injection h with h; subst h
          obtain ⟨k, ck, o, rfl, hk, g1, g2, g3, g4⟩ := hv.sl_inv
          obtain ⟨vs, v1, v2, v3⟩ := read_ok hrd hs hk
          obtain ⟨hm, hb⟩ := hC k.c (fun _ => (hs.new b k hk).1)
          have hv2 := hlist hl v2
          have hlen : l.length = len * sz := by rw [hv2.1, v1]
          refine .ro (fun i => (vs[i]?).getD undef) hlen g1 g2 (fun _ => by simp) (fun hne => ?_) (fun i x hx => ?_)
          · have hpos : 0 < l.length := List.length_pos_iff.2 hne
            have hck : ck ≠ 0 := by
              intro e; subst e
              have e0 : len = 0 := by omega
              rw [e0, Nat.zero_mul] at hlen; omega
            have ho : o = k.sh + off := by
              rcases g3 with q | q
              · exact absurd q hck
              · exact q
            refine ⟨k.c, o, rfl, hm, hb, fun i hi => ?_⟩
            have hi2 : i < vs.length := by omega
            have := v3 i _ (List.getElem?_eq_getElem hi2)
            rw [addr_add] at this
            rw [ho]
            simp only [List.getElem?_eq_getElem hi2, Option.getD_some]
            exact this
          · obtain ⟨y, hy, hvy⟩ := hv2.get hx
            rw [hy]; exact hvy
        · cases h
      · cases h
    | ro wn cs len cap sz =>
      simp only [frzB] at h
      split at h
      · rename_i hw
        split at h
        · rename_i l hl
          injection h with h; subst h
          obtain ⟨a, ck, ys, rfl, h1, h2, h3, h4, h5, h6⟩ := hv.ro_inv
          obtain ⟨q1, q2⟩ := allO_get hl
          refine .ro ys (by rw [q1]; exact h1) h2 h3 h4 (fun hne => ?_) (fun i x hx => ?_)
          · have hne' : cs ≠ [] := by
              intro e; subst e
              exact hne (List.eq_nil_of_length_eq_zero (by rw [q1]; rfl))
            obtain ⟨c, o, ha, hm, hb, hcell⟩ := h5 hne'
            obtain ⟨hm', hb'⟩ := hC c (fun ho => hb (by subst ho; simpa using hw))
            exact ⟨c, o, ha, hm', hb', fun i hi => hcell i (by omega)⟩
          · obtain ⟨z, hz, hg⟩ := q2 i x hx
            exact ih hg (h6 i z hz)
        · cases h
      · cases h
    | rp wn cs =>
      simp only [frzB] at h
      split at h
      · rename_i hw
        split at h
        · rename_i l hl
          injection h with h; subst h
          cases hv with
          | rp ys hm hb hcell hlt h6 =>
            obtain ⟨q1, q2⟩ := allO_get hl
            obtain ⟨hm', hb'⟩ := hC _ (fun ho => hb (by subst ho; simpa using hw))
            refine .rp ys hm' hb' (fun i hi => hcell i (by omega)) hlt (fun i x hx => ?_)
            obtain ⟨z, hz, hg⟩ := q2 i x hx
            exact ih hg (h6 i z hz)
        · cases h
      · cases h
    | fn f x y =>
      simp only [frzB] at h
      split at h
      · rename_i x' y' hx hy
        injection h with h; subst h
        obtain ⟨lv, cv, rfl, h1, h2⟩ := hv.fn_inv
        have k1 := hlist hx h1
        have k2 := hlist hy h2
        exact .fn k1.1 k2.1 k1.2 k2.2
      · cases h
    | ifc ty x =>
      simp only [frzB] at h
      split at h
      · rename_i x' hx
        injection h with h; subst h
        cases hv with
        | ifc h1 => exact .ifc (ih hx h1)
      · cases h
    | agg cs =>
      simp only [frzB] at h
      split at h
      · rename_i l hl
        injection h with h; subst h
        obtain ⟨vs, rfl, h1⟩ := hv.agg_inv
        exact .agg' (hlist hl h1)
      · cases h
    | tup cs =>
      simp only [frzB] at h
      split at h
      · rename_i l hl
        injection h with h; subst h
        obtain ⟨vs, rfl, h1⟩ := hv.tup_inv
        exact .tup' (hlist hl h1)
      · cases h
theorem frzL_ok {hp : Hp} (hs : Sim ρ B w hp) {own : Bool} (hC : ∀ c, (own = true → B ≤ c) → ¬ Managed ρ1 c ∧ (own = true → B1 ≤ c)) {n : Nat} {l r : List AV} {vs : List Value} (h : allO (frz own hp n) l = some r) (hv : VRs ρ B w l vs) : VRs ρ1 B1 w r vs := by
  obtain ⟨h1, h2⟩ := allO_get h
  refine ⟨by rw [h1, hv.1], fun i x y hx hy => ?_⟩
  obtain ⟨z, hz, hg⟩ := h2 i x hx
  exact frz_ok hs hC n hg (hv.2 i z y hz hy)
end

/-! ### Calls of trees -/
def noRho : Rho := fun _ => none
theorem noRho_un (c : Nat) : ¬ Managed noRho c := by rintro ⟨b, l, h, _⟩; cases h
structure Fresh (w w' : World) : Prop where
  keep : ∀ c, c < w.heap.size → w'.heap[c]? = w.heap[c]?
  size : w.heap.size ≤ w'.heap.size
  os : w'.os = w.os
  tape : w'.tape = w.tape
  output : w'.output = w.output
def GlobW (G : Globs) (w : World) : Prop := GlobR G noRho 0 w
structure GlobPlain (G : Globs) : Prop where
  rd : ∀ g cs, G.rd g = some cs → ∃ l : List Value, cs = l.map .sc
theorem GlobR.toW {G : Globs} (hG : GlobPlain G) {ρ ρ' : Rho} {B B' : Nat} {w : World} (h : GlobR G ρ B w) (hm : ∀ c, c < w.heap.size → Managed ρ' c → Managed ρ c) : GlobR G ρ' B' w := by
  refine ⟨fun g cs hg => ?_, fun c o hc => ?_⟩
  · obtain ⟨l, rfl⟩ := hG.rd g cs hg
    have := h.1 g _ hg
    cases this with
    | rp ys h1 h2 h3 h4 h5 =>
      refine .rp ys (fun q => h1 (hm _ h4 q)) (fun q => by cases q) h3 h4 (fun i x hx => ?_)
      have hh := h5 i x hx
      rw [List.getElem?_map] at hx
      cases hl : l[i]? with
      | none => rw [hl] at hx; cases hx
      | some y => rw [hl] at hx; injection hx with hx; subst hx; rw [hh.sc_inv]; exact .sc y
  · obtain ⟨h1, h2⟩ := h.2 c o hc
    exact ⟨h1, fun q => h2 (hm c (Array.getElem?_eq_some_iff.1 h1).1 q)⟩
def TreeOk (P : Program) (G : Globs) (g : FuncId) (ts : List AV) (t : AV) : Prop := Enter P g ∧ ∀ w vs, GlobW G w → VRs noRho w.heap.size w ts vs →
  Calls P g ⟨vs⟩ w fun e w' => ∃ y, e = .returned y ∧ Fresh w w' ∧ ∀ (ρ' : Rho) (B' : Nat), (∀ c, w.heap.size ≤ c → ¬ Managed ρ' c ∧ B' ≤ c) → VR ρ' B' w' t y
theorem TreeOk.of_call {P : Program} {G : Globs} (hG : GlobPlain G) {call : CallT} (hc : CallOk P G call) {g : FuncId} {ts : List AV} {v t : AV} {hp : Hp} {n : Nat} (h : call g ts Hp.empty = some (v, hp)) (hf : frz true hp n v = some t) : TreeOk P G g ts t := by
  obtain ⟨h1, h2, h3⟩ := hc g ts Hp.empty v hp h
  refine ⟨h1, fun w vs hw hv => ?_⟩
  have hs : Sim noRho w.heap.size w Hp.empty := Sim.ofEmpty (fun b l hb => by cases hb)
  refine (h3 noRho w.heap.size w vs hs (hw.toW hG fun c _ q => absurd q (noRho_un c)) (Nat.le_refl _) (fun _ _ _ => rfl) hv).mono ?_
  rintro e w' ⟨y, ρ', rfl, hy⟩
  refine ⟨y, rfl, ⟨fun c hc => hy.step.keep c hc fun b l hb => by exact absurd hb (Nat.not_lt_zero b), hy.step.size, hy.step.os, hy.step.tape, hy.step.output⟩, fun ρ1 B1 hC => ?_⟩
  exact frz_ok hy.sim (fun c hc => ⟨(hC c (hc rfl)).1, fun _ => (hC c (hc rfl)).2⟩) n hf hy.val
noncomputable def treeSp (F : List AV → Option AV) : List AV → Hp → Option (AV × Hp) := fun args hp => match allO (frz false hp 20) args with
  | some ts => (match F ts with
    | some t => some (t, hp)
    | none => none)
  | none => none
theorem treeSp_ok {P : Program} {G : Globs} (hG : GlobPlain G) {g : FuncId} {F : List AV → Option AV} (h : ∀ ts t, F ts = some t → TreeOk P G g ts t) {args : List AV} {hp hp' : Hp} {v : AV} (hr : treeSp F args hp = some (v, hp')) :
    Enter P g ∧ (HpWf hp → HpKeep hp hp' ∧ HpWf hp') ∧ ∀ ρ B w vs, Sim ρ B w hp → GlobR G ρ B w → B ≤ w.heap.size → Free ρ hp.n hp'.n → VRs ρ B w args vs → Calls P g ⟨vs⟩ w fun e w' => ∃ y ρ', e = .returned y ∧ Eff ρ B w hp v hp' y w' ρ' := by
  unfold treeSp at hr
  split at hr
  · rename_i ts hts
    split at hr
    · rename_i t ht
      simp only [Option.some.injEq, Prod.mk.injEq] at hr
      obtain ⟨rfl, rfl⟩ := hr
      obtain ⟨h1, h2⟩ := h ts t ht
      refine ⟨h1, fun hw => ⟨HpKeep.refl _, hw⟩, fun ρ B w vs hs hg hB _ hv => ?_⟩
      have hv' : VRs noRho w.heap.size w ts vs := frzL_ok hs (fun c _ => ⟨noRho_un c, fun q => by cases q⟩) hts hv
      refine (h2 w vs (hg.toW hG fun c _ q => absurd q (noRho_un c)) hv').mono ?_
      rintro e w' ⟨y, rfl, hf, hy⟩
      have st : Step hp.n ρ w ρ w' := ⟨fun _ _ q => q, fun _ _ q => .inl q, fun c hc _ => hf.keep c hc, hf.size, hf.os, hf.tape, hf.output⟩
      refine ⟨y, ρ, rfl, st, ⟨fun b cs hb => ?_, hs.inj, fun b l hl => ⟨(hs.new b l hl).1, Nat.lt_of_lt_of_le (hs.new b l hl).2 hf.size⟩, hs.out, hs.low⟩, RhoIn.refl _ _ _, hy ρ B fun c hc => ⟨?_, Nat.le_trans hB hc⟩⟩
      · obtain ⟨l, hl, hcs⟩ := hs.blk b cs hb
        exact ⟨l, hl, hcs.step st (hf.keep l.c (hs.new b l hl).2)⟩
      · rintro ⟨b, l, hl, rfl⟩
        have := (hs.new b l hl).2
        omega
    · cases hr
  · cases hr
end Go.Eng
end
section
set_option linter.unusedVariables false
set_option linter.unusedSimpArgs false
namespace Go.Eng
open Go Go.RowKit
section
variable {E : Env} {ds : List Deferred} {ρ : Rho} {B : Nat} {w w' : World} {a : Act}
theorem VR.quiet (hc : ∀ (c o : Nat) y, w.cell? ⟨c, o, none⟩ = some y → w'.cell? ⟨c, o, none⟩ = some y) (hs : w.heap.size ≤ w'.heap.size) {x : AV} {v : Value} (h : VR ρ B w x v) : VR ρ B w' x v := by
  induction h with
  | sc v => exact .sc v
  | ptr h => exact .ptr h
  | sl h h1 h2 h3 h4 => exact .sl h h1 h2 h3 h4
  | ro ys h1 h2 h3 h4 h5 h6 ih =>
    refine .ro ys h1 h2 h3 h4 (fun hne => ?_) ih
    obtain ⟨c, o, ha, hm, hB, hcell⟩ := h5 hne
    exact ⟨c, o, ha, hm, hB, fun i hi => hc _ _ _ (hcell i hi)⟩
  | rp ys hm hB hcell hlt h6 ih => exact .rp ys hm hB (fun i hi => hc _ _ _ (hcell i hi)) (Nat.lt_of_lt_of_le hlt hs) ih
  | fn h1 h2 h3 h4 ih1 ih2 => exact .fn h1 h2 ih1 ih2
  | ifc h ih => exact .ifc ih
  | agg h1 h2 ih => exact .agg h1 ih
  | tup h1 h2 ih => exact .tup h1 ih
  | any => exact .any
theorem cell_putObj {l : Nat} {o o' : Obj} (hl : w.heap[l]? = some o) (hn : ∀ (i : Nat) y, w.cell? ⟨l, i, none⟩ ≠ some y) (c i : Nat) (y : Value) (h : w.cell? ⟨c, i, none⟩ = some y) : (w.putObj l o').cell? ⟨c, i, none⟩ = some y := by
  by_cases e : c = l
  · subst e; exact absurd h (hn i y)
  · rw [← h]
    exact World.cell?_of_block (w := w) (World.putObj_heap_other e)
theorem Sim.putObj {hp : Hp} (h : Sim ρ B w hp) {l : Nat} {o o' : Obj} (hl : w.heap[l]? = some o) (hn : ∀ (i : Nat) y, w.cell? ⟨l, i, none⟩ ≠ some y) (hm : ¬ Managed ρ l) : Sim ρ B (w.putObj l o') hp := by
  refine ⟨fun b cs hb => ?_, h.inj, fun b k hk => by rw [World.putObj_size]; exact h.new b k hk, h.out, h.low⟩
  obtain ⟨k, hk, arr, el, h1, h2, h3, h4⟩ := h.blk b cs hb
  refine ⟨k, hk, arr, el, ?_, h2, h3, fun i x hx => ?_⟩
  · rw [World.putObj_heap_other (fun e => hm ⟨b, k, hk, e⟩)]; exact h1
  · obtain ⟨y, hy, hv⟩ := h4 i x hx
    exact ⟨y, hy, hv.quiet (cell_putObj hl hn) (by rw [World.putObj_size]; exact Nat.le_refl _)⟩
theorem Step.putObj {n : Nat} {ρ0 : Rho} {w0 : World} (h : Step n ρ0 w0 ρ w) {l : Nat} (o' : Obj) (hl : w0.heap.size ≤ l) : Step n ρ0 w0 ρ (w.putObj l o') :=
  ⟨h.ext, h.man, fun c hc hm => by rw [World.putObj_heap_other (by omega)]; exact h.keep c hc hm, by rw [World.putObj_size]; exact h.size, h.os, h.tape, h.output⟩
theorem no_cells_loop {l : Nat} {r : Loop} (hl : w.heap[l]? = some (.loop r)) (i : Nat) (y : Value) : w.cell? ⟨l, i, none⟩ ≠ some y := by
  simp [World.cell?, hl]
theorem no_cells_def {l : Nat} {r : Option (List Deferred)} (hl : w.heap[l]? = some (.deferred r)) (i : Nat) (y : Value) : w.cell? ⟨l, i, none⟩ ≠ some y := by
  simp [World.cell?, hl]
theorem wp_range {call : CallT} (hc : CallOk E.P E.glob call) {s : St} (hr : SR E ds ρ B w s a) {x : Operand} {f : FuncId} {first cap : List AV} (hx : evalA E s x = some (.fn f first cap)) {v : AV} {hp3 : Hp} (hcall : call f ((first ++ [.any]) ++ cap) s.hp = some (v, hp3)) (hf : Free ρ s.hp.n hp3.n)
    {ps : Array Tmp} {as bd : Code} {Q : Exit → Act → World → Prop}
    (hQ : ∀ r ρ' a' w', SStep E ({ target := .collected r, args := #[] } :: ds) ρ B w s.hp.n (s.withHp hp3) ρ' a' w' → w.heap.size ≤ r → w'.heap[r]? = some (.deferred (some [])) → ¬ Managed ρ' r → Q .normal a' w') :
    (Code.rangeFunc x ps as bd).wp E.P Q a w := by
  rw [← wpIn_wide (n := 0)]
  refine wpIn_rangeFunc fun fn _ => ?_
  obtain ⟨h1, h2, h3⟩ := hc _ _ _ _ _ hcall
  obtain ⟨lv, cv, hv, hr1, hr2⟩ := (hr.ev x _ hx).fn_inv
  let rec_ : Loop := { state := .ready, pending := none, fn := fn, tmps := a.tmps, params := ps, assign := as, body := bd, defers := w.heap.size }
  have hnr : ¬ Managed ρ w.heap.size := hr.sim.notNew
  let W1 := w.alloc (.deferred (some []))
  let W := W1.alloc (.loop rec_)
  have sizeW1 : W1.heap.size = w.heap.size + 1 := by simp [W1]
  have sizeW : W.heap.size = w.heap.size + 2 := by simp [W, W1]
  have st : Step s.hp.n ρ w ρ W := (Step.allocOnly s.hp.n ρ w (.deferred (some []))).trans (Step.allocOnly s.hp.n ρ W1 (.loop rec_)) (Free.self _ _)
  have sim : Sim ρ B W s.hp := (hr.sim.allocOnly _).allocOnly _
  have hrW : W.heap[w.heap.size]? = some (.deferred (some [])) := by
    have := World.alloc_heap_new w (.deferred (some []))
    have k := Below.heap_alloc W1 (.loop rec_) w.heap.size (by omega)
    rw [k]; exact this
  have hlW : W.heap[w.heap.size + 1]? = some (.loop rec_) := by
    have := World.alloc_heap_new W1 (.loop rec_)
    rw [sizeW1] at this; exact this
  have hcalls := h3 ρ B W ((lv ++ [.func (.yield (w.heap.size + 1)) #[] #[]]) ++ cv) sim (hr.gl.step st) (by have := hr.hB; omega) hf
    (((hr1.step st).append (VRs.cons .any VRs.nil)).append (hr2.step st))
  refine ⟨w.heap.size + 1, [{ target := .collected w.heap.size, args := #[] }], W, { target := .fn (.func f) ⟨cv⟩, args := ⟨lv⟩ ++ #[.func (.yield (w.heap.size + 1)) #[] #[]] }, W, f, ⟨(lv ++ [.func (.yield (w.heap.size + 1)) #[] #[]]) ++ cv⟩, W, ?_, ?_, ?_, ?_, ?_, ?_⟩
  · exact run_enterLoop_outer fn a.tmps ps as bd
  · simp only [rangeCall, resolve, Sem.run_bind, hv, Deferred.ofValue, Sem.run_pure, Result.andThen]
    rw [arr_map]
    rfl
  · intro f' _; trivial
  · simp only [invoke]
    have e1 : ((⟨lv⟩ : Array Value) ++ #[.func (.yield (w.heap.size + 1)) #[] #[]]) ++ (⟨cv⟩ : Array Value) = ⟨(lv ++ [.func (.yield (w.heap.size + 1)) #[] #[]]) ++ cv⟩ := by
      apply Array.ext'; simp
    rw [e1]
    exact run_callFunc h1 _
  · intro hd; cases hd
  · rw [callsIn_wide]
    refine hcalls.mono ?_
    rintro e w2 ⟨y, ρ', rfl, hy⟩
    have hl2 : w2.heap[w.heap.size + 1]? = some (.loop rec_) := by
      rw [hy.step.keepM (by omega) (fun hm => by
        obtain ⟨b, k, hb, hk⟩ := hm
        have := (hr.sim.new b k hb).2
        omega)]; exact hlW
    have hr2' : w2.heap[w.heap.size]? = some (.deferred (some [])) := by
      rw [hy.step.keepM (by omega) hnr]; exact hrW
    have um : ∀ c, w.heap.size ≤ c → c < w.heap.size + 2 → ¬ Managed ρ' c := fun c c1 c2 hm => by
      rcases hy.step.managed hm with q | q
      · obtain ⟨b, k, hb, hk⟩ := q
        have := (hr.sim.new b k hb).2
        omega
      · omega
    refine ⟨none, _, run_endLoop (r := rec_) hl2 (by simp [rec_]), ?_⟩
    have stAll : Step s.hp.n ρ w ρ' (w2.putObj (w.heap.size + 1) (.loop { rec_ with state := .exhausted })) :=
      (st.trans hy.step (Free.self _ _)).putObj _ (by omega)
    have simAll := hy.sim.putObj (o' := .loop { rec_ with state := .exhausted }) hl2 (no_cells_loop hl2) (um _ (by omega) (by omega))
    refine hQ w.heap.size ρ' { a with defers := _ } _ ⟨stAll, ?_, ?_⟩ (Nat.le_refl _) (by rw [World.putObj_heap_other (by omega)]; exact hr2') (um _ (by omega) (by omega))
    · rw [St.hp_withHp]; exact hy.rin
    · have := hr.world stAll simAll
      exact ⟨this.sim, this.tm, this.nt, this.few, by simp [hr.df], this.gl, this.hB⟩
noncomputable def rangeA (E : Env) (ih : Ih) : CallT := fun g args hp => match fdata E.P g with
  | some (.seq c0 (.seq (.seq c1 (.block id (.rangeFunc x ps as bd))) c2), nt, rs) =>
    if args.length ≤ nt ∧ nt < 1000000 then (match ih c0 ⟨nt, tmOf args 0 .lf, hp⟩ with
      | some (.nrm, s1) => (match ih c1 s1 with
        | some (.nrm, s2) => (match evalA E s2 x with
          | some (.fn f first cap) => (match callA E ih f ((first ++ [.any]) ++ cap) s2.hp with
            | some (_, hp3) => endA E hp.n rs (ih c2 (s2.withHp hp3))
            | none => none)
          | _ => none)
        | _ => none)
      | _ => none) else none
  | _ => none
theorem endA_inv {n0 : Nat} {rs : Array ResultVar} {r : Option (Ex × St)} {v : AV} {hp' : Hp} (h : endA E n0 rs r = some (v, hp')) :
    ∃ e s', r = some (e, s') ∧ (e = .nrm ∨ e = .ret) ∧ resultsA E s' rs = some v ∧ hp' = s'.hp.wlSet (s'.hp.wl.filter (· < n0)) := by
  unfold endA at h
  have bk : ∀ s', backA E n0 rs s' = some (v, hp') → resultsA E s' rs = some v ∧ hp' = s'.hp.wlSet (s'.hp.wl.filter (· < n0)) := by
    intro s' hb
    unfold backA at hb
    split at hb
    · rename_i v' hv
      simp only [Option.some.injEq, Prod.mk.injEq] at hb
      obtain ⟨rfl, rfl⟩ := hb
      exact ⟨hv, rfl⟩
    · cases hb
  split at h
  · rename_i s' 
    obtain ⟨q1, q2⟩ := bk s' h
    exact ⟨_, s', rfl, .inl rfl, q1, q2⟩
  · rename_i s'
    obtain ⟨q1, q2⟩ := bk s' h
    exact ⟨_, s', rfl, .inr rfl, q1, q2⟩
  · cases h
theorem fdata_inv {P : Program} {g : FuncId} {c : Code} {nt : Nat} {rs : Array ResultVar} (h : fdata P g = some (c, nt, rs)) : ∃ fn, P.funcs[g]? = some fn ∧ Enter P g ∧ fn.body = some c ∧ fn.ntmps = nt ∧ fn.results = rs := by
  unfold fdata at h
  split at h
  · rename_i fn hfn
    split at h
    · cases h
    · rename_i hname
      split at h
      · rename_i c' hbody
        simp only [Option.some.injEq, Prod.mk.injEq] at h
        obtain ⟨rfl, rfl, rfl⟩ := h
        exact ⟨fn, hfn, ⟨fn, hfn, by simpa using hname, by rw [hbody]; rfl⟩, hbody, rfl, rfl⟩
      · cases h
  · cases h
theorem HpKeep.filt {hp hp' : Hp} (k : HpKeep hp hp') : HpKeep hp (hp'.wlSet (hp'.wl.filter (· < hp.n))) := by
  refine ⟨by rw [Hp.n_wlSet]; exact k.n, fun b hb hm => ?_, fun b hb hm => ?_⟩
  · rw [Hp.wl_wlSet]
    exact List.mem_filter.2 ⟨k.wl b hb hm, by simpa using hb⟩
  · rw [Hp.wl_wlSet] at hm
    rw [Hp.get_wlSet]
    exact k.get b hb fun q => hm (List.mem_filter.2 ⟨q, by simpa using hb⟩)
theorem rangeA_ok {n : Nat} {ih : Ih} (hi : IhOk E n ih) (hsp : CallOk E.P E.glob (spCall E)) : CallOk E.P E.glob (rangeA E ih) := by
  have hc := callA_ok hi hsp
  intro g args hp v hp' h
  unfold rangeA at h
  split at h
  · rename_i c0 c1 id x ps as bd c2 nt rs hfd
    obtain ⟨fn, hfn, hent, hbody, rfl, rfl⟩ := fdata_inv hfd
    split at h
    · rename_i hsz
      split at h
      · rename_i s1 h1
        split at h
        · rename_i s2 h2
          split at h
          · rename_i f first cap hx
            split at h
            · rename_i v3 hp3 h3
              obtain ⟨e, s4, h4, he, hres, rfl⟩ := endA_inv h
              have keeps : HpWf hp → (HpKeep hp s1.hp ∧ HpWf s1.hp) ∧ (HpKeep s1.hp s2.hp ∧ HpWf s2.hp) ∧ (HpKeep s2.hp hp3 ∧ HpWf hp3) ∧ (HpKeep hp3 s4.hp ∧ HpWf s4.hp) := fun hw => by
                have k1 := hi.keep _ _ _ _ h1 hw
                have k2 := hi.keep _ _ _ _ h2 k1.2
                have k3 := (hc _ _ _ _ _ h3).2.1 k2.2
                have k4 := hi.keep _ _ _ _ h4 (by rw [St.hp_withHp]; exact k3.2)
                rw [St.hp_withHp] at k4
                exact ⟨k1, k2, k3, k4⟩
              refine ⟨hent, fun hw => ?_, fun ρ B w vs hs hg hB hf hv => ?_⟩
              · obtain ⟨k1, k2, k3, k4⟩ := keeps hw
                exact ⟨(((k1.1.trans k2.1).trans k3.1).trans k4.1).filt, k4.2.wlSet _⟩
              · obtain ⟨k1, k2, k3, k4⟩ := keeps hs.wf
                have n1 := k1.1.n
                have n2 := k2.1.n
                have n3 := k3.1.n
                have n4 := k4.1.n
                rw [Hp.n_wlSet] at hf
                rw [← callsIn_wide (n := 0)]
                refine callsIn_of_wp_marks hfn hbody trivial ?_
                rw [wpIn_wide]
                refine wp_seq (hi.wp _ _ _ _ h1 ρ B w _ _ (SR.enter hsz.1 hsz.2 hs hg hB hv) (hf.cut (by omega)) fun ρ1 a1 w1 st1 => ?_)
                refine wp_seq (wp_seq (hi.wp _ _ _ _ h2 ρ1 B w1 a1 _ st1.sr ((hf.next st1.rin n1).cut (by omega)) fun ρ2 a2 w2 st2 => ?_))
                refine wp_block (wp_range hc st2.sr hx h3 ((hf.next st1.rin n1).next st2.rin n2 |>.cut (by omega)) fun r ρ3 a3 w3 st3 hrw hrd hrm => ?_)
                have e3 : (s2.withHp hp3).hp.n = hp3.n := by rw [St.hp_withHp]
                have rin3 := st3.rin
                rw [e3] at rin3
                refine hi.wp _ _ _ _ h4 ρ3 B w3 a3 _ st3.sr (by rw [e3]; exact ((hf.next st1.rin n1).next st2.rin n2).next rin3 n3) fun ρ4 a4 w4 st4 => ?_
                have st4' := st4.step
                have rin4 := st4.rin
                rw [e3] at st4' rin4
                have hrlt : r < w3.heap.size := (Array.getElem?_eq_some_iff.1 hrd).1
                have hr4 : w4.heap[r]? = some (.deferred (some [])) := by rw [st4'.keepM hrlt hrm]; exact hrd
                have hm4 : ¬ Managed ρ4 r := fun hm => by
                  rcases st4'.managed hm with q | q
                  · exact hrm q
                  · omega
                have hw1 := st1.step.size
                have hw2 := st2.step.size
                have stAll : Step hp.n ρ w ρ4 w4 := ((st1.step.trans st2.step (hf.cut (by omega))).trans (st3.step) (hf.cut (by omega))).trans st4' (hf.cut (by omega))
                have rinAll : RhoIn ρ ρ4 hp.n s4.hp.n := ((st1.rin.trans st2.rin n1 n2).trans rin3 (Nat.le_trans n1 n2) n3).trans rin4 (Nat.le_trans (Nat.le_trans n1 n2) n3) n4
                have stF : Step hp.n ρ w ρ4 (w4.putObj r (.deferred none)) := stAll.putObj _ (by omega)
                have simF := st4.sr.sim.putObj (o' := .deferred none) hr4 (no_cells_def hr4) hm4
                have srF : SR E a4.defers ρ4 B (w4.putObj r (.deferred none)) s4 a4 :=
                  ⟨simF, fun t => (st4.sr.tm t).quiet (cell_putObj hr4 (no_cells_def hr4)) (by rw [World.putObj_size]; exact Nat.le_refl _), st4.sr.nt, st4.sr.few, rfl, hg.step stF, by rw [World.putObj_size]; exact st4.sr.hB⟩
                obtain ⟨y, hy, hvy⟩ := results_ok srF hres
                have fin : LeavesInM Fence.wide 0 E.P fn a4.tmps (fun e w' => ∃ y ρ', e = .returned y ∧ Eff ρ B w hp v (s4.hp.wlSet (s4.hp.wl.filter (· < hp.n))) y w' ρ') a4.defers .returning w4 := by
                  rw [st4.sr.df]
                  refine ⟨by simp, .inl ⟨r, _, rfl, run_takeDeferred hr4, ?_⟩⟩
                  exact ⟨y, hy, y, ρ4, rfl, stF, simF.wlSet _, by rw [Hp.n_wlSet]; exact rinAll, hvy⟩
                rcases he with rfl | rfl
                · exact fin
                · exact fin
            · cases h
          · cases h
        · cases h
      · cases h
    · cases h
  · cases h
end
end Go.Eng
end
section
set_option linter.unusedVariables false
set_option linter.unusedSimpArgs false
namespace Go.Eng
open Go Go.RowKit
def DefQuiet (P : Program) (f : FuncId) (n : Nat) : Prop := Enter P f ∧ ∀ (vs : List Value) (w : World), vs.length = n → CallsD P f ⟨vs⟩ .returning w fun e u' w' => ∃ y, e = .returned y ∧ u' = .returning ∧ w' = w
section
variable {E : Env} {ds : List Deferred} {ρ : Rho} {B : Nat} {w w' : World} {a : Act}
noncomputable def deferB (E : Env) (ih : Ih) (quiet : FuncId → Nat → Bool) (n0 : Nat) (rs : Array ResultVar) (o1 o2 : Oper) (rest : Code) (s2 : St) : Option (AV × Hp) := match o1.guard, o2.guard, o2.dst, o2.op with
  | none, none, none, .defer ⟨.value x, args, _⟩ => (match clsOf E.P o1.op, opPure E.P (evalA E s2) o1.type o1.op with
    | .pure, some v1 => (match s2.put o1.dst v1 with
      | some s3 => (match evalA E s3 x, evL (evalA E s3) args.toList with
        | some (.fn f first cap), some l => if quiet f ((first ++ l) ++ cap).length = true then endA E n0 rs (ih rest s3) else none
        | _, _ => none)
      | none => none)
    | _, _ => none)
  | _, _, _, _ => none
noncomputable def deferA (E : Env) (ih : Ih) (quiet : FuncId → Nat → Bool) : CallT := fun g args hp => match fdata E.P g with
  | some (.seq c0 (.seq c1 (.seq (.region _ ops false) rest)), nt, rs) =>
    if args.length ≤ nt ∧ nt < 1000000 then (match ih c0 ⟨nt, tmOf args 0 .lf, hp⟩ with
      | some (.nrm, s1) => (match ih c1 s1 with
        | some (.nrm, s2) => (match ops.toList with
          | [o1, o2] => deferB E ih quiet hp.n rs o1 o2 rest s2
          | _ => none)
        | _ => none)
      | _ => none) else none
  | _ => none
theorem deferB_inv {ih : Ih} {quiet : FuncId → Nat → Bool} {n0 : Nat} {rs : Array ResultVar} {o1 o2 : Oper} {rest : Code} {s2 : St} {v : AV} {hp' : Hp} (h : deferB E ih quiet n0 rs o1 o2 rest s2 = some (v, hp')) :
    ∃ x args ts v1 s3 f first cap l, o1.guard = none ∧ o2.guard = none ∧ o2.dst = none ∧ o2.op = .defer ⟨.value x, args, ts⟩ ∧ clsOf E.P o1.op = .pure ∧ opPure E.P (evalA E s2) o1.type o1.op = some v1 ∧ s2.put o1.dst v1 = some s3 ∧
      evalA E s3 x = some (.fn f first cap) ∧ evL (evalA E s3) args.toList = some l ∧ quiet f ((first ++ l) ++ cap).length = true ∧ endA E n0 rs (ih rest s3) = some (v, hp') := by
  unfold deferB at h
  split at h
  · rename_i x args ts g1 g2 g3 g4
    split at h
    · rename_i v1 h1 h2
      split at h
      · rename_i s3 h3
        split at h
        · rename_i f first cap l h4 h5
          split at h
          · rename_i h6
            exact ⟨x, args, ts, v1, s3, f, first, cap, l, g1, g2, g3, g4, h1, h2, h3, h4, h5, h6, h⟩
          · cases h
        · cases h
      · cases h
    · cases h
  · cases h
theorem deferA_ok {n : Nat} {ih : Ih} {quiet : FuncId → Nat → Bool} (hq : ∀ f k, quiet f k = true → DefQuiet E.P f k) (hi : IhOk E n ih) (hsp : CallOk E.P E.glob (spCall E)) : CallOk E.P E.glob (deferA E ih quiet) := by
  have hc := callA_ok hi hsp
  intro g args hp v hp' h
  unfold deferA at h
  split at h
  · rename_i c0 c1 id ops rest nt rs hfd
    obtain ⟨fn, hfn, hent, hbody, rfl, rfl⟩ := fdata_inv hfd
    split at h
    · rename_i hsz
      split at h
      · rename_i s1 h1
        split at h
        · rename_i s2 h2
          split at h
          · rename_i o1 o2 hops
            obtain ⟨x, xs, ts, v1, s3, f, first, cap, l, g1, g2, g3, g4, h3, h4, h5, h6, h7, h8, h9⟩ := deferB_inv h
            obtain ⟨e, s4, h10, he, hres, rfl⟩ := endA_inv h9
            have e3 : s3.hp = s2.hp := (St.hp_put h5).1
            have keeps : HpWf hp → (HpKeep hp s1.hp ∧ HpWf s1.hp) ∧ (HpKeep s1.hp s2.hp ∧ HpWf s2.hp) ∧ (HpKeep s2.hp s4.hp ∧ HpWf s4.hp) := fun hw => by
              have k1 := hi.keep _ _ _ _ h1 hw
              have k2 := hi.keep _ _ _ _ h2 k1.2
              have k3 := hi.keep _ _ _ _ h10 (by rw [e3]; exact k2.2)
              rw [e3] at k3
              exact ⟨k1, k2, k3⟩
            refine ⟨hent, fun hw => ?_, fun ρ B w vs hs hg hB hf hv => ?_⟩
            · obtain ⟨k1, k2, k3⟩ := keeps hw
              exact ⟨((k1.1.trans k2.1).trans k3.1).filt, k3.2.wlSet _⟩
            · obtain ⟨k1, k2, k3⟩ := keeps hs.wf
              have n1 := k1.1.n
              have n2 := k2.1.n
              have n3 := k3.1.n
              rw [Hp.n_wlSet] at hf
              refine calls_of_wp_defers hfn hbody ?_
              refine wp_seq (hi.wp _ _ _ _ h1 ρ B w _ _ (SR.enter hsz.1 hsz.2 hs hg hB hv) (hf.cut (by omega)) fun ρ1 a1 w1 st1 => ?_)
              refine wp_seq (hi.wp _ _ _ _ h2 ρ1 B w1 a1 _ st1.sr ((hf.next st1.rin n1).cut (by omega)) fun ρ2 a2 w2 st2 => ?_)
              refine wp_seq (wp_region ?_)
              have eo : ops = #[o1, o2] := by apply Array.ext'; exact hops
              have er : List.range ops.size = [0, 1] := by rw [eo]; rfl
              rw [er, wpOps_cons]
              unfold wpOp
              have i0 : ops[0]? = some o1 := by rw [eo]; rfl
              have i1 : ops[1]? = some o2 := by rw [eo]; rfl
              rw [i0]
              simp only
              rw [if_pos (by simp [Region.wanted, g1])]
              left
              obtain ⟨y1, hrun1, hvy1⟩ := opPure_ok (w := w2) h4 st2.sr.ev
              unfold Oper.wp
              rw [hrun1, Oper.upon_value]
              have sr3 := st2.sr.put h5 hvy1
              rw [wpOps_cons]
              unfold wpOp
              rw [i1]
              simp only
              rw [if_pos (by simp [Region.wanted, g2])]
              left
              obtain ⟨lv, cv, hfv, hr1, hr2⟩ := (sr3.ev x _ h6).fn_inv
              have hal := evL_ok sr3.ev h7
              obtain ⟨dst2, op2, type2, pos2, after2, guard2⟩ := o2
              simp only at g2 g3 g4
              subst g2; subst g3; subst g4
              have hrun2 : (execOp (a2.put o1.dst y1).eval { dst := none, op := .defer ⟨.value x, xs, ts⟩, type := type2, pos := pos2, after := after2, guard := none }).run E.P w2 = .ok (.defer { target := .fn (.func f) ⟨cv⟩, args := ⟨lv⟩ ++ xs.map (a2.put o1.dst y1).eval }) w2 := by
                simp only [execOp, resolve, Sem.run_bind, hfv, Deferred.ofValue, Sem.run_pure, Result.andThen]
              unfold Oper.wp
              rw [hrun2, Oper.upon_defer]
              show rest.wp E.P _ _ _
              have sr4 : SR E ({ target := .fn (.func f) ⟨cv⟩, args := ⟨lv⟩ ++ xs.map (a2.put o1.dst y1).eval } :: (a2.put o1.dst y1).defers) ρ2 B w2 s3 ({ (a2.put o1.dst y1) with defers := { target := .fn (.func f) ⟨cv⟩, args := ⟨lv⟩ ++ xs.map (a2.put o1.dst y1).eval } :: (a2.put o1.dst y1).defers } : Act) :=
                ⟨sr3.sim, sr3.tm, sr3.nt, sr3.few, rfl, sr3.gl, sr3.hB⟩
              refine hi.wp _ _ _ _ h10 ρ2 B w2 _ _ sr4 (by rw [e3]; exact (hf.next st1.rin n1).next st2.rin n2) fun ρ4 a4 w4 st4 => ?_
              have st4' := st4.step
              have rin4 := st4.rin
              rw [e3] at st4' rin4
              have stAll : Step hp.n ρ w ρ4 w4 := (st1.step.trans st2.step (hf.cut (by omega))).trans st4' (hf.cut (by omega))
              have rinAll : RhoIn ρ ρ4 hp.n s4.hp.n := (st1.rin.trans st2.rin n1 n2).trans rin4 (Nat.le_trans n1 n2) n3
              obtain ⟨y, hy, hvy⟩ := results_ok st4.sr hres
              obtain ⟨hqe, hqc⟩ := hq f _ h8
              have dd : (a2.put o1.dst y1).defers = [] := sr3.df
              have fin : Leaves E.P fn a4.tmps (fun e w' => ∃ y ρ', e = .returned y ∧ Eff ρ B w hp v (s4.hp.wlSet (s4.hp.wl.filter (· < hp.n))) y w' ρ') a4.defers .returning w4 := by
                rw [st4.sr.df, dd]
                have ee : ((⟨lv⟩ : Array Value) ++ xs.map (a2.put o1.dst y1).eval) ++ (⟨cv⟩ : Array Value) = ⟨(lv ++ xs.toList.map (a2.put o1.dst y1).eval) ++ cv⟩ := by
                  apply Array.ext'; simp
                have hlen : ((lv ++ xs.toList.map (a2.put o1.dst y1).eval) ++ cv).length = ((first ++ l) ++ cap).length := by
                  have := ((hr1.append hal).append hr2).1
                  exact this.symm
                refine leaves_cons (by simp) (f := f) (args := ⟨(lv ++ xs.toList.map (a2.put o1.dst y1).eval) ++ cv⟩) ?_ ?_
                · simp only [invoke]
                  rw [ee]
                  exact run_callFunc hqe _
                · refine (hqc _ w4 hlen).mono ?_
                  rintro e u' w5 ⟨y5, rfl, rfl, rfl⟩
                  exact ⟨y, hy, y, ρ4, rfl, stAll, st4.sr.sim.wlSet _, by rw [Hp.n_wlSet]; exact rinAll, hvy⟩
              rcases he with rfl | rfl
              · exact fin
              · exact fin
          · cases h
        · cases h
      · cases h
    · cases h
  · cases h
end
end Go.Eng
end
