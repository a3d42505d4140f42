/- A part of the proof that radiolinktop.TopPieces returns true for every list of numbers. -/
import Derived.Test.YtcjpofalahplbaaGreatDoorEngTwo
import Derived.Test.YtcjpofalahplbaaGreatDoorProg
import Derived.WalkKit
import Derived.Tactics
import Derived.Tactics2
import Derived.KernelRfl
section
set_option linter.unusedVariables false
set_option linter.unusedSimpArgs false
namespace Go.Eng
open Go Go.RowKit Go.Proofs
theorem mixed : Tryz.prog.follows .mixedOrders = true := by kernel_rfl
theorem poly_walk (w : World) (bm : Nat) (h0 : w.cell? ⟨1, 0, none⟩ = some (.map (some bm))) (hl : (Instr.lookup 378 (.map (some bm)) (.int .i64 8) true).run Tryz.prog w = .ok (.tuple #[.int .i64 7, .bool true]) w) :
    Calls Tryz.prog 252 #[.int .i64 8] w fun e w' => e = .returned (.tuple #[.int .i64 7, .bool true]) ∧ w' = w := by
  go_enter Tryz.func252, Tryz.ntmps252
  go_wp2
  all_goals go_ret2
  all_goals simp
theorem enter_of {g : FuncId} {fn : Func} (h : Tryz.prog.funcs[g]? = some fn) (hn : (fn.name == "runtime.NumGoroutine") = false) (hb : fn.body.isSome = true) : Enter Tryz.prog g := ⟨fn, h, hn, hb⟩
def lanesL : List Int := [0,4,8,12,1,5,9,13,2,6,10,14,3,7,11,15,0,5,10,15,1,6,11,12,2,7,8,13,3,4,9,14]
def i64 (i : Int) : AV := .sc (.int .i64 i)
def lanesRd : Nat → Option (List AV) := fun g => if g = 0 then some (lanesL.map fun i => .sc (.int .i64 i)) else none
structure Poly where
  o1 : Obj
  bm : Nat
  om : Obj
  cell : ∀ w : World, w.heap[1]? = some o1 → w.cell? ⟨1, 0, none⟩ = some (.map (some bm))
  look : ∀ w : World, w.heap[bm]? = some om → (Instr.lookup 378 (.map (some bm)) (.int .i64 8) true).run Tryz.prog w = .ok (.tuple #[.int .i64 7, .bool true]) w
def GZ (p : Poly) : Globs := ⟨lanesRd, [(1, p.o1), (p.bm, p.om)]⟩
theorem GZ_plain (p : Poly) : GlobPlain (GZ p) := ⟨fun g cs h => by
  simp only [GZ, lanesRd] at h
  split at h
  · injection h with h; subst h
    exact ⟨lanesL.map fun i => .int .i64 i, by simp⟩
  · cases h⟩
theorem VR.int_tup {ρ : Rho} {B : Nat} {w : World} (a b : Value) : VR ρ B w (.tup [.sc a, .sc b]) (.tuple #[a, b]) := .tup' (VRs.cons (.sc a) (VRs.cons (.sc b) VRs.nil))
theorem Fresh.refl (w : World) : Fresh w w := ⟨fun _ _ => rfl, Nat.le_refl _, rfl, rfl, rfl⟩
theorem poly_tree (p : Poly) : TreeOk Tryz.prog (GZ p) 252 [.sc (.int .i64 8)] (.tup [.sc (.int .i64 7), .sc (.bool true)]) := by
  refine ⟨enter_of Tryz.func252 (by kernel_rfl) (by kernel_rfl), fun w vs hg hv => ?_⟩
  obtain ⟨y, l, rfl, hx, hl⟩ := hv.cons_inv
  rw [hl.nil_inv, hx.sc_inv]
  have h1 := p.cell w (hg.2 1 p.o1 (by simp [GZ])).1
  have h2 := p.look w (hg.2 p.bm p.om (by simp [GZ])).1
  refine (poly_walk w p.bm h1 h2).mono ?_
  rintro e w' ⟨rfl, rfl⟩
  exact ⟨_, rfl, Fresh.refl _, fun ρ' B' _ => VR.int_tup _ _⟩
theorem quiet126 : DefQuiet Tryz.prog 126 2 := by
  refine ⟨enter_of Tryz.func126 (by kernel_rfl) (by kernel_rfl), fun vs w hlen => ?_⟩
  match vs, hlen with
  | [a, b], _ =>
    refine callsD_of_wpS Tryz.func126 rfl fun c₀ cs hu => ?_
    apply wpS_seq
    apply wpS_region
    simp [wpOpsS, go_sem, recoverD, hu, Tryz.ntmps126, Exit.thenS]
    apply wpS_seq
    apply wpS_region
    simp [wpOpsS, go_sem, recoverD, hu, Tryz.ntmps126, Exit.thenS]
    refine wpS_cond (t := false) (by simp [Act.eval, Array.replicate]) ?_
    simp only [Bool.false_eq_true, if_false]
    refine wpS_of_wp (wp_skip ?_)
    cases c₀
    simp_all [bodyPostS, results, Tryz.results126]
end Go.Eng
end
section
set_option linter.unusedVariables false
set_option linter.unusedSimpArgs false
namespace Go.Eng
open Go Go.RowKit Go.Proofs
def u8 (i : Int) : AV := .sc (.int .u8 i)
def u32 (i : Int) : AV := .sc (.int .u32 i)
def u64 (i : Int) : AV := .sc (.int .u64 i)
def bo (b : Bool) : AV := .sc (.bool b)
def nilS : AV := .sc (.slice none 0 0)
def nilP : AV := .sc (.pointer none)
def ints (l : List Int) : List AV := l.map i64
def by8 (own : Bool) (l : List Int) (len : Nat) (cap : Option Nat) : AV := .ro own (l.map u8) len cap 1

/-! ### Alike -/
def eqV : Value → Value → Bool
  | .int k n, .int k' n' => decide (k = k') && decide (n = n')
  | .bool b, .bool b' => decide (b = b')
  | .slice none a b, .slice none a' b' => decide (a = a') && decide (b = b')
  | .pointer none, .pointer none => true
  | _, _ => false
theorem eqV_ok : ∀ {u v : Value}, eqV u v = true → u = v := by
  intro u v h
  unfold eqV at h
  split at h
  · rw [Bool.and_eq_true] at h
    rw [of_decide_eq_true h.1, of_decide_eq_true h.2]
  · rw [of_decide_eq_true h]
  · rw [Bool.and_eq_true] at h
    rw [of_decide_eq_true h.1, of_decide_eq_true h.2]
  · rfl
  · cases h
def eqL (f : AV → AV → Bool) : List AV → List AV → Bool
  | [], [] => true
  | x :: l, y :: r => f x y && eqL f l r
  | _, _ => false
theorem eqL_ok {f : AV → AV → Bool} (hf : ∀ {a b}, f a b = true → a = b) : ∀ {l r : List AV}, eqL f l r = true → l = r := by
  intro l
  induction l with
  | nil => intro r h; cases r with
    | nil => rfl
    | cons y r => cases h
  | cons x l ih => intro r h; cases r with
    | nil => cases h
    | cons y r =>
      simp only [eqL, Bool.and_eq_true] at h
      rw [hf h.1, ih h.2]
def eqB (f : AV → AV → Bool) : AV → AV → Bool
  | .sc u, .sc v => eqV u v
  | .ro w cs l c z, .ro w' cs' l' c' z' => decide (w = w') && (decide (l = l') && (decide (c = c') && (decide (z = z') && eqL f cs cs')))
  | .rp w cs, .rp w' cs' => decide (w = w') && eqL f cs cs'
  | .agg cs, .agg cs' => eqL f cs cs'
  | .tup cs, .tup cs' => eqL f cs cs'
  | _, _ => false
def eqAV : Nat → AV → AV → Bool
  | 0 => fun _ _ => false
  | n + 1 => eqB (eqAV n)
theorem eqAV_ok : ∀ (n : Nat) {a b : AV}, eqAV n a b = true → a = b := by
  intro n
  induction n with
  | zero => intro a b h; cases h
  | succ n ih =>
    intro a b h
    simp only [eqAV] at h
    unfold eqB at h
    split at h
    · rw [eqV_ok h]
    · simp only [Bool.and_eq_true, decide_eq_true_eq] at h
      obtain ⟨rfl, rfl, rfl, rfl, h⟩ := h
      rw [eqL_ok ih h]
    · simp only [Bool.and_eq_true, decide_eq_true_eq] at h
      obtain ⟨rfl, h⟩ := h
      rw [eqL_ok ih h]
    · rw [eqL_ok ih h]
    · rw [eqL_ok ih h]
    · cases h

/-! ### Tables -/
structure Ent where
  g : Nat
  ts : List AV
  t : AV
def find : List Ent → Nat → List AV → Option AV
  | [], _, _ => none
  | e :: r, g, ts => if (Nat.beq e.g g && eqL (eqAV 20) e.ts ts) = true then some e.t else find r g ts
def hasG : List Ent → Nat → Bool
  | [], _ => false
  | e :: r, g => Nat.beq e.g g || hasG r g
theorem find_ok {l : List Ent} {g : Nat} {ts : List AV} {t : AV} (h : find l g ts = some t) : ∃ e ∈ l, e.g = g ∧ e.ts = ts ∧ e.t = t := by
  induction l with
  | nil => cases h
  | cons e r ih =>
    simp only [find] at h
    split at h
    · rename_i hb
      injection h with h
      rw [Bool.and_eq_true] at hb
      exact ⟨e, List.mem_cons_self, Nat.eq_of_beq_eq_true hb.1, eqL_ok (eqAV_ok 20) hb.2, h⟩
    · obtain ⟨e', h1, h2⟩ := ih h
      exact ⟨e', List.mem_cons_of_mem _ h1, h2⟩
noncomputable def tblSp (l : List Ent) : FuncId → Option (List AV → Hp → Option (AV × Hp)) := fun g =>
  match hasG l g with
  | true => some (treeSp (find l g))
  | false => none
def EntsOk (p : Poly) (l : List Ent) : Prop := ∀ e ∈ l, TreeOk Tryz.prog (GZ p) e.g e.ts e.t
noncomputable def envT (p : Poly) (l : List Ent) : Env := ⟨Tryz.prog, GZ p, tblSp l⟩
theorem envT_ok {p : Poly} {l : List Ent} (h : EntsOk p l) : CallOk (envT p l).P (envT p l).glob (spCall (envT p l)) := by
  intro g args hp v hp' hr
  simp only [spCall, envT, tblSp] at hr
  split at hr
  · rename_i f hf
    split at hf
    · injection hf with hf; subst hf
      exact treeSp_ok (GZ_plain p) (fun ts t ht => by
        obtain ⟨e, h1, h2, h3, h4⟩ := find_ok ht
        subst h2; subst h3; subst h4
        exact h e h1) hr
    · cases hf
  · cases hr
theorem envT_P (p : Poly) (l : List Ent) : (envT p l).P = Tryz.prog := by unfold envT; exact Eq.refl _
def quietZ (f : FuncId) (k : Nat) : Bool := Nat.beq f 126 && Nat.beq k 2
theorem quietZ_ok (f : FuncId) (k : Nat) (h : quietZ f k = true) : DefQuiet Tryz.prog f k := by
  unfold quietZ at h
  rw [Bool.and_eq_true] at h
  rw [Nat.eq_of_beq_eq_true h.1, Nat.eq_of_beq_eq_true h.2]
  exact quiet126
noncomputable def sp2 (E : Env) (n : Nat) : FuncId → Option (List AV → Hp → Option (AV × Hp)) := fun g =>
  match Nat.beq g 93 with
  | true => some (rangeA E (evC E n) 93)
  | false => match Nat.beq g 39 with
    | true => some (deferA E (evC E n) quietZ 39)
    | false => E.sp g
noncomputable def envU (p : Poly) (l : List Ent) (n : Nat) : Env := ⟨Tryz.prog, GZ p, sp2 (envT p l) n⟩
theorem envU_ok {p : Poly} {l : List Ent} (h : EntsOk p l) (n : Nat) : CallOk (envU p l n).P (envU p l n).glob (spCall (envU p l n)) := by
  have h0 := envT_ok h
  have hi := evC_ok (E := envT p l) mixed h0 n
  have hr := rangeA_ok hi h0
  have hd := deferA_ok (quiet := quietZ) (fun f k hq => by rw [envT_P]; exact quietZ_ok f k hq) hi h0
  intro g args hp v hp' hc
  unfold spCall at hc
  split at hc
  · rename_i f hf
    simp only [envU, sp2] at hf
    split at hf
    · rename_i hg
      injection hf with hf; subst hf
      rw [Nat.eq_of_beq_eq_true hg]
      exact hr 93 args hp v hp' hc
    · split at hf
      · rename_i hg
        injection hf with hf; subst hf
        rw [Nat.eq_of_beq_eq_true hg]
        exact hd 39 args hp v hp' hc
      · exact h0 g args hp v hp' (by unfold spCall; rw [hf]; exact hc)
  · cases hc
noncomputable def chk (n : Nat) (E : Env) (g : Nat) (ts : List AV) (t : AV) : Bool := match callA E (evC E n) g ts Hp.empty with
  | some (v, hp) => (match frz true hp 20 v with
    | some u => eqAV 20 u t
    | none => false)
  | none => false
theorem chk_ok {n : Nat} {E : Env} {p : Poly} (hP : E.P = Tryz.prog) (hG : E.glob = GZ p) (hsp : CallOk E.P E.glob (spCall E)) {g : Nat} {ts : List AV} {t : AV} (h : chk n E g ts t = true) : TreeOk Tryz.prog (GZ p) g ts t := by
  unfold chk at h
  split at h
  · rename_i v hp hcall
    split at h
    · rename_i u hu
      have e := eqAV_ok 20 h
      subst e
      have hc := callC_ok (E := E) (by rw [hP]; exact mixed) hsp n
      rw [hP, hG] at hc
      exact TreeOk.of_call (GZ_plain p) hc hcall hu
    · cases h
  · cases h
theorem EntsOk.cons {p : Poly} {l : List Ent} (h : EntsOk p l) {g : Nat} {ts : List AV} {t : AV} (k : TreeOk Tryz.prog (GZ p) g ts t) : EntsOk p (⟨g, ts, t⟩ :: l) := by
  intro e he
  rcases List.mem_cons.1 he with q | q
  · subst q; exact k
  · exact h e q
def tbl0 : List Ent := [⟨252, [.sc (.int .i64 8)], .tup [.sc (.int .i64 7), .sc (.bool true)]⟩]
theorem tbl0_ok (p : Poly) : EntsOk p tbl0 := EntsOk.cons (fun e h => by cases h) (poly_tree p)
end Go.Eng
end
