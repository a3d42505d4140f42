/- A part of the proof that radiolinktop.TopPieces returns true for every list of numbers. -/
import Derived.Test.YtcjpofalahplbaaGreatDoorLvTwo
import Derived.Test.YtcjpofalahplbaaGreatDoorSymOne
import Derived.Test.YtcjpofalahplbaaGreatDoorWkOne
import Derived.Test.YtcjpofalahplbaaGreatDoorWkThree
import Derived.Test.YtcjpofalahplbaaGreatDoorWkFour
import Derived.Test.YtcjpofalahplbaaGreatDoorWkFive
import Derived.Test.YtcjpofalahplbaaGreatDoorWkSix
import Derived.Test.YtcjpofalahplbaaGreatDoorWkSeven
import Derived.Test.YtcjpofalahplbaaGreatDoorWkEight
import Derived.Test.YtcjpofalahplbaaGreatDoorWkTwo
section
set_option linter.unusedVariables false
set_option linter.unusedSimpArgs false
set_option maxRecDepth 100000
namespace Go.Eng
open Go Go.RowKit Go.Proofs
abbrev OkF (p : Poly) (g : Nat) (F : List AV → Option AV) : Prop := ∀ ts t, F ts = some t → TreeOk Tryz.prog (GZ p) g ts t
theorem okOf {p : Poly} {T : List (Nat × (List AV → Option AV))} (h : TabOk p T) {g : Nat} {X : Type} {Pre : X → Prop} {enc : X → List AV} {out : X → AV} (k : ∀ x, Pre x → CallTo (envL p T) g (enc x) Hp.empty fun v hp' => frz true hp' 20 v = some (out x)) : OkF p g (tabF Pre enc out) :=
  TabOk.more h k g _ (by simp [lkT])
theorem ok13 (p : Poly) : OkF p 13 F13 := okOf (TabOk.nil p) (fun x hx => w13 p _ (envL_no rfl) x.1 x.2 hx)
theorem ok84 (p : Poly) : OkF p 84 F84 := okOf (TabOk.nil p) (fun x hx => w84 p _ (envL_no rfl) )
theorem ok183 (p : Poly) : OkF p 183 F183 := okOf (TabOk.nil p) (fun x hx => w183 p _ (envL_no rfl) )
theorem ok107 (p : Poly) : OkF p 107 F107 := okOf (TabOk.nil p) (fun x hx => w107 p _ (envL_no rfl) x)
theorem ok108 (p : Poly) : OkF p 108 F108 := okOf (TabOk.nil p) (fun x hx => w108 p _ (envL_no rfl) x)
theorem ok103 (p : Poly) : OkF p 103 F103 := okOf (TabOk.cons (TabOk.nil p) (ok107 p)) (fun x hx => w103 p _ (envL_no rfl) (envL_sp rfl) x)
theorem ok169 (p : Poly) : OkF p 169 F169 := okOf (TabOk.cons (TabOk.nil p) (ok183 p)) (fun x hx => w169 p _ (envL_no rfl) (envL_sp rfl) x)
theorem ok184 (p : Poly) : OkF p 184 F184 := okOf (TabOk.cons (TabOk.nil p) (ok169 p)) (fun x hx => w184 p _ (envL_no rfl) (envL_sp rfl) x.1 x.2 hx)
theorem ok106 (p : Poly) : OkF p 106 F106 := okOf (TabOk.nil p) (fun x hx => w106 p _ (envL_no rfl) x.1 x.2)
theorem ok289 (p : Poly) : OkF p 289 F289 := okOf (TabOk.nil p) (fun x hx => by
  rcases x with ⟨l, c⟩ | y
  · have h2 : l.length ≤ 2000 := hx.2
    exact w289 p _ (envL_no rfl) l c hx.1 (by omega)
  · exact w289n p _ (envL_no rfl))
theorem ok104 (p : Poly) : OkF p 104 F104 := okOf (TabOk.cons (TabOk.cons (TabOk.nil p) (ok107 p)) (ok84 p)) (fun x hx => w104 p _ (envL_no rfl) (envL_sp rfl) (envL_sp rfl) x.1 x.2.1 x.2.2 hx.1 hx.2.1 hx.2.2)
theorem ok105 (p : Poly) : OkF p 105 F105 := okOf (TabOk.nil p) (fun x hx => w105 p _ (envL_no rfl) x.1 x.2 hx.1 hx.2)
theorem ok31 (p : Poly) : OkF p 31 F31 := okOf (TabOk.cons (TabOk.cons (TabOk.cons (TabOk.cons (TabOk.cons (TabOk.cons (TabOk.nil p) (ok108 p)) (ok107 p)) (ok106 p)) (ok105 p)) (ok104 p)) (ok103 p)) (fun x hx => w31 p _ (envL_no rfl) (envL_sp rfl) (envL_sp rfl) (envL_sp rfl) (envL_sp rfl) (envL_sp rfl) (envL_sp rfl) x.1 x.2.1 x.2.2 hx.1 hx.2.1 hx.2.2.1 hx.2.2.2)
theorem ok32 (p : Poly) : OkF p 32 F32 := okOf (TabOk.cons (TabOk.cons (TabOk.nil p) (ok107 p)) (ok104 p)) (fun x hx => w32 p _ (envL_no rfl) (envL_sp rfl) (envL_sp rfl) x.1 x.2 hx)
theorem ok110 (p : Poly) : OkF p 110 F110 := okOf (TabOk.cons (TabOk.cons (TabOk.cons (TabOk.cons (TabOk.nil p) (ok105 p)) (ok104 p)) (ok103 p)) (ok84 p)) (fun x hx => w110 p _ (envL_no rfl) (envL_sp rfl) (envL_sp rfl) (envL_sp rfl) (envL_sp rfl) x hx)
theorem ok285 (p : Poly) : OkF p 285 F285 := okOf (TabOk.nil p) (fun x hx => w285 p _ (envL_no rfl) x.1 x.2 hx)
theorem ok119 (p : Poly) : OkF p 119 F119 := okOf (TabOk.nil p) (fun x hx => w119 p _ (envL_no rfl) x.1 x.2.1.1 x.2.1.2 x.2.2.1 x.2.2.2 hx.1 hx.2)
theorem ok302 (p : Poly) : OkF p 302 F302 := okOf (TabOk.nil p) (fun x hx => w302 p _ (envL_no rfl) x.1 x.2.1 x.2.2)
theorem ok304 (p : Poly) : OkF p 304 F304 := okOf (TabOk.nil p) (fun x hx => w304 p _ (envL_no rfl) )
theorem ok286 (p : Poly) : OkF p 286 F286 := okOf (TabOk.nil p) (fun x hx => w286 p _ (envL_no rfl) x.1 x.2.1 x.2.2.1 x.2.2.2 hx)
theorem ok228 (p : Poly) : OkF p 228 F228 := okOf (TabOk.nil p) (fun x hx => w228 p _ (envL_no rfl) x.1 x.2.1 x.2.2)
theorem ok112 (p : Poly) : OkF p 112 F112 := okOf (TabOk.cons (TabOk.nil p) (ok184 p)) (fun x hx => w112 p _ (envL_no rfl) (envL_sp rfl) x.1 x.2 hx)
theorem ok142 (p : Poly) : OkF p 142 F142 := okOf (TabOk.nil p) (fun x hx => w142 p _ (envL_no rfl) x.1 x.2 hx)
theorem ok117 (p : Poly) : OkF p 117 F117 := okOf (TabOk.cons (TabOk.nil p) (ok169 p)) (fun x hx => w117 p _ (envL_no rfl) (envL_sp rfl) x.1 x.2 hx)
theorem ok229 (p : Poly) : OkF p 229 F229 := okOf (TabOk.cons (TabOk.nil p) (ok289 p)) (fun x hx => w229 p _ (envL_no rfl) (envL_sp rfl) (envL_no rfl) x.1 x.2.1 x.2.2 hx.1 hx.2.1 hx.2.2.1 hx.2.2.2.1 hx.2.2.2.2)
theorem ok290 (p : Poly) : OkF p 290 F290 := okOf (TabOk.nil p) (fun x hx => w290 p _ (envL_no rfl) (envL_no rfl) x.1 x.2.1 x.2.2 hx.1 hx.2)
theorem ok226 (p : Poly) : OkF p 226 F226 := okOf (TabOk.cons (TabOk.cons (TabOk.nil p) (ok290 p)) (ok289 p)) (fun x hx => by
  rcases x with ⟨l, c, r⟩ | r
  · exact w226 p _ (envL_no rfl) (envL_sp rfl) (envL_sp rfl) l c r hx.1 hx.2.1 hx.2.2.1 hx.2.2.2.1 hx.2.2.2.2
  · exact w226n p _ (envL_no rfl) (envL_sp rfl) (envL_sp rfl) r hx.1 hx.2)
theorem ok323 (p : Poly) : OkF p 323 F323 := okOf (TabOk.cons (TabOk.cons (TabOk.nil p) (ok286 p)) (ok302 p)) (fun x hx => w323 p _ (envL_no rfl) (envL_sp rfl) (envL_sp rfl) x.1 x.2.1 x.2.2 hx.1 hx.2)
theorem ok287 (p : Poly) : OkF p 287 F287 := okOf (TabOk.cons (TabOk.nil p) (ok323 p)) (fun x hx => w287 p _ (envL_no rfl) (envL_sp rfl) x.1 x.2.1 x.2.2 hx.1 hx.2)
theorem ok346 (p : Poly) : OkF p 346 F346 := okOf (TabOk.cons (TabOk.nil p) (ok304 p)) (fun x hx => w346 p _ (envL_no rfl) (envL_sp rfl) x.1 x.2 hx.1 hx.2)
theorem ok303 (p : Poly) : OkF p 303 F303 := okOf (TabOk.cons (TabOk.nil p) (ok346 p)) (fun x hx => w303 p _ (envL_no rfl) (envL_sp rfl) x.1 x.2 hx.1 hx.2)
theorem ok222 (p : Poly) : OkF p 222 F222 := okOf (TabOk.cons (TabOk.nil p) (ok285 p)) (fun x hx => w222 p _ (envL_no rfl) (envL_sp rfl) x.1.1 x.1.2.1 x.1.2.2 x.2.1 x.2.2.1 x.2.2.2 hx)
theorem ok223 (p : Poly) : OkF p 223 F223 := okOf (TabOk.cons (TabOk.nil p) (ok287 p)) (fun x hx => w223 p _ (envL_no rfl) (envL_sp rfl) x.1.1 x.1.2.1 x.1.2.2 x.2.1 x.2.2.1 x.2.2.2 hx)
theorem ok113 (p : Poly) : OkF p 113 F113 := okOf (TabOk.cons (TabOk.nil p) (ok112 p)) (fun x hx => w113 p _ (envL_no rfl) (envL_sp rfl) x.1.1 x.1.2.1 x.1.2.2 x.2 hx)
theorem ok227 (p : Poly) : OkF p 227 F227 := okOf (TabOk.cons (TabOk.nil p) (ok228 p)) (fun x hx => w227 p _ (envL_no rfl) (envL_sp rfl) x.1.1 x.1.2.1 x.1.2.2 x.2)
theorem ok111 (p : Poly) : OkF p 111 F111 := okOf (TabOk.cons (TabOk.nil p) (ok113 p)) (fun x hx => w111 p _ (envL_no rfl) (envL_sp rfl) x.1 x.2 hx)
theorem ok114 (p : Poly) : OkF p 114 F114 := okOf (TabOk.cons (TabOk.cons (TabOk.cons (TabOk.nil p) (ok223 p)) (ok222 p)) (ok112 p)) (fun x hx => w114 p _ (envL_no rfl) (envL_sp rfl) (envL_sp rfl) (envL_sp rfl) x.1 x.2.1 x.2.2.1 x.2.2.2 hx.1 hx.2)
theorem ok244 (p : Poly) : OkF p 244 F244 := okOf (TabOk.cons (TabOk.cons (TabOk.cons (TabOk.cons (TabOk.cons (TabOk.cons (TabOk.nil p) (ok303 p)) (ok229 p)) (ok119 p)) (ok285 p)) (ok287 p)) (ok289 p)) (fun x hx => w244 p _ (envL_no rfl) (envL_sp rfl) (envL_sp rfl) (envL_sp rfl) (envL_sp rfl) (envL_sp rfl) (envL_sp rfl) x hx.1 hx.2)
theorem ok143 (p : Poly) : OkF p 143 F143 := okOf (TabOk.cons (TabOk.cons (TabOk.cons (TabOk.cons (TabOk.nil p) (ok117 p)) (ok112 p)) (ok244 p)) (ok142 p)) (fun x hx => w143 p _ (envL_no rfl) (envL_sp rfl) (envL_sp rfl) (envL_sp rfl) (envL_sp rfl) x hx)
theorem ok102 (p : Poly) : OkF p 102 F102 := fun ts t h => by
  obtain ⟨_, _, rfl, rfl⟩ := tabF_inv h
  exact link_tree p
theorem ok46 (p : Poly) : OkF p 46 F46 := okOf (TabOk.cons (TabOk.cons (TabOk.cons (TabOk.cons (TabOk.nil p) (ok112 p)) (ok143 p)) (ok142 p)) (ok102 p)) (fun x hx => w46 p _ (envL_no rfl) (envL_sp rfl) (envL_sp rfl) (envL_sp rfl) (envL_sp rfl) x hx)
theorem ok122 (p : Poly) : OkF p 122 F122 := okOf (TabOk.cons (TabOk.cons (TabOk.nil p) (ok229 p)) (ok227 p)) (fun x hx => w122 p _ (envL_no rfl) (envL_sp rfl) (envL_sp rfl) x.1 x.2 hx.1 hx.2)
theorem ok34 (p : Poly) : OkF p 34 F34 := okOf (TabOk.cons (TabOk.cons (TabOk.cons (TabOk.nil p) (ok117 p)) (ok122 p)) (ok46 p)) (fun x hx => w34 p _ (envL_no rfl) (envL_sp rfl) (envL_sp rfl) (envL_sp rfl) x hx)
theorem ok28 (p : Poly) : OkF p 28 F28 := okOf (TabOk.nil p) (fun x hx => w28 p _ (envL_no rfl) x.1 x.2.1 x.2.2)
theorem ok10 (p : Poly) : OkF p 10 F10 := okOf (TabOk.nil p) (fun x hx => w10 p _ (envL_no rfl) x)
theorem ok11 (p : Poly) : OkF p 11 F11 := fun ts t h => by
  obtain ⟨_, _, rfl, rfl⟩ := tabF_inv h
  exact awake_tree p
theorem ok21 (p : Poly) : OkF p 21 F21 := fun ts t h => by
  obtain ⟨_, _, rfl, rfl⟩ := tabF_inv h
  exact link21_tree p
theorem ok30 (p : Poly) : OkF p 30 F30 := fun ts t h => by
  obtain ⟨_, _, rfl, rfl⟩ := tabF_inv h
  exact new_tree p
theorem ok33 (p : Poly) : OkF p 33 F33 := okOf (TabOk.cons (TabOk.cons (TabOk.cons (TabOk.cons (TabOk.cons (TabOk.cons (TabOk.cons (TabOk.cons (TabOk.cons (TabOk.nil p) (ok226 p)) (ok119 p)) (ok117 p)) (ok114 p)) (ok112 p)) (ok111 p)) (ok110 p)) (ok108 p)) (ok46 p)) (fun x hx => by
  obtain ⟨m, q⟩ := x
  obtain ⟨st, fi, ok, fit⟩ := hx
  simp only at st fi ok fit ⊢
  cases st with
  | init => exact w33n p _ (envL_no rfl) (envL_sp rfl) (envL_no rfl) (envL_no rfl) (envL_sp rfl) (envL_sp rfl) (envL_sp rfl) (envL_sp rfl) (envL_sp rfl) (envL_no rfl) (envL_sp rfl) (envL_no rfl) (envL_sp rfl) (envL_sp rfl) (envL_no rfl) (envL_no rfl) (envL_no rfl) q ok
  | mid y cap hy hl => exact w33m p _ (envL_no rfl) (envL_sp rfl) (envL_no rfl) (envL_no rfl) (envL_no rfl) (envL_no rfl) (envL_sp rfl) (envL_sp rfl) (envL_sp rfl) (envL_sp rfl) (envL_sp rfl) (envL_sp rfl) (envL_no rfl) (envL_sp rfl) (envL_sp rfl) (envL_no rfl) (envL_no rfl) (envL_no rfl) q ok y cap hy hl (fit y none none cap rfl)
  | fin cap => simp at fi)
theorem pieces_tree (p : Poly) (t : List Int) : TreeOk Tryz.prog (GZ p) 4 [.ro false (t.map i64) t.length none 1] (bo true) :=
  treeOk_of (TabOk.cons (TabOk.cons (TabOk.cons (TabOk.cons (TabOk.cons (TabOk.cons (TabOk.cons (TabOk.cons (TabOk.cons (TabOk.cons (TabOk.nil p) (ok28 p)) (ok34 p)) (ok33 p)) (ok32 p)) (ok31 p)) (ok13 p)) (ok30 p)) (ok21 p)) (ok11 p)) (ok10 p)) (w4 p _ (envL_no rfl) (envL_sp rfl) (envL_sp rfl) (envL_no rfl) (envL_no rfl) (envL_no rfl) (envL_sp rfl) (envL_sp rfl) (envL_no rfl) (envL_sp rfl) (envL_sp rfl) (envL_sp rfl) (envL_sp rfl) (envL_sp rfl) (envL_sp rfl) t)
end Go.Eng
end
