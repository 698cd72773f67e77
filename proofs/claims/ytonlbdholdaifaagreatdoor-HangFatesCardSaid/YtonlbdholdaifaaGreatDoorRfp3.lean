import Derived.Test.YtonlbdholdaifaaGreatDoorRfp2
import Derived.Orders
section
/- What a function does, said for all memories; calls; the end of a call; what is told anew. -/
set_option linter.unusedVariables false
set_option linter.unusedSimpArgs false
set_option linter.unusedSectionVars false
namespace Go.Rf
open Go GU GC Go.RowKit
variable {Ty : Type} [GU Ty] [GC Ty]

/-- The labels of what is handed in to be written, and stays where it is. -/
def isFx (r : Nat) : Bool := Nat.ble 10000 r && Nat.blt r 20000
def fxl (σ0 : Hp Ty) : List Nat := (σ0.filter fun p => isFx p.1 && (σ0.at p.1).alive).map (·.1)
theorem alive_mem {r : Nat} : ∀ {σ : Hp Ty}, (σ.at r).alive = true → ∃ p, p ∈ σ ∧ p.1 = r
  | [], h => by simp [Hp.at, lookH, Box.alive] at h
  | p :: σ, h => by
    rw [Hp.at_cons] at h
    by_cases e : p.1 = r
    · exact ⟨p, by simp, e⟩
    · rw [if_neg e] at h
      obtain ⟨q, hq, he⟩ := alive_mem h
      exact ⟨q, by simp [hq], he⟩
theorem mem_fxl {σ0 : Hp Ty} {r : Nat} : memN r (fxl σ0) = true ↔ isFx r = true ∧ (σ0.at r).alive = true := by
  rw [memN_iff]
  simp only [fxl, List.mem_map, List.mem_filter, Bool.and_eq_true]
  refine ⟨?_, fun ⟨h1, h2⟩ => ?_⟩
  · rintro ⟨p, ⟨_, h1, h2⟩, rfl⟩
    exact ⟨h1, h2⟩
  · obtain ⟨p, hp, rfl⟩ := alive_mem h2
    exact ⟨p, ⟨hp, h1, h2⟩, rfl⟩
/-- Those are still told of. -/
def keepFx (fl : List Nat) (σ' : Hp Ty) : Bool := fl.all fun l => (σ'.at l).alive
/-- The context of a call that begins in a world. -/
def ctxL (G : List (Nat × List (PV Ty))) (nt : Nat) (w : World) (F : Nat → Prop) (ρ : Rho) (S : Nat → Prop) (fl : List Nat) : Ctx Ty :=
  { fx := fun r => bif memN r fl then some (ρ r) else none, w0 := w, S0 := S, F0 := F, nt := nt, glob := G }
abbrev ctx (G : List (Nat × List (PV Ty))) (nt : Nat) (w : World) (F : Nat → Prop) (ρ : Rho) (σ0 : Hp Ty) : Ctx Ty :=
  ctxL G nt w F ρ (fun g => ∃ r c, (σ0.at r).alive = true ∧ ρ r = some (g, c)) (fxl σ0)
/-- What must hold as a call begins. -/
structure Beg (G : List (Nat × List (PV Ty))) (F : Nat → Prop) (ρ : Rho) (xs : List (PV Ty)) (vs : List Value) (σ0 : Hp Ty) (w : World) : Prop where
  args : RepL F ρ w xs vs
  Flt : ∀ g, F g → g < w.heap.size
  box : ∀ r, Boxed F ρ w r (σ0.at r)
  inj : ∀ r r' g c c', (σ0.at r).alive = true → (σ0.at r').alive = true → ρ r = some (g, c) → ρ r' = some (g, c') → r = r'
  own : ∀ r g c, (σ0.at r).alive = true → ρ r = some (g, c) → ¬ F g
  glob : ∀ p, p ∈ G → Rep F ρ w (.rp p.2) (.pointer (some ⟨p.1, 0, none⟩)) ∧ labelsL p.2 = []
/-- What a function does. -/
def Does (P : Program) (G : List (Nat × List (PV Ty))) (f : FuncId) (xs : List (PV Ty)) (σ0 : Hp Ty) (Q : PV Ty → Hp Ty → Prop) : Prop :=
  ∀ w F ρ vs nt, Beg G F ρ xs vs σ0 w → Calls P f vs.toArray w (Post (ctx G nt w F ρ σ0) F Q)

/-- The slots of the parameters. -/
def argE : Nat → List (PV Ty) → Env Ty
  | _, [] => []
  | k, x :: xs => (k, x) :: argE (k + 1) xs
theorem argE_at (xs : List (PV Ty)) : ∀ (k s : Nat), (argE k xs).at s = if k ≤ s then (xs[s - k]?).getD .undef else .undef := by
  induction xs with
  | nil => intro k s; simp [argE, Env.at, look]
  | cons x xs ih =>
    intro k s
    simp only [argE, Env.at_cons, ih]
    by_cases h : k = s
    · subst h
      simp
    · rw [if_neg h]
      by_cases h1 : k ≤ s
      · rw [if_pos h1, if_pos (by omega), show s - k = (s - (k + 1)) + 1 by omega]
        simp
      · rw [if_neg h1, if_neg (by omega)]

theorem fn_of {P : Program} {G : List (Nat × List (PV Ty))} {f : FuncId} {fn : Func} {c : Code} {xs : List (PV Ty)} {σ0 : Hp Ty} {Q : PV Ty → Hp Ty → Prop} (hf : P.funcs[f]? = some fn) (hb : fn.body = some c) {m : Nat} (hm : fn.ntmps = m) (hn : Nat.ble xs.length m = true)
    (h : ∀ (w : World) (F : Nat → Prop) (ρ : Rho), AK P (ctx G m w F ρ σ0) f [.code c] (argE 0 xs) σ0 Q) : Does P G f xs σ0 Q := by
  intro w F ρ vs nt B cs
  subst hm
  replace hn : xs.length ≤ fn.ntmps := by simpa using hn
  have hlen : vs.length ≤ fn.ntmps := by rw [B.args.1]; exact hn
  have hent : Frame.enter P f vs.toArray .normal = ({ (default : Frame) with fn := f, kind := .normal }).at { tmps := vs.toArray ++ Array.replicate (fn.ntmps - vs.length) Go.undef, defers := [] } [.code c] := by
    simp [Frame.enter, Frame.at, hf, hb]
  have R : Rel (ctx G fn.ntmps w F ρ σ0) F ρ (argE 0 xs) σ0 { tmps := vs.toArray ++ Array.replicate (fn.ntmps - vs.length) Go.undef, defers := [] } w := by
    refine ⟨rfl, rfl, rfl, Nat.le_refl _, fun _ _ _ => rfl, fun _ h => h, fun _ h => .inl h, B.Flt, B.box, B.inj, fun r g c ha h => ⟨B.own r g c ha h, .inl ⟨r, c, ha, h⟩⟩, fun s => ?_, by simp [ctx, ctxL]; omega, rfl, B.glob, ?_⟩
    rotate_right
    · intro r x hx
      simp only [ctx, ctxL] at hx
      cases hf : memN r (fxl σ0) with
      | false => rw [hf] at hx; simp at hx
      | true =>
        · have ha := (mem_fxl.1 hf).2
          rw [hf] at hx
          simp at hx
          refine ⟨hx, ha, fun hc g c hg => ?_⟩
          subst hx
          have hb := B.box r
          cases hσ : σ0.at r with
          | dead => rw [hσ] at hc; simp [Box.isC] at hc
          | arr e τ xs => rw [hσ] at hc; simp [Box.isC] at hc
          | cells t cs =>
            rw [hσ] at hb
            obtain ⟨g', c', cur, e, h1, h2, _⟩ := hb
            rw [hg] at h1
            simp at h1
            obtain ⟨rfl, rfl⟩ := h1
            exact ⟨cur, cur, e, h2, h2, rfl, fun _ _ => rfl⟩
    rw [argE_at, if_pos (Nat.zero_le _), Nat.sub_zero]
    cases hx : xs[s]? with
    | none => exact .undef _
    | some x =>
      have hs : s < vs.length := by rw [B.args.1]; exact (List.getElem?_eq_some_iff.1 hx).1
      have := B.args.2 s x _ hx (List.getElem?_eq_getElem hs)
      simpa [Array.getD_eq_getD_getElem?, Array.getElem?_append, hs] using this
  obtain ⟨e, w', fr, hp, hc, hfn, hl⟩ := h w F ρ F ρ _ w { (default : Frame) with fn := f, kind := .normal } cs rfl rfl R
  refine ⟨e, w', fr, ?_, by rw [hent]; exact hc, hfn, hl⟩
  cases e with
  | returned v =>
    obtain ⟨F', ρ', x, σ', a, hq, hF, hR, hx⟩ := hp
    exact ⟨F', ρ', x, σ', { tmps := Array.replicate nt Go.undef, defers := [] }, hq, hF, { hR with slot := fun s => by simp [Env.at, look]; exact .undef _, tsize := by simp [ctx, ctxL], defers := rfl }, hx⟩
  | panicked c => exact hp
  | outgrown => exact hp

theorem dlt {o : Oper} {nt : Nat} {d : Tmp} (h : o.dst = some d) (hd : Nat.blt d nt = true) : ∀ d', o.dst = some d' → d' < nt := by
  intro d' h'
  rw [h] at h'
  simp at h'
  subst h'
  simpa using hd

section
variable {P : Program} {C : Ctx Ty} {f : FuncId} {ks : List Item} {Γ : Env Ty} {σ : Hp Ty} {Q : PV Ty → Hp Ty → Prop}

theorem ak_ret {fn : Func} {xs : List (PV Ty)} (hf : P.funcs[f]? = some fn) (h : resL P Γ σ fn.results.toList = some xs) (hok : resOK P Γ σ fn.results.toList) (hq : Q (tupOf xs) σ) : AK P C f (.code .ret :: ks) Γ σ Q := by
  intro F ρ a w b cs hb hk R
  obtain ⟨v, hv, hx⟩ := run_results (P := P) R h hok
  refine ⟨.returned v, w, { b.at a (.code .ret :: ks) with mode := .returning }, ⟨F, ρ, _, σ, a, hq, fun _ h => h, { R with slot := fun s => by simp [Env.at, look]; exact .undef _ }, hx⟩, .one step_ret, hb, rfl, R.defers, hk, fn, by simpa [Frame.at, hb] using hf, by simpa [Frame.at] using hv⟩

/-! ### What is known is told in another way -/
/-- Whatever is x is y too. -/
def Sub (x y : PV Ty) : Prop := ∀ (F : Nat → Prop) (ρ : Rho) (w : World) (v : Value), Rep F ρ w x v → Rep F ρ w y v
theorem Sub.refl (x : PV Ty) : Sub x x := fun _ _ _ _ h => h
theorem sub_nils (τ : Ty) : Sub (PV.nils) (PV.sl τ []) := fun F ρ w v h => by
  rw [h.nils_inv]
  exact .sl_mk (xs := ([] : List (den τ))) (g := 0) (o := 0) (fun h => absurd rfl h) (fun i x hx => by simp at hx) (Nat.le_refl _)
theorem sub_sf (τ : Ty) (xs : List (den τ)) : Sub (PV.sf τ xs) (PV.sl τ xs) := fun F ρ w v h => h.sf_sl
theorem sub_undef (x : PV Ty) : Sub x .undef := fun F ρ w v _ => .undef v
inductive SubL : List (PV Ty) → List (PV Ty) → Prop where
  | nil : SubL [] []
  | cons {x y : PV Ty} {xs ys : List (PV Ty)} (h : Sub x y) (t : SubL xs ys) : SubL (x :: xs) (y :: ys)
theorem SubL.refl : ∀ xs : List (PV Ty), SubL xs xs
  | [] => .nil
  | x :: xs => .cons (.refl x) (.refl xs)
theorem SubL.length {xs ys : List (PV Ty)} (h : SubL xs ys) : xs.length = ys.length := by
  induction h with
  | nil => rfl
  | cons _ _ ih => simp [ih]
theorem SubL.rep {F : Nat → Prop} {ρ : Rho} {w : World} {xs ys : List (PV Ty)} (h : SubL xs ys) : ∀ {vs : List Value}, RepL F ρ w xs vs → RepL F ρ w ys vs := by
  induction h with
  | nil => exact fun h => h
  | cons h t ih =>
    intro vs hv
    obtain ⟨v, us, rfl, h1, h2⟩ := hv.of_cons
    exact .cons (h F ρ w v h1) (ih h2)
theorem sub_agg {xs ys : List (PV Ty)} (h : SubL xs ys) : Sub (.agg xs) (.agg ys) := fun F ρ w v hv => by
  obtain ⟨vs, rfl, hr⟩ := hv.agg_inv
  exact (h.rep hr).agg

/-- Some slots are kept, told in another way. -/
inductive Conv : Env Ty → Env Ty → Prop where
  | nil (Γ : Env Ty) : Conv Γ []
  | cons {Γ Γ' : Env Ty} {s : Nat} {x y : PV Ty} (h : look Γ s = some x) (hs : Sub x y) (t : Conv Γ Γ') : Conv Γ ((s, y) :: Γ')
inductive SubB : Box Ty → Box Ty → Prop where
  | refl (b : Box Ty) : SubB b b
  | cells {t : TypeId} {xs ys : List (PV Ty)} (h : SubL xs ys) : SubB (.cells t xs) (.cells t ys)
inductive ConvH : Hp Ty → Hp Ty → Prop where
  | nil (σ : Hp Ty) : ConvH σ []
  | cons {σ σ' : Hp Ty} {r : Nat} {b b' : Box Ty} (h : lookH σ r = some b) (hs : SubB b b') (t : ConvH σ σ') : ConvH σ ((r, b') :: σ')
theorem Conv.at {Γ Γ' : Env Ty} (h : Conv Γ Γ') (s : Nat) : Sub (Γ.at s) (Γ'.at s) := by
  induction h with
  | nil => exact sub_undef _
  | cons h hs t ih =>
    rename_i s' x y
    rw [Env.at_cons]
    split
    · rename_i e
      subst e
      rw [Env.at_of h]
      exact hs
    · exact ih
theorem SubB.rep {F : Nat → Prop} {ρ : Rho} {w : World} {r : Nat} {b b' : Box Ty} (h : SubB b b') (hb : Boxed F ρ w r b) : Boxed F ρ w r b' := by
  cases h with
  | refl => exact hb
  | cells h =>
    obtain ⟨g, c, cur, e, h1, h2, h3, h4, h5⟩ := hb
    exact ⟨g, c, cur, e, h1, h2, h3.trans h.length, h4, h.rep h5⟩
theorem SubB.isC {b b' : Box Ty} (h : SubB b b') : b'.isC = b.isC := by cases h <;> rfl
theorem SubB.alive {b b' : Box Ty} (h : SubB b b') : b'.alive = b.alive := by cases h <;> rfl
theorem ConvH.at {σ σ' : Hp Ty} (h : ConvH σ σ') (r : Nat) : (σ'.at r = .dead) ∨ SubB (σ.at r) (σ'.at r) := by
  induction h with
  | nil => exact .inl rfl
  | cons h hs t ih =>
    rename_i r' b b'
    rw [Hp.at_cons]
    split
    · rename_i e
      subst e
      rw [Hp.at_of h]
      exact .inr hs
    · exact ih
theorem Rel.conv {F : Nat → Prop} {ρ : Rho} {a : Act} {w : World} (R : Rel C F ρ Γ σ a w) {Γ' : Env Ty} {σ' : Hp Ty} (h : Conv Γ Γ') (hh : ConvH σ σ') (hx : ∀ r, C.fx r ≠ none → (σ'.at r).alive = true) : Rel C F ρ Γ' σ' a w := by
  have hal : ∀ r, (σ'.at r).alive = true → (σ.at r).alive = true := fun r ha => by
    rcases hh.at r with e | e
    · rw [e] at ha
      simp [Box.alive] at ha
    · rw [← e.alive]
      exact ha
  refine { R with box := fun r => ?_, inj := fun r r' g c c' h1 h2 => R.inj r r' g c c' (hal r h1) (hal r' h2), own := fun r g c h1 => R.own r g c (hal r h1), slot := fun s => h.at s _ _ _ _ (R.slot s), fixd := ?_ }
  rotate_right
  · refine R.fixd.mono (fun _ _ _ => rfl) (fun r _ hr => ⟨hx r hr, ?_⟩) fun _ _ _ _ _ _ => rfl
    rcases hh.at r with e | e
    · have := hx r hr
      rw [e] at this
      simp [Box.alive] at this
    · exact e.isC
  rcases hh.at r with e | e
  · rw [e]
    trivial
  · exact e.rep (R.box r)
theorem fx_keep {G : List (Nat × List (PV Ty))} {nt : Nat} {w : World} {F : Nat → Prop} {ρ : Rho} {S : Nat → Prop} {fl : List Nat} {σ' : Hp Ty} (h : keepFx fl σ' = true) : ∀ r, (ctxL G nt w F ρ S fl).fx r ≠ none → (σ'.at r).alive = true := by
  intro r hr
  cases hf : memN r fl with
  | false => exact absurd (by simp only [ctxL, hf]; rfl) hr
  | true => exact List.all_eq_true.1 h r (memN_iff.1 hf)
theorem ak_conv {G : List (Nat × List (PV Ty))} {nt : Nat} {w0 : World} {F0 : Nat → Prop} {ρ0 : Rho} {S0 : Nat → Prop} {fl : List Nat} {Γ' : Env Ty} {σ' : Hp Ty} (h : Conv Γ Γ') (hh : ConvH σ σ') (k : AK P (ctxL G nt w0 F0 ρ0 S0 fl) f ks Γ' σ' Q) (hx : keepFx fl σ' = true := by rfl) : AK P (ctxL G nt w0 F0 ρ0 S0 fl) f ks Γ σ Q :=
  fun F ρ a w b cs hb hk R => k F ρ a w b cs hb hk (R.conv h hh (fx_keep hx))

/-! ### A row is no longer written -/
theorem Rel.freeze {F : Nat → Prop} {ρ : Rho} {a : Act} {w : World} (R : Rel C F ρ Γ σ a w) {r e : Nat} {τ : Ty} {xs : List (den τ)} (hσ : lookH σ r = some (.arr e τ xs)) (hfx : C.fx r = none) :
    ∃ F', (∀ g, F g → F' g) ∧ Rel C F' ρ (frzE r (.sl τ xs) Γ) ((r, .dead) :: frzH r (.sl τ xs) σ) a w := by
  have hal : (σ.at r).alive = true := by rw [Hp.at_of hσ]; rfl
  have hb := R.box r
  rw [Hp.at_of hσ] at hb
  refine ⟨fun k => F k ∨ ∃ c, ρ r = some (k, c), fun _ h => .inl h, R.turn ⟨fun _ h => .inl h, fun _ _ => rfl, fun _ _ => rfl, fun wd v h => ?_⟩ rfl rfl rfl (Nat.le_refl _) hal (fun _ _ _ => rfl) (fun k hk => ?_) hfx trivial fun k c h => by simp [Box.alive] at h⟩
  · rcases h.mf_inv with ⟨hρ, rfl⟩ | ⟨g, c, hρ, rfl⟩
    · rcases hb with ⟨_, rfl⟩ | ⟨g', c', cur, h1, _⟩
      · exact .sl_mk (xs := ([] : List (den τ))) (g := 0) (o := 0) (fun h => by simp at h) (fun i x hx => by simp at hx) (by simp)
      · rw [hρ] at h1
        simp at h1
    · obtain ⟨cur, hg, hcs, hlen', hm, hcl, hrep, hc⟩ := R.cellsE hσ hρ
      rw [hcl]
      refine .sl_mk (g := g) (o := 0) (fun _ => ⟨rfl, .inr ⟨c, hρ⟩⟩) (fun i x hx j y hy => ?_) hlen'
      obtain ⟨u, hu, hr⟩ := hc i x hx j y hy
      exact ⟨u, by simpa using hu, hr.mono (fun _ h => .inl h) (fun _ _ => rfl) fun _ _ => rfl⟩
  · rcases hk with hk | hk
    · exact .inl hk
    · exact .inr (.inl ⟨rfl, hk⟩)
theorem ak_freeze (r : Nat) {e : Nat} {τ : Ty} {xs : List (den τ)} (hσ : lookH σ r = some (.arr e τ xs)) (k : AK P C f ks (frzE r (.sl τ xs) Γ) ((r, .dead) :: frzH r (.sl τ xs) σ) Q) (hfx : C.fx r = none := by rfl) : AK P C f ks Γ σ Q := by
  intro F ρ a w b cs hb hk R
  obtain ⟨F', hF, R'⟩ := R.freeze hσ hfx
  obtain ⟨e, w'', fr, hp, hc, hfn, hl⟩ := k F' ρ a w b cs hb hk R'
  exact ⟨e, w'', fr, hp.mono hF, hc, hfn, hl⟩

/-- A nil slice is a row of no elements. -/
theorem Rel.nilRow {F : Nat → Prop} {ρ : Rho} {a : Act} {w : World} (R : Rel C F ρ Γ σ a w) (d : Nat) {e : Nat} {τ : Ty} (hΓ : noM d Γ = true) (hσ : noMH d σ = true) : Rel C F (setRho ρ d none) Γ ((d, .arr e τ []) :: σ) a w := by
  obtain ⟨hl, hdead⟩ := noMH_at hσ
  have hnd : ∀ q, C.fx q ≠ none → q ≠ d := fun q h e => h (e ▸ R.fixd.ne hdead)
  refine { R with box := fun r => ?_, inj := ?_, own := ?_, slot := fun s => (R.slot s).mono (fun _ h => h) (fun _ _ => rfl) fun q hq => setRho_ne ρ _ (fun h => noM_at hΓ s (h ▸ hq)), glob := fun p hp => ⟨(R.glob p hp).1.mono (fun _ h => h) (fun _ _ => rfl) fun q hq => ?_, (R.glob p hp).2⟩, fixd := R.fixd.mono (fun q _ hq => setRho_ne ρ _ (hnd q hq)) (fun q ha hq => by rw [Hp.at_cons, if_neg (fun h => hnd q hq h.symm)]; exact ⟨ha, rfl⟩) fun _ _ _ _ _ _ => rfl }
  · rw [Hp.at_cons]
    split
    · rename_i e
      subst e
      exact .inl ⟨setRho_same _ _ _, rfl⟩
    · rename_i e
      exact (R.box r).mono (fun _ h => h) (fun _ _ => rfl) (setRho_ne ρ _ (fun h => e h.symm)) (fun q hq => setRho_ne ρ _ (fun h => hl r (h ▸ hq))) fun _ _ _ _ => rfl
  · intro r r' g c c' ha ha' h1 h2
    rw [Hp.at_cons] at ha ha'
    by_cases e1 : r = d
    · subst e1
      rw [setRho_same] at h1
      simp at h1
    · by_cases e2 : r' = d
      · subst e2
        rw [setRho_same] at h2
        simp at h2
      · rw [setRho_ne ρ _ e1] at h1
        rw [setRho_ne ρ _ e2] at h2
        rw [if_neg (fun h => e1 h.symm)] at ha
        rw [if_neg (fun h => e2 h.symm)] at ha'
        exact R.inj r r' g c c' ha ha' h1 h2
  · intro r g c ha h1
    rw [Hp.at_cons] at ha
    by_cases e1 : r = d
    · subst e1
      rw [setRho_same] at h1
      simp at h1
    · rw [setRho_ne ρ _ e1] at h1
      rw [if_neg (fun h => e1 h.symm)] at ha
      exact R.own r g c ha h1
  · simp only [PV.labels] at hq
    rw [(R.glob p hp).2] at hq
    simp at hq
theorem Rel.nilSlot {F : Nat → Prop} {ρ : Rho} {a : Act} {w : World} (R : Rel C F ρ Γ σ a w) {s d : Nat} {e : Nat} (τ : Ty) (h : look Γ s = some .nils) (hΓ : noM d Γ = true) (hσ : noMH d σ = true) : Rel C F (setRho ρ d none) ((s, .mf (width τ) d) :: Γ) ((d, .arr e τ []) :: σ) a w := by
  have R1 := R.nilRow d (e := e) (τ := τ) hΓ hσ
  refine { R1 with slot := fun q => ?_ }
  rw [Env.at_cons]
  split
  · rename_i e'
    subst e'
    have := R.slot s
    rw [Env.at_of h] at this
    rw [this.nils_inv]
    exact .mfNil _ _ (setRho_same _ _ _)
  · exact R1.slot q
theorem ak_nilRow {s d : Nat} {e : Nat} (τ : Ty) (h : look Γ s = some .nils) (hΓ : noM d Γ = true) (hσ : noMH d σ = true) (k : AK P C f ks ((s, .mf (width τ) d) :: Γ) ((d, .arr e τ []) :: σ) Q) : AK P C f ks Γ σ Q :=
  fun F ρ a w b cs hb hk R => k F _ a w b cs hb hk (R.nilSlot τ h hΓ hσ)
theorem putL_at {α : Type} {cs : List α} {i : Nat} {x : α} (h : i < cs.length) : putL cs i [x] = cs.set i x := by
  rw [putL_eq _ _ _ (by simp; omega)]
  apply List.ext_getElem?
  intro j
  rw [List.getElem?_set]
  by_cases e : i = j
  · subst e
    simp [List.getElem?_append, h]
    rw [if_neg (by omega)]
    have : min i cs.length = i := by omega
    simp [this]
  · rw [if_neg e]
    by_cases hj : j < i
    · rw [List.append_assoc, List.getElem?_append_left (by simp; omega), List.getElem?_take, if_pos hj]
    · rw [List.getElem?_append_right (by simp; omega), List.getElem?_drop]
      congr 1
      simp
      omega
/-- The same in a variable's field. -/
theorem Rel.nilBox {F : Nat → Prop} {ρ : Rho} {a : Act} {w : World} (R : Rel C F ρ Γ σ a w) {r i d : Nat} {t : TypeId} {cs : List (PV Ty)} {cs' : List (PV Ty)} {e : Nat} (τ : Ty) (h : lookH σ r = some (.cells t cs)) (hi : cs[i]? = some .nils) (hp : putO cs i [.mf (width τ) d] = some cs') (hΓ : noM d Γ = true) (hσ : noMH d σ = true) : Rel C F (setRho ρ d none) Γ ((r, .cells t cs') :: (d, .arr e τ []) :: σ) a w := by
  have R1 := R.nilRow d (e := e) (τ := τ) hΓ hσ
  obtain ⟨rfl, hlt⟩ := putO_eq (by simp) hp
  have hrd : r ≠ d := by
    rintro rfl
    have := (noMH_at hσ).2
    rw [Hp.at_of h] at this
    simp [Box.alive] at this
  have hl : lookH ((d, Box.arr e τ []) :: σ) r = some (.cells t cs) := by
    simp only [lookH, beq_eq]
    rw [decide_eq_false (fun e => hrd e.symm)]
    exact h
  · have hal : (Hp.at ((d, Box.arr e τ []) :: σ) r).alive = true := by rw [Hp.at_of hl]; rfl
    refine { R1 with box := fun q => ?_, inj := fun q q' g c c' h1 h2 => R1.inj q q' g c c' ?_ ?_, own := fun q g c h1 => R1.own q g c ?_, fixd := R1.fixd.mono (fun _ _ _ => rfl) (fun q ha hq => ?_) fun _ _ _ _ _ _ => rfl }
    rotate_right
    · rw [Hp.at_cons]
      by_cases e : r = q
      · rw [if_pos e, ← e, Hp.at_of hl]
        exact ⟨rfl, rfl⟩
      · rw [if_neg e]
        exact ⟨ha, rfl⟩
    · rw [Hp.at_cons]
      split
      · rename_i e'
        subst e'
        have hb := R1.box r
        rw [Hp.at_of hl] at hb
        obtain ⟨g, c, cur, be, h1, h2, h2a, h2b, h3⟩ := hb
        generalize hvs : (cur.toList.drop c.1).take c.2 = vs at h3
        have hlen : i < cs.length := (List.getElem?_eq_some_iff.1 hi).1
        have hvi : vs[i]? = some (.slice none 0 0) := by
          have hv : i < vs.length := by rw [h3.1]; exact hlen
          have := h3.2 i .nils vs[i] hi (List.getElem?_eq_getElem hv)
          rw [List.getElem?_eq_getElem hv, this.nils_inv]
        have hset : vs.set i (.slice none 0 0) = vs := by
          apply List.ext_getElem?
          intro j
          rw [List.getElem?_set]
          split
          · rename_i e
            subst e
            rw [hvi]
            simp [(List.getElem?_eq_some_iff.1 hvi).1]
          · rfl
        refine ⟨g, c, cur, be, h1, h2, by rw [putL_at hlen]; simpa using h2a, h2b, ?_⟩
        rw [putL_at hlen, hvs]
        have := h3.set i (Rep.mfNil (F := F) (ρ := setRho ρ d none) (w := w) (width τ) d (setRho_same _ _ _))
        rwa [hset] at this
      · exact R1.box q
    · rw [Hp.at_cons] at h1
      split at h1
      · rename_i e'; exact e' ▸ hal
      · exact h1
    · rw [Hp.at_cons] at h2
      split at h2
      · rename_i e'; exact e' ▸ hal
      · exact h2
    · rw [Hp.at_cons] at h1
      split at h1
      · rename_i e'; exact e' ▸ hal
      · exact h1
theorem ak_nilRowV {r i d : Nat} {t : TypeId} {cs : List (PV Ty)} {cs' : List (PV Ty)} {e : Nat} (τ : Ty) (h : lookH σ r = some (.cells t cs)) (hi : cs[i]? = some .nils) (hp : putO cs i [.mf (width τ) d] = some cs') (hΓ : noM d Γ = true) (hσ : noMH d σ = true) (k : AK P C f ks Γ ((r, .cells t cs') :: (d, .arr e τ []) :: σ) Q) : AK P C f ks Γ σ Q :=
  fun F ρ a w b cs0 hb hk R => k F _ a w b cs0 hb hk (R.nilBox τ h hi hp hΓ hσ)
end
end Go.Rf
end
section
/- Calls. -/
set_option linter.unusedVariables false
set_option linter.unusedSimpArgs false
set_option linter.unusedSectionVars false
namespace Go.Rf
open Go GU GC Go.RowKit
variable {Ty : Type} [GU Ty] [GC Ty]

def opdL (G : List (Nat × List (PV Ty))) (Γ : Env Ty) : List Operand → Option (List (PV Ty))
  | [] => some []
  | a :: rest => match opd G Γ a, opdL G Γ rest with
    | some x, some xs => some (x :: xs)
    | _, _ => none
theorem Rel.opdL {C : Ctx Ty} {F : Nat → Prop} {ρ : Rho} {Γ : Env Ty} {σ : Hp Ty} {a : Act} {w : World} (R : Rel C F ρ Γ σ a w) : ∀ {ps : List Operand} {xs : List (PV Ty)}, opdL C.glob Γ ps = some xs → RepL F ρ w xs (ps.map a.eval)
  | [], xs, h => by
    simp [Rf.opdL] at h
    subst h
    exact .nil
  | b :: ps, xs, h => by
    simp only [Rf.opdL] at h
    split at h
    · rename_i x ys hx hy
      simp at h
      subst h
      exact .cons (R.opd hx) (R.opdL hy)
    · simp at h

/-! ### Other names for labels -/
mutual
def ren (m : Nat → Nat) : PV Ty → PV Ty
  | .mf wd q => .mf wd (m q)
  | .ms wd q i n => .ms wd (m q) i n
  | .agg cs => .agg (renL m cs)
  | .tup cs => .tup (renL m cs)
  | .ref q o => .ref (m q) o
  | .ar wd q i j => .ar wd (m q) i j
  | .rp cs => .rp (renL m cs)
  | .fn f cs => .fn f (renL m cs)
  | .iface t x => .iface t (ren m x)
  | .when b x => .when b (ren m x)
  | x => x
def renL (m : Nat → Nat) : List (PV Ty) → List (PV Ty)
  | [] => []
  | x :: xs => ren m x :: renL m xs
end
theorem renL_length (m : Nat → Nat) : ∀ cs : List (PV Ty), (renL m cs).length = cs.length
  | [] => rfl
  | x :: xs => by simp [renL, renL_length m xs]
theorem renL_at {m : Nat → Nat} : ∀ {cs : List (PV Ty)} {j : Nat} {y : PV Ty}, (renL m cs)[j]? = some y → ∃ x, cs[j]? = some x ∧ y = ren m x
  | [], j, y, h => by simp [renL] at h
  | x :: xs, 0, y, h => by
    simp [renL] at h
    exact ⟨x, rfl, h.symm⟩
  | x :: xs, j + 1, y, h => by
    have := renL_at (cs := xs) (j := j) (y := y) (by simpa [renL] using h)
    simpa using this
theorem Rep.ren {F : Nat → Prop} {ρ ρ' : Rho} {w : World} {m : Nat → Nat} {x : PV Ty} {v : Value} (h : Rep F ρ w x v) : (∀ r, r ∈ x.labels → ρ' (m r) = ρ r) → Rep F ρ' w (ren m x) v := by
  induction h with
  | undef v => exact fun _ => .undef v
  | nils => exact fun _ => .nils
  | int k n => exact fun _ => .int k n
  | bool b => exact fun _ => .bool b
  | str s => exact fun _ => .str s
  | nilp => exact fun _ => .nilp
  | nili => exact fun _ => .nili
  | sl τ xs A c g o vs hA hc hr hcap ih => exact fun _ => (Rep.sl (ρ := ρ) τ xs A c g o vs hA hc hr hcap).mono (fun _ h => h) (fun _ _ => rfl) fun r hr => by simp [PV.labels] at hr
  | sf τ xs A g o vs hA hc hr ih => exact fun _ => (Rep.sf (ρ := ρ) τ xs A g o vs hA hc hr).mono (fun _ h => h) (fun _ _ => rfl) fun r hr => by simp [PV.labels] at hr
  | rp cs g o vs hF hc hr ih =>
    intro hl
    refine .rp_mk hF fun j y hy => ?_
    obtain ⟨x, hx, rfl⟩ := renL_at hy
    exact ⟨vs j, hc j x hx, ih j x hx fun r hr => hl r (mem_labelsL hx hr)⟩
  | ref r o g c h => exact fun hl => .ref (m r) o g c ((hl r (by simp [PV.labels])).trans h)
  | mfNil wd r h => exact fun hl => .mfNil wd (m r) ((hl r (by simp [PV.labels])).trans h)
  | mf wd r g c h => exact fun hl => .mf wd (m r) g c ((hl r (by simp [PV.labels])).trans h)
  | msNil wd r h => exact fun hl => .msNil wd (m r) ((hl r (by simp [PV.labels])).trans h)
  | ms wd r i n g c a h hn ha => exact fun hl => .ms wd (m r) i n g c a ((hl r (by simp [PV.labels])).trans h) hn ha
  | ar wd r i j g c h => exact fun hl => .ar wd (m r) i j g c ((hl r (by simp [PV.labels])).trans h)
  | fn f cs vs hlen hr ih =>
    intro hl
    refine .fn f _ vs (by rw [renL_length, hlen]) fun j y u hy hu => ?_
    obtain ⟨x, hx, rfl⟩ := renL_at hy
    exact ih j x u hx hu fun r hr => hl r (mem_labelsL hx hr)
  | agg cs vs hlen hr ih =>
    intro hl
    refine .agg _ vs (by rw [renL_length, hlen]) fun j y u hy hu => ?_
    obtain ⟨x, hx, rfl⟩ := renL_at hy
    exact ih j x u hx hu fun r hr => hl r (mem_labelsL hx hr)
  | tup cs vs hlen hr ih =>
    intro hl
    refine .tup _ vs (by rw [renL_length, hlen]) fun j y u hy hu => ?_
    obtain ⟨x, hx, rfl⟩ := renL_at hy
    exact ih j x u hx hu fun r hr => hl r (mem_labelsL hx hr)
  | iface t x v h ih => exact fun hl => .iface t _ v (ih hl)
  | when g x v h h' ih => exact fun hl => .when g _ v (fun hg => ih hg hl) h'

section
variable {P : Program} {C : Ctx Ty} {o : Oper} {Γ : Env Ty} {σ : Hp Ty}
variable (hd : ∀ d, o.dst = some d → d < C.nt)
include hd

omit hd in
theorem call_run {ac : Act} {w : World} {fo : Operand} {as : Array Operand} {ts : Array TypeId} {f : FuncId} {caps : List Value} {fn : Func} (ho : o.op = .call { callee := .value fo, args := as, argTypes := ts }) (hv : ac.eval fo = .func (.func f) #[] caps.toArray)
    (hf : P.funcs[f]? = some fn) (hb : fn.body.isNone = false) (hn : (fn.name == "runtime.NumGoroutine") = false) : (execOp ac.eval o).run P w = .ok (.enter f (as.toList.map ac.eval ++ caps).toArray) w := by
  have e : (as.toList.map ac.eval ++ caps).toArray = as.map ac.eval ++ caps.toArray := by
    apply Array.ext'
    simp
  have hb' : ¬ fn.body = none := fun h => by rw [h] at hb; simp at hb
  have hn' : ¬ fn.name = "runtime.NumGoroutine" := by simpa using hn
  simp [execOp, ho, resolve, hv, Deferred.ofValue, invoke, callFunc, hf, hb', hn', e]

/-- A call of a function that is handed, and hands back, nothing that is written. -/
theorem ok_call {fo : Operand} {as : Array Operand} {ts : Array TypeId} {f : FuncId} {caps : List (PV Ty)} {fn : Func} {xs : List (PV Ty)} {y : PV Ty} (ho : o.op = .call { callee := .value fo, args := as, argTypes := ts }) (hfo : opd C.glob Γ fo = some (.fn f caps))
    (hf : P.funcs[f]? = some fn) (hb : fn.body.isNone = false) (hn : (fn.name == "runtime.NumGoroutine") = false) (hxs : opdL C.glob Γ as.toList = some xs) (hF : Does P C.glob f (xs ++ caps) [] (fun z _ => z = y)) (hy : y.labels = []) : Sound P C o Γ σ y σ := by
  intro F ρ ac w R next Q hnx
  obtain ⟨cv, hcv, hcr⟩ := (R.opd hfo).fn_inv
  have hargs := (R.opdL hxs).append hcr
  have B : Beg C.glob F ρ (xs ++ caps) (as.toList.map ac.eval ++ cv) [] w := by
    refine ⟨hargs, R.Flt, fun r => trivial, fun r r' g c c' h => by simp [Hp.at, lookH, Box.alive] at h, fun r g c h => by simp [Hp.at, lookH, Box.alive] at h, R.glob⟩
  have hc := hF w F ρ _ 0 B
  unfold Oper.wp
  rw [call_run ho hcv hf hb hn]
  refine Calls.mono hc fun e w' hp => ?_
  cases e with
  | panicked c => exact hp.elim
  | outgrown => exact hp.elim
  | returned v =>
    obtain ⟨F', ρ', x, σ', a', hx, hFF, hR, hrep⟩ := hp
    subst hx
    have hold : ∀ g, g < w.heap.size → w'.heap[g]? = w.heap[g]? := fun g hg => hR.keep g hg (by rintro ⟨r, c, h, _⟩; simp [Hp.at, lookH, Box.alive] at h)
    have hFold : ∀ g, F' g → F g ∨ w.heap.size ≤ g := fun g hg => by
      rcases hR.Fold g hg with h | ⟨r, c, h, _⟩ | h
      · exact .inl h
      · simp [Hp.at, lookH, Box.alive] at h
      · exact .inr h
    have hFw : ∀ g, F g → w'.heap[g]? = w.heap[g]? := fun g hg => hold g (R.Flt g hg)
    have hsz : w.heap.size ≤ w'.heap.size := hR.size
    have R' : Rel C F' ρ Γ σ ac w' := by
      refine ⟨hR.os.trans R.os, hR.tape.trans R.tape, hR.output.trans R.output, Nat.le_trans R.size hsz, fun g hg hS => (hold g (Nat.lt_of_lt_of_le hg R.size)).trans (R.keep g hg hS), fun g hg => hFF g (R.F0 g hg), fun g hg => ?_, hR.Flt, fun r => (R.box r).mono hFF hFw rfl (fun _ _ => rfl) fun g c ha h => hold g (R.ltV ha h), R.inj, fun r g c ha h => ⟨fun hg => ?_, (R.own r g c ha h).2⟩, fun s => (R.slot s).mono hFF hFw fun _ _ => rfl, R.tsize, R.defers, fun p hp => ⟨(R.glob p hp).1.mono hFF hFw fun _ _ => rfl, (R.glob p hp).2⟩, R.fixd.mono (fun _ _ _ => rfl) (fun _ ha _ => ⟨ha, rfl⟩) fun r g c ha _ h => hold g (R.ltV ha h)⟩
      · rcases hFold g hg with h | h
        · exact R.Fold g h
        · exact .inr (.inr (Nat.le_trans R.size h))
      · rcases hFold g hg with h' | h'
        · exact (R.own r g c ha h).1 h'
        · have := R.ltV ha h
          omega
    exact hnx F' ρ v w' hFF (R'.put hd (hrep.mono (fun _ h => h) (fun _ _ => rfl) fun r hr => by rw [hy] at hr; simp at hr))
end
end Go.Rf
end
section
/- Operations under a guard; regions that draw their order. -/
set_option linter.unusedVariables false
set_option linter.unusedSimpArgs false
set_option linter.unusedSectionVars false
namespace Go.Rf
open Go GU GC Go.RowKit
variable {Ty : Type} [GU Ty] [GC Ty]

/-- Does an operation under a guard run? -/
def gexp : PV Ty → Bool → Option Bool
  | .bool b, true => some b
  | .bool b, false => some (!b)
  | .when g (.bool b), true => some (g && b)
  | .when g (.bool b), false => some (g && !b)
  | _, _ => none
def boolOf : Value → Option Bool
  | .bool b => some b
  | _ => none
theorem gexp_sound {F : Nat → Prop} {ρ : Rho} {w : World} {gv : PV Ty} {want e : Bool} (h : gexp gv want = some e) {v : Value} (hv : Rep F ρ w gv v) : (boolOf v == some want) = e := by
  unfold gexp at h
  split at h <;> simp at h <;> subst h
  · rw [hv.bool_inv]; rename_i b; cases b <;> rfl
  · rw [hv.bool_inv]; cases e <;> rfl
  · rename_i g b
    cases g with
    | false => rw [hv.when_inv.2 rfl]; rfl
    | true => rw [(hv.when_inv.1 rfl).bool_inv]; cases b <;> rfl
  · rename_i g b
    cases g with
    | false => rw [hv.when_inv.2 rfl]; rfl
    | true => rw [(hv.when_inv.1 rfl).bool_inv]; cases b <;> rfl

/-- What is only there where a guard holds is there where it does. -/
inductive PreG (e : Bool) (Γ : Env Ty) : Env Ty → Prop where
  | nil : PreG e Γ []
  | cons {s : Nat} {g : Bool} {y : PV Ty} {pre : Env Ty} (h : look Γ s = some (.when g y)) (hg : e = true → g = true) (t : PreG e Γ pre) : PreG e Γ ((s, y) :: pre)
theorem env_app (pre Γ : Env Ty) (s : Nat) : Env.at (pre ++ Γ) s = match look pre s with | some y => y | none => Γ.at s := by
  induction pre with
  | nil => rfl
  | cons p pre ih =>
    obtain ⟨k, x⟩ := p
    simp only [List.cons_append, Env.at_cons, look, beq_eq]
    by_cases h : k = s
    · simp [h]
    · simp [h, ih]
theorem PreG.at {e : Bool} {Γ pre : Env Ty} (h : PreG e Γ pre) (s : Nat) {y : PV Ty} (hs : look pre s = some y) : ∃ g, Γ.at s = .when g y ∧ (e = true → g = true) := by
  induction h with
  | nil => simp [look] at hs
  | cons h hg t ih =>
    rename_i s' g y' pre'
    simp only [look, beq_eq] at hs
    by_cases e' : s' = s
    · subst e'
      simp at hs
      subst hs
      exact ⟨g, Env.at_of h, hg⟩
    · simp [e'] at hs
      exact ih hs

section
variable {P : Program} {C : Ctx Ty} {f : FuncId} {ks : List Item} {Γ : Env Ty} {σ : Hp Ty} {Q : PV Ty → Hp Ty → Prop}

theorem Rel.pre {F : Nat → Prop} {ρ : Rho} {a : Act} {w : World} (R : Rel C F ρ Γ σ a w) {e : Bool} {pre : Env Ty} (hp : PreG e Γ pre) (he : e = true) : Rel C F ρ (pre ++ Γ) σ a w := by
  refine { R with slot := fun s => ?_ }
  rw [env_app]
  split
  · rename_i y hy
    obtain ⟨g, hg, hge⟩ := hp.at s hy
    have := R.slot s
    rw [hg] at this
    exact this.when_inv.1 (hge he)
  · exact R.slot s
theorem Rel.unpre {F : Nat → Prop} {ρ : Rho} {a : Act} {w : World} {pre : Env Ty} {e : Bool} (hp : PreG e Γ pre) (he : e = true) {dst : Option Tmp} {x x' : PV Ty} {σ' : Hp Ty} (hx : ∀ v, Rep F ρ w x v → Rep F ρ w x' v) (R : Rel C F ρ (upd (pre ++ Γ) dst x) σ' a w) : Rel C F ρ (upd Γ dst x') σ' a w := by
  have key : ∀ s, Rep F ρ w ((pre ++ Γ).at s) (a.tmps.getD s Go.undef) → Rep F ρ w (Γ.at s) (a.tmps.getD s Go.undef) := by
    intro s h
    rw [env_app] at h
    split at h
    · rename_i y hy
      obtain ⟨g, hg, hge⟩ := hp.at s hy
      rw [hg]
      exact .when g y _ (fun _ => h) fun h' => by rw [hge he] at h'; simp at h'
    · exact h
  refine { R with slot := fun s => ?_ }
  have hs := R.slot s
  cases dst with
  | none => exact key s hs
  | some d =>
    simp only [upd, Env.at_cons] at hs ⊢
    split
    · rename_i hds
      rw [if_pos hds] at hs
      exact hx _ hs
    · rename_i hds
      rw [if_neg hds] at hs
      exact key s hs

theorem yielded_of {F : Nat → Prop} {ρ : Rho} {a : Act} {w : World} (R : Rel C F ρ Γ σ a w) {ops : Array Oper} {o : Oper} {j : Nat} {want : Bool} {dj : Tmp} {gv : PV Ty} {e : Bool} (hg : o.guard = some (j, want)) (hj : (ops[j]?).bind (·.dst) = some dj) (hl : look Γ dj = some gv) (he : gexp gv want = some e) :
    Region.wanted o (yielded ops a.tmps) = e := by
  have hs := R.slot dj
  rw [Env.at_of hl] at hs
  have := gexp_sound he hs
  have hy : yielded ops a.tmps j = boolOf (a.tmps.getD dj Go.undef) := by
    simp only [yielded, hj, Option.bind_some, Array.getD_eq_getD_getElem?]
    cases a.tmps[dj]? with
    | none => rfl
    | some v => cases v <;> rfl
  simp only [Region.wanted, hg, hy]
  exact this

theorem SeqS.consG {ops : Array Oper} {o : Oper} {l : List Oper} {j : Nat} {want : Bool} {dj : Tmp} {gv x : PV Ty} {e : Bool} {pre : Env Ty} {S : Env Ty → Hp Ty → Prop} (hd : ∀ d, o.dst = some d → d < C.nt) (hg : o.guard = some (j, want)) (hj : (ops[j]?).bind (·.dst) = some dj) (hl : look Γ dj = some gv) (he : gexp gv want = some e)
    (hp : PreG e Γ pre) (h : e = true → Sound P C o (pre ++ Γ) σ x σ) (t : SeqS P C ops l (upd Γ o.dst (.when e x)) σ S) : SeqS P C ops (o :: l) Γ σ S := by
  intro F ρ a w R Q hq
  refine wpList_step fun K hK => ?_
  rw [yielded_of R hg hj hl he]
  cases e with
  | true =>
    simp only [if_true]
    refine h rfl F ρ a w (R.pre hp rfl) K Q fun F1 ρ1 v w1 hF R1 => hK _ _ ?_
    exact t F1 ρ1 _ w1 (R1.unpre hp rfl fun v hv => .when true x v (fun _ => hv) fun h => by simp at h) Q fun F2 ρ2 a2 w2 Γ2 σ2 hF2 hS R2 => hq F2 ρ2 a2 w2 Γ2 σ2 (fun g hg => hF2 g (hF g hg)) hS R2
  | false =>
    simp only [Bool.false_eq_true, if_false]
    exact hK _ _ (t F ρ _ w (R.put hd (.when false x _ (fun h => by simp at h) fun _ => rfl)) Q fun F2 ρ2 a2 w2 Γ2 σ2 hF2 hS R2 => hq F2 ρ2 a2 w2 Γ2 σ2 hF2 hS R2)
/-- A guarded operation that is known to run. -/
theorem SeqS.run {ops : Array Oper} {o : Oper} {l : List Oper} {j : Nat} {want : Bool} {dj : Tmp} {gv x : PV Ty} {e : Bool} {Γ1 : Env Ty} {σ1 : Hp Ty} {S : Env Ty → Hp Ty → Prop} (hg : o.guard = some (j, want)) (hj : (ops[j]?).bind (·.dst) = some dj) (hl : look Γ dj = some gv) (he : gexp gv want = some e) (ht : e = true)
    (h : SoundG P C o Γ σ x Γ1 σ1) (t : SeqS P C ops l (upd Γ1 o.dst x) σ1 S) : SeqS P C ops (o :: l) Γ σ S := by
  intro F ρ a w R Q hq
  refine wpList_step fun K hK => ?_
  rw [yielded_of R hg hj hl he, ht]
  simp only [if_true]
  exact h F ρ a w R K Q fun F1 ρ1 v w1 hF R1 => hK _ _ (t F1 ρ1 _ w1 R1 Q fun F2 ρ2 a2 w2 Γ2 σ2 hF2 hS R2 => hq F2 ρ2 a2 w2 Γ2 σ2 (fun g hg => hF2 g (hF g hg)) hS R2)
/-- One that is known not to run. -/
theorem SeqS.skip {ops : Array Oper} {o : Oper} {l : List Oper} {j : Nat} {want : Bool} {dj : Tmp} {gv : PV Ty} {e : Bool} {S : Env Ty → Hp Ty → Prop} (x : PV Ty) (hd : ∀ d, o.dst = some d → d < C.nt) (hg : o.guard = some (j, want)) (hj : (ops[j]?).bind (·.dst) = some dj) (hl : look Γ dj = some gv) (he : gexp gv want = some e) (hf : e = false)
    (t : SeqS P C ops l (upd Γ o.dst (.when e x)) σ S) : SeqS P C ops (o :: l) Γ σ S := by
  intro F ρ a w R Q hq
  refine wpList_step fun K hK => ?_
  subst hf
  rw [yielded_of R hg hj hl he]
  simp only [Bool.false_eq_true, if_false]
  exact hK _ _ (t F ρ _ w (R.put hd (.when false x _ (fun h => by simp at h) fun _ => rfl)) Q fun F2 ρ2 a2 w2 Γ2 σ2 hF2 hS R2 => hq F2 ρ2 a2 w2 Γ2 σ2 hF2 hS R2)
/-- What is only there where a guard holds is there. -/
theorem SeqS.pre {ops : Array Oper} {l : List Oper} {e : Bool} {pre : Env Ty} {S : Env Ty → Hp Ty → Prop} (he : e = true) (hp : PreG e Γ pre) (t : SeqS P C ops l (pre ++ Γ) σ S) : SeqS P C ops l Γ σ S :=
  fun F ρ a w R Q hq => t F ρ a w (R.pre hp he) Q hq
end
end Go.Rf
end
section
/- Regions that draw their order: what only computes, in whatever order; then the rest, in the text's order. -/
set_option linter.unusedVariables false
set_option linter.unusedSimpArgs false
set_option linter.unusedSectionVars false
namespace Go.Rf
open Go GU GC Go.RowKit
variable {Ty : Type} [GU Ty] [GC Ty]

/-- What is told of an operation that only computes: what it looks up, its guard (the place of its slot, and what is wanted), does it run, its value, what it needs of labelled things, the new things that it labels. -/
structure QS (Ty : Type) [GU Ty] where
  dst : Option Tmp
  pre : Env Ty
  gslot : Option Tmp
  e : Bool
  x : PV Ty
  need : Hp Ty
  ext : Hp Ty
def QS.res (q : QS Ty) : PV Ty := match q.gslot with
  | none => q.x
  | some _ => .when q.e q.x
/-- The slots when those operations have run for which D holds. -/
def gam (D : Nat → Bool) : Nat → List (QS Ty) → Env Ty → Env Ty
  | _, [], Γ => Γ
  | i, q :: t, Γ => bif D i then upd (gam D (i + 1) t Γ) q.dst q.res else gam D (i + 1) t Γ
/-- What is labelled when those have run; a later one wins. -/
def sig (D : Nat → Bool) : Nat → List (QS Ty) → Hp Ty → Hp Ty
  | _, [], σ => σ
  | i, q :: t, σ => sig D (i + 1) t (bif D i then q.ext ++ σ else σ)
/-- Which operation writes a slot. -/
def wr : Nat → List (QS Ty) → Tmp → Option (Nat × PV Ty)
  | _, [], _ => none
  | i, q :: t, s => match q.dst with
    | some d => bif Nat.beq d s then some (i, q.res) else wr (i + 1) t s
    | none => wr (i + 1) t s
def dsts : List (QS Ty) → List Nat
  | [] => []
  | q :: t => match q.dst with
    | some d => d :: dsts t
    | none => dsts t
def nodup : List Nat → Bool
  | [] => true
  | x :: xs => !memN x xs && nodup xs
theorem wr_mem : ∀ {i : Nat} {L : List (QS Ty)} {s : Tmp} {p : Nat × PV Ty}, wr i L s = some p → s ∈ dsts L ∧ i ≤ p.1 ∧ p.1 < i + L.length
  | i, [], s, p, h => by simp [wr] at h
  | i, q :: t, s, p, h => by
    simp only [wr] at h
    cases hd : q.dst with
    | none =>
      simp only [hd] at h
      have := wr_mem h
      simp only [dsts, hd, List.length_cons]
      exact ⟨this.1, by omega, by omega⟩
    | some d =>
      simp only [hd, beq_eq] at h
      by_cases e : d = s
      · subst e
        simp at h
        subst h
        simp [dsts, hd]
      · simp [e] at h
        have := wr_mem h
        simp only [dsts, hd, List.length_cons, List.mem_cons]
        exact ⟨.inr this.1, by omega, by omega⟩
theorem gam_at (D : Nat → Bool) : ∀ (i : Nat) (L : List (QS Ty)) (Γ : Env Ty) (s : Tmp), nodup (dsts L) = true → (gam D i L Γ).at s = match wr i L s with
    | some (j, y) => if D j = true then y else Γ.at s
    | none => Γ.at s
  | i, [], Γ, s, _ => rfl
  | i, q :: t, Γ, s, h => by
    simp only [gam, wr]
    cases hd : q.dst with
    | none =>
      have h' : nodup (dsts t) = true := by simpa [dsts, hd] using h
      have ih := gam_at D (i + 1) t Γ s h'
      cases hD : D i <;> simp [upd, ih]
    | some d =>
      have h' : nodup (dsts t) = true := by
        simp only [dsts, hd, nodup, Bool.and_eq_true] at h
        exact h.2
      have hnm : d ∉ dsts t := by
        simp only [dsts, hd, nodup, Bool.and_eq_true, Bool.not_eq_true'] at h
        exact memN_false h.1
      have ih := gam_at D (i + 1) t Γ s h'
      by_cases e : d = s
      · subst e
        have hw : wr (i + 1) t d = none := by
          cases hw : wr (i + 1) t d with
          | none => rfl
          | some p => exact absurd (wr_mem hw).1 hnm
        rw [hw] at ih
        cases hD : D i <;> simp [upd, Env.at_cons, beq_eq, hD, ih]
      · cases hD : D i <;> simp [upd, Env.at_cons, beq_eq, e, ih]
theorem hp_app (a b : Hp Ty) (r : Nat) : Hp.at (a ++ b) r = match lookH a r with | some y => y | none => b.at r := by
  induction a with
  | nil => rfl
  | cons p a ih =>
    obtain ⟨k, x⟩ := p
    simp only [List.cons_append, Hp.at_cons, lookH, beq_eq]
    by_cases h : k = r
    · simp [h]
    · simp [h, ih]

theorem Rel.congr {C : Ctx Ty} {F : Nat → Prop} {ρ : Rho} {Γ Γ' : Env Ty} {σ σ' : Hp Ty} {a : Act} {w : World} (R : Rel C F ρ Γ σ a w) (hΓ : ∀ s, Rep F ρ w (Γ.at s) (a.tmps.getD s Go.undef) → Rep F ρ w (Γ'.at s) (a.tmps.getD s Go.undef)) (hσ : ∀ r, σ'.at r = σ.at r) : Rel C F ρ Γ' σ' a w :=
  { R with box := fun r => by rw [hσ]; exact R.box r, inj := fun r r' g c c' h1 h2 => R.inj r r' g c c' (by rw [← hσ]; exact h1) (by rw [← hσ]; exact h2), own := fun r g c h => R.own r g c (by rw [← hσ]; exact h), slot := fun s => hΓ s (R.slot s), fixd := R.fixd.mono (fun _ _ _ => rfl) (fun r ha _ => by rw [hσ]; exact ⟨ha, rfl⟩) fun _ _ _ _ _ _ => rfl }

/-- The edges that bind in whatever order. -/
def bindsOn (o : Oper) : List Nat := (o.after.toList.filter fun e => Region.binds .any e).map (·.on)
/-- B tells of each operation those that surely run ahead of it. -/
def befOK (B : List (List Nat)) : Nat → List Oper → Bool
  | _, [] => true
  | j, o :: t => ((bindsOn o).all fun p => Nat.blt p j) && ((B.getD j []).all fun p => memN p (bindsOn o) || (bindsOn o).any fun m => memN p (B.getD m [])) && befOK B (j + 1) t
/-- Each slot that is looked at: its writer runs ahead, or surely behind. -/
def slotOK (L : List (QS Ty)) (B : List (List Nat)) (i s : Nat) : Bool := match wr 0 L s with
  | none => true
  | some (j, _) => Nat.beq j i || (Nat.blt j i && memN j (B.getD i [])) || (Nat.blt i j && memN i (B.getD j []))
def looks (q : QS Ty) : List Nat := (match q.gslot with | some s => [s] | none => []) ++ q.pre.map (·.1)
def slotsOK (L : List (QS Ty)) (B : List (List Nat)) : Nat → List (QS Ty) → Bool
  | _, [] => true
  | i, q :: t => (looks q).all (slotOK L B i) && slotsOK L B (i + 1) t
/-- The labels that are new. -/
def extLabels (q : QS Ty) : List Nat := (q.ext.filter fun b => b.2.alive && !(memN b.1 (q.need.map (·.1)))).map (·.1)
def touch (q : QS Ty) : List Nat := q.ext.map (·.1)
/-- A new label is mentioned by those alone that run behind. -/
def extOK (L : List (QS Ty)) (B : List (List Nat)) (i : Nat) (q : QS Ty) : Bool :=
  (extLabels q).all fun d => ((List.range L.length).all fun j => Nat.beq j i || memN i (B.getD j []) || match L[j]? with
    | some p => !(memN d p.x.labels) && p.ext.all fun b => !(Nat.beq b.1 d) && !(memN d b.2.labels)
    | none => true)
def extsOK (L : List (QS Ty)) (B : List (List Nat)) : Nat → List (QS Ty) → Bool
  | _, [] => true
  | i, q :: t => extOK L B i q && extsOK L B (i + 1) t
/-- Those that write a label run surely ahead of, or behind, those that need or write it. -/
def labOK (L : List (QS Ty)) (B : List (List Nat)) (i : Nat) (q : QS Ty) : Bool :=
  (q.need.map (·.1) ++ touch q).all fun r => (List.range L.length).all fun k => Nat.beq k i || (match L[k]? with | some p => !(memN r (touch p)) | none => true) || (Nat.blt k i && memN k (B.getD i [])) || (Nat.blt i k && memN i (B.getD k []))
def labsOK (L : List (QS Ty)) (B : List (List Nat)) : Nat → List (QS Ty) → Bool
  | _, [] => true
  | i, q :: t => labOK L B i q && labsOK L B (i + 1) t
def tailOK (B : List (List Nat)) : Nat → Nat → Bool
  | _, 0 => true
  | m, n + 1 => ((List.range m).all fun i => memN i (B.getD m [])) && tailOK B (m + 1) n
def dstsOK : List (QS Ty) → List Oper → Bool
  | [], _ => true
  | _ :: _, [] => false
  | q :: t, o :: l => (match q.dst, o.dst with | some a, some b => Nat.beq a b | none, none => true | _, _ => false) && dstsOK t l
def drawOK (L : List (QS Ty)) (B : List (List Nat)) (ops : List Oper) : Bool :=
  befOK B 0 ops && slotsOK L B 0 L && extsOK L B 0 L && tailOK B L.length (ops.length - L.length) && nodup (dsts L) && labsOK L B 0 L && dstsOK L ops && Nat.ble L.length ops.length && Region.noSelect ops.toArray

/-- What an operation looks up is there, or there where its guard holds. -/
inductive PreQ (e : Bool) (Γ : Env Ty) : Env Ty → Prop where
  | nil : PreQ e Γ []
  | same {s : Nat} {y : PV Ty} {pre : Env Ty} (h : look Γ s = some y) (t : PreQ e Γ pre) : PreQ e Γ ((s, y) :: pre)
  | when {s : Nat} {g : Bool} {y : PV Ty} {pre : Env Ty} (h : look Γ s = some (.when g y)) (hg : e = true → g = true) (t : PreQ e Γ pre) : PreQ e Γ ((s, y) :: pre)
theorem PreQ.at {e : Bool} {Γ pre : Env Ty} (h : PreQ e Γ pre) (s : Nat) {y : PV Ty} (hs : look pre s = some y) : s ∈ pre.map (·.1) ∧ (Γ.at s = y ∨ ∃ g, Γ.at s = .when g y ∧ (e = true → g = true)) := by
  induction h with
  | nil => simp [look] at hs
  | same h t ih =>
    rename_i s' y' pre'
    simp only [look, beq_eq] at hs
    by_cases e' : s' = s
    · subst e'
      simp at hs
      subst hs
      exact ⟨by simp, .inl (Env.at_of h)⟩
    · simp [e'] at hs
      exact ⟨by simp [(ih hs).1], (ih hs).2⟩
  | when h hg t ih =>
    rename_i s' g y' pre'
    simp only [look, beq_eq] at hs
    by_cases e' : s' = s
    · subst e'
      simp at hs
      subst hs
      exact ⟨by simp, .inr ⟨g, Env.at_of h, hg⟩⟩
    · simp [e'] at hs
      exact ⟨by simp [(ih hs).1], (ih hs).2⟩

/-- One operation of those that only compute. -/
structure QOK (P : Program) (C : Ctx Ty) (ops : Array Oper) (Γ0 : Env Ty) (σ0 : Hp Ty) (L : List (QS Ty)) (i : Nat) (o : Oper) (q : QS Ty) : Prop where
  gext : q.gslot = none ∨ q.ext = []
  dst : ∀ d, o.dst = some d → d < C.nt
  guard : match o.guard with
    | none => q.gslot = none ∧ q.e = true
    | some (j, want) => ∃ s gv, q.gslot = some s ∧ (ops[j]?).bind (·.dst) = some s ∧ look (gam (fun m => Nat.blt m i) 0 L Γ0) s = some gv ∧ gexp gv want = some q.e
  pre : PreQ q.e (gam (fun m => Nat.blt m i) 0 L Γ0) q.pre
  need : ∀ p, p ∈ q.need → (sig (fun m => Nat.blt m i) 0 L σ0).at p.1 = p.2
  fresh : ∀ d, d ∈ extLabels q → noM d Γ0 = true ∧ noMH d σ0 = true
  sound : ∀ Γx σx, (∀ d, d ∈ extLabels q → noM d Γx = true ∧ noMH d σx = true) → q.e = true → Sound P C o (q.pre ++ Γx) (q.need ++ σx) q.x (q.ext ++ (q.need ++ σx))
end Go.Rf
end
section
/- A region that draws its order goes as one that is in the text's order. -/
set_option linter.unusedVariables false
set_option linter.unusedSimpArgs false
set_option linter.unusedSectionVars false
namespace Go.Rf
open Go GU GC Go.RowKit
variable {Ty : Type} [GU Ty] [GC Ty]

theorem lookH_mem : ∀ {σ : Hp Ty} {r : Nat} {y : Box Ty}, lookH σ r = some y → (r, y) ∈ σ
  | [], r, y, h => by simp [lookH] at h
  | (k, x) :: σ, r, y, h => by
    simp only [lookH, beq_eq] at h
    by_cases e : k = r
    · simp [e] at h; simp [e, h]
    · simp [e] at h; exact List.mem_cons_of_mem _ (lookH_mem h)
theorem touch_of {q : QS Ty} {r : Nat} {y : Box Ty} (h : lookH q.ext r = some y) : r ∈ touch q := by
  simp only [touch, List.mem_map]
  exact ⟨_, lookH_mem h, rfl⟩
theorem touch_none {q : QS Ty} {r : Nat} (h : r ∉ touch q) : lookH q.ext r = none := by
  cases hl : lookH q.ext r with
  | none => rfl
  | some y => exact absurd (touch_of hl) h
/-- What the operations that have run make of a label. -/
def sigAt (D : Nat → Bool) : Nat → List (QS Ty) → Nat → Option (Box Ty)
  | _, [], _ => none
  | i, q :: t, r => match sigAt D (i + 1) t r with
    | some y => some y
    | none => bif D i then lookH q.ext r else none
theorem sig_at (D : Nat → Bool) : ∀ (i : Nat) (L : List (QS Ty)) (σ : Hp Ty) (r : Nat), (sig D i L σ).at r = (sigAt D i L r).getD (σ.at r)
  | i, [], σ, r => rfl
  | i, q :: t, σ, r => by
    simp only [sig, sigAt]
    rw [sig_at D (i + 1) t _ r]
    cases sigAt D (i + 1) t r with
    | some y => rfl
    | none =>
      cases hD : D i with
      | false => rfl
      | true =>
        simp only [cond_true, Option.getD_none, hp_app]
        cases lookH q.ext r <;> rfl
theorem sigAt_congr {D D' : Nat → Bool} {r : Nat} : ∀ {i : Nat} {L : List (QS Ty)}, (∀ k q, L[k]? = some q → r ∈ touch q → D (i + k) = D' (i + k)) → sigAt D i L r = sigAt D' i L r
  | i, [], _ => rfl
  | i, q :: t, h => by
    simp only [sigAt]
    rw [sigAt_congr (D := D) (D' := D') (i := i + 1) (L := t) fun k q' hk hr => by have := h (k + 1) q' (by simpa using hk) hr; rwa [show i + (k + 1) = i + 1 + k by omega] at this]
    by_cases hr : r ∈ touch q
    · rw [show D i = D' i from h 0 q rfl hr]
    · simp [touch_none hr]
theorem sigAt_put {D : Nat → Bool} {r j : Nat} {q : QS Ty} {y : Box Ty} : ∀ {i : Nat} {L : List (QS Ty)}, L[j]? = some q → lookH q.ext r = some y → D (i + j) = true → (∀ k q', L[k]? = some q' → r ∈ touch q' → D (i + k) = true → k ≤ j) → sigAt D i L r = some y := by
  induction j with
  | zero =>
    intro i L hL hy hD hk
    cases L with
    | nil => simp at hL
    | cons p t =>
      simp at hL
      subst hL
      simp only [sigAt]
      have hn : sigAt D (i + 1) t r = none := by
        have : sigAt D (i + 1) t r = sigAt (fun _ => false) (i + 1) t r := sigAt_congr fun k q' hq hr => by
          cases hd : D (i + 1 + k) with
          | false => rfl
          | true =>
            have := hk (k + 1) q' (by simpa using hq) hr (by rwa [show i + (k + 1) = i + 1 + k by omega])
            omega
        rw [this]
        have hf : ∀ (i : Nat) (t : List (QS Ty)), sigAt (fun _ => false) i t r = none := by
          intro i t
          induction t generalizing i with
          | nil => rfl
          | cons p t ih => simp [sigAt, ih]
        exact hf _ _
      rw [hn, show D i = true from hD]
      exact hy
  | succ j ih =>
    intro i L hL hy hD hk
    cases L with
    | nil => simp at hL
    | cons p t =>
      simp only [sigAt]
      rw [ih (i := i + 1) (L := t) (by simpa using hL) hy (by rwa [show i + (j + 1) = i + 1 + j by omega] at hD) fun k q' hq hr hd => by
        have := hk (k + 1) q' (by simpa using hq) hr (by rwa [show i + (k + 1) = i + 1 + k by omega])
        omega]
theorem wr_get : ∀ {i k : Nat} {L : List (QS Ty)} {q : QS Ty} {d : Nat}, L[k]? = some q → q.dst = some d → nodup (dsts L) = true → wr i L d = some (i + k, q.res)
  | i, k, [], q, d, h, _, _ => by simp at h
  | i, 0, q :: t, q', d, h, hd, hn => by
    simp at h
    subst h
    simp [wr, hd]
  | i, k + 1, q :: t, q', d, h, hd, hn => by
    have h1 : t[k]? = some q' := by simpa using h
    have hmem : ∀ {L : List (QS Ty)} {k : Nat}, L[k]? = some q' → d ∈ dsts L := by
      intro L
      induction L with
      | nil => intro k hk; simp at hk
      | cons p L ih =>
        intro k hk
        cases k with
        | zero => simp at hk; subst hk; simp [dsts, hd]
        | succ k =>
          have := ih (by simpa using hk)
          simp only [dsts]
          split
          · exact List.mem_cons_of_mem _ this
          · exact this
    cases hq : q.dst with
    | none =>
      have hn' : nodup (dsts t) = true := by simpa [dsts, hq] using hn
      have := wr_get (i := i + 1) h1 hd hn'
      simp only [wr, hq, this]
      congr 2
      omega
    | some d' =>
      simp only [dsts, hq, nodup, Bool.and_eq_true, Bool.not_eq_true'] at hn
      have hne : d' ≠ d := fun e => memN_false hn.1 (e ▸ hmem h1)
      have := wr_get (i := i + 1) h1 hd hn.2
      simp only [wr, hq, this, beq_eq, hne, decide_false, cond_false]
      congr 2
      omega
theorem wr_dst : ∀ {i : Nat} {L : List (QS Ty)} {s : Tmp} {p : Nat × PV Ty}, wr i L s = some p → ∃ q, L[p.1 - i]? = some q ∧ q.dst = some s ∧ i ≤ p.1 ∧ p.2 = q.res
  | i, [], s, p, h => by simp [wr] at h
  | i, q :: t, s, p, h => by
    simp only [wr] at h
    have go : wr (i + 1) t s = some p → ∃ q', (q :: t)[p.1 - i]? = some q' ∧ q'.dst = some s ∧ i ≤ p.1 ∧ p.2 = q'.res := by
      intro h
      obtain ⟨q', h1, h2, h3, h4⟩ := wr_dst h
      refine ⟨q', ?_, h2, by omega, h4⟩
      have : p.1 - i = (p.1 - (i + 1)) + 1 := by omega
      rw [this]
      simpa using h1
    cases hq : q.dst with
    | none => simp only [hq] at h; exact go h
    | some d =>
      simp only [hq, beq_eq] at h
      by_cases e : d = s
      · subst e
        simp at h
        subst h
        exact ⟨q, by simp, hq, Nat.le_refl _, rfl⟩
      · simp [e] at h
        exact go h
theorem Rel.drawn {C : Ctx Ty} {F : Nat → Prop} {ρ : Rho} {Γ : Env Ty} {σ : Hp Ty} {a : Act} {w : World} (R : Rel C F ρ Γ σ a w) (n : Nat) : Rel C F ρ Γ σ a { w with drawn := n } :=
  { R with
    box := fun r => Boxed.mono (w := w) (w' := { w with drawn := n }) (fun _ h => h) (fun _ _ => rfl) rfl (fun _ _ => rfl) (fun _ _ _ _ => rfl) (R.box r)
    slot := fun s => Rep.mono (w := w) (w' := { w with drawn := n }) (fun _ h => h) (fun _ _ => rfl) (R.slot s) (fun _ _ => rfl)
    glob := fun p hp => ⟨Rep.mono (w := w) (w' := { w with drawn := n }) (fun _ h => h) (fun _ _ => rfl) (R.glob p hp).1 (fun _ _ => rfl), (R.glob p hp).2⟩ }

theorem gam_congr {D D' : Nat → Bool} : ∀ {i : Nat} {L : List (QS Ty)} {Γ : Env Ty}, (∀ k, k < L.length → D (i + k) = D' (i + k)) → gam D i L Γ = gam D' i L Γ
  | i, [], Γ, _ => rfl
  | i, q :: t, Γ, h => by
    simp only [gam]
    have ih := gam_congr (D := D) (D' := D') (i := i + 1) (L := t) (Γ := Γ) fun k hk => by have := h (k + 1) (by simpa using hk); rwa [show i + (k + 1) = i + 1 + k by omega] at this
    rw [ih, show D i = D' i from h 0 (by simp)]
theorem sig_congr {D D' : Nat → Bool} : ∀ {i : Nat} {L : List (QS Ty)} {σ : Hp Ty}, (∀ k, k < L.length → D (i + k) = D' (i + k)) → sig D i L σ = sig D' i L σ
  | i, [], σ, _ => rfl
  | i, q :: t, σ, h => by
    simp only [sig]
    rw [show D i = D' i from h 0 (by simp)]
    exact sig_congr (D := D) (D' := D') (i := i + 1) (L := t) fun k hk => by have := h (k + 1) (by simpa using hk); rwa [show i + (k + 1) = i + 1 + k by omega] at this
theorem res_labels (q : QS Ty) : q.res.labels = q.x.labels := by
  unfold QS.res
  split <;> simp [PV.labels]
theorem gam_noM {D : Nat → Bool} {d : Nat} : ∀ {i : Nat} {L : List (QS Ty)} {Γ : Env Ty}, noM d Γ = true → (∀ k q, L[k]? = some q → D (i + k) = true → memN d q.x.labels = false) → noM d (gam D i L Γ) = true
  | i, [], Γ, h, _ => h
  | i, q :: t, Γ, h, hq => by
    have ih := gam_noM (i := i + 1) (L := t) h fun k q' hk hD => hq (k + 1) q' (by simpa using hk) (by rwa [show i + 1 + k = i + (k + 1) by omega] at hD)
    simp only [gam]
    cases hD : D i with
    | false => exact ih
    | true =>
      simp only [cond_true]
      cases hd : q.dst with
      | none => exact ih
      | some s => simp only [upd, noM, ih, res_labels, hq 0 q rfl hD]; rfl
theorem noMH_app {d : Nat} : ∀ {a b : Hp Ty}, noMH d a = true → noMH d b = true → noMH d (a ++ b) = true
  | [], b, _, h => h
  | (k, x) :: a, b, h, h' => by
    simp only [noMH, Bool.and_eq_true, List.cons_append] at h ⊢
    exact ⟨h.1, noMH_app h.2 h'⟩
theorem sig_noM {D : Nat → Bool} {d : Nat} : ∀ {i : Nat} {L : List (QS Ty)} {σ : Hp Ty}, noMH d σ = true → (∀ k q, L[k]? = some q → D (i + k) = true → noMH d q.ext = true) → noMH d (sig D i L σ) = true
  | i, [], σ, h, _ => h
  | i, q :: t, σ, h, hq => by
    simp only [sig]
    refine sig_noM (i := i + 1) (L := t) ?_ fun k q' hk hD => hq (k + 1) q' (by simpa using hk) (by rwa [show i + 1 + k = i + (k + 1) by omega] at hD)
    cases hD : D i with
    | false => exact h
    | true => exact noMH_app (hq 0 q rfl hD) h
theorem memN_true {x : Nat} {l : List Nat} (h : memN x l = true) : x ∈ l := memN_iff.1 h
def lst (listed : Array Bool) (i : Nat) : Bool := listed.getD i false
def ClosedB (B : List (List Nat)) (listed : Array Bool) : Prop := ∀ j p, lst listed j = true → p ∈ B.getD j [] → lst listed p = true
theorem mem_bindsOn {o : Oper} {p : Nat} : p ∈ bindsOn o ↔ ∃ e, e ∈ o.after ∧ Region.binds .any e = true ∧ e.on = p := by
  simp only [bindsOn, List.mem_map, List.mem_filter, Array.mem_toList_iff]
  exact ⟨fun ⟨e, ⟨h1, h2⟩, h3⟩ => ⟨e, h1, h2, h3⟩, fun ⟨e, h1, h2, h3⟩ => ⟨e, ⟨h1, h2⟩, h3⟩⟩
theorem befOK_at {B : List (List Nat)} : ∀ {l : List Oper} {i k : Nat} {o : Oper}, befOK B i l = true → l[k]? = some o → (∀ p, p ∈ bindsOn o → p < i + k) ∧ ∀ p, p ∈ B.getD (i + k) [] → p ∈ bindsOn o ∨ ∃ m, m ∈ bindsOn o ∧ p ∈ B.getD m []
  | [], i, k, o, _, hk => by simp at hk
  | o' :: l, i, 0, o, h, hk => by
    simp at hk
    subst hk
    simp only [befOK, Bool.and_eq_true, List.all_eq_true, Bool.or_eq_true, List.any_eq_true] at h
    refine ⟨fun p hp => by have := h.1.1 p hp; simpa [Nat.blt_eq] using this, fun p hp => ?_⟩
    rcases h.1.2 p hp with h1 | ⟨m, hm, h1⟩
    · exact .inl (memN_true h1)
    · exact .inr ⟨m, hm, memN_true h1⟩
  | o' :: l, i, k + 1, o, h, hk => by
    simp only [befOK, Bool.and_eq_true] at h
    have := befOK_at (i := i + 1) (k := k) h.2 (by simpa using hk)
    rw [show i + (k + 1) = i + 1 + k by omega]
    exact this
theorem lst_set {listed : Array Bool} {i j : Nat} (hi : i < listed.size) : lst (listed.setIfInBounds i true) j = (decide (i = j) || lst listed j) := by
  by_cases h : i = j
  · subst h
    simp [lst, hi]
  · simp only [lst, getD_set_ne false h, h, decide_false, Bool.false_or]
theorem count_set {listed : Array Bool} {i n : Nat} (hi : i < listed.size) (h0 : lst listed i = false) (hc : listed.toList.count false ≤ n + 1) : (listed.setIfInBounds i true).toList.count false ≤ n := by
  have h1 : listed.toList[i]'(by simpa using hi) = false := by
    have := h0
    simp only [lst, Array.getD_eq_getD_getElem?, Array.getElem?_eq_getElem hi, Option.getD_some] at this
    simpa using this
  rw [Array.toList_setIfInBounds, List.count_set (by simpa using hi), h1]
  simp only [beq_self_eq_true, if_true]
  have : (true == false) = false := rfl
  simp only [this, Bool.false_eq_true, if_false]
  omega
theorem count_pos {listed : Array Bool} {i : Nat} (hi : i < listed.size) (h0 : lst listed i = false) : 0 < listed.toList.count false := by
  refine List.count_pos_iff.2 ?_
  have h1 : listed[i] = false := by
    have := h0
    simpa only [lst, Array.getD_eq_getD_getElem?, Array.getElem?_eq_getElem hi, Option.getD_some] using this
  rw [← h1]
  simp
theorem least {p : Nat → Bool} : ∀ {n : Nat}, (∃ i, i < n ∧ p i = false) → ∃ k, k < n ∧ p k = false ∧ ∀ j, j < k → p j = true
  | 0, ⟨i, hi, _⟩ => absurd hi (Nat.not_lt_zero i)
  | n + 1, ⟨i, hi, h⟩ => by
    by_cases h' : ∃ i, i < n ∧ p i = false
    · obtain ⟨k, hk, h1, h2⟩ := least h'
      exact ⟨k, by omega, h1, h2⟩
    · have hin : i = n := by
        by_cases hin : i < n
        · exact absurd ⟨i, hin, h⟩ h'
        · omega
      subst hin
      refine ⟨i, hi, h, fun j hj => ?_⟩
      cases hp : p j with
      | true => rfl
      | false => exact absurd ⟨j, hj, hp⟩ h'

section
variable {P : Program} {C : Ctx Ty} {f : FuncId} {ks : List Item} {Γ0 Γ' : Env Ty} {σ0 σ' : Hp Ty} {ops : Array Oper} {B : List (List Nat)} {L : List (QS Ty)}

theorem ready_facts {listed : Array Bool} {j : Nat} (hs : listed.size = ops.size) (h : j ∈ Region.ready .any ops listed) : ∃ o, ops[j]? = some o ∧ j < ops.size ∧ lst listed j = false ∧ ∀ p, p ∈ bindsOn o → lst listed p = true := by
  obtain ⟨h0, o, ho, h1⟩ := mem_ready.1 h
  have hj : j < ops.size := (Array.getElem?_eq_some_iff.1 ho).1
  refine ⟨o, ho, hj, ?_, fun p hp => ?_⟩
  · have : j < listed.size := by omega
    simpa [lst, Array.getD_eq_getD_getElem?, Array.getElem?_eq_getElem this] using h0
  · obtain ⟨e, he, hb, rfl⟩ := mem_bindsOn.1 hp
    exact h1 e he hb
theorem ready_of {listed : Array Bool} {j : Nat} {o : Oper} (hs : listed.size = ops.size) (ho : ops[j]? = some o) (h0 : lst listed j = false) (h1 : ∀ p, p ∈ bindsOn o → lst listed p = true) : j ∈ Region.ready .any ops listed := by
  have hj : j < listed.size := by rw [hs]; exact (Array.getElem?_eq_some_iff.1 ho).1
  refine mem_ready.2 ⟨?_, o, ho, fun e he hb => h1 _ (mem_bindsOn.2 ⟨e, he, hb, rfl⟩)⟩
  simpa [lst, Array.getD_eq_getD_getElem?, Array.getElem?_eq_getElem hj] using h0
theorem closed_set {listed : Array Bool} {j : Nat} {o : Oper} (hbef : befOK B 0 ops.toList = true) (ho : ops[j]? = some o) (hj : j < listed.size) (hcl : ClosedB B listed) (hb : ∀ p, p ∈ bindsOn o → lst listed p = true) : ClosedB B (listed.setIfInBounds j true) ∧ ∀ p, p ∈ B.getD j [] → lst listed p = true := by
  have hbj : ∀ p, p ∈ B.getD j [] → lst listed p = true := by
    intro p hp
    have := (befOK_at (k := j) (o := o) hbef (by simpa using ho)).2 p (by simpa using hp)
    rcases this with h | ⟨m, hm, h⟩
    · exact hb p h
    · exact hcl m p (hb m hm) h
  refine ⟨fun k p hk hp => ?_, hbj⟩
  rw [lst_set hj] at hk ⊢
  by_cases e : j = k
  · subst e
    simp [hbj p hp]
  · simp [e] at hk
    simp [hcl k p hk hp]

theorem tailOK_at {B : List (List Nat)} : ∀ {n m j i : Nat}, tailOK B m n = true → m ≤ j → j < m + n → i < j → (∀ i, i < m → i < j) → i ∈ B.getD j []
  | 0, m, j, i, _, h1, h2, _, _ => by omega
  | n + 1, m, j, i, h, h1, h2, h3, h4 => by
    simp only [tailOK, Bool.and_eq_true, List.all_eq_true] at h
    by_cases e : m = j
    · subst e
      exact memN_true (h.1 i (List.mem_range.2 h3))
    · exact tailOK_at h.2 (by omega) (by omega) h3 (fun i hi => by omega)

theorem tail_any {Q : Exit → Act → World → Prop} (hbef : befOK B 0 ops.toList = true) {M : Nat} (ht : tailOK B M (ops.size - M) = true) : ∀ (n m fuel : Nat) (listed : Array Bool) (a : Act) (w : World), m + n = ops.size → M ≤ m → listed.size = ops.size → ClosedB B listed →
    (∀ i, i < m → lst listed i = true) → (∀ i, m ≤ i → lst listed i = false) → listed.toList.count false ≤ fuel → wpList P ops Q (ops.toList.drop m) a w → wpAny P .any ops Q fuel listed a w
  | 0, m, fuel, listed, a, w, hm, hM, hs, hcl, h1, h2, hc, h => by
    have hr : Region.ready .any ops listed = [] := by
      refine List.eq_nil_iff_forall_not_mem.2 fun j hj => ?_
      obtain ⟨o, ho, hjs, h0, _⟩ := ready_facts hs hj
      rw [h1 j (by omega)] at h0
      simp at h0
    have hq : Q .normal a w := by
      rw [List.drop_of_length_le (by simp; omega)] at h
      exact h
    cases fuel with
    | zero => exact ⟨hr, hq⟩
    | succ fuel => exact ⟨fun _ => hq, fun i hi => by rw [hr] at hi; simp at hi⟩
  | n + 1, m, fuel, listed, a, w, hm, hM, hs, hcl, h1, h2, hc, h => by
    have hms : m < ops.size := by omega
    have hml : m < listed.size := by omega
    have hom : ops[m]? = some ops[m] := Array.getElem?_eq_getElem hms
    have hpos := count_pos hml (h2 m (Nat.le_refl _))
    have hmr : m ∈ Region.ready .any ops listed := ready_of hs hom (h2 m (Nat.le_refl _)) fun p hp => h1 p (by have := (befOK_at (k := m) (o := ops[m]) hbef (by simp)).1 p hp; omega)
    cases fuel with
    | zero => omega
    | succ fuel =>
      refine ⟨fun h => by rw [h] at hmr; simp at hmr, fun j hj => ?_⟩
      obtain ⟨o, ho, hjs, h0, hb⟩ := ready_facts hs hj
      have hjl : j < listed.size := by omega
      obtain ⟨hcl', hbj⟩ := closed_set hbef ho hjl hcl hb
      have hjm : j = m := by
        by_cases e : j = m
        · exact e
        · exfalso
          by_cases hlt : j < m
          · rw [h1 j hlt] at h0; simp at h0
          · have := hbj m (tailOK_at ht (by omega) (by omega) (by omega) (fun i hi => by omega))
            rw [h2 m (Nat.le_refl _)] at this
            simp at this
      subst hjm
      have hdrop : ops.toList.drop j = ops[j] :: ops.toList.drop (j + 1) := by
        rw [List.drop_eq_getElem_cons (by simpa using hjs)]
        simp
      rw [hdrop] at h
      have hop : wpOp P ops Q j (wpList P ops Q (ops.toList.drop (j + 1))) a w := by
        unfold wpOp
        rw [hom]
        exact h
      refine wpOp_mono (fun a' w' h' => ?_) hop
      refine tail_any hbef ht n (j + 1) fuel _ a' w' (by omega) (by omega) (by simpa using hs) hcl' (fun i hi => ?_) (fun i hi => ?_) (count_set hjl h0 hc) h'
      · rw [lst_set hjl]
        by_cases e : j = i
        · simp [e]
        · simp [h1 i (by omega)]
      · rw [lst_set hjl]
        have e : j ≠ i := by omega
        simp [e, h2 i (by omega)]
end
end Go.Rf
end
section
/- A region that draws its order: the theorem. -/
set_option linter.unusedVariables false
set_option linter.unusedSimpArgs false
set_option linter.unusedSectionVars false
namespace Go.Rf
open Go GU GC Go.RowKit
variable {Ty : Type} [GU Ty] [GC Ty]
variable {P : Program} {C : Ctx Ty} {f : FuncId} {ks : List Item} {Γ0 Γ' : Env Ty} {σ0 σ' : Hp Ty} {ops : Array Oper} {B : List (List Nat)} {L : List (QS Ty)}

theorem slotsOK_at : ∀ {M : List (QS Ty)} {i k : Nat} {q : QS Ty}, slotsOK L B i M = true → M[k]? = some q → ∀ s, s ∈ looks q → slotOK L B (i + k) s = true
  | [], i, k, q, _, hk => by simp at hk
  | p :: M, i, 0, q, h, hk => by
    simp at hk; subst hk
    simp only [slotsOK, Bool.and_eq_true, List.all_eq_true] at h
    exact h.1
  | p :: M, i, k + 1, q, h, hk => by
    simp only [slotsOK, Bool.and_eq_true] at h
    have := slotsOK_at (i := i + 1) (k := k) h.2 (by simpa using hk)
    rwa [show i + (k + 1) = i + 1 + k by omega]
theorem extsOK_at : ∀ {M : List (QS Ty)} {i k : Nat} {q : QS Ty}, extsOK L B i M = true → M[k]? = some q → extOK L B (i + k) q = true
  | [], i, k, q, _, hk => by simp at hk
  | p :: M, i, 0, q, h, hk => by
    simp at hk; subst hk
    simp only [extsOK, Bool.and_eq_true] at h
    exact h.1
  | p :: M, i, k + 1, q, h, hk => by
    simp only [extsOK, Bool.and_eq_true] at h
    have := extsOK_at (i := i + 1) (k := k) h.2 (by simpa using hk)
    rwa [show i + (k + 1) = i + 1 + k by omega]
theorem labsOK_at : ∀ {M : List (QS Ty)} {i k : Nat} {q : QS Ty}, labsOK L B i M = true → M[k]? = some q → labOK L B (i + k) q = true
  | [], i, k, q, _, hk => by simp at hk
  | p :: M, i, 0, q, h, hk => by
    simp at hk; subst hk
    simp only [labsOK, Bool.and_eq_true] at h
    exact h.1
  | p :: M, i, k + 1, q, h, hk => by
    simp only [labsOK, Bool.and_eq_true] at h
    have := labsOK_at (i := i + 1) (k := k) h.2 (by simpa using hk)
    rwa [show i + (k + 1) = i + 1 + k by omega]
/-- Another one that writes a label that this one needs or writes runs surely ahead, or surely behind. -/
theorem labOK_at {i r k : Nat} {q p : QS Ty} (h : labOK L B i q = true) (hr : r ∈ q.need.map (·.1) ++ touch q) (hk : L[k]? = some p) (hp : r ∈ touch p) (hne : k ≠ i) : (k < i ∧ k ∈ B.getD i []) ∨ (i < k ∧ i ∈ B.getD k []) := by
  simp only [labOK, List.all_eq_true] at h
  have := h r hr k (List.mem_range.2 (List.getElem?_eq_some_iff.1 hk).1)
  simp only [hk, Bool.or_eq_true, Bool.and_eq_true, Bool.not_eq_true', beq_eq, decide_eq_true_eq, Nat.blt_eq] at this
  rcases this with ((h | h) | h) | h
  · exact absurd h hne
  · exact absurd hp (memN_false h)
  · exact .inl ⟨h.1, memN_true h.2⟩
  · exact .inr ⟨h.1, memN_true h.2⟩
theorem dstsOK_at : ∀ {M : List (QS Ty)} {l : List Oper} {k : Nat} {q : QS Ty} {o : Oper}, dstsOK M l = true → M[k]? = some q → l[k]? = some o → q.dst = o.dst
  | [], l, k, q, o, _, hk, _ => by simp at hk
  | _ :: _, [], k, q, o, h, _, _ => by simp [dstsOK] at h
  | p :: M, o' :: l, 0, q, o, h, hk, ho => by
    simp at hk ho; subst hk; subst ho
    simp only [dstsOK, Bool.and_eq_true] at h
    have := h.1
    split at this
    · rename_i a b ha hb
      rw [ha, hb, Nat.eq_of_beq_eq_true this]
    · rename_i ha hb
      rw [ha, hb]
    · simp at this
  | p :: M, o' :: l, k + 1, q, o, h, hk, ho => by
    simp only [dstsOK, Bool.and_eq_true] at h
    exact dstsOK_at h.2 (by simpa using hk) (by simpa using ho)
theorem noMH_of_all {d : Nat} : ∀ {e : Hp Ty}, (e.all fun b => !(Nat.beq b.1 d) && !(memN d b.2.labels)) = true → noMH d e = true
  | [], _ => rfl
  | (k, b) :: e, h => by
    simp only [List.all_cons, Bool.and_eq_true, Bool.not_eq_true'] at h
    simp only [noMH, h.1.1, h.1.2, noMH_of_all h.2]
    rfl

/-- Where the slots that are looked at stand as in the text's order. -/
theorem slot_same {D : Nat → Bool} {j s : Nat} (hn : nodup (dsts L) = true) (hD : D j = false) (hB : ∀ p, p ∈ B.getD j [] → D p = true) (hB' : ∀ k, D k = true → j ∈ B.getD k [] → False) (h : slotOK L B j s = true) :
    (gam D 0 L Γ0).at s = (gam (fun m => Nat.blt m j) 0 L Γ0).at s := by
  rw [gam_at D 0 L Γ0 s hn, gam_at _ 0 L Γ0 s hn]
  unfold slotOK at h
  split
  · rename_i k y hw
    simp only [hw, Bool.or_eq_true, Bool.and_eq_true, beq_eq, decide_eq_true_eq, Nat.blt_eq] at h
    rcases h with (h | h) | h
    · subst h
      have : Nat.blt k k = false := by
        cases hb : Nat.blt k k with
        | false => rfl
        | true => rw [Nat.blt_eq] at hb; omega
      simp [hD, this]
    · have h1 : Nat.blt k j = true := by simpa [Nat.blt_eq] using h.1
      simp [hB k (memN_true h.2), h1]
    · have hk : D k = false := by
        cases hk : D k with
        | false => rfl
        | true => exact (hB' k hk (memN_true h.2)).elim
      have : Nat.blt k j = false := by
        cases hb : Nat.blt k j with
        | false => rfl
        | true =>
          rw [Nat.blt_eq] at hb
          omega
      simp [hk, this]
  · rfl

theorem quiet_any (hD : drawOK L B ops.toList = true) (hq : ∀ i o q, ops[i]? = some o → L[i]? = some q → QOK P C ops Γ0 σ0 L i o q)
    {S : Env Ty → Hp Ty → Prop} (ht : SeqS P C ops (ops.toList.drop L.length) (gam (fun _ => true) 0 L Γ0) (sig (fun _ => true) 0 L σ0) S) {F0 : Nat → Prop} {Q : Exit → Act → World → Prop}
    (hQ : ∀ F ρ a w Γ' σ', (∀ g, F0 g → F g) → S Γ' σ' → Rel C F ρ Γ' σ' a w → Q .normal a w) : ∀ (fuel : Nat) (listed : Array Bool) (F : Nat → Prop) (ρ : Rho) (a : Act) (w : World), (∀ g, F0 g → F g) → listed.size = ops.size → ClosedB B listed → (∀ i, L.length ≤ i → lst listed i = false) → listed.toList.count false ≤ fuel →
      Rel C F ρ (gam (lst listed) 0 L Γ0) (sig (lst listed) 0 L σ0) a w → wpAny P .any ops Q fuel listed a w := by
  have hD0 := hD
  simp only [drawOK, Bool.and_eq_true] at hD
  obtain ⟨⟨⟨⟨⟨⟨⟨⟨hbef, hslot⟩, hext⟩, htail⟩, hnd⟩, hlab⟩, hdst⟩, hle⟩, _⟩ := hD
  have hLs : L.length ≤ ops.size := by simpa using Nat.le_of_ble_eq_true hle
  have htail' : tailOK B L.length (ops.size - L.length) = true := by simpa using htail
  intro fuel
  induction fuel with
  | zero =>
    intro listed F ρ a w hF hs hcl h2 hc R
    have hsz : ops.size = L.length := by
      by_cases e : ops.size = L.length
      · exact e
      · have := count_pos (listed := listed) (i := L.length) (by omega) (h2 _ (Nat.le_refl _))
        omega
    have h1 : ∀ i, i < L.length → lst listed i = true := by
      intro i hi
      cases h : lst listed i with
      | true => rfl
      | false => have := count_pos (listed := listed) (i := i) (by omega) h; omega
    refine tail_any hbef htail' 0 L.length 0 listed a w (by omega) (Nat.le_refl _) hs hcl h1 h2 hc ?_
    rw [gam_congr (D' := fun _ => true) (fun k hk => by rw [Nat.zero_add]; exact h1 k hk), sig_congr (D' := fun _ => true) (fun k hk => by rw [Nat.zero_add]; exact h1 k hk)] at R
    exact ht F ρ a w R Q fun F' ρ' a' w' Γ2 σ2 hF' hS' R' => hQ F' ρ' a' w' Γ2 σ2 (fun g hg => hF' g (hF g hg)) hS' R'
  | succ fuel ih =>
    intro listed F ρ a w hF hs hcl h2 hc R
    by_cases hall : ∃ i, i < L.length ∧ lst listed i = false
    · obtain ⟨m, hm, hm0, hmin⟩ := least hall
      have hms : m < ops.size := by omega
      have hom : ops[m]? = some ops[m] := Array.getElem?_eq_getElem hms
      have hmr : m ∈ Region.ready .any ops listed := ready_of hs hom hm0 fun p hp => hmin p (by have := (befOK_at (k := m) (o := ops[m]) hbef (by simp)).1 p hp; omega)
      refine ⟨fun h => by rw [h] at hmr; simp at hmr, fun j hj => ?_⟩
      obtain ⟨o, ho, hjs, h0, hb⟩ := ready_facts hs hj
      have hjl : j < listed.size := by omega
      obtain ⟨hcl', hbj⟩ := closed_set hbef ho hjl hcl hb
      have hjL : j < L.length := by
        by_cases e : j < L.length
        · exact e
        · exfalso
          have := hbj m (tailOK_at htail' (by omega) (by omega) (by omega) (fun i hi => by omega))
          rw [hm0] at this
          simp at this
      have hLj : L[j]? = some L[j] := List.getElem?_eq_getElem hjL
      have hok := hq j o L[j] ho hLj
      generalize hqe : L[j] = q at hok hLj
      have hdq : q.dst = o.dst := dstsOK_at hdst hLj (by simpa using ho)
      have hB' : ∀ k, lst listed k = true → j ∈ B.getD k [] → False := fun k hk hp => by
        have := hcl k j hk hp
        rw [h0] at this
        simp at this
      have hsame : ∀ s, s ∈ looks q → (gam (lst listed) 0 L Γ0).at s = (gam (fun m => Nat.blt m j) 0 L Γ0).at s := fun s hs => slot_same hnd h0 hbj hB' (by have := slotsOK_at (k := j) hslot hLj s hs; simpa using this)
      have hD' : ∀ k, lst (listed.setIfInBounds j true) k = (decide (j = k) || lst listed k) := fun k => lst_set hjl
      have hgo : ∀ F' ρ' a' w', (∀ g, F g → F' g) → Rel C F' ρ' (gam (lst (listed.setIfInBounds j true)) 0 L Γ0) (sig (lst (listed.setIfInBounds j true)) 0 L σ0) a' w' → wpAny P .any ops Q fuel (listed.setIfInBounds j true) a' w' := by
        intro F' ρ' a' w' hF' R'
        refine ih _ F' ρ' a' w' (fun g hg => hF' g (hF g hg)) (by simpa using hs) hcl' (fun i hi => ?_) (count_set hjl h0 hc) R'
        rw [hD']
        have : j ≠ i := by omega
        simp [this, h2 i hi]
      -- the slots behind it
      have hslots : ∀ s, (o.dst = some s → (gam (lst (listed.setIfInBounds j true)) 0 L Γ0).at s = q.res) ∧ (o.dst ≠ some s → (gam (lst (listed.setIfInBounds j true)) 0 L Γ0).at s = (gam (lst listed) 0 L Γ0).at s) := by
        intro s
        constructor
        · intro hs
          rw [gam_at _ 0 L Γ0 s hnd, wr_get (i := 0) hLj (hdq.trans hs) hnd]
          simp [hD']
        · intro hs
          rw [gam_at _ 0 L Γ0 s hnd, gam_at _ 0 L Γ0 s hnd]
          split
          · rename_i k y hw
            obtain ⟨q', hq1, hq2, hq3, _⟩ := wr_dst hw
            have : j ≠ k := by
              intro e
              subst e
              simp only [Nat.sub_zero] at hq1
              rw [hLj] at hq1
              simp at hq1
              subst hq1
              exact hs (hdq ▸ hq2)
            simp [hD', this]
          · rfl
      have hlabj : labOK L B j q = true := by have := labsOK_at (k := j) hlab hLj; simpa using this
      have hsigs : ∀ r, (sig (lst (listed.setIfInBounds j true)) 0 L σ0).at r = match lookH q.ext r with | some y => y | none => (sig (lst listed) 0 L σ0).at r := by
        intro r
        rw [sig_at]
        cases hl : lookH q.ext r with
        | some y =>
          rw [sigAt_put (j := j) hLj hl (by simp [hD']) fun k q' hk hr hd => ?_]
          · rfl
          · by_cases e : k = j
            · omega
            · rcases labOK_at hlabj (List.mem_append.2 (.inr (touch_of hl))) hk hr e with h | h
              · omega
              · rw [Nat.zero_add, hD'] at hd
                have : ¬ j = k := fun h => e h.symm
                simp [this] at hd
                exact (hB' k hd h.2).elim
        | none =>
          simp only []
          rw [sig_at, sigAt_congr (D' := lst listed) fun k q' hk hr => ?_]
          rw [Nat.zero_add, hD']
          have : ¬ j = k := by
            intro e
            subst e
            rw [hLj] at hk
            simp at hk
            subst hk
            simp only [touch, List.mem_map] at hr
            obtain ⟨p, hp, rfl⟩ := hr
            have : ∀ {σ : Hp Ty}, p ∈ σ → lookH σ p.1 ≠ none := by
              intro σ
              induction σ with
              | nil => intro h; simp at h
              | cons x σ ih =>
                intro h
                simp only [lookH, beq_eq]
                by_cases e : x.1 = p.1
                · simp [e]
                · simp [e]
                  rcases List.mem_cons.1 h with h | h
                  · exact absurd (by rw [h]) e
                  · exact ih h
            exact this hp hl
          simp [this]
      have hneed : ∀ r y, lookH q.need r = some y → (sig (lst listed) 0 L σ0).at r = y := by
        intro r y hy
        have hnd := hok.need _ (lookH_mem hy)
        simp only [] at hnd
        rw [← hnd, sig_at, sig_at]
        rw [sigAt_congr (D' := fun m => Nat.blt m j) fun k q' hk hr => ?_]
        rw [Nat.zero_add]
        by_cases e : k = j
        · subst e
          rw [h0]
          cases hb : Nat.blt k k with
          | false => rfl
          | true => rw [Nat.blt_eq] at hb; omega
        · rcases labOK_at hlabj (List.mem_append.2 (.inl (by simp only [List.mem_map]; exact ⟨_, lookH_mem hy, rfl⟩))) hk hr e with h | h
          · rw [hbj k h.2]
            have : Nat.blt k j = true := by simpa [Nat.blt_eq] using h.1
            simp [this]
          · have h1 : lst listed k = false := by
              cases hd : lst listed k with
              | false => rfl
              | true => exact (hB' k hd h.2).elim
            rw [h1]
            cases hb : Nat.blt k j with
            | false => rfl
            | true => rw [Nat.blt_eq] at hb; omega
      have hwant : Region.wanted o (yielded ops a.tmps) = q.e := by
        have hg := hok.guard
        cases hgo : o.guard with
        | none => rw [hgo] at hg; simp only [Region.wanted, hgo, hg.2]
        | some p =>
          obtain ⟨jg, want⟩ := p
          rw [hgo] at hg
          obtain ⟨s, gv, h1, h3, h4, h5⟩ := hg
          have hs' : s ∈ looks q := by simp [looks, h1]
          have R2 : Rel C F ρ ((s, gv) :: gam (lst listed) 0 L Γ0) (sig (lst listed) 0 L σ0) a w := by
            refine R.congr (fun s' h => ?_) (fun r => rfl)
            rw [Env.at_cons]
            split
            · rename_i e
              subst e
              rw [hsame _ hs', Env.at_of h4] at h
              exact h
            · exact h
          exact yielded_of R2 hgo h3 (by simp [look]) h5
      have hdlt := hok.dst
      unfold wpOp
      rw [ho]
      simp only [hwant]
      cases he : q.e with
      | false =>
        simp only [Bool.false_eq_true, if_false]
        have hgs : ∃ s, q.gslot = some s := by
          have hg := hok.guard
          cases hgo : o.guard with
          | none => rw [hgo] at hg; rw [hg.2] at he; simp at he
          | some p => rw [hgo] at hg; obtain ⟨s, gv, h1, _⟩ := hg; exact ⟨s, h1⟩
        obtain ⟨gs, hgs⟩ := hgs
        have hres : q.res = .when false q.x := by simp [QS.res, hgs, he]
        have hext0 : q.ext = [] := by
          rcases hok.gext with h | h
          · rw [hgs] at h; simp at h
          · exact h
        refine hgo F ρ _ w (fun g h => h) ((R.put (x := .when false q.x) hdlt (.when false q.x _ (fun h => by simp at h) fun _ => rfl)).congr (fun s h => ?_) (fun r => ?_))
        · cases hds : o.dst with
          | none =>
            rw [hds] at h
            rw [(hslots s).2 (by rw [hds]; simp)]
            exact h
          | some d =>
            rw [hds] at h
            simp only [upd, Env.at_cons] at h
            by_cases e : d = s
            · subst e
              rw [if_pos rfl] at h
              rw [(hslots d).1 hds, hres]
              exact h
            · rw [if_neg e] at h
              rw [(hslots s).2 (by rw [hds]; simpa using e)]
              exact h
        · rw [hsigs, hext0]
          rfl
      | true =>
        simp only [if_true]
        refine .inl ?_
        have hpre := hok.pre
        rw [he] at hpre
        have R1 : Rel C F ρ (q.pre ++ gam (lst listed) 0 L Γ0) (q.need ++ sig (lst listed) 0 L σ0) a w := by
          refine R.congr (fun s h => ?_) (fun r => ?_)
          · rw [env_app]
            split
            · rename_i y hy
              obtain ⟨hmem, hv⟩ := hpre.at s hy
              rw [hsame s (by simp only [looks, List.mem_append]; exact .inr hmem)] at h
              rcases hv with hv | ⟨g, hv, hge⟩
              · rw [hv] at h; exact h
              · rw [hv] at h; exact h.when_inv.1 (hge rfl)
            · exact h
          · rw [hp_app]
            split
            · rename_i y hy
              first | exact hneed r y hy | exact (hneed r y hy).symm
            · rfl
        have hfr : ∀ d, d ∈ extLabels q → noM d (gam (lst listed) 0 L Γ0) = true ∧ noMH d (sig (lst listed) 0 L σ0) = true := by
          intro d hd
          have hx := extsOK_at (k := j) hext hLj
          simp only [Nat.zero_add, extOK, List.all_eq_true] at hx
          have hx := hx d hd
          have key : ∀ k p, L[k]? = some p → lst listed (0 + k) = true → memN d p.x.labels = false ∧ (p.ext.all fun b => !(Nat.beq b.1 d) && !(memN d b.2.labels)) = true := by
            intro k p hk hl
            rw [Nat.zero_add] at hl
            have hkl := (List.getElem?_eq_some_iff.1 hk).1
            have := hx k (List.mem_range.2 hkl)
            simp only [Bool.or_eq_true, beq_eq, decide_eq_true_eq, hk, Bool.and_eq_true, Bool.not_eq_true'] at this
            rcases this with (h | h) | h
            · subst h
              rw [h0] at hl
              simp at hl
            · exact (hB' k hl (memN_true h)).elim
            · exact ⟨h.1, by have h2 := h.2; simp at h2; simp [beq_eq]; exact h2⟩
          obtain ⟨f1, f2⟩ := hok.fresh d hd
          exact ⟨gam_noM f1 fun k p hk hl => (key k p hk hl).1, sig_noM f2 fun k p hk hl => noMH_of_all (key k p hk hl).2⟩
        refine hok.sound _ _ hfr he F ρ a w R1 _ Q fun F1 ρ1 v w1 hF1 R2 => hgo F1 ρ1 _ w1 hF1 (R2.congr (fun s h => ?_) (fun r => ?_))
        · have hx : ∀ u, Rep F1 ρ1 w1 q.x u → Rep F1 ρ1 w1 q.res u := by
            intro u hu
            unfold QS.res
            split
            · exact hu
            · rw [he]
              exact .when true q.x u (fun _ => hu) fun h => by simp at h
          have hold : ∀ u, Rep F1 ρ1 w1 (Env.at (q.pre ++ gam (lst listed) 0 L Γ0) s) u → Rep F1 ρ1 w1 ((gam (lst listed) 0 L Γ0).at s) u := by
            intro u h
            rw [env_app] at h
            split at h
            · rename_i y hy
              obtain ⟨hmem, hv⟩ := hpre.at s hy
              rw [hsame s (by simp only [looks, List.mem_append]; exact .inr hmem)]
              rcases hv with hv | ⟨g, hv, hge⟩
              · rw [hv]; exact h
              · rw [hv]
                exact .when g y u (fun _ => h) fun h' => by rw [hge rfl] at h'; simp at h'
            · exact h
          cases hds : o.dst with
          | none =>
            rw [hds] at h
            rw [(hslots s).2 (by rw [hds]; simp)]
            exact hold _ h
          | some d =>
            rw [hds] at h
            simp only [upd, Env.at_cons] at h
            by_cases e : d = s
            · subst e
              rw [if_pos rfl] at h
              rw [(hslots d).1 hds]
              exact hx _ h
            · rw [if_neg e] at h
              rw [(hslots s).2 (by rw [hds]; simpa using e)]
              exact hold _ h
        · rw [hsigs, hp_app]
          cases hlq : lookH q.ext r with
          | some y => rfl
          | none =>
            simp only []
            rw [hp_app]
            cases hy : lookH q.need r with
            | none => rfl
            | some y => first | exact hneed r y hy | exact (hneed r y hy).symm
    · have h1 : ∀ i, i < L.length → lst listed i = true := by
        intro i hi
        cases h : lst listed i with
        | true => rfl
        | false => exact absurd ⟨i, hi, h⟩ hall
      refine tail_any hbef htail' (ops.size - L.length) L.length (fuel + 1) listed a w (by omega) (Nat.le_refl _) hs hcl h1 h2 hc ?_
      rw [gam_congr (D' := fun _ => true) (fun k hk => by rw [Nat.zero_add]; exact h1 k hk), sig_congr (D' := fun _ => true) (fun k hk => by rw [Nat.zero_add]; exact h1 k hk)] at R
      exact ht F ρ a w R Q fun F' ρ' a' w' Γ2 σ2 hF' hS' R' => hQ F' ρ' a' w' Γ2 σ2 (fun g hg => hF' g (hF g hg)) hS' R'

theorem gam_none : ∀ {i : Nat} {M : List (QS Ty)} {Γ : Env Ty} {D : Nat → Bool}, (∀ k, D k = false) → gam D i M Γ = Γ
  | i, [], Γ, D, _ => rfl
  | i, q :: t, Γ, D, h => by simp only [gam, h, cond_false]; exact gam_none h
theorem sig_none : ∀ {i : Nat} {M : List (QS Ty)} {Γ : Hp Ty} {D : Nat → Bool}, (∀ k, D k = false) → sig D i M Γ = Γ
  | i, [], Γ, D, _ => rfl
  | i, q :: t, Γ, D, h => by simp only [sig, h, cond_false]; exact sig_none h

theorem ak_draw {id : Nat} {Q : PV Ty → Hp Ty → Prop} (hm : P.follows .mixedOrders = true) (hD : drawOK L B ops.toList = true) (hq : ∀ i o q, ops[i]? = some o → L[i]? = some q → QOK P C ops Γ0 σ0 L i o q)
    (ht : SeqS P C ops (ops.toList.drop L.length) (gam (fun _ => true) 0 L Γ0) (sig (fun _ => true) 0 L σ0) (fun Γ' σ' => AK P C f ks Γ' σ' Q)) : AK P C f (.code (.region id ops true) :: ks) Γ0 σ0 Q := by
  intro F ρ a w b cs hb hk R
  have h00 : ∀ k, lst (Array.replicate ops.size false) k = false := by
    intro k
    simp only [lst, Array.getD_eq_getD_getElem?, Array.getElem?_replicate]
    split <;> rfl
  have hwp := wp_region_any (P := P) (id := id) (ops := ops) (a := a) (w := w) (Q := fun e a' w' => e = .normal ∧ ∃ F' ρ' Γ' σ', (∀ g, F g → F' g) ∧ AK P C f ks Γ' σ' Q ∧ Rel C F' ρ' Γ' σ' a' w') hm
    (quiet_any (F0 := F) hD hq ht (fun F' ρ' a' w' Γ' σ' hF hS R' => ⟨rfl, F', ρ', Γ', σ', hF, hS, R'⟩) ops.size _ F ρ a _ (fun _ h => h) (by simp) (fun j p hj => by rw [h00] at hj; simp at hj) (fun i _ => h00 i)
      (by simp [Array.toList_replicate, List.count_replicate]) (by rw [gam_none h00, sig_none h00]; exact R.drawn _))
  obtain ⟨e, a', w', ⟨rfl, F', ρ', Γ', σ', hF, h, R'⟩, harr⟩ := hwp b ks cs
  obtain ⟨e, w'', fr, hp, hc, hfn, hl⟩ := h F' ρ' a' w' b cs hb hk R'
  exact ⟨e, w'', fr, hp.mono hF, .of_steps harr hc, hfn, hl⟩
end Go.Rf
end
section
/- What the printed walks lean on: parts of code, small functions that may fail, calls that are told more loosely. -/
set_option linter.unusedVariables false
set_option linter.unusedSimpArgs false
set_option linter.unusedSectionVars false
namespace Go.Rf
open Go GU GC Go.RowKit

/-! ### Parts of code -/
def c1 : Code → Code
  | .seq a _ => a
  | .cond _ a _ => a
  | .block _ a => a
  | .loop a => a
  | c => c
def c2 : Code → Code
  | .seq _ b => b
  | .cond _ _ b => b
  | c => c
def codeOf (f : Func) : Code := f.body.getD .skip

/-! ### What may fail -/
theorem no_of {β : Type} {p : Prop} {r : β} (h : none = some r) : p := by simp at h
theorem bind_of {α β : Type} {x : Option α} {f : α → Option β} {r : β} (h : (x >>= f) = some r) : ∃ y, x = some y ∧ f y = some r := Option.bind_eq_some_iff.1 h
theorem cond_t {α : Type} {c : Bool} {a b r : α} (hc : c = true) (h : (if c = true then a else b) = r) : a = r := by subst hc; exact h
theorem cond_f {α : Type} {c : Bool} {a b r : α} (hc : c = false) (h : (if c = true then a else b) = r) : b = r := by subst hc; exact h
theorem band_i {a b : Bool} (ha : a = true) (hb : b = true) : (a && b) = true := by subst ha; subst hb; rfl
theorem bnot_t {a : Bool} (h : a = false) : (!a) = true := by subst h; rfl
def need (p : Prop) [Decidable p] : Option Unit := if p then some () else none
theorem need_of {p : Prop} [Decidable p] {u : Unit} (h : need p = some u) : p := by
  unfold need at h
  split at h
  · assumption
  · simp at h
def idx {α : Type} (xs : List α) (i : Int) : Option α := if 0 ≤ i then xs[i.toNat]? else none
theorem idx_0 {α : Type} {xs : List α} {i : Int} {y : α} (h : idx xs i = some y) : 0 ≤ i := by
  unfold idx at h
  split at h
  · assumption
  · simp at h
theorem idx_1 {α : Type} {xs : List α} {i : Int} {y : α} (h : idx xs i = some y) : xs[i.toNat]? = some y := by
  unfold idx at h
  split at h
  · exact h
  · simp at h
theorem idx_lt {α : Type} {xs : List α} {i : Int} {y : α} (h : idx xs i = some y) : i < xs.length := by
  have h0 := idx_0 h
  have := (List.getElem?_eq_some_iff.1 (idx_1 h)).1
  omega
/-- What is looked at under a guard alone. -/
def gd {α : Type} [Inhabited α] (e : Bool) (x : Option α) : Option α := bif e then x else some default
theorem gd_t {α : Type} {i : Inhabited α} {e : Bool} {x : Option α} {y : α} (h : @gd α i e x = some y) (he : e = true) : x = some y := by subst he; exact h
def room (n m bytes : Nat) : Option Unit := need ((n + m) * bytes ≤ 140737488355328 ∧ n + m ≤ 140737488355328)
theorem room_1 {n m bytes : Nat} {u : Unit} (h : room n m bytes = some u) : (n + m) * bytes ≤ 140737488355328 := (need_of h).1
theorem room_2 {n m bytes : Nat} {u : Unit} (h : room n m bytes = some u) : n + m ≤ maxLen := Nat.le_trans (need_of h).2 (by decide)

def gmin (m n : Int) : Int := if n < m then n else m
def gmax (m n : Int) : Int := if m < n then n else m

variable {Ty : Type} [GU Ty] [GC Ty]
section
variable {P : Program} {C : Ctx Ty} {o : Oper} {Γ : Env Ty} {σ : Hp Ty}
variable (hd : ∀ d, o.dst = some d → d < C.nt)
include hd
theorem ok_andW {c a : Operand} {g g' y : Bool} (ho : o.op = .pick c a (.const (.bool false))) (hc : opd C.glob Γ c = some (.bool g)) (ha : opd C.glob Γ a = some (.when g' (.bool y))) (hg : g = true → g' = true) : Sound P C o Γ σ (.bool (g && y)) σ :=
  ok_pick hd ho hc fun F ρ ac w R => by
    have := R.opd ha
    generalize ac.eval a = v at this
    cases g with
    | false => exact .bool _
    | true => exact this.when_inv.1 (hg rfl)
theorem ok_orW {c a : Operand} {g g' y : Bool} (ho : o.op = .pick c (.const (.bool true)) a) (hc : opd C.glob Γ c = some (.bool g)) (ha : opd C.glob Γ a = some (.when g' (.bool y))) (hg : g = false → g' = true) : Sound P C o Γ σ (.bool (g || y)) σ :=
  ok_pick hd ho hc fun F ρ ac w R => by
    have := R.opd ha
    generalize ac.eval a = v at this
    cases g with
    | true => exact .bool _
    | false => exact this.when_inv.1 (hg rfl)
theorem ok_min {a b : Operand} {t t' : TypeId} {k : IntKind} {m n : Int} (ho : o.op = .call { callee := .builtin .min, args := #[a, b], argTypes := #[t, t'] }) (ha : opd C.glob Γ a = some (.int k m)) (hb : opd C.glob Γ b = some (.int k n)) : Sound P C o Γ σ (.int k (gmin m n)) σ :=
  .of_value hd fun F ρ ac w R => ⟨.int k (gmin m n), by
    have h1 := (R.opd ha).int_inv
    have h2 := (R.opd hb).int_inv
    simp [execOp, ho, resolve, invoke, builtin, h1, h2, Builtin.min_, Builtin.min2, gmin], .int _ _⟩
theorem ok_max {a b : Operand} {t t' : TypeId} {k : IntKind} {m n : Int} (ho : o.op = .call { callee := .builtin .max, args := #[a, b], argTypes := #[t, t'] }) (ha : opd C.glob Γ a = some (.int k m)) (hb : opd C.glob Γ b = some (.int k n)) : Sound P C o Γ σ (.int k (gmax m n)) σ :=
  .of_value hd fun F ρ ac w R => ⟨.int k (gmax m n), by
    have h1 := (R.opd ha).int_inv
    have h2 := (R.opd hb).int_inv
    simp [execOp, ho, resolve, invoke, builtin, h1, h2, Builtin.max_, Builtin.max2, gmax], .int _ _⟩
theorem ok_litS {t e size bytes len : Nat} {ag : Bool} {zs : List Value} {ps : Array (Nat × Operand)} {zcs : List (PV Ty)} {xs : List (Nat × PV Ty)} {cs : List (PV Ty)} {τ : Ty} (ys : List (den τ)) (ho : o.op = .buildSlice t len ps) (ht : P.underlying t = some (.slice e)) (he : TyOK P e size bytes ag zs) (hz : cpvL zs = some zcs)
    (hw : size = width τ) (hps : opdP C.glob Γ ps.toList = some xs) (h1 : (xs.all fun p => (asCells p.2).all PV.one && !(asCells p.2).isEmpty) = true) (hlen : len = ys.length) (h0 : len ≠ 0) (hbig : len * size ≤ 16777216) (hf : fillP (fun i => some (i * size, size)) (zrep len zcs) xs = some cs) (hsub : SubL cs (flat τ ys)) : Sound P C o Γ σ (.sf τ ys) σ := by
  intro F ρ ac w R next Q hnx
  have hwp := width_pos τ
  obtain ⟨i, z, hi, hsz, hby, hz', hzz⟩ := he.info
  have hzsz : z.cells.size = size := by rw [← Array.length_toList, hzz, he.zl]
  have hp := R.opdP hps
  have hz0 : RepL F ρ w zcs z.cells.toList := by rw [hzz]; exact rep_cpvL hz
  obtain ⟨r, hr, hrr⟩ := fill_rep (place := fun i => some (i * size, size)) (us := (Array.range (len * z.cells.size)).map (z.cells[· % z.cells.size]!)) hp (zrep_rep hz0 len (by omega)) (fun p hp => by
    have := List.all_eq_true.1 h1 p hp
    simp only [Bool.and_eq_true, Bool.not_eq_true', List.isEmpty_eq_false_iff] at this
    exact this) hf
  have hpos : ¬ len * i.size = 0 := by
    rw [hsz]
    exact Nat.ne_of_gt (Nat.mul_pos (Nat.pos_of_ne_zero h0) (by omega))
  have hrun : (execOp ac.eval o).run P w = .ok (.value (.slice (some ⟨w.heap.size, 0, none⟩) len len)) (w.alloc (.cells r e)) := by
    have hb := run_buildSlice (P := P) w t e len (ps.map fun (i, x) => (i, ac.eval x)) r i z ht hi hz' (by rw [hsz]; omega) hpos (by rw [hsz]; rw [hzsz] at hr; rw [hzsz]; simpa using hr)
    simp only [execOp, ho, Sem.run_bind, hb, Result.andThen_ok]
    rfl
  unfold Oper.wp
  rw [hrun]
  have hold : ∀ k, k < w.heap.size → (w.alloc (.cells r e)).heap[k]? = w.heap[k]? := fun k hk => alloc_old w _ k hk
  refine hnx (fun k => F k ∨ k = w.heap.size) ρ _ _ (fun _ h => .inl h) ((R.frozenBlock (w1 := w.alloc _) rfl rfl rfl (alloc_size w _) hold).put hd ?_)
  rw [hlen]
  have hall : RepL (fun k => F k ∨ k = w.heap.size) ρ (w.alloc (.cells r e)) (flat τ ys) r.toList := (hsub.rep hrr).mono (fun _ h => .inl h) (fun k hk => hold k (R.Flt k hk)) fun _ _ => rfl
  exact .sf_mk (g := w.heap.size) (o := 0) (fun _ => ⟨rfl, .inr rfl⟩) (row_cells hall (alloc_new w _) (by rw [List.take_length]))
theorem ok_litM {d t e size bytes len : Nat} {ag : Bool} {zs : List Value} {ps : Array (Nat × Operand)} {zcs : List (PV Ty)} {xs : List (Nat × PV Ty)} {cs : List (PV Ty)} {τ : Ty} (ys : List (den τ)) (ho : o.op = .buildSlice t len ps) (ht : P.underlying t = some (.slice e)) (he : TyOK P e size bytes ag zs) (hz : cpvL zs = some zcs)
    (hw : size = width τ) (hps : opdP C.glob Γ ps.toList = some xs) (h1 : (xs.all fun p => (asCells p.2).all PV.one && !(asCells p.2).isEmpty) = true) (hlen : len = ys.length) (h0 : len ≠ 0) (hbig : len * size ≤ 16777216) (hf : fillP (fun i => some (i * size, size)) (zrep len zcs) xs = some cs) (hsub : SubL cs (flat τ ys)) (hΓ : noM d Γ = true) (hσ : noMH d σ = true) : Sound P C o Γ σ (.mf (width τ) d) ((d, .arr e τ ys) :: σ) := by
  intro F ρ ac w R next Q hnx
  have hwp := width_pos τ
  obtain ⟨i, z, hi, hsz, hby, hz', hzz⟩ := he.info
  have hzsz : z.cells.size = size := by rw [← Array.length_toList, hzz, he.zl]
  have hp := R.opdP hps
  have hz0 : RepL F ρ w zcs z.cells.toList := by rw [hzz]; exact rep_cpvL hz
  obtain ⟨r, hr, hrr⟩ := fill_rep (place := fun i => some (i * size, size)) (us := (Array.range (len * z.cells.size)).map (z.cells[· % z.cells.size]!)) hp (zrep_rep hz0 len (by omega)) (fun p hp => by
    have := List.all_eq_true.1 h1 p hp
    simp only [Bool.and_eq_true, Bool.not_eq_true', List.isEmpty_eq_false_iff] at this
    exact this) hf
  have hpos : ¬ len * i.size = 0 := by
    rw [hsz]
    exact Nat.ne_of_gt (Nat.mul_pos (Nat.pos_of_ne_zero h0) (by omega))
  have hrun : (execOp ac.eval o).run P w = .ok (.value (.slice (some ⟨w.heap.size, 0, none⟩) len len)) (w.alloc (.cells r e)) := by
    have hb := run_buildSlice (P := P) w t e len (ps.map fun (i, x) => (i, ac.eval x)) r i z ht hi hz' (by rw [hsz]; omega) hpos (by rw [hsz]; rw [hzsz] at hr; rw [hzsz]; simpa using hr)
    simp only [execOp, ho, Sem.run_bind, hb, Result.andThen_ok]
    rfl
  unfold Oper.wp
  rw [hrun]
  have hbx : Boxed F (setRho ρ d (some (w.heap.size, (len, len)))) (w.alloc (.cells r e)) d (.arr e τ ys) := by
    have hrs : r.toList.length = len * width τ := by rw [(hsub.rep hrr).1, flat_length, hlen]
    refine .inr ⟨w.heap.size, (len, len), r, setRho_same _ _ _, alloc_new w _, by simpa using hrs, by omega, ?_, by rw [hlen], ?_⟩
    · have : len * 1 ≤ len * size := Nat.mul_le_mul_left _ (by omega)
      simp only [maxLen]
      omega
    · rw [← hlen, ← hrs, List.take_length]
      refine (hsub.rep hrr).mono (fun _ h => h) (fun k hk => alloc_old w _ k (R.Flt k hk)) fun q hq => ?_
      rw [flat_labels] at hq
      simp at hq
  have := (R.newA d (len, len) hΓ hσ _ hbx)
  refine hnx F _ _ _ (fun _ h => h) (this.put hd ?_)
  exact Rep.mf (Ty := Ty) (F := F) (w := w.alloc (.cells r e)) (ρ := setRho ρ d (some (w.heap.size, (len, len)))) (width τ) d w.heap.size (len, len) (setRho_same _ _ _)
omit hd in
theorem Does.sub {G : List (Nat × List (PV Ty))} {f : FuncId} {xs ys : List (PV Ty)} {σ0 : Hp Ty} {Q : PV Ty → Hp Ty → Prop} (hF : Does P G f ys σ0 Q) (h : SubL xs ys) : Does P G f xs σ0 Q :=
  fun w F ρ vs nt B => hF w F ρ vs nt ⟨h.rep B.args, B.Flt, B.box, B.inj, B.own, B.glob⟩
end


/-! ### What is told anew between two operations -/
section
variable {P : Program} {C : Ctx Ty} {Γ : Env Ty} {σ : Hp Ty} {ops : Array Oper} {l : List Oper} {Γ' : Env Ty} {σ' : Hp Ty}
theorem SeqS.freeze {S : Env Ty → Hp Ty → Prop} (r : Nat) {e : Nat} {τ : Ty} {xs : List (den τ)} (hσ : lookH σ r = some (.arr e τ xs)) (hfx : C.fx r = none) (t : SeqS P C ops l (frzE r (.sl τ xs) Γ) ((r, .dead) :: frzH r (.sl τ xs) σ) S) : SeqS P C ops l Γ σ S := by
  intro F ρ a w R Q hq
  obtain ⟨F', hF, R'⟩ := R.freeze hσ hfx
  exact t F' ρ a w R' Q fun F2 ρ2 a2 w2 Γ2 σ2 hF2 hS R2 => hq F2 ρ2 a2 w2 Γ2 σ2 (fun g hg => hF2 g (hF g hg)) hS R2
theorem SeqS.nilRow {S : Env Ty → Hp Ty → Prop} {s d : Nat} {e : Nat} (τ : Ty) (h : look Γ s = some .nils) (hΓ : noM d Γ = true) (hσ : noMH d σ = true) (t : SeqS P C ops l ((s, .mf (width τ) d) :: Γ) ((d, .arr e τ []) :: σ) S) : SeqS P C ops l Γ σ S :=
  fun F ρ a w R Q hq => t F _ a w (R.nilSlot τ h hΓ hσ) Q hq
theorem SeqS.nilBox {S : Env Ty → Hp Ty → Prop} {r i d : Nat} {t : TypeId} {cs : List (PV Ty)} {cs' : List (PV Ty)} {e : Nat} (τ : Ty) (h : lookH σ r = some (.cells t cs)) (hi : cs[i]? = some .nils) (hp : putO cs i [.mf (width τ) d] = some cs') (hΓ : noM d Γ = true) (hσ : noMH d σ = true) (k : SeqS P C ops l Γ ((r, .cells t cs') :: (d, .arr e τ []) :: σ) S) : SeqS P C ops l Γ σ S :=
  fun F ρ a w R Q hq => k F _ a w (R.nilBox τ h hi hp hΓ hσ) Q hq
end
theorem sub_int {k : IntKind} {m n : Int} (h : m = n) : Sub (PV.int (Ty := Ty) k m) (.int k n) := by subst h; exact .refl _

/-! ### A label under another name -/
def renE (m : Nat → Nat) : Env Ty → Env Ty
  | [] => []
  | (s, x) :: Γ => (s, ren m x) :: renE m Γ
def Box.ren (m : Nat → Nat) : Box Ty → Box Ty
  | .cells t cs => .cells t (renL m cs)
  | b => b
def renH (m : Nat → Nat) : Hp Ty → Hp Ty
  | [] => []
  | (r, b) :: σ => (m r, b.ren m) :: renH m σ
/-- r is called d. -/
def nam (r d : Nat) (q : Nat) : Nat := bif Nat.beq q r then d else q
theorem renE_at {m : Nat → Nat} : ∀ {Γ : Env Ty} {s : Nat}, (renE m Γ).at s = ren m (Γ.at s)
  | [], s => by simp [renE, Env.at, look, Rf.ren]
  | (k, x) :: Γ, s => by
    simp only [renE, Env.at_cons]
    split
    · rfl
    · exact renE_at
theorem renL_rep {F : Nat → Prop} {ρ ρ' : Rho} {w : World} {m : Nat → Nat} {cs : List (PV Ty)} {vs : List Value} (h : RepL F ρ w cs vs) (hl : ∀ r, r ∈ labelsL cs → ρ' (m r) = ρ r) : RepL F ρ' w (renL m cs) vs := by
  refine ⟨by rw [renL_length, h.1], fun j y v hy hv => ?_⟩
  obtain ⟨x, hx, rfl⟩ := renL_at hy
  exact (h.2 j x v hx hv).ren fun r hr => hl r (mem_labelsL hx hr)
/-- What a box is called. -/
theorem renH_at {r d : Nat} (hne : r ≠ d) : ∀ {σ : Hp Ty}, (∀ p, p ∈ σ → p.1 ≠ d) → ∀ q, (renH (nam r d) σ).at q = if q = d then (σ.at r).ren (nam r d) else if q = r then .dead else (σ.at q).ren (nam r d)
  | [], _, q => by simp [renH, Hp.at, lookH, Box.ren]
  | (k, b) :: σ, h, q => by
    have ih := renH_at hne (σ := σ) (fun p hp => h p (List.mem_cons_of_mem _ hp)) q
    have hk : k ≠ d := h (k, b) (by simp)
    simp only [renH, Hp.at_cons, nam, beq_eq] at ih ⊢
    by_cases e : k = r
    · subst e
      simp only [decide_true, cond_true, if_true]
      by_cases e1 : d = q
      · subst e1; simp
      · have : ¬ q = d := fun h => e1 h.symm
        simp only [if_neg e1, if_neg this] at ih ⊢
        rw [ih]
        by_cases e2 : q = k
        · simp [e2]
        · have e3 : ¬ k = q := fun h => e2 h.symm
          simp [e2, e3]
    · simp only [e, decide_false, cond_false, if_false]
      by_cases e1 : k = q
      · subst e1
        simp [hk, e]
      · simp only [if_neg e1]
        exact ih
def noKey (d : Nat) : Hp Ty → Bool
  | [] => true
  | (k, _) :: σ => !(Nat.beq k d) && noKey d σ
theorem noKey_at {d : Nat} : ∀ {σ : Hp Ty}, noKey d σ = true → ∀ p, p ∈ σ → p.1 ≠ d
  | [], _, p, hp => by simp at hp
  | (k, b) :: σ, h, p, hp => by
    simp only [noKey, Bool.and_eq_true, Bool.not_eq_true', beq_eq, decide_eq_false_iff_not] at h
    rcases List.mem_cons.1 hp with rfl | hp
    · exact h.1
    · exact noKey_at h.2 p hp
section
variable {P : Program} {C : Ctx Ty} {f : FuncId} {ks : List Item} {Γ : Env Ty} {σ : Hp Ty}
theorem Rel.rename {F : Nat → Prop} {ρ : Rho} {a : Act} {w : World} (R : Rel C F ρ Γ σ a w) {r d : Nat} (hne : r ≠ d) (hΓ : noM d Γ = true) (hσ : noMH d σ = true) (hk : noKey d σ = true) (hfx : C.fx r = none) : Rel C F (setRho ρ d (ρ r)) (renE (nam r d) Γ) (renH (nam r d) σ) a w := by
  obtain ⟨hl, hdead⟩ := noMH_at hσ
  have hm : ∀ q, q ≠ d → setRho ρ d (ρ r) (nam r d q) = ρ q := by
    intro q hq
    by_cases e : q = r
    · subst e
      simp [nam, setRho_same]
    · simp [nam, beq_eq, e, setRho_ne ρ _ hq]
  have hat := renH_at (σ := σ) hne (noKey_at hk)
  have hal : ∀ q, ((renH (nam r d) σ).at q).alive = true → ∃ q', q' ≠ d ∧ (σ.at q').alive = true ∧ setRho ρ d (ρ r) q = ρ q' ∧ q = nam r d q' := by
    intro q hq
    rw [hat] at hq
    have ha : ∀ b : Box Ty, (b.ren (nam r d)).alive = b.alive := fun b => by cases b <;> rfl
    by_cases e : q = d
    · subst e
      rw [if_pos rfl, ha] at hq
      exact ⟨r, hne, hq, setRho_same _ _ _, by simp [nam]⟩
    · rw [if_neg e] at hq
      by_cases e2 : q = r
      · rw [if_pos e2] at hq
        simp [Box.alive] at hq
      · rw [if_neg e2, ha] at hq
        exact ⟨q, e, hq, setRho_ne ρ _ e, by simp [nam, beq_eq, e2]⟩
  have hbx : ∀ q', q' ≠ d → Boxed F (setRho ρ d (ρ r)) w (nam r d q') ((σ.at q').ren (nam r d)) := by
    intro q' hq
    have hb := R.box q'
    cases hs : σ.at q' with
    | dead => trivial
    | cells t cs =>
      rw [hs] at hb
      obtain ⟨g, c, cur, e, h1, h2, h3, h4, h5⟩ := hb
      refine ⟨g, c, cur, e, (hm q' hq).trans h1, h2, by rw [renL_length]; exact h3, h4, renL_rep h5 fun p hp => hm p fun h => ?_⟩
      subst h
      exact hl q' (by rw [hs]; exact hp)
    | arr e τ xs =>
      rw [hs] at hb
      rcases hb with ⟨h1, h2⟩ | ⟨g, c, cur, h1, h2, h3, h4, h5, h6, h7⟩
      · exact .inl ⟨(hm q' hq).trans h1, h2⟩
      · exact .inr ⟨g, c, cur, (hm q' hq).trans h1, h2, h3, h4, h5, h6, h7.mono (fun _ h => h) (fun _ _ => rfl) fun p hp => by rw [flat_labels] at hp; simp at hp⟩
  refine { R with box := fun q => ?_, inj := fun q q' g c c' h1 h2 h3 h4 => ?_, own := fun q g c h1 h2 => ?_, slot := fun s => ?_, glob := fun p hp => ⟨(R.glob p hp).1.mono (fun _ h => h) (fun _ _ => rfl) fun q hq => ?_, (R.glob p hp).2⟩, fixd := ?_ }
  rotate_right
  · have hnr : ∀ q, C.fx q ≠ none → q ≠ r := fun q h e => h (e ▸ hfx)
    have hnd : ∀ q, C.fx q ≠ none → q ≠ d := fun q h e => h (e ▸ R.fixd.ne hdead)
    refine R.fixd.mono (fun q _ hq => setRho_ne ρ _ (hnd q hq)) (fun q ha hq => ?_) fun _ _ _ _ _ _ => rfl
    rw [hat, if_neg (hnd q hq), if_neg (hnr q hq)]
    exact ⟨by cases h : σ.at q <;> rw [h] at ha <;> exact ha, by cases σ.at q <;> rfl⟩
  · rw [hat]
    by_cases e : q = d
    · rw [if_pos e, e]
      have := hbx r hne
      simpa [nam] using this
    · rw [if_neg e]
      by_cases e2 : q = r
      · rw [if_pos e2]
        trivial
      · rw [if_neg e2]
        have := hbx q e
        simpa [nam, beq_eq, e2] using this
  · obtain ⟨p, hp, ha, hρ, rfl⟩ := hal q h1
    obtain ⟨p', hp', ha', hρ', rfl⟩ := hal q' h2
    rw [R.inj p p' g c c' ha ha' (hρ ▸ h3) (hρ' ▸ h4)]
  · obtain ⟨p, hp, ha, hρ, rfl⟩ := hal q h1
    exact R.own p g c ha (hρ ▸ h2)
  · rw [renE_at]
    exact (R.slot s).ren fun q hq => hm q fun h => noM_at hΓ s (h ▸ hq)
  · simp only [PV.labels] at hq
    rw [(R.glob p hp).2] at hq
    simp at hq
theorem ak_ren {Q : PV Ty → Hp Ty → Prop} (r d : Nat) (hne : Nat.beq r d = false) (hΓ : noM d Γ = true) (hσ : noMH d σ = true) (hk : noKey d σ = true) (k : AK P C f ks (renE (nam r d) Γ) (renH (nam r d) σ) Q) (hfx : C.fx r = none := by rfl) : AK P C f ks Γ σ Q :=
  fun F ρ a w b cs hb hk' R => k F _ a w b cs hb hk' (R.rename (fun h => by subst h; simp at hne) hΓ hσ hk hfx)
end

/-! ### A region that draws its order, one operation behind the other -/
inductive QAll (P : Program) (C : Ctx Ty) (ops : Array Oper) (Γ0 : Env Ty) (σ0 : Hp Ty) (L : List (QS Ty)) : Nat → List Oper → List (QS Ty) → Prop where
  | nil (i : Nat) (l : List Oper) : QAll P C ops Γ0 σ0 L i l []
  | cons {i : Nat} {o : Oper} {l : List Oper} {q : QS Ty} {M : List (QS Ty)} (h : QOK P C ops Γ0 σ0 L i o q) (t : QAll P C ops Γ0 σ0 L (i + 1) l M) : QAll P C ops Γ0 σ0 L i (o :: l) (q :: M)
theorem QAll.at {P : Program} {C : Ctx Ty} {ops : Array Oper} {Γ0 : Env Ty} {σ0 : Hp Ty} {L : List (QS Ty)} {i : Nat} {l : List Oper} {M : List (QS Ty)} (h : QAll P C ops Γ0 σ0 L i l M) : ∀ k o q, l[k]? = some o → M[k]? = some q → QOK P C ops Γ0 σ0 L (i + k) o q := by
  induction h with
  | nil i l => intro k o q _ hq; simp at hq
  | cons h t ih =>
    intro k o q ho hq
    cases k with
    | zero => simp at ho hq; subst ho; subst hq; exact h
    | succ k =>
      have := ih k o q (by simpa using ho) (by simpa using hq)
      rwa [show ∀ i : Nat, i + (k + 1) = i + 1 + k from fun i => by omega]
section
variable {P : Program} {C : Ctx Ty} {f : FuncId} {ks : List Item} {Γ0 Γ' : Env Ty} {σ0 σ' : Hp Ty} {ops : Array Oper} {o : Oper} {L : List (QS Ty)} {i : Nat}
theorem ak_drawL {id : Nat} {Q : PV Ty → Hp Ty → Prop} (L : List (QS Ty)) (B : List (List Nat)) (hm : P.follows .mixedOrders = true) (hD : drawOK L B ops.toList = true) (hq : QAll P C ops Γ0 σ0 L 0 ops.toList L)
    (ht : SeqS P C ops (ops.toList.drop L.length) (gam (fun _ => true) 0 L Γ0) (sig (fun _ => true) 0 L σ0) (fun Γ' σ' => AK P C f ks Γ' σ' Q)) : AK P C f (.code (.region id ops true) :: ks) Γ0 σ0 Q :=
  ak_draw hm hD (fun i o q ho hl => by have := hq.at i o q (by simpa using ho) hl; simpa using this) ht
/-- An operation without a guard. -/
theorem qok {d : Option Tmp} {pre : Env Ty} {x : PV Ty} {nd : Hp Ty} (hd : ∀ d, o.dst = some d → d < C.nt) (hg : o.guard = none) (hp : PreQ true (gam (fun m => Nat.blt m i) 0 L Γ0) pre) (hn : ∀ p, p ∈ nd → (sig (fun m => Nat.blt m i) 0 L σ0).at p.1 = p.2)
    (hs : ∀ Γx σx, Sound P C o (pre ++ Γx) (nd ++ σx) x (nd ++ σx)) : QOK P C ops Γ0 σ0 L i o ⟨d, pre, none, true, x, nd, []⟩ :=
  ⟨.inl rfl, hd, by rw [hg]; exact ⟨rfl, rfl⟩, hp, hn, fun d h => by simp [extLabels] at h, fun Γx σx _ _ => hs Γx σx⟩
/-- One with a guard. -/
theorem qokG {d : Option Tmp} {pre : Env Ty} {x gv : PV Ty} {nd : Hp Ty} {j s : Nat} {want e : Bool} (hd : ∀ d, o.dst = some d → d < C.nt) (hg : o.guard = some (j, want)) (hj : (ops[j]?).bind (·.dst) = some s) (hl : look (gam (fun m => Nat.blt m i) 0 L Γ0) s = some gv) (he : gexp gv want = some e)
    (hp : PreQ e (gam (fun m => Nat.blt m i) 0 L Γ0) pre) (hn : ∀ p, p ∈ nd → (sig (fun m => Nat.blt m i) 0 L σ0).at p.1 = p.2)
    (hs : e = true → ∀ Γx σx, Sound P C o (pre ++ Γx) (nd ++ σx) x (nd ++ σx)) : QOK P C ops Γ0 σ0 L i o ⟨d, pre, some s, e, x, nd, []⟩ :=
  ⟨.inr rfl, hd, by rw [hg]; exact ⟨s, gv, rfl, hj, hl, he⟩, hp, hn, fun d h => by simp [extLabels] at h, fun Γx σx _ h => hs h Γx σx⟩
/-- One that labels a new thing. -/
theorem qokN {d : Option Tmp} {pre : Env Ty} {x : PV Ty} {nd ext : Hp Ty} (hd : ∀ d, o.dst = some d → d < C.nt) (hg : o.guard = none) (hp : PreQ true (gam (fun m => Nat.blt m i) 0 L Γ0) pre) (hn : ∀ p, p ∈ nd → (sig (fun m => Nat.blt m i) 0 L σ0).at p.1 = p.2)
    (hf : ∀ d, d ∈ (ext.filter fun b => b.2.alive && !(memN b.1 (nd.map (·.1)))).map (·.1) → noM d Γ0 = true ∧ noMH d σ0 = true) (hs : ∀ Γx σx, (∀ d, d ∈ (ext.filter fun b => b.2.alive && !(memN b.1 (nd.map (·.1)))).map (·.1) → noM d Γx = true ∧ noMH d σx = true) → Sound P C o (pre ++ Γx) (nd ++ σx) x (ext ++ (nd ++ σx))) : QOK P C ops Γ0 σ0 L i o ⟨d, pre, none, true, x, nd, ext⟩ :=
  ⟨.inl rfl, hd, by rw [hg]; exact ⟨rfl, rfl⟩, hp, hn, fun d h => hf d h, fun Γx σx h _ => hs Γx σx h⟩
theorem fresh1 {d : Nat} {l : List Nat} (he : l = [d]) (h1 : noM d Γ0 = true) (h2 : noMH d σ0 = true) : ∀ x, x ∈ l → noM x Γ0 = true ∧ noMH x σ0 = true := by
  subst he
  intro x hx
  simp at hx
  subst hx
  exact ⟨h1, h2⟩
theorem nodst {n : Nat} (h : o.dst = none) : ∀ d, o.dst = some d → d < n := fun d h' => by rw [h] at h'; simp at h'
theorem fresh0 {p : Nat → Prop} {l : List Nat} (he : l = []) : ∀ x, x ∈ l → p x := by
  subst he
  intro x hx
  simp at hx
theorem fresh2 {p : Nat → Prop} {d : Nat} {l : List Nat} (he : l = [d]) (h : ∀ x, x ∈ l → p x) : p d := h d (by simp [he])
inductive NeedQ (σ0 : Hp Ty) : Hp Ty → Prop where
  | nil : NeedQ σ0 []
  | cons {r : Nat} {b : Box Ty} {t : Hp Ty} (h : lookH σ0 r = some b) (ht : NeedQ σ0 t) : NeedQ σ0 ((r, b) :: t)
theorem NeedQ.all {σ0 nd : Hp Ty} (h : NeedQ σ0 nd) : ∀ p, p ∈ nd → σ0.at p.1 = p.2 := by
  induction h with
  | nil => intro p hp; simp at hp
  | cons h t ih =>
    intro p hp
    rcases List.mem_cons.1 hp with rfl | hp
    · exact Hp.at_of h
    · exact ih p hp
theorem noM_app {d : Nat} : ∀ {a b : Env Ty}, noM d a = true → noM d b = true → noM d (a ++ b) = true
  | [], b, _, h => h
  | (k, x) :: a, b, h, h' => by
    simp only [noM, Bool.and_eq_true, List.cons_append] at h ⊢
    exact ⟨h.1, noM_app h.2 h'⟩
end
end Go.Rf
end
