import Derived.Calls
import Derived.Orders
import Derived.Tactics
import Derived.WalkKit
import Derived.Below
import Derived.Laws.AppendOwn
import Derived.Laws.MakeOwn
import Derived.Laws.BytesArg
import Derived.Laws.Slices
import Derived.Lib.ConvBytes
import Derived.KernelRfl
section
/- Abstract values of Go programs and what they say of memory; how they stay true while memory grows. -/
set_option linter.unusedVariables false
namespace Go.Rf
open Go

/-- The codes of the types of elements: what an element is in Lean, how many cells it takes. -/
class GU (Ty : Type) where
  den : Ty → Type
  width : Ty → Nat

/-- Abstract values. -/
inductive PV (Ty : Type) [GU Ty] : Type where
  | undef
  | nils
  | int (k : IntKind) (n : Int)
  | bool (b : Bool)
  | str (s : List UInt8)
  | sl (τ : Ty) (xs : List (GU.den τ))
  | sf (τ : Ty) (xs : List (GU.den τ))
  | rp (cs : List (PV Ty))
  | nilp
  | ref (r o : Nat)
  | mf (wd r : Nat)
  | ms (wd r i n : Nat)
  | ar (wd r i j : Nat)
  | fn (f : FuncId) (caps : List (PV Ty))
  | agg (cs : List (PV Ty))
  | tup (xs : List (PV Ty))
  | nili
  | iface (t : TypeId) (x : PV Ty)
  | when (g : Bool) (x : PV Ty)

variable {Ty : Type} [GU Ty]

mutual
/-- The labels that a value mentions. -/
def PV.labels : PV Ty → List Nat
  | .rp cs => labelsL cs
  | .ref r _ => [r]
  | .mf _ r => [r]
  | .ms _ r _ _ => [r]
  | .ar _ r _ _ => [r]
  | .fn _ cs => labelsL cs
  | .agg cs => labelsL cs
  | .tup cs => labelsL cs
  | .iface _ x => x.labels
  | .when _ x => x.labels
  | _ => []
def labelsL : List (PV Ty) → List Nat
  | [] => []
  | x :: xs => x.labels ++ labelsL xs
end

theorem mem_labelsL {l : Nat} : ∀ {cs : List (PV Ty)} {i : Nat} {x : PV Ty}, cs[i]? = some x → l ∈ x.labels → l ∈ labelsL cs
  | [], i, x, h, _ => by simp at h
  | c :: cs, 0, x, h, hl => by
    simp at h
    subst h
    simp [labelsL, hl]
  | c :: cs, i + 1, x, h, hl => by
    have := mem_labelsL (cs := cs) (i := i) (x := x) (by simpa using h) hl
    simp [labelsL, this]

/-- Is it a value of one cell? -/
def PV.one : PV Ty → Bool
  | .undef | .agg _ | .tup _ | .when _ _ => false
  | _ => true
/-- What the cells of an element are: they mention no label. -/
class GC (Ty : Type) [GU Ty] where
  cells : (τ : Ty) → GU.den τ → List (PV Ty)
  cells_length : ∀ τ x, (cells τ x).length = GU.width τ
  cells_closed : ∀ τ x, labelsL (cells τ x) = []
  width_pos : ∀ τ : Ty, 0 < GU.width τ
  cells_one : ∀ τ x, (cells τ x).all PV.one = true

variable [GC Ty]
open GU GC

def memN (d : Nat) : List Nat → Bool
  | [] => false
  | x :: xs => bif Nat.beq d x then true else memN d xs
theorem memN_iff {d : Nat} : ∀ {l : List Nat}, memN d l = true ↔ d ∈ l
  | [] => by simp [memN]
  | x :: xs => by
    by_cases h : d = x
    · subst h
      simp [memN]
    · have : Nat.beq d x = false := by
        cases e : Nat.beq d x
        · rfl
        · exact absurd (Nat.eq_of_beq_eq_true e) h
      simp [memN, this, memN_iff, h]
theorem memN_false {d : Nat} {l : List Nat} (h : memN d l = false) : d ∉ l := fun hm => by
  rw [memN_iff.2 hm] at h
  simp at h
/-- Where a labelled thing lies; of a row, how many elements have room, and how many there are. -/
abbrev Rho := Nat → Option (Nat × (Nat × Nat))

/-- A value is what an abstract value says: F the blocks that never change again, ρ where the labelled things are. -/
inductive Rep (F : Nat → Prop) (ρ : Rho) (w : World) : PV Ty → Value → Prop where
  | undef (v : Value) : Rep F ρ w .undef v
  | nils : Rep F ρ w .nils (.slice none 0 0)
  | int (k : IntKind) (n : Int) : Rep F ρ w (.int k n) (.int k n)
  | bool (b : Bool) : Rep F ρ w (.bool b) (.bool b)
  | str (s : List UInt8) : Rep F ρ w (.str s) (.string ⟨s.toArray⟩)
  | sl (τ : Ty) (xs : List (den τ)) (A : Option Addr) (c g o : Nat) (vs : Nat → Nat → Value) (hA : xs ≠ [] → A = some ⟨g, o, none⟩ ∧ F g)
      (hc : ∀ (i : Nat) (x : den τ), xs[i]? = some x → ∀ (j : Nat) (y : PV Ty), (cells τ x)[j]? = some y → w.cell? ⟨g, o + (i * width τ + j), none⟩ = some (vs i j))
      (hr : ∀ (i : Nat) (x : den τ), xs[i]? = some x → ∀ (j : Nat) (y : PV Ty), (cells τ x)[j]? = some y → Rep F ρ w y (vs i j)) (hcap : xs.length ≤ c) : Rep F ρ w (.sl τ xs) (.slice A xs.length c)
  | sf (τ : Ty) (xs : List (den τ)) (A : Option Addr) (g o : Nat) (vs : Nat → Nat → Value) (hA : xs ≠ [] → A = some ⟨g, o, none⟩ ∧ F g)
      (hc : ∀ (i : Nat) (x : den τ), xs[i]? = some x → ∀ (j : Nat) (y : PV Ty), (cells τ x)[j]? = some y → w.cell? ⟨g, o + (i * width τ + j), none⟩ = some (vs i j))
      (hr : ∀ (i : Nat) (x : den τ), xs[i]? = some x → ∀ (j : Nat) (y : PV Ty), (cells τ x)[j]? = some y → Rep F ρ w y (vs i j)) : Rep F ρ w (.sf τ xs) (.slice A xs.length xs.length)
  | rp (cs : List (PV Ty)) (g o : Nat) (vs : Nat → Value) (hF : F g)
      (hc : ∀ (j : Nat) (y : PV Ty), cs[j]? = some y → w.cell? ⟨g, o + j, none⟩ = some (vs j)) (hr : ∀ (j : Nat) (y : PV Ty), cs[j]? = some y → Rep F ρ w y (vs j)) : Rep F ρ w (.rp cs) (.pointer (some ⟨g, o, none⟩))
  | nilp : Rep F ρ w .nilp (.pointer none)
  | ref (r o g : Nat) (c : Nat × Nat) (h : ρ r = some (g, c)) : Rep F ρ w (.ref r o) (.pointer (some ⟨g, c.1 + o, none⟩))
  | mfNil (wd : Nat) (r : Nat) (h : ρ r = none) : Rep F ρ w (.mf wd r) (.slice none 0 0)
  | mf (wd r g : Nat) (c : Nat × Nat) (h : ρ r = some (g, c)) : Rep F ρ w (.mf wd r) (.slice (some ⟨g, 0, none⟩) c.2 c.1)
  | msNil (wd : Nat) (r : Nat) (h : ρ r = none) : Rep F ρ w (.ms wd r 0 0) (.slice none 0 0)
  | ms (wd r i n g : Nat) (c : Nat × Nat) (a : Addr) (h : ρ r = some (g, c)) (hn : i + n ≤ c.1) (ha : i < c.1 ∨ i = 0 → a = ⟨g, i * wd, none⟩) : Rep F ρ w (.ms wd r i n) (.slice (some a) n (c.1 - i))
  | ar (wd r i j g : Nat) (c : Nat × Nat) (h : ρ r = some (g, c)) : Rep F ρ w (.ar wd r i j) (.pointer (some ⟨g, i * wd + j, none⟩))
  | fn (f : FuncId) (caps : List (PV Ty)) (vs : List Value) (hl : vs.length = caps.length) (hr : ∀ (j : Nat) (x : PV Ty) (v : Value), caps[j]? = some x → vs[j]? = some v → Rep F ρ w x v) : Rep F ρ w (.fn f caps) (.func (.func f) #[] vs.toArray)
  | agg (cs : List (PV Ty)) (vs : List Value) (hl : vs.length = cs.length) (hr : ∀ (j : Nat) (x : PV Ty) (v : Value), cs[j]? = some x → vs[j]? = some v → Rep F ρ w x v) : Rep F ρ w (.agg cs) (.agg vs.toArray)
  | tup (cs : List (PV Ty)) (vs : List Value) (hl : vs.length = cs.length) (hr : ∀ (j : Nat) (x : PV Ty) (v : Value), cs[j]? = some x → vs[j]? = some v → Rep F ρ w x v) : Rep F ρ w (.tup cs) (.tuple vs.toArray)
  | nili : Rep F ρ w .nili .nilIface
  | iface (t : TypeId) (x : PV Ty) (v : Value) (h : Rep F ρ w x v) : Rep F ρ w (.iface t x) (.iface t v)
  | when (g : Bool) (x : PV Ty) (v : Value) (h : g = true → Rep F ρ w x v) (h' : g = false → v = Go.undef) : Rep F ρ w (.when g x) v

theorem cell_of_heap {w w' : World} {g o : Nat} {v : Value} (h : w'.heap[g]? = w.heap[g]?) (hc : w.cell? ⟨g, o, none⟩ = some v) : w'.cell? ⟨g, o, none⟩ = some v := by
  rw [World.cell?_of_block (w := w) (a := ⟨g, o, none⟩) h]
  exact hc

/-- What a value says stays true while the frozen blocks stay and the labels that it mentions. -/
theorem Rep.mono {F F' : Nat → Prop} {ρ ρ' : Rho} {w w' : World} (hF : ∀ g, F g → F' g) (hw : ∀ g, F g → w'.heap[g]? = w.heap[g]?) {x : PV Ty} {v : Value}
    (h : Rep F ρ w x v) : (∀ r, r ∈ x.labels → ρ' r = ρ r) → Rep F' ρ' w' x v := by
  induction h with
  | undef v => exact fun _ => .undef v
  | nils => exact fun _ => .nils
  | int k n => exact fun _ => .int k n
  | bool b => exact fun _ => .bool b
  | str s => exact fun _ => .str s
  | sl τ xs A c g o vs hA hc hr hcap ih =>
    intro _
    refine .sl τ xs A c g o vs (fun hn => ⟨(hA hn).1, hF g (hA hn).2⟩) (fun i x hx j y hy => ?_) (fun i x hx j y hy => ih i x hx j y hy fun r hr => ?_) hcap
    · exact cell_of_heap (hw g (hA (by rintro rfl; simp at hx)).2) (hc i x hx j y hy)
    · have := mem_labelsL hy hr
      rw [cells_closed] at this
      simp at this
  | sf τ xs A g o vs hA hc hr ih =>
    intro _
    refine .sf τ xs A g o vs (fun hn => ⟨(hA hn).1, hF g (hA hn).2⟩) (fun i x hx j y hy => ?_) (fun i x hx j y hy => ih i x hx j y hy fun r hr => ?_)
    · exact cell_of_heap (hw g (hA (by rintro rfl; simp at hx)).2) (hc i x hx j y hy)
    · have := mem_labelsL hy hr
      rw [cells_closed] at this
      simp at this
  | rp cs g o vs hFg hc hr ih =>
    intro hl
    exact .rp cs g o vs (hF g hFg) (fun j y hy => cell_of_heap (hw g hFg) (hc j y hy)) (fun j y hy => ih j y hy fun r hr => hl r (mem_labelsL hy hr))
  | nilp => exact fun _ => .nilp
  | ref r o g c h => exact fun hl => .ref r o g c ((hl r (by simp [PV.labels])).trans h)
  | mfNil wd r h => exact fun hl => .mfNil wd r ((hl r (by simp [PV.labels])).trans h)
  | mf wd r g c h => exact fun hl => .mf wd r g c ((hl r (by simp [PV.labels])).trans h)
  | msNil wd r h => exact fun hl => .msNil wd r ((hl r (by simp [PV.labels])).trans h)
  | ms wd r i n g c a h hn ha => exact fun hl => .ms wd r i n g c a ((hl r (by simp [PV.labels])).trans h) hn ha
  | ar wd r i j g c h => exact fun hl => .ar wd r i j g c ((hl r (by simp [PV.labels])).trans h)
  | fn f caps vs hlen hr ih => exact fun hl => .fn f caps vs hlen fun j x v hx hv => ih j x v hx hv fun r hr => hl r (mem_labelsL hx hr)
  | agg cs vs hlen hr ih => exact fun hl => .agg cs vs hlen fun j x v hx hv => ih j x v hx hv fun r hr => hl r (mem_labelsL hx hr)
  | tup cs vs hlen hr ih => exact fun hl => .tup cs vs hlen fun j x v hx hv => ih j x v hx hv fun r hr => hl r (mem_labelsL hx hr)
  | nili => exact fun _ => .nili
  | iface t x v h ih => exact fun hl => .iface t x v (ih hl)
  | when g x v h h' ih => exact fun hl => .when g x v (fun hg => ih hg hl) h'

/-- A list of abstract values and a list of values, one by one. -/
def RepL (F : Nat → Prop) (ρ : Rho) (w : World) (cs : List (PV Ty)) (vs : List Value) : Prop :=
  vs.length = cs.length ∧ ∀ (j : Nat) (x : PV Ty) (v : Value), cs[j]? = some x → vs[j]? = some v → Rep F ρ w x v

theorem RepL.nil {F : Nat → Prop} {ρ : Rho} {w : World} : RepL F ρ w ([] : List (PV Ty)) [] := ⟨rfl, fun j x v h => by simp at h⟩
theorem RepL.cons {F : Nat → Prop} {ρ : Rho} {w : World} {x : PV Ty} {v : Value} {cs : List (PV Ty)} {vs : List Value} (h : Rep F ρ w x v) (ht : RepL F ρ w cs vs) : RepL F ρ w (x :: cs) (v :: vs) := by
  refine ⟨by simp [ht.1], fun j y u hy hu => ?_⟩
  cases j with
  | zero =>
    simp at hy hu
    subst hy hu
    exact h
  | succ j => exact ht.2 j y u (by simpa using hy) (by simpa using hu)
theorem RepL.of_cons {F : Nat → Prop} {ρ : Rho} {w : World} {x : PV Ty} {cs : List (PV Ty)} {vs : List Value} (h : RepL F ρ w (x :: cs) vs) : ∃ v us, vs = v :: us ∧ Rep F ρ w x v ∧ RepL F ρ w cs us := by
  cases vs with
  | nil => have := h.1; simp at this
  | cons v us => exact ⟨v, us, rfl, h.2 0 x v rfl rfl, by have := h.1; simpa using this, fun j y u hy hu => h.2 (j + 1) y u (by simpa using hy) (by simpa using hu)⟩
theorem RepL.mono {F F' : Nat → Prop} {ρ ρ' : Rho} {w w' : World} (hF : ∀ g, F g → F' g) (hw : ∀ g, F g → w'.heap[g]? = w.heap[g]?) {cs : List (PV Ty)} {vs : List Value}
    (hρ : ∀ r, r ∈ labelsL cs → ρ' r = ρ r) (h : RepL F ρ w cs vs) : RepL F' ρ' w' cs vs :=
  ⟨h.1, fun j x v hx hv => (h.2 j x v hx hv).mono hF hw fun r hr => hρ r (mem_labelsL hx hr)⟩
theorem RepL.append {F : Nat → Prop} {ρ : Rho} {w : World} {cs ds : List (PV Ty)} {vs us : List Value} (h : RepL F ρ w cs vs) (k : RepL F ρ w ds us) : RepL F ρ w (cs ++ ds) (vs ++ us) := by
  refine ⟨by simp [h.1, k.1], fun j x v hx hv => ?_⟩
  by_cases hj : j < cs.length
  · rw [List.getElem?_append_left hj] at hx
    rw [List.getElem?_append_left (by rw [h.1]; exact hj)] at hv
    exact h.2 j x v hx hv
  · rw [List.getElem?_append_right (by omega)] at hx
    rw [List.getElem?_append_right (by rw [h.1]; omega), h.1] at hv
    exact k.2 _ x v hx hv
theorem RepL.take {F : Nat → Prop} {ρ : Rho} {w : World} {cs : List (PV Ty)} {vs : List Value} (h : RepL F ρ w cs vs) (n : Nat) : RepL F ρ w (cs.take n) (vs.take n) := by
  refine ⟨by simp [h.1], fun j x v hx hv => ?_⟩
  rw [List.getElem?_take] at hx hv
  split at hx
  · rw [if_pos (by assumption)] at hv
    exact h.2 j x v hx hv
  · simp at hx
theorem RepL.drop {F : Nat → Prop} {ρ : Rho} {w : World} {cs : List (PV Ty)} {vs : List Value} (h : RepL F ρ w cs vs) (n : Nat) : RepL F ρ w (cs.drop n) (vs.drop n) := by
  refine ⟨by simp [h.1], fun j x v hx hv => ?_⟩
  rw [List.getElem?_drop] at hx hv
  exact h.2 _ x v hx hv
theorem RepL.set {F : Nat → Prop} {ρ : Rho} {w : World} {cs : List (PV Ty)} {vs : List Value} (h : RepL F ρ w cs vs) (n : Nat) {x : PV Ty} {v : Value} (hx : Rep F ρ w x v) : RepL F ρ w (cs.set n x) (vs.set n v) := by
  refine ⟨by simp [h.1], fun j y u hy hu => ?_⟩
  rw [List.getElem?_set] at hy hu
  rw [h.1] at hu
  split at hy
  · rename_i e
    rw [if_pos e] at hu
    split at hy
    · rename_i hlt
      rw [if_pos hlt] at hu
      simp at hy hu
      subst hy hu
      exact hx
    · simp at hy
  · rename_i e
    rw [if_neg e] at hu
    exact h.2 j y u hy hu

/-- The cells of several elements. -/
def flat (τ : Ty) (xs : List (den τ)) : List (PV Ty) := xs.flatMap (cells τ)
theorem flat_length (τ : Ty) (xs : List (den τ)) : (flat τ xs).length = xs.length * width τ := by
  induction xs with
  | nil => simp [flat]
  | cons x xs ih =>
    simp only [flat, List.flatMap_cons, List.length_append, cells_length, List.length_cons] at ih ⊢
    rw [ih, Nat.succ_mul]
    omega
theorem flat_at (τ : Ty) : ∀ (xs : List (den τ)) (i : Nat) (x : den τ), xs[i]? = some x → ∀ j, j < width τ → (flat τ xs)[i * width τ + j]? = (cells τ x)[j]?
  | [], i, x, h, _, _ => by simp at h
  | y :: ys, 0, x, h, j, hj => by
    simp at h
    subst h
    simp only [flat, List.flatMap_cons, Nat.zero_mul, Nat.zero_add]
    rw [List.getElem?_append_left (by rw [cells_length]; exact hj)]
  | y :: ys, i + 1, x, h, j, hj => by
    have ih := flat_at τ ys i x (by simpa using h) j hj
    simp only [flat, List.flatMap_cons] at ih ⊢
    rw [List.getElem?_append_right (by rw [cells_length, Nat.succ_mul]; omega), cells_length, ← ih]
    congr 1
    rw [Nat.succ_mul]
    omega
theorem flat_append (τ : Ty) (xs ys : List (den τ)) : flat τ (xs ++ ys) = flat τ xs ++ flat τ ys := by simp [flat]
theorem flat_labels (τ : Ty) (xs : List (den τ)) : labelsL (flat τ xs) = [] := by
  have happ : ∀ a b : List (PV Ty), labelsL (a ++ b) = labelsL a ++ labelsL b := by
    intro a
    induction a with
    | nil => intro b; simp [labelsL]
    | cons x a ih => intro b; simp [labelsL, ih]
  induction xs with
  | nil => rfl
  | cons x xs ih =>
    simp only [flat, List.flatMap_cons] at ih ⊢
    rw [happ, cells_closed, ih]
    rfl
end Go.Rf
end
section
/- Abstract states: slots and labelled boxes, and what they say of a frame and of memory. -/
set_option linter.unusedVariables false
set_option linter.unusedSimpArgs false
set_option linter.unusedSectionVars false
namespace Go.Rf
open Go GU GC
variable {Ty : Type} [GU Ty]

/-- What a label may stand for: a variable of so many cells; a row that its holder alone writes. -/
inductive Box (Ty : Type) [GU Ty] where
  | dead
  | cells (t : TypeId) (cs : List (PV Ty))
  | arr (e : TypeId) (τ : Ty) (xs : List (den τ))

abbrev Env (Ty : Type) [GU Ty] := List (Nat × PV Ty)
abbrev Hp (Ty : Type) [GU Ty] := List (Nat × Box Ty)

def look : Env Ty → Nat → Option (PV Ty)
  | [], _ => none
  | (k, x) :: Γ, j => bif Nat.beq k j then some x else look Γ j
def lookH : Hp Ty → Nat → Option (Box Ty)
  | [], _ => none
  | (k, x) :: Γ, j => bif Nat.beq k j then some x else lookH Γ j
def Env.at (Γ : Env Ty) (s : Nat) : PV Ty := (look Γ s).getD .undef
def Hp.at (σ : Hp Ty) (r : Nat) : Box Ty := (lookH σ r).getD .dead

theorem beq_eq {a b : Nat} : Nat.beq a b = decide (a = b) := by
  by_cases h : a = b
  · subst h; simp
  · have : Nat.beq a b ≠ true := fun e => h (Nat.eq_of_beq_eq_true e)
    simp [h]
    exact Bool.eq_false_iff.2 this
theorem Env.at_cons (k : Nat) (x : PV Ty) (Γ : Env Ty) (s : Nat) : Env.at ((k, x) :: Γ) s = if k = s then x else Γ.at s := by
  simp only [Env.at, look, beq_eq]
  by_cases h : k = s <;> simp [h]
theorem Hp.at_cons (k : Nat) (x : Box Ty) (σ : Hp Ty) (s : Nat) : Hp.at ((k, x) :: σ) s = if k = s then x else σ.at s := by
  simp only [Hp.at, lookH, beq_eq]
  by_cases h : k = s <;> simp [h]
theorem Env.at_of {Γ : Env Ty} {s : Nat} {x : PV Ty} (h : look Γ s = some x) : Γ.at s = x := by simp [Env.at, h]
theorem Hp.at_of {σ : Hp Ty} {s : Nat} {x : Box Ty} (h : lookH σ s = some x) : σ.at s = x := by simp [Hp.at, h]

/-- An operation's slot takes a value. -/
def upd (Γ : Env Ty) : Option Tmp → PV Ty → Env Ty
  | some d, x => (d, x) :: Γ
  | none, _ => Γ

def Box.labels : Box Ty → List Nat
  | .cells _ cs => labelsL cs
  | _ => []

variable [GC Ty]

/-- The call that is under way: the world as it began, the old blocks that it may write, those that were frozen, the frame's size, the package's variables that are known. -/
structure Ctx (Ty : Type) [GU Ty] where
  fx : Nat → Option (Option (Nat × (Nat × Nat)))
  w0 : World
  S0 : Nat → Prop
  F0 : Nat → Prop
  nt : Nat
  glob : List (Nat × List (PV Ty))

/-- What a box says. -/
def Boxed (F : Nat → Prop) (ρ : Rho) (w : World) (r : Nat) : Box Ty → Prop
  | .dead => True
  | .cells _ cs => ∃ g c cur e, ρ r = some (g, c) ∧ w.heap[g]? = some (.cells cur e (0, 0)) ∧ c.2 = cs.length ∧ c.1 + c.2 ≤ cur.size ∧ RepL F ρ w cs ((cur.toList.drop c.1).take c.2)
  | .arr e τ xs => (ρ r = none ∧ xs = []) ∨
      ∃ g c cur, ρ r = some (g, c) ∧ w.heap[g]? = some (.cells cur e (0, 0)) ∧ cur.size = c.1 * width τ ∧ xs.length ≤ c.1 ∧ c.1 ≤ maxLen ∧ c.2 = xs.length ∧ RepL F ρ w (flat τ xs) (cur.toList.take (xs.length * width τ))

def Box.alive : Box Ty → Bool
  | .dead => false
  | _ => true
def Box.isC : Box Ty → Bool
  | .cells _ _ => true
  | _ => false
/-- Outside of a part a block is as it was. -/
def Outs (w0 w : World) (g : Nat) (c : Nat × Nat) : Prop :=
  ∃ cur0 cur e, w0.heap[g]? = some (.cells cur0 e (0, 0)) ∧ w.heap[g]? = some (.cells cur e (0, 0)) ∧ cur.size = cur0.size ∧ ∀ i, i < c.1 ∨ c.1 + c.2 ≤ i → cur[i]? = cur0[i]?
theorem Outs.mono {w0 w w' : World} {g : Nat} {c : Nat × Nat} (h : Outs w0 w g c) (hw : w'.heap[g]? = w.heap[g]?) : Outs w0 w' g c := by
  obtain ⟨cur0, cur, e, h1, h2, h3, h4⟩ := h
  exact ⟨cur0, cur, e, h1, hw.trans h2, h3, h4⟩
/-- What was handed in to be written stays where it is. -/
def Fixd (C : Ctx Ty) (ρ : Rho) (σ : Hp Ty) (w : World) : Prop :=
  ∀ r x, C.fx r = some x → ρ r = x ∧ (σ.at r).alive = true ∧ ((σ.at r).isC = true → ∀ g c, x = some (g, c) → Outs C.w0 w g c)

structure Rel (C : Ctx Ty) (F : Nat → Prop) (ρ : Rho) (Γ : Env Ty) (σ : Hp Ty) (a : Act) (w : World) : Prop where
  os : w.os = C.w0.os
  tape : w.tape = C.w0.tape
  output : w.output = C.w0.output
  size : C.w0.heap.size ≤ w.heap.size
  keep : ∀ g, g < C.w0.heap.size → ¬ C.S0 g → w.heap[g]? = C.w0.heap[g]?
  F0 : ∀ g, C.F0 g → F g
  Fold : ∀ g, F g → C.F0 g ∨ C.S0 g ∨ C.w0.heap.size ≤ g
  Flt : ∀ g, F g → g < w.heap.size
  box : ∀ r, Boxed F ρ w r (σ.at r)
  inj : ∀ r r' g c c', (σ.at r).alive = true → (σ.at r').alive = true → ρ r = some (g, c) → ρ r' = some (g, c') → r = r'
  own : ∀ r g c, (σ.at r).alive = true → ρ r = some (g, c) → ¬ F g ∧ (C.S0 g ∨ C.w0.heap.size ≤ g)
  slot : ∀ s, Rep F ρ w (Γ.at s) (a.tmps.getD s Go.undef)
  tsize : a.tmps.size = C.nt
  defers : a.defers = []
  glob : ∀ p, p ∈ C.glob → Rep F ρ w (.rp p.2) (.pointer (some ⟨p.1, 0, none⟩)) ∧ labelsL p.2 = []
  fixd : Fixd C ρ σ w

/-- The constants. -/
def cpv : Value → Option (PV Ty)
  | .int k n => some (.int k n)
  | .bool b => some (.bool b)
  | .string s => some (.str s.data.toList)
  | .slice none 0 0 => some .nils
  | .pointer none => some .nilp
  | .nilIface => some .nili
  | _ => none
def cpvL : List Value → Option (List (PV Ty))
  | [] => some []
  | v :: vs => match (cpv v : Option (PV Ty)), cpvL vs with
    | some x, some xs => some (x :: xs)
    | _, _ => none

def lookG : List (Nat × List (PV Ty)) → Nat → Option (List (PV Ty))
  | [], _ => none
  | (k, x) :: Γ, j => bif Nat.beq k j then some x else lookG Γ j
theorem lookG_mem : ∀ {G : List (Nat × List (PV Ty))} {g : Nat} {cs : List (PV Ty)}, lookG G g = some cs → (g, cs) ∈ G
  | [], g, cs, h => by simp [lookG] at h
  | (k, x) :: G, g, cs, h => by
    simp only [lookG, beq_eq] at h
    by_cases e : k = g
    · simp [e] at h
      simp [e, h]
    · simp [e] at h
      exact List.mem_cons_of_mem _ (lookG_mem h)

/-- What an operand is. -/
def opd (G : List (Nat × List (PV Ty))) (Γ : Env Ty) : Operand → Option (PV Ty)
  | .tmp t => look Γ t
  | .const (.agg vs) => match (cpvL vs.toList : Option (List (PV Ty))) with
    | some xs => some (.agg xs)
    | none => none
  | .const v => cpv v
  | .global g => match lookG G g with
    | some cs => some (.rp cs)
    | none => none
  | .func f => some (.fn f [])

theorem rep_cpv {F : Nat → Prop} {ρ : Rho} {w : World} {v : Value} {x : PV Ty} (h : cpv v = some x) : Rep F ρ w x v := by
  unfold cpv at h
  split at h <;> simp at h <;> subst h
  · exact .int _ _
  · exact .bool _
  · rename_i s
    have : Rep F ρ w (PV.str (Ty := Ty) s.data.toList) (.string ⟨s.data.toList.toArray⟩) := .str _
    simpa using this
  · exact .nils
  · exact .nilp
  · exact .nili
theorem rep_cpvL {F : Nat → Prop} {ρ : Rho} {w : World} : ∀ {vs : List Value} {xs : List (PV Ty)}, cpvL vs = some xs → RepL F ρ w xs vs
  | [], xs, h => by
    simp [cpvL] at h
    subst h
    exact .nil
  | v :: vs, xs, h => by
    unfold cpvL at h
    split at h
    · rename_i x ys hx hy
      simp at h
      subst h
      exact .cons (rep_cpv hx) (rep_cpvL hy)
    · simp at h
theorem RepL.agg {F : Nat → Prop} {ρ : Rho} {w : World} {cs : List (PV Ty)} {vs : List Value} (h : RepL F ρ w cs vs) : Rep F ρ w (.agg cs) (.agg vs.toArray) := .agg cs vs h.1 h.2

theorem Rel.opd {C : Ctx Ty} {F : Nat → Prop} {ρ : Rho} {Γ : Env Ty} {σ : Hp Ty} {a : Act} {w : World} (R : Rel C F ρ Γ σ a w) {x : Operand} {y : PV Ty}
    (h : opd C.glob Γ x = some y) : Rep F ρ w y (a.eval x) := by
  unfold Rf.opd at h
  split at h
  · rename_i t
    have := R.slot t
    rw [Env.at_of h] at this
    exact this
  · rename_i vs
    split at h
    · rename_i xs hxs
      simp at h
      subst h
      have := (rep_cpvL (F := F) (ρ := ρ) (w := w) hxs).agg
      simpa [Act.eval] using this
    · simp at h
  · exact rep_cpv h
  · rename_i g
    split at h
    · rename_i cs hcs
      simp at h
      subst h
      exact (R.glob _ (lookG_mem hcs)).1
    · simp at h
  · rename_i f
    simp at h
    subst h
    exact .fn f [] [] rfl fun j x v hx => by simp at hx

/-- One operation: from each frame and memory that fit, it comes to some that fit what is said behind it. -/
def SoundG (P : Program) (C : Ctx Ty) (o : Oper) (Γ : Env Ty) (σ : Hp Ty) (x : PV Ty) (Γ' : Env Ty) (σ' : Hp Ty) : Prop :=
  ∀ F ρ a w, Rel C F ρ Γ σ a w → ∀ (next : Act → World → Prop) (Q : Exit → Act → World → Prop),
    (∀ F' ρ' v w', (∀ g, F g → F' g) → Rel C F' ρ' (upd Γ' o.dst x) σ' (a.put o.dst v) w' → next (a.put o.dst v) w') → o.wp P a w next Q
/-- The same, where no slot but its own turns. -/
abbrev Sound (P : Program) (C : Ctx Ty) (o : Oper) (Γ : Env Ty) (σ : Hp Ty) (x : PV Ty) (σ' : Hp Ty) : Prop := SoundG P C o Γ σ x Γ σ'

/-- A slot takes a value; memory may have grown. -/
theorem Rel.put {C : Ctx Ty} {F : Nat → Prop} {ρ : Rho} {Γ : Env Ty} {σ : Hp Ty} {a : Act} {w : World} (R : Rel C F ρ Γ σ a w) {dst : Option Tmp} {x : PV Ty} {v : Value}
    (hd : ∀ d, dst = some d → d < C.nt) (hx : Rep F ρ w x v) : Rel C F ρ (upd Γ dst x) σ (a.put dst v) w := by
  cases dst with
  | none => exact { R with }
  | some d =>
    have hdn := hd d rfl
    refine { R with slot := fun s => ?_, tsize := by simp [Act.put, R.tsize], defers := by simp [Act.put, R.defers] }
    simp only [upd, Env.at_cons, Act.put]
    by_cases e : d = s
    · subst e
      simp [Array.getD_eq_getD_getElem?, R.tsize, hdn]
      exact hx
    · rw [if_neg e]
      have := R.slot s
      simpa [Array.getD_eq_getD_getElem?, Array.getElem?_setIfInBounds, e] using this

/-- An operation that only computes. -/
theorem Sound.of_value {P : Program} {C : Ctx Ty} {o : Oper} {Γ : Env Ty} {σ : Hp Ty} {x : PV Ty} (hd : ∀ d, o.dst = some d → d < C.nt)
    (h : ∀ F ρ a w, Rel C F ρ Γ σ a w → ∃ v, (execOp a.eval o).run P w = .ok (.value v) w ∧ Rep F ρ w x v) : Sound P C o Γ σ x σ := by
  intro F ρ a w R next Q hn
  obtain ⟨v, hr, hx⟩ := h F ρ a w R
  unfold Oper.wp
  rw [hr]
  exact hn F ρ v w (fun _ h => h) (R.put hd hx)

/-! ### The operations that only compute -/
section
variable {P : Program} {C : Ctx Ty} {o : Oper} {Γ : Env Ty} {σ : Hp Ty}

theorem ok_move {a : Operand} {x : PV Ty} (hd : ∀ d, o.dst = some d → d < C.nt) (ho : o.op = .move a) (h : opd C.glob Γ a = some x) : Sound P C o Γ σ x σ :=
  .of_value hd fun F ρ ac w R => ⟨ac.eval a, by simp [execOp, ho, Sem.run, pure, Sem.instMonad], R.opd h⟩
theorem ok_assign {a : Operand} {x : PV Ty} (hd : ∀ d, o.dst = some d → d < C.nt) (ho : o.op = .assign a) (h : opd C.glob Γ a = some x) : Sound P C o Γ σ x σ :=
  .of_value hd fun F ρ ac w R => ⟨ac.eval a, by simp [execOp, ho, Sem.run, pure, Sem.instMonad], R.opd h⟩
end
end Go.Rf
end
section
/- One lemma an operation: those that compute, and those that read memory. -/
set_option linter.unusedVariables false
set_option linter.unusedSimpArgs false
set_option linter.unusedSectionVars false
namespace Go.Rf
open Go GU GC
variable {Ty : Type} [GU Ty] [GC Ty]

section
variable {F : Nat → Prop} {ρ : Rho} {w : World} {v : Value}
theorem Rep.int_inv {k : IntKind} {n : Int} (h : Rep F ρ w (PV.int (Ty := Ty) k n) v) : v = .int k n := by cases h; rfl
theorem Rep.bool_inv {b : Bool} (h : Rep F ρ w (PV.bool (Ty := Ty) b) v) : v = .bool b := by cases h; rfl
theorem Rep.str_inv {s : List UInt8} (h : Rep F ρ w (PV.str (Ty := Ty) s) v) : v = .string ⟨s.toArray⟩ := by cases h; rfl
theorem Rep.nils_inv (h : Rep F ρ w (PV.nils (Ty := Ty)) v) : v = .slice none 0 0 := by cases h; rfl
theorem Rep.nili_inv (h : Rep F ρ w (PV.nili (Ty := Ty)) v) : v = .nilIface := by cases h; rfl
theorem Rep.ref_inv {r o : Nat} (h : Rep F ρ w (PV.ref (Ty := Ty) r o) v) : ∃ g c, ρ r = some (g, c) ∧ v = .pointer (some ⟨g, c.1 + o, none⟩) := by cases h; exact ⟨_, _, by assumption, rfl⟩
theorem Rep.ar_inv {wd r i j : Nat} (h : Rep F ρ w (PV.ar (Ty := Ty) wd r i j) v) : ∃ g c, ρ r = some (g, c) ∧ v = .pointer (some ⟨g, i * wd + j, none⟩) := by cases h; exact ⟨_, _, by assumption, rfl⟩
theorem Rep.rp_inv {cs : List (PV Ty)} (h : Rep F ρ w (PV.rp cs) v) : ∃ g o, v = .pointer (some ⟨g, o, none⟩) ∧ F g ∧ ∀ (j : Nat) (y : PV Ty), cs[j]? = some y → ∃ u, w.cell? ⟨g, o + j, none⟩ = some u ∧ Rep F ρ w y u := by
  cases h
  rename_i g o vs hF hc hr
  exact ⟨g, o, rfl, hF, fun j y hy => ⟨vs j, hc j y hy, hr j y hy⟩⟩
theorem Rep.agg_inv {cs : List (PV Ty)} (h : Rep F ρ w (PV.agg cs) v) : ∃ vs, v = .agg (List.toArray vs) ∧ RepL F ρ w cs vs := by
  cases h
  rename_i vs hl hr
  exact ⟨vs, rfl, hl, hr⟩
theorem Rep.tup_inv {cs : List (PV Ty)} (h : Rep F ρ w (PV.tup cs) v) : ∃ vs, v = .tuple (List.toArray vs) ∧ RepL F ρ w cs vs := by
  cases h
  rename_i vs hl hr
  exact ⟨vs, rfl, hl, hr⟩
theorem Rep.fn_inv {f : FuncId} {cs : List (PV Ty)} (h : Rep F ρ w (PV.fn f cs) v) : ∃ vs, v = .func (.func f) #[] (List.toArray vs) ∧ RepL F ρ w cs vs := by
  cases h
  rename_i vs hl hr
  exact ⟨vs, rfl, hl, hr⟩
theorem Rep.when_inv {g : Bool} {x : PV Ty} (h : Rep F ρ w (PV.when g x) v) : (g = true → Rep F ρ w x v) ∧ (g = false → v = Go.undef) := by
  cases h with
  | when _ _ _ h1 h2 => exact ⟨h1, h2⟩
/-- A slice whose elements never change again: its head, and each element's cells. -/
theorem Rep.sl_inv {τ : Ty} {xs : List (den τ)} (h : Rep F ρ w (PV.sl τ xs) v) : ∃ A c, v = .slice A xs.length c ∧ xs.length ≤ c ∧ ∃ g o, (xs ≠ [] → A = some ⟨g, o, none⟩ ∧ F g) ∧
    ∀ (i : Nat) (x : den τ), xs[i]? = some x → ∀ (j : Nat) (y : PV Ty), (cells τ x)[j]? = some y → ∃ u, w.cell? ⟨g, o + (i * width τ + j), none⟩ = some u ∧ Rep F ρ w y u := by
  cases h
  rename_i A c g o vs hA hc hr hcap
  exact ⟨A, c, rfl, hcap, g, o, hA, fun i x hx j y hy => ⟨vs i j, hc i x hx j y hy, hr i x hx j y hy⟩⟩
theorem Rep.sf_inv {τ : Ty} {xs : List (den τ)} (h : Rep F ρ w (PV.sf τ xs) v) : ∃ A, v = .slice A xs.length xs.length ∧ ∃ g o, (xs ≠ [] → A = some ⟨g, o, none⟩ ∧ F g) ∧
    ∀ (i : Nat) (x : den τ), xs[i]? = some x → ∀ (j : Nat) (y : PV Ty), (cells τ x)[j]? = some y → ∃ u, w.cell? ⟨g, o + (i * width τ + j), none⟩ = some u ∧ Rep F ρ w y u := by
  cases h
  rename_i A g o vs hA hc hr
  exact ⟨A, rfl, g, o, hA, fun i x hx j y hy => ⟨vs i j, hc i x hx j y hy, hr i x hx j y hy⟩⟩
theorem Rep.sl_mk {τ : Ty} {xs : List (den τ)} {A : Option Addr} {c g o : Nat} (hA : xs ≠ [] → A = some ⟨g, o, none⟩ ∧ F g)
    (hc : ∀ (i : Nat) (x : den τ), xs[i]? = some x → ∀ (j : Nat) (y : PV Ty), (cells τ x)[j]? = some y → ∃ u, w.cell? ⟨g, o + (i * width τ + j), none⟩ = some u ∧ Rep F ρ w y u) (hcap : xs.length ≤ c) : Rep F ρ w (PV.sl τ xs) (.slice A xs.length c) := by
  refine .sl τ xs A c g o (fun i j => (w.cell? ⟨g, o + (i * width τ + j), none⟩).getD Go.undef) hA (fun i x hx j y hy => ?_) (fun i x hx j y hy => ?_) hcap
  · obtain ⟨u, hu, hr⟩ := hc i x hx j y hy
    simp [hu]
  · obtain ⟨u, hu, hr⟩ := hc i x hx j y hy
    simpa [hu] using hr
theorem Rep.sf_mk {τ : Ty} {xs : List (den τ)} {A : Option Addr} {g o : Nat} (hA : xs ≠ [] → A = some ⟨g, o, none⟩ ∧ F g)
    (hc : ∀ (i : Nat) (x : den τ), xs[i]? = some x → ∀ (j : Nat) (y : PV Ty), (cells τ x)[j]? = some y → ∃ u, w.cell? ⟨g, o + (i * width τ + j), none⟩ = some u ∧ Rep F ρ w y u) : Rep F ρ w (PV.sf τ xs) (.slice A xs.length xs.length) := by
  refine .sf τ xs A g o (fun i j => (w.cell? ⟨g, o + (i * width τ + j), none⟩).getD Go.undef) hA (fun i x hx j y hy => ?_) (fun i x hx j y hy => ?_)
  · obtain ⟨u, hu, hr⟩ := hc i x hx j y hy
    simp [hu]
  · obtain ⟨u, hu, hr⟩ := hc i x hx j y hy
    simpa [hu] using hr
theorem Rep.sf_sl {τ : Ty} {xs : List (den τ)} (h : Rep F ρ w (PV.sf τ xs) v) : Rep F ρ w (PV.sl τ xs) v := by
  obtain ⟨A, rfl, g, o, hA, hc⟩ := h.sf_inv
  exact .sl_mk hA hc (Nat.le_refl _)
theorem Rep.rp_mk {cs : List (PV Ty)} {g o : Nat} (hF : F g) (hc : ∀ (j : Nat) (y : PV Ty), cs[j]? = some y → ∃ u, w.cell? ⟨g, o + j, none⟩ = some u ∧ Rep F ρ w y u) : Rep F ρ w (PV.rp cs) (.pointer (some ⟨g, o, none⟩)) := by
  refine .rp cs g o (fun j => (w.cell? ⟨g, o + j, none⟩).getD Go.undef) hF (fun j y hy => ?_) (fun j y hy => ?_)
  · obtain ⟨u, hu, hr⟩ := hc j y hy
    simp [hu]
  · obtain ⟨u, hu, hr⟩ := hc j y hy
    simpa [hu] using hr
end

/-- What is asked of a type: how many cells, how many bytes, is it a struct or an array, its zero cells. -/
def isA (P : Program) (t : TypeId) : Option Bool := (P.underlying t).map fun | .struct _ | .array _ _ => true | _ => false
structure TyOK (P : Program) (t size bytes : Nat) (agg : Bool) (zs : List Value) : Prop where
  ex : (P.info? t).map (fun i => (i.size, i.bytes, i.zero.map (·.cells.toList))) = some (size, bytes, some zs)
  agg : isA P t = some agg
  zl : zs.length = size

section
variable {P : Program} {t size bytes : Nat} {ag : Bool} {zs : List Value}
theorem TyOK.info (h : TyOK P t size bytes ag zs) : ∃ i z, P.info? t = some i ∧ i.size = size ∧ i.bytes = bytes ∧ i.zero = some z ∧ z.cells.toList = zs := by
  obtain ⟨i, hi, he⟩ := Option.map_eq_some_iff.1 h.ex
  simp only [Prod.mk.injEq] at he
  obtain ⟨h1, h2, h3⟩ := he
  obtain ⟨z, hz, hzz⟩ := Option.map_eq_some_iff.1 h3
  exact ⟨i, z, hi, h1, h2, hz, hzz⟩
theorem TyOK.run_isAgg (h : TyOK P t size bytes ag zs) (w : World) : (isAgg t).run P w = .ok ag w := by
  have ha := h.agg
  unfold isA at ha
  obtain ⟨d, hd, he⟩ := Option.map_eq_some_iff.1 ha
  simp only [isAgg, Sem.run_bind, run_underlying hd, Result.andThen_ok]
  cases d <;> simp_all
theorem TyOK.run_sizeOf (h : TyOK P t size bytes ag zs) (w : World) : (sizeOf t).run P w = .ok size w := by
  obtain ⟨i, z, hi, h1, _⟩ := h.info
  simp [sizeOf, typeInfo, hi, h1]
theorem TyOK.run_zero (h : TyOK P t size bytes ag zs) (w : World) : ∃ z, (zeroValue t).run P w = .ok z w ∧ z.cells.toList = zs := by
  obtain ⟨i, z, hi, _, _, hz, hzz⟩ := h.info
  exact ⟨z, by simp [zeroValue, typeInfo, hi, hz], hzz⟩
end

theorem Rep.one {F : Nat → Prop} {ρ : Rho} {w : World} {x : PV Ty} {v : Value} (h : Rep F ρ w x v) (ho : x.one = true) : v.oneCell' = true := by
  cases h <;> simp [PV.one] at ho <;> simp [Value.oneCell']
theorem Rep.cells_one {F : Nat → Prop} {ρ : Rho} {w : World} {x : PV Ty} {v : Value} (h : Rep F ρ w x v) (ho : x.one = true) : v.cells.toList = [v] := by
  cases h <;> simp [PV.one] at ho <;> simp [Value.cells]

section
variable {P : Program} {C : Ctx Ty} {o : Oper} {Γ : Env Ty} {σ : Hp Ty}
variable (hd : ∀ d, o.dst = some d → d < C.nt)
include hd

/-! ### Whole numbers -/
theorem ok_int {op : BinOp} {a b : Operand} {t t' : TypeId} {k : IntKind} {m n : Int} {x : PV Ty} (ho : o.op = .binOp op t a b t') (ha : opd C.glob Γ a = some (.int k m)) (hb : opd C.glob Γ b = some (.int k n))
    (h : ∀ (F : Nat → Prop) (ρ : Rho) (w : World), ∃ v, (do eqGuard op t a b (.int k m) (.int k n); binOp op t (.int k m) (.int k n) : Sem Value).run P w = .ok v w ∧ Rep F ρ w x v) : Sound P C o Γ σ x σ :=
  .of_value hd fun F ρ ac w R => by
    obtain ⟨v, hv, hx⟩ := h F ρ w
    refine ⟨v, ?_, hx⟩
    have e1 := (R.opd ha).int_inv
    have e2 := (R.opd hb).int_inv
    simp only [execOp, ho, e1, e2]
    simp only [Sem.run_bind] at hv ⊢
    rw [hv]
    rfl
theorem ok_add {a b : Operand} {t t' : TypeId} {k : IntKind} {m n : Int} (ho : o.op = .binOp .add t a b t') (ha : opd C.glob Γ a = some (.int k m)) (hb : opd C.glob Γ b = some (.int k n)) : Sound P C o Γ σ (.int k (k.wrap (m + n))) σ :=
  ok_int hd ho ha hb fun F ρ w => ⟨_, by simp [eqGuard, binOp, Op.intArith], .int _ _⟩
theorem ok_sub {a b : Operand} {t t' : TypeId} {k : IntKind} {m n : Int} (ho : o.op = .binOp .sub t a b t') (ha : opd C.glob Γ a = some (.int k m)) (hb : opd C.glob Γ b = some (.int k n)) : Sound P C o Γ σ (.int k (k.wrap (m - n))) σ :=
  ok_int hd ho ha hb fun F ρ w => ⟨_, by simp [eqGuard, binOp, Op.intArith], .int _ _⟩
theorem ok_mul {a b : Operand} {t t' : TypeId} {k : IntKind} {m n : Int} (ho : o.op = .binOp .mul t a b t') (ha : opd C.glob Γ a = some (.int k m)) (hb : opd C.glob Γ b = some (.int k n)) : Sound P C o Γ σ (.int k (k.wrap (m * n))) σ :=
  ok_int hd ho ha hb fun F ρ w => ⟨_, by simp [eqGuard, binOp, Op.intArith], .int _ _⟩
theorem ok_quo {a b : Operand} {t t' : TypeId} {k : IntKind} {m n : Int} (ho : o.op = .binOp .quo t a b t') (ha : opd C.glob Γ a = some (.int k m)) (hb : opd C.glob Γ b = some (.int k n)) (h0 : ¬ n = 0) : Sound P C o Γ σ (.int k (k.wrap (m.tdiv n))) σ :=
  ok_int hd ho ha hb fun F ρ w => ⟨_, by simp [eqGuard, binOp, Op.intDiv, h0], .int _ _⟩
theorem ok_rem {a b : Operand} {t t' : TypeId} {k : IntKind} {m n : Int} (ho : o.op = .binOp .rem t a b t') (ha : opd C.glob Γ a = some (.int k m)) (hb : opd C.glob Γ b = some (.int k n)) (h0 : ¬ n = 0) : Sound P C o Γ σ (.int k (m.tmod n)) σ :=
  ok_int hd ho ha hb fun F ρ w => ⟨_, by simp [eqGuard, binOp, Op.intDiv, h0], .int _ _⟩
omit hd in
/-- Bit by bit. -/
def bitsOf (op : BinOp) (k : IntKind) (x y : Int) : Int :=
  let a := BitVec.ofInt k.bits x
  let b := BitVec.ofInt k.bits y
  match op with
  | .and => k.wrap (a &&& b).toNat
  | .or => k.wrap (a ||| b).toNat
  | .xor => k.wrap (a ^^^ b).toNat
  | _ => k.wrap (a &&& ~~~b).toNat
theorem ok_eql {a b : Operand} {t t' : TypeId} {k : IntKind} {m n : Int} (ho : o.op = .binOp .eql t a b t') (ha : opd C.glob Γ a = some (.int k m)) (hb : opd C.glob Γ b = some (.int k n)) : Sound P C o Γ σ (.bool (m == n)) σ :=
  ok_int hd ho ha hb fun F ρ w => ⟨_, by simp [eqGuard, binOp, Op.intCmp], .bool _⟩
theorem ok_neq {a b : Operand} {t t' : TypeId} {k : IntKind} {m n : Int} (ho : o.op = .binOp .neq t a b t') (ha : opd C.glob Γ a = some (.int k m)) (hb : opd C.glob Γ b = some (.int k n)) : Sound P C o Γ σ (.bool (m != n)) σ :=
  ok_int hd ho ha hb fun F ρ w => ⟨_, by simp [eqGuard, binOp, Op.intCmp], .bool _⟩
theorem ok_lss {a b : Operand} {t t' : TypeId} {k : IntKind} {m n : Int} (ho : o.op = .binOp .lss t a b t') (ha : opd C.glob Γ a = some (.int k m)) (hb : opd C.glob Γ b = some (.int k n)) : Sound P C o Γ σ (.bool (decide (m < n))) σ :=
  ok_int hd ho ha hb fun F ρ w => ⟨_, by simp [eqGuard, binOp, Op.intCmp], .bool _⟩
theorem ok_leq {a b : Operand} {t t' : TypeId} {k : IntKind} {m n : Int} (ho : o.op = .binOp .leq t a b t') (ha : opd C.glob Γ a = some (.int k m)) (hb : opd C.glob Γ b = some (.int k n)) : Sound P C o Γ σ (.bool (decide (m ≤ n))) σ :=
  ok_int hd ho ha hb fun F ρ w => ⟨_, by simp [eqGuard, binOp, Op.intCmp], .bool _⟩
theorem ok_gtr {a b : Operand} {t t' : TypeId} {k : IntKind} {m n : Int} (ho : o.op = .binOp .gtr t a b t') (ha : opd C.glob Γ a = some (.int k m)) (hb : opd C.glob Γ b = some (.int k n)) : Sound P C o Γ σ (.bool (decide (n < m))) σ :=
  ok_int hd ho ha hb fun F ρ w => ⟨_, by simp [eqGuard, binOp, Op.intCmp], .bool _⟩
theorem ok_geq {a b : Operand} {t t' : TypeId} {k : IntKind} {m n : Int} (ho : o.op = .binOp .geq t a b t') (ha : opd C.glob Γ a = some (.int k m)) (hb : opd C.glob Γ b = some (.int k n)) : Sound P C o Γ σ (.bool (decide (n ≤ m))) σ :=
  ok_int hd ho ha hb fun F ρ w => ⟨_, by simp [eqGuard, binOp, Op.intCmp], .bool _⟩
end
end Go.Rf
end
section
/- More operations: truth values, texts, picks, conversions, tuples, structs; addresses and loads. -/
set_option linter.unusedVariables false
set_option linter.unusedSimpArgs false
set_option linter.unusedSectionVars false
namespace Go.Rf
open Go GU GC
variable {Ty : Type} [GU Ty] [GC Ty]

theorem toList_mk (s : List UInt8) : (⟨s.toArray⟩ : ByteArray).toList = s := by rw [ByteArray.toList_eq]

section
variable {P : Program} {C : Ctx Ty} {o : Oper} {Γ : Env Ty} {σ : Hp Ty}
variable (hd : ∀ d, o.dst = some d → d < C.nt)
include hd

/-! ### Truth values -/
theorem ok_not {t : TypeId} {a : Operand} {b : Bool} (ho : o.op = .unOp .not t a) (ha : opd C.glob Γ a = some (.bool b)) : Sound P C o Γ σ (.bool (!b)) σ :=
  .of_value hd fun F ρ ac w R => ⟨.bool (!b), by simp [execOp, ho, (R.opd ha).bool_inv, Op.unary], .bool _⟩
theorem ok_neg {t : TypeId} {a : Operand} {k : IntKind} {n : Int} (ho : o.op = .unOp .neg t a) (ha : opd C.glob Γ a = some (.int k n)) : Sound P C o Γ σ (.int k (k.wrap (0 - n))) σ :=
  .of_value hd fun F ρ ac w R => ⟨.int k (k.wrap (0 - n)), by simp [execOp, ho, (R.opd ha).int_inv, Op.unary, Op.intArith], .int _ _⟩
/-! ### Texts -/
theorem ok_cat {a b : Operand} {t t' : TypeId} {m n : List UInt8} (ho : o.op = .binOp .add t a b t') (ha : opd C.glob Γ a = some (.str m)) (hb : opd C.glob Γ b = some (.str n)) (hl : m.length + n.length ≤ 9223372036854775807) : Sound P C o Γ σ (.str (m ++ n)) σ :=
  .of_value hd fun F ρ ac w R => ⟨.string (⟨m.toArray⟩ ++ ⟨n.toArray⟩), by
      rw [execOp]
      simp only [ho, (R.opd ha).str_inv, (R.opd hb).str_inv, eqGuard, binOp]
      have := run_string_add_sum (P := P) w ⟨m.toArray⟩ ⟨n.toArray⟩ (by simpa [ByteArray.size] using hl)
      simp [this], by
      have e : (⟨m.toArray⟩ ++ ⟨n.toArray⟩ : ByteArray) = ⟨(m ++ n).toArray⟩ := by
        apply ByteArray.ext
        simp
      rw [e]
      exact .str _⟩
theorem ok_eqlS {a b : Operand} {t t' : TypeId} {m n : List UInt8} (ho : o.op = .binOp .eql t a b t') (ha : opd C.glob Γ a = some (.str m)) (hb : opd C.glob Γ b = some (.str n)) : Sound P C o Γ σ (.bool (m == n)) σ :=
  .of_value hd fun F ρ ac w R => ⟨.bool (m == n), by simp [execOp, ho, (R.opd ha).str_inv, (R.opd hb).str_inv, eqGuard, binOp, Op.stringOp, toList_mk], .bool _⟩
theorem ok_neqS {a b : Operand} {t t' : TypeId} {m n : List UInt8} (ho : o.op = .binOp .neq t a b t') (ha : opd C.glob Γ a = some (.str m)) (hb : opd C.glob Γ b = some (.str n)) : Sound P C o Γ σ (.bool (m != n)) σ :=
  .of_value hd fun F ρ ac w R => ⟨.bool (m != n), by simp [execOp, ho, (R.opd ha).str_inv, (R.opd hb).str_inv, eqGuard, binOp, Op.stringOp, toList_mk, bne], .bool _⟩
/-! ### Picks -/
theorem ok_pick {c a b : Operand} {g : Bool} {x : PV Ty} (ho : o.op = .pick c a b) (hc : opd C.glob Γ c = some (.bool g))
    (h : ∀ F ρ ac w, Rel C F ρ Γ σ ac w → Rep F ρ w x (if g then ac.eval a else ac.eval b)) : Sound P C o Γ σ x σ :=
  .of_value hd fun F ρ ac w R => ⟨if g then ac.eval a else ac.eval b, by
    cases g <;> simp [execOp, ho, (R.opd hc).bool_inv, asBool], h F ρ ac w R⟩
/-! ### Conversions -/
theorem ok_conv {s d : TypeId} {a : Operand} {k k' : IntKind} {n : Int} {ud : TypeDesc} (ho : o.op = .convert s d a) (hs : P.underlying s = some ud) (hdt : P.underlying d = some (.int k')) (ha : opd C.glob Γ a = some (.int k n)) : Sound P C o Γ σ (.int k' (k'.wrap n)) σ :=
  .of_value hd fun F ρ ac w R => ⟨.int k' (k'.wrap n), by simp [execOp, ho, (R.opd ha).int_inv, convert, run_underlying hs, run_underlying hdt, Conv.intToInt], .int _ _⟩
/-! ### Tuples, structs, arrays by value -/
theorem ok_extract {a : Operand} {i : Nat} {xs : List (PV Ty)} {x : PV Ty} (ho : o.op = .extract a i) (ha : opd C.glob Γ a = some (.tup xs)) (hx : xs[i]? = some x) : Sound P C o Γ σ x σ :=
  .of_value hd fun F ρ ac w R => by
    obtain ⟨vs, hv, hr⟩ := (R.opd ha).tup_inv
    have hi : i < vs.length := by
      rw [hr.1]
      exact (List.getElem?_eq_some_iff.1 hx).1
    exact ⟨vs[i], by simp [execOp, ho, hv, Instr.extract, hi], hr.2 i x _ hx (List.getElem?_eq_getElem hi)⟩

/-! ### Addresses -/
omit hd in
theorem add_mk (g o n : Nat) : (⟨g, o, none⟩ : Addr).add n = ⟨g, o + n, none⟩ := by
  unfold Addr.add
  split <;> simp_all
omit hd in
/-- A struct's field: where it begins. -/
def fieldOf (P : Program) (s f : Nat) : Option (Nat × TypeId) := match P.underlying s with
  | some (.struct fs) => (fs[f]?).map fun x => (x.offset, x.type)
  | _ => none
theorem ok_fieldAddr {s f off size bytes : Nat} {ag : Bool} {zs : List Value} {ft : TypeId} {a : Operand} {x : PV Ty} (ho : o.op = .fieldAddr s a f) (hf : fieldOf P s f = some (off, ft)) (ht : TyOK P ft size bytes ag zs) (h0 : size ≠ 0)
    (h : ∀ F ρ ac w, Rel C F ρ Γ σ ac w → ∃ g k, ac.eval a = .pointer (some ⟨g, k, none⟩) ∧ Rep F ρ w x (.pointer (some ⟨g, k + off, none⟩))) : Sound P C o Γ σ x σ :=
  .of_value hd fun F ρ ac w R => by
    obtain ⟨g, k, hv, hx⟩ := h F ρ ac w R
    refine ⟨_, ?_, hx⟩
    unfold fieldOf at hf
    split at hf
    · rename_i fs hu
      obtain ⟨fd, hfd, he⟩ := Option.map_eq_some_iff.1 hf
      simp only [Prod.mk.injEq] at he
      obtain ⟨rfl, rfl⟩ := he
      simp [execOp, ho, hv, Instr.fieldAt, run_underlying hu, hfd, Instr.sureAddr, fieldPlace, ht.run_sizeOf, h0, add_mk]
    · simp at hf
/-- Of a struct that never changes. -/
theorem ok_fieldR {s f off size bytes : Nat} {ag : Bool} {zs : List Value} {ft : TypeId} {a : Operand} {cs : List (PV Ty)} (ho : o.op = .fieldAddr s a f) (hf : fieldOf P s f = some (off, ft)) (ht : TyOK P ft size bytes ag zs) (h0 : size ≠ 0)
    (ha : opd C.glob Γ a = some (.rp cs)) : Sound P C o Γ σ (.rp (cs.drop off)) σ :=
  ok_fieldAddr hd ho hf ht h0 fun F ρ ac w R => by
    obtain ⟨g, k, hv, hF, hc⟩ := (R.opd ha).rp_inv
    exact ⟨g, k, hv, .rp_mk hF fun j y hy => by
      rw [List.getElem?_drop] at hy
      simpa [Nat.add_assoc] using hc _ y hy⟩
/-- Of a variable. -/
theorem ok_fieldV {s f off size bytes : Nat} {ag : Bool} {zs : List Value} {ft : TypeId} {a : Operand} {r k : Nat} (ho : o.op = .fieldAddr s a f) (hf : fieldOf P s f = some (off, ft)) (ht : TyOK P ft size bytes ag zs) (h0 : size ≠ 0)
    (ha : opd C.glob Γ a = some (.ref r k)) : Sound P C o Γ σ (.ref r (k + off)) σ :=
  ok_fieldAddr hd ho hf ht h0 fun F ρ ac w R => by
    obtain ⟨g, c, hρ, hv⟩ := (R.opd ha).ref_inv
    exact ⟨g, c.1 + k, hv, by have := Rep.ref (Ty := Ty) (F := F) (w := w) r (k + off) g c hρ; simpa [Nat.add_assoc] using this⟩

/-! ### Elements -/
theorem ok_indexS {t e size bytes : Nat} {ag : Bool} {zs : List Value} {a b : Operand} {k : IntKind} {i : Int} {τ : Ty} {xs : List (den τ)} {x : den τ} (ho : o.op = .indexAddr t a b) (ht : P.underlying t = some (.slice e)) (he : TyOK P e size bytes ag zs) (hw : size = width τ)
    (ha : opd C.glob Γ a = some (.sl τ xs)) (hb : opd C.glob Γ b = some (.int k i)) (h0 : 0 ≤ i) (hx : xs[i.toNat]? = some x) : Sound P C o Γ σ (.rp (cells τ x)) σ :=
  .of_value hd fun F ρ ac w R => by
    obtain ⟨A, c, hv, hcap, g, q, hA, hc⟩ := (R.opd ha).sl_inv
    have hlt : i.toNat < xs.length := (List.getElem?_eq_some_iff.1 hx).1
    obtain ⟨rfl, hF⟩ := hA (by rintro rfl; simp at hx)
    refine ⟨.pointer (some ⟨g, q + i.toNat * width τ, none⟩), ?_, .rp_mk hF fun j y hy => by simpa [Nat.add_assoc] using hc _ x hx j y hy⟩
    have hi : i < (xs.length : Int) := by omega
    simp [execOp, ho, hv, (R.opd hb).int_inv, Instr.indexAt, asIntOf, run_underlying ht, h0, hi, he.run_sizeOf, add_mk, hw]
theorem ok_indexF {t e size bytes : Nat} {ag : Bool} {zs : List Value} {a b : Operand} {k : IntKind} {i : Int} {τ : Ty} {xs : List (den τ)} {x : den τ} (ho : o.op = .indexAddr t a b) (ht : P.underlying t = some (.slice e)) (he : TyOK P e size bytes ag zs) (hw : size = width τ)
    (ha : opd C.glob Γ a = some (.sf τ xs)) (hb : opd C.glob Γ b = some (.int k i)) (h0 : 0 ≤ i) (hx : xs[i.toNat]? = some x) : Sound P C o Γ σ (.rp (cells τ x)) σ :=
  .of_value hd fun F ρ ac w R => by
    obtain ⟨A, hv, g, q, hA, hc⟩ := (R.opd ha).sf_inv
    have hlt : i.toNat < xs.length := (List.getElem?_eq_some_iff.1 hx).1
    obtain ⟨rfl, hF⟩ := hA (by rintro rfl; simp at hx)
    refine ⟨.pointer (some ⟨g, q + i.toNat * width τ, none⟩), ?_, .rp_mk hF fun j y hy => by simpa [Nat.add_assoc] using hc _ x hx j y hy⟩
    have hi : i < (xs.length : Int) := by omega
    simp [execOp, ho, hv, (R.opd hb).int_inv, Instr.indexAt, asIntOf, run_underlying ht, h0, hi, he.run_sizeOf, add_mk, hw]
omit hd in
theorem Rep.mf_inv {F : Nat → Prop} {ρ : Rho} {w : World} {v : Value} {wd r : Nat} (h : Rep F ρ w (PV.mf (Ty := Ty) wd r) v) : (ρ r = none ∧ v = .slice none 0 0) ∨ ∃ g c, ρ r = some (g, c) ∧ v = .slice (some ⟨g, 0, none⟩) c.2 c.1 := by
  cases h
  · exact .inl ⟨by assumption, rfl⟩
  · exact .inr ⟨_, _, by assumption, rfl⟩
/-- A text's byte. -/
theorem ok_byte {t : TypeId} {a b : Operand} {k : IntKind} {i : Int} {s : List UInt8} {c : UInt8} (ho : o.op = .index t a b) (ht : P.underlying t = some .string) (ha : opd C.glob Γ a = some (.str s)) (hb : opd C.glob Γ b = some (.int k i)) (h0 : 0 ≤ i) (hx : s[i.toNat]? = some c) :
    Sound P C o Γ σ (.int .u8 c.toNat) σ :=
  .of_value hd fun F ρ ac w R => by
    refine ⟨.int .u8 c.toNat, ?_, .int _ _⟩
    have hlt : i.toNat < s.length := (List.getElem?_eq_some_iff.1 hx).1
    have hg : (⟨s.toArray⟩ : ByteArray)[i.toNat]? = some c := by
      have : (⟨s.toArray⟩ : ByteArray)[i.toNat]? = s.toArray[i.toNat]? := rfl
      rw [this]
      simpa using hx
    simp [execOp, ho, (R.opd ha).str_inv, (R.opd hb).int_inv, Instr.index, asIntOf, run_underlying ht, h0, hg]
/-! ### Lengths -/
theorem ok_len {t : TypeId} {a : Operand} {n : Nat} {x : PV Ty} {e : TypeId} (ho : o.op = .call { callee := .builtin .len, args := #[a], argTypes := #[t] }) (ht : P.underlying t = some (.slice e)) (ha : opd C.glob Γ a = some x)
    (h : ∀ F ρ w v, Rep F ρ w x v → ∃ A c, v = .slice A n c) : Sound P C o Γ σ (.int .i64 n) σ :=
  .of_value hd fun F ρ ac w R => by
    obtain ⟨A, c, hv⟩ := h _ _ _ _ (R.opd ha)
    exact ⟨.int .i64 n, by simp [execOp, ho, resolve, invoke, builtin, hv, Builtin.len_, run_underlying ht, goInt], .int _ _⟩
theorem ok_lenS {t : TypeId} {a : Operand} {τ : Ty} {xs : List (den τ)} {e : TypeId} (ho : o.op = .call { callee := .builtin .len, args := #[a], argTypes := #[t] }) (ht : P.underlying t = some (.slice e)) (ha : opd C.glob Γ a = some (.sl τ xs)) : Sound P C o Γ σ (.int .i64 xs.length) σ :=
  ok_len hd ho ht ha fun F ρ w v h => by obtain ⟨A, c, hv, _⟩ := h.sl_inv; exact ⟨A, c, hv⟩
theorem ok_lenF {t : TypeId} {a : Operand} {τ : Ty} {xs : List (den τ)} {e : TypeId} (ho : o.op = .call { callee := .builtin .len, args := #[a], argTypes := #[t] }) (ht : P.underlying t = some (.slice e)) (ha : opd C.glob Γ a = some (.sf τ xs)) : Sound P C o Γ σ (.int .i64 xs.length) σ :=
  ok_len hd ho ht ha fun F ρ w v h => by obtain ⟨A, hv, _⟩ := h.sf_inv; exact ⟨A, _, hv⟩
theorem ok_lenT {t : TypeId} {a : Operand} {s : List UInt8} (ho : o.op = .call { callee := .builtin .len, args := #[a], argTypes := #[t] }) (ht : P.underlying t = some .string) (ha : opd C.glob Γ a = some (.str s)) : Sound P C o Γ σ (.int .i64 s.length) σ :=
  .of_value hd fun F ρ ac w R => ⟨.int .i64 s.length, by
    have hs : (⟨s.toArray⟩ : ByteArray).size = s.length := by show s.toArray.size = _; simp
    simp [execOp, ho, resolve, invoke, builtin, (R.opd ha).str_inv, Builtin.len_, run_underlying ht, goInt, hs], .int _ _⟩
theorem ok_nilCheck {a : Operand} {x : PV Ty} (ho : o.op = .nilCheck a) (ha : opd C.glob Γ a = some x) (hp : ∀ F ρ w v, Rep F ρ w x v → ∃ q, v = .pointer (some q)) : Sound P C o Γ σ x σ :=
  .of_value hd fun F ρ ac w R => by
    obtain ⟨q, hv⟩ := hp _ _ _ _ (R.opd ha)
    exact ⟨ac.eval a, by simp [execOp, ho, hv], R.opd ha⟩
theorem ok_nilCheckV {a : Operand} {r k : Nat} (ho : o.op = .nilCheck a) (ha : opd C.glob Γ a = some (.ref r k)) : Sound P C o Γ σ (.ref r k) σ :=
  ok_nilCheck hd ho ha fun F ρ w v h => by obtain ⟨g, c, _, hv⟩ := h.ref_inv; exact ⟨_, hv⟩
end
end Go.Rf
end
section
/- Loads; stores; new variables; structs and slices built by value; slices of slices. -/
set_option linter.unusedVariables false
set_option linter.unusedSimpArgs false
set_option linter.unusedSectionVars false
namespace Go.Rf
open Go GU GC
variable {Ty : Type} [GU Ty] [GC Ty]

theorem run_loadVar1 {P : Program} {t bytes : Nat} {zs : List Value} (ht : TyOK P t 1 bytes false zs) {w : World} {g o : Nat} {v : Value} (h : w.cell? ⟨g, o, none⟩ = some v) : (loadVar t ⟨g, o, none⟩).run P w = .ok v w := by
  simp [loadVar, ht.run_isAgg, h, Result.andThen]
theorem run_loadVarA {P : Program} {t size bytes : Nat} {zs : List Value} (ht : TyOK P t size bytes true zs) {w : World} {g o : Nat} {vs : List Value} (hl : vs.length = size) (h : ∀ (j : Nat) (v : Value), vs[j]? = some v → w.cell? ⟨g, o + j, none⟩ = some v) : (loadVar t ⟨g, o, none⟩).run P w = .ok (.agg vs.toArray) w := by
  have := run_loadCells_list (P := P) w ⟨g, o, none⟩ vs (fun j v hv => by rw [add_mk]; exact h j v hv)
  subst hl
  simp [loadVar, ht.run_isAgg, ht.run_sizeOf, this]

/-- The values of cells that are known one by one. -/
theorem cellsOf {F : Nat → Prop} {ρ : Rho} {w : World} {g : Nat} : ∀ (cs : List (PV Ty)) (o : Nat), (∀ (j : Nat) (y : PV Ty), cs[j]? = some y → ∃ u, w.cell? ⟨g, o + j, none⟩ = some u ∧ Rep F ρ w y u) →
    ∃ vs, RepL F ρ w cs vs ∧ ∀ (j : Nat) (v : Value), vs[j]? = some v → w.cell? ⟨g, o + j, none⟩ = some v
  | [], o, _ => ⟨[], .nil, fun j v h => by simp at h⟩
  | c :: cs, o, h => by
    obtain ⟨u, hu, hr⟩ := h 0 c rfl
    obtain ⟨vs, hvs, hc⟩ := cellsOf (F := F) (ρ := ρ) (w := w) (g := g) cs (o + 1) (fun j y hy => by
      have := h (j + 1) y (by simpa using hy)
      rwa [show o + (j + 1) = o + 1 + j by omega] at this)
    refine ⟨u :: vs, .cons hr hvs, fun j v hv => ?_⟩
    cases j with
    | zero =>
      simp at hv
      subst hv
      simpa using hu
    | succ j =>
      have := hc j v (by simpa using hv)
      rwa [show o + (j + 1) = o + 1 + j by omega]

section
variable {P : Program} {C : Ctx Ty} {o : Oper} {Γ : Env Ty} {σ : Hp Ty}
variable (hd : ∀ d, o.dst = some d → d < C.nt)
include hd

omit hd in
theorem Rel.cellsV {F : Nat → Prop} {ρ : Rho} {ac : Act} {w : World} (R : Rel C F ρ Γ σ ac w) {r g : Nat} {c : Nat × Nat} {t : TypeId} {cs : List (PV Ty)} (hσ : lookH σ r = some (.cells t cs)) (hρ : ρ r = some (g, c)) :
    ∃ cur e, w.heap[g]? = some (.cells cur e (0, 0)) ∧ c.2 = cs.length ∧ c.1 + c.2 ≤ cur.size ∧ RepL F ρ w cs ((cur.toList.drop c.1).take c.2) ∧ ∀ (j : Nat) (y : PV Ty), cs[j]? = some y → ∃ u, w.cell? ⟨g, c.1 + j, none⟩ = some u ∧ Rep F ρ w y u := by
  have hb := R.box r
  rw [Hp.at_of hσ] at hb
  obtain ⟨g', c', cur, e, hρ', hh, hl, hs, hr⟩ := hb
  rw [hρ] at hρ'
  simp at hρ'
  obtain ⟨rfl, rfl⟩ := hρ'
  refine ⟨cur, e, hh, hl, hs, hr, fun j y hy => ?_⟩
  have hj : j < cs.length := (List.getElem?_eq_some_iff.1 hy).1
  have hv : ((cur.toList.drop c.1).take c.2)[j]? = some (cur[c.1 + j]'(by omega)) := by
    rw [List.getElem?_take, if_pos (by omega), List.getElem?_drop]
    simp [show c.1 + j < cur.size by omega]
  refine ⟨cur[c.1 + j]'(by omega), ?_, hr.2 j y _ hy hv⟩
  rw [cell_of_row w g _ cur e (0, 0) hh]
  simp [show c.1 + j < cur.size by omega]
omit hd in
theorem Rel.cellsE {F : Nat → Prop} {ρ : Rho} {ac : Act} {w : World} (R : Rel C F ρ Γ σ ac w) {r g : Nat} {c : Nat × Nat} {e : TypeId} {τ : Ty} {xs : List (den τ)} (hσ : lookH σ r = some (.arr e τ xs)) (hρ : ρ r = some (g, c)) :
    ∃ cur, w.heap[g]? = some (.cells cur e (0, 0)) ∧ cur.size = c.1 * width τ ∧ xs.length ≤ c.1 ∧ c.1 ≤ maxLen ∧ c.2 = xs.length ∧ RepL F ρ w (flat τ xs) (cur.toList.take (xs.length * width τ)) ∧
      ∀ (i : Nat) (x : den τ), xs[i]? = some x → ∀ (j : Nat) (y : PV Ty), (cells τ x)[j]? = some y → ∃ u, w.cell? ⟨g, i * width τ + j, none⟩ = some u ∧ Rep F ρ w y u := by
  have hb := R.box r
  rw [Hp.at_of hσ] at hb
  rcases hb with ⟨h, _⟩ | ⟨g', c', cur, hρ', hh, hs, hl, hm, hcl, hr⟩
  · rw [hρ] at h
    simp at h
  · rw [hρ] at hρ'
    simp at hρ'
    obtain ⟨rfl, rfl⟩ := hρ'
    refine ⟨cur, hh, hs, hl, hm, hcl, hr, fun i x hx j y hy => ?_⟩
    have hj : j < width τ := by rw [← cells_length τ x]; exact (List.getElem?_eq_some_iff.1 hy).1
    have hi : i < xs.length := (List.getElem?_eq_some_iff.1 hx).1
    have hf := flat_at τ xs i x hx j hj
    rw [hy] at hf
    have hlt : i * width τ + j < xs.length * width τ := by
      have : (i + 1) * width τ ≤ xs.length * width τ := Nat.mul_le_mul_right _ hi
      rw [Nat.succ_mul] at this
      omega
    have hcs : xs.length * width τ ≤ cur.size := by rw [hs]; exact Nat.mul_le_mul_right _ hl
    have hv : (cur.toList.take (xs.length * width τ))[i * width τ + j]? = some (cur[i * width τ + j]'(by omega)) := by
      rw [List.getElem?_take, if_pos hlt]
      simp [show i * width τ + j < cur.size by omega]
    refine ⟨_, ?_, hr.2 _ y _ hf hv⟩
    rw [cell_of_row w g _ cur e (0, 0) hh]
    simp [show i * width τ + j < cur.size by omega]

/-! ### Loads -/
theorem ok_loadR {t bytes : Nat} {zs : List Value} {a : Operand} {cs : List (PV Ty)} {x : PV Ty} (ho : o.op = .load t a) (ht : TyOK P t 1 bytes false zs) (ha : opd C.glob Γ a = some (.rp cs)) (hx : cs[0]? = some x) : Sound P C o Γ σ x σ :=
  .of_value hd fun F ρ ac w R => by
    obtain ⟨g, k, hv, hF, hc⟩ := (R.opd ha).rp_inv
    obtain ⟨u, hu, hr⟩ := hc 0 x hx
    exact ⟨u, by simp [execOp, ho, hv, Instr.loadAt, Instr.sureAddr, run_loadVar1 ht (by simpa using hu)], hr⟩
theorem ok_loadRP {t size bytes : Nat} {zs : List Value} {a : Operand} {cs : List (PV Ty)} (ho : o.op = .load t a) (ht : TyOK P t size bytes true zs) (ha : opd C.glob Γ a = some (.rp cs)) (hl : size ≤ cs.length) : Sound P C o Γ σ (.agg (cs.take size)) σ :=
  .of_value hd fun F ρ ac w R => by
    obtain ⟨g, k, hv, hF, hc⟩ := (R.opd ha).rp_inv
    obtain ⟨vs, hvs, hcs⟩ := cellsOf (cs.take size) k (fun j y hy => hc j y (by
      rw [List.getElem?_take] at hy
      split at hy
      · exact hy
      · simp at hy))
    exact ⟨_, by simp [execOp, ho, hv, Instr.loadAt, Instr.sureAddr, run_loadVarA ht (by rw [hvs.1]; simp [hl]) hcs], hvs.agg⟩
theorem ok_loadV {t bytes : Nat} {zs : List Value} {a : Operand} {r k : Nat} {bt : TypeId} {cs : List (PV Ty)} {x : PV Ty} (ho : o.op = .load t a) (ht : TyOK P t 1 bytes false zs) (ha : opd C.glob Γ a = some (.ref r k)) (hσ : lookH σ r = some (.cells bt cs)) (hx : cs[k]? = some x) : Sound P C o Γ σ x σ :=
  .of_value hd fun F ρ ac w R => by
    obtain ⟨g, c, hρ, hv⟩ := (R.opd ha).ref_inv
    obtain ⟨_, _, _, _, _, _, hc⟩ := R.cellsV hσ hρ
    obtain ⟨u, hu, hr⟩ := hc k x hx
    exact ⟨u, by simp [execOp, ho, hv, Instr.loadAt, Instr.sureAddr, run_loadVar1 ht hu], hr⟩
theorem ok_loadVP {t size bytes : Nat} {zs : List Value} {a : Operand} {r k : Nat} {bt : TypeId} {cs : List (PV Ty)} (ho : o.op = .load t a) (ht : TyOK P t size bytes true zs) (ha : opd C.glob Γ a = some (.ref r k)) (hσ : lookH σ r = some (.cells bt cs)) (hl : k + size ≤ cs.length) : Sound P C o Γ σ (.agg ((cs.drop k).take size)) σ :=
  .of_value hd fun F ρ ac w R => by
    obtain ⟨g, c, hρ, hv⟩ := (R.opd ha).ref_inv
    obtain ⟨_, _, _, _, _, _, hc⟩ := R.cellsV hσ hρ
    obtain ⟨vs, hvs, hcs⟩ := cellsOf ((cs.drop k).take size) (c.1 + k) (fun j y hy => by
      rw [Nat.add_assoc]
      exact hc (k + j) y (by
        rw [List.getElem?_take] at hy
        split at hy
        · simpa using hy
        · simp at hy))
    exact ⟨_, by simp [execOp, ho, hv, Instr.loadAt, Instr.sureAddr, run_loadVarA ht (by rw [hvs.1]; simp; omega) hcs], hvs.agg⟩
theorem ok_loadEA {t size bytes : Nat} {zs : List Value} {a : Operand} {τ : Ty} {r i : Nat} {e : TypeId} {xs : List (den τ)} {x : den τ} (ho : o.op = .load t a) (ht : TyOK P t size bytes true zs) (ha : opd C.glob Γ a = some (.ar (width τ) r i 0)) (hσ : lookH σ r = some (.arr e τ xs)) (hx : xs[i]? = some x) (hw : size = width τ) : Sound P C o Γ σ (.agg (cells τ x)) σ :=
  .of_value hd fun F ρ ac w R => by
    obtain ⟨g, c, hρ, hv⟩ := (R.opd ha).ar_inv
    obtain ⟨cur, _, _, _, _, _, _, hc⟩ := R.cellsE hσ hρ
    rw [Nat.add_zero] at hv
    obtain ⟨vs, hvs, hcs⟩ := cellsOf (cells τ x) (i * width τ) (fun j y hy => hc i x hx j y hy)
    exact ⟨_, by simp [execOp, ho, hv, Instr.loadAt, Instr.sureAddr, run_loadVarA ht (by rw [hvs.1, cells_length, hw]) hcs], hvs.agg⟩
end
end Go.Rf
end
section
/- What changes memory: new variables, stores, rows made and grown. -/
set_option linter.unusedVariables false
set_option linter.unusedSimpArgs false
set_option linter.unusedSectionVars false
namespace Go.Rf
open Go GU GC Go.RowKit
variable {Ty : Type} [GU Ty] [GC Ty]

/-! ### Labels that nothing mentions -/
def noM (d : Nat) : Env Ty → Bool
  | [] => true
  | (_, x) :: Γ => !(memN d x.labels) && noM d Γ
def noMH (d : Nat) : Hp Ty → Bool
  | [] => true
  | (k, b) :: σ => !(Nat.beq k d && b.alive) && !(memN d b.labels) && noMH d σ
theorem noM_at {d : Nat} : ∀ {Γ : Env Ty}, noM d Γ = true → ∀ s, d ∉ (Γ.at s).labels
  | [], _, s => by simp [Env.at, look, PV.labels]
  | (k, x) :: Γ, h, s => by
    simp only [noM, Bool.and_eq_true, Bool.not_eq_true'] at h
    rw [Env.at_cons]
    split
    · exact memN_false h.1
    · exact noM_at h.2 s
theorem noMH_at {d : Nat} : ∀ {σ : Hp Ty}, noMH d σ = true → (∀ r, d ∉ (σ.at r).labels) ∧ (σ.at d).alive = false
  | [], _ => ⟨fun r => by simp [Hp.at, lookH, Box.labels], rfl⟩
  | (k, b) :: σ, h => by
    simp only [noMH, Bool.and_eq_true, Bool.not_eq_true', beq_eq] at h
    obtain ⟨⟨h1, h2⟩, h3⟩ := h
    have ih := noMH_at h3
    refine ⟨fun r => ?_, ?_⟩
    · rw [Hp.at_cons]
      split
      · exact memN_false h2
      · exact ih.1 r
    · rw [Hp.at_cons]
      split
      · rename_i e
        subst e
        simpa using h1
      · exact ih.2

/-- A box is as it was when its block is, and what its cells mention stays where it is. -/
theorem Boxed.mono {F F' : Nat → Prop} {ρ ρ' : Rho} {w w' : World} {r : Nat} {B : Box Ty} (hF : ∀ g, F g → F' g) (hw : ∀ g, F g → w'.heap[g]? = w.heap[g]?) (hr : ρ' r = ρ r) (hl : ∀ q, q ∈ B.labels → ρ' q = ρ q)
    (hg : ∀ (g : Nat) (c : Nat × Nat), B.alive = true → ρ r = some (g, c) → w'.heap[g]? = w.heap[g]?) (h : Boxed F ρ w r B) : Boxed F' ρ' w' r B := by
  cases B with
  | dead => trivial
  | cells t cs =>
    obtain ⟨g, c, cur, e, h1, h2, h3, h4, h5⟩ := h
    exact ⟨g, c, cur, e, hr.trans h1, (hg g c rfl h1).trans h2, h3, h4, h5.mono hF hw hl⟩
  | arr e τ xs =>
    rcases h with ⟨h1, h2⟩ | ⟨g, c, cur, h1, h2, h3, h4, h5, h5', h6⟩
    · exact .inl ⟨hr.trans h1, h2⟩
    · exact .inr ⟨g, c, cur, hr.trans h1, (hg g c rfl h1).trans h2, h3, h4, h5, h5', h6.mono hF hw fun q hq => by rw [flat_labels] at hq; simp at hq⟩

/-- What was handed in stays where it is when its block does. -/
theorem Fixd.mono {C : Ctx Ty} {ρ ρ' : Rho} {σ σ' : Hp Ty} {w w' : World} (h : Fixd C ρ σ w) (hρ : ∀ r, (σ.at r).alive = true → C.fx r ≠ none → ρ' r = ρ r) (hσ : ∀ r, (σ.at r).alive = true → C.fx r ≠ none → (σ'.at r).alive = true ∧ (σ'.at r).isC = (σ.at r).isC)
    (hw : ∀ r g c, (σ.at r).alive = true → C.fx r ≠ none → ρ r = some (g, c) → w'.heap[g]? = w.heap[g]?) : Fixd C ρ' σ' w' := by
  intro r x hx
  obtain ⟨h1, h2, h3⟩ := h r x hx
  have hne : C.fx r ≠ none := by rw [hx]; simp
  obtain ⟨h4, h5⟩ := hσ r h2 hne
  exact ⟨(hρ r h2 hne).trans h1, h4, fun hc g c hg => (h3 (h5 ▸ hc) g c hg).mono (hw r g c h2 hne (h1.trans hg))⟩
/-- A label that is not in use is none of those. -/
theorem Fixd.ne {C : Ctx Ty} {ρ : Rho} {σ : Hp Ty} {w : World} (h : Fixd C ρ σ w) {d : Nat} (hd : (σ.at d).alive = false) : C.fx d = none := by
  cases e : C.fx d with
  | none => rfl
  | some x =>
    have := (h d x e).2.1
    rw [hd] at this
    simp at this
theorem alloc_old (w : World) (o : Obj) (g : Nat) (h : g < w.heap.size) : (w.alloc o).heap[g]? = w.heap[g]? := Below.heap_alloc w o g h
theorem alloc_size (w : World) (o : Obj) : (w.alloc o).heap.size = w.heap.size + 1 := by simp
theorem alloc_new (w : World) (o : Obj) : (w.alloc o).heap[w.heap.size]? = some o := heap_alloc_new w o
def setRho (ρ : Rho) (d : Nat) (x : Option (Nat × (Nat × Nat))) : Rho := fun r => if r = d then x else ρ r
theorem setRho_same (ρ : Rho) (d : Nat) (x : Option (Nat × (Nat × Nat))) : setRho ρ d x d = x := by simp [setRho]
theorem setRho_ne (ρ : Rho) {d r : Nat} (x : Option (Nat × (Nat × Nat))) (h : r ≠ d) : setRho ρ d x r = ρ r := by simp [setRho, h]

/-- A new block, under a new label. -/
theorem Rel.new {C : Ctx Ty} {F : Nat → Prop} {ρ : Rho} {Γ : Env Ty} {σ : Hp Ty} {a : Act} {w w1 : World} (R : Rel C F ρ Γ σ a w) (d : Nat) (c : Nat × Nat) (hΓ : noM d Γ = true) (hσ : noMH d σ = true) {B : Box Ty}
    (ho : w1.os = w.os) (ht : w1.tape = w.tape) (hu : w1.output = w.output) (hs : w1.heap.size = w.heap.size + 1) (hh : ∀ g, g < w.heap.size → w1.heap[g]? = w.heap[g]?)
    (hB : Boxed F (setRho ρ d (some (w.heap.size, c))) w1 d B) :
    Rel C F (setRho ρ d (some (w.heap.size, c))) Γ ((d, B) :: σ) a w1 := by
  have hFw : ∀ g, F g → w1.heap[g]? = w.heap[g]? := fun g hg => hh g (R.Flt g hg)
  have hown : ∀ (r g : Nat) (c : Nat × Nat), (σ.at r).alive = true → ρ r = some (g, c) → g < w.heap.size := by
    intro r g c ha hρ
    have hb := R.box r
    revert hb ha
    generalize σ.at r = b
    intro ha hb
    cases b with
    | dead => simp [Box.alive] at ha
    | cells t cs =>
      obtain ⟨g', c', cur, e, h1, h2, _⟩ := hb
      rw [hρ] at h1
      simp at h1
      obtain ⟨rfl, rfl⟩ := h1
      exact (Array.getElem?_eq_some_iff.1 h2).1
    | arr e τ xs =>
      rcases hb with ⟨h1, _⟩ | ⟨g', c', cur, h1, h2, _⟩
      · rw [hρ] at h1
        simp at h1
      · rw [hρ] at h1
        simp at h1
        obtain ⟨rfl, rfl⟩ := h1
        exact (Array.getElem?_eq_some_iff.1 h2).1
  obtain ⟨hl, hdead⟩ := noMH_at hσ
  refine ⟨ho.trans R.os, ht.trans R.tape, hu.trans R.output, by have := R.size; omega, fun g hg hS => (hh g (by have := R.size; omega)).trans (R.keep g hg hS), R.F0, R.Fold, fun g hg => by have := R.Flt g hg; omega, fun r => ?_, ?_, ?_, fun s => ?_, R.tsize, R.defers, fun p hp => ⟨(R.glob p hp).1.mono (fun _ h => h) hFw fun q hq => ?_, (R.glob p hp).2⟩, R.fixd.mono (fun r ha _ => setRho_ne ρ _ fun h => by rw [← h, ha] at hdead; simp at hdead) (fun r ha _ => by rw [Hp.at_cons, if_neg (fun h => by rw [h, ha] at hdead; simp at hdead)]; exact ⟨ha, rfl⟩) fun r g c ha _ hρ => hh g (hown r g c ha hρ)⟩
  · rw [Hp.at_cons]
    split
    · rename_i e
      subst e
      exact hB
    · rename_i e
      refine (R.box r).mono (fun _ h => h) hFw (setRho_ne ρ _ (fun h => e h.symm)) (fun q hq => setRho_ne ρ _ (fun h => hl r (h ▸ hq))) fun g c ha hρ => hh g (hown r g c ha hρ)
  · intro r r' g c1 c2 ha ha' h1 h2
    rw [Hp.at_cons] at ha ha'
    by_cases e : r = d <;> by_cases e' : r' = d
    · exact e.trans e'.symm
    · subst e
      rw [setRho_same] at h1
      rw [setRho_ne ρ _ e'] at h2
      rw [if_neg (fun h => e' h.symm)] at ha'
      simp at h1
      have := hown r' g c2 ha' h2
      omega
    · subst e'
      rw [setRho_same] at h2
      rw [setRho_ne ρ _ e] at h1
      rw [if_neg (fun h => e h.symm)] at ha
      simp at h2
      have := hown r g c1 ha h1
      omega
    · rw [setRho_ne ρ _ e] at h1
      rw [setRho_ne ρ _ e'] at h2
      rw [if_neg (fun h => e h.symm)] at ha
      rw [if_neg (fun h => e' h.symm)] at ha'
      exact R.inj r r' g c1 c2 ha ha' h1 h2
  · intro r g c1 ha h1
    rw [Hp.at_cons] at ha
    by_cases e : r = d
    · subst e
      rw [setRho_same] at h1
      simp at h1
      exact ⟨fun hF => by have := R.Flt g hF; omega, .inr (by have := R.size; omega)⟩
    · rw [setRho_ne ρ _ e] at h1
      rw [if_neg (fun h => e h.symm)] at ha
      exact R.own r g c1 ha h1
  · exact (R.slot s).mono (fun _ h => h) hFw fun q hq => setRho_ne ρ _ (fun h => noM_at hΓ s (h ▸ hq))
  · simp only [PV.labels] at hq
    rw [(R.glob p hp).2] at hq
    simp at hq

theorem Rel.newA {C : Ctx Ty} {F : Nat → Prop} {ρ : Rho} {Γ : Env Ty} {σ : Hp Ty} {a : Act} {w : World} (R : Rel C F ρ Γ σ a w) (d : Nat) (c : Nat × Nat) (hΓ : noM d Γ = true) (hσ : noMH d σ = true) {B : Box Ty} (ob : Obj)
    (hB : Boxed F (setRho ρ d (some (w.heap.size, c))) (w.alloc ob) d B) : Rel C F (setRho ρ d (some (w.heap.size, c))) Γ ((d, B) :: σ) a (w.alloc ob) :=
  R.new (w1 := w.alloc ob) d c hΓ hσ rfl rfl rfl (alloc_size w ob) (fun g hg => alloc_old w ob g hg) hB

section
variable {P : Program} {C : Ctx Ty} {o : Oper} {Γ : Env Ty} {σ : Hp Ty}
variable (hd : ∀ d, o.dst = some d → d < C.nt)
include hd

omit hd in
theorem boxed_all {F : Nat → Prop} {ρ : Rho} {w : World} {d g : Nat} {t e : TypeId} {cs : List (PV Ty)} {cur : Array Value} (hρ : ρ d = some (g, (0, cs.length))) (hg : w.heap[g]? = some (.cells cur e (0, 0))) (hr : RepL F ρ w cs cur.toList) : Boxed F ρ w d (.cells t cs) :=
  ⟨g, (0, cs.length), cur, e, hρ, hg, rfl, by have := hr.1; simp at this; simp [this], by have := hr.1; rw [List.drop_zero, List.take_of_length_le (by rw [hr.1]; exact Nat.le_refl _)]; exact hr⟩
/-- 'new': a variable of a struct, or of one cell, with its zero value. -/
theorem ok_alloc {d t size bytes : Nat} {ag : Bool} {zs : List Value} {xs : List (PV Ty)} (ho : o.op = .alloc t) (ht : TyOK P t size bytes ag zs) (hz : cpvL zs = some xs) (hΓ : noM d Γ = true) (hσ : noMH d σ = true) :
    Sound P C o Γ σ (.ref d 0) ((d, .cells t xs) :: σ) := by
  intro F ρ ac w R next Q hn
  obtain ⟨z, hzr, hzz⟩ := ht.run_zero w
  have hr : (execOp ac.eval o).run P w = .ok (.value (.pointer (some ⟨w.heap.size, 0, none⟩))) (w.alloc (.cells z.cells t)) := by
    simp [execOp, ho, Instr.alloc, hzr, newVar, newRow]
  unfold Oper.wp
  rw [hr]
  have hbx : Boxed F (setRho ρ d (some (w.heap.size, (0, xs.length)))) (w.alloc (.cells z.cells t)) d (.cells t xs) := by
    have hr : RepL F (setRho ρ d (some (w.heap.size, (0, xs.length)))) (w.alloc (.cells z.cells t)) xs zs := rep_cpvL hz
    exact boxed_all (setRho_same _ _ _) (by rw [alloc_new]) (hzz ▸ hr)
  refine hn F _ _ _ (fun _ h => h) ((R.newA d (0, xs.length) hΓ hσ _ hbx).put hd (Rep.ref (Ty := Ty) d 0 w.heap.size (0, xs.length) (setRho_same _ _ _)))
/-- A variable with a value. -/
theorem ok_box {d t : Nat} {a : Operand} {xs : List (PV Ty)} (ho : o.op = .box t a) (ha : opd C.glob Γ a = some (.agg xs)) (hΓ : noM d Γ = true) (hσ : noMH d σ = true) (hl : memN d (labelsL xs) = false) :
    Sound P C o Γ σ (.ref d 0) ((d, .cells t xs) :: σ) := by
  intro F ρ ac w R next Q hn
  obtain ⟨vs, hv, hr⟩ := (R.opd ha).agg_inv
  have hrun : (execOp ac.eval o).run P w = .ok (.value (.pointer (some ⟨w.heap.size, 0, none⟩))) (w.alloc (.cells vs.toArray t)) := by
    simp [execOp, ho, Instr.box, hv, newVar, newRow, Value.cells]
  unfold Oper.wp
  rw [hrun]
  have hbx : Boxed F (setRho ρ d (some (w.heap.size, (0, xs.length)))) (w.alloc (.cells vs.toArray t)) d (.cells t xs) :=
    boxed_all (setRho_same _ _ _) (alloc_new w _) (hr.mono (fun _ h => h) (fun g hg => alloc_old w _ g (R.Flt g hg)) fun q hq => setRho_ne _ _ (by rintro rfl; exact memN_false hl hq))
  exact hn F _ _ _ (fun _ h => h) ((R.newA d (0, xs.length) hΓ hσ _ hbx).put hd (Rep.ref (Ty := Ty) d 0 w.heap.size (0, xs.length) (setRho_same _ _ _)))
end
end Go.Rf
end
section
/- A labelled thing turns: what mentions it is told anew, or is forgotten. -/
set_option linter.unusedVariables false
set_option linter.unusedSimpArgs false
set_option linter.unusedSectionVars false
namespace Go.Rf
open Go GU GC Go.RowKit
variable {Ty : Type} [GU Ty] [GC Ty]

/-! ### What mentions a label: its rows are told by g, all else is forgotten -/
mutual
def frz (r : Nat) (g : PV Ty) : PV Ty → PV Ty
  | .mf wd q => bif Nat.beq q r then g else .mf wd q
  | .ms wd q i n => bif Nat.beq q r then .undef else .ms wd q i n
  | .agg cs => .agg (frzL r g cs)
  | .tup cs => .tup (frzL r g cs)
  | .ref q o => bif Nat.beq q r then .undef else .ref q o
  | .ar wd q i j => bif Nat.beq q r then .undef else .ar wd q i j
  | .rp cs => bif memN r (labelsL cs) then .undef else .rp cs
  | .fn f cs => bif memN r (labelsL cs) then .undef else .fn f cs
  | .iface t x => bif memN r x.labels then .undef else .iface t x
  | .when b x => .when b (frz r g x)
  | x => x
def frzL (r : Nat) (g : PV Ty) : List (PV Ty) → List (PV Ty)
  | [] => []
  | x :: xs => frz r g x :: frzL r g xs
end
theorem frzL_length (r : Nat) (g : PV Ty) : ∀ cs : List (PV Ty), (frzL r g cs).length = cs.length
  | [] => rfl
  | x :: xs => by simp [frzL, frzL_length r g xs]
theorem frzL_at {r : Nat} {g : PV Ty} : ∀ {cs : List (PV Ty)} {j : Nat} {y : PV Ty}, (frzL r g cs)[j]? = some y → ∃ x, cs[j]? = some x ∧ y = frz r g x
  | [], j, y, h => by simp [frzL] at h
  | x :: xs, 0, y, h => by
    simp [frzL] at h
    exact ⟨x, rfl, h.symm⟩
  | x :: xs, j + 1, y, h => by
    have := frzL_at (cs := xs) (j := j) (y := y) (by simpa [frzL] using h)
    simpa using this

structure Turn (F F' : Nat → Prop) (ρ ρ' : Rho) (w w' : World) (r : Nat) (g : PV Ty) : Prop where
  hF : ∀ k, F k → F' k
  hw : ∀ k, F k → w'.heap[k]? = w.heap[k]?
  hρ : ∀ q, q ≠ r → ρ' q = ρ q
  row : ∀ (wd : Nat) (v : Value), Rep F ρ w (PV.mf (Ty := Ty) wd r) v → Rep F' ρ' w' g v

theorem Rep.keep {F F' : Nat → Prop} {ρ ρ' : Rho} {w w' : World} {r : Nat} {g : PV Ty} (T : Turn F F' ρ ρ' w w' r g) {x : PV Ty} {v : Value} (h : Rep F ρ w x v) (hl : r ∉ x.labels) : Rep F' ρ' w' x v :=
  h.mono T.hF T.hw fun q hq => T.hρ q fun e => hl (e ▸ hq)

theorem Rep.frz {F F' : Nat → Prop} {ρ ρ' : Rho} {w w' : World} {r : Nat} {g : PV Ty} (T : Turn F F' ρ ρ' w w' r g) {x : PV Ty} {v : Value} (h : Rep F ρ w x v) : Rep F' ρ' w' (frz r g x) v := by
  have key : ∀ {x : PV Ty} {v : Value}, Rep F ρ w x v → Rep F' ρ' w' (Rf.frz r g x) v := by
    intro x v h
    induction h with
    | agg cs vs hl hr ih =>
      refine .agg _ vs (by rw [frzL_length, hl]) fun j y u hy hu => ?_
      obtain ⟨x, hx, rfl⟩ := frzL_at hy
      exact ih j x u hx hu
    | tup cs vs hl hr ih =>
      refine .tup _ vs (by rw [frzL_length, hl]) fun j y u hy hu => ?_
      obtain ⟨x, hx, rfl⟩ := frzL_at hy
      exact ih j x u hx hu
    | when b x v h h' ih => exact .when b _ v ih h'
    | undef v => exact .undef v
    | nils => exact .nils
    | int k n => exact .int k n
    | bool b => exact .bool b
    | str s => exact .str s
    | nilp => exact .nilp
    | nili => exact .nili
    | sl τ xs A c g' o vs hA hc hr hcap ih => exact Rep.keep T (.sl τ xs A c g' o vs hA hc hr hcap) (by show r ∉ ([] : List Nat); simp)
    | sf τ xs A g' o vs hA hc hr ih => exact Rep.keep T (.sf τ xs A g' o vs hA hc hr) (by show r ∉ ([] : List Nat); simp)
    | rp cs g' o vs hF hc hr ih =>
      simp only [Rf.frz]
      cases hm : memN r (labelsL cs) with
      | true => exact .undef _
      | false => exact Rep.keep T (.rp cs g' o vs hF hc hr) (by simpa [PV.labels] using memN_false hm)
    | fn f cs vs hl hr ih =>
      simp only [Rf.frz]
      cases hm : memN r (labelsL cs) with
      | true => exact .undef _
      | false => exact Rep.keep T (.fn f cs vs hl hr) (by simpa [PV.labels] using memN_false hm)
    | iface t x v h ih =>
      simp only [Rf.frz]
      cases hm : memN r x.labels with
      | true => exact .undef _
      | false => exact Rep.keep T (.iface t x v h) (by simpa [PV.labels] using memN_false hm)
    | ref q o g' c h =>
      simp only [Rf.frz, beq_eq]
      by_cases e : q = r
      · simp [e]
        exact .undef _
      · simp [e]
        exact Rep.keep T (.ref q o g' c h) (by simpa [PV.labels] using fun h : r = q => e h.symm)
    | ar wd q i j g' c h =>
      simp only [Rf.frz, beq_eq]
      by_cases e : q = r
      · simp [e]
        exact .undef _
      · simp [e]
        exact Rep.keep T (.ar wd q i j g' c h) (by simpa [PV.labels] using fun h : r = q => e h.symm)
    | msNil wd q h =>
      simp only [Rf.frz, beq_eq]
      by_cases e : q = r
      · simp [e]
        exact .undef _
      · simp [e]
        exact Rep.keep T (.msNil wd q h) (by simpa [PV.labels] using fun h : r = q => e h.symm)
    | ms wd q i n g' c a h hn ha =>
      simp only [Rf.frz, beq_eq]
      by_cases e : q = r
      · simp [e]
        exact .undef _
      · simp [e]
        exact Rep.keep T (.ms wd q i n g' c a h hn ha) (by simpa [PV.labels] using fun h : r = q => e h.symm)
    | mfNil wd q h =>
      simp only [Rf.frz, beq_eq]
      by_cases e : q = r
      · subst e
        simp
        exact T.row wd _ (.mfNil wd q h)
      · simp [e]
        exact Rep.keep T (.mfNil wd q h) (by simpa [PV.labels] using fun h : r = q => e h.symm)
    | mf wd q g' c h =>
      simp only [Rf.frz, beq_eq]
      by_cases e : q = r
      · subst e
        simp
        exact T.row wd _ (.mf wd q g' c h)
      · simp [e]
        exact Rep.keep T (.mf wd q g' c h) (by simpa [PV.labels] using fun h : r = q => e h.symm)
  exact key h

def frzE (r : Nat) (g : PV Ty) : Env Ty → Env Ty
  | [] => []
  | (s, x) :: Γ => (s, frz r g x) :: frzE r g Γ
def Box.frz (r : Nat) (g : PV Ty) : Box Ty → Box Ty
  | .cells t cs => .cells t (frzL r g cs)
  | b => b
def frzH (r : Nat) (g : PV Ty) : Hp Ty → Hp Ty
  | [] => []
  | (s, x) :: σ => (s, x.frz r g) :: frzH r g σ
theorem frzE_at (r : Nat) (g : PV Ty) : ∀ (Γ : Env Ty) (s : Nat), (frzE r g Γ).at s = frz r g (Γ.at s)
  | [], s => rfl
  | (k, x) :: Γ, s => by
    simp only [frzE, Env.at_cons]
    split
    · rfl
    · exact frzE_at r g Γ s
theorem frzH_at (r : Nat) (g : PV Ty) : ∀ (σ : Hp Ty) (s : Nat), (frzH r g σ).at s = (σ.at s).frz r g
  | [], s => rfl
  | (k, x) :: σ, s => by
    simp only [frzH, Hp.at_cons]
    split
    · rfl
    · exact frzH_at r g σ s
theorem Box.frz_alive (r : Nat) (g : PV Ty) (b : Box Ty) : (b.frz r g).alive = b.alive := by cases b <;> rfl

/-- The row of a label turns. -/
theorem Rel.turn {C : Ctx Ty} {F F' : Nat → Prop} {ρ ρ' : Rho} {Γ : Env Ty} {σ : Hp Ty} {a : Act} {w w' : World} (R : Rel C F ρ Γ σ a w) {r : Nat} {g : PV Ty} {B : Box Ty} (T : Turn F F' ρ ρ' w w' r g)
    (hos : w'.os = w.os) (htape : w'.tape = w.tape) (hout : w'.output = w.output) (hsize : w.heap.size ≤ w'.heap.size)
    (hr : (σ.at r).alive = true) (hblk : ∀ k, k < w.heap.size → (∀ c : Nat × Nat, ρ r ≠ some (k, c)) → w'.heap[k]? = w.heap[k]?)
    (hF' : ∀ k, F' k → F k ∨ (B.alive = false ∧ ∃ c : Nat × Nat, ρ r = some (k, c)) ∨ (w.heap.size ≤ k ∧ k < w'.heap.size ∧ ∀ c, ρ' r ≠ some (k, c)))
    (hfx : C.fx r = none) (hB : Boxed F' ρ' w' r B) (hnew : ∀ (k : Nat) (c : Nat × Nat), B.alive = true → ρ' r = some (k, c) → (∃ c', ρ r = some (k, c')) ∨ w.heap.size ≤ k) :
    Rel C F' ρ' (frzE r g Γ) ((r, B) :: frzH r g σ) a w' := by
  have hlt : ∀ (q k : Nat) (c : Nat × Nat), (σ.at q).alive = true → ρ q = some (k, c) → k < w.heap.size := by
    intro q k c ha hρ
    have hb := R.box q
    revert hb ha
    generalize σ.at q = b
    intro ha hb
    cases b with
    | dead => simp [Box.alive] at ha
    | cells t cs =>
      obtain ⟨g', c', cur, e, h1, h2, _⟩ := hb
      rw [hρ] at h1
      simp at h1
      obtain ⟨rfl, rfl⟩ := h1
      exact (Array.getElem?_eq_some_iff.1 h2).1
    | arr e τ xs =>
      rcases hb with ⟨h1, _⟩ | ⟨g', c', cur, h1, h2, _⟩
      · rw [hρ] at h1
        simp at h1
      · rw [hρ] at h1
        simp at h1
        obtain ⟨rfl, rfl⟩ := h1
        exact (Array.getElem?_eq_some_iff.1 h2).1
  refine ⟨hos.trans R.os, htape.trans R.tape, hout.trans R.output, Nat.le_trans R.size hsize, fun k hk hS => ?_, fun k hk => T.hF k (R.F0 k hk), fun k hk => ?_, fun k hk => ?_, fun q => ?_, ?_, ?_, fun s => ?_, R.tsize, R.defers, fun p hp => ⟨Rep.keep T (R.glob p hp).1 ?_, (R.glob p hp).2⟩, ?_⟩
  rotate_right
  · have hnr : ∀ q, C.fx q ≠ none → q ≠ r := fun q h e => h (e ▸ hfx)
    refine R.fixd.mono (fun q _ hq => T.hρ q (hnr q hq)) (fun q ha hq => ?_) fun q k c ha hq hρ => hblk k (hlt q k c ha hρ) fun c' h' => hnr q hq (R.inj q r k c c' ha hr hρ h')
    rw [Hp.at_cons, if_neg (fun h => hnr q hq h.symm), frzH_at, Box.frz_alive]
    exact ⟨ha, by cases σ.at q <;> rfl⟩
  · refine (hblk k (Nat.lt_of_lt_of_le hk R.size) fun c hρ => ?_).trans (R.keep k hk hS)
    rcases (R.own r k c hr hρ).2 with h | h
    · exact hS h
    · omega
  · rcases hF' k hk with h | ⟨_, c, h⟩ | ⟨h, _, _⟩
    · exact R.Fold k h
    · exact .inr (R.own r k c hr h).2
    · exact .inr (.inr (Nat.le_trans R.size h))
  · rcases hF' k hk with h | ⟨_, c, h⟩ | ⟨_, h, _⟩
    · exact Nat.lt_of_lt_of_le (R.Flt k h) hsize
    · exact Nat.lt_of_lt_of_le (hlt r k c hr h) hsize
    · exact h
  · rw [Hp.at_cons]
    split
    · rename_i e
      subst e
      exact hB
    · rename_i e
      rw [frzH_at]
      have hb := R.box q
      have hal := hlt q
      have hne : ∀ (k : Nat) (c : Nat × Nat), (σ.at q).alive = true → ρ q = some (k, c) → ∀ c', ρ r ≠ some (k, c') := fun k c ha h c' h' => e (R.inj q r k c c' ha hr h h').symm
      revert hb hal hne
      generalize σ.at q = b
      intro hb hal hne
      cases b with
      | dead => trivial
      | cells t cs =>
        obtain ⟨k, c, cur, e', h1, h2, h3, h4, h5⟩ := hb
        refine ⟨k, c, cur, e', (T.hρ q (fun h => e h.symm)).trans h1, (hblk k (hal k c rfl h1) (hne k c rfl h1)).trans h2, by rw [frzL_length]; exact h3, h4, by rw [frzL_length]; exact h5.1, fun j y u hy hu => ?_⟩
        obtain ⟨x, hx, rfl⟩ := frzL_at hy
        exact (h5.2 j x u hx hu).frz T
      | arr e' τ xs =>
        rcases hb with ⟨h1, h2⟩ | ⟨k, c, cur, h1, h2, h3, h4, h5, h5', h6⟩
        · exact .inl ⟨(T.hρ q (fun h => e h.symm)).trans h1, h2⟩
        · exact .inr ⟨k, c, cur, (T.hρ q (fun h => e h.symm)).trans h1, (hblk k (hal k c rfl h1) (hne k c rfl h1)).trans h2, h3, h4, h5, h5',
            h6.1, fun j x u hx hu => Rep.keep T (h6.2 j x u hx hu) fun hm => by have := mem_labelsL hx hm; rw [flat_labels] at this; simp at this⟩
  · intro q q' k c c' ha ha' h1 h2
    rw [Hp.at_cons] at ha ha'
    by_cases e : q = r <;> by_cases e' : q' = r
    · exact e.trans e'.symm
    · subst e
      rw [if_neg (fun h => e' h.symm), frzH_at, Box.frz_alive] at ha'
      rw [T.hρ q' e'] at h2
      rw [if_pos rfl] at ha
      rcases hnew k c ha h1 with ⟨c'', h⟩ | h
      · exact R.inj q q' k c'' c' hr ha' h h2
      · have := hlt q' k c' ha' h2
        omega
    · subst e'
      rw [if_neg (fun h => e h.symm), frzH_at, Box.frz_alive] at ha
      rw [T.hρ q e] at h1
      rw [if_pos rfl] at ha'
      rcases hnew k c' ha' h2 with ⟨c'', h⟩ | h
      · exact R.inj q q' k c c'' ha hr h1 h
      · have := hlt q k c ha h1
        omega
    · rw [if_neg (fun h => e h.symm), frzH_at, Box.frz_alive] at ha
      rw [if_neg (fun h => e' h.symm), frzH_at, Box.frz_alive] at ha'
      rw [T.hρ q e] at h1
      rw [T.hρ q' e'] at h2
      exact R.inj q q' k c c' ha ha' h1 h2
  · intro q k c ha h1
    rw [Hp.at_cons] at ha
    by_cases e : q = r
    · subst e
      rw [if_pos rfl] at ha
      refine ⟨fun hk => ?_, ?_⟩
      · rcases hF' k hk with h | ⟨h, _⟩ | ⟨_, _, h⟩
        · rcases hnew k c ha h1 with ⟨c', h'⟩ | h'
          · exact (R.own q k c' hr h').1 h
          · have := R.Flt k h
            omega
        · rw [h] at ha
          simp at ha
        · exact h c h1
      · rcases hnew k c ha h1 with ⟨c', h'⟩ | h'
        · exact (R.own q k c' hr h').2
        · exact .inr (Nat.le_trans R.size h')
    · rw [if_neg (fun h => e h.symm), frzH_at, Box.frz_alive] at ha
      rw [T.hρ q e] at h1
      refine ⟨fun hk => ?_, (R.own q k c ha h1).2⟩
      rcases hF' k hk with h | ⟨_, c', h⟩ | ⟨h, _, _⟩
      · exact (R.own q k c ha h1).1 h
      · exact e (R.inj q r k c c' ha hr h1 h)
      · have := hlt q k c ha h1
        omega
  · rw [frzE_at]
    exact (R.slot s).frz T
  · simp only [PV.labels]
    rw [(R.glob p hp).2]
    simp
end Go.Rf
end
