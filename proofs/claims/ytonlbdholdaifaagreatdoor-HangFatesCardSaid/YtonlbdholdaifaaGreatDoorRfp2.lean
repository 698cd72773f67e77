import Derived.Test.YtonlbdholdaifaaGreatDoorRfp1
import Derived.Great.BuildSlice
section
/- Stores; a row made, grown, and no longer written. -/
set_option linter.unusedVariables false
set_option linter.unusedSimpArgs false
set_option linter.unusedSectionVars false
namespace Go.Rf
open Go GU GC Go.RowKit
variable {Ty : Type} [GU Ty] [GC Ty]

theorem Rel.ltV {C : Ctx Ty} {F : Nat → Prop} {ρ : Rho} {Γ : Env Ty} {σ : Hp Ty} {a : Act} {w : World} (R : Rel C F ρ Γ σ a w) {q k : Nat} {c : Nat × Nat} (ha : (σ.at q).alive = true) (hρ : ρ q = some (k, c)) : k < w.heap.size := by
  have hb := R.box q
  revert hb ha
  generalize σ.at q = b
  intro ha hb
  cases b with
  | dead => simp [Box.alive] at ha
  | cells t cs =>
    obtain ⟨g', c', cur, e, h1, h2, _⟩ := hb
    rw [hρ] at h1
    simp at h1
    obtain ⟨rfl, rfl⟩ := h1
    exact (Array.getElem?_eq_some_iff.1 h2).1
  | arr e τ xs =>
    rcases hb with ⟨h1, _⟩ | ⟨g', c', cur, h1, h2, _⟩
    · rw [hρ] at h1
      simp at h1
    · rw [hρ] at h1
      simp at h1
      obtain ⟨rfl, rfl⟩ := h1
      exact (Array.getElem?_eq_some_iff.1 h2).1

/-- What a labelled block holds turns; where it lies doesn't. -/
theorem Rel.setBox {C : Ctx Ty} {F : Nat → Prop} {ρ : Rho} {Γ : Env Ty} {σ : Hp Ty} {a : Act} {w w' : World} (R : Rel C F ρ Γ σ a w) {r k : Nat} {c : Nat × Nat} {B : Box Ty} (hr : (σ.at r).alive = true) (hρ : ρ r = some (k, c)) (hBa : B.alive = true)
    (hos : w'.os = w.os) (htape : w'.tape = w.tape) (hout : w'.output = w.output) (hsize : w'.heap.size = w.heap.size) (hblk : ∀ q, q ≠ k → w'.heap[q]? = w.heap[q]?) (hB : Boxed F ρ w' r B)
    (hk : B.isC = (σ.at r).isC) (hout' : B.isC = true → ∃ cur cur' e, w.heap[k]? = some (.cells cur e (0, 0)) ∧ w'.heap[k]? = some (.cells cur' e (0, 0)) ∧ cur'.size = cur.size ∧ ∀ i, i < c.1 ∨ c.1 + c.2 ≤ i → cur'[i]? = cur[i]?) :
    Rel C F ρ Γ ((r, B) :: σ) a w' := by
  have hFw : ∀ g, F g → w'.heap[g]? = w.heap[g]? := fun g hg => hblk g fun e => (R.own r k c hr hρ).1 (e ▸ hg)
  refine ⟨hos.trans R.os, htape.trans R.tape, hout.trans R.output, by rw [hsize]; exact R.size, fun g hg hS => ?_, R.F0, R.Fold, fun g hg => by rw [hsize]; exact R.Flt g hg, fun q => ?_, ?_, ?_, fun s => (R.slot s).mono (fun _ h => h) hFw fun _ _ => rfl, R.tsize, R.defers, fun p hp => ⟨(R.glob p hp).1.mono (fun _ h => h) hFw fun _ _ => rfl, (R.glob p hp).2⟩, ?_⟩
  rotate_right
  · intro q x hx
    obtain ⟨h1, h2, h3⟩ := R.fixd q x hx
    rw [Hp.at_cons]
    by_cases e : r = q
    · subst e
      rw [if_pos rfl]
      refine ⟨h1, hBa, fun hc g c' hg => ?_⟩
      rw [h1, hg] at hρ
      simp at hρ
      obtain ⟨rfl, rfl⟩ := hρ
      obtain ⟨cur, cur', e, a1, a2, a3, a4⟩ := hout' hc
      obtain ⟨cur0, cur1, e', b1, b2, b3, b4⟩ := h3 (hk ▸ hc) g c' hg
      rw [a1] at b2
      simp at b2
      obtain ⟨rfl, rfl⟩ := b2
      exact ⟨cur0, cur', e, b1, a2, a3.trans b3, fun i hi => (a4 i hi).trans (b4 i hi)⟩
    · rw [if_neg e]
      refine ⟨h1, h2, fun hc g c' hg => (h3 hc g c' hg).mono (hblk g fun hgk => e ?_)⟩
      subst hgk
      exact R.inj r q g c c' hr h2 hρ (h1.trans hg)
  · refine (hblk g fun e => ?_).trans (R.keep g hg hS)
    subst e
    rcases (R.own r g c hr hρ).2 with h | h
    · exact hS h
    · omega
  · rw [Hp.at_cons]
    split
    · rename_i e
      subst e
      exact hB
    · rename_i e
      exact (R.box q).mono (fun _ h => h) hFw rfl (fun _ _ => rfl) fun g c' ha h => hblk g fun e' => e (R.inj q r g c' c ha hr h (e' ▸ hρ)).symm
  · intro q q' g c1 c2 ha ha' h1 h2
    rw [Hp.at_cons] at ha ha'
    refine R.inj q q' g c1 c2 ?_ ?_ h1 h2
    · split at ha
      · rename_i e; exact e ▸ hr
      · exact ha
    · split at ha'
      · rename_i e; exact e ▸ hr
      · exact ha'
  · intro q g c1 ha h1
    rw [Hp.at_cons] at ha
    refine R.own q g c1 ?_ h1
    split at ha
    · rename_i e; exact e ▸ hr
    · exact ha

/-- The same, told only where it fits. -/
def putO {α : Type} : List α → Nat → List α → Option (List α)
  | cs, _, [] => some cs
  | [], _, _ => none
  | c :: cs, 0, x :: xs => match putO cs 0 xs with
    | some r => some (x :: r)
    | none => none
  | c :: cs, k + 1, xs => match putO cs k xs with
    | some r => some (c :: r)
    | none => none
/-- Some elements in the midst, told only where they are. -/
def takeO {α : Type} : List α → Nat → Nat → Option (List α)
  | _, 0, 0 => some []
  | [], _, _ => none
  | c :: cs, 0, n + 1 => match takeO cs 0 n with
    | some r => some (c :: r)
    | none => none
  | _ :: cs, k + 1, n => takeO cs k n
/-- A list with some of its elements put anew. -/
def putL {α : Type} : List α → Nat → List α → List α
  | cs, _, [] => cs
  | [], _, _ => []
  | c :: cs, 0, x :: xs => x :: putL cs 0 xs
  | c :: cs, k + 1, xs => c :: putL cs k xs
theorem putL_eq {α : Type} : ∀ (cs : List α) (k : Nat) (xs : List α), k + xs.length ≤ cs.length → putL cs k xs = cs.take k ++ xs ++ cs.drop (k + xs.length)
  | cs, k, [], _ => by simp [putL]
  | [], k, x :: xs, h => by simp at h
  | c :: cs, 0, x :: xs, h => by
    have := putL_eq cs 0 xs (by simpa using h)
    simp [putL, this]
  | c :: cs, k + 1, x :: xs, h => by
    have := putL_eq cs k (x :: xs) (by simp only [List.length_cons] at h ⊢; omega)
    show c :: putL cs k (x :: xs) = _
    rw [this, show k + 1 + (x :: xs).length = (k + (x :: xs).length) + 1 by omega, List.drop_succ_cons]
    rfl
theorem putO_eq {α : Type} : ∀ {cs : List α} {k : Nat} {xs r : List α}, xs ≠ [] → putO cs k xs = some r → r = putL cs k xs ∧ k + xs.length ≤ cs.length
  | cs, k, [], r, h0, _ => absurd rfl h0
  | [], k, x :: xs, r, _, h => by simp [putO] at h
  | c :: cs, 0, [x], r, _, h => by
    simp [putO] at h
    subst h
    simp [putL]
  | c :: cs, 0, x :: x' :: xs, r, _, h => by
    simp only [putO] at h
    split at h
    · rename_i q hq
      have := putO_eq (cs := cs) (k := 0) (xs := x' :: xs) (r := q) (by simp) (by simpa [putO] using hq)
      simp at h
      subst h
      simp only [List.length_cons] at this ⊢
      exact ⟨by simp [putL, this.1], by omega⟩
    · simp at h
  | c :: cs, k + 1, x :: xs, r, _, h => by
    simp only [putO] at h
    split at h
    · rename_i q hq
      have := putO_eq (cs := cs) (k := k) (xs := x :: xs) (r := q) (by simp) hq
      simp at h
      subst h
      simp only [List.length_cons] at this ⊢
      exact ⟨by simp [putL, this.1], by omega⟩
    · simp at h
theorem takeO_eq {α : Type} : ∀ {cs : List α} {k n : Nat} {r : List α}, takeO cs k n = some r → r = (cs.drop k).take n ∧ (n = 0 ∨ k + n ≤ cs.length) ∧ r.length = n
  | cs, 0, 0, r, h => by
    cases cs <;> (simp [takeO] at h; subst h; simp)
  | [], 0, n + 1, r, h => by simp [takeO] at h
  | [], k + 1, n, r, h => by simp [takeO] at h
  | c :: cs, 0, n + 1, r, h => by
    simp only [takeO] at h
    split at h
    · rename_i q hq
      have := takeO_eq (cs := cs) (k := 0) (n := n) (r := q) hq
      simp at h
      subst h
      simp only [List.length_cons, List.drop_zero] at this ⊢
      exact ⟨by simp [this.1], .inr (by omega), by omega⟩
    · simp at h
  | c :: cs, k + 1, n, r, h => by
    simp only [takeO] at h
    have := takeO_eq (cs := cs) (k := k) (n := n) (r := r) h
    simp only [List.length_cons, List.drop_succ_cons] at this ⊢
    exact ⟨this.1, by omega, this.2.2⟩
theorem take_put {α : Type} (A z : List α) (p q : Nat) (h : p + z.length ≤ q) (hq : q ≤ A.length) : (A.take p ++ z ++ A.drop (p + z.length)).take q = (A.take q).take p ++ z ++ (A.take q).drop (p + z.length) := by
  have h1 : min p A.length = p := by omega
  have h2 : min p (min q A.length) = p := by omega
  apply List.ext_getElem?
  intro j
  simp only [List.append_assoc, List.getElem?_take, List.getElem?_append, List.getElem?_drop, List.length_take, h1, h2]
  by_cases c1 : j < p
  · simp [c1, show j < q by omega]
  · by_cases c2 : j - p < z.length
    · simp [c1, c2, show j < q by omega]
    · have e : p + z.length + (j - p - z.length) = j := by omega
      simp only [c1, c2, if_false, e]

theorem RepL.put {F : Nat → Prop} {ρ : Rho} {w : World} {cs xs : List (PV Ty)} {vs us : List Value} (h : RepL F ρ w cs vs) (k : RepL F ρ w xs us) (n : Nat) : RepL F ρ w (cs.take n ++ xs ++ cs.drop (n + xs.length)) (vs.take n ++ us ++ vs.drop (n + us.length)) := by
  rw [k.1]
  exact ((h.take n).append k).append (h.drop _)

theorem oneL {F : Nat → Prop} {ρ : Rho} {w : World} {xs : List (PV Ty)} {us : List Value} (h : RepL F ρ w xs us) (h1 : xs.all PV.one = true) : ∀ v, v ∈ us → v.oneCell' = true := by
  intro v hv
  obtain ⟨j, hj, he⟩ := List.mem_iff_getElem.1 hv
  have hx : j < xs.length := by rw [← h.1]; exact hj
  exact (h.2 j xs[j] v (List.getElem?_eq_getElem hx) (by rw [List.getElem?_eq_getElem hj, he])).one (List.all_eq_true.1 h1 _ (List.getElem_mem hx))

section
variable {P : Program} {C : Ctx Ty} {o : Oper} {Γ : Env Ty} {σ : Hp Ty}

/-- The cells that a value is stored as. -/
def asCells : PV Ty → List (PV Ty)
  | .agg cs => cs
  | x => [x]
theorem Rep.asCells {F : Nat → Prop} {ρ : Rho} {w : World} {x : PV Ty} {v : Value} (h : Rep F ρ w x v) (h1 : (Rf.asCells x).all PV.one = true) : RepL F ρ w (Rf.asCells x) v.cells.toList := by
  cases x with
  | agg cs =>
    obtain ⟨vs, rfl, hr⟩ := h.agg_inv
    simpa [Value.cells, Rf.asCells] using hr
  | undef => simp [Rf.asCells, PV.one] at h1
  | tup _ => simp [Rf.asCells, PV.one] at h1
  | when _ _ => simp [Rf.asCells, PV.one] at h1
  | _ => rw [h.cells_one rfl]; exact .cons h .nil

theorem run_store_row {t size bytes : Nat} {ag : Bool} {zs : List Value} (ht : TyOK P t size bytes ag zs) {w : World} {g k : Nat} {cur : Array Value} {e : TypeId} (hg : w.heap[g]? = some (.cells cur e (0, 0))) {v : Value} (hl : v.cells.toList.length = size) (h1 : ∀ u, u ∈ v.cells.toList → u.oneCell' = true) (hfit : k + size ≤ cur.size) :
    (storeVar t ⟨g, k, none⟩ v).run P w = .ok () (w.setRow g (cur.toList.take k ++ v.cells.toList ++ cur.toList.drop (k + v.cells.toList.length)).toArray) := by
  have hst := run_storeCells_at P g k e v.cells.toList 0 cur w hg (by simpa [hl] using hfit) h1
  simp only [Nat.add_zero] at hst
  have hsz : v.cells.size = size := by simpa using hl
  simp [storeVar, ht.run_sizeOf, hsz, hst]

theorem mid_put {α : Type} {cur u : List α} {c1 c2 k : Nat} (hb : c1 + c2 ≤ cur.length) (hk : k + u.length ≤ c2) :
    ((cur.take (c1 + k) ++ u ++ cur.drop (c1 + k + u.length)).drop c1).take c2 = ((cur.drop c1).take c2).take k ++ u ++ ((cur.drop c1).take c2).drop (k + u.length) := by
  apply List.ext_getElem?
  intro i
  simp only [List.getElem?_append, List.getElem?_take, List.getElem?_drop, List.length_append, List.length_take, List.length_drop]
  repeat' split
  all_goals first
    | rfl
    | (exfalso; omega)
    | (congr 1; omega)
    | (rw [List.getElem?_eq_none]; omega)
    | (symm; rw [List.getElem?_eq_none]; omega)
/-- Into a variable. -/
theorem ok_storeV (hd : o.dst = none) {t size bytes : Nat} {ag : Bool} {zs : List Value} {a b : Operand} {r k : Nat} {bt : TypeId} {cs cs' : List (PV Ty)} {x : PV Ty} (ho : o.op = .store t a b) (ht : TyOK P t size bytes ag zs)
    (ha : opd C.glob Γ a = some (.ref r k)) (hb : opd C.glob Γ b = some x) (hσ : lookH σ r = some (.cells bt cs)) (hl : (asCells x).length = size) (h0 : size ≠ 0) (h1 : (asCells x).all PV.one = true) (hput : putO cs k (asCells x) = some cs') :
    Sound P C o Γ σ .undef ((r, .cells bt cs') :: σ) := by
  obtain ⟨rfl, hfit⟩ := putO_eq (by rintro h; rw [h] at hl; exact h0 hl.symm) hput
  rw [hl] at hfit
  intro F ρ ac w R next Q hn
  obtain ⟨g, c, hρ, hv⟩ := (R.opd ha).ref_inv
  obtain ⟨cur, be, hg, hcl, hcs, hr, _⟩ := R.cellsV hσ hρ
  have hx := (R.opd hb).asCells h1
  have hul : (ac.eval b).cells.toList.length = size := hx.1.trans hl
  generalize hnew : (cur.toList.take (c.1 + k) ++ (ac.eval b).cells.toList ++ cur.toList.drop (c.1 + k + (ac.eval b).cells.toList.length)).toArray = new
  have hsz : new.size = cur.size := by
    rw [← hnew]
    simp only [List.size_toArray, List.length_append, List.length_take, List.length_drop, Array.length_toList, hul]
    omega
  have hat : ∀ i, i < c.1 ∨ c.1 + c.2 ≤ i → new[i]? = cur[i]? := by
    intro i hi
    rw [← hnew, List.getElem?_toArray, ← Array.getElem?_toList]
    rcases hi with hi | hi
    · rw [List.append_assoc, List.getElem?_append_left (by simp; omega), List.getElem?_take, if_pos (by omega)]
    · rw [List.getElem?_append_right (by simp only [List.length_append, List.length_take, Array.length_toList, hul]; omega), List.getElem?_drop]
      congr 1
      simp only [List.length_append, List.length_take, Array.length_toList, hul]
      omega
  have hmid : (new.toList.drop c.1).take c.2 = ((cur.toList.drop c.1).take c.2).take k ++ (ac.eval b).cells.toList ++ ((cur.toList.drop c.1).take c.2).drop (k + (ac.eval b).cells.toList.length) := by
    rw [← hnew]
    exact mid_put (cur := cur.toList) (by simpa using hcs) (by rw [hul]; omega)
  have hrun : (execOp ac.eval o).run P w = .ok .skip (w.setRow g new) := by
    have hs := run_store_row (P := P) ht hg (k := c.1 + k) (v := ac.eval b) hul (oneL hx h1) (by omega)
    rw [hnew] at hs
    simp [execOp, ho, hv, Instr.storeAt, Instr.sureAddr, hs]
  unfold Oper.wp
  rw [hrun]
  have hal : (σ.at r).alive = true := by rw [Hp.at_of hσ]; rfl
  have hFg : ¬ F g := (R.own r g c hal hρ).1
  have hbx : Boxed F ρ (w.setRow g new) r (.cells bt (putL cs k (asCells x))) := by
    have hpl : (putL cs k (asCells x)).length = cs.length := by rw [putL_eq cs k (asCells x) (by rw [hl]; exact hfit)]; simp [hl]; omega
    refine ⟨g, c, new, be, hρ, setRow_heap w g _ _ be _ hg, by rw [hpl]; exact hcl, by rw [hsz]; exact hcs, ?_⟩
    rw [putL_eq cs k (asCells x) (by rw [hl]; exact hfit), hmid]
    exact (hr.put hx k).mono (fun _ h => h) (fun q hq => setRow_other w g q _ fun e => hFg (e ▸ hq)) fun _ _ => rfl
  have R' := R.setBox (w' := w.setRow g new) hal hρ rfl rfl rfl rfl (size_setRow _ _ _) (fun q hq => setRow_other w g q _ hq) hbx (by rw [Hp.at_of hσ]; rfl) fun _ => ⟨cur, new, be, hg, setRow_heap w g _ _ be _ hg, hsz, hat⟩
  have e : upd Γ o.dst (PV.undef : PV Ty) = Γ := by rw [hd]; rfl
  have e' : ac.put o.dst Go.undef = ac := by rw [hd]; rfl
  have := hn F ρ Go.undef _ (fun _ h => h) (by rw [e, e']; exact R')
  exact this
/-- Into an element of a row. -/
theorem ok_storeE (hd : o.dst = none) {t size bytes : Nat} {ag : Bool} {zs : List Value} {a b : Operand} {τ : Ty} {r i j : Nat} {e : TypeId} {xs : List (den τ)} {x y : den τ} {z : PV Ty} (ho : o.op = .store t a b) (ht : TyOK P t size bytes ag zs)
    (ha : opd C.glob Γ a = some (.ar (width τ) r i j)) (hb : opd C.glob Γ b = some z) (hσ : lookH σ r = some (.arr e τ xs)) (hx : xs[i]? = some x) (hl : (asCells z).length = size) (h1 : (asCells z).all PV.one = true) (hfit : j + size ≤ width τ)
    (hy : cells τ y = putL (cells τ x) j (asCells z)) : Sound P C o Γ σ .undef ((r, .arr e τ (xs.set i y)) :: σ) := by
  intro F ρ ac w R next Q hn
  obtain ⟨g, c, hρ, hv⟩ := (R.opd ha).ar_inv
  obtain ⟨cur, hg, hcs, hlen, hm, hcl, hr, _⟩ := R.cellsE hσ hρ
  have hz := (R.opd hb).asCells h1
  have hi : i < xs.length := (List.getElem?_eq_some_iff.1 hx).1
  have hbound : (i + 1) * width τ ≤ c.1 * width τ := Nat.mul_le_mul_right _ (by omega)
  have hbound' : (i + 1) * width τ ≤ xs.length * width τ := Nat.mul_le_mul_right _ hi
  have hcur : xs.length * width τ ≤ cur.size := by rw [hcs]; exact Nat.mul_le_mul_right _ hlen
  rw [Nat.succ_mul] at hbound hbound'
  have hrun : (execOp ac.eval o).run P w = .ok .skip (w.setRow g (cur.toList.take (i * width τ + j) ++ (ac.eval b).cells.toList ++ cur.toList.drop (i * width τ + j + (ac.eval b).cells.toList.length)).toArray) := by
    have hs := run_store_row (P := P) ht hg (k := i * width τ + j) (v := ac.eval b) (hz.1.trans hl) (oneL hz h1) (by rw [hcs]; omega)
    simp [execOp, ho, hv, Instr.storeAt, Instr.sureAddr, hs]
  unfold Oper.wp
  rw [hrun]
  have hal : (σ.at r).alive = true := by rw [Hp.at_of hσ]; rfl
  have hFg : ¬ F g := (R.own r g c hal hρ).1
  have hzl : (ac.eval b).cells.toList.length = size := hz.1.trans hl
  have hflat : flat τ (xs.set i y) = (flat τ xs).take (i * width τ + j) ++ asCells z ++ (flat τ xs).drop (i * width τ + j + (asCells z).length) := by
    apply List.ext_getElem?
    intro q
    have hfl := flat_length τ xs
    by_cases hq : q < xs.length * width τ
    · have hq1 : q / width τ < xs.length := Nat.div_lt_of_lt_mul (by rwa [Nat.mul_comm])
      have hq2 : q % width τ < width τ := Nat.mod_lt _ (width_pos τ)
      have hqe : q = q / width τ * width τ + q % width τ := by rw [Nat.mul_comm]; exact (Nat.div_add_mod q (width τ)).symm
      generalize q / width τ = qi at hq1 hqe
      generalize q % width τ = qj at hq2 hqe
      subst hqe
      by_cases e1 : qi = i
      · subst e1
        rw [flat_at τ (xs.set qi y) qi y (by simp [hi]) qj hq2, hy, putL_eq _ _ _ (by rw [cells_length, hl]; exact hfit)]
        have hfa : ∀ p, p < width τ → (flat τ xs)[qi * width τ + p]? = (cells τ x)[p]? := fun p hp => flat_at τ xs qi x hx p hp
        by_cases h1 : qj < j
        · rw [List.append_assoc, List.getElem?_append_left (by simp [cells_length]; omega), List.getElem?_take, if_pos h1, List.append_assoc, List.getElem?_append_left (by simp [hfl]; omega), List.getElem?_take, if_pos (by omega), hfa qj hq2]
        · by_cases h2 : qj < j + size
          · rw [List.append_assoc, List.getElem?_append_right (by simp [cells_length]; omega), List.getElem?_append_left (by simp [cells_length, hl]; omega), List.append_assoc, List.getElem?_append_right (by simp [hfl]; omega), List.getElem?_append_left (by simp [hfl, hl]; omega)]
            congr 1
            simp [cells_length, hfl]
            omega
          · rw [List.getElem?_append_right (by simp [cells_length, hl]; omega), List.getElem?_drop, List.getElem?_append_right (by simp [hfl, hl]; omega), List.getElem?_drop]
            have e1 : (j + (asCells z).length + (qj - (List.take j (cells τ x) ++ asCells z).length)) = qj := by simp [cells_length, hl]; omega
            have e2 : (qi * width τ + j + (asCells z).length + (qi * width τ + qj - (List.take (qi * width τ + j) (flat τ xs) ++ asCells z).length)) = qi * width τ + qj := by simp [hfl, hl]; omega
            rw [e1, e2, hfa qj hq2]
      · obtain ⟨u, hu⟩ : ∃ u, xs[qi]? = some u := ⟨xs[qi], List.getElem?_eq_getElem hq1⟩
        rw [flat_at τ (xs.set i y) qi u (by rw [List.getElem?_set_ne (fun h => e1 h.symm)]; exact hu) qj hq2, ← flat_at τ xs qi u hu qj hq2]
        rcases Nat.lt_or_gt_of_ne e1 with h | h
        · have : (qi + 1) * width τ ≤ i * width τ := Nat.mul_le_mul_right _ h
          rw [Nat.succ_mul] at this
          rw [List.append_assoc, List.getElem?_append_left (by simp [hfl]; omega), List.getElem?_take, if_pos (by omega)]
        · have : (i + 1) * width τ ≤ qi * width τ := Nat.mul_le_mul_right _ h
          rw [Nat.succ_mul] at this
          rw [List.getElem?_append_right (by simp [hfl, hl]; omega), List.getElem?_drop]
          congr 1
          simp [hfl, hl]
          omega
    · rw [List.getElem?_eq_none (by rw [flat_length]; simp; omega), List.getElem?_eq_none (by simp [hfl, hl]; omega)]
  have hbx : Boxed F ρ (w.setRow g (cur.toList.take (i * width τ + j) ++ (ac.eval b).cells.toList ++ cur.toList.drop (i * width τ + j + (ac.eval b).cells.toList.length)).toArray) r (.arr e τ (xs.set i y)) := by
    refine .inr ⟨g, c, _, hρ, setRow_heap w g _ _ e _ hg, ?_, by simpa using hlen, hm, by simpa using hcl, ?_⟩
    · simp [hzl]
      omega
    · rw [hflat]
      have := (hr.put hz (i * width τ + j)).mono (F' := F) (ρ' := ρ) (w' := w.setRow g (cur.toList.take (i * width τ + j) ++ (ac.eval b).cells.toList ++ cur.toList.drop (i * width τ + j + (ac.eval b).cells.toList.length)).toArray) (fun _ h => h) (fun q hq => setRow_other w g q _ fun e => hFg (e ▸ hq)) fun _ _ => rfl
      have e2 : List.take ((xs.set i y).length * width τ) (List.toArray (cur.toList.take (i * width τ + j) ++ (ac.eval b).cells.toList ++ cur.toList.drop (i * width τ + j + (ac.eval b).cells.toList.length))).toList =
          List.take (i * width τ + j) (cur.toList.take (xs.length * width τ)) ++ (ac.eval b).cells.toList ++ List.drop (i * width τ + j + (ac.eval b).cells.toList.length) (cur.toList.take (xs.length * width τ)) := by
        simp only [List.length_set, List.toList_toArray]
        exact take_put cur.toList _ _ _ (by rw [hzl]; omega) (by simpa using hcur)
      rw [e2]
      exact this
  have R' := R.setBox (w' := w.setRow g (cur.toList.take (i * width τ + j) ++ (ac.eval b).cells.toList ++ cur.toList.drop (i * width τ + j + (ac.eval b).cells.toList.length)).toArray) hal hρ rfl rfl rfl rfl (size_setRow _ _ _) (fun q hq => setRow_other w g q _ hq) hbx (by rw [Hp.at_of hσ]; rfl) fun h => by simp [Box.isC] at h
  have e0 : upd Γ o.dst (PV.undef : PV Ty) = Γ := by rw [hd]; rfl
  have e' : ac.put o.dst Go.undef = ac := by rw [hd]; rfl
  exact hn F ρ Go.undef _ (fun _ h => h) (by rw [e0, e']; exact R')
end
end Go.Rf
end
section
/- Rows that grow; rows that are made; rows that are no longer written. -/
set_option linter.unusedVariables false
set_option linter.unusedSimpArgs false
set_option linter.unusedSectionVars false
namespace Go.Rf
open Go GU GC Go.RowKit
variable {Ty : Type} [GU Ty] [GC Ty]

theorem flat_one (τ : Ty) (xs : List (den τ)) : (flat τ xs).all PV.one = true := by
  simp only [flat, List.all_flatMap]
  exact List.all_eq_true.2 fun x _ => cells_one τ x

/-- What is appended: a slice value, and what its elements are. -/
def Src (F : Nat → Prop) (ρ : Rho) (w : World) (τ : Ty) (ys : List (den τ)) (v : Value) : Prop :=
  ∃ A c news, v = .slice A ys.length c ∧ RepL F ρ w (flat τ ys) news ∧ (ys = [] ∨ ∃ a, A = some a ∧ ∀ (j : Nat) (u : Value), news[j]? = some u → w.cell? (a.add j) = some u)

theorem src_of {F : Nat → Prop} {ρ : Rho} {w : World} {τ : Ty} {ys : List (den τ)} {A : Option Addr} {c g o : Nat} (hA : ys ≠ [] → A = some ⟨g, o, none⟩ ∧ F g)
    (hc : ∀ (i : Nat) (x : den τ), ys[i]? = some x → ∀ (j : Nat) (y : PV Ty), (cells τ x)[j]? = some y → ∃ u, w.cell? ⟨g, o + (i * width τ + j), none⟩ = some u ∧ Rep F ρ w y u) : Src F ρ w τ ys (.slice A ys.length c) := by
  obtain ⟨vs, hvs, hcs⟩ := cellsOf (F := F) (ρ := ρ) (w := w) (g := g) (flat τ ys) o (fun j y hy => by
    have hj : j < ys.length * width τ := by rw [← flat_length]; exact (List.getElem?_eq_some_iff.1 hy).1
    have hq1 : j / width τ < ys.length := Nat.div_lt_of_lt_mul (by rwa [Nat.mul_comm])
    have hq2 : j % width τ < width τ := Nat.mod_lt _ (width_pos τ)
    have hqe : j = j / width τ * width τ + j % width τ := by rw [Nat.mul_comm]; exact (Nat.div_add_mod j (width τ)).symm
    generalize j / width τ = qi at hq1 hqe
    generalize j % width τ = qj at hq2 hqe
    subst hqe
    obtain ⟨x, hx⟩ : ∃ x, ys[qi]? = some x := ⟨ys[qi], List.getElem?_eq_getElem hq1⟩
    rw [flat_at τ ys qi x hx qj hq2] at hy
    exact hc qi x hx qj y hy)
  refine ⟨A, c, vs, rfl, hvs, ?_⟩
  by_cases h : ys = []
  · exact .inl h
  · refine .inr ⟨⟨g, o, none⟩, (hA h).1, fun j u hu => ?_⟩
    rw [add_mk]
    exact hcs j u hu
theorem src_sl {F : Nat → Prop} {ρ : Rho} {w : World} {τ : Ty} {ys : List (den τ)} {v : Value} (h : Rep F ρ w (PV.sl τ ys) v) : Src F ρ w τ ys v := by
  obtain ⟨A, c, rfl, _, g, o, hA, hc⟩ := h.sl_inv
  exact src_of hA hc
theorem src_sf {F : Nat → Prop} {ρ : Rho} {w : World} {τ : Ty} {ys : List (den τ)} {v : Value} (h : Rep F ρ w (PV.sf τ ys) v) : Src F ρ w τ ys v := src_sl h.sf_sl


/-- The whole of a row. -/
theorem src_mf {C : Ctx Ty} {F : Nat → Prop} {ρ : Rho} {Γ : Env Ty} {σ : Hp Ty} {a : Act} {w : World} (R : Rel C F ρ Γ σ a w) {τ : Ty} {r : Nat} {v : Value} {e : TypeId} {xs : List (den τ)} (h : Rep F ρ w (PV.mf (Ty := Ty) (width τ) r) v)
    (hσ : lookH σ r = some (.arr e τ xs)) : Src F ρ w τ xs v := by
  have hb := R.box r
  rw [Hp.at_of hσ] at hb
  rcases h.mf_inv with ⟨hρ, rfl⟩ | ⟨g, c, hρ, rfl⟩
  · rcases hb with ⟨_, rfl⟩ | ⟨g', c', cur, h1, _⟩
    · exact ⟨none, 0, [], by simp, by simp [flat]; exact .nil, .inl rfl⟩
    · rw [hρ] at h1
      simp at h1
  · obtain ⟨cur, hg, hcs, hlen, hm, hcl, hr, hc⟩ := R.cellsE hσ hρ
    refine ⟨some ⟨g, 0, none⟩, c.1, _, by rw [hcl], hr, .inr ⟨_, rfl, fun j u hu => ?_⟩⟩
    rw [add_mk, Nat.zero_add, cell_of_row w g j cur e (0, 0) hg]
    rw [List.getElem?_take] at hu
    split at hu
    · simpa using hu
    · simp at hu

theorem turn_undef {F F' : Nat → Prop} {ρ ρ' : Rho} {w w' : World} {r : Nat} (hF : ∀ k, F k → F' k) (hw : ∀ k, F k → w'.heap[k]? = w.heap[k]?) (hρ : ∀ q, q ≠ r → ρ' q = ρ q) : Turn F F' ρ ρ' w w' r (PV.undef : PV Ty) :=
  ⟨hF, hw, hρ, fun _ v _ => .undef v⟩
def forget (r : Nat) : Env Ty → Env Ty := frzE r .undef
def forgetH (r : Nat) : Hp Ty → Hp Ty := frzH r .undef

/-- What is said of a run that appends. -/
structure AppRun (P : Program) (w : World) (m : Value → Sem Value) (e size bytes : Nat) (z : Value) (n : Nat) (news : List Value) : Prop where
  zero : n = 0 → (m (.slice none 0 0)).run P w = .ok (.slice none 0 0) w ∧ ∀ a k c, k ≤ c → (m (.slice (some a) k c)).run P w = .ok (.slice (some a) k c) w
  nil : 0 < n → (n : Int) ≤ 9223372036854775807 → n * bytes ≤ 281474976710656 → (m (.slice none 0 0)).run P w = .ok (.slice (some ⟨w.heap.size, 0, none⟩) n (grownCap w n 0 e)) (w.drew.alloc (.cells (news.toArray ++ Builtin.zeroCells z.cells (grownCap w n 0 e - n)) e))
  room : ∀ (g sLen sCap : Nat) (cur : Array Value), 0 < n → w.heap[g]? = some (.cells cur e (0, 0)) → sLen + n ≤ sCap → sLen * size + news.length ≤ cur.size → (m (.slice (some ⟨g, 0, none⟩) sLen sCap)).run P w = .ok (.slice (some ⟨g, 0, none⟩) (sLen + n) sCap) (w.setRow g (cur.toList.take (sLen * size) ++ news ++ cur.toList.drop (sLen * size + news.length)).toArray)
  grow : ∀ (b : Addr) (sLen sCap : Nat) (olds : List Value), olds.length = sLen * size → (∀ (j : Nat) (v : Value), olds[j]? = some v → w.cell? (b.add j) = some v) → sCap < sLen + n → ((sLen + n : Nat) : Int) ≤ 9223372036854775807 → Builtin.nextslicecap (sLen + n) sCap * bytes ≤ 281474976710656 →
    (m (.slice (some b) sLen sCap)).run P w = .ok (.slice (some ⟨w.heap.size, 0, none⟩) (sLen + n) (grownCap w (sLen + n) sCap e)) (w.drew.alloc (.cells (olds.toArray ++ news.toArray ++ Builtin.zeroCells z.cells (grownCap w (sLen + n) sCap e - (sLen + n))) e))
theorem appRun_slice {P : Program} {F : Nat → Prop} {ρ : Rho} {w : World} {t e ty bytes : Nat} {ag : Bool} {zs : List Value} {τ : Ty} {ys : List (den τ)} (ht : P.underlying t = some (.slice e)) (he : TyOK P e (width τ) bytes ag zs) {y : Value} (hy : Src F ρ w τ ys y) :
    ∃ z news, z.cells.toList = zs ∧ RepL F ρ w (flat τ ys) news ∧ AppRun P w (fun v => Builtin.append_ #[t, t] ty #[v, y]) e (width τ) bytes z ys.length news := by
  obtain ⟨i, z, hi, hsz, hby, hz, hzz⟩ := he.info
  obtain ⟨A, c, news, rfl, hnews, hA⟩ := hy
  have hnl : news.length = ys.length * i.size := by rw [hsz, hnews.1, flat_length]
  have h1 := oneL hnews (flat_one τ ys)
  refine ⟨z, news, hzz, hnews, ⟨fun h0 => ?_, fun hpos h63 h48 => ?_, fun g sLen sCap cur hpos hg hroom hfit => ?_, fun b sLen sCap olds hlo hol hlt h63 hfit => ?_⟩⟩
  · have hys : ys = [] := List.eq_nil_of_length_eq_zero h0
    subst hys
    have : news = [] := List.eq_nil_of_length_eq_zero (by simpa using hnl)
    refine ⟨?_, fun a k c' hle => ?_⟩
    · cases A <;> simp [Builtin.append_, run_underlying ht, sizeOf, typeInfo, hi, Builtin.lenOf, Builtin.firstCells, loadCells, loadCellsFrom]
    · cases A <;> simp [Builtin.append_, run_underlying ht, sizeOf, typeInfo, hi, Builtin.lenOf, hle, Builtin.firstCells, loadCells, loadCellsFrom, storeCells]
  · obtain ⟨a, rfl, ha⟩ := hA.resolve_left (fun h => by rw [h] at hpos; simp at hpos)
    exact run_append_nil (P := P) w t ty e i z ht hi hz a ys.length c news hnl ha hpos h63 (by rw [hby]; exact h48)
  · obtain ⟨a, rfl, ha⟩ := hA.resolve_left (fun h => by rw [h] at hpos; simp at hpos)
    have := run_append_room (P := P) w t ty e i ht hi g sLen sCap cur hg a ys.length c news hnl ha h1 hroom (by rw [hsz]; exact hfit)
    rw [hsz] at this
    exact this
  · by_cases hys : ys = []
    · subst hys
      have : news = [] := List.eq_nil_of_length_eq_zero (by simpa using hnl)
      subst this
      rcases hA with _ | ⟨a, rfl, ha⟩
      · cases A with
        | some a => exact run_append_grow (P := P) w t ty e i z ht hi hz b sLen sCap olds (by rw [hsz]; exact hlo) hol a 0 c [] (by simp) (by simp) hlt h63 (by rw [hby]; exact hfit)
        | none =>
          have hf0 : (Builtin.firstCells i.size 0 (.slice none 0 c)).run P w.drew = .ok #[] w.drew := by simp [Builtin.firstCells]
          have hn : ¬ (sLen ≤ sCap) := by simpa using hlt
          have h63' : ¬ (9223372036854775807 < (sLen : Int)) := by simpa using h63
          have h48' : ¬ (281474976710656 < Builtin.nextslicecap sLen sCap * i.bytes) := by rw [hby]; simpa using hfit
          have hfo := run_firstCells_some (P := P) w.drew i.size sLen b sLen sCap olds (by rw [hsz]; exact hlo) (by simpa using hol)
          simp [Builtin.append_, run_underlying ht, sizeOf, typeInfo, zeroValue, hi, hz, Builtin.lenOf, hn, h63', h48', Question.forced, hf0, hfo, newRow, grownCap]
      · exact run_append_grow (P := P) w t ty e i z ht hi hz b sLen sCap olds (by rw [hsz]; exact hlo) hol a 0 c [] (by simp) (by simp) hlt h63 (by rw [hby]; exact hfit)
    · obtain ⟨a, rfl, ha⟩ := hA.resolve_left hys
      exact run_append_grow (P := P) w t ty e i z ht hi hz b sLen sCap olds (by rw [hsz]; exact hlo) hol a ys.length c news hnl ha hlt h63 (by rw [hby]; exact hfit)
theorem append_coreG {P : Program} {C : Ctx Ty} {F : Nat → Prop} {ρ : Rho} {Γ : Env Ty} {σ : Hp Ty} {ac : Act} {w : World} (R : Rel C F ρ Γ σ ac w) {e bytes : Nat} {τ : Ty} {r : Nat} {xs ys : List (den τ)} {m : Value → Sem Value} {z : Value} {news : List Value}
    (hzc : z.cells.size = width τ) (hσ : lookH σ r = some (.arr e τ xs)) (hfx : C.fx r = none) {v : Value} (hv : Rep F ρ w (PV.mf (Ty := Ty) (width τ) r) v) (hnews : RepL F ρ w (flat τ ys) news) (hm' : AppRun P w m e (width τ) bytes z ys.length news)
    (hb : (xs.length + ys.length) * bytes ≤ 140737488355328) (hm : xs.length + ys.length ≤ maxLen) :
    ∃ v' w' ρ', (m v).run P w = .ok v' w' ∧ Rel C F ρ' (forget r Γ) ((r, .arr e τ (xs ++ ys)) :: forgetH r σ) ac w' ∧ Rep F ρ' w' (PV.mf (Ty := Ty) (width τ) r) v' ∧ (∀ q, q ≠ r → ρ' q = ρ q) ∧ (∀ k, k < w.heap.size → (∀ c, ρ r ≠ some (k, c)) → w'.heap[k]? = w.heap[k]?) := by
  have hnl : news.length = ys.length * width τ := by rw [hnews.1, flat_length]
  have hal : (σ.at r).alive = true := by rw [Hp.at_of hσ]; rfl
  have hmi : ((xs.length + ys.length : Nat) : Int) ≤ 9223372036854775807 := by simp only [maxLen] at hm; omega
  have hbx := R.box r
  rw [Hp.at_of hσ] at hbx
  -- nothing is appended
  by_cases hys : ys = []
  · subst hys
    refine ⟨v, w, ρ, ?_, ?_, by simpa using hv, fun _ _ => rfl, fun _ _ _ => rfl⟩
    · rcases hv.mf_inv with ⟨_, rfl⟩ | ⟨g, cc, hρ, rfl⟩
      · exact (hm'.zero rfl).1
      · obtain ⟨cur, _, _, hlen, _, hcl, _⟩ := R.cellsE hσ hρ
        exact (hm'.zero rfl).2 _ _ _ (by omega)
    · refine R.turn (turn_undef (fun _ h => h) (fun _ _ => rfl) fun _ _ => rfl) rfl rfl rfl (Nat.le_refl _) hal (fun _ _ _ => rfl) (fun k hk => .inl hk) hfx ?_ fun k cc _ h => .inl ⟨cc, h⟩
      simpa using hbx
  · have hpos : 0 < ys.length := List.length_pos_iff.2 hys
    -- a new block
    have grown : ∀ (old : Nat) (olds : List Value), RepL F ρ w (flat τ xs) olds → old < xs.length + ys.length →
        Rel C F (setRho ρ r (some (w.heap.size, (grownCap w (xs.length + ys.length) old e, xs.length + ys.length)))) (forget r Γ) ((r, .arr e τ (xs ++ ys)) :: forgetH r σ) ac
          (w.drew.alloc (.cells (olds.toArray ++ news.toArray ++ Builtin.zeroCells z.cells (grownCap w (xs.length + ys.length) old e - (xs.length + ys.length))) e)) ∧
        Rep F (setRho ρ r (some (w.heap.size, (grownCap w (xs.length + ys.length) old e, xs.length + ys.length)))) (w.drew.alloc (.cells (olds.toArray ++ news.toArray ++ Builtin.zeroCells z.cells (grownCap w (xs.length + ys.length) old e - (xs.length + ys.length))) e))
          (PV.mf (Ty := Ty) (width τ) r) (.slice (some ⟨w.heap.size, 0, none⟩) (xs.length + ys.length) (grownCap w (xs.length + ys.length) old e)) := by
      intro old olds holds hlt
      have hge := grownCap_ge w (xs.length + ys.length) old e
      have hcm := grownCap_le_maxLen w (xs.length + ys.length) old e hm
      generalize hob : (Obj.cells (olds.toArray ++ news.toArray ++ Builtin.zeroCells z.cells (grownCap w (xs.length + ys.length) old e - (xs.length + ys.length))) e) = ob
      generalize hcap : grownCap w (xs.length + ys.length) old e = cap at *
      have hold : ∀ k, k < w.heap.size → (w.drew.alloc ob).heap[k]? = w.heap[k]? := fun k hk => alloc_old w.drew ob k hk
      have hnew : (w.drew.alloc ob).heap[w.heap.size]? = some ob := alloc_new w.drew ob
      have hFw : ∀ k, F k → (w.drew.alloc ob).heap[k]? = w.heap[k]? := fun k hk => hold k (R.Flt k hk)
      refine ⟨R.turn (turn_undef (fun _ h => h) hFw fun q hq => setRho_ne ρ _ hq) rfl rfl rfl (by rw [alloc_size]; exact Nat.le_succ _) hal (fun k hk _ => hold k hk) (fun k hk => .inl hk) hfx ?_ fun k cc _ h => ?_, ?_⟩
      · refine .inr ⟨w.heap.size, (cap, xs.length + ys.length), _, setRho_same _ _ _, by rw [hnew, ← hob], ?_, by simpa using hge, hcm, by simp, ?_⟩
        · have h1 : olds.length = xs.length * width τ := by rw [holds.1, flat_length]
          simp [size_zeroCells, h1, hnl, hzc]
          rw [← Nat.add_mul, ← Nat.add_mul]
          congr 1
          omega
        · have h1 : olds.length = xs.length * width τ := by rw [holds.1, flat_length]
          have e1 : List.take ((xs ++ ys).length * width τ) (olds.toArray ++ news.toArray ++ Builtin.zeroCells z.cells (cap - (xs.length + ys.length))).toList = olds ++ news := by
            have : (xs ++ ys).length * width τ = (olds ++ news).length := by simp [h1, hnl, Nat.add_mul]
            rw [this]
            simp only [Array.toList_append]
            exact List.take_left
          rw [e1, flat_append]
          exact (holds.append hnews).mono (fun _ h => h) hFw fun q hq => setRho_ne ρ _ fun hqr => by
            have happ : labelsL (flat τ xs ++ flat τ ys) = [] := by rw [← flat_append, flat_labels]
            rw [happ] at hq
            simp at hq
      · rw [setRho_same] at h
        simp at h
        exact .inr (by omega)
      · exact Rep.mf (Ty := Ty) (F := F) (w := w.drew.alloc ob) (ρ := setRho ρ r (some (w.heap.size, (cap, xs.length + ys.length)))) (width τ) r w.heap.size (cap, xs.length + ys.length) (setRho_same _ _ _)
    rcases hv.mf_inv with ⟨hρ, rfl⟩ | ⟨g, cc, hρ, rfl⟩
    · have hx : xs = [] := by
        rcases hbx with ⟨_, h⟩ | ⟨g', c', cur, h1, _⟩
        · exact h
        · rw [hρ] at h1
          simp at h1
      subst hx
      have hr := hm'.nil hpos (by simpa using hmi) (by simp at hb; omega)
      obtain ⟨g1, g2⟩ := grown 0 [] (by simp [flat]; exact .nil) (by omega)
      simp only [List.length_nil, Nat.zero_add] at g1 g2 ⊢
      exact ⟨_, _, _, by simpa using hr, by simpa using g1, by simpa using g2, fun q hq => setRho_ne ρ _ hq, fun k hk _ => alloc_old w.drew _ k hk⟩
    · obtain ⟨cur, hg, hcs, hlen, hcm, hcl, hrep, _⟩ := R.cellsE hσ hρ
      rw [hcl]
      by_cases hroom : xs.length + ys.length ≤ cc.1
      · have hfit : xs.length * width τ + news.length ≤ cur.size := by rw [hnl, hcs, ← Nat.add_mul]; exact Nat.mul_le_mul_right _ hroom
        have hr := hm'.room g xs.length cc.1 cur hpos hg hroom hfit
        have hFg : ¬ F g := (R.own r g cc hal hρ).1
        have hFw : ∀ k, F k → (w.setRow g (cur.toList.take (xs.length * width τ) ++ news ++ cur.toList.drop (xs.length * width τ + news.length)).toArray).heap[k]? = w.heap[k]? := fun k hk => setRow_other w g k _ fun e => hFg (e ▸ hk)
        refine ⟨_, _, setRho ρ r (some (g, (cc.1, xs.length + ys.length))), hr, R.turn (turn_undef (fun _ h => h) hFw fun q hq => setRho_ne ρ _ hq) rfl rfl rfl (by rw [size_setRow]; exact Nat.le_refl _) hal (fun k hk hne => setRow_other w g k _ fun e => hne cc (by rw [hρ, e])) (fun k hk => .inl hk) hfx ?_ fun k c' _ h => .inl ⟨cc, by rw [setRho_same] at h; simp at h; rw [hρ, h.1]⟩, ?_, fun q hq => setRho_ne ρ _ hq, fun k hk hne => setRow_other w g k _ fun e => hne cc (by rw [hρ, e])⟩
        · refine .inr ⟨g, (cc.1, xs.length + ys.length), _, setRho_same _ _ _, setRow_heap w g cur _ e _ hg, ?_, by simpa using hroom, hcm, by simp, ?_⟩
          · simp only [List.size_toArray, List.length_append, List.length_take, List.length_drop, Array.length_toList]
            omega
          · have e1 : List.take ((xs ++ ys).length * width τ) (cur.toList.take (xs.length * width τ) ++ news ++ cur.toList.drop (xs.length * width τ + news.length)).toArray.toList = cur.toList.take (xs.length * width τ) ++ news := by
              have hl : (cur.toList.take (xs.length * width τ) ++ news).length = (xs ++ ys).length * width τ := by
                simp [hnl, Nat.add_mul]
                omega
              rw [← hl]
              simp only [List.toList_toArray]
              exact List.take_left
            rw [e1, flat_append]
            exact (hrep.append hnews).mono (fun _ h => h) hFw fun q hq => by
              have happ : labelsL (flat τ xs ++ flat τ ys) = [] := by rw [← flat_append, flat_labels]
              rw [happ] at hq
              simp at hq
        · exact Rep.mf (Ty := Ty) (F := F) (ρ := setRho ρ r (some (g, (cc.1, xs.length + ys.length)))) (width τ) r g (cc.1, xs.length + ys.length) (setRho_same _ _ _)
      · have hol : ∀ (j : Nat) (u : Value), (cur.toList.take (xs.length * width τ))[j]? = some u → w.cell? ((⟨g, 0, none⟩ : Addr).add j) = some u := by
          intro j u hu
          rw [add_mk, Nat.zero_add, cell_of_row w g j cur e (0, 0) hg]
          rw [List.getElem?_take] at hu
          split at hu
          · simpa using hu
          · simp at hu
        have hr := hm'.grow ⟨g, 0, none⟩ xs.length cc.1 (cur.toList.take (xs.length * width τ)) (by rw [hrep.1, flat_length]) hol (by omega) hmi (growslice_fits (by omega) hb)
        obtain ⟨g1, g2⟩ := grown cc.1 _ hrep (by omega)
        exact ⟨_, _, _, hr, g1, g2, fun q hq => setRho_ne ρ _ hq, fun k hk _ => alloc_old w.drew _ k hk⟩
theorem append_core {P : Program} {C : Ctx Ty} {F : Nat → Prop} {ρ : Rho} {Γ : Env Ty} {σ : Hp Ty} {ac : Act} {w : World} (R : Rel C F ρ Γ σ ac w) {t e ty bytes : Nat} {ag : Bool} {zs : List Value} {τ : Ty} {r : Nat} {xs ys : List (den τ)}
    (ht : P.underlying t = some (.slice e)) (he : TyOK P e (width τ) bytes ag zs) (hσ : lookH σ r = some (.arr e τ xs)) (hfx : C.fx r = none) {v y : Value} (hv : Rep F ρ w (PV.mf (Ty := Ty) (width τ) r) v) (hy : Src F ρ w τ ys y)
    (hb : (xs.length + ys.length) * bytes ≤ 140737488355328) (hm : xs.length + ys.length ≤ maxLen) :
    ∃ v' w' ρ', (Builtin.append_ #[t, t] ty #[v, y]).run P w = .ok v' w' ∧ Rel C F ρ' (forget r Γ) ((r, .arr e τ (xs ++ ys)) :: forgetH r σ) ac w' ∧ Rep F ρ' w' (PV.mf (Ty := Ty) (width τ) r) v' ∧ (∀ q, q ≠ r → ρ' q = ρ q) ∧ (∀ k, k < w.heap.size → (∀ c, ρ r ≠ some (k, c)) → w'.heap[k]? = w.heap[k]?) := by
  obtain ⟨z, news, hzz, hnews, hr⟩ := appRun_slice (ty := ty) ht he hy
  exact append_coreG R (by rw [← Array.length_toList, hzz, he.zl]) hσ hfx hv hnews hr hb hm
end Go.Rf
end
section
/- Appends, slices of slices, literals, structs, conversions between texts and bytes. -/
set_option linter.unusedVariables false
set_option linter.unusedSimpArgs false
set_option linter.unusedSectionVars false
namespace Go.Rf
open Go GU GC Go.RowKit
variable {Ty : Type} [GU Ty] [GC Ty]

section
variable {P : Program} {C : Ctx Ty} {o : Oper} {Γ : Env Ty} {σ : Hp Ty}
variable (hd : ∀ d, o.dst = some d → d < C.nt)
include hd

/-! ### Parts of structs -/
theorem ok_loadRT {t size bytes : Nat} {zs : List Value} {a : Operand} {cs ds : List (PV Ty)} (ho : o.op = .load t a) (ht : TyOK P t size bytes true zs) (ha : opd C.glob Γ a = some (.rp cs)) (h0 : size ≠ 0) (hl : takeO cs 0 size = some ds) : Sound P C o Γ σ (.agg ds) σ := by
  obtain ⟨h1, h, _⟩ := takeO_eq hl
  rw [List.drop_zero] at h1
  subst h1
  exact ok_loadRP hd ho ht ha (by rcases h with h | h <;> omega)
theorem ok_loadVT {t size bytes : Nat} {zs : List Value} {a : Operand} {r k : Nat} {bt : TypeId} {cs ds : List (PV Ty)} (ho : o.op = .load t a) (ht : TyOK P t size bytes true zs) (ha : opd C.glob Γ a = some (.ref r k)) (hσ : lookH σ r = some (.cells bt cs)) (h0 : size ≠ 0) (hl : takeO cs k size = some ds) : Sound P C o Γ σ (.agg ds) σ := by
  obtain ⟨rfl, h, _⟩ := takeO_eq hl
  exact ok_loadVP hd ho ht ha hσ (by rcases h with h | h <;> omega)

/-! ### append -/
omit hd in
theorem append_run {P : Program} {ac : Act} {w : World} {a b : Operand} {t : TypeId} (ho : o.op = .call { callee := .builtin .append, args := #[a, b], argTypes := #[t, t] }) :
    (execOp ac.eval o).run P w = ((Builtin.append_ #[t, t] o.type #[ac.eval a, ac.eval b]).run P w).andThen fun v w' => .ok (.value v) w' := by
  simp [execOp, ho, resolve, invoke, builtin]
/-- To a row that its holder alone writes. -/
theorem ok_append {t e bytes : Nat} {ag : Bool} {zs : List Value} {a b : Operand} {τ : Ty} {r : Nat} {xs ys : List (den τ)} {y : PV Ty} (ho : o.op = .call { callee := .builtin .append, args := #[a, b], argTypes := #[t, t] }) (ht : P.underlying t = some (.slice e)) (he : TyOK P e (width τ) bytes ag zs)
    (ha : opd C.glob Γ a = some (.mf (width τ) r)) (hσ : lookH σ r = some (.arr e τ xs)) (hfx : C.fx r = none) (hb : opd C.glob Γ b = some y) (hy : ∀ F ρ ac w, Rel C F ρ Γ σ ac w → Rep F ρ w y (ac.eval b) → Src F ρ w τ ys (ac.eval b))
    (hbytes : (xs.length + ys.length) * bytes ≤ 140737488355328) (hm : xs.length + ys.length ≤ maxLen) : SoundG P C o Γ σ (.mf (width τ) r) (forget r Γ) ((r, .arr e τ (xs ++ ys)) :: forgetH r σ) := by
  intro F ρ ac w R next Q hnx
  obtain ⟨v', w', ρ', hrun, R', hx, _, _⟩ := append_core (P := P) R ht he hσ hfx (R.opd ha) (hy F ρ ac w R (R.opd hb)) hbytes hm (ty := o.type)
  unfold Oper.wp
  rw [append_run ho, hrun]
  exact hnx F ρ' v' w' (fun _ h => h) (R'.put hd hx)
omit hd in
theorem Rel.relabel {F : Nat → Prop} {ρ ρ' : Rho} {ac : Act} {w w' : World} {r d e : Nat} {τ : Ty} {xs zs : List (den τ)} (R : Rel C F ρ Γ σ ac w) (hσ : lookH σ r = some (.arr e τ xs)) (R' : Rel C F ρ' (forget r Γ) ((r, .arr e τ zs) :: forgetH r σ) ac w')
    (hρ : ∀ q, q ≠ r → ρ' q = ρ q) (hk : ∀ k, k < w.heap.size → (∀ c, ρ r ≠ some (k, c)) → w'.heap[k]? = w.heap[k]?) (hΓ : noM d Γ = true) (hs : noMH d σ = true) (hfx : C.fx r = none) :
    Rel C F (setRho ρ d (ρ' r)) Γ ((d, .arr e τ zs) :: (r, .dead) :: σ) ac w' := by
  obtain ⟨hl, hdead⟩ := noMH_at hs
  have hal : (σ.at r).alive = true := by rw [Hp.at_of hσ]; rfl
  have hdr : d ≠ r := by
    rintro rfl
    rw [hal] at hdead
    simp at hdead
  have hFk : ∀ k, F k → w'.heap[k]? = w.heap[k]? := fun k hF => hk k (R.Flt k hF) fun c h => (R.own r k c hal h).1 hF
  have halive : ∀ q, q ≠ r → (Hp.at ((r, Box.arr e τ zs) :: forgetH r σ) q).alive = (σ.at q).alive := by
    intro q hq
    rw [Hp.at_cons, if_neg (fun h => hq h.symm)]
    rw [show (forgetH r σ).at q = (σ.at q).frz r .undef from frzH_at r .undef σ q]
    cases σ.at q <;> rfl
  have hrr : ∀ {q g c}, q ≠ d → (Hp.at ((d, Box.arr e τ zs) :: (r, Box.dead) :: σ) q).alive = true → setRho ρ d (ρ' r) q = some (g, c) → q ≠ r ∧ ρ q = some (g, c) ∧ (σ.at q).alive = true := by
    intro q g c hq ha h
    rw [Hp.at_cons, if_neg (fun h => hq h.symm), Hp.at_cons] at ha
    by_cases e : r = q
    · rw [if_pos e] at ha
      simp [Box.alive] at ha
    · rw [if_neg e] at ha
      rw [setRho_ne ρ _ hq] at h
      exact ⟨fun h => e h.symm, h, ha⟩
  have hra : (Hp.at ((r, Box.arr e τ zs) :: forgetH r σ) r).alive = true := by rw [Hp.at_cons, if_pos rfl]; rfl
  refine ⟨R'.os, R'.tape, R'.output, R'.size, R'.keep, R'.F0, R'.Fold, R'.Flt, fun q => ?_, fun q q' g c c' ha ha' h h' => ?_, fun q g c ha h => ?_, fun s => (R.slot s).mono (fun _ h => h) hFk fun q hq => setRho_ne ρ _ fun h => noM_at hΓ s (h ▸ hq), R'.tsize, R'.defers, fun p hp => ⟨(R.glob p hp).1.mono (fun _ h => h) hFk fun q hq => ?_, (R.glob p hp).2⟩, ?_⟩
  rotate_right
  · have hnr : ∀ q, C.fx q ≠ none → q ≠ r := fun q h e => h (e ▸ hfx)
    have hnd : ∀ q, C.fx q ≠ none → q ≠ d := fun q h e => h (e ▸ R.fixd.ne hdead)
    refine R.fixd.mono (fun q _ hq => (setRho_ne ρ _ (hnd q hq))) (fun q ha hq => ?_) fun q k c ha hq hρq => hk k (R.ltV ha hρq) fun c' h' => hnr q hq (R.inj q r k c c' ha hal hρq h')
    rw [Hp.at_cons, if_neg (fun h => hnd q hq h.symm), Hp.at_cons, if_neg (fun h => hnr q hq h.symm)]
    exact ⟨ha, rfl⟩
  · rw [Hp.at_cons]
    split
    · rename_i e'
      subst e'
      have := R'.box r
      rw [Hp.at_cons, if_pos rfl] at this
      rcases this with ⟨h1, h2⟩ | ⟨g, c, cur, h1, h2, h3, h4, h5, h6, h7⟩
      · exact .inl ⟨(setRho_same _ _ _).trans h1, h2⟩
      · exact .inr ⟨g, c, cur, (setRho_same _ _ _).trans h1, h2, h3, h4, h5, h6, h7.mono (fun _ h => h) (fun _ _ => rfl) fun q hq => by rw [flat_labels] at hq; simp at hq⟩
    · rename_i e'
      rw [Hp.at_cons]
      split
      · trivial
      · rename_i e2
        exact (R.box q).mono (fun _ h => h) hFk (setRho_ne ρ _ fun h => e' h.symm) (fun p hp => setRho_ne ρ _ fun h => hl q (h ▸ hp)) fun g c ha h => hk g (R.ltV ha h) fun c' h' => e2 (R.inj r q g c' c hal ha h' h)
  · by_cases e1 : q = d
    · by_cases e2 : q' = d
      · rw [e1, e2]
      · subst e1
        rw [setRho_same] at h
        obtain ⟨h1, h2, h3⟩ := hrr e2 ha' h'
        have := R'.inj r q' g c c' hra (by rw [halive q' h1]; exact h3) h (by rw [hρ q' h1]; exact h2)
        exact absurd this.symm h1
    · obtain ⟨h1, h2, h3⟩ := hrr e1 ha h
      by_cases e2 : q' = d
      · subst e2
        rw [setRho_same] at h'
        have := R'.inj r q g c' c hra (by rw [halive q h1]; exact h3) h' (by rw [hρ q h1]; exact h2)
        exact absurd this.symm h1
      · obtain ⟨h4, h5, h6⟩ := hrr e2 ha' h'
        exact R.inj q q' g c c' h3 h6 h2 h5
  · by_cases e1 : q = d
    · subst e1
      rw [setRho_same] at h
      exact R'.own r g c hra h
    · obtain ⟨h1, h2, h3⟩ := hrr e1 ha h
      exact R'.own q g c (by rw [halive q h1]; exact h3) (by rw [hρ q h1]; exact h2)
  · simp only [PV.labels] at hq
    rw [(R.glob p hp).2] at hq
    simp at hq
/-- An append that hands back a row with a new label; the old label is done with. -/
theorem ok_appendL (d : Nat) {t e bytes : Nat} {ag : Bool} {zs : List Value} {a b : Operand} {τ : Ty} {r : Nat} {xs ys : List (den τ)} {y : PV Ty} (ho : o.op = .call { callee := .builtin .append, args := #[a, b], argTypes := #[t, t] }) (ht : P.underlying t = some (.slice e)) (he : TyOK P e (width τ) bytes ag zs)
    (ha : opd C.glob Γ a = some (.mf (width τ) r)) (hσ : lookH σ r = some (.arr e τ xs)) (hfx : C.fx r = none) (hb : opd C.glob Γ b = some y) (hy : ∀ F ρ ac w, Rel C F ρ Γ σ ac w → Rep F ρ w y (ac.eval b) → Src F ρ w τ ys (ac.eval b))
    (hbytes : (xs.length + ys.length) * bytes ≤ 140737488355328) (hm : xs.length + ys.length ≤ maxLen) (hΓ : noM d Γ = true) (hs : noMH d σ = true) : Sound P C o Γ σ (.mf (width τ) d) ((d, .arr e τ (xs ++ ys)) :: (r, .dead) :: σ) := by
  intro F ρ ac w R next Q hnx
  obtain ⟨v', w', ρ', hrun, R', hx, hρ, hk⟩ := append_core (P := P) R ht he hσ hfx (R.opd ha) (hy F ρ ac w R (R.opd hb)) hbytes hm (ty := o.type)
  unfold Oper.wp
  rw [append_run ho, hrun]
  refine hnx F _ v' w' (fun _ h => h) ((R.relabel hσ R' hρ hk hΓ hs hfx).put hd ?_)
  rcases hx.mf_inv with ⟨h, rfl⟩ | ⟨g, c, h, rfl⟩
  · exact .mfNil _ _ ((setRho_same _ _ _).trans h)
  · exact Rep.mf _ _ g c ((setRho_same _ _ _).trans h)
theorem ok_appendS {t e bytes : Nat} {ag : Bool} {zs : List Value} {a b : Operand} {τ : Ty} {r : Nat} {xs ys : List (den τ)} (ho : o.op = .call { callee := .builtin .append, args := #[a, b], argTypes := #[t, t] }) (ht : P.underlying t = some (.slice e)) (he : TyOK P e (width τ) bytes ag zs)
    (ha : opd C.glob Γ a = some (.mf (width τ) r)) (hσ : lookH σ r = some (.arr e τ xs)) (hfx : C.fx r = none) (hb : opd C.glob Γ b = some (.sl τ ys))
    (hbytes : (xs.length + ys.length) * bytes ≤ 140737488355328) (hm : xs.length + ys.length ≤ maxLen) : SoundG P C o Γ σ (.mf (width τ) r) (forget r Γ) ((r, .arr e τ (xs ++ ys)) :: forgetH r σ) :=
  ok_append hd ho ht he ha hσ hfx hb (fun F ρ ac w _ h => src_sl h) hbytes hm
theorem ok_appendF {t e bytes : Nat} {ag : Bool} {zs : List Value} {a b : Operand} {τ : Ty} {r : Nat} {xs ys : List (den τ)} (ho : o.op = .call { callee := .builtin .append, args := #[a, b], argTypes := #[t, t] }) (ht : P.underlying t = some (.slice e)) (he : TyOK P e (width τ) bytes ag zs)
    (ha : opd C.glob Γ a = some (.mf (width τ) r)) (hσ : lookH σ r = some (.arr e τ xs)) (hfx : C.fx r = none) (hb : opd C.glob Γ b = some (.sf τ ys))
    (hbytes : (xs.length + ys.length) * bytes ≤ 140737488355328) (hm : xs.length + ys.length ≤ maxLen) : SoundG P C o Γ σ (.mf (width τ) r) (forget r Γ) ((r, .arr e τ (xs ++ ys)) :: forgetH r σ) :=
  ok_append hd ho ht he ha hσ hfx hb (fun F ρ ac w _ h => src_sf h) hbytes hm

theorem ok_appendA {t e e' bytes : Nat} {ag : Bool} {zs : List Value} {a b : Operand} {τ : Ty} {r q : Nat} {xs ys : List (den τ)} (ho : o.op = .call { callee := .builtin .append, args := #[a, b], argTypes := #[t, t] }) (ht : P.underlying t = some (.slice e)) (he : TyOK P e (width τ) bytes ag zs)
    (ha : opd C.glob Γ a = some (.mf (width τ) r)) (hσ : lookH σ r = some (.arr e τ xs)) (hfx : C.fx r = none) (hb : opd C.glob Γ b = some (.mf (width τ) q)) (hq : lookH σ q = some (.arr e' τ ys))
    (hbytes : (xs.length + ys.length) * bytes ≤ 140737488355328) (hm : xs.length + ys.length ≤ maxLen) : SoundG P C o Γ σ (.mf (width τ) r) (forget r Γ) ((r, .arr e τ (xs ++ ys)) :: forgetH r σ) :=
  ok_append hd ho ht he ha hσ hfx hb (fun F ρ ac w R h => src_mf R h hq) hbytes hm
theorem ok_lenA {t : TypeId} {a : Operand} {wd r : Nat} {e e' : TypeId} {τ : Ty} {xs : List (den τ)} (ho : o.op = .call { callee := .builtin .len, args := #[a], argTypes := #[t] }) (ht : P.underlying t = some (.slice e)) (ha : opd C.glob Γ a = some (.mf wd r)) (hσ : lookH σ r = some (.arr e' τ xs)) : Sound P C o Γ σ (.int .i64 xs.length) σ :=
  .of_value hd fun F ρ ac w R => by
    have hb := R.box r
    rw [Hp.at_of hσ] at hb
    refine ⟨.int .i64 xs.length, ?_, .int _ _⟩
    rcases (R.opd ha).mf_inv with ⟨hρ, hv⟩ | ⟨g, c, hρ, hv⟩
    · rcases hb with ⟨_, rfl⟩ | ⟨g', c', cur, h1, _⟩
      · simp [execOp, ho, resolve, invoke, builtin, hv, Builtin.len_, run_underlying ht, goInt]
      · rw [hρ] at h1
        simp at h1
    · obtain ⟨cur, _, _, _, _, hcl, _⟩ := R.cellsE hσ hρ
      simp [execOp, ho, resolve, invoke, builtin, hv, Builtin.len_, run_underlying ht, goInt, hcl]
theorem ok_indexA {t e e' size bytes : Nat} {ag : Bool} {zs : List Value} {a b : Operand} {k : IntKind} {i : Int} {r : Nat} {τ : Ty} {xs : List (den τ)} (ho : o.op = .indexAddr t a b) (ht : P.underlying t = some (.slice e)) (he : TyOK P e size bytes ag zs)
    (ha : opd C.glob Γ a = some (.mf size r)) (hσ : lookH σ r = some (.arr e' τ xs)) (hb : opd C.glob Γ b = some (.int k i)) (h0 : 0 ≤ i) (hx : i < xs.length) : Sound P C o Γ σ (.ar size r i.toNat 0) σ :=
  .of_value hd fun F ρ ac w R => by
    have hbx := R.box r
    rw [Hp.at_of hσ] at hbx
    rcases (R.opd ha).mf_inv with ⟨hρ, hv⟩ | ⟨g, c, hρ, hv⟩
    · rcases hbx with ⟨_, rfl⟩ | ⟨g', c', cur, h1, _⟩
      · simp at hx
        omega
      · rw [hρ] at h1
        simp at h1
    · obtain ⟨cur, _, _, _, _, hcl, _⟩ := R.cellsE hσ hρ
      refine ⟨.pointer (some ⟨g, i.toNat * size + 0, none⟩), ?_, .ar size r i.toNat 0 g c hρ⟩
      have hx' : i < (c.2 : Int) := by rw [hcl]; exact hx
      simp [execOp, ho, hv, (R.opd hb).int_inv, Instr.indexAt, asIntOf, run_underlying ht, h0, hx', he.run_sizeOf, add_mk]

/-- To what never changes and has no room: in new memory, which never changes either. -/
theorem ok_appendNew {t e bytes : Nat} {ag : Bool} {zs : List Value} {a b : Operand} {τ : Ty} {xs ys : List (den τ)} {y : PV Ty} (ho : o.op = .call { callee := .builtin .append, args := #[a, b], argTypes := #[t, t] }) (ht : P.underlying t = some (.slice e)) (he : TyOK P e (width τ) bytes ag zs)
    (ha : opd C.glob Γ a = some (.sf τ xs)) (hb : opd C.glob Γ b = some y) (hy : ∀ F ρ ac w, Rel C F ρ Γ σ ac w → Rep F ρ w y (ac.eval b) → Src F ρ w τ ys (ac.eval b))
    (hbytes : (xs.length + ys.length) * bytes ≤ 140737488355328) (hm : xs.length + ys.length ≤ maxLen) : Sound P C o Γ σ (.sl τ (xs ++ ys)) σ := by
  intro F ρ ac w R next Q hnx
  obtain ⟨i, z, hi, hsz, hby, hz, hzz⟩ := he.info
  obtain ⟨A, c, news, hyv, hnews, hA⟩ := hy F ρ ac w R (R.opd hb)
  have hmi : ((xs.length + ys.length : Nat) : Int) ≤ 9223372036854775807 := by simp only [maxLen] at hm; omega
  obtain ⟨B, hav, g0, o0, hB, hc0⟩ := (R.opd ha).sf_inv
  unfold Oper.wp
  rw [append_run ho, hav, hyv]
  by_cases hys : ys = []
  · subst hys
    have hrun : (Builtin.append_ #[t, t] o.type #[.slice B xs.length xs.length, .slice A ([] : List (den τ)).length c]).run P w = .ok (.slice B xs.length xs.length) w := by
      cases A <;> cases B <;> simp [Builtin.append_, run_underlying ht, sizeOf, typeInfo, hi, Builtin.lenOf, Builtin.firstCells, loadCells, loadCellsFrom, storeCells]
    rw [hrun]
    refine hnx F ρ _ w (fun _ h => h) (R.put hd ?_)
    rw [← hav]
    have := (R.opd ha).sf_sl
    simpa using this
  · obtain ⟨ad, rfl, had⟩ := hA.resolve_left hys
    have hpos : 0 < ys.length := List.length_pos_iff.2 hys
    have hnl : news.length = ys.length * i.size := by rw [hsz, hnews.1, flat_length]
    obtain ⟨olds, holds, holdc⟩ : ∃ olds, RepL F ρ w (flat τ xs) olds ∧ (xs = [] ∨ ∃ a, B = some a ∧ ∀ (j : Nat) (u : Value), olds[j]? = some u → w.cell? (a.add j) = some u) := by
      obtain ⟨A', c', olds, h1, h2, h3⟩ := src_sf (R.opd ha)
      rw [hav] at h1
      simp at h1
      exact ⟨olds, h2, by rw [h1.1]; exact h3⟩
    have hol : olds.length = xs.length * i.size := by rw [hsz, holds.1, flat_length]
    have hge := grownCap_ge w (xs.length + ys.length) xs.length e
    obtain ⟨w1, hw1, hold, hnew⟩ : ∃ ob, (Builtin.append_ #[t, t] o.type #[.slice B xs.length xs.length, .slice (some ad) ys.length c]).run P w = .ok (.slice (some ⟨w.heap.size, 0, none⟩) (xs.length + ys.length) (grownCap w (xs.length + ys.length) xs.length e)) (w.drew.alloc ob) ∧
        True ∧ ob = .cells (olds.toArray ++ news.toArray ++ Builtin.zeroCells z.cells (grownCap w (xs.length + ys.length) xs.length e - (xs.length + ys.length))) e := by
      rcases holdc with rfl | ⟨a0, rfl, h0⟩
      · have h0 : olds = [] := List.eq_nil_of_length_eq_zero (by simpa using hol)
        subst h0
        cases B with
        | none => exact ⟨_, by simpa using run_append_nil (P := P) w t o.type e i z ht hi hz ad ys.length c news hnl had hpos (by simpa using hmi) (by rw [hby]; simp at hbytes; omega), trivial, by simp⟩
        | some b0 => exact ⟨_, by simpa using run_append_grow (P := P) w t o.type e i z ht hi hz b0 0 0 [] (by simp) (by simp) ad ys.length c news hnl had (by omega) (by simpa using hmi) (growslice_fits (by omega) (by rw [hby]; simpa using hbytes)), trivial, by simp⟩
      · exact ⟨_, run_append_grow (P := P) w t o.type e i z ht hi hz a0 xs.length xs.length olds hol h0 ad ys.length c news hnl had (by omega) hmi (growslice_fits (by omega) (by rw [hby]; exact hbytes)), trivial, rfl⟩
    rw [hw1]
    generalize hcap : grownCap w (xs.length + ys.length) xs.length e = cap at *
    have holdw : ∀ k, k < w.heap.size → (w.drew.alloc w1).heap[k]? = w.heap[k]? := fun k hk => alloc_old w.drew w1 k hk
    have hneww : (w.drew.alloc w1).heap[w.heap.size]? = some w1 := alloc_new w.drew w1
    have hFw : ∀ k, F k → (w.drew.alloc w1).heap[k]? = w.heap[k]? := fun k hk => holdw k (R.Flt k hk)
    have R1 : Rel C (fun k => F k ∨ k = w.heap.size) ρ Γ σ ac (w.drew.alloc w1) := by
      refine ⟨R.os, R.tape, R.output, by rw [alloc_size]; exact Nat.le_succ_of_le R.size, fun k hk hS => (holdw k (Nat.lt_of_lt_of_le hk R.size)).trans (R.keep k hk hS), fun k hk => .inl (R.F0 k hk), fun k hk => ?_, fun k hk => ?_, fun q => ?_, R.inj, fun q k c' ha' h => ⟨?_, (R.own q k c' ha' h).2⟩, fun s => (R.slot s).mono (fun _ h => .inl h) hFw fun _ _ => rfl, R.tsize, R.defers, fun p hp => ⟨(R.glob p hp).1.mono (fun _ h => .inl h) hFw fun _ _ => rfl, (R.glob p hp).2⟩, R.fixd.mono (fun _ _ _ => rfl) (fun _ ha _ => ⟨ha, rfl⟩) fun r g c ha _ h => holdw g (R.ltV ha h)⟩
      · rcases hk with hk | rfl
        · exact R.Fold k hk
        · exact .inr (.inr R.size)
      · rw [alloc_size]
        rcases hk with hk | rfl
        · exact Nat.lt_succ_of_lt (R.Flt k hk)
        · exact Nat.lt_succ_self _
      · exact (R.box q).mono (fun _ h => .inl h) hFw rfl (fun _ _ => rfl) fun g c' ha' h => holdw g (R.ltV ha' h)
      · rintro (h' | rfl)
        · exact (R.own q k c' ha' h).1 h'
        · exact absurd (R.ltV ha' h) (Nat.lt_irrefl _)
    refine hnx (fun k => F k ∨ k = w.heap.size) ρ _ _ (fun _ h => .inl h) (R1.put hd ?_)
    rw [← List.length_append]
    have hall : RepL (fun k => F k ∨ k = w.heap.size) ρ (w.drew.alloc w1) (flat τ (xs ++ ys)) (olds ++ news) := by
      rw [flat_append]
      exact (holds.append hnews).mono (fun _ h => .inl h) hFw fun _ _ => rfl
    refine .sl_mk (g := w.heap.size) (o := 0) (fun _ => ⟨rfl, .inr rfl⟩) (fun k x hx j u hu => ?_) (by simpa using hge)
    have hj : j < width τ := by rw [← cells_length τ x]; exact (List.getElem?_eq_some_iff.1 hu).1
    have hf := flat_at τ (xs ++ ys) k x hx j hj
    rw [hu] at hf
    have hlt : k * width τ + j < (olds ++ news).length := by
      rw [hall.1]
      exact (List.getElem?_eq_some_iff.1 hf).1
    refine ⟨(olds ++ news)[k * width τ + j], ?_, hall.2 _ u _ hf (List.getElem?_eq_getElem hlt)⟩
    rw [Nat.zero_add]
    subst hnew
    rw [cell_of_row _ w.heap.size _ _ e (0, 0) hneww]
    have e1 : olds.toArray ++ news.toArray ++ Builtin.zeroCells z.cells (cap - (xs.length + ys.length)) = ((olds ++ news) ++ (Builtin.zeroCells z.cells (cap - (xs.length + ys.length))).toList).toArray := by
      apply Array.ext'
      simp
    rw [e1]
    simp only [List.getElem?_toArray]
    rw [List.getElem?_append_left hlt, List.getElem?_eq_getElem hlt]
end
end Go.Rf
end
section
/- Slices of slices and texts; literals; structs; conversions. -/
set_option linter.unusedVariables false
set_option linter.unusedSimpArgs false
set_option linter.unusedSectionVars false
namespace Go.Rf
open Go GU GC Go.RowKit
variable {Ty : Type} [GU Ty] [GC Ty]

/-- The parts of a struct, or of a literal. -/
def opdP (G : List (Nat × List (PV Ty))) (Γ : Env Ty) : List (Nat × Operand) → Option (List (Nat × PV Ty))
  | [] => some []
  | (i, a) :: rest => match opd G Γ a, opdP G Γ rest with
    | some x, some xs => some ((i, x) :: xs)
    | _, _ => none
def RepP (F : Nat → Prop) (ρ : Rho) (w : World) : List (Nat × PV Ty) → List (Nat × Value) → Prop
  | [], [] => True
  | (i, x) :: xs, (j, v) :: vs => i = j ∧ Rep F ρ w x v ∧ RepP F ρ w xs vs
  | _, _ => False
theorem Rel.opdP {C : Ctx Ty} {F : Nat → Prop} {ρ : Rho} {Γ : Env Ty} {σ : Hp Ty} {a : Act} {w : World} (R : Rel C F ρ Γ σ a w) : ∀ {ps : List (Nat × Operand)} {xs : List (Nat × PV Ty)}, opdP C.glob Γ ps = some xs → RepP F ρ w xs (ps.map fun (i, x) => (i, a.eval x))
  | [], xs, h => by
    simp [Rf.opdP] at h
    subst h
    trivial
  | (i, b) :: ps, xs, h => by
    simp only [Rf.opdP] at h
    split at h
    · rename_i x ys hx hy
      simp at h
      subst h
      exact ⟨rfl, R.opd hx, R.opdP hy⟩
    · simp at h
/-- Parts laid into cells. -/
def fillP (place : Nat → Option (Nat × Nat)) (cs : List (PV Ty)) : List (Nat × PV Ty) → Option (List (PV Ty))
  | [] => some cs
  | (i, x) :: rest => match place i with
    | none => none
    | some (off, size) => match Nat.beq (asCells x).length size, putO cs off (asCells x) with
      | true, some cs' => fillP place cs' rest
      | _, _ => none
theorem foldl_put (v : Array Value) : ∀ (vs : List Value) (k off : Nat) (cs : Array Value), off + k + vs.length ≤ cs.size → (vs.zipIdx k).foldl (fun cs (p : Value × Nat) => cs.setIfInBounds (off + p.2) p.1) cs = (cs.toList.take (off + k) ++ vs ++ cs.toList.drop (off + k + vs.length)).toArray
  | [], k, off, cs, _ => by
    apply Array.ext'
    simp
  | u :: us, k, off, cs, h => by
    simp only [List.zipIdx_cons, List.foldl_cons]
    rw [foldl_put v us (k + 1) off (cs.setIfInBounds (off + k) u) (by simp at h ⊢; omega)]
    have e := list_seg_step cs.toList (off + k) u us (by simp at h ⊢; omega)
    simp only [Array.toList_setIfInBounds]
    rw [show off + (k + 1) = off + k + 1 by omega, e]
    rfl
theorem fill_rep {F : Nat → Prop} {ρ : Rho} {w : World} {place : Nat → Option (Nat × Nat)} : ∀ {ps : List (Nat × PV Ty)} {vs : List (Nat × Value)} {cs ds : List (PV Ty)} {us : Array Value}, RepP F ρ w ps vs → RepL F ρ w cs us.toList → (∀ p, p ∈ ps → (asCells p.2).all PV.one = true ∧ asCells p.2 ≠ []) → fillP place cs ps = some ds →
    ∃ r, Instr.fill place us vs = some r ∧ RepL F ρ w ds r.toList
  | [], [], cs, ds, us, _, hu, _, h => by
    simp [fillP] at h
    subst h
    exact ⟨us, rfl, hu⟩
  | [], _ :: _, cs, ds, us, hp, hu, _, h => by simp [RepP] at hp
  | _ :: _, [], cs, ds, us, hp, hu, _, h => by simp [RepP] at hp
  | (i, x) :: ps, (j, v) :: vs, cs, ds, us, hp, hu, h1, h => by
    obtain ⟨rfl, hx, hps⟩ := hp
    have hone := h1 (i, x) (by simp)
    simp only [fillP] at h
    split at h
    · simp at h
    · rename_i off size hpl
      split at h
      · rename_i cs' hsz hput
        have hsz' := Nat.eq_of_beq_eq_true hsz
        obtain ⟨rfl, hfit⟩ := putO_eq hone.2 hput
        have hxc := hx.asCells hone.1
        have hvl : v.cells.size = size := by rw [← Array.length_toList, hxc.1, hsz']
        have hfit' : off + v.cells.size ≤ us.size := by
          rw [hvl, ← hsz', ← Array.length_toList, hu.1]
          exact hfit
        have hus : RepL F ρ w (putL cs off (asCells x)) (v.cells.zipIdx.foldl (fun cs (p : Value × Nat) => cs.setIfInBounds (off + p.2) p.1) us).toList := by
          rw [← Array.foldl_toList, Array.toList_zipIdx, foldl_put v.cells v.cells.toList 0 off us (by simpa using hfit'), putL_eq _ _ _ hfit]
          simpa using hu.put hxc off
        obtain ⟨r, hr, hrr⟩ := fill_rep (place := place) hps hus (fun p hp => h1 p (by simp [hp])) h
        refine ⟨r, ?_, hrr⟩
        unfold Instr.fill
        simp only [hpl]
        rw [if_neg (by simp [hvl]; omega)]
        exact hr
      · simp at h

/-- A struct's fields: where each begins and how many cells it takes. -/
def buildPlaces (t : TypeId) : Sem (Array (Nat × Nat)) := do
  match ← underlying t with
  | .struct fields => fields.mapM fun f => do pure (f.offset, ← sizeOf f.type)
  | _ => stuck ""
structure Places (P : Program) (t : TypeId) (pl : List (Nat × Nat)) : Prop where
  st : (P.underlying t).map (fun | .struct _ => true | _ => false) = some true
  run : ∀ w, (buildPlaces t).run P w = .ok pl.toArray w

section
variable {P : Program} {C : Ctx Ty} {o : Oper} {Γ : Env Ty} {σ : Hp Ty}
variable (hd : ∀ d, o.dst = some d → d < C.nt)
include hd
/-- A struct by value. -/
theorem ok_build {t size bytes : Nat} {zs : List Value} {ps : Array (Nat × Operand)} {pl : List (Nat × Nat)} {zcs cs : List (PV Ty)} {xs : List (Nat × PV Ty)} (ho : o.op = .build t ps) (ht : TyOK P t size bytes true zs) (hz : cpvL zs = some zcs) (hpl : Places P t pl)
    (hps : opdP C.glob Γ ps.toList = some xs) (h1 : (xs.all fun p => (asCells p.2).all PV.one && !(asCells p.2).isEmpty) = true) (hf : fillP (fun i => pl[i]?) zcs xs = some cs) : Sound P C o Γ σ (.agg cs) σ :=
  .of_value hd fun F ρ ac w R => by
    obtain ⟨z, hzr, hzz⟩ := ht.run_zero w
    have hp := R.opdP hps
    obtain ⟨r, hr, hrr⟩ := fill_rep (place := fun i => pl[i]?) (us := z.cells) hp (by rw [hzz]; exact rep_cpvL hz) (fun p hp => by
      have := List.all_eq_true.1 h1 p hp
      simp only [Bool.and_eq_true, Bool.not_eq_true', List.isEmpty_eq_false_iff] at this
      exact this) hf
    refine ⟨.agg r, ?_, by have := hrr.agg; simpa using this⟩
    obtain ⟨d, hu, hst⟩ := Option.map_eq_some_iff.1 hpl.st
    cases d <;> simp at hst
    rename_i fs
    have hm := hpl.run w
    simp only [buildPlaces, Sem.run_bind, run_underlying hu, Result.andThen_ok] at hm
    have hr' : Instr.fill (pl.toArray[·]?) z.cells (List.map (fun x => (x.1, ac.eval x.2)) ps.toList) = some r := by
      rw [← hr]
      congr 1
      funext i
      simp
    simp only [execOp, ho, Instr.build, Sem.run_bind, hzr, Result.andThen_ok, run_underlying hu, hm]
    simp only [Array.toList_map]
    rw [hr']
    rfl
end
end Go.Rf
end
section
/- Literals of slices; makes; slices of slices and texts; conversions. -/
set_option linter.unusedVariables false
set_option linter.unusedSimpArgs false
set_option linter.unusedSectionVars false
namespace Go.Rf
open Go GU GC Go.RowKit
variable {Ty : Type} [GU Ty] [GC Ty]

/-- A new block that never changes. -/
theorem Rel.frozenBlock {C : Ctx Ty} {F : Nat → Prop} {ρ : Rho} {Γ : Env Ty} {σ : Hp Ty} {ac : Act} {w w1 : World} (R : Rel C F ρ Γ σ ac w) (hos : w1.os = w.os) (ht : w1.tape = w.tape) (hou : w1.output = w.output) (hs : w1.heap.size = w.heap.size + 1) (hh : ∀ k, k < w.heap.size → w1.heap[k]? = w.heap[k]?) :
    Rel C (fun k => F k ∨ k = w.heap.size) ρ Γ σ ac w1 := by
  have hFw : ∀ k, F k → w1.heap[k]? = w.heap[k]? := fun k hk => hh k (R.Flt k hk)
  refine ⟨hos.trans R.os, ht.trans R.tape, hou.trans R.output, by rw [hs]; exact Nat.le_succ_of_le R.size, fun k hk hS => (hh k (Nat.lt_of_lt_of_le hk R.size)).trans (R.keep k hk hS), fun k hk => .inl (R.F0 k hk), fun k hk => ?_, fun k hk => ?_, fun q => ?_, R.inj, fun q k c' ha' h => ⟨?_, (R.own q k c' ha' h).2⟩, fun s => (R.slot s).mono (fun _ h => .inl h) hFw fun _ _ => rfl, R.tsize, R.defers, fun p hp => ⟨(R.glob p hp).1.mono (fun _ h => .inl h) hFw fun _ _ => rfl, (R.glob p hp).2⟩, R.fixd.mono (fun _ _ _ => rfl) (fun _ ha _ => ⟨ha, rfl⟩) fun r g c ha _ h => hh g (R.ltV ha h)⟩
  · rcases hk with hk | rfl
    · exact R.Fold k hk
    · exact .inr (.inr R.size)
  · rw [hs]
    rcases hk with hk | rfl
    · exact Nat.lt_succ_of_lt (R.Flt k hk)
    · exact Nat.lt_succ_self _
  · exact (R.box q).mono (fun _ h => .inl h) hFw rfl (fun _ _ => rfl) fun g c' ha' h => hh g (R.ltV ha' h)
  · rintro (h' | rfl)
    · exact (R.own q k c' ha' h).1 h'
    · exact absurd (R.ltV ha' h) (Nat.lt_irrefl _)
/-- A row of elements that never change, in one block. -/
theorem row_cells {F : Nat → Prop} {ρ : Rho} {w : World} {τ : Ty} {xs : List (den τ)} {g : Nat} {cur : Array Value} {e : TypeId} {fr : Nat × Nat} {us : List Value} (hr : RepL F ρ w (flat τ xs) us) (hg : w.heap[g]? = some (.cells cur e fr)) (hu : us = cur.toList.take us.length) :
    ∀ (i : Nat) (x : den τ), xs[i]? = some x → ∀ (j : Nat) (y : PV Ty), (cells τ x)[j]? = some y → ∃ u, w.cell? ⟨g, 0 + (i * width τ + j), none⟩ = some u ∧ Rep F ρ w y u := by
  intro k x hx j u hu'
  have hj : j < width τ := by rw [← cells_length τ x]; exact (List.getElem?_eq_some_iff.1 hu').1
  have hf := flat_at τ xs k x hx j hj
  rw [hu'] at hf
  have hlt : k * width τ + j < us.length := by
    rw [hr.1]
    exact (List.getElem?_eq_some_iff.1 hf).1
  refine ⟨us[k * width τ + j], ?_, hr.2 _ u _ hf (List.getElem?_eq_getElem hlt)⟩
  rw [Nat.zero_add, cell_of_row w g _ cur e fr hg]
  have h1 : us[k * width τ + j]? = some us[k * width τ + j] := List.getElem?_eq_getElem hlt
  have h2 : (cur.toList.take us.length)[k * width τ + j]? = us[k * width τ + j]? := by rw [← hu]
  rw [List.getElem?_take, if_pos hlt, h1] at h2
  simpa using h2

/-- So many zero values. -/
def zrep : Nat → List (PV Ty) → List (PV Ty)
  | 0, _ => []
  | n + 1, zs => zs ++ zrep n zs
theorem zrep_length (zs : List (PV Ty)) : ∀ n, (zrep n zs).length = n * zs.length
  | 0 => by simp [zrep]
  | n + 1 => by simp [zrep, zrep_length zs n, Nat.succ_mul, Nat.add_comm]
theorem zrep_at (zs : List (PV Ty)) : ∀ n j, j < n * zs.length → (zrep n zs)[j]? = zs[j % zs.length]?
  | 0, j, h => by simp at h
  | n + 1, j, h => by
    simp only [zrep]
    by_cases hj : j < zs.length
    · rw [List.getElem?_append_left hj, Nat.mod_eq_of_lt hj]
    · rw [List.getElem?_append_right (by omega), zrep_at zs n (j - zs.length) (by rw [Nat.succ_mul] at h; omega)]
      congr 1
      exact (Nat.mod_eq_sub_mod (by omega)).symm
theorem zrep_rep {F : Nat → Prop} {ρ : Rho} {w : World} {zs : List (PV Ty)} {z : Array Value} (h : RepL F ρ w zs z.toList) (n : Nat) (h0 : 0 < z.size) : RepL F ρ w (zrep n zs) ((Array.range (n * z.size)).map (z[· % z.size]!)).toList := by
  have hl : z.size = zs.length := by have := h.1; simpa using this
  refine ⟨by simp [zrep_length, hl], fun j x v hx hv => ?_⟩
  have hj : j < n * zs.length := by rw [← zrep_length]; exact (List.getElem?_eq_some_iff.1 hx).1
  rw [zrep_at zs n j hj] at hx
  have hm : j % z.size < z.size := Nat.mod_lt _ h0
  have hv' : v = z[j % z.size] := by
    have h1 : ((Array.range (n * z.size)).map (z[· % z.size]!)).toList[j]? = some (z[j % z.size]!) := by
      simp [hl, hj]
    rw [h1] at hv
    simp [hm] at hv
    exact hv.symm
  refine h.2 (j % zs.length) x v hx ?_
  rw [hv', ← hl]
  simp [hm]

section
variable {P : Program} {C : Ctx Ty} {o : Oper} {Γ : Env Ty} {σ : Hp Ty}
variable (hd : ∀ d, o.dst = some d → d < C.nt)
include hd

/-- '[]T{..}', which never changes. -/
theorem ok_lit {t e size bytes len : Nat} {ag : Bool} {zs : List Value} {ps : Array (Nat × Operand)} {zcs : List (PV Ty)} {xs : List (Nat × PV Ty)} {τ : Ty} (ys : List (den τ)) (ho : o.op = .buildSlice t len ps) (ht : P.underlying t = some (.slice e)) (he : TyOK P e size bytes ag zs) (hz : cpvL zs = some zcs)
    (hw : size = width τ) (hps : opdP C.glob Γ ps.toList = some xs) (h1 : (xs.all fun p => (asCells p.2).all PV.one && !(asCells p.2).isEmpty) = true) (hlen : len = ys.length) (h0 : len ≠ 0) (hbig : len * size ≤ 16777216) (hf : fillP (fun i => some (i * size, size)) (zrep len zcs) xs = some (flat τ ys)) : Sound P C o Γ σ (.sf τ ys) σ := by
  intro F ρ ac w R next Q hnx
  have hwp := width_pos τ
  obtain ⟨i, z, hi, hsz, hby, hz', hzz⟩ := he.info
  have hzsz : z.cells.size = size := by rw [← Array.length_toList, hzz, he.zl]
  have hp := R.opdP hps
  have hz0 : RepL F ρ w zcs z.cells.toList := by rw [hzz]; exact rep_cpvL hz
  obtain ⟨r, hr, hrr⟩ := fill_rep (place := fun i => some (i * size, size)) (us := (Array.range (len * z.cells.size)).map (z.cells[· % z.cells.size]!)) hp (zrep_rep hz0 len (by omega)) (fun p hp => by
    have := List.all_eq_true.1 h1 p hp
    simp only [Bool.and_eq_true, Bool.not_eq_true', List.isEmpty_eq_false_iff] at this
    exact this) hf
  have hpos : ¬ len * i.size = 0 := by
    rw [hsz]
    exact Nat.ne_of_gt (Nat.mul_pos (Nat.pos_of_ne_zero h0) (by omega))
  have hrun : (execOp ac.eval o).run P w = .ok (.value (.slice (some ⟨w.heap.size, 0, none⟩) len len)) (w.alloc (.cells r e)) := by
    have hb := run_buildSlice (P := P) w t e len (ps.map fun (i, x) => (i, ac.eval x)) r i z ht hi hz' (by rw [hsz]; omega) hpos (by rw [hsz]; rw [hzsz] at hr; rw [hzsz]; simpa using hr)
    simp only [execOp, ho, Sem.run_bind, hb, Result.andThen_ok]
    rfl
  unfold Oper.wp
  rw [hrun]
  have hold : ∀ k, k < w.heap.size → (w.alloc (.cells r e)).heap[k]? = w.heap[k]? := fun k hk => alloc_old w _ k hk
  refine hnx (fun k => F k ∨ k = w.heap.size) ρ _ _ (fun _ h => .inl h) ((R.frozenBlock (w1 := w.alloc _) rfl rfl rfl (alloc_size w _) hold).put hd ?_)
  rw [hlen]
  have hall : RepL (fun k => F k ∨ k = w.heap.size) ρ (w.alloc (.cells r e)) (flat τ ys) r.toList := hrr.mono (fun _ h => .inl h) (fun k hk => hold k (R.Flt k hk)) fun _ _ => rfl
  exact .sf_mk (g := w.heap.size) (o := 0) (fun _ => ⟨rfl, .inr rfl⟩) (row_cells hall (alloc_new w _) (by rw [List.take_length]))
/-- '[]T{}', which will be appended to. -/
theorem ok_litM0 {d t e size bytes : Nat} {ag : Bool} {zs : List Value} {ps : Array (Nat × Operand)} (τ : Ty) (ho : o.op = .buildSlice t 0 ps) (hps : ps.toList = []) (ht : P.underlying t = some (.slice e)) (he : TyOK P e size bytes ag zs) (hΓ : noM d Γ = true) (hσ : noMH d σ = true) :
    Sound P C o Γ σ (.mf (width τ) d) ((d, .arr e τ []) :: σ) := by
  intro F ρ ac w R next Q hnx
  have hps' : ps = #[] := by cases ps; simp at hps; simp [hps]
  have hrun : (execOp ac.eval o).run P w = .ok (.value (.slice (some ⟨w.heap.size, 0, none⟩) 0 0)) (w.alloc (.cells #[] e)) := by
    simp only [execOp, ho, Instr.buildSlice, Sem.run_bind, run_underlying ht, Result.andThen_ok, he.run_sizeOf]
    simp [hps', newRow, Instr.fill, Array.range_zero']
  unfold Oper.wp
  rw [hrun]
  have hbx : Boxed F (setRho ρ d (some (w.heap.size, (0, 0)))) (w.alloc (.cells #[] e)) d (.arr e τ []) :=
    .inr ⟨w.heap.size, (0, 0), #[], setRho_same _ _ _, alloc_new w _, by simp, by simp, by simp [maxLen], rfl, by simp [flat]; exact .nil⟩
  refine hnx F _ _ _ (fun _ h => h) ((R.newA d (0, 0) hΓ hσ _ hbx).put hd ?_)
  exact Rep.mf (Ty := Ty) (F := F) (w := w.alloc (.cells #[] e)) (ρ := setRho ρ d (some (w.heap.size, (0, 0)))) (width τ) d w.heap.size (0, 0) (setRho_same _ _ _)

/-- 'make([]T, n)': so many zero values, in a row that its holder alone writes. -/
theorem ok_make {d t e size bytes : Nat} {ag : Bool} {zs : List Value} {zcs : List (PV Ty)} {a b : Operand} {k k' : IntKind} {n : Int} {τ : Ty} (z : den τ) (ho : o.op = .makeSlice t a b) (ht : P.underlying t = some (.slice e)) (he : TyOK P e size bytes ag zs) (hz : cpvL zs = some zcs) (hw : size = width τ)
    (ha : opd C.glob Γ a = some (.int k n)) (hb : opd C.glob Γ b = some (.int k' n)) (hzc : cells τ z = zcs) (h0 : 0 ≤ n) (hbytes : (bytes : Int) * n ≤ 281474976710656) (hm : n ≤ 9223372036854775807) (hΓ : noM d Γ = true) (hσ : noMH d σ = true) :
    Sound P C o Γ σ (.mf (width τ) d) ((d, .arr e τ (List.replicate n.toNat z)) :: σ) := by
  intro F ρ ac w R next Q hnx
  obtain ⟨i, zv, hi, hsz, hby, hz', hzz⟩ := he.info
  have hzsz : zv.cells.size = size := by rw [← Array.length_toList, hzz, he.zl]
  have hwp := width_pos τ
  have hrm := run_make (P := P) w t e i zv ht hi hz' k k' n n h0 (Int.le_refl _) (by rw [hby]; exact hbytes) hm
  have hrun : (execOp ac.eval o).run P w = .ok (.value (.slice (some ⟨w.heap.size, 0, none⟩) n.toNat n.toNat)) (w.alloc (.cells (madeCells zv.cells (n.toNat * i.size)) e)) := by
    simp only [execOp, ho, (R.opd ha).int_inv, (R.opd hb).int_inv, Sem.run_bind, hrm, Result.andThen_ok]
    rfl
  unfold Oper.wp
  rw [hrun]
  have hz0 : RepL F ρ w zcs zv.cells.toList := by rw [hzz]; exact rep_cpvL hz
  have hzr := zrep_rep hz0 n.toNat (by omega)
  have hfl : ∀ m, flat τ (List.replicate m z) = zrep m zcs := by
    intro m
    induction m with
    | zero => rfl
    | succ m ih => simp [List.replicate_succ, flat, zrep, hzc] at ih ⊢; simpa [flat] using ih
  have hbx : Boxed F (setRho ρ d (some (w.heap.size, (n.toNat, n.toNat)))) (w.alloc (.cells (madeCells zv.cells (n.toNat * i.size)) e)) d (.arr e τ (List.replicate n.toNat z)) := by
    refine .inr ⟨w.heap.size, (n.toNat, n.toNat), _, setRho_same _ _ _, alloc_new w _, by rw [size_madeCells, hsz, hw], by simp, by simp only [maxLen]; omega, by simp, ?_⟩
    rw [hfl]
    have e1 : List.take ((List.replicate n.toNat z).length * width τ) (madeCells zv.cells (n.toNat * i.size)).toList = ((Array.range (n.toNat * zv.cells.size)).map (zv.cells[· % zv.cells.size]!)).toList := by
      rw [List.take_of_length_le (by simp [size_madeCells, hsz, hw])]
      simp only [madeCells, hsz, hzsz]
    rw [e1]
    exact hzr.mono (fun _ h => h) (fun q hq => alloc_old w _ q (R.Flt q hq)) fun q hq => by
      rw [← hfl, flat_labels] at hq
      simp at hq
  refine hnx F _ _ _ (fun _ h => h) ((R.newA d (n.toNat, n.toNat) hΓ hσ _ hbx).put hd ?_)
  exact Rep.mf (Ty := Ty) (F := F) (w := w.alloc (.cells (madeCells zv.cells (n.toNat * i.size)) e)) (ρ := setRho ρ d (some (w.heap.size, (n.toNat, n.toNat)))) (width τ) d w.heap.size (n.toNat, n.toNat) (setRho_same _ _ _)

/-! ### Slices of texts and slices -/
omit hd in
theorem extract_mk (s : List UInt8) (l h : Nat) : (⟨s.toArray⟩ : ByteArray).extract l h = ⟨((s.take h).drop l).toArray⟩ := by
  apply ByteArray.ext
  simp [ByteArray.data_extract, List.drop_take]
omit hd in
theorem size_mk (s : List UInt8) : (⟨s.toArray⟩ : ByteArray).size = s.length := by show s.toArray.size = _; simp
theorem ok_cutLH {t : TypeId} {a b c : Operand} {l h : Int} {k k' : IntKind} {s : List UInt8} (ho : o.op = .slice t a (some b) (some c) none) (ht : P.underlying t = some .string) (ha : opd C.glob Γ a = some (.str s))
    (hb : opd C.glob Γ b = some (.int k l)) (hc : opd C.glob Γ c = some (.int k' h)) (h0 : 0 ≤ l) (h1 : l ≤ h) (h2 : h ≤ s.length) : Sound P C o Γ σ (.str ((s.take h.toNat).drop l.toNat)) σ :=
  .of_value hd fun F ρ ac w R => by
    have hh0 : 0 ≤ h := by omega
    have hmx : max h 0 = h := by omega
    have hr : (Instr.sliceAt t (.string ⟨s.toArray⟩) (some (.int k l)) (some (.int k' h)) none).run P w = .ok (.string ((⟨s.toArray⟩ : ByteArray).extract l.toNat h.toNat)) w := by
      simp [Instr.sliceAt, Instr.slice, Instr.sliceBounds, Instr.sliceBound, asIntOf, run_underlying ht, size_mk, hh0, h2, h0, hmx, h1]
    refine ⟨.string ((⟨s.toArray⟩ : ByteArray).extract l.toNat h.toNat), ?_, by rw [extract_mk]; exact .str _⟩
    simp only [execOp, ho, (R.opd ha).str_inv, Option.map_some, Option.map_none, (R.opd hb).int_inv, (R.opd hc).int_inv, Sem.run_bind, hr, Result.andThen_ok]
    rfl
theorem ok_cutL {t : TypeId} {a b : Operand} {l : Int} {k : IntKind} {s : List UInt8} (ho : o.op = .slice t a (some b) none none) (ht : P.underlying t = some .string) (ha : opd C.glob Γ a = some (.str s))
    (hb : opd C.glob Γ b = some (.int k l)) (h0 : 0 ≤ l) (h1 : l ≤ s.length) : Sound P C o Γ σ (.str (s.drop l.toNat)) σ :=
  .of_value hd fun F ρ ac w R => by
    have hr : (Instr.sliceAt t (.string ⟨s.toArray⟩) (some (.int k l)) none none).run P w = .ok (.string ((⟨s.toArray⟩ : ByteArray).extract l.toNat s.length)) w := by
      simp [Instr.sliceAt, Instr.slice, Instr.sliceBounds, Instr.sliceBound, asIntOf, run_underlying ht, size_mk, h0, h1]
    refine ⟨.string ((⟨s.toArray⟩ : ByteArray).extract l.toNat s.length), ?_, by rw [extract_mk, List.take_length]; exact .str _⟩
    simp only [execOp, ho, (R.opd ha).str_inv, Option.map_some, Option.map_none, (R.opd hb).int_inv, Sem.run_bind, hr, Result.andThen_ok]
    rfl
theorem ok_cutH {t : TypeId} {a c : Operand} {h : Int} {k' : IntKind} {s : List UInt8} (ho : o.op = .slice t a none (some c) none) (ht : P.underlying t = some .string) (ha : opd C.glob Γ a = some (.str s))
    (hc : opd C.glob Γ c = some (.int k' h)) (h1 : 0 ≤ h) (h2 : h ≤ s.length) : Sound P C o Γ σ (.str (s.take h.toNat)) σ :=
  .of_value hd fun F ρ ac w R => by
    have hr : (Instr.sliceAt t (.string ⟨s.toArray⟩) none (some (.int k' h)) none).run P w = .ok (.string ((⟨s.toArray⟩ : ByteArray).extract 0 h.toNat)) w := by
      simp [Instr.sliceAt, Instr.slice, Instr.sliceBounds, Instr.sliceBound, asIntOf, run_underlying ht, size_mk, h1, h2]
    refine ⟨.string ((⟨s.toArray⟩ : ByteArray).extract 0 h.toNat), ?_, by rw [extract_mk, List.drop_zero]; exact .str _⟩
    simp only [execOp, ho, (R.opd ha).str_inv, Option.map_some, Option.map_none, (R.opd hc).int_inv, Sem.run_bind, hr, Result.andThen_ok]
    rfl
omit hd in
theorem run_sliceS {P : Program} {t e size bytes : Nat} {ag : Bool} {zs : List Value} (ht : P.underlying t = some (.slice e)) (he : TyOK P e size bytes ag zs) (A : Option Addr) (n c : Nat) (lo hi mx : Option Value) (l h m : Nat) (w : World) (hb : (Instr.sliceBounds true n c lo hi mx).run P w = .ok (l, h, m) w) :
    (Instr.sliceAt t (.slice A n c) lo hi mx).run P w = .ok (.slice (if m = l then A else A.map (·.add (l * size))) (h - l) (m - l)) w := by
  simp [Instr.sliceAt, Instr.slice, run_underlying ht, hb, he.run_sizeOf]
omit hd in
theorem bounds_HM {P : Program} {n c : Nat} {k k' : IntKind} {h m : Int} (w : World) (h1 : 0 ≤ h) (h2 : h ≤ m) (h3 : m ≤ c) : (Instr.sliceBounds true n c none (some (.int k h)) (some (.int k' m))).run P w = .ok (0, h.toNat, m.toNat) w := by
  have hh0 : 0 ≤ m := by omega
  have hmx : max m 0 = m := by omega
  simp [Instr.sliceBounds, Instr.sliceBound, asIntOf, h1, h2, h3, hh0, hmx]
/-- 'xs[:len(xs):len(xs)]': no room is left. -/
theorem ok_full {t e size bytes : Nat} {ag : Bool} {zs : List Value} {a b c : Operand} {τ : Ty} {xs : List (den τ)} {h m : Int} {k k' : IntKind} (ho : o.op = .slice t a none (some b) (some c)) (ht : P.underlying t = some (.slice e)) (he : TyOK P e size bytes ag zs) (hw : size = width τ) (ha : opd C.glob Γ a = some (.sl τ xs))
    (hb : opd C.glob Γ b = some (.int k h)) (hc : opd C.glob Γ c = some (.int k' m)) (hh : h = xs.length) (hm : m = xs.length) : Sound P C o Γ σ (.sf τ xs) σ :=
  .of_value hd fun F ρ ac w R => by
    obtain ⟨A, cc, hv, hcap, g, q, hA, hcc⟩ := (R.opd ha).sl_inv
    have hbd := bounds_HM (P := P) (n := xs.length) (c := cc) (k := k) (k' := k') (h := h) (m := m) w (by omega) (by omega) (by omega)
    have hr := run_sliceS (P := P) ht he A xs.length cc _ _ _ _ _ _ w hbd
    have e1 : h.toNat = xs.length := by omega
    have e2 : m.toNat = xs.length := by omega
    refine ⟨.slice A xs.length xs.length, ?_, .sf_mk hA hcc⟩
    simp only [execOp, ho, hv, Option.map_some, Option.map_none, (R.opd hb).int_inv, (R.opd hc).int_inv, Sem.run_bind, hr, Result.andThen_ok, e1, e2, Nat.sub_zero]
    cases A <;> simp [Addr.add] <;> rfl
end
end Go.Rf
end
section
/- How code goes on: regions, tests, loops, the end of a call; what is known is told anew or forgotten. -/
set_option linter.unusedVariables false
set_option linter.unusedSimpArgs false
set_option linter.unusedSectionVars false
namespace Go.Rf
open Go GU GC Go.RowKit
variable {Ty : Type} [GU Ty] [GC Ty]

/-- How a call ends: with a value, in a memory that fits. -/
def Post (C : Ctx Ty) (F : Nat → Prop) (Q : PV Ty → Hp Ty → Prop) : Ending → World → Prop
  | .returned v, w => ∃ F' ρ' x σ' a, Q x σ' ∧ (∀ g, F g → F' g) ∧ Rel C F' ρ' [] σ' a w ∧ Rep F' ρ' w x v
  | _, _ => False
theorem Post.mono {C : Ctx Ty} {F F' : Nat → Prop} {Q : PV Ty → Hp Ty → Prop} {e : Ending} {w : World} (h : ∀ g, F g → F' g) (hp : Post C F' Q e w) : Post C F Q e w := by
  cases e with
  | returned v =>
    obtain ⟨F1, ρ', x, σ', a, hq, hF, hR, hx⟩ := hp
    exact ⟨F1, ρ', x, σ', a, hq, fun g hg => hF g (h g hg), hR, hx⟩
  | panicked c => exact hp
  | outgrown => exact hp

/-- From here on: with these items left, from each frame and memory that fit, the call comes to its end as Q says. -/
def AK (P : Program) (C : Ctx Ty) (f : FuncId) (ks : List Item) (Γ : Env Ty) (σ : Hp Ty) (Q : PV Ty → Hp Ty → Prop) : Prop :=
  ∀ F ρ a w (b : Frame) (cs : List Frame), b.fn = f → b.kind = .normal → Rel C F ρ Γ σ a w →
    ∃ e w' fr, Post C F Q e w' ∧ Comes P (lone (b.at a ks) cs w) (lone fr cs w') e ∧ fr.fn = f ∧ fr.leaving P w' e

section
variable {P : Program} {C : Ctx Ty} {f : FuncId} {ks : List Item} {Γ : Env Ty} {σ : Hp Ty} {Q : PV Ty → Hp Ty → Prop}

theorem AK.step {ks' : List Item} (hs : ∀ (b : Frame) (a : Act) (cs : List Frame) (w : World), step P (lone (b.at a ks) cs w) = .next (lone (b.at a ks') cs w)) (h : AK P C f ks' Γ σ Q) : AK P C f ks Γ σ Q := by
  intro F ρ a w b cs hb hk R
  obtain ⟨e, w', fr, hp, hc, hfn, hl⟩ := h F ρ a w b cs hb hk R
  exact ⟨e, w', fr, hp, .of_steps (.one (hs b a cs w)) hc, hfn, hl⟩
theorem ak_seq {x y : Code} (h : AK P C f (.code x :: .code y :: ks) Γ σ Q) : AK P C f (.code (.seq x y) :: ks) Γ σ Q := h.step fun _ _ _ _ => step_seq
theorem ak_skip (h : AK P C f ks Γ σ Q) : AK P C f (.code .skip :: ks) Γ σ Q := h.step fun _ _ _ _ => step_skip
theorem ak_block {id : Nat} {c : Code} (h : AK P C f (.code c :: .inBlock id :: ks) Γ σ Q) : AK P C f (.code (.block id c) :: ks) Γ σ Q := h.step fun _ _ _ _ => step_block
theorem ak_inBlock {id : Nat} (h : AK P C f ks Γ σ Q) : AK P C f (.inBlock id :: ks) Γ σ Q := h.step fun _ _ _ _ => step_inBlock
theorem ak_inLoop {c : Code} (h : AK P C f (.code c :: .inLoop c :: ks) Γ σ Q) : AK P C f (.inLoop c :: ks) Γ σ Q := h.step fun _ _ _ _ => step_inLoop
theorem ak_loop {c : Code} (h : AK P C f (.code c :: .inLoop c :: ks) Γ σ Q) : AK P C f (.code (.loop c) :: ks) Γ σ Q := h.step fun _ _ _ _ => step_loop
theorem ak_exit {id : Nat} {ks' : List Item} (he : exitTo id ks = some ks') (h : AK P C f ks' Γ σ Q) : AK P C f (.code (.exit id) :: ks) Γ σ Q := h.step fun _ _ _ _ => step_exit he
theorem ak_cond {c : Operand} {x y : Code} {t : Bool} (hc : opd C.glob Γ c = some (.bool t)) (h1 : t = true → AK P C f (.code x :: ks) Γ σ Q) (h2 : t = false → AK P C f (.code y :: ks) Γ σ Q) : AK P C f (.code (.cond c x y) :: ks) Γ σ Q := by
  intro F ρ a w b cs hb hk R
  have hv := (R.opd hc).bool_inv
  have hs := step_cond (P := P) (b := b) (a := a) (k := ks) (cs := cs) (w := w) (x := x) (y := y) hv
  cases t with
  | true =>
    obtain ⟨e, w', fr, hp, hcm, hfn, hl⟩ := h1 rfl F ρ a w b cs hb hk R
    exact ⟨e, w', fr, hp, .of_steps (.one hs) hcm, hfn, hl⟩
  | false =>
    obtain ⟨e, w', fr, hp, hcm, hfn, hl⟩ := h2 rfl F ρ a w b cs hb hk R
    exact ⟨e, w', fr, hp, .of_steps (.one hs) hcm, hfn, hl⟩

/-! ### Operations in the text's order -/
/-- Several operations, one behind the other, that come to one of some states. -/
def SeqS (P : Program) (C : Ctx Ty) (ops : Array Oper) (l : List Oper) (Γ : Env Ty) (σ : Hp Ty) (S : Env Ty → Hp Ty → Prop) : Prop :=
  ∀ F ρ a w, Rel C F ρ Γ σ a w → ∀ (Q : Exit → Act → World → Prop), (∀ F' ρ' a' w' Γ' σ', (∀ g, F g → F' g) → S Γ' σ' → Rel C F' ρ' Γ' σ' a' w' → Q .normal a' w') → wpList P ops Q l a w
theorem SeqS.nil {ops : Array Oper} {S : Env Ty → Hp Ty → Prop} (h : S Γ σ) : SeqS P C ops [] Γ σ S := fun F ρ a w R Q hq => hq F ρ a w Γ σ (fun _ h => h) h R
theorem SeqS.cons {ops : Array Oper} {o : Oper} {l : List Oper} {x : PV Ty} {Γ1 : Env Ty} {σ1 : Hp Ty} {S : Env Ty → Hp Ty → Prop} (hg : o.guard = none) (h : SoundG P C o Γ σ x Γ1 σ1) (t : SeqS P C ops l (upd Γ1 o.dst x) σ1 S) : SeqS P C ops (o :: l) Γ σ S := by
  intro F ρ a w R Q hq
  refine wpList_plain hg fun K hK => h F ρ a w R K Q fun F1 ρ1 v w1 hF R1 => hK _ _ (t F1 ρ1 _ w1 R1 Q fun F2 ρ2 a2 w2 Γ2 σ2 hF2 hS R2 => hq F2 ρ2 a2 w2 Γ2 σ2 (fun g hg => hF2 g (hF g hg)) hS R2)
/-- One way where a test holds, another one where it doesn't. -/
theorem SeqS.split {ops : Array Oper} {l : List Oper} {S : Env Ty → Hp Ty → Prop} (e : Bool) (h1 : e = true → SeqS P C ops l Γ σ S) (h2 : e = false → SeqS P C ops l Γ σ S) : SeqS P C ops l Γ σ S := by
  cases h : e with
  | true => exact h1 h
  | false => exact h2 h
theorem ak_regionS {id : Nat} {ops : Array Oper} (hs : SeqS P C ops ops.toList Γ σ (fun Γ' σ' => AK P C f ks Γ' σ' Q)) : AK P C f (.code (.region id ops false) :: ks) Γ σ Q := by
  intro F ρ a w b cs hb hk R
  have hwp := wp_region_list (P := P) (id := id) (ops := ops) (a := a) (w := w) (Q := fun e a' w' => e = .normal ∧ ∃ F' ρ' Γ' σ', (∀ g, F g → F' g) ∧ AK P C f ks Γ' σ' Q ∧ Rel C F' ρ' Γ' σ' a' w')
    (hs F ρ a w R _ fun F' ρ' a' w' Γ' σ' hF hS R' => ⟨rfl, F', ρ', Γ', σ', hF, hS, R'⟩)
  obtain ⟨e, a', w', ⟨rfl, F', ρ', Γ', σ', hF, h, R'⟩, harr⟩ := hwp b ks cs
  obtain ⟨e, w'', fr, hp, hc, hfn, hl⟩ := h F' ρ' a' w' b cs hb hk R'
  exact ⟨e, w'', fr, hp.mono hF, .of_steps harr hc, hfn, hl⟩

/-! ### The end of a call -/
/-- What is handed back. -/
def resOf (P : Program) (Γ : Env Ty) (σ : Hp Ty) : ResultVar → Option (PV Ty)
  | .tmp t => look Γ t
  | .cell p ty => match look Γ p with
    | some (.ref r 0) => match lookH σ r with
      | some (.cells _ cs) => match isA P ty, cs with
        | some true, cs => some (.agg cs)
        | some false, [x] => some x
        | _, _ => none
      | _ => none
    | _ => none
def resL (P : Program) (Γ : Env Ty) (σ : Hp Ty) : List ResultVar → Option (List (PV Ty))
  | [] => some []
  | r :: rs => match resOf P Γ σ r, resL P Γ σ rs with
    | some x, some xs => some (x :: xs)
    | _, _ => none
def tupOf : List (PV Ty) → PV Ty
  | [x] => x
  | xs => .tup xs
/-- The cells' types have the sizes of what they hold. -/
def resOK (P : Program) (Γ : Env Ty) (σ : Hp Ty) : List ResultVar → Prop
  | [] => True
  | .tmp _ :: rs => resOK P Γ σ rs
  | .cell p ty :: rs => (∃ r bt cs bytes zs ag, look Γ p = some (.ref r 0) ∧ lookH σ r = some (.cells bt cs) ∧ TyOK P ty cs.length bytes ag zs) ∧ resOK P Γ σ rs

def resF (tmps : Array Value) : ResultVar → Sem Value
  | .tmp t => pure (tmps.getD t Go.undef)
  | .cell p t => do loadVar t (← asAddr (tmps.getD p Go.undef))
theorem results_eq (fn : Func) (tmps : Array Value) : results fn tmps = (fn.results.mapM (resF tmps) >>= fun vs => pure (if h : vs.size = 1 then vs[0] else .tuple vs)) := by
  unfold results
  congr 1
theorem asAddr_ptr (a : Addr) : asAddr (.pointer (some a)) = pure a := rfl
theorem run_resOf {F : Nat → Prop} {ρ : Rho} {a : Act} {w : World} (R : Rel C F ρ Γ σ a w) : ∀ {rs : List ResultVar} {xs : List (PV Ty)}, resL P Γ σ rs = some xs → resOK P Γ σ rs →
    ∃ vs, (rs.mapM (resF a.tmps)).run P w = .ok vs w ∧ RepL F ρ w xs vs
  | [], xs, h, _ => by
    simp [resL] at h
    subst h
    exact ⟨[], rfl, .nil⟩
  | r :: rs, xs, h, hok => by
    simp only [resL] at h
    split at h
    · rename_i x ys hx hys
      simp at h
      subst h
      cases r with
      | tmp t =>
        obtain ⟨vs, hv, hr⟩ := run_resOf R hys hok
        have hs := R.slot t
        rw [Env.at_of hx] at hs
        exact ⟨a.tmps.getD t Go.undef :: vs, by rw [List.mapM_cons]; simp only [resF, Sem.run_bind, Sem.run_pure, Result.andThen_ok, hv], .cons hs hr⟩
      | cell p ty =>
        obtain ⟨⟨r, bt, cs, bytes, zs, ag, hp, hσ, ht⟩, hok'⟩ := hok
        obtain ⟨vs, hv, hr⟩ := run_resOf R hys hok'
        have hs := R.slot p
        rw [Env.at_of hp] at hs
        obtain ⟨g, c, hρ, hval⟩ := hs.ref_inv
        obtain ⟨cur, be, hg, hcl, hcs, hus, hc⟩ := R.cellsV hσ hρ
        simp only [resOf, hp, hσ, ht.agg] at hx
        cases ag with
        | true =>
          simp at hx
          subst hx
          have hl := run_loadVarA (P := P) ht (w := w) (g := g) (o := c.1 + 0) (vs := (cur.toList.drop c.1).take c.2) hus.1 (fun j v hv => by
            rw [cell_of_row w g _ cur be (0, 0) hg]
            rw [List.getElem?_take] at hv
            split at hv
            · rw [List.getElem?_drop] at hv
              simpa using hv
            · simp at hv)
          exact ⟨.agg ((cur.toList.drop c.1).take c.2).toArray :: vs, by rw [List.mapM_cons]; simp only [resF, Sem.run_bind, Sem.run_pure, hval, asAddr_ptr, Result.andThen_ok, hl, hv], .cons hus.agg hr⟩
        | false =>
          match cs, hx with
          | [y], hx =>
            simp at hx
            subst hx
            obtain ⟨u, hu, hru⟩ := hc 0 y rfl
            have hl := run_loadVar1 (P := P) ht hu
            exact ⟨u :: vs, by rw [List.mapM_cons]; simp only [resF, Sem.run_bind, Sem.run_pure, hval, asAddr_ptr, Result.andThen_ok, hl, hv], .cons hru hr⟩
    · simp at h

theorem run_results {F : Nat → Prop} {ρ : Rho} {a : Act} {w : World} (R : Rel C F ρ Γ σ a w) {fn : Func} {xs : List (PV Ty)} (h : resL P Γ σ fn.results.toList = some xs) (hok : resOK P Γ σ fn.results.toList) :
    ∃ v, (results fn a.tmps).run P w = .ok v w ∧ Rep F ρ w (tupOf xs) v := by
  obtain ⟨vs, hv, hr⟩ := run_resOf R h hok
  have hm : (fn.results.mapM (resF a.tmps)).run P w = .ok vs.toArray w := by
    rw [Array.mapM_eq_mapM_toList, Sem.run_map, hv]
    rfl
  refine ⟨if h : vs.toArray.size = 1 then vs.toArray[0] else .tuple vs.toArray, ?_, ?_⟩
  · rw [results_eq]
    simp only [Sem.run_bind, hm, Result.andThen_ok, Sem.run_pure]
  · match xs, vs, hr with
    | [], [], hr => exact .tup [] [] rfl fun j x v hx => by simp at hx
    | [x], [v], hr => exact hr.2 0 x v rfl rfl
    | x :: x' :: xs, v :: v' :: vs, hr =>
      simp only [List.size_toArray, List.length_cons, tupOf]
      rw [dif_neg (by omega)]
      exact .tup _ _ hr.1 hr.2
    | [], _ :: _, hr => have := hr.1; simp at this
    | [_], [], hr => have := hr.1; simp at this
    | [_], _ :: _ :: _, hr => have := hr.1; simp at this
    | _ :: _ :: _, [], hr => have := hr.1; simp at this
    | _ :: _ :: _, [_], hr => have := hr.1; simp at this
end
end Go.Rf
end
