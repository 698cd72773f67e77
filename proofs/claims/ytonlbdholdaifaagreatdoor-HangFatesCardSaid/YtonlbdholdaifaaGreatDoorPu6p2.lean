/- HangFates holds of every text, every query and both kinds of parsing. -/
import Derived.Test.YtonlbdholdaifaaGreatDoorPu6p1
set_option linter.unusedVariables false
set_option linter.unusedSimpArgs false
namespace Go.Proofs.YtonlbdholdaifaaGreatDoor
open Go Go.Rf Go.Proofs
/-- A value that stands in a text. -/
abbrev OkV (v : ApiValue) : Prop := ∃ lo hi, 0 ≤ lo ∧ hi ≤ 100000 ∧ WFv lo hi v
theorem OkV.vok {v : ApiValue} (h : OkV v) : VOK v := by
  obtain ⟨lo, hi, h0, h1, hw⟩ := h
  obtain ⟨a, b, c, d⟩ := hw.items
  have := a.length (by omega)
  exact ⟨by omega, d⟩
theorem OkV.to_ {v : ApiValue} (h : OkV v) : 0 ≤ v.to ∧ v.to ≤ 100000 := by
  obtain ⟨lo, hi, h0, h1, hw⟩ := h
  cases hw with
  | mk h1 h2 hto hk hn hn' hs hm ht hi' => omega
theorem OkV.item {v : ApiValue} (h : OkV v) {k : Nat} (hk : k < v.items.length) : OkV v.items[k] := by
  obtain ⟨lo, hi, h0, h1, hw⟩ := h
  obtain ⟨a, b, c, d⟩ := hw.items
  obtain ⟨l, m, e, f, g⟩ := a.at (List.getElem?_eq_getElem hk)
  exact ⟨l, m, by omega, by omega, g⟩
def childP (v : ApiValue) (k : Int) : ApiValue := v.items[k.toNat]?.getD default
def inB (v : ApiValue) (k : Int) : Bool := decide (0 ≤ k) && decide (k < v.items.length)
theorem inB_iff {v : ApiValue} {k : Int} : inB v k = true ↔ 0 ≤ k ∧ k < v.items.length := by simp [inB]
theorem inB_nat {v : ApiValue} {k : Int} (h : inB v k = true) : ∃ n : Nat, k = n ∧ ∃ hn : n < v.items.length, childP v k = v.items[n] := by
  obtain ⟨h0, h1⟩ := inB_iff.1 h
  refine ⟨k.toNat, by omega, by omega, ?_⟩
  simp [childP, List.getElem?_eq_getElem (show k.toNat < v.items.length by omega)]
def inR : ApiValue → List Int → Bool
  | _, [] => true
  | v, k :: p => inB v k && inR (childP v k) p
section
variable (q : List ApiSegment)
def rEnd : List Ft := List.replicate q.length none ++ [oneF]
def fwv : ApiValue → List Int → List Ft → List Ft
  | _, [], s => s
  | v, k :: p, s => fwv (childP v k) p (dn (edgeP v k.toNat) none q s)
def bwv : ApiValue → List Int → List Ft
  | _, [] => rEnd q
  | v, k :: p => bk (edgeP v k.toNat) q (bwv (childP v k) p)
theorem bwv_length : ∀ (p : List Int) (v : ApiValue), (bwv q v p).length = q.length + 1
  | [], v => by simp [bwv, rEnd]
  | k :: p, v => bk_length _ _ _ (bwv_length p _)
theorem fwv_length : ∀ (p : List Int) (v : ApiValue) (s : List Ft), s.length = q.length + 1 → (fwv q v p s).length = q.length + 1
  | [], v, s, h => h
  | k :: p, v, s, h => fwv_length p _ _ (dn_length _ _ _ _ h)
theorem fwv_good : ∀ (p : List Int) (v : ApiValue) (s : List Ft), OkV v → inR v p = true → (∀ x, x ∈ s → GoodF x) → ∀ x, x ∈ fwv q v p s → GoodF x
  | [], v, s, hv, hr, hs => hs
  | k :: p, v, s, hv, hr, hs => by
    simp only [inR, Bool.and_eq_true] at hr
    obtain ⟨n, rfl, hn, hc⟩ := inB_nat hr.1
    refine fwv_good p _ _ (by rw [hc]; exact hv.item hn) hr.2 ?_
    exact good_dn _ (good_edge v _ hv.to_) q _ _ good_none hs
theorem bwv_good : ∀ (p : List Int) (v : ApiValue), OkV v → inR v p = true → ∀ x, x ∈ bwv q v p → GoodF x
  | [], v, hv, hr, x, hx => by
    simp only [bwv, rEnd, List.mem_append, List.mem_replicate, List.mem_singleton] at hx
    rcases hx with ⟨_, rfl⟩ | rfl
    · exact good_none
    · exact good_one
  | k :: p, v, hv, hr, x, hx => by
    simp only [inR, Bool.and_eq_true] at hr
    obtain ⟨n, rfl, hn, hc⟩ := inB_nat hr.1
    exact good_bk _ (good_edge v _ hv.to_) q _ (bwv_good p _ (by rw [hc]; exact hv.item hn) hr.2) x hx
theorem dot_path : ∀ (p : List Int) (v : ApiValue) (s : List Ft), s.length = q.length + 1 → dot (fwv q v p s) (rEnd q) = dot s (bwv q v p)
  | [], v, s, h => rfl
  | k :: p, v, s, h => by
    rw [fwv, bwv, dot_path p _ _ (dn_length _ _ _ _ h)]
    have hl := bwv_length q p (childP v k)
    cases hb : bwv q (childP v k) p with
    | nil => rw [hb] at hl; simp at hl
    | cons y r =>
      rw [hb] at hl
      rw [dot_dn _ _ _ _ _ _ h hl, none_mulF, none_orF]
end
theorem dot_none : ∀ (n : Nat) (r : List Ft), dot (List.replicate n none) r = none
  | 0, r => by cases r <;> rfl
  | n + 1, [] => by simp [List.replicate_succ, dot]
  | n + 1, y :: r => by rw [List.replicate_succ, dot, dot_none n r, none_mulF, none_orF]
theorem dot_start (n : Nat) (y : Ft) (r : List Ft) (hy : GoodF y) : dot (oneF :: List.replicate n none) (y :: r) = y := by
  rw [dot, dot_none, one_mul' hy, orF_none]
theorem dot_end : ∀ (n : Nat) (s : List Ft) (h : n < s.length), s.length = n + 1 → (∀ x, x ∈ s → GoodF x) → dot s (List.replicate n none ++ [oneF]) = s[n]
  | 0, [x], h, hl, hg => by
    simp only [List.replicate_zero, List.nil_append, dot]
    rw [mulF_comm, one_mul' (hg x (by simp)), orF_none]
    rfl
  | n + 1, x :: s, h, hl, hg => by
    rw [List.replicate_succ, List.cons_append, dot, mulF_none, none_orF, dot_end n s (by simpa using h) (by simpa using hl) (fun y hy => hg y (by simp [hy]))]
    simp
/-- The fate of a path. -/
def fateP (q : List ApiSegment) (v : ApiValue) (p : List Int) : Ft := if inR v p then (bwv q v p)[0]?.getD none else none
def fate0 (q : List ApiSegment) (v : ApiValue) (p : List Int) (s : List Ft) : Ft := if inR v p then (fwv q v p s)[q.length]?.getD none else none
theorem fates (q : List ApiSegment) (v : ApiValue) (p : List Int) (hv : OkV v) : fate0 q v p (oneF :: List.replicate q.length none) = fateP q v p := by
  unfold fate0 fateP
  cases hr : inR v p with
  | false => rfl
  | true =>
    simp only [if_true]
    have hs : (oneF :: List.replicate q.length none : List Ft).length = q.length + 1 := by simp
    have hg : ∀ x, x ∈ (oneF :: List.replicate q.length none : List Ft) → GoodF x := fun x hx => by
      simp only [List.mem_cons, List.mem_replicate] at hx
      rcases hx with rfl | ⟨_, rfl⟩
      · exact good_one
      · exact good_none
    have h1 := dot_path q p v _ hs
    have h2 := fwv_length q p v _ hs
    have h3 := dot_end q.length _ (by omega) h2 (fwv_good q p v _ hv hr hg)
    have hl := bwv_length q p v
    cases hb : bwv q v p with
    | nil => rw [hb] at hl; simp at hl
    | cons y r =>
      rw [hb, dot_start _ _ _ (bwv_good q p v hv hr y (by simp [hb]))] at h1
      rw [rEnd, h3] at h1
      rw [List.getElem?_eq_getElem (by omega), Option.getD_some, h1]
      rfl
section
variable (q : List ApiSegment) (hq : q.length ≤ 1000) (hseg : ∀ s, s ∈ q → SegP s)
include hq hseg in
theorem e30_go (p : List Int) (hpl : p.length ≤ 1000000) : ∀ (m i : Nat) (v : ApiValue) (s : List Ft) (b : Bool) (c d : Int), OkV v → s.length = q.length + 1 → i ≤ p.length → p.length - i = m →
    f30 (.l30_0 q (s.map toH) p (p.length : Int) (i : Int) b c d v) = some (toT (fate0 q v (p.drop i) s))
  | m, i, v, s, b, c, d, hv, hs, hi, hm => by
    rw [f30]
    by_cases h : i < p.length
    · simp only [Int.ofNat_lt, h, decide_true, if_true]
      rw [ix h, drop_at h]
      simp only [Option.bind_eq_bind, Option.bind_some]
      cases hin : inB v p[i] with
      | false =>
        have : (decide (p[i] < 0) || decide ((v.items.length : Int) ≤ p[i])) = true := by
          simp only [inB, Bool.and_eq_false_iff, decide_eq_false_iff_not] at hin
          simp only [Bool.or_eq_true, decide_eq_true_eq]
          omega
        rw [if_pos this, e83]
        simp only [Option.bind_some]
        rw [e84]
        simp [fate0, inR, hin]
      | true =>
        obtain ⟨n, hpn, hn, hc⟩ := inB_nat hin
        have : (decide (p[i] < 0) || decide ((v.items.length : Int) ≤ p[i])) = false := by
          have := inB_iff.1 hin
          simp
          omega
        rw [this]
        simp only [Bool.false_eq_true, if_false]
        rw [hpn, e85 q hq (fun s hs => (hseg s hs).few) v n hv.vok hn s hs]
        simp only [Option.bind_some]
        rw [ix hn, wn (by omega)]
        simp only [Option.bind_some]
        match m with
        | 0 => omega
        | m + 1 =>
          rw [e30_go p hpl m (i + 1) _ _ b c d (hv.item hn) (dn_length _ _ _ _ hs) (by omega) (by omega)]
          rw [hpn] at hin hc
          simp [fate0, inR, hin, hc, fwv]
    · rw [List.drop_of_length_le (by omega)]
      simp only [Int.ofNat_lt, h, decide_false, Bool.false_eq_true, if_false]
      rw [ix (by simp; omega)]
      simp only [Option.bind_eq_bind, Option.bind_some, List.getElem_map]
      rw [e84]
      simp [fate0, inR, fwv, List.getElem?_eq_getElem (show q.length < s.length by omega)]
include hq hseg in
theorem e30 (v : ApiValue) (p : List Int) (hv : OkV v) (hpl : p.length ≤ 1000000) : f30 (.e30 v q p) = some (toT (fateP q v p)) := by
  rw [f30, e82 q hq]
  simp only [Option.bind_eq_bind, Option.bind_some]
  have := e30_go q hq hseg p hpl _ 0 v (oneF :: List.replicate q.length none) false 0 0 hv (by simp) (by omega) rfl
  rw [List.drop_zero, fates q v p hv] at this
  exact this
/-- The value behind so many steps. -/
def atP : ApiValue → List Int → Nat → ApiValue
  | v, _, 0 => v
  | v, [], _ + 1 => v
  | v, k :: p, i + 1 => atP (childP v k) p i
theorem atP_succ : ∀ (p : List Int) (v : ApiValue) (i : Nat) (h : i < p.length), atP v p (i + 1) = childP (atP v p i) p[i]
  | k :: p, v, 0, h => by cases p <;> rfl
  | k :: p, v, i + 1, h => by
    rw [atP, atP_succ p _ i (by simpa using h)]
    simp [atP]
theorem atP_ok : ∀ (p : List Int) (v : ApiValue) (i : Nat), OkV v → i ≤ p.length → inR v (p.take i) = true → OkV (atP v p i)
  | p, v, 0, hv, _, _ => by cases p <;> exact hv
  | k :: p, v, i + 1, hv, hi, hr => by
    simp only [List.take_succ_cons, inR, Bool.and_eq_true] at hr
    obtain ⟨n, rfl, hn, hc⟩ := inB_nat hr.1
    exact atP_ok p _ i (by rw [hc]; exact hv.item hn) (by simpa using hi) hr.2
theorem inR_take : ∀ (p : List Int) (v : ApiValue) (i : Nat) (h : i < p.length), inR v (p.take (i + 1)) = (inR v (p.take i) && inB (atP v p i) p[i])
  | k :: p, v, 0, h => by simp [inR, atP]
  | k :: p, v, i + 1, h => by
    have := inR_take p (childP v k) i (by simpa using h)
    simp only [List.take_succ_cons, inR, atP, List.getElem_cons_succ] at *
    rw [this, Bool.and_assoc]
theorem inR_of_take : ∀ (p : List Int) (v : ApiValue) (i : Nat), inR v p = true → inR v (p.take i) = true
  | p, v, 0, h => by simp [inR]
  | [], v, i + 1, h => by simp [inR]
  | k :: p, v, i + 1, h => by
    simp only [List.take_succ_cons, inR, Bool.and_eq_true] at *
    exact ⟨h.1, inR_of_take p _ i h.2⟩
theorem bwv_at : ∀ (p : List Int) (v : ApiValue) (i : Nat) (h : i < p.length), bwv q (atP v p i) (p.drop i) = bk (edgeP (atP v p i) p[i].toNat) q (bwv q (atP v p (i + 1)) (p.drop (i + 1))) := fun p v i h => by
  rw [drop_at h, bwv, atP_succ p v i h]
def chainP (v : ApiValue) (p : List Int) (n : Nat) : List ApiValue := (List.range n).map (atP v p)
theorem chain_idx (v : ApiValue) (p : List Int) (n i : Nat) (h : i < n) : idx (chainP v p n) (i : Int) = some (atP v p i) := by
  simp [idx, chainP, h]
include hq hseg in
theorem up_2 (v : ApiValue) (p : List Int) (hv : OkV v) (hpl : p.length ≤ 1000000) (hr : inR v p = true) (b : Bool) (c d : Int) : ∀ i : Nat, i ≤ p.length →
    f31 (.l31_2 q p ((i : Int) - 1) false (-1) (-1) b c d ((bwv q (atP v p i) (p.drop i)).map toR) (chainP v p (p.length + 1))) = some (toR (fateP q v p))
  | 0, hi => by
    rw [f31]
    have hl := bwv_length q p v
    have h0 : ¬ (0 : Int) ≤ ((0 : Nat) : Int) - 1 := by omega
    simp only [h0, decide_false, Bool.false_eq_true, if_false, List.drop_zero]
    have : atP v p 0 = v := by cases p <;> rfl
    rw [this, show (0 : Int) = ((0 : Nat) : Int) from rfl, ix (by simp; omega)]
    simp [fateP, hr, List.getElem?_eq_getElem (show 0 < (bwv q v p).length by omega)]
  | i + 1, hi => by
    have hlt : i < p.length := by omega
    have hri : inR v (p.take (i + 1)) = true := inR_of_take p v _ hr
    have hok := atP_ok p v i hv (by omega) (inR_of_take p v _ hr)
    rw [inR_take p v i hlt, Bool.and_eq_true] at hri
    obtain ⟨n, hpn, hn, hc⟩ := inB_nat hri.2
    have e : ((i + 1 : Nat) : Int) - 1 = (i : Int) := by omega
    rw [e, f31]
    have h0 : (0 : Int) ≤ (i : Int) := by omega
    simp only [h0, decide_true, if_true]
    have hpi : idx p (i : Int) = some (n : Int) := by rw [ix hlt, hpn]
    have hg : ∀ x, x ∈ bwv q (atP v p (i + 1)) (p.drop (i + 1)) → GoodF x := by
      have : ∀ (p : List Int) (v : ApiValue) (j : Nat), OkV v → inR v p = true → j ≤ p.length → ∀ x, x ∈ bwv q (atP v p j) (p.drop j) → GoodF x := by
        intro p
        induction p with
        | nil =>
          intro v j hv hr hj
          have : j = 0 := by simpa using hj
          subst this
          exact bwv_good q [] v hv hr
        | cons k p ih =>
          intro v j hv hr hj
          cases j with
          | zero => exact bwv_good q (k :: p) v hv hr
          | succ j =>
            simp only [inR, Bool.and_eq_true] at hr
            obtain ⟨n, rfl, hn, hc⟩ := inB_nat hr.1
            exact ih _ j (by rw [hc]; exact hv.item hn) hr.2 (by simpa using hj)
      exact this p v (i + 1) hv hr hi
    have up := up_3 q hq hseg (atP v p i) n hok.vok hn hok.to_ p (chainP v p (p.length + 1)) i hpi (chain_idx _ _ _ _ (by omega)) _ hg (bwv_length q _ _) b c d _ 0 [] (by omega) rfl rfl
    rw [show ((0 : Nat) : Int) = (0 : Int) from rfl] at up
    simp only [List.map_nil, List.nil_append, List.drop_zero] at up
    rw [up, wi (by omega) (by omega)]
    have hb := bwv_at q p v i hlt
    rw [hpn, Int.toNat_natCast] at hb
    rw [← hb]
    exact up_2 v p hv hpl hr b c d i (by omega)
include hq hseg in
theorem e31 (v : ApiValue) (p : List Int) (hv : OkV v) (hpl : p.length ≤ 1000000) : f31 (.e31 v q p) = some (toR (fateP q v p)) := by
  -- the vector of the path's end
  have k1 : ∀ (ch : List ApiValue) (m i : Nat), i ≤ q.length → q.length - i = m → f31 (.l31_1 q p (q.length : Int) (i : Int) false (-1) (-1) false 0 0 ((List.replicate i none).map toR) ch) = f31 (.l31_2 q p ((p.length : Int) - 1) false (-1) (-1) false 0 0 ((rEnd q).map toR) ch) := by
    intro ch m
    induction m with
    | zero =>
      intro i h1 h2
      have : i = q.length := by omega
      subst this
      conv => lhs; rw [f31]
      simp only [Int.lt_irrefl, decide_false, Bool.false_eq_true, if_false]
      rw [room_ok (by simp; omega) (by simp; omega), wi (x := (p.length : Int) - 1) (by omega) (by omega)]
      have hM : ¬ (0 : Int) = MX := by decide
      simp [rEnd, toR, en, hM]
    | succ m ih =>
      intro i h1 h2
      have h : i < q.length := by omega
      conv => lhs; rw [f31]
      simp only [Int.ofNat_lt, h, decide_true, if_true]
      rw [room_ok (by simp; omega) (by simp; omega), wn (by omega)]
      simp only [Option.bind_eq_bind, Option.bind_some]
      rw [← ih (i + 1) (by omega) (by omega), List.replicate_succ']
      simp [toR]
  have k0 : ∀ (m i : Nat), i ≤ p.length → p.length - i = m → inR v (p.take i) = true → f31 (.l31_0 q p p (p.length : Int) (i : Int) false (-1) (-1) false 0 0 (chainP v p (i + 1))) = some (toR (fateP q v p)) := by
    intro m
    induction m with
    | zero =>
      intro i h1 h2 hr
      have : i = p.length := by omega
      subst this
      rw [List.take_of_length_le (Nat.le_refl _)] at hr
      rw [f31]
      simp only [Int.lt_irrefl, decide_false, Bool.false_eq_true, if_false]
      have := k1 (chainP v p (p.length + 1)) _ 0 (by omega) rfl
      rw [show ((0 : Nat) : Int) = (0 : Int) from rfl] at this
      simp only [List.replicate_zero, List.map_nil] at this
      rw [this]
      have u := up_2 q hq hseg v p hv hpl hr false 0 0 p.length (Nat.le_refl _)
      rw [List.drop_of_length_le (Nat.le_refl _)] at u
      exact u
    | succ m ih =>
      intro i h1 h2 hr
      have h : i < p.length := by omega
      have hok := atP_ok p v i hv (by omega) hr
      rw [f31]
      simp only [Int.ofNat_lt, h, decide_true, if_true]
      have hl : IntKind.wrap .i64 (((chainP v p (i + 1)).length : Int) - 1) = (i : Int) := by
        simp only [chainP, List.length_map, List.length_range]
        rw [wi (by omega) (by omega)]
        omega
      rw [ix h, hl, chain_idx _ _ _ _ (by omega)]
      simp only [Option.bind_eq_bind, Option.bind_some]
      have ht := inR_take p v i h
      rw [hr, Bool.true_and] at ht
      cases hin : inB (atP v p i) p[i] with
      | false =>
        have e : (decide (p[i] < 0) || decide (((atP v p i).items.length : Int) ≤ p[i])) = true := by
          simp only [inB, Bool.and_eq_false_iff, decide_eq_false_iff_not] at hin
          simp only [Bool.or_eq_true, decide_eq_true_eq]
          omega
        rw [if_pos e]
        have : inR v p = false := by
          cases hb : inR v p with
          | false => rfl
          | true =>
            have := inR_of_take p v (i + 1) hb
            rw [ht, hin] at this
            cases this
        simp [fateP, this, toR]
      | true =>
        obtain ⟨n, hpn, hn, hc⟩ := inB_nat hin
        have e : (decide (p[i] < 0) || decide (((atP v p i).items.length : Int) ≤ p[i])) = false := by
          have := inB_iff.1 hin
          simp
          omega
        rw [e]
        simp only [Bool.false_eq_true, if_false]
        rw [hpn, ix hn]
        simp only [Option.bind_some]
        rw [room_ok (by simp [chainP]; omega) (by simp [chainP]; omega), wn (by omega)]
        simp only [Option.bind_some]
        rw [hin] at ht
        have := ih (i + 1) (by omega) (by omega) ht
        rw [← this]
        congr 2
        rw [chainP, chainP, List.range_succ (n := i + 1), List.map_append]
        simp [atP_succ p v i h, hc]
  rw [f31]
  have := k0 _ 0 (by omega) rfl (by simp [inR])
  rw [show ((0 : Nat) : Int) = (0 : Int) from rfl] at this
  simpa [chainP, atP] using this
end
/-- The paths of a value. -/
theorem t29 : ∀ (K : Nat) (lo hi : Int) (n : Ref16Node) (a : List Int), NodeOK lo hi n → (a.length : Int) ≤ lo → hi - lo ≤ K →
    Tot (f29 (.e29 n a)) fun r => (r.1.length : Int) ≤ hi - lo ∧ (r.2.length : Int) ≤ hi - lo ∧ ∀ p, p ∈ r.2 → p.length ≤ 1000000
  | 0, lo, hi, n, a, hn, ha, hK => by
    have := hn.wf.lt
    omega
  | K + 1, lo, hi, n, a, hn, ha, hK => by
    obtain ⟨w1, w2, w3, w4⟩ := hn.wf.items
    have hv := hn.vok
    have h0 := hn.lo0
    have h1 := hn.hi1
    have hst := hn.few
    have go : ∀ (c k : Nat) (l : Int) (ps : List (List Int)) (ns : List Ref16Node), k ≤ n.value.items.length → n.value.items.length - k = c → lo + 1 ≤ l → l ≤ hi → WFl l hi (n.value.items.drop k) → (ps.length : Int) ≤ l - lo → (ns.length : Int) ≤ l - lo → (∀ p, p ∈ ps → p.length ≤ 1000000) →
        Tot (f29 (.l29_0 a (n.value.items.length : Int) (k : Int) ps ns n)) fun r => (r.1.length : Int) ≤ hi - lo ∧ (r.2.length : Int) ≤ hi - lo ∧ ∀ p, p ∈ r.2 → p.length ≤ 1000000 := by
      intro c
      induction c with
      | zero =>
        intro k l ps ns hk hc hl hlh hw hps hns hpp
        rw [f29]
        simp only [show ¬ ((k : Int) < n.value.items.length) by omega, decide_false, Bool.false_eq_true, if_false]
        exact ts ⟨by simp; omega, by simp; omega, hpp⟩
      | succ c ih =>
        intro k l ps ns hk hc hl hlh hw hps hns hpp
        have h : k < n.value.items.length := by omega
        rw [drop_at h] at hw
        cases hw with
        | @cons _ m _ _ _ hx ht hm =>
          have hlt := hx.lt
          have hok : NodeOK l m (itemP n k) := hn.item h hl hm hx
          have hvf := hv.few
          rw [f29]
          simp only [Int.ofNat_lt, h, decide_true, if_true]
          rw [e81 n k hv h (by omega), wn (by omega)]
          simp only [Option.bind_eq_bind, Option.bind_some]
          refine troom (by simp; omega) (by simp; omega) (troom (by simp; omega) (by simp; omega) ?_)
          refine tb (t29 K l m (itemP n k) _ hok (by simp; omega) (by omega)) fun r hr => ?_
          obtain ⟨r1, r2, r3⟩ := hr
          refine troom (by omega) (by omega) (troom (by omega) (by omega) ?_)
          refine ih (k + 1) m _ _ (by omega) (by omega) (by omega) hm ht (by simp; omega) (by simp; omega) fun p hp => ?_
          rcases List.mem_append.1 hp with hp | hp
          · exact hpp p hp
          · exact r3 p hp
    rw [f29]
    exact go _ 0 (n.value.frm + 1) [a] [n] (by omega) rfl (by omega) (by omega) (by simpa using w1) (by simp; omega) (by simp; omega) (by simp; omega)
/-- Few: what it lets by. -/
theorem t27 (q : List ApiSegment) (hq : queryOK q) : Tot (f27 (.e27 [q])) fun r => r ≠ 0 → q.length ≤ 6 ∧ ∀ s, s ∈ q → SegP s := by
  have k1 : RightQ q → q.length ≤ 6 → ∀ (m j : Nat), j ≤ q.length → q.length - j = m → (∀ s, s ∈ q.take j → s.selectors.length ≤ 6) → Tot (f27 (.l27_1 [q] 1 0 q (q.length : Int) (j : Int))) fun r => r ≠ 0 → q.length ≤ 6 ∧ ∀ s, s ∈ q → SegP s := by
    intro hr hq6 m
    induction m with
    | zero =>
      intro j h1 h2 h3
      rw [f27]
      simp only [show ¬ ((j : Int) < q.length) by omega, decide_false, Bool.false_eq_true, if_false]
      rw [wi (by omega) (by omega), f27]
      refine ts fun _ => ⟨hq6, fun s hs => ⟨?_, hr s hs⟩⟩
      rw [List.take_of_length_le (by omega)] at h3
      have := h3 s hs
      omega
    | succ m ih =>
      intro j h1 h2 h3
      have h : j < q.length := by omega
      rw [f27]
      simp only [Int.ofNat_lt, h, decide_true, if_true]
      rw [ix h]
      simp only [Option.bind_eq_bind, Option.bind_some]
      refine tif (fun _ => ts (by simp)) fun h6 => ?_
      simp at h6
      rw [wn (by omega)]
      refine ih (j + 1) (by omega) (by omega) fun s hs => ?_
      rw [List.take_succ_eq_append_getElem h] at hs
      rcases List.mem_append.1 hs with hs | hs
      · exact h3 s hs
      · rw [List.mem_singleton.1 hs]
        omega
  rw [f27]
  simp only [List.length_singleton]
  refine tif (fun h => by simp at h) fun _ => ?_
  rw [f27]
  refine tif (fun _ => ?_) fun h => by simp at h
  rw [show idx [q] (0 : Int) = some q from rfl]
  simp only [Option.bind_eq_bind, Option.bind_some]
  refine tgd (fun _ => t58 q hq) fun b hb _ => tif (fun _ => ts (by simp)) fun h => ?_
  simp at h
  have hR := (hb (by simp; omega)).2 h.2
  have := k1 hR (by omega) _ 0 (by omega) rfl (by simp)
  exact this
theorem alive26 : f26 .e26 = some true := by cbv
theorem toT_R (x : Ft) : ((toT x).may == (toR x).may && ((toT x).holds == (toR x).holds && ((toT x).fails == (toR x).fails && true))) = true := by
  cases x <;> simp [toT, toR]
/-- HangFates answers true. -/
theorem pure6 (b : List UInt8) (q : List ApiSegment) (c : Bool) (hb : bytesOK b) (hq : queryOK q) : f6 (.e6 b q c) = some true := by
  rw [f6, alive26]
  simp only [Option.bind_eq_bind, Option.bind_some, Bool.not_true, Bool.false_eq_true, if_false]
  suffices h : Tot (gd (!(decide ((200 : Int) < (b.length : Int)))) (f27 (.e27 ([q] : List (List ApiSegment)))) >>= fun v2 =>
      if ((decide ((200 : Int) < (b.length : Int))) || (v2 == (0 : Int))) = true then
        some true
      else
        f28 (.e28 b (12 : Int) c) >>= fun v3 =>
        if (!v3.2.1) = true then
          some true
        else
          f29 (.e29 (⟨v3.1, ([] : List ApiStep)⟩ : Ref16Node) ([] : List Int)) >>= fun v4 =>
          f6 (.l6_0 q v4.2 (v4.2.length : Int) (0 : Int) v3.1)) fun r => r = true by
    obtain ⟨r, h1, h2⟩ := h
    rw [h2] at h1
    exact h1
  refine tgd (fun _ => t27 q hq) fun y hy _ => tif (fun _ => ts rfl) fun h => ?_
  simp only [Bool.or_eq_false_iff, decide_eq_false_iff_not, beq_eq_false_iff_ne] at h
  obtain ⟨h1, h2⟩ := h
  obtain ⟨hq6, hseg⟩ := (hy (by simp; omega)).2 h2
  refine tb (t28 b (by omega) 12 c (by omega)) fun r hr => tif (fun _ => ts rfl) fun hbeg => ?_
  have hw := hr.1 (by simpa using hbeg)
  have hv : OkV r.1 := ⟨0, _, by omega, by omega, hw⟩
  refine tb (t29 100000 0 b.length ⟨r.1, []⟩ [] ⟨hw, by omega, by omega, by simp⟩ (by simp) (by omega)) fun t ht => ?_
  obtain ⟨t1, t2, t3⟩ := ht
  have go : ∀ (m i : Nat), i ≤ t.2.length → t.2.length - i = m → f6 (.l6_0 q t.2 (t.2.length : Int) (i : Int) r.1) = some true := by
    intro m
    induction m with
    | zero =>
      intro i h1 h2
      rw [f6]
      simp only [show ¬ ((i : Int) < t.2.length) by omega, decide_false, Bool.false_eq_true, if_false]
      have x1 : ∀ k : Int, inB r.1 k = false → fateP q r.1 [k] = none := fun k hk => by simp [fateP, inR, hk]
      rw [e30 q (by omega) hseg r.1 [-1] hv (by simp), x1 (-1) (by simp [inB])]
      simp only [Option.bind_eq_bind, Option.bind_some]
      rw [e30 q (by omega) hseg r.1 [(r.1.items.length : Int)] hv (by simp), x1 _ (by simp [inB])]
      simp [toT, gd]
    | succ m ih =>
      intro i h1 h2
      have h : i < t.2.length := by omega
      rw [f6]
      simp only [Int.ofNat_lt, h, decide_true, if_true]
      rw [ix h]
      simp only [Option.bind_eq_bind, Option.bind_some]
      have hp := t3 _ (List.getElem_mem h)
      rw [e30 q (by omega) hseg r.1 _ hv hp, e31 q (by omega) hseg r.1 _ hv hp]
      simp only [Option.bind_some, toT_R, Bool.not_true, Bool.false_eq_true, if_false]
      rw [wn (by omega)]
      exact ih (i + 1) (by omega) (by omega)
  exact ⟨true, go _ 0 (by omega) rfl, rfl⟩
end Go.Proofs.YtonlbdholdaifaaGreatDoor
