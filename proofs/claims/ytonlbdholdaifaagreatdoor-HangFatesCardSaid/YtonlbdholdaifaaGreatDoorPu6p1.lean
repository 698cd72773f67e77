import Derived.Test.YtonlbdholdaifaaGreatDoorRg6p1
import Derived.Test.YtonlbdholdaifaaGreatDoorRg6p2
import Derived.Test.YtonlbdholdaifaaGreatDoorRg6p3
import Derived.Test.YtonlbdholdaifaaGreatDoorRg6p4
import Derived.Test.YtonlbdholdaifaaGreatDoorRg6p5
import Derived.Test.YtonlbdholdaifaaGreatDoorRg6p6
import Derived.Test.YtonlbdholdaifaaGreatDoorRg6p7
import Derived.Test.YtonlbdholdaifaaGreatDoorRg6p8
import Derived.Test.YtonlbdholdaifaaGreatDoorRg6p9
import Derived.Test.YtonlbdholdaifaaGreatDoorRg6p10
import Derived.Test.YtonlbdholdaifaaGreatDoorRw6p1
section
/- What it is for a printed function to come to an answer of which something is known. -/
set_option linter.unusedVariables false
namespace Go.Proofs.YtonlbdholdaifaaGreatDoor
open Go Go.Rf Go.Proofs

def Tot {α : Type} (x : Option α) (Q : α → Prop) : Prop := ∃ y, x = some y ∧ Q y
theorem Tot.mono {α : Type} {x : Option α} {P Q : α → Prop} (h : Tot x P) (k : ∀ y, P y → Q y) : Tot x Q := by
  obtain ⟨y, h1, h2⟩ := h
  exact ⟨y, h1, k y h2⟩
theorem tb {α β : Type} {x : Option α} {f : α → Option β} {P : α → Prop} {Q : β → Prop} (h : Tot x P) (k : ∀ y, P y → Tot (f y) Q) : Tot (x >>= f) Q := by
  obtain ⟨y, rfl, h2⟩ := h
  exact k y h2
theorem te {α β : Type} {x : Option α} {f : α → Option β} {y : α} {Q : β → Prop} (h : x = some y) (k : Tot (f y) Q) : Tot (x >>= f) Q := by
  subst h
  exact k
theorem ts {α : Type} {y : α} {Q : α → Prop} (h : Q y) : Tot (some y) Q := ⟨y, rfl, h⟩
theorem tif {α : Type} {c : Bool} {a b : Option α} {Q : α → Prop} (h1 : c = true → Tot a Q) (h2 : c = false → Tot b Q) : Tot (if c = true then a else b) Q := by
  cases c with
  | true => simpa using h1 rfl
  | false => simpa using h2 rfl
theorem tneed {β : Type} {p : Prop} [Decidable p] {f : Unit → Option β} {Q : β → Prop} (hp : p) (k : Tot (f ()) Q) : Tot (need p >>= f) Q := by
  simp only [need, if_pos hp]
  exact k
theorem troom {β : Type} {n m b : Nat} {f : Unit → Option β} {Q : β → Prop} (h : (n + m) * b ≤ 140737488355328) (h' : n + m ≤ 140737488355328) (k : Tot (f ()) Q) : Tot (room n m b >>= f) Q := tneed ⟨h, h'⟩ k
theorem idx_of {α : Type} {xs : List α} {i : Int} (h0 : 0 ≤ i) (h1 : i < xs.length) : ∃ y, idx xs i = some y ∧ xs[i.toNat]? = some y := by
  have : i.toNat < xs.length := by omega
  exact ⟨xs[i.toNat], by simp [idx, h0, this], by simp [this]⟩
theorem tidx {α β : Type} {xs : List α} {i : Int} {f : α → Option β} {Q : β → Prop} (h0 : 0 ≤ i) (h1 : i < xs.length) (k : ∀ y, xs[i.toNat]? = some y → Tot (f y) Q) : Tot (idx xs i >>= f) Q := by
  obtain ⟨y, h2, h3⟩ := idx_of h0 h1
  exact te h2 (k y h3)
theorem tgd {α β : Type} [Inhabited α] {e : Bool} {x : Option α} {f : α → Option β} {P : α → Prop} {Q : β → Prop} (h : e = true → Tot x P) (k : ∀ y, (e = true → x = some y ∧ P y) → (e = false → y = default) → Tot (f y) Q) : Tot (gd e x >>= f) Q := by
  cases e with
  | true =>
    obtain ⟨y, h1, h2⟩ := h rfl
    exact te (by simpa [gd] using h1) (k y (fun _ => ⟨h1, h2⟩) (by simp))
  | false => exact te (y := default) (by simp [gd]) (k default (by simp) (fun _ => rfl))
theorem tot_idx {α : Type} {xs : List α} {i : Int} (h0 : 0 ≤ i) (h1 : i < xs.length) : Tot (idx xs i) fun y => xs[i.toNat]? = some y := by
  obtain ⟨y, h2, h3⟩ := idx_of h0 h1
  exact ⟨y, h2, h3⟩
theorem tot_need {p : Prop} [Decidable p] (hp : p) : Tot (need p) fun _ => True := ⟨(), by simp [need, hp], trivial⟩
theorem wi {x : Int} (h0 : -9223372036854775808 ≤ x) (h1 : x ≤ 9223372036854775807) : IntKind.wrap .i64 x = x := by
  unfold IntKind.wrap
  simp [IntKind.bits, IntKind.signed]
  omega
theorem toU8_nat (c : UInt8) : toU8 (c.toNat : Int) = c := by simp [toU8]
theorem byte_lt (c : UInt8) : (c.toNat : Int) < 256 := by have := c.toNat_lt; omega
theorem byte_ge (c : UInt8) : (0 : Int) ≤ c.toNat := by omega
theorem toU8_of {x : Int} (h0 : 0 ≤ x) (h1 : x < 256) : x = ((toU8 x).toNat : Int) := by
  simp only [toU8, UInt8.toNat_ofNat']
  omega
end Go.Proofs.YtonlbdholdaifaaGreatDoor
end
section
/- The reference's bytes, signs, numerals, words and strings: they answer. -/
set_option linter.unusedVariables false
set_option linter.unusedSimpArgs false
namespace Go.Proofs.YtonlbdholdaifaaGreatDoor
open Go Go.Rf Go.Proofs
abbrev isByte (c : Int) : Prop := 0 ≤ c ∧ c < 256
theorem byteOK (c : UInt8) : isByte (c.toNat : Int) := ⟨byte_ge c, byte_lt c⟩

theorem t129 (c : Int) : Tot (f129 (.e129 c)) fun _ => True := ⟨_, by rw [f129], trivial⟩
theorem t181 (c : Int) : Tot (f181 (.e181 c)) fun b => b = true → 48 ≤ c ∧ c ≤ 57 := ⟨_, by rw [f181], by simp⟩
theorem t212 (c : Int) : Tot (f212 (.e212 c)) fun _ => True := ⟨_, by rw [f212], trivial⟩
/-- Kind. -/
theorem t130_0 (c : Int) (l : List UInt8) (n : Int) (hn : n = l.length) (hl : l.length ≤ 7) : ∀ (k : Nat) (i : Int), 0 ≤ i → i ≤ n → n - i = k → Tot (f130 (.l130_0 c l n i)) fun r => (0 ≤ r ∧ r ≤ 10) ∧ (r = 8 → i ≤ 6)
  | 0, i, h0, h1, hk => by
    rw [f130]
    refine tif (fun h => by simp at h; omega) fun _ => ?_
    refine tgd (fun _ => t181 c) fun y _ _ => ?_
    refine tif (fun _ => ts ⟨by omega, by omega⟩) fun _ => tif (fun _ => ts ⟨by omega, by omega⟩) fun _ => ts ⟨by omega, by omega⟩
  | k + 1, i, h0, h1, hk => by
    rw [f130]
    refine tif (fun h => ?_) fun h => by simp at h; omega
    refine tidx h0 (by omega) fun y _ => ?_
    refine tif (fun _ => ts ?_) fun _ => ?_
    · rw [wi (by omega) (by omega)]
      exact ⟨by omega, by omega⟩
    · rw [wi (by omega) (by omega)]
      exact (t130_0 c l n hn hl k (i + 1) (by omega) (by omega) (by omega)).mono fun r hr => ⟨hr.1, fun h => by have := hr.2 h; omega⟩
theorem t130 (c : Int) : Tot (f130 (.e130 c)) fun r => 0 ≤ r ∧ r ≤ 10 := by
  rw [f130]
  refine tb (t129 c) fun y _ => tif (fun _ => ts (by omega)) fun _ => ?_
  exact (t130_0 c _ _ rfl (by simp) 7 0 (by omega) (by simp) (by simp)).mono fun r hr => hr.1
/-- blank. -/
theorem t79 (s : List UInt8) (hs : s.length ≤ 1000000000000) : ∀ (k : Nat) (i : Int), 0 ≤ i → (s.length : Int) - i ≤ k → Tot (f79 (.l79_0 s i)) fun r => i ≤ r ∧ (i ≤ s.length → r ≤ s.length)
  | k, i, h0, hk => by
    rw [f79]
    refine tgd (P := fun _ => True) (fun h => (tot_idx h0 (by simpa using h)).mono fun _ _ => trivial) fun y _ _ => ?_
    refine tgd (P := fun _ => True) (fun _ => t129 _) fun z _ _ => ?_
    refine tif (fun h => ?_) fun _ => ts ⟨by omega, fun h => h⟩
    simp only [Bool.and_eq_true, decide_eq_true_eq] at h
    rw [wi (by omega) (by omega)]
    match k with
    | 0 => omega
    | k + 1 => exact (t79 s hs k (i + 1) (by omega) (by omega)).mono fun r hr => ⟨by omega, fun h' => hr.2 (by omega)⟩
theorem t79e (s : List UInt8) (hs : s.length ≤ 1000000000000) (i : Int) (h0 : 0 ≤ i) : Tot (f79 (.e79 s i)) fun r => i ≤ r ∧ (i ≤ s.length → r ≤ s.length) := by
  rw [f79]
  exact t79 s hs ((s.length : Int) - i).toNat i h0 (by omega)
theorem t183 (v : ApiValue) (k i : Int) : f183 (.e183 v k i) = some ⟨⟨v.kind, v.frm, 0, v.text, v.items, v.names⟩, true, i, k⟩ := by rw [f183]
/-- Hex. -/
theorem t250 (c : Int) (hc : isByte c) : Tot (f250 (.e250 c)) fun r => 0 ≤ r.1 ∧ r.1 ≤ 15 := by
  obtain ⟨h0, h1⟩ := hc
  rw [f250]
  refine tb (t181 c) fun y hy => ?_
  refine tif (fun h => ts ?_) fun _ => ?_
  · have := hy h
    simp only []
    rw [wi (x := c) (by omega) (by omega), wi (by omega) (by omega)]
    omega
  refine tif (fun h => ts ?_) fun _ => ?_
  · simp at h
    simp only []
    rw [wi (x := c) (by omega) (by omega), wi (by omega) (by omega)]
    omega
  refine tif (fun h => ts ?_) fun _ => ts (by simp)
  · simp at h
    simp only []
    rw [wi (x := c) (by omega) (by omega), wi (by omega) (by omega)]
    omega
/-- hex: four digits at most. -/
theorem t249_0 (s : List UInt8) : ∀ (k : Nat) (v i : Int), 0 ≤ i → i ≤ 4 → i ≤ s.length → 0 ≤ v → v < 65536 → v < 16 ^ i.toNat → 4 - i = k → Tot (f249 (.l249_0 s v i)) fun r => 0 ≤ r.1 ∧ r.1 ≤ 4 ∧ r.1 ≤ s.length ∧ 0 ≤ r.2 ∧ r.2 < 65536
  | k, v, i, h0, h1, h2, h3, h4, h5, hk => by
    rw [f249]
    refine tif (fun h => ?_) fun h => ts ?_
    · simp at h
      refine tif (fun _ => ts ⟨h0, h1, h2, h3, h4⟩) fun h' => ?_
      simp at h'
      refine tidx h0 (by omega) fun c _ => ?_
      refine tb (t250 _ (byteOK c)) fun r hr => ?_
      refine tif (fun _ => ts ⟨h0, h1, h2, h3, h4⟩) fun _ => ?_
      rw [wi (x := v * 16) (by omega) (by omega), wi (by omega) (by omega), wi (by omega) (by omega)]
      match k with
      | 0 => omega
      | k + 1 =>
        have hp : (16 : Int) ^ (i + 1).toNat = 16 ^ i.toNat * 16 := by rw [show (i + 1).toNat = i.toNat + 1 by omega, Int.pow_succ]
        have hb : (16 : Int) ^ i.toNat ≤ 4096 := by
          have : i.toNat ≤ 3 := by omega
          have h3 : i.toNat = 0 ∨ i.toNat = 1 ∨ i.toNat = 2 ∨ i.toNat = 3 := by omega
          rcases h3 with h | h | h | h <;> rw [h] <;> decide
        exact (t249_0 s k _ (i + 1) (by omega) (by omega) (by omega) (by omega) (by omega) (by rw [hp]; omega) (by omega))
    · simp at h
      exact ⟨by omega, by omega, by omega, h3, h4⟩
theorem t249 (s : List UInt8) : Tot (f249 (.e249 s)) fun r => 0 ≤ r.1 ∧ r.1 ≤ 4 ∧ r.1 ≤ s.length ∧ 0 ≤ r.2 ∧ r.2 < 65536 := by
  rw [f249]
  exact t249_0 s 4 0 0 (by omega) (by omega) (by omega) (by omega) (by omega) (by simp) rfl
/-- letter. -/
theorem t189_0 (c : Int) (a b : List UInt8) (n : Int) (hn : n = b.length) (hab : b.length ≤ a.length) (hl : b.length ≤ 100) : ∀ (k : Nat) (i : Int), 0 ≤ i → n - i ≤ k → Tot (f189 (.l189_0 c a b n i)) fun r => isByte r
  | k, i, h0, hk => by
    rw [f189]
    refine tif (fun h => ?_) fun _ => ts ⟨by omega, by omega⟩
    simp at h
    refine tidx h0 (by omega) fun y _ => ?_
    refine tif (fun _ => tidx h0 (by omega) fun z _ => ts (byteOK z)) fun _ => ?_
    rw [wi (by omega) (by omega)]
    match k with
    | 0 => omega
    | k + 1 => exact t189_0 c a b n hn hab hl k (i + 1) (by omega) (by omega)
theorem t189 (c : Int) : Tot (f189 (.e189 c)) fun r => isByte r := by
  rw [f189]
  exact t189_0 c _ _ _ (by simp) (by simp) (by simp) 8 0 (by omega) (by simp)
/-- unit. -/
theorem t236_2 (s : List UInt8) (b : Bool) (n v x y : Int) (hn : 0 ≤ n ∧ n ≤ 4 ∧ 2 + n ≤ s.length) (hv : 0 ≤ v ∧ v < 65536) : Tot (f236 (.l236_2 s b n v x y)) fun r => 0 ≤ r.1 ∧ r.1 ≤ 6 ∧ r.1 ≤ s.length ∧ 0 ≤ r.2.1 ∧ r.2.1 < 65536 := by
  obtain ⟨h0, h1, h2⟩ := hn
  rw [f236]
  have e : IntKind.wrap .i64 ((2 : Int) + n) = 2 + n := wi (by omega) (by omega)
  rw [e]
  refine tif (fun h => ts ?_) fun _ => tif (fun h => ts ?_) fun _ => tif (fun h => ts ?_) fun _ => tif (fun _ => ts ⟨by simp; omega, by simp; omega, by simp; omega, by simp, by simp⟩) fun _ => tif (fun _ => ts ⟨by simp; omega, by simp; omega, by simp; omega, by simp, by simp⟩) fun _ => ts ⟨by simp; omega, by simp; omega, by simp; omega, by simpa using hv.1, by simpa using hv.2⟩
  all_goals (simp at h; exact ⟨by simp, by simp, by simp; omega, by simp, by simp⟩)
theorem t236_0 (s : List UInt8) (b : Bool) : ∀ (k : Nat) (i : Int), 0 ≤ i → 2 - i = k → i ≤ s.length → Tot (f236 (.l236_0 s b [92, 117] 2 i)) fun r => 0 ≤ r.1 ∧ r.1 ≤ 6 ∧ r.1 ≤ s.length ∧ 0 ≤ r.2.1 ∧ r.2.1 < 65536
  | k, i, h0, hk, hi => by
    rw [f236]
    refine tif (fun h => ?_) fun h => ?_
    · simp at h
      refine tidx h0 (by simp; omega) fun y _ => ?_
      refine tif (fun _ => ts ⟨h0, by simp; omega, hi, by simp, by simp⟩) fun h' => ?_
      simp at h'
      refine tidx h0 (by omega) fun z _ => ?_
      refine tif (fun _ => ts ⟨h0, by simp; omega, hi, by simp, by simp⟩) fun _ => ?_
      refine tidx h0 (by omega) fun z _ => ?_
      refine tif (fun _ => ts ⟨h0, by simp; omega, hi, by simp, by simp⟩) fun _ => ?_
      rw [wi (by omega) (by omega)]
      match k with
      | 0 => omega
      | k + 1 => exact t236_0 s b k (i + 1) (by omega) (by omega) (by omega)
    · simp at h
      have hi2 : i = 2 := by omega
      refine tneed (by omega) ?_
      refine tb (t249 _) fun r hr => ?_
      obtain ⟨r0, r1, r2, r3, r4⟩ := hr
      simp at r2
      have key : ∀ x y : Int, Tot (f236 (.l236_1 s b r.1 r.2 x y)) fun r => 0 ≤ r.1 ∧ r.1 ≤ 6 ∧ r.1 ≤ s.length ∧ 0 ≤ r.2.1 ∧ r.2.1 < 65536 := by
        intro x y
        rw [f236]
        refine tif (fun h => ?_) fun _ => t236_2 s b _ _ _ _ ⟨r0, r1, by omega⟩ ⟨r3, r4⟩
        simp at h
        refine tidx (by omega) (by omega) fun c _ => ?_
        exact tb (t250 _ (byteOK c)) fun z _ => t236_2 s b _ _ _ _ ⟨r0, r1, by omega⟩ ⟨r3, r4⟩
      refine tif (fun h => ?_) fun _ => key _ _
      simp at h
      refine tidx (by omega) (by omega) fun c _ => ?_
      exact tb (t250 _ (byteOK c)) fun z _ => key _ _
theorem t236 (s : List UInt8) (b : Bool) : Tot (f236 (.e236 s b)) fun r => 0 ≤ r.1 ∧ r.1 ≤ 6 ∧ r.1 ≤ s.length ∧ 0 ≤ r.2.1 ∧ r.2.1 < 65536 := by
  rw [f236]
  exact t236_0 s b 2 0 (by omega) (by omega) (by omega)
end Go.Proofs.YtonlbdholdaifaaGreatDoor
end
section
/- The reference's signs, numerals, words and strings: they answer. -/
set_option linter.unusedVariables false
set_option linter.unusedSimpArgs false
namespace Go.Proofs.YtonlbdholdaifaaGreatDoor
open Go Go.Rf Go.Proofs
abbrev Small (s : List UInt8) : Prop := s.length ≤ 140737488355328
theorem wu8 (x : Int) : 0 ≤ IntKind.wrap .u8 x ∧ IntKind.wrap .u8 x < 256 := by
  unfold IntKind.wrap
  simp [IntKind.bits, IntKind.signed]
  omega
theorem t208 (c : Int) : Tot (f208 (.e208 c)) fun r => 0 ≤ r ∧ r ≤ 4 := by
  rw [f208]
  exact tif (fun _ => ts (by omega)) fun _ => tif (fun _ => ts (by omega)) fun _ => tif (fun _ => ts (by omega)) fun _ => tif (fun _ => ts (by omega)) fun _ => ts (by omega)
theorem t209_3 (s : List UInt8) (hs : Small s) : ∀ (k : Nat) (v i : Int), 0 ≤ i → (s.length : Int) - i ≤ k → Tot (f209 (.l209_3 s v i)) fun _ => True
  | k, v, i, h0, hk => by
    rw [f209]
    refine tif (fun h => ?_) fun _ => ts trivial
    simp at h
    refine tidx h0 (by omega) fun y _ => ?_
    rw [wi (x := i + 1) (by omega) (by omega)]
    match k with
    | 0 => omega
    | k + 1 => exact t209_3 s hs k _ (i + 1) (by omega) (by omega)
theorem t209 (s : List UInt8) (hs : Small s) (h : 1 ≤ s.length) : Tot (f209 (.e209 s)) fun _ => True := by
  have k2 : ∀ v, Tot (f209 (.l209_2 s v)) fun _ => True := fun v => by rw [f209]; exact t209_3 s hs s.length v 1 (by omega) (by omega)
  have k1 : ∀ v, Tot (f209 (.l209_1 s v)) fun _ => True := fun v => by rw [f209]; exact tif (fun _ => k2 _) fun _ => k2 _
  have k0 : ∀ v, Tot (f209 (.l209_0 s v)) fun _ => True := fun v => by rw [f209]; exact tif (fun _ => k1 _) fun _ => k1 _
  rw [f209]
  refine tidx (by omega) (by omega) fun y _ => ?_
  exact tif (fun _ => k0 _) fun _ => k0 _
theorem t176_1 (s : List UInt8) (n : Int) (hn : 0 ≤ n ∧ n ≤ 4) : ∀ (k : Nat) (a b : List UInt8), 1 ≤ a.length → a.length ≤ 4 → b.length = a.length → n - a.length ≤ k → Tot (f176 (.l176_1 s n a b)) fun _ => True
  | k, a, b, h0, h1, hb, hk => by
    rw [f176]
    refine tif (fun h => ?_) fun _ => ?_
    · simp at h
      refine tneed (by simp; omega) (tneed (by simp; omega) ?_)
      match k with
      | 0 => omega
      | k + 1 => exact t176_1 s n hn k _ _ (by simp) (by simp; omega) (by simp [hb]) (by simp; omega)
    · refine tb (t209 a (by omega) h0) fun x _ => tb (t209 b (by omega) (by omega)) fun y _ => ?_
      refine tidx hn.1 (by simp; omega) fun z _ => ?_
      exact tif (fun _ => ts trivial) fun _ => tif (fun _ => ts trivial) fun _ => ts trivial
theorem t176_0 (s : List UInt8) (n : Int) (hn : 0 ≤ n ∧ n ≤ 4) (h1 : 1 ≤ s.length) (hsn : (s.length : Int) ≤ n) : ∀ (k : Nat) (i : Int), 0 ≤ i → (s.length : Int) - i ≤ k → Tot (f176 (.l176_0 s n i)) fun _ => True
  | k, i, h0, hk => by
    rw [f176]
    refine tif (fun h => ?_) fun _ => t176_1 s n hn n.toNat s s h1 (by omega) rfl (by omega)
    simp at h
    refine tidx h0 (by omega) fun y _ => ?_
    refine tgd (P := fun _ => True) (fun _ => (tot_idx h0 (by omega)).mono fun _ _ => trivial) fun z _ _ => ?_
    refine tif (fun _ => ts trivial) fun _ => ?_
    rw [wi (by omega) (by omega)]
    match k with
    | 0 => omega
    | k + 1 => exact t176_0 s n hn h1 hsn k (i + 1) (by omega) (by omega)
theorem t176 (s : List UInt8) (hs : Small s) : Tot (f176 (.e176 s)) fun _ => True := by
  rw [f176]
  refine tif (fun _ => ts trivial) fun h => ?_
  have h1 : 1 ≤ s.length := by
    cases s with
    | nil => simp at h
    | cons x s => simp
  refine tidx (by omega) (by omega) fun y _ => ?_
  refine tb (t208 _) fun n hn => ?_
  refine tif (fun _ => ts trivial) fun h => ?_
  simp at h
  exact t176_0 s n hn h1 (by omega) s.length 1 (by omega) (by omega)
theorem t251 (c : Int) : Tot (f251 (.e251 c)) fun _ => True := ⟨_, by rw [f251], trivial⟩
theorem t237_0 (c : Int) : Tot (f237 (.l237_0 c)) fun l => l.length ≤ 4 := by
  have hw : ∀ x : Int, (IntKind.wrap .u8 x) = ((toU8 (IntKind.wrap .u8 x)).toNat : Int) := fun x => toU8_of (wu8 x).1 (wu8 x).2
  rw [f237]
  refine tif (fun _ => tneed (hw _) (ts (by simp))) fun _ => tif (fun _ => tneed (hw _) (tneed (hw _) (ts (by simp)))) fun _ => tif (fun _ => tneed (hw _) (tneed (hw _) (tneed (hw _) (ts (by simp))))) fun _ => tneed (hw _) (tneed (hw _) (tneed (hw _) (tneed (hw _) (ts (by simp)))))
theorem t237 (c : Int) : Tot (f237 (.e237 c)) fun l => l.length ≤ 4 := by
  rw [f237]
  exact tb (t251 c) fun _ _ => tif (fun _ => t237_0 _) fun _ => t237_0 _
/-- What a piece is. -/
abbrev PieceOK (s : List UInt8) (r : List UInt8 × Int × Int × Bool) : Prop := 0 ≤ r.2.1 ∧ r.2.1 ≤ s.length ∧ (r.2.2.2 = true → 1 ≤ r.2.1 ∧ (r.1.length : Int) ≤ r.2.1)
theorem t211_0 (s : List UInt8) (hs : Small s) : ∀ (k : Nat) (i : Int), 1 ≤ i → i ≤ (s.length : Int) + 1 → (s.length : Int) + 1 - i ≤ k → Tot (f211 (.l211_0 s i)) (PieceOK s)
  | k, i, h0, h1, hk => by
    rw [f211]
    refine tif (fun h => ?_) fun _ => ts ⟨by simp, by simp, by simp⟩
    simp at h
    refine tneed (by omega) ?_
    refine tb (t176 _ (by simp [Small] at *; omega)) fun r _ => ?_
    refine tif (fun _ => ts ?_) fun _ => tif (fun _ => tneed (by omega) (ts ⟨by simp; omega, by simp; omega, fun _ => ⟨by simp; omega, by simp; omega⟩⟩)) fun _ => ?_
    · rw [wi (by omega) (by omega)]
      exact ⟨by simp; omega, by simp; omega, by simp⟩
    · rw [wi (by omega) (by omega)]
      match k with
      | 0 => omega
      | k + 1 => exact t211_0 s hs k (i + 1) (by omega) (by omega) (by omega)
theorem t211 (s : List UInt8) (hs : Small s) (h1 : 1 ≤ s.length) : Tot (f211 (.e211 s)) (PieceOK s) := by
  rw [f211]
  refine tidx (by omega) (by omega) fun c _ => ?_
  refine tif (fun _ => ts ⟨by simp, by simp, by simp⟩) fun _ => ?_
  refine tidx (by omega) (by omega) fun c _ => ?_
  refine tif (fun _ => t211_0 s hs s.length 1 (by omega) (by omega) (by omega)) fun _ => ?_
  refine tif (fun _ => ts ⟨by simp, by simp; omega, by simp⟩) fun h => ?_
  have h2 : 2 ≤ s.length := by
    simp at h
    omega
  refine tidx (by omega) (by omega) fun c _ => ?_
  refine tif (fun _ => ?_) fun _ => ?_
  · refine tidx (by omega) (by omega) fun c _ => ?_
    refine tb (t189 _) fun x hx => ?_
    refine tif (fun _ => ts ⟨by simp, by simp; omega, by simp⟩) fun _ => tneed (toU8_of hx.1 hx.2) (ts ⟨by simp, by simp; omega, by simp⟩)
  · refine tb (t236 s false) fun r hr => ?_
    obtain ⟨r0, r1, r2, r3, r4⟩ := hr
    refine tif (fun _ => ts ⟨r0, r2, by simp⟩) fun h => ?_
    simp at h
    refine tif (fun _ => tb (t237 _) fun l hl => ts ⟨by simp, by simp; omega, fun _ => ⟨by simp, by simp; omega⟩⟩) fun _ => ?_
    refine tneed (by omega) ?_
    refine tb (t236 _ true) fun q hq => ?_
    obtain ⟨q0, q1, q2, q3, q4⟩ := hq
    simp at q2
    refine tif (fun _ => ts ?_) fun h => ?_
    · rw [wi (by omega) (by omega)]
      exact ⟨by simp; omega, by simp; omega, by simp⟩
    · simp at h
      exact tb (t237 _) fun l hl => ts ⟨by simp, by simp; omega, fun _ => ⟨by simp, by simp; omega⟩⟩
theorem t182_0 (s : List UInt8) (hs : Small s) : ∀ (k : Nat) (i : Int) (o : List UInt8), 0 ≤ i → i ≤ s.length → (o.length : Int) ≤ i → (s.length : Int) - i ≤ k → Tot (f182 (.l182_0 s i o)) fun r => i ≤ r.2.1 ∧ r.2.1 ≤ s.length ∧ (r.1.length : Int) ≤ r.2.1
  | k, i, o, h0, h1, ho, hk => by
    rw [f182]
    refine tif (fun h => ?_) fun _ => ts ⟨by simp, by simpa using h1, by simpa using ho⟩
    simp at h
    refine tidx h0 (by omega) fun c _ => ?_
    refine tif (fun _ => ts ?_) fun _ => ?_
    · rw [wi (by omega) (by omega)]
      exact ⟨by simp; omega, by simp; omega, by simp; omega⟩
    · refine tneed (by omega) ?_
      refine tb (t211 _ (by simp [Small] at *; omega) (by simp; omega)) fun r hr => ?_
      obtain ⟨r0, r1, r2⟩ := hr
      simp at r1
      rw [wi (by omega) (by omega)]
      refine tif (fun _ => ts ⟨by simp; omega, by simp; omega, by simp; omega⟩) fun h' => ?_
      simp at h'
      have r3 := r2 h'.2
      refine troom (by simp [Small] at hs; omega) (by simp [Small] at hs; omega) ?_
      match k with
      | 0 => omega
      | k + 1 => exact (t182_0 s hs k _ _ (by omega) (by omega) (by simp; omega) (by omega)).mono fun r hr => ⟨by omega, hr.2⟩
theorem t182 (s : List UInt8) (hs : Small s) : Tot (f182 (.e182 s)) fun r => 0 ≤ r.2.1 ∧ r.2.1 ≤ s.length ∧ (r.1.length : Int) ≤ r.2.1 := by
  rw [f182]
  exact t182_0 s hs s.length 0 [] (by omega) (by omega) (by simp) (by omega)
/-- Numerals. -/
theorem t213_0 (s : List UInt8) (hs : Small s) : ∀ (k : Nat) (i : Int), 0 ≤ i → i ≤ s.length → (s.length : Int) - i ≤ k → Tot (f213 (.l213_0 s i)) fun r => 0 ≤ r ∧ r ≤ s.length
  | k, i, h0, h1, hk => by
    rw [f213]
    refine tgd (P := fun _ => True) (fun h => (tot_idx h0 (by simpa using h)).mono fun _ _ => trivial) fun y _ _ => ?_
    refine tgd (P := fun _ => True) (fun _ => (t181 _).mono fun _ _ => trivial) fun z _ _ => ?_
    refine tif (fun h => ?_) fun _ => ts ⟨h0, h1⟩
    simp only [Bool.and_eq_true, decide_eq_true_eq] at h
    rw [wi (by omega) (by omega)]
    match k with
    | 0 => omega
    | k + 1 => exact t213_0 s hs k (i + 1) (by omega) (by omega) (by omega)
theorem t213 (s : List UInt8) (hs : Small s) : Tot (f213 (.e213 s)) fun r => 0 ≤ r ∧ r ≤ s.length := by
  rw [f213]
  exact t213_0 s hs s.length 0 (by omega) (by omega) (by omega)
theorem t185_2 (s : List UInt8) (hs : Small s) : Tot (f185 (.l185_2 s)) fun _ => True := by
  rw [f185]
  exact tgd (P := fun _ => True) (fun _ => (t213 s hs).mono fun _ _ => trivial) fun y _ _ => ts trivial
theorem t185_1 (s : List UInt8) (hs : Small s) : Tot (f185 (.l185_1 s)) fun _ => True := by
  rw [f185]
  refine tif (fun _ => ts trivial) fun h => ?_
  have h1 : 1 ≤ s.length := by
    cases s with
    | nil => simp at h
    | cons x s => simp
  have hd : Small (s.drop (1 : Int).toNat) := by simp [Small] at *; omega
  refine tidx (by omega) (by omega) fun c _ => ?_
  refine tgd (P := fun _ => True) (fun _ => (tot_idx (by omega) (by omega)).mono fun _ _ => trivial) fun y _ _ => ?_
  refine tif (fun _ => ts trivial) fun _ => ?_
  refine tneed (by omega) ?_
  refine tgd (P := fun _ => True) (fun h => (tot_idx (by omega) (by simpa using h)).mono fun _ _ => trivial) fun y _ _ => ?_
  refine tgd (P := fun _ => True) (fun h => (tot_idx (by omega) (by simp at h; simp; omega)).mono fun _ _ => trivial) fun z _ _ => ?_
  refine tif (fun h => ?_) fun _ => t185_2 _ hd
  simp only [Bool.and_eq_true, decide_eq_true_eq] at h
  refine tneed (by omega) (t185_2 _ ?_)
  simp [Small] at *
  omega
theorem t185_0 (s : List UInt8) (hs : Small s) : Tot (f185 (.l185_0 s)) fun b => b = true → 1 ≤ s.length := by
  rw [f185]
  refine tb (t213 s hs) fun n hn => ?_
  refine tgd (P := fun _ => True) (fun h => (tot_idx (by omega) (by simp at h; omega)).mono fun _ _ => trivial) fun y _ _ => ?_
  refine tif (fun _ => ts (by simp)) fun h => ?_
  have h1 : 1 ≤ s.length := by
    simp at h
    omega
  have hd : Small (s.drop n.toNat) := by simp [Small] at *; omega
  refine tneed (by omega) ?_
  refine tgd (P := fun _ => True) (fun h => (tot_idx (by omega) (by simpa using h)).mono fun _ _ => trivial) fun y _ _ => ?_
  refine tif (fun h => ?_) fun _ => (t185_1 _ hd).mono fun _ _ _ => h1
  simp only [Bool.and_eq_true, decide_eq_true_eq] at h
  refine tneed (by omega) ?_
  refine tb (t213 _ (by simp [Small] at *; omega)) fun m hm => ?_
  refine tif (fun _ => ts (by simp)) fun _ => ?_
  have hm2 : m ≤ ((s.drop n.toNat).length : Int) - 1 := by
    have := hm.2
    rw [List.length_drop] at this
    have h2 : 0 < (s.drop n.toNat).length := by omega
    omega
  have hd2 : (s.drop n.toNat).length ≤ 140737488355328 := hd
  rw [wi (by omega) (by omega)]
  refine tneed ⟨by omega, by omega⟩ ?_
  exact (t185_1 _ (by simp [Small] at *; omega)).mono fun _ _ _ => h1
theorem t185 (s : List UInt8) (hs : Small s) : Tot (f185 (.e185 s)) fun b => b = true → 1 ≤ s.length := by
  rw [f185]
  refine tgd (P := fun _ => True) (fun h => (tot_idx (by omega) (by simpa using h)).mono fun _ _ => trivial) fun y _ _ => ?_
  refine tif (fun h => ?_) fun _ => t185_0 s hs
  simp only [Bool.and_eq_true, decide_eq_true_eq] at h
  refine tneed (by omega) ?_
  exact (t185_0 _ (by simp [Small] at *; omega)).mono fun b hb h' => by have := hb h'; simp at this; omega
theorem t184 (s : List UInt8) (c : Int) (hs : s.length ≤ 100000000000) (hc : isByte c) : Tot (f184 (.e184 s c)) fun _ => True := by
  rw [f184]
  refine tneed (toU8_of hc.1 hc.2) (tneed (by simp; omega) ?_)
  refine tb (t185 _ (by simp [Small]; omega)) fun a _ => ?_
  refine tgd (P := fun _ => True) (fun _ => tot_need (by simp; omega)) fun _ _ _ => ?_
  refine tgd (P := fun _ => True) (fun _ => (t185 _ (by simp [Small]; omega)).mono fun _ _ => trivial) fun b _ _ => ?_
  refine tif (fun _ => ts trivial) fun _ => ?_
  refine tb (t185 _ (by simp [Small]; omega)) fun a _ => ?_
  refine tgd (P := fun _ => True) (fun _ => (t181 _).mono fun _ _ => trivial) fun b _ _ => ?_
  refine tgd (P := fun _ => True) (fun _ => t212 _) fun b _ _ => ?_
  exact tif (fun _ => ts trivial) fun _ => ts trivial
/-- Words. -/
theorem t186_0 (s : List UInt8) (l : List (List UInt8)) (n : Int) (hn : n = l.length) (hl : l.length ≤ 10) : ∀ (k : Nat) (i : Int), 0 ≤ i → n - i ≤ k → Tot (f186 (.l186_0 s l n i)) fun _ => True
  | k, i, h0, hk => by
    rw [f186]
    refine tif (fun h => ?_) fun _ => ts trivial
    simp at h
    refine tidx h0 (by omega) fun x _ => ?_
    refine tif (fun _ => ts trivial) fun _ => ?_
    refine tgd (P := fun _ => True) (fun h => tot_need (by simp at h; omega)) fun _ _ _ => ?_
    refine tif (fun _ => ts trivial) fun _ => ?_
    rw [wi (by omega) (by omega)]
    match k with
    | 0 => omega
    | k + 1 => exact t186_0 s l n hn hl k (i + 1) (by omega) (by omega)
theorem t186 (s : List UInt8) (c : Int) (hs : s.length ≤ 100000000000) (hc : isByte c) : Tot (f186 (.e186 s c)) fun _ => True := by
  rw [f186]
  refine tneed (toU8_of hc.1 hc.2) (tneed (by simp; omega) ?_)
  refine te (y := [([116, 114, 117, 101] : List UInt8), ([102, 97, 108, 115, 101] : List UInt8), ([110, 117, 108, 108] : List UInt8)]) (by rw [f214]) ?_
  exact t186_0 _ _ _ rfl (by simp) 3 0 (by omega) (by simp)
theorem t187 (s : List UInt8) : Tot (f187 (.e187 s)) fun r => 0 ≤ r.1 ∧ r.1 ≤ 1 := by
  rw [f187]
  exact tif (fun _ => ts (by simp)) fun _ => tif (fun _ => ts (by simp)) fun _ => ts (by simp)
end Go.Proofs.YtonlbdholdaifaaGreatDoor
end
section
/- The reference's parser answers, at every text; what its values are like. -/
set_option linter.unusedVariables false
set_option linter.unusedSimpArgs false
namespace Go.Proofs.YtonlbdholdaifaaGreatDoor
open Go Go.Rf Go.Proofs
mutual
/-- A value that stands from lo on, ahead of hi. -/
inductive WFv : Int → Int → ApiValue → Prop where
  | mk {lo hi : Int} {v : ApiValue} (h1 : lo ≤ v.frm) (h2 : v.frm < hi) (hto : v.to = 0 ∨ (v.frm < v.to ∧ v.to ≤ hi)) (hk : 0 ≤ v.kind ∧ v.kind ≤ 5) (hn : v.kind = 5 → v.names.length = v.items.length) (hn' : v.kind ≠ 5 → v.names = [])
      (hs : v.kind ≠ 4 → v.kind ≠ 5 → v.items = []) (hm : ∀ n, n ∈ v.names → (n.length : Int) ≤ hi) (ht : (v.text.length : Int) ≤ hi) (hi' : WFl (v.frm + 1) hi v.items) : WFv lo hi v
inductive WFl : Int → Int → List ApiValue → Prop where
  | nil {lo hi : Int} : WFl lo hi []
  | cons {lo m hi : Int} {x : ApiValue} {xs : List ApiValue} (h : WFv lo m x) (t : WFl m hi xs) (hm : m ≤ hi) : WFl lo hi (x :: xs)
end
theorem WFl.mono {lo hi hi' : Int} : ∀ {xs : List ApiValue}, WFl lo hi xs → hi ≤ hi' → WFl lo hi' xs
  | [], _, _ => .nil
  | x :: xs, h, hh => by
    cases h with
    | cons h t hm => exact .cons h (t.mono hh) (by omega)
theorem WFv.mono {lo hi lo' hi' : Int} {v : ApiValue} (h : WFv lo hi v) (hl : lo' ≤ lo) (hh : hi ≤ hi') : WFv lo' hi' v := by
  cases h with
  | mk h1 h2 hto hk hn hn' hs hm ht hi' =>
    exact .mk (by omega) (by omega) (hto.imp id fun h => ⟨h.1, by omega⟩) hk hn hn' hs (fun n hn => by have := hm n hn; omega) (by omega) (hi'.mono hh)
theorem WFv.lt {lo hi : Int} {v : ApiValue} (h : WFv lo hi v) : lo < hi := by
  cases h with
  | mk h1 h2 => omega
theorem WFl.length {lo hi : Int} : ∀ {xs : List ApiValue}, WFl lo hi xs → lo ≤ hi → (xs.length : Int) ≤ hi - lo
  | [], _, h => by simp; omega
  | x :: xs, h, hl => by
    cases h with
    | cons h t hm =>
      have h1 := h.lt
      have := t.length hm
      simp
      omega
theorem WFl.snoc {lo m hi : Int} {x : ApiValue} : ∀ {xs : List ApiValue}, WFl lo m xs → WFv m hi x → lo ≤ m → WFl lo hi (xs ++ [x])
  | [], _, h, hl => .cons (h.mono hl (Int.le_refl _)) .nil (Int.le_refl _)
  | y :: ys, h, hx, hl => by
    cases h with
    | cons h t hm => exact .cons h (t.snoc hx hm) (by have := hx.lt; omega)
/-- What a part is. -/
def PartOK (s : List UInt8) (a : Int) (p : Ref10Part) : Prop :=
  (p.fault = 0 → p.begun = true ∧ a < p.pos ∧ p.pos ≤ s.length ∧ WFv a p.pos p.value ∧ p.value.to = p.pos) ∧ (p.begun = true → WFv a s.length p.value) ∧ 0 ≤ p.pos ∧ p.pos ≤ s.length ∧ (p.begun = false → p.fault ≠ 1)
theorem part_ok {s : List UInt8} {a i : Int} {v : ApiValue} (h0 : 0 ≤ a) (h1 : a < i) (h2 : i ≤ s.length) (hv : WFv a i v) (ht : v.to = i) : PartOK s a ⟨v, true, i, 0⟩ :=
  ⟨fun _ => ⟨rfl, h1, h2, hv, ht⟩, fun _ => hv.mono (Int.le_refl _) h2, by simp; omega, h2, by simp⟩
theorem part_bad {s : List UInt8} {a i k : Int} {v : ApiValue} (h0 : 0 ≤ i) (h2 : i ≤ s.length) (hk : k ≠ 0) (hv : WFv a s.length v) : PartOK s a ⟨v, true, i, k⟩ :=
  ⟨fun h => absurd h hk, fun _ => hv, h0, h2, by simp⟩
theorem part_none {s : List UInt8} {a i k : Int} {v : ApiValue} (h0 : 0 ≤ i) (h2 : i ≤ s.length) (hk : k ≠ 0) (hk1 : k ≠ 1) : PartOK s a ⟨v, false, i, k⟩ :=
  ⟨fun h => absurd h hk, fun h => by simp at h, h0, h2, fun _ => hk1⟩
/-- A value without items. -/
theorem wf_leaf {a hi k to : Int} {t : List UInt8} (h2 : a < hi) (hto : to = 0 ∨ (a < to ∧ to ≤ hi)) (hk : 0 ≤ k ∧ k ≤ 5) (ht : (t.length : Int) ≤ hi) : WFv a hi ⟨k, a, to, t, [], []⟩ :=
  .mk (Int.le_refl _) h2 hto hk (fun _ => rfl) (fun _ => rfl) (fun _ _ => rfl) (fun n hn => by simp at hn) ht .nil
section
variable (s : List UInt8) (hs : s.length ≤ 100000000000)
include hs
theorem t131 (a : Int) (h0 : 0 ≤ a) (h1 : a < s.length) : Tot (f131 (.e131 s a)) (fun p => PartOK s a p ∧ (p.fault = 0 → (p.value.text.length : Int) ≤ p.pos)) := by
  rw [f131, wi (x := a + 1) (by omega) (by omega)]
  refine tneed (by omega) ?_
  refine tb (t182 _ (by simp [Small]; omega)) fun r hr => ?_
  obtain ⟨r0, r1, r2⟩ := hr
  simp at r1
  refine tif (fun _ => te (t183 _ _ _) (ts ?_)) fun _ => tif (fun _ => te (t183 _ _ _) (ts ?_)) fun h => ts ?_
  · exact ⟨part_bad (by simp) (by simp) (by decide) (wf_leaf (by omega) (.inl rfl) (by simp) (by simp)), fun h => by simp at h⟩
  · rename_i h h'
    rw [wi (by omega) (by omega)]
    refine ⟨part_bad (by omega) (by omega) (by simpa using h) (wf_leaf (by omega) (.inl rfl) (by simp) (by simp)), fun h' => ?_⟩
    simp at h h'
    exact absurd h' h
  · rw [wi (by omega) (by omega)]
    exact ⟨part_ok h0 (by omega) (by omega) (wf_leaf (by omega) (.inr ⟨by omega, by omega⟩) (by simp) (by omega)) rfl, fun _ => by simp; omega⟩
theorem t132_0 (a : Int) (c : Bool) (a4 a5 a6 : Int) (a7 : List UInt8) (a8 : Bool) (a9 a10 : Int) (h0 : 0 ≤ a) (h1 : a < s.length) : ∀ (k : Nat) (n : Int), 0 ≤ n → a + n ≤ s.length → (s.length : Int) - (a + n) ≤ k → Tot (f132 (.l132_0 s a n c a4 a5 a6 a7 a8 a9 a10 2 a 0 [])) (PartOK s a)
  | k, n, hn, hl, hk => by
    rw [f132, wi (x := a + n) (by omega) (by omega)]
    have hbad : PartOK s a ⟨⟨2, a, 0, [], [], []⟩, true, s.length, 10⟩ := part_bad (by omega) (by omega) (by decide) (wf_leaf (by omega) (.inl rfl) (by simp) (by simp))
    have hsm : Small ((s.take (a + n).toNat).drop a.toNat) := by simp [Small]; omega
    have fin : ∀ b : Bool, (b = true → 1 ≤ ((s.take (a + n).toNat).drop a.toNat).length) → b = true → PartOK s a ⟨⟨2, a, a + n, (s.take (a + n).toNat).drop a.toNat, [], []⟩, true, a + n, 0⟩ := fun b hb h => by
      have := hb h
      simp at this
      exact part_ok h0 (by omega) (by omega) (wf_leaf (by omega) (.inr ⟨by omega, by omega⟩) (by simp) (by simp; omega)) rfl
    refine tif (fun h => ?_) fun _ => ?_
    · simp at h
      refine tneed (by omega) ?_
      refine tidx (by omega) (by omega) fun x _ => ?_
      refine tb (t184 _ _ (by simp; omega) (byteOK x)) fun r _ => ?_
      refine tif (fun _ => te (t183 _ _ _) (ts (part_bad (by omega) (by omega) (by decide) (wf_leaf (by omega) (.inl rfl) (by simp) (by simp))))) fun _ => ?_
      refine tif (fun _ => ?_) fun _ => ?_
      · refine tgd (P := fun _ => True) (fun _ => tot_need (by omega)) fun _ _ _ => ?_
        refine tgd (P := fun b => b = true → 1 ≤ ((s.take (a + n).toNat).drop a.toNat).length) (fun _ => t185 _ hsm) fun b hb _ => ?_
        refine tif (fun _ => te (t183 _ _ _) (ts hbad)) fun h' => ?_
        simp at h'
        exact tneed (by omega) (ts (fin b (hb (by simp)).2 (by simpa using h')))
      · rw [wi (by omega) (by omega)]
        match k with
        | 0 => omega
        | k + 1 => exact t132_0 a c a4 a5 a6 a7 a8 a9 a10 h0 h1 k (n + 1) (by omega) (by omega) (by omega)
    · refine tgd (P := fun _ => True) (fun _ => tot_need (by omega)) fun _ _ _ => ?_
      refine tgd (P := fun b => b = true → 1 ≤ ((s.take (a + n).toNat).drop a.toNat).length) (fun _ => t185 _ hsm) fun b hb _ => ?_
      refine tif (fun _ => te (t183 _ _ _) (ts hbad)) fun h' => ?_
      simp at h'
      exact tneed (by omega) (ts (fin b (hb (by simpa using h'.1)).2 h'.2))
theorem t132 (a : Int) (c : Bool) (h0 : 0 ≤ a) (h1 : a < s.length) : Tot (f132 (.e132 s a c)) (PartOK s a) := by
  rw [f132]
  exact t132_0 s hs a c _ _ _ _ _ _ _ h0 h1 s.length 0 (by omega) (by omega) (by omega)
theorem t133_0 (a : Int) (a7 a8 a9 : Int) (a10 : List UInt8) (a11 : Bool) (a12 a13 : Int) (h0 : 0 ≤ a) (h1 : a < s.length) : ∀ (k : Nat) (n : Int), 0 ≤ n → a + n ≤ s.length → (s.length : Int) - (a + n) ≤ k → Tot (f133 (.l133_0 s a n 0 a 0 [] a7 a8 a9 a10 a11 a12 a13)) (PartOK s a)
  | k, n, hn, hl, hk => by
    rw [f133, wi (x := a + n) (by omega) (by omega)]
    refine tif (fun h => ?_) fun _ => te (t183 _ _ _) (ts (part_bad (by omega) (by omega) (by decide) (wf_leaf (by omega) (.inl rfl) (by simp) (by simp))))
    simp at h
    refine tneed (by omega) ?_
    refine tidx (by omega) (by omega) fun x _ => ?_
    refine tb (t186 _ _ (by simp; omega) (byteOK x)) fun r _ => ?_
    refine tif (fun _ => te (t183 _ _ _) (ts (part_bad (by omega) (by omega) (by decide) (wf_leaf (by omega) (.inl rfl) (by simp) (by simp))))) fun _ => ?_
    rw [wi (x := a + n + 1) (by omega) (by omega)]
    refine tif (fun _ => ?_) fun _ => ?_
    · refine tneed (by omega) ?_
      refine tb (t187 _) fun q hq => ts ?_
      exact part_ok h0 (by omega) (by omega) (wf_leaf (by omega) (.inr ⟨by omega, by omega⟩) ⟨hq.1, by omega⟩ (by simp; omega)) rfl
    · rw [wi (by omega) (by omega)]
      match k with
      | 0 => omega
      | k + 1 => exact t133_0 a a7 a8 a9 a10 a11 a12 a13 h0 h1 k (n + 1) (by omega) (by omega) (by omega)
theorem t133 (a : Int) (h0 : 0 ≤ a) (h1 : a < s.length) : Tot (f133 (.e133 s a)) (PartOK s a) := by
  rw [f133]
  exact t133_0 s hs a _ _ _ _ _ _ _ h0 h1 s.length 0 (by omega) (by omega) (by omega)
/-- An array's items, of which those from at1 on are yet to come; the items answer. -/
theorem t134_0 (K : Nat) (P : ∀ (a left : Int) (c : Bool), 0 ≤ a → a < s.length → (s.length : Int) - a ≤ K → left ≤ 9223372036854775806 → Tot (f80 (.e80 s a left c)) (PartOK s a))
    (a left : Int) (c : Bool) (h0 : 0 ≤ a) (hl1 : 1 ≤ left) (hl2 : left ≤ 9223372036854775807) (hK : (s.length : Int) - (a + 1) ≤ K) (x8 x9 x10 : Int) (x11 : List UInt8) (x12 : Bool) (x13 x14 : Int) :
    ∀ (k : Nat) (i : Int) (y8 y9 y10 : Int) (y11 : List UInt8) (y12 : Bool) (y13 y14 : Int) (xs : List ApiValue), a + 1 ≤ i → i ≤ s.length → WFl (a + 1) i xs → (s.length : Int) - i ≤ k → Tot (f80 (.l134_0 s left c i 4 a 0 [] y8 y9 y10 y11 y12 y13 y14 xs)) (PartOK s a)
  | k, i, y8, y9, y10, y11, y12, y13, y14, xs, hi0, hi1, hxs, hk => by
    have bad : ∀ (ys : List ApiValue) (kd j : Int), WFl (a + 1) s.length ys → 0 ≤ j → j ≤ s.length → kd ≠ 0 → PartOK s a ⟨⟨4, a, 0, [], ys, []⟩, true, j, kd⟩ := fun ys kd j hy h1 h2 hkd =>
      part_bad h1 h2 hkd (.mk (Int.le_refl _) (by simp; omega) (.inl rfl) (by simp) (by simp) (fun _ => rfl) (by simp) (by simp) (by simp) hy)
    rw [f80]
    refine tif (fun _ => te (t183 _ _ _) (ts (bad _ _ _ (hxs.mono hi1) (by omega) (by omega) (by decide)))) fun h => ?_
    simp at h
    rw [wi (x := left - 1) (by omega) (by omega)]
    refine tb (P i (left - 1) c (by omega) h (by omega) (by omega)) fun p hp => ?_
    obtain ⟨p1, p2, p3, p4, p5⟩ := hp
    have hlen := hxs.length (by omega)
    -- what follows an item
    have next : ∀ ys : List ApiValue, WFl (a + 1) s.length ys → (p.fault = 0 → WFl (a + 1) p.pos ys) → Tot (f80 (.l134_1 s left c p 4 a 0 [] ys y8 y9 y10 y11 y12 y13 y14)) (PartOK s a) := by
      intro ys hy1 hy2
      rw [f80]
      refine tif (fun h => te (t183 _ _ _) (ts (bad _ _ _ hy1 p3 p4 (by simpa using h)))) fun h => ?_
      have hf : p.fault = 0 := by simpa using h
      obtain ⟨q1, q2, q3, q4, q5⟩ := p1 hf
      have hy := hy2 hf
      refine tb (t79e s (by omega) p.pos p3) fun j hj => ?_
      refine tif (fun _ => te (t183 _ _ _) (ts (bad _ _ _ hy1 (by omega) (by omega) (by decide)))) fun h => ?_
      simp at h
      refine tidx (by omega) h fun b _ => ?_
      rw [wi (x := j + 1) (by omega) (by omega)]
      refine tif (fun _ => ts ?_) fun _ => ?_
      · exact part_ok h0 (by omega) (by omega) (.mk (Int.le_refl _) (by simp; omega) (.inr ⟨by simp; omega, by simp⟩) (by simp) (by simp) (fun _ => rfl) (by simp) (by simp) (by simp; omega) (hy.mono (by omega))) rfl
      · refine tidx (by omega) h fun b _ => ?_
        refine tif (fun _ => te (t183 _ _ _) (ts (bad _ _ _ hy1 (by omega) (by omega) (by decide)))) fun _ => ?_
        refine tb (t79e s (by omega) (j + 1) (by omega)) fun m hm => ?_
        match k with
        | 0 => omega
        | k + 1 => exact t134_0 K P a left c h0 hl1 hl2 hK x8 x9 x10 x11 x12 x13 x14 k m _ _ _ _ _ _ _ ys (by omega) (hm.2 (by omega)) (hy.mono (by omega)) (by omega)
    refine tif (fun hb => ?_) fun hb => next xs (hxs.mono hi1) fun hf => ?_
    · refine troom (by simp; omega) (by simp; omega) ?_
      refine next _ (hxs.snoc (p2 hb) (by omega)) fun hf => hxs.snoc (p1 hf).2.2.2.1 (by omega)
    · have := (p1 hf).1
      rw [hb] at this
      simp at this
end
end Go.Proofs.YtonlbdholdaifaaGreatDoor
end
section
/- The reference's objects, values, and its Parse: they answer. -/
set_option linter.unusedVariables false
set_option linter.unusedSimpArgs false
namespace Go.Proofs.YtonlbdholdaifaaGreatDoor
open Go Go.Rf Go.Proofs
section
variable (s : List UInt8) (hs : s.length ≤ 100000000000)
include hs
theorem t135_0 (K : Nat) (P : ∀ (a left : Int) (c : Bool), 0 ≤ a → a < s.length → (s.length : Int) - a ≤ K → left ≤ 9223372036854775806 → Tot (f80 (.e80 s a left c)) (PartOK s a))
    (a left : Int) (c : Bool) (h0 : 0 ≤ a) (hl1 : 1 ≤ left) (hl2 : left ≤ 9223372036854775807) (hK : (s.length : Int) - (a + 1) ≤ K) :
    ∀ (k : Nat) (i : Int) (y8 y9 y10 : Int) (y11 : List UInt8) (y12 : Bool) (y13 y14 : Int) (xs : List ApiValue) (ns : List (List UInt8)), a + 1 ≤ i → i ≤ s.length → WFl (a + 1) i xs → ns.length = xs.length → (∀ n, n ∈ ns → (n.length : Int) ≤ i) → (s.length : Int) - i ≤ k → Tot (f80 (.l135_0 s left c i 5 a 0 [] y8 y9 y10 y11 y12 y13 y14 xs ns)) (PartOK s a)
  | k, i, y8, y9, y10, y11, y12, y13, y14, xs, ns, hi0, hi1, hxs, hns, hnm, hk => by
    have bad : ∀ (ys : List ApiValue) (ms : List (List UInt8)) (kd j : Int), WFl (a + 1) s.length ys → ms.length = ys.length → (∀ n, n ∈ ms → (n.length : Int) ≤ s.length) → 0 ≤ j → j ≤ s.length → kd ≠ 0 → PartOK s a ⟨⟨5, a, 0, [], ys, ms⟩, true, j, kd⟩ := fun ys ms kd j hy hms hmm h1 h2 hkd =>
      part_bad h1 h2 hkd (.mk (Int.le_refl _) (by simp; omega) (.inl rfl) (by simp) (by simpa using hms) (by simp) (by simp) (by simpa using hmm) (by simp) hy)
    have hxs1 := hxs.mono hi1
    have hnm1 : ∀ n, n ∈ ns → (n.length : Int) ≤ s.length := fun n hn => by have := hnm n hn; omega
    rw [f80]
    refine tif (fun _ => te (t183 _ _ _) (ts (bad _ _ _ _ hxs1 hns hnm1 (by omega) (by omega) (by decide)))) fun h => ?_
    simp at h
    refine tidx (by omega) (by omega) fun b _ => ?_
    refine tif (fun _ => te (t183 _ _ _) (ts (bad _ _ _ _ hxs1 hns hnm1 (by omega) (by omega) (by decide)))) fun _ => ?_
    refine tb (t131 s hs i (by omega) (by omega)) fun q hq => ?_
    obtain ⟨⟨q1, q2, q3, q4, -⟩, q5⟩ := hq
    refine tif (fun h => te (t183 _ _ _) (ts (bad _ _ _ _ hxs1 hns hnm1 q3 q4 (by simpa using h)))) fun h => ?_
    have hf : q.fault = 0 := by simpa using h
    have q6 := q5 hf
    obtain ⟨-, q7, q8, -, -⟩ := q1 hf
    refine tb (t79e s (by omega) q.pos q3) fun j hj => ?_
    refine tif (fun _ => te (t183 _ _ _) (ts (bad _ _ _ _ hxs1 hns hnm1 (by omega) (by omega) (by decide)))) fun h => ?_
    simp at h
    refine tidx (by omega) h fun b _ => ?_
    refine tif (fun _ => te (t183 _ _ _) (ts (bad _ _ _ _ hxs1 hns hnm1 (by omega) (by omega) (by decide)))) fun _ => ?_
    rw [wi (x := j + 1) (by omega) (by omega)]
    refine tb (t79e s (by omega) (j + 1) (by omega)) fun m hm => ?_
    refine tif (fun _ => te (t183 _ _ _) (ts (bad _ _ _ _ hxs1 hns hnm1 (by omega) (by omega) (by decide)))) fun h' => ?_
    simp at h'
    rw [wi (x := left - 1) (by omega) (by omega)]
    refine tb (P m (left - 1) c (by omega) h' (by omega) (by omega)) fun p hp => ?_
    obtain ⟨p1, p2, p3, p4, p5⟩ := hp
    have hlen := hxs.length (by omega)
    have next : ∀ (ys : List ApiValue) (ms : List (List UInt8)), WFl (a + 1) s.length ys → ms.length = ys.length → (∀ n, n ∈ ms → (n.length : Int) ≤ q.pos) → (p.fault = 0 → WFl (a + 1) p.pos ys) → Tot (f80 (.l135_1 s left c p 5 a 0 [] ms ys y8 y9 y10 y11 y12 y13 y14)) (PartOK s a) := by
      intro ys ms hy1 hms hmm hy2
      have hmm1 : ∀ n, n ∈ ms → (n.length : Int) ≤ s.length := fun n hn => by have := hmm n hn; omega
      rw [f80]
      refine tif (fun h => te (t183 _ _ _) (ts (bad _ _ _ _ hy1 hms hmm1 p3 p4 (by simpa using h)))) fun h => ?_
      have hf : p.fault = 0 := by simpa using h
      obtain ⟨q1, q2, q3, q4, q5⟩ := p1 hf
      have hy := hy2 hf
      refine tb (t79e s (by omega) p.pos p3) fun j' hj' => ?_
      refine tif (fun _ => te (t183 _ _ _) (ts (bad _ _ _ _ hy1 hms hmm1 (by omega) (by omega) (by decide)))) fun h => ?_
      simp at h
      refine tidx (by omega) h fun b _ => ?_
      rw [wi (x := j' + 1) (by omega) (by omega)]
      refine tif (fun _ => ts ?_) fun _ => ?_
      · exact part_ok h0 (by omega) (by omega) (.mk (Int.le_refl _) (by simp; omega) (.inr ⟨by simp; omega, by simp⟩) (by simp) (by simpa using hms) (by simp) (by simp) (fun n hn => by have := hmm n hn; omega) (by simp; omega) (hy.mono (by omega))) rfl
      · refine tidx (by omega) h fun b _ => ?_
        refine tif (fun _ => te (t183 _ _ _) (ts (bad _ _ _ _ hy1 hms hmm1 (by omega) (by omega) (by decide)))) fun _ => ?_
        refine tb (t79e s (by omega) (j' + 1) (by omega)) fun m' hm' => ?_
        match k with
        | 0 => omega
        | k + 1 => exact t135_0 K P a left c h0 hl1 hl2 hK k m' _ _ _ _ _ _ _ ys ms (by omega) (hm'.2 (by omega)) (hy.mono (by omega)) hms (fun n hn => by have := hmm n hn; omega) (by omega)
    have hnq : ∀ n, n ∈ ns → (n.length : Int) ≤ q.pos := fun n hn => by have := hnm n hn; omega
    refine tif (fun hb => ?_) fun hb => next xs ns hxs1 hns hnq fun hf => ?_
    · refine troom (by simp; omega) (by simp; omega) (troom (by simp; omega) (by simp; omega) ?_)
      refine next _ _ ((hxs.mono (by omega)).snoc (p2 hb) (by omega)) (by simp [hns]) (fun n hn => ?_) fun hf => (hxs.mono (by omega)).snoc (p1 hf).2.2.2.1 (by omega)
      rcases List.mem_append.1 hn with hn | hn
      · exact hnq n hn
      · rw [List.mem_singleton.1 hn]
        exact q6
    · have := (p1 hf).1
      rw [hb] at this
      simp at this
/-- A value. -/
theorem t80 : ∀ (K : Nat) (a left : Int) (c : Bool), 0 ≤ a → a < s.length → (s.length : Int) - a ≤ K → left ≤ 9223372036854775806 → Tot (f80 (.e80 s a left c)) (PartOK s a)
  | 0, a, left, c, h0, h1, hK, hl => by omega
  | K + 1, a, left, c, h0, h1, hK, hl => by
    rw [f80]
    refine tidx h0 h1 fun b _ => ?_
    refine tb (t130 _) fun kd _ => ?_
    refine tif (fun _ => tb (t131 s hs a h0 h1) fun p hp => ts hp.1) fun _ => ?_
    refine tif (fun _ => tb (t132 s hs a c h0 h1) fun p hp => ts hp) fun _ => ?_
    refine tif (fun _ => tb (t133 s hs a h0 h1) fun p hp => ts hp) fun _ => ?_
    have hbad : ∀ k : Int, k ≠ 0 → k ≠ 1 → PartOK s a ⟨⟨0, 0, 0, [], [], []⟩, false, a, k⟩ := fun k hk hk1 => part_none h0 (by omega) hk hk1
    refine tif (fun _ => tif (fun _ => ts (hbad _ (by decide) (by decide))) fun hl1 => tb (P := PartOK s a) ?_ fun p hp => ts hp) fun _ => tif (fun _ => tif (fun _ => ts (hbad _ (by decide) (by decide))) fun hl1 => tb (P := PartOK s a) ?_ fun p hp => ts hp) fun _ => ts (hbad _ (by decide) (by decide))
    · simp at hl1
      rw [f80, wi (x := a + 1) (by omega) (by omega)]
      refine tb (t79e s (by omega) (a + 1) (by omega)) fun j hj => ?_
      refine tgd (P := fun _ => True) (fun h => (tot_idx (by omega) (by simpa using h)).mono fun _ _ => trivial) fun b _ _ => ?_
      refine tif (fun h => ?_) fun _ => ?_
      · simp at h
        rw [wi (x := j + 1) (by omega) (by omega)]
        exact ts (part_ok h0 (by omega) (by omega) (.mk (Int.le_refl _) (by simp; omega) (.inr ⟨by simp; omega, by simp⟩) (by simp) (by simp) (fun _ => rfl) (by simp) (by simp) (by simp; omega) .nil) rfl)
      · exact t134_0 s hs K (fun a left c => t80 K a left c) a left c h0 hl1 (by omega) (by omega) 0 0 0 [] false 0 0 s.length j _ _ _ _ _ _ _ [] (by omega) (hj.2 (by omega)) .nil (by omega)
    · simp at hl1
      rw [f80, wi (x := a + 1) (by omega) (by omega)]
      refine tb (t79e s (by omega) (a + 1) (by omega)) fun j hj => ?_
      refine tgd (P := fun _ => True) (fun h => (tot_idx (by omega) (by simpa using h)).mono fun _ _ => trivial) fun b _ _ => ?_
      refine tif (fun h => ?_) fun _ => ?_
      · simp at h
        rw [wi (x := j + 1) (by omega) (by omega)]
        exact ts (part_ok h0 (by omega) (by omega) (.mk (Int.le_refl _) (by simp; omega) (.inr ⟨by simp; omega, by simp⟩) (by simp) (by simp) (by simp) (by simp) (by simp) (by simp; omega) .nil) rfl)
      · exact t135_0 s hs K (fun a left c => t80 K a left c) a left c h0 hl1 (by omega) (by omega) s.length j _ _ _ _ _ _ _ [] [] (by omega) (hj.2 (by omega)) .nil rfl (by simp) (by omega)
/-- What Some tells. -/
abbrev SomeOK (s : List UInt8) (r : ApiValue × Bool × ApiVerdict) : Prop := (r.2.1 = true → WFv 0 s.length r.1) ∧ (r.2.2.kind = 1 → r.2.1 = true)
theorem t28 (left : Int) (c : Bool) (hl : left ≤ 9223372036854775806) : Tot (f28 (.e28 s left c)) (SomeOK s) := by
  have main : ∀ l : Int, l ≤ 9223372036854775806 → Tot (f28 (.l28_0 s l c 0 0 0 [] 0 0)) (SomeOK s) := by
    intro l hl
    rw [f28]
    refine tb (t79e s (by omega) 0 (by omega)) fun i hi => ?_
    refine tif (fun _ => tif (fun _ => ?_) fun _ => ?_) fun h => ?_
    · rw [f28]
      exact ts ⟨by simp, by simp⟩
    · rw [f28]
      exact ts ⟨by simp, by simp⟩
    simp at h
    refine tb (t80 s hs s.length i l c (by omega) h (by omega) hl) fun p hp => ?_
    obtain ⟨p1, p2, p3, p4, p5⟩ := hp
    have hv : p.begun = true → WFv 0 s.length p.value := fun hb => (p2 hb).mono (by omega) (Int.le_refl _)
    refine tif (fun _ => ts ⟨hv, by simp⟩) fun _ => tif (fun h => ?_) fun h => ?_
    · refine ts ⟨hv, fun h' => ?_⟩
      cases hb : p.begun with
      | true => rfl
      | false => exact absurd h' (p5 hb)
    · have hf : p.fault = 0 := by simpa using h
      have hb := (p1 hf).1
      refine tb (t79e s (by omega) p.pos p3) fun j hj => ?_
      refine tif (fun _ => ts ⟨fun _ => hv hb, fun _ => rfl⟩) fun _ => tif (fun _ => ?_) fun _ => ?_
      · rw [f28]
        exact ts ⟨fun _ => hv hb, fun _ => rfl⟩
      · rw [f28]
        exact ts ⟨fun _ => hv hb, fun _ => rfl⟩
  rw [f28]
  exact tif (fun _ => main 1 (by omega)) fun _ => main left hl
end
end Go.Proofs.YtonlbdholdaifaaGreatDoor
end
section
/- A selector's children: slice.Has and the reference's Has are one; eval.Children and the reference's are one. -/
set_option linter.unusedVariables false
set_option linter.unusedSimpArgs false
namespace Go.Proofs.YtonlbdholdaifaaGreatDoor
open Go Go.Rf Go.Proofs
def placeP (a n : Int) : Int := if a < 0 then IntKind.wrap .i64 (n + a) else a
def clipP (x lo hi : Int) : Int := if hi < x then (if hi < lo then lo else hi) else (if x < lo then lo else x)
theorem e127 (a n : Int) : f127 (.e127 a n) = some (placeP a n) := by
  rw [f127, placeP]
  by_cases h : a < 0 <;> simp [h]
theorem e179 (a n : Int) : f179 (.e179 a n) = some (placeP a n) := by
  rw [f179, placeP]
  by_cases h : a < 0
  · have : ¬ 0 ≤ a := by omega
    simp [h, this]
  · have : 0 ≤ a := by omega
    simp [h, this]
theorem e210 (x lo hi : Int) : f210 (.e210 x lo hi) = some (clipP x lo hi) := by
  have h2 : ∀ y, f210 (.l210_1 y) = some y := fun y => by rw [f210]
  have h1 : ∀ y, f210 (.l210_0 y lo) = some (if y < lo then lo else y) := fun y => by
    rw [f210]
    by_cases h : y < lo <;> simp [h, h2]
  rw [f210, clipP]
  by_cases h : hi < x <;> simp [h, h1]
theorem clip_gm {x lo hi : Int} (h : lo ≤ hi) : gmin (gmax x lo) hi = clipP x lo hi := by
  unfold gmin gmax clipP
  repeat' split
  all_goals omega
/-- The two bounds of a slice. -/
def loB (s : ApiSelector) (n : Int) : Int := if s.hasStart then placeP s.start n else (if 0 < s.stride then 0 else n - 1)
def hiB (s : ApiSelector) (n : Int) : Int := if s.hasEnd then placeP s.stop n else (if 0 < s.stride then n else -1)
def bndP (s : ApiSelector) (n : Int) : Int × Int :=
  if 0 < s.stride then (clipP (loB s n) 0 n, clipP (hiB s n) 0 n) else if s.stride < 0 then (clipP (hiB s n) (-1) (n - 1), clipP (loB s n) (-1) (n - 1)) else (0, 0)
theorem e126 (s : ApiSelector) (n : Int) (h0 : 0 ≤ n) (h1 : n ≤ 1000000) : f126 (.e126 s n) = some (bndP s n) := by
  have k2 : ∀ a b, f126 (.l126_2 n a b) = some (clipP a 0 n, clipP b 0 n) := fun a b => by rw [f126, clip_gm h0, clip_gm h0]
  have k3 : ∀ a b, f126 (.l126_3 n a b) = some (clipP b (-1) (n - 1), clipP a (-1) (n - 1)) := fun a b => by rw [f126, wi (by omega) (by omega), clip_gm (by omega), clip_gm (by omega)]
  have k0 : ∀ a b, f126 (.l126_0 n a b s) = some (clipP a 0 n, clipP (if s.hasEnd then b else n) 0 n) := fun a b => by
    rw [f126]
    cases s.hasEnd <;> simp [k2]
  have k1 : ∀ a b, f126 (.l126_1 n a b s) = some (clipP (if s.hasEnd then b else -1) (-1) (n - 1), clipP a (-1) (n - 1)) := fun a b => by
    rw [f126]
    cases s.hasEnd <;> simp [k3]
  rw [f126, e127, e127, wi (x := n - 1) (by omega) (by omega)]
  by_cases hp : 0 < s.stride
  · cases hs : s.hasStart <;> simp [hp, hs, k0, bndP, loB, hiB]
  · by_cases hn : s.stride < 0
    · cases hs : s.hasStart <;> simp [hp, hn, hs, k1, bndP, loB, hiB]
    · simp [hp, hn, bndP]
theorem e180 (s : ApiSelector) (n : Int) (h0 : 0 ≤ n) (h1 : n ≤ 1000000) : f180 (.e180 s n) = some (bndP s n) := by
  have k2 : ∀ a b, f180 (.l180_2 n a b) = some (clipP a 0 n, clipP b 0 n) := fun a b => by rw [f180, e210, e210]; rfl
  have k3 : ∀ a b, f180 (.l180_3 n a b) = some (clipP b (-1) (n - 1), clipP a (-1) (n - 1)) := fun a b => by rw [f180, wi (by omega) (by omega), e210, e210]; rfl
  have k0 : ∀ a b, f180 (.l180_0 n a b s) = some (clipP a 0 n, clipP (if s.hasEnd then b else n) 0 n) := fun a b => by
    rw [f180]
    cases s.hasEnd <;> simp [k2]
  have k1 : ∀ a b, f180 (.l180_1 n a b s) = some (clipP (if s.hasEnd then b else -1) (-1) (n - 1), clipP a (-1) (n - 1)) := fun a b => by
    rw [f180]
    cases s.hasEnd <;> simp [k3]
  rw [f180, e179, e179, wi (x := n - 1) (by omega) (by omega)]
  by_cases hp : 0 < s.stride
  · have : s.stride ≠ 0 := by omega
    cases hs : s.hasStart <;> simp [hp, this, hs, k0, bndP, loB, hiB]
  · by_cases hn : s.stride < 0
    · have : s.stride ≠ 0 := by omega
      cases hs : s.hasStart <;> simp [hp, hn, this, hs, k1, bndP, loB, hiB]
    · have : s.stride = 0 := by omega
      simp [this, bndP]
def hasP (s : ApiSelector) (i n : Int) : Bool :=
  if i < 0 ∨ n ≤ i then false else if s.kind = 2 then placeP s.index n == i else if s.kind ≠ 3 then false
  else if 0 < s.stride then decide ((bndP s n).1 ≤ i) && decide (i < (bndP s n).2) && (IntKind.wrap .i64 (i - (bndP s n).1)).tmod s.stride == 0
  else if s.stride < 0 then decide ((bndP s n).1 < i) && decide (i ≤ (bndP s n).2) && (IntKind.wrap .i64 ((bndP s n).2 - i)).tmod s.stride == 0
  else false
theorem gd_need {p : Prop} [Decidable p] {e : Bool} (hp : p) : gd e (need p) = some () := by
  cases e <;> simp [gd, need, hp]
theorem e74 (s : ApiSelector) (i n : Int) (h0 : 0 ≤ n) (h1 : n ≤ 1000000) : f74 (.e74 s i n) = some (hasP s i n) := by
  rw [f74, hasP, e126 s n h0 h1, e127]
  by_cases c1 : i < 0
  · simp [c1]
  by_cases c2 : n ≤ i
  · simp [c2]
  by_cases c3 : s.kind = 2
  · simp [c1, c2, c3]
  by_cases c4 : s.kind = 3
  · by_cases hp : 0 < s.stride
    · have : ¬ s.stride = 0 := by omega
      simp [c1, c2, c4, hp, gd_need this]
    · by_cases hn : s.stride < 0
      · have : ¬ s.stride = 0 := by omega
        simp [c1, c2, c4, hp, hn, gd_need this]
      · simp [c1, c2, c4, hp, hn]
  · simp [c1, c2, c3, c4]
theorem e128 (s : ApiSelector) (i n : Int) (h0 : 0 ≤ n) (h1 : n ≤ 1000000) (hs : -9223372036854775807 ≤ s.stride) : f128 (.e128 s i n) = some (hasP s i n) := by
  rw [f128, hasP, e180 s n h0 h1, e179]
  by_cases c1 : i < 0
  · simp [c1]
  by_cases c2 : n ≤ i
  · simp [c2]
  by_cases c3 : s.kind = 2
  · simp [c1, c2, c3]
  by_cases c4 : s.kind = 3
  · by_cases hp : 0 < s.stride
    · have : ¬ s.stride = 0 := by omega
      simp [c1, c2, c4, hp, this, gd_need trivial]
    · by_cases hn : s.stride < 0
      · have : ¬ s.stride = 0 := by omega
        rw [wi (x := 0 - s.stride) (by omega) (by omega)]
        have h' : ¬ (0 - s.stride) = 0 := by omega
        have h'' : ∀ x : Int, x.tmod (0 - s.stride) = x.tmod s.stride := fun x => by rw [Int.zero_sub, Int.tmod_neg]
        simp [c1, c2, c4, hp, hn, this, gd_need h', h'', -Int.zero_sub]
      · have : s.stride = 0 := by omega
        simp [c1, c2, c4, hp, hn, this]
  · simp [c1, c2, c3, c4]
end Go.Proofs.YtonlbdholdaifaaGreatDoor
end
section
/- What a selector picks of a value. -/
set_option linter.unusedVariables false
set_option linter.unusedSimpArgs false
namespace Go.Proofs.YtonlbdholdaifaaGreatDoor
open Go Go.Rf Go.Proofs
theorem wn {k : Nat} (h : k ≤ 1000000000000) : IntKind.wrap .i64 ((k : Int) + 1) = ((k + 1 : Nat) : Int) := by
  rw [wi (by omega) (by omega)]
  rfl
theorem ix {α : Type} {xs : List α} {k : Nat} (h : k < xs.length) : idx xs (k : Int) = some xs[k] := by simp [idx, h]
theorem gd_ok {α : Type} [Inhabited α] {e : Bool} {x : Option α} {y : α} (h : x = some y) : ∃ z, gd e x = some z ∧ (e = true → z = y) := by
  cases e
  · exact ⟨default, by simp [gd], by simp⟩
  · exact ⟨y, by simpa [gd] using h, by simp⟩
/-- What a value must be for its children to be told. -/
structure VOK (v : ApiValue) : Prop where
  few : v.items.length ≤ 1000000
  same : v.kind = 5 → v.names.length = v.items.length
def nm (v : ApiValue) (k : Nat) : List UInt8 := v.names[k]?.getD []
def meetsP (v : ApiValue) (s : ApiSelector) (k : Nat) : Bool :=
  if v.kind = 5 then s.kind == 1 || (s.kind == 0 && nm v k == s.name) else v.kind == 4 && (s.kind == 1 || hasP s k v.items.length)
theorem room_ok {n m b : Nat} (h : (n + m) * b ≤ 140737488355328) (h' : n + m ≤ 140737488355328) : room n m b = some () := by simp [room, need, h, h']
/-- The reference's. -/
theorem e76 (v : ApiValue) (s : ApiSelector) (k : Nat) (hv : VOK v) (hs : -9223372036854775807 ≤ s.stride) (hlt : k < v.items.length) : f76 (.e76 v k s) = some (meetsP v s k) := by
  have hfew := hv.few
  rw [f76]
  by_cases h5 : v.kind = 5
  · have hnl := hv.same h5
    simp only [h5, beq_self_eq_true, if_true]
    obtain ⟨z, hz, hz'⟩ := gd_ok (e := !(s.kind == 1) && s.kind == 0) (ix (xs := v.names) (k := k) (by omega))
    rw [hz]
    simp only [meetsP, h5, if_true, Option.bind_eq_bind, Option.bind_some]
    by_cases h1 : s.kind = 1
    · simp [h1]
    · by_cases h0 : s.kind = 0
      · have := hz' (by simp [h0])
        subst this
        simp [h0, nm, List.getElem?_eq_getElem (show k < v.names.length by omega)]
      · have h1' : (s.kind == 1) = false := by simpa using h1
        have h0' : (s.kind == 0) = false := by simpa using h0
        simp [h1', h0']
  · have n5 : (v.kind == 5) = false := by simp [h5]
    simp only [n5, Bool.false_eq_true, if_false, meetsP, h5]
    obtain ⟨z, hz, hz'⟩ := gd_ok (e := v.kind == 4 && !(s.kind == 1)) (e128 s k v.items.length (by omega) (by omega) hs)
    rw [hz]
    simp only [Option.bind_eq_bind, Option.bind_some]
    by_cases h4 : v.kind = 4
    · by_cases h1 : s.kind = 1
      · simp [h1, h4]
      · rw [hz' (by simp [h1, h4])]
    · have h4' : (v.kind == 4) = false := by simpa using h4
      simp [h4']
end Go.Proofs.YtonlbdholdaifaaGreatDoor
end
section
/- Items of values that stand in a text. -/
set_option linter.unusedVariables false
set_option linter.unusedSimpArgs false
namespace Go.Proofs.YtonlbdholdaifaaGreatDoor
open Go Go.Rf Go.Proofs
theorem drop_at {α : Type} {xs : List α} {k : Nat} (h : k < xs.length) : xs.drop k = xs[k] :: xs.drop (k + 1) := List.drop_eq_getElem_cons h
def stepP (v : ApiValue) (k : Nat) : ApiStep := if v.kind = 5 then ⟨true, nm v k, 0⟩ else ⟨false, [], k⟩
def itemP (n : Ref16Node) (k : Nat) : Ref16Node := ⟨n.value.items[k]?.getD default, n.steps ++ [stepP n.value k]⟩
theorem e136 (v : ApiValue) (k : Nat) (hv : VOK v) (h : k < v.items.length) : f136 (.e136 v k) = some (stepP v k) := by
  rw [f136, stepP]
  by_cases h5 : v.kind = 5
  · have hn := hv.same h5
    have hk : k < v.names.length := by omega
    simp [h5, ix hk, nm, List.getElem?_eq_getElem hk]
  · simp [h5]
theorem e81 (n : Ref16Node) (k : Nat) (hv : VOK n.value) (h : k < n.value.items.length) (hs : n.steps.length ≤ 1000000) : f81 (.e81 n k) = some (itemP n k) := by
  rw [f81, ix h, room_ok (by simp; omega) (by simp; omega), e136 _ _ hv h]
  simp only [Option.bind_eq_bind, Option.bind_some]
  rw [room_ok (by simp; omega) (by simp; omega)]
  simp [itemP, List.getElem?_eq_getElem h]
/-- What stands between lo and hi, and has few steps. -/
structure NodeOK (lo hi : Int) (n : Ref16Node) : Prop where
  wf : WFv lo hi n.value
  lo0 : 0 ≤ lo
  hi1 : hi ≤ 100000
  few : (n.steps.length : Int) ≤ lo
theorem WFv.items {lo hi : Int} {v : ApiValue} (h : WFv lo hi v) : WFl (v.frm + 1) hi v.items ∧ lo ≤ v.frm ∧ v.frm < hi ∧ (v.kind = 5 → v.names.length = v.items.length) := by
  cases h with
  | mk h1 h2 hto hk hn hn' hs hm ht hi' => exact ⟨hi', h1, h2, hn⟩
theorem NodeOK.vok {lo hi : Int} {n : Ref16Node} (h : NodeOK lo hi n) : VOK n.value := by
  obtain ⟨h1, h2, h3, h4⟩ := h.wf.items
  have := h1.length (by omega)
  have := h.lo0
  have := h.hi1
  exact ⟨by omega, h4⟩
theorem WFl.at {lo hi : Int} : ∀ {xs : List ApiValue} {k : Nat} {x : ApiValue}, WFl lo hi xs → xs[k]? = some x → ∃ l m, lo ≤ l ∧ m ≤ hi ∧ WFv l m x
  | [], k, x, _, h => by simp at h
  | y :: ys, 0, x, hw, h => by
    cases hw with
    | cons hv ht hm =>
      simp at h
      subst h
      exact ⟨lo, _, Int.le_refl _, hm, hv⟩
  | y :: ys, k + 1, x, hw, h => by
    cases hw with
    | cons hv ht hm =>
      obtain ⟨l, m', h1, h2, h3⟩ := ht.at (by simpa using h)
      have := hv.lt
      exact ⟨l, m', by omega, h2, h3⟩
theorem NodeOK.item {lo hi l m : Int} {n : Ref16Node} {k : Nat} (h : NodeOK lo hi n) (hk : k < n.value.items.length) (hl : lo + 1 ≤ l) (hm : m ≤ hi) (hw : WFv l m n.value.items[k]) : NodeOK l m (itemP n k) := by
  have := h.lo0
  have := h.hi1
  have := h.few
  exact ⟨by simpa [itemP, List.getElem?_eq_getElem hk] using hw, by omega, by omega, by simp [itemP]; omega⟩
theorem NodeOK.item' {lo hi : Int} {n : Ref16Node} {k : Nat} (h : NodeOK lo hi n) (hk : k < n.value.items.length) : ∃ l m, NodeOK l m (itemP n k) := by
  obtain ⟨h1, h2, h3, h4⟩ := h.wf.items
  obtain ⟨l, m, a, b, c⟩ := h1.at (List.getElem?_eq_getElem hk)
  exact ⟨l, m, h.item hk (by omega) b c⟩
structure SegP (seg : ApiSegment) : Prop where
  few : seg.selectors.length ≤ 8
  str : ∀ s, s ∈ seg.selectors → -9223372036854775807 ≤ s.stride
end Go.Proofs.YtonlbdholdaifaaGreatDoor
end
section
/- Fates: going down a path and coming up it tell the same. -/
set_option linter.unusedVariables false
set_option linter.unusedSimpArgs false
namespace Go.Proofs.YtonlbdholdaifaaGreatDoor
open Go Go.Rf Go.Proofs
abbrev Ft := Option (Int × Int)
abbrev MX : Int := 9223372036854775807
def orF : Ft → Ft → Ft
  | none, b => b
  | some a, none => some a
  | some (a, b), some (c, d) => some (gmin a c, gmax b d)
def mulF : Ft → Ft → Ft
  | some (a, b), some (c, d) => some (gmax a c, gmin b d)
  | _, _ => none
theorem gmin_comm (a b : Int) : gmin a b = gmin b a := by unfold gmin; split <;> split <;> omega
theorem gmax_comm (a b : Int) : gmax a b = gmax b a := by unfold gmax; split <;> split <;> omega
theorem gmin_assoc (a b c : Int) : gmin (gmin a b) c = gmin a (gmin b c) := by
  unfold gmin
  repeat' split
  all_goals omega
theorem gmax_assoc (a b c : Int) : gmax (gmax a b) c = gmax a (gmax b c) := by
  unfold gmax
  repeat' split
  all_goals omega
theorem gmax_gmin (a b c : Int) : gmax (gmin a b) c = gmin (gmax a c) (gmax b c) := by
  unfold gmax gmin
  repeat' split
  all_goals omega
theorem gmin_gmax (a b c : Int) : gmin (gmax a b) c = gmax (gmin a c) (gmin b c) := by
  unfold gmax gmin
  repeat' split
  all_goals omega
theorem orF_none (a : Ft) : orF a none = a := by cases a <;> rfl
theorem none_orF (a : Ft) : orF none a = a := rfl
theorem mulF_none (a : Ft) : mulF a none = none := by cases a <;> rfl
theorem none_mulF (a : Ft) : mulF none a = none := rfl
theorem orF_assoc (a b c : Ft) : orF (orF a b) c = orF a (orF b c) := by
  rcases a with _ | ⟨a, a'⟩ <;> rcases b with _ | ⟨b, b'⟩ <;> rcases c with _ | ⟨c, c'⟩ <;> simp [orF, gmin_assoc, gmax_assoc]
theorem orF_comm (a b : Ft) : orF a b = orF b a := by
  rcases a with _ | ⟨a, a'⟩ <;> rcases b with _ | ⟨b, b'⟩ <;> simp [orF, gmin_comm, gmax_comm]
theorem mulF_assoc (a b c : Ft) : mulF (mulF a b) c = mulF a (mulF b c) := by
  rcases a with _ | ⟨a, a'⟩ <;> rcases b with _ | ⟨b, b'⟩ <;> rcases c with _ | ⟨c, c'⟩ <;> simp [mulF, gmin_assoc, gmax_assoc]
theorem mulF_comm (a b : Ft) : mulF a b = mulF b a := by
  rcases a with _ | ⟨a, a'⟩ <;> rcases b with _ | ⟨b, b'⟩ <;> simp [mulF, gmin_comm, gmax_comm]
theorem or_mul (a b c : Ft) : mulF (orF a b) c = orF (mulF a c) (mulF b c) := by
  rcases a with _ | ⟨a, a'⟩ <;> rcases b with _ | ⟨b, b'⟩ <;> rcases c with _ | ⟨c, c'⟩ <;> first | rfl | exact congrArg some (Prod.ext (gmax_gmin a b c) (gmin_gmax a' b' c'))
theorem mul_or (a b c : Ft) : mulF c (orF a b) = orF (mulF c a) (mulF c b) := by rw [mulF_comm, or_mul, mulF_comm a, mulF_comm b]
/-- The least upper fate of what selectors give. -/
def sumF (e : ApiSelector → Ft) : List ApiSelector → Ft → Ft
  | [], acc => acc
  | s :: ss, acc => sumF e ss (orF acc (e s))
theorem sumF_or (e : ApiSelector → Ft) : ∀ (ss : List ApiSelector) (a b : Ft), sumF e ss (orF a b) = orF a (sumF e ss b)
  | [], a, b => rfl
  | s :: ss, a, b => by rw [sumF, sumF, orF_assoc, sumF_or e ss]
theorem sumF_start (e : ApiSelector → Ft) (ss : List ApiSelector) (a : Ft) : sumF e ss a = orF a (sumF e ss none) := by
  have := sumF_or e ss a none
  rwa [orF_none] at this
theorem mul_sumF (x : Ft) (e : ApiSelector → Ft) : ∀ (ss : List ApiSelector) (a : Ft), mulF x (sumF e ss a) = sumF (fun s => mulF x (e s)) ss (mulF x a)
  | [], a => rfl
  | s :: ss, a => by rw [sumF, sumF, mul_sumF x e ss, mul_or]
theorem sumF_mul (y : Ft) (e : ApiSelector → Ft) : ∀ (ss : List ApiSelector) (a : Ft), mulF (sumF e ss a) y = sumF (fun s => mulF (e s) y) ss (mulF a y)
  | [], a => rfl
  | s :: ss, a => by rw [sumF, sumF, sumF_mul y e ss, or_mul]
/-- Down: the fates behind a step, ahead of which they were s; c is what has come to the first. -/
def dn (E : ApiSelector → Ft) : Ft → List ApiSegment → List Ft → List Ft
  | c, seg :: q, x :: s => orF c (if seg.deep then x else none) :: dn E (sumF (fun t => mulF x (E t)) seg.selectors none) q s
  | c, _, _ => [c]
/-- Up: the fates ahead of a step, behind which they are r. -/
def bk (E : ApiSelector → Ft) : List ApiSegment → List Ft → List Ft
  | seg :: q, x :: y :: r => sumF (fun t => mulF (E t) y) seg.selectors (if seg.deep then x else none) :: bk E q (y :: r)
  | _, _ => [none]
def dot : List Ft → List Ft → Ft
  | x :: xs, y :: ys => orF (mulF x y) (dot xs ys)
  | _, _ => none
theorem dn_length (E : ApiSelector → Ft) : ∀ (q : List ApiSegment) (c : Ft) (s : List Ft), s.length = q.length + 1 → (dn E c q s).length = q.length + 1
  | [], c, [x], h => rfl
  | seg :: q, c, x :: s, h => by simp [dn, dn_length E q _ s (by simpa using h)]
theorem bk_length (E : ApiSelector → Ft) : ∀ (q : List ApiSegment) (r : List Ft), r.length = q.length + 1 → (bk E q r).length = q.length + 1
  | [], [x], h => rfl
  | seg :: q, x :: y :: r, h => by simp [bk, bk_length E q (y :: r) (by simpa using h)]
theorem dot_dn (E : ApiSelector → Ft) : ∀ (q : List ApiSegment) (c : Ft) (s r : List Ft) (y : Ft), s.length = q.length + 1 → (y :: r).length = q.length + 1 → dot (dn E c q s) (y :: r) = orF (mulF c y) (dot s (bk E q (y :: r)))
  | [], c, [x], [], y, h1, h2 => by simp [dn, bk, dot, mulF_none, orF_none]
  | seg :: q, c, x :: s, z :: r, y, h1, h2 => by
    rw [dn, dot, dot_dn E q _ s r z (by simpa using h1) (by simpa using h2), bk, dot, or_mul, sumF_mul, sumF_start _ _ (if seg.deep then y else none), mul_or, mul_sumF]
    have e1 : mulF (if seg.deep = true then x else none) y = mulF x (if seg.deep = true then y else none) := by
      cases seg.deep <;> simp [mulF_none, none_mulF]
    rw [e1, orF_assoc, orF_assoc, mulF_none, none_mulF]
    simp only [mulF_assoc]
/-- The fate of a match that is at hand. -/
abbrev oneF : Ft := some (0, MX)
def GoodF (x : Ft) : Prop := ∀ a b, x = some (a, b) → 0 ≤ a ∧ a ≤ MX ∧ 0 ≤ b ∧ b ≤ MX
theorem good_none : GoodF none := fun a b h => by cases h
theorem good_one : GoodF oneF := fun a b h => by cases h; simp
theorem good_or {x y : Ft} (hx : GoodF x) (hy : GoodF y) : GoodF (orF x y) := by
  rcases x with _ | ⟨a, a'⟩
  · exact hy
  rcases y with _ | ⟨b, b'⟩
  · exact hx
  intro c d h
  have h1 := hx _ _ rfl
  have h2 := hy _ _ rfl
  simp only [orF, Option.some.injEq, Prod.mk.injEq] at h
  obtain ⟨rfl, rfl⟩ := h
  unfold gmin gmax
  repeat' split
  all_goals omega
theorem good_mul {x y : Ft} (hx : GoodF x) (hy : GoodF y) : GoodF (mulF x y) := by
  rcases x with _ | ⟨a, a'⟩
  · exact good_none
  rcases y with _ | ⟨b, b'⟩
  · exact good_none
  intro c d h
  have h1 := hx _ _ rfl
  have h2 := hy _ _ rfl
  simp only [mulF, Option.some.injEq, Prod.mk.injEq] at h
  obtain ⟨rfl, rfl⟩ := h
  unfold gmin gmax
  repeat' split
  all_goals omega
theorem one_mul' {x : Ft} (hx : GoodF x) : mulF oneF x = x := by
  rcases x with _ | ⟨a, a'⟩
  · rfl
  have h1 := hx _ _ rfl
  simp only [mulF, Option.some.injEq, Prod.mk.injEq]
  unfold gmin gmax
  refine ⟨?_, ?_⟩ <;> split <;> omega
theorem good_sum {e : ApiSelector → Ft} : ∀ (ss : List ApiSelector) (a : Ft), (∀ s, s ∈ ss → GoodF (e s)) → GoodF a → GoodF (sumF e ss a)
  | [], a, _, h => h
  | s :: ss, a, he, h => good_sum ss _ (fun t ht => he t (by simp [ht])) (good_or h (he s (by simp)))
theorem good_dn (E : ApiSelector → Ft) (hE : ∀ s, GoodF (E s)) : ∀ (q : List ApiSegment) (c : Ft) (s : List Ft), GoodF c → (∀ x, x ∈ s → GoodF x) → ∀ x, x ∈ dn E c q s → GoodF x
  | [], c, s, hc, hs, x, hx => by
    simp [dn] at hx
    rwa [hx]
  | seg :: q, c, [], hc, hs, x, hx => by
    simp [dn] at hx
    rwa [hx]
  | seg :: q, c, y :: s, hc, hs, x, hx => by
    simp only [dn, List.mem_cons] at hx
    have hy := hs y (by simp)
    rcases hx with rfl | hx
    · refine good_or hc ?_
      split
      · exact hy
      · exact good_none
    · exact good_dn E hE q _ s (good_sum _ _ (fun t _ => good_mul hy (hE t)) good_none) (fun z hz => hs z (by simp [hz])) x hx
theorem good_bk (E : ApiSelector → Ft) (hE : ∀ s, GoodF (E s)) : ∀ (q : List ApiSegment) (r : List Ft), (∀ x, x ∈ r → GoodF x) → ∀ x, x ∈ bk E q r → GoodF x
  | [], r, hr, x, hx => by
    simp [bk] at hx
    rw [hx]
    exact good_none
  | seg :: q, [], hr, x, hx => by
    simp [bk] at hx
    rw [hx]
    exact good_none
  | seg :: q, [y], hr, x, hx => by
    simp [bk] at hx
    rw [hx]
    exact good_none
  | seg :: q, y :: z :: r, hr, x, hx => by
    simp only [bk, List.mem_cons] at hx
    rcases hx with rfl | hx
    · refine good_sum _ _ (fun t _ => good_mul (hE t) (hr z (by simp))) ?_
      split
      · exact hr y (by simp)
      · exact good_none
    · exact good_bk E hE q (z :: r) (fun w hw => hr w (List.mem_cons_of_mem _ hw)) x hx
/-- Does a selector count from the end? -/
def hangsP (s : ApiSelector) : Bool :=
  if s.kind = 2 then decide (s.index < 0) else if s.kind = 3 then decide (s.stride < 0) || (decide (0 < s.stride) && ((s.hasStart && decide (s.start < 0)) || (s.hasEnd && decide (s.stop < 0)))) else false
theorem e188 (s : ApiSelector) : f188 (.e188 s) = some (hangsP s) := by
  rw [f188, hangsP]
  by_cases h2 : s.kind = 2
  · simp [h2]
  · by_cases h3 : s.kind = 3 <;> simp [h2, h3]
theorem e141 (s : ApiSelector) : f141 (.e141 s) = some (hangsP s) := by
  rw [f141, hangsP]
  by_cases h2 : s.kind = 2
  · simp [h2]
  · by_cases h3 : s.kind = 3
    · by_cases h0 : s.stride = 0
      · simp [h2, h3, h0]
      · by_cases hn : s.stride < 0
        · simp [h2, h3, h0, hn]
        · have : 0 < s.stride := by omega
          simp [h2, h3, h0, hn, this]
    · simp [h2, h3]
/-- What a step past the item k does to a fate. -/
def edgeP (v : ApiValue) (k : Nat) (s : ApiSelector) : Ft :=
  if v.kind = 4 ∧ hangsP s = true then (if v.to = 0 then some (MX, MX) else if meetsP v s k then some (v.to, MX) else some (MX, v.to)) else if meetsP v s k then some (0, MX) else none
theorem good_edge (v : ApiValue) (k : Nat) (hv : 0 ≤ v.to ∧ v.to ≤ 100000) (s : ApiSelector) : GoodF (edgeP v k s) := by
  have hM : MX = 9223372036854775807 := rfl
  intro a b h
  unfold edgeP at h
  split at h
  · split at h
    · cases h
      omega
    · split at h <;> cases h <;> omega
  · split at h
    · cases h
      omega
    · cases h
def toH : Ft → HangFate
  | none => ⟨false, MX, MX⟩
  | some (a, b) => ⟨true, a, b⟩
def en (x : Int) : Int := if x = MX then -1 else x
def toR : Ft → Ref17Fate
  | none => ⟨false, -1, -1⟩
  | some (a, b) => ⟨true, en a, en b⟩
def toT : Ft → HangFate
  | none => ⟨false, -1, -1⟩
  | some (a, b) => ⟨true, en a, en b⟩
theorem e83 : f83 .e83 = some (toH none) := by rw [f83]; rfl
theorem e84 (x : Ft) : f84 (.e84 (toH x)) = some (toT x) := by
  have k1 : ∀ a b c d e f, f84 (.l84_1 a b c d e f) = some ⟨d, e, f⟩ := fun a b c d e f => by rw [f84]
  have k0 : ∀ a b c d e f, f84 (.l84_0 a b c d e f) = some ⟨d, e, en f⟩ := fun a b c d e f => by
    rw [f84, en]
    by_cases h : f = MX <;> simp [h, k1]
  rw [f84]
  rcases x with _ | ⟨a, b⟩
  · rfl
  · simp only [toH, toT, k0, en]
    by_cases h : a = MX <;> simp [h]
theorem e137 (x y : Ft) : f137 (.e137 (toH x) (toH y)) = some (toH (orF x y)) := by
  rw [f137]
  rcases x with _ | ⟨a, b⟩ <;> rcases y with _ | ⟨c, d⟩ <;> simp [toH, orF]
theorem e139 (a b h f : Int) : f139 (.e139 (toH (some (a, b))) h f) = some (toH (mulF (some (a, b)) (some (h, f)))) := by
  rw [f139]
  simp [toH, mulF]
/-- hang.meets. -/
theorem e138 (v : ApiValue) (s : ApiSelector) (k : Nat) (hv : VOK v) (hlt : k < v.items.length) : ∃ b h f, f138 (.e138 v k s) = some (b, h, f) ∧ (if b then some (h, f) else none) = edgeP v k s := by
  have hfew := hv.few
  rw [f138]
  by_cases h5 : v.kind = 5
  · have hnl := hv.same h5
    simp only [h5, beq_self_eq_true, if_true]
    obtain ⟨z, hz, hz'⟩ := gd_ok (e := !(s.kind == 1) && s.kind == 0) (ix (xs := v.names) (k := k) (by omega))
    rw [hz]
    refine ⟨_, _, _, rfl, ?_⟩
    have hm : (s.kind == 1 || s.kind == 0 && z == s.name) = meetsP v s k := by
      simp only [meetsP, h5, if_true]
      by_cases h1 : s.kind = 1
      · simp [h1]
      · by_cases h0 : s.kind = 0
        · have := hz' (by simp [h0])
          subst this
          simp [h0, nm, List.getElem?_eq_getElem (show k < v.names.length by omega)]
        · have h1' : (s.kind == 1) = false := by simpa using h1
          have h0' : (s.kind == 0) = false := by simpa using h0
          simp [h1', h0']
    rw [hm]
    simp [edgeP, h5]
  · have n5 : (v.kind == 5) = false := by simp [h5]
    simp only [n5, Bool.false_eq_true, if_false]
    obtain ⟨z, hz, hz'⟩ := gd_ok (e := !(s.kind == 1)) (e74 s k v.items.length (by omega) (by omega))
    rw [hz]
    simp only [Option.bind_eq_bind, Option.bind_some]
    by_cases h4 : v.kind = 4
    · have n4 : (v.kind != 4) = false := by simp [h4]
      simp only [n4, Bool.false_eq_true, if_false]
      rw [e188]
      simp only [Option.bind_some]
      have hm : (s.kind == 1 || z) = meetsP v s k := by
        simp only [meetsP, h4]
        by_cases h1 : s.kind = 1
        · simp [h1]
        · rw [hz' (by simp [h1])]
          simp [h1]
      rw [hm]
      cases hh : hangsP s with
      | false =>
        simp only [Bool.not_false, if_true]
        exact ⟨_, _, _, rfl, by simp [edgeP, h4, hh]⟩
      | true =>
        simp only [Bool.not_true, Bool.false_eq_true, if_false]
        by_cases h0 : v.to = 0
        · simp only [h0, beq_self_eq_true, if_true]
          exact ⟨_, _, _, rfl, by simp [edgeP, h4, hh, h0]⟩
        · have n0 : (v.to == 0) = false := by simp [h0]
          simp only [n0, Bool.false_eq_true, if_false]
          cases hmm : meetsP v s k with
          | true => exact ⟨_, _, _, rfl, by simp [edgeP, h4, hh, h0, hmm]⟩
          | false => exact ⟨_, _, _, rfl, by simp [edgeP, h4, hh, h0, hmm]⟩
    · have n4 : (v.kind != 4) = true := by simp [h4]
      simp only [n4, if_true]
      exact ⟨_, _, _, rfl, by simp [edgeP, meetsP, h4, h5]⟩
end Go.Proofs.YtonlbdholdaifaaGreatDoor
end
section
/- hang.Of and the reference's Of tell the same fate. -/
set_option linter.unusedVariables false
set_option linter.unusedSimpArgs false
namespace Go.Proofs.YtonlbdholdaifaaGreatDoor
open Go Go.Rf Go.Proofs
theorem ixp (pre : List Ft) (c : Ft) (rest : List Ft) (j : Nat) (h : pre.length = j) : idx ((pre ++ c :: rest).map toH) (j : Int) = some (toH c) := by
  subst h
  simp [idx]
theorem setp (pre : List Ft) (c c' : Ft) (rest : List Ft) (j : Nat) (h : pre.length = j) : ((pre ++ c :: rest).map toH).set ((j : Int)).toNat (toH c') = (pre ++ c' :: rest).map toH := by
  subst h
  simp
theorem sum_none {e : ApiSelector → Ft} (h : ∀ s, e s = none) : ∀ ss : List ApiSelector, sumF e ss none = none
  | [] => rfl
  | s :: ss => by rw [sumF, h, none_orF, sum_none h ss]
theorem fill_set (a b : HangFate) (i m : Nat) : (List.replicate i a ++ List.replicate (m + 1) b).set ((i : Nat) : Int).toNat a = List.replicate (i + 1) a ++ List.replicate m b := by
  rw [List.replicate_succ' (n := i), List.replicate_succ (n := m)]
  simp
theorem e82 (q : List ApiSegment) (hq : q.length ≤ 1000) : f82 (.e82 q) = some ((oneF :: List.replicate q.length none).map toH) := by
  have go : ∀ (m i : Nat), i + m = q.length + 1 → f82 (.l82_0 ((q.length + 1 : Nat) : Int) (i : Int) (List.replicate i (toH none) ++ List.replicate m (⟨false, 0, 0⟩ : HangFate))) = some ((oneF :: List.replicate q.length none).map toH) := by
    intro m
    induction m with
    | zero =>
      intro i hi
      rw [f82]
      have : i = q.length + 1 := by omega
      subst this
      simp [idx, List.replicate_succ, toH]
    | succ m ih =>
      intro i hi
      rw [f82]
      have h : i < q.length + 1 := by omega
      simp only [Int.ofNat_lt, h, decide_true, if_true]
      rw [e83]
      simp only [Option.bind_eq_bind, Option.bind_some]
      rw [ix (by simp), wn (by omega)]
      simp only [Option.bind_some]
      rw [fill_set]
      exact ih (i + 1) (by omega)
  have w : IntKind.wrap .i64 ((q.length : Int) + 1) = ((q.length + 1 : Nat) : Int) := wn (by omega)
  have hn : need (0 ≤ ((q.length + 1 : Nat) : Int) ∧ (24 : Int) * ((q.length + 1 : Nat) : Int) ≤ 281474976710656 ∧ ((q.length + 1 : Nat) : Int) ≤ 9223372036854775807) = some () := by
    rw [need, if_pos (by omega)]
  rw [f82, w, hn]
  simpa using go (q.length + 1) 0 (by omega)
section
variable (q : List ApiSegment) (hq : q.length ≤ 1000) (hsel : ∀ s, s ∈ q → s.selectors.length ≤ 8)
section
variable (v : ApiValue) (k : Nat) (hv : VOK v) (hk : k < v.items.length)
include hv hk in
/-- Over the selectors of a segment. -/
theorem l85_4 (S : List HangFate) (N : Int) (j : Nat) (hj : j ≤ 1000) (a b : Int) (pre : List Ft) (c : Ft) (rest : List Ft) (hp : pre.length = j) (ss : List ApiSelector) (hss : ss.length ≤ 8) : ∀ (m i : Nat) (acc : Ft), i ≤ ss.length → ss.length - i = m →
    f85 (.l85_4 (k : Int) q (j : Int) S N (j : Int) ss (ss.length : Int) (i : Int) ((pre ++ c :: acc :: rest).map toH) (toH (some (a, b))) v) =
      f85 (.l85_1 (k : Int) q S N (((j + 1 : Nat)) : Int) ((pre ++ c :: sumF (fun t => mulF (some (a, b)) (edgeP v k t)) (ss.drop i) acc :: rest).map toH) v)
  | m, i, acc, hi, hm => by
    conv => lhs; rw [f85]
    by_cases h : i < ss.length
    · simp only [Int.ofNat_lt, h, decide_true, if_true]
      rw [ix h]
      simp only [Option.bind_eq_bind, Option.bind_some]
      obtain ⟨bb, hh, ff, h1, h2⟩ := e138 v ss[i] k hv hk
      rw [h1]
      simp only [Option.bind_some]
      have s5 : ∀ x, f85 (.l85_5 (k : Int) q (j : Int) S N (j : Int) ss (ss.length : Int) (i : Int) x (toH (some (a, b))) v) = f85 (.l85_4 (k : Int) q (j : Int) S N (j : Int) ss (ss.length : Int) ((i + 1 : Nat) : Int) x (toH (some (a, b))) v) := fun x => by
        conv => lhs; rw [f85]
        rw [wn (by omega)]
      have hx : ∀ y, ((pre ++ c :: y :: rest).map toH) = (((pre ++ [c]) ++ y :: rest).map toH) := fun y => by simp
      rw [drop_at h, sumF, ← h2]
      match m with
      | 0 => omega
      | m + 1 =>
        cases bb with
        | true =>
          simp only [if_true]
          rw [wn (by omega), hx acc, ixp _ _ _ (j + 1) (by simp [hp])]
          simp only [Option.bind_some]
          rw [e139]
          simp only [Option.bind_some]
          rw [e137]
          simp only [Option.bind_some]
          rw [setp _ _ _ _ (j + 1) (by simp [hp]), s5, ← hx, l85_4 S N j hj a b pre c rest hp ss hss m (i + 1) _ (by omega) (by omega)]
        | false =>
          simp only [Bool.false_eq_true, if_false]
          rw [s5, l85_4 S N j hj a b pre c rest hp ss hss m (i + 1) _ (by omega) (by omega), mulF_none, orF_none]
    · rw [List.drop_of_length_le (by omega)]
      simp only [Int.ofNat_lt, h, decide_false, Bool.false_eq_true, if_false, sumF]
      rw [wn (by omega)]
include hq hv hk hsel in
theorem down_go (s : List Ft) (hs : s.length = q.length + 1) : ∀ (m j : Nat) (pre : List Ft) (c : Ft), j ≤ q.length → q.length - j = m → pre.length = j →
    f85 (.l85_1 (k : Int) q (s.map toH) ((s.map toH).length : Int) (j : Int) ((pre ++ c :: List.replicate m none).map toH) v) = some ((pre ++ dn (edgeP v k) c (q.drop j) (s.drop j)).map toH)
  | m, j, pre, c, hj, hm, hp => by
    have hjs : j < (s.map toH).length := by simp; omega
    have hjs' : j < s.length := by omega
    have s2 : ∀ x, f85 (.l85_2 (k : Int) q (s.map toH) ((s.map toH).length : Int) (j : Int) x v) = f85 (.l85_1 (k : Int) q (s.map toH) ((s.map toH).length : Int) ((j + 1 : Nat) : Int) x v) := fun x => by
      conv => lhs; rw [f85]
      rw [wn (by omega)]
    rw [f85]
    simp only [Int.ofNat_lt, hjs, decide_true, if_true]
    rw [ix hjs]
    simp only [Option.bind_eq_bind, Option.bind_some, List.getElem_map]
    match m with
    | 0 =>
      have hje : j = q.length := by omega
      have e1 : ((!(toH s[j]).may) || ((j : Int) == (q.length : Int))) = true := by simp [hje]
      rw [if_pos e1, s2, f85]
      have : ¬ (j + 1 < (s.map toH).length) := by simp; omega
      simp only [Int.ofNat_lt, this, decide_false, Bool.false_eq_true, if_false]
      rw [List.drop_of_length_le (by omega)]
      simp [dn]
    | m + 1 =>
      have hjq : j < q.length := by omega
      have hne : ((j : Int) == (q.length : Int)) = false := by simp; omega
      rw [drop_at hjq, drop_at hjs', dn]
      cases hx : s[j] with
      | none =>
        simp only [toH, Bool.not_false, Bool.true_or, if_true]
        rw [s2, show (pre ++ c :: List.replicate (m + 1) none) = ((pre ++ [c]) ++ none :: List.replicate m none) by simp [List.replicate_succ]]
        rw [down_go s hs m (j + 1) (pre ++ [c]) none (by omega) (by omega) (by simp [hp])]
        rw [sum_none (fun _ => none_mulF _)]
        have : (if q[j].deep = true then (none : Ft) else none) = none := by split <;> rfl
        rw [this, orF_none]
        simp
      | some ab =>
        obtain ⟨a, b⟩ := ab
        rw [show ((!(toH (some (a, b))).may) || ((j : Int) == (q.length : Int))) = false by simp [toH, hne]]
        simp only [Bool.false_eq_true, if_false]
        rw [ix hjq]
        simp only [Option.bind_some]
        have hrep : ∀ c', (pre ++ c' :: List.replicate (m + 1) (none : Ft)) = (pre ++ c' :: none :: List.replicate m none) := fun c' => by simp [List.replicate_succ]
        have fin : ∀ c', f85 (.l85_3 (k : Int) q (j : Int) (s.map toH) ((s.map toH).length : Int) (j : Int) ((pre ++ c' :: List.replicate (m + 1) none).map toH) (toH (some (a, b))) v) =
            some ((pre ++ c' :: dn (edgeP v k) (sumF (fun t => mulF (some (a, b)) (edgeP v k t)) q[j].selectors none) (q.drop (j + 1)) (s.drop (j + 1))).map toH) := fun c' => by
          rw [f85, ix hjq]
          simp only [Option.bind_eq_bind, Option.bind_some]
          have := l85_4 q v k hv hk (s.map toH) ((s.map toH).length : Int) j (by omega) a b pre c' (List.replicate m none) hp q[j].selectors (hsel _ (List.getElem_mem hjq)) _ 0 none (by omega) rfl
          rw [show ((0 : Nat) : Int) = (0 : Int) from rfl] at this
          rw [hrep, this, List.drop_zero]
          rw [show ∀ y, (pre ++ c' :: y :: List.replicate m (none : Ft)) = ((pre ++ [c']) ++ y :: List.replicate m none) from fun y => by simp]
          rw [down_go s hs m (j + 1) (pre ++ [c']) _ (by omega) (by omega) (by simp [hp])]
          simp
        cases hd : q[j].deep with
        | true =>
          simp only [if_true]
          rw [ixp _ _ _ j hp]
          simp only [Option.bind_some]
          rw [e137]
          simp only [Option.bind_some]
          rw [setp _ _ _ _ j hp, fin]
        | false =>
          simp only [Bool.false_eq_true, if_false]
          rw [fin, orF_none]
include hq hv hk hsel in
theorem e85 (s : List Ft) (hs : s.length = q.length + 1) : f85 (.e85 v (k : Int) q (s.map toH)) = some ((dn (edgeP v k) none q s).map toH) := by
  have go : ∀ (m i : Nat), i + m = q.length + 1 → f85 (.l85_0 (k : Int) q (s.map toH) ((q.length + 1 : Nat) : Int) (i : Int) (List.replicate i (toH none) ++ List.replicate m (⟨false, 0, 0⟩ : HangFate)) v) = f85 (.l85_1 (k : Int) q (s.map toH) ((s.map toH).length : Int) 0 (List.replicate (q.length + 1) (toH none)) v) := by
    intro m
    induction m with
    | zero =>
      intro i hi
      conv => lhs; rw [f85]
      have : i = q.length + 1 := by omega
      subst this
      simp
    | succ m ih =>
      intro i hi
      conv => lhs; rw [f85]
      have h : i < q.length + 1 := by omega
      simp only [Int.ofNat_lt, h, decide_true, if_true]
      rw [e83]
      simp only [Option.bind_eq_bind, Option.bind_some]
      rw [ix (by simp), wn (by omega)]
      simp only [Option.bind_some]
      rw [fill_set]
      exact ih (i + 1) (by omega)
  have hl : (s.map toH).length = q.length + 1 := by simp [hs]
  have main := down_go q hq hsel v k hv hk s hs q.length 0 [] none (by omega) (by omega) rfl
  have g := go (q.length + 1) 0 (by omega)
  have e : List.replicate (q.length + 1) (toH none) = (([] : List Ft) ++ none :: List.replicate q.length none).map toH := by simp [List.replicate_succ]
  rw [e] at g
  rw [show (0 : Int) = ((0 : Nat) : Int) from rfl] at g
  rw [main] at g
  have hn : need (0 ≤ ((s.map toH).length : Int) ∧ (24 : Int) * ((s.map toH).length : Int) ≤ 281474976710656 ∧ ((s.map toH).length : Int) ≤ 9223372036854775807) = some () := by
    rw [need, if_pos (by omega)]
  rw [f85, hn]
  simp only [Option.bind_eq_bind, Option.bind_some]
  rw [hl]
  simpa using g
end
end
end Go.Proofs.YtonlbdholdaifaaGreatDoor
end
section
/- The reference's way up a path. -/
set_option linter.unusedVariables false
set_option linter.unusedSimpArgs false
namespace Go.Proofs.YtonlbdholdaifaaGreatDoor
open Go Go.Rf Go.Proofs
theorem e140 {a b : Int} (ha : 0 ≤ a ∧ a ≤ MX) (hb : 0 ≤ b ∧ b ≤ MX) : f140 (.e140 (en a) (en b)) = some (en (gmin a b)) := by
  rw [f140]
  unfold en gmin
  simp only [Bool.or_eq_true, beq_iff_eq, Bool.and_eq_true, bne_iff_ne, decide_eq_true_eq, ne_eq]
  repeat' split
  all_goals first | rfl | (simp only [Option.some.injEq]; omega) | omega
theorem e103 {a b : Int} (ha : 0 ≤ a ∧ a ≤ MX) (hb : 0 ≤ b ∧ b ≤ MX) : f103 (.e103 (en a) (en b)) = some (en (gmax a b)) := by
  rw [f103]
  unfold en gmax
  simp only [Bool.or_eq_true, beq_iff_eq, Bool.and_eq_true, bne_iff_ne, decide_eq_true_eq, ne_eq]
  repeat' split
  all_goals first | rfl | (simp only [Option.some.injEq]; omega) | omega
theorem e86 {x y : Ft} (hx : GoodF x) (hy : GoodF y) : f86 (.e86 (toR x) (toR y)) = some (toR (orF x y)) := by
  rw [f86]
  rcases x with _ | ⟨a, b⟩
  · simp [toR, orF]
  rcases y with _ | ⟨c, d⟩
  · simp [toR, orF]
  have h1 := hx _ _ rfl
  have h2 := hy _ _ rfl
  simp only [toR, Bool.not_true, Bool.false_eq_true, if_false, orF]
  rw [e140 ⟨h1.1, h1.2.1⟩ ⟨h2.1, h2.2.1⟩, e103 ⟨h1.2.2.1, h1.2.2.2⟩ ⟨h2.2.2.1, h2.2.2.2⟩]
  rfl
theorem e87 (v : ApiValue) (k : Nat) (s : ApiSelector) (x : Ft) (hv : VOK v) (hlt : k < v.items.length) (hs : -9223372036854775807 ≤ s.stride) (ht : 0 ≤ v.to ∧ v.to ≤ 100000) (hx : GoodF x) : f87 (.e87 v (k : Int) s (toR x)) = some (toR (mulF (edgeP v k s) x)) := by
  rw [f87]
  obtain ⟨z, hz, hz'⟩ := gd_ok (e := v.kind == 4) (e141 s)
  rw [hz]
  simp only [Option.bind_eq_bind, Option.bind_some]
  rw [e76 v s k hv hs hlt]
  simp only [Option.bind_some]
  have hw : (v.kind == 4 && z) = decide (v.kind = 4 ∧ hangsP s = true) := by
    by_cases h4 : v.kind = 4
    · rw [hz' (by simp [h4])]
      simp [h4]
    · have : (v.kind == 4) = false := by simp [h4]
      simp [this, h4]
  rw [hw]
  rcases x with _ | ⟨a, b⟩
  · simp [toR, mulF_none]
  have h1 := hx _ _ rfl
  have hM : MX = 9223372036854775807 := rfl
  have hto : en v.to = v.to := by
    unfold en
    rw [if_neg (by omega)]
  by_cases hh : v.kind = 4 ∧ hangsP s = true
  · have hd : decide (v.kind = 4 ∧ hangsP s = true) = true := by simpa using hh
    simp only [hd, edgeP, if_pos hh, toR, Bool.not_true, Bool.false_and, Bool.or_false, Bool.false_or, Bool.false_eq_true, if_false]
    by_cases h0 : v.to = 0
    · simp only [h0, beq_self_eq_true, if_true, mulF]
      have e1 : gmax MX a = MX := by unfold gmax; rw [if_neg (by omega)]
      have e2 : gmin MX b = b := by unfold gmin; split <;> omega
      simp [toR, e1, e2, en]
    · have n0 : (v.to == 0) = false := by simp [h0]
      simp only [n0, Bool.false_eq_true, if_false, if_neg h0]
      cases hm : meetsP v s k with
      | true =>
        simp only [if_true, mulF]
        have := e103 (a := a) (b := v.to) ⟨h1.1, h1.2.1⟩ (by omega)
        rw [hto] at this
        rw [this]
        have e2 : gmin MX b = b := by unfold gmin; split <;> omega
        simp [toR, e2, gmax_comm a]
      | false =>
        simp only [Bool.false_eq_true, if_false, mulF]
        have := e140 (a := b) (b := v.to) ⟨h1.2.2.1, h1.2.2.2⟩ (by omega)
        rw [hto] at this
        rw [this]
        have e1 : gmax MX a = MX := by unfold gmax; rw [if_neg (by omega)]
        simp [toR, e1, gmin_comm b, en]
  · have hd : decide (v.kind = 4 ∧ hangsP s = true) = false := by simpa using hh
    simp only [hd, edgeP, if_neg hh, toR, Bool.not_true, Bool.not_false, Bool.true_and, Bool.false_or, if_true]
    cases hm : meetsP v s k with
    | false => simp [toR, none_mulF]
    | true =>
      have e1 : gmax 0 a = a := by unfold gmax; split <;> omega
      have e2 : gmin MX b = b := by unfold gmin; split <;> omega
      simp [toR, mulF, e1, e2]
section
variable (q : List ApiSegment) (hq : q.length ≤ 1000) (hseg : ∀ s, s ∈ q → SegP s)
section
variable (v : ApiValue) (k : Nat) (hv : VOK v) (hk : k < v.items.length) (ht : 0 ≤ v.to ∧ v.to ≤ 100000)
variable (p : List Int) (chain : List ApiValue) (i : Nat) (hi : i ≤ 1000000) (hp : idx p (i : Int) = some (k : Int)) (hc : idx chain (i : Int) = some v)
include hv hk ht hp hc in
theorem up_5 (r : List Ft) (hr : ∀ x, x ∈ r → GoodF x) (j : Nat) (hj : j ≤ 1000) (y : Ft) (hy : r[j + 1]? = some y) (new : List Ft) (hnl : new.length ≤ 1000) (ss : List ApiSelector) (hss : ss.length ≤ 8) (hst : ∀ s, s ∈ ss → -9223372036854775807 ≤ s.stride) (b1 b2 : Bool) (c1 c2 c3 c4 : Int) : ∀ (m t : Nat) (acc : Ft), t ≤ ss.length → ss.length - t = m → GoodF acc →
    f31 (.l31_5 q p (i : Int) (j : Int) q (q.length : Int) (j : Int) ss (ss.length : Int) (t : Int) (new.map toR) (toR acc) b1 c1 c2 b2 c3 c4 (r.map toR) chain) =
      f31 (.l31_3 q p (i : Int) q (q.length : Int) ((j + 1 : Nat) : Int) ((new ++ [sumF (fun s => mulF (edgeP v k s) y) (ss.drop t) acc]).map toR) b1 c1 c2 b2 c3 c4 (r.map toR) chain)
  | m, t, acc, hlt, hm, hg => by
    conv => lhs; rw [f31]
    by_cases h : t < ss.length
    · simp only [Int.ofNat_lt, h, decide_true, if_true]
      rw [ix h, hc, hp]
      simp only [Option.bind_eq_bind, Option.bind_some]
      have hyy : idx (r.map toR) (IntKind.wrap .i64 ((j : Int) + 1)) = some (toR y) := by
        rw [wn (by omega), idx, if_pos (by omega)]
        simp only [Int.toNat_natCast, List.getElem?_map, hy, Option.map_some]
      rw [hyy]
      simp only [Option.bind_some]
      have hgy : GoodF y := hr y (List.mem_of_getElem? hy)
      rw [e87 v k ss[t] y hv hk (hst _ (List.getElem_mem h)) ht hgy]
      simp only [Option.bind_some]
      rw [e86 hg (good_mul (good_edge v k ht _) hgy)]
      simp only [Option.bind_some]
      rw [wn (by omega), drop_at h, sumF]
      match m with
      | 0 => omega
      | m + 1 => exact up_5 r hr j hj y hy new hnl ss hss hst b1 b2 c1 c2 c3 c4 m (t + 1) _ (by omega) (by omega) (good_or hg (good_mul (good_edge v k ht _) hgy))
    · rw [List.drop_of_length_le (by omega)]
      simp only [Int.ofNat_lt, h, decide_false, Bool.false_eq_true, if_false, sumF]
      rw [room_ok (by simp; omega) (by simp; omega), wn (by omega)]
      simp
include hq hv hk ht hp hc hseg in
theorem up_3 (r : List Ft) (hr : ∀ x, x ∈ r → GoodF x) (hrl : r.length = q.length + 1) (b2 : Bool) (c3 c4 : Int) : ∀ (m j : Nat) (new : List Ft), j ≤ q.length → q.length - j = m → new.length = j →
    f31 (.l31_3 q p (i : Int) q (q.length : Int) (j : Int) (new.map toR) false (-1) (-1) b2 c3 c4 (r.map toR) chain) = f31 (.l31_2 q p (IntKind.wrap .i64 ((i : Int) - 1)) false (-1) (-1) b2 c3 c4 ((new ++ bk (edgeP v k) (q.drop j) (r.drop j)).map toR) chain)
  | m, j, new, hj, hm, hn => by
    conv => lhs; rw [f31]
    by_cases h : j < q.length
    · have hj1 : j < r.length := by omega
      have hj2 : j + 1 < r.length := by omega
      simp only [Int.ofNat_lt, h, decide_true, if_true]
      rw [ix h]
      simp only [Option.bind_eq_bind, Option.bind_some]
      rw [drop_at h, drop_at hj1, drop_at hj2, bk]
      have hsg := hseg _ (List.getElem_mem h)
      have fin : ∀ x, GoodF x → f31 (.l31_4 q p (i : Int) (j : Int) q (q.length : Int) (j : Int) (new.map toR) (toR x) q[j] false (-1) (-1) b2 c3 c4 (r.map toR) chain) =
          f31 (.l31_2 q p (IntKind.wrap .i64 ((i : Int) - 1)) false (-1) (-1) b2 c3 c4 ((new ++ sumF (fun t => mulF (edgeP v k t) r[j + 1]) q[j].selectors x :: bk (edgeP v k) (q.drop (j + 1)) (r[j + 1] :: r.drop (j + 1 + 1))).map toR) chain) := fun x hx => by
        conv => lhs; rw [f31]
        have := up_5 q v k hv hk ht p chain i hp hc r hr j (by omega) r[j + 1] (List.getElem?_eq_getElem hj2) new (by omega) q[j].selectors hsg.few hsg.str false b2 (-1) (-1) c3 c4 _ 0 x (by omega) rfl hx
        rw [show ((0 : Nat) : Int) = (0 : Int) from rfl] at this
        rw [this, List.drop_zero]
        match m with
        | 0 => omega
        | m + 1 =>
          rw [up_3 r hr hrl b2 c3 c4 m (j + 1) _ (by omega) (by omega) (by simp [hn]), drop_at hj2]
          simp
      cases hd : q[j].deep with
      | true =>
        simp only [if_true]
        rw [ix (by simpa using hj1)]
        simp only [Option.bind_some, List.getElem_map]
        exact fin _ (hr _ (List.getElem_mem hj1))
      | false =>
        simp only [Bool.false_eq_true, if_false]
        exact fin none good_none
    · have hje : j = q.length := by omega
      rw [List.drop_of_length_le (by omega)]
      simp only [Int.ofNat_lt, h, decide_false, Bool.false_eq_true, if_false]
      rw [room_ok (by simp; omega) (by simp; omega)]
      simp [bk, toR]
end
end
end Go.Proofs.YtonlbdholdaifaaGreatDoor
end
section
/- The queries that Right lets by. -/
set_option linter.unusedVariables false
set_option linter.unusedSimpArgs false
namespace Go.Proofs.YtonlbdholdaifaaGreatDoor
open Go Go.Rf Go.Proofs
theorem reach_eq : reachBytes = 140737488351232 := by decide
theorem t124_0 (s : List UInt8) (hs : Small s) : ∀ (m j k : Nat), j ≤ s.length → s.length - j = m → k ≤ j → Tot (f124 (.l124_0 s (k : Int) (j : Int))) fun _ => True
  | m, j, k, hj, hm, hk => by
    have hs' : s.length ≤ 140737488355328 := hs
    rw [f124]
    refine tif (fun h => ?_) fun h => tif (fun _ => ts trivial) fun _ => ts trivial
    simp at h
    have w : IntKind.wrap .i64 ((j : Int) + 1) = ((j + 1 : Nat) : Int) := by
      rw [wi (by omega) (by omega)]
      rfl
    rw [w]
    refine tneed (by omega) (tb (t176 _ (by simp [Small]; omega)) fun r _ => tif (fun _ => ts trivial) fun _ => ?_)
    match m with
    | 0 => omega
    | m + 1 =>
      refine tif (fun _ => ?_) fun _ => ?_
      · rw [f124, w]
        exact t124_0 s hs m (j + 1) (j + 1) (by omega) (by omega) (by omega)
      · rw [f124, w]
        exact t124_0 s hs m (j + 1) k (by omega) (by omega) (by omega)
theorem t124 (s : List UInt8) (hs : Small s) : Tot (f124 (.e124 s)) fun _ => True := by
  rw [f124]
  exact t124_0 s hs _ 0 0 (by omega) rfl (by omega)
theorem t168 (x : Int) : Tot (f168 (.e168 x)) fun b => b = true → -9007199254740991 ≤ x ∧ x ≤ 9007199254740991 := by
  rw [f168]
  exact ts (by simp; omega)
theorem t113 (s : ApiSelector) (hs : selOK s) : Tot (f113 (.e113 s)) fun b => b = true → -9223372036854775807 ≤ s.stride := by
  rw [f113]
  refine tif (fun _ => ts (by simp)) fun _ => tif (fun _ => ts (by simp)) fun _ => tif (fun _ => ts (by simp)) fun _ => tif (fun _ => ts (by simp)) fun _ => ?_
  refine tb (t168 _) fun b1 _ => tgd (P := fun _ => True) (fun _ => (t168 _).mono fun _ _ => trivial) fun b2 _ _ => tgd (P := fun _ => True) (fun _ => (t168 _).mono fun _ _ => trivial) fun b3 _ _ => tgd (fun _ => t168 _) fun b4 h4 h4' => tgd (P := fun _ => True) (fun _ => t124 _ (by have := hs.2.1; rw [reach_eq] at this; simp [Small]; omega)) fun b5 _ _ => ts ?_
  intro h
  simp only [Bool.and_eq_true] at h
  have := (h4 (by simp [h.1.1])).2 h.1.2
  omega
/-- The queries that Right lets by. -/
def RightQ (q : List ApiSegment) : Prop := ∀ s, s ∈ q → ∀ x, x ∈ s.selectors → -9223372036854775807 ≤ x.stride
theorem t58_1 (q : List ApiSegment) (i : Int) (ss : List ApiSelector) (hss : ss.length ≤ reachBytes) (hok : ∀ x, x ∈ ss → selOK x) (Q : Bool → Prop) (hf : Q false) (hnext : (∀ x, x ∈ ss → -9223372036854775807 ≤ x.stride) → Tot (f58 (.l58_0 q (q.length : Int) (IntKind.wrap .i64 (i + 1)))) Q) :
    ∀ (m j : Nat), j ≤ ss.length → ss.length - j = m → (∀ x, x ∈ ss.take j → -9223372036854775807 ≤ x.stride) → Tot (f58 (.l58_1 q (q.length : Int) i ss (ss.length : Int) (j : Int))) Q
  | m, j, hj, hm, hx => by
    rw [reach_eq] at hss
    rw [f58]
    by_cases h : j < ss.length
    · simp only [Int.ofNat_lt, h, decide_true, if_true]
      rw [ix h]
      simp only [Option.bind_eq_bind, Option.bind_some]
      refine tb (t113 _ (hok _ (List.getElem_mem h))) fun b hb => tif (fun _ => ts hf) fun hb' => ?_
      have w : IntKind.wrap .i64 ((j : Int) + 1) = ((j + 1 : Nat) : Int) := by
        rw [wi (by omega) (by omega)]
        rfl
      rw [w]
      match m with
      | 0 => omega
      | m + 1 =>
        refine t58_1 q i ss (by rw [reach_eq]; omega) hok Q hf hnext m (j + 1) (by omega) (by omega) fun x hx' => ?_
        rw [List.take_succ_eq_append_getElem h] at hx'
        rcases List.mem_append.1 hx' with hx' | hx'
        · exact hx x hx'
        · rw [List.mem_singleton.1 hx']
          exact hb (by simpa using hb')
    · simp only [Int.ofNat_lt, h, decide_false, Bool.false_eq_true, if_false]
      refine hnext fun x hx' => hx x ?_
      rw [List.take_of_length_le (by omega)]
      exact hx'
theorem t58_0 (q : List ApiSegment) (hq : queryOK q) : ∀ (m i : Nat), i ≤ q.length → q.length - i = m → RightQ (q.take i) → Tot (f58 (.l58_0 q (q.length : Int) (i : Int))) fun b => b = true → RightQ q
  | m, i, hi, hm, hr => by
    have hql := hq.1
    rw [reach_eq] at hql
    rw [f58]
    by_cases h : i < q.length
    · have hs := hq.2 _ (List.getElem_mem h)
      simp only [Int.ofNat_lt, h, decide_true, if_true]
      rw [ix h]
      simp only [Option.bind_eq_bind, Option.bind_some]
      refine tif (fun _ => ts (by simp)) fun _ => ?_
      refine t58_1 q i q[i].selectors hs.1 hs.2 _ (by simp) (fun hx => ?_) _ 0 (by omega) rfl (by simp)
      have w : IntKind.wrap .i64 ((i : Int) + 1) = ((i + 1 : Nat) : Int) := by
        rw [wi (by omega) (by omega)]
        rfl
      rw [w]
      match m with
      | 0 => omega
      | m + 1 =>
        refine t58_0 q hq m (i + 1) (by omega) (by omega) fun s hs x hx' => ?_
        rw [List.take_succ_eq_append_getElem h] at hs
        rcases List.mem_append.1 hs with hs | hs
        · exact hr s hs x hx'
        · rw [List.mem_singleton.1 hs] at hx'
          exact hx x hx'
    · simp only [Int.ofNat_lt, h, decide_false, Bool.false_eq_true, if_false]
      refine ts fun _ => ?_
      rw [List.take_of_length_le (by omega)] at hr
      exact hr
theorem t58 (q : List ApiSegment) (hq : queryOK q) : Tot (f58 (.e58 q)) fun b => b = true → RightQ q := by
  rw [f58]
  exact t58_0 q hq _ 0 (by omega) rfl (fun s hs => by simp at hs)
end Go.Proofs.YtonlbdholdaifaaGreatDoor
end
