import Derived.Test.YtonlbdholdaifaaGreatDoorRgp1
import Derived.Test.YtonlbdholdaifaaGreatDoorRgp2
import Derived.Test.YtonlbdholdaifaaGreatDoorRgp3
import Derived.Test.YtonlbdholdaifaaGreatDoorRgp4
import Derived.Test.YtonlbdholdaifaaGreatDoorRgp5
import Derived.Test.YtonlbdholdaifaaGreatDoorRgp6
import Derived.Test.YtonlbdholdaifaaGreatDoorRgp7
import Derived.Test.YtonlbdholdaifaaGreatDoorRgp8
import Derived.Test.YtonlbdholdaifaaGreatDoorRgp9
import Derived.Test.YtonlbdholdaifaaGreatDoorRgp10
import Derived.Test.YtonlbdholdaifaaGreatDoorRwp1
section
/- What it is for a printed function to come to an answer of which something is known. -/
set_option linter.unusedVariables false
namespace Go.Proofs.YtonlbdholdaifaaGreatDoor
open Go Go.Rf Go.Proofs

def Tot {α : Type} (x : Option α) (Q : α → Prop) : Prop := ∃ y, x = some y ∧ Q y
theorem Tot.mono {α : Type} {x : Option α} {P Q : α → Prop} (h : Tot x P) (k : ∀ y, P y → Q y) : Tot x Q := by
  obtain ⟨y, h1, h2⟩ := h
  exact ⟨y, h1, k y h2⟩
theorem tb {α β : Type} {x : Option α} {f : α → Option β} {P : α → Prop} {Q : β → Prop} (h : Tot x P) (k : ∀ y, P y → Tot (f y) Q) : Tot (x >>= f) Q := by
  obtain ⟨y, rfl, h2⟩ := h
  exact k y h2
theorem te {α β : Type} {x : Option α} {f : α → Option β} {y : α} {Q : β → Prop} (h : x = some y) (k : Tot (f y) Q) : Tot (x >>= f) Q := by
  subst h
  exact k
theorem ts {α : Type} {y : α} {Q : α → Prop} (h : Q y) : Tot (some y) Q := ⟨y, rfl, h⟩
theorem tif {α : Type} {c : Bool} {a b : Option α} {Q : α → Prop} (h1 : c = true → Tot a Q) (h2 : c = false → Tot b Q) : Tot (if c = true then a else b) Q := by
  cases c with
  | true => simpa using h1 rfl
  | false => simpa using h2 rfl
theorem tneed {β : Type} {p : Prop} [Decidable p] {f : Unit → Option β} {Q : β → Prop} (hp : p) (k : Tot (f ()) Q) : Tot (need p >>= f) Q := by
  simp only [need, if_pos hp]
  exact k
theorem troom {β : Type} {n m b : Nat} {f : Unit → Option β} {Q : β → Prop} (h : (n + m) * b ≤ 140737488355328) (h' : n + m ≤ 140737488355328) (k : Tot (f ()) Q) : Tot (room n m b >>= f) Q := tneed ⟨h, h'⟩ k
theorem idx_of {α : Type} {xs : List α} {i : Int} (h0 : 0 ≤ i) (h1 : i < xs.length) : ∃ y, idx xs i = some y ∧ xs[i.toNat]? = some y := by
  have : i.toNat < xs.length := by omega
  exact ⟨xs[i.toNat], by simp [idx, h0, this], by simp [this]⟩
theorem tidx {α β : Type} {xs : List α} {i : Int} {f : α → Option β} {Q : β → Prop} (h0 : 0 ≤ i) (h1 : i < xs.length) (k : ∀ y, xs[i.toNat]? = some y → Tot (f y) Q) : Tot (idx xs i >>= f) Q := by
  obtain ⟨y, h2, h3⟩ := idx_of h0 h1
  exact te h2 (k y h3)
theorem tgd {α β : Type} [Inhabited α] {e : Bool} {x : Option α} {f : α → Option β} {P : α → Prop} {Q : β → Prop} (h : e = true → Tot x P) (k : ∀ y, (e = true → x = some y ∧ P y) → (e = false → y = default) → Tot (f y) Q) : Tot (gd e x >>= f) Q := by
  cases e with
  | true =>
    obtain ⟨y, h1, h2⟩ := h rfl
    exact te (by simpa [gd] using h1) (k y (fun _ => ⟨h1, h2⟩) (by simp))
  | false => exact te (y := default) (by simp [gd]) (k default (by simp) (fun _ => rfl))
theorem tot_idx {α : Type} {xs : List α} {i : Int} (h0 : 0 ≤ i) (h1 : i < xs.length) : Tot (idx xs i) fun y => xs[i.toNat]? = some y := by
  obtain ⟨y, h2, h3⟩ := idx_of h0 h1
  exact ⟨y, h2, h3⟩
theorem tot_need {p : Prop} [Decidable p] (hp : p) : Tot (need p) fun _ => True := ⟨(), by simp [need, hp], trivial⟩
theorem wi {x : Int} (h0 : -9223372036854775808 ≤ x) (h1 : x ≤ 9223372036854775807) : IntKind.wrap .i64 x = x := by
  unfold IntKind.wrap
  simp [IntKind.bits, IntKind.signed]
  omega
theorem toU8_nat (c : UInt8) : toU8 (c.toNat : Int) = c := by simp [toU8]
theorem byte_lt (c : UInt8) : (c.toNat : Int) < 256 := by have := c.toNat_lt; omega
theorem byte_ge (c : UInt8) : (0 : Int) ≤ c.toNat := by omega
theorem toU8_of {x : Int} (h0 : 0 ≤ x) (h1 : x < 256) : x = ((toU8 x).toNat : Int) := by
  simp only [toU8, UInt8.toNat_ofNat']
  omega
end Go.Proofs.YtonlbdholdaifaaGreatDoor
end
section
/- The reference's bytes, signs, numerals, words and strings: they answer. -/
set_option linter.unusedVariables false
set_option linter.unusedSimpArgs false
namespace Go.Proofs.YtonlbdholdaifaaGreatDoor
open Go Go.Rf Go.Proofs
abbrev isByte (c : Int) : Prop := 0 ≤ c ∧ c < 256
theorem byteOK (c : UInt8) : isByte (c.toNat : Int) := ⟨byte_ge c, byte_lt c⟩

theorem t129 (c : Int) : Tot (f129 (.e129 c)) fun _ => True := ⟨_, by rw [f129], trivial⟩
theorem t181 (c : Int) : Tot (f181 (.e181 c)) fun b => b = true → 48 ≤ c ∧ c ≤ 57 := ⟨_, by rw [f181], by simp⟩
theorem t212 (c : Int) : Tot (f212 (.e212 c)) fun _ => True := ⟨_, by rw [f212], trivial⟩
/-- Kind. -/
theorem t130_0 (c : Int) (l : List UInt8) (n : Int) (hn : n = l.length) (hl : l.length ≤ 7) : ∀ (k : Nat) (i : Int), 0 ≤ i → i ≤ n → n - i = k → Tot (f130 (.l130_0 c l n i)) fun r => (0 ≤ r ∧ r ≤ 10) ∧ (r = 8 → i ≤ 6)
  | 0, i, h0, h1, hk => by
    rw [f130]
    refine tif (fun h => by simp at h; omega) fun _ => ?_
    refine tgd (fun _ => t181 c) fun y _ _ => ?_
    refine tif (fun _ => ts ⟨by omega, by omega⟩) fun _ => tif (fun _ => ts ⟨by omega, by omega⟩) fun _ => ts ⟨by omega, by omega⟩
  | k + 1, i, h0, h1, hk => by
    rw [f130]
    refine tif (fun h => ?_) fun h => by simp at h; omega
    refine tidx h0 (by omega) fun y _ => ?_
    refine tif (fun _ => ts ?_) fun _ => ?_
    · rw [wi (by omega) (by omega)]
      exact ⟨by omega, by omega⟩
    · rw [wi (by omega) (by omega)]
      exact (t130_0 c l n hn hl k (i + 1) (by omega) (by omega) (by omega)).mono fun r hr => ⟨hr.1, fun h => by have := hr.2 h; omega⟩
theorem t130 (c : Int) : Tot (f130 (.e130 c)) fun r => 0 ≤ r ∧ r ≤ 10 := by
  rw [f130]
  refine tb (t129 c) fun y _ => tif (fun _ => ts (by omega)) fun _ => ?_
  exact (t130_0 c _ _ rfl (by simp) 7 0 (by omega) (by simp) (by simp)).mono fun r hr => hr.1
/-- blank. -/
theorem t79 (s : List UInt8) (hs : s.length ≤ 1000000000000) : ∀ (k : Nat) (i : Int), 0 ≤ i → (s.length : Int) - i ≤ k → Tot (f79 (.l79_0 s i)) fun r => i ≤ r ∧ (i ≤ s.length → r ≤ s.length)
  | k, i, h0, hk => by
    rw [f79]
    refine tgd (P := fun _ => True) (fun h => (tot_idx h0 (by simpa using h)).mono fun _ _ => trivial) fun y _ _ => ?_
    refine tgd (P := fun _ => True) (fun _ => t129 _) fun z _ _ => ?_
    refine tif (fun h => ?_) fun _ => ts ⟨by omega, fun h => h⟩
    simp only [Bool.and_eq_true, decide_eq_true_eq] at h
    rw [wi (by omega) (by omega)]
    match k with
    | 0 => omega
    | k + 1 => exact (t79 s hs k (i + 1) (by omega) (by omega)).mono fun r hr => ⟨by omega, fun h' => hr.2 (by omega)⟩
theorem t79e (s : List UInt8) (hs : s.length ≤ 1000000000000) (i : Int) (h0 : 0 ≤ i) : Tot (f79 (.e79 s i)) fun r => i ≤ r ∧ (i ≤ s.length → r ≤ s.length) := by
  rw [f79]
  exact t79 s hs ((s.length : Int) - i).toNat i h0 (by omega)
theorem t183 (v : ApiValue) (k i : Int) : f183 (.e183 v k i) = some ⟨⟨v.kind, v.frm, 0, v.text, v.items, v.names⟩, true, i, k⟩ := by rw [f183]
/-- Hex. -/
theorem t250 (c : Int) (hc : isByte c) : Tot (f250 (.e250 c)) fun r => 0 ≤ r.1 ∧ r.1 ≤ 15 := by
  obtain ⟨h0, h1⟩ := hc
  rw [f250]
  refine tb (t181 c) fun y hy => ?_
  refine tif (fun h => ts ?_) fun _ => ?_
  · have := hy h
    simp only []
    rw [wi (x := c) (by omega) (by omega), wi (by omega) (by omega)]
    omega
  refine tif (fun h => ts ?_) fun _ => ?_
  · simp at h
    simp only []
    rw [wi (x := c) (by omega) (by omega), wi (by omega) (by omega)]
    omega
  refine tif (fun h => ts ?_) fun _ => ts (by simp)
  · simp at h
    simp only []
    rw [wi (x := c) (by omega) (by omega), wi (by omega) (by omega)]
    omega
/-- hex: four digits at most. -/
theorem t249_0 (s : List UInt8) : ∀ (k : Nat) (v i : Int), 0 ≤ i → i ≤ 4 → i ≤ s.length → 0 ≤ v → v < 65536 → v < 16 ^ i.toNat → 4 - i = k → Tot (f249 (.l249_0 s v i)) fun r => 0 ≤ r.1 ∧ r.1 ≤ 4 ∧ r.1 ≤ s.length ∧ 0 ≤ r.2 ∧ r.2 < 65536
  | k, v, i, h0, h1, h2, h3, h4, h5, hk => by
    rw [f249]
    refine tif (fun h => ?_) fun h => ts ?_
    · simp at h
      refine tif (fun _ => ts ⟨h0, h1, h2, h3, h4⟩) fun h' => ?_
      simp at h'
      refine tidx h0 (by omega) fun c _ => ?_
      refine tb (t250 _ (byteOK c)) fun r hr => ?_
      refine tif (fun _ => ts ⟨h0, h1, h2, h3, h4⟩) fun _ => ?_
      rw [wi (x := v * 16) (by omega) (by omega), wi (by omega) (by omega), wi (by omega) (by omega)]
      match k with
      | 0 => omega
      | k + 1 =>
        have hp : (16 : Int) ^ (i + 1).toNat = 16 ^ i.toNat * 16 := by rw [show (i + 1).toNat = i.toNat + 1 by omega, Int.pow_succ]
        have hb : (16 : Int) ^ i.toNat ≤ 4096 := by
          have : i.toNat ≤ 3 := by omega
          have h3 : i.toNat = 0 ∨ i.toNat = 1 ∨ i.toNat = 2 ∨ i.toNat = 3 := by omega
          rcases h3 with h | h | h | h <;> rw [h] <;> decide
        exact (t249_0 s k _ (i + 1) (by omega) (by omega) (by omega) (by omega) (by omega) (by rw [hp]; omega) (by omega))
    · simp at h
      exact ⟨by omega, by omega, by omega, h3, h4⟩
theorem t249 (s : List UInt8) : Tot (f249 (.e249 s)) fun r => 0 ≤ r.1 ∧ r.1 ≤ 4 ∧ r.1 ≤ s.length ∧ 0 ≤ r.2 ∧ r.2 < 65536 := by
  rw [f249]
  exact t249_0 s 4 0 0 (by omega) (by omega) (by omega) (by omega) (by omega) (by simp) rfl
/-- letter. -/
theorem t189_0 (c : Int) (a b : List UInt8) (n : Int) (hn : n = b.length) (hab : b.length ≤ a.length) (hl : b.length ≤ 100) : ∀ (k : Nat) (i : Int), 0 ≤ i → n - i ≤ k → Tot (f189 (.l189_0 c a b n i)) fun r => isByte r
  | k, i, h0, hk => by
    rw [f189]
    refine tif (fun h => ?_) fun _ => ts ⟨by omega, by omega⟩
    simp at h
    refine tidx h0 (by omega) fun y _ => ?_
    refine tif (fun _ => tidx h0 (by omega) fun z _ => ts (byteOK z)) fun _ => ?_
    rw [wi (by omega) (by omega)]
    match k with
    | 0 => omega
    | k + 1 => exact t189_0 c a b n hn hab hl k (i + 1) (by omega) (by omega)
theorem t189 (c : Int) : Tot (f189 (.e189 c)) fun r => isByte r := by
  rw [f189]
  exact t189_0 c _ _ _ (by simp) (by simp) (by simp) 8 0 (by omega) (by simp)
/-- unit. -/
theorem t236_2 (s : List UInt8) (b : Bool) (n v x y : Int) (hn : 0 ≤ n ∧ n ≤ 4 ∧ 2 + n ≤ s.length) (hv : 0 ≤ v ∧ v < 65536) : Tot (f236 (.l236_2 s b n v x y)) fun r => 0 ≤ r.1 ∧ r.1 ≤ 6 ∧ r.1 ≤ s.length ∧ 0 ≤ r.2.1 ∧ r.2.1 < 65536 := by
  obtain ⟨h0, h1, h2⟩ := hn
  rw [f236]
  have e : IntKind.wrap .i64 ((2 : Int) + n) = 2 + n := wi (by omega) (by omega)
  rw [e]
  refine tif (fun h => ts ?_) fun _ => tif (fun h => ts ?_) fun _ => tif (fun h => ts ?_) fun _ => tif (fun _ => ts ⟨by simp; omega, by simp; omega, by simp; omega, by simp, by simp⟩) fun _ => tif (fun _ => ts ⟨by simp; omega, by simp; omega, by simp; omega, by simp, by simp⟩) fun _ => ts ⟨by simp; omega, by simp; omega, by simp; omega, by simpa using hv.1, by simpa using hv.2⟩
  all_goals (simp at h; exact ⟨by simp, by simp, by simp; omega, by simp, by simp⟩)
theorem t236_0 (s : List UInt8) (b : Bool) : ∀ (k : Nat) (i : Int), 0 ≤ i → 2 - i = k → i ≤ s.length → Tot (f236 (.l236_0 s b [92, 117] 2 i)) fun r => 0 ≤ r.1 ∧ r.1 ≤ 6 ∧ r.1 ≤ s.length ∧ 0 ≤ r.2.1 ∧ r.2.1 < 65536
  | k, i, h0, hk, hi => by
    rw [f236]
    refine tif (fun h => ?_) fun h => ?_
    · simp at h
      refine tidx h0 (by simp; omega) fun y _ => ?_
      refine tif (fun _ => ts ⟨h0, by simp; omega, hi, by simp, by simp⟩) fun h' => ?_
      simp at h'
      refine tidx h0 (by omega) fun z _ => ?_
      refine tif (fun _ => ts ⟨h0, by simp; omega, hi, by simp, by simp⟩) fun _ => ?_
      refine tidx h0 (by omega) fun z _ => ?_
      refine tif (fun _ => ts ⟨h0, by simp; omega, hi, by simp, by simp⟩) fun _ => ?_
      rw [wi (by omega) (by omega)]
      match k with
      | 0 => omega
      | k + 1 => exact t236_0 s b k (i + 1) (by omega) (by omega) (by omega)
    · simp at h
      have hi2 : i = 2 := by omega
      refine tneed (by omega) ?_
      refine tb (t249 _) fun r hr => ?_
      obtain ⟨r0, r1, r2, r3, r4⟩ := hr
      simp at r2
      have key : ∀ x y : Int, Tot (f236 (.l236_1 s b r.1 r.2 x y)) fun r => 0 ≤ r.1 ∧ r.1 ≤ 6 ∧ r.1 ≤ s.length ∧ 0 ≤ r.2.1 ∧ r.2.1 < 65536 := by
        intro x y
        rw [f236]
        refine tif (fun h => ?_) fun _ => t236_2 s b _ _ _ _ ⟨r0, r1, by omega⟩ ⟨r3, r4⟩
        simp at h
        refine tidx (by omega) (by omega) fun c _ => ?_
        exact tb (t250 _ (byteOK c)) fun z _ => t236_2 s b _ _ _ _ ⟨r0, r1, by omega⟩ ⟨r3, r4⟩
      refine tif (fun h => ?_) fun _ => key _ _
      simp at h
      refine tidx (by omega) (by omega) fun c _ => ?_
      exact tb (t250 _ (byteOK c)) fun z _ => key _ _
theorem t236 (s : List UInt8) (b : Bool) : Tot (f236 (.e236 s b)) fun r => 0 ≤ r.1 ∧ r.1 ≤ 6 ∧ r.1 ≤ s.length ∧ 0 ≤ r.2.1 ∧ r.2.1 < 65536 := by
  rw [f236]
  exact t236_0 s b 2 0 (by omega) (by omega) (by omega)
end Go.Proofs.YtonlbdholdaifaaGreatDoor
end
section
/- The reference's signs, numerals, words and strings: they answer. -/
set_option linter.unusedVariables false
set_option linter.unusedSimpArgs false
namespace Go.Proofs.YtonlbdholdaifaaGreatDoor
open Go Go.Rf Go.Proofs
abbrev Small (s : List UInt8) : Prop := s.length ≤ 140737488355328
theorem wu8 (x : Int) : 0 ≤ IntKind.wrap .u8 x ∧ IntKind.wrap .u8 x < 256 := by
  unfold IntKind.wrap
  simp [IntKind.bits, IntKind.signed]
  omega
theorem t208 (c : Int) : Tot (f208 (.e208 c)) fun r => 0 ≤ r ∧ r ≤ 4 := by
  rw [f208]
  exact tif (fun _ => ts (by omega)) fun _ => tif (fun _ => ts (by omega)) fun _ => tif (fun _ => ts (by omega)) fun _ => tif (fun _ => ts (by omega)) fun _ => ts (by omega)
theorem t209_3 (s : List UInt8) (hs : Small s) : ∀ (k : Nat) (v i : Int), 0 ≤ i → (s.length : Int) - i ≤ k → Tot (f209 (.l209_3 s v i)) fun _ => True
  | k, v, i, h0, hk => by
    rw [f209]
    refine tif (fun h => ?_) fun _ => ts trivial
    simp at h
    refine tidx h0 (by omega) fun y _ => ?_
    rw [wi (x := i + 1) (by omega) (by omega)]
    match k with
    | 0 => omega
    | k + 1 => exact t209_3 s hs k _ (i + 1) (by omega) (by omega)
theorem t209 (s : List UInt8) (hs : Small s) (h : 1 ≤ s.length) : Tot (f209 (.e209 s)) fun _ => True := by
  have k2 : ∀ v, Tot (f209 (.l209_2 s v)) fun _ => True := fun v => by rw [f209]; exact t209_3 s hs s.length v 1 (by omega) (by omega)
  have k1 : ∀ v, Tot (f209 (.l209_1 s v)) fun _ => True := fun v => by rw [f209]; exact tif (fun _ => k2 _) fun _ => k2 _
  have k0 : ∀ v, Tot (f209 (.l209_0 s v)) fun _ => True := fun v => by rw [f209]; exact tif (fun _ => k1 _) fun _ => k1 _
  rw [f209]
  refine tidx (by omega) (by omega) fun y _ => ?_
  exact tif (fun _ => k0 _) fun _ => k0 _
theorem t176_1 (s : List UInt8) (n : Int) (hn : 0 ≤ n ∧ n ≤ 4) : ∀ (k : Nat) (a b : List UInt8), 1 ≤ a.length → a.length ≤ 4 → b.length = a.length → n - a.length ≤ k → Tot (f176 (.l176_1 s n a b)) fun _ => True
  | k, a, b, h0, h1, hb, hk => by
    rw [f176]
    refine tif (fun h => ?_) fun _ => ?_
    · simp at h
      refine tneed (by simp; omega) (tneed (by simp; omega) ?_)
      match k with
      | 0 => omega
      | k + 1 => exact t176_1 s n hn k _ _ (by simp) (by simp; omega) (by simp [hb]) (by simp; omega)
    · refine tb (t209 a (by omega) h0) fun x _ => tb (t209 b (by omega) (by omega)) fun y _ => ?_
      refine tidx hn.1 (by simp; omega) fun z _ => ?_
      exact tif (fun _ => ts trivial) fun _ => tif (fun _ => ts trivial) fun _ => ts trivial
theorem t176_0 (s : List UInt8) (n : Int) (hn : 0 ≤ n ∧ n ≤ 4) (h1 : 1 ≤ s.length) (hsn : (s.length : Int) ≤ n) : ∀ (k : Nat) (i : Int), 0 ≤ i → (s.length : Int) - i ≤ k → Tot (f176 (.l176_0 s n i)) fun _ => True
  | k, i, h0, hk => by
    rw [f176]
    refine tif (fun h => ?_) fun _ => t176_1 s n hn n.toNat s s h1 (by omega) rfl (by omega)
    simp at h
    refine tidx h0 (by omega) fun y _ => ?_
    refine tgd (P := fun _ => True) (fun _ => (tot_idx h0 (by omega)).mono fun _ _ => trivial) fun z _ _ => ?_
    refine tif (fun _ => ts trivial) fun _ => ?_
    rw [wi (by omega) (by omega)]
    match k with
    | 0 => omega
    | k + 1 => exact t176_0 s n hn h1 hsn k (i + 1) (by omega) (by omega)
theorem t176 (s : List UInt8) (hs : Small s) : Tot (f176 (.e176 s)) fun _ => True := by
  rw [f176]
  refine tif (fun _ => ts trivial) fun h => ?_
  have h1 : 1 ≤ s.length := by
    cases s with
    | nil => simp at h
    | cons x s => simp
  refine tidx (by omega) (by omega) fun y _ => ?_
  refine tb (t208 _) fun n hn => ?_
  refine tif (fun _ => ts trivial) fun h => ?_
  simp at h
  exact t176_0 s n hn h1 (by omega) s.length 1 (by omega) (by omega)
theorem t251 (c : Int) : Tot (f251 (.e251 c)) fun _ => True := ⟨_, by rw [f251], trivial⟩
theorem t237_0 (c : Int) : Tot (f237 (.l237_0 c)) fun l => l.length ≤ 4 := by
  have hw : ∀ x : Int, (IntKind.wrap .u8 x) = ((toU8 (IntKind.wrap .u8 x)).toNat : Int) := fun x => toU8_of (wu8 x).1 (wu8 x).2
  rw [f237]
  refine tif (fun _ => tneed (hw _) (ts (by simp))) fun _ => tif (fun _ => tneed (hw _) (tneed (hw _) (ts (by simp)))) fun _ => tif (fun _ => tneed (hw _) (tneed (hw _) (tneed (hw _) (ts (by simp))))) fun _ => tneed (hw _) (tneed (hw _) (tneed (hw _) (tneed (hw _) (ts (by simp)))))
theorem t237 (c : Int) : Tot (f237 (.e237 c)) fun l => l.length ≤ 4 := by
  rw [f237]
  exact tb (t251 c) fun _ _ => tif (fun _ => t237_0 _) fun _ => t237_0 _
/-- What a piece is. -/
abbrev PieceOK (s : List UInt8) (r : List UInt8 × Int × Int × Bool) : Prop := 0 ≤ r.2.1 ∧ r.2.1 ≤ s.length ∧ (r.2.2.2 = true → 1 ≤ r.2.1 ∧ (r.1.length : Int) ≤ r.2.1)
theorem t211_0 (s : List UInt8) (hs : Small s) : ∀ (k : Nat) (i : Int), 1 ≤ i → i ≤ (s.length : Int) + 1 → (s.length : Int) + 1 - i ≤ k → Tot (f211 (.l211_0 s i)) (PieceOK s)
  | k, i, h0, h1, hk => by
    rw [f211]
    refine tif (fun h => ?_) fun _ => ts ⟨by simp, by simp, by simp⟩
    simp at h
    refine tneed (by omega) ?_
    refine tb (t176 _ (by simp [Small] at *; omega)) fun r _ => ?_
    refine tif (fun _ => ts ?_) fun _ => tif (fun _ => tneed (by omega) (ts ⟨by simp; omega, by simp; omega, fun _ => ⟨by simp; omega, by simp; omega⟩⟩)) fun _ => ?_
    · rw [wi (by omega) (by omega)]
      exact ⟨by simp; omega, by simp; omega, by simp⟩
    · rw [wi (by omega) (by omega)]
      match k with
      | 0 => omega
      | k + 1 => exact t211_0 s hs k (i + 1) (by omega) (by omega) (by omega)
theorem t211 (s : List UInt8) (hs : Small s) (h1 : 1 ≤ s.length) : Tot (f211 (.e211 s)) (PieceOK s) := by
  rw [f211]
  refine tidx (by omega) (by omega) fun c _ => ?_
  refine tif (fun _ => ts ⟨by simp, by simp, by simp⟩) fun _ => ?_
  refine tidx (by omega) (by omega) fun c _ => ?_
  refine tif (fun _ => t211_0 s hs s.length 1 (by omega) (by omega) (by omega)) fun _ => ?_
  refine tif (fun _ => ts ⟨by simp, by simp; omega, by simp⟩) fun h => ?_
  have h2 : 2 ≤ s.length := by
    simp at h
    omega
  refine tidx (by omega) (by omega) fun c _ => ?_
  refine tif (fun _ => ?_) fun _ => ?_
  · refine tidx (by omega) (by omega) fun c _ => ?_
    refine tb (t189 _) fun x hx => ?_
    refine tif (fun _ => ts ⟨by simp, by simp; omega, by simp⟩) fun _ => tneed (toU8_of hx.1 hx.2) (ts ⟨by simp, by simp; omega, by simp⟩)
  · refine tb (t236 s false) fun r hr => ?_
    obtain ⟨r0, r1, r2, r3, r4⟩ := hr
    refine tif (fun _ => ts ⟨r0, r2, by simp⟩) fun h => ?_
    simp at h
    refine tif (fun _ => tb (t237 _) fun l hl => ts ⟨by simp, by simp; omega, fun _ => ⟨by simp, by simp; omega⟩⟩) fun _ => ?_
    refine tneed (by omega) ?_
    refine tb (t236 _ true) fun q hq => ?_
    obtain ⟨q0, q1, q2, q3, q4⟩ := hq
    simp at q2
    refine tif (fun _ => ts ?_) fun h => ?_
    · rw [wi (by omega) (by omega)]
      exact ⟨by simp; omega, by simp; omega, by simp⟩
    · simp at h
      exact tb (t237 _) fun l hl => ts ⟨by simp, by simp; omega, fun _ => ⟨by simp, by simp; omega⟩⟩
theorem t182_0 (s : List UInt8) (hs : Small s) : ∀ (k : Nat) (i : Int) (o : List UInt8), 0 ≤ i → i ≤ s.length → (o.length : Int) ≤ i → (s.length : Int) - i ≤ k → Tot (f182 (.l182_0 s i o)) fun r => i ≤ r.2.1 ∧ r.2.1 ≤ s.length ∧ (r.1.length : Int) ≤ r.2.1
  | k, i, o, h0, h1, ho, hk => by
    rw [f182]
    refine tif (fun h => ?_) fun _ => ts ⟨by simp, by simpa using h1, by simpa using ho⟩
    simp at h
    refine tidx h0 (by omega) fun c _ => ?_
    refine tif (fun _ => ts ?_) fun _ => ?_
    · rw [wi (by omega) (by omega)]
      exact ⟨by simp; omega, by simp; omega, by simp; omega⟩
    · refine tneed (by omega) ?_
      refine tb (t211 _ (by simp [Small] at *; omega) (by simp; omega)) fun r hr => ?_
      obtain ⟨r0, r1, r2⟩ := hr
      simp at r1
      rw [wi (by omega) (by omega)]
      refine tif (fun _ => ts ⟨by simp; omega, by simp; omega, by simp; omega⟩) fun h' => ?_
      simp at h'
      have r3 := r2 h'.2
      refine troom (by simp [Small] at hs; omega) (by simp [Small] at hs; omega) ?_
      match k with
      | 0 => omega
      | k + 1 => exact (t182_0 s hs k _ _ (by omega) (by omega) (by simp; omega) (by omega)).mono fun r hr => ⟨by omega, hr.2⟩
theorem t182 (s : List UInt8) (hs : Small s) : Tot (f182 (.e182 s)) fun r => 0 ≤ r.2.1 ∧ r.2.1 ≤ s.length ∧ (r.1.length : Int) ≤ r.2.1 := by
  rw [f182]
  exact t182_0 s hs s.length 0 [] (by omega) (by omega) (by simp) (by omega)
/-- Numerals. -/
theorem t213_0 (s : List UInt8) (hs : Small s) : ∀ (k : Nat) (i : Int), 0 ≤ i → i ≤ s.length → (s.length : Int) - i ≤ k → Tot (f213 (.l213_0 s i)) fun r => 0 ≤ r ∧ r ≤ s.length
  | k, i, h0, h1, hk => by
    rw [f213]
    refine tgd (P := fun _ => True) (fun h => (tot_idx h0 (by simpa using h)).mono fun _ _ => trivial) fun y _ _ => ?_
    refine tgd (P := fun _ => True) (fun _ => (t181 _).mono fun _ _ => trivial) fun z _ _ => ?_
    refine tif (fun h => ?_) fun _ => ts ⟨h0, h1⟩
    simp only [Bool.and_eq_true, decide_eq_true_eq] at h
    rw [wi (by omega) (by omega)]
    match k with
    | 0 => omega
    | k + 1 => exact t213_0 s hs k (i + 1) (by omega) (by omega) (by omega)
theorem t213 (s : List UInt8) (hs : Small s) : Tot (f213 (.e213 s)) fun r => 0 ≤ r ∧ r ≤ s.length := by
  rw [f213]
  exact t213_0 s hs s.length 0 (by omega) (by omega) (by omega)
theorem t185_2 (s : List UInt8) (hs : Small s) : Tot (f185 (.l185_2 s)) fun _ => True := by
  rw [f185]
  exact tgd (P := fun _ => True) (fun _ => (t213 s hs).mono fun _ _ => trivial) fun y _ _ => ts trivial
theorem t185_1 (s : List UInt8) (hs : Small s) : Tot (f185 (.l185_1 s)) fun _ => True := by
  rw [f185]
  refine tif (fun _ => ts trivial) fun h => ?_
  have h1 : 1 ≤ s.length := by
    cases s with
    | nil => simp at h
    | cons x s => simp
  have hd : Small (s.drop (1 : Int).toNat) := by simp [Small] at *; omega
  refine tidx (by omega) (by omega) fun c _ => ?_
  refine tgd (P := fun _ => True) (fun _ => (tot_idx (by omega) (by omega)).mono fun _ _ => trivial) fun y _ _ => ?_
  refine tif (fun _ => ts trivial) fun _ => ?_
  refine tneed (by omega) ?_
  refine tgd (P := fun _ => True) (fun h => (tot_idx (by omega) (by simpa using h)).mono fun _ _ => trivial) fun y _ _ => ?_
  refine tgd (P := fun _ => True) (fun h => (tot_idx (by omega) (by simp at h; simp; omega)).mono fun _ _ => trivial) fun z _ _ => ?_
  refine tif (fun h => ?_) fun _ => t185_2 _ hd
  simp only [Bool.and_eq_true, decide_eq_true_eq] at h
  refine tneed (by omega) (t185_2 _ ?_)
  simp [Small] at *
  omega
theorem t185_0 (s : List UInt8) (hs : Small s) : Tot (f185 (.l185_0 s)) fun b => b = true → 1 ≤ s.length := by
  rw [f185]
  refine tb (t213 s hs) fun n hn => ?_
  refine tgd (P := fun _ => True) (fun h => (tot_idx (by omega) (by simp at h; omega)).mono fun _ _ => trivial) fun y _ _ => ?_
  refine tif (fun _ => ts (by simp)) fun h => ?_
  have h1 : 1 ≤ s.length := by
    simp at h
    omega
  have hd : Small (s.drop n.toNat) := by simp [Small] at *; omega
  refine tneed (by omega) ?_
  refine tgd (P := fun _ => True) (fun h => (tot_idx (by omega) (by simpa using h)).mono fun _ _ => trivial) fun y _ _ => ?_
  refine tif (fun h => ?_) fun _ => (t185_1 _ hd).mono fun _ _ _ => h1
  simp only [Bool.and_eq_true, decide_eq_true_eq] at h
  refine tneed (by omega) ?_
  refine tb (t213 _ (by simp [Small] at *; omega)) fun m hm => ?_
  refine tif (fun _ => ts (by simp)) fun _ => ?_
  have hm2 : m ≤ ((s.drop n.toNat).length : Int) - 1 := by
    have := hm.2
    rw [List.length_drop] at this
    have h2 : 0 < (s.drop n.toNat).length := by omega
    omega
  have hd2 : (s.drop n.toNat).length ≤ 140737488355328 := hd
  rw [wi (by omega) (by omega)]
  refine tneed ⟨by omega, by omega⟩ ?_
  exact (t185_1 _ (by simp [Small] at *; omega)).mono fun _ _ _ => h1
theorem t185 (s : List UInt8) (hs : Small s) : Tot (f185 (.e185 s)) fun b => b = true → 1 ≤ s.length := by
  rw [f185]
  refine tgd (P := fun _ => True) (fun h => (tot_idx (by omega) (by simpa using h)).mono fun _ _ => trivial) fun y _ _ => ?_
  refine tif (fun h => ?_) fun _ => t185_0 s hs
  simp only [Bool.and_eq_true, decide_eq_true_eq] at h
  refine tneed (by omega) ?_
  exact (t185_0 _ (by simp [Small] at *; omega)).mono fun b hb h' => by have := hb h'; simp at this; omega
theorem t184 (s : List UInt8) (c : Int) (hs : s.length ≤ 100000000000) (hc : isByte c) : Tot (f184 (.e184 s c)) fun _ => True := by
  rw [f184]
  refine tneed (toU8_of hc.1 hc.2) (tneed (by simp; omega) ?_)
  refine tb (t185 _ (by simp [Small]; omega)) fun a _ => ?_
  refine tgd (P := fun _ => True) (fun _ => tot_need (by simp; omega)) fun _ _ _ => ?_
  refine tgd (P := fun _ => True) (fun _ => (t185 _ (by simp [Small]; omega)).mono fun _ _ => trivial) fun b _ _ => ?_
  refine tif (fun _ => ts trivial) fun _ => ?_
  refine tb (t185 _ (by simp [Small]; omega)) fun a _ => ?_
  refine tgd (P := fun _ => True) (fun _ => (t181 _).mono fun _ _ => trivial) fun b _ _ => ?_
  refine tgd (P := fun _ => True) (fun _ => t212 _) fun b _ _ => ?_
  exact tif (fun _ => ts trivial) fun _ => ts trivial
/-- Words. -/
theorem t186_0 (s : List UInt8) (l : List (List UInt8)) (n : Int) (hn : n = l.length) (hl : l.length ≤ 10) : ∀ (k : Nat) (i : Int), 0 ≤ i → n - i ≤ k → Tot (f186 (.l186_0 s l n i)) fun _ => True
  | k, i, h0, hk => by
    rw [f186]
    refine tif (fun h => ?_) fun _ => ts trivial
    simp at h
    refine tidx h0 (by omega) fun x _ => ?_
    refine tif (fun _ => ts trivial) fun _ => ?_
    refine tgd (P := fun _ => True) (fun h => tot_need (by simp at h; omega)) fun _ _ _ => ?_
    refine tif (fun _ => ts trivial) fun _ => ?_
    rw [wi (by omega) (by omega)]
    match k with
    | 0 => omega
    | k + 1 => exact t186_0 s l n hn hl k (i + 1) (by omega) (by omega)
theorem t186 (s : List UInt8) (c : Int) (hs : s.length ≤ 100000000000) (hc : isByte c) : Tot (f186 (.e186 s c)) fun _ => True := by
  rw [f186]
  refine tneed (toU8_of hc.1 hc.2) (tneed (by simp; omega) ?_)
  refine te (y := [([116, 114, 117, 101] : List UInt8), ([102, 97, 108, 115, 101] : List UInt8), ([110, 117, 108, 108] : List UInt8)]) (by rw [f214]) ?_
  exact t186_0 _ _ _ rfl (by simp) 3 0 (by omega) (by simp)
theorem t187 (s : List UInt8) : Tot (f187 (.e187 s)) fun r => 0 ≤ r.1 ∧ r.1 ≤ 1 := by
  rw [f187]
  exact tif (fun _ => ts (by simp)) fun _ => tif (fun _ => ts (by simp)) fun _ => ts (by simp)
end Go.Proofs.YtonlbdholdaifaaGreatDoor
end
section
/- The reference's parser answers, at every text; what its values are like. -/
set_option linter.unusedVariables false
set_option linter.unusedSimpArgs false
namespace Go.Proofs.YtonlbdholdaifaaGreatDoor
open Go Go.Rf Go.Proofs
mutual
/-- A value that stands from lo on, ahead of hi. -/
inductive WFv : Int → Int → ApiValue → Prop where
  | mk {lo hi : Int} {v : ApiValue} (h1 : lo ≤ v.frm) (h2 : v.frm < hi) (hto : v.to = 0 ∨ (v.frm < v.to ∧ v.to ≤ hi)) (hk : 0 ≤ v.kind ∧ v.kind ≤ 5) (hn : v.kind = 5 → v.names.length = v.items.length) (hn' : v.kind ≠ 5 → v.names = [])
      (hs : v.kind ≠ 4 → v.kind ≠ 5 → v.items = []) (hm : ∀ n, n ∈ v.names → (n.length : Int) ≤ hi) (ht : (v.text.length : Int) ≤ hi) (hi' : WFl (v.frm + 1) hi v.items) : WFv lo hi v
inductive WFl : Int → Int → List ApiValue → Prop where
  | nil {lo hi : Int} : WFl lo hi []
  | cons {lo m hi : Int} {x : ApiValue} {xs : List ApiValue} (h : WFv lo m x) (t : WFl m hi xs) (hm : m ≤ hi) : WFl lo hi (x :: xs)
end
theorem WFl.mono {lo hi hi' : Int} : ∀ {xs : List ApiValue}, WFl lo hi xs → hi ≤ hi' → WFl lo hi' xs
  | [], _, _ => .nil
  | x :: xs, h, hh => by
    cases h with
    | cons h t hm => exact .cons h (t.mono hh) (by omega)
theorem WFv.mono {lo hi lo' hi' : Int} {v : ApiValue} (h : WFv lo hi v) (hl : lo' ≤ lo) (hh : hi ≤ hi') : WFv lo' hi' v := by
  cases h with
  | mk h1 h2 hto hk hn hn' hs hm ht hi' =>
    exact .mk (by omega) (by omega) (hto.imp id fun h => ⟨h.1, by omega⟩) hk hn hn' hs (fun n hn => by have := hm n hn; omega) (by omega) (hi'.mono hh)
theorem WFv.lt {lo hi : Int} {v : ApiValue} (h : WFv lo hi v) : lo < hi := by
  cases h with
  | mk h1 h2 => omega
theorem WFl.length {lo hi : Int} : ∀ {xs : List ApiValue}, WFl lo hi xs → lo ≤ hi → (xs.length : Int) ≤ hi - lo
  | [], _, h => by simp; omega
  | x :: xs, h, hl => by
    cases h with
    | cons h t hm =>
      have h1 := h.lt
      have := t.length hm
      simp
      omega
theorem WFl.snoc {lo m hi : Int} {x : ApiValue} : ∀ {xs : List ApiValue}, WFl lo m xs → WFv m hi x → lo ≤ m → WFl lo hi (xs ++ [x])
  | [], _, h, hl => .cons (h.mono hl (Int.le_refl _)) .nil (Int.le_refl _)
  | y :: ys, h, hx, hl => by
    cases h with
    | cons h t hm => exact .cons h (t.snoc hx hm) (by have := hx.lt; omega)
/-- What a part is. -/
def PartOK (s : List UInt8) (a : Int) (p : Ref10Part) : Prop :=
  (p.fault = 0 → p.begun = true ∧ a < p.pos ∧ p.pos ≤ s.length ∧ WFv a p.pos p.value ∧ p.value.to = p.pos) ∧ (p.begun = true → WFv a s.length p.value) ∧ 0 ≤ p.pos ∧ p.pos ≤ s.length ∧ (p.begun = false → p.fault ≠ 1)
theorem part_ok {s : List UInt8} {a i : Int} {v : ApiValue} (h0 : 0 ≤ a) (h1 : a < i) (h2 : i ≤ s.length) (hv : WFv a i v) (ht : v.to = i) : PartOK s a ⟨v, true, i, 0⟩ :=
  ⟨fun _ => ⟨rfl, h1, h2, hv, ht⟩, fun _ => hv.mono (Int.le_refl _) h2, by simp; omega, h2, by simp⟩
theorem part_bad {s : List UInt8} {a i k : Int} {v : ApiValue} (h0 : 0 ≤ i) (h2 : i ≤ s.length) (hk : k ≠ 0) (hv : WFv a s.length v) : PartOK s a ⟨v, true, i, k⟩ :=
  ⟨fun h => absurd h hk, fun _ => hv, h0, h2, by simp⟩
theorem part_none {s : List UInt8} {a i k : Int} {v : ApiValue} (h0 : 0 ≤ i) (h2 : i ≤ s.length) (hk : k ≠ 0) (hk1 : k ≠ 1) : PartOK s a ⟨v, false, i, k⟩ :=
  ⟨fun h => absurd h hk, fun h => by simp at h, h0, h2, fun _ => hk1⟩
/-- A value without items. -/
theorem wf_leaf {a hi k to : Int} {t : List UInt8} (h2 : a < hi) (hto : to = 0 ∨ (a < to ∧ to ≤ hi)) (hk : 0 ≤ k ∧ k ≤ 5) (ht : (t.length : Int) ≤ hi) : WFv a hi ⟨k, a, to, t, [], []⟩ :=
  .mk (Int.le_refl _) h2 hto hk (fun _ => rfl) (fun _ => rfl) (fun _ _ => rfl) (fun n hn => by simp at hn) ht .nil
section
variable (s : List UInt8) (hs : s.length ≤ 100000000000)
include hs
theorem t131 (a : Int) (h0 : 0 ≤ a) (h1 : a < s.length) : Tot (f131 (.e131 s a)) (fun p => PartOK s a p ∧ (p.fault = 0 → (p.value.text.length : Int) ≤ p.pos)) := by
  rw [f131, wi (x := a + 1) (by omega) (by omega)]
  refine tneed (by omega) ?_
  refine tb (t182 _ (by simp [Small]; omega)) fun r hr => ?_
  obtain ⟨r0, r1, r2⟩ := hr
  simp at r1
  refine tif (fun _ => te (t183 _ _ _) (ts ?_)) fun _ => tif (fun _ => te (t183 _ _ _) (ts ?_)) fun h => ts ?_
  · exact ⟨part_bad (by simp) (by simp) (by decide) (wf_leaf (by omega) (.inl rfl) (by simp) (by simp)), fun h => by simp at h⟩
  · rename_i h h'
    rw [wi (by omega) (by omega)]
    refine ⟨part_bad (by omega) (by omega) (by simpa using h) (wf_leaf (by omega) (.inl rfl) (by simp) (by simp)), fun h' => ?_⟩
    simp at h h'
    exact absurd h' h
  · rw [wi (by omega) (by omega)]
    exact ⟨part_ok h0 (by omega) (by omega) (wf_leaf (by omega) (.inr ⟨by omega, by omega⟩) (by simp) (by omega)) rfl, fun _ => by simp; omega⟩
theorem t132_0 (a : Int) (c : Bool) (a4 a5 a6 : Int) (a7 : List UInt8) (a8 : Bool) (a9 a10 : Int) (h0 : 0 ≤ a) (h1 : a < s.length) : ∀ (k : Nat) (n : Int), 0 ≤ n → a + n ≤ s.length → (s.length : Int) - (a + n) ≤ k → Tot (f132 (.l132_0 s a n c a4 a5 a6 a7 a8 a9 a10 2 a 0 [])) (PartOK s a)
  | k, n, hn, hl, hk => by
    rw [f132, wi (x := a + n) (by omega) (by omega)]
    have hbad : PartOK s a ⟨⟨2, a, 0, [], [], []⟩, true, s.length, 10⟩ := part_bad (by omega) (by omega) (by decide) (wf_leaf (by omega) (.inl rfl) (by simp) (by simp))
    have hsm : Small ((s.take (a + n).toNat).drop a.toNat) := by simp [Small]; omega
    have fin : ∀ b : Bool, (b = true → 1 ≤ ((s.take (a + n).toNat).drop a.toNat).length) → b = true → PartOK s a ⟨⟨2, a, a + n, (s.take (a + n).toNat).drop a.toNat, [], []⟩, true, a + n, 0⟩ := fun b hb h => by
      have := hb h
      simp at this
      exact part_ok h0 (by omega) (by omega) (wf_leaf (by omega) (.inr ⟨by omega, by omega⟩) (by simp) (by simp; omega)) rfl
    refine tif (fun h => ?_) fun _ => ?_
    · simp at h
      refine tneed (by omega) ?_
      refine tidx (by omega) (by omega) fun x _ => ?_
      refine tb (t184 _ _ (by simp; omega) (byteOK x)) fun r _ => ?_
      refine tif (fun _ => te (t183 _ _ _) (ts (part_bad (by omega) (by omega) (by decide) (wf_leaf (by omega) (.inl rfl) (by simp) (by simp))))) fun _ => ?_
      refine tif (fun _ => ?_) fun _ => ?_
      · refine tgd (P := fun _ => True) (fun _ => tot_need (by omega)) fun _ _ _ => ?_
        refine tgd (P := fun b => b = true → 1 ≤ ((s.take (a + n).toNat).drop a.toNat).length) (fun _ => t185 _ hsm) fun b hb _ => ?_
        refine tif (fun _ => te (t183 _ _ _) (ts hbad)) fun h' => ?_
        simp at h'
        exact tneed (by omega) (ts (fin b (hb (by simp)).2 (by simpa using h')))
      · rw [wi (by omega) (by omega)]
        match k with
        | 0 => omega
        | k + 1 => exact t132_0 a c a4 a5 a6 a7 a8 a9 a10 h0 h1 k (n + 1) (by omega) (by omega) (by omega)
    · refine tgd (P := fun _ => True) (fun _ => tot_need (by omega)) fun _ _ _ => ?_
      refine tgd (P := fun b => b = true → 1 ≤ ((s.take (a + n).toNat).drop a.toNat).length) (fun _ => t185 _ hsm) fun b hb _ => ?_
      refine tif (fun _ => te (t183 _ _ _) (ts hbad)) fun h' => ?_
      simp at h'
      exact tneed (by omega) (ts (fin b (hb (by simpa using h'.1)).2 h'.2))
theorem t132 (a : Int) (c : Bool) (h0 : 0 ≤ a) (h1 : a < s.length) : Tot (f132 (.e132 s a c)) (PartOK s a) := by
  rw [f132]
  exact t132_0 s hs a c _ _ _ _ _ _ _ h0 h1 s.length 0 (by omega) (by omega) (by omega)
theorem t133_0 (a : Int) (a7 a8 a9 : Int) (a10 : List UInt8) (a11 : Bool) (a12 a13 : Int) (h0 : 0 ≤ a) (h1 : a < s.length) : ∀ (k : Nat) (n : Int), 0 ≤ n → a + n ≤ s.length → (s.length : Int) - (a + n) ≤ k → Tot (f133 (.l133_0 s a n 0 a 0 [] a7 a8 a9 a10 a11 a12 a13)) (PartOK s a)
  | k, n, hn, hl, hk => by
    rw [f133, wi (x := a + n) (by omega) (by omega)]
    refine tif (fun h => ?_) fun _ => te (t183 _ _ _) (ts (part_bad (by omega) (by omega) (by decide) (wf_leaf (by omega) (.inl rfl) (by simp) (by simp))))
    simp at h
    refine tneed (by omega) ?_
    refine tidx (by omega) (by omega) fun x _ => ?_
    refine tb (t186 _ _ (by simp; omega) (byteOK x)) fun r _ => ?_
    refine tif (fun _ => te (t183 _ _ _) (ts (part_bad (by omega) (by omega) (by decide) (wf_leaf (by omega) (.inl rfl) (by simp) (by simp))))) fun _ => ?_
    rw [wi (x := a + n + 1) (by omega) (by omega)]
    refine tif (fun _ => ?_) fun _ => ?_
    · refine tneed (by omega) ?_
      refine tb (t187 _) fun q hq => ts ?_
      exact part_ok h0 (by omega) (by omega) (wf_leaf (by omega) (.inr ⟨by omega, by omega⟩) ⟨hq.1, by omega⟩ (by simp; omega)) rfl
    · rw [wi (by omega) (by omega)]
      match k with
      | 0 => omega
      | k + 1 => exact t133_0 a a7 a8 a9 a10 a11 a12 a13 h0 h1 k (n + 1) (by omega) (by omega) (by omega)
theorem t133 (a : Int) (h0 : 0 ≤ a) (h1 : a < s.length) : Tot (f133 (.e133 s a)) (PartOK s a) := by
  rw [f133]
  exact t133_0 s hs a _ _ _ _ _ _ _ h0 h1 s.length 0 (by omega) (by omega) (by omega)
/-- An array's items, of which those from at1 on are yet to come; the items answer. -/
theorem t134_0 (K : Nat) (P : ∀ (a left : Int) (c : Bool), 0 ≤ a → a < s.length → (s.length : Int) - a ≤ K → left ≤ 9223372036854775806 → Tot (f80 (.e80 s a left c)) (PartOK s a))
    (a left : Int) (c : Bool) (h0 : 0 ≤ a) (hl1 : 1 ≤ left) (hl2 : left ≤ 9223372036854775807) (hK : (s.length : Int) - (a + 1) ≤ K) (x8 x9 x10 : Int) (x11 : List UInt8) (x12 : Bool) (x13 x14 : Int) :
    ∀ (k : Nat) (i : Int) (y8 y9 y10 : Int) (y11 : List UInt8) (y12 : Bool) (y13 y14 : Int) (xs : List ApiValue), a + 1 ≤ i → i ≤ s.length → WFl (a + 1) i xs → (s.length : Int) - i ≤ k → Tot (f80 (.l134_0 s left c i 4 a 0 [] y8 y9 y10 y11 y12 y13 y14 xs)) (PartOK s a)
  | k, i, y8, y9, y10, y11, y12, y13, y14, xs, hi0, hi1, hxs, hk => by
    have bad : ∀ (ys : List ApiValue) (kd j : Int), WFl (a + 1) s.length ys → 0 ≤ j → j ≤ s.length → kd ≠ 0 → PartOK s a ⟨⟨4, a, 0, [], ys, []⟩, true, j, kd⟩ := fun ys kd j hy h1 h2 hkd =>
      part_bad h1 h2 hkd (.mk (Int.le_refl _) (by simp; omega) (.inl rfl) (by simp) (by simp) (fun _ => rfl) (by simp) (by simp) (by simp) hy)
    rw [f80]
    refine tif (fun _ => te (t183 _ _ _) (ts (bad _ _ _ (hxs.mono hi1) (by omega) (by omega) (by decide)))) fun h => ?_
    simp at h
    rw [wi (x := left - 1) (by omega) (by omega)]
    refine tb (P i (left - 1) c (by omega) h (by omega) (by omega)) fun p hp => ?_
    obtain ⟨p1, p2, p3, p4, p5⟩ := hp
    have hlen := hxs.length (by omega)
    -- what follows an item
    have next : ∀ ys : List ApiValue, WFl (a + 1) s.length ys → (p.fault = 0 → WFl (a + 1) p.pos ys) → Tot (f80 (.l134_1 s left c p 4 a 0 [] ys y8 y9 y10 y11 y12 y13 y14)) (PartOK s a) := by
      intro ys hy1 hy2
      rw [f80]
      refine tif (fun h => te (t183 _ _ _) (ts (bad _ _ _ hy1 p3 p4 (by simpa using h)))) fun h => ?_
      have hf : p.fault = 0 := by simpa using h
      obtain ⟨q1, q2, q3, q4, q5⟩ := p1 hf
      have hy := hy2 hf
      refine tb (t79e s (by omega) p.pos p3) fun j hj => ?_
      refine tif (fun _ => te (t183 _ _ _) (ts (bad _ _ _ hy1 (by omega) (by omega) (by decide)))) fun h => ?_
      simp at h
      refine tidx (by omega) h fun b _ => ?_
      rw [wi (x := j + 1) (by omega) (by omega)]
      refine tif (fun _ => ts ?_) fun _ => ?_
      · exact part_ok h0 (by omega) (by omega) (.mk (Int.le_refl _) (by simp; omega) (.inr ⟨by simp; omega, by simp⟩) (by simp) (by simp) (fun _ => rfl) (by simp) (by simp) (by simp; omega) (hy.mono (by omega))) rfl
      · refine tidx (by omega) h fun b _ => ?_
        refine tif (fun _ => te (t183 _ _ _) (ts (bad _ _ _ hy1 (by omega) (by omega) (by decide)))) fun _ => ?_
        refine tb (t79e s (by omega) (j + 1) (by omega)) fun m hm => ?_
        match k with
        | 0 => omega
        | k + 1 => exact t134_0 K P a left c h0 hl1 hl2 hK x8 x9 x10 x11 x12 x13 x14 k m _ _ _ _ _ _ _ ys (by omega) (hm.2 (by omega)) (hy.mono (by omega)) (by omega)
    refine tif (fun hb => ?_) fun hb => next xs (hxs.mono hi1) fun hf => ?_
    · refine troom (by simp; omega) (by simp; omega) ?_
      refine next _ (hxs.snoc (p2 hb) (by omega)) fun hf => hxs.snoc (p1 hf).2.2.2.1 (by omega)
    · have := (p1 hf).1
      rw [hb] at this
      simp at this
end
end Go.Proofs.YtonlbdholdaifaaGreatDoor
end
section
/- The reference's objects, values, and its Parse: they answer. -/
set_option linter.unusedVariables false
set_option linter.unusedSimpArgs false
namespace Go.Proofs.YtonlbdholdaifaaGreatDoor
open Go Go.Rf Go.Proofs
section
variable (s : List UInt8) (hs : s.length ≤ 100000000000)
include hs
theorem t135_0 (K : Nat) (P : ∀ (a left : Int) (c : Bool), 0 ≤ a → a < s.length → (s.length : Int) - a ≤ K → left ≤ 9223372036854775806 → Tot (f80 (.e80 s a left c)) (PartOK s a))
    (a left : Int) (c : Bool) (h0 : 0 ≤ a) (hl1 : 1 ≤ left) (hl2 : left ≤ 9223372036854775807) (hK : (s.length : Int) - (a + 1) ≤ K) :
    ∀ (k : Nat) (i : Int) (y8 y9 y10 : Int) (y11 : List UInt8) (y12 : Bool) (y13 y14 : Int) (xs : List ApiValue) (ns : List (List UInt8)), a + 1 ≤ i → i ≤ s.length → WFl (a + 1) i xs → ns.length = xs.length → (∀ n, n ∈ ns → (n.length : Int) ≤ i) → (s.length : Int) - i ≤ k → Tot (f80 (.l135_0 s left c i 5 a 0 [] y8 y9 y10 y11 y12 y13 y14 xs ns)) (PartOK s a)
  | k, i, y8, y9, y10, y11, y12, y13, y14, xs, ns, hi0, hi1, hxs, hns, hnm, hk => by
    have bad : ∀ (ys : List ApiValue) (ms : List (List UInt8)) (kd j : Int), WFl (a + 1) s.length ys → ms.length = ys.length → (∀ n, n ∈ ms → (n.length : Int) ≤ s.length) → 0 ≤ j → j ≤ s.length → kd ≠ 0 → PartOK s a ⟨⟨5, a, 0, [], ys, ms⟩, true, j, kd⟩ := fun ys ms kd j hy hms hmm h1 h2 hkd =>
      part_bad h1 h2 hkd (.mk (Int.le_refl _) (by simp; omega) (.inl rfl) (by simp) (by simpa using hms) (by simp) (by simp) (by simpa using hmm) (by simp) hy)
    have hxs1 := hxs.mono hi1
    have hnm1 : ∀ n, n ∈ ns → (n.length : Int) ≤ s.length := fun n hn => by have := hnm n hn; omega
    rw [f80]
    refine tif (fun _ => te (t183 _ _ _) (ts (bad _ _ _ _ hxs1 hns hnm1 (by omega) (by omega) (by decide)))) fun h => ?_
    simp at h
    refine tidx (by omega) (by omega) fun b _ => ?_
    refine tif (fun _ => te (t183 _ _ _) (ts (bad _ _ _ _ hxs1 hns hnm1 (by omega) (by omega) (by decide)))) fun _ => ?_
    refine tb (t131 s hs i (by omega) (by omega)) fun q hq => ?_
    obtain ⟨⟨q1, q2, q3, q4, -⟩, q5⟩ := hq
    refine tif (fun h => te (t183 _ _ _) (ts (bad _ _ _ _ hxs1 hns hnm1 q3 q4 (by simpa using h)))) fun h => ?_
    have hf : q.fault = 0 := by simpa using h
    have q6 := q5 hf
    obtain ⟨-, q7, q8, -, -⟩ := q1 hf
    refine tb (t79e s (by omega) q.pos q3) fun j hj => ?_
    refine tif (fun _ => te (t183 _ _ _) (ts (bad _ _ _ _ hxs1 hns hnm1 (by omega) (by omega) (by decide)))) fun h => ?_
    simp at h
    refine tidx (by omega) h fun b _ => ?_
    refine tif (fun _ => te (t183 _ _ _) (ts (bad _ _ _ _ hxs1 hns hnm1 (by omega) (by omega) (by decide)))) fun _ => ?_
    rw [wi (x := j + 1) (by omega) (by omega)]
    refine tb (t79e s (by omega) (j + 1) (by omega)) fun m hm => ?_
    refine tif (fun _ => te (t183 _ _ _) (ts (bad _ _ _ _ hxs1 hns hnm1 (by omega) (by omega) (by decide)))) fun h' => ?_
    simp at h'
    rw [wi (x := left - 1) (by omega) (by omega)]
    refine tb (P m (left - 1) c (by omega) h' (by omega) (by omega)) fun p hp => ?_
    obtain ⟨p1, p2, p3, p4, p5⟩ := hp
    have hlen := hxs.length (by omega)
    have next : ∀ (ys : List ApiValue) (ms : List (List UInt8)), WFl (a + 1) s.length ys → ms.length = ys.length → (∀ n, n ∈ ms → (n.length : Int) ≤ q.pos) → (p.fault = 0 → WFl (a + 1) p.pos ys) → Tot (f80 (.l135_1 s left c p 5 a 0 [] ms ys y8 y9 y10 y11 y12 y13 y14)) (PartOK s a) := by
      intro ys ms hy1 hms hmm hy2
      have hmm1 : ∀ n, n ∈ ms → (n.length : Int) ≤ s.length := fun n hn => by have := hmm n hn; omega
      rw [f80]
      refine tif (fun h => te (t183 _ _ _) (ts (bad _ _ _ _ hy1 hms hmm1 p3 p4 (by simpa using h)))) fun h => ?_
      have hf : p.fault = 0 := by simpa using h
      obtain ⟨q1, q2, q3, q4, q5⟩ := p1 hf
      have hy := hy2 hf
      refine tb (t79e s (by omega) p.pos p3) fun j' hj' => ?_
      refine tif (fun _ => te (t183 _ _ _) (ts (bad _ _ _ _ hy1 hms hmm1 (by omega) (by omega) (by decide)))) fun h => ?_
      simp at h
      refine tidx (by omega) h fun b _ => ?_
      rw [wi (x := j' + 1) (by omega) (by omega)]
      refine tif (fun _ => ts ?_) fun _ => ?_
      · exact part_ok h0 (by omega) (by omega) (.mk (Int.le_refl _) (by simp; omega) (.inr ⟨by simp; omega, by simp⟩) (by simp) (by simpa using hms) (by simp) (by simp) (fun n hn => by have := hmm n hn; omega) (by simp; omega) (hy.mono (by omega))) rfl
      · refine tidx (by omega) h fun b _ => ?_
        refine tif (fun _ => te (t183 _ _ _) (ts (bad _ _ _ _ hy1 hms hmm1 (by omega) (by omega) (by decide)))) fun _ => ?_
        refine tb (t79e s (by omega) (j' + 1) (by omega)) fun m' hm' => ?_
        match k with
        | 0 => omega
        | k + 1 => exact t135_0 K P a left c h0 hl1 hl2 hK k m' _ _ _ _ _ _ _ ys ms (by omega) (hm'.2 (by omega)) (hy.mono (by omega)) hms (fun n hn => by have := hmm n hn; omega) (by omega)
    have hnq : ∀ n, n ∈ ns → (n.length : Int) ≤ q.pos := fun n hn => by have := hnm n hn; omega
    refine tif (fun hb => ?_) fun hb => next xs ns hxs1 hns hnq fun hf => ?_
    · refine troom (by simp; omega) (by simp; omega) (troom (by simp; omega) (by simp; omega) ?_)
      refine next _ _ ((hxs.mono (by omega)).snoc (p2 hb) (by omega)) (by simp [hns]) (fun n hn => ?_) fun hf => (hxs.mono (by omega)).snoc (p1 hf).2.2.2.1 (by omega)
      rcases List.mem_append.1 hn with hn | hn
      · exact hnq n hn
      · rw [List.mem_singleton.1 hn]
        exact q6
    · have := (p1 hf).1
      rw [hb] at this
      simp at this
/-- A value. -/
theorem t80 : ∀ (K : Nat) (a left : Int) (c : Bool), 0 ≤ a → a < s.length → (s.length : Int) - a ≤ K → left ≤ 9223372036854775806 → Tot (f80 (.e80 s a left c)) (PartOK s a)
  | 0, a, left, c, h0, h1, hK, hl => by omega
  | K + 1, a, left, c, h0, h1, hK, hl => by
    rw [f80]
    refine tidx h0 h1 fun b _ => ?_
    refine tb (t130 _) fun kd _ => ?_
    refine tif (fun _ => tb (t131 s hs a h0 h1) fun p hp => ts hp.1) fun _ => ?_
    refine tif (fun _ => tb (t132 s hs a c h0 h1) fun p hp => ts hp) fun _ => ?_
    refine tif (fun _ => tb (t133 s hs a h0 h1) fun p hp => ts hp) fun _ => ?_
    have hbad : ∀ k : Int, k ≠ 0 → k ≠ 1 → PartOK s a ⟨⟨0, 0, 0, [], [], []⟩, false, a, k⟩ := fun k hk hk1 => part_none h0 (by omega) hk hk1
    refine tif (fun _ => tif (fun _ => ts (hbad _ (by decide) (by decide))) fun hl1 => tb (P := PartOK s a) ?_ fun p hp => ts hp) fun _ => tif (fun _ => tif (fun _ => ts (hbad _ (by decide) (by decide))) fun hl1 => tb (P := PartOK s a) ?_ fun p hp => ts hp) fun _ => ts (hbad _ (by decide) (by decide))
    · simp at hl1
      rw [f80, wi (x := a + 1) (by omega) (by omega)]
      refine tb (t79e s (by omega) (a + 1) (by omega)) fun j hj => ?_
      refine tgd (P := fun _ => True) (fun h => (tot_idx (by omega) (by simpa using h)).mono fun _ _ => trivial) fun b _ _ => ?_
      refine tif (fun h => ?_) fun _ => ?_
      · simp at h
        rw [wi (x := j + 1) (by omega) (by omega)]
        exact ts (part_ok h0 (by omega) (by omega) (.mk (Int.le_refl _) (by simp; omega) (.inr ⟨by simp; omega, by simp⟩) (by simp) (by simp) (fun _ => rfl) (by simp) (by simp) (by simp; omega) .nil) rfl)
      · exact t134_0 s hs K (fun a left c => t80 K a left c) a left c h0 hl1 (by omega) (by omega) 0 0 0 [] false 0 0 s.length j _ _ _ _ _ _ _ [] (by omega) (hj.2 (by omega)) .nil (by omega)
    · simp at hl1
      rw [f80, wi (x := a + 1) (by omega) (by omega)]
      refine tb (t79e s (by omega) (a + 1) (by omega)) fun j hj => ?_
      refine tgd (P := fun _ => True) (fun h => (tot_idx (by omega) (by simpa using h)).mono fun _ _ => trivial) fun b _ _ => ?_
      refine tif (fun h => ?_) fun _ => ?_
      · simp at h
        rw [wi (x := j + 1) (by omega) (by omega)]
        exact ts (part_ok h0 (by omega) (by omega) (.mk (Int.le_refl _) (by simp; omega) (.inr ⟨by simp; omega, by simp⟩) (by simp) (by simp) (by simp) (by simp) (by simp) (by simp; omega) .nil) rfl)
      · exact t135_0 s hs K (fun a left c => t80 K a left c) a left c h0 hl1 (by omega) (by omega) s.length j _ _ _ _ _ _ _ [] [] (by omega) (hj.2 (by omega)) .nil rfl (by simp) (by omega)
/-- What Some tells. -/
abbrev SomeOK (s : List UInt8) (r : ApiValue × Bool × ApiVerdict) : Prop := (r.2.1 = true → WFv 0 s.length r.1) ∧ (r.2.2.kind = 1 → r.2.1 = true)
theorem t28 (left : Int) (c : Bool) (hl : left ≤ 9223372036854775806) : Tot (f28 (.e28 s left c)) (SomeOK s) := by
  have main : ∀ l : Int, l ≤ 9223372036854775806 → Tot (f28 (.l28_0 s l c 0 0 0 [] 0 0)) (SomeOK s) := by
    intro l hl
    rw [f28]
    refine tb (t79e s (by omega) 0 (by omega)) fun i hi => ?_
    refine tif (fun _ => tif (fun _ => ?_) fun _ => ?_) fun h => ?_
    · rw [f28]
      exact ts ⟨by simp, by simp⟩
    · rw [f28]
      exact ts ⟨by simp, by simp⟩
    simp at h
    refine tb (t80 s hs s.length i l c (by omega) h (by omega) hl) fun p hp => ?_
    obtain ⟨p1, p2, p3, p4, p5⟩ := hp
    have hv : p.begun = true → WFv 0 s.length p.value := fun hb => (p2 hb).mono (by omega) (Int.le_refl _)
    refine tif (fun _ => ts ⟨hv, by simp⟩) fun _ => tif (fun h => ?_) fun h => ?_
    · refine ts ⟨hv, fun h' => ?_⟩
      cases hb : p.begun with
      | true => rfl
      | false => exact absurd h' (p5 hb)
    · have hf : p.fault = 0 := by simpa using h
      have hb := (p1 hf).1
      refine tb (t79e s (by omega) p.pos p3) fun j hj => ?_
      refine tif (fun _ => ts ⟨fun _ => hv hb, fun _ => rfl⟩) fun _ => tif (fun _ => ?_) fun _ => ?_
      · rw [f28]
        exact ts ⟨fun _ => hv hb, fun _ => rfl⟩
      · rw [f28]
        exact ts ⟨fun _ => hv hb, fun _ => rfl⟩
  rw [f28]
  exact tif (fun _ => main 1 (by omega)) fun _ => main left hl
end
end Go.Proofs.YtonlbdholdaifaaGreatDoor
end
section
/- A selector's children: slice.Has and the reference's Has are one; eval.Children and the reference's are one. -/
set_option linter.unusedVariables false
set_option linter.unusedSimpArgs false
namespace Go.Proofs.YtonlbdholdaifaaGreatDoor
open Go Go.Rf Go.Proofs
def placeP (a n : Int) : Int := if a < 0 then IntKind.wrap .i64 (n + a) else a
def clipP (x lo hi : Int) : Int := if hi < x then (if hi < lo then lo else hi) else (if x < lo then lo else x)
theorem e127 (a n : Int) : f127 (.e127 a n) = some (placeP a n) := by
  rw [f127, placeP]
  by_cases h : a < 0 <;> simp [h]
theorem e179 (a n : Int) : f179 (.e179 a n) = some (placeP a n) := by
  rw [f179, placeP]
  by_cases h : a < 0
  · have : ¬ 0 ≤ a := by omega
    simp [h, this]
  · have : 0 ≤ a := by omega
    simp [h, this]
theorem e210 (x lo hi : Int) : f210 (.e210 x lo hi) = some (clipP x lo hi) := by
  have h2 : ∀ y, f210 (.l210_1 y) = some y := fun y => by rw [f210]
  have h1 : ∀ y, f210 (.l210_0 y lo) = some (if y < lo then lo else y) := fun y => by
    rw [f210]
    by_cases h : y < lo <;> simp [h, h2]
  rw [f210, clipP]
  by_cases h : hi < x <;> simp [h, h1]
theorem clip_gm {x lo hi : Int} (h : lo ≤ hi) : gmin (gmax x lo) hi = clipP x lo hi := by
  unfold gmin gmax clipP
  repeat' split
  all_goals omega
/-- The two bounds of a slice. -/
def loB (s : ApiSelector) (n : Int) : Int := if s.hasStart then placeP s.start n else (if 0 < s.stride then 0 else n - 1)
def hiB (s : ApiSelector) (n : Int) : Int := if s.hasEnd then placeP s.stop n else (if 0 < s.stride then n else -1)
def bndP (s : ApiSelector) (n : Int) : Int × Int :=
  if 0 < s.stride then (clipP (loB s n) 0 n, clipP (hiB s n) 0 n) else if s.stride < 0 then (clipP (hiB s n) (-1) (n - 1), clipP (loB s n) (-1) (n - 1)) else (0, 0)
theorem e126 (s : ApiSelector) (n : Int) (h0 : 0 ≤ n) (h1 : n ≤ 1000000) : f126 (.e126 s n) = some (bndP s n) := by
  have k2 : ∀ a b, f126 (.l126_2 n a b) = some (clipP a 0 n, clipP b 0 n) := fun a b => by rw [f126, clip_gm h0, clip_gm h0]
  have k3 : ∀ a b, f126 (.l126_3 n a b) = some (clipP b (-1) (n - 1), clipP a (-1) (n - 1)) := fun a b => by rw [f126, wi (by omega) (by omega), clip_gm (by omega), clip_gm (by omega)]
  have k0 : ∀ a b, f126 (.l126_0 n a b s) = some (clipP a 0 n, clipP (if s.hasEnd then b else n) 0 n) := fun a b => by
    rw [f126]
    cases s.hasEnd <;> simp [k2]
  have k1 : ∀ a b, f126 (.l126_1 n a b s) = some (clipP (if s.hasEnd then b else -1) (-1) (n - 1), clipP a (-1) (n - 1)) := fun a b => by
    rw [f126]
    cases s.hasEnd <;> simp [k3]
  rw [f126, e127, e127, wi (x := n - 1) (by omega) (by omega)]
  by_cases hp : 0 < s.stride
  · cases hs : s.hasStart <;> simp [hp, hs, k0, bndP, loB, hiB]
  · by_cases hn : s.stride < 0
    · cases hs : s.hasStart <;> simp [hp, hn, hs, k1, bndP, loB, hiB]
    · simp [hp, hn, bndP]
theorem e180 (s : ApiSelector) (n : Int) (h0 : 0 ≤ n) (h1 : n ≤ 1000000) : f180 (.e180 s n) = some (bndP s n) := by
  have k2 : ∀ a b, f180 (.l180_2 n a b) = some (clipP a 0 n, clipP b 0 n) := fun a b => by rw [f180, e210, e210]; rfl
  have k3 : ∀ a b, f180 (.l180_3 n a b) = some (clipP b (-1) (n - 1), clipP a (-1) (n - 1)) := fun a b => by rw [f180, wi (by omega) (by omega), e210, e210]; rfl
  have k0 : ∀ a b, f180 (.l180_0 n a b s) = some (clipP a 0 n, clipP (if s.hasEnd then b else n) 0 n) := fun a b => by
    rw [f180]
    cases s.hasEnd <;> simp [k2]
  have k1 : ∀ a b, f180 (.l180_1 n a b s) = some (clipP (if s.hasEnd then b else -1) (-1) (n - 1), clipP a (-1) (n - 1)) := fun a b => by
    rw [f180]
    cases s.hasEnd <;> simp [k3]
  rw [f180, e179, e179, wi (x := n - 1) (by omega) (by omega)]
  by_cases hp : 0 < s.stride
  · have : s.stride ≠ 0 := by omega
    cases hs : s.hasStart <;> simp [hp, this, hs, k0, bndP, loB, hiB]
  · by_cases hn : s.stride < 0
    · have : s.stride ≠ 0 := by omega
      cases hs : s.hasStart <;> simp [hp, hn, this, hs, k1, bndP, loB, hiB]
    · have : s.stride = 0 := by omega
      simp [this, bndP]
def hasP (s : ApiSelector) (i n : Int) : Bool :=
  if i < 0 ∨ n ≤ i then false else if s.kind = 2 then placeP s.index n == i else if s.kind ≠ 3 then false
  else if 0 < s.stride then decide ((bndP s n).1 ≤ i) && decide (i < (bndP s n).2) && (IntKind.wrap .i64 (i - (bndP s n).1)).tmod s.stride == 0
  else if s.stride < 0 then decide ((bndP s n).1 < i) && decide (i ≤ (bndP s n).2) && (IntKind.wrap .i64 ((bndP s n).2 - i)).tmod s.stride == 0
  else false
theorem gd_need {p : Prop} [Decidable p] {e : Bool} (hp : p) : gd e (need p) = some () := by
  cases e <;> simp [gd, need, hp]
theorem e74 (s : ApiSelector) (i n : Int) (h0 : 0 ≤ n) (h1 : n ≤ 1000000) : f74 (.e74 s i n) = some (hasP s i n) := by
  rw [f74, hasP, e126 s n h0 h1, e127]
  by_cases c1 : i < 0
  · simp [c1]
  by_cases c2 : n ≤ i
  · simp [c2]
  by_cases c3 : s.kind = 2
  · simp [c1, c2, c3]
  by_cases c4 : s.kind = 3
  · by_cases hp : 0 < s.stride
    · have : ¬ s.stride = 0 := by omega
      simp [c1, c2, c4, hp, gd_need this]
    · by_cases hn : s.stride < 0
      · have : ¬ s.stride = 0 := by omega
        simp [c1, c2, c4, hp, hn, gd_need this]
      · simp [c1, c2, c4, hp, hn]
  · simp [c1, c2, c3, c4]
theorem e128 (s : ApiSelector) (i n : Int) (h0 : 0 ≤ n) (h1 : n ≤ 1000000) (hs : -9223372036854775807 ≤ s.stride) : f128 (.e128 s i n) = some (hasP s i n) := by
  rw [f128, hasP, e180 s n h0 h1, e179]
  by_cases c1 : i < 0
  · simp [c1]
  by_cases c2 : n ≤ i
  · simp [c2]
  by_cases c3 : s.kind = 2
  · simp [c1, c2, c3]
  by_cases c4 : s.kind = 3
  · by_cases hp : 0 < s.stride
    · have : ¬ s.stride = 0 := by omega
      simp [c1, c2, c4, hp, this, gd_need trivial]
    · by_cases hn : s.stride < 0
      · have : ¬ s.stride = 0 := by omega
        rw [wi (x := 0 - s.stride) (by omega) (by omega)]
        have h' : ¬ (0 - s.stride) = 0 := by omega
        have h'' : ∀ x : Int, x.tmod (0 - s.stride) = x.tmod s.stride := fun x => by rw [Int.zero_sub, Int.tmod_neg]
        simp [c1, c2, c4, hp, hn, this, gd_need h', h'', -Int.zero_sub]
      · have : s.stride = 0 := by omega
        simp [c1, c2, c4, hp, hn, this]
  · simp [c1, c2, c3, c4]
end Go.Proofs.YtonlbdholdaifaaGreatDoor
end
section
/- What a selector picks of a value. -/
set_option linter.unusedVariables false
set_option linter.unusedSimpArgs false
namespace Go.Proofs.YtonlbdholdaifaaGreatDoor
open Go Go.Rf Go.Proofs
theorem wn {k : Nat} (h : k ≤ 1000000000000) : IntKind.wrap .i64 ((k : Int) + 1) = ((k + 1 : Nat) : Int) := by
  rw [wi (by omega) (by omega)]
  rfl
theorem ix {α : Type} {xs : List α} {k : Nat} (h : k < xs.length) : idx xs (k : Int) = some xs[k] := by simp [idx, h]
theorem gd_ok {α : Type} [Inhabited α] {e : Bool} {x : Option α} {y : α} (h : x = some y) : ∃ z, gd e x = some z ∧ (e = true → z = y) := by
  cases e
  · exact ⟨default, by simp [gd], by simp⟩
  · exact ⟨y, by simpa [gd] using h, by simp⟩
/-- What a value must be for its children to be told. -/
structure VOK (v : ApiValue) : Prop where
  few : v.items.length ≤ 1000000
  same : v.kind = 5 → v.names.length = v.items.length
def nm (v : ApiValue) (k : Nat) : List UInt8 := v.names[k]?.getD []
def meetsP (v : ApiValue) (s : ApiSelector) (k : Nat) : Bool :=
  if v.kind = 5 then s.kind == 1 || (s.kind == 0 && nm v k == s.name) else v.kind == 4 && (s.kind == 1 || hasP s k v.items.length)
theorem room_ok {n m b : Nat} (h : (n + m) * b ≤ 140737488355328) (h' : n + m ≤ 140737488355328) : room n m b = some () := by simp [room, need, h, h']
/-- The reference's. -/
theorem e76 (v : ApiValue) (s : ApiSelector) (k : Nat) (hv : VOK v) (hs : -9223372036854775807 ≤ s.stride) (hlt : k < v.items.length) : f76 (.e76 v k s) = some (meetsP v s k) := by
  have hfew := hv.few
  rw [f76]
  by_cases h5 : v.kind = 5
  · have hnl := hv.same h5
    simp only [h5, beq_self_eq_true, if_true]
    obtain ⟨z, hz, hz'⟩ := gd_ok (e := !(s.kind == 1) && s.kind == 0) (ix (xs := v.names) (k := k) (by omega))
    rw [hz]
    simp only [meetsP, h5, if_true, Option.bind_eq_bind, Option.bind_some]
    by_cases h1 : s.kind = 1
    · simp [h1]
    · by_cases h0 : s.kind = 0
      · have := hz' (by simp [h0])
        subst this
        simp [h0, nm, List.getElem?_eq_getElem (show k < v.names.length by omega)]
      · have h1' : (s.kind == 1) = false := by simpa using h1
        have h0' : (s.kind == 0) = false := by simpa using h0
        simp [h1', h0']
  · have n5 : (v.kind == 5) = false := by simp [h5]
    simp only [n5, Bool.false_eq_true, if_false, meetsP, h5]
    obtain ⟨z, hz, hz'⟩ := gd_ok (e := v.kind == 4 && !(s.kind == 1)) (e128 s k v.items.length (by omega) (by omega) hs)
    rw [hz]
    simp only [Option.bind_eq_bind, Option.bind_some]
    by_cases h4 : v.kind = 4
    · by_cases h1 : s.kind = 1
      · simp [h1, h4]
      · rw [hz' (by simp [h1, h4])]
    · have h4' : (v.kind == 4) = false := by simpa using h4
      simp [h4']
end Go.Proofs.YtonlbdholdaifaaGreatDoor
end
section
/- Items of values that stand in a text. -/
set_option linter.unusedVariables false
set_option linter.unusedSimpArgs false
namespace Go.Proofs.YtonlbdholdaifaaGreatDoor
open Go Go.Rf Go.Proofs
theorem drop_at {α : Type} {xs : List α} {k : Nat} (h : k < xs.length) : xs.drop k = xs[k] :: xs.drop (k + 1) := List.drop_eq_getElem_cons h
def stepP (v : ApiValue) (k : Nat) : ApiStep := if v.kind = 5 then ⟨true, nm v k, 0⟩ else ⟨false, [], k⟩
def itemP (n : Ref16Node) (k : Nat) : Ref16Node := ⟨n.value.items[k]?.getD default, n.steps ++ [stepP n.value k]⟩
theorem e136 (v : ApiValue) (k : Nat) (hv : VOK v) (h : k < v.items.length) : f136 (.e136 v k) = some (stepP v k) := by
  rw [f136, stepP]
  by_cases h5 : v.kind = 5
  · have hn := hv.same h5
    have hk : k < v.names.length := by omega
    simp [h5, ix hk, nm, List.getElem?_eq_getElem hk]
  · simp [h5]
theorem e81 (n : Ref16Node) (k : Nat) (hv : VOK n.value) (h : k < n.value.items.length) (hs : n.steps.length ≤ 1000000) : f81 (.e81 n k) = some (itemP n k) := by
  rw [f81, ix h, room_ok (by simp; omega) (by simp; omega), e136 _ _ hv h]
  simp only [Option.bind_eq_bind, Option.bind_some]
  rw [room_ok (by simp; omega) (by simp; omega)]
  simp [itemP, List.getElem?_eq_getElem h]
/-- What stands between lo and hi, and has few steps. -/
structure NodeOK (lo hi : Int) (n : Ref16Node) : Prop where
  wf : WFv lo hi n.value
  lo0 : 0 ≤ lo
  hi1 : hi ≤ 100000
  few : (n.steps.length : Int) ≤ lo
theorem WFv.items {lo hi : Int} {v : ApiValue} (h : WFv lo hi v) : WFl (v.frm + 1) hi v.items ∧ lo ≤ v.frm ∧ v.frm < hi ∧ (v.kind = 5 → v.names.length = v.items.length) := by
  cases h with
  | mk h1 h2 hto hk hn hn' hs hm ht hi' => exact ⟨hi', h1, h2, hn⟩
theorem NodeOK.vok {lo hi : Int} {n : Ref16Node} (h : NodeOK lo hi n) : VOK n.value := by
  obtain ⟨h1, h2, h3, h4⟩ := h.wf.items
  have := h1.length (by omega)
  have := h.lo0
  have := h.hi1
  exact ⟨by omega, h4⟩
theorem WFl.at {lo hi : Int} : ∀ {xs : List ApiValue} {k : Nat} {x : ApiValue}, WFl lo hi xs → xs[k]? = some x → ∃ l m, lo ≤ l ∧ m ≤ hi ∧ WFv l m x
  | [], k, x, _, h => by simp at h
  | y :: ys, 0, x, hw, h => by
    cases hw with
    | cons hv ht hm =>
      simp at h
      subst h
      exact ⟨lo, _, Int.le_refl _, hm, hv⟩
  | y :: ys, k + 1, x, hw, h => by
    cases hw with
    | cons hv ht hm =>
      obtain ⟨l, m', h1, h2, h3⟩ := ht.at (by simpa using h)
      have := hv.lt
      exact ⟨l, m', by omega, h2, h3⟩
theorem NodeOK.item {lo hi l m : Int} {n : Ref16Node} {k : Nat} (h : NodeOK lo hi n) (hk : k < n.value.items.length) (hl : lo + 1 ≤ l) (hm : m ≤ hi) (hw : WFv l m n.value.items[k]) : NodeOK l m (itemP n k) := by
  have := h.lo0
  have := h.hi1
  have := h.few
  exact ⟨by simpa [itemP, List.getElem?_eq_getElem hk] using hw, by omega, by omega, by simp [itemP]; omega⟩
theorem NodeOK.item' {lo hi : Int} {n : Ref16Node} {k : Nat} (h : NodeOK lo hi n) (hk : k < n.value.items.length) : ∃ l m, NodeOK l m (itemP n k) := by
  obtain ⟨h1, h2, h3, h4⟩ := h.wf.items
  obtain ⟨l, m, a, b, c⟩ := h1.at (List.getElem?_eq_getElem hk)
  exact ⟨l, m, h.item hk (by omega) b c⟩
structure SegP (seg : ApiSegment) : Prop where
  few : seg.selectors.length ≤ 8
  str : ∀ s, s ∈ seg.selectors → -9223372036854775807 ≤ s.stride
end Go.Proofs.YtonlbdholdaifaaGreatDoor
end
section
/- A value's children that a selector picks: both functions give the same list. -/
set_option linter.unusedVariables false
set_option linter.unusedSimpArgs false
namespace Go.Proofs.YtonlbdholdaifaaGreatDoor
open Go Go.Rf Go.Proofs
/-- slices.Reverse. -/
theorem rev_go (xs0 : List Int) (hn : xs0.length ≤ 1000000) : ∀ (m i j : Nat) (xs : List Int), i + j + 1 = xs.length → xs.length = xs0.length → j + 1 - i ≤ m → i ≤ j + 1 →
    (∀ k, k < i → xs[k]? = xs0[xs0.length - 1 - k]?) → (∀ k, j < k → k < xs.length → xs[k]? = xs0[xs0.length - 1 - k]?) → (∀ k, i ≤ k → k ≤ j → xs[k]? = xs0[k]?) →
    f75 (.l75_0 (i : Int) (j : Int) xs) = some xs0.reverse
  | m, i, j, xs, hij, hl, hm, hle, h1, h2, h3 => by
    rw [f75]
    by_cases h : i < j
    · have hj : j < xs.length := by omega
      have hi : i < xs.length := by omega
      simp only [Int.ofNat_lt, h, decide_true, if_true, ix hj, ix hi, Option.bind_eq_bind, Option.bind_some]
      rw [ix (by simpa using hj)]
      rw [wn (by omega), wi (x := (j : Int) - 1) (by omega) (by omega)]
      simp only [Option.bind_some, Int.toNat_natCast]
      have hj1 : (j : Int) - 1 = ((j - 1 : Nat) : Int) := by omega
      rw [hj1]
      match m with
      | 0 => omega
      | m + 1 =>
        refine rev_go xs0 hn m (i + 1) (j - 1) _ (by simp; omega) (by simpa using hl) (by omega) (by omega) ?_ ?_ ?_
        · intro k hk
          by_cases hk' : k = i
          · subst hk'
            rw [List.getElem?_set_ne (by omega), List.getElem?_set_self (by omega)]
            have := h3 j (by omega) (by omega)
            rw [List.getElem?_eq_getElem hj] at this
            rw [this]
            congr 1
            omega
          · rw [List.getElem?_set_ne (by omega), List.getElem?_set_ne (by omega)]
            exact h1 k (by omega)
        · intro k hk hk2
          simp at hk2
          by_cases hk' : k = j
          · subst hk'
            rw [List.getElem?_set_self (by simpa using hk2)]
            have := h3 i (by omega) (by omega)
            rw [List.getElem?_eq_getElem hi] at this
            rw [this]
            congr 1
            omega
          · rw [List.getElem?_set_ne (by omega), List.getElem?_set_ne (by omega)]
            exact h2 k (by omega) hk2
        · intro k hk hk2
          rw [List.getElem?_set_ne (by omega), List.getElem?_set_ne (by omega)]
          exact h3 k (by omega) (by omega)
    · simp only [Int.ofNat_lt, h, decide_false, if_false, Bool.false_eq_true]
      congr 1
      apply List.ext_getElem?
      intro k
      by_cases hk : k < xs.length
      · rw [List.getElem?_reverse (by omega)]
        by_cases a : k < i
        · exact h1 k a
        · by_cases b : j < k
          · exact h2 k b hk
          · rw [h3 k (by omega) (by omega)]
            congr 1
            omega
      · rw [List.getElem?_eq_none (by omega), List.getElem?_eq_none (by simp; omega)]
theorem e75 (xs : List Int) (hn : xs.length ≤ 1000000) : f75 (.e75 xs) = some xs.reverse := by
  cases xs with
  | nil =>
    rw [f75, wi (by simp) (by simp), f75]
    rfl
  | cons x xs =>
    rw [f75]
    have : IntKind.wrap .i64 (((x :: xs).length : Int) - 1) = ((xs.length : Nat) : Int) := by
      rw [wi (by simp <;> omega) (by simp at * <;> omega)]
      simp
    rw [this]
    exact rev_go (x :: xs) hn (xs.length + 1) 0 xs.length (x :: xs) (by simp) rfl (by omega) (by omega) (by simp) (fun k h1 h2 => by simp at h2; omega) (fun k _ _ => rfl)
def up (p : Nat → Bool) : Nat → List Int
  | 0 => []
  | k + 1 => up p k ++ (if p k then [(k : Int)] else [])
theorem up_length (p : Nat → Bool) : ∀ k, (up p k).length ≤ k
  | 0 => by simp [up]
  | k + 1 => by
    have := up_length p k
    simp only [up, List.length_append]
    split <;> simp <;> omega
theorem up_mem (p : Nat → Bool) : ∀ k x, x ∈ up p k → ∃ j : Nat, x = j ∧ j < k
  | 0, x, h => by simp [up] at h
  | k + 1, x, h => by
    simp only [up, List.mem_append] at h
    rcases h with h | h
    · obtain ⟨j, h1, h2⟩ := up_mem p k x h
      exact ⟨j, h1, by omega⟩
    · split at h
      · simp at h
        exact ⟨k, h, by omega⟩
      · simp at h
def backw (s : ApiSelector) : Bool := s.kind == 3 && decide (s.stride < 0)
/-- The children that a selector picks. -/
def kids (v : ApiValue) (s : ApiSelector) : List Int := if backw s then (up (meetsP v s) v.items.length).reverse else up (meetsP v s) v.items.length
theorem kids_length (v : ApiValue) (s : ApiSelector) : (kids v s).length ≤ v.items.length := by
  unfold kids
  split <;> simp [up_length]
theorem kids_mem (v : ApiValue) (s : ApiSelector) (x : Int) (h : x ∈ kids v s) : ∃ j : Nat, x = j ∧ j < v.items.length := by
  unfold kids at h
  split at h
  · exact up_mem _ _ x (by simpa using h)
  · exact up_mem _ _ x h
theorem e22_go (v : ApiValue) (s : ApiSelector) (hv : VOK v) : ∀ (m k : Nat), k ≤ v.items.length → v.items.length - k = m →
    f22 (.l22_0 (v.items.length : Int) (k : Int) (up (meetsP v s) k) s v) = some (kids v s)
  | m, k, hk, hm => by
    have hfew := hv.few
    have hupl := up_length (meetsP v s) k
    have stop : ∀ l, f22 (.l22_2 l) = some l := fun l => by rw [f22]
    have step : ∀ b : Bool, b = meetsP v s k → k < v.items.length → f22 (.l22_1 (k : Int) b (v.items.length : Int) (k : Int) (up (meetsP v s) k) s v) = some (kids v s) := by
      intro b hb hlt
      have go : f22 (.l22_3 (v.items.length : Int) (k : Int) (up (meetsP v s) (k + 1)) s v) = some (kids v s) := by
        rw [f22, wn (by omega)]
        match m with
        | 0 => omega
        | m + 1 => exact e22_go v s hv m (k + 1) (by omega) (by omega)
      rw [f22]
      cases b with
      | true =>
        rw [up, ← hb] at go
        simp only [if_true] at go ⊢
        rw [room_ok (by simp; omega) (by simp; omega)]
        simpa using go
      | false =>
        rw [up, ← hb] at go
        simpa using go
    rw [f22]
    by_cases hlt : k < v.items.length
    · simp only [Int.ofNat_lt, hlt, decide_true, if_true]
      by_cases h5 : v.kind = 5
      · have hnl := hv.same h5
        simp only [h5, beq_self_eq_true, if_true]
        obtain ⟨z, hz, hz'⟩ := gd_ok (e := !(s.kind == 1) && s.kind == 0) (ix (xs := v.names) (k := k) (by omega))
        rw [hz]
        refine step _ ?_ hlt
        simp only [meetsP, h5, if_true]
        by_cases h1 : s.kind = 1
        · simp [h1]
        · by_cases h0 : s.kind = 0
          · have := hz' (by simp [h0])
            subst this
            simp [h0, nm, List.getElem?_eq_getElem (show k < v.names.length by omega)]
          · have h1' : (s.kind == 1) = false := by simpa using h1
            have h0' : (s.kind == 0) = false := by simpa using h0
            simp [h1', h0']
      · by_cases h4 : v.kind = 4
        · have n5 : (v.kind == 5) = false := by simp [h4]
          simp only [n5, Bool.false_eq_true, if_false]
          simp only [h4, beq_self_eq_true, if_true]
          obtain ⟨z, hz, hz'⟩ := gd_ok (e := !(s.kind == 1)) (e74 s k v.items.length (by omega) (by omega))
          rw [hz]
          refine step _ ?_ hlt
          simp only [meetsP, h4]
          by_cases h1 : s.kind = 1
          · simp [h1]
          · rw [hz' (by simp [h1])]
            simp [h1]
        · simp only [beq_iff_eq, h5, h4, if_false]
          refine step _ ?_ hlt
          simp [meetsP, h5, h4]
    · have hke : k = v.items.length := by omega
      subst hke
      simp only [Int.lt_irrefl, decide_false, Bool.false_eq_true, if_false]
      by_cases hb : backw s
      · have : (s.kind == 3 && decide (s.stride < 0)) = true := hb
        rw [if_pos this, e75 _ (by omega)]
        simp only [Option.bind_eq_bind, Option.bind_some, stop, kids, hb, if_true]
      · have : ¬ (s.kind == 3 && decide (s.stride < 0)) = true := hb
        rw [if_neg this, stop]
        simp [kids, hb]
theorem e22 (v : ApiValue) (s : ApiSelector) (hv : VOK v) : f22 (.e22 v s) = some (kids v s) := by
  rw [f22]
  exact e22_go v s hv _ 0 (by omega) rfl
def upb (b : Bool) (l : List Int) : List Int := if b then l.reverse else l
theorem e23_go (v : ApiValue) (s : ApiSelector) (hv : VOK v) (hs : -9223372036854775807 ≤ s.stride) : ∀ (m k : Nat), k ≤ v.items.length → v.items.length - k = m →
    f23 (.l23_0 (v.items.length : Int) (k : Int) (upb (backw s) (up (meetsP v s) k)) s v) = some (kids v s)
  | m, k, hk, hm => by
    have hfew := hv.few
    have hupl := up_length (meetsP v s) k
    have hl2 : (upb (backw s) (up (meetsP v s) k)).length ≤ k := by unfold upb; split <;> simpa using hupl
    have go : k < v.items.length → f23 (.l23_0 (v.items.length : Int) (((k + 1 : Nat) : Int)) (upb (backw s) (up (meetsP v s) (k + 1))) s v) = some (kids v s) := fun hlt => by
      match m with
      | 0 => omega
      | m + 1 => exact e23_go v s hv hs m (k + 1) (by omega) (by omega)
    have s1 : ∀ l, f23 (.l23_1 (v.items.length : Int) (k : Int) l s v) = f23 (.l23_0 (v.items.length : Int) (IntKind.wrap .i64 ((k : Int) + 1)) l s v) := fun l => by
      conv => lhs; rw [f23]
    have s2 : ∀ l, f23 (.l23_2 (v.items.length : Int) (k : Int) l s v) = f23 (.l23_0 (v.items.length : Int) (IntKind.wrap .i64 ((k : Int) + 1)) l s v) := fun l => by
      conv => lhs; rw [f23]
    rw [f23]
    by_cases hlt : k < v.items.length
    · simp only [Int.ofNat_lt, hlt, decide_true, if_true]
      rw [e76 v s k hv hs hlt]
      simp only [Option.bind_eq_bind, Option.bind_some]
      have hg := go hlt
      rw [up] at hg
      cases hme : meetsP v s k with
      | false =>
        rw [hme] at hg
        simp only [Bool.not_false, if_true, s1, wn (show k ≤ 1000000000000 by omega)]
        simpa using hg
      | true =>
        rw [hme] at hg
        simp only [Bool.not_true, Bool.false_eq_true, if_false, s2, wn (show k ≤ 1000000000000 by omega)]
        by_cases hb : backw s
        · have hb' : (s.kind == 3 && decide (s.stride < 0)) = true := hb
          rw [if_pos hb', room_ok (by have := hl2; simp <;> omega) (by have := hl2; simp <;> omega)]
          simpa [upb, hb] using hg
        · have hb' : ¬ (s.kind == 3 && decide (s.stride < 0)) = true := hb
          rw [if_neg hb', room_ok (by have := hl2; simp <;> omega) (by have := hl2; simp <;> omega)]
          simpa [upb, hb] using hg
    · have hke : k = v.items.length := by omega
      subst hke
      simp only [Int.lt_irrefl, decide_false, Bool.false_eq_true, if_false]
      rfl
theorem e23 (v : ApiValue) (s : ApiSelector) (hv : VOK v) (hs : -9223372036854775807 ≤ s.stride) : f23 (.e23 v s) = some (kids v s) := by
  have := e23_go v s hv hs _ 0 (by omega) rfl
  rw [f23]
  simpa [up, upb] using this
end Go.Proofs.YtonlbdholdaifaaGreatDoor
end
section
/- What a segment selects: both functions give the same list. -/
set_option linter.unusedVariables false
set_option linter.unusedSimpArgs false
namespace Go.Proofs.YtonlbdholdaifaaGreatDoor
open Go Go.Rf Go.Proofs
def cvn (n : Ref16Node) : EvalFound := ⟨n.value, n.steps⟩
theorem e114 (n : Ref16Node) (k : Nat) (hv : VOK n.value) (h : k < n.value.items.length) (hs : n.steps.length ≤ 1000000) : f114 (.e114 (cvn n) k) = some (cvn (itemP n k)) := by
  have k0 : ∀ a b c, f114 (.l114_0 (k : Int) a b c 0 0 0 [] (cvn n)) = some ⟨n.value.items[k], n.steps ++ [⟨a, b, c⟩]⟩ := fun a b c => by
    rw [f114]
    simp only [cvn]
    rw [ix h, room_ok (by simp; omega) (by simp; omega)]
    simp [need]
  rw [f114]
  simp only [k0]
  simp only [cvn, itemP, stepP]
  by_cases h5 : n.value.kind = 5
  · have hn := hv.same h5
    have hk : k < n.value.names.length := by omega
    simp [h5, ix hk, nm, List.getElem?_eq_getElem hk, List.getElem?_eq_getElem h]
  · simp [h5, List.getElem?_eq_getElem h]
def sel1 (n : Ref16Node) (ss : List ApiSelector) : List Ref16Node := ss.flatMap fun s => (kids n.value s).map fun x => itemP n x.toNat
def selN : Nat → Ref16Node → ApiSegment → List Ref16Node
  | 0, _, _ => []
  | K + 1, n, seg => sel1 n seg.selectors ++ (if seg.deep then (List.range' 0 n.value.items.length).flatMap (fun k => selN K (itemP n k) seg) else [])
theorem sel1_length (n : Ref16Node) : ∀ ss : List ApiSelector, (sel1 n ss).length ≤ ss.length * n.value.items.length
  | [] => by simp [sel1]
  | s :: ss => by
    have h1 := sel1_length n ss
    have h2 := kids_length n.value s
    simp only [sel1, List.flatMap_cons, List.length_append, List.length_map, List.length_cons, Nat.add_mul] at *
    omega
section
variable (seg : ApiSegment) (hseg : SegP seg)
/-- The loop over a selector's children. -/
theorem l77_1 (sels : List ApiSelector) (a1 a2 : Int) (n : Ref16Node) (hv : VOK n.value) (hst : n.steps.length ≤ 1000000) (l : List Int) (hl : ∀ x, x ∈ l → ∃ j : Nat, x = j ∧ j < n.value.items.length) (hll : l.length ≤ 1000000) :
    ∀ (m j : Nat) (acc : List Ref16Node), j ≤ l.length → l.length - j = m → acc.length + m ≤ 20000000 →
    f77 (.l77_1 sels a1 a2 l (l.length : Int) (j : Int) acc seg n) = f77 (.l77_0 sels a1 (IntKind.wrap .i64 (a2 + 1)) (acc ++ (l.drop j).map fun x => itemP n x.toNat) seg n)
  | m, j, acc, hj, hm, hacc => by
    conv => lhs; rw [f77]
    by_cases h : j < l.length
    · obtain ⟨i, hi, hi'⟩ := hl _ (List.getElem_mem h)
      simp only [Int.ofNat_lt, h, decide_true, if_true]
      rw [ix h, hi]
      simp only [Option.bind_eq_bind, Option.bind_some]
      rw [e81 n i hv hi' hst]
      simp only [Option.bind_some]
      rw [room_ok (by simp; omega) (by simp; omega), wn (by omega)]
      simp only [Option.bind_some]
      match m with
      | 0 => omega
      | m + 1 =>
        rw [l77_1 sels a1 a2 n hv hst l hl hll m (j + 1) _ (by omega) (by omega) (by simp; omega), drop_at h, hi]
        simp
    · rw [List.drop_of_length_le (by omega)]
      simp [show ¬ ((j : Int) < l.length) by omega]
theorem l59_1 (sels : List ApiSelector) (a1 a2 : Int) (n : Ref16Node) (hv : VOK n.value) (hst : n.steps.length ≤ 1000000) (l : List Int) (hl : ∀ x, x ∈ l → ∃ j : Nat, x = j ∧ j < n.value.items.length) (hll : l.length ≤ 1000000) :
    ∀ (m j : Nat) (acc : List EvalFound), j ≤ l.length → l.length - j = m → acc.length + m ≤ 20000000 →
    f59 (.l59_1 sels a1 a2 l (l.length : Int) (j : Int) seg acc (cvn n)) = f59 (.l59_0 sels a1 (IntKind.wrap .i64 (a2 + 1)) seg (acc ++ ((l.drop j).map fun x => itemP n x.toNat).map cvn) (cvn n))
  | m, j, acc, hj, hm, hacc => by
    conv => lhs; rw [f59]
    by_cases h : j < l.length
    · obtain ⟨i, hi, hi'⟩ := hl _ (List.getElem_mem h)
      simp only [Int.ofNat_lt, h, decide_true, if_true]
      rw [ix h, hi]
      simp only [Option.bind_eq_bind, Option.bind_some]
      rw [e114 n i hv hi' hst]
      simp only [Option.bind_some]
      rw [room_ok (by simp; omega) (by simp; omega), wn (by omega)]
      simp only [Option.bind_some]
      match m with
      | 0 => omega
      | m + 1 =>
        rw [l59_1 sels a1 a2 n hv hst l hl hll m (j + 1) _ (by omega) (by omega) (by simp; omega), drop_at h, hi]
        simp
    · rw [List.drop_of_length_le (by omega)]
      simp [show ¬ ((j : Int) < l.length) by omega]
theorem sel1_cons (n : Ref16Node) (s : ApiSelector) (ss : List ApiSelector) : sel1 n (s :: ss) = (kids n.value s).map (fun x => itemP n x.toNat) ++ sel1 n ss := by simp [sel1]
include hseg in
/-- The loop over the selectors. -/
theorem l77_0 (n : Ref16Node) (hv : VOK n.value) (hst : n.steps.length ≤ 1000000) : ∀ (m i : Nat) (acc : List Ref16Node), i ≤ seg.selectors.length → seg.selectors.length - i = m → acc.length + m * n.value.items.length ≤ 20000000 →
    f77 (.l77_0 seg.selectors (seg.selectors.length : Int) (i : Int) acc seg n) = f77 (.l77_0 seg.selectors (seg.selectors.length : Int) (seg.selectors.length : Int) (acc ++ sel1 n (seg.selectors.drop i)) seg n)
  | m, i, acc, hi, hm, hacc => by
    have h8 := hseg.few
    have hvf := hv.few
    by_cases h : i < seg.selectors.length
    · have hmem : seg.selectors[i] ∈ seg.selectors := List.getElem_mem h
      have hkl := kids_length n.value seg.selectors[i]
      conv => lhs; rw [f77]
      simp only [Int.ofNat_lt, h, decide_true, if_true]
      rw [ix h]
      simp only [Option.bind_eq_bind, Option.bind_some]
      rw [e23 _ _ hv (hseg.str _ hmem)]
      simp only [Option.bind_some]
      match m with
      | 0 => omega
      | m + 1 =>
        rw [Nat.add_mul] at hacc
        have := l77_1 seg seg.selectors (seg.selectors.length : Int) (i : Int) n hv hst (kids n.value seg.selectors[i]) (kids_mem _ _) (by omega) _ 0 acc (by omega) rfl (by omega)
        rw [show ((0 : Nat) : Int) = (0 : Int) from rfl] at this
        rw [this, wn (by omega), l77_0 n hv hst m (i + 1) _ (by omega) (by omega) (by simp; omega), drop_at h, sel1_cons]
        simp
    · have : i = seg.selectors.length := by omega
      subst this
      simp [sel1]
include hseg in
theorem l59_0 (n : Ref16Node) (hv : VOK n.value) (hst : n.steps.length ≤ 1000000) : ∀ (m i : Nat) (acc : List EvalFound), i ≤ seg.selectors.length → seg.selectors.length - i = m → acc.length + m * n.value.items.length ≤ 20000000 →
    f59 (.l59_0 seg.selectors (seg.selectors.length : Int) (i : Int) seg acc (cvn n)) = f59 (.l59_0 seg.selectors (seg.selectors.length : Int) (seg.selectors.length : Int) seg (acc ++ (sel1 n (seg.selectors.drop i)).map cvn) (cvn n))
  | m, i, acc, hi, hm, hacc => by
    have h8 := hseg.few
    have hvf := hv.few
    by_cases h : i < seg.selectors.length
    · have hmem : seg.selectors[i] ∈ seg.selectors := List.getElem_mem h
      have hkl := kids_length n.value seg.selectors[i]
      conv => lhs; rw [f59]
      simp only [Int.ofNat_lt, h, decide_true, if_true]
      rw [ix h]
      simp only [Option.bind_eq_bind, Option.bind_some]
      rw [show (cvn n).value = n.value from rfl, e22 _ _ hv]
      simp only [Option.bind_some]
      match m with
      | 0 => omega
      | m + 1 =>
        rw [Nat.add_mul] at hacc
        have := l59_1 seg seg.selectors (seg.selectors.length : Int) (i : Int) n hv hst (kids n.value seg.selectors[i]) (kids_mem _ _) (by omega) _ 0 acc (by omega) rfl (by omega)
        rw [show ((0 : Nat) : Int) = (0 : Int) from rfl] at this
        rw [this, wn (by omega), l59_0 n hv hst m (i + 1) _ (by omega) (by omega) (by simp; omega), drop_at h, sel1_cons]
        simp
    · have : i = seg.selectors.length := by omega
      subst this
      simp [sel1]
/-- What a node's selection is known to be. -/
structure SelOK (K : Nat) (lo hi : Int) (n : Ref16Node) : Prop where
  ref : f77 (.e77 n seg) = some (selN K n seg)
  few : ((selN K n seg).length : Int) ≤ 8 * (hi - lo - 1)
  ok : ∀ x, x ∈ selN K n seg → ∃ l m, NodeOK l m x
  own : ∀ acc : List EvalFound, (acc.length : Int) + 8 * (hi - lo - 1) ≤ 10000000 → f59 (.e59 (cvn n) acc seg) = some (acc ++ (selN K n seg).map cvn)
/-- The loop over the items. -/
theorem deep_go (K : Nat) (n : Ref16Node) (lo hi : Int) (hn : NodeOK lo hi n) (hd : seg.deep = true) (ih : ∀ (l m : Int) (x : Ref16Node), NodeOK l m x → m - l ≤ K → SelOK seg K l m x) (hK : hi - lo ≤ K + 1) :
    ∀ (c k : Nat) (l : Int), k ≤ n.value.items.length → n.value.items.length - k = c → lo + 1 ≤ l → l ≤ hi → WFl l hi (n.value.items.drop k) →
    ∃ r, r = (List.range' k c).flatMap (fun k => selN K (itemP n k) seg) ∧ (r.length : Int) + 8 * c ≤ 8 * (hi - l) ∧ (∀ x, x ∈ r → ∃ l m, NodeOK l m x) ∧
      (∀ acc : List Ref16Node, (acc.length : Int) + 8 * (hi - l) - 8 * c ≤ 10000000 → f77 (.l77_2 (n.value.items.length : Int) (k : Int) acc seg n) = some (acc ++ r)) ∧
      (∀ acc : List EvalFound, (acc.length : Int) + 8 * (hi - l) - 8 * c ≤ 10000000 → f59 (.l59_2 (n.value.items.length : Int) (k : Int) seg acc (cvn n)) = some (acc ++ r.map cvn))
  | 0, k, l, hk, hc, hl, hlh, hw => by
    refine ⟨_, rfl, by simp; omega, by simp, fun acc _ => ?_, fun acc _ => ?_⟩
    · rw [f77]
      simp [show ¬ ((k : Int) < n.value.items.length) by omega]
    · rw [f59]
      simp [show ¬ ((k : Int) < n.value.items.length) by omega]
  | c + 1, k, l, hk, hc, hl, hlh, hw => by
    have h : k < n.value.items.length := by omega
    have hv := hn.vok
    have hst : n.steps.length ≤ 1000000 := by
      have := hn.few
      have := hn.hi1
      have := hn.wf.lt
      omega
    have hvf := hv.few
    rw [drop_at h] at hw
    cases hw with
    | @cons _ m _ _ _ hx ht hm =>
      have hlt := hx.lt
      have htl := ht.length hm
      simp only [List.length_drop] at htl
      have hok : NodeOK l m (itemP n k) := hn.item h hl hm hx
      obtain ⟨s1, s2, s3, s4⟩ := ih l m _ hok (by omega)
      obtain ⟨r, hr, r1, r2, r3, r4⟩ := deep_go K n lo hi hn hd ih hK c (k + 1) m (by omega) (by omega) (by omega) hm ht
      refine ⟨selN K (itemP n k) seg ++ r, by rw [hr, List.range'_succ, List.flatMap_cons], by simp; omega, fun x hx => ?_, fun acc ha => ?_, fun acc ha => ?_⟩
      · rcases List.mem_append.1 hx with hx | hx
        · exact s3 x hx
        · exact r2 x hx
      · rw [f77]
        simp only [Int.ofNat_lt, h, decide_true, if_true, Option.bind_eq_bind]
        rw [e81 n k hv h hst]
        simp only [Option.bind_some]
        rw [s1]
        simp only [Option.bind_some]
        rw [room_ok (by omega) (by omega), wn (by omega)]
        simp only [Option.bind_some]
        rw [r3 _ (by simp; omega)]
        simp
      · rw [f59]
        simp only [Int.ofNat_lt, h, decide_true, if_true, Option.bind_eq_bind, hd, Bool.not_true, Bool.false_eq_true, if_false]
        rw [e114 n k hv h hst]
        simp only [Option.bind_some]
        rw [s4 _ (by omega), wn (by omega)]
        simp only [Option.bind_some]
        rw [r4 _ (by simp; omega)]
        simp
include hseg in
theorem sel_main : ∀ (K : Nat) (lo hi : Int) (n : Ref16Node), NodeOK lo hi n → hi - lo ≤ K → SelOK seg K lo hi n
  | 0, lo, hi, n, hn, hK => by
    have := hn.wf.lt
    omega
  | K + 1, lo, hi, n, hn, hK => by
    have hv := hn.vok
    have hvf := hv.few
    have hst : n.steps.length ≤ 1000000 := by
      have := hn.few
      have := hn.hi1
      have := hn.wf.lt
      omega
    have h8 := hseg.few
    obtain ⟨w1, w2, w3, w4⟩ := hn.wf.items
    have hil := w1.length (by omega)
    have h0 := hn.lo0
    have h1 := hn.hi1
    have hs1 := sel1_length n seg.selectors
    have hs2 : seg.selectors.length * n.value.items.length ≤ 8 * n.value.items.length := Nat.mul_le_mul_right _ h8
    have hs3 : ∀ x, x ∈ sel1 n seg.selectors → ∃ l m, NodeOK l m x := by
      intro x hx
      simp only [sel1, List.mem_flatMap, List.mem_map] at hx
      obtain ⟨s, _, y, hy, rfl⟩ := hx
      obtain ⟨j, rfl, hj⟩ := kids_mem _ _ _ hy
      exact hn.item' hj
    have a1 := l77_0 seg hseg n hv hst _ 0 [] (by omega) rfl (by simp; omega)
    rw [show ((0 : Nat) : Int) = (0 : Int) from rfl] at a1
    have a2 := fun (acc : List EvalFound) (h : (acc.length : Int) + 8 * (hi - lo - 1) ≤ 10000000) => l59_0 seg hseg n hv hst _ 0 acc (by omega) rfl (by simp; omega)
    rw [show ((0 : Nat) : Int) = (0 : Int) from rfl] at a2
    simp only [List.drop_zero, List.nil_append] at a1 a2
    have i1 : f77 (.e77 n seg) = f77 (.l77_0 seg.selectors (seg.selectors.length : Int) 0 [] seg n) := by
      conv => lhs; rw [f77]
    have i2 : ∀ acc, f59 (.e59 (cvn n) acc seg) = f59 (.l59_0 seg.selectors (seg.selectors.length : Int) 0 seg acc (cvn n)) := fun acc => by
      conv => lhs; rw [f59]
    have b1 : ∀ acc, f77 (.l77_0 seg.selectors (seg.selectors.length : Int) (seg.selectors.length : Int) acc seg n) = if seg.deep = true then f77 (.l77_2 (n.value.items.length : Int) 0 acc seg n) else some acc := fun acc => by
      have : ∀ acc, f77 (.l77_3 acc) = some acc := fun acc => by rw [f77]
      conv => lhs; rw [f77]
      simp [this]
    have b2 : ∀ acc, f59 (.l59_0 seg.selectors (seg.selectors.length : Int) (seg.selectors.length : Int) seg acc (cvn n)) = f59 (.l59_2 (n.value.items.length : Int) 0 seg acc (cvn n)) := fun acc => by
      conv => lhs; rw [f59]
      simp [cvn]
    cases hd : seg.deep with
    | false =>
      have hsel : selN (K + 1) n seg = sel1 n seg.selectors := by simp [selN, hd]
      refine ⟨?_, by rw [hsel]; omega, by rw [hsel]; exact hs3, fun acc ha => ?_⟩
      · rw [i1, a1, b1, hd, hsel]
        simp
      · rw [i2, a2 acc ha, b2, hsel, f59]
        by_cases hz : 0 < n.value.items.length
        · simp [hd]
        · simp [hd]
    | true =>
      obtain ⟨r, hr, r1, r2, r3, r4⟩ := deep_go seg K n lo hi hn hd (sel_main K) (by omega) _ 0 (n.value.frm + 1) (by omega) rfl (by omega) (by omega) (by simpa using w1)
      rw [show ((0 : Nat) : Int) = (0 : Int) from rfl] at r3 r4
      simp only [Nat.sub_zero] at r1 hr
      have hsel : selN (K + 1) n seg = sel1 n seg.selectors ++ r := by simp [selN, hd, hr]
      refine ⟨?_, by rw [hsel]; simp; omega, fun x hx => ?_, fun acc ha => ?_⟩
      · rw [i1, a1, b1, hd, hsel, if_pos rfl, r3 _ (by omega)]
      · rw [hsel] at hx
        rcases List.mem_append.1 hx with hx | hx
        · exact hs3 x hx
        · exact r2 x hx
      · rw [i2, a2 acc ha, b2, hsel, r4 _ (by simp; omega)]
        simp
end
end Go.Proofs.YtonlbdholdaifaaGreatDoor
end
section
/- EvalRows holds of every text and every query. -/
set_option linter.unusedVariables false
set_option linter.unusedSimpArgs false
namespace Go.Proofs.YtonlbdholdaifaaGreatDoor
open Go Go.Rf Go.Proofs
abbrev OkNode (n : Ref16Node) : Prop := ∃ lo hi, NodeOK lo hi n
theorem OkNode.sel {n : Ref16Node} (h : OkNode n) (seg : ApiSegment) (hseg : SegP seg) : ∃ r, f77 (.e77 n seg) = some r ∧ r.length ≤ 800000 ∧ (∀ x, x ∈ r → OkNode x) ∧ ∀ acc : List EvalFound, acc.length ≤ 1000000 → f59 (.e59 (cvn n) acc seg) = some (acc ++ r.map cvn) := by
  obtain ⟨lo, hi, hn⟩ := h
  have := hn.lo0
  have := hn.hi1
  obtain ⟨a, b, c, d⟩ := sel_main seg hseg 100000 lo hi n hn (by omega)
  exact ⟨_, a, by omega, c, fun acc h => d acc (by omega)⟩
theorem OkNode.few {n : Ref16Node} (h : OkNode n) : n.steps.length ≤ 1000000 := by
  obtain ⟨lo, hi, hn⟩ := h
  have := hn.few
  have := hn.hi1
  have := hn.wf.lt
  omega
section
variable (q : List ApiSegment) (hq : q.length ≤ 1000000) (hqs : ∀ s, s ∈ q → SegP s)
/-- The loop over the nodes that one segment is asked of. -/
theorem row_1 (seg : ApiSegment) (hseg : SegP seg) (i : Nat) (nodes : List Ref16Node) (hn : ∀ x, x ∈ nodes → OkNode x) (hnl : nodes.length ≤ 2000) : ∀ (m j : Nat) (acc : List Ref16Node), j ≤ nodes.length → nodes.length - j = m → acc.length ≤ 2000 → (∀ x, x ∈ acc → OkNode x) →
    f24 (.l24_1 2000 q (q.length : Int) (i : Int) nodes (nodes.length : Int) (j : Int) acc seg) = some ([], false) ∨
    ∃ acc', acc'.length ≤ 2000 ∧ (∀ x, x ∈ acc' → OkNode x) ∧ f24 (.l24_1 2000 q (q.length : Int) (i : Int) nodes (nodes.length : Int) (j : Int) acc seg) = f24 (.l24_0 2000 acc' q (q.length : Int) (IntKind.wrap .i64 ((i : Int) + 1))) ∧
      f78 (.l78_1 q (q.length : Int) (i : Int) (nodes.map cvn) (nodes.length : Int) (j : Int) seg (acc.map cvn)) = f78 (.l78_0 (acc'.map cvn) q (q.length : Int) (IntKind.wrap .i64 ((i : Int) + 1)))
  | m, j, acc, hj, hm, hacc, hok => by
    by_cases h : j < nodes.length
    · obtain ⟨r, r1, r2, r3, r4⟩ := (hn _ (List.getElem_mem h)).sel seg hseg
      have e1 : f24 (.l24_1 2000 q (q.length : Int) (i : Int) nodes (nodes.length : Int) (j : Int) acc seg) = if (decide ((2000 : Int) < ((acc ++ r).length : Int))) = true then some ([], false) else f24 (.l24_1 2000 q (q.length : Int) (i : Int) nodes (nodes.length : Int) ((j + 1 : Nat) : Int) (acc ++ r) seg) := by
        conv => lhs; rw [f24]
        simp only [Int.ofNat_lt, h, decide_true, if_true]
        rw [ix h]
        simp only [Option.bind_eq_bind, Option.bind_some]
        rw [r1]
        simp only [Option.bind_some]
        rw [room_ok (by omega) (by omega), wn (by omega)]
        simp only [Option.bind_some]
      have e2 : f78 (.l78_1 q (q.length : Int) (i : Int) (nodes.map cvn) (nodes.length : Int) (j : Int) seg (acc.map cvn)) = f78 (.l78_1 q (q.length : Int) (i : Int) (nodes.map cvn) (nodes.length : Int) ((j + 1 : Nat) : Int) seg ((acc ++ r).map cvn)) := by
        conv => lhs; rw [f78]
        simp only [Int.ofNat_lt, h, decide_true, if_true]
        rw [ix (by simpa using h)]
        simp only [Option.bind_eq_bind, Option.bind_some, List.getElem_map]
        rw [r4 _ (by simp; omega), wn (by omega)]
        simp only [Option.bind_some, List.map_append]
      rw [e1, e2]
      by_cases hlim : (2000 : Int) < ((acc ++ r).length : Int)
      · left
        simp only [hlim, decide_true, if_true]
      · simp only [hlim, decide_false, Bool.false_eq_true, if_false]
        match m with
        | 0 => omega
        | m + 1 => exact row_1 seg hseg i nodes hn hnl m (j + 1) (acc ++ r) (by omega) (by omega) (by omega) (fun x hx => (List.mem_append.1 hx).elim (hok x) (r3 x))
    · right
      refine ⟨acc, hacc, hok, ?_, ?_⟩
      · conv => lhs; rw [f24]
        simp [show ¬ ((j : Int) < nodes.length) by omega]
      · conv => lhs; rw [f78]
        simp [show ¬ ((j : Int) < nodes.length) by omega]
include hq hqs in
theorem row_0 : ∀ (m i : Nat) (nodes : List Ref16Node), i ≤ q.length → q.length - i = m → nodes.length ≤ 2000 → (∀ x, x ∈ nodes → OkNode x) →
    f24 (.l24_0 2000 nodes q (q.length : Int) (i : Int)) = some ([], false) ∨
    ∃ r, r.length ≤ 2000 ∧ (∀ x, x ∈ r → OkNode x) ∧ f24 (.l24_0 2000 nodes q (q.length : Int) (i : Int)) = some (r, true) ∧ f78 (.l78_0 (nodes.map cvn) q (q.length : Int) (i : Int)) = some (r.map cvn)
  | m, i, nodes, hi, hm, hnl, hok => by
    by_cases h : i < q.length
    · have hseg := hqs _ (List.getElem_mem h)
      have e1 : f24 (.l24_0 2000 nodes q (q.length : Int) (i : Int)) = f24 (.l24_1 2000 q (q.length : Int) (i : Int) nodes (nodes.length : Int) ((0 : Nat) : Int) [] q[i]) := by
        conv => lhs; rw [f24]
        simp only [Int.ofNat_lt, h, decide_true, if_true]
        rw [ix h]
        rfl
      have e2 : f78 (.l78_0 (nodes.map cvn) q (q.length : Int) (i : Int)) = f78 (.l78_1 q (q.length : Int) (i : Int) (nodes.map cvn) (nodes.length : Int) ((0 : Nat) : Int) q[i] (([] : List Ref16Node).map cvn)) := by
        conv => lhs; rw [f78]
        simp only [Int.ofNat_lt, h, decide_true, if_true]
        rw [ix h, List.length_map]
        rfl
      rw [e1, e2]
      match m with
      | 0 => omega
      | m + 1 =>
        rcases row_1 q _ hseg i nodes hok hnl _ 0 [] (by omega) rfl (by simp) (by simp) with h1 | ⟨acc', a1, a2, a3, a4⟩
        · exact .inl h1
        · rw [a3, a4, wn (by omega)]
          exact row_0 m (i + 1) acc' (by omega) (by omega) a1 a2
    · right
      refine ⟨nodes, hnl, hok, ?_, ?_⟩
      · rw [f24]
        simp [show ¬ ((i : Int) < q.length) by omega]
      · rw [f78]
        simp [show ¬ ((i : Int) < q.length) by omega]
end
def evn (n : Ref16Node) : EvalNode := ⟨n.steps, n.value.frm, n.value.to⟩
theorem e65 (s : List ApiStep) (h : s.length ≤ 1000000) : f65 (.e65 s) = some s := by
  rw [f65, room_ok (by simp; omega) (by simp; omega)]
  simp
theorem row25 (r : List Ref16Node) (hr : r.length ≤ 2000) (hok : ∀ x, x ∈ r → OkNode x) : ∀ (m j : Nat), j ≤ r.length → r.length - j = m → f25 (.l25_0 (r.map cvn) (r.length : Int) (j : Int) ((r.take j).map evn)) = some (r.map evn)
  | m, j, hj, hm => by
    rw [f25]
    by_cases h : j < r.length
    · simp only [Int.ofNat_lt, h, decide_true, if_true]
      rw [ix (by simpa using h)]
      simp only [Option.bind_eq_bind, Option.bind_some, List.getElem_map]
      rw [show (cvn r[j]).steps = r[j].steps from rfl, e65 _ (hok _ (List.getElem_mem h)).few]
      simp only [Option.bind_some]
      rw [room_ok (by simp; omega) (by simp; omega), wn (by omega)]
      simp only [Option.bind_some]
      match m with
      | 0 => omega
      | m + 1 =>
        have := row25 r hr hok m (j + 1) (by omega) (by omega)
        rw [List.take_succ_eq_append_getElem h, List.map_append] at this
        exact this
    · have : j = r.length := by omega
      subst this
      simp
theorem e44 (s : List ApiStep) (hs : s.length ≤ 1000000) : f44 (.e44 s s) = some true := by
  have go : ∀ (m j : Nat), j ≤ s.length → s.length - j = m → f44 (.l44_0 s s (s.length : Int) (j : Int)) = some true := by
    intro m
    induction m with
    | zero =>
      intro j h1 h2
      rw [f44]
      simp [show ¬ ((j : Int) < s.length) by omega]
    | succ m ih =>
      intro j h1 h2
      have h : j < s.length := by omega
      rw [f44]
      simp only [Int.ofNat_lt, h, decide_true, if_true]
      rw [ix h, wn (by omega)]
      simpa using ih (j + 1) (by omega) (by omega)
  rw [f44]
  simpa using go _ 0 (by omega) rfl
theorem e16 (r : List Ref16Node) (hr : r.length ≤ 2000) (hok : ∀ x, x ∈ r → OkNode x) : f16 (.e16 (r.map evn) r) = some true := by
  have go : ∀ (m j : Nat), j ≤ r.length → r.length - j = m → f16 (.l16_0 (r.map evn) r (r.length : Int) (j : Int)) = some true := by
    intro m
    induction m with
    | zero =>
      intro j h1 h2
      rw [f16]
      simp [show ¬ ((j : Int) < r.length) by omega]
    | succ m ih =>
      intro j h1 h2
      have h : j < r.length := by omega
      rw [f16]
      simp only [Int.ofNat_lt, h, decide_true, if_true]
      rw [ix h, ix (by simpa using h), wn (by omega)]
      have := e44 r[j].steps (hok _ (List.getElem_mem h)).few
      simpa [evn, gd, this] using ih (j + 1) (by omega) (by omega)
  rw [f16]
  simpa using go _ 0 (by omega) rfl
theorem e15 (v : ApiValue) (q : List ApiSegment) (hq : q.length ≤ 1000000) (hqs : ∀ s, s ∈ q → SegP s) (hv : WFv 0 400 v) : f24 (.e24 v q 2000) = some ([], false) ∨ ∃ r, r.length ≤ 2000 ∧ (∀ x, x ∈ r → OkNode x) ∧ f24 (.e24 v q 2000) = some (r, true) ∧ f25 (.e25 v q) = some (r.map evn) := by
  have h0 : OkNode ⟨v, []⟩ := ⟨0, 400, hv, by omega, by omega, by simp⟩
  have e1 : f24 (.e24 v q 2000) = f24 (.l24_0 2000 [⟨v, []⟩] q (q.length : Int) ((0 : Nat) : Int)) := by
    conv => lhs; rw [f24]
    rfl
  rw [e1]
  rcases row_0 q hq hqs _ 0 [⟨v, []⟩] (by omega) rfl (by simp) (by simpa using h0) with h | ⟨r, a1, a2, a3, a4⟩
  · exact .inl h
  · refine .inr ⟨r, a1, a2, a3, ?_⟩
    have e2 : f78 (.e78 v q) = some (r.map cvn) := by
      rw [f78]
      exact a4
    rw [f25, e2]
    simp only [Option.bind_eq_bind, Option.bind_some, List.length_map]
    exact row25 r a1 a2 _ 0 (by omega) rfl
end Go.Proofs.YtonlbdholdaifaaGreatDoor
end
section
/- The queries that Right lets by. -/
set_option linter.unusedVariables false
set_option linter.unusedSimpArgs false
namespace Go.Proofs.YtonlbdholdaifaaGreatDoor
open Go Go.Rf Go.Proofs
theorem reach_eq : reachBytes = 140737488351232 := by decide
theorem t124_0 (s : List UInt8) (hs : Small s) : ∀ (m j k : Nat), j ≤ s.length → s.length - j = m → k ≤ j → Tot (f124 (.l124_0 s (k : Int) (j : Int))) fun _ => True
  | m, j, k, hj, hm, hk => by
    have hs' : s.length ≤ 140737488355328 := hs
    rw [f124]
    refine tif (fun h => ?_) fun h => tif (fun _ => ts trivial) fun _ => ts trivial
    simp at h
    have w : IntKind.wrap .i64 ((j : Int) + 1) = ((j + 1 : Nat) : Int) := by
      rw [wi (by omega) (by omega)]
      rfl
    rw [w]
    refine tneed (by omega) (tb (t176 _ (by simp [Small]; omega)) fun r _ => tif (fun _ => ts trivial) fun _ => ?_)
    match m with
    | 0 => omega
    | m + 1 =>
      refine tif (fun _ => ?_) fun _ => ?_
      · rw [f124, w]
        exact t124_0 s hs m (j + 1) (j + 1) (by omega) (by omega) (by omega)
      · rw [f124, w]
        exact t124_0 s hs m (j + 1) k (by omega) (by omega) (by omega)
theorem t124 (s : List UInt8) (hs : Small s) : Tot (f124 (.e124 s)) fun _ => True := by
  rw [f124]
  exact t124_0 s hs _ 0 0 (by omega) rfl (by omega)
theorem t168 (x : Int) : Tot (f168 (.e168 x)) fun b => b = true → -9007199254740991 ≤ x ∧ x ≤ 9007199254740991 := by
  rw [f168]
  exact ts (by simp; omega)
theorem t113 (s : ApiSelector) (hs : selOK s) : Tot (f113 (.e113 s)) fun b => b = true → -9223372036854775807 ≤ s.stride := by
  rw [f113]
  refine tif (fun _ => ts (by simp)) fun _ => tif (fun _ => ts (by simp)) fun _ => tif (fun _ => ts (by simp)) fun _ => tif (fun _ => ts (by simp)) fun _ => ?_
  refine tb (t168 _) fun b1 _ => tgd (P := fun _ => True) (fun _ => (t168 _).mono fun _ _ => trivial) fun b2 _ _ => tgd (P := fun _ => True) (fun _ => (t168 _).mono fun _ _ => trivial) fun b3 _ _ => tgd (fun _ => t168 _) fun b4 h4 h4' => tgd (P := fun _ => True) (fun _ => t124 _ (by have := hs.2.1; rw [reach_eq] at this; simp [Small]; omega)) fun b5 _ _ => ts ?_
  intro h
  simp only [Bool.and_eq_true] at h
  have := (h4 (by simp [h.1.1])).2 h.1.2
  omega
/-- The queries that Right lets by. -/
def RightQ (q : List ApiSegment) : Prop := ∀ s, s ∈ q → ∀ x, x ∈ s.selectors → -9223372036854775807 ≤ x.stride
theorem t58_1 (q : List ApiSegment) (i : Int) (ss : List ApiSelector) (hss : ss.length ≤ reachBytes) (hok : ∀ x, x ∈ ss → selOK x) (Q : Bool → Prop) (hf : Q false) (hnext : (∀ x, x ∈ ss → -9223372036854775807 ≤ x.stride) → Tot (f58 (.l58_0 q (q.length : Int) (IntKind.wrap .i64 (i + 1)))) Q) :
    ∀ (m j : Nat), j ≤ ss.length → ss.length - j = m → (∀ x, x ∈ ss.take j → -9223372036854775807 ≤ x.stride) → Tot (f58 (.l58_1 q (q.length : Int) i ss (ss.length : Int) (j : Int))) Q
  | m, j, hj, hm, hx => by
    rw [reach_eq] at hss
    rw [f58]
    by_cases h : j < ss.length
    · simp only [Int.ofNat_lt, h, decide_true, if_true]
      rw [ix h]
      simp only [Option.bind_eq_bind, Option.bind_some]
      refine tb (t113 _ (hok _ (List.getElem_mem h))) fun b hb => tif (fun _ => ts hf) fun hb' => ?_
      have w : IntKind.wrap .i64 ((j : Int) + 1) = ((j + 1 : Nat) : Int) := by
        rw [wi (by omega) (by omega)]
        rfl
      rw [w]
      match m with
      | 0 => omega
      | m + 1 =>
        refine t58_1 q i ss (by rw [reach_eq]; omega) hok Q hf hnext m (j + 1) (by omega) (by omega) fun x hx' => ?_
        rw [List.take_succ_eq_append_getElem h] at hx'
        rcases List.mem_append.1 hx' with hx' | hx'
        · exact hx x hx'
        · rw [List.mem_singleton.1 hx']
          exact hb (by simpa using hb')
    · simp only [Int.ofNat_lt, h, decide_false, Bool.false_eq_true, if_false]
      refine hnext fun x hx' => hx x ?_
      rw [List.take_of_length_le (by omega)]
      exact hx'
theorem t58_0 (q : List ApiSegment) (hq : queryOK q) : ∀ (m i : Nat), i ≤ q.length → q.length - i = m → RightQ (q.take i) → Tot (f58 (.l58_0 q (q.length : Int) (i : Int))) fun b => b = true → RightQ q
  | m, i, hi, hm, hr => by
    have hql := hq.1
    rw [reach_eq] at hql
    rw [f58]
    by_cases h : i < q.length
    · have hs := hq.2 _ (List.getElem_mem h)
      simp only [Int.ofNat_lt, h, decide_true, if_true]
      rw [ix h]
      simp only [Option.bind_eq_bind, Option.bind_some]
      refine tif (fun _ => ts (by simp)) fun _ => ?_
      refine t58_1 q i q[i].selectors hs.1 hs.2 _ (by simp) (fun hx => ?_) _ 0 (by omega) rfl (by simp)
      have w : IntKind.wrap .i64 ((i : Int) + 1) = ((i + 1 : Nat) : Int) := by
        rw [wi (by omega) (by omega)]
        rfl
      rw [w]
      match m with
      | 0 => omega
      | m + 1 =>
        refine t58_0 q hq m (i + 1) (by omega) (by omega) fun s hs x hx' => ?_
        rw [List.take_succ_eq_append_getElem h] at hs
        rcases List.mem_append.1 hs with hs | hs
        · exact hr s hs x hx'
        · rw [List.mem_singleton.1 hs] at hx'
          exact hx x hx'
    · simp only [Int.ofNat_lt, h, decide_false, Bool.false_eq_true, if_false]
      refine ts fun _ => ?_
      rw [List.take_of_length_le (by omega)] at hr
      exact hr
theorem t58 (q : List ApiSegment) (hq : queryOK q) : Tot (f58 (.e58 q)) fun b => b = true → RightQ q := by
  rw [f58]
  exact t58_0 q hq _ 0 (by omega) rfl (fun s hs => by simp at hs)
end Go.Proofs.YtonlbdholdaifaaGreatDoor
end
section
/- EvalRows holds of every text and every query. -/
set_option linter.unusedVariables false
set_option linter.unusedSimpArgs false
namespace Go.Proofs.YtonlbdholdaifaaGreatDoor
open Go Go.Rf Go.Proofs
theorem t57 (s : List UInt8) (hs : s.length ≤ 100000000000) (left : Int) (hl : left ≤ 9223372036854775806) : Tot (f57 (.e57 s left)) fun r => r.2.kind = 1 → WFv 0 s.length r.1 := by
  rw [f57]
  refine tb (t28 s hs left true hl) fun r hr => ?_
  refine tif (fun h => ts fun h' => ?_) fun h => ts fun h' => hr.1 (hr.2 h')
  simp at h
  exact absurd h' h
/-- Given: what it lets by. -/
structure GivenOK (b : List UInt8) (q : List ApiSegment) (v : ApiValue) : Prop where
  wf : WFv 0 400 v
  few : q.length ≤ 8
  seg : ∀ s, s ∈ q → SegP s
theorem t15_0 (b : List UInt8) (hb : b.length ≤ 400) (q : List ApiSegment) (hq : q.length ≤ 8) (hr : RightQ q) : ∀ (m i : Nat), i ≤ q.length → q.length - i = m → (∀ s, s ∈ q.take i → s.selectors.length ≤ 8) →
    Tot (f15 (.l15_0 b q (q.length : Int) (i : Int) 0 0 0 [])) fun r => r.2 = true → GivenOK b q r.1
  | m, i, hi, hm, hx => by
    rw [f15]
    by_cases h : i < q.length
    · simp only [Int.ofNat_lt, h, decide_true, if_true]
      rw [ix h]
      simp only [Option.bind_eq_bind, Option.bind_some]
      refine tif (fun _ => ts (by simp)) fun h8 => ?_
      simp at h8
      rw [wn (by omega)]
      match m with
      | 0 => omega
      | m + 1 =>
        refine t15_0 b hb q hq hr m (i + 1) (by omega) (by omega) fun s hs => ?_
        rw [List.take_succ_eq_append_getElem h] at hs
        rcases List.mem_append.1 hs with hs | hs
        · exact hx s hs
        · rw [List.mem_singleton.1 hs]
          omega
    · simp only [Int.ofNat_lt, h, decide_false, Bool.false_eq_true, if_false]
      rw [List.take_of_length_le (by omega)] at hx
      refine tb (t57 b (by omega) 40 (by omega)) fun r hv => ts fun hk => ?_
      exact ⟨(hv (by simpa using hk)).mono (Int.le_refl _) (by omega), hq, fun s hs => ⟨hx s hs, hr s hs⟩⟩
theorem t15 (b : List UInt8) (q : List ApiSegment) (hq : queryOK q) : Tot (f15 (.e15 b q)) fun r => r.2 = true → GivenOK b q r.1 := by
  rw [f15]
  refine tgd (fun _ => t58 q hq) fun y hy hy' => ?_
  refine tif (fun _ => ts (by simp)) fun h => ?_
  simp at h
  obtain ⟨⟨h1, h2⟩, h3⟩ := h
  have := (hy (by simp; omega)).2 h3
  exact t15_0 b (by omega) q (by omega) this _ 0 (by omega) rfl (by simp)
section
variable (b : List UInt8) (q : List ApiSegment) (v : ApiValue) (hg : GivenOK b q v)
include hg
theorem given_vok : VOK v := by
  obtain ⟨h1, h2, h3, h4⟩ := hg.wf.items
  have := h1.length (by omega)
  exact ⟨by omega, h4⟩
omit hg in
theorem l5_2 (l : List Int) (hl : l.length ≤ 1000000) (i : Int) (ss : List ApiSelector) (j : Int) : ∀ (m k : Nat), k ≤ l.length → l.length - k = m →
    f5 (.l5_2 q l l q (q.length : Int) i ss (ss.length : Int) j (l.length : Int) (k : Int) v) = f5 (.l5_1 q q (q.length : Int) i ss (ss.length : Int) (IntKind.wrap .i64 (j + 1)) v)
  | m, k, hk, hm => by
    conv => lhs; rw [f5]
    by_cases h : k < l.length
    · simp only [Int.ofNat_lt, h, decide_true, if_true]
      rw [ix h, wn (by omega)]
      match m with
      | 0 => omega
      | m + 1 => simpa using l5_2 l hl i ss j m (k + 1) (by omega) (by omega)
    · simp [show ¬ ((k : Int) < l.length) by omega]
theorem l5_1 (i : Nat) (ss : List ApiSelector) (hs : ∀ x, x ∈ ss → -9223372036854775807 ≤ x.stride) (hss : ss.length ≤ 8) : ∀ (m j : Nat), j ≤ ss.length → ss.length - j = m →
    f5 (.l5_1 q q (q.length : Int) (i : Int) ss (ss.length : Int) (j : Int) v) = f5 (.l5_0 q q (q.length : Int) (IntKind.wrap .i64 ((i : Int) + 1)) v)
  | m, j, hj, hm => by
    have hv := given_vok b q v hg
    have hvf := hv.few
    conv => lhs; rw [f5]
    by_cases h : j < ss.length
    · simp only [Int.ofNat_lt, h, decide_true, if_true]
      rw [ix h]
      simp only [Option.bind_eq_bind, Option.bind_some]
      have hkl := kids_length v ss[j]
      rw [e22 v _ hv, e23 v _ hv (hs _ (List.getElem_mem h))]
      simp only [Option.bind_some, bne_self_eq_false, Bool.false_eq_true, if_false]
      have := l5_2 q v (kids v ss[j]) (by omega) (i : Int) ss (j : Int) _ 0 (by omega) rfl
      rw [show ((0 : Nat) : Int) = (0 : Int) from rfl] at this
      rw [this, wn (by omega)]
      match m with
      | 0 => omega
      | m + 1 => exact l5_1 i ss hs hss m (j + 1) (by omega) (by omega)
    · simp [show ¬ ((j : Int) < ss.length) by omega]
theorem l5_0 : ∀ (m i : Nat), i ≤ q.length → q.length - i = m → f5 (.l5_0 q q (q.length : Int) (i : Int) v) = some true
  | m, i, hi, hm => by
    have hq := hg.few
    rw [f5]
    by_cases h : i < q.length
    · simp only [Int.ofNat_lt, h, decide_true, if_true]
      rw [ix h]
      simp only [Option.bind_eq_bind, Option.bind_some]
      have hsg := hg.seg _ (List.getElem_mem h)
      have := l5_1 b q v hg i q[i].selectors hsg.str hsg.few _ 0 (by omega) rfl
      rw [show ((0 : Nat) : Int) = (0 : Int) from rfl] at this
      rw [this, wn (by omega)]
      match m with
      | 0 => omega
      | m + 1 => exact l5_0 m (i + 1) (by omega) (by omega)
    · simp only [Int.ofNat_lt, h, decide_false, Bool.false_eq_true, if_false]
      rcases e15 v q (by omega) hg.seg hg.wf with h1 | ⟨r, a1, a2, a3, a4⟩
      · rw [h1]
        simp [gd]
      · rw [a3, a4]
        simp [gd, e16 r a1 a2]
end
theorem alive14 : f14 .e14 = some true := by cbv
/-- EvalRows answers true. -/
theorem pure5 (b : List UInt8) (q : List ApiSegment) (hb : bytesOK b) (hq : queryOK q) : f5 (.e5 b q) = some true := by
  rw [f5, alive14]
  obtain ⟨r, h1, h2⟩ := t15 b q hq
  simp only [Option.bind_eq_bind, Option.bind_some, Bool.not_true, Bool.false_eq_true, if_false]
  rw [h1]
  simp only [Option.bind_some]
  cases h : r.2 with
  | false => simp
  | true =>
    simp only [Bool.not_true, Bool.false_eq_true, if_false]
    exact l5_0 b q r.1 (h2 h) _ 0 (by omega) rfl
end Go.Proofs.YtonlbdholdaifaaGreatDoor
end
