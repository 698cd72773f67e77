import Derived.Test.YtonlbdholdaifaaGreatDoorProg
import Derived.Test.YtonlbdholdaifaaGreatDoorRfp4
import Derived.Test.YtonlbdholdaifaaGreatDoorRg6p1
import Derived.Test.YtonlbdholdaifaaGreatDoorRg6p5
section
set_option linter.unusedVariables false
set_option linter.unusedSimpArgs false
set_option maxRecDepth 10000
namespace Go.Proofs.YtonlbdholdaifaaGreatDoor
open Go Go.Rf Go.Proofs
/-- internal/strconv.Atoi -/
noncomputable abbrev b265 : Code := codeOf Tryz.f265
inductive L265 where
 | e265 (a0 : List UInt8)
 | l265_0 (a0 : List UInt8) (a1 : List UInt8)
 | l265_1 (a0 : List UInt8) (a1 : Int) (a2 : List UInt8) (a3 : Int) (a4 : Int)
 | l265_2 (a0 : Int)
noncomputable def f265 : L265 → Option (Int × Unit)
 | .e265 a0 =>
  if ((false && ((decide ((0 : Int) < (a0.length : Int))) && (decide ((a0.length : Int) < (10 : Int))))) || (true && ((decide ((0 : Int) < (a0.length : Int))) && (decide ((a0.length : Int) < (19 : Int)))))) = true then
   idx a0 (0 : Int) >>= fun v1 =>
   gd (!((v1.toNat : Int) == (45 : Int))) (idx a0 (0 : Int)) >>= fun v2 =>
   if (((v1.toNat : Int) == (45 : Int)) || ((v2.toNat : Int) == (43 : Int))) = true then
    need (0 ≤ (1 : Int) ∧ (1 : Int) ≤ (a0.length : Int)) >>= fun v3 =>
    if (decide (((a0.drop (1 : Int).toNat).length : Int) < (1 : Int))) = true then
     none
    else
     f265 (.l265_0 (a0.drop (1 : Int).toNat) a0)
   else
    f265 (.l265_0 a0 a0)
  else
   none
 | .l265_0 a0 a1 =>
  f265 (.l265_1 a1 (0 : Int) a0 (a0.length : Int) (0 : Int))
 | .l265_1 a0 a1 a2 a3 a4 =>
  if (decide (a4 < a3)) = true then
   idx a2 a4 >>= fun v4 =>
   if (decide ((9 : Int) < (IntKind.wrap .u8 ((v4.toNat : Int) - (48 : Int))))) = true then
    none
   else
    f265 (.l265_1 a0 (IntKind.wrap .i64 ((IntKind.wrap .i64 (a1 * (10 : Int))) + (IntKind.wrap .i64 (IntKind.wrap .u8 ((v4.toNat : Int) - (48 : Int)))))) a2 a3 (IntKind.wrap .i64 (a4 + (1 : Int))))
  else
   idx a0 (0 : Int) >>= fun v5 =>
   if ((v5.toNat : Int) == (45 : Int)) = true then
    f265 (.l265_2 (IntKind.wrap .i64 (0 - a1)))
   else
    f265 (.l265_2 a1)
 | .l265_2 a0 =>
  some (a0, ())
 partial_fixpoint
def M265 : L265 → (Int × Unit) → Prop
 | .e265 a0, r => ∀ (w : World) (F : Nat → Prop) (ρ : Rho), AK Tryz.prog (ctx GG 77 w F ρ []) 265 [.code b265] (argE 0 [.str a0]) [] (fun z _ => z = .tup [.int .i64 r.1, .nili])
 | .l265_0 a0 a1, r => ∀ (w : World) (F : Nat → Prop) (ρ : Rho), AK Tryz.prog (ctx GG 77 w F ρ []) 265 [.code (c2 (c2 (c1 (c2 (c1 (c2 (c2 b265))))))), .code (c2 (c2 (c2 b265)))] [(0, .str a0), (5, .str a1)] [] (fun z _ => z = .tup [.int .i64 r.1, .nili])
 | .l265_1 a0 a1 a2 a3 a4, r => ∀ (w : World) (F : Nat → Prop) (ρ : Rho), AK Tryz.prog (ctx GG 77 w F ρ []) 265 [.code (c1 (c1 (c2 (c1 (c2 (c2 (c2 (c1 (c2 (c1 (c2 (c2 b265)))))))))))), .inLoop (c1 (c1 (c2 (c1 (c2 (c2 (c2 (c1 (c2 (c1 (c2 (c2 b265)))))))))))), .inBlock 0, .code (c2 (c2 (c2 (c2 (c1 (c2 (c1 (c2 (c2 b265))))))))), .code (c2 (c2 (c2 b265)))] [(5, .str a0), (6, .int .i64 a1), (47, .sl Ty.u8 a2), (48, .int .i64 a3), (49, .int .i64 a4)] [] (fun z _ => z = .tup [.int .i64 r.1, .nili])
 | .l265_2 a0, r => ∀ (w : World) (F : Nat → Prop) (ρ : Rho), AK Tryz.prog (ctx GG 77 w F ρ []) 265 [.code (c2 (c2 (c2 (c2 (c2 (c1 (c2 (c1 (c2 (c2 b265)))))))))), .code (c2 (c2 (c2 b265)))] [(6, .int .i64 a0)] [] (fun z _ => z = .tup [.int .i64 r.1, .nili])
theorem w265 : ∀ (l : L265) (r : Int × Unit), f265 l = some r → M265 l r := f265.partial_correctness M265 (by
 intro f ih l r h
 cases l with
 | e265 a0 =>
  intro w F ρ
  dsimp only at h
  refine ak_seq ?_
  refine ak_regionS (.cons rfl (ok_assign (dlt rfl rfl) rfl rfl) (.cons rfl (ok_assign (dlt rfl rfl) rfl rfl) (.nil ?_)))
  refine ak_seq ?_
  refine ak_regionS (.cons rfl (ok_move (dlt rfl rfl) rfl rfl) (.cons rfl (ok_lenT (s := a0) (dlt rfl rfl) rfl Tryz.underlying9 rfl) (.cons rfl (ok_assign (dlt rfl rfl) rfl rfl) (.nil ?_))))
  refine ak_seq ?_
  refine ak_seq ?_
  refine ak_regionS (.cons rfl (ok_move (dlt rfl rfl) rfl rfl) (.consG (pre := []) (dlt rfl rfl) rfl rfl rfl rfl .nil (fun he => ok_move (dlt rfl rfl) rfl rfl) (.consG (pre := [(14, .int .i64 (a0.length : Int))]) (dlt rfl rfl) rfl rfl rfl rfl (.cons rfl (fun he => he) .nil) (fun he => ok_lss (dlt rfl rfl) rfl rfl rfl) (.consG (pre := [(15, .bool (decide ((0 : Int) < (a0.length : Int))))]) (dlt rfl rfl) rfl rfl rfl rfl (.cons rfl (fun he => he) .nil) (fun he => ok_move (dlt rfl rfl) rfl rfl) (.consG (pre := []) (dlt rfl rfl) rfl rfl rfl rfl .nil (fun he => ok_move (dlt rfl rfl) rfl rfl) (.consG (pre := [(17, .int .i64 (a0.length : Int))]) (dlt rfl rfl) rfl rfl rfl rfl (.cons rfl (fun he => he) .nil) (fun he => ok_lss (dlt rfl rfl) rfl rfl rfl) (.consG (pre := [(16, .bool (decide ((0 : Int) < (a0.length : Int))))]) (dlt rfl rfl) rfl rfl rfl rfl (.cons rfl (fun he => he) .nil) (fun he => ok_andW (dlt rfl rfl) rfl rfl rfl (fun h => band_i he h)) (.cons rfl (ok_andW (dlt rfl rfl) rfl rfl rfl (fun h => h)) (.cons rfl (ok_move (dlt rfl rfl) rfl rfl) (.consG (pre := []) (dlt rfl rfl) rfl rfl rfl rfl .nil (fun he => ok_move (dlt rfl rfl) rfl rfl) (.consG (pre := []) (dlt rfl rfl) rfl rfl rfl rfl .nil (fun he => ok_move (dlt rfl rfl) rfl rfl) (.consG (pre := [(23, .int .i64 (a0.length : Int))]) (dlt rfl rfl) rfl rfl rfl rfl (.cons rfl (fun he => he) .nil) (fun he => ok_lss (dlt rfl rfl) rfl rfl rfl) (.consG (pre := [(24, .bool (decide ((0 : Int) < (a0.length : Int))))]) (dlt rfl rfl) rfl rfl rfl rfl (.cons rfl (fun he => he) .nil) (fun he => ok_move (dlt rfl rfl) rfl rfl) (.consG (pre := []) (dlt rfl rfl) rfl rfl rfl rfl .nil (fun he => ok_move (dlt rfl rfl) rfl rfl) (.consG (pre := [(26, .int .i64 (a0.length : Int))]) (dlt rfl rfl) rfl rfl rfl rfl (.cons rfl (fun he => he) .nil) (fun he => ok_lss (dlt rfl rfl) rfl rfl rfl) (.consG (pre := [(25, .bool (decide ((0 : Int) < (a0.length : Int))))]) (dlt rfl rfl) rfl rfl rfl rfl (.cons rfl (fun he => he) .nil) (fun he => ok_andW (dlt rfl rfl) rfl rfl rfl (fun h => band_i he h)) (.consG (pre := [(22, .bool true)]) (dlt rfl rfl) rfl rfl rfl rfl (.cons rfl (fun he => he) .nil) (fun he => ok_andW (dlt rfl rfl) rfl rfl rfl (fun h => band_i he h)) (.cons rfl (ok_orW (dlt rfl rfl) rfl rfl rfl (fun h => (bnot_t h))) (.nil ?_)))))))))))))))))))
  refine ak_cond rfl (fun ht => ?_) (fun ht => ?_)
  ·have h := cond_t ht h
   refine ak_seq ?_
   refine ak_regionS (.cons rfl (ok_move (dlt rfl rfl) rfl rfl) (.cons rfl (ok_assign (dlt rfl rfl) rfl rfl) (.nil ?_)))
   refine ak_seq ?_
   refine ak_seq ?_
   obtain ⟨v1, hv1, h⟩ := bind_of h
   obtain ⟨v2, hv2, h⟩ := bind_of h
   refine ak_regionS (.cons rfl (ok_move (dlt rfl rfl) rfl rfl) (.cons rfl (ok_byte (s := a0) (c := v1) (dlt rfl rfl) rfl Tryz.underlying9 rfl rfl (idx_0 hv1) (idx_1 hv1)) (.cons rfl (ok_eql (dlt rfl rfl) rfl rfl rfl) (.cons rfl (ok_move (dlt rfl rfl) rfl rfl) (.consG (pre := []) (dlt rfl rfl) rfl rfl rfl rfl .nil (fun he => ok_move (dlt rfl rfl) rfl rfl) (.consG (pre := [(36, .str a0)]) (dlt rfl rfl) rfl rfl rfl rfl (.cons rfl (fun he => he) .nil) (fun he => ok_byte (s := a0) (c := v2) (dlt rfl rfl) rfl Tryz.underlying9 rfl rfl (idx_0 (gd_t hv2 he)) (idx_1 (gd_t hv2 he))) (.consG (pre := [(37, .int .u8 (v2.toNat : Int))]) (dlt rfl rfl) rfl rfl rfl rfl (.cons rfl (fun he => he) .nil) (fun he => ok_eql (dlt rfl rfl) rfl rfl rfl) (.cons rfl (ok_orW (dlt rfl rfl) rfl rfl rfl (fun h => (bnot_t h))) (.nil ?_)))))))))
   refine ak_cond rfl (fun ht => ?_) (fun ht => ?_)
   ·have h := cond_t ht h
    refine ak_seq ?_
    obtain ⟨v3, hv3, h⟩ := bind_of h
    refine ak_regionS (.cons rfl (ok_move (dlt rfl rfl) rfl rfl) (.cons rfl (ok_cutL (dlt rfl rfl) rfl Tryz.underlying9 rfl rfl (need_of hv3).1 (need_of hv3).2) (.cons rfl (ok_assign (dlt rfl rfl) rfl rfl) (.nil ?_))))
    refine ak_seq ?_
    refine ak_regionS (.cons rfl (ok_move (dlt rfl rfl) rfl rfl) (.cons rfl (ok_lenT (s := a0.drop (1 : Int).toNat) (dlt rfl rfl) rfl Tryz.underlying9 rfl) (.cons rfl (ok_lss (dlt rfl rfl) rfl rfl rfl) (.nil ?_))))
    refine ak_cond rfl (fun ht => ?_) (fun ht => ?_)
    ·have h := cond_t ht h
     exact no_of h
    ·have h := cond_f ht h
     refine ak_skip ?_
     exact ak_conv (.cons rfl (.refl _) (.cons rfl (.refl _) (.nil _))) (.nil _) (ih _ _ h w F ρ)
   ·have h := cond_f ht h
    refine ak_skip ?_
    exact ak_conv (.cons rfl (.refl _) (.cons rfl (.refl _) (.nil _))) (.nil _) (ih _ _ h w F ρ)
  ·have h := cond_f ht h
   exact no_of h
 | l265_0 a0 a1 =>
  intro w F ρ
  dsimp only at h
  refine ak_seq ?_
  refine ak_regionS (.cons rfl (ok_assign (dlt rfl rfl) rfl rfl) (.nil ?_))
  refine ak_seq ?_
  refine ak_seq ?_
  refine ak_regionS (.cons rfl (ok_move (dlt rfl rfl) rfl rfl) (.cons rfl (ok_strB (τ := Ty.u8) (xs := a0) (dlt rfl rfl) (fun x => x) rfl Tryz.underlying9 Tryz.underlying22 Tryz.underlying5 (fun _ => rfl) rfl (map_idf _) rfl) (.cons rfl (ok_lenS (τ := Ty.u8) (xs := a0) (dlt rfl rfl) rfl Tryz.underlying22 rfl) (.cons rfl (ok_move (dlt rfl rfl) rfl rfl) (.nil ?_)))))
  refine ak_block ?_
  refine ak_loop ?_
  exact ak_conv (.cons rfl (.refl _) (.cons rfl (.refl _) (.cons rfl (.refl _) (.cons rfl (.refl _) (.cons rfl (.refl _) (.nil _)))))) (.nil _) (ih _ _ h w F ρ)
 | l265_1 a0 a1 a2 a3 a4 =>
  intro w F ρ
  dsimp only at h
  refine ak_seq ?_
  refine ak_regionS (.cons rfl (ok_lss (dlt rfl rfl) rfl rfl rfl) (.nil ?_))
  refine ak_seq ?_
  refine ak_cond rfl (fun ht => ?_) (fun ht => ?_)
  ·have h := cond_t ht h
   refine ak_skip ?_
   refine ak_seq ?_
   refine ak_block ?_
   refine ak_seq ?_
   obtain ⟨v4, hv4, h⟩ := bind_of h
   refine ak_regionS (.cons rfl (ok_indexS (τ := Ty.u8) (x := v4) (dlt rfl rfl) rfl Tryz.underlying22 ty5 rfl rfl rfl (idx_0 hv4) (idx_1 hv4)) (.cons rfl (ok_loadR (dlt rfl rfl) rfl ty5 rfl rfl) (.cons rfl (ok_assign (dlt rfl rfl) rfl rfl) (.nil ?_))))
   refine ak_seq ?_
   refine ak_regionS (.cons rfl (ok_move (dlt rfl rfl) rfl rfl) (.cons rfl (ok_sub (dlt rfl rfl) rfl rfl rfl) (.cons rfl (ok_assign (dlt rfl rfl) rfl rfl) (.nil ?_))))
   refine ak_seq ?_
   refine ak_seq ?_
   refine ak_regionS (.cons rfl (ok_move (dlt rfl rfl) rfl rfl) (.cons rfl (ok_gtr (dlt rfl rfl) rfl rfl rfl) (.nil ?_)))
   refine ak_cond rfl (fun ht => ?_) (fun ht => ?_)
   ·have h := cond_t ht h
    exact no_of h
   ·have h := cond_f ht h
    refine ak_skip ?_
    refine ak_regionS (.cons rfl (ok_move (dlt rfl rfl) rfl rfl) (.cons rfl (ok_mul (dlt rfl rfl) rfl rfl rfl) (.cons rfl (ok_move (dlt rfl rfl) rfl rfl) (.cons rfl (ok_conv (dlt rfl rfl) rfl Tryz.underlying5 Tryz.underlying3 rfl) (.cons rfl (ok_add (dlt rfl rfl) rfl rfl rfl) (.cons rfl (ok_assign (dlt rfl rfl) rfl rfl) (.nil ?_)))))))
    refine ak_inBlock ?_
    refine ak_regionS (.cons rfl (ok_add (dlt rfl rfl) rfl rfl rfl) (.cons rfl (ok_move (dlt rfl rfl) rfl rfl) (.nil ?_)))
    refine ak_inLoop ?_
    exact ak_conv (.cons rfl (.refl _) (.cons rfl (.refl _) (.cons rfl (.refl _) (.cons rfl (.refl _) (.cons rfl (.refl _) (.nil _)))))) (.nil _) (ih _ _ h w F ρ)
  ·have h := cond_f ht h
   refine ak_exit rfl ?_
   refine ak_seq ?_
   refine ak_seq ?_
   obtain ⟨v5, hv5, h⟩ := bind_of h
   refine ak_regionS (.cons rfl (ok_move (dlt rfl rfl) rfl rfl) (.cons rfl (ok_byte (s := a0) (c := v5) (dlt rfl rfl) rfl Tryz.underlying9 rfl rfl (idx_0 hv5) (idx_1 hv5)) (.cons rfl (ok_eql (dlt rfl rfl) rfl rfl rfl) (.nil ?_))))
   refine ak_cond rfl (fun ht => ?_) (fun ht => ?_)
   ·have h := cond_t ht h
    refine ak_regionS (.cons rfl (ok_move (dlt rfl rfl) rfl rfl) (.cons rfl (ok_neg (dlt rfl rfl) rfl rfl) (.cons rfl (ok_assign (dlt rfl rfl) rfl rfl) (.nil ?_))))
    exact ak_conv (.cons rfl (.refl _) (.nil _)) (.nil _) (ih _ _ h w F ρ)
   ·have h := cond_f ht h
    refine ak_skip ?_
    exact ak_conv (.cons rfl (.refl _) (.nil _)) (.nil _) (ih _ _ h w F ρ)
 | l265_2 a0 =>
  intro w F ρ
  dsimp only at h
  refine ak_seq ?_
  refine ak_regionS (.cons rfl (ok_move (dlt rfl rfl) rfl rfl) (.cons rfl (ok_assign (dlt rfl rfl) rfl rfl) (.cons rfl (ok_assign (dlt rfl rfl) rfl rfl) (.nil ?_))))
  obtain rfl := Option.some.inj h
  refine ak_conv (Γ' := [(2, .int .i64 a0), (3, .nili)]) (σ' := []) (.cons rfl (.refl _) (.cons rfl (.refl _) (.nil _))) (.nil _) ?_
  exact ak_ret (fn := Tryz.f265) Tryz.func265 rfl trivial rfl)
theorem d265 {a0 : List UInt8} {r : Int × Unit} (h : f265 (.e265 a0) = some r) : Does Tryz.prog GG 265 [.str a0] [] (fun z _ => z = .tup [.int .i64 r.1, .nili]) := fn_of (fn := Tryz.f265) Tryz.func265 rfl Tryz.ntmps265 rfl (w265 _ _ h)
/-- internal/stringslite.Clone -/
noncomputable abbrev b273 : Code := codeOf Tryz.f273
inductive L273 where
 | e273 (a0 : List UInt8)
noncomputable def f273 : L273 → Option (List UInt8)
 | .e273 a0 =>
  none
def M273 : L273 → (List UInt8) → Prop
 | .e273 a0, r => ∀ (w : World) (F : Nat → Prop) (ρ : Rho), AK Tryz.prog (ctx GG 18 w F ρ []) 273 [.code b273] (argE 0 [.str a0]) [] (fun z _ => z = .str r)
theorem w273 : ∀ (l : L273) (r : List UInt8), f273 l = some r → M273 l r := (by
 intro l r h
 cases l with
 | e273 a0 =>
  intro w F ρ
  dsimp only [f273] at h
  exact no_of h)
theorem d273 {a0 : List UInt8} {r : List UInt8} (h : f273 (.e273 a0) = some r) : Does Tryz.prog GG 273 [.str a0] [] (fun z _ => z = .str r) := fn_of (fn := Tryz.f273) Tryz.func273 rfl Tryz.ntmps273 rfl (w273 _ _ h)
/-- internal/strconv.small -/
noncomputable abbrev b240 : Code := codeOf Tryz.f240
inductive L240 where
 | e240 (a0 : Int)
noncomputable def f240 : L240 → Option (List UInt8)
 | .e240 a0 =>
  none
def M240 : L240 → (List UInt8) → Prop
 | .e240 a0, r => ∀ (w : World) (F : Nat → Prop) (ρ : Rho), AK Tryz.prog (ctx GG 15 w F ρ []) 240 [.code b240] (argE 0 [.int .i64 a0]) [] (fun z _ => z = .str r)
theorem w240 : ∀ (l : L240) (r : List UInt8), f240 l = some r → M240 l r := (by
 intro l r h
 cases l with
 | e240 a0 =>
  intro w F ρ
  dsimp only [f240] at h
  exact no_of h)
theorem d240 {a0 : Int} {r : List UInt8} (h : f240 (.e240 a0) = some r) : Does Tryz.prog GG 240 [.int .i64 a0] [] (fun z _ => z = .str r) := fn_of (fn := Tryz.f240) Tryz.func240 rfl Tryz.ntmps240 rfl (w240 _ _ h)
/-- math/bits.Len64 -/
noncomputable abbrev b253 : Code := codeOf Tryz.f253
inductive L253 where
 | e253 (a0 : Int)
noncomputable def f253 : L253 → Option Int
 | .e253 a0 =>
  none
def M253 : L253 → Int → Prop
 | .e253 a0, r => ∀ (w : World) (F : Nat → Prop) (ρ : Rho), AK Tryz.prog (ctx GG 25 w F ρ []) 253 [.code b253] (argE 0 [.int .u64 a0]) [] (fun z _ => z = .int .i64 r)
theorem w253 : ∀ (l : L253) (r : Int), f253 l = some r → M253 l r := (by
 intro l r h
 cases l with
 | e253 a0 =>
  intro w F ρ
  dsimp only [f253] at h
  exact no_of h)
theorem d253 {a0 : Int} {r : Int} (h : f253 (.e253 a0) = some r) : Does Tryz.prog GG 253 [.int .u64 a0] [] (fun z _ => z = .int .i64 r) := fn_of (fn := Tryz.f253) Tryz.func253 rfl Tryz.ntmps253 rfl (w253 _ _ h)
/-- internal/strconv.log10Pow2 -/
noncomputable abbrev b252 : Code := codeOf Tryz.f252
inductive L252 where
 | e252 (a0 : Int)
noncomputable def f252 : L252 → Option Int
 | .e252 a0 =>
  none
def M252 : L252 → Int → Prop
 | .e252 a0, r => ∀ (w : World) (F : Nat → Prop) (ρ : Rho), AK Tryz.prog (ctx GG 6 w F ρ []) 252 [.code b252] (argE 0 [.int .i64 a0]) [] (fun z _ => z = .int .i64 r)
theorem w252 : ∀ (l : L252) (r : Int), f252 l = some r → M252 l r := (by
 intro l r h
 cases l with
 | e252 a0 =>
  intro w F ρ
  dsimp only [f252] at h
  exact no_of h)
theorem d252 {a0 : Int} {r : Int} (h : f252 (.e252 a0) = some r) : Does Tryz.prog GG 252 [.int .i64 a0] [] (fun z _ => z = .int .i64 r) := fn_of (fn := Tryz.f252) Tryz.func252 rfl Tryz.ntmps252 rfl (w252 _ _ h)
/-- internal/strconv.bool2[int] -/
noncomputable abbrev b254 : Code := codeOf Tryz.f254
inductive L254 where
 | e254 (a0 : Bool)
noncomputable def f254 : L254 → Option Int
 | .e254 a0 =>
  none
def M254 : L254 → Int → Prop
 | .e254 a0, r => ∀ (w : World) (F : Nat → Prop) (ρ : Rho), AK Tryz.prog (ctx GG 4 w F ρ []) 254 [.code b254] (argE 0 [.bool a0]) [] (fun z _ => z = .int .i64 r)
theorem w254 : ∀ (l : L254) (r : Int), f254 l = some r → M254 l r := (by
 intro l r h
 cases l with
 | e254 a0 =>
  intro w F ρ
  dsimp only [f254] at h
  exact no_of h)
theorem d254 {a0 : Bool} {r : Int} (h : f254 (.e254 a0) = some r) : Does Tryz.prog GG 254 [.bool a0] [] (fun z _ => z = .int .i64 r) := fn_of (fn := Tryz.f254) Tryz.func254 rfl Tryz.ntmps254 rfl (w254 _ _ h)
/-- internal/strconv.numDigits -/
noncomputable abbrev b241 : Code := codeOf Tryz.f241
inductive L241 where
 | e241 (a0 : Int)
noncomputable def f241 : L241 → Option Int
 | .e241 a0 =>
  none
def M241 : L241 → Int → Prop
 | .e241 a0, r => ∀ (w : World) (F : Nat → Prop) (ρ : Rho), AK Tryz.prog (ctx GG 15 w F ρ []) 241 [.code b241] (argE 0 [.int .u64 a0]) [] (fun z _ => z = .int .i64 r)
theorem w241 : ∀ (l : L241) (r : Int), f241 l = some r → M241 l r := (by
 intro l r h
 cases l with
 | e241 a0 =>
  intro w F ρ
  dsimp only [f241] at h
  exact no_of h)
theorem d241 {a0 : Int} {r : Int} (h : f241 (.e241 a0) = some r) : Does Tryz.prog GG 241 [.int .u64 a0] [] (fun z _ => z = .int .i64 r) := fn_of (fn := Tryz.f241) Tryz.func241 rfl Tryz.ntmps241 rfl (w241 _ _ h)
/-- internal/strconv.formatBase10 -/
noncomputable abbrev b242 : Code := codeOf Tryz.f242
inductive L242 where
 | e242 (a0 : List UInt8) (a1 : Int)
noncomputable def f242 : L242 → Option (List UInt8)
 | .e242 a0 a1 =>
  none
def M242 : L242 → (List UInt8) → Prop
 | .e242 a0 a1, r => ∀ (w : World) (F : Nat → Prop) (ρ : Rho), AK Tryz.prog (ctx GG 167 w F ρ [(10000, .arr 5 Ty.u8 a0)]) 242 [.code b242] (argE 0 [.mf 1 10000, .int .u64 a1]) [(10000, .arr 5 Ty.u8 a0)] (fun z σ' => z = .tup [] ∧ σ' = [(10000, .arr 5 Ty.u8 r)])
theorem w242 : ∀ (l : L242) (r : List UInt8), f242 l = some r → M242 l r := (by
 intro l r h
 cases l with
 | e242 a0 a1 =>
  intro w F ρ
  dsimp only [f242] at h
  exact no_of h)
theorem d242 {a0 : List UInt8} {a1 : Int} {r : List UInt8} (h : f242 (.e242 a0 a1) = some r) : Does Tryz.prog GG 242 [.mf 1 10000, .int .u64 a1] [(10000, .arr 5 Ty.u8 a0)] (fun z σ' => z = .tup [] ∧ σ' = [(10000, .arr 5 Ty.u8 r)]) := fn_of (fn := Tryz.f242) Tryz.func242 rfl Tryz.ntmps242 rfl (w242 _ _ h)
/-- internal/strconv.isPowerOfTwo -/
noncomputable abbrev b255 : Code := codeOf Tryz.f255
inductive L255 where
 | e255 (a0 : Int)
noncomputable def f255 : L255 → Option Bool
 | .e255 a0 =>
  none
def M255 : L255 → Bool → Prop
 | .e255 a0, r => ∀ (w : World) (F : Nat → Prop) (ρ : Rho), AK Tryz.prog (ctx GG 8 w F ρ []) 255 [.code b255] (argE 0 [.int .i64 a0]) [] (fun z _ => z = .bool r)
theorem w255 : ∀ (l : L255) (r : Bool), f255 l = some r → M255 l r := (by
 intro l r h
 cases l with
 | e255 a0 =>
  intro w F ρ
  dsimp only [f255] at h
  exact no_of h)
theorem d255 {a0 : Int} {r : Bool} (h : f255 (.e255 a0) = some r) : Does Tryz.prog GG 255 [.int .i64 a0] [] (fun z _ => z = .bool r) := fn_of (fn := Tryz.f255) Tryz.func255 rfl Tryz.ntmps255 rfl (w255 _ _ h)
/-- math/bits.TrailingZeros32 -/
noncomputable abbrev b263 : Code := codeOf Tryz.f263
inductive L263 where
 | e263 (a0 : Int)
noncomputable def f263 : L263 → Option Int
 | .e263 a0 =>
  none
def M263 : L263 → Int → Prop
 | .e263 a0, r => ∀ (w : World) (F : Nat → Prop) (ρ : Rho), AK Tryz.prog (ctx GG 14 w F ρ []) 263 [.code b263] (argE 0 [.int .u32 a0]) [] (fun z _ => z = .int .i64 r)
theorem w263 : ∀ (l : L263) (r : Int), f263 l = some r → M263 l r := (by
 intro l r h
 cases l with
 | e263 a0 =>
  intro w F ρ
  dsimp only [f263] at h
  exact no_of h)
theorem d263 {a0 : Int} {r : Int} (h : f263 (.e263 a0) = some r) : Does Tryz.prog GG 263 [.int .u32 a0] [] (fun z _ => z = .int .i64 r) := fn_of (fn := Tryz.f263) Tryz.func263 rfl Tryz.ntmps263 rfl (w263 _ _ h)
/-- math/bits.TrailingZeros64 -/
noncomputable abbrev b264 : Code := codeOf Tryz.f264
inductive L264 where
 | e264 (a0 : Int)
noncomputable def f264 : L264 → Option Int
 | .e264 a0 =>
  none
def M264 : L264 → Int → Prop
 | .e264 a0, r => ∀ (w : World) (F : Nat → Prop) (ρ : Rho), AK Tryz.prog (ctx GG 14 w F ρ []) 264 [.code b264] (argE 0 [.int .u64 a0]) [] (fun z _ => z = .int .i64 r)
theorem w264 : ∀ (l : L264) (r : Int), f264 l = some r → M264 l r := (by
 intro l r h
 cases l with
 | e264 a0 =>
  intro w F ρ
  dsimp only [f264] at h
  exact no_of h)
theorem d264 {a0 : Int} {r : Int} (h : f264 (.e264 a0) = some r) : Does Tryz.prog GG 264 [.int .u64 a0] [] (fun z _ => z = .int .i64 r) := fn_of (fn := Tryz.f264) Tryz.func264 rfl Tryz.ntmps264 rfl (w264 _ _ h)
/-- math/bits.TrailingZeros -/
noncomputable abbrev b256 : Code := codeOf Tryz.f256
inductive L256 where
 | e256 (a0 : Int)
noncomputable def f256 : L256 → Option Int
 | .e256 a0 =>
  none
def M256 : L256 → Int → Prop
 | .e256 a0, r => ∀ (w : World) (F : Nat → Prop) (ρ : Rho), AK Tryz.prog (ctx GG 8 w F ρ []) 256 [.code b256] (argE 0 [.int .u64 a0]) [] (fun z _ => z = .int .i64 r)
theorem w256 : ∀ (l : L256) (r : Int), f256 l = some r → M256 l r := (by
 intro l r h
 cases l with
 | e256 a0 =>
  intro w F ρ
  dsimp only [f256] at h
  exact no_of h)
theorem d256 {a0 : Int} {r : Int} (h : f256 (.e256 a0) = some r) : Does Tryz.prog GG 256 [.int .u64 a0] [] (fun z _ => z = .int .i64 r) := fn_of (fn := Tryz.f256) Tryz.func256 rfl Tryz.ntmps256 rfl (w256 _ _ h)
/-- internal/strconv.formatBits -/
noncomputable abbrev b243 : Code := codeOf Tryz.f243
inductive L243 where
 | e243 (a0 : List UInt8) (a1 : Int) (a2 : Int) (a3 : Bool) (a4 : Bool)
noncomputable def f243 : L243 → Option ((List UInt8) × (List UInt8))
 | .e243 a0 a1 a2 a3 a4 =>
  none
def M243 : L243 → ((List UInt8) × (List UInt8)) → Prop
 | .e243 a0 a1 a2 a3 a4, r => ∀ (w : World) (F : Nat → Prop) (ρ : Rho), AK Tryz.prog (ctx GG 102 w F ρ [(20000, .arr 5 Ty.u8 a0)]) 243 [.code b243] (argE 0 [.mf 1 20000, .int .u64 a1, .int .i64 a2, .bool a3, .bool a4]) [(20000, .arr 5 Ty.u8 a0)] (fun z σ' => z = .tup [.mf 1 30000, .str r.2] ∧ σ' = [(30000, .arr 5 Ty.u8 r.1)])
theorem w243 : ∀ (l : L243) (r : (List UInt8) × (List UInt8)), f243 l = some r → M243 l r := (by
 intro l r h
 cases l with
 | e243 a0 a1 a2 a3 a4 =>
  intro w F ρ
  dsimp only [f243] at h
  exact no_of h)
theorem d243 {a0 : List UInt8} {a1 : Int} {a2 : Int} {a3 : Bool} {a4 : Bool} {r : (List UInt8) × (List UInt8)} (h : f243 (.e243 a0 a1 a2 a3 a4) = some r) : Does Tryz.prog GG 243 [.mf 1 20000, .int .u64 a1, .int .i64 a2, .bool a3, .bool a4] [(20000, .arr 5 Ty.u8 a0)] (fun z σ' => z = .tup [.mf 1 30000, .str r.2] ∧ σ' = [(30000, .arr 5 Ty.u8 r.1)]) := fn_of (fn := Tryz.f243) Tryz.func243 rfl Tryz.ntmps243 rfl (w243 _ _ h)
/-- internal/strconv.FormatInt -/
noncomputable abbrev b219 : Code := codeOf Tryz.f219
inductive L219 where
 | e219 (a0 : Int) (a1 : Int)
noncomputable def f219 : L219 → Option (List UInt8)
 | .e219 a0 a1 =>
  none
def M219 : L219 → (List UInt8) → Prop
 | .e219 a0 a1, r => ∀ (w : World) (F : Nat → Prop) (ρ : Rho), AK Tryz.prog (ctx GG 54 w F ρ []) 219 [.code b219] (argE 0 [.int .i64 a0, .int .i64 a1]) [] (fun z _ => z = .str r)
theorem w219 : ∀ (l : L219) (r : List UInt8), f219 l = some r → M219 l r := (by
 intro l r h
 cases l with
 | e219 a0 a1 =>
  intro w F ρ
  dsimp only [f219] at h
  exact no_of h)
theorem d219 {a0 : Int} {a1 : Int} {r : List UInt8} (h : f219 (.e219 a0 a1) = some r) : Does Tryz.prog GG 219 [.int .i64 a0, .int .i64 a1] [] (fun z _ => z = .str r) := fn_of (fn := Tryz.f219) Tryz.func219 rfl Tryz.ntmps219 rfl (w219 _ _ h)
/-- internal/strconv.Itoa -/
noncomputable abbrev b195 : Code := codeOf Tryz.f195
inductive L195 where
 | e195 (a0 : Int)
noncomputable def f195 : L195 → Option (List UInt8)
 | .e195 a0 =>
  none
def M195 : L195 → (List UInt8) → Prop
 | .e195 a0, r => ∀ (w : World) (F : Nat → Prop) (ρ : Rho), AK Tryz.prog (ctx GG 5 w F ρ []) 195 [.code b195] (argE 0 [.int .i64 a0]) [] (fun z _ => z = .str r)
theorem w195 : ∀ (l : L195) (r : List UInt8), f195 l = some r → M195 l r := (by
 intro l r h
 cases l with
 | e195 a0 =>
  intro w F ρ
  dsimp only [f195] at h
  exact no_of h)
theorem d195 {a0 : Int} {r : List UInt8} (h : f195 (.e195 a0) = some r) : Does Tryz.prog GG 195 [.int .i64 a0] [] (fun z _ => z = .str r) := fn_of (fn := Tryz.f195) Tryz.func195 rfl Tryz.ntmps195 rfl (w195 _ _ h)
/-- strconv.Itoa -/
noncomputable abbrev b150 : Code := codeOf Tryz.f150
inductive L150 where
 | e150 (a0 : Int)
noncomputable def f150 : L150 → Option (List UInt8)
 | .e150 a0 =>
  none
def M150 : L150 → (List UInt8) → Prop
 | .e150 a0, r => ∀ (w : World) (F : Nat → Prop) (ρ : Rho), AK Tryz.prog (ctx GG 5 w F ρ []) 150 [.code b150] (argE 0 [.int .i64 a0]) [] (fun z _ => z = .str r)
theorem w150 : ∀ (l : L150) (r : List UInt8), f150 l = some r → M150 l r := (by
 intro l r h
 cases l with
 | e150 a0 =>
  intro w F ρ
  dsimp only [f150] at h
  exact no_of h)
theorem d150 {a0 : Int} {r : List UInt8} (h : f150 (.e150 a0) = some r) : Does Tryz.prog GG 150 [.int .i64 a0] [] (fun z _ => z = .str r) := fn_of (fn := Tryz.f150) Tryz.func150 rfl Tryz.ntmps150 rfl (w150 _ _ h)
/-- errors.New -/
noncomputable abbrev b274 : Code := codeOf Tryz.f274
inductive L274 where
 | e274 (a0 : List UInt8)
noncomputable def f274 : L274 → Option Unit
 | .e274 a0 =>
  none
def M274 : L274 → Unit → Prop
 | .e274 a0, r => ∀ (w : World) (F : Nat → Prop) (ρ : Rho), AK Tryz.prog (ctx GG 7 w F ρ []) 274 [.code b274] (argE 0 [.str a0]) [] (fun z _ => z = .nili)
theorem w274 : ∀ (l : L274) (r : Unit), f274 l = some r → M274 l r := (by
 intro l r h
 cases l with
 | e274 a0 =>
  intro w F ρ
  dsimp only [f274] at h
  exact no_of h)
theorem d274 {a0 : List UInt8} {r : Unit} (h : f274 (.e274 a0) = some r) : Does Tryz.prog GG 274 [.str a0] [] (fun z _ => z = .nili) := fn_of (fn := Tryz.f274) Tryz.func274 rfl Tryz.ntmps274 rfl (w274 _ _ h)
/-- strconv.toError -/
noncomputable abbrev b266 : Code := codeOf Tryz.f266
inductive L266 where
 | e266 (a0 : List UInt8) (a1 : List UInt8) (a2 : Int) (a3 : Int) (a4 : Unit)
noncomputable def f266 : L266 → Option Unit
 | .e266 a0 a1 a2 a3 a4 =>
  none
def M266 : L266 → Unit → Prop
 | .e266 a0 a1 a2 a3 a4, r => ∀ (w : World) (F : Nat → Prop) (ρ : Rho), AK Tryz.prog (ctx GG 43 w F ρ []) 266 [.code b266] (argE 0 [.str a0, .str a1, .int .i64 a2, .int .i64 a3, .nili]) [] (fun z _ => z = .nili)
theorem w266 : ∀ (l : L266) (r : Unit), f266 l = some r → M266 l r := (by
 intro l r h
 cases l with
 | e266 a0 a1 a2 a3 a4 =>
  intro w F ρ
  dsimp only [f266] at h
  exact no_of h)
theorem d266 {a0 : List UInt8} {a1 : List UInt8} {a2 : Int} {a3 : Int} {a4 : Unit} {r : Unit} (h : f266 (.e266 a0 a1 a2 a3 a4) = some r) : Does Tryz.prog GG 266 [.str a0, .str a1, .int .i64 a2, .int .i64 a3, .nili] [] (fun z _ => z = .nili) := fn_of (fn := Tryz.f266) Tryz.func266 rfl Tryz.ntmps266 rfl (w266 _ _ h)
/-- strconv.Atoi -/
noncomputable abbrev b262 : Code := codeOf Tryz.f262
inductive L262 where
 | e262 (a0 : List UInt8)
noncomputable def f262 : L262 → Option (Int × Unit)
 | .e262 a0 =>
  f265 (.e265 a0) >>= fun v1 =>
  if false = true then
   none
  else
   some (v1.1, ())
def M262 : L262 → (Int × Unit) → Prop
 | .e262 a0, r => ∀ (w : World) (F : Nat → Prop) (ρ : Rho), AK Tryz.prog (ctx GG 18 w F ρ []) 262 [.code b262] (argE 0 [.str a0]) [] (fun z _ => z = .tup [.int .i64 r.1, .nili])
theorem w262 : ∀ (l : L262) (r : Int × Unit), f262 l = some r → M262 l r := (by
 intro l r h
 cases l with
 | e262 a0 =>
  intro w F ρ
  dsimp only [f262] at h
  refine ak_seq ?_
  refine ak_regionS (.cons rfl (ok_assign (dlt rfl rfl) rfl rfl) (.cons rfl (ok_assign (dlt rfl rfl) rfl rfl) (.nil ?_)))
  refine ak_seq ?_
  obtain ⟨v1, hv1, h⟩ := bind_of h
  refine ak_regionS (.cons rfl (ok_move (dlt rfl rfl) rfl rfl) (.cons rfl (ok_call (xs := [.str a0]) (caps := []) (dlt rfl rfl) rfl rfl Tryz.func265 rfl rfl rfl (d265 hv1) rfl) (.cons rfl (ok_move (dlt rfl rfl) rfl rfl) (.cons rfl (ok_extract (dlt rfl rfl) rfl rfl rfl) (.cons rfl (ok_extract (dlt rfl rfl) rfl rfl rfl) (.cons rfl (ok_assign (dlt rfl rfl) rfl rfl) (.cons rfl (ok_assign (dlt rfl rfl) rfl rfl) (.nil ?_))))))))
  refine ak_seq ?_
  refine ak_seq ?_
  refine ak_regionS (.cons rfl (ok_move (dlt rfl rfl) rfl rfl) (.cons rfl (ok_neqI (dlt rfl rfl) rfl Tryz.underlying212 rfl) (.nil ?_)))
  refine ak_cond rfl (fun ht => ?_) (fun ht => ?_)
  ·have h := cond_t ht h
   exact no_of h
  ·have h := cond_f ht h
   refine ak_skip ?_
   refine ak_seq ?_
   refine ak_regionS (.cons rfl (ok_move (dlt rfl rfl) rfl rfl) (.cons rfl (ok_assign (dlt rfl rfl) rfl rfl) (.cons rfl (ok_assign (dlt rfl rfl) rfl rfl) (.nil ?_))))
   obtain rfl := Option.some.inj h
   refine ak_conv (Γ' := [(2, .int .i64 v1.1), (3, .nili)]) (σ' := []) (.cons rfl (.refl _) (.cons rfl (.refl _) (.nil _))) (.nil _) ?_
   exact ak_ret (fn := Tryz.f262) Tryz.func262 rfl trivial rfl)
theorem d262 {a0 : List UInt8} {r : Int × Unit} (h : f262 (.e262 a0) = some r) : Does Tryz.prog GG 262 [.str a0] [] (fun z _ => z = .tup [.int .i64 r.1, .nili]) := fn_of (fn := Tryz.f262) Tryz.func262 rfl Tryz.ntmps262 rfl (w262 _ _ h)
end Go.Proofs.YtonlbdholdaifaaGreatDoor
end
section
set_option linter.unusedVariables false
set_option linter.unusedSimpArgs false
set_option maxRecDepth 10000
namespace Go.Proofs.YtonlbdholdaifaaGreatDoor
open Go Go.Rf Go.Proofs
/-- riffle/query.Int -/
noncomputable abbrev b248 : Code := codeOf Tryz.f248
inductive L248 where
 | e248 (a0 : List UInt8)
 | l248_0 (a0 : List UInt8) (a1 : List UInt8)
 | l248_1 (a0 : List UInt8) (a1 : List UInt8) (a2 : Int)
 | l248_2 (a0 : List UInt8) (a1 : List UInt8) (a2 : Int)
noncomputable def f248 : L248 → Option (Int × Int × Bool)
 | .e248 a0 =>
  f119 (.e119 a0 ([45] : List UInt8)) >>= fun v1 =>
  if v1 = true then
   need (0 ≤ (1 : Int) ∧ (1 : Int) ≤ (a0.length : Int)) >>= fun v2 =>
   f248 (.l248_0 a0 (a0.drop (1 : Int).toNat))
  else
   f248 (.l248_0 a0 a0)
 | .l248_0 a0 a1 =>
  f248 (.l248_1 a0 a1 (0 : Int))
 | .l248_1 a0 a1 a2 =>
  gd (decide (a2 < (a1.length : Int))) (idx a1 a2) >>= fun v3 =>
  gd (decide (a2 < (a1.length : Int))) (f173 (.e173 (v3.toNat : Int))) >>= fun v4 =>
  if ((decide (a2 < (a1.length : Int))) && v4) = true then
   f248 (.l248_1 a0 a1 (IntKind.wrap .i64 (a2 + (1 : Int))))
  else
   f119 (.e119 a1 ([48] : List UInt8)) >>= fun v5 =>
   if v5 = true then
    f248 (.l248_2 a0 a1 (1 : Int))
   else
    f248 (.l248_2 a0 a1 a2)
 | .l248_2 a0 a1 a2 =>
  need (0 ≤ (IntKind.wrap .i64 ((IntKind.wrap .i64 ((a0.length : Int) - (a1.length : Int))) + a2)) ∧ (IntKind.wrap .i64 ((IntKind.wrap .i64 ((a0.length : Int) - (a1.length : Int))) + a2)) ≤ (a0.length : Int)) >>= fun v6 =>
  f262 (.e262 (a0.take (IntKind.wrap .i64 ((IntKind.wrap .i64 ((a0.length : Int) - (a1.length : Int))) + a2)).toNat)) >>= fun v7 =>
  gd (!(a2 == (0 : Int))) (need (0 ≤ (IntKind.wrap .i64 ((IntKind.wrap .i64 ((a0.length : Int) - (a1.length : Int))) + a2)) ∧ (IntKind.wrap .i64 ((IntKind.wrap .i64 ((a0.length : Int) - (a1.length : Int))) + a2)) ≤ (a0.length : Int))) >>= fun v8 =>
  if (((((a2 == (0 : Int)) || ((a0.take (IntKind.wrap .i64 ((IntKind.wrap .i64 ((a0.length : Int) - (a1.length : Int))) + a2)).toNat) == ([45, 48] : List UInt8))) || false) || (decide ((9007199254740991 : Int) < v7.1))) || (decide (v7.1 < (-9007199254740991)))) = true then
   none
  else
   some (v7.1, IntKind.wrap .i64 ((IntKind.wrap .i64 ((a0.length : Int) - (a1.length : Int))) + a2), true)
 partial_fixpoint
def M248 : L248 → (Int × Int × Bool) → Prop
 | .e248 a0, r => ∀ (w : World) (F : Nat → Prop) (ρ : Rho), AK Tryz.prog (ctx GG 63 w F ρ []) 248 [.code b248] (argE 0 [.str a0]) [] (fun z _ => z = .tup [.int .i64 r.1, .int .i64 r.2.1, .bool r.2.2])
 | .l248_0 a0 a1, r => ∀ (w : World) (F : Nat → Prop) (ρ : Rho), AK Tryz.prog (ctx GG 63 w F ρ []) 248 [.code (c2 (c2 (c2 b248)))] [(0, .str a0), (5, .str a1)] [] (fun z _ => z = .tup [.int .i64 r.1, .int .i64 r.2.1, .bool r.2.2])
 | .l248_1 a0 a1 a2, r => ∀ (w : World) (F : Nat → Prop) (ρ : Rho), AK Tryz.prog (ctx GG 63 w F ρ []) 248 [.code (c1 (c1 (c1 (c2 (c2 (c2 (c2 b248))))))), .inLoop (c1 (c1 (c1 (c2 (c2 (c2 (c2 b248))))))), .inBlock 0, .code (c2 (c2 (c2 (c2 (c2 b248)))))] [(0, .str a0), (5, .str a1), (6, .int .i64 a2)] [] (fun z _ => z = .tup [.int .i64 r.1, .int .i64 r.2.1, .bool r.2.2])
 | .l248_2 a0 a1 a2, r => ∀ (w : World) (F : Nat → Prop) (ρ : Rho), AK Tryz.prog (ctx GG 63 w F ρ []) 248 [.code (c2 (c2 (c2 (c2 (c2 (c2 b248))))))] [(0, .str a0), (5, .str a1), (6, .int .i64 a2)] [] (fun z _ => z = .tup [.int .i64 r.1, .int .i64 r.2.1, .bool r.2.2])
theorem w248 : ∀ (l : L248) (r : Int × Int × Bool), f248 l = some r → M248 l r := f248.partial_correctness M248 (by
 intro f ih l r h
 cases l with
 | e248 a0 =>
  intro w F ρ
  dsimp only at h
  refine ak_seq ?_
  refine ak_regionS (.cons rfl (ok_assign (dlt rfl rfl) rfl rfl) (.cons rfl (ok_assign (dlt rfl rfl) rfl rfl) (.cons rfl (ok_assign (dlt rfl rfl) rfl rfl) (.nil ?_))))
  refine ak_seq ?_
  refine ak_regionS (.cons rfl (ok_move (dlt rfl rfl) rfl rfl) (.cons rfl (ok_assign (dlt rfl rfl) rfl rfl) (.nil ?_)))
  refine ak_seq ?_
  refine ak_seq ?_
  obtain ⟨v1, hv1, h⟩ := bind_of h
  refine ak_regionS (.cons rfl (ok_move (dlt rfl rfl) rfl rfl) (.cons rfl (ok_call (xs := [.str a0, .str ([45] : List UInt8)]) (caps := []) (dlt rfl rfl) rfl rfl Tryz.func119 rfl rfl rfl (d119 hv1) rfl) (.nil ?_)))
  refine ak_cond rfl (fun ht => ?_) (fun ht => ?_)
  ·have h := cond_t ht h
   obtain ⟨v2, hv2, h⟩ := bind_of h
   refine ak_regionS (.cons rfl (ok_move (dlt rfl rfl) rfl rfl) (.cons rfl (ok_cutL (dlt rfl rfl) rfl Tryz.underlying9 rfl rfl (need_of hv2).1 (need_of hv2).2) (.cons rfl (ok_assign (dlt rfl rfl) rfl rfl) (.nil ?_))))
   exact ak_conv (.cons rfl (.refl _) (.cons rfl (.refl _) (.nil _))) (.nil _) (ih _ _ h w F ρ)
  ·have h := cond_f ht h
   refine ak_skip ?_
   exact ak_conv (.cons rfl (.refl _) (.cons rfl (.refl _) (.nil _))) (.nil _) (ih _ _ h w F ρ)
 | l248_0 a0 a1 =>
  intro w F ρ
  dsimp only at h
  refine ak_seq ?_
  refine ak_regionS (.cons rfl (ok_assign (dlt rfl rfl) rfl rfl) (.nil ?_))
  refine ak_seq ?_
  refine ak_block ?_
  refine ak_loop ?_
  exact ak_conv (.cons rfl (.refl _) (.cons rfl (.refl _) (.cons rfl (.refl _) (.nil _)))) (.nil _) (ih _ _ h w F ρ)
 | l248_1 a0 a1 a2 =>
  intro w F ρ
  dsimp only at h
  refine ak_seq ?_
  refine ak_seq ?_
  obtain ⟨v3, hv3, h⟩ := bind_of h
  obtain ⟨v4, hv4, h⟩ := bind_of h
  refine ak_regionS (.cons rfl (ok_move (dlt rfl rfl) rfl rfl) (.cons rfl (ok_move (dlt rfl rfl) rfl rfl) (.cons rfl (ok_lenT (s := a1) (dlt rfl rfl) rfl Tryz.underlying9 rfl) (.cons rfl (ok_lss (dlt rfl rfl) rfl rfl rfl) (.cons rfl (ok_move (dlt rfl rfl) rfl rfl) (.consG (pre := []) (dlt rfl rfl) rfl rfl rfl rfl .nil (fun he => ok_move (dlt rfl rfl) rfl rfl) (.consG (pre := []) (dlt rfl rfl) rfl rfl rfl rfl .nil (fun he => ok_move (dlt rfl rfl) rfl rfl) (.consG (pre := [(18, .str a1), (19, .int .i64 a2)]) (dlt rfl rfl) rfl rfl rfl rfl (.cons rfl (fun he => he) (.cons rfl (fun he => he) .nil)) (fun he => ok_byte (s := a1) (c := v3) (dlt rfl rfl) rfl Tryz.underlying9 rfl rfl (idx_0 (gd_t hv3 he)) (idx_1 (gd_t hv3 he))) (.consG (pre := [(20, .int .u8 (v3.toNat : Int))]) (dlt rfl rfl) rfl rfl rfl rfl (.cons rfl (fun he => he) .nil) (fun he => ok_call (xs := [.int .u8 (v3.toNat : Int)]) (caps := []) (dlt rfl rfl) rfl rfl Tryz.func173 rfl rfl rfl (d173 (gd_t hv4 he)) rfl) (.cons rfl (ok_andW (dlt rfl rfl) rfl rfl rfl (fun h => h)) (.nil ?_)))))))))))
  refine ak_cond rfl (fun ht => ?_) (fun ht => ?_)
  ·have h := cond_t ht h
   refine ak_skip ?_
   refine ak_block ?_
   refine ak_regionS (.cons rfl (ok_move (dlt rfl rfl) rfl rfl) (.cons rfl (ok_add (dlt rfl rfl) rfl rfl rfl) (.cons rfl (ok_assign (dlt rfl rfl) rfl rfl) (.nil ?_))))
   refine ak_inBlock ?_
   refine ak_inLoop ?_
   exact ak_conv (.cons rfl (.refl _) (.cons rfl (.refl _) (.cons rfl (.refl _) (.nil _)))) (.nil _) (ih _ _ h w F ρ)
  ·have h := cond_f ht h
   refine ak_exit rfl ?_
   refine ak_seq ?_
   refine ak_seq ?_
   obtain ⟨v5, hv5, h⟩ := bind_of h
   refine ak_regionS (.cons rfl (ok_move (dlt rfl rfl) rfl rfl) (.cons rfl (ok_call (xs := [.str a1, .str ([48] : List UInt8)]) (caps := []) (dlt rfl rfl) rfl rfl Tryz.func119 rfl rfl rfl (d119 hv5) rfl) (.nil ?_)))
   refine ak_cond rfl (fun ht => ?_) (fun ht => ?_)
   ·have h := cond_t ht h
    refine ak_regionS (.cons rfl (ok_assign (dlt rfl rfl) rfl rfl) (.nil ?_))
    exact ak_conv (.cons rfl (.refl _) (.cons rfl (.refl _) (.cons rfl (.refl _) (.nil _)))) (.nil _) (ih _ _ h w F ρ)
   ·have h := cond_f ht h
    refine ak_skip ?_
    exact ak_conv (.cons rfl (.refl _) (.cons rfl (.refl _) (.cons rfl (.refl _) (.nil _)))) (.nil _) (ih _ _ h w F ρ)
 | l248_2 a0 a1 a2 =>
  intro w F ρ
  dsimp only at h
  refine ak_seq ?_
  refine ak_regionS (.cons rfl (ok_move (dlt rfl rfl) rfl rfl) (.cons rfl (ok_lenT (s := a0) (dlt rfl rfl) rfl Tryz.underlying9 rfl) (.cons rfl (ok_move (dlt rfl rfl) rfl rfl) (.cons rfl (ok_lenT (s := a1) (dlt rfl rfl) rfl Tryz.underlying9 rfl) (.cons rfl (ok_sub (dlt rfl rfl) rfl rfl rfl) (.cons rfl (ok_move (dlt rfl rfl) rfl rfl) (.cons rfl (ok_add (dlt rfl rfl) rfl rfl rfl) (.cons rfl (ok_assign (dlt rfl rfl) rfl rfl) (.nil ?_)))))))))
  refine ak_seq ?_
  obtain ⟨v6, hv6, h⟩ := bind_of h
  obtain ⟨v7, hv7, h⟩ := bind_of h
  refine ak_regionS (.cons rfl (ok_move (dlt rfl rfl) rfl rfl) (.cons rfl (ok_move (dlt rfl rfl) rfl rfl) (.cons rfl (ok_cutH (dlt rfl rfl) rfl Tryz.underlying9 rfl rfl (need_of hv6).1 (need_of hv6).2) (.cons rfl (ok_call (xs := [.str (a0.take (IntKind.wrap .i64 ((IntKind.wrap .i64 ((a0.length : Int) - (a1.length : Int))) + a2)).toNat)]) (caps := []) (dlt rfl rfl) rfl rfl Tryz.func262 rfl rfl rfl (d262 hv7) rfl) (.cons rfl (ok_move (dlt rfl rfl) rfl rfl) (.cons rfl (ok_extract (dlt rfl rfl) rfl rfl rfl) (.cons rfl (ok_extract (dlt rfl rfl) rfl rfl rfl) (.cons rfl (ok_assign (dlt rfl rfl) rfl rfl) (.cons rfl (ok_assign (dlt rfl rfl) rfl rfl) (.nil ?_))))))))))
  refine ak_seq ?_
  refine ak_seq ?_
  obtain ⟨v8, hv8, h⟩ := bind_of h
  refine ak_regionS (.cons rfl (ok_move (dlt rfl rfl) rfl rfl) (.cons rfl (ok_eql (dlt rfl rfl) rfl rfl rfl) (.cons rfl (ok_move (dlt rfl rfl) rfl rfl) (.consG (pre := []) (dlt rfl rfl) rfl rfl rfl rfl .nil (fun he => ok_move (dlt rfl rfl) rfl rfl) (.consG (pre := []) (dlt rfl rfl) rfl rfl rfl rfl .nil (fun he => ok_move (dlt rfl rfl) rfl rfl) (.consG (pre := [(44, .str a0), (45, .int .i64 (IntKind.wrap .i64 ((IntKind.wrap .i64 ((a0.length : Int) - (a1.length : Int))) + a2)))]) (dlt rfl rfl) rfl rfl rfl rfl (.cons rfl (fun he => he) (.cons rfl (fun he => he) .nil)) (fun he => ok_cutH (dlt rfl rfl) rfl Tryz.underlying9 rfl rfl (need_of (gd_t hv8 he)).1 (need_of (gd_t hv8 he)).2) (.consG (pre := [(46, .str (a0.take (IntKind.wrap .i64 ((IntKind.wrap .i64 ((a0.length : Int) - (a1.length : Int))) + a2)).toNat))]) (dlt rfl rfl) rfl rfl rfl rfl (.cons rfl (fun he => he) .nil) (fun he => ok_eqlS (dlt rfl rfl) rfl rfl rfl) (.cons rfl (ok_orW (dlt rfl rfl) rfl rfl rfl (fun h => (bnot_t h))) (.cons rfl (ok_move (dlt rfl rfl) rfl rfl) (.consG (pre := []) (dlt rfl rfl) rfl rfl rfl rfl .nil (fun he => ok_move (dlt rfl rfl) rfl rfl) (.consG (pre := [(50, .nili)]) (dlt rfl rfl) rfl rfl rfl rfl (.cons rfl (fun he => he) .nil) (fun he => ok_neqI (dlt rfl rfl) rfl Tryz.underlying212 rfl) (.cons rfl (ok_orW (dlt rfl rfl) rfl rfl rfl (fun h => (bnot_t h))) (.cons rfl (ok_move (dlt rfl rfl) rfl rfl) (.consG (pre := []) (dlt rfl rfl) rfl rfl rfl rfl .nil (fun he => ok_move (dlt rfl rfl) rfl rfl) (.consG (pre := [(54, .int .i64 v7.1)]) (dlt rfl rfl) rfl rfl rfl rfl (.cons rfl (fun he => he) .nil) (fun he => ok_gtr (dlt rfl rfl) rfl rfl rfl) (.cons rfl (ok_orW (dlt rfl rfl) rfl rfl rfl (fun h => (bnot_t h))) (.cons rfl (ok_move (dlt rfl rfl) rfl rfl) (.consG (pre := []) (dlt rfl rfl) rfl rfl rfl rfl .nil (fun he => ok_move (dlt rfl rfl) rfl rfl) (.consG (pre := [(58, .int .i64 v7.1)]) (dlt rfl rfl) rfl rfl rfl rfl (.cons rfl (fun he => he) .nil) (fun he => ok_lss (dlt rfl rfl) rfl rfl rfl) (.cons rfl (ok_orW (dlt rfl rfl) rfl rfl rfl (fun h => (bnot_t h))) (.nil ?_)))))))))))))))))))))
  refine ak_cond rfl (fun ht => ?_) (fun ht => ?_)
  ·have h := cond_t ht h
   exact no_of h
  ·have h := cond_f ht h
   refine ak_skip ?_
   refine ak_seq ?_
   refine ak_regionS (.cons rfl (ok_move (dlt rfl rfl) rfl rfl) (.cons rfl (ok_move (dlt rfl rfl) rfl rfl) (.cons rfl (ok_assign (dlt rfl rfl) rfl rfl) (.cons rfl (ok_assign (dlt rfl rfl) rfl rfl) (.cons rfl (ok_assign (dlt rfl rfl) rfl rfl) (.nil ?_))))))
   obtain rfl := Option.some.inj h
   refine ak_conv (Γ' := [(2, .int .i64 v7.1), (3, .int .i64 (IntKind.wrap .i64 ((IntKind.wrap .i64 ((a0.length : Int) - (a1.length : Int))) + a2))), (4, .bool true)]) (σ' := []) (.cons rfl (.refl _) (.cons rfl (.refl _) (.cons rfl (.refl _) (.nil _)))) (.nil _) ?_
   exact ak_ret (fn := Tryz.f248) Tryz.func248 rfl trivial rfl)
theorem d248 {a0 : List UInt8} {r : Int × Int × Bool} (h : f248 (.e248 a0) = some r) : Does Tryz.prog GG 248 [.str a0] [] (fun z _ => z = .tup [.int .i64 r.1, .int .i64 r.2.1, .bool r.2.2]) := fn_of (fn := Tryz.f248) Tryz.func248 rfl Tryz.ntmps248 rfl (w248 _ _ h)
/-- (*riffle/query.reader).integer -/
noncomputable abbrev b235 : Code := codeOf Tryz.f235
inductive L235 where
 | e235 (a0 : QueryReader)
noncomputable def f235 : L235 → Option (Int × Bool × QueryReader)
 | .e235 a0 =>
  f120 (.e120 a0) >>= fun v1 =>
  gd (!(v1 == ([] : List UInt8))) (idx v1 (0 : Int)) >>= fun v2 =>
  gd ((!(v1 == ([] : List UInt8))) && ((v2.toNat : Int) != (45 : Int))) (idx v1 (0 : Int)) >>= fun v3 =>
  gd ((!(v1 == ([] : List UInt8))) && ((v2.toNat : Int) != (45 : Int))) (f173 (.e173 (v3.toNat : Int))) >>= fun v4 =>
  if ((v1 == ([] : List UInt8)) || (((v2.toNat : Int) != (45 : Int)) && (!v4))) = true then
   none
  else
   f120 (.e120 a0) >>= fun v5 =>
   f248 (.e248 v5) >>= fun v6 =>
   some (v6.1, v6.2.2, (⟨a0.s, IntKind.wrap .i64 (a0.pos + v6.2.1), (a0.bad || (!v6.2.2))⟩ : QueryReader))
def M235 : L235 → (Int × Bool × QueryReader) → Prop
 | .e235 a0, r => ∀ (w : World) (F : Nat → Prop) (ρ : Rho), AK Tryz.prog (ctx GG 51 w F ρ [(10000, .cells 125 [.str a0.s, .int .i64 a0.pos, .bool a0.bad])]) 235 [.code b235] (argE 0 [.ref 10000 0]) [(10000, .cells 125 [.str a0.s, .int .i64 a0.pos, .bool a0.bad])] (fun z σ' => z = .tup [.int .i64 r.1, .bool r.2.1] ∧ σ' = [(10000, .cells 125 [.str r.2.2.s, .int .i64 r.2.2.pos, .bool r.2.2.bad])])
theorem w235 : ∀ (l : L235) (r : Int × Bool × QueryReader), f235 l = some r → M235 l r := (by
 intro l r h
 cases l with
 | e235 a0 =>
  intro w F ρ
  dsimp only [f235] at h
  refine ak_seq ?_
  refine ak_regionS (.cons rfl (ok_assign (dlt rfl rfl) rfl rfl) (.cons rfl (ok_assign (dlt rfl rfl) rfl rfl) (.nil ?_)))
  refine ak_seq ?_
  refine ak_seq ?_
  obtain ⟨v1, hv1, h⟩ := bind_of h
  refine ak_regionS (.cons rfl (ok_move (dlt rfl rfl) rfl rfl) (.cons rfl (Sound.same (ok_callL (xs := [.ref 10000 0]) (caps := []) (xs1 := [.ref 10000 0]) (z := .str v1) (ups := [(10000, .cells 125 [.str a0.s, .int .i64 a0.pos, .bool a0.bad])]) (dlt rfl rfl) [(10000, (10000, some (0, 3)))] [] rfl rfl Tryz.func120 rfl rfl rfl (.cons (.refl _) (.nil)) (.cons (.ref rfl rfl) (.nil)) (.cells rfl rfl (by decide) rfl (.cons (.refl _) (.cons (.refl _) (.cons (.refl _) (.nil)))) (.cons (.same rfl) (.cons (.same rfl) (.cons (.same rfl) (.nil)))) .nil) rfl (d120 hv1) (.cells (l := 10000) rfl rfl rfl rfl (.cons (.same rfl) (.cons (.same rfl) (.cons (.same rfl) (.nil)))) (Nat.succ_ne_zero _) rfl .nil) rfl rfl rfl (by intro d h; simp at h) rfl (.same rfl)) (NeedQ.all (.cons rfl .nil))) (.cons rfl (ok_assign (dlt rfl rfl) rfl rfl) (.nil ?_))))
  refine ak_seq ?_
  obtain ⟨v2, hv2, h⟩ := bind_of h
  obtain ⟨v3, hv3, h⟩ := bind_of h
  obtain ⟨v4, hv4, h⟩ := bind_of h
  refine ak_regionS (.cons rfl (ok_move (dlt rfl rfl) rfl rfl) (.cons rfl (ok_eqlS (dlt rfl rfl) rfl rfl rfl) (.cons rfl (ok_move (dlt rfl rfl) rfl rfl) (.consG (pre := []) (dlt rfl rfl) rfl rfl rfl rfl .nil (fun he => ok_move (dlt rfl rfl) rfl rfl) (.consG (pre := [(13, .str v1)]) (dlt rfl rfl) rfl rfl rfl rfl (.cons rfl (fun he => he) .nil) (fun he => ok_byte (s := v1) (c := v2) (dlt rfl rfl) rfl Tryz.underlying9 rfl rfl (idx_0 (gd_t hv2 he)) (idx_1 (gd_t hv2 he))) (.consG (pre := [(14, .int .u8 (v2.toNat : Int))]) (dlt rfl rfl) rfl rfl rfl rfl (.cons rfl (fun he => he) .nil) (fun he => ok_neq (dlt rfl rfl) rfl rfl rfl) (.consG (pre := [(15, .bool ((v2.toNat : Int) != (45 : Int)))]) (dlt rfl rfl) rfl rfl rfl rfl (.cons rfl (fun he => he) .nil) (fun he => ok_move (dlt rfl rfl) rfl rfl) (.consG (pre := []) (dlt rfl rfl) rfl rfl rfl rfl .nil (fun he => ok_move (dlt rfl rfl) rfl rfl) (.consG (pre := [(17, .str v1)]) (dlt rfl rfl) rfl rfl rfl rfl (.cons rfl (fun he => he) .nil) (fun he => ok_byte (s := v1) (c := v3) (dlt rfl rfl) rfl Tryz.underlying9 rfl rfl (idx_0 (gd_t hv3 he)) (idx_1 (gd_t hv3 he))) (.consG (pre := [(18, .int .u8 (v3.toNat : Int))]) (dlt rfl rfl) rfl rfl rfl rfl (.cons rfl (fun he => he) .nil) (fun he => ok_call (xs := [.int .u8 (v3.toNat : Int)]) (caps := []) (dlt rfl rfl) rfl rfl Tryz.func173 rfl rfl rfl (d173 (gd_t hv4 he)) rfl) (.consG (pre := [(19, .bool v4)]) (dlt rfl rfl) rfl rfl rfl rfl (.cons rfl (fun he => he) .nil) (fun he => ok_not (dlt rfl rfl) rfl rfl) (.consG (pre := [(16, .bool ((v2.toNat : Int) != (45 : Int)))]) (dlt rfl rfl) rfl rfl rfl rfl (.cons rfl (fun he => he) .nil) (fun he => ok_andW (dlt rfl rfl) rfl rfl rfl (fun h => band_i he h)) (.cons rfl (ok_orW (dlt rfl rfl) rfl rfl rfl (fun h => (bnot_t h))) (.nil ?_))))))))))))))
  refine ak_cond rfl (fun ht => ?_) (fun ht => ?_)
  ·have h := cond_t ht h
   exact no_of h
  ·have h := cond_f ht h
   refine ak_skip ?_
   refine ak_seq ?_
   obtain ⟨v5, hv5, h⟩ := bind_of h
   obtain ⟨v6, hv6, h⟩ := bind_of h
   refine ak_regionS (.cons rfl (ok_move (dlt rfl rfl) rfl rfl) (.cons rfl (Sound.same (ok_callL (xs := [.ref 10000 0]) (caps := []) (xs1 := [.ref 10000 0]) (z := .str v5) (ups := [(10000, .cells 125 [.str a0.s, .int .i64 a0.pos, .bool a0.bad])]) (dlt rfl rfl) [(10000, (10000, some (0, 3)))] [] rfl rfl Tryz.func120 rfl rfl rfl (.cons (.refl _) (.nil)) (.cons (.ref rfl rfl) (.nil)) (.cells rfl rfl (by decide) rfl (.cons (.refl _) (.cons (.refl _) (.cons (.refl _) (.nil)))) (.cons (.same rfl) (.cons (.same rfl) (.cons (.same rfl) (.nil)))) .nil) rfl (d120 hv5) (.cells (l := 10000) rfl rfl rfl rfl (.cons (.same rfl) (.cons (.same rfl) (.cons (.same rfl) (.nil)))) (Nat.succ_ne_zero _) rfl .nil) rfl rfl rfl (by intro d h; simp at h) rfl (.same rfl)) (NeedQ.all (.cons rfl .nil))) (.cons rfl (ok_call (xs := [.str v5]) (caps := []) (dlt rfl rfl) rfl rfl Tryz.func248 rfl rfl rfl (d248 hv6) rfl) (.cons rfl (ok_move (dlt rfl rfl) rfl rfl) (.cons rfl (ok_extract (dlt rfl rfl) rfl rfl rfl) (.cons rfl (ok_extract (dlt rfl rfl) rfl rfl rfl) (.cons rfl (ok_extract (dlt rfl rfl) rfl rfl rfl) (.cons rfl (ok_assign (dlt rfl rfl) rfl rfl) (.cons rfl (ok_assign (dlt rfl rfl) rfl rfl) (.cons rfl (ok_assign (dlt rfl rfl) rfl rfl) (.nil ?_)))))))))))
   refine ak_seq ?_
   refine ak_regionS (.cons rfl (ok_move (dlt rfl rfl) rfl rfl) (.cons rfl (ok_nilCheckV (dlt rfl rfl) rfl rfl) (.cons rfl (ok_fieldV (dlt rfl rfl) rfl fo125_1 ty3 (by decide) rfl) (.cons rfl (ok_loadV (dlt rfl rfl) rfl ty3 rfl rfl rfl) (.cons rfl (ok_move (dlt rfl rfl) rfl rfl) (.cons rfl (ok_add (dlt rfl rfl) rfl rfl rfl) (.cons rfl (ok_nilCheckV (dlt rfl rfl) rfl rfl) (.cons rfl (ok_fieldV (dlt rfl rfl) rfl fo125_1 ty3 (by decide) rfl) (.cons rfl (ok_storeV rfl rfl ty3 rfl rfl rfl rfl (by decide) rfl rfl) (.nil ?_))))))))))
   refine ak_seq ?_
   refine ak_regionS (.cons rfl (ok_move (dlt rfl rfl) rfl rfl) (.cons rfl (ok_move (dlt rfl rfl) rfl rfl) (.cons rfl (ok_nilCheckV (dlt rfl rfl) rfl rfl) (.cons rfl (ok_fieldV (dlt rfl rfl) rfl fo125_2 ty4 (by decide) rfl) (.cons rfl (ok_loadV (dlt rfl rfl) rfl ty4 rfl rfl rfl) (.cons rfl (ok_move (dlt rfl rfl) rfl rfl) (.consG (pre := []) (dlt rfl rfl) rfl rfl rfl rfl .nil (fun he => ok_move (dlt rfl rfl) rfl rfl) (.consG (pre := [(44, .bool v6.2.2)]) (dlt rfl rfl) rfl rfl rfl rfl (.cons rfl (fun he => he) .nil) (fun he => ok_not (dlt rfl rfl) rfl rfl) (.cons rfl (ok_orW (dlt rfl rfl) rfl rfl rfl (fun h => (bnot_t h))) (.cons rfl (ok_nilCheckV (dlt rfl rfl) rfl rfl) (.cons rfl (ok_fieldV (dlt rfl rfl) rfl fo125_2 ty4 (by decide) rfl) (.cons rfl (ok_storeV rfl rfl ty4 rfl rfl rfl rfl (by decide) rfl rfl) (.nil ?_)))))))))))))
   refine ak_seq ?_
   refine ak_regionS (.cons rfl (ok_move (dlt rfl rfl) rfl rfl) (.cons rfl (ok_move (dlt rfl rfl) rfl rfl) (.cons rfl (ok_assign (dlt rfl rfl) rfl rfl) (.cons rfl (ok_assign (dlt rfl rfl) rfl rfl) (.nil ?_)))))
   obtain rfl := Option.some.inj h
   refine ak_conv (Γ' := [(2, .int .i64 v6.1), (3, .bool v6.2.2)]) (σ' := [(10000, .cells 125 [.str ((⟨a0.s, IntKind.wrap .i64 (a0.pos + v6.2.1), (a0.bad || (!v6.2.2))⟩ : QueryReader).s), .int .i64 ((⟨a0.s, IntKind.wrap .i64 (a0.pos + v6.2.1), (a0.bad || (!v6.2.2))⟩ : QueryReader).pos), .bool ((⟨a0.s, IntKind.wrap .i64 (a0.pos + v6.2.1), (a0.bad || (!v6.2.2))⟩ : QueryReader).bad)])]) (.cons rfl (.refl _) (.cons rfl (.refl _) (.nil _))) (.cons rfl (.cells (.cons (.refl _) (.cons (.refl _) (.cons (.refl _) (.nil))))) (.nil _)) ?_
   exact ak_retC (fn := Tryz.f235) [(10000, .cells 125 [.str ((⟨a0.s, IntKind.wrap .i64 (a0.pos + v6.2.1), (a0.bad || (!v6.2.2))⟩ : QueryReader).s), .int .i64 ((⟨a0.s, IntKind.wrap .i64 (a0.pos + v6.2.1), (a0.bad || (!v6.2.2))⟩ : QueryReader).pos), .bool ((⟨a0.s, IntKind.wrap .i64 (a0.pos + v6.2.1), (a0.bad || (!v6.2.2))⟩ : QueryReader).bad)])] (.cons rfl (.refl _) (.nil _)) Tryz.func235 rfl trivial ⟨rfl, rfl⟩)
theorem d235 {a0 : QueryReader} {r : Int × Bool × QueryReader} (h : f235 (.e235 a0) = some r) : Does Tryz.prog GG 235 [.ref 10000 0] [(10000, .cells 125 [.str a0.s, .int .i64 a0.pos, .bool a0.bad])] (fun z σ' => z = .tup [.int .i64 r.1, .bool r.2.1] ∧ σ' = [(10000, .cells 125 [.str r.2.2.s, .int .i64 r.2.2.pos, .bool r.2.2.bad])]) := fn_of (fn := Tryz.f235) Tryz.func235 rfl Tryz.ntmps235 rfl (w235 _ _ h)
end Go.Proofs.YtonlbdholdaifaaGreatDoor
end
section
set_option linter.unusedVariables false
set_option linter.unusedSimpArgs false
set_option maxRecDepth 10000
namespace Go.Proofs.YtonlbdholdaifaaGreatDoor
open Go Go.Rf Go.Proofs
/-- (*riffle/query.reader).numbered -/
noncomputable abbrev b207 : Code := codeOf Tryz.f207
inductive L207 where
 | e207 (a0 : QueryReader)
noncomputable def f207 : L207 → Option (ApiSelector × QueryReader)
 | .e207 a0 =>
  f235 (.e235 a0) >>= fun v1 =>
  f69 (.e69 v1.2.2) >>= fun v2 =>
  f68 (.e68 v2 ([58] : List UInt8)) >>= fun v3 =>
  if (!v3.1) = true then
   some ((⟨2, [], v1.1, 0, 0, false, false, 0⟩ : ApiSelector), (⟨v3.2.s, v1.2.2.pos, (v3.2.bad || (a0.pos == v1.2.2.pos))⟩ : QueryReader))
  else
   none
def M207 : L207 → (ApiSelector × QueryReader) → Prop
 | .e207 a0, r => ∀ (w : World) (F : Nat → Prop) (ρ : Rho), AK Tryz.prog (ctx GG 97 w F ρ [(10000, .cells 125 [.str a0.s, .int .i64 a0.pos, .bool a0.bad])]) 207 [.code b207] (argE 0 [.ref 10000 0]) [(10000, .cells 125 [.str a0.s, .int .i64 a0.pos, .bool a0.bad])] (fun z σ' => z = .agg [.int .i64 r.1.kind, .str r.1.name, .int .i64 r.1.index, .int .i64 r.1.start, .int .i64 r.1.stop, .bool r.1.hasStart, .bool r.1.hasEnd, .int .i64 r.1.stride] ∧ σ' = [(10000, .cells 125 [.str r.2.s, .int .i64 r.2.pos, .bool r.2.bad])])
theorem w207 : ∀ (l : L207) (r : ApiSelector × QueryReader), f207 l = some r → M207 l r := (by
 intro l r h
 cases l with
 | e207 a0 =>
  intro w F ρ
  dsimp only [f207] at h
  refine ak_seq ?_
  refine ak_regionS (.cons rfl (ok_alloc (d := 2) (dlt rfl rfl) rfl ty49 rfl rfl rfl) (.nil ?_))
  refine ak_seq ?_
  refine ak_regionS (.cons rfl (ok_build (dlt rfl rfl) rfl ty49 rfl pl49 rfl rfl rfl) (.cons rfl (ok_alloc (d := 3) (dlt rfl rfl) rfl ty49 rfl rfl rfl) (.cons rfl (ok_storeV rfl rfl ty49 rfl rfl rfl rfl (by decide) rfl rfl) (.nil ?_))))
  refine ak_seq ?_
  refine ak_regionS (.cons rfl (ok_move (dlt rfl rfl) rfl rfl) (.cons rfl (ok_nilCheckV (dlt rfl rfl) rfl rfl) (.cons rfl (ok_fieldV (dlt rfl rfl) rfl fo125_1 ty3 (by decide) rfl) (.cons rfl (ok_loadV (dlt rfl rfl) rfl ty3 rfl rfl rfl) (.cons rfl (ok_assign (dlt rfl rfl) rfl rfl) (.nil ?_))))))
  refine ak_seq ?_
  obtain ⟨v1, hv1, h⟩ := bind_of h
  refine ak_regionS (.cons rfl (ok_move (dlt rfl rfl) rfl rfl) (.cons rfl (ok_callL (xs := [.ref 10000 0]) (caps := []) (xs1 := [.ref 10000 0]) (z := .tup [.int .i64 v1.1, .bool v1.2.1]) (ups := [(10000, .cells 125 [.str v1.2.2.s, .int .i64 v1.2.2.pos, .bool v1.2.2.bad])]) (dlt rfl rfl) [(10000, (10000, some (0, 3)))] [] rfl rfl Tryz.func235 rfl rfl rfl (.cons (.refl _) (.nil)) (.cons (.ref rfl rfl) (.nil)) (.cells rfl rfl (by decide) rfl (.cons (.refl _) (.cons (.refl _) (.cons (.refl _) (.nil)))) (.cons (.same rfl) (.cons (.same rfl) (.cons (.same rfl) (.nil)))) .nil) rfl (d235 hv1) (.cells (l := 10000) rfl rfl rfl rfl (.cons (.same rfl) (.cons (.same rfl) (.cons (.same rfl) (.nil)))) (Nat.succ_ne_zero _) rfl .nil) rfl rfl rfl (by intro d h; simp at h) rfl (.same rfl)) (.cons rfl (ok_move (dlt rfl rfl) rfl rfl) (.cons rfl (ok_extract (dlt rfl rfl) rfl rfl rfl) (.cons rfl (ok_extract (dlt rfl rfl) rfl rfl rfl) (.cons rfl (ok_fieldV (dlt rfl rfl) rfl fo49_3 ty3 (by decide) rfl) (.cons rfl (ok_storeV rfl rfl ty3 rfl rfl rfl rfl (by decide) rfl rfl) (.cons rfl (ok_fieldV (dlt rfl rfl) rfl fo49_5 ty4 (by decide) rfl) (.cons rfl (ok_storeV rfl rfl ty4 rfl rfl rfl rfl (by decide) rfl rfl) (.nil ?_))))))))))
  refine ak_seq ?_
  refine ak_regionS (.cons rfl (ok_move (dlt rfl rfl) rfl rfl) (.cons rfl (ok_nilCheckV (dlt rfl rfl) rfl rfl) (.cons rfl (ok_fieldV (dlt rfl rfl) rfl fo125_1 ty3 (by decide) rfl) (.cons rfl (ok_loadV (dlt rfl rfl) rfl ty3 rfl rfl rfl) (.cons rfl (ok_assign (dlt rfl rfl) rfl rfl) (.nil ?_))))))
  refine ak_seq ?_
  obtain ⟨v2, hv2, h⟩ := bind_of h
  refine ak_regionS (.cons rfl (ok_move (dlt rfl rfl) rfl rfl) (.cons rfl (ok_callL (xs := [.ref 10000 0]) (caps := []) (xs1 := [.ref 10000 0]) (z := .tup []) (ups := [(10000, .cells 125 [.str v2.s, .int .i64 v2.pos, .bool v2.bad])]) (dlt rfl rfl) [(10000, (10000, some (0, 3)))] [] rfl rfl Tryz.func69 rfl rfl rfl (.cons (.refl _) (.nil)) (.cons (.ref rfl rfl) (.nil)) (.cells rfl rfl (by decide) rfl (.cons (.refl _) (.cons (.refl _) (.cons (.refl _) (.nil)))) (.cons (.same rfl) (.cons (.same rfl) (.cons (.same rfl) (.nil)))) .nil) rfl (d69 hv2) (.cells (l := 10000) rfl rfl rfl rfl (.cons (.same rfl) (.cons (.same rfl) (.cons (.same rfl) (.nil)))) (Nat.succ_ne_zero _) rfl .nil) rfl rfl rfl (by intro d h; simp at h) rfl (.same rfl)) (.nil ?_)))
  refine ak_seq ?_
  refine ak_seq ?_
  obtain ⟨v3, hv3, h⟩ := bind_of h
  refine ak_regionS (.cons rfl (ok_move (dlt rfl rfl) rfl rfl) (.cons rfl (ok_callL (xs := [.ref 10000 0, .str ([58] : List UInt8)]) (caps := []) (xs1 := [.ref 10000 0, .str ([58] : List UInt8)]) (z := .bool v3.1) (ups := [(10000, .cells 125 [.str v3.2.s, .int .i64 v3.2.pos, .bool v3.2.bad])]) (dlt rfl rfl) [(10000, (10000, some (0, 3)))] [] rfl rfl Tryz.func68 rfl rfl rfl (.cons (.refl _) (.cons (.refl _) (.nil))) (.cons (.ref rfl rfl) (.cons (.same rfl) (.nil))) (.cells rfl rfl (by decide) rfl (.cons (.refl _) (.cons (.refl _) (.cons (.refl _) (.nil)))) (.cons (.same rfl) (.cons (.same rfl) (.cons (.same rfl) (.nil)))) .nil) rfl (d68 hv3) (.cells (l := 10000) rfl rfl rfl rfl (.cons (.same rfl) (.cons (.same rfl) (.cons (.same rfl) (.nil)))) (Nat.succ_ne_zero _) rfl .nil) rfl rfl rfl (by intro d h; simp at h) rfl (.same rfl)) (.cons rfl (ok_not (dlt rfl rfl) rfl rfl) (.nil ?_))))
  refine ak_cond rfl (fun ht => ?_) (fun ht => ?_)
  ·have h := cond_t ht h
   refine ak_seq ?_
   refine ak_regionS (.cons rfl (ok_move (dlt rfl rfl) rfl rfl) (.cons rfl (ok_move (dlt rfl rfl) rfl rfl) (.cons rfl (ok_nilCheckV (dlt rfl rfl) rfl rfl) (.cons rfl (ok_fieldV (dlt rfl rfl) rfl fo125_1 ty3 (by decide) rfl) (.cons rfl (ok_storeV rfl rfl ty3 rfl rfl rfl rfl (by decide) rfl rfl) (.nil ?_))))))
   refine ak_seq ?_
   refine ak_regionS (.cons rfl (ok_move (dlt rfl rfl) rfl rfl) (.cons rfl (ok_move (dlt rfl rfl) rfl rfl) (.cons rfl (ok_nilCheckV (dlt rfl rfl) rfl rfl) (.cons rfl (ok_fieldV (dlt rfl rfl) rfl fo125_2 ty4 (by decide) rfl) (.cons rfl (ok_loadV (dlt rfl rfl) rfl ty4 rfl rfl rfl) (.cons rfl (ok_move (dlt rfl rfl) rfl rfl) (.consG (pre := []) (dlt rfl rfl) rfl rfl rfl rfl .nil (fun he => ok_move (dlt rfl rfl) rfl rfl) (.consG (pre := []) (dlt rfl rfl) rfl rfl rfl rfl .nil (fun he => ok_move (dlt rfl rfl) rfl rfl) (.consG (pre := [(40, .int .i64 a0.pos), (41, .int .i64 v1.2.2.pos)]) (dlt rfl rfl) rfl rfl rfl rfl (.cons rfl (fun he => he) (.cons rfl (fun he => he) .nil)) (fun he => ok_eql (dlt rfl rfl) rfl rfl rfl) (.cons rfl (ok_orW (dlt rfl rfl) rfl rfl rfl (fun h => (bnot_t h))) (.cons rfl (ok_nilCheckV (dlt rfl rfl) rfl rfl) (.cons rfl (ok_fieldV (dlt rfl rfl) rfl fo125_2 ty4 (by decide) rfl) (.cons rfl (ok_storeV rfl rfl ty4 rfl rfl rfl rfl (by decide) rfl rfl) (.nil ?_))))))))))))))
   refine ak_seq ?_
   refine ak_regionS (.cons rfl (ok_fieldV (dlt rfl rfl) rfl fo49_3 ty3 (by decide) rfl) (.cons rfl (ok_loadV (dlt rfl rfl) rfl ty3 rfl rfl rfl) (.cons rfl (ok_build (dlt rfl rfl) rfl ty49 rfl pl49 rfl rfl rfl) (.cons rfl (ok_storeV rfl rfl ty49 rfl rfl rfl rfl (by decide) rfl rfl) (.nil ?_)))))
   obtain rfl := Option.some.inj h
   refine ak_conv (Γ' := [(2, .ref 2 0)]) (σ' := [(2, .cells 49 [.int .i64 ((⟨2, [], v1.1, 0, 0, false, false, 0⟩ : ApiSelector).kind), .str ((⟨2, [], v1.1, 0, 0, false, false, 0⟩ : ApiSelector).name), .int .i64 ((⟨2, [], v1.1, 0, 0, false, false, 0⟩ : ApiSelector).index), .int .i64 ((⟨2, [], v1.1, 0, 0, false, false, 0⟩ : ApiSelector).start), .int .i64 ((⟨2, [], v1.1, 0, 0, false, false, 0⟩ : ApiSelector).stop), .bool ((⟨2, [], v1.1, 0, 0, false, false, 0⟩ : ApiSelector).hasStart), .bool ((⟨2, [], v1.1, 0, 0, false, false, 0⟩ : ApiSelector).hasEnd), .int .i64 ((⟨2, [], v1.1, 0, 0, false, false, 0⟩ : ApiSelector).stride)]), (10000, .cells 125 [.str ((⟨v3.2.s, v1.2.2.pos, (v3.2.bad || (a0.pos == v1.2.2.pos))⟩ : QueryReader).s), .int .i64 ((⟨v3.2.s, v1.2.2.pos, (v3.2.bad || (a0.pos == v1.2.2.pos))⟩ : QueryReader).pos), .bool ((⟨v3.2.s, v1.2.2.pos, (v3.2.bad || (a0.pos == v1.2.2.pos))⟩ : QueryReader).bad)])]) (.cons rfl (.refl _) (.nil _)) (.cons rfl (.refl _) (.cons rfl (.cells (.cons (.refl _) (.cons (.refl _) (.cons (.refl _) (.nil))))) (.nil _))) ?_
   exact ak_retC (fn := Tryz.f207) [(10000, .cells 125 [.str ((⟨v3.2.s, v1.2.2.pos, (v3.2.bad || (a0.pos == v1.2.2.pos))⟩ : QueryReader).s), .int .i64 ((⟨v3.2.s, v1.2.2.pos, (v3.2.bad || (a0.pos == v1.2.2.pos))⟩ : QueryReader).pos), .bool ((⟨v3.2.s, v1.2.2.pos, (v3.2.bad || (a0.pos == v1.2.2.pos))⟩ : QueryReader).bad)])] (.cons rfl (.refl _) (.nil _)) Tryz.func207 rfl ⟨⟨_, _, _, _, _, _, rfl, rfl, ty49⟩, trivial⟩ ⟨rfl, rfl⟩
  ·have h := cond_f ht h
   exact no_of h)
theorem d207 {a0 : QueryReader} {r : ApiSelector × QueryReader} (h : f207 (.e207 a0) = some r) : Does Tryz.prog GG 207 [.ref 10000 0] [(10000, .cells 125 [.str a0.s, .int .i64 a0.pos, .bool a0.bad])] (fun z σ' => z = .agg [.int .i64 r.1.kind, .str r.1.name, .int .i64 r.1.index, .int .i64 r.1.start, .int .i64 r.1.stop, .bool r.1.hasStart, .bool r.1.hasEnd, .int .i64 r.1.stride] ∧ σ' = [(10000, .cells 125 [.str r.2.s, .int .i64 r.2.pos, .bool r.2.bad])]) := fn_of (fn := Tryz.f207) Tryz.func207 rfl Tryz.ntmps207 rfl (w207 _ _ h)
/-- (*riffle/query.reader).selector -/
noncomputable abbrev b174 : Code := codeOf Tryz.f174
inductive L174 where
 | e174 (a0 : QueryReader)
noncomputable def f174 : L174 → Option (ApiSelector × QueryReader)
 | .e174 a0 =>
  f68 (.e68 a0 ([42] : List UInt8)) >>= fun v1 =>
  if v1.1 = true then
   none
  else
   f68 (.e68 v1.2 ([34] : List UInt8)) >>= fun v2 =>
   if v2.1 = true then
    none
   else
    f68 (.e68 v2.2 ([39] : List UInt8)) >>= fun v3 =>
    if v3.1 = true then
     none
    else
     f207 (.e207 v3.2) >>= fun v4 =>
     some (v4.1, v4.2)
def M174 : L174 → (ApiSelector × QueryReader) → Prop
 | .e174 a0, r => ∀ (w : World) (F : Nat → Prop) (ρ : Rho), AK Tryz.prog (ctx GG 21 w F ρ [(10000, .cells 125 [.str a0.s, .int .i64 a0.pos, .bool a0.bad])]) 174 [.code b174] (argE 0 [.ref 10000 0]) [(10000, .cells 125 [.str a0.s, .int .i64 a0.pos, .bool a0.bad])] (fun z σ' => z = .agg [.int .i64 r.1.kind, .str r.1.name, .int .i64 r.1.index, .int .i64 r.1.start, .int .i64 r.1.stop, .bool r.1.hasStart, .bool r.1.hasEnd, .int .i64 r.1.stride] ∧ σ' = [(10000, .cells 125 [.str r.2.s, .int .i64 r.2.pos, .bool r.2.bad])])
theorem w174 : ∀ (l : L174) (r : ApiSelector × QueryReader), f174 l = some r → M174 l r := (by
 intro l r h
 cases l with
 | e174 a0 =>
  intro w F ρ
  dsimp only [f174] at h
  refine ak_seq ?_
  refine ak_regionS (.cons rfl (ok_alloc (d := 2) (dlt rfl rfl) rfl ty49 rfl rfl rfl) (.nil ?_))
  refine ak_seq ?_
  refine ak_block ?_
  refine ak_seq ?_
  obtain ⟨v1, hv1, h⟩ := bind_of h
  refine ak_regionS (.cons rfl (ok_move (dlt rfl rfl) rfl rfl) (.cons rfl (ok_callL (xs := [.ref 10000 0, .str ([42] : List UInt8)]) (caps := []) (xs1 := [.ref 10000 0, .str ([42] : List UInt8)]) (z := .bool v1.1) (ups := [(10000, .cells 125 [.str v1.2.s, .int .i64 v1.2.pos, .bool v1.2.bad])]) (dlt rfl rfl) [(10000, (10000, some (0, 3)))] [] rfl rfl Tryz.func68 rfl rfl rfl (.cons (.refl _) (.cons (.refl _) (.nil))) (.cons (.ref rfl rfl) (.cons (.same rfl) (.nil))) (.cells rfl rfl (by decide) rfl (.cons (.refl _) (.cons (.refl _) (.cons (.refl _) (.nil)))) (.cons (.same rfl) (.cons (.same rfl) (.cons (.same rfl) (.nil)))) .nil) rfl (d68 hv1) (.cells (l := 10000) rfl rfl rfl rfl (.cons (.same rfl) (.cons (.same rfl) (.cons (.same rfl) (.nil)))) (Nat.succ_ne_zero _) rfl .nil) rfl rfl rfl (by intro d h; simp at h) rfl (.same rfl)) (.cons rfl (ok_assign (dlt rfl rfl) rfl rfl) (.nil ?_))))
  refine ak_cond rfl (fun ht => ?_) (fun ht => ?_)
  ·have h := cond_t ht h
   exact no_of h
  ·have h := cond_f ht h
   refine ak_seq ?_
   obtain ⟨v2, hv2, h⟩ := bind_of h
   refine ak_regionS (.cons rfl (ok_move (dlt rfl rfl) rfl rfl) (.cons rfl (ok_callL (xs := [.ref 10000 0, .str ([34] : List UInt8)]) (caps := []) (xs1 := [.ref 10000 0, .str ([34] : List UInt8)]) (z := .bool v2.1) (ups := [(10000, .cells 125 [.str v2.2.s, .int .i64 v2.2.pos, .bool v2.2.bad])]) (dlt rfl rfl) [(10000, (10000, some (0, 3)))] [] rfl rfl Tryz.func68 rfl rfl rfl (.cons (.refl _) (.cons (.refl _) (.nil))) (.cons (.ref rfl rfl) (.cons (.same rfl) (.nil))) (.cells rfl rfl (by decide) rfl (.cons (.refl _) (.cons (.refl _) (.cons (.refl _) (.nil)))) (.cons (.same rfl) (.cons (.same rfl) (.cons (.same rfl) (.nil)))) .nil) rfl (d68 hv2) (.cells (l := 10000) rfl rfl rfl rfl (.cons (.same rfl) (.cons (.same rfl) (.cons (.same rfl) (.nil)))) (Nat.succ_ne_zero _) rfl .nil) rfl rfl rfl (by intro d h; simp at h) rfl (.same rfl)) (.cons rfl (ok_assign (dlt rfl rfl) rfl rfl) (.nil ?_))))
   refine ak_cond rfl (fun ht => ?_) (fun ht => ?_)
   ·have h := cond_t ht h
    exact no_of h
   ·have h := cond_f ht h
    refine ak_seq ?_
    obtain ⟨v3, hv3, h⟩ := bind_of h
    refine ak_regionS (.cons rfl (ok_move (dlt rfl rfl) rfl rfl) (.cons rfl (ok_callL (xs := [.ref 10000 0, .str ([39] : List UInt8)]) (caps := []) (xs1 := [.ref 10000 0, .str ([39] : List UInt8)]) (z := .bool v3.1) (ups := [(10000, .cells 125 [.str v3.2.s, .int .i64 v3.2.pos, .bool v3.2.bad])]) (dlt rfl rfl) [(10000, (10000, some (0, 3)))] [] rfl rfl Tryz.func68 rfl rfl rfl (.cons (.refl _) (.cons (.refl _) (.nil))) (.cons (.ref rfl rfl) (.cons (.same rfl) (.nil))) (.cells rfl rfl (by decide) rfl (.cons (.refl _) (.cons (.refl _) (.cons (.refl _) (.nil)))) (.cons (.same rfl) (.cons (.same rfl) (.cons (.same rfl) (.nil)))) .nil) rfl (d68 hv3) (.cells (l := 10000) rfl rfl rfl rfl (.cons (.same rfl) (.cons (.same rfl) (.cons (.same rfl) (.nil)))) (Nat.succ_ne_zero _) rfl .nil) rfl rfl rfl (by intro d h; simp at h) rfl (.same rfl)) (.cons rfl (ok_assign (dlt rfl rfl) rfl rfl) (.nil ?_))))
    refine ak_cond rfl (fun ht => ?_) (fun ht => ?_)
    ·have h := cond_t ht h
     exact no_of h
    ·have h := cond_f ht h
     refine ak_skip ?_
     refine ak_inBlock ?_
     refine ak_seq ?_
     obtain ⟨v4, hv4, h⟩ := bind_of h
     refine ak_regionS (.cons rfl (ok_move (dlt rfl rfl) rfl rfl) (.cons rfl (ok_callL (xs := [.ref 10000 0]) (caps := []) (xs1 := [.ref 10000 0]) (z := .agg [.int .i64 v4.1.kind, .str v4.1.name, .int .i64 v4.1.index, .int .i64 v4.1.start, .int .i64 v4.1.stop, .bool v4.1.hasStart, .bool v4.1.hasEnd, .int .i64 v4.1.stride]) (ups := [(10000, .cells 125 [.str v4.2.s, .int .i64 v4.2.pos, .bool v4.2.bad])]) (dlt rfl rfl) [(10000, (10000, some (0, 3)))] [] rfl rfl Tryz.func207 rfl rfl rfl (.cons (.refl _) (.nil)) (.cons (.ref rfl rfl) (.nil)) (.cells rfl rfl (by decide) rfl (.cons (.refl _) (.cons (.refl _) (.cons (.refl _) (.nil)))) (.cons (.same rfl) (.cons (.same rfl) (.cons (.same rfl) (.nil)))) .nil) rfl (d207 hv4) (.cells (l := 10000) rfl rfl rfl rfl (.cons (.same rfl) (.cons (.same rfl) (.cons (.same rfl) (.nil)))) (Nat.succ_ne_zero _) rfl .nil) rfl rfl rfl (by intro d h; simp at h) rfl (.same rfl)) (.cons rfl (ok_storeV rfl rfl ty49 rfl rfl rfl rfl (by decide) rfl rfl) (.nil ?_))))
     obtain rfl := Option.some.inj h
     refine ak_conv (Γ' := [(2, .ref 2 0)]) (σ' := [(2, .cells 49 [.int .i64 v4.1.kind, .str v4.1.name, .int .i64 v4.1.index, .int .i64 v4.1.start, .int .i64 v4.1.stop, .bool v4.1.hasStart, .bool v4.1.hasEnd, .int .i64 v4.1.stride]), (10000, .cells 125 [.str v4.2.s, .int .i64 v4.2.pos, .bool v4.2.bad])]) (.cons rfl (.refl _) (.nil _)) (.cons rfl (.refl _) (.cons rfl (.cells (.cons (.refl _) (.cons (.refl _) (.cons (.refl _) (.nil))))) (.nil _))) ?_
     exact ak_retC (fn := Tryz.f174) [(10000, .cells 125 [.str v4.2.s, .int .i64 v4.2.pos, .bool v4.2.bad])] (.cons rfl (.refl _) (.nil _)) Tryz.func174 rfl ⟨⟨_, _, _, _, _, _, rfl, rfl, ty49⟩, trivial⟩ ⟨rfl, rfl⟩)
theorem d174 {a0 : QueryReader} {r : ApiSelector × QueryReader} (h : f174 (.e174 a0) = some r) : Does Tryz.prog GG 174 [.ref 10000 0] [(10000, .cells 125 [.str a0.s, .int .i64 a0.pos, .bool a0.bad])] (fun z σ' => z = .agg [.int .i64 r.1.kind, .str r.1.name, .int .i64 r.1.index, .int .i64 r.1.start, .int .i64 r.1.stop, .bool r.1.hasStart, .bool r.1.hasEnd, .int .i64 r.1.stride] ∧ σ' = [(10000, .cells 125 [.str r.2.s, .int .i64 r.2.pos, .bool r.2.bad])]) := fn_of (fn := Tryz.f174) Tryz.func174 rfl Tryz.ntmps174 rfl (w174 _ _ h)
/-- (*riffle/query.reader).bracketed -/
noncomputable abbrev b122 : Code := codeOf Tryz.f122
inductive L122 where
 | e122 (a0 : QueryReader)
 | l122_0 (a0 : List ApiSelector) (a1 : QueryReader)
noncomputable def f122 : L122 → Option ((List ApiSelector) × QueryReader)
 | .e122 a0 =>
  f122 (.l122_0 ([] : List ApiSelector) a0)
 | .l122_0 a0 a1 =>
  if (!a1.bad) = true then
   f69 (.e69 a1) >>= fun v1 =>
   f174 (.e174 v1) >>= fun v2 =>
   room a0.length ([v2.1] : List ApiSelector).length 64 >>= fun v3 =>
   f69 (.e69 v2.2) >>= fun v4 =>
   f68 (.e68 v4 ([93] : List UInt8)) >>= fun v5 =>
   if v5.1 = true then
    some ((a0 ++ ([v2.1] : List ApiSelector)), v5.2)
   else
    none
  else
   none
 partial_fixpoint
def M122 : L122 → ((List ApiSelector) × QueryReader) → Prop
 | .e122 a0, r => ∀ (w : World) (F : Nat → Prop) (ρ : Rho), AK Tryz.prog (ctx GG 33 w F ρ [(10000, .cells 125 [.str a0.s, .int .i64 a0.pos, .bool a0.bad])]) 122 [.code b122] (argE 0 [.ref 10000 0]) [(10000, .cells 125 [.str a0.s, .int .i64 a0.pos, .bool a0.bad])] (fun z σ' => z = .sl Ty.sApiSelector r.1 ∧ σ' = [(10000, .cells 125 [.str r.2.s, .int .i64 r.2.pos, .bool r.2.bad])])
 | .l122_0 a0 a1, r => ∀ (w : World) (F : Nat → Prop) (ρ : Rho) (S : Nat → Prop), AK Tryz.prog (ctxL GG 33 w F ρ S [10000]) 122 [.code (c1 (c1 (c1 (c2 (c2 b122))))), .inLoop (c1 (c1 (c1 (c2 (c2 b122))))), .inBlock 0, .code (c2 (c2 (c2 b122)))] [(0, .ref 10000 0), (3, .mf 8 1003)] [(1003, .arr 49 Ty.sApiSelector a0), (10000, .cells 125 [.str a1.s, .int .i64 a1.pos, .bool a1.bad])] (fun z σ' => z = .sl Ty.sApiSelector r.1 ∧ σ' = [(10000, .cells 125 [.str r.2.s, .int .i64 r.2.pos, .bool r.2.bad])])
theorem w122 : ∀ (l : L122) (r : (List ApiSelector) × QueryReader), f122 l = some r → M122 l r := f122.partial_correctness M122 (by
 intro f ih l r h
 cases l with
 | e122 a0 =>
  intro w F ρ
  dsimp only at h
  refine ak_seq ?_
  refine ak_regionS (.cons rfl (ok_assign (dlt rfl rfl) rfl rfl) (.nil ?_))
  refine ak_seq ?_
  refine ak_regionS (.cons rfl (ok_assign (dlt rfl rfl) rfl rfl) (.nil ?_))
  refine ak_nilRow (s := 3) (d := 1003) (e := 49) Ty.sApiSelector rfl rfl rfl ?_
  refine ak_seq ?_
  refine ak_block ?_
  refine ak_loop ?_
  exact ak_conv (.cons rfl (.refl _) (.cons rfl (.refl _) (.nil _))) (.cons rfl (.refl _) (.cons rfl (.refl _) (.nil _))) (ih _ _ h w F ρ _)
 | l122_0 a0 a1 =>
  intro w F ρ S
  dsimp only at h
  refine ak_seq ?_
  refine ak_seq ?_
  refine ak_regionS (.cons rfl (ok_move (dlt rfl rfl) rfl rfl) (.cons rfl (ok_nilCheckV (dlt rfl rfl) rfl rfl) (.cons rfl (ok_fieldV (dlt rfl rfl) rfl fo125_2 ty4 (by decide) rfl) (.cons rfl (ok_loadV (dlt rfl rfl) rfl ty4 rfl rfl rfl) (.cons rfl (ok_not (dlt rfl rfl) rfl rfl) (.nil ?_))))))
  refine ak_cond rfl (fun ht => ?_) (fun ht => ?_)
  ·have h := cond_t ht h
   refine ak_skip ?_
   refine ak_block ?_
   refine ak_seq ?_
   obtain ⟨v1, hv1, h⟩ := bind_of h
   refine ak_regionS (.cons rfl (ok_move (dlt rfl rfl) rfl rfl) (.cons rfl (ok_callL (xs := [.ref 10000 0]) (caps := []) (xs1 := [.ref 10000 0]) (z := .tup []) (ups := [(10000, .cells 125 [.str v1.s, .int .i64 v1.pos, .bool v1.bad])]) (dlt rfl rfl) [(10000, (10000, some (0, 3)))] [] rfl rfl Tryz.func69 rfl rfl rfl (.cons (.refl _) (.nil)) (.cons (.ref rfl rfl) (.nil)) (.cells rfl rfl (by decide) rfl (.cons (.refl _) (.cons (.refl _) (.cons (.refl _) (.nil)))) (.cons (.same rfl) (.cons (.same rfl) (.cons (.same rfl) (.nil)))) .nil) rfl (d69 hv1) (.cells (l := 10000) rfl rfl rfl rfl (.cons (.same rfl) (.cons (.same rfl) (.cons (.same rfl) (.nil)))) (Nat.succ_ne_zero _) rfl .nil) rfl rfl rfl (by intro d h; simp at h) rfl (.same rfl)) (.nil ?_)))
   refine ak_seq ?_
   obtain ⟨v2, hv2, h⟩ := bind_of h
   obtain ⟨v3, hv3, h⟩ := bind_of h
   refine ak_regionS (.cons rfl (ok_move (dlt rfl rfl) rfl rfl) (.cons rfl (ok_move (dlt rfl rfl) rfl rfl) (.cons rfl (ok_callL (xs := [.ref 10000 0]) (caps := []) (xs1 := [.ref 10000 0]) (z := .agg [.int .i64 v2.1.kind, .str v2.1.name, .int .i64 v2.1.index, .int .i64 v2.1.start, .int .i64 v2.1.stop, .bool v2.1.hasStart, .bool v2.1.hasEnd, .int .i64 v2.1.stride]) (ups := [(10000, .cells 125 [.str v2.2.s, .int .i64 v2.2.pos, .bool v2.2.bad])]) (dlt rfl rfl) [(10000, (10000, some (0, 3)))] [] rfl rfl Tryz.func174 rfl rfl rfl (.cons (.refl _) (.nil)) (.cons (.ref rfl rfl) (.nil)) (.cells rfl rfl (by decide) rfl (.cons (.refl _) (.cons (.refl _) (.cons (.refl _) (.nil)))) (.cons (.same rfl) (.cons (.same rfl) (.cons (.same rfl) (.nil)))) .nil) rfl (d174 hv2) (.cells (l := 10000) rfl rfl rfl rfl (.cons (.same rfl) (.cons (.same rfl) (.cons (.same rfl) (.nil)))) (Nat.succ_ne_zero _) rfl .nil) rfl rfl rfl (by intro d h; simp at h) rfl (.same rfl)) (.cons rfl (ok_lit (τ := Ty.sApiSelector) (dlt rfl rfl) ([v2.1] : List ApiSelector) rfl Tryz.underlying45 ty49 rfl rfl rfl rfl rfl (by decide) (by decide) rfl) (.cons rfl (ok_appendF (τ := Ty.sApiSelector) (xs := a0) (ys := ([v2.1] : List ApiSelector)) (dlt rfl rfl) rfl Tryz.underlying45 ty49 rfl rfl rfl rfl (room_1 hv3) (room_2 hv3)) (.cons rfl (ok_assign (dlt rfl rfl) rfl rfl) (.nil ?_)))))))
   refine ak_seq ?_
   obtain ⟨v4, hv4, h⟩ := bind_of h
   refine ak_regionS (.cons rfl (ok_move (dlt rfl rfl) rfl rfl) (.cons rfl (ok_callL (xs := [.ref 10000 0]) (caps := []) (xs1 := [.ref 10000 0]) (z := .tup []) (ups := [(10000, .cells 125 [.str v4.s, .int .i64 v4.pos, .bool v4.bad])]) (dlt rfl rfl) [(10000, (10000, some (0, 3)))] [] rfl rfl Tryz.func69 rfl rfl rfl (.cons (.refl _) (.nil)) (.cons (.ref rfl rfl) (.nil)) (.cells rfl rfl (by decide) rfl (.cons (.refl _) (.cons (.refl _) (.cons (.refl _) (.nil)))) (.cons (.same rfl) (.cons (.same rfl) (.cons (.same rfl) (.nil)))) .nil) rfl (d69 hv4) (.cells (l := 10000) rfl rfl rfl rfl (.cons (.same rfl) (.cons (.same rfl) (.cons (.same rfl) (.nil)))) (Nat.succ_ne_zero _) rfl .nil) rfl rfl rfl (by intro d h; simp at h) rfl (.same rfl)) (.nil ?_)))
   refine ak_seq ?_
   refine ak_seq ?_
   obtain ⟨v5, hv5, h⟩ := bind_of h
   refine ak_regionS (.cons rfl (ok_move (dlt rfl rfl) rfl rfl) (.cons rfl (ok_callL (xs := [.ref 10000 0, .str ([93] : List UInt8)]) (caps := []) (xs1 := [.ref 10000 0, .str ([93] : List UInt8)]) (z := .bool v5.1) (ups := [(10000, .cells 125 [.str v5.2.s, .int .i64 v5.2.pos, .bool v5.2.bad])]) (dlt rfl rfl) [(10000, (10000, some (0, 3)))] [] rfl rfl Tryz.func68 rfl rfl rfl (.cons (.refl _) (.cons (.refl _) (.nil))) (.cons (.ref rfl rfl) (.cons (.same rfl) (.nil))) (.cells rfl rfl (by decide) rfl (.cons (.refl _) (.cons (.refl _) (.cons (.refl _) (.nil)))) (.cons (.same rfl) (.cons (.same rfl) (.cons (.same rfl) (.nil)))) .nil) rfl (d68 hv5) (.cells (l := 10000) rfl rfl rfl rfl (.cons (.same rfl) (.cons (.same rfl) (.cons (.same rfl) (.nil)))) (Nat.succ_ne_zero _) rfl .nil) rfl rfl rfl (by intro d h; simp at h) rfl (.same rfl)) (.nil ?_)))
   refine ak_cond rfl (fun ht => ?_) (fun ht => ?_)
   ·have h := cond_t ht h
    refine ak_seq ?_
    refine ak_regionS (.cons rfl (ok_move (dlt rfl rfl) rfl rfl) (.cons rfl (ok_assign (dlt rfl rfl) rfl rfl) (.nil ?_)))
    obtain rfl := Option.some.inj h
    refine ak_freeze 1003 rfl ?_
    refine ak_conv (Γ' := [(2, .sl Ty.sApiSelector (a0 ++ ([v2.1] : List ApiSelector)))]) (σ' := [(10000, .cells 125 [.str v5.2.s, .int .i64 v5.2.pos, .bool v5.2.bad])]) (.cons rfl (.refl _) (.nil _)) (.cons rfl (.cells (.cons (.refl _) (.cons (.refl _) (.cons (.refl _) (.nil))))) (.nil _)) ?_
    exact ak_retC (fn := Tryz.f122) [(10000, .cells 125 [.str v5.2.s, .int .i64 v5.2.pos, .bool v5.2.bad])] (.cons rfl (.refl _) (.nil _)) Tryz.func122 rfl trivial ⟨rfl, rfl⟩
   ·have h := cond_f ht h
    exact no_of h
  ·have h := cond_f ht h
   exact no_of h)
theorem d122 {a0 : QueryReader} {r : (List ApiSelector) × QueryReader} (h : f122 (.e122 a0) = some r) : Does Tryz.prog GG 122 [.ref 10000 0] [(10000, .cells 125 [.str a0.s, .int .i64 a0.pos, .bool a0.bad])] (fun z σ' => z = .sl Ty.sApiSelector r.1 ∧ σ' = [(10000, .cells 125 [.str r.2.s, .int .i64 r.2.pos, .bool r.2.bad])]) := fn_of (fn := Tryz.f122) Tryz.func122 rfl Tryz.ntmps122 rfl (w122 _ _ h)
/-- riffle/octet.Alpha -/
noncomputable abbrev b175 : Code := codeOf Tryz.f175
inductive L175 where
 | e175 (a0 : Int)
noncomputable def f175 : L175 → Option Bool
 | .e175 a0 =>
  none
def M175 : L175 → Bool → Prop
 | .e175 a0, r => ∀ (w : World) (F : Nat → Prop) (ρ : Rho), AK Tryz.prog (ctx GG 17 w F ρ []) 175 [.code b175] (argE 0 [.int .u8 a0]) [] (fun z _ => z = .bool r)
theorem w175 : ∀ (l : L175) (r : Bool), f175 l = some r → M175 l r := (by
 intro l r h
 cases l with
 | e175 a0 =>
  intro w F ρ
  dsimp only [f175] at h
  exact no_of h)
theorem d175 {a0 : Int} {r : Bool} (h : f175 (.e175 a0) = some r) : Does Tryz.prog GG 175 [.int .u8 a0] [] (fun z _ => z = .bool r) := fn_of (fn := Tryz.f175) Tryz.func175 rfl Tryz.ntmps175 rfl (w175 _ _ h)
/-- (*riffle/query.reader).plain -/
noncomputable abbrev b123 : Code := codeOf Tryz.f123
inductive L123 where
 | e123 (a0 : QueryReader)
noncomputable def f123 : L123 → Option ((List UInt8) × QueryReader)
 | .e123 a0 =>
  none
def M123 : L123 → ((List UInt8) × QueryReader) → Prop
 | .e123 a0, r => ∀ (w : World) (F : Nat → Prop) (ρ : Rho), AK Tryz.prog (ctx GG 69 w F ρ [(10000, .cells 125 [.str a0.s, .int .i64 a0.pos, .bool a0.bad])]) 123 [.code b123] (argE 0 [.ref 10000 0]) [(10000, .cells 125 [.str a0.s, .int .i64 a0.pos, .bool a0.bad])] (fun z σ' => z = .str r.1 ∧ σ' = [(10000, .cells 125 [.str r.2.s, .int .i64 r.2.pos, .bool r.2.bad])])
theorem w123 : ∀ (l : L123) (r : (List UInt8) × QueryReader), f123 l = some r → M123 l r := (by
 intro l r h
 cases l with
 | e123 a0 =>
  intro w F ρ
  dsimp only [f123] at h
  exact no_of h)
theorem d123 {a0 : QueryReader} {r : (List UInt8) × QueryReader} (h : f123 (.e123 a0) = some r) : Does Tryz.prog GG 123 [.ref 10000 0] [(10000, .cells 125 [.str a0.s, .int .i64 a0.pos, .bool a0.bad])] (fun z σ' => z = .str r.1 ∧ σ' = [(10000, .cells 125 [.str r.2.s, .int .i64 r.2.pos, .bool r.2.bad])]) := fn_of (fn := Tryz.f123) Tryz.func123 rfl Tryz.ntmps123 rfl (w123 _ _ h)
end Go.Proofs.YtonlbdholdaifaaGreatDoor
end
section
set_option linter.unusedVariables false
set_option linter.unusedSimpArgs false
set_option maxRecDepth 10000
namespace Go.Proofs.YtonlbdholdaifaaGreatDoor
open Go Go.Rf Go.Proofs
/-- (*riffle/query.reader).segment -/
noncomputable abbrev b70 : Code := codeOf Tryz.f70
inductive L70 where
 | e70 (a0 : QueryReader)
 | l70_0 (a0 : Bool) (a1 : Bool) (a2 : Bool) (a3 : QueryReader)
 | l70_1 (a0 : Bool) (a1 : Bool) (a2 : Bool) (a3 : Bool) (a4 : QueryReader)
 | l70_2 (a0 : Bool) (a1 : List ApiSelector) (a2 : Bool) (a3 : QueryReader)
noncomputable def f70 : L70 → Option (ApiSegment × QueryReader)
 | .e70 a0 =>
  f68 (.e68 a0 ([46, 46] : List UInt8)) >>= fun v1 =>
  if (!v1.1) = true then
   f68 (.e68 v1.2 ([46] : List UInt8)) >>= fun v2 =>
   f70 (.l70_0 ((!v1.1) && v2.1) v1.1 false v2.2)
  else
   f70 (.l70_0 ((!v1.1) && false) v1.1 false v1.2)
 | .l70_0 a0 a1 a2 a3 =>
  if (!a0) = true then
   f68 (.e68 a3 ([91] : List UInt8)) >>= fun v3 =>
   f70 (.l70_1 a0 ((!a0) && v3.1) a1 a2 v3.2)
  else
   f70 (.l70_1 a0 ((!a0) && false) a1 a2 a3)
 | .l70_1 a0 a1 a2 a3 a4 =>
  if a1 = true then
   f122 (.e122 a4) >>= fun v4 =>
   f70 (.l70_2 a2 v4.1 a3 v4.2)
  else
   none
 | .l70_2 a0 a1 a2 a3 =>
  some ((⟨a0, a1⟩ : ApiSegment), a3)
 partial_fixpoint
def M70 : L70 → (ApiSegment × QueryReader) → Prop
 | .e70 a0, r => ∀ (w : World) (F : Nat → Prop) (ρ : Rho), AK Tryz.prog (ctx GG 66 w F ρ [(10000, .cells 125 [.str a0.s, .int .i64 a0.pos, .bool a0.bad])]) 70 [.code b70] (argE 0 [.ref 10000 0]) [(10000, .cells 125 [.str a0.s, .int .i64 a0.pos, .bool a0.bad])] (fun z σ' => z = .agg [.bool r.1.deep, .sl Ty.sApiSelector r.1.selectors] ∧ σ' = [(10000, .cells 125 [.str r.2.s, .int .i64 r.2.pos, .bool r.2.bad])])
 | .l70_0 a0 a1 a2 a3, r => ∀ (w : World) (F : Nat → Prop) (ρ : Rho) (S : Nat → Prop), AK Tryz.prog (ctxL GG 66 w F ρ S [10000]) 70 [.code (c2 (c2 (c2 (c2 b70))))] [(0, .ref 10000 0), (2, .ref 2 0), (3, .ref 3 0), (4, .bool a0)] [(3, .cells 47 [.bool a1, .nils]), (2, .cells 47 [.bool a2, .nils]), (10000, .cells 125 [.str a3.s, .int .i64 a3.pos, .bool a3.bad])] (fun z σ' => z = .agg [.bool r.1.deep, .sl Ty.sApiSelector r.1.selectors] ∧ σ' = [(10000, .cells 125 [.str r.2.s, .int .i64 r.2.pos, .bool r.2.bad])])
 | .l70_1 a0 a1 a2 a3 a4, r => ∀ (w : World) (F : Nat → Prop) (ρ : Rho) (S : Nat → Prop), AK Tryz.prog (ctxL GG 66 w F ρ S [10000]) 70 [.code (c2 (c1 (c1 (c2 (c2 (c2 (c2 b70))))))), .inBlock 0, .code (c2 (c2 (c2 (c2 (c2 b70)))))] [(0, .ref 10000 0), (2, .ref 2 0), (3, .ref 3 0), (4, .bool a0), (19, .bool a1)] [(3, .cells 47 [.bool a2, .nils]), (2, .cells 47 [.bool a3, .nils]), (10000, .cells 125 [.str a4.s, .int .i64 a4.pos, .bool a4.bad])] (fun z σ' => z = .agg [.bool r.1.deep, .sl Ty.sApiSelector r.1.selectors] ∧ σ' = [(10000, .cells 125 [.str r.2.s, .int .i64 r.2.pos, .bool r.2.bad])])
 | .l70_2 a0 a1 a2 a3, r => ∀ (w : World) (F : Nat → Prop) (ρ : Rho) (S : Nat → Prop), AK Tryz.prog (ctxL GG 66 w F ρ S [10000]) 70 [.inBlock 0, .code (c2 (c2 (c2 (c2 (c2 b70)))))] [(2, .ref 2 0), (3, .ref 3 0)] [(3, .cells 47 [.bool a0, .sl Ty.sApiSelector a1]), (2, .cells 47 [.bool a2, .nils]), (10000, .cells 125 [.str a3.s, .int .i64 a3.pos, .bool a3.bad])] (fun z σ' => z = .agg [.bool r.1.deep, .sl Ty.sApiSelector r.1.selectors] ∧ σ' = [(10000, .cells 125 [.str r.2.s, .int .i64 r.2.pos, .bool r.2.bad])])
theorem w70 : ∀ (l : L70) (r : ApiSegment × QueryReader), f70 l = some r → M70 l r := f70.partial_correctness M70 (by
 intro f ih l r h
 cases l with
 | e70 a0 =>
  intro w F ρ
  dsimp only at h
  refine ak_seq ?_
  refine ak_regionS (.cons rfl (ok_alloc (d := 2) (dlt rfl rfl) rfl ty47 rfl rfl rfl) (.nil ?_))
  refine ak_seq ?_
  refine ak_regionS (.cons rfl (ok_alloc (d := 3) (dlt rfl rfl) rfl ty47 rfl rfl rfl) (.nil ?_))
  refine ak_seq ?_
  obtain ⟨v1, hv1, h⟩ := bind_of h
  refine ak_regionS (.cons rfl (ok_move (dlt rfl rfl) rfl rfl) (.cons rfl (ok_callL (xs := [.ref 10000 0, .str ([46, 46] : List UInt8)]) (caps := []) (xs1 := [.ref 10000 0, .str ([46, 46] : List UInt8)]) (z := .bool v1.1) (ups := [(10000, .cells 125 [.str v1.2.s, .int .i64 v1.2.pos, .bool v1.2.bad])]) (dlt rfl rfl) [(10000, (10000, some (0, 3)))] [] rfl rfl Tryz.func68 rfl rfl rfl (.cons (.refl _) (.cons (.refl _) (.nil))) (.cons (.ref rfl rfl) (.cons (.same rfl) (.nil))) (.cells rfl rfl (by decide) rfl (.cons (.refl _) (.cons (.refl _) (.cons (.refl _) (.nil)))) (.cons (.same rfl) (.cons (.same rfl) (.cons (.same rfl) (.nil)))) .nil) rfl (d68 hv1) (.cells (l := 10000) rfl rfl rfl rfl (.cons (.same rfl) (.cons (.same rfl) (.cons (.same rfl) (.nil)))) (Nat.succ_ne_zero _) rfl .nil) rfl rfl rfl (by intro d h; simp at h) rfl (.same rfl)) (.cons rfl (ok_fieldV (dlt rfl rfl) rfl fo47_0 ty4 (by decide) rfl) (.cons rfl (ok_storeV rfl rfl ty4 rfl rfl rfl rfl (by decide) rfl rfl) (.nil ?_)))))
  refine ak_seq ?_
  refine ak_regionS (.cons rfl (ok_fieldV (dlt rfl rfl) rfl fo47_0 ty4 (by decide) rfl) (.cons rfl (ok_loadV (dlt rfl rfl) rfl ty4 rfl rfl rfl) (.cons rfl (ok_not (dlt rfl rfl) rfl rfl) (.cons rfl (ok_move (dlt rfl rfl) rfl rfl) (.consG (pre := []) (dlt rfl rfl) rfl rfl rfl rfl .nil (fun he => ok_move (dlt rfl rfl) rfl rfl) (.split (!v1.1) (fun he1 => ?_) (fun he1 => ?_)))))))
  ·have h := cond_t he1 h
   obtain ⟨v2, hv2, h⟩ := bind_of h
   refine (.pre (pre := [(13, .ref 10000 0)]) he1 (.cons rfl (fun _ => he1) .nil) (.run rfl rfl rfl rfl he1 (ok_callL (xs := [.ref 10000 0, .str ([46] : List UInt8)]) (caps := []) (xs1 := [.ref 10000 0, .str ([46] : List UInt8)]) (z := .bool v2.1) (ups := [(10000, .cells 125 [.str v2.2.s, .int .i64 v2.2.pos, .bool v2.2.bad])]) (dlt rfl rfl) [(10000, (10000, some (0, 3)))] [] rfl rfl Tryz.func68 rfl rfl rfl (.cons (.refl _) (.cons (.refl _) (.nil))) (.cons (.ref rfl rfl) (.cons (.same rfl) (.nil))) (.cells rfl rfl (by decide) rfl (.cons (.refl _) (.cons (.refl _) (.cons (.refl _) (.nil)))) (.cons (.same rfl) (.cons (.same rfl) (.cons (.same rfl) (.nil)))) .nil) rfl (d68 hv2) (.cells (l := 10000) rfl rfl rfl rfl (.cons (.same rfl) (.cons (.same rfl) (.cons (.same rfl) (.nil)))) (Nat.succ_ne_zero _) rfl .nil) rfl rfl rfl (by intro d h; simp at h) rfl (.same rfl)) (.cons rfl (ok_andP (dlt rfl rfl) rfl rfl rfl) (.cons rfl (ok_assign (dlt rfl rfl) rfl rfl) (.nil ?_)))))
   exact ak_conv (.cons rfl (.refl _) (.cons rfl (.refl _) (.cons rfl (.refl _) (.cons rfl (.refl _) (.nil _))))) (.cons rfl (.refl _) (.cons rfl (.refl _) (.cons rfl (.refl _) (.nil _)))) (ih _ _ h w F ρ _)
  ·have h := cond_f he1 h
   refine (.skip (.bool false) (dlt rfl rfl) rfl rfl rfl rfl he1 (.cons rfl (ok_andW (dlt rfl rfl) rfl rfl rfl (fun h => h)) (.cons rfl (ok_assign (dlt rfl rfl) rfl rfl) (.nil ?_))))
   exact ak_conv (.cons rfl (.refl _) (.cons rfl (.refl _) (.cons rfl (.refl _) (.cons rfl (.refl _) (.nil _))))) (.cons rfl (.refl _) (.cons rfl (.refl _) (.cons rfl (.refl _) (.nil _)))) (ih _ _ h w F ρ _)
 | l70_0 a0 a1 a2 a3 =>
  intro w F ρ S
  dsimp only at h
  refine ak_seq ?_
  refine ak_block ?_
  refine ak_seq ?_
  refine ak_regionS (.cons rfl (ok_move (dlt rfl rfl) rfl rfl) (.cons rfl (ok_not (dlt rfl rfl) rfl rfl) (.cons rfl (ok_move (dlt rfl rfl) rfl rfl) (.consG (pre := []) (dlt rfl rfl) rfl rfl rfl rfl .nil (fun he => ok_move (dlt rfl rfl) rfl rfl) (.split (!a0) (fun he2 => ?_) (fun he2 => ?_))))))
  ·have h := cond_t he2 h
   obtain ⟨v3, hv3, h⟩ := bind_of h
   refine (.pre (pre := [(23, .ref 10000 0)]) he2 (.cons rfl (fun _ => he2) .nil) (.run rfl rfl rfl rfl he2 (ok_callL (xs := [.ref 10000 0, .str ([91] : List UInt8)]) (caps := []) (xs1 := [.ref 10000 0, .str ([91] : List UInt8)]) (z := .bool v3.1) (ups := [(10000, .cells 125 [.str v3.2.s, .int .i64 v3.2.pos, .bool v3.2.bad])]) (dlt rfl rfl) [(10000, (10000, some (0, 3)))] [] rfl rfl Tryz.func68 rfl rfl rfl (.cons (.refl _) (.cons (.refl _) (.nil))) (.cons (.ref rfl rfl) (.cons (.same rfl) (.nil))) (.cells rfl rfl (by decide) rfl (.cons (.refl _) (.cons (.refl _) (.cons (.refl _) (.nil)))) (.cons (.same rfl) (.cons (.same rfl) (.cons (.same rfl) (.nil)))) .nil) rfl (d68 hv3) (.cells (l := 10000) rfl rfl rfl rfl (.cons (.same rfl) (.cons (.same rfl) (.cons (.same rfl) (.nil)))) (Nat.succ_ne_zero _) rfl .nil) rfl rfl rfl (by intro d h; simp at h) rfl (.same rfl)) (.cons rfl (ok_andP (dlt rfl rfl) rfl rfl rfl) (.cons rfl (ok_assign (dlt rfl rfl) rfl rfl) (.nil ?_)))))
   exact ak_conv (.cons rfl (.refl _) (.cons rfl (.refl _) (.cons rfl (.refl _) (.cons rfl (.refl _) (.cons rfl (.refl _) (.nil _)))))) (.cons rfl (.refl _) (.cons rfl (.refl _) (.cons rfl (.refl _) (.nil _)))) (ih _ _ h w F ρ _)
  ·have h := cond_f he2 h
   refine (.skip (.bool false) (dlt rfl rfl) rfl rfl rfl rfl he2 (.cons rfl (ok_andW (dlt rfl rfl) rfl rfl rfl (fun h => h)) (.cons rfl (ok_assign (dlt rfl rfl) rfl rfl) (.nil ?_))))
   exact ak_conv (.cons rfl (.refl _) (.cons rfl (.refl _) (.cons rfl (.refl _) (.cons rfl (.refl _) (.cons rfl (.refl _) (.nil _)))))) (.cons rfl (.refl _) (.cons rfl (.refl _) (.cons rfl (.refl _) (.nil _)))) (ih _ _ h w F ρ _)
 | l70_1 a0 a1 a2 a3 a4 =>
  intro w F ρ S
  dsimp only at h
  refine ak_cond rfl (fun ht => ?_) (fun ht => ?_)
  ·have h := cond_t ht h
   obtain ⟨v4, hv4, h⟩ := bind_of h
   refine ak_regionS (.cons rfl (ok_move (dlt rfl rfl) rfl rfl) (.cons rfl (ok_callL (xs := [.ref 10000 0]) (caps := []) (xs1 := [.ref 10000 0]) (z := .sl Ty.sApiSelector v4.1) (ups := [(10000, .cells 125 [.str v4.2.s, .int .i64 v4.2.pos, .bool v4.2.bad])]) (dlt rfl rfl) [(10000, (10000, some (0, 3)))] [] rfl rfl Tryz.func122 rfl rfl rfl (.cons (.refl _) (.nil)) (.cons (.ref rfl rfl) (.nil)) (.cells rfl rfl (by decide) rfl (.cons (.refl _) (.cons (.refl _) (.cons (.refl _) (.nil)))) (.cons (.same rfl) (.cons (.same rfl) (.cons (.same rfl) (.nil)))) .nil) rfl (d122 hv4) (.cells (l := 10000) rfl rfl rfl rfl (.cons (.same rfl) (.cons (.same rfl) (.cons (.same rfl) (.nil)))) (Nat.succ_ne_zero _) rfl .nil) rfl rfl rfl (by intro d h; simp at h) rfl (.same rfl)) (.cons rfl (ok_fieldV (dlt rfl rfl) rfl fo47_1 ty45 (by decide) rfl) (.cons rfl (ok_storeV rfl rfl ty45 rfl rfl rfl rfl (by decide) rfl rfl) (.nil ?_)))))
   exact ak_conv (.cons rfl (.refl _) (.cons rfl (.refl _) (.nil _))) (.cons rfl (.refl _) (.cons rfl (.refl _) (.cons rfl (.refl _) (.nil _)))) (ih _ _ h w F ρ _)
  ·have h := cond_f ht h
   exact no_of h
 | l70_2 a0 a1 a2 a3 =>
  intro w F ρ S
  dsimp only at h
  refine ak_inBlock ?_
  refine ak_seq ?_
  refine ak_regionS (.cons rfl (ok_loadVT (dlt rfl rfl) rfl ty47 rfl rfl (by decide) rfl) (.cons rfl (ok_storeV rfl rfl ty47 rfl rfl rfl rfl (by decide) rfl rfl) (.nil ?_)))
  obtain rfl := Option.some.inj h
  refine ak_conv (Γ' := [(2, .ref 2 0)]) (σ' := [(2, .cells 47 [.bool ((⟨a0, a1⟩ : ApiSegment).deep), .sl Ty.sApiSelector ((⟨a0, a1⟩ : ApiSegment).selectors)]), (10000, .cells 125 [.str a3.s, .int .i64 a3.pos, .bool a3.bad])]) (.cons rfl (.refl _) (.nil _)) (.cons rfl (.refl _) (.cons rfl (.cells (.cons (.refl _) (.cons (.refl _) (.cons (.refl _) (.nil))))) (.nil _))) ?_
  exact ak_retC (fn := Tryz.f70) [(10000, .cells 125 [.str a3.s, .int .i64 a3.pos, .bool a3.bad])] (.cons rfl (.refl _) (.nil _)) Tryz.func70 rfl ⟨⟨_, _, _, _, _, _, rfl, rfl, ty47⟩, trivial⟩ ⟨rfl, rfl⟩)
theorem d70 {a0 : QueryReader} {r : ApiSegment × QueryReader} (h : f70 (.e70 a0) = some r) : Does Tryz.prog GG 70 [.ref 10000 0] [(10000, .cells 125 [.str a0.s, .int .i64 a0.pos, .bool a0.bad])] (fun z σ' => z = .agg [.bool r.1.deep, .sl Ty.sApiSelector r.1.selectors] ∧ σ' = [(10000, .cells 125 [.str r.2.s, .int .i64 r.2.pos, .bool r.2.bad])]) := fn_of (fn := Tryz.f70) Tryz.func70 rfl Tryz.ntmps70 rfl (w70 _ _ h)
/-- riffle/query.Parse -/
noncomputable abbrev b19 : Code := codeOf Tryz.f19
inductive L19 where
 | e19 (a0 : List UInt8)
 | l19_0 (a0 : List UInt8) (a1 : Bool) (a2 : QueryReader)
 | l19_1 (a0 : List UInt8) (a1 : List ApiSegment) (a2 : QueryReader)
noncomputable def f19 : L19 → Option ((List ApiSegment) × Bool)
 | .e19 a0 =>
  f67 (.e67 a0) >>= fun v1 =>
  if (!(decide ((0 : Int) ≤ v1))) = true then
   f68 (.e68 (⟨a0, 0, false⟩ : QueryReader) ([36] : List UInt8)) >>= fun v2 =>
   f19 (.l19_0 a0 ((decide ((0 : Int) ≤ v1)) || (!v2.1)) v2.2)
  else
   f19 (.l19_0 a0 ((decide ((0 : Int) ≤ v1)) || false) (⟨a0, 0, false⟩ : QueryReader))
 | .l19_0 a0 a1 a2 =>
  if a1 = true then
   none
  else
   f19 (.l19_1 a0 ([] : List ApiSegment) a2)
 | .l19_1 a0 a1 a2 =>
  if ((decide (a2.pos < (a0.length : Int))) && (!a2.bad)) = true then
   f69 (.e69 a2) >>= fun v3 =>
   f70 (.e70 v3) >>= fun v4 =>
   room a1.length ([v4.1] : List ApiSegment).length 32 >>= fun v5 =>
   f19 (.l19_1 a0 (a1 ++ ([v4.1] : List ApiSegment)) v4.2)
  else
   if a2.bad = true then
    none
   else
    some (a1, true)
 partial_fixpoint
def M19 : L19 → ((List ApiSegment) × Bool) → Prop
 | .e19 a0, r => ∀ (w : World) (F : Nat → Prop) (ρ : Rho), AK Tryz.prog (ctx GG 43 w F ρ []) 19 [.code b19] (argE 0 [.str a0]) [] (fun z _ => z = .tup [.sl Ty.sApiSegment r.1, .bool r.2])
 | .l19_0 a0 a1 a2, r => ∀ (w : World) (F : Nat → Prop) (ρ : Rho), AK Tryz.prog (ctx GG 43 w F ρ []) 19 [.code (c2 (c1 (c2 (c2 b19)))), .code (c2 (c2 (c2 b19)))] [(0, .str a0), (4, .ref 8 0), (16, .bool a1)] [(8, .cells 125 [.str a2.s, .int .i64 a2.pos, .bool a2.bad])] (fun z _ => z = .tup [.sl Ty.sApiSegment r.1, .bool r.2])
 | .l19_1 a0 a1 a2, r => ∀ (w : World) (F : Nat → Prop) (ρ : Rho), AK Tryz.prog (ctx GG 43 w F ρ []) 19 [.code (c1 (c1 (c1 (c2 (c2 (c2 (c2 b19))))))), .inLoop (c1 (c1 (c1 (c2 (c2 (c2 (c2 b19))))))), .inBlock 0, .code (c2 (c2 (c2 (c2 (c2 b19)))))] [(0, .str a0), (4, .ref 8 0), (5, .mf 2 1005)] [(1005, .arr 47 Ty.sApiSegment a1), (8, .cells 125 [.str a2.s, .int .i64 a2.pos, .bool a2.bad])] (fun z _ => z = .tup [.sl Ty.sApiSegment r.1, .bool r.2])
theorem w19 : ∀ (l : L19) (r : (List ApiSegment) × Bool), f19 l = some r → M19 l r := f19.partial_correctness M19 (by
 intro f ih l r h
 cases l with
 | e19 a0 =>
  intro w F ρ
  dsimp only at h
  refine ak_seq ?_
  refine ak_regionS (.cons rfl (ok_assign (dlt rfl rfl) rfl rfl) (.cons rfl (ok_assign (dlt rfl rfl) rfl rfl) (.nil ?_)))
  refine ak_seq ?_
  refine ak_regionS (.cons rfl (ok_move (dlt rfl rfl) rfl rfl) (.cons rfl (ok_build (dlt rfl rfl) rfl ty125 rfl pl125 rfl rfl rfl) (.cons rfl (ok_box (d := 8) (dlt rfl rfl) rfl rfl rfl rfl rfl) (.cons rfl (ok_assign (dlt rfl rfl) rfl rfl) (.nil ?_)))))
  refine ak_seq ?_
  refine ak_seq ?_
  obtain ⟨v1, hv1, h⟩ := bind_of h
  refine ak_regionS (.cons rfl (ok_move (dlt rfl rfl) rfl rfl) (.cons rfl (ok_call (xs := [.str a0]) (caps := []) (dlt rfl rfl) rfl rfl Tryz.func67 rfl rfl rfl (d67 hv1) rfl) (.cons rfl (ok_geq (dlt rfl rfl) rfl rfl rfl) (.cons rfl (ok_move (dlt rfl rfl) rfl rfl) (.consG (pre := []) (dlt rfl rfl) rfl rfl rfl rfl .nil (fun he => ok_move (dlt rfl rfl) rfl rfl) (.split (!(decide ((0 : Int) ≤ v1))) (fun he1 => ?_) (fun he1 => ?_)))))))
  ·have h := cond_t he1 h
   obtain ⟨v2, hv2, h⟩ := bind_of h
   refine (.pre (pre := [(13, .ref 8 0)]) he1 (.cons rfl (fun _ => he1) .nil) (.run rfl rfl rfl rfl he1 (ok_callL (xs := [.ref 8 0, .str ([36] : List UInt8)]) (caps := []) (xs1 := [.ref 8 0, .str ([36] : List UInt8)]) (z := .bool v2.1) (ups := [(8, .cells 125 [.str v2.2.s, .int .i64 v2.2.pos, .bool v2.2.bad])]) (dlt rfl rfl) [(10000, (8, some (0, 3)))] [] rfl rfl Tryz.func68 rfl rfl rfl (.cons (.refl _) (.cons (.refl _) (.nil))) (.cons (.ref rfl rfl) (.cons (.same rfl) (.nil))) (.cells rfl rfl (by decide) rfl (.cons (.refl _) (.cons (.refl _) (.cons (.refl _) (.nil)))) (.cons (.same rfl) (.cons (.same rfl) (.cons (.same rfl) (.nil)))) .nil) rfl (d68 hv2) (.cells (l := 10000) rfl rfl rfl rfl (.cons (.same rfl) (.cons (.same rfl) (.cons (.same rfl) (.nil)))) (Nat.succ_ne_zero _) rfl .nil) rfl rfl rfl (by intro d h; simp at h) rfl (.same rfl)) (.run rfl rfl rfl rfl he1 (ok_not (dlt rfl rfl) rfl rfl) (.cons rfl (ok_orP (dlt rfl rfl) rfl rfl rfl) (.nil ?_)))))
   exact ak_conv (.cons rfl (.refl _) (.cons rfl (.refl _) (.cons rfl (.refl _) (.nil _)))) (.cons rfl (.refl _) (.nil _)) (ih _ _ h w F ρ)
  ·have h := cond_f he1 h
   refine (.skip (.bool false) (dlt rfl rfl) rfl rfl rfl rfl he1 (.skip (.bool false) (dlt rfl rfl) rfl rfl rfl rfl he1 (.cons rfl (ok_orW (dlt rfl rfl) rfl rfl rfl (fun h => (bnot_t h))) (.nil ?_))))
   exact ak_conv (.cons rfl (.refl _) (.cons rfl (.refl _) (.cons rfl (.refl _) (.nil _)))) (.cons rfl (.refl _) (.nil _)) (ih _ _ h w F ρ)
 | l19_0 a0 a1 a2 =>
  intro w F ρ
  dsimp only at h
  refine ak_cond rfl (fun ht => ?_) (fun ht => ?_)
  ·have h := cond_t ht h
   exact no_of h
  ·have h := cond_f ht h
   refine ak_skip ?_
   refine ak_seq ?_
   refine ak_regionS (.cons rfl (ok_assign (dlt rfl rfl) rfl rfl) (.nil ?_))
   refine ak_nilRow (s := 5) (d := 1005) (e := 47) Ty.sApiSegment rfl rfl rfl ?_
   refine ak_seq ?_
   refine ak_block ?_
   refine ak_loop ?_
   exact ak_conv (.cons rfl (.refl _) (.cons rfl (.refl _) (.cons rfl (.refl _) (.nil _)))) (.cons rfl (.refl _) (.cons rfl (.refl _) (.nil _))) (ih _ _ h w F ρ)
 | l19_1 a0 a1 a2 =>
  intro w F ρ
  dsimp only at h
  refine ak_seq ?_
  refine ak_seq ?_
  refine ak_regionS (.cons rfl (ok_move (dlt rfl rfl) rfl rfl) (.cons rfl (ok_nilCheckV (dlt rfl rfl) rfl rfl) (.cons rfl (ok_fieldV (dlt rfl rfl) rfl fo125_1 ty3 (by decide) rfl) (.cons rfl (ok_loadV (dlt rfl rfl) rfl ty3 rfl rfl rfl) (.cons rfl (ok_move (dlt rfl rfl) rfl rfl) (.cons rfl (ok_lenT (s := a0) (dlt rfl rfl) rfl Tryz.underlying9 rfl) (.cons rfl (ok_lss (dlt rfl rfl) rfl rfl rfl) (.cons rfl (ok_move (dlt rfl rfl) rfl rfl) (.consG (pre := []) (dlt rfl rfl) rfl rfl rfl rfl .nil (fun he => ok_move (dlt rfl rfl) rfl rfl) (.consG (pre := [(25, .ref 8 0)]) (dlt rfl rfl) rfl rfl rfl rfl (.cons rfl (fun he => he) .nil) (fun he => ok_nilCheckV (dlt rfl rfl) rfl rfl) (.consG (pre := [(26, .ref 8 0)]) (dlt rfl rfl) rfl rfl rfl rfl (.cons rfl (fun he => he) .nil) (fun he => ok_fieldV (dlt rfl rfl) rfl fo125_2 ty4 (by decide) rfl) (.consG (pre := [(27, .ref 8 2)]) (dlt rfl rfl) rfl rfl rfl rfl (.cons rfl (fun he => he) .nil) (fun he => ok_loadV (dlt rfl rfl) rfl ty4 rfl rfl rfl) (.consG (pre := [(28, .bool a2.bad)]) (dlt rfl rfl) rfl rfl rfl rfl (.cons rfl (fun he => he) .nil) (fun he => ok_not (dlt rfl rfl) rfl rfl) (.cons rfl (ok_andW (dlt rfl rfl) rfl rfl rfl (fun h => h)) (.nil ?_)))))))))))))))
  refine ak_cond rfl (fun ht => ?_) (fun ht => ?_)
  ·have h := cond_t ht h
   refine ak_skip ?_
   refine ak_block ?_
   refine ak_seq ?_
   obtain ⟨v3, hv3, h⟩ := bind_of h
   refine ak_regionS (.cons rfl (ok_move (dlt rfl rfl) rfl rfl) (.cons rfl (ok_callL (xs := [.ref 8 0]) (caps := []) (xs1 := [.ref 8 0]) (z := .tup []) (ups := [(8, .cells 125 [.str v3.s, .int .i64 v3.pos, .bool v3.bad])]) (dlt rfl rfl) [(10000, (8, some (0, 3)))] [] rfl rfl Tryz.func69 rfl rfl rfl (.cons (.refl _) (.nil)) (.cons (.ref rfl rfl) (.nil)) (.cells rfl rfl (by decide) rfl (.cons (.refl _) (.cons (.refl _) (.cons (.refl _) (.nil)))) (.cons (.same rfl) (.cons (.same rfl) (.cons (.same rfl) (.nil)))) .nil) rfl (d69 hv3) (.cells (l := 10000) rfl rfl rfl rfl (.cons (.same rfl) (.cons (.same rfl) (.cons (.same rfl) (.nil)))) (Nat.succ_ne_zero _) rfl .nil) rfl rfl rfl (by intro d h; simp at h) rfl (.same rfl)) (.nil ?_)))
   obtain ⟨v4, hv4, h⟩ := bind_of h
   obtain ⟨v5, hv5, h⟩ := bind_of h
   refine ak_regionS (.cons rfl (ok_move (dlt rfl rfl) rfl rfl) (.cons rfl (ok_move (dlt rfl rfl) rfl rfl) (.cons rfl (ok_callL (xs := [.ref 8 0]) (caps := []) (xs1 := [.ref 8 0]) (z := .agg [.bool v4.1.deep, .sl Ty.sApiSelector v4.1.selectors]) (ups := [(8, .cells 125 [.str v4.2.s, .int .i64 v4.2.pos, .bool v4.2.bad])]) (dlt rfl rfl) [(10000, (8, some (0, 3)))] [] rfl rfl Tryz.func70 rfl rfl rfl (.cons (.refl _) (.nil)) (.cons (.ref rfl rfl) (.nil)) (.cells rfl rfl (by decide) rfl (.cons (.refl _) (.cons (.refl _) (.cons (.refl _) (.nil)))) (.cons (.same rfl) (.cons (.same rfl) (.cons (.same rfl) (.nil)))) .nil) rfl (d70 hv4) (.cells (l := 10000) rfl rfl rfl rfl (.cons (.same rfl) (.cons (.same rfl) (.cons (.same rfl) (.nil)))) (Nat.succ_ne_zero _) rfl .nil) rfl rfl rfl (by intro d h; simp at h) rfl (.same rfl)) (.cons rfl (ok_lit (τ := Ty.sApiSegment) (dlt rfl rfl) ([v4.1] : List ApiSegment) rfl Tryz.underlying24 ty47 rfl rfl rfl rfl rfl (by decide) (by decide) rfl) (.cons rfl (ok_appendF (τ := Ty.sApiSegment) (xs := a1) (ys := ([v4.1] : List ApiSegment)) (dlt rfl rfl) rfl Tryz.underlying24 ty47 rfl rfl rfl rfl (room_1 hv5) (room_2 hv5)) (.cons rfl (ok_assign (dlt rfl rfl) rfl rfl) (.nil ?_)))))))
   refine ak_inBlock ?_
   refine ak_inLoop ?_
   exact ak_conv (.cons rfl (.refl _) (.cons rfl (.refl _) (.cons rfl (.refl _) (.nil _)))) (.cons rfl (.refl _) (.cons rfl (.refl _) (.nil _))) (ih _ _ h w F ρ)
  ·have h := cond_f ht h
   refine ak_exit rfl ?_
   refine ak_seq ?_
   refine ak_seq ?_
   refine ak_regionS (.cons rfl (ok_move (dlt rfl rfl) rfl rfl) (.cons rfl (ok_nilCheckV (dlt rfl rfl) rfl rfl) (.cons rfl (ok_fieldV (dlt rfl rfl) rfl fo125_2 ty4 (by decide) rfl) (.cons rfl (ok_loadV (dlt rfl rfl) rfl ty4 rfl rfl rfl) (.nil ?_)))))
   refine ak_cond rfl (fun ht => ?_) (fun ht => ?_)
   ·have h := cond_t ht h
    exact no_of h
   ·have h := cond_f ht h
    refine ak_skip ?_
    refine ak_seq ?_
    refine ak_regionS (.cons rfl (ok_move (dlt rfl rfl) rfl rfl) (.cons rfl (ok_assign (dlt rfl rfl) rfl rfl) (.cons rfl (ok_assign (dlt rfl rfl) rfl rfl) (.nil ?_))))
    obtain rfl := Option.some.inj h
    refine ak_freeze 1005 rfl ?_
    refine ak_conv (Γ' := [(2, .sl Ty.sApiSegment a1), (3, .bool true)]) (σ' := []) (.cons rfl (.refl _) (.cons rfl (.refl _) (.nil _))) (.nil _) ?_
    exact ak_ret (fn := Tryz.f19) Tryz.func19 rfl trivial rfl)
theorem d19 {a0 : List UInt8} {r : (List ApiSegment) × Bool} (h : f19 (.e19 a0) = some r) : Does Tryz.prog GG 19 [.str a0] [] (fun z _ => z = .tup [.sl Ty.sApiSegment r.1, .bool r.2]) := fn_of (fn := Tryz.f19) Tryz.func19 rfl Tryz.ntmps19 rfl (w19 _ _ h)
/-- riffle/hang.none -/
noncomputable abbrev b83 : Code := codeOf Tryz.f83
inductive L83 where
 | e83
noncomputable def f83 : L83 → Option HangFate
 | .e83 =>
  some (⟨false, 9223372036854775807, 9223372036854775807⟩ : HangFate)
def M83 : L83 → HangFate → Prop
 | .e83, r => ∀ (w : World) (F : Nat → Prop) (ρ : Rho), AK Tryz.prog (ctx GG 2 w F ρ []) 83 [.code b83] (argE 0 []) [] (fun z _ => z = .agg [.bool r.may, .int .i64 r.holds, .int .i64 r.fails])
theorem w83 : ∀ (l : L83) (r : HangFate), f83 l = some r → M83 l r := (by
 intro l r h
 cases l with
 | e83 =>
  intro w F ρ
  dsimp only [f83] at h
  refine ak_seq ?_
  refine ak_regionS (.cons rfl (ok_alloc (d := 0) (dlt rfl rfl) rfl ty67 rfl rfl rfl) (.nil ?_))
  refine ak_seq ?_
  refine ak_regionS (.cons rfl (ok_build (dlt rfl rfl) rfl ty67 rfl pl67 rfl rfl rfl) (.cons rfl (ok_storeV rfl rfl ty67 rfl rfl rfl rfl (by decide) rfl rfl) (.nil ?_)))
  obtain rfl := Option.some.inj h
  refine ak_conv (Γ' := [(0, .ref 0 0)]) (σ' := [(0, .cells 67 [.bool ((⟨false, 9223372036854775807, 9223372036854775807⟩ : HangFate).may), .int .i64 ((⟨false, 9223372036854775807, 9223372036854775807⟩ : HangFate).holds), .int .i64 ((⟨false, 9223372036854775807, 9223372036854775807⟩ : HangFate).fails)])]) (.cons rfl (.refl _) (.nil _)) (.cons rfl (.refl _) (.nil _)) ?_
  exact ak_ret (fn := Tryz.f83) Tryz.func83 rfl ⟨⟨_, _, _, _, _, _, rfl, rfl, ty67⟩, trivial⟩ rfl)
theorem d83 {r : HangFate} (h : f83 (.e83) = some r) : Does Tryz.prog GG 83 [] [] (fun z _ => z = .agg [.bool r.may, .int .i64 r.holds, .int .i64 r.fails]) := fn_of (fn := Tryz.f83) Tryz.func83 rfl Tryz.ntmps83 rfl (w83 _ _ h)
/-- riffle/hang.start -/
noncomputable abbrev b82 : Code := codeOf Tryz.f82
inductive L82 where
 | e82 (a0 : List ApiSegment)
 | l82_0 (a0 : Int) (a1 : Int) (a2 : List HangFate)
noncomputable def f82 : L82 → Option (List HangFate)
 | .e82 a0 =>
  need (0 ≤ (IntKind.wrap .i64 ((a0.length : Int) + (1 : Int))) ∧ (24 : Int) * (IntKind.wrap .i64 ((a0.length : Int) + (1 : Int))) ≤ 281474976710656 ∧ (IntKind.wrap .i64 ((a0.length : Int) + (1 : Int))) ≤ 9223372036854775807) >>= fun v1 =>
  f82 (.l82_0 ((List.replicate (IntKind.wrap .i64 ((a0.length : Int) + (1 : Int)) : Int).toNat (⟨false, 0, 0⟩ : HangFate)).length : Int) (0 : Int) (List.replicate (IntKind.wrap .i64 ((a0.length : Int) + (1 : Int)) : Int).toNat (⟨false, 0, 0⟩ : HangFate)))
 | .l82_0 a0 a1 a2 =>
  if (decide (a1 < a0)) = true then
   f83 (.e83) >>= fun v2 =>
   idx a2 a1 >>= fun v3 =>
   f82 (.l82_0 a0 (IntKind.wrap .i64 (a1 + (1 : Int))) (a2.set (a1 : Int).toNat v2))
  else
   idx a2 (0 : Int) >>= fun v4 =>
   some (a2.set (0 : Int).toNat (⟨true, 0, 9223372036854775807⟩ : HangFate))
 partial_fixpoint
def M82 : L82 → (List HangFate) → Prop
 | .e82 a0, r => ∀ (w : World) (F : Nat → Prop) (ρ : Rho), AK Tryz.prog (ctx GG 23 w F ρ []) 82 [.code b82] (argE 0 [.sl Ty.sApiSegment a0]) [] (fun z _ => z = .sl Ty.sHangFate r)
 | .l82_0 a0 a1 a2, r => ∀ (w : World) (F : Nat → Prop) (ρ : Rho), AK Tryz.prog (ctx GG 23 w F ρ []) 82 [.code (c1 (c1 (c2 (c1 (c2 (c2 b82)))))), .inLoop (c1 (c1 (c2 (c1 (c2 (c2 b82)))))), .inBlock 0, .code (c2 (c2 (c2 b82)))] [(3, .mf 3 2008), (10, .int .i64 a0), (11, .int .i64 a1)] [(2008, .arr 67 Ty.sHangFate a2)] (fun z _ => z = .sl Ty.sHangFate r)
theorem w82 : ∀ (l : L82) (r : List HangFate), f82 l = some r → M82 l r := f82.partial_correctness M82 (by
 intro f ih l r h
 cases l with
 | e82 a0 =>
  intro w F ρ
  dsimp only at h
  refine ak_seq ?_
  refine ak_regionS (.cons rfl (ok_assign (dlt rfl rfl) rfl rfl) (.nil ?_))
  refine ak_seq ?_
  obtain ⟨v1, hv1, h⟩ := bind_of h
  refine ak_regionS (.cons rfl (ok_move (dlt rfl rfl) rfl rfl) (.cons rfl (ok_lenS (τ := Ty.sApiSegment) (xs := a0) (dlt rfl rfl) rfl Tryz.underlying24 rfl) (.cons rfl (ok_add (dlt rfl rfl) rfl rfl rfl) (.cons rfl (ok_make (d := 2008) (τ := Ty.sHangFate) (dlt rfl rfl) (⟨false, 0, 0⟩ : HangFate) rfl Tryz.underlying142 ty67 rfl rfl rfl rfl rfl (need_of hv1).1 (need_of hv1).2.1 (need_of hv1).2.2 rfl rfl) (.cons rfl (ok_assign (dlt rfl rfl) rfl rfl) (.nil ?_))))))
  refine ak_seq ?_
  refine ak_seq ?_
  refine ak_regionS (.cons rfl (ok_move (dlt rfl rfl) rfl rfl) (.cons rfl (ok_lenA (dlt rfl rfl) rfl Tryz.underlying142 rfl rfl) (.cons rfl (ok_move (dlt rfl rfl) rfl rfl) (.nil ?_))))
  refine ak_block ?_
  refine ak_loop ?_
  exact ak_conv (.cons rfl (.refl _) (.cons rfl (.refl _) (.cons rfl (.refl _) (.nil _)))) (.cons rfl (.refl _) (.nil _)) (ih _ _ h w F ρ)
 | l82_0 a0 a1 a2 =>
  intro w F ρ
  dsimp only at h
  refine ak_seq ?_
  refine ak_regionS (.cons rfl (ok_lss (dlt rfl rfl) rfl rfl rfl) (.nil ?_))
  refine ak_seq ?_
  refine ak_cond rfl (fun ht => ?_) (fun ht => ?_)
  ·have h := cond_t ht h
   refine ak_skip ?_
   refine ak_seq ?_
   refine ak_block ?_
   refine ak_seq ?_
   refine ak_regionS (.cons rfl (ok_move (dlt rfl rfl) rfl rfl) (.cons rfl (ok_assign (dlt rfl rfl) rfl rfl) (.nil ?_)))
   obtain ⟨v2, hv2, h⟩ := bind_of h
   obtain ⟨v3, hv3, h⟩ := bind_of h
   refine ak_regionS (.cons rfl (ok_move (dlt rfl rfl) rfl rfl) (.cons rfl (ok_move (dlt rfl rfl) rfl rfl) (.cons rfl (ok_call (xs := []) (caps := []) (dlt rfl rfl) rfl rfl Tryz.func83 rfl rfl rfl (d83 hv2) rfl) (.cons rfl (ok_indexA (dlt rfl rfl) rfl Tryz.underlying142 ty67 rfl rfl rfl (idx_0 hv3) (idx_lt hv3)) (.cons rfl (ok_storeE (τ := Ty.sHangFate) (j := 0) (size := 3) (x := v3) (y := v2) rfl rfl ty67 rfl rfl rfl (idx_1 hv3) rfl rfl (by decide) rfl) (.nil ?_))))))
   refine ak_inBlock ?_
   refine ak_regionS (.cons rfl (ok_add (dlt rfl rfl) rfl rfl rfl) (.cons rfl (ok_move (dlt rfl rfl) rfl rfl) (.nil ?_)))
   refine ak_inLoop ?_
   exact ak_conv (.cons rfl (.refl _) (.cons rfl (.refl _) (.cons rfl (.refl _) (.nil _)))) (.cons rfl (.refl _) (.nil _)) (ih _ _ h w F ρ)
  ·have h := cond_f ht h
   refine ak_exit rfl ?_
   refine ak_seq ?_
   obtain ⟨v4, hv4, h⟩ := bind_of h
   refine ak_regionS (.cons rfl (ok_move (dlt rfl rfl) rfl rfl) (.cons rfl (ok_build (dlt rfl rfl) rfl ty67 rfl pl67 rfl rfl rfl) (.cons rfl (ok_indexA (dlt rfl rfl) rfl Tryz.underlying142 ty67 rfl rfl rfl (idx_0 hv4) (idx_lt hv4)) (.cons rfl (ok_storeE (τ := Ty.sHangFate) (j := 0) (size := 3) (x := v4) (y := (⟨true, 0, 9223372036854775807⟩ : HangFate)) rfl rfl ty67 rfl rfl rfl (idx_1 hv4) rfl rfl (by decide) rfl) (.nil ?_)))))
   refine ak_seq ?_
   refine ak_regionS (.cons rfl (ok_move (dlt rfl rfl) rfl rfl) (.cons rfl (ok_assign (dlt rfl rfl) rfl rfl) (.nil ?_)))
   obtain rfl := Option.some.inj h
   refine ak_freeze 2008 rfl ?_
   refine ak_conv (Γ' := [(2, .sl Ty.sHangFate (a2.set (0 : Int).toNat (⟨true, 0, 9223372036854775807⟩ : HangFate)))]) (σ' := []) (.cons rfl (.refl _) (.nil _)) (.nil _) ?_
   exact ak_ret (fn := Tryz.f82) Tryz.func82 rfl trivial rfl)
theorem d82 {a0 : List ApiSegment} {r : List HangFate} (h : f82 (.e82 a0) = some r) : Does Tryz.prog GG 82 [.sl Ty.sApiSegment a0] [] (fun z _ => z = .sl Ty.sHangFate r) := fn_of (fn := Tryz.f82) Tryz.func82 rfl Tryz.ntmps82 rfl (w82 _ _ h)
end Go.Proofs.YtonlbdholdaifaaGreatDoor
end
