import Derived.Test.YtonlbdholdaifaaGreatDoorProg
import Derived.Test.YtonlbdholdaifaaGreatDoorRfp4
import Derived.Test.YtonlbdholdaifaaGreatDoorRg6p1
section
set_option linter.unusedVariables false
set_option linter.unusedSimpArgs false
set_option maxRecDepth 10000
namespace Go.Proofs.YtonlbdholdaifaaGreatDoor
open Go Go.Rf Go.Proofs
/-- riffle/riffleref01.Blank -/
noncomputable abbrev b129 : Code := codeOf Tryz.f129
inductive L129 where
 | e129 (a0 : Int)
noncomputable def f129 : L129 → Option Bool
 | .e129 a0 =>
  some ((((a0 == (32 : Int)) || (a0 == (9 : Int))) || (a0 == (10 : Int))) || (a0 == (13 : Int)))
def M129 : L129 → Bool → Prop
 | .e129 a0, r => ∀ (w : World) (F : Nat → Prop) (ρ : Rho), AK Tryz.prog (ctx GG 17 w F ρ []) 129 [.code b129] (argE 0 [.int .u8 a0]) [] (fun z _ => z = .bool r)
theorem w129 : ∀ (l : L129) (r : Bool), f129 l = some r → M129 l r := (by
 intro l r h
 cases l with
 | e129 a0 =>
  intro w F ρ
  dsimp only [f129] at h
  refine ak_seq ?_
  refine ak_regionS (.cons rfl (ok_assign (dlt rfl rfl) rfl rfl) (.nil ?_))
  refine ak_seq ?_
  refine ak_regionS (.cons rfl (ok_move (dlt rfl rfl) rfl rfl) (.cons rfl (ok_eql (dlt rfl rfl) rfl rfl rfl) (.cons rfl (ok_move (dlt rfl rfl) rfl rfl) (.consG (pre := []) (dlt rfl rfl) rfl rfl rfl rfl .nil (fun he => ok_move (dlt rfl rfl) rfl rfl) (.consG (pre := [(6, .int .u8 a0)]) (dlt rfl rfl) rfl rfl rfl rfl (.cons rfl (fun he => he) .nil) (fun he => ok_eql (dlt rfl rfl) rfl rfl rfl) (.cons rfl (ok_orW (dlt rfl rfl) rfl rfl rfl (fun h => (bnot_t h))) (.cons rfl (ok_move (dlt rfl rfl) rfl rfl) (.consG (pre := []) (dlt rfl rfl) rfl rfl rfl rfl .nil (fun he => ok_move (dlt rfl rfl) rfl rfl) (.consG (pre := [(10, .int .u8 a0)]) (dlt rfl rfl) rfl rfl rfl rfl (.cons rfl (fun he => he) .nil) (fun he => ok_eql (dlt rfl rfl) rfl rfl rfl) (.cons rfl (ok_orW (dlt rfl rfl) rfl rfl rfl (fun h => (bnot_t h))) (.cons rfl (ok_move (dlt rfl rfl) rfl rfl) (.consG (pre := []) (dlt rfl rfl) rfl rfl rfl rfl .nil (fun he => ok_move (dlt rfl rfl) rfl rfl) (.consG (pre := [(14, .int .u8 a0)]) (dlt rfl rfl) rfl rfl rfl rfl (.cons rfl (fun he => he) .nil) (fun he => ok_eql (dlt rfl rfl) rfl rfl rfl) (.cons rfl (ok_orW (dlt rfl rfl) rfl rfl rfl (fun h => (bnot_t h))) (.cons rfl (ok_assign (dlt rfl rfl) rfl rfl) (.nil ?_))))))))))))))))
  obtain rfl := Option.some.inj h
  refine ak_conv (Γ' := [(2, .bool ((((a0 == (32 : Int)) || (a0 == (9 : Int))) || (a0 == (10 : Int))) || (a0 == (13 : Int))))]) (σ' := []) (.cons rfl (.refl _) (.nil _)) (.nil _) ?_
  exact ak_ret (fn := Tryz.f129) Tryz.func129 rfl trivial rfl)
theorem d129 {a0 : Int} {r : Bool} (h : f129 (.e129 a0) = some r) : Does Tryz.prog GG 129 [.int .u8 a0] [] (fun z _ => z = .bool r) := fn_of (fn := Tryz.f129) Tryz.func129 rfl Tryz.ntmps129 rfl (w129 _ _ h)
/-- riffle/riffleref10.blank -/
noncomputable abbrev b79 : Code := codeOf Tryz.f79
inductive L79 where
 | e79 (a0 : List UInt8) (a1 : Int)
 | l79_0 (a0 : List UInt8) (a1 : Int)
noncomputable def f79 : L79 → Option Int
 | .e79 a0 a1 =>
  f79 (.l79_0 a0 a1)
 | .l79_0 a0 a1 =>
  gd (decide (a1 < (a0.length : Int))) (idx a0 a1) >>= fun v1 =>
  gd (decide (a1 < (a0.length : Int))) (f129 (.e129 (v1.toNat : Int))) >>= fun v2 =>
  if ((decide (a1 < (a0.length : Int))) && v2) = true then
   f79 (.l79_0 a0 (IntKind.wrap .i64 (a1 + (1 : Int))))
  else
   some a1
 partial_fixpoint
def M79 : L79 → Int → Prop
 | .e79 a0 a1, r => ∀ (w : World) (F : Nat → Prop) (ρ : Rho), AK Tryz.prog (ctx GG 18 w F ρ []) 79 [.code b79] (argE 0 [.str a0, .int .i64 a1]) [] (fun z _ => z = .int .i64 r)
 | .l79_0 a0 a1, r => ∀ (w : World) (F : Nat → Prop) (ρ : Rho), AK Tryz.prog (ctx GG 18 w F ρ []) 79 [.code (c1 (c1 (c1 (c2 b79)))), .inLoop (c1 (c1 (c1 (c2 b79)))), .inBlock 0, .code (c2 (c2 b79))] [(0, .str a0), (1, .int .i64 a1)] [] (fun z _ => z = .int .i64 r)
theorem w79 : ∀ (l : L79) (r : Int), f79 l = some r → M79 l r := f79.partial_correctness M79 (by
 intro f ih l r h
 cases l with
 | e79 a0 a1 =>
  intro w F ρ
  dsimp only at h
  refine ak_seq ?_
  refine ak_regionS (.cons rfl (ok_assign (dlt rfl rfl) rfl rfl) (.nil ?_))
  refine ak_seq ?_
  refine ak_block ?_
  refine ak_loop ?_
  exact ak_conv (.cons rfl (.refl _) (.cons rfl (.refl _) (.nil _))) (.nil _) (ih _ _ h w F ρ)
 | l79_0 a0 a1 =>
  intro w F ρ
  dsimp only at h
  refine ak_seq ?_
  refine ak_seq ?_
  obtain ⟨v1, hv1, h⟩ := bind_of h
  obtain ⟨v2, hv2, h⟩ := bind_of h
  refine ak_regionS (.cons rfl (ok_move (dlt rfl rfl) rfl rfl) (.cons rfl (ok_move (dlt rfl rfl) rfl rfl) (.cons rfl (ok_lenT (s := a0) (dlt rfl rfl) rfl Tryz.underlying9 rfl) (.cons rfl (ok_lss (dlt rfl rfl) rfl rfl rfl) (.cons rfl (ok_move (dlt rfl rfl) rfl rfl) (.consG (pre := []) (dlt rfl rfl) rfl rfl rfl rfl .nil (fun he => ok_move (dlt rfl rfl) rfl rfl) (.consG (pre := []) (dlt rfl rfl) rfl rfl rfl rfl .nil (fun he => ok_move (dlt rfl rfl) rfl rfl) (.consG (pre := [(10, .str a0), (11, .int .i64 a1)]) (dlt rfl rfl) rfl rfl rfl rfl (.cons rfl (fun he => he) (.cons rfl (fun he => he) .nil)) (fun he => ok_byte (s := a0) (c := v1) (dlt rfl rfl) rfl Tryz.underlying9 rfl rfl (idx_0 (gd_t hv1 he)) (idx_1 (gd_t hv1 he))) (.consG (pre := [(12, .int .u8 (v1.toNat : Int))]) (dlt rfl rfl) rfl rfl rfl rfl (.cons rfl (fun he => he) .nil) (fun he => ok_call (xs := [.int .u8 (v1.toNat : Int)]) (caps := []) (dlt rfl rfl) rfl rfl Tryz.func129 rfl rfl rfl (d129 (gd_t hv2 he)) rfl) (.cons rfl (ok_andW (dlt rfl rfl) rfl rfl rfl (fun h => h)) (.nil ?_)))))))))))
  refine ak_cond rfl (fun ht => ?_) (fun ht => ?_)
  ·have h := cond_t ht h
   refine ak_skip ?_
   refine ak_block ?_
   refine ak_regionS (.cons rfl (ok_move (dlt rfl rfl) rfl rfl) (.cons rfl (ok_add (dlt rfl rfl) rfl rfl rfl) (.cons rfl (ok_assign (dlt rfl rfl) rfl rfl) (.nil ?_))))
   refine ak_inBlock ?_
   refine ak_inLoop ?_
   exact ak_conv (.cons rfl (.refl _) (.cons rfl (.refl _) (.nil _))) (.nil _) (ih _ _ h w F ρ)
  ·have h := cond_f ht h
   refine ak_exit rfl ?_
   refine ak_seq ?_
   refine ak_regionS (.cons rfl (ok_move (dlt rfl rfl) rfl rfl) (.cons rfl (ok_assign (dlt rfl rfl) rfl rfl) (.nil ?_)))
   obtain rfl := Option.some.inj h
   refine ak_conv (Γ' := [(4, .int .i64 a1)]) (σ' := []) (.cons rfl (.refl _) (.nil _)) (.nil _) ?_
   exact ak_ret (fn := Tryz.f79) Tryz.func79 rfl trivial rfl)
theorem d79 {a0 : List UInt8} {a1 : Int} {r : Int} (h : f79 (.e79 a0 a1) = some r) : Does Tryz.prog GG 79 [.str a0, .int .i64 a1] [] (fun z _ => z = .int .i64 r) := fn_of (fn := Tryz.f79) Tryz.func79 rfl Tryz.ntmps79 rfl (w79 _ _ h)
/-- riffle/riffleref01.Digit -/
noncomputable abbrev b181 : Code := codeOf Tryz.f181
inductive L181 where
 | e181 (a0 : Int)
noncomputable def f181 : L181 → Option Bool
 | .e181 a0 =>
  some ((decide ((48 : Int) ≤ a0)) && (decide (a0 ≤ (57 : Int))))
def M181 : L181 → Bool → Prop
 | .e181 a0, r => ∀ (w : World) (F : Nat → Prop) (ρ : Rho), AK Tryz.prog (ctx GG 9 w F ρ []) 181 [.code b181] (argE 0 [.int .u8 a0]) [] (fun z _ => z = .bool r)
theorem w181 : ∀ (l : L181) (r : Bool), f181 l = some r → M181 l r := (by
 intro l r h
 cases l with
 | e181 a0 =>
  intro w F ρ
  dsimp only [f181] at h
  refine ak_seq ?_
  refine ak_regionS (.cons rfl (ok_assign (dlt rfl rfl) rfl rfl) (.nil ?_))
  refine ak_seq ?_
  refine ak_regionS (.cons rfl (ok_move (dlt rfl rfl) rfl rfl) (.cons rfl (ok_geq (dlt rfl rfl) rfl rfl rfl) (.cons rfl (ok_move (dlt rfl rfl) rfl rfl) (.consG (pre := []) (dlt rfl rfl) rfl rfl rfl rfl .nil (fun he => ok_move (dlt rfl rfl) rfl rfl) (.consG (pre := [(6, .int .u8 a0)]) (dlt rfl rfl) rfl rfl rfl rfl (.cons rfl (fun he => he) .nil) (fun he => ok_leq (dlt rfl rfl) rfl rfl rfl) (.cons rfl (ok_andW (dlt rfl rfl) rfl rfl rfl (fun h => h)) (.cons rfl (ok_assign (dlt rfl rfl) rfl rfl) (.nil ?_))))))))
  obtain rfl := Option.some.inj h
  refine ak_conv (Γ' := [(2, .bool ((decide ((48 : Int) ≤ a0)) && (decide (a0 ≤ (57 : Int)))))]) (σ' := []) (.cons rfl (.refl _) (.nil _)) (.nil _) ?_
  exact ak_ret (fn := Tryz.f181) Tryz.func181 rfl trivial rfl)
theorem d181 {a0 : Int} {r : Bool} (h : f181 (.e181 a0) = some r) : Does Tryz.prog GG 181 [.int .u8 a0] [] (fun z _ => z = .bool r) := fn_of (fn := Tryz.f181) Tryz.func181 rfl Tryz.ntmps181 rfl (w181 _ _ h)
/-- riffle/riffleref01.Kind -/
noncomputable abbrev b130 : Code := codeOf Tryz.f130
inductive L130 where
 | e130 (a0 : Int)
 | l130_0 (a0 : Int) (a1 : List UInt8) (a2 : Int) (a3 : Int)
noncomputable def f130 : L130 → Option Int
 | .e130 a0 =>
  f129 (.e129 a0) >>= fun v1 =>
  if v1 = true then
   some (1 : Int)
  else
   f130 (.l130_0 a0 ([(91 : UInt8), (93 : UInt8), (123 : UInt8), (125 : UInt8), (44 : UInt8), (58 : UInt8), (34 : UInt8)] : List UInt8) (([(91 : UInt8), (93 : UInt8), (123 : UInt8), (125 : UInt8), (44 : UInt8), (58 : UInt8), (34 : UInt8)] : List UInt8).length : Int) (0 : Int))
 | .l130_0 a0 a1 a2 a3 =>
  if (decide (a3 < a2)) = true then
   idx a1 a3 >>= fun v2 =>
   if (a0 == (v2.toNat : Int)) = true then
    some (IntKind.wrap .i64 (a3 + (2 : Int)))
   else
    f130 (.l130_0 a0 a1 a2 (IntKind.wrap .i64 (a3 + (1 : Int))))
  else
   gd (!(a0 == (45 : Int))) (f181 (.e181 a0)) >>= fun v3 =>
   if ((a0 == (45 : Int)) || v3) = true then
    some (9 : Int)
   else
    if (((a0 == (116 : Int)) || (a0 == (102 : Int))) || (a0 == (110 : Int))) = true then
     some (10 : Int)
    else
     some (0 : Int)
 partial_fixpoint
def M130 : L130 → Int → Prop
 | .e130 a0, r => ∀ (w : World) (F : Nat → Prop) (ρ : Rho), AK Tryz.prog (ctx GG 36 w F ρ []) 130 [.code b130] (argE 0 [.int .u8 a0]) [] (fun z _ => z = .int .i64 r)
 | .l130_0 a0 a1 a2 a3, r => ∀ (w : World) (F : Nat → Prop) (ρ : Rho), AK Tryz.prog (ctx GG 36 w F ρ []) 130 [.code (c1 (c1 (c2 (c1 (c2 (c2 b130)))))), .inLoop (c1 (c1 (c2 (c1 (c2 (c2 b130)))))), .inBlock 0, .code (c2 (c2 (c2 b130)))] [(0, .int .u8 a0), (7, .sf Ty.u8 a1), (8, .int .i64 a2), (9, .int .i64 a3)] [] (fun z _ => z = .int .i64 r)
theorem w130 : ∀ (l : L130) (r : Int), f130 l = some r → M130 l r := f130.partial_correctness M130 (by
 intro f ih l r h
 cases l with
 | e130 a0 =>
  intro w F ρ
  dsimp only at h
  refine ak_seq ?_
  refine ak_regionS (.cons rfl (ok_assign (dlt rfl rfl) rfl rfl) (.nil ?_))
  refine ak_seq ?_
  refine ak_seq ?_
  obtain ⟨v1, hv1, h⟩ := bind_of h
  refine ak_regionS (.cons rfl (ok_move (dlt rfl rfl) rfl rfl) (.cons rfl (ok_call (xs := [.int .u8 a0]) (caps := []) (dlt rfl rfl) rfl rfl Tryz.func129 rfl rfl rfl (d129 hv1) rfl) (.nil ?_)))
  refine ak_cond rfl (fun ht => ?_) (fun ht => ?_)
  ·have h := cond_t ht h
   refine ak_seq ?_
   refine ak_regionS (.cons rfl (ok_assign (dlt rfl rfl) rfl rfl) (.nil ?_))
   obtain rfl := Option.some.inj h
   refine ak_conv (Γ' := [(2, .int .i64 (1 : Int))]) (σ' := []) (.cons rfl (.refl _) (.nil _)) (.nil _) ?_
   exact ak_ret (fn := Tryz.f130) Tryz.func130 rfl trivial rfl
  ·have h := cond_f ht h
   refine ak_skip ?_
   refine ak_seq ?_
   refine ak_seq ?_
   refine ak_regionS (.cons rfl (ok_lit (τ := Ty.u8) (dlt rfl rfl) ([(91 : UInt8), (93 : UInt8), (123 : UInt8), (125 : UInt8), (44 : UInt8), (58 : UInt8), (34 : UInt8)] : List UInt8) rfl Tryz.underlying22 ty5 rfl rfl rfl rfl rfl (by decide) (by decide) rfl) (.cons rfl (ok_lenF (τ := Ty.u8) (xs := ([(91 : UInt8), (93 : UInt8), (123 : UInt8), (125 : UInt8), (44 : UInt8), (58 : UInt8), (34 : UInt8)] : List UInt8)) (dlt rfl rfl) rfl Tryz.underlying22 rfl) (.cons rfl (ok_move (dlt rfl rfl) rfl rfl) (.nil ?_))))
   refine ak_block ?_
   refine ak_loop ?_
   exact ak_conv (.cons rfl (.refl _) (.cons rfl (.refl _) (.cons rfl (.refl _) (.cons rfl (.refl _) (.nil _))))) (.nil _) (ih _ _ h w F ρ)
 | l130_0 a0 a1 a2 a3 =>
  intro w F ρ
  dsimp only at h
  refine ak_seq ?_
  refine ak_regionS (.cons rfl (ok_lss (dlt rfl rfl) rfl rfl rfl) (.nil ?_))
  refine ak_seq ?_
  refine ak_cond rfl (fun ht => ?_) (fun ht => ?_)
  ·have h := cond_t ht h
   refine ak_skip ?_
   refine ak_seq ?_
   refine ak_block ?_
   refine ak_seq ?_
   obtain ⟨v2, hv2, h⟩ := bind_of h
   refine ak_regionS (.cons rfl (ok_move (dlt rfl rfl) rfl rfl) (.cons rfl (ok_indexF (τ := Ty.u8) (x := v2) (dlt rfl rfl) rfl Tryz.underlying22 ty5 rfl rfl rfl (idx_0 hv2) (idx_1 hv2)) (.cons rfl (ok_loadR (dlt rfl rfl) rfl ty5 rfl rfl) (.cons rfl (ok_assign (dlt rfl rfl) rfl rfl) (.cons rfl (ok_assign (dlt rfl rfl) rfl rfl) (.nil ?_))))))
   refine ak_seq ?_
   refine ak_regionS (.cons rfl (ok_move (dlt rfl rfl) rfl rfl) (.cons rfl (ok_move (dlt rfl rfl) rfl rfl) (.cons rfl (ok_eql (dlt rfl rfl) rfl rfl rfl) (.nil ?_))))
   refine ak_cond rfl (fun ht => ?_) (fun ht => ?_)
   ·have h := cond_t ht h
    refine ak_seq ?_
    refine ak_regionS (.cons rfl (ok_move (dlt rfl rfl) rfl rfl) (.cons rfl (ok_add (dlt rfl rfl) rfl rfl rfl) (.cons rfl (ok_assign (dlt rfl rfl) rfl rfl) (.nil ?_))))
    obtain rfl := Option.some.inj h
    refine ak_conv (Γ' := [(2, .int .i64 (IntKind.wrap .i64 (a3 + (2 : Int))))]) (σ' := []) (.cons rfl (.refl _) (.nil _)) (.nil _) ?_
    exact ak_ret (fn := Tryz.f130) Tryz.func130 rfl trivial rfl
   ·have h := cond_f ht h
    refine ak_skip ?_
    refine ak_inBlock ?_
    refine ak_regionS (.cons rfl (ok_add (dlt rfl rfl) rfl rfl rfl) (.cons rfl (ok_move (dlt rfl rfl) rfl rfl) (.nil ?_)))
    refine ak_inLoop ?_
    exact ak_conv (.cons rfl (.refl _) (.cons rfl (.refl _) (.cons rfl (.refl _) (.cons rfl (.refl _) (.nil _))))) (.nil _) (ih _ _ h w F ρ)
  ·have h := cond_f ht h
   refine ak_exit rfl ?_
   refine ak_seq ?_
   refine ak_seq ?_
   obtain ⟨v3, hv3, h⟩ := bind_of h
   refine ak_regionS (.cons rfl (ok_move (dlt rfl rfl) rfl rfl) (.cons rfl (ok_eql (dlt rfl rfl) rfl rfl rfl) (.cons rfl (ok_move (dlt rfl rfl) rfl rfl) (.consG (pre := []) (dlt rfl rfl) rfl rfl rfl rfl .nil (fun he => ok_move (dlt rfl rfl) rfl rfl) (.consG (pre := [(23, .int .u8 a0)]) (dlt rfl rfl) rfl rfl rfl rfl (.cons rfl (fun he => he) .nil) (fun he => ok_call (xs := [.int .u8 a0]) (caps := []) (dlt rfl rfl) rfl rfl Tryz.func181 rfl rfl rfl (d181 (gd_t hv3 he)) rfl) (.cons rfl (ok_orW (dlt rfl rfl) rfl rfl rfl (fun h => (bnot_t h))) (.nil ?_)))))))
   refine ak_cond rfl (fun ht => ?_) (fun ht => ?_)
   ·have h := cond_t ht h
    refine ak_seq ?_
    refine ak_regionS (.cons rfl (ok_assign (dlt rfl rfl) rfl rfl) (.nil ?_))
    obtain rfl := Option.some.inj h
    refine ak_conv (Γ' := [(2, .int .i64 (9 : Int))]) (σ' := []) (.cons rfl (.refl _) (.nil _)) (.nil _) ?_
    exact ak_ret (fn := Tryz.f130) Tryz.func130 rfl trivial rfl
   ·have h := cond_f ht h
    refine ak_skip ?_
    refine ak_seq ?_
    refine ak_seq ?_
    refine ak_regionS (.cons rfl (ok_move (dlt rfl rfl) rfl rfl) (.cons rfl (ok_eql (dlt rfl rfl) rfl rfl rfl) (.cons rfl (ok_move (dlt rfl rfl) rfl rfl) (.consG (pre := []) (dlt rfl rfl) rfl rfl rfl rfl .nil (fun he => ok_move (dlt rfl rfl) rfl rfl) (.consG (pre := [(29, .int .u8 a0)]) (dlt rfl rfl) rfl rfl rfl rfl (.cons rfl (fun he => he) .nil) (fun he => ok_eql (dlt rfl rfl) rfl rfl rfl) (.cons rfl (ok_orW (dlt rfl rfl) rfl rfl rfl (fun h => (bnot_t h))) (.cons rfl (ok_move (dlt rfl rfl) rfl rfl) (.consG (pre := []) (dlt rfl rfl) rfl rfl rfl rfl .nil (fun he => ok_move (dlt rfl rfl) rfl rfl) (.consG (pre := [(33, .int .u8 a0)]) (dlt rfl rfl) rfl rfl rfl rfl (.cons rfl (fun he => he) .nil) (fun he => ok_eql (dlt rfl rfl) rfl rfl rfl) (.cons rfl (ok_orW (dlt rfl rfl) rfl rfl rfl (fun h => (bnot_t h))) (.nil ?_)))))))))))
    refine ak_cond rfl (fun ht => ?_) (fun ht => ?_)
    ·have h := cond_t ht h
     refine ak_seq ?_
     refine ak_regionS (.cons rfl (ok_assign (dlt rfl rfl) rfl rfl) (.nil ?_))
     obtain rfl := Option.some.inj h
     refine ak_conv (Γ' := [(2, .int .i64 (10 : Int))]) (σ' := []) (.cons rfl (.refl _) (.nil _)) (.nil _) ?_
     exact ak_ret (fn := Tryz.f130) Tryz.func130 rfl trivial rfl
    ·have h := cond_f ht h
     refine ak_skip ?_
     refine ak_seq ?_
     refine ak_regionS (.cons rfl (ok_assign (dlt rfl rfl) rfl rfl) (.nil ?_))
     obtain rfl := Option.some.inj h
     refine ak_conv (Γ' := [(2, .int .i64 (0 : Int))]) (σ' := []) (.cons rfl (.refl _) (.nil _)) (.nil _) ?_
     exact ak_ret (fn := Tryz.f130) Tryz.func130 rfl trivial rfl)
theorem d130 {a0 : Int} {r : Int} (h : f130 (.e130 a0) = some r) : Does Tryz.prog GG 130 [.int .u8 a0] [] (fun z _ => z = .int .i64 r) := fn_of (fn := Tryz.f130) Tryz.func130 rfl Tryz.ntmps130 rfl (w130 _ _ h)
/-- riffle/riffleref02.size -/
noncomputable abbrev b208 : Code := codeOf Tryz.f208
inductive L208 where
 | e208 (a0 : Int)
noncomputable def f208 : L208 → Option Int
 | .e208 a0 =>
  if (decide (a0 < (128 : Int))) = true then
   some (1 : Int)
  else
   if ((decide ((192 : Int) ≤ a0)) && (decide (a0 < (224 : Int)))) = true then
    some (2 : Int)
   else
    if ((decide ((224 : Int) ≤ a0)) && (decide (a0 < (240 : Int)))) = true then
     some (3 : Int)
    else
     if ((decide ((240 : Int) ≤ a0)) && (decide (a0 < (248 : Int)))) = true then
      some (4 : Int)
     else
      some (0 : Int)
def M208 : L208 → Int → Prop
 | .e208 a0, r => ∀ (w : World) (F : Nat → Prop) (ρ : Rho), AK Tryz.prog (ctx GG 23 w F ρ []) 208 [.code b208] (argE 0 [.int .u8 a0]) [] (fun z _ => z = .int .i64 r)
theorem w208 : ∀ (l : L208) (r : Int), f208 l = some r → M208 l r := (by
 intro l r h
 cases l with
 | e208 a0 =>
  intro w F ρ
  dsimp only [f208] at h
  refine ak_seq ?_
  refine ak_regionS (.cons rfl (ok_assign (dlt rfl rfl) rfl rfl) (.nil ?_))
  refine ak_seq ?_
  refine ak_seq ?_
  refine ak_regionS (.cons rfl (ok_move (dlt rfl rfl) rfl rfl) (.cons rfl (ok_lss (dlt rfl rfl) rfl rfl rfl) (.nil ?_)))
  refine ak_cond rfl (fun ht => ?_) (fun ht => ?_)
  ·have h := cond_t ht h
   refine ak_seq ?_
   refine ak_regionS (.cons rfl (ok_assign (dlt rfl rfl) rfl rfl) (.nil ?_))
   obtain rfl := Option.some.inj h
   refine ak_conv (Γ' := [(2, .int .i64 (1 : Int))]) (σ' := []) (.cons rfl (.refl _) (.nil _)) (.nil _) ?_
   exact ak_ret (fn := Tryz.f208) Tryz.func208 rfl trivial rfl
  ·have h := cond_f ht h
   refine ak_skip ?_
   refine ak_seq ?_
   refine ak_seq ?_
   refine ak_regionS (.cons rfl (ok_move (dlt rfl rfl) rfl rfl) (.cons rfl (ok_geq (dlt rfl rfl) rfl rfl rfl) (.cons rfl (ok_move (dlt rfl rfl) rfl rfl) (.consG (pre := []) (dlt rfl rfl) rfl rfl rfl rfl .nil (fun he => ok_move (dlt rfl rfl) rfl rfl) (.consG (pre := [(8, .int .u8 a0)]) (dlt rfl rfl) rfl rfl rfl rfl (.cons rfl (fun he => he) .nil) (fun he => ok_lss (dlt rfl rfl) rfl rfl rfl) (.cons rfl (ok_andW (dlt rfl rfl) rfl rfl rfl (fun h => h)) (.nil ?_)))))))
   refine ak_cond rfl (fun ht => ?_) (fun ht => ?_)
   ·have h := cond_t ht h
    refine ak_seq ?_
    refine ak_regionS (.cons rfl (ok_assign (dlt rfl rfl) rfl rfl) (.nil ?_))
    obtain rfl := Option.some.inj h
    refine ak_conv (Γ' := [(2, .int .i64 (2 : Int))]) (σ' := []) (.cons rfl (.refl _) (.nil _)) (.nil _) ?_
    exact ak_ret (fn := Tryz.f208) Tryz.func208 rfl trivial rfl
   ·have h := cond_f ht h
    refine ak_skip ?_
    refine ak_seq ?_
    refine ak_seq ?_
    refine ak_regionS (.cons rfl (ok_move (dlt rfl rfl) rfl rfl) (.cons rfl (ok_geq (dlt rfl rfl) rfl rfl rfl) (.cons rfl (ok_move (dlt rfl rfl) rfl rfl) (.consG (pre := []) (dlt rfl rfl) rfl rfl rfl rfl .nil (fun he => ok_move (dlt rfl rfl) rfl rfl) (.consG (pre := [(14, .int .u8 a0)]) (dlt rfl rfl) rfl rfl rfl rfl (.cons rfl (fun he => he) .nil) (fun he => ok_lss (dlt rfl rfl) rfl rfl rfl) (.cons rfl (ok_andW (dlt rfl rfl) rfl rfl rfl (fun h => h)) (.nil ?_)))))))
    refine ak_cond rfl (fun ht => ?_) (fun ht => ?_)
    ·have h := cond_t ht h
     refine ak_seq ?_
     refine ak_regionS (.cons rfl (ok_assign (dlt rfl rfl) rfl rfl) (.nil ?_))
     obtain rfl := Option.some.inj h
     refine ak_conv (Γ' := [(2, .int .i64 (3 : Int))]) (σ' := []) (.cons rfl (.refl _) (.nil _)) (.nil _) ?_
     exact ak_ret (fn := Tryz.f208) Tryz.func208 rfl trivial rfl
    ·have h := cond_f ht h
     refine ak_skip ?_
     refine ak_seq ?_
     refine ak_seq ?_
     refine ak_regionS (.cons rfl (ok_move (dlt rfl rfl) rfl rfl) (.cons rfl (ok_geq (dlt rfl rfl) rfl rfl rfl) (.cons rfl (ok_move (dlt rfl rfl) rfl rfl) (.consG (pre := []) (dlt rfl rfl) rfl rfl rfl rfl .nil (fun he => ok_move (dlt rfl rfl) rfl rfl) (.consG (pre := [(20, .int .u8 a0)]) (dlt rfl rfl) rfl rfl rfl rfl (.cons rfl (fun he => he) .nil) (fun he => ok_lss (dlt rfl rfl) rfl rfl rfl) (.cons rfl (ok_andW (dlt rfl rfl) rfl rfl rfl (fun h => h)) (.nil ?_)))))))
     refine ak_cond rfl (fun ht => ?_) (fun ht => ?_)
     ·have h := cond_t ht h
      refine ak_seq ?_
      refine ak_regionS (.cons rfl (ok_assign (dlt rfl rfl) rfl rfl) (.nil ?_))
      obtain rfl := Option.some.inj h
      refine ak_conv (Γ' := [(2, .int .i64 (4 : Int))]) (σ' := []) (.cons rfl (.refl _) (.nil _)) (.nil _) ?_
      exact ak_ret (fn := Tryz.f208) Tryz.func208 rfl trivial rfl
     ·have h := cond_f ht h
      refine ak_skip ?_
      refine ak_seq ?_
      refine ak_regionS (.cons rfl (ok_assign (dlt rfl rfl) rfl rfl) (.nil ?_))
      obtain rfl := Option.some.inj h
      refine ak_conv (Γ' := [(2, .int .i64 (0 : Int))]) (σ' := []) (.cons rfl (.refl _) (.nil _)) (.nil _) ?_
      exact ak_ret (fn := Tryz.f208) Tryz.func208 rfl trivial rfl)
theorem d208 {a0 : Int} {r : Int} (h : f208 (.e208 a0) = some r) : Does Tryz.prog GG 208 [.int .u8 a0] [] (fun z _ => z = .int .i64 r) := fn_of (fn := Tryz.f208) Tryz.func208 rfl Tryz.ntmps208 rfl (w208 _ _ h)
/-- riffle/riffleref02.number -/
noncomputable abbrev b209 : Code := codeOf Tryz.f209
inductive L209 where
 | e209 (a0 : List UInt8)
 | l209_0 (a0 : List UInt8) (a1 : Int)
 | l209_1 (a0 : List UInt8) (a1 : Int)
 | l209_2 (a0 : List UInt8) (a1 : Int)
 | l209_3 (a0 : List UInt8) (a1 : Int) (a2 : Int)
noncomputable def f209 : L209 → Option Int
 | .e209 a0 =>
  idx a0 (0 : Int) >>= fun v1 =>
  if ((a0.length : Int) == (2 : Int)) = true then
   f209 (.l209_0 a0 (IntKind.wrap .i64 ((IntKind.wrap .i64 (v1.toNat : Int)) - (192 : Int))))
  else
   f209 (.l209_0 a0 (IntKind.wrap .i64 (v1.toNat : Int)))
 | .l209_0 a0 a1 =>
  if ((a0.length : Int) == (3 : Int)) = true then
   f209 (.l209_1 a0 (IntKind.wrap .i64 (a1 - (224 : Int))))
  else
   f209 (.l209_1 a0 a1)
 | .l209_1 a0 a1 =>
  if ((a0.length : Int) == (4 : Int)) = true then
   f209 (.l209_2 a0 (IntKind.wrap .i64 (a1 - (240 : Int))))
  else
   f209 (.l209_2 a0 a1)
 | .l209_2 a0 a1 =>
  f209 (.l209_3 a0 a1 (1 : Int))
 | .l209_3 a0 a1 a2 =>
  if (decide (a2 < (a0.length : Int))) = true then
   idx a0 a2 >>= fun v2 =>
   f209 (.l209_3 a0 (IntKind.wrap .i64 ((IntKind.wrap .i64 ((IntKind.wrap .i64 (a1 * (64 : Int))) + (IntKind.wrap .i64 (v2.toNat : Int)))) - (128 : Int))) (IntKind.wrap .i64 (a2 + (1 : Int))))
  else
   some a1
 partial_fixpoint
def M209 : L209 → Int → Prop
 | .e209 a0, r => ∀ (w : World) (F : Nat → Prop) (ρ : Rho), AK Tryz.prog (ctx GG 38 w F ρ []) 209 [.code b209] (argE 0 [.str a0]) [] (fun z _ => z = .int .i64 r)
 | .l209_0 a0 a1, r => ∀ (w : World) (F : Nat → Prop) (ρ : Rho), AK Tryz.prog (ctx GG 38 w F ρ []) 209 [.code (c2 (c2 (c2 b209)))] [(0, .str a0), (3, .int .i64 a1)] [] (fun z _ => z = .int .i64 r)
 | .l209_1 a0 a1, r => ∀ (w : World) (F : Nat → Prop) (ρ : Rho), AK Tryz.prog (ctx GG 38 w F ρ []) 209 [.code (c2 (c2 (c2 (c2 b209))))] [(0, .str a0), (3, .int .i64 a1)] [] (fun z _ => z = .int .i64 r)
 | .l209_2 a0 a1, r => ∀ (w : World) (F : Nat → Prop) (ρ : Rho), AK Tryz.prog (ctx GG 38 w F ρ []) 209 [.code (c2 (c2 (c2 (c2 (c2 b209)))))] [(0, .str a0), (3, .int .i64 a1)] [] (fun z _ => z = .int .i64 r)
 | .l209_3 a0 a1 a2, r => ∀ (w : World) (F : Nat → Prop) (ρ : Rho), AK Tryz.prog (ctx GG 38 w F ρ []) 209 [.code (c1 (c1 (c2 (c1 (c2 (c2 (c2 (c2 (c2 b209))))))))), .inLoop (c1 (c1 (c2 (c1 (c2 (c2 (c2 (c2 (c2 b209))))))))), .inBlock 0, .code (c2 (c2 (c2 (c2 (c2 (c2 b209))))))] [(0, .str a0), (3, .int .i64 a1), (4, .int .i64 a2)] [] (fun z _ => z = .int .i64 r)
theorem w209 : ∀ (l : L209) (r : Int), f209 l = some r → M209 l r := f209.partial_correctness M209 (by
 intro f ih l r h
 cases l with
 | e209 a0 =>
  intro w F ρ
  dsimp only at h
  refine ak_seq ?_
  refine ak_regionS (.cons rfl (ok_assign (dlt rfl rfl) rfl rfl) (.nil ?_))
  refine ak_seq ?_
  obtain ⟨v1, hv1, h⟩ := bind_of h
  refine ak_regionS (.cons rfl (ok_move (dlt rfl rfl) rfl rfl) (.cons rfl (ok_byte (s := a0) (c := v1) (dlt rfl rfl) rfl Tryz.underlying9 rfl rfl (idx_0 hv1) (idx_1 hv1)) (.cons rfl (ok_conv (dlt rfl rfl) rfl Tryz.underlying5 Tryz.underlying3 rfl) (.cons rfl (ok_assign (dlt rfl rfl) rfl rfl) (.nil ?_)))))
  refine ak_seq ?_
  refine ak_seq ?_
  refine ak_regionS (.cons rfl (ok_move (dlt rfl rfl) rfl rfl) (.cons rfl (ok_lenT (s := a0) (dlt rfl rfl) rfl Tryz.underlying9 rfl) (.cons rfl (ok_eql (dlt rfl rfl) rfl rfl rfl) (.nil ?_))))
  refine ak_cond rfl (fun ht => ?_) (fun ht => ?_)
  ·have h := cond_t ht h
   refine ak_regionS (.cons rfl (ok_move (dlt rfl rfl) rfl rfl) (.cons rfl (ok_sub (dlt rfl rfl) rfl rfl rfl) (.cons rfl (ok_assign (dlt rfl rfl) rfl rfl) (.nil ?_))))
   exact ak_conv (.cons rfl (.refl _) (.cons rfl (.refl _) (.nil _))) (.nil _) (ih _ _ h w F ρ)
  ·have h := cond_f ht h
   refine ak_skip ?_
   exact ak_conv (.cons rfl (.refl _) (.cons rfl (.refl _) (.nil _))) (.nil _) (ih _ _ h w F ρ)
 | l209_0 a0 a1 =>
  intro w F ρ
  dsimp only at h
  refine ak_seq ?_
  refine ak_seq ?_
  refine ak_regionS (.cons rfl (ok_move (dlt rfl rfl) rfl rfl) (.cons rfl (ok_lenT (s := a0) (dlt rfl rfl) rfl Tryz.underlying9 rfl) (.cons rfl (ok_eql (dlt rfl rfl) rfl rfl rfl) (.nil ?_))))
  refine ak_cond rfl (fun ht => ?_) (fun ht => ?_)
  ·have h := cond_t ht h
   refine ak_regionS (.cons rfl (ok_move (dlt rfl rfl) rfl rfl) (.cons rfl (ok_sub (dlt rfl rfl) rfl rfl rfl) (.cons rfl (ok_assign (dlt rfl rfl) rfl rfl) (.nil ?_))))
   exact ak_conv (.cons rfl (.refl _) (.cons rfl (.refl _) (.nil _))) (.nil _) (ih _ _ h w F ρ)
  ·have h := cond_f ht h
   refine ak_skip ?_
   exact ak_conv (.cons rfl (.refl _) (.cons rfl (.refl _) (.nil _))) (.nil _) (ih _ _ h w F ρ)
 | l209_1 a0 a1 =>
  intro w F ρ
  dsimp only at h
  refine ak_seq ?_
  refine ak_seq ?_
  refine ak_regionS (.cons rfl (ok_move (dlt rfl rfl) rfl rfl) (.cons rfl (ok_lenT (s := a0) (dlt rfl rfl) rfl Tryz.underlying9 rfl) (.cons rfl (ok_eql (dlt rfl rfl) rfl rfl rfl) (.nil ?_))))
  refine ak_cond rfl (fun ht => ?_) (fun ht => ?_)
  ·have h := cond_t ht h
   refine ak_regionS (.cons rfl (ok_move (dlt rfl rfl) rfl rfl) (.cons rfl (ok_sub (dlt rfl rfl) rfl rfl rfl) (.cons rfl (ok_assign (dlt rfl rfl) rfl rfl) (.nil ?_))))
   exact ak_conv (.cons rfl (.refl _) (.cons rfl (.refl _) (.nil _))) (.nil _) (ih _ _ h w F ρ)
  ·have h := cond_f ht h
   refine ak_skip ?_
   exact ak_conv (.cons rfl (.refl _) (.cons rfl (.refl _) (.nil _))) (.nil _) (ih _ _ h w F ρ)
 | l209_2 a0 a1 =>
  intro w F ρ
  dsimp only at h
  refine ak_seq ?_
  refine ak_seq ?_
  refine ak_regionS (.cons rfl (ok_assign (dlt rfl rfl) rfl rfl) (.nil ?_))
  refine ak_block ?_
  refine ak_loop ?_
  exact ak_conv (.cons rfl (.refl _) (.cons rfl (.refl _) (.cons rfl (.refl _) (.nil _)))) (.nil _) (ih _ _ h w F ρ)
 | l209_3 a0 a1 a2 =>
  intro w F ρ
  dsimp only at h
  refine ak_seq ?_
  refine ak_seq ?_
  refine ak_regionS (.cons rfl (ok_move (dlt rfl rfl) rfl rfl) (.cons rfl (ok_move (dlt rfl rfl) rfl rfl) (.cons rfl (ok_lenT (s := a0) (dlt rfl rfl) rfl Tryz.underlying9 rfl) (.cons rfl (ok_lss (dlt rfl rfl) rfl rfl rfl) (.nil ?_)))))
  refine ak_cond rfl (fun ht => ?_) (fun ht => ?_)
  ·have h := cond_t ht h
   refine ak_skip ?_
   refine ak_seq ?_
   refine ak_block ?_
   obtain ⟨v2, hv2, h⟩ := bind_of h
   refine ak_regionS (.cons rfl (ok_move (dlt rfl rfl) rfl rfl) (.cons rfl (ok_mul (dlt rfl rfl) rfl rfl rfl) (.cons rfl (ok_move (dlt rfl rfl) rfl rfl) (.cons rfl (ok_move (dlt rfl rfl) rfl rfl) (.cons rfl (ok_byte (s := a0) (c := v2) (dlt rfl rfl) rfl Tryz.underlying9 rfl rfl (idx_0 hv2) (idx_1 hv2)) (.cons rfl (ok_conv (dlt rfl rfl) rfl Tryz.underlying5 Tryz.underlying3 rfl) (.cons rfl (ok_add (dlt rfl rfl) rfl rfl rfl) (.cons rfl (ok_sub (dlt rfl rfl) rfl rfl rfl) (.cons rfl (ok_assign (dlt rfl rfl) rfl rfl) (.nil ?_))))))))))
   refine ak_inBlock ?_
   refine ak_regionS (.cons rfl (ok_move (dlt rfl rfl) rfl rfl) (.cons rfl (ok_add (dlt rfl rfl) rfl rfl rfl) (.cons rfl (ok_assign (dlt rfl rfl) rfl rfl) (.nil ?_))))
   refine ak_inLoop ?_
   exact ak_conv (.cons rfl (.refl _) (.cons rfl (.refl _) (.cons rfl (.refl _) (.nil _)))) (.nil _) (ih _ _ h w F ρ)
  ·have h := cond_f ht h
   refine ak_exit rfl ?_
   refine ak_seq ?_
   refine ak_regionS (.cons rfl (ok_move (dlt rfl rfl) rfl rfl) (.cons rfl (ok_assign (dlt rfl rfl) rfl rfl) (.nil ?_)))
   obtain rfl := Option.some.inj h
   refine ak_conv (Γ' := [(2, .int .i64 a1)]) (σ' := []) (.cons rfl (.refl _) (.nil _)) (.nil _) ?_
   exact ak_ret (fn := Tryz.f209) Tryz.func209 rfl trivial rfl)
theorem d209 {a0 : List UInt8} {r : Int} (h : f209 (.e209 a0) = some r) : Does Tryz.prog GG 209 [.str a0] [] (fun z _ => z = .int .i64 r) := fn_of (fn := Tryz.f209) Tryz.func209 rfl Tryz.ntmps209 rfl (w209 _ _ h)
end Go.Proofs.YtonlbdholdaifaaGreatDoor
end
section
set_option linter.unusedVariables false
set_option linter.unusedSimpArgs false
set_option maxRecDepth 10000
namespace Go.Proofs.YtonlbdholdaifaaGreatDoor
open Go Go.Rf Go.Proofs
/-- riffle/riffleref02.Begins -/
noncomputable abbrev b176 : Code := codeOf Tryz.f176
inductive L176 where
 | e176 (a0 : List UInt8)
 | l176_0 (a0 : List UInt8) (a1 : Int) (a2 : Int)
 | l176_1 (a0 : List UInt8) (a1 : Int) (a2 : List UInt8) (a3 : List UInt8)
noncomputable def f176 : L176 → Option (Bool × Bool × Int)
 | .e176 a0 =>
  if ((a0.length : Int) == (0 : Int)) = true then
   some (true, false, 0)
  else
   idx a0 (0 : Int) >>= fun v1 =>
   f208 (.e208 (v1.toNat : Int)) >>= fun v2 =>
   if ((v2 == (0 : Int)) || (decide (v2 < (a0.length : Int)))) = true then
    some (false, false, 0)
   else
    f176 (.l176_0 a0 v2 (1 : Int))
 | .l176_0 a0 a1 a2 =>
  if (decide (a2 < (a0.length : Int))) = true then
   idx a0 a2 >>= fun v3 =>
   gd (!(decide ((v3.toNat : Int) < (128 : Int)))) (idx a0 a2) >>= fun v4 =>
   if ((decide ((v3.toNat : Int) < (128 : Int))) || (decide ((191 : Int) < (v4.toNat : Int)))) = true then
    some (false, false, 0)
   else
    f176 (.l176_0 a0 a1 (IntKind.wrap .i64 (a2 + (1 : Int))))
  else
   f176 (.l176_1 a0 a1 a0 a0)
 | .l176_1 a0 a1 a2 a3 =>
  if (decide ((a2.length : Int) < a1)) = true then
   need (a2.length + ([(128 : UInt8)] : List UInt8).length ≤ 9223372036854775807) >>= fun v5 =>
   need (a3.length + ([(191 : UInt8)] : List UInt8).length ≤ 9223372036854775807) >>= fun v6 =>
   f176 (.l176_1 a0 a1 (a2 ++ ([(128 : UInt8)] : List UInt8)) (a3 ++ ([(191 : UInt8)] : List UInt8)))
  else
   f209 (.e209 a2) >>= fun v7 =>
   f209 (.e209 a3) >>= fun v8 =>
   idx ([0, 0, 128, 2048, 65536] : List Int) a1 >>= fun v9 =>
   if (((decide (v8 < v9)) || (decide ((1114111 : Int) < v7))) || ((decide ((55296 : Int) ≤ v7)) && (decide (v8 ≤ (57343 : Int))))) = true then
    some (false, false, 0)
   else
    if ((a0.length : Int) == a1) = true then
     some (true, true, v7)
    else
     some (true, false, 0)
 partial_fixpoint
def M176 : L176 → (Bool × Bool × Int) → Prop
 | .e176 a0, r => ∀ (w : World) (F : Nat → Prop) (ρ : Rho), AK Tryz.prog (ctx GG 84 w F ρ []) 176 [.code b176] (argE 0 [.str a0]) [] (fun z _ => z = .tup [.bool r.1, .bool r.2.1, .int .i64 r.2.2])
 | .l176_0 a0 a1 a2, r => ∀ (w : World) (F : Nat → Prop) (ρ : Rho), AK Tryz.prog (ctx GG 84 w F ρ []) 176 [.code (c1 (c1 (c2 (c1 (c2 (c2 (c2 (c2 b176)))))))), .inLoop (c1 (c1 (c2 (c1 (c2 (c2 (c2 (c2 b176)))))))), .inBlock 0, .code (c2 (c2 (c2 (c2 (c2 b176)))))] [(0, .str a0), (5, .int .i64 a1), (6, .int .i64 a2)] [] (fun z _ => z = .tup [.bool r.1, .bool r.2.1, .int .i64 r.2.2])
 | .l176_1 a0 a1 a2 a3, r => ∀ (w : World) (F : Nat → Prop) (ρ : Rho), AK Tryz.prog (ctx GG 84 w F ρ []) 176 [.code (c1 (c1 (c1 (c2 (c2 (c2 (c2 (c2 (c2 (c2 b176)))))))))), .inLoop (c1 (c1 (c1 (c2 (c2 (c2 (c2 (c2 (c2 (c2 b176)))))))))), .inBlock 2, .code (c2 (c2 (c2 (c2 (c2 (c2 (c2 (c2 b176))))))))] [(0, .str a0), (5, .int .i64 a1), (7, .str a2), (8, .str a3)] [] (fun z _ => z = .tup [.bool r.1, .bool r.2.1, .int .i64 r.2.2])
theorem w176 : ∀ (l : L176) (r : Bool × Bool × Int), f176 l = some r → M176 l r := f176.partial_correctness M176 (by
 intro f ih l r h
 cases l with
 | e176 a0 =>
  intro w F ρ
  dsimp only at h
  refine ak_seq ?_
  refine ak_regionS (.cons rfl (ok_assign (dlt rfl rfl) rfl rfl) (.cons rfl (ok_assign (dlt rfl rfl) rfl rfl) (.cons rfl (ok_assign (dlt rfl rfl) rfl rfl) (.nil ?_))))
  refine ak_seq ?_
  refine ak_seq ?_
  refine ak_regionS (.cons rfl (ok_move (dlt rfl rfl) rfl rfl) (.cons rfl (ok_lenT (s := a0) (dlt rfl rfl) rfl Tryz.underlying9 rfl) (.cons rfl (ok_eql (dlt rfl rfl) rfl rfl rfl) (.nil ?_))))
  refine ak_cond rfl (fun ht => ?_) (fun ht => ?_)
  ·have h := cond_t ht h
   refine ak_seq ?_
   refine ak_regionS (.cons rfl (ok_assign (dlt rfl rfl) rfl rfl) (.cons rfl (ok_assign (dlt rfl rfl) rfl rfl) (.cons rfl (ok_assign (dlt rfl rfl) rfl rfl) (.nil ?_))))
   obtain rfl := Option.some.inj h
   refine ak_conv (Γ' := [(2, .bool true), (3, .bool false), (4, .int .i64 (0 : Int))]) (σ' := []) (.cons rfl (.refl _) (.cons rfl (.refl _) (.cons rfl (.refl _) (.nil _)))) (.nil _) ?_
   exact ak_ret (fn := Tryz.f176) Tryz.func176 rfl trivial rfl
  ·have h := cond_f ht h
   refine ak_skip ?_
   refine ak_seq ?_
   obtain ⟨v1, hv1, h⟩ := bind_of h
   obtain ⟨v2, hv2, h⟩ := bind_of h
   refine ak_regionS (.cons rfl (ok_move (dlt rfl rfl) rfl rfl) (.cons rfl (ok_byte (s := a0) (c := v1) (dlt rfl rfl) rfl Tryz.underlying9 rfl rfl (idx_0 hv1) (idx_1 hv1)) (.cons rfl (ok_call (xs := [.int .u8 (v1.toNat : Int)]) (caps := []) (dlt rfl rfl) rfl rfl Tryz.func208 rfl rfl rfl (d208 hv2) rfl) (.cons rfl (ok_assign (dlt rfl rfl) rfl rfl) (.nil ?_)))))
   refine ak_seq ?_
   refine ak_seq ?_
   refine ak_regionS (.cons rfl (ok_move (dlt rfl rfl) rfl rfl) (.cons rfl (ok_eql (dlt rfl rfl) rfl rfl rfl) (.cons rfl (ok_move (dlt rfl rfl) rfl rfl) (.consG (pre := []) (dlt rfl rfl) rfl rfl rfl rfl .nil (fun he => ok_move (dlt rfl rfl) rfl rfl) (.consG (pre := [(21, .str a0)]) (dlt rfl rfl) rfl rfl rfl rfl (.cons rfl (fun he => he) .nil) (fun he => ok_lenT (s := a0) (dlt rfl rfl) rfl Tryz.underlying9 rfl) (.consG (pre := []) (dlt rfl rfl) rfl rfl rfl rfl .nil (fun he => ok_move (dlt rfl rfl) rfl rfl) (.consG (pre := [(22, .int .i64 (a0.length : Int)), (23, .int .i64 v2)]) (dlt rfl rfl) rfl rfl rfl rfl (.cons rfl (fun he => he) (.cons rfl (fun he => he) .nil)) (fun he => ok_gtr (dlt rfl rfl) rfl rfl rfl) (.cons rfl (ok_orW (dlt rfl rfl) rfl rfl rfl (fun h => (bnot_t h))) (.nil ?_)))))))))
   refine ak_cond rfl (fun ht => ?_) (fun ht => ?_)
   ·have h := cond_t ht h
    refine ak_seq ?_
    refine ak_regionS (.cons rfl (ok_assign (dlt rfl rfl) rfl rfl) (.cons rfl (ok_assign (dlt rfl rfl) rfl rfl) (.cons rfl (ok_assign (dlt rfl rfl) rfl rfl) (.nil ?_))))
    obtain rfl := Option.some.inj h
    refine ak_conv (Γ' := [(2, .bool false), (3, .bool false), (4, .int .i64 (0 : Int))]) (σ' := []) (.cons rfl (.refl _) (.cons rfl (.refl _) (.cons rfl (.refl _) (.nil _)))) (.nil _) ?_
    exact ak_ret (fn := Tryz.f176) Tryz.func176 rfl trivial rfl
   ·have h := cond_f ht h
    refine ak_skip ?_
    refine ak_seq ?_
    refine ak_seq ?_
    refine ak_regionS (.cons rfl (ok_assign (dlt rfl rfl) rfl rfl) (.nil ?_))
    refine ak_block ?_
    refine ak_loop ?_
    exact ak_conv (.cons rfl (.refl _) (.cons rfl (.refl _) (.cons rfl (.refl _) (.nil _)))) (.nil _) (ih _ _ h w F ρ)
 | l176_0 a0 a1 a2 =>
  intro w F ρ
  dsimp only at h
  refine ak_seq ?_
  refine ak_seq ?_
  refine ak_regionS (.cons rfl (ok_move (dlt rfl rfl) rfl rfl) (.cons rfl (ok_move (dlt rfl rfl) rfl rfl) (.cons rfl (ok_lenT (s := a0) (dlt rfl rfl) rfl Tryz.underlying9 rfl) (.cons rfl (ok_lss (dlt rfl rfl) rfl rfl rfl) (.nil ?_)))))
  refine ak_cond rfl (fun ht => ?_) (fun ht => ?_)
  ·have h := cond_t ht h
   refine ak_skip ?_
   refine ak_seq ?_
   refine ak_block ?_
   refine ak_seq ?_
   obtain ⟨v3, hv3, h⟩ := bind_of h
   obtain ⟨v4, hv4, h⟩ := bind_of h
   refine ak_regionS (.cons rfl (ok_move (dlt rfl rfl) rfl rfl) (.cons rfl (ok_move (dlt rfl rfl) rfl rfl) (.cons rfl (ok_byte (s := a0) (c := v3) (dlt rfl rfl) rfl Tryz.underlying9 rfl rfl (idx_0 hv3) (idx_1 hv3)) (.cons rfl (ok_lss (dlt rfl rfl) rfl rfl rfl) (.cons rfl (ok_move (dlt rfl rfl) rfl rfl) (.consG (pre := []) (dlt rfl rfl) rfl rfl rfl rfl .nil (fun he => ok_move (dlt rfl rfl) rfl rfl) (.consG (pre := []) (dlt rfl rfl) rfl rfl rfl rfl .nil (fun he => ok_move (dlt rfl rfl) rfl rfl) (.consG (pre := [(37, .str a0), (38, .int .i64 a2)]) (dlt rfl rfl) rfl rfl rfl rfl (.cons rfl (fun he => he) (.cons rfl (fun he => he) .nil)) (fun he => ok_byte (s := a0) (c := v4) (dlt rfl rfl) rfl Tryz.underlying9 rfl rfl (idx_0 (gd_t hv4 he)) (idx_1 (gd_t hv4 he))) (.consG (pre := [(39, .int .u8 (v4.toNat : Int))]) (dlt rfl rfl) rfl rfl rfl rfl (.cons rfl (fun he => he) .nil) (fun he => ok_gtr (dlt rfl rfl) rfl rfl rfl) (.cons rfl (ok_orW (dlt rfl rfl) rfl rfl rfl (fun h => (bnot_t h))) (.nil ?_)))))))))))
   refine ak_cond rfl (fun ht => ?_) (fun ht => ?_)
   ·have h := cond_t ht h
    refine ak_seq ?_
    refine ak_regionS (.cons rfl (ok_assign (dlt rfl rfl) rfl rfl) (.cons rfl (ok_assign (dlt rfl rfl) rfl rfl) (.cons rfl (ok_assign (dlt rfl rfl) rfl rfl) (.nil ?_))))
    obtain rfl := Option.some.inj h
    refine ak_conv (Γ' := [(2, .bool false), (3, .bool false), (4, .int .i64 (0 : Int))]) (σ' := []) (.cons rfl (.refl _) (.cons rfl (.refl _) (.cons rfl (.refl _) (.nil _)))) (.nil _) ?_
    exact ak_ret (fn := Tryz.f176) Tryz.func176 rfl trivial rfl
   ·have h := cond_f ht h
    refine ak_skip ?_
    refine ak_inBlock ?_
    refine ak_regionS (.cons rfl (ok_move (dlt rfl rfl) rfl rfl) (.cons rfl (ok_add (dlt rfl rfl) rfl rfl rfl) (.cons rfl (ok_assign (dlt rfl rfl) rfl rfl) (.nil ?_))))
    refine ak_inLoop ?_
    exact ak_conv (.cons rfl (.refl _) (.cons rfl (.refl _) (.cons rfl (.refl _) (.nil _)))) (.nil _) (ih _ _ h w F ρ)
  ·have h := cond_f ht h
   refine ak_exit rfl ?_
   refine ak_seq ?_
   refine ak_regionS (.cons rfl (ok_move (dlt rfl rfl) rfl rfl) (.cons rfl (ok_assign (dlt rfl rfl) rfl rfl) (.nil ?_)))
   refine ak_seq ?_
   refine ak_regionS (.cons rfl (ok_move (dlt rfl rfl) rfl rfl) (.cons rfl (ok_assign (dlt rfl rfl) rfl rfl) (.nil ?_)))
   refine ak_seq ?_
   refine ak_block ?_
   refine ak_loop ?_
   exact ak_conv (.cons rfl (.refl _) (.cons rfl (.refl _) (.cons rfl (.refl _) (.cons rfl (.refl _) (.nil _))))) (.nil _) (ih _ _ h w F ρ)
 | l176_1 a0 a1 a2 a3 =>
  intro w F ρ
  dsimp only at h
  refine ak_seq ?_
  refine ak_seq ?_
  refine ak_regionS (.cons rfl (ok_move (dlt rfl rfl) rfl rfl) (.cons rfl (ok_lenT (s := a2) (dlt rfl rfl) rfl Tryz.underlying9 rfl) (.cons rfl (ok_move (dlt rfl rfl) rfl rfl) (.cons rfl (ok_lss (dlt rfl rfl) rfl rfl rfl) (.nil ?_)))))
  refine ak_cond rfl (fun ht => ?_) (fun ht => ?_)
  ·have h := cond_t ht h
   refine ak_skip ?_
   refine ak_block ?_
   refine ak_seq ?_
   obtain ⟨v5, hv5, h⟩ := bind_of h
   refine ak_regionS (.cons rfl (ok_move (dlt rfl rfl) rfl rfl) (.cons rfl (ok_lit (τ := Ty.u8) (dlt rfl rfl) ([(128 : UInt8)] : List UInt8) rfl Tryz.underlying22 ty5 rfl rfl rfl rfl rfl (by decide) (by decide) rfl) (.cons rfl (ok_bytesF (τ := Ty.u8) (xs := ([(128 : UInt8)] : List UInt8)) (dlt rfl rfl) (fun x => x) rfl Tryz.underlying22 Tryz.underlying5 Tryz.underlying9 (fun _ => rfl) rfl (map_idf _) rfl) (.cons rfl (ok_cat (dlt rfl rfl) rfl rfl rfl (need_of hv5)) (.cons rfl (ok_assign (dlt rfl rfl) rfl rfl) (.nil ?_))))))
   obtain ⟨v6, hv6, h⟩ := bind_of h
   refine ak_regionS (.cons rfl (ok_move (dlt rfl rfl) rfl rfl) (.cons rfl (ok_lit (τ := Ty.u8) (dlt rfl rfl) ([(191 : UInt8)] : List UInt8) rfl Tryz.underlying22 ty5 rfl rfl rfl rfl rfl (by decide) (by decide) rfl) (.cons rfl (ok_bytesF (τ := Ty.u8) (xs := ([(191 : UInt8)] : List UInt8)) (dlt rfl rfl) (fun x => x) rfl Tryz.underlying22 Tryz.underlying5 Tryz.underlying9 (fun _ => rfl) rfl (map_idf _) rfl) (.cons rfl (ok_cat (dlt rfl rfl) rfl rfl rfl (need_of hv6)) (.cons rfl (ok_assign (dlt rfl rfl) rfl rfl) (.nil ?_))))))
   refine ak_inBlock ?_
   refine ak_inLoop ?_
   exact ak_conv (.cons rfl (.refl _) (.cons rfl (.refl _) (.cons rfl (.refl _) (.cons rfl (.refl _) (.nil _))))) (.nil _) (ih _ _ h w F ρ)
  ·have h := cond_f ht h
   refine ak_exit rfl ?_
   refine ak_seq ?_
   obtain ⟨v7, hv7, h⟩ := bind_of h
   refine ak_regionS (.cons rfl (ok_move (dlt rfl rfl) rfl rfl) (.cons rfl (ok_call (xs := [.str a2]) (caps := []) (dlt rfl rfl) rfl rfl Tryz.func209 rfl rfl rfl (d209 hv7) rfl) (.cons rfl (ok_assign (dlt rfl rfl) rfl rfl) (.nil ?_))))
   refine ak_seq ?_
   obtain ⟨v8, hv8, h⟩ := bind_of h
   refine ak_regionS (.cons rfl (ok_move (dlt rfl rfl) rfl rfl) (.cons rfl (ok_call (xs := [.str a3]) (caps := []) (dlt rfl rfl) rfl rfl Tryz.func209 rfl rfl rfl (d209 hv8) rfl) (.cons rfl (ok_assign (dlt rfl rfl) rfl rfl) (.nil ?_))))
   refine ak_seq ?_
   obtain ⟨v9, hv9, h⟩ := bind_of h
   refine ak_regionS (.cons rfl (ok_lit (τ := Ty.i64) (dlt rfl rfl) ([0, 0, 128, 2048, 65536] : List Int) rfl Tryz.underlying50 ty3 rfl rfl rfl rfl rfl (by decide) (by decide) rfl) (.cons rfl (ok_move (dlt rfl rfl) rfl rfl) (.cons rfl (ok_indexF (τ := Ty.i64) (x := v9) (dlt rfl rfl) rfl Tryz.underlying50 ty3 rfl rfl rfl (idx_0 hv9) (idx_1 hv9)) (.cons rfl (ok_loadR (dlt rfl rfl) rfl ty3 rfl rfl) (.cons rfl (ok_assign (dlt rfl rfl) rfl rfl) (.nil ?_))))))
   refine ak_seq ?_
   refine ak_seq ?_
   refine ak_regionS (.cons rfl (ok_move (dlt rfl rfl) rfl rfl) (.cons rfl (ok_move (dlt rfl rfl) rfl rfl) (.cons rfl (ok_lss (dlt rfl rfl) rfl rfl rfl) (.cons rfl (ok_move (dlt rfl rfl) rfl rfl) (.consG (pre := []) (dlt rfl rfl) rfl rfl rfl rfl .nil (fun he => ok_move (dlt rfl rfl) rfl rfl) (.consG (pre := [(68, .int .i64 v7)]) (dlt rfl rfl) rfl rfl rfl rfl (.cons rfl (fun he => he) .nil) (fun he => ok_gtr (dlt rfl rfl) rfl rfl rfl) (.cons rfl (ok_orW (dlt rfl rfl) rfl rfl rfl (fun h => (bnot_t h))) (.cons rfl (ok_move (dlt rfl rfl) rfl rfl) (.consG (pre := []) (dlt rfl rfl) rfl rfl rfl rfl .nil (fun he => ok_move (dlt rfl rfl) rfl rfl) (.consG (pre := [(72, .int .i64 v7)]) (dlt rfl rfl) rfl rfl rfl rfl (.cons rfl (fun he => he) .nil) (fun he => ok_geq (dlt rfl rfl) rfl rfl rfl) (.consG (pre := [(73, .bool (decide ((55296 : Int) ≤ v7)))]) (dlt rfl rfl) rfl rfl rfl rfl (.cons rfl (fun he => he) .nil) (fun he => ok_move (dlt rfl rfl) rfl rfl) (.consG (pre := []) (dlt rfl rfl) rfl rfl rfl rfl .nil (fun he => ok_move (dlt rfl rfl) rfl rfl) (.consG (pre := [(75, .int .i64 v8)]) (dlt rfl rfl) rfl rfl rfl rfl (.cons rfl (fun he => he) .nil) (fun he => ok_leq (dlt rfl rfl) rfl rfl rfl) (.consG (pre := [(74, .bool (decide ((55296 : Int) ≤ v7)))]) (dlt rfl rfl) rfl rfl rfl rfl (.cons rfl (fun he => he) .nil) (fun he => ok_andW (dlt rfl rfl) rfl rfl rfl (fun h => band_i he h)) (.cons rfl (ok_orW (dlt rfl rfl) rfl rfl rfl (fun h => (bnot_t h))) (.nil ?_))))))))))))))))
   refine ak_cond rfl (fun ht => ?_) (fun ht => ?_)
   ·have h := cond_t ht h
    refine ak_seq ?_
    refine ak_regionS (.cons rfl (ok_assign (dlt rfl rfl) rfl rfl) (.cons rfl (ok_assign (dlt rfl rfl) rfl rfl) (.cons rfl (ok_assign (dlt rfl rfl) rfl rfl) (.nil ?_))))
    obtain rfl := Option.some.inj h
    refine ak_conv (Γ' := [(2, .bool false), (3, .bool false), (4, .int .i64 (0 : Int))]) (σ' := []) (.cons rfl (.refl _) (.cons rfl (.refl _) (.cons rfl (.refl _) (.nil _)))) (.nil _) ?_
    exact ak_ret (fn := Tryz.f176) Tryz.func176 rfl trivial rfl
   ·have h := cond_f ht h
    refine ak_skip ?_
    refine ak_seq ?_
    refine ak_seq ?_
    refine ak_regionS (.cons rfl (ok_move (dlt rfl rfl) rfl rfl) (.cons rfl (ok_lenT (s := a0) (dlt rfl rfl) rfl Tryz.underlying9 rfl) (.cons rfl (ok_move (dlt rfl rfl) rfl rfl) (.cons rfl (ok_eql (dlt rfl rfl) rfl rfl rfl) (.nil ?_)))))
    refine ak_cond rfl (fun ht => ?_) (fun ht => ?_)
    ·have h := cond_t ht h
     refine ak_seq ?_
     refine ak_regionS (.cons rfl (ok_move (dlt rfl rfl) rfl rfl) (.cons rfl (ok_assign (dlt rfl rfl) rfl rfl) (.cons rfl (ok_assign (dlt rfl rfl) rfl rfl) (.cons rfl (ok_assign (dlt rfl rfl) rfl rfl) (.nil ?_)))))
     obtain rfl := Option.some.inj h
     refine ak_conv (Γ' := [(2, .bool true), (3, .bool true), (4, .int .i64 v7)]) (σ' := []) (.cons rfl (.refl _) (.cons rfl (.refl _) (.cons rfl (.refl _) (.nil _)))) (.nil _) ?_
     exact ak_ret (fn := Tryz.f176) Tryz.func176 rfl trivial rfl
    ·have h := cond_f ht h
     refine ak_skip ?_
     refine ak_seq ?_
     refine ak_regionS (.cons rfl (ok_assign (dlt rfl rfl) rfl rfl) (.cons rfl (ok_assign (dlt rfl rfl) rfl rfl) (.cons rfl (ok_assign (dlt rfl rfl) rfl rfl) (.nil ?_))))
     obtain rfl := Option.some.inj h
     refine ak_conv (Γ' := [(2, .bool true), (3, .bool false), (4, .int .i64 (0 : Int))]) (σ' := []) (.cons rfl (.refl _) (.cons rfl (.refl _) (.cons rfl (.refl _) (.nil _)))) (.nil _) ?_
     exact ak_ret (fn := Tryz.f176) Tryz.func176 rfl trivial rfl)
theorem d176 {a0 : List UInt8} {r : Bool × Bool × Int} (h : f176 (.e176 a0) = some r) : Does Tryz.prog GG 176 [.str a0] [] (fun z _ => z = .tup [.bool r.1, .bool r.2.1, .int .i64 r.2.2]) := fn_of (fn := Tryz.f176) Tryz.func176 rfl Tryz.ntmps176 rfl (w176 _ _ h)
/-- riffle/riffleref06.letter -/
noncomputable abbrev b189 : Code := codeOf Tryz.f189
inductive L189 where
 | e189 (a0 : Int)
 | l189_0 (a0 : Int) (a1 : List UInt8) (a2 : List UInt8) (a3 : Int) (a4 : Int)
noncomputable def f189 : L189 → Option Int
 | .e189 a0 =>
  f189 (.l189_0 a0 ([(34 : UInt8), (92 : UInt8), (47 : UInt8), (8 : UInt8), (12 : UInt8), (10 : UInt8), (13 : UInt8), (9 : UInt8)] : List UInt8) ([(34 : UInt8), (92 : UInt8), (47 : UInt8), (98 : UInt8), (102 : UInt8), (110 : UInt8), (114 : UInt8), (116 : UInt8)] : List UInt8) (([(34 : UInt8), (92 : UInt8), (47 : UInt8), (98 : UInt8), (102 : UInt8), (110 : UInt8), (114 : UInt8), (116 : UInt8)] : List UInt8).length : Int) (0 : Int))
 | .l189_0 a0 a1 a2 a3 a4 =>
  if (decide (a4 < a3)) = true then
   idx a2 a4 >>= fun v1 =>
   if ((v1.toNat : Int) == a0) = true then
    idx a1 a4 >>= fun v2 =>
    some (v2.toNat : Int)
   else
    f189 (.l189_0 a0 a1 a2 a3 (IntKind.wrap .i64 (a4 + (1 : Int))))
  else
   some (0 : Int)
 partial_fixpoint
def M189 : L189 → Int → Prop
 | .e189 a0, r => ∀ (w : World) (F : Nat → Prop) (ρ : Rho), AK Tryz.prog (ctx GG 24 w F ρ []) 189 [.code b189] (argE 0 [.int .u8 a0]) [] (fun z _ => z = .int .u8 r)
 | .l189_0 a0 a1 a2 a3 a4, r => ∀ (w : World) (F : Nat → Prop) (ρ : Rho), AK Tryz.prog (ctx GG 24 w F ρ []) 189 [.code (c1 (c1 (c2 (c1 (c2 (c2 (c2 b189))))))), .inLoop (c1 (c1 (c2 (c1 (c2 (c2 (c2 b189))))))), .inBlock 0, .code (c2 (c2 (c2 (c2 b189))))] [(0, .int .u8 a0), (4, .sf Ty.u8 a1), (9, .sf Ty.u8 a2), (10, .int .i64 a3), (11, .int .i64 a4)] [] (fun z _ => z = .int .u8 r)
theorem w189 : ∀ (l : L189) (r : Int), f189 l = some r → M189 l r := f189.partial_correctness M189 (by
 intro f ih l r h
 cases l with
 | e189 a0 =>
  intro w F ρ
  dsimp only at h
  refine ak_seq ?_
  refine ak_regionS (.cons rfl (ok_assign (dlt rfl rfl) rfl rfl) (.nil ?_))
  refine ak_seq ?_
  refine ak_regionS (.cons rfl (ok_lit (τ := Ty.u8) (dlt rfl rfl) ([(34 : UInt8), (92 : UInt8), (47 : UInt8), (98 : UInt8), (102 : UInt8), (110 : UInt8), (114 : UInt8), (116 : UInt8)] : List UInt8) rfl Tryz.underlying22 ty5 rfl rfl rfl rfl rfl (by decide) (by decide) rfl) (.cons rfl (ok_assign (dlt rfl rfl) rfl rfl) (.nil ?_)))
  refine ak_seq ?_
  refine ak_regionS (.cons rfl (ok_lit (τ := Ty.u8) (dlt rfl rfl) ([(34 : UInt8), (92 : UInt8), (47 : UInt8), (8 : UInt8), (12 : UInt8), (10 : UInt8), (13 : UInt8), (9 : UInt8)] : List UInt8) rfl Tryz.underlying22 ty5 rfl rfl rfl rfl rfl (by decide) (by decide) rfl) (.cons rfl (ok_assign (dlt rfl rfl) rfl rfl) (.nil ?_)))
  refine ak_seq ?_
  refine ak_seq ?_
  refine ak_regionS (.cons rfl (ok_move (dlt rfl rfl) rfl rfl) (.cons rfl (ok_lenF (τ := Ty.u8) (xs := ([(34 : UInt8), (92 : UInt8), (47 : UInt8), (98 : UInt8), (102 : UInt8), (110 : UInt8), (114 : UInt8), (116 : UInt8)] : List UInt8)) (dlt rfl rfl) rfl Tryz.underlying22 rfl) (.cons rfl (ok_move (dlt rfl rfl) rfl rfl) (.nil ?_))))
  refine ak_block ?_
  refine ak_loop ?_
  exact ak_conv (.cons rfl (.refl _) (.cons rfl (.refl _) (.cons rfl (.refl _) (.cons rfl (.refl _) (.cons rfl (.refl _) (.nil _)))))) (.nil _) (ih _ _ h w F ρ)
 | l189_0 a0 a1 a2 a3 a4 =>
  intro w F ρ
  dsimp only at h
  refine ak_seq ?_
  refine ak_regionS (.cons rfl (ok_lss (dlt rfl rfl) rfl rfl rfl) (.nil ?_))
  refine ak_seq ?_
  refine ak_cond rfl (fun ht => ?_) (fun ht => ?_)
  ·have h := cond_t ht h
   refine ak_skip ?_
   refine ak_seq ?_
   refine ak_block ?_
   refine ak_seq ?_
   obtain ⟨v1, hv1, h⟩ := bind_of h
   refine ak_regionS (.cons rfl (ok_move (dlt rfl rfl) rfl rfl) (.cons rfl (ok_indexF (τ := Ty.u8) (x := v1) (dlt rfl rfl) rfl Tryz.underlying22 ty5 rfl rfl rfl (idx_0 hv1) (idx_1 hv1)) (.cons rfl (ok_loadR (dlt rfl rfl) rfl ty5 rfl rfl) (.cons rfl (ok_assign (dlt rfl rfl) rfl rfl) (.cons rfl (ok_assign (dlt rfl rfl) rfl rfl) (.nil ?_))))))
   refine ak_seq ?_
   refine ak_regionS (.cons rfl (ok_move (dlt rfl rfl) rfl rfl) (.cons rfl (ok_move (dlt rfl rfl) rfl rfl) (.cons rfl (ok_eql (dlt rfl rfl) rfl rfl rfl) (.nil ?_))))
   refine ak_cond rfl (fun ht => ?_) (fun ht => ?_)
   ·have h := cond_t ht h
    refine ak_seq ?_
    obtain ⟨v2, hv2, h⟩ := bind_of h
    refine ak_regionS (.cons rfl (ok_move (dlt rfl rfl) rfl rfl) (.cons rfl (ok_move (dlt rfl rfl) rfl rfl) (.cons rfl (ok_indexF (τ := Ty.u8) (x := v2) (dlt rfl rfl) rfl Tryz.underlying22 ty5 rfl rfl rfl (idx_0 hv2) (idx_1 hv2)) (.cons rfl (ok_loadR (dlt rfl rfl) rfl ty5 rfl rfl) (.cons rfl (ok_assign (dlt rfl rfl) rfl rfl) (.nil ?_))))))
    obtain rfl := Option.some.inj h
    refine ak_conv (Γ' := [(2, .int .u8 (v2.toNat : Int))]) (σ' := []) (.cons rfl (.refl _) (.nil _)) (.nil _) ?_
    exact ak_ret (fn := Tryz.f189) Tryz.func189 rfl trivial rfl
   ·have h := cond_f ht h
    refine ak_skip ?_
    refine ak_inBlock ?_
    refine ak_regionS (.cons rfl (ok_add (dlt rfl rfl) rfl rfl rfl) (.cons rfl (ok_move (dlt rfl rfl) rfl rfl) (.nil ?_)))
    refine ak_inLoop ?_
    exact ak_conv (.cons rfl (.refl _) (.cons rfl (.refl _) (.cons rfl (.refl _) (.cons rfl (.refl _) (.cons rfl (.refl _) (.nil _)))))) (.nil _) (ih _ _ h w F ρ)
  ·have h := cond_f ht h
   refine ak_exit rfl ?_
   refine ak_seq ?_
   refine ak_regionS (.cons rfl (ok_assign (dlt rfl rfl) rfl rfl) (.nil ?_))
   obtain rfl := Option.some.inj h
   refine ak_conv (Γ' := [(2, .int .u8 (0 : Int))]) (σ' := []) (.cons rfl (.refl _) (.nil _)) (.nil _) ?_
   exact ak_ret (fn := Tryz.f189) Tryz.func189 rfl trivial rfl)
theorem d189 {a0 : Int} {r : Int} (h : f189 (.e189 a0) = some r) : Does Tryz.prog GG 189 [.int .u8 a0] [] (fun z _ => z = .int .u8 r) := fn_of (fn := Tryz.f189) Tryz.func189 rfl Tryz.ntmps189 rfl (w189 _ _ h)
/-- riffle/riffleref01.Hex -/
noncomputable abbrev b250 : Code := codeOf Tryz.f250
inductive L250 where
 | e250 (a0 : Int)
noncomputable def f250 : L250 → Option (Int × Bool)
 | .e250 a0 =>
  f181 (.e181 a0) >>= fun v1 =>
  if v1 = true then
   some (IntKind.wrap .i64 ((IntKind.wrap .i64 a0) - (48 : Int)), true)
  else
   if ((decide ((97 : Int) ≤ a0)) && (decide (a0 ≤ (102 : Int)))) = true then
    some (IntKind.wrap .i64 ((IntKind.wrap .i64 a0) - (87 : Int)), true)
   else
    if ((decide ((65 : Int) ≤ a0)) && (decide (a0 ≤ (70 : Int)))) = true then
     some (IntKind.wrap .i64 ((IntKind.wrap .i64 a0) - (55 : Int)), true)
    else
     some (0, false)
def M250 : L250 → (Int × Bool) → Prop
 | .e250 a0, r => ∀ (w : World) (F : Nat → Prop) (ρ : Rho), AK Tryz.prog (ctx GG 27 w F ρ []) 250 [.code b250] (argE 0 [.int .u8 a0]) [] (fun z _ => z = .tup [.int .i64 r.1, .bool r.2])
theorem w250 : ∀ (l : L250) (r : Int × Bool), f250 l = some r → M250 l r := (by
 intro l r h
 cases l with
 | e250 a0 =>
  intro w F ρ
  dsimp only [f250] at h
  refine ak_seq ?_
  refine ak_regionS (.cons rfl (ok_assign (dlt rfl rfl) rfl rfl) (.cons rfl (ok_assign (dlt rfl rfl) rfl rfl) (.nil ?_)))
  refine ak_seq ?_
  refine ak_seq ?_
  obtain ⟨v1, hv1, h⟩ := bind_of h
  refine ak_regionS (.cons rfl (ok_move (dlt rfl rfl) rfl rfl) (.cons rfl (ok_call (xs := [.int .u8 a0]) (caps := []) (dlt rfl rfl) rfl rfl Tryz.func181 rfl rfl rfl (d181 hv1) rfl) (.nil ?_)))
  refine ak_cond rfl (fun ht => ?_) (fun ht => ?_)
  ·have h := cond_t ht h
   refine ak_seq ?_
   refine ak_regionS (.cons rfl (ok_move (dlt rfl rfl) rfl rfl) (.cons rfl (ok_conv (dlt rfl rfl) rfl Tryz.underlying5 Tryz.underlying3 rfl) (.cons rfl (ok_sub (dlt rfl rfl) rfl rfl rfl) (.cons rfl (ok_assign (dlt rfl rfl) rfl rfl) (.cons rfl (ok_assign (dlt rfl rfl) rfl rfl) (.nil ?_))))))
   obtain rfl := Option.some.inj h
   refine ak_conv (Γ' := [(2, .int .i64 (IntKind.wrap .i64 ((IntKind.wrap .i64 a0) - (48 : Int)))), (3, .bool true)]) (σ' := []) (.cons rfl (.refl _) (.cons rfl (.refl _) (.nil _))) (.nil _) ?_
   exact ak_ret (fn := Tryz.f250) Tryz.func250 rfl trivial rfl
  ·have h := cond_f ht h
   refine ak_skip ?_
   refine ak_seq ?_
   refine ak_seq ?_
   refine ak_regionS (.cons rfl (ok_move (dlt rfl rfl) rfl rfl) (.cons rfl (ok_geq (dlt rfl rfl) rfl rfl rfl) (.cons rfl (ok_move (dlt rfl rfl) rfl rfl) (.consG (pre := []) (dlt rfl rfl) rfl rfl rfl rfl .nil (fun he => ok_move (dlt rfl rfl) rfl rfl) (.consG (pre := [(12, .int .u8 a0)]) (dlt rfl rfl) rfl rfl rfl rfl (.cons rfl (fun he => he) .nil) (fun he => ok_leq (dlt rfl rfl) rfl rfl rfl) (.cons rfl (ok_andW (dlt rfl rfl) rfl rfl rfl (fun h => h)) (.nil ?_)))))))
   refine ak_cond rfl (fun ht => ?_) (fun ht => ?_)
   ·have h := cond_t ht h
    refine ak_seq ?_
    refine ak_regionS (.cons rfl (ok_move (dlt rfl rfl) rfl rfl) (.cons rfl (ok_conv (dlt rfl rfl) rfl Tryz.underlying5 Tryz.underlying3 rfl) (.cons rfl (ok_sub (dlt rfl rfl) rfl rfl rfl) (.cons rfl (ok_assign (dlt rfl rfl) rfl rfl) (.cons rfl (ok_assign (dlt rfl rfl) rfl rfl) (.nil ?_))))))
    obtain rfl := Option.some.inj h
    refine ak_conv (Γ' := [(2, .int .i64 (IntKind.wrap .i64 ((IntKind.wrap .i64 a0) - (87 : Int)))), (3, .bool true)]) (σ' := []) (.cons rfl (.refl _) (.cons rfl (.refl _) (.nil _))) (.nil _) ?_
    exact ak_ret (fn := Tryz.f250) Tryz.func250 rfl trivial rfl
   ·have h := cond_f ht h
    refine ak_skip ?_
    refine ak_seq ?_
    refine ak_seq ?_
    refine ak_regionS (.cons rfl (ok_move (dlt rfl rfl) rfl rfl) (.cons rfl (ok_geq (dlt rfl rfl) rfl rfl rfl) (.cons rfl (ok_move (dlt rfl rfl) rfl rfl) (.consG (pre := []) (dlt rfl rfl) rfl rfl rfl rfl .nil (fun he => ok_move (dlt rfl rfl) rfl rfl) (.consG (pre := [(21, .int .u8 a0)]) (dlt rfl rfl) rfl rfl rfl rfl (.cons rfl (fun he => he) .nil) (fun he => ok_leq (dlt rfl rfl) rfl rfl rfl) (.cons rfl (ok_andW (dlt rfl rfl) rfl rfl rfl (fun h => h)) (.nil ?_)))))))
    refine ak_cond rfl (fun ht => ?_) (fun ht => ?_)
    ·have h := cond_t ht h
     refine ak_seq ?_
     refine ak_regionS (.cons rfl (ok_move (dlt rfl rfl) rfl rfl) (.cons rfl (ok_conv (dlt rfl rfl) rfl Tryz.underlying5 Tryz.underlying3 rfl) (.cons rfl (ok_sub (dlt rfl rfl) rfl rfl rfl) (.cons rfl (ok_assign (dlt rfl rfl) rfl rfl) (.cons rfl (ok_assign (dlt rfl rfl) rfl rfl) (.nil ?_))))))
     obtain rfl := Option.some.inj h
     refine ak_conv (Γ' := [(2, .int .i64 (IntKind.wrap .i64 ((IntKind.wrap .i64 a0) - (55 : Int)))), (3, .bool true)]) (σ' := []) (.cons rfl (.refl _) (.cons rfl (.refl _) (.nil _))) (.nil _) ?_
     exact ak_ret (fn := Tryz.f250) Tryz.func250 rfl trivial rfl
    ·have h := cond_f ht h
     refine ak_skip ?_
     refine ak_seq ?_
     refine ak_regionS (.cons rfl (ok_assign (dlt rfl rfl) rfl rfl) (.cons rfl (ok_assign (dlt rfl rfl) rfl rfl) (.nil ?_)))
     obtain rfl := Option.some.inj h
     refine ak_conv (Γ' := [(2, .int .i64 (0 : Int)), (3, .bool false)]) (σ' := []) (.cons rfl (.refl _) (.cons rfl (.refl _) (.nil _))) (.nil _) ?_
     exact ak_ret (fn := Tryz.f250) Tryz.func250 rfl trivial rfl)
theorem d250 {a0 : Int} {r : Int × Bool} (h : f250 (.e250 a0) = some r) : Does Tryz.prog GG 250 [.int .u8 a0] [] (fun z _ => z = .tup [.int .i64 r.1, .bool r.2]) := fn_of (fn := Tryz.f250) Tryz.func250 rfl Tryz.ntmps250 rfl (w250 _ _ h)
end Go.Proofs.YtonlbdholdaifaaGreatDoor
end
section
set_option linter.unusedVariables false
set_option linter.unusedSimpArgs false
set_option maxRecDepth 10000
namespace Go.Proofs.YtonlbdholdaifaaGreatDoor
open Go Go.Rf Go.Proofs
/-- riffle/riffleref06.hex -/
noncomputable abbrev b249 : Code := codeOf Tryz.f249
inductive L249 where
 | e249 (a0 : List UInt8)
 | l249_0 (a0 : List UInt8) (a1 : Int) (a2 : Int)
noncomputable def f249 : L249 → Option (Int × Int)
 | .e249 a0 =>
  f249 (.l249_0 a0 (0 : Int) (0 : Int))
 | .l249_0 a0 a1 a2 =>
  if (decide (a2 < (4 : Int))) = true then
   if (decide ((a0.length : Int) ≤ a2)) = true then
    some (a2, a1)
   else
    idx a0 a2 >>= fun v1 =>
    f250 (.e250 (v1.toNat : Int)) >>= fun v2 =>
    if (!v2.2) = true then
     some (a2, a1)
    else
     f249 (.l249_0 a0 (IntKind.wrap .i64 ((IntKind.wrap .i64 (a1 * (16 : Int))) + v2.1)) (IntKind.wrap .i64 (a2 + (1 : Int))))
  else
   some (4, a1)
 partial_fixpoint
def M249 : L249 → (Int × Int) → Prop
 | .e249 a0, r => ∀ (w : World) (F : Nat → Prop) (ρ : Rho), AK Tryz.prog (ctx GG 34 w F ρ []) 249 [.code b249] (argE 0 [.str a0]) [] (fun z _ => z = .tup [.int .i64 r.1, .int .i64 r.2])
 | .l249_0 a0 a1 a2, r => ∀ (w : World) (F : Nat → Prop) (ρ : Rho), AK Tryz.prog (ctx GG 34 w F ρ []) 249 [.code (c1 (c1 (c2 (c1 (c2 (c2 b249)))))), .inLoop (c1 (c1 (c2 (c1 (c2 (c2 b249)))))), .inBlock 0, .code (c2 (c2 (c2 b249)))] [(0, .str a0), (4, .int .i64 a1), (5, .int .i64 a2)] [] (fun z _ => z = .tup [.int .i64 r.1, .int .i64 r.2])
theorem w249 : ∀ (l : L249) (r : Int × Int), f249 l = some r → M249 l r := f249.partial_correctness M249 (by
 intro f ih l r h
 cases l with
 | e249 a0 =>
  intro w F ρ
  dsimp only at h
  refine ak_seq ?_
  refine ak_regionS (.cons rfl (ok_assign (dlt rfl rfl) rfl rfl) (.cons rfl (ok_assign (dlt rfl rfl) rfl rfl) (.nil ?_)))
  refine ak_seq ?_
  refine ak_regionS (.cons rfl (ok_assign (dlt rfl rfl) rfl rfl) (.nil ?_))
  refine ak_seq ?_
  refine ak_seq ?_
  refine ak_regionS (.cons rfl (ok_assign (dlt rfl rfl) rfl rfl) (.nil ?_))
  refine ak_block ?_
  refine ak_loop ?_
  exact ak_conv (.cons rfl (.refl _) (.cons rfl (.refl _) (.cons rfl (.refl _) (.nil _)))) (.nil _) (ih _ _ h w F ρ)
 | l249_0 a0 a1 a2 =>
  intro w F ρ
  dsimp only at h
  refine ak_seq ?_
  refine ak_seq ?_
  refine ak_regionS (.cons rfl (ok_move (dlt rfl rfl) rfl rfl) (.cons rfl (ok_lss (dlt rfl rfl) rfl rfl rfl) (.nil ?_)))
  refine ak_cond rfl (fun ht => ?_) (fun ht => ?_)
  ·have h := cond_t ht h
   refine ak_skip ?_
   refine ak_seq ?_
   refine ak_block ?_
   refine ak_seq ?_
   refine ak_seq ?_
   refine ak_regionS (.cons rfl (ok_move (dlt rfl rfl) rfl rfl) (.cons rfl (ok_move (dlt rfl rfl) rfl rfl) (.cons rfl (ok_lenT (s := a0) (dlt rfl rfl) rfl Tryz.underlying9 rfl) (.cons rfl (ok_geq (dlt rfl rfl) rfl rfl rfl) (.nil ?_)))))
   refine ak_cond rfl (fun ht => ?_) (fun ht => ?_)
   ·have h := cond_t ht h
    refine ak_seq ?_
    refine ak_regionS (.cons rfl (ok_move (dlt rfl rfl) rfl rfl) (.cons rfl (ok_move (dlt rfl rfl) rfl rfl) (.cons rfl (ok_assign (dlt rfl rfl) rfl rfl) (.cons rfl (ok_assign (dlt rfl rfl) rfl rfl) (.nil ?_)))))
    obtain rfl := Option.some.inj h
    refine ak_conv (Γ' := [(2, .int .i64 a2), (3, .int .i64 a1)]) (σ' := []) (.cons rfl (.refl _) (.cons rfl (.refl _) (.nil _))) (.nil _) ?_
    exact ak_ret (fn := Tryz.f249) Tryz.func249 rfl trivial rfl
   ·have h := cond_f ht h
    refine ak_skip ?_
    refine ak_seq ?_
    obtain ⟨v1, hv1, h⟩ := bind_of h
    obtain ⟨v2, hv2, h⟩ := bind_of h
    refine ak_regionS (.cons rfl (ok_move (dlt rfl rfl) rfl rfl) (.cons rfl (ok_move (dlt rfl rfl) rfl rfl) (.cons rfl (ok_byte (s := a0) (c := v1) (dlt rfl rfl) rfl Tryz.underlying9 rfl rfl (idx_0 hv1) (idx_1 hv1)) (.cons rfl (ok_call (xs := [.int .u8 (v1.toNat : Int)]) (caps := []) (dlt rfl rfl) rfl rfl Tryz.func250 rfl rfl rfl (d250 hv2) rfl) (.cons rfl (ok_move (dlt rfl rfl) rfl rfl) (.cons rfl (ok_extract (dlt rfl rfl) rfl rfl rfl) (.cons rfl (ok_extract (dlt rfl rfl) rfl rfl rfl) (.cons rfl (ok_assign (dlt rfl rfl) rfl rfl) (.cons rfl (ok_assign (dlt rfl rfl) rfl rfl) (.nil ?_))))))))))
    refine ak_seq ?_
    refine ak_seq ?_
    refine ak_regionS (.cons rfl (ok_move (dlt rfl rfl) rfl rfl) (.cons rfl (ok_not (dlt rfl rfl) rfl rfl) (.nil ?_)))
    refine ak_cond rfl (fun ht => ?_) (fun ht => ?_)
    ·have h := cond_t ht h
     refine ak_seq ?_
     refine ak_regionS (.cons rfl (ok_move (dlt rfl rfl) rfl rfl) (.cons rfl (ok_move (dlt rfl rfl) rfl rfl) (.cons rfl (ok_assign (dlt rfl rfl) rfl rfl) (.cons rfl (ok_assign (dlt rfl rfl) rfl rfl) (.nil ?_)))))
     obtain rfl := Option.some.inj h
     refine ak_conv (Γ' := [(2, .int .i64 a2), (3, .int .i64 a1)]) (σ' := []) (.cons rfl (.refl _) (.cons rfl (.refl _) (.nil _))) (.nil _) ?_
     exact ak_ret (fn := Tryz.f249) Tryz.func249 rfl trivial rfl
    ·have h := cond_f ht h
     refine ak_skip ?_
     refine ak_regionS (.cons rfl (ok_move (dlt rfl rfl) rfl rfl) (.cons rfl (ok_mul (dlt rfl rfl) rfl rfl rfl) (.cons rfl (ok_move (dlt rfl rfl) rfl rfl) (.cons rfl (ok_add (dlt rfl rfl) rfl rfl rfl) (.cons rfl (ok_assign (dlt rfl rfl) rfl rfl) (.nil ?_))))))
     refine ak_inBlock ?_
     refine ak_regionS (.cons rfl (ok_move (dlt rfl rfl) rfl rfl) (.cons rfl (ok_add (dlt rfl rfl) rfl rfl rfl) (.cons rfl (ok_assign (dlt rfl rfl) rfl rfl) (.nil ?_))))
     refine ak_inLoop ?_
     exact ak_conv (.cons rfl (.refl _) (.cons rfl (.refl _) (.cons rfl (.refl _) (.nil _)))) (.nil _) (ih _ _ h w F ρ)
  ·have h := cond_f ht h
   refine ak_exit rfl ?_
   refine ak_seq ?_
   refine ak_regionS (.cons rfl (ok_move (dlt rfl rfl) rfl rfl) (.cons rfl (ok_assign (dlt rfl rfl) rfl rfl) (.cons rfl (ok_assign (dlt rfl rfl) rfl rfl) (.nil ?_))))
   obtain rfl := Option.some.inj h
   refine ak_conv (Γ' := [(2, .int .i64 (4 : Int)), (3, .int .i64 a1)]) (σ' := []) (.cons rfl (.refl _) (.cons rfl (.refl _) (.nil _))) (.nil _) ?_
   exact ak_ret (fn := Tryz.f249) Tryz.func249 rfl trivial rfl)
theorem d249 {a0 : List UInt8} {r : Int × Int} (h : f249 (.e249 a0) = some r) : Does Tryz.prog GG 249 [.str a0] [] (fun z _ => z = .tup [.int .i64 r.1, .int .i64 r.2]) := fn_of (fn := Tryz.f249) Tryz.func249 rfl Tryz.ntmps249 rfl (w249 _ _ h)
/-- riffle/riffleref06.unit -/
noncomputable abbrev b236 : Code := codeOf Tryz.f236
inductive L236 where
 | e236 (a0 : List UInt8) (a1 : Bool)
 | l236_0 (a0 : List UInt8) (a1 : Bool) (a2 : List UInt8) (a3 : Int) (a4 : Int)
 | l236_1 (a0 : List UInt8) (a1 : Bool) (a2 : Int) (a3 : Int) (a4 : Int) (a5 : Int)
 | l236_2 (a0 : List UInt8) (a1 : Bool) (a2 : Int) (a3 : Int) (a4 : Int) (a5 : Int)
noncomputable def f236 : L236 → Option (Int × Int × Int)
 | .e236 a0 a1 =>
  f236 (.l236_0 a0 a1 ([(92 : UInt8), (117 : UInt8)] : List UInt8) (([(92 : UInt8), (117 : UInt8)] : List UInt8).length : Int) (0 : Int))
 | .l236_0 a0 a1 a2 a3 a4 =>
  if (decide (a4 < a3)) = true then
   idx a2 a4 >>= fun v1 =>
   if (decide ((a0.length : Int) ≤ a4)) = true then
    some (a4, 0, 0)
   else
    idx a0 a4 >>= fun v2 =>
    if (((v2.toNat : Int) != (v1.toNat : Int)) && a1) = true then
     some (a4, 0, 4)
    else
     idx a0 a4 >>= fun v3 =>
     if ((v3.toNat : Int) != (v1.toNat : Int)) = true then
      some (a4, 0, 3)
     else
      f236 (.l236_0 a0 a1 a2 a3 (IntKind.wrap .i64 (a4 + (1 : Int))))
  else
   need (0 ≤ (2 : Int) ∧ (2 : Int) ≤ (a0.length : Int)) >>= fun v4 =>
   f249 (.e249 (a0.drop (2 : Int).toNat)) >>= fun v5 =>
   if (decide ((1 : Int) ≤ v5.1)) = true then
    idx a0 (2 : Int) >>= fun v6 =>
    f250 (.e250 (v6.toNat : Int)) >>= fun v7 =>
    f236 (.l236_1 a0 a1 v5.1 v5.2 v7.1 (-1))
   else
    f236 (.l236_1 a0 a1 v5.1 v5.2 (-1) (-1))
 | .l236_1 a0 a1 a2 a3 a4 a5 =>
  if (decide ((2 : Int) ≤ a2)) = true then
   idx a0 (3 : Int) >>= fun v8 =>
   f250 (.e250 (v8.toNat : Int)) >>= fun v9 =>
   f236 (.l236_2 a0 a1 a2 a3 a4 v9.1)
  else
   f236 (.l236_2 a0 a1 a2 a3 a4 a5)
 | .l236_2 a0 a1 a2 a3 a4 a5 =>
  if ((a1 && (decide ((1 : Int) ≤ a2))) && (a4 != (13 : Int))) = true then
   some (2, 0, 4)
  else
   if ((a1 && (decide ((2 : Int) ≤ a2))) && (decide (a5 < (12 : Int)))) = true then
    some (3, 0, 4)
   else
    if ((((!a1) && (decide ((2 : Int) ≤ a2))) && (a4 == (13 : Int))) && (decide ((12 : Int) ≤ a5))) = true then
     some (3, 0, 4)
    else
     if ((((decide (a2 < (4 : Int))) && (decide ((IntKind.wrap .i64 ((2 : Int) + a2)) < (a0.length : Int)))) && a1) && (decide (a2 < (2 : Int)))) = true then
      some (IntKind.wrap .i64 ((2 : Int) + a2), 0, 4)
     else
      if ((decide (a2 < (4 : Int))) && (decide ((IntKind.wrap .i64 ((2 : Int) + a2)) < (a0.length : Int)))) = true then
       some (IntKind.wrap .i64 ((2 : Int) + a2), 0, 3)
      else
       some (IntKind.wrap .i64 ((2 : Int) + a2), a3, 0)
 partial_fixpoint
def M236 : L236 → (Int × Int × Int) → Prop
 | .e236 a0 a1, r => ∀ (w : World) (F : Nat → Prop) (ρ : Rho), AK Tryz.prog (ctx GG 127 w F ρ []) 236 [.code b236] (argE 0 [.str a0, .bool a1]) [] (fun z _ => z = .tup [.int .i64 r.1, .int .i64 r.2.1, .int .i64 r.2.2])
 | .l236_0 a0 a1 a2 a3 a4, r => ∀ (w : World) (F : Nat → Prop) (ρ : Rho), AK Tryz.prog (ctx GG 127 w F ρ []) 236 [.code (c1 (c1 (c2 (c1 (c2 b236))))), .inLoop (c1 (c1 (c2 (c1 (c2 b236))))), .inBlock 0, .code (c2 (c2 b236))] [(0, .str a0), (1, .bool a1), (13, .sf Ty.u8 a2), (14, .int .i64 a3), (15, .int .i64 a4)] [] (fun z _ => z = .tup [.int .i64 r.1, .int .i64 r.2.1, .int .i64 r.2.2])
 | .l236_1 a0 a1 a2 a3 a4 a5, r => ∀ (w : World) (F : Nat → Prop) (ρ : Rho), AK Tryz.prog (ctx GG 127 w F ρ []) 236 [.code (c2 (c2 (c2 (c2 (c2 (c2 b236))))))] [(0, .str a0), (1, .bool a1), (9, .int .i64 a2), (10, .int .i64 a3), (11, .int .i64 a4), (12, .int .i64 a5)] [] (fun z _ => z = .tup [.int .i64 r.1, .int .i64 r.2.1, .int .i64 r.2.2])
 | .l236_2 a0 a1 a2 a3 a4 a5, r => ∀ (w : World) (F : Nat → Prop) (ρ : Rho), AK Tryz.prog (ctx GG 127 w F ρ []) 236 [.code (c2 (c2 (c2 (c2 (c2 (c2 (c2 b236)))))))] [(0, .str a0), (1, .bool a1), (9, .int .i64 a2), (10, .int .i64 a3), (11, .int .i64 a4), (12, .int .i64 a5)] [] (fun z _ => z = .tup [.int .i64 r.1, .int .i64 r.2.1, .int .i64 r.2.2])
theorem w236 : ∀ (l : L236) (r : Int × Int × Int), f236 l = some r → M236 l r := f236.partial_correctness M236 (by
 intro f ih l r h
 cases l with
 | e236 a0 a1 =>
  intro w F ρ
  dsimp only at h
  refine ak_seq ?_
  refine ak_regionS (.cons rfl (ok_assign (dlt rfl rfl) rfl rfl) (.cons rfl (ok_assign (dlt rfl rfl) rfl rfl) (.cons rfl (ok_assign (dlt rfl rfl) rfl rfl) (.nil ?_))))
  refine ak_seq ?_
  refine ak_seq ?_
  refine ak_regionS (.cons rfl (ok_lit (τ := Ty.u8) (dlt rfl rfl) ([(92 : UInt8), (117 : UInt8)] : List UInt8) rfl Tryz.underlying22 ty5 rfl rfl rfl rfl rfl (by decide) (by decide) rfl) (.cons rfl (ok_lenF (τ := Ty.u8) (xs := ([(92 : UInt8), (117 : UInt8)] : List UInt8)) (dlt rfl rfl) rfl Tryz.underlying22 rfl) (.cons rfl (ok_move (dlt rfl rfl) rfl rfl) (.nil ?_))))
  refine ak_block ?_
  refine ak_loop ?_
  exact ak_conv (.cons rfl (.refl _) (.cons rfl (.refl _) (.cons rfl (.refl _) (.cons rfl (.refl _) (.cons rfl (.refl _) (.nil _)))))) (.nil _) (ih _ _ h w F ρ)
 | l236_0 a0 a1 a2 a3 a4 =>
  intro w F ρ
  dsimp only at h
  refine ak_seq ?_
  refine ak_regionS (.cons rfl (ok_lss (dlt rfl rfl) rfl rfl rfl) (.nil ?_))
  refine ak_seq ?_
  refine ak_cond rfl (fun ht => ?_) (fun ht => ?_)
  ·have h := cond_t ht h
   refine ak_skip ?_
   refine ak_seq ?_
   refine ak_block ?_
   refine ak_seq ?_
   obtain ⟨v1, hv1, h⟩ := bind_of h
   refine ak_regionS (.cons rfl (ok_move (dlt rfl rfl) rfl rfl) (.cons rfl (ok_indexF (τ := Ty.u8) (x := v1) (dlt rfl rfl) rfl Tryz.underlying22 ty5 rfl rfl rfl (idx_0 hv1) (idx_1 hv1)) (.cons rfl (ok_loadR (dlt rfl rfl) rfl ty5 rfl rfl) (.cons rfl (ok_assign (dlt rfl rfl) rfl rfl) (.cons rfl (ok_assign (dlt rfl rfl) rfl rfl) (.nil ?_))))))
   refine ak_seq ?_
   refine ak_seq ?_
   refine ak_regionS (.cons rfl (ok_move (dlt rfl rfl) rfl rfl) (.cons rfl (ok_move (dlt rfl rfl) rfl rfl) (.cons rfl (ok_lenT (s := a0) (dlt rfl rfl) rfl Tryz.underlying9 rfl) (.cons rfl (ok_geq (dlt rfl rfl) rfl rfl rfl) (.nil ?_)))))
   refine ak_cond rfl (fun ht => ?_) (fun ht => ?_)
   ·have h := cond_t ht h
    refine ak_seq ?_
    refine ak_regionS (.cons rfl (ok_move (dlt rfl rfl) rfl rfl) (.cons rfl (ok_assign (dlt rfl rfl) rfl rfl) (.cons rfl (ok_assign (dlt rfl rfl) rfl rfl) (.cons rfl (ok_assign (dlt rfl rfl) rfl rfl) (.nil ?_)))))
    obtain rfl := Option.some.inj h
    refine ak_conv (Γ' := [(4, .int .i64 a4), (5, .int .i64 (0 : Int)), (6, .int .i64 (0 : Int))]) (σ' := []) (.cons rfl (.refl _) (.cons rfl (.refl _) (.cons rfl (.refl _) (.nil _)))) (.nil _) ?_
    exact ak_ret (fn := Tryz.f236) Tryz.func236 rfl trivial rfl
   ·have h := cond_f ht h
    refine ak_skip ?_
    refine ak_seq ?_
    refine ak_seq ?_
    obtain ⟨v2, hv2, h⟩ := bind_of h
    refine ak_regionS (.cons rfl (ok_move (dlt rfl rfl) rfl rfl) (.cons rfl (ok_move (dlt rfl rfl) rfl rfl) (.cons rfl (ok_byte (s := a0) (c := v2) (dlt rfl rfl) rfl Tryz.underlying9 rfl rfl (idx_0 hv2) (idx_1 hv2)) (.cons rfl (ok_move (dlt rfl rfl) rfl rfl) (.cons rfl (ok_neq (dlt rfl rfl) rfl rfl rfl) (.cons rfl (ok_move (dlt rfl rfl) rfl rfl) (.consG (pre := []) (dlt rfl rfl) rfl rfl rfl rfl .nil (fun he => ok_move (dlt rfl rfl) rfl rfl) (.cons rfl (ok_andW (dlt rfl rfl) rfl rfl rfl (fun h => h)) (.nil ?_)))))))))
    refine ak_cond rfl (fun ht => ?_) (fun ht => ?_)
    ·have h := cond_t ht h
     refine ak_seq ?_
     refine ak_regionS (.cons rfl (ok_move (dlt rfl rfl) rfl rfl) (.cons rfl (ok_assign (dlt rfl rfl) rfl rfl) (.cons rfl (ok_assign (dlt rfl rfl) rfl rfl) (.cons rfl (ok_assign (dlt rfl rfl) rfl rfl) (.nil ?_)))))
     obtain rfl := Option.some.inj h
     refine ak_conv (Γ' := [(4, .int .i64 a4), (5, .int .i64 (0 : Int)), (6, .int .i64 (4 : Int))]) (σ' := []) (.cons rfl (.refl _) (.cons rfl (.refl _) (.cons rfl (.refl _) (.nil _)))) (.nil _) ?_
     exact ak_ret (fn := Tryz.f236) Tryz.func236 rfl trivial rfl
    ·have h := cond_f ht h
     refine ak_skip ?_
     refine ak_seq ?_
     obtain ⟨v3, hv3, h⟩ := bind_of h
     refine ak_regionS (.cons rfl (ok_move (dlt rfl rfl) rfl rfl) (.cons rfl (ok_move (dlt rfl rfl) rfl rfl) (.cons rfl (ok_byte (s := a0) (c := v3) (dlt rfl rfl) rfl Tryz.underlying9 rfl rfl (idx_0 hv3) (idx_1 hv3)) (.cons rfl (ok_move (dlt rfl rfl) rfl rfl) (.cons rfl (ok_neq (dlt rfl rfl) rfl rfl rfl) (.nil ?_))))))
     refine ak_cond rfl (fun ht => ?_) (fun ht => ?_)
     ·have h := cond_t ht h
      refine ak_seq ?_
      refine ak_regionS (.cons rfl (ok_move (dlt rfl rfl) rfl rfl) (.cons rfl (ok_assign (dlt rfl rfl) rfl rfl) (.cons rfl (ok_assign (dlt rfl rfl) rfl rfl) (.cons rfl (ok_assign (dlt rfl rfl) rfl rfl) (.nil ?_)))))
      obtain rfl := Option.some.inj h
      refine ak_conv (Γ' := [(4, .int .i64 a4), (5, .int .i64 (0 : Int)), (6, .int .i64 (3 : Int))]) (σ' := []) (.cons rfl (.refl _) (.cons rfl (.refl _) (.cons rfl (.refl _) (.nil _)))) (.nil _) ?_
      exact ak_ret (fn := Tryz.f236) Tryz.func236 rfl trivial rfl
     ·have h := cond_f ht h
      refine ak_skip ?_
      refine ak_inBlock ?_
      refine ak_regionS (.cons rfl (ok_add (dlt rfl rfl) rfl rfl rfl) (.cons rfl (ok_move (dlt rfl rfl) rfl rfl) (.nil ?_)))
      refine ak_inLoop ?_
      exact ak_conv (.cons rfl (.refl _) (.cons rfl (.refl _) (.cons rfl (.refl _) (.cons rfl (.refl _) (.cons rfl (.refl _) (.nil _)))))) (.nil _) (ih _ _ h w F ρ)
  ·have h := cond_f ht h
   refine ak_exit rfl ?_
   refine ak_seq ?_
   obtain ⟨v4, hv4, h⟩ := bind_of h
   obtain ⟨v5, hv5, h⟩ := bind_of h
   refine ak_regionS (.cons rfl (ok_move (dlt rfl rfl) rfl rfl) (.cons rfl (ok_cutL (dlt rfl rfl) rfl Tryz.underlying9 rfl rfl (need_of hv4).1 (need_of hv4).2) (.cons rfl (ok_call (xs := [.str (a0.drop (2 : Int).toNat)]) (caps := []) (dlt rfl rfl) rfl rfl Tryz.func249 rfl rfl rfl (d249 hv5) rfl) (.cons rfl (ok_move (dlt rfl rfl) rfl rfl) (.cons rfl (ok_extract (dlt rfl rfl) rfl rfl rfl) (.cons rfl (ok_extract (dlt rfl rfl) rfl rfl rfl) (.cons rfl (ok_assign (dlt rfl rfl) rfl rfl) (.cons rfl (ok_assign (dlt rfl rfl) rfl rfl) (.nil ?_)))))))))
   refine ak_seq ?_
   refine ak_regionS (.cons rfl (ok_assign (dlt rfl rfl) rfl rfl) (.nil ?_))
   refine ak_seq ?_
   refine ak_regionS (.cons rfl (ok_assign (dlt rfl rfl) rfl rfl) (.nil ?_))
   refine ak_seq ?_
   refine ak_seq ?_
   refine ak_regionS (.cons rfl (ok_move (dlt rfl rfl) rfl rfl) (.cons rfl (ok_geq (dlt rfl rfl) rfl rfl rfl) (.nil ?_)))
   refine ak_cond rfl (fun ht => ?_) (fun ht => ?_)
   ·have h := cond_t ht h
    obtain ⟨v6, hv6, h⟩ := bind_of h
    obtain ⟨v7, hv7, h⟩ := bind_of h
    refine ak_regionS (.cons rfl (ok_move (dlt rfl rfl) rfl rfl) (.cons rfl (ok_byte (s := a0) (c := v6) (dlt rfl rfl) rfl Tryz.underlying9 rfl rfl (idx_0 hv6) (idx_1 hv6)) (.cons rfl (ok_call (xs := [.int .u8 (v6.toNat : Int)]) (caps := []) (dlt rfl rfl) rfl rfl Tryz.func250 rfl rfl rfl (d250 hv7) rfl) (.cons rfl (ok_move (dlt rfl rfl) rfl rfl) (.cons rfl (ok_extract (dlt rfl rfl) rfl rfl rfl) (.cons rfl (ok_extract (dlt rfl rfl) rfl rfl rfl) (.cons rfl (ok_assign (dlt rfl rfl) rfl rfl) (.nil ?_))))))))
    exact ak_conv (.cons rfl (.refl _) (.cons rfl (.refl _) (.cons rfl (.refl _) (.cons rfl (.refl _) (.cons rfl (.refl _) (.cons rfl (.refl _) (.nil _))))))) (.nil _) (ih _ _ h w F ρ)
   ·have h := cond_f ht h
    refine ak_skip ?_
    exact ak_conv (.cons rfl (.refl _) (.cons rfl (.refl _) (.cons rfl (.refl _) (.cons rfl (.refl _) (.cons rfl (.refl _) (.cons rfl (.refl _) (.nil _))))))) (.nil _) (ih _ _ h w F ρ)
 | l236_1 a0 a1 a2 a3 a4 a5 =>
  intro w F ρ
  dsimp only at h
  refine ak_seq ?_
  refine ak_seq ?_
  refine ak_regionS (.cons rfl (ok_move (dlt rfl rfl) rfl rfl) (.cons rfl (ok_geq (dlt rfl rfl) rfl rfl rfl) (.nil ?_)))
  refine ak_cond rfl (fun ht => ?_) (fun ht => ?_)
  ·have h := cond_t ht h
   obtain ⟨v8, hv8, h⟩ := bind_of h
   obtain ⟨v9, hv9, h⟩ := bind_of h
   refine ak_regionS (.cons rfl (ok_move (dlt rfl rfl) rfl rfl) (.cons rfl (ok_byte (s := a0) (c := v8) (dlt rfl rfl) rfl Tryz.underlying9 rfl rfl (idx_0 hv8) (idx_1 hv8)) (.cons rfl (ok_call (xs := [.int .u8 (v8.toNat : Int)]) (caps := []) (dlt rfl rfl) rfl rfl Tryz.func250 rfl rfl rfl (d250 hv9) rfl) (.cons rfl (ok_move (dlt rfl rfl) rfl rfl) (.cons rfl (ok_extract (dlt rfl rfl) rfl rfl rfl) (.cons rfl (ok_extract (dlt rfl rfl) rfl rfl rfl) (.cons rfl (ok_assign (dlt rfl rfl) rfl rfl) (.nil ?_))))))))
   exact ak_conv (.cons rfl (.refl _) (.cons rfl (.refl _) (.cons rfl (.refl _) (.cons rfl (.refl _) (.cons rfl (.refl _) (.cons rfl (.refl _) (.nil _))))))) (.nil _) (ih _ _ h w F ρ)
  ·have h := cond_f ht h
   refine ak_skip ?_
   exact ak_conv (.cons rfl (.refl _) (.cons rfl (.refl _) (.cons rfl (.refl _) (.cons rfl (.refl _) (.cons rfl (.refl _) (.cons rfl (.refl _) (.nil _))))))) (.nil _) (ih _ _ h w F ρ)
 | l236_2 a0 a1 a2 a3 a4 a5 =>
  intro w F ρ
  dsimp only at h
  refine ak_seq ?_
  refine ak_seq ?_
  refine ak_regionS (.cons rfl (ok_move (dlt rfl rfl) rfl rfl) (.cons rfl (ok_move (dlt rfl rfl) rfl rfl) (.consG (pre := []) (dlt rfl rfl) rfl rfl rfl rfl .nil (fun he => ok_move (dlt rfl rfl) rfl rfl) (.consG (pre := [(65, .int .i64 a2)]) (dlt rfl rfl) rfl rfl rfl rfl (.cons rfl (fun he => he) .nil) (fun he => ok_geq (dlt rfl rfl) rfl rfl rfl) (.cons rfl (ok_andW (dlt rfl rfl) rfl rfl rfl (fun h => h)) (.cons rfl (ok_move (dlt rfl rfl) rfl rfl) (.consG (pre := []) (dlt rfl rfl) rfl rfl rfl rfl .nil (fun he => ok_move (dlt rfl rfl) rfl rfl) (.consG (pre := [(69, .int .i64 a4)]) (dlt rfl rfl) rfl rfl rfl rfl (.cons rfl (fun he => he) .nil) (fun he => ok_neq (dlt rfl rfl) rfl rfl rfl) (.cons rfl (ok_andW (dlt rfl rfl) rfl rfl rfl (fun h => h)) (.nil ?_))))))))))
  refine ak_cond rfl (fun ht => ?_) (fun ht => ?_)
  ·have h := cond_t ht h
   refine ak_seq ?_
   refine ak_regionS (.cons rfl (ok_assign (dlt rfl rfl) rfl rfl) (.cons rfl (ok_assign (dlt rfl rfl) rfl rfl) (.cons rfl (ok_assign (dlt rfl rfl) rfl rfl) (.nil ?_))))
   obtain rfl := Option.some.inj h
   refine ak_conv (Γ' := [(4, .int .i64 (2 : Int)), (5, .int .i64 (0 : Int)), (6, .int .i64 (4 : Int))]) (σ' := []) (.cons rfl (.refl _) (.cons rfl (.refl _) (.cons rfl (.refl _) (.nil _)))) (.nil _) ?_
   exact ak_ret (fn := Tryz.f236) Tryz.func236 rfl trivial rfl
  ·have h := cond_f ht h
   refine ak_skip ?_
   refine ak_seq ?_
   refine ak_seq ?_
   refine ak_regionS (.cons rfl (ok_move (dlt rfl rfl) rfl rfl) (.cons rfl (ok_move (dlt rfl rfl) rfl rfl) (.consG (pre := []) (dlt rfl rfl) rfl rfl rfl rfl .nil (fun he => ok_move (dlt rfl rfl) rfl rfl) (.consG (pre := [(74, .int .i64 a2)]) (dlt rfl rfl) rfl rfl rfl rfl (.cons rfl (fun he => he) .nil) (fun he => ok_geq (dlt rfl rfl) rfl rfl rfl) (.cons rfl (ok_andW (dlt rfl rfl) rfl rfl rfl (fun h => h)) (.cons rfl (ok_move (dlt rfl rfl) rfl rfl) (.consG (pre := []) (dlt rfl rfl) rfl rfl rfl rfl .nil (fun he => ok_move (dlt rfl rfl) rfl rfl) (.consG (pre := [(78, .int .i64 a5)]) (dlt rfl rfl) rfl rfl rfl rfl (.cons rfl (fun he => he) .nil) (fun he => ok_lss (dlt rfl rfl) rfl rfl rfl) (.cons rfl (ok_andW (dlt rfl rfl) rfl rfl rfl (fun h => h)) (.nil ?_))))))))))
   refine ak_cond rfl (fun ht => ?_) (fun ht => ?_)
   ·have h := cond_t ht h
    refine ak_seq ?_
    refine ak_regionS (.cons rfl (ok_assign (dlt rfl rfl) rfl rfl) (.cons rfl (ok_assign (dlt rfl rfl) rfl rfl) (.cons rfl (ok_assign (dlt rfl rfl) rfl rfl) (.nil ?_))))
    obtain rfl := Option.some.inj h
    refine ak_conv (Γ' := [(4, .int .i64 (3 : Int)), (5, .int .i64 (0 : Int)), (6, .int .i64 (4 : Int))]) (σ' := []) (.cons rfl (.refl _) (.cons rfl (.refl _) (.cons rfl (.refl _) (.nil _)))) (.nil _) ?_
    exact ak_ret (fn := Tryz.f236) Tryz.func236 rfl trivial rfl
   ·have h := cond_f ht h
    refine ak_skip ?_
    refine ak_seq ?_
    refine ak_seq ?_
    refine ak_regionS (.cons rfl (ok_move (dlt rfl rfl) rfl rfl) (.cons rfl (ok_not (dlt rfl rfl) rfl rfl) (.cons rfl (ok_move (dlt rfl rfl) rfl rfl) (.consG (pre := []) (dlt rfl rfl) rfl rfl rfl rfl .nil (fun he => ok_move (dlt rfl rfl) rfl rfl) (.consG (pre := [(84, .int .i64 a2)]) (dlt rfl rfl) rfl rfl rfl rfl (.cons rfl (fun he => he) .nil) (fun he => ok_geq (dlt rfl rfl) rfl rfl rfl) (.cons rfl (ok_andW (dlt rfl rfl) rfl rfl rfl (fun h => h)) (.cons rfl (ok_move (dlt rfl rfl) rfl rfl) (.consG (pre := []) (dlt rfl rfl) rfl rfl rfl rfl .nil (fun he => ok_move (dlt rfl rfl) rfl rfl) (.consG (pre := [(88, .int .i64 a4)]) (dlt rfl rfl) rfl rfl rfl rfl (.cons rfl (fun he => he) .nil) (fun he => ok_eql (dlt rfl rfl) rfl rfl rfl) (.cons rfl (ok_andW (dlt rfl rfl) rfl rfl rfl (fun h => h)) (.cons rfl (ok_move (dlt rfl rfl) rfl rfl) (.consG (pre := []) (dlt rfl rfl) rfl rfl rfl rfl .nil (fun he => ok_move (dlt rfl rfl) rfl rfl) (.consG (pre := [(92, .int .i64 a5)]) (dlt rfl rfl) rfl rfl rfl rfl (.cons rfl (fun he => he) .nil) (fun he => ok_geq (dlt rfl rfl) rfl rfl rfl) (.cons rfl (ok_andW (dlt rfl rfl) rfl rfl rfl (fun h => h)) (.nil ?_)))))))))))))))
    refine ak_cond rfl (fun ht => ?_) (fun ht => ?_)
    ·have h := cond_t ht h
     refine ak_seq ?_
     refine ak_regionS (.cons rfl (ok_assign (dlt rfl rfl) rfl rfl) (.cons rfl (ok_assign (dlt rfl rfl) rfl rfl) (.cons rfl (ok_assign (dlt rfl rfl) rfl rfl) (.nil ?_))))
     obtain rfl := Option.some.inj h
     refine ak_conv (Γ' := [(4, .int .i64 (3 : Int)), (5, .int .i64 (0 : Int)), (6, .int .i64 (4 : Int))]) (σ' := []) (.cons rfl (.refl _) (.cons rfl (.refl _) (.cons rfl (.refl _) (.nil _)))) (.nil _) ?_
     exact ak_ret (fn := Tryz.f236) Tryz.func236 rfl trivial rfl
    ·have h := cond_f ht h
     refine ak_skip ?_
     refine ak_seq ?_
     refine ak_seq ?_
     refine ak_regionS (.cons rfl (ok_move (dlt rfl rfl) rfl rfl) (.cons rfl (ok_lss (dlt rfl rfl) rfl rfl rfl) (.cons rfl (ok_move (dlt rfl rfl) rfl rfl) (.consG (pre := []) (dlt rfl rfl) rfl rfl rfl rfl .nil (fun he => ok_move (dlt rfl rfl) rfl rfl) (.consG (pre := [(98, .int .i64 a2)]) (dlt rfl rfl) rfl rfl rfl rfl (.cons rfl (fun he => he) .nil) (fun he => ok_add (dlt rfl rfl) rfl rfl rfl) (.consG (pre := []) (dlt rfl rfl) rfl rfl rfl rfl .nil (fun he => ok_move (dlt rfl rfl) rfl rfl) (.consG (pre := [(100, .str a0)]) (dlt rfl rfl) rfl rfl rfl rfl (.cons rfl (fun he => he) .nil) (fun he => ok_lenT (s := a0) (dlt rfl rfl) rfl Tryz.underlying9 rfl) (.consG (pre := [(99, .int .i64 (IntKind.wrap .i64 ((2 : Int) + a2))), (101, .int .i64 (a0.length : Int))]) (dlt rfl rfl) rfl rfl rfl rfl (.cons rfl (fun he => he) (.cons rfl (fun he => he) .nil)) (fun he => ok_lss (dlt rfl rfl) rfl rfl rfl) (.cons rfl (ok_andW (dlt rfl rfl) rfl rfl rfl (fun h => h)) (.cons rfl (ok_move (dlt rfl rfl) rfl rfl) (.consG (pre := []) (dlt rfl rfl) rfl rfl rfl rfl .nil (fun he => ok_move (dlt rfl rfl) rfl rfl) (.cons rfl (ok_andW (dlt rfl rfl) rfl rfl rfl (fun h => h)) (.cons rfl (ok_move (dlt rfl rfl) rfl rfl) (.consG (pre := []) (dlt rfl rfl) rfl rfl rfl rfl .nil (fun he => ok_move (dlt rfl rfl) rfl rfl) (.consG (pre := [(108, .int .i64 a2)]) (dlt rfl rfl) rfl rfl rfl rfl (.cons rfl (fun he => he) .nil) (fun he => ok_lss (dlt rfl rfl) rfl rfl rfl) (.cons rfl (ok_andW (dlt rfl rfl) rfl rfl rfl (fun h => h)) (.nil ?_)))))))))))))))))
     refine ak_cond rfl (fun ht => ?_) (fun ht => ?_)
     ·have h := cond_t ht h
      refine ak_seq ?_
      refine ak_regionS (.cons rfl (ok_move (dlt rfl rfl) rfl rfl) (.cons rfl (ok_add (dlt rfl rfl) rfl rfl rfl) (.cons rfl (ok_assign (dlt rfl rfl) rfl rfl) (.cons rfl (ok_assign (dlt rfl rfl) rfl rfl) (.cons rfl (ok_assign (dlt rfl rfl) rfl rfl) (.nil ?_))))))
      obtain rfl := Option.some.inj h
      refine ak_conv (Γ' := [(4, .int .i64 (IntKind.wrap .i64 ((2 : Int) + a2))), (5, .int .i64 (0 : Int)), (6, .int .i64 (4 : Int))]) (σ' := []) (.cons rfl (.refl _) (.cons rfl (.refl _) (.cons rfl (.refl _) (.nil _)))) (.nil _) ?_
      exact ak_ret (fn := Tryz.f236) Tryz.func236 rfl trivial rfl
     ·have h := cond_f ht h
      refine ak_skip ?_
      refine ak_seq ?_
      refine ak_seq ?_
      refine ak_regionS (.cons rfl (ok_move (dlt rfl rfl) rfl rfl) (.cons rfl (ok_lss (dlt rfl rfl) rfl rfl rfl) (.cons rfl (ok_move (dlt rfl rfl) rfl rfl) (.consG (pre := []) (dlt rfl rfl) rfl rfl rfl rfl .nil (fun he => ok_move (dlt rfl rfl) rfl rfl) (.consG (pre := [(116, .int .i64 a2)]) (dlt rfl rfl) rfl rfl rfl rfl (.cons rfl (fun he => he) .nil) (fun he => ok_add (dlt rfl rfl) rfl rfl rfl) (.consG (pre := []) (dlt rfl rfl) rfl rfl rfl rfl .nil (fun he => ok_move (dlt rfl rfl) rfl rfl) (.consG (pre := [(118, .str a0)]) (dlt rfl rfl) rfl rfl rfl rfl (.cons rfl (fun he => he) .nil) (fun he => ok_lenT (s := a0) (dlt rfl rfl) rfl Tryz.underlying9 rfl) (.consG (pre := [(117, .int .i64 (IntKind.wrap .i64 ((2 : Int) + a2))), (119, .int .i64 (a0.length : Int))]) (dlt rfl rfl) rfl rfl rfl rfl (.cons rfl (fun he => he) (.cons rfl (fun he => he) .nil)) (fun he => ok_lss (dlt rfl rfl) rfl rfl rfl) (.cons rfl (ok_andW (dlt rfl rfl) rfl rfl rfl (fun h => h)) (.nil ?_))))))))))
      refine ak_cond rfl (fun ht => ?_) (fun ht => ?_)
      ·have h := cond_t ht h
       refine ak_seq ?_
       refine ak_regionS (.cons rfl (ok_move (dlt rfl rfl) rfl rfl) (.cons rfl (ok_add (dlt rfl rfl) rfl rfl rfl) (.cons rfl (ok_assign (dlt rfl rfl) rfl rfl) (.cons rfl (ok_assign (dlt rfl rfl) rfl rfl) (.cons rfl (ok_assign (dlt rfl rfl) rfl rfl) (.nil ?_))))))
       obtain rfl := Option.some.inj h
       refine ak_conv (Γ' := [(4, .int .i64 (IntKind.wrap .i64 ((2 : Int) + a2))), (5, .int .i64 (0 : Int)), (6, .int .i64 (3 : Int))]) (σ' := []) (.cons rfl (.refl _) (.cons rfl (.refl _) (.cons rfl (.refl _) (.nil _)))) (.nil _) ?_
       exact ak_ret (fn := Tryz.f236) Tryz.func236 rfl trivial rfl
      ·have h := cond_f ht h
       refine ak_skip ?_
       refine ak_seq ?_
       refine ak_regionS (.cons rfl (ok_move (dlt rfl rfl) rfl rfl) (.cons rfl (ok_add (dlt rfl rfl) rfl rfl rfl) (.cons rfl (ok_move (dlt rfl rfl) rfl rfl) (.cons rfl (ok_assign (dlt rfl rfl) rfl rfl) (.cons rfl (ok_assign (dlt rfl rfl) rfl rfl) (.cons rfl (ok_assign (dlt rfl rfl) rfl rfl) (.nil ?_)))))))
       obtain rfl := Option.some.inj h
       refine ak_conv (Γ' := [(4, .int .i64 (IntKind.wrap .i64 ((2 : Int) + a2))), (5, .int .i64 a3), (6, .int .i64 (0 : Int))]) (σ' := []) (.cons rfl (.refl _) (.cons rfl (.refl _) (.cons rfl (.refl _) (.nil _)))) (.nil _) ?_
       exact ak_ret (fn := Tryz.f236) Tryz.func236 rfl trivial rfl)
theorem d236 {a0 : List UInt8} {a1 : Bool} {r : Int × Int × Int} (h : f236 (.e236 a0 a1) = some r) : Does Tryz.prog GG 236 [.str a0, .bool a1] [] (fun z _ => z = .tup [.int .i64 r.1, .int .i64 r.2.1, .int .i64 r.2.2]) := fn_of (fn := Tryz.f236) Tryz.func236 rfl Tryz.ntmps236 rfl (w236 _ _ h)
end Go.Proofs.YtonlbdholdaifaaGreatDoor
end
section
set_option linter.unusedVariables false
set_option linter.unusedSimpArgs false
set_option maxRecDepth 10000
namespace Go.Proofs.YtonlbdholdaifaaGreatDoor
open Go Go.Rf Go.Proofs
/-- riffle/riffleref02.Has -/
noncomputable abbrev b251 : Code := codeOf Tryz.f251
inductive L251 where
 | e251 (a0 : Int)
noncomputable def f251 : L251 → Option Bool
 | .e251 a0 =>
  some (((decide ((0 : Int) ≤ a0)) && (decide (a0 ≤ (1114111 : Int)))) && ((decide (a0 < (55296 : Int))) || (decide ((57343 : Int) < a0))))
def M251 : L251 → Bool → Prop
 | .e251 a0, r => ∀ (w : World) (F : Nat → Prop) (ρ : Rho), AK Tryz.prog (ctx GG 17 w F ρ []) 251 [.code b251] (argE 0 [.int .i64 a0]) [] (fun z _ => z = .bool r)
theorem w251 : ∀ (l : L251) (r : Bool), f251 l = some r → M251 l r := (by
 intro l r h
 cases l with
 | e251 a0 =>
  intro w F ρ
  dsimp only [f251] at h
  refine ak_seq ?_
  refine ak_regionS (.cons rfl (ok_assign (dlt rfl rfl) rfl rfl) (.nil ?_))
  refine ak_seq ?_
  refine ak_regionS (.cons rfl (ok_move (dlt rfl rfl) rfl rfl) (.cons rfl (ok_geq (dlt rfl rfl) rfl rfl rfl) (.cons rfl (ok_move (dlt rfl rfl) rfl rfl) (.consG (pre := []) (dlt rfl rfl) rfl rfl rfl rfl .nil (fun he => ok_move (dlt rfl rfl) rfl rfl) (.consG (pre := [(6, .int .i64 a0)]) (dlt rfl rfl) rfl rfl rfl rfl (.cons rfl (fun he => he) .nil) (fun he => ok_leq (dlt rfl rfl) rfl rfl rfl) (.cons rfl (ok_andW (dlt rfl rfl) rfl rfl rfl (fun h => h)) (.cons rfl (ok_move (dlt rfl rfl) rfl rfl) (.consG (pre := []) (dlt rfl rfl) rfl rfl rfl rfl .nil (fun he => ok_move (dlt rfl rfl) rfl rfl) (.consG (pre := [(10, .int .i64 a0)]) (dlt rfl rfl) rfl rfl rfl rfl (.cons rfl (fun he => he) .nil) (fun he => ok_lss (dlt rfl rfl) rfl rfl rfl) (.consG (pre := [(11, .bool (decide (a0 < (55296 : Int))))]) (dlt rfl rfl) rfl rfl rfl rfl (.cons rfl (fun he => he) .nil) (fun he => ok_move (dlt rfl rfl) rfl rfl) (.consG (pre := []) (dlt rfl rfl) rfl rfl rfl rfl .nil (fun he => ok_move (dlt rfl rfl) rfl rfl) (.consG (pre := [(13, .int .i64 a0)]) (dlt rfl rfl) rfl rfl rfl rfl (.cons rfl (fun he => he) .nil) (fun he => ok_gtr (dlt rfl rfl) rfl rfl rfl) (.consG (pre := [(12, .bool (decide (a0 < (55296 : Int))))]) (dlt rfl rfl) rfl rfl rfl rfl (.cons rfl (fun he => he) .nil) (fun he => ok_orW (dlt rfl rfl) rfl rfl rfl (fun h => band_i he (bnot_t h))) (.cons rfl (ok_andW (dlt rfl rfl) rfl rfl rfl (fun h => h)) (.cons rfl (ok_assign (dlt rfl rfl) rfl rfl) (.nil ?_))))))))))))))))
  obtain rfl := Option.some.inj h
  refine ak_conv (Γ' := [(2, .bool (((decide ((0 : Int) ≤ a0)) && (decide (a0 ≤ (1114111 : Int)))) && ((decide (a0 < (55296 : Int))) || (decide ((57343 : Int) < a0)))))]) (σ' := []) (.cons rfl (.refl _) (.nil _)) (.nil _) ?_
  exact ak_ret (fn := Tryz.f251) Tryz.func251 rfl trivial rfl)
theorem d251 {a0 : Int} {r : Bool} (h : f251 (.e251 a0) = some r) : Does Tryz.prog GG 251 [.int .i64 a0] [] (fun z _ => z = .bool r) := fn_of (fn := Tryz.f251) Tryz.func251 rfl Tryz.ntmps251 rfl (w251 _ _ h)
/-- riffle/riffleref02.Of -/
noncomputable abbrev b237 : Code := codeOf Tryz.f237
inductive L237 where
 | e237 (a0 : Int)
 | l237_0 (a0 : Int)
noncomputable def f237 : L237 → Option (List UInt8)
 | .e237 a0 =>
  f251 (.e251 a0) >>= fun v1 =>
  if (!v1) = true then
   f237 (.l237_0 (65533 : Int))
  else
   f237 (.l237_0 a0)
 | .l237_0 a0 =>
  if (decide (a0 < (128 : Int))) = true then
   need ((IntKind.wrap .u8 a0) = ((toU8 (IntKind.wrap .u8 a0)).toNat : Int)) >>= fun v2 =>
   some ([(toU8 (IntKind.wrap .u8 a0))] : List UInt8)
  else
   if (decide (a0 < (2048 : Int))) = true then
    need ((IntKind.wrap .u8 (IntKind.wrap .i64 ((192 : Int) + (IntKind.wrap .i64 (a0.tdiv (64 : Int)))))) = ((toU8 (IntKind.wrap .u8 (IntKind.wrap .i64 ((192 : Int) + (IntKind.wrap .i64 (a0.tdiv (64 : Int))))))).toNat : Int)) >>= fun v3 =>
    need ((IntKind.wrap .u8 (IntKind.wrap .i64 ((128 : Int) + (a0.tmod (64 : Int))))) = ((toU8 (IntKind.wrap .u8 (IntKind.wrap .i64 ((128 : Int) + (a0.tmod (64 : Int)))))).toNat : Int)) >>= fun v4 =>
    some ([(toU8 (IntKind.wrap .u8 (IntKind.wrap .i64 ((192 : Int) + (IntKind.wrap .i64 (a0.tdiv (64 : Int))))))), (toU8 (IntKind.wrap .u8 (IntKind.wrap .i64 ((128 : Int) + (a0.tmod (64 : Int))))))] : List UInt8)
   else
    if (decide (a0 < (65536 : Int))) = true then
     need ((IntKind.wrap .u8 (IntKind.wrap .i64 ((224 : Int) + (IntKind.wrap .i64 (a0.tdiv (4096 : Int)))))) = ((toU8 (IntKind.wrap .u8 (IntKind.wrap .i64 ((224 : Int) + (IntKind.wrap .i64 (a0.tdiv (4096 : Int))))))).toNat : Int)) >>= fun v5 =>
     need ((IntKind.wrap .u8 (IntKind.wrap .i64 ((128 : Int) + ((IntKind.wrap .i64 (a0.tdiv (64 : Int))).tmod (64 : Int))))) = ((toU8 (IntKind.wrap .u8 (IntKind.wrap .i64 ((128 : Int) + ((IntKind.wrap .i64 (a0.tdiv (64 : Int))).tmod (64 : Int)))))).toNat : Int)) >>= fun v6 =>
     need ((IntKind.wrap .u8 (IntKind.wrap .i64 ((128 : Int) + (a0.tmod (64 : Int))))) = ((toU8 (IntKind.wrap .u8 (IntKind.wrap .i64 ((128 : Int) + (a0.tmod (64 : Int)))))).toNat : Int)) >>= fun v7 =>
     some ([(toU8 (IntKind.wrap .u8 (IntKind.wrap .i64 ((224 : Int) + (IntKind.wrap .i64 (a0.tdiv (4096 : Int))))))), (toU8 (IntKind.wrap .u8 (IntKind.wrap .i64 ((128 : Int) + ((IntKind.wrap .i64 (a0.tdiv (64 : Int))).tmod (64 : Int)))))), (toU8 (IntKind.wrap .u8 (IntKind.wrap .i64 ((128 : Int) + (a0.tmod (64 : Int))))))] : List UInt8)
    else
     need ((IntKind.wrap .u8 (IntKind.wrap .i64 ((240 : Int) + (IntKind.wrap .i64 (a0.tdiv (262144 : Int)))))) = ((toU8 (IntKind.wrap .u8 (IntKind.wrap .i64 ((240 : Int) + (IntKind.wrap .i64 (a0.tdiv (262144 : Int))))))).toNat : Int)) >>= fun v8 =>
     need ((IntKind.wrap .u8 (IntKind.wrap .i64 ((128 : Int) + ((IntKind.wrap .i64 (a0.tdiv (4096 : Int))).tmod (64 : Int))))) = ((toU8 (IntKind.wrap .u8 (IntKind.wrap .i64 ((128 : Int) + ((IntKind.wrap .i64 (a0.tdiv (4096 : Int))).tmod (64 : Int)))))).toNat : Int)) >>= fun v9 =>
     need ((IntKind.wrap .u8 (IntKind.wrap .i64 ((128 : Int) + ((IntKind.wrap .i64 (a0.tdiv (64 : Int))).tmod (64 : Int))))) = ((toU8 (IntKind.wrap .u8 (IntKind.wrap .i64 ((128 : Int) + ((IntKind.wrap .i64 (a0.tdiv (64 : Int))).tmod (64 : Int)))))).toNat : Int)) >>= fun v10 =>
     need ((IntKind.wrap .u8 (IntKind.wrap .i64 ((128 : Int) + (a0.tmod (64 : Int))))) = ((toU8 (IntKind.wrap .u8 (IntKind.wrap .i64 ((128 : Int) + (a0.tmod (64 : Int)))))).toNat : Int)) >>= fun v11 =>
     some ([(toU8 (IntKind.wrap .u8 (IntKind.wrap .i64 ((240 : Int) + (IntKind.wrap .i64 (a0.tdiv (262144 : Int))))))), (toU8 (IntKind.wrap .u8 (IntKind.wrap .i64 ((128 : Int) + ((IntKind.wrap .i64 (a0.tdiv (4096 : Int))).tmod (64 : Int)))))), (toU8 (IntKind.wrap .u8 (IntKind.wrap .i64 ((128 : Int) + ((IntKind.wrap .i64 (a0.tdiv (64 : Int))).tmod (64 : Int)))))), (toU8 (IntKind.wrap .u8 (IntKind.wrap .i64 ((128 : Int) + (a0.tmod (64 : Int))))))] : List UInt8)
 partial_fixpoint
def M237 : L237 → (List UInt8) → Prop
 | .e237 a0, r => ∀ (w : World) (F : Nat → Prop) (ρ : Rho), AK Tryz.prog (ctx GG 57 w F ρ []) 237 [.code b237] (argE 0 [.int .i64 a0]) [] (fun z _ => z = .sl Ty.u8 r)
 | .l237_0 a0, r => ∀ (w : World) (F : Nat → Prop) (ρ : Rho), AK Tryz.prog (ctx GG 57 w F ρ []) 237 [.code (c2 (c2 b237))] [(0, .int .i64 a0)] [] (fun z _ => z = .sl Ty.u8 r)
theorem w237 : ∀ (l : L237) (r : List UInt8), f237 l = some r → M237 l r := f237.partial_correctness M237 (by
 intro f ih l r h
 cases l with
 | e237 a0 =>
  intro w F ρ
  dsimp only at h
  refine ak_seq ?_
  refine ak_regionS (.cons rfl (ok_assign (dlt rfl rfl) rfl rfl) (.nil ?_))
  refine ak_seq ?_
  refine ak_seq ?_
  obtain ⟨v1, hv1, h⟩ := bind_of h
  refine ak_regionS (.cons rfl (ok_move (dlt rfl rfl) rfl rfl) (.cons rfl (ok_call (xs := [.int .i64 a0]) (caps := []) (dlt rfl rfl) rfl rfl Tryz.func251 rfl rfl rfl (d251 hv1) rfl) (.cons rfl (ok_not (dlt rfl rfl) rfl rfl) (.nil ?_))))
  refine ak_cond rfl (fun ht => ?_) (fun ht => ?_)
  ·have h := cond_t ht h
   refine ak_regionS (.cons rfl (ok_assign (dlt rfl rfl) rfl rfl) (.nil ?_))
   exact ak_conv (.cons rfl (.refl _) (.nil _)) (.nil _) (ih _ _ h w F ρ)
  ·have h := cond_f ht h
   refine ak_skip ?_
   exact ak_conv (.cons rfl (.refl _) (.nil _)) (.nil _) (ih _ _ h w F ρ)
 | l237_0 a0 =>
  intro w F ρ
  dsimp only at h
  refine ak_seq ?_
  refine ak_seq ?_
  refine ak_regionS (.cons rfl (ok_move (dlt rfl rfl) rfl rfl) (.cons rfl (ok_lss (dlt rfl rfl) rfl rfl rfl) (.nil ?_)))
  refine ak_cond rfl (fun ht => ?_) (fun ht => ?_)
  ·have h := cond_t ht h
   refine ak_seq ?_
   obtain ⟨v2, hv2, h⟩ := bind_of h
   refine ak_regionS (.cons rfl (ok_move (dlt rfl rfl) rfl rfl) (.cons rfl (ok_conv (dlt rfl rfl) rfl Tryz.underlying3 Tryz.underlying5 rfl) (.cons rfl (ok_litS (τ := Ty.u8) (dlt rfl rfl) ([(toU8 (IntKind.wrap .u8 a0))] : List UInt8) rfl Tryz.underlying22 ty5 rfl rfl rfl rfl rfl (by decide) (by decide) rfl (.cons (sub_int (need_of hv2)) (.nil))) (.cons rfl (ok_assign (dlt rfl rfl) rfl rfl) (.nil ?_)))))
   obtain rfl := Option.some.inj h
   refine ak_conv (Γ' := [(2, .sl Ty.u8 ([(toU8 (IntKind.wrap .u8 a0))] : List UInt8))]) (σ' := []) (.cons rfl (sub_sf Ty.u8 _) (.nil _)) (.nil _) ?_
   exact ak_ret (fn := Tryz.f237) Tryz.func237 rfl trivial rfl
  ·have h := cond_f ht h
   refine ak_skip ?_
   refine ak_seq ?_
   refine ak_seq ?_
   refine ak_regionS (.cons rfl (ok_move (dlt rfl rfl) rfl rfl) (.cons rfl (ok_lss (dlt rfl rfl) rfl rfl rfl) (.nil ?_)))
   refine ak_cond rfl (fun ht => ?_) (fun ht => ?_)
   ·have h := cond_t ht h
    refine ak_seq ?_
    obtain ⟨v3, hv3, h⟩ := bind_of h
    obtain ⟨v4, hv4, h⟩ := bind_of h
    refine ak_regionS (.cons rfl (ok_move (dlt rfl rfl) rfl rfl) (.cons rfl (ok_quo (dlt rfl rfl) rfl rfl rfl (by decide)) (.cons rfl (ok_add (dlt rfl rfl) rfl rfl rfl) (.cons rfl (ok_conv (dlt rfl rfl) rfl Tryz.underlying3 Tryz.underlying5 rfl) (.cons rfl (ok_move (dlt rfl rfl) rfl rfl) (.cons rfl (ok_rem (dlt rfl rfl) rfl rfl rfl (by decide)) (.cons rfl (ok_add (dlt rfl rfl) rfl rfl rfl) (.cons rfl (ok_conv (dlt rfl rfl) rfl Tryz.underlying3 Tryz.underlying5 rfl) (.cons rfl (ok_litS (τ := Ty.u8) (dlt rfl rfl) ([(toU8 (IntKind.wrap .u8 (IntKind.wrap .i64 ((192 : Int) + (IntKind.wrap .i64 (a0.tdiv (64 : Int))))))), (toU8 (IntKind.wrap .u8 (IntKind.wrap .i64 ((128 : Int) + (a0.tmod (64 : Int))))))] : List UInt8) rfl Tryz.underlying22 ty5 rfl rfl rfl rfl rfl (by decide) (by decide) rfl (.cons (sub_int (need_of hv3)) (.cons (sub_int (need_of hv4)) (.nil)))) (.cons rfl (ok_assign (dlt rfl rfl) rfl rfl) (.nil ?_)))))))))))
    obtain rfl := Option.some.inj h
    refine ak_conv (Γ' := [(2, .sl Ty.u8 ([(toU8 (IntKind.wrap .u8 (IntKind.wrap .i64 ((192 : Int) + (IntKind.wrap .i64 (a0.tdiv (64 : Int))))))), (toU8 (IntKind.wrap .u8 (IntKind.wrap .i64 ((128 : Int) + (a0.tmod (64 : Int))))))] : List UInt8))]) (σ' := []) (.cons rfl (sub_sf Ty.u8 _) (.nil _)) (.nil _) ?_
    exact ak_ret (fn := Tryz.f237) Tryz.func237 rfl trivial rfl
   ·have h := cond_f ht h
    refine ak_skip ?_
    refine ak_seq ?_
    refine ak_seq ?_
    refine ak_regionS (.cons rfl (ok_move (dlt rfl rfl) rfl rfl) (.cons rfl (ok_lss (dlt rfl rfl) rfl rfl rfl) (.nil ?_)))
    refine ak_cond rfl (fun ht => ?_) (fun ht => ?_)
    ·have h := cond_t ht h
     refine ak_seq ?_
     obtain ⟨v5, hv5, h⟩ := bind_of h
     obtain ⟨v6, hv6, h⟩ := bind_of h
     obtain ⟨v7, hv7, h⟩ := bind_of h
     refine ak_regionS (.cons rfl (ok_move (dlt rfl rfl) rfl rfl) (.cons rfl (ok_quo (dlt rfl rfl) rfl rfl rfl (by decide)) (.cons rfl (ok_add (dlt rfl rfl) rfl rfl rfl) (.cons rfl (ok_conv (dlt rfl rfl) rfl Tryz.underlying3 Tryz.underlying5 rfl) (.cons rfl (ok_move (dlt rfl rfl) rfl rfl) (.cons rfl (ok_quo (dlt rfl rfl) rfl rfl rfl (by decide)) (.cons rfl (ok_rem (dlt rfl rfl) rfl rfl rfl (by decide)) (.cons rfl (ok_add (dlt rfl rfl) rfl rfl rfl) (.cons rfl (ok_conv (dlt rfl rfl) rfl Tryz.underlying3 Tryz.underlying5 rfl) (.cons rfl (ok_move (dlt rfl rfl) rfl rfl) (.cons rfl (ok_rem (dlt rfl rfl) rfl rfl rfl (by decide)) (.cons rfl (ok_add (dlt rfl rfl) rfl rfl rfl) (.cons rfl (ok_conv (dlt rfl rfl) rfl Tryz.underlying3 Tryz.underlying5 rfl) (.cons rfl (ok_litS (τ := Ty.u8) (dlt rfl rfl) ([(toU8 (IntKind.wrap .u8 (IntKind.wrap .i64 ((224 : Int) + (IntKind.wrap .i64 (a0.tdiv (4096 : Int))))))), (toU8 (IntKind.wrap .u8 (IntKind.wrap .i64 ((128 : Int) + ((IntKind.wrap .i64 (a0.tdiv (64 : Int))).tmod (64 : Int)))))), (toU8 (IntKind.wrap .u8 (IntKind.wrap .i64 ((128 : Int) + (a0.tmod (64 : Int))))))] : List UInt8) rfl Tryz.underlying22 ty5 rfl rfl rfl rfl rfl (by decide) (by decide) rfl (.cons (sub_int (need_of hv5)) (.cons (sub_int (need_of hv6)) (.cons (sub_int (need_of hv7)) (.nil))))) (.cons rfl (ok_assign (dlt rfl rfl) rfl rfl) (.nil ?_))))))))))))))))
     obtain rfl := Option.some.inj h
     refine ak_conv (Γ' := [(2, .sl Ty.u8 ([(toU8 (IntKind.wrap .u8 (IntKind.wrap .i64 ((224 : Int) + (IntKind.wrap .i64 (a0.tdiv (4096 : Int))))))), (toU8 (IntKind.wrap .u8 (IntKind.wrap .i64 ((128 : Int) + ((IntKind.wrap .i64 (a0.tdiv (64 : Int))).tmod (64 : Int)))))), (toU8 (IntKind.wrap .u8 (IntKind.wrap .i64 ((128 : Int) + (a0.tmod (64 : Int))))))] : List UInt8))]) (σ' := []) (.cons rfl (sub_sf Ty.u8 _) (.nil _)) (.nil _) ?_
     exact ak_ret (fn := Tryz.f237) Tryz.func237 rfl trivial rfl
    ·have h := cond_f ht h
     refine ak_skip ?_
     refine ak_seq ?_
     obtain ⟨v8, hv8, h⟩ := bind_of h
     obtain ⟨v9, hv9, h⟩ := bind_of h
     obtain ⟨v10, hv10, h⟩ := bind_of h
     obtain ⟨v11, hv11, h⟩ := bind_of h
     refine ak_regionS (.cons rfl (ok_move (dlt rfl rfl) rfl rfl) (.cons rfl (ok_quo (dlt rfl rfl) rfl rfl rfl (by decide)) (.cons rfl (ok_add (dlt rfl rfl) rfl rfl rfl) (.cons rfl (ok_conv (dlt rfl rfl) rfl Tryz.underlying3 Tryz.underlying5 rfl) (.cons rfl (ok_move (dlt rfl rfl) rfl rfl) (.cons rfl (ok_quo (dlt rfl rfl) rfl rfl rfl (by decide)) (.cons rfl (ok_rem (dlt rfl rfl) rfl rfl rfl (by decide)) (.cons rfl (ok_add (dlt rfl rfl) rfl rfl rfl) (.cons rfl (ok_conv (dlt rfl rfl) rfl Tryz.underlying3 Tryz.underlying5 rfl) (.cons rfl (ok_move (dlt rfl rfl) rfl rfl) (.cons rfl (ok_quo (dlt rfl rfl) rfl rfl rfl (by decide)) (.cons rfl (ok_rem (dlt rfl rfl) rfl rfl rfl (by decide)) (.cons rfl (ok_add (dlt rfl rfl) rfl rfl rfl) (.cons rfl (ok_conv (dlt rfl rfl) rfl Tryz.underlying3 Tryz.underlying5 rfl) (.cons rfl (ok_move (dlt rfl rfl) rfl rfl) (.cons rfl (ok_rem (dlt rfl rfl) rfl rfl rfl (by decide)) (.cons rfl (ok_add (dlt rfl rfl) rfl rfl rfl) (.cons rfl (ok_conv (dlt rfl rfl) rfl Tryz.underlying3 Tryz.underlying5 rfl) (.cons rfl (ok_litS (τ := Ty.u8) (dlt rfl rfl) ([(toU8 (IntKind.wrap .u8 (IntKind.wrap .i64 ((240 : Int) + (IntKind.wrap .i64 (a0.tdiv (262144 : Int))))))), (toU8 (IntKind.wrap .u8 (IntKind.wrap .i64 ((128 : Int) + ((IntKind.wrap .i64 (a0.tdiv (4096 : Int))).tmod (64 : Int)))))), (toU8 (IntKind.wrap .u8 (IntKind.wrap .i64 ((128 : Int) + ((IntKind.wrap .i64 (a0.tdiv (64 : Int))).tmod (64 : Int)))))), (toU8 (IntKind.wrap .u8 (IntKind.wrap .i64 ((128 : Int) + (a0.tmod (64 : Int))))))] : List UInt8) rfl Tryz.underlying22 ty5 rfl rfl rfl rfl rfl (by decide) (by decide) rfl (.cons (sub_int (need_of hv8)) (.cons (sub_int (need_of hv9)) (.cons (sub_int (need_of hv10)) (.cons (sub_int (need_of hv11)) (.nil)))))) (.cons rfl (ok_assign (dlt rfl rfl) rfl rfl) (.nil ?_)))))))))))))))))))))
     obtain rfl := Option.some.inj h
     refine ak_conv (Γ' := [(2, .sl Ty.u8 ([(toU8 (IntKind.wrap .u8 (IntKind.wrap .i64 ((240 : Int) + (IntKind.wrap .i64 (a0.tdiv (262144 : Int))))))), (toU8 (IntKind.wrap .u8 (IntKind.wrap .i64 ((128 : Int) + ((IntKind.wrap .i64 (a0.tdiv (4096 : Int))).tmod (64 : Int)))))), (toU8 (IntKind.wrap .u8 (IntKind.wrap .i64 ((128 : Int) + ((IntKind.wrap .i64 (a0.tdiv (64 : Int))).tmod (64 : Int)))))), (toU8 (IntKind.wrap .u8 (IntKind.wrap .i64 ((128 : Int) + (a0.tmod (64 : Int))))))] : List UInt8))]) (σ' := []) (.cons rfl (sub_sf Ty.u8 _) (.nil _)) (.nil _) ?_
     exact ak_ret (fn := Tryz.f237) Tryz.func237 rfl trivial rfl)
theorem d237 {a0 : Int} {r : List UInt8} (h : f237 (.e237 a0) = some r) : Does Tryz.prog GG 237 [.int .i64 a0] [] (fun z _ => z = .sl Ty.u8 r) := fn_of (fn := Tryz.f237) Tryz.func237 rfl Tryz.ntmps237 rfl (w237 _ _ h)
end Go.Proofs.YtonlbdholdaifaaGreatDoor
end
