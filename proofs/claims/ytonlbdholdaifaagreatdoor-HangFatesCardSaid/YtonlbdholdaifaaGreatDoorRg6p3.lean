import Derived.Test.YtonlbdholdaifaaGreatDoorProg
import Derived.Test.YtonlbdholdaifaaGreatDoorRfp4
import Derived.Test.YtonlbdholdaifaaGreatDoorRg6p1
import Derived.Test.YtonlbdholdaifaaGreatDoorRg6p2
section
set_option linter.unusedVariables false
set_option linter.unusedSimpArgs false
set_option maxRecDepth 10000
namespace Go.Proofs.YtonlbdholdaifaaGreatDoor
open Go Go.Rf Go.Proofs
/-- riffle/riffleref06.piece -/
noncomputable abbrev b211 : Code := codeOf Tryz.f211
inductive L211 where
 | e211 (a0 : List UInt8)
 | l211_0 (a0 : List UInt8) (a1 : Int)
noncomputable def f211 : L211 → Option ((List UInt8) × Int × Int × Bool)
 | .e211 a0 =>
  idx a0 (0 : Int) >>= fun v1 =>
  if (decide ((v1.toNat : Int) < (32 : Int))) = true then
   some (([] : List UInt8), 0, 7, false)
  else
   idx a0 (0 : Int) >>= fun v2 =>
   if ((v2.toNat : Int) != (92 : Int)) = true then
    f211 (.l211_0 a0 (1 : Int))
   else
    if ((a0.length : Int) == (1 : Int)) = true then
     some (([] : List UInt8), 1, 0, false)
    else
     idx a0 (1 : Int) >>= fun v3 =>
     if ((v3.toNat : Int) != (117 : Int)) = true then
      idx a0 (1 : Int) >>= fun v4 =>
      f189 (.e189 (v4.toNat : Int)) >>= fun v5 =>
      if (v5 == (0 : Int)) = true then
       some (([] : List UInt8), 1, 3, false)
      else
       need (v5 = ((toU8 v5).toNat : Int)) >>= fun v6 =>
       some (([(toU8 v5)] : List UInt8), 2, 0, true)
     else
      f236 (.e236 a0 false) >>= fun v7 =>
      if ((v7.2.2 != (0 : Int)) || (decide (v7.1 < (6 : Int)))) = true then
       some (([] : List UInt8), v7.1, v7.2.2, false)
      else
       if ((decide (v7.2.1 < (55296 : Int))) || (decide ((56319 : Int) < v7.2.1))) = true then
        f237 (.e237 v7.2.1) >>= fun v8 =>
        some (v8, 6, 0, true)
       else
        need (0 ≤ (6 : Int) ∧ (6 : Int) ≤ (a0.length : Int)) >>= fun v9 =>
        f236 (.e236 (a0.drop (6 : Int).toNat) true) >>= fun v10 =>
        if ((v10.2.2 != (0 : Int)) || (decide (v10.1 < (6 : Int)))) = true then
         some (([] : List UInt8), IntKind.wrap .i64 ((6 : Int) + v10.1), v10.2.2, false)
        else
         f237 (.e237 (IntKind.wrap .i64 ((IntKind.wrap .i64 ((IntKind.wrap .i64 ((65536 : Int) + (IntKind.wrap .i64 ((IntKind.wrap .i64 (v7.2.1 - (55296 : Int))) * (1024 : Int))))) + v10.2.1)) - (56320 : Int)))) >>= fun v11 =>
         some (v11, 12, 0, true)
 | .l211_0 a0 a1 =>
  if (decide (a1 ≤ (a0.length : Int))) = true then
   need (0 ≤ a1 ∧ a1 ≤ (a0.length : Int)) >>= fun v12 =>
   f176 (.e176 (a0.take a1.toNat)) >>= fun v13 =>
   if (!v13.1) = true then
    some (([] : List UInt8), IntKind.wrap .i64 (a1 - (1 : Int)), 2, false)
   else
    if v13.2.1 = true then
     need (0 ≤ a1 ∧ a1 ≤ (a0.length : Int)) >>= fun v14 =>
     some (a0.take a1.toNat, a1, 0, true)
    else
     f211 (.l211_0 a0 (IntKind.wrap .i64 (a1 + (1 : Int))))
  else
   some (([] : List UInt8), (a0.length : Int), 0, false)
 partial_fixpoint
def M211 : L211 → ((List UInt8) × Int × Int × Bool) → Prop
 | .e211 a0, r => ∀ (w : World) (F : Nat → Prop) (ρ : Rho), AK Tryz.prog (ctx GG 107 w F ρ []) 211 [.code b211] (argE 0 [.str a0]) [] (fun z _ => z = .tup [.sl Ty.u8 r.1, .int .i64 r.2.1, .int .i64 r.2.2.1, .bool r.2.2.2])
 | .l211_0 a0 a1, r => ∀ (w : World) (F : Nat → Prop) (ρ : Rho), AK Tryz.prog (ctx GG 107 w F ρ []) 211 [.code (c1 (c1 (c2 (c1 (c1 (c2 (c1 (c2 (c2 b211))))))))), .inLoop (c1 (c1 (c2 (c1 (c1 (c2 (c1 (c2 (c2 b211))))))))), .inBlock 0, .code (c2 (c1 (c2 (c1 (c2 (c2 b211)))))), .code (c2 (c2 (c2 b211)))] [(0, .str a0), (6, .int .i64 a1)] [] (fun z _ => z = .tup [.sl Ty.u8 r.1, .int .i64 r.2.1, .int .i64 r.2.2.1, .bool r.2.2.2])
theorem w211 : ∀ (l : L211) (r : (List UInt8) × Int × Int × Bool), f211 l = some r → M211 l r := f211.partial_correctness M211 (by
 intro f ih l r h
 cases l with
 | e211 a0 =>
  intro w F ρ
  dsimp only at h
  refine ak_seq ?_
  refine ak_regionS (.cons rfl (ok_assign (dlt rfl rfl) rfl rfl) (.cons rfl (ok_assign (dlt rfl rfl) rfl rfl) (.cons rfl (ok_assign (dlt rfl rfl) rfl rfl) (.cons rfl (ok_assign (dlt rfl rfl) rfl rfl) (.nil ?_)))))
  refine ak_seq ?_
  refine ak_seq ?_
  obtain ⟨v1, hv1, h⟩ := bind_of h
  refine ak_regionS (.cons rfl (ok_move (dlt rfl rfl) rfl rfl) (.cons rfl (ok_byte (s := a0) (c := v1) (dlt rfl rfl) rfl Tryz.underlying9 rfl rfl (idx_0 hv1) (idx_1 hv1)) (.cons rfl (ok_lss (dlt rfl rfl) rfl rfl rfl) (.nil ?_))))
  refine ak_cond rfl (fun ht => ?_) (fun ht => ?_)
  ·have h := cond_t ht h
   refine ak_seq ?_
   refine ak_regionS (.cons rfl (ok_assign (dlt rfl rfl) rfl rfl) (.cons rfl (ok_assign (dlt rfl rfl) rfl rfl) (.cons rfl (ok_assign (dlt rfl rfl) rfl rfl) (.cons rfl (ok_assign (dlt rfl rfl) rfl rfl) (.nil ?_)))))
   obtain rfl := Option.some.inj h
   refine ak_conv (Γ' := [(2, .sl Ty.u8 ([] : List UInt8)), (3, .int .i64 (0 : Int)), (4, .int .i64 (7 : Int)), (5, .bool false)]) (σ' := []) (.cons rfl (sub_nils Ty.u8) (.cons rfl (.refl _) (.cons rfl (.refl _) (.cons rfl (.refl _) (.nil _))))) (.nil _) ?_
   exact ak_ret (fn := Tryz.f211) Tryz.func211 rfl trivial rfl
  ·have h := cond_f ht h
   refine ak_skip ?_
   refine ak_seq ?_
   refine ak_seq ?_
   obtain ⟨v2, hv2, h⟩ := bind_of h
   refine ak_regionS (.cons rfl (ok_move (dlt rfl rfl) rfl rfl) (.cons rfl (ok_byte (s := a0) (c := v2) (dlt rfl rfl) rfl Tryz.underlying9 rfl rfl (idx_0 hv2) (idx_1 hv2)) (.cons rfl (ok_neq (dlt rfl rfl) rfl rfl rfl) (.nil ?_))))
   refine ak_cond rfl (fun ht => ?_) (fun ht => ?_)
   ·have h := cond_t ht h
    refine ak_seq ?_
    refine ak_seq ?_
    refine ak_regionS (.cons rfl (ok_assign (dlt rfl rfl) rfl rfl) (.nil ?_))
    refine ak_block ?_
    refine ak_loop ?_
    exact ak_conv (.cons rfl (.refl _) (.cons rfl (.refl _) (.nil _))) (.nil _) (ih _ _ h w F ρ)
   ·have h := cond_f ht h
    refine ak_skip ?_
    refine ak_seq ?_
    refine ak_seq ?_
    refine ak_regionS (.cons rfl (ok_move (dlt rfl rfl) rfl rfl) (.cons rfl (ok_lenT (s := a0) (dlt rfl rfl) rfl Tryz.underlying9 rfl) (.cons rfl (ok_eql (dlt rfl rfl) rfl rfl rfl) (.nil ?_))))
    refine ak_cond rfl (fun ht => ?_) (fun ht => ?_)
    ·have h := cond_t ht h
     refine ak_seq ?_
     refine ak_regionS (.cons rfl (ok_assign (dlt rfl rfl) rfl rfl) (.cons rfl (ok_assign (dlt rfl rfl) rfl rfl) (.cons rfl (ok_assign (dlt rfl rfl) rfl rfl) (.cons rfl (ok_assign (dlt rfl rfl) rfl rfl) (.nil ?_)))))
     obtain rfl := Option.some.inj h
     refine ak_conv (Γ' := [(2, .sl Ty.u8 ([] : List UInt8)), (3, .int .i64 (1 : Int)), (4, .int .i64 (0 : Int)), (5, .bool false)]) (σ' := []) (.cons rfl (sub_nils Ty.u8) (.cons rfl (.refl _) (.cons rfl (.refl _) (.cons rfl (.refl _) (.nil _))))) (.nil _) ?_
     exact ak_ret (fn := Tryz.f211) Tryz.func211 rfl trivial rfl
    ·have h := cond_f ht h
     refine ak_skip ?_
     refine ak_seq ?_
     refine ak_seq ?_
     obtain ⟨v3, hv3, h⟩ := bind_of h
     refine ak_regionS (.cons rfl (ok_move (dlt rfl rfl) rfl rfl) (.cons rfl (ok_byte (s := a0) (c := v3) (dlt rfl rfl) rfl Tryz.underlying9 rfl rfl (idx_0 hv3) (idx_1 hv3)) (.cons rfl (ok_neq (dlt rfl rfl) rfl rfl rfl) (.nil ?_))))
     refine ak_cond rfl (fun ht => ?_) (fun ht => ?_)
     ·have h := cond_t ht h
      refine ak_seq ?_
      obtain ⟨v4, hv4, h⟩ := bind_of h
      obtain ⟨v5, hv5, h⟩ := bind_of h
      refine ak_regionS (.cons rfl (ok_move (dlt rfl rfl) rfl rfl) (.cons rfl (ok_byte (s := a0) (c := v4) (dlt rfl rfl) rfl Tryz.underlying9 rfl rfl (idx_0 hv4) (idx_1 hv4)) (.cons rfl (ok_call (xs := [.int .u8 (v4.toNat : Int)]) (caps := []) (dlt rfl rfl) rfl rfl Tryz.func189 rfl rfl rfl (d189 hv5) rfl) (.cons rfl (ok_assign (dlt rfl rfl) rfl rfl) (.nil ?_)))))
      refine ak_seq ?_
      refine ak_seq ?_
      refine ak_regionS (.cons rfl (ok_move (dlt rfl rfl) rfl rfl) (.cons rfl (ok_eql (dlt rfl rfl) rfl rfl rfl) (.nil ?_)))
      refine ak_cond rfl (fun ht => ?_) (fun ht => ?_)
      ·have h := cond_t ht h
       refine ak_seq ?_
       refine ak_regionS (.cons rfl (ok_assign (dlt rfl rfl) rfl rfl) (.cons rfl (ok_assign (dlt rfl rfl) rfl rfl) (.cons rfl (ok_assign (dlt rfl rfl) rfl rfl) (.cons rfl (ok_assign (dlt rfl rfl) rfl rfl) (.nil ?_)))))
       obtain rfl := Option.some.inj h
       refine ak_conv (Γ' := [(2, .sl Ty.u8 ([] : List UInt8)), (3, .int .i64 (1 : Int)), (4, .int .i64 (3 : Int)), (5, .bool false)]) (σ' := []) (.cons rfl (sub_nils Ty.u8) (.cons rfl (.refl _) (.cons rfl (.refl _) (.cons rfl (.refl _) (.nil _))))) (.nil _) ?_
       exact ak_ret (fn := Tryz.f211) Tryz.func211 rfl trivial rfl
      ·have h := cond_f ht h
       refine ak_skip ?_
       refine ak_seq ?_
       obtain ⟨v6, hv6, h⟩ := bind_of h
       refine ak_regionS (.cons rfl (ok_move (dlt rfl rfl) rfl rfl) (.cons rfl (ok_litS (τ := Ty.u8) (dlt rfl rfl) ([(toU8 v5)] : List UInt8) rfl Tryz.underlying22 ty5 rfl rfl rfl rfl rfl (by decide) (by decide) rfl (.cons (sub_int (need_of hv6)) (.nil))) (.cons rfl (ok_assign (dlt rfl rfl) rfl rfl) (.cons rfl (ok_assign (dlt rfl rfl) rfl rfl) (.cons rfl (ok_assign (dlt rfl rfl) rfl rfl) (.cons rfl (ok_assign (dlt rfl rfl) rfl rfl) (.nil ?_)))))))
       obtain rfl := Option.some.inj h
       refine ak_conv (Γ' := [(2, .sl Ty.u8 ([(toU8 v5)] : List UInt8)), (3, .int .i64 (2 : Int)), (4, .int .i64 (0 : Int)), (5, .bool true)]) (σ' := []) (.cons rfl (sub_sf Ty.u8 _) (.cons rfl (.refl _) (.cons rfl (.refl _) (.cons rfl (.refl _) (.nil _))))) (.nil _) ?_
       exact ak_ret (fn := Tryz.f211) Tryz.func211 rfl trivial rfl
     ·have h := cond_f ht h
      refine ak_skip ?_
      refine ak_seq ?_
      obtain ⟨v7, hv7, h⟩ := bind_of h
      refine ak_regionS (.cons rfl (ok_move (dlt rfl rfl) rfl rfl) (.cons rfl (ok_call (xs := [.str a0, .bool false]) (caps := []) (dlt rfl rfl) rfl rfl Tryz.func236 rfl rfl rfl (d236 hv7) rfl) (.cons rfl (ok_move (dlt rfl rfl) rfl rfl) (.cons rfl (ok_extract (dlt rfl rfl) rfl rfl rfl) (.cons rfl (ok_extract (dlt rfl rfl) rfl rfl rfl) (.cons rfl (ok_extract (dlt rfl rfl) rfl rfl rfl) (.cons rfl (ok_assign (dlt rfl rfl) rfl rfl) (.cons rfl (ok_assign (dlt rfl rfl) rfl rfl) (.cons rfl (ok_assign (dlt rfl rfl) rfl rfl) (.nil ?_))))))))))
      refine ak_seq ?_
      refine ak_seq ?_
      refine ak_regionS (.cons rfl (ok_move (dlt rfl rfl) rfl rfl) (.cons rfl (ok_neq (dlt rfl rfl) rfl rfl rfl) (.cons rfl (ok_move (dlt rfl rfl) rfl rfl) (.consG (pre := []) (dlt rfl rfl) rfl rfl rfl rfl .nil (fun he => ok_move (dlt rfl rfl) rfl rfl) (.consG (pre := [(70, .int .i64 v7.1)]) (dlt rfl rfl) rfl rfl rfl rfl (.cons rfl (fun he => he) .nil) (fun he => ok_lss (dlt rfl rfl) rfl rfl rfl) (.cons rfl (ok_orW (dlt rfl rfl) rfl rfl rfl (fun h => (bnot_t h))) (.nil ?_)))))))
      refine ak_cond rfl (fun ht => ?_) (fun ht => ?_)
      ·have h := cond_t ht h
       refine ak_seq ?_
       refine ak_regionS (.cons rfl (ok_move (dlt rfl rfl) rfl rfl) (.cons rfl (ok_move (dlt rfl rfl) rfl rfl) (.cons rfl (ok_assign (dlt rfl rfl) rfl rfl) (.cons rfl (ok_assign (dlt rfl rfl) rfl rfl) (.cons rfl (ok_assign (dlt rfl rfl) rfl rfl) (.cons rfl (ok_assign (dlt rfl rfl) rfl rfl) (.nil ?_)))))))
       obtain rfl := Option.some.inj h
       refine ak_conv (Γ' := [(2, .sl Ty.u8 ([] : List UInt8)), (3, .int .i64 v7.1), (4, .int .i64 v7.2.2), (5, .bool false)]) (σ' := []) (.cons rfl (sub_nils Ty.u8) (.cons rfl (.refl _) (.cons rfl (.refl _) (.cons rfl (.refl _) (.nil _))))) (.nil _) ?_
       exact ak_ret (fn := Tryz.f211) Tryz.func211 rfl trivial rfl
      ·have h := cond_f ht h
       refine ak_skip ?_
       refine ak_seq ?_
       refine ak_seq ?_
       refine ak_regionS (.cons rfl (ok_move (dlt rfl rfl) rfl rfl) (.cons rfl (ok_lss (dlt rfl rfl) rfl rfl rfl) (.cons rfl (ok_move (dlt rfl rfl) rfl rfl) (.consG (pre := []) (dlt rfl rfl) rfl rfl rfl rfl .nil (fun he => ok_move (dlt rfl rfl) rfl rfl) (.consG (pre := [(78, .int .i64 v7.2.1)]) (dlt rfl rfl) rfl rfl rfl rfl (.cons rfl (fun he => he) .nil) (fun he => ok_gtr (dlt rfl rfl) rfl rfl rfl) (.cons rfl (ok_orW (dlt rfl rfl) rfl rfl rfl (fun h => (bnot_t h))) (.nil ?_)))))))
       refine ak_cond rfl (fun ht => ?_) (fun ht => ?_)
       ·have h := cond_t ht h
        refine ak_seq ?_
        obtain ⟨v8, hv8, h⟩ := bind_of h
        refine ak_regionS (.cons rfl (ok_move (dlt rfl rfl) rfl rfl) (.cons rfl (ok_call (xs := [.int .i64 v7.2.1]) (caps := []) (dlt rfl rfl) rfl rfl Tryz.func237 rfl rfl rfl (d237 hv8) rfl) (.cons rfl (ok_assign (dlt rfl rfl) rfl rfl) (.cons rfl (ok_assign (dlt rfl rfl) rfl rfl) (.cons rfl (ok_assign (dlt rfl rfl) rfl rfl) (.cons rfl (ok_assign (dlt rfl rfl) rfl rfl) (.nil ?_)))))))
        obtain rfl := Option.some.inj h
        refine ak_conv (Γ' := [(2, .sl Ty.u8 v8), (3, .int .i64 (6 : Int)), (4, .int .i64 (0 : Int)), (5, .bool true)]) (σ' := []) (.cons rfl (.refl _) (.cons rfl (.refl _) (.cons rfl (.refl _) (.cons rfl (.refl _) (.nil _))))) (.nil _) ?_
        exact ak_ret (fn := Tryz.f211) Tryz.func211 rfl trivial rfl
       ·have h := cond_f ht h
        refine ak_skip ?_
        refine ak_seq ?_
        obtain ⟨v9, hv9, h⟩ := bind_of h
        obtain ⟨v10, hv10, h⟩ := bind_of h
        refine ak_regionS (.cons rfl (ok_move (dlt rfl rfl) rfl rfl) (.cons rfl (ok_cutL (dlt rfl rfl) rfl Tryz.underlying9 rfl rfl (need_of hv9).1 (need_of hv9).2) (.cons rfl (ok_call (xs := [.str (a0.drop (6 : Int).toNat), .bool true]) (caps := []) (dlt rfl rfl) rfl rfl Tryz.func236 rfl rfl rfl (d236 hv10) rfl) (.cons rfl (ok_move (dlt rfl rfl) rfl rfl) (.cons rfl (ok_extract (dlt rfl rfl) rfl rfl rfl) (.cons rfl (ok_extract (dlt rfl rfl) rfl rfl rfl) (.cons rfl (ok_extract (dlt rfl rfl) rfl rfl rfl) (.cons rfl (ok_assign (dlt rfl rfl) rfl rfl) (.cons rfl (ok_assign (dlt rfl rfl) rfl rfl) (.cons rfl (ok_assign (dlt rfl rfl) rfl rfl) (.nil ?_)))))))))))
        refine ak_seq ?_
        refine ak_seq ?_
        refine ak_regionS (.cons rfl (ok_move (dlt rfl rfl) rfl rfl) (.cons rfl (ok_neq (dlt rfl rfl) rfl rfl rfl) (.cons rfl (ok_move (dlt rfl rfl) rfl rfl) (.consG (pre := []) (dlt rfl rfl) rfl rfl rfl rfl .nil (fun he => ok_move (dlt rfl rfl) rfl rfl) (.consG (pre := [(93, .int .i64 v10.1)]) (dlt rfl rfl) rfl rfl rfl rfl (.cons rfl (fun he => he) .nil) (fun he => ok_lss (dlt rfl rfl) rfl rfl rfl) (.cons rfl (ok_orW (dlt rfl rfl) rfl rfl rfl (fun h => (bnot_t h))) (.nil ?_)))))))
        refine ak_cond rfl (fun ht => ?_) (fun ht => ?_)
        ·have h := cond_t ht h
         refine ak_seq ?_
         refine ak_regionS (.cons rfl (ok_move (dlt rfl rfl) rfl rfl) (.cons rfl (ok_add (dlt rfl rfl) rfl rfl rfl) (.cons rfl (ok_move (dlt rfl rfl) rfl rfl) (.cons rfl (ok_assign (dlt rfl rfl) rfl rfl) (.cons rfl (ok_assign (dlt rfl rfl) rfl rfl) (.cons rfl (ok_assign (dlt rfl rfl) rfl rfl) (.cons rfl (ok_assign (dlt rfl rfl) rfl rfl) (.nil ?_))))))))
         obtain rfl := Option.some.inj h
         refine ak_conv (Γ' := [(2, .sl Ty.u8 ([] : List UInt8)), (3, .int .i64 (IntKind.wrap .i64 ((6 : Int) + v10.1))), (4, .int .i64 v10.2.2), (5, .bool false)]) (σ' := []) (.cons rfl (sub_nils Ty.u8) (.cons rfl (.refl _) (.cons rfl (.refl _) (.cons rfl (.refl _) (.nil _))))) (.nil _) ?_
         exact ak_ret (fn := Tryz.f211) Tryz.func211 rfl trivial rfl
        ·have h := cond_f ht h
         refine ak_skip ?_
         refine ak_seq ?_
         obtain ⟨v11, hv11, h⟩ := bind_of h
         refine ak_regionS (.cons rfl (ok_move (dlt rfl rfl) rfl rfl) (.cons rfl (ok_sub (dlt rfl rfl) rfl rfl rfl) (.cons rfl (ok_mul (dlt rfl rfl) rfl rfl rfl) (.cons rfl (ok_add (dlt rfl rfl) rfl rfl rfl) (.cons rfl (ok_move (dlt rfl rfl) rfl rfl) (.cons rfl (ok_add (dlt rfl rfl) rfl rfl rfl) (.cons rfl (ok_sub (dlt rfl rfl) rfl rfl rfl) (.cons rfl (ok_call (xs := [.int .i64 (IntKind.wrap .i64 ((IntKind.wrap .i64 ((IntKind.wrap .i64 ((65536 : Int) + (IntKind.wrap .i64 ((IntKind.wrap .i64 (v7.2.1 - (55296 : Int))) * (1024 : Int))))) + v10.2.1)) - (56320 : Int)))]) (caps := []) (dlt rfl rfl) rfl rfl Tryz.func237 rfl rfl rfl (d237 hv11) rfl) (.cons rfl (ok_assign (dlt rfl rfl) rfl rfl) (.cons rfl (ok_assign (dlt rfl rfl) rfl rfl) (.cons rfl (ok_assign (dlt rfl rfl) rfl rfl) (.cons rfl (ok_assign (dlt rfl rfl) rfl rfl) (.nil ?_)))))))))))))
         obtain rfl := Option.some.inj h
         refine ak_conv (Γ' := [(2, .sl Ty.u8 v11), (3, .int .i64 (12 : Int)), (4, .int .i64 (0 : Int)), (5, .bool true)]) (σ' := []) (.cons rfl (.refl _) (.cons rfl (.refl _) (.cons rfl (.refl _) (.cons rfl (.refl _) (.nil _))))) (.nil _) ?_
         exact ak_ret (fn := Tryz.f211) Tryz.func211 rfl trivial rfl
 | l211_0 a0 a1 =>
  intro w F ρ
  dsimp only at h
  refine ak_seq ?_
  refine ak_seq ?_
  refine ak_regionS (.cons rfl (ok_move (dlt rfl rfl) rfl rfl) (.cons rfl (ok_move (dlt rfl rfl) rfl rfl) (.cons rfl (ok_lenT (s := a0) (dlt rfl rfl) rfl Tryz.underlying9 rfl) (.cons rfl (ok_leq (dlt rfl rfl) rfl rfl rfl) (.nil ?_)))))
  refine ak_cond rfl (fun ht => ?_) (fun ht => ?_)
  ·have h := cond_t ht h
   refine ak_skip ?_
   refine ak_seq ?_
   refine ak_block ?_
   refine ak_seq ?_
   obtain ⟨v12, hv12, h⟩ := bind_of h
   obtain ⟨v13, hv13, h⟩ := bind_of h
   refine ak_regionS (.cons rfl (ok_move (dlt rfl rfl) rfl rfl) (.cons rfl (ok_move (dlt rfl rfl) rfl rfl) (.cons rfl (ok_cutH (dlt rfl rfl) rfl Tryz.underlying9 rfl rfl (need_of hv12).1 (need_of hv12).2) (.cons rfl (ok_call (xs := [.str (a0.take a1.toNat)]) (caps := []) (dlt rfl rfl) rfl rfl Tryz.func176 rfl rfl rfl (d176 hv13) rfl) (.cons rfl (ok_move (dlt rfl rfl) rfl rfl) (.cons rfl (ok_extract (dlt rfl rfl) rfl rfl rfl) (.cons rfl (ok_extract (dlt rfl rfl) rfl rfl rfl) (.cons rfl (ok_extract (dlt rfl rfl) rfl rfl rfl) (.cons rfl (ok_assign (dlt rfl rfl) rfl rfl) (.cons rfl (ok_assign (dlt rfl rfl) rfl rfl) (.cons rfl (ok_assign (dlt rfl rfl) rfl rfl) (.nil ?_))))))))))))
   refine ak_seq ?_
   refine ak_seq ?_
   refine ak_regionS (.cons rfl (ok_move (dlt rfl rfl) rfl rfl) (.cons rfl (ok_not (dlt rfl rfl) rfl rfl) (.nil ?_)))
   refine ak_cond rfl (fun ht => ?_) (fun ht => ?_)
   ·have h := cond_t ht h
    refine ak_seq ?_
    refine ak_regionS (.cons rfl (ok_move (dlt rfl rfl) rfl rfl) (.cons rfl (ok_sub (dlt rfl rfl) rfl rfl rfl) (.cons rfl (ok_assign (dlt rfl rfl) rfl rfl) (.cons rfl (ok_assign (dlt rfl rfl) rfl rfl) (.cons rfl (ok_assign (dlt rfl rfl) rfl rfl) (.cons rfl (ok_assign (dlt rfl rfl) rfl rfl) (.nil ?_)))))))
    obtain rfl := Option.some.inj h
    refine ak_conv (Γ' := [(2, .sl Ty.u8 ([] : List UInt8)), (3, .int .i64 (IntKind.wrap .i64 (a1 - (1 : Int)))), (4, .int .i64 (2 : Int)), (5, .bool false)]) (σ' := []) (.cons rfl (sub_nils Ty.u8) (.cons rfl (.refl _) (.cons rfl (.refl _) (.cons rfl (.refl _) (.nil _))))) (.nil _) ?_
    exact ak_ret (fn := Tryz.f211) Tryz.func211 rfl trivial rfl
   ·have h := cond_f ht h
    refine ak_skip ?_
    refine ak_seq ?_
    refine ak_regionS (.cons rfl (ok_move (dlt rfl rfl) rfl rfl) (.nil ?_))
    refine ak_cond rfl (fun ht => ?_) (fun ht => ?_)
    ·have h := cond_t ht h
     refine ak_seq ?_
     obtain ⟨v14, hv14, h⟩ := bind_of h
     refine ak_regionS (.cons rfl (ok_move (dlt rfl rfl) rfl rfl) (.cons rfl (ok_move (dlt rfl rfl) rfl rfl) (.cons rfl (ok_cutH (dlt rfl rfl) rfl Tryz.underlying9 rfl rfl (need_of hv14).1 (need_of hv14).2) (.cons rfl (ok_strB (τ := Ty.u8) (xs := a0.take a1.toNat) (dlt rfl rfl) (fun x => x) rfl Tryz.underlying9 Tryz.underlying22 Tryz.underlying5 (fun _ => rfl) rfl (map_idf _) rfl) (.cons rfl (ok_move (dlt rfl rfl) rfl rfl) (.cons rfl (ok_assign (dlt rfl rfl) rfl rfl) (.cons rfl (ok_assign (dlt rfl rfl) rfl rfl) (.cons rfl (ok_assign (dlt rfl rfl) rfl rfl) (.cons rfl (ok_assign (dlt rfl rfl) rfl rfl) (.nil ?_))))))))))
     obtain rfl := Option.some.inj h
     refine ak_conv (Γ' := [(2, .sl Ty.u8 (a0.take a1.toNat)), (3, .int .i64 a1), (4, .int .i64 (0 : Int)), (5, .bool true)]) (σ' := []) (.cons rfl (.refl _) (.cons rfl (.refl _) (.cons rfl (.refl _) (.cons rfl (.refl _) (.nil _))))) (.nil _) ?_
     exact ak_ret (fn := Tryz.f211) Tryz.func211 rfl trivial rfl
    ·have h := cond_f ht h
     refine ak_skip ?_
     refine ak_inBlock ?_
     refine ak_regionS (.cons rfl (ok_move (dlt rfl rfl) rfl rfl) (.cons rfl (ok_add (dlt rfl rfl) rfl rfl rfl) (.cons rfl (ok_assign (dlt rfl rfl) rfl rfl) (.nil ?_))))
     refine ak_inLoop ?_
     exact ak_conv (.cons rfl (.refl _) (.cons rfl (.refl _) (.nil _))) (.nil _) (ih _ _ h w F ρ)
  ·have h := cond_f ht h
   refine ak_exit rfl ?_
   refine ak_seq ?_
   refine ak_regionS (.cons rfl (ok_move (dlt rfl rfl) rfl rfl) (.cons rfl (ok_lenT (s := a0) (dlt rfl rfl) rfl Tryz.underlying9 rfl) (.cons rfl (ok_assign (dlt rfl rfl) rfl rfl) (.cons rfl (ok_assign (dlt rfl rfl) rfl rfl) (.cons rfl (ok_assign (dlt rfl rfl) rfl rfl) (.cons rfl (ok_assign (dlt rfl rfl) rfl rfl) (.nil ?_)))))))
   obtain rfl := Option.some.inj h
   refine ak_conv (Γ' := [(2, .sl Ty.u8 ([] : List UInt8)), (3, .int .i64 (a0.length : Int)), (4, .int .i64 (0 : Int)), (5, .bool false)]) (σ' := []) (.cons rfl (sub_nils Ty.u8) (.cons rfl (.refl _) (.cons rfl (.refl _) (.cons rfl (.refl _) (.nil _))))) (.nil _) ?_
   exact ak_ret (fn := Tryz.f211) Tryz.func211 rfl trivial rfl)
theorem d211 {a0 : List UInt8} {r : (List UInt8) × Int × Int × Bool} (h : f211 (.e211 a0) = some r) : Does Tryz.prog GG 211 [.str a0] [] (fun z _ => z = .tup [.sl Ty.u8 r.1, .int .i64 r.2.1, .int .i64 r.2.2.1, .bool r.2.2.2]) := fn_of (fn := Tryz.f211) Tryz.func211 rfl Tryz.ntmps211 rfl (w211 _ _ h)
end Go.Proofs.YtonlbdholdaifaaGreatDoor
end
section
set_option linter.unusedVariables false
set_option linter.unusedSimpArgs false
set_option maxRecDepth 10000
namespace Go.Proofs.YtonlbdholdaifaaGreatDoor
open Go Go.Rf Go.Proofs
/-- riffle/riffleref06.Scan -/
noncomputable abbrev b182 : Code := codeOf Tryz.f182
inductive L182 where
 | e182 (a0 : List UInt8)
 | l182_0 (a0 : List UInt8) (a1 : Int) (a2 : List UInt8)
noncomputable def f182 : L182 → Option ((List UInt8) × Int × Int)
 | .e182 a0 =>
  f182 (.l182_0 a0 (0 : Int) ([] : List UInt8))
 | .l182_0 a0 a1 a2 =>
  if (decide (a1 < (a0.length : Int))) = true then
   idx a0 a1 >>= fun v1 =>
   if ((v1.toNat : Int) == (34 : Int)) = true then
    some (a2, IntKind.wrap .i64 (a1 + (1 : Int)), 1)
   else
    need (0 ≤ a1 ∧ a1 ≤ (a0.length : Int)) >>= fun v2 =>
    f211 (.e211 (a0.drop a1.toNat)) >>= fun v3 =>
    if ((v3.2.2.1 != (0 : Int)) || (!v3.2.2.2)) = true then
     some (a2, IntKind.wrap .i64 (a1 + v3.2.1), v3.2.2.1)
    else
     room a2.length v3.1.length 1 >>= fun v4 =>
     f182 (.l182_0 a0 (IntKind.wrap .i64 (a1 + v3.2.1)) (a2 ++ v3.1))
  else
   some (a2, a1, 0)
 partial_fixpoint
def M182 : L182 → ((List UInt8) × Int × Int) → Prop
 | .e182 a0, r => ∀ (w : World) (F : Nat → Prop) (ρ : Rho), AK Tryz.prog (ctx GG 54 w F ρ []) 182 [.code b182] (argE 0 [.str a0]) [] (fun z _ => z = .tup [.str r.1, .int .i64 r.2.1, .int .i64 r.2.2])
 | .l182_0 a0 a1 a2, r => ∀ (w : World) (F : Nat → Prop) (ρ : Rho), AK Tryz.prog (ctx GG 54 w F ρ []) 182 [.code (c1 (c1 (c1 (c2 (c2 (c2 b182)))))), .inLoop (c1 (c1 (c1 (c2 (c2 (c2 b182)))))), .inBlock 0, .code (c2 (c2 (c2 (c2 b182))))] [(0, .str a0), (5, .mf 1 2011), (6, .int .i64 a1)] [(2011, .arr 5 Ty.u8 a2)] (fun z _ => z = .tup [.str r.1, .int .i64 r.2.1, .int .i64 r.2.2])
theorem w182 : ∀ (l : L182) (r : (List UInt8) × Int × Int), f182 l = some r → M182 l r := f182.partial_correctness M182 (by
 intro f ih l r h
 cases l with
 | e182 a0 =>
  intro w F ρ
  dsimp only at h
  refine ak_seq ?_
  refine ak_regionS (.cons rfl (ok_assign (dlt rfl rfl) rfl rfl) (.cons rfl (ok_assign (dlt rfl rfl) rfl rfl) (.cons rfl (ok_assign (dlt rfl rfl) rfl rfl) (.nil ?_))))
  refine ak_seq ?_
  refine ak_regionS (.cons rfl (ok_litM0 (d := 2011) (dlt rfl rfl) Ty.u8 rfl rfl Tryz.underlying22 ty5 rfl rfl) (.cons rfl (ok_assign (dlt rfl rfl) rfl rfl) (.nil ?_)))
  refine ak_seq ?_
  refine ak_regionS (.cons rfl (ok_assign (dlt rfl rfl) rfl rfl) (.nil ?_))
  refine ak_seq ?_
  refine ak_block ?_
  refine ak_loop ?_
  exact ak_conv (.cons rfl (.refl _) (.cons rfl (.refl _) (.cons rfl (.refl _) (.nil _)))) (.cons rfl (.refl _) (.nil _)) (ih _ _ h w F ρ)
 | l182_0 a0 a1 a2 =>
  intro w F ρ
  dsimp only at h
  refine ak_seq ?_
  refine ak_seq ?_
  refine ak_regionS (.cons rfl (ok_move (dlt rfl rfl) rfl rfl) (.cons rfl (ok_move (dlt rfl rfl) rfl rfl) (.cons rfl (ok_lenT (s := a0) (dlt rfl rfl) rfl Tryz.underlying9 rfl) (.cons rfl (ok_lss (dlt rfl rfl) rfl rfl rfl) (.nil ?_)))))
  refine ak_cond rfl (fun ht => ?_) (fun ht => ?_)
  ·have h := cond_t ht h
   refine ak_skip ?_
   refine ak_block ?_
   refine ak_seq ?_
   refine ak_seq ?_
   obtain ⟨v1, hv1, h⟩ := bind_of h
   refine ak_regionS (.cons rfl (ok_move (dlt rfl rfl) rfl rfl) (.cons rfl (ok_move (dlt rfl rfl) rfl rfl) (.cons rfl (ok_byte (s := a0) (c := v1) (dlt rfl rfl) rfl Tryz.underlying9 rfl rfl (idx_0 hv1) (idx_1 hv1)) (.cons rfl (ok_eql (dlt rfl rfl) rfl rfl rfl) (.nil ?_)))))
   refine ak_cond rfl (fun ht => ?_) (fun ht => ?_)
   ·have h := cond_t ht h
    refine ak_seq ?_
    refine ak_regionS (.cons rfl (ok_move (dlt rfl rfl) rfl rfl) (.cons rfl (ok_bytesA (τ := Ty.u8) (xs := a2) (dlt rfl rfl) (fun x => x) rfl Tryz.underlying22 Tryz.underlying5 Tryz.underlying9 (fun _ => rfl) rfl (map_idf _) rfl rfl) (.cons rfl (ok_move (dlt rfl rfl) rfl rfl) (.cons rfl (ok_add (dlt rfl rfl) rfl rfl rfl) (.cons rfl (ok_assign (dlt rfl rfl) rfl rfl) (.cons rfl (ok_assign (dlt rfl rfl) rfl rfl) (.cons rfl (ok_assign (dlt rfl rfl) rfl rfl) (.nil ?_))))))))
    obtain rfl := Option.some.inj h
    refine ak_conv (Γ' := [(2, .str a2), (3, .int .i64 (IntKind.wrap .i64 (a1 + (1 : Int)))), (4, .int .i64 (1 : Int))]) (σ' := []) (.cons rfl (.refl _) (.cons rfl (.refl _) (.cons rfl (.refl _) (.nil _)))) (.nil _) ?_
    exact ak_ret (fn := Tryz.f182) Tryz.func182 rfl trivial rfl
   ·have h := cond_f ht h
    refine ak_skip ?_
    refine ak_seq ?_
    obtain ⟨v2, hv2, h⟩ := bind_of h
    obtain ⟨v3, hv3, h⟩ := bind_of h
    refine ak_regionS (.cons rfl (ok_move (dlt rfl rfl) rfl rfl) (.cons rfl (ok_move (dlt rfl rfl) rfl rfl) (.cons rfl (ok_cutL (dlt rfl rfl) rfl Tryz.underlying9 rfl rfl (need_of hv2).1 (need_of hv2).2) (.cons rfl (ok_call (xs := [.str (a0.drop a1.toNat)]) (caps := []) (dlt rfl rfl) rfl rfl Tryz.func211 rfl rfl rfl (d211 hv3) rfl) (.cons rfl (ok_move (dlt rfl rfl) rfl rfl) (.cons rfl (ok_extract (dlt rfl rfl) rfl rfl rfl) (.cons rfl (ok_extract (dlt rfl rfl) rfl rfl rfl) (.cons rfl (ok_extract (dlt rfl rfl) rfl rfl rfl) (.cons rfl (ok_extract (dlt rfl rfl) rfl rfl rfl) (.cons rfl (ok_assign (dlt rfl rfl) rfl rfl) (.cons rfl (ok_assign (dlt rfl rfl) rfl rfl) (.cons rfl (ok_assign (dlt rfl rfl) rfl rfl) (.cons rfl (ok_assign (dlt rfl rfl) rfl rfl) (.nil ?_))))))))))))))
    refine ak_seq ?_
    refine ak_seq ?_
    refine ak_regionS (.cons rfl (ok_move (dlt rfl rfl) rfl rfl) (.cons rfl (ok_neq (dlt rfl rfl) rfl rfl rfl) (.cons rfl (ok_move (dlt rfl rfl) rfl rfl) (.consG (pre := []) (dlt rfl rfl) rfl rfl rfl rfl .nil (fun he => ok_move (dlt rfl rfl) rfl rfl) (.consG (pre := [(36, .bool v3.2.2.2)]) (dlt rfl rfl) rfl rfl rfl rfl (.cons rfl (fun he => he) .nil) (fun he => ok_not (dlt rfl rfl) rfl rfl) (.cons rfl (ok_orW (dlt rfl rfl) rfl rfl rfl (fun h => (bnot_t h))) (.nil ?_)))))))
    refine ak_cond rfl (fun ht => ?_) (fun ht => ?_)
    ·have h := cond_t ht h
     refine ak_seq ?_
     refine ak_regionS (.cons rfl (ok_move (dlt rfl rfl) rfl rfl) (.cons rfl (ok_bytesA (τ := Ty.u8) (xs := a2) (dlt rfl rfl) (fun x => x) rfl Tryz.underlying22 Tryz.underlying5 Tryz.underlying9 (fun _ => rfl) rfl (map_idf _) rfl rfl) (.cons rfl (ok_move (dlt rfl rfl) rfl rfl) (.cons rfl (ok_move (dlt rfl rfl) rfl rfl) (.cons rfl (ok_add (dlt rfl rfl) rfl rfl rfl) (.cons rfl (ok_move (dlt rfl rfl) rfl rfl) (.cons rfl (ok_assign (dlt rfl rfl) rfl rfl) (.cons rfl (ok_assign (dlt rfl rfl) rfl rfl) (.cons rfl (ok_assign (dlt rfl rfl) rfl rfl) (.nil ?_))))))))))
     obtain rfl := Option.some.inj h
     refine ak_conv (Γ' := [(2, .str a2), (3, .int .i64 (IntKind.wrap .i64 (a1 + v3.2.1))), (4, .int .i64 v3.2.2.1)]) (σ' := []) (.cons rfl (.refl _) (.cons rfl (.refl _) (.cons rfl (.refl _) (.nil _)))) (.nil _) ?_
     exact ak_ret (fn := Tryz.f182) Tryz.func182 rfl trivial rfl
    ·have h := cond_f ht h
     refine ak_skip ?_
     refine ak_seq ?_
     obtain ⟨v4, hv4, h⟩ := bind_of h
     refine ak_regionS (.cons rfl (ok_move (dlt rfl rfl) rfl rfl) (.cons rfl (ok_move (dlt rfl rfl) rfl rfl) (.cons rfl (ok_appendS (τ := Ty.u8) (xs := a2) (ys := v3.1) (dlt rfl rfl) rfl Tryz.underlying22 ty5 rfl rfl rfl rfl (room_1 hv4) (room_2 hv4)) (.cons rfl (ok_assign (dlt rfl rfl) rfl rfl) (.nil ?_)))))
     refine ak_regionS (.cons rfl (ok_move (dlt rfl rfl) rfl rfl) (.cons rfl (ok_move (dlt rfl rfl) rfl rfl) (.cons rfl (ok_add (dlt rfl rfl) rfl rfl rfl) (.cons rfl (ok_assign (dlt rfl rfl) rfl rfl) (.nil ?_)))))
     refine ak_inBlock ?_
     refine ak_inLoop ?_
     exact ak_conv (.cons rfl (.refl _) (.cons rfl (.refl _) (.cons rfl (.refl _) (.nil _)))) (.cons rfl (.refl _) (.nil _)) (ih _ _ h w F ρ)
  ·have h := cond_f ht h
   refine ak_exit rfl ?_
   refine ak_seq ?_
   refine ak_regionS (.cons rfl (ok_move (dlt rfl rfl) rfl rfl) (.cons rfl (ok_bytesA (τ := Ty.u8) (xs := a2) (dlt rfl rfl) (fun x => x) rfl Tryz.underlying22 Tryz.underlying5 Tryz.underlying9 (fun _ => rfl) rfl (map_idf _) rfl rfl) (.cons rfl (ok_move (dlt rfl rfl) rfl rfl) (.cons rfl (ok_assign (dlt rfl rfl) rfl rfl) (.cons rfl (ok_assign (dlt rfl rfl) rfl rfl) (.cons rfl (ok_assign (dlt rfl rfl) rfl rfl) (.nil ?_)))))))
   obtain rfl := Option.some.inj h
   refine ak_conv (Γ' := [(2, .str a2), (3, .int .i64 a1), (4, .int .i64 (0 : Int))]) (σ' := []) (.cons rfl (.refl _) (.cons rfl (.refl _) (.cons rfl (.refl _) (.nil _)))) (.nil _) ?_
   exact ak_ret (fn := Tryz.f182) Tryz.func182 rfl trivial rfl)
theorem d182 {a0 : List UInt8} {r : (List UInt8) × Int × Int} (h : f182 (.e182 a0) = some r) : Does Tryz.prog GG 182 [.str a0] [] (fun z _ => z = .tup [.str r.1, .int .i64 r.2.1, .int .i64 r.2.2]) := fn_of (fn := Tryz.f182) Tryz.func182 rfl Tryz.ntmps182 rfl (w182 _ _ h)
/-- riffle/riffleref10.broken -/
noncomputable abbrev b183 : Code := codeOf Tryz.f183
inductive L183 where
 | e183 (a0 : ApiValue) (a1 : Int) (a2 : Int)
noncomputable def f183 : L183 → Option Ref10Part
 | .e183 a0 a1 a2 =>
  some (⟨(⟨a0.kind, a0.frm, 0, a0.text, a0.items, a0.names⟩ : ApiValue), true, a2, a1⟩ : Ref10Part)
def M183 : L183 → Ref10Part → Prop
 | .e183 a0 a1 a2, r => ∀ (w : World) (F : Nat → Prop) (ρ : Rho), AK Tryz.prog (ctx GG 12 w F ρ []) 183 [.code b183] (argE 0 [.agg [.int .i64 a0.kind, .int .i64 a0.frm, .int .i64 a0.to, .str a0.text, .sl Ty.sApiValue a0.items, .sl Ty.str a0.names], .int .i64 a1, .int .i64 a2]) [] (fun z _ => z = .agg [.int .i64 r.value.kind, .int .i64 r.value.frm, .int .i64 r.value.to, .str r.value.text, .sl Ty.sApiValue r.value.items, .sl Ty.str r.value.names, .bool r.begun, .int .i64 r.pos, .int .i64 r.fault])
theorem w183 : ∀ (l : L183) (r : Ref10Part), f183 l = some r → M183 l r := (by
 intro l r h
 cases l with
 | e183 a0 a1 a2 =>
  intro w F ρ
  dsimp only [f183] at h
  refine ak_seq ?_
  refine ak_regionS (.cons rfl (ok_box (d := 3) (dlt rfl rfl) rfl rfl rfl rfl rfl) (.cons rfl (ok_alloc (d := 6) (dlt rfl rfl) rfl ty139 rfl rfl rfl) (.nil ?_)))
  refine ak_seq ?_
  refine ak_regionS (.cons rfl (ok_fieldV (dlt rfl rfl) rfl fo29_2 ty3 (by decide) rfl) (.cons rfl (ok_storeV rfl rfl ty3 rfl rfl rfl rfl (by decide) rfl rfl) (.nil ?_)))
  refine ak_seq ?_
  refine ak_regionS (.cons rfl (ok_loadVT (dlt rfl rfl) rfl ty29 rfl rfl (by decide) rfl) (.cons rfl (ok_move (dlt rfl rfl) rfl rfl) (.cons rfl (ok_move (dlt rfl rfl) rfl rfl) (.cons rfl (ok_build (dlt rfl rfl) rfl ty139 rfl pl139 rfl rfl rfl) (.cons rfl (ok_storeV rfl rfl ty139 rfl rfl rfl rfl (by decide) rfl rfl) (.nil ?_))))))
  obtain rfl := Option.some.inj h
  refine ak_conv (Γ' := [(6, .ref 6 0)]) (σ' := [(6, .cells 139 [.int .i64 (((⟨(⟨a0.kind, a0.frm, 0, a0.text, a0.items, a0.names⟩ : ApiValue), true, a2, a1⟩ : Ref10Part).value).kind), .int .i64 (((⟨(⟨a0.kind, a0.frm, 0, a0.text, a0.items, a0.names⟩ : ApiValue), true, a2, a1⟩ : Ref10Part).value).frm), .int .i64 (((⟨(⟨a0.kind, a0.frm, 0, a0.text, a0.items, a0.names⟩ : ApiValue), true, a2, a1⟩ : Ref10Part).value).to), .str (((⟨(⟨a0.kind, a0.frm, 0, a0.text, a0.items, a0.names⟩ : ApiValue), true, a2, a1⟩ : Ref10Part).value).text), .sl Ty.sApiValue (((⟨(⟨a0.kind, a0.frm, 0, a0.text, a0.items, a0.names⟩ : ApiValue), true, a2, a1⟩ : Ref10Part).value).items), .sl Ty.str (((⟨(⟨a0.kind, a0.frm, 0, a0.text, a0.items, a0.names⟩ : ApiValue), true, a2, a1⟩ : Ref10Part).value).names), .bool ((⟨(⟨a0.kind, a0.frm, 0, a0.text, a0.items, a0.names⟩ : ApiValue), true, a2, a1⟩ : Ref10Part).begun), .int .i64 ((⟨(⟨a0.kind, a0.frm, 0, a0.text, a0.items, a0.names⟩ : ApiValue), true, a2, a1⟩ : Ref10Part).pos), .int .i64 ((⟨(⟨a0.kind, a0.frm, 0, a0.text, a0.items, a0.names⟩ : ApiValue), true, a2, a1⟩ : Ref10Part).fault)])]) (.cons rfl (.refl _) (.nil _)) (.cons rfl (.refl _) (.nil _)) ?_
  exact ak_ret (fn := Tryz.f183) Tryz.func183 rfl ⟨⟨_, _, _, _, _, _, rfl, rfl, ty139⟩, trivial⟩ rfl)
theorem d183 {a0 : ApiValue} {a1 : Int} {a2 : Int} {r : Ref10Part} (h : f183 (.e183 a0 a1 a2) = some r) : Does Tryz.prog GG 183 [.agg [.int .i64 a0.kind, .int .i64 a0.frm, .int .i64 a0.to, .str a0.text, .sl Ty.sApiValue a0.items, .sl Ty.str a0.names], .int .i64 a1, .int .i64 a2] [] (fun z _ => z = .agg [.int .i64 r.value.kind, .int .i64 r.value.frm, .int .i64 r.value.to, .str r.value.text, .sl Ty.sApiValue r.value.items, .sl Ty.str r.value.names, .bool r.begun, .int .i64 r.pos, .int .i64 r.fault]) := fn_of (fn := Tryz.f183) Tryz.func183 rfl Tryz.ntmps183 rfl (w183 _ _ h)
/-- riffle/riffleref10.quoted -/
noncomputable abbrev b131 : Code := codeOf Tryz.f131
inductive L131 where
 | e131 (a0 : List UInt8) (a1 : Int)
noncomputable def f131 : L131 → Option Ref10Part
 | .e131 a0 a1 =>
  need (0 ≤ (IntKind.wrap .i64 (a1 + (1 : Int))) ∧ (IntKind.wrap .i64 (a1 + (1 : Int))) ≤ (a0.length : Int)) >>= fun v1 =>
  f182 (.e182 (a0.drop (IntKind.wrap .i64 (a1 + (1 : Int))).toNat)) >>= fun v2 =>
  if (v2.2.2 == (0 : Int)) = true then
   f183 (.e183 (⟨3, a1, 0, [], ([] : List ApiValue), ([] : List (List UInt8))⟩ : ApiValue) (10 : Int) (a0.length : Int)) >>= fun v3 =>
   some v3
  else
   if (v2.2.2 != (1 : Int)) = true then
    f183 (.e183 (⟨3, a1, 0, [], ([] : List ApiValue), ([] : List (List UInt8))⟩ : ApiValue) v2.2.2 (IntKind.wrap .i64 ((IntKind.wrap .i64 (a1 + (1 : Int))) + v2.2.1))) >>= fun v4 =>
    some v4
   else
    some (⟨(⟨3, a1, IntKind.wrap .i64 ((IntKind.wrap .i64 (a1 + (1 : Int))) + v2.2.1), v2.1, ([] : List ApiValue), ([] : List (List UInt8))⟩ : ApiValue), true, IntKind.wrap .i64 ((IntKind.wrap .i64 (a1 + (1 : Int))) + v2.2.1), 0⟩ : Ref10Part)
def M131 : L131 → Ref10Part → Prop
 | .e131 a0 a1, r => ∀ (w : World) (F : Nat → Prop) (ρ : Rho), AK Tryz.prog (ctx GG 46 w F ρ []) 131 [.code b131] (argE 0 [.str a0, .int .i64 a1]) [] (fun z _ => z = .agg [.int .i64 r.value.kind, .int .i64 r.value.frm, .int .i64 r.value.to, .str r.value.text, .sl Ty.sApiValue r.value.items, .sl Ty.str r.value.names, .bool r.begun, .int .i64 r.pos, .int .i64 r.fault])
theorem w131 : ∀ (l : L131) (r : Ref10Part), f131 l = some r → M131 l r := (by
 intro l r h
 cases l with
 | e131 a0 a1 =>
  intro w F ρ
  dsimp only [f131] at h
  refine ak_seq ?_
  refine ak_regionS (.cons rfl (ok_alloc (d := 4) (dlt rfl rfl) rfl ty139 rfl rfl rfl) (.nil ?_))
  refine ak_seq ?_
  obtain ⟨v1, hv1, h⟩ := bind_of h
  obtain ⟨v2, hv2, h⟩ := bind_of h
  refine ak_regionS (.cons rfl (ok_move (dlt rfl rfl) rfl rfl) (.cons rfl (ok_move (dlt rfl rfl) rfl rfl) (.cons rfl (ok_add (dlt rfl rfl) rfl rfl rfl) (.cons rfl (ok_cutL (dlt rfl rfl) rfl Tryz.underlying9 rfl rfl (need_of hv1).1 (need_of hv1).2) (.cons rfl (ok_call (xs := [.str (a0.drop (IntKind.wrap .i64 (a1 + (1 : Int))).toNat)]) (caps := []) (dlt rfl rfl) rfl rfl Tryz.func182 rfl rfl rfl (d182 hv2) rfl) (.cons rfl (ok_move (dlt rfl rfl) rfl rfl) (.cons rfl (ok_extract (dlt rfl rfl) rfl rfl rfl) (.cons rfl (ok_extract (dlt rfl rfl) rfl rfl rfl) (.cons rfl (ok_extract (dlt rfl rfl) rfl rfl rfl) (.cons rfl (ok_assign (dlt rfl rfl) rfl rfl) (.cons rfl (ok_assign (dlt rfl rfl) rfl rfl) (.cons rfl (ok_assign (dlt rfl rfl) rfl rfl) (.nil ?_)))))))))))))
  refine ak_seq ?_
  refine ak_regionS (.cons rfl (ok_move (dlt rfl rfl) rfl rfl) (.cons rfl (ok_build (dlt rfl rfl) rfl ty29 rfl pl29 rfl rfl rfl) (.cons rfl (ok_alloc (d := 8) (dlt rfl rfl) rfl ty29 rfl rfl rfl) (.cons rfl (ok_storeV rfl rfl ty29 rfl rfl rfl rfl (by decide) rfl rfl) (.nil ?_)))))
  refine ak_seq ?_
  refine ak_seq ?_
  refine ak_regionS (.cons rfl (ok_move (dlt rfl rfl) rfl rfl) (.cons rfl (ok_eql (dlt rfl rfl) rfl rfl rfl) (.nil ?_)))
  refine ak_cond rfl (fun ht => ?_) (fun ht => ?_)
  ·have h := cond_t ht h
   refine ak_seq ?_
   obtain ⟨v3, hv3, h⟩ := bind_of h
   refine ak_regionS (.cons rfl (ok_loadVT (dlt rfl rfl) rfl ty29 rfl rfl (by decide) rfl) (.cons rfl (ok_move (dlt rfl rfl) rfl rfl) (.cons rfl (ok_lenT (s := a0) (dlt rfl rfl) rfl Tryz.underlying9 rfl) (.cons rfl (ok_call (xs := [.agg [.int .i64 (3 : Int), .int .i64 a1, .int .i64 (0 : Int), .str [], .nils, .nils], .int .i64 (10 : Int), .int .i64 (a0.length : Int)]) (caps := []) (dlt rfl rfl) rfl rfl Tryz.func183 rfl rfl rfl (Does.sub (d183 hv3) (.cons (sub_agg (.cons (.refl _) (.cons (.refl _) (.cons (.refl _) (.cons (.refl _) (.cons (sub_nils Ty.sApiValue) (.cons (sub_nils Ty.str) (.nil)))))))) (.cons (.refl _) (.cons (.refl _) (.nil))))) rfl) (.cons rfl (ok_storeV rfl rfl ty139 rfl rfl rfl rfl (by decide) rfl rfl) (.nil ?_))))))
   obtain rfl := Option.some.inj h
   refine ak_conv (Γ' := [(4, .ref 4 0)]) (σ' := [(4, .cells 139 [.int .i64 v3.value.kind, .int .i64 v3.value.frm, .int .i64 v3.value.to, .str v3.value.text, .sl Ty.sApiValue v3.value.items, .sl Ty.str v3.value.names, .bool v3.begun, .int .i64 v3.pos, .int .i64 v3.fault])]) (.cons rfl (.refl _) (.nil _)) (.cons rfl (.refl _) (.nil _)) ?_
   exact ak_ret (fn := Tryz.f131) Tryz.func131 rfl ⟨⟨_, _, _, _, _, _, rfl, rfl, ty139⟩, trivial⟩ rfl
  ·have h := cond_f ht h
   refine ak_skip ?_
   refine ak_seq ?_
   refine ak_seq ?_
   refine ak_regionS (.cons rfl (ok_move (dlt rfl rfl) rfl rfl) (.cons rfl (ok_neq (dlt rfl rfl) rfl rfl rfl) (.nil ?_)))
   refine ak_cond rfl (fun ht => ?_) (fun ht => ?_)
   ·have h := cond_t ht h
    refine ak_seq ?_
    obtain ⟨v4, hv4, h⟩ := bind_of h
    refine ak_regionS (.cons rfl (ok_loadVT (dlt rfl rfl) rfl ty29 rfl rfl (by decide) rfl) (.cons rfl (ok_move (dlt rfl rfl) rfl rfl) (.cons rfl (ok_move (dlt rfl rfl) rfl rfl) (.cons rfl (ok_add (dlt rfl rfl) rfl rfl rfl) (.cons rfl (ok_move (dlt rfl rfl) rfl rfl) (.cons rfl (ok_add (dlt rfl rfl) rfl rfl rfl) (.cons rfl (ok_call (xs := [.agg [.int .i64 (3 : Int), .int .i64 a1, .int .i64 (0 : Int), .str [], .nils, .nils], .int .i64 v2.2.2, .int .i64 (IntKind.wrap .i64 ((IntKind.wrap .i64 (a1 + (1 : Int))) + v2.2.1))]) (caps := []) (dlt rfl rfl) rfl rfl Tryz.func183 rfl rfl rfl (Does.sub (d183 hv4) (.cons (sub_agg (.cons (.refl _) (.cons (.refl _) (.cons (.refl _) (.cons (.refl _) (.cons (sub_nils Ty.sApiValue) (.cons (sub_nils Ty.str) (.nil)))))))) (.cons (.refl _) (.cons (.refl _) (.nil))))) rfl) (.cons rfl (ok_storeV rfl rfl ty139 rfl rfl rfl rfl (by decide) rfl rfl) (.nil ?_)))))))))
    obtain rfl := Option.some.inj h
    refine ak_conv (Γ' := [(4, .ref 4 0)]) (σ' := [(4, .cells 139 [.int .i64 v4.value.kind, .int .i64 v4.value.frm, .int .i64 v4.value.to, .str v4.value.text, .sl Ty.sApiValue v4.value.items, .sl Ty.str v4.value.names, .bool v4.begun, .int .i64 v4.pos, .int .i64 v4.fault])]) (.cons rfl (.refl _) (.nil _)) (.cons rfl (.refl _) (.nil _)) ?_
    exact ak_ret (fn := Tryz.f131) Tryz.func131 rfl ⟨⟨_, _, _, _, _, _, rfl, rfl, ty139⟩, trivial⟩ rfl
   ·have h := cond_f ht h
    refine ak_skip ?_
    refine ak_seq ?_
    refine ak_regionS (.cons rfl (ok_move (dlt rfl rfl) rfl rfl) (.cons rfl (ok_add (dlt rfl rfl) rfl rfl rfl) (.cons rfl (ok_move (dlt rfl rfl) rfl rfl) (.cons rfl (ok_add (dlt rfl rfl) rfl rfl rfl) (.cons rfl (ok_fieldV (dlt rfl rfl) rfl fo29_2 ty3 (by decide) rfl) (.cons rfl (ok_storeV rfl rfl ty3 rfl rfl rfl rfl (by decide) rfl rfl) (.nil ?_)))))))
    refine ak_seq ?_
    refine ak_regionS (.cons rfl (ok_move (dlt rfl rfl) rfl rfl) (.cons rfl (ok_fieldV (dlt rfl rfl) rfl fo29_3 ty9 (by decide) rfl) (.cons rfl (ok_storeV rfl rfl ty9 rfl rfl rfl rfl (by decide) rfl rfl) (.nil ?_))))
    refine ak_seq ?_
    refine ak_regionS (.cons rfl (ok_loadVT (dlt rfl rfl) rfl ty29 rfl rfl (by decide) rfl) (.cons rfl (ok_fieldV (dlt rfl rfl) rfl fo29_2 ty3 (by decide) rfl) (.cons rfl (ok_loadV (dlt rfl rfl) rfl ty3 rfl rfl rfl) (.cons rfl (ok_build (dlt rfl rfl) rfl ty139 rfl pl139 rfl rfl rfl) (.cons rfl (ok_storeV rfl rfl ty139 rfl rfl rfl rfl (by decide) rfl rfl) (.nil ?_))))))
    obtain rfl := Option.some.inj h
    refine ak_conv (Γ' := [(4, .ref 4 0)]) (σ' := [(4, .cells 139 [.int .i64 (((⟨(⟨3, a1, IntKind.wrap .i64 ((IntKind.wrap .i64 (a1 + (1 : Int))) + v2.2.1), v2.1, ([] : List ApiValue), ([] : List (List UInt8))⟩ : ApiValue), true, IntKind.wrap .i64 ((IntKind.wrap .i64 (a1 + (1 : Int))) + v2.2.1), 0⟩ : Ref10Part).value).kind), .int .i64 (((⟨(⟨3, a1, IntKind.wrap .i64 ((IntKind.wrap .i64 (a1 + (1 : Int))) + v2.2.1), v2.1, ([] : List ApiValue), ([] : List (List UInt8))⟩ : ApiValue), true, IntKind.wrap .i64 ((IntKind.wrap .i64 (a1 + (1 : Int))) + v2.2.1), 0⟩ : Ref10Part).value).frm), .int .i64 (((⟨(⟨3, a1, IntKind.wrap .i64 ((IntKind.wrap .i64 (a1 + (1 : Int))) + v2.2.1), v2.1, ([] : List ApiValue), ([] : List (List UInt8))⟩ : ApiValue), true, IntKind.wrap .i64 ((IntKind.wrap .i64 (a1 + (1 : Int))) + v2.2.1), 0⟩ : Ref10Part).value).to), .str (((⟨(⟨3, a1, IntKind.wrap .i64 ((IntKind.wrap .i64 (a1 + (1 : Int))) + v2.2.1), v2.1, ([] : List ApiValue), ([] : List (List UInt8))⟩ : ApiValue), true, IntKind.wrap .i64 ((IntKind.wrap .i64 (a1 + (1 : Int))) + v2.2.1), 0⟩ : Ref10Part).value).text), .sl Ty.sApiValue (((⟨(⟨3, a1, IntKind.wrap .i64 ((IntKind.wrap .i64 (a1 + (1 : Int))) + v2.2.1), v2.1, ([] : List ApiValue), ([] : List (List UInt8))⟩ : ApiValue), true, IntKind.wrap .i64 ((IntKind.wrap .i64 (a1 + (1 : Int))) + v2.2.1), 0⟩ : Ref10Part).value).items), .sl Ty.str (((⟨(⟨3, a1, IntKind.wrap .i64 ((IntKind.wrap .i64 (a1 + (1 : Int))) + v2.2.1), v2.1, ([] : List ApiValue), ([] : List (List UInt8))⟩ : ApiValue), true, IntKind.wrap .i64 ((IntKind.wrap .i64 (a1 + (1 : Int))) + v2.2.1), 0⟩ : Ref10Part).value).names), .bool ((⟨(⟨3, a1, IntKind.wrap .i64 ((IntKind.wrap .i64 (a1 + (1 : Int))) + v2.2.1), v2.1, ([] : List ApiValue), ([] : List (List UInt8))⟩ : ApiValue), true, IntKind.wrap .i64 ((IntKind.wrap .i64 (a1 + (1 : Int))) + v2.2.1), 0⟩ : Ref10Part).begun), .int .i64 ((⟨(⟨3, a1, IntKind.wrap .i64 ((IntKind.wrap .i64 (a1 + (1 : Int))) + v2.2.1), v2.1, ([] : List ApiValue), ([] : List (List UInt8))⟩ : ApiValue), true, IntKind.wrap .i64 ((IntKind.wrap .i64 (a1 + (1 : Int))) + v2.2.1), 0⟩ : Ref10Part).pos), .int .i64 ((⟨(⟨3, a1, IntKind.wrap .i64 ((IntKind.wrap .i64 (a1 + (1 : Int))) + v2.2.1), v2.1, ([] : List ApiValue), ([] : List (List UInt8))⟩ : ApiValue), true, IntKind.wrap .i64 ((IntKind.wrap .i64 (a1 + (1 : Int))) + v2.2.1), 0⟩ : Ref10Part).fault)])]) (.cons rfl (.refl _) (.nil _)) (.cons rfl (.cells (.cons (.refl _) (.cons (.refl _) (.cons (.refl _) (.cons (.refl _) (.cons (sub_nils Ty.sApiValue) (.cons (sub_nils Ty.str) (.cons (.refl _) (.cons (.refl _) (.cons (.refl _) (.nil))))))))))) (.nil _)) ?_
    exact ak_ret (fn := Tryz.f131) Tryz.func131 rfl ⟨⟨_, _, _, _, _, _, rfl, rfl, ty139⟩, trivial⟩ rfl)
theorem d131 {a0 : List UInt8} {a1 : Int} {r : Ref10Part} (h : f131 (.e131 a0 a1) = some r) : Does Tryz.prog GG 131 [.str a0, .int .i64 a1] [] (fun z _ => z = .agg [.int .i64 r.value.kind, .int .i64 r.value.frm, .int .i64 r.value.to, .str r.value.text, .sl Ty.sApiValue r.value.items, .sl Ty.str r.value.names, .bool r.begun, .int .i64 r.pos, .int .i64 r.fault]) := fn_of (fn := Tryz.f131) Tryz.func131 rfl Tryz.ntmps131 rfl (w131 _ _ h)
/-- riffle/riffleref04.digits -/
noncomputable abbrev b213 : Code := codeOf Tryz.f213
inductive L213 where
 | e213 (a0 : List UInt8)
 | l213_0 (a0 : List UInt8) (a1 : Int)
noncomputable def f213 : L213 → Option Int
 | .e213 a0 =>
  f213 (.l213_0 a0 (0 : Int))
 | .l213_0 a0 a1 =>
  gd (decide (a1 < (a0.length : Int))) (idx a0 a1) >>= fun v1 =>
  gd (decide (a1 < (a0.length : Int))) (f181 (.e181 (v1.toNat : Int))) >>= fun v2 =>
  if ((decide (a1 < (a0.length : Int))) && v2) = true then
   f213 (.l213_0 a0 (IntKind.wrap .i64 (a1 + (1 : Int))))
  else
   some a1
 partial_fixpoint
def M213 : L213 → Int → Prop
 | .e213 a0, r => ∀ (w : World) (F : Nat → Prop) (ρ : Rho), AK Tryz.prog (ctx GG 17 w F ρ []) 213 [.code b213] (argE 0 [.str a0]) [] (fun z _ => z = .int .i64 r)
 | .l213_0 a0 a1, r => ∀ (w : World) (F : Nat → Prop) (ρ : Rho), AK Tryz.prog (ctx GG 17 w F ρ []) 213 [.code (c1 (c1 (c1 (c2 (c2 b213))))), .inLoop (c1 (c1 (c1 (c2 (c2 b213))))), .inBlock 0, .code (c2 (c2 (c2 b213)))] [(0, .str a0), (3, .int .i64 a1)] [] (fun z _ => z = .int .i64 r)
theorem w213 : ∀ (l : L213) (r : Int), f213 l = some r → M213 l r := f213.partial_correctness M213 (by
 intro f ih l r h
 cases l with
 | e213 a0 =>
  intro w F ρ
  dsimp only at h
  refine ak_seq ?_
  refine ak_regionS (.cons rfl (ok_assign (dlt rfl rfl) rfl rfl) (.nil ?_))
  refine ak_seq ?_
  refine ak_regionS (.cons rfl (ok_assign (dlt rfl rfl) rfl rfl) (.nil ?_))
  refine ak_seq ?_
  refine ak_block ?_
  refine ak_loop ?_
  exact ak_conv (.cons rfl (.refl _) (.cons rfl (.refl _) (.nil _))) (.nil _) (ih _ _ h w F ρ)
 | l213_0 a0 a1 =>
  intro w F ρ
  dsimp only at h
  refine ak_seq ?_
  refine ak_seq ?_
  obtain ⟨v1, hv1, h⟩ := bind_of h
  obtain ⟨v2, hv2, h⟩ := bind_of h
  refine ak_regionS (.cons rfl (ok_move (dlt rfl rfl) rfl rfl) (.cons rfl (ok_move (dlt rfl rfl) rfl rfl) (.cons rfl (ok_lenT (s := a0) (dlt rfl rfl) rfl Tryz.underlying9 rfl) (.cons rfl (ok_lss (dlt rfl rfl) rfl rfl rfl) (.cons rfl (ok_move (dlt rfl rfl) rfl rfl) (.consG (pre := []) (dlt rfl rfl) rfl rfl rfl rfl .nil (fun he => ok_move (dlt rfl rfl) rfl rfl) (.consG (pre := []) (dlt rfl rfl) rfl rfl rfl rfl .nil (fun he => ok_move (dlt rfl rfl) rfl rfl) (.consG (pre := [(9, .str a0), (10, .int .i64 a1)]) (dlt rfl rfl) rfl rfl rfl rfl (.cons rfl (fun he => he) (.cons rfl (fun he => he) .nil)) (fun he => ok_byte (s := a0) (c := v1) (dlt rfl rfl) rfl Tryz.underlying9 rfl rfl (idx_0 (gd_t hv1 he)) (idx_1 (gd_t hv1 he))) (.consG (pre := [(11, .int .u8 (v1.toNat : Int))]) (dlt rfl rfl) rfl rfl rfl rfl (.cons rfl (fun he => he) .nil) (fun he => ok_call (xs := [.int .u8 (v1.toNat : Int)]) (caps := []) (dlt rfl rfl) rfl rfl Tryz.func181 rfl rfl rfl (d181 (gd_t hv2 he)) rfl) (.cons rfl (ok_andW (dlt rfl rfl) rfl rfl rfl (fun h => h)) (.nil ?_)))))))))))
  refine ak_cond rfl (fun ht => ?_) (fun ht => ?_)
  ·have h := cond_t ht h
   refine ak_skip ?_
   refine ak_block ?_
   refine ak_regionS (.cons rfl (ok_move (dlt rfl rfl) rfl rfl) (.cons rfl (ok_add (dlt rfl rfl) rfl rfl rfl) (.cons rfl (ok_assign (dlt rfl rfl) rfl rfl) (.nil ?_))))
   refine ak_inBlock ?_
   refine ak_inLoop ?_
   exact ak_conv (.cons rfl (.refl _) (.cons rfl (.refl _) (.nil _))) (.nil _) (ih _ _ h w F ρ)
  ·have h := cond_f ht h
   refine ak_exit rfl ?_
   refine ak_seq ?_
   refine ak_regionS (.cons rfl (ok_move (dlt rfl rfl) rfl rfl) (.cons rfl (ok_assign (dlt rfl rfl) rfl rfl) (.nil ?_)))
   obtain rfl := Option.some.inj h
   refine ak_conv (Γ' := [(2, .int .i64 a1)]) (σ' := []) (.cons rfl (.refl _) (.nil _)) (.nil _) ?_
   exact ak_ret (fn := Tryz.f213) Tryz.func213 rfl trivial rfl)
theorem d213 {a0 : List UInt8} {r : Int} (h : f213 (.e213 a0) = some r) : Does Tryz.prog GG 213 [.str a0] [] (fun z _ => z = .int .i64 r) := fn_of (fn := Tryz.f213) Tryz.func213 rfl Tryz.ntmps213 rfl (w213 _ _ h)
end Go.Proofs.YtonlbdholdaifaaGreatDoor
end
section
set_option linter.unusedVariables false
set_option linter.unusedSimpArgs false
set_option maxRecDepth 10000
namespace Go.Proofs.YtonlbdholdaifaaGreatDoor
open Go Go.Rf Go.Proofs
/-- riffle/riffleref04.Is -/
noncomputable abbrev b185 : Code := codeOf Tryz.f185
inductive L185 where
 | e185 (a0 : List UInt8)
 | l185_0 (a0 : List UInt8)
 | l185_1 (a0 : List UInt8)
 | l185_2 (a0 : List UInt8)
noncomputable def f185 : L185 → Option Bool
 | .e185 a0 =>
  gd (decide ((0 : Int) < (a0.length : Int))) (idx a0 (0 : Int)) >>= fun v1 =>
  if ((decide ((0 : Int) < (a0.length : Int))) && ((v1.toNat : Int) == (45 : Int))) = true then
   need (0 ≤ (1 : Int) ∧ (1 : Int) ≤ (a0.length : Int)) >>= fun v2 =>
   f185 (.l185_0 (a0.drop (1 : Int).toNat))
  else
   f185 (.l185_0 a0)
 | .l185_0 a0 =>
  f213 (.e213 a0) >>= fun v3 =>
  gd ((!(v3 == (0 : Int))) && decide ((1 : Int) < v3)) (idx a0 (0 : Int)) >>= fun v4 =>
  if ((v3 == (0 : Int)) || ((decide ((1 : Int) < v3)) && ((v4.toNat : Int) == (48 : Int)))) = true then
   some false
  else
   need (0 ≤ v3 ∧ v3 ≤ (a0.length : Int)) >>= fun v5 =>
   gd (decide ((0 : Int) < ((a0.drop v3.toNat).length : Int))) (idx (a0.drop v3.toNat) (0 : Int)) >>= fun v6 =>
   if ((decide ((0 : Int) < ((a0.drop v3.toNat).length : Int))) && ((v6.toNat : Int) == (46 : Int))) = true then
    need (0 ≤ (1 : Int) ∧ (1 : Int) ≤ ((a0.drop v3.toNat).length : Int)) >>= fun v7 =>
    f213 (.e213 ((a0.drop v3.toNat).drop (1 : Int).toNat)) >>= fun v8 =>
    if (v8 == (0 : Int)) = true then
     some false
    else
     need (0 ≤ (IntKind.wrap .i64 ((1 : Int) + v8)) ∧ (IntKind.wrap .i64 ((1 : Int) + v8)) ≤ ((a0.drop v3.toNat).length : Int)) >>= fun v9 =>
     f185 (.l185_1 ((a0.drop v3.toNat).drop (IntKind.wrap .i64 ((1 : Int) + v8)).toNat))
   else
    f185 (.l185_1 (a0.drop v3.toNat))
 | .l185_1 a0 =>
  if ((a0.length : Int) == (0 : Int)) = true then
   some true
  else
   idx a0 (0 : Int) >>= fun v10 =>
   gd ((v10.toNat : Int) != (101 : Int)) (idx a0 (0 : Int)) >>= fun v11 =>
   if (((v10.toNat : Int) != (101 : Int)) && ((v11.toNat : Int) != (69 : Int))) = true then
    some false
   else
    need (0 ≤ (1 : Int) ∧ (1 : Int) ≤ (a0.length : Int)) >>= fun v12 =>
    gd (decide ((0 : Int) < ((a0.drop (1 : Int).toNat).length : Int))) (idx (a0.drop (1 : Int).toNat) (0 : Int)) >>= fun v13 =>
    gd ((decide ((0 : Int) < ((a0.drop (1 : Int).toNat).length : Int))) && !((v13.toNat : Int) == (43 : Int))) (idx (a0.drop (1 : Int).toNat) (0 : Int)) >>= fun v14 =>
    if ((decide ((0 : Int) < ((a0.drop (1 : Int).toNat).length : Int))) && (((v13.toNat : Int) == (43 : Int)) || ((v14.toNat : Int) == (45 : Int)))) = true then
     need (0 ≤ (1 : Int) ∧ (1 : Int) ≤ ((a0.drop (1 : Int).toNat).length : Int)) >>= fun v15 =>
     f185 (.l185_2 ((a0.drop (1 : Int).toNat).drop (1 : Int).toNat))
    else
     f185 (.l185_2 (a0.drop (1 : Int).toNat))
 | .l185_2 a0 =>
  gd (decide ((0 : Int) < (a0.length : Int))) (f213 (.e213 a0)) >>= fun v16 =>
  some ((decide ((0 : Int) < (a0.length : Int))) && (v16 == (a0.length : Int)))
 partial_fixpoint
def M185 : L185 → Bool → Prop
 | .e185 a0, r => ∀ (w : World) (F : Nat → Prop) (ρ : Rho), AK Tryz.prog (ctx GG 85 w F ρ []) 185 [.code b185] (argE 0 [.str a0]) [] (fun z _ => z = .bool r)
 | .l185_0 a0, r => ∀ (w : World) (F : Nat → Prop) (ρ : Rho), AK Tryz.prog (ctx GG 85 w F ρ []) 185 [.code (c2 (c2 b185))] [(0, .str a0)] [] (fun z _ => z = .bool r)
 | .l185_1 a0, r => ∀ (w : World) (F : Nat → Prop) (ρ : Rho), AK Tryz.prog (ctx GG 85 w F ρ []) 185 [.code (c2 (c2 (c2 (c2 (c2 (c2 b185))))))] [(0, .str a0)] [] (fun z _ => z = .bool r)
 | .l185_2 a0, r => ∀ (w : World) (F : Nat → Prop) (ρ : Rho), AK Tryz.prog (ctx GG 85 w F ρ []) 185 [.code (c2 (c2 (c2 (c2 (c2 (c2 (c2 (c2 (c2 (c2 b185))))))))))] [(0, .str a0)] [] (fun z _ => z = .bool r)
theorem w185 : ∀ (l : L185) (r : Bool), f185 l = some r → M185 l r := f185.partial_correctness M185 (by
 intro f ih l r h
 cases l with
 | e185 a0 =>
  intro w F ρ
  dsimp only at h
  refine ak_seq ?_
  refine ak_regionS (.cons rfl (ok_assign (dlt rfl rfl) rfl rfl) (.nil ?_))
  refine ak_seq ?_
  refine ak_seq ?_
  obtain ⟨v1, hv1, h⟩ := bind_of h
  refine ak_regionS (.cons rfl (ok_move (dlt rfl rfl) rfl rfl) (.cons rfl (ok_lenT (s := a0) (dlt rfl rfl) rfl Tryz.underlying9 rfl) (.cons rfl (ok_gtr (dlt rfl rfl) rfl rfl rfl) (.cons rfl (ok_move (dlt rfl rfl) rfl rfl) (.consG (pre := []) (dlt rfl rfl) rfl rfl rfl rfl .nil (fun he => ok_move (dlt rfl rfl) rfl rfl) (.consG (pre := [(8, .str a0)]) (dlt rfl rfl) rfl rfl rfl rfl (.cons rfl (fun he => he) .nil) (fun he => ok_byte (s := a0) (c := v1) (dlt rfl rfl) rfl Tryz.underlying9 rfl rfl (idx_0 (gd_t hv1 he)) (idx_1 (gd_t hv1 he))) (.consG (pre := [(9, .int .u8 (v1.toNat : Int))]) (dlt rfl rfl) rfl rfl rfl rfl (.cons rfl (fun he => he) .nil) (fun he => ok_eql (dlt rfl rfl) rfl rfl rfl) (.cons rfl (ok_andW (dlt rfl rfl) rfl rfl rfl (fun h => h)) (.nil ?_)))))))))
  refine ak_cond rfl (fun ht => ?_) (fun ht => ?_)
  ·have h := cond_t ht h
   obtain ⟨v2, hv2, h⟩ := bind_of h
   refine ak_regionS (.cons rfl (ok_move (dlt rfl rfl) rfl rfl) (.cons rfl (ok_cutL (dlt rfl rfl) rfl Tryz.underlying9 rfl rfl (need_of hv2).1 (need_of hv2).2) (.cons rfl (ok_assign (dlt rfl rfl) rfl rfl) (.nil ?_))))
   exact ak_conv (.cons rfl (.refl _) (.nil _)) (.nil _) (ih _ _ h w F ρ)
  ·have h := cond_f ht h
   refine ak_skip ?_
   exact ak_conv (.cons rfl (.refl _) (.nil _)) (.nil _) (ih _ _ h w F ρ)
 | l185_0 a0 =>
  intro w F ρ
  dsimp only at h
  refine ak_seq ?_
  obtain ⟨v3, hv3, h⟩ := bind_of h
  refine ak_regionS (.cons rfl (ok_move (dlt rfl rfl) rfl rfl) (.cons rfl (ok_call (xs := [.str a0]) (caps := []) (dlt rfl rfl) rfl rfl Tryz.func213 rfl rfl rfl (d213 hv3) rfl) (.cons rfl (ok_assign (dlt rfl rfl) rfl rfl) (.nil ?_))))
  refine ak_seq ?_
  refine ak_seq ?_
  obtain ⟨v4, hv4, h⟩ := bind_of h
  refine ak_regionS (.cons rfl (ok_move (dlt rfl rfl) rfl rfl) (.cons rfl (ok_eql (dlt rfl rfl) rfl rfl rfl) (.cons rfl (ok_move (dlt rfl rfl) rfl rfl) (.consG (pre := []) (dlt rfl rfl) rfl rfl rfl rfl .nil (fun he => ok_move (dlt rfl rfl) rfl rfl) (.consG (pre := [(19, .int .i64 v3)]) (dlt rfl rfl) rfl rfl rfl rfl (.cons rfl (fun he => he) .nil) (fun he => ok_gtr (dlt rfl rfl) rfl rfl rfl) (.consG (pre := [(20, .bool (decide ((1 : Int) < v3)))]) (dlt rfl rfl) rfl rfl rfl rfl (.cons rfl (fun he => he) .nil) (fun he => ok_move (dlt rfl rfl) rfl rfl) (.consG (pre := []) (dlt rfl rfl) rfl rfl rfl rfl .nil (fun he => ok_move (dlt rfl rfl) rfl rfl) (.consG (pre := [(22, .str a0)]) (dlt rfl rfl) rfl rfl rfl rfl (.cons rfl (fun he => he) .nil) (fun he => ok_byte (s := a0) (c := v4) (dlt rfl rfl) rfl Tryz.underlying9 rfl rfl (idx_0 (gd_t hv4 he)) (idx_1 (gd_t hv4 he))) (.consG (pre := [(23, .int .u8 (v4.toNat : Int))]) (dlt rfl rfl) rfl rfl rfl rfl (.cons rfl (fun he => he) .nil) (fun he => ok_eql (dlt rfl rfl) rfl rfl rfl) (.consG (pre := [(21, .bool (decide ((1 : Int) < v3)))]) (dlt rfl rfl) rfl rfl rfl rfl (.cons rfl (fun he => he) .nil) (fun he => ok_andW (dlt rfl rfl) rfl rfl rfl (fun h => band_i he h)) (.cons rfl (ok_orW (dlt rfl rfl) rfl rfl rfl (fun h => (bnot_t h))) (.nil ?_))))))))))))
  refine ak_cond rfl (fun ht => ?_) (fun ht => ?_)
  ·have h := cond_t ht h
   refine ak_seq ?_
   refine ak_regionS (.cons rfl (ok_assign (dlt rfl rfl) rfl rfl) (.nil ?_))
   obtain rfl := Option.some.inj h
   refine ak_conv (Γ' := [(2, .bool false)]) (σ' := []) (.cons rfl (.refl _) (.nil _)) (.nil _) ?_
   exact ak_ret (fn := Tryz.f185) Tryz.func185 rfl trivial rfl
  ·have h := cond_f ht h
   refine ak_skip ?_
   refine ak_seq ?_
   obtain ⟨v5, hv5, h⟩ := bind_of h
   refine ak_regionS (.cons rfl (ok_move (dlt rfl rfl) rfl rfl) (.cons rfl (ok_move (dlt rfl rfl) rfl rfl) (.cons rfl (ok_cutL (dlt rfl rfl) rfl Tryz.underlying9 rfl rfl (need_of hv5).1 (need_of hv5).2) (.cons rfl (ok_assign (dlt rfl rfl) rfl rfl) (.nil ?_)))))
   refine ak_seq ?_
   refine ak_seq ?_
   obtain ⟨v6, hv6, h⟩ := bind_of h
   refine ak_regionS (.cons rfl (ok_move (dlt rfl rfl) rfl rfl) (.cons rfl (ok_lenT (s := a0.drop v3.toNat) (dlt rfl rfl) rfl Tryz.underlying9 rfl) (.cons rfl (ok_gtr (dlt rfl rfl) rfl rfl rfl) (.cons rfl (ok_move (dlt rfl rfl) rfl rfl) (.consG (pre := []) (dlt rfl rfl) rfl rfl rfl rfl .nil (fun he => ok_move (dlt rfl rfl) rfl rfl) (.consG (pre := [(34, .str (a0.drop v3.toNat))]) (dlt rfl rfl) rfl rfl rfl rfl (.cons rfl (fun he => he) .nil) (fun he => ok_byte (s := a0.drop v3.toNat) (c := v6) (dlt rfl rfl) rfl Tryz.underlying9 rfl rfl (idx_0 (gd_t hv6 he)) (idx_1 (gd_t hv6 he))) (.consG (pre := [(35, .int .u8 (v6.toNat : Int))]) (dlt rfl rfl) rfl rfl rfl rfl (.cons rfl (fun he => he) .nil) (fun he => ok_eql (dlt rfl rfl) rfl rfl rfl) (.cons rfl (ok_andW (dlt rfl rfl) rfl rfl rfl (fun h => h)) (.nil ?_)))))))))
   refine ak_cond rfl (fun ht => ?_) (fun ht => ?_)
   ·have h := cond_t ht h
    refine ak_seq ?_
    obtain ⟨v7, hv7, h⟩ := bind_of h
    obtain ⟨v8, hv8, h⟩ := bind_of h
    refine ak_regionS (.cons rfl (ok_move (dlt rfl rfl) rfl rfl) (.cons rfl (ok_cutL (dlt rfl rfl) rfl Tryz.underlying9 rfl rfl (need_of hv7).1 (need_of hv7).2) (.cons rfl (ok_call (xs := [.str ((a0.drop v3.toNat).drop (1 : Int).toNat)]) (caps := []) (dlt rfl rfl) rfl rfl Tryz.func213 rfl rfl rfl (d213 hv8) rfl) (.cons rfl (ok_assign (dlt rfl rfl) rfl rfl) (.nil ?_)))))
    refine ak_seq ?_
    refine ak_seq ?_
    refine ak_regionS (.cons rfl (ok_move (dlt rfl rfl) rfl rfl) (.cons rfl (ok_eql (dlt rfl rfl) rfl rfl rfl) (.nil ?_)))
    refine ak_cond rfl (fun ht => ?_) (fun ht => ?_)
    ·have h := cond_t ht h
     refine ak_seq ?_
     refine ak_regionS (.cons rfl (ok_assign (dlt rfl rfl) rfl rfl) (.nil ?_))
     obtain rfl := Option.some.inj h
     refine ak_conv (Γ' := [(2, .bool false)]) (σ' := []) (.cons rfl (.refl _) (.nil _)) (.nil _) ?_
     exact ak_ret (fn := Tryz.f185) Tryz.func185 rfl trivial rfl
    ·have h := cond_f ht h
     refine ak_skip ?_
     obtain ⟨v9, hv9, h⟩ := bind_of h
     refine ak_regionS (.cons rfl (ok_move (dlt rfl rfl) rfl rfl) (.cons rfl (ok_move (dlt rfl rfl) rfl rfl) (.cons rfl (ok_add (dlt rfl rfl) rfl rfl rfl) (.cons rfl (ok_cutL (dlt rfl rfl) rfl Tryz.underlying9 rfl rfl (need_of hv9).1 (need_of hv9).2) (.cons rfl (ok_assign (dlt rfl rfl) rfl rfl) (.nil ?_))))))
     exact ak_conv (.cons rfl (.refl _) (.nil _)) (.nil _) (ih _ _ h w F ρ)
   ·have h := cond_f ht h
    refine ak_skip ?_
    exact ak_conv (.cons rfl (.refl _) (.nil _)) (.nil _) (ih _ _ h w F ρ)
 | l185_1 a0 =>
  intro w F ρ
  dsimp only at h
  refine ak_seq ?_
  refine ak_seq ?_
  refine ak_regionS (.cons rfl (ok_move (dlt rfl rfl) rfl rfl) (.cons rfl (ok_lenT (s := a0) (dlt rfl rfl) rfl Tryz.underlying9 rfl) (.cons rfl (ok_eql (dlt rfl rfl) rfl rfl rfl) (.nil ?_))))
  refine ak_cond rfl (fun ht => ?_) (fun ht => ?_)
  ·have h := cond_t ht h
   refine ak_seq ?_
   refine ak_regionS (.cons rfl (ok_assign (dlt rfl rfl) rfl rfl) (.nil ?_))
   obtain rfl := Option.some.inj h
   refine ak_conv (Γ' := [(2, .bool true)]) (σ' := []) (.cons rfl (.refl _) (.nil _)) (.nil _) ?_
   exact ak_ret (fn := Tryz.f185) Tryz.func185 rfl trivial rfl
  ·have h := cond_f ht h
   refine ak_skip ?_
   refine ak_seq ?_
   refine ak_seq ?_
   obtain ⟨v10, hv10, h⟩ := bind_of h
   obtain ⟨v11, hv11, h⟩ := bind_of h
   refine ak_regionS (.cons rfl (ok_move (dlt rfl rfl) rfl rfl) (.cons rfl (ok_byte (s := a0) (c := v10) (dlt rfl rfl) rfl Tryz.underlying9 rfl rfl (idx_0 hv10) (idx_1 hv10)) (.cons rfl (ok_neq (dlt rfl rfl) rfl rfl rfl) (.cons rfl (ok_move (dlt rfl rfl) rfl rfl) (.consG (pre := []) (dlt rfl rfl) rfl rfl rfl rfl .nil (fun he => ok_move (dlt rfl rfl) rfl rfl) (.consG (pre := [(54, .str a0)]) (dlt rfl rfl) rfl rfl rfl rfl (.cons rfl (fun he => he) .nil) (fun he => ok_byte (s := a0) (c := v11) (dlt rfl rfl) rfl Tryz.underlying9 rfl rfl (idx_0 (gd_t hv11 he)) (idx_1 (gd_t hv11 he))) (.consG (pre := [(55, .int .u8 (v11.toNat : Int))]) (dlt rfl rfl) rfl rfl rfl rfl (.cons rfl (fun he => he) .nil) (fun he => ok_neq (dlt rfl rfl) rfl rfl rfl) (.cons rfl (ok_andW (dlt rfl rfl) rfl rfl rfl (fun h => h)) (.nil ?_)))))))))
   refine ak_cond rfl (fun ht => ?_) (fun ht => ?_)
   ·have h := cond_t ht h
    refine ak_seq ?_
    refine ak_regionS (.cons rfl (ok_assign (dlt rfl rfl) rfl rfl) (.nil ?_))
    obtain rfl := Option.some.inj h
    refine ak_conv (Γ' := [(2, .bool false)]) (σ' := []) (.cons rfl (.refl _) (.nil _)) (.nil _) ?_
    exact ak_ret (fn := Tryz.f185) Tryz.func185 rfl trivial rfl
   ·have h := cond_f ht h
    refine ak_skip ?_
    refine ak_seq ?_
    obtain ⟨v12, hv12, h⟩ := bind_of h
    refine ak_regionS (.cons rfl (ok_move (dlt rfl rfl) rfl rfl) (.cons rfl (ok_cutL (dlt rfl rfl) rfl Tryz.underlying9 rfl rfl (need_of hv12).1 (need_of hv12).2) (.cons rfl (ok_assign (dlt rfl rfl) rfl rfl) (.nil ?_))))
    refine ak_seq ?_
    refine ak_seq ?_
    obtain ⟨v13, hv13, h⟩ := bind_of h
    obtain ⟨v14, hv14, h⟩ := bind_of h
    refine ak_regionS (.cons rfl (ok_move (dlt rfl rfl) rfl rfl) (.cons rfl (ok_lenT (s := a0.drop (1 : Int).toNat) (dlt rfl rfl) rfl Tryz.underlying9 rfl) (.cons rfl (ok_gtr (dlt rfl rfl) rfl rfl rfl) (.cons rfl (ok_move (dlt rfl rfl) rfl rfl) (.consG (pre := []) (dlt rfl rfl) rfl rfl rfl rfl .nil (fun he => ok_move (dlt rfl rfl) rfl rfl) (.consG (pre := [(64, .str (a0.drop (1 : Int).toNat))]) (dlt rfl rfl) rfl rfl rfl rfl (.cons rfl (fun he => he) .nil) (fun he => ok_byte (s := a0.drop (1 : Int).toNat) (c := v13) (dlt rfl rfl) rfl Tryz.underlying9 rfl rfl (idx_0 (gd_t hv13 he)) (idx_1 (gd_t hv13 he))) (.consG (pre := [(65, .int .u8 (v13.toNat : Int))]) (dlt rfl rfl) rfl rfl rfl rfl (.cons rfl (fun he => he) .nil) (fun he => ok_eql (dlt rfl rfl) rfl rfl rfl) (.consG (pre := [(66, .bool ((v13.toNat : Int) == (43 : Int)))]) (dlt rfl rfl) rfl rfl rfl rfl (.cons rfl (fun he => he) .nil) (fun he => ok_move (dlt rfl rfl) rfl rfl) (.consG (pre := []) (dlt rfl rfl) rfl rfl rfl rfl .nil (fun he => ok_move (dlt rfl rfl) rfl rfl) (.consG (pre := [(68, .str (a0.drop (1 : Int).toNat))]) (dlt rfl rfl) rfl rfl rfl rfl (.cons rfl (fun he => he) .nil) (fun he => ok_byte (s := a0.drop (1 : Int).toNat) (c := v14) (dlt rfl rfl) rfl Tryz.underlying9 rfl rfl (idx_0 (gd_t hv14 he)) (idx_1 (gd_t hv14 he))) (.consG (pre := [(69, .int .u8 (v14.toNat : Int))]) (dlt rfl rfl) rfl rfl rfl rfl (.cons rfl (fun he => he) .nil) (fun he => ok_eql (dlt rfl rfl) rfl rfl rfl) (.consG (pre := [(67, .bool ((v13.toNat : Int) == (43 : Int)))]) (dlt rfl rfl) rfl rfl rfl rfl (.cons rfl (fun he => he) .nil) (fun he => ok_orW (dlt rfl rfl) rfl rfl rfl (fun h => band_i he (bnot_t h))) (.cons rfl (ok_andW (dlt rfl rfl) rfl rfl rfl (fun h => h)) (.nil ?_))))))))))))))
    refine ak_cond rfl (fun ht => ?_) (fun ht => ?_)
    ·have h := cond_t ht h
     obtain ⟨v15, hv15, h⟩ := bind_of h
     refine ak_regionS (.cons rfl (ok_move (dlt rfl rfl) rfl rfl) (.cons rfl (ok_cutL (dlt rfl rfl) rfl Tryz.underlying9 rfl rfl (need_of hv15).1 (need_of hv15).2) (.cons rfl (ok_assign (dlt rfl rfl) rfl rfl) (.nil ?_))))
     exact ak_conv (.cons rfl (.refl _) (.nil _)) (.nil _) (ih _ _ h w F ρ)
    ·have h := cond_f ht h
     refine ak_skip ?_
     exact ak_conv (.cons rfl (.refl _) (.nil _)) (.nil _) (ih _ _ h w F ρ)
 | l185_2 a0 =>
  intro w F ρ
  dsimp only at h
  refine ak_seq ?_
  obtain ⟨v16, hv16, h⟩ := bind_of h
  refine ak_regionS (.cons rfl (ok_move (dlt rfl rfl) rfl rfl) (.cons rfl (ok_lenT (s := a0) (dlt rfl rfl) rfl Tryz.underlying9 rfl) (.cons rfl (ok_gtr (dlt rfl rfl) rfl rfl rfl) (.cons rfl (ok_move (dlt rfl rfl) rfl rfl) (.consG (pre := []) (dlt rfl rfl) rfl rfl rfl rfl .nil (fun he => ok_move (dlt rfl rfl) rfl rfl) (.consG (pre := [(79, .str a0)]) (dlt rfl rfl) rfl rfl rfl rfl (.cons rfl (fun he => he) .nil) (fun he => ok_call (xs := [.str a0]) (caps := []) (dlt rfl rfl) rfl rfl Tryz.func213 rfl rfl rfl (d213 (gd_t hv16 he)) rfl) (.consG (pre := []) (dlt rfl rfl) rfl rfl rfl rfl .nil (fun he => ok_move (dlt rfl rfl) rfl rfl) (.consG (pre := [(81, .str a0)]) (dlt rfl rfl) rfl rfl rfl rfl (.cons rfl (fun he => he) .nil) (fun he => ok_lenT (s := a0) (dlt rfl rfl) rfl Tryz.underlying9 rfl) (.consG (pre := [(80, .int .i64 v16), (82, .int .i64 (a0.length : Int))]) (dlt rfl rfl) rfl rfl rfl rfl (.cons rfl (fun he => he) (.cons rfl (fun he => he) .nil)) (fun he => ok_eql (dlt rfl rfl) rfl rfl rfl) (.cons rfl (ok_andW (dlt rfl rfl) rfl rfl rfl (fun h => h)) (.cons rfl (ok_assign (dlt rfl rfl) rfl rfl) (.nil ?_))))))))))))
  obtain rfl := Option.some.inj h
  refine ak_conv (Γ' := [(2, .bool ((decide ((0 : Int) < (a0.length : Int))) && (v16 == (a0.length : Int))))]) (σ' := []) (.cons rfl (.refl _) (.nil _)) (.nil _) ?_
  exact ak_ret (fn := Tryz.f185) Tryz.func185 rfl trivial rfl)
theorem d185 {a0 : List UInt8} {r : Bool} (h : f185 (.e185 a0) = some r) : Does Tryz.prog GG 185 [.str a0] [] (fun z _ => z = .bool r) := fn_of (fn := Tryz.f185) Tryz.func185 rfl Tryz.ntmps185 rfl (w185 _ _ h)
/-- riffle/riffleref01.Alpha -/
noncomputable abbrev b212 : Code := codeOf Tryz.f212
inductive L212 where
 | e212 (a0 : Int)
noncomputable def f212 : L212 → Option Bool
 | .e212 a0 =>
  some (((decide ((97 : Int) ≤ a0)) && (decide (a0 ≤ (122 : Int)))) || ((decide ((65 : Int) ≤ a0)) && (decide (a0 ≤ (90 : Int)))))
def M212 : L212 → Bool → Prop
 | .e212 a0, r => ∀ (w : World) (F : Nat → Prop) (ρ : Rho), AK Tryz.prog (ctx GG 17 w F ρ []) 212 [.code b212] (argE 0 [.int .u8 a0]) [] (fun z _ => z = .bool r)
theorem w212 : ∀ (l : L212) (r : Bool), f212 l = some r → M212 l r := (by
 intro l r h
 cases l with
 | e212 a0 =>
  intro w F ρ
  dsimp only [f212] at h
  refine ak_seq ?_
  refine ak_regionS (.cons rfl (ok_assign (dlt rfl rfl) rfl rfl) (.nil ?_))
  refine ak_seq ?_
  refine ak_regionS (.cons rfl (ok_move (dlt rfl rfl) rfl rfl) (.cons rfl (ok_geq (dlt rfl rfl) rfl rfl rfl) (.cons rfl (ok_move (dlt rfl rfl) rfl rfl) (.consG (pre := []) (dlt rfl rfl) rfl rfl rfl rfl .nil (fun he => ok_move (dlt rfl rfl) rfl rfl) (.consG (pre := [(6, .int .u8 a0)]) (dlt rfl rfl) rfl rfl rfl rfl (.cons rfl (fun he => he) .nil) (fun he => ok_leq (dlt rfl rfl) rfl rfl rfl) (.cons rfl (ok_andW (dlt rfl rfl) rfl rfl rfl (fun h => h)) (.cons rfl (ok_move (dlt rfl rfl) rfl rfl) (.consG (pre := []) (dlt rfl rfl) rfl rfl rfl rfl .nil (fun he => ok_move (dlt rfl rfl) rfl rfl) (.consG (pre := [(10, .int .u8 a0)]) (dlt rfl rfl) rfl rfl rfl rfl (.cons rfl (fun he => he) .nil) (fun he => ok_geq (dlt rfl rfl) rfl rfl rfl) (.consG (pre := [(11, .bool (decide ((65 : Int) ≤ a0)))]) (dlt rfl rfl) rfl rfl rfl rfl (.cons rfl (fun he => he) .nil) (fun he => ok_move (dlt rfl rfl) rfl rfl) (.consG (pre := []) (dlt rfl rfl) rfl rfl rfl rfl .nil (fun he => ok_move (dlt rfl rfl) rfl rfl) (.consG (pre := [(13, .int .u8 a0)]) (dlt rfl rfl) rfl rfl rfl rfl (.cons rfl (fun he => he) .nil) (fun he => ok_leq (dlt rfl rfl) rfl rfl rfl) (.consG (pre := [(12, .bool (decide ((65 : Int) ≤ a0)))]) (dlt rfl rfl) rfl rfl rfl rfl (.cons rfl (fun he => he) .nil) (fun he => ok_andW (dlt rfl rfl) rfl rfl rfl (fun h => band_i he h)) (.cons rfl (ok_orW (dlt rfl rfl) rfl rfl rfl (fun h => (bnot_t h))) (.cons rfl (ok_assign (dlt rfl rfl) rfl rfl) (.nil ?_))))))))))))))))
  obtain rfl := Option.some.inj h
  refine ak_conv (Γ' := [(2, .bool (((decide ((97 : Int) ≤ a0)) && (decide (a0 ≤ (122 : Int)))) || ((decide ((65 : Int) ≤ a0)) && (decide (a0 ≤ (90 : Int))))))]) (σ' := []) (.cons rfl (.refl _) (.nil _)) (.nil _) ?_
  exact ak_ret (fn := Tryz.f212) Tryz.func212 rfl trivial rfl)
theorem d212 {a0 : Int} {r : Bool} (h : f212 (.e212 a0) = some r) : Does Tryz.prog GG 212 [.int .u8 a0] [] (fun z _ => z = .bool r) := fn_of (fn := Tryz.f212) Tryz.func212 rfl Tryz.ntmps212 rfl (w212 _ _ h)
/-- riffle/riffleref04.Step -/
noncomputable abbrev b184 : Code := codeOf Tryz.f184
inductive L184 where
 | e184 (a0 : List UInt8) (a1 : Int)
noncomputable def f184 : L184 → Option Int
 | .e184 a0 a1 =>
  need (a1 = ((toU8 a1).toNat : Int)) >>= fun v1 =>
  need (a0.length + ([(toU8 a1)] : List UInt8).length ≤ 9223372036854775807) >>= fun v2 =>
  f185 (.e185 (a0 ++ ([(toU8 a1)] : List UInt8))) >>= fun v3 =>
  gd (!v3) (need ((a0 ++ ([(toU8 a1)] : List UInt8)).length + ([49] : List UInt8).length ≤ 9223372036854775807)) >>= fun v4 =>
  gd (!v3) (f185 (.e185 ((a0 ++ ([(toU8 a1)] : List UInt8)) ++ ([49] : List UInt8)))) >>= fun v5 =>
  if (v3 || v5) = true then
   some (0 : Int)
  else
   f185 (.e185 a0) >>= fun v6 =>
   gd v6 (f181 (.e181 a1)) >>= fun v7 =>
   gd (v6 && (!v7)) (f212 (.e212 a1)) >>= fun v8 =>
   if (((((v6 && (!v7)) && (!v8)) && (a1 != (46 : Int))) && (a1 != (43 : Int))) && (a1 != (45 : Int))) = true then
    some (1 : Int)
   else
    some (2 : Int)
def M184 : L184 → Int → Prop
 | .e184 a0 a1, r => ∀ (w : World) (F : Nat → Prop) (ρ : Rho), AK Tryz.prog (ctx GG 42 w F ρ []) 184 [.code b184] (argE 0 [.str a0, .int .u8 a1]) [] (fun z _ => z = .int .i64 r)
theorem w184 : ∀ (l : L184) (r : Int), f184 l = some r → M184 l r := (by
 intro l r h
 cases l with
 | e184 a0 a1 =>
  intro w F ρ
  dsimp only [f184] at h
  refine ak_seq ?_
  refine ak_regionS (.cons rfl (ok_assign (dlt rfl rfl) rfl rfl) (.nil ?_))
  refine ak_seq ?_
  obtain ⟨v1, hv1, h⟩ := bind_of h
  obtain ⟨v2, hv2, h⟩ := bind_of h
  refine ak_regionS (.cons rfl (ok_move (dlt rfl rfl) rfl rfl) (.cons rfl (ok_move (dlt rfl rfl) rfl rfl) (.cons rfl (ok_litS (τ := Ty.u8) (dlt rfl rfl) ([(toU8 a1)] : List UInt8) rfl Tryz.underlying22 ty5 rfl rfl rfl rfl rfl (by decide) (by decide) rfl (.cons (sub_int (need_of hv1)) (.nil))) (.cons rfl (ok_bytesF (τ := Ty.u8) (xs := ([(toU8 a1)] : List UInt8)) (dlt rfl rfl) (fun x => x) rfl Tryz.underlying22 Tryz.underlying5 Tryz.underlying9 (fun _ => rfl) rfl (map_idf _) rfl) (.cons rfl (ok_cat (dlt rfl rfl) rfl rfl rfl (need_of hv2)) (.cons rfl (ok_assign (dlt rfl rfl) rfl rfl) (.nil ?_)))))))
  refine ak_seq ?_
  refine ak_seq ?_
  obtain ⟨v3, hv3, h⟩ := bind_of h
  obtain ⟨v4, hv4, h⟩ := bind_of h
  obtain ⟨v5, hv5, h⟩ := bind_of h
  refine ak_regionS (.cons rfl (ok_move (dlt rfl rfl) rfl rfl) (.cons rfl (ok_call (xs := [.str (a0 ++ ([(toU8 a1)] : List UInt8))]) (caps := []) (dlt rfl rfl) rfl rfl Tryz.func185 rfl rfl rfl (d185 hv3) rfl) (.cons rfl (ok_move (dlt rfl rfl) rfl rfl) (.consG (pre := []) (dlt rfl rfl) rfl rfl rfl rfl .nil (fun he => ok_move (dlt rfl rfl) rfl rfl) (.consG (pre := [(14, .str (a0 ++ ([(toU8 a1)] : List UInt8)))]) (dlt rfl rfl) rfl rfl rfl rfl (.cons rfl (fun he => he) .nil) (fun he => ok_cat (dlt rfl rfl) rfl rfl rfl (need_of (gd_t hv4 he))) (.consG (pre := [(15, .str ((a0 ++ ([(toU8 a1)] : List UInt8)) ++ ([49] : List UInt8)))]) (dlt rfl rfl) rfl rfl rfl rfl (.cons rfl (fun he => he) .nil) (fun he => ok_call (xs := [.str ((a0 ++ ([(toU8 a1)] : List UInt8)) ++ ([49] : List UInt8))]) (caps := []) (dlt rfl rfl) rfl rfl Tryz.func185 rfl rfl rfl (d185 (gd_t hv5 he)) rfl) (.cons rfl (ok_orW (dlt rfl rfl) rfl rfl rfl (fun h => (bnot_t h))) (.nil ?_))))))))
  refine ak_cond rfl (fun ht => ?_) (fun ht => ?_)
  ·have h := cond_t ht h
   refine ak_seq ?_
   refine ak_regionS (.cons rfl (ok_assign (dlt rfl rfl) rfl rfl) (.nil ?_))
   obtain rfl := Option.some.inj h
   refine ak_conv (Γ' := [(4, .int .i64 (0 : Int))]) (σ' := []) (.cons rfl (.refl _) (.nil _)) (.nil _) ?_
   exact ak_ret (fn := Tryz.f184) Tryz.func184 rfl trivial rfl
  ·have h := cond_f ht h
   refine ak_skip ?_
   refine ak_seq ?_
   refine ak_seq ?_
   obtain ⟨v6, hv6, h⟩ := bind_of h
   obtain ⟨v7, hv7, h⟩ := bind_of h
   obtain ⟨v8, hv8, h⟩ := bind_of h
   refine ak_regionS (.cons rfl (ok_move (dlt rfl rfl) rfl rfl) (.cons rfl (ok_call (xs := [.str a0]) (caps := []) (dlt rfl rfl) rfl rfl Tryz.func185 rfl rfl rfl (d185 hv6) rfl) (.cons rfl (ok_move (dlt rfl rfl) rfl rfl) (.consG (pre := []) (dlt rfl rfl) rfl rfl rfl rfl .nil (fun he => ok_move (dlt rfl rfl) rfl rfl) (.consG (pre := [(21, .int .u8 a1)]) (dlt rfl rfl) rfl rfl rfl rfl (.cons rfl (fun he => he) .nil) (fun he => ok_call (xs := [.int .u8 a1]) (caps := []) (dlt rfl rfl) rfl rfl Tryz.func181 rfl rfl rfl (d181 (gd_t hv7 he)) rfl) (.consG (pre := [(22, .bool v7)]) (dlt rfl rfl) rfl rfl rfl rfl (.cons rfl (fun he => he) .nil) (fun he => ok_not (dlt rfl rfl) rfl rfl) (.cons rfl (ok_andW (dlt rfl rfl) rfl rfl rfl (fun h => h)) (.cons rfl (ok_move (dlt rfl rfl) rfl rfl) (.consG (pre := []) (dlt rfl rfl) rfl rfl rfl rfl .nil (fun he => ok_move (dlt rfl rfl) rfl rfl) (.consG (pre := [(26, .int .u8 a1)]) (dlt rfl rfl) rfl rfl rfl rfl (.cons rfl (fun he => he) .nil) (fun he => ok_call (xs := [.int .u8 a1]) (caps := []) (dlt rfl rfl) rfl rfl Tryz.func212 rfl rfl rfl (d212 (gd_t hv8 he)) rfl) (.consG (pre := [(27, .bool v8)]) (dlt rfl rfl) rfl rfl rfl rfl (.cons rfl (fun he => he) .nil) (fun he => ok_not (dlt rfl rfl) rfl rfl) (.cons rfl (ok_andW (dlt rfl rfl) rfl rfl rfl (fun h => h)) (.cons rfl (ok_move (dlt rfl rfl) rfl rfl) (.consG (pre := []) (dlt rfl rfl) rfl rfl rfl rfl .nil (fun he => ok_move (dlt rfl rfl) rfl rfl) (.consG (pre := [(31, .int .u8 a1)]) (dlt rfl rfl) rfl rfl rfl rfl (.cons rfl (fun he => he) .nil) (fun he => ok_neq (dlt rfl rfl) rfl rfl rfl) (.cons rfl (ok_andW (dlt rfl rfl) rfl rfl rfl (fun h => h)) (.cons rfl (ok_move (dlt rfl rfl) rfl rfl) (.consG (pre := []) (dlt rfl rfl) rfl rfl rfl rfl .nil (fun he => ok_move (dlt rfl rfl) rfl rfl) (.consG (pre := [(35, .int .u8 a1)]) (dlt rfl rfl) rfl rfl rfl rfl (.cons rfl (fun he => he) .nil) (fun he => ok_neq (dlt rfl rfl) rfl rfl rfl) (.cons rfl (ok_andW (dlt rfl rfl) rfl rfl rfl (fun h => h)) (.cons rfl (ok_move (dlt rfl rfl) rfl rfl) (.consG (pre := []) (dlt rfl rfl) rfl rfl rfl rfl .nil (fun he => ok_move (dlt rfl rfl) rfl rfl) (.consG (pre := [(39, .int .u8 a1)]) (dlt rfl rfl) rfl rfl rfl rfl (.cons rfl (fun he => he) .nil) (fun he => ok_neq (dlt rfl rfl) rfl rfl rfl) (.cons rfl (ok_andW (dlt rfl rfl) rfl rfl rfl (fun h => h)) (.nil ?_)))))))))))))))))))))))))
   refine ak_cond rfl (fun ht => ?_) (fun ht => ?_)
   ·have h := cond_t ht h
    refine ak_seq ?_
    refine ak_regionS (.cons rfl (ok_assign (dlt rfl rfl) rfl rfl) (.nil ?_))
    obtain rfl := Option.some.inj h
    refine ak_conv (Γ' := [(4, .int .i64 (1 : Int))]) (σ' := []) (.cons rfl (.refl _) (.nil _)) (.nil _) ?_
    exact ak_ret (fn := Tryz.f184) Tryz.func184 rfl trivial rfl
   ·have h := cond_f ht h
    refine ak_skip ?_
    refine ak_seq ?_
    refine ak_regionS (.cons rfl (ok_assign (dlt rfl rfl) rfl rfl) (.nil ?_))
    obtain rfl := Option.some.inj h
    refine ak_conv (Γ' := [(4, .int .i64 (2 : Int))]) (σ' := []) (.cons rfl (.refl _) (.nil _)) (.nil _) ?_
    exact ak_ret (fn := Tryz.f184) Tryz.func184 rfl trivial rfl)
theorem d184 {a0 : List UInt8} {a1 : Int} {r : Int} (h : f184 (.e184 a0 a1) = some r) : Does Tryz.prog GG 184 [.str a0, .int .u8 a1] [] (fun z _ => z = .int .i64 r) := fn_of (fn := Tryz.f184) Tryz.func184 rfl Tryz.ntmps184 rfl (w184 _ _ h)
end Go.Proofs.YtonlbdholdaifaaGreatDoor
end
section
set_option linter.unusedVariables false
set_option linter.unusedSimpArgs false
set_option maxRecDepth 10000
namespace Go.Proofs.YtonlbdholdaifaaGreatDoor
open Go Go.Rf Go.Proofs
/-- riffle/riffleref10.number -/
noncomputable abbrev b132 : Code := codeOf Tryz.f132
inductive L132 where
 | e132 (a0 : List UInt8) (a1 : Int) (a2 : Bool)
 | l132_0 (a0 : List UInt8) (a1 : Int) (a2 : Int) (a3 : Bool) (a4 : Int) (a5 : Int) (a6 : Int) (a7 : List UInt8) (a8 : Bool) (a9 : Int) (a10 : Int) (a11 : Int) (a12 : Int) (a13 : Int) (a14 : List UInt8)
noncomputable def f132 : L132 → Option Ref10Part
 | .e132 a0 a1 a2 =>
  f132 (.l132_0 a0 a1 (0 : Int) a2 (0 : Int) (0 : Int) (0 : Int) [] false (0 : Int) (0 : Int) (2 : Int) a1 (0 : Int) [])
 | .l132_0 a0 a1 a2 a3 a4 a5 a6 a7 a8 a9 a10 a11 a12 a13 a14 =>
  if (decide ((IntKind.wrap .i64 (a1 + a2)) < (a0.length : Int))) = true then
   need (0 ≤ a1 ∧ a1 ≤ (IntKind.wrap .i64 (a1 + a2)) ∧ (IntKind.wrap .i64 (a1 + a2)) ≤ (a0.length : Int)) >>= fun v1 =>
   idx a0 (IntKind.wrap .i64 (a1 + a2)) >>= fun v2 =>
   f184 (.e184 ((a0.take (IntKind.wrap .i64 (a1 + a2)).toNat).drop a1.toNat) (v2.toNat : Int)) >>= fun v3 =>
   if (v3 == (2 : Int)) = true then
    f183 (.e183 (⟨a11, a12, a13, a14, ([] : List ApiValue), ([] : List (List UInt8))⟩ : ApiValue) (5 : Int) (IntKind.wrap .i64 (a1 + a2))) >>= fun v4 =>
    some v4
   else
    if (v3 == (1 : Int)) = true then
     gd (!(!true)) (need (0 ≤ a1 ∧ a1 ≤ (IntKind.wrap .i64 (a1 + a2)) ∧ (IntKind.wrap .i64 (a1 + a2)) ≤ (a0.length : Int))) >>= fun v5 =>
     gd (!(!true)) (f185 (.e185 ((a0.take (IntKind.wrap .i64 (a1 + a2)).toNat).drop a1.toNat))) >>= fun v6 =>
     if ((!true) || (!v6)) = true then
      f183 (.e183 (⟨a11, a12, a13, a14, ([] : List ApiValue), ([] : List (List UInt8))⟩ : ApiValue) (10 : Int) (a0.length : Int)) >>= fun v7 =>
      some v7
     else
      need (0 ≤ a1 ∧ a1 ≤ (IntKind.wrap .i64 (a1 + a2)) ∧ (IntKind.wrap .i64 (a1 + a2)) ≤ (a0.length : Int)) >>= fun v8 =>
      some (⟨(⟨a11, a12, IntKind.wrap .i64 (a1 + a2), (a0.take (IntKind.wrap .i64 (a1 + a2)).toNat).drop a1.toNat, ([] : List ApiValue), ([] : List (List UInt8))⟩ : ApiValue), true, IntKind.wrap .i64 (a1 + a2), 0⟩ : Ref10Part)
    else
     f132 (.l132_0 a0 a1 (IntKind.wrap .i64 (a2 + (1 : Int))) a3 a4 a5 a6 a7 a8 a9 a10 a11 a12 a13 a14)
  else
   gd (!(!a3)) (need (0 ≤ a1 ∧ a1 ≤ (IntKind.wrap .i64 (a1 + a2)) ∧ (IntKind.wrap .i64 (a1 + a2)) ≤ (a0.length : Int))) >>= fun v9 =>
   gd (!(!a3)) (f185 (.e185 ((a0.take (IntKind.wrap .i64 (a1 + a2)).toNat).drop a1.toNat))) >>= fun v10 =>
   if ((!a3) || (!v10)) = true then
    f183 (.e183 (⟨a11, a12, a13, a14, ([] : List ApiValue), ([] : List (List UInt8))⟩ : ApiValue) (10 : Int) (a0.length : Int)) >>= fun v11 =>
    some v11
   else
    need (0 ≤ a1 ∧ a1 ≤ (IntKind.wrap .i64 (a1 + a2)) ∧ (IntKind.wrap .i64 (a1 + a2)) ≤ (a0.length : Int)) >>= fun v12 =>
    some (⟨(⟨a11, a12, IntKind.wrap .i64 (a1 + a2), (a0.take (IntKind.wrap .i64 (a1 + a2)).toNat).drop a1.toNat, ([] : List ApiValue), ([] : List (List UInt8))⟩ : ApiValue), true, IntKind.wrap .i64 (a1 + a2), 0⟩ : Ref10Part)
 partial_fixpoint
def M132 : L132 → Ref10Part → Prop
 | .e132 a0 a1 a2, r => ∀ (w : World) (F : Nat → Prop) (ρ : Rho), AK Tryz.prog (ctx GG 75 w F ρ []) 132 [.code b132] (argE 0 [.str a0, .int .i64 a1, .bool a2]) [] (fun z _ => z = .agg [.int .i64 r.value.kind, .int .i64 r.value.frm, .int .i64 r.value.to, .str r.value.text, .sl Ty.sApiValue r.value.items, .sl Ty.str r.value.names, .bool r.begun, .int .i64 r.pos, .int .i64 r.fault])
 | .l132_0 a0 a1 a2 a3 a4 a5 a6 a7 a8 a9 a10 a11 a12 a13 a14, r => ∀ (w : World) (F : Nat → Prop) (ρ : Rho), AK Tryz.prog (ctx GG 75 w F ρ []) 132 [.code (c1 (c1 (c1 (c2 (c2 (c2 (c2 b132))))))), .inLoop (c1 (c1 (c1 (c2 (c2 (c2 (c2 b132))))))), .inBlock 0, .code (c2 (c2 (c2 (c2 (c2 b132)))))] [(0, .str a0), (1, .int .i64 a1), (6, .ref 6 0), (7, .int .i64 a2), (8, .bool a3), (9, .ref 9 0)] [(6, .cells 139 [.int .i64 a4, .int .i64 a5, .int .i64 a6, .str a7, .nils, .nils, .bool a8, .int .i64 a9, .int .i64 a10]), (9, .cells 29 [.int .i64 a11, .int .i64 a12, .int .i64 a13, .str a14, .nils, .nils])] (fun z _ => z = .agg [.int .i64 r.value.kind, .int .i64 r.value.frm, .int .i64 r.value.to, .str r.value.text, .sl Ty.sApiValue r.value.items, .sl Ty.str r.value.names, .bool r.begun, .int .i64 r.pos, .int .i64 r.fault])
theorem w132 : ∀ (l : L132) (r : Ref10Part), f132 l = some r → M132 l r := f132.partial_correctness M132 (by
 intro f ih l r h
 cases l with
 | e132 a0 a1 a2 =>
  intro w F ρ
  dsimp only at h
  refine ak_seq ?_
  refine ak_regionS (.cons rfl (ok_alloc (d := 6) (dlt rfl rfl) rfl ty139 rfl rfl rfl) (.nil ?_))
  refine ak_seq ?_
  refine ak_regionS (.cons rfl (ok_assign (dlt rfl rfl) rfl rfl) (.nil ?_))
  refine ak_seq ?_
  refine ak_regionS (.cons rfl (ok_move (dlt rfl rfl) rfl rfl) (.cons rfl (ok_assign (dlt rfl rfl) rfl rfl) (.nil ?_)))
  refine ak_seq ?_
  refine ak_regionS (.cons rfl (ok_move (dlt rfl rfl) rfl rfl) (.cons rfl (ok_build (dlt rfl rfl) rfl ty29 rfl pl29 rfl rfl rfl) (.cons rfl (ok_alloc (d := 9) (dlt rfl rfl) rfl ty29 rfl rfl rfl) (.cons rfl (ok_storeV rfl rfl ty29 rfl rfl rfl rfl (by decide) rfl rfl) (.nil ?_)))))
  refine ak_seq ?_
  refine ak_block ?_
  refine ak_loop ?_
  exact ak_conv (.cons rfl (.refl _) (.cons rfl (.refl _) (.cons rfl (.refl _) (.cons rfl (.refl _) (.cons rfl (.refl _) (.cons rfl (.refl _) (.nil _))))))) (.cons rfl (.refl _) (.cons rfl (.refl _) (.nil _))) (ih _ _ h w F ρ)
 | l132_0 a0 a1 a2 a3 a4 a5 a6 a7 a8 a9 a10 a11 a12 a13 a14 =>
  intro w F ρ
  dsimp only at h
  refine ak_seq ?_
  refine ak_seq ?_
  refine ak_regionS (.cons rfl (ok_move (dlt rfl rfl) rfl rfl) (.cons rfl (ok_move (dlt rfl rfl) rfl rfl) (.cons rfl (ok_add (dlt rfl rfl) rfl rfl rfl) (.cons rfl (ok_move (dlt rfl rfl) rfl rfl) (.cons rfl (ok_lenT (s := a0) (dlt rfl rfl) rfl Tryz.underlying9 rfl) (.cons rfl (ok_lss (dlt rfl rfl) rfl rfl rfl) (.nil ?_)))))))
  refine ak_cond rfl (fun ht => ?_) (fun ht => ?_)
  ·have h := cond_t ht h
   refine ak_skip ?_
   refine ak_block ?_
   refine ak_seq ?_
   obtain ⟨v1, hv1, h⟩ := bind_of h
   obtain ⟨v2, hv2, h⟩ := bind_of h
   obtain ⟨v3, hv3, h⟩ := bind_of h
   refine ak_drawL [⟨some 20, [(0, .str a0)], none, true, .str a0, [], []⟩,
  ⟨some 21, [(1, .int .i64 a1)], none, true, .int .i64 a1, [], []⟩,
  ⟨some 22, [(1, .int .i64 a1)], none, true, .int .i64 a1, [], []⟩,
  ⟨some 23, [(7, .int .i64 a2)], none, true, .int .i64 a2, [], []⟩,
  ⟨some 24, [(22, .int .i64 a1), (23, .int .i64 a2)], none, true, .int .i64 (IntKind.wrap .i64 (a1 + a2)), [], []⟩,
  ⟨some 25, [(20, .str a0), (21, .int .i64 a1), (24, .int .i64 (IntKind.wrap .i64 (a1 + a2)))], none, true, .str ((a0.take (IntKind.wrap .i64 (a1 + a2)).toNat).drop a1.toNat), [], []⟩,
  ⟨some 26, [(0, .str a0)], none, true, .str a0, [], []⟩,
  ⟨some 27, [(1, .int .i64 a1)], none, true, .int .i64 a1, [], []⟩,
  ⟨some 28, [(7, .int .i64 a2)], none, true, .int .i64 a2, [], []⟩,
  ⟨some 29, [(27, .int .i64 a1), (28, .int .i64 a2)], none, true, .int .i64 (IntKind.wrap .i64 (a1 + a2)), [], []⟩,
  ⟨some 30, [(26, .str a0), (29, .int .i64 (IntKind.wrap .i64 (a1 + a2)))], none, true, .int .u8 (v2.toNat : Int), [], []⟩,
  ⟨some 31, [(25, .str ((a0.take (IntKind.wrap .i64 (a1 + a2)).toNat).drop a1.toNat)), (30, .int .u8 (v2.toNat : Int))], none, true, .int .i64 v3, [], []⟩,
  ⟨some 10, [(31, .int .i64 v3)], none, true, .int .i64 v3, [], []⟩] [[], [], [], [], [2, 3], [0, 1, 2, 3, 4], [], [], [], [7, 8], [6, 7, 8, 9], [0, 1, 2, 3, 4, 5, 6, 7, 8, 9, 10], [0, 1, 2, 3, 4, 5, 6, 7, 8, 9, 10, 11]] (by kernel_rfl) (by kernel_rfl) (.cons (qok (dlt rfl rfl) rfl (.same rfl .nil) (NeedQ.all .nil) (fun Γx σx => ok_move (dlt rfl rfl) rfl rfl)) (.cons (qok (dlt rfl rfl) rfl (.same rfl .nil) (NeedQ.all .nil) (fun Γx σx => ok_move (dlt rfl rfl) rfl rfl)) (.cons (qok (dlt rfl rfl) rfl (.same rfl .nil) (NeedQ.all .nil) (fun Γx σx => ok_move (dlt rfl rfl) rfl rfl)) (.cons (qok (dlt rfl rfl) rfl (.same rfl .nil) (NeedQ.all .nil) (fun Γx σx => ok_move (dlt rfl rfl) rfl rfl)) (.cons (qok (dlt rfl rfl) rfl (.same rfl (.same rfl .nil)) (NeedQ.all .nil) (fun Γx σx => ok_add (dlt rfl rfl) rfl rfl rfl)) (.cons (qok (dlt rfl rfl) rfl (.same rfl (.same rfl (.same rfl .nil))) (NeedQ.all .nil) (fun Γx σx => ok_cutLH (dlt rfl rfl) rfl Tryz.underlying9 rfl rfl rfl (need_of hv1).1 (need_of hv1).2.1 (need_of hv1).2.2)) (.cons (qok (dlt rfl rfl) rfl (.same rfl .nil) (NeedQ.all .nil) (fun Γx σx => ok_move (dlt rfl rfl) rfl rfl)) (.cons (qok (dlt rfl rfl) rfl (.same rfl .nil) (NeedQ.all .nil) (fun Γx σx => ok_move (dlt rfl rfl) rfl rfl)) (.cons (qok (dlt rfl rfl) rfl (.same rfl .nil) (NeedQ.all .nil) (fun Γx σx => ok_move (dlt rfl rfl) rfl rfl)) (.cons (qok (dlt rfl rfl) rfl (.same rfl (.same rfl .nil)) (NeedQ.all .nil) (fun Γx σx => ok_add (dlt rfl rfl) rfl rfl rfl)) (.cons (qok (dlt rfl rfl) rfl (.same rfl (.same rfl .nil)) (NeedQ.all .nil) (fun Γx σx => ok_byte (s := a0) (c := v2) (dlt rfl rfl) rfl Tryz.underlying9 rfl rfl (idx_0 hv2) (idx_1 hv2))) (.cons (qok (dlt rfl rfl) rfl (.same rfl (.same rfl .nil)) (NeedQ.all .nil) (fun Γx σx => ok_call (xs := [.str ((a0.take (IntKind.wrap .i64 (a1 + a2)).toNat).drop a1.toNat), .int .u8 (v2.toNat : Int)]) (caps := []) (dlt rfl rfl) rfl rfl Tryz.func184 rfl rfl rfl (d184 hv3) rfl)) (.cons (qok (dlt rfl rfl) rfl (.same rfl .nil) (NeedQ.all .nil) (fun Γx σx => ok_assign (dlt rfl rfl) rfl rfl)) (.nil _ _)))))))))))))) (.nil ?_)
   refine ak_seq ?_
   refine ak_seq ?_
   refine ak_regionS (.cons rfl (ok_move (dlt rfl rfl) rfl rfl) (.cons rfl (ok_eql (dlt rfl rfl) rfl rfl rfl) (.nil ?_)))
   refine ak_cond rfl (fun ht => ?_) (fun ht => ?_)
   ·have h := cond_t ht h
    refine ak_seq ?_
    obtain ⟨v4, hv4, h⟩ := bind_of h
    refine ak_regionS (.cons rfl (ok_loadVT (dlt rfl rfl) rfl ty29 rfl rfl (by decide) rfl) (.cons rfl (ok_move (dlt rfl rfl) rfl rfl) (.cons rfl (ok_move (dlt rfl rfl) rfl rfl) (.cons rfl (ok_add (dlt rfl rfl) rfl rfl rfl) (.cons rfl (ok_call (xs := [.agg [.int .i64 a11, .int .i64 a12, .int .i64 a13, .str a14, .nils, .nils], .int .i64 (5 : Int), .int .i64 (IntKind.wrap .i64 (a1 + a2))]) (caps := []) (dlt rfl rfl) rfl rfl Tryz.func183 rfl rfl rfl (Does.sub (d183 hv4) (.cons (sub_agg (.cons (.refl _) (.cons (.refl _) (.cons (.refl _) (.cons (.refl _) (.cons (sub_nils Ty.sApiValue) (.cons (sub_nils Ty.str) (.nil)))))))) (.cons (.refl _) (.cons (.refl _) (.nil))))) rfl) (.cons rfl (ok_storeV rfl rfl ty139 rfl rfl rfl rfl (by decide) rfl rfl) (.nil ?_)))))))
    obtain rfl := Option.some.inj h
    refine ak_conv (Γ' := [(6, .ref 6 0)]) (σ' := [(6, .cells 139 [.int .i64 v4.value.kind, .int .i64 v4.value.frm, .int .i64 v4.value.to, .str v4.value.text, .sl Ty.sApiValue v4.value.items, .sl Ty.str v4.value.names, .bool v4.begun, .int .i64 v4.pos, .int .i64 v4.fault])]) (.cons rfl (.refl _) (.nil _)) (.cons rfl (.refl _) (.nil _)) ?_
    exact ak_ret (fn := Tryz.f132) Tryz.func132 rfl ⟨⟨_, _, _, _, _, _, rfl, rfl, ty139⟩, trivial⟩ rfl
   ·have h := cond_f ht h
    refine ak_skip ?_
    refine ak_seq ?_
    refine ak_seq ?_
    refine ak_regionS (.cons rfl (ok_move (dlt rfl rfl) rfl rfl) (.cons rfl (ok_eql (dlt rfl rfl) rfl rfl rfl) (.nil ?_)))
    refine ak_cond rfl (fun ht => ?_) (fun ht => ?_)
    ·have h := cond_t ht h
     refine ak_seq ?_
     refine ak_regionS (.cons rfl (ok_assign (dlt rfl rfl) rfl rfl) (.nil ?_))
     refine ak_exit rfl ?_
     refine ak_seq ?_
     refine ak_seq ?_
     obtain ⟨v5, hv5, h⟩ := bind_of h
     obtain ⟨v6, hv6, h⟩ := bind_of h
     refine ak_regionS (.cons rfl (ok_move (dlt rfl rfl) rfl rfl) (.cons rfl (ok_not (dlt rfl rfl) rfl rfl) (.cons rfl (ok_move (dlt rfl rfl) rfl rfl) (.consG (pre := []) (dlt rfl rfl) rfl rfl rfl rfl .nil (fun he => ok_move (dlt rfl rfl) rfl rfl) (.consG (pre := []) (dlt rfl rfl) rfl rfl rfl rfl .nil (fun he => ok_move (dlt rfl rfl) rfl rfl) (.consG (pre := []) (dlt rfl rfl) rfl rfl rfl rfl .nil (fun he => ok_move (dlt rfl rfl) rfl rfl) (.consG (pre := []) (dlt rfl rfl) rfl rfl rfl rfl .nil (fun he => ok_move (dlt rfl rfl) rfl rfl) (.consG (pre := [(48, .int .i64 a1), (49, .int .i64 a2)]) (dlt rfl rfl) rfl rfl rfl rfl (.cons rfl (fun he => he) (.cons rfl (fun he => he) .nil)) (fun he => ok_add (dlt rfl rfl) rfl rfl rfl) (.consG (pre := [(46, .str a0), (47, .int .i64 a1), (50, .int .i64 (IntKind.wrap .i64 (a1 + a2)))]) (dlt rfl rfl) rfl rfl rfl rfl (.cons rfl (fun he => he) (.cons rfl (fun he => he) (.cons rfl (fun he => he) .nil))) (fun he => ok_cutLH (dlt rfl rfl) rfl Tryz.underlying9 rfl rfl rfl (need_of (gd_t hv5 he)).1 (need_of (gd_t hv5 he)).2.1 (need_of (gd_t hv5 he)).2.2) (.consG (pre := [(51, .str ((a0.take (IntKind.wrap .i64 (a1 + a2)).toNat).drop a1.toNat))]) (dlt rfl rfl) rfl rfl rfl rfl (.cons rfl (fun he => he) .nil) (fun he => ok_call (xs := [.str ((a0.take (IntKind.wrap .i64 (a1 + a2)).toNat).drop a1.toNat)]) (caps := []) (dlt rfl rfl) rfl rfl Tryz.func185 rfl rfl rfl (d185 (gd_t hv6 he)) rfl) (.consG (pre := [(52, .bool v6)]) (dlt rfl rfl) rfl rfl rfl rfl (.cons rfl (fun he => he) .nil) (fun he => ok_not (dlt rfl rfl) rfl rfl) (.cons rfl (ok_orW (dlt rfl rfl) rfl rfl rfl (fun h => (bnot_t h))) (.nil ?_)))))))))))))
     refine ak_cond rfl (fun ht => ?_) (fun ht => ?_)
     ·have h := cond_t ht h
      refine ak_seq ?_
      obtain ⟨v7, hv7, h⟩ := bind_of h
      refine ak_regionS (.cons rfl (ok_loadVT (dlt rfl rfl) rfl ty29 rfl rfl (by decide) rfl) (.cons rfl (ok_move (dlt rfl rfl) rfl rfl) (.cons rfl (ok_lenT (s := a0) (dlt rfl rfl) rfl Tryz.underlying9 rfl) (.cons rfl (ok_call (xs := [.agg [.int .i64 a11, .int .i64 a12, .int .i64 a13, .str a14, .nils, .nils], .int .i64 (10 : Int), .int .i64 (a0.length : Int)]) (caps := []) (dlt rfl rfl) rfl rfl Tryz.func183 rfl rfl rfl (Does.sub (d183 hv7) (.cons (sub_agg (.cons (.refl _) (.cons (.refl _) (.cons (.refl _) (.cons (.refl _) (.cons (sub_nils Ty.sApiValue) (.cons (sub_nils Ty.str) (.nil)))))))) (.cons (.refl _) (.cons (.refl _) (.nil))))) rfl) (.cons rfl (ok_storeV rfl rfl ty139 rfl rfl rfl rfl (by decide) rfl rfl) (.nil ?_))))))
      obtain rfl := Option.some.inj h
      refine ak_conv (Γ' := [(6, .ref 6 0)]) (σ' := [(6, .cells 139 [.int .i64 v7.value.kind, .int .i64 v7.value.frm, .int .i64 v7.value.to, .str v7.value.text, .sl Ty.sApiValue v7.value.items, .sl Ty.str v7.value.names, .bool v7.begun, .int .i64 v7.pos, .int .i64 v7.fault])]) (.cons rfl (.refl _) (.nil _)) (.cons rfl (.refl _) (.nil _)) ?_
      exact ak_ret (fn := Tryz.f132) Tryz.func132 rfl ⟨⟨_, _, _, _, _, _, rfl, rfl, ty139⟩, trivial⟩ rfl
     ·have h := cond_f ht h
      refine ak_skip ?_
      refine ak_seq ?_
      refine ak_regionS (.cons rfl (ok_move (dlt rfl rfl) rfl rfl) (.cons rfl (ok_move (dlt rfl rfl) rfl rfl) (.cons rfl (ok_add (dlt rfl rfl) rfl rfl rfl) (.cons rfl (ok_fieldV (dlt rfl rfl) rfl fo29_2 ty3 (by decide) rfl) (.cons rfl (ok_storeV rfl rfl ty3 rfl rfl rfl rfl (by decide) rfl rfl) (.nil ?_))))))
      refine ak_seq ?_
      obtain ⟨v8, hv8, h⟩ := bind_of h
      refine ak_regionS (.cons rfl (ok_move (dlt rfl rfl) rfl rfl) (.cons rfl (ok_move (dlt rfl rfl) rfl rfl) (.cons rfl (ok_move (dlt rfl rfl) rfl rfl) (.cons rfl (ok_move (dlt rfl rfl) rfl rfl) (.cons rfl (ok_add (dlt rfl rfl) rfl rfl rfl) (.cons rfl (ok_cutLH (dlt rfl rfl) rfl Tryz.underlying9 rfl rfl rfl (need_of hv8).1 (need_of hv8).2.1 (need_of hv8).2.2) (.cons rfl (ok_fieldV (dlt rfl rfl) rfl fo29_3 ty9 (by decide) rfl) (.cons rfl (ok_storeV rfl rfl ty9 rfl rfl rfl rfl (by decide) rfl rfl) (.nil ?_)))))))))
      refine ak_seq ?_
      refine ak_regionS (.cons rfl (ok_loadVT (dlt rfl rfl) rfl ty29 rfl rfl (by decide) rfl) (.cons rfl (ok_move (dlt rfl rfl) rfl rfl) (.cons rfl (ok_move (dlt rfl rfl) rfl rfl) (.cons rfl (ok_add (dlt rfl rfl) rfl rfl rfl) (.cons rfl (ok_build (dlt rfl rfl) rfl ty139 rfl pl139 rfl rfl rfl) (.cons rfl (ok_storeV rfl rfl ty139 rfl rfl rfl rfl (by decide) rfl rfl) (.nil ?_)))))))
      obtain rfl := Option.some.inj h
      refine ak_conv (Γ' := [(6, .ref 6 0)]) (σ' := [(6, .cells 139 [.int .i64 (((⟨(⟨a11, a12, IntKind.wrap .i64 (a1 + a2), (a0.take (IntKind.wrap .i64 (a1 + a2)).toNat).drop a1.toNat, ([] : List ApiValue), ([] : List (List UInt8))⟩ : ApiValue), true, IntKind.wrap .i64 (a1 + a2), 0⟩ : Ref10Part).value).kind), .int .i64 (((⟨(⟨a11, a12, IntKind.wrap .i64 (a1 + a2), (a0.take (IntKind.wrap .i64 (a1 + a2)).toNat).drop a1.toNat, ([] : List ApiValue), ([] : List (List UInt8))⟩ : ApiValue), true, IntKind.wrap .i64 (a1 + a2), 0⟩ : Ref10Part).value).frm), .int .i64 (((⟨(⟨a11, a12, IntKind.wrap .i64 (a1 + a2), (a0.take (IntKind.wrap .i64 (a1 + a2)).toNat).drop a1.toNat, ([] : List ApiValue), ([] : List (List UInt8))⟩ : ApiValue), true, IntKind.wrap .i64 (a1 + a2), 0⟩ : Ref10Part).value).to), .str (((⟨(⟨a11, a12, IntKind.wrap .i64 (a1 + a2), (a0.take (IntKind.wrap .i64 (a1 + a2)).toNat).drop a1.toNat, ([] : List ApiValue), ([] : List (List UInt8))⟩ : ApiValue), true, IntKind.wrap .i64 (a1 + a2), 0⟩ : Ref10Part).value).text), .sl Ty.sApiValue (((⟨(⟨a11, a12, IntKind.wrap .i64 (a1 + a2), (a0.take (IntKind.wrap .i64 (a1 + a2)).toNat).drop a1.toNat, ([] : List ApiValue), ([] : List (List UInt8))⟩ : ApiValue), true, IntKind.wrap .i64 (a1 + a2), 0⟩ : Ref10Part).value).items), .sl Ty.str (((⟨(⟨a11, a12, IntKind.wrap .i64 (a1 + a2), (a0.take (IntKind.wrap .i64 (a1 + a2)).toNat).drop a1.toNat, ([] : List ApiValue), ([] : List (List UInt8))⟩ : ApiValue), true, IntKind.wrap .i64 (a1 + a2), 0⟩ : Ref10Part).value).names), .bool ((⟨(⟨a11, a12, IntKind.wrap .i64 (a1 + a2), (a0.take (IntKind.wrap .i64 (a1 + a2)).toNat).drop a1.toNat, ([] : List ApiValue), ([] : List (List UInt8))⟩ : ApiValue), true, IntKind.wrap .i64 (a1 + a2), 0⟩ : Ref10Part).begun), .int .i64 ((⟨(⟨a11, a12, IntKind.wrap .i64 (a1 + a2), (a0.take (IntKind.wrap .i64 (a1 + a2)).toNat).drop a1.toNat, ([] : List ApiValue), ([] : List (List UInt8))⟩ : ApiValue), true, IntKind.wrap .i64 (a1 + a2), 0⟩ : Ref10Part).pos), .int .i64 ((⟨(⟨a11, a12, IntKind.wrap .i64 (a1 + a2), (a0.take (IntKind.wrap .i64 (a1 + a2)).toNat).drop a1.toNat, ([] : List ApiValue), ([] : List (List UInt8))⟩ : ApiValue), true, IntKind.wrap .i64 (a1 + a2), 0⟩ : Ref10Part).fault)])]) (.cons rfl (.refl _) (.nil _)) (.cons rfl (.cells (.cons (.refl _) (.cons (.refl _) (.cons (.refl _) (.cons (.refl _) (.cons (sub_nils Ty.sApiValue) (.cons (sub_nils Ty.str) (.cons (.refl _) (.cons (.refl _) (.cons (.refl _) (.nil))))))))))) (.nil _)) ?_
      exact ak_ret (fn := Tryz.f132) Tryz.func132 rfl ⟨⟨_, _, _, _, _, _, rfl, rfl, ty139⟩, trivial⟩ rfl
    ·have h := cond_f ht h
     refine ak_skip ?_
     refine ak_regionS (.cons rfl (ok_move (dlt rfl rfl) rfl rfl) (.cons rfl (ok_add (dlt rfl rfl) rfl rfl rfl) (.cons rfl (ok_assign (dlt rfl rfl) rfl rfl) (.nil ?_))))
     refine ak_inBlock ?_
     refine ak_inLoop ?_
     exact ak_conv (.cons rfl (.refl _) (.cons rfl (.refl _) (.cons rfl (.refl _) (.cons rfl (.refl _) (.cons rfl (.refl _) (.cons rfl (.refl _) (.nil _))))))) (.cons rfl (.refl _) (.cons rfl (.refl _) (.nil _))) (ih _ _ h w F ρ)
  ·have h := cond_f ht h
   refine ak_exit rfl ?_
   refine ak_seq ?_
   refine ak_seq ?_
   obtain ⟨v9, hv9, h⟩ := bind_of h
   obtain ⟨v10, hv10, h⟩ := bind_of h
   refine ak_regionS (.cons rfl (ok_move (dlt rfl rfl) rfl rfl) (.cons rfl (ok_not (dlt rfl rfl) rfl rfl) (.cons rfl (ok_move (dlt rfl rfl) rfl rfl) (.consG (pre := []) (dlt rfl rfl) rfl rfl rfl rfl .nil (fun he => ok_move (dlt rfl rfl) rfl rfl) (.consG (pre := []) (dlt rfl rfl) rfl rfl rfl rfl .nil (fun he => ok_move (dlt rfl rfl) rfl rfl) (.consG (pre := []) (dlt rfl rfl) rfl rfl rfl rfl .nil (fun he => ok_move (dlt rfl rfl) rfl rfl) (.consG (pre := []) (dlt rfl rfl) rfl rfl rfl rfl .nil (fun he => ok_move (dlt rfl rfl) rfl rfl) (.consG (pre := [(48, .int .i64 a1), (49, .int .i64 a2)]) (dlt rfl rfl) rfl rfl rfl rfl (.cons rfl (fun he => he) (.cons rfl (fun he => he) .nil)) (fun he => ok_add (dlt rfl rfl) rfl rfl rfl) (.consG (pre := [(46, .str a0), (47, .int .i64 a1), (50, .int .i64 (IntKind.wrap .i64 (a1 + a2)))]) (dlt rfl rfl) rfl rfl rfl rfl (.cons rfl (fun he => he) (.cons rfl (fun he => he) (.cons rfl (fun he => he) .nil))) (fun he => ok_cutLH (dlt rfl rfl) rfl Tryz.underlying9 rfl rfl rfl (need_of (gd_t hv9 he)).1 (need_of (gd_t hv9 he)).2.1 (need_of (gd_t hv9 he)).2.2) (.consG (pre := [(51, .str ((a0.take (IntKind.wrap .i64 (a1 + a2)).toNat).drop a1.toNat))]) (dlt rfl rfl) rfl rfl rfl rfl (.cons rfl (fun he => he) .nil) (fun he => ok_call (xs := [.str ((a0.take (IntKind.wrap .i64 (a1 + a2)).toNat).drop a1.toNat)]) (caps := []) (dlt rfl rfl) rfl rfl Tryz.func185 rfl rfl rfl (d185 (gd_t hv10 he)) rfl) (.consG (pre := [(52, .bool v10)]) (dlt rfl rfl) rfl rfl rfl rfl (.cons rfl (fun he => he) .nil) (fun he => ok_not (dlt rfl rfl) rfl rfl) (.cons rfl (ok_orW (dlt rfl rfl) rfl rfl rfl (fun h => (bnot_t h))) (.nil ?_)))))))))))))
   refine ak_cond rfl (fun ht => ?_) (fun ht => ?_)
   ·have h := cond_t ht h
    refine ak_seq ?_
    obtain ⟨v11, hv11, h⟩ := bind_of h
    refine ak_regionS (.cons rfl (ok_loadVT (dlt rfl rfl) rfl ty29 rfl rfl (by decide) rfl) (.cons rfl (ok_move (dlt rfl rfl) rfl rfl) (.cons rfl (ok_lenT (s := a0) (dlt rfl rfl) rfl Tryz.underlying9 rfl) (.cons rfl (ok_call (xs := [.agg [.int .i64 a11, .int .i64 a12, .int .i64 a13, .str a14, .nils, .nils], .int .i64 (10 : Int), .int .i64 (a0.length : Int)]) (caps := []) (dlt rfl rfl) rfl rfl Tryz.func183 rfl rfl rfl (Does.sub (d183 hv11) (.cons (sub_agg (.cons (.refl _) (.cons (.refl _) (.cons (.refl _) (.cons (.refl _) (.cons (sub_nils Ty.sApiValue) (.cons (sub_nils Ty.str) (.nil)))))))) (.cons (.refl _) (.cons (.refl _) (.nil))))) rfl) (.cons rfl (ok_storeV rfl rfl ty139 rfl rfl rfl rfl (by decide) rfl rfl) (.nil ?_))))))
    obtain rfl := Option.some.inj h
    refine ak_conv (Γ' := [(6, .ref 6 0)]) (σ' := [(6, .cells 139 [.int .i64 v11.value.kind, .int .i64 v11.value.frm, .int .i64 v11.value.to, .str v11.value.text, .sl Ty.sApiValue v11.value.items, .sl Ty.str v11.value.names, .bool v11.begun, .int .i64 v11.pos, .int .i64 v11.fault])]) (.cons rfl (.refl _) (.nil _)) (.cons rfl (.refl _) (.nil _)) ?_
    exact ak_ret (fn := Tryz.f132) Tryz.func132 rfl ⟨⟨_, _, _, _, _, _, rfl, rfl, ty139⟩, trivial⟩ rfl
   ·have h := cond_f ht h
    refine ak_skip ?_
    refine ak_seq ?_
    refine ak_regionS (.cons rfl (ok_move (dlt rfl rfl) rfl rfl) (.cons rfl (ok_move (dlt rfl rfl) rfl rfl) (.cons rfl (ok_add (dlt rfl rfl) rfl rfl rfl) (.cons rfl (ok_fieldV (dlt rfl rfl) rfl fo29_2 ty3 (by decide) rfl) (.cons rfl (ok_storeV rfl rfl ty3 rfl rfl rfl rfl (by decide) rfl rfl) (.nil ?_))))))
    refine ak_seq ?_
    obtain ⟨v12, hv12, h⟩ := bind_of h
    refine ak_regionS (.cons rfl (ok_move (dlt rfl rfl) rfl rfl) (.cons rfl (ok_move (dlt rfl rfl) rfl rfl) (.cons rfl (ok_move (dlt rfl rfl) rfl rfl) (.cons rfl (ok_move (dlt rfl rfl) rfl rfl) (.cons rfl (ok_add (dlt rfl rfl) rfl rfl rfl) (.cons rfl (ok_cutLH (dlt rfl rfl) rfl Tryz.underlying9 rfl rfl rfl (need_of hv12).1 (need_of hv12).2.1 (need_of hv12).2.2) (.cons rfl (ok_fieldV (dlt rfl rfl) rfl fo29_3 ty9 (by decide) rfl) (.cons rfl (ok_storeV rfl rfl ty9 rfl rfl rfl rfl (by decide) rfl rfl) (.nil ?_)))))))))
    refine ak_seq ?_
    refine ak_regionS (.cons rfl (ok_loadVT (dlt rfl rfl) rfl ty29 rfl rfl (by decide) rfl) (.cons rfl (ok_move (dlt rfl rfl) rfl rfl) (.cons rfl (ok_move (dlt rfl rfl) rfl rfl) (.cons rfl (ok_add (dlt rfl rfl) rfl rfl rfl) (.cons rfl (ok_build (dlt rfl rfl) rfl ty139 rfl pl139 rfl rfl rfl) (.cons rfl (ok_storeV rfl rfl ty139 rfl rfl rfl rfl (by decide) rfl rfl) (.nil ?_)))))))
    obtain rfl := Option.some.inj h
    refine ak_conv (Γ' := [(6, .ref 6 0)]) (σ' := [(6, .cells 139 [.int .i64 (((⟨(⟨a11, a12, IntKind.wrap .i64 (a1 + a2), (a0.take (IntKind.wrap .i64 (a1 + a2)).toNat).drop a1.toNat, ([] : List ApiValue), ([] : List (List UInt8))⟩ : ApiValue), true, IntKind.wrap .i64 (a1 + a2), 0⟩ : Ref10Part).value).kind), .int .i64 (((⟨(⟨a11, a12, IntKind.wrap .i64 (a1 + a2), (a0.take (IntKind.wrap .i64 (a1 + a2)).toNat).drop a1.toNat, ([] : List ApiValue), ([] : List (List UInt8))⟩ : ApiValue), true, IntKind.wrap .i64 (a1 + a2), 0⟩ : Ref10Part).value).frm), .int .i64 (((⟨(⟨a11, a12, IntKind.wrap .i64 (a1 + a2), (a0.take (IntKind.wrap .i64 (a1 + a2)).toNat).drop a1.toNat, ([] : List ApiValue), ([] : List (List UInt8))⟩ : ApiValue), true, IntKind.wrap .i64 (a1 + a2), 0⟩ : Ref10Part).value).to), .str (((⟨(⟨a11, a12, IntKind.wrap .i64 (a1 + a2), (a0.take (IntKind.wrap .i64 (a1 + a2)).toNat).drop a1.toNat, ([] : List ApiValue), ([] : List (List UInt8))⟩ : ApiValue), true, IntKind.wrap .i64 (a1 + a2), 0⟩ : Ref10Part).value).text), .sl Ty.sApiValue (((⟨(⟨a11, a12, IntKind.wrap .i64 (a1 + a2), (a0.take (IntKind.wrap .i64 (a1 + a2)).toNat).drop a1.toNat, ([] : List ApiValue), ([] : List (List UInt8))⟩ : ApiValue), true, IntKind.wrap .i64 (a1 + a2), 0⟩ : Ref10Part).value).items), .sl Ty.str (((⟨(⟨a11, a12, IntKind.wrap .i64 (a1 + a2), (a0.take (IntKind.wrap .i64 (a1 + a2)).toNat).drop a1.toNat, ([] : List ApiValue), ([] : List (List UInt8))⟩ : ApiValue), true, IntKind.wrap .i64 (a1 + a2), 0⟩ : Ref10Part).value).names), .bool ((⟨(⟨a11, a12, IntKind.wrap .i64 (a1 + a2), (a0.take (IntKind.wrap .i64 (a1 + a2)).toNat).drop a1.toNat, ([] : List ApiValue), ([] : List (List UInt8))⟩ : ApiValue), true, IntKind.wrap .i64 (a1 + a2), 0⟩ : Ref10Part).begun), .int .i64 ((⟨(⟨a11, a12, IntKind.wrap .i64 (a1 + a2), (a0.take (IntKind.wrap .i64 (a1 + a2)).toNat).drop a1.toNat, ([] : List ApiValue), ([] : List (List UInt8))⟩ : ApiValue), true, IntKind.wrap .i64 (a1 + a2), 0⟩ : Ref10Part).pos), .int .i64 ((⟨(⟨a11, a12, IntKind.wrap .i64 (a1 + a2), (a0.take (IntKind.wrap .i64 (a1 + a2)).toNat).drop a1.toNat, ([] : List ApiValue), ([] : List (List UInt8))⟩ : ApiValue), true, IntKind.wrap .i64 (a1 + a2), 0⟩ : Ref10Part).fault)])]) (.cons rfl (.refl _) (.nil _)) (.cons rfl (.cells (.cons (.refl _) (.cons (.refl _) (.cons (.refl _) (.cons (.refl _) (.cons (sub_nils Ty.sApiValue) (.cons (sub_nils Ty.str) (.cons (.refl _) (.cons (.refl _) (.cons (.refl _) (.nil))))))))))) (.nil _)) ?_
    exact ak_ret (fn := Tryz.f132) Tryz.func132 rfl ⟨⟨_, _, _, _, _, _, rfl, rfl, ty139⟩, trivial⟩ rfl)
theorem d132 {a0 : List UInt8} {a1 : Int} {a2 : Bool} {r : Ref10Part} (h : f132 (.e132 a0 a1 a2) = some r) : Does Tryz.prog GG 132 [.str a0, .int .i64 a1, .bool a2] [] (fun z _ => z = .agg [.int .i64 r.value.kind, .int .i64 r.value.frm, .int .i64 r.value.to, .str r.value.text, .sl Ty.sApiValue r.value.items, .sl Ty.str r.value.names, .bool r.begun, .int .i64 r.pos, .int .i64 r.fault]) := fn_of (fn := Tryz.f132) Tryz.func132 rfl Tryz.ntmps132 rfl (w132 _ _ h)
/-- riffle/riffleref05.Words -/
noncomputable abbrev b214 : Code := codeOf Tryz.f214
inductive L214 where
 | e214
noncomputable def f214 : L214 → Option (List (List UInt8))
 | .e214 =>
  some ([([116, 114, 117, 101] : List UInt8), ([102, 97, 108, 115, 101] : List UInt8), ([110, 117, 108, 108] : List UInt8)] : List (List UInt8))
def M214 : L214 → (List (List UInt8)) → Prop
 | .e214, r => ∀ (w : World) (F : Nat → Prop) (ρ : Rho), AK Tryz.prog (ctx GG 2 w F ρ []) 214 [.code b214] (argE 0 []) [] (fun z _ => z = .sl Ty.str r)
theorem w214 : ∀ (l : L214) (r : List (List UInt8)), f214 l = some r → M214 l r := (by
 intro l r h
 cases l with
 | e214 =>
  intro w F ρ
  dsimp only [f214] at h
  refine ak_seq ?_
  refine ak_regionS (.cons rfl (ok_assign (dlt rfl rfl) rfl rfl) (.nil ?_))
  refine ak_seq ?_
  refine ak_regionS (.cons rfl (ok_lit (τ := Ty.str) (dlt rfl rfl) ([([116, 114, 117, 101] : List UInt8), ([102, 97, 108, 115, 101] : List UInt8), ([110, 117, 108, 108] : List UInt8)] : List (List UInt8)) rfl Tryz.underlying27 ty9 rfl rfl rfl rfl rfl (by decide) (by decide) rfl) (.cons rfl (ok_assign (dlt rfl rfl) rfl rfl) (.nil ?_)))
  obtain rfl := Option.some.inj h
  refine ak_conv (Γ' := [(0, .sl Ty.str ([([116, 114, 117, 101] : List UInt8), ([102, 97, 108, 115, 101] : List UInt8), ([110, 117, 108, 108] : List UInt8)] : List (List UInt8)))]) (σ' := []) (.cons rfl (sub_sf Ty.str _) (.nil _)) (.nil _) ?_
  exact ak_ret (fn := Tryz.f214) Tryz.func214 rfl trivial rfl)
theorem d214 {r : List (List UInt8)} (h : f214 (.e214) = some r) : Does Tryz.prog GG 214 [] [] (fun z _ => z = .sl Ty.str r) := fn_of (fn := Tryz.f214) Tryz.func214 rfl Tryz.ntmps214 rfl (w214 _ _ h)
end Go.Proofs.YtonlbdholdaifaaGreatDoor
end
