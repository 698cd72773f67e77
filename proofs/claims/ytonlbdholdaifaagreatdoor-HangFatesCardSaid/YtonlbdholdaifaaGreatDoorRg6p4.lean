import Derived.Test.YtonlbdholdaifaaGreatDoorProg
import Derived.Test.YtonlbdholdaifaaGreatDoorRfp4
import Derived.Test.YtonlbdholdaifaaGreatDoorRg6p1
import Derived.Test.YtonlbdholdaifaaGreatDoorRg6p3
import Derived.Test.YtonlbdholdaifaaGreatDoorRg6p2
section
set_option linter.unusedVariables false
set_option linter.unusedSimpArgs false
set_option maxRecDepth 10000
namespace Go.Proofs.YtonlbdholdaifaaGreatDoor
open Go Go.Rf Go.Proofs
/-- riffle/riffleref05.Step -/
noncomputable abbrev b186 : Code := codeOf Tryz.f186
inductive L186 where
 | e186 (a0 : List UInt8) (a1 : Int)
 | l186_0 (a0 : List UInt8) (a1 : List (List UInt8)) (a2 : Int) (a3 : Int)
noncomputable def f186 : L186 → Option Int
 | .e186 a0 a1 =>
  need (a1 = ((toU8 a1).toNat : Int)) >>= fun v1 =>
  need (a0.length + ([(toU8 a1)] : List UInt8).length ≤ 9223372036854775807) >>= fun v2 =>
  f214 (.e214) >>= fun v3 =>
  f186 (.l186_0 (a0 ++ ([(toU8 a1)] : List UInt8)) v3 (v3.length : Int) (0 : Int))
 | .l186_0 a0 a1 a2 a3 =>
  if (decide (a3 < a2)) = true then
   idx a1 a3 >>= fun v4 =>
   if (v4 == a0) = true then
    some (1 : Int)
   else
    gd (decide ((a0.length : Int) < (v4.length : Int))) (need (0 ≤ (a0.length : Int) ∧ (a0.length : Int) ≤ (v4.length : Int))) >>= fun v5 =>
    if ((decide ((a0.length : Int) < (v4.length : Int))) && ((v4.take (a0.length : Int).toNat) == a0)) = true then
     some (0 : Int)
    else
     f186 (.l186_0 a0 a1 a2 (IntKind.wrap .i64 (a3 + (1 : Int))))
  else
   some (2 : Int)
 partial_fixpoint
def M186 : L186 → Int → Prop
 | .e186 a0 a1, r => ∀ (w : World) (F : Nat → Prop) (ρ : Rho), AK Tryz.prog (ctx GG 36 w F ρ []) 186 [.code b186] (argE 0 [.str a0, .int .u8 a1]) [] (fun z _ => z = .int .i64 r)
 | .l186_0 a0 a1 a2 a3, r => ∀ (w : World) (F : Nat → Prop) (ρ : Rho), AK Tryz.prog (ctx GG 36 w F ρ []) 186 [.code (c1 (c1 (c2 (c1 (c2 (c2 b186)))))), .inLoop (c1 (c1 (c2 (c1 (c2 (c2 b186)))))), .inBlock 0, .code (c2 (c2 (c2 b186)))] [(5, .str a0), (13, .sl Ty.str a1), (14, .int .i64 a2), (15, .int .i64 a3)] [] (fun z _ => z = .int .i64 r)
theorem w186 : ∀ (l : L186) (r : Int), f186 l = some r → M186 l r := f186.partial_correctness M186 (by
 intro f ih l r h
 cases l with
 | e186 a0 a1 =>
  intro w F ρ
  dsimp only at h
  refine ak_seq ?_
  refine ak_regionS (.cons rfl (ok_assign (dlt rfl rfl) rfl rfl) (.nil ?_))
  refine ak_seq ?_
  obtain ⟨v1, hv1, h⟩ := bind_of h
  obtain ⟨v2, hv2, h⟩ := bind_of h
  refine ak_regionS (.cons rfl (ok_move (dlt rfl rfl) rfl rfl) (.cons rfl (ok_move (dlt rfl rfl) rfl rfl) (.cons rfl (ok_litS (τ := Ty.u8) (dlt rfl rfl) ([(toU8 a1)] : List UInt8) rfl Tryz.underlying22 ty5 rfl rfl rfl rfl rfl (by decide) (by decide) rfl (.cons (sub_int (need_of hv1)) (.nil))) (.cons rfl (ok_bytesF (τ := Ty.u8) (xs := ([(toU8 a1)] : List UInt8)) (dlt rfl rfl) (fun x => x) rfl Tryz.underlying22 Tryz.underlying5 Tryz.underlying9 (fun _ => rfl) rfl (map_idf _) rfl) (.cons rfl (ok_cat (dlt rfl rfl) rfl rfl rfl (need_of hv2)) (.cons rfl (ok_assign (dlt rfl rfl) rfl rfl) (.nil ?_)))))))
  refine ak_seq ?_
  refine ak_seq ?_
  obtain ⟨v3, hv3, h⟩ := bind_of h
  refine ak_regionS (.cons rfl (ok_call (xs := []) (caps := []) (dlt rfl rfl) rfl rfl Tryz.func214 rfl rfl rfl (d214 hv3) rfl) (.cons rfl (ok_lenS (τ := Ty.str) (xs := v3) (dlt rfl rfl) rfl Tryz.underlying27 rfl) (.cons rfl (ok_move (dlt rfl rfl) rfl rfl) (.nil ?_))))
  refine ak_block ?_
  refine ak_loop ?_
  exact ak_conv (.cons rfl (.refl _) (.cons rfl (.refl _) (.cons rfl (.refl _) (.cons rfl (.refl _) (.nil _))))) (.nil _) (ih _ _ h w F ρ)
 | l186_0 a0 a1 a2 a3 =>
  intro w F ρ
  dsimp only at h
  refine ak_seq ?_
  refine ak_regionS (.cons rfl (ok_lss (dlt rfl rfl) rfl rfl rfl) (.nil ?_))
  refine ak_seq ?_
  refine ak_cond rfl (fun ht => ?_) (fun ht => ?_)
  ·have h := cond_t ht h
   refine ak_skip ?_
   refine ak_seq ?_
   refine ak_block ?_
   refine ak_seq ?_
   obtain ⟨v4, hv4, h⟩ := bind_of h
   refine ak_regionS (.cons rfl (ok_indexS (τ := Ty.str) (x := v4) (dlt rfl rfl) rfl Tryz.underlying27 ty9 rfl rfl rfl (idx_0 hv4) (idx_1 hv4)) (.cons rfl (ok_loadR (dlt rfl rfl) rfl ty9 rfl rfl) (.cons rfl (ok_assign (dlt rfl rfl) rfl rfl) (.nil ?_))))
   refine ak_seq ?_
   refine ak_seq ?_
   refine ak_regionS (.cons rfl (ok_move (dlt rfl rfl) rfl rfl) (.cons rfl (ok_move (dlt rfl rfl) rfl rfl) (.cons rfl (ok_eqlS (dlt rfl rfl) rfl rfl rfl) (.nil ?_))))
   refine ak_cond rfl (fun ht => ?_) (fun ht => ?_)
   ·have h := cond_t ht h
    refine ak_seq ?_
    refine ak_regionS (.cons rfl (ok_assign (dlt rfl rfl) rfl rfl) (.nil ?_))
    obtain rfl := Option.some.inj h
    refine ak_conv (Γ' := [(4, .int .i64 (1 : Int))]) (σ' := []) (.cons rfl (.refl _) (.nil _)) (.nil _) ?_
    exact ak_ret (fn := Tryz.f186) Tryz.func186 rfl trivial rfl
   ·have h := cond_f ht h
    refine ak_skip ?_
    refine ak_seq ?_
    obtain ⟨v5, hv5, h⟩ := bind_of h
    refine ak_regionS (.cons rfl (ok_move (dlt rfl rfl) rfl rfl) (.cons rfl (ok_lenT (s := v4) (dlt rfl rfl) rfl Tryz.underlying9 rfl) (.cons rfl (ok_move (dlt rfl rfl) rfl rfl) (.cons rfl (ok_lenT (s := a0) (dlt rfl rfl) rfl Tryz.underlying9 rfl) (.cons rfl (ok_gtr (dlt rfl rfl) rfl rfl rfl) (.cons rfl (ok_move (dlt rfl rfl) rfl rfl) (.consG (pre := []) (dlt rfl rfl) rfl rfl rfl rfl .nil (fun he => ok_move (dlt rfl rfl) rfl rfl) (.consG (pre := []) (dlt rfl rfl) rfl rfl rfl rfl .nil (fun he => ok_move (dlt rfl rfl) rfl rfl) (.consG (pre := [(29, .str a0)]) (dlt rfl rfl) rfl rfl rfl rfl (.cons rfl (fun he => he) .nil) (fun he => ok_lenT (s := a0) (dlt rfl rfl) rfl Tryz.underlying9 rfl) (.consG (pre := [(28, .str v4), (30, .int .i64 (a0.length : Int))]) (dlt rfl rfl) rfl rfl rfl rfl (.cons rfl (fun he => he) (.cons rfl (fun he => he) .nil)) (fun he => ok_cutH (dlt rfl rfl) rfl Tryz.underlying9 rfl rfl (need_of (gd_t hv5 he)).1 (need_of (gd_t hv5 he)).2) (.consG (pre := []) (dlt rfl rfl) rfl rfl rfl rfl .nil (fun he => ok_move (dlt rfl rfl) rfl rfl) (.consG (pre := [(31, .str (v4.take (a0.length : Int).toNat)), (32, .str a0)]) (dlt rfl rfl) rfl rfl rfl rfl (.cons rfl (fun he => he) (.cons rfl (fun he => he) .nil)) (fun he => ok_eqlS (dlt rfl rfl) rfl rfl rfl) (.cons rfl (ok_andW (dlt rfl rfl) rfl rfl rfl (fun h => h)) (.nil ?_))))))))))))))
    refine ak_cond rfl (fun ht => ?_) (fun ht => ?_)
    ·have h := cond_t ht h
     refine ak_seq ?_
     refine ak_regionS (.cons rfl (ok_assign (dlt rfl rfl) rfl rfl) (.nil ?_))
     obtain rfl := Option.some.inj h
     refine ak_conv (Γ' := [(4, .int .i64 (0 : Int))]) (σ' := []) (.cons rfl (.refl _) (.nil _)) (.nil _) ?_
     exact ak_ret (fn := Tryz.f186) Tryz.func186 rfl trivial rfl
    ·have h := cond_f ht h
     refine ak_skip ?_
     refine ak_inBlock ?_
     refine ak_regionS (.cons rfl (ok_add (dlt rfl rfl) rfl rfl rfl) (.cons rfl (ok_move (dlt rfl rfl) rfl rfl) (.nil ?_)))
     refine ak_inLoop ?_
     exact ak_conv (.cons rfl (.refl _) (.cons rfl (.refl _) (.cons rfl (.refl _) (.cons rfl (.refl _) (.nil _))))) (.nil _) (ih _ _ h w F ρ)
  ·have h := cond_f ht h
   refine ak_exit rfl ?_
   refine ak_seq ?_
   refine ak_regionS (.cons rfl (ok_assign (dlt rfl rfl) rfl rfl) (.nil ?_))
   obtain rfl := Option.some.inj h
   refine ak_conv (Γ' := [(4, .int .i64 (2 : Int))]) (σ' := []) (.cons rfl (.refl _) (.nil _)) (.nil _) ?_
   exact ak_ret (fn := Tryz.f186) Tryz.func186 rfl trivial rfl)
theorem d186 {a0 : List UInt8} {a1 : Int} {r : Int} (h : f186 (.e186 a0 a1) = some r) : Does Tryz.prog GG 186 [.str a0, .int .u8 a1] [] (fun z _ => z = .int .i64 r) := fn_of (fn := Tryz.f186) Tryz.func186 rfl Tryz.ntmps186 rfl (w186 _ _ h)
/-- riffle/riffleref05.Kind -/
noncomputable abbrev b187 : Code := codeOf Tryz.f187
inductive L187 where
 | e187 (a0 : List UInt8)
noncomputable def f187 : L187 → Option (Int × Bool)
 | .e187 a0 =>
  if (a0 == ([110, 117, 108, 108] : List UInt8)) = true then
   some (0, true)
  else
   if ((a0 == ([116, 114, 117, 101] : List UInt8)) || (a0 == ([102, 97, 108, 115, 101] : List UInt8))) = true then
    some (1, true)
   else
    some (0, false)
def M187 : L187 → (Int × Bool) → Prop
 | .e187 a0, r => ∀ (w : World) (F : Nat → Prop) (ρ : Rho), AK Tryz.prog (ctx GG 12 w F ρ []) 187 [.code b187] (argE 0 [.str a0]) [] (fun z _ => z = .tup [.int .i64 r.1, .bool r.2])
theorem w187 : ∀ (l : L187) (r : Int × Bool), f187 l = some r → M187 l r := (by
 intro l r h
 cases l with
 | e187 a0 =>
  intro w F ρ
  dsimp only [f187] at h
  refine ak_seq ?_
  refine ak_regionS (.cons rfl (ok_assign (dlt rfl rfl) rfl rfl) (.cons rfl (ok_assign (dlt rfl rfl) rfl rfl) (.nil ?_)))
  refine ak_seq ?_
  refine ak_seq ?_
  refine ak_regionS (.cons rfl (ok_move (dlt rfl rfl) rfl rfl) (.cons rfl (ok_eqlS (dlt rfl rfl) rfl rfl rfl) (.nil ?_)))
  refine ak_cond rfl (fun ht => ?_) (fun ht => ?_)
  ·have h := cond_t ht h
   refine ak_seq ?_
   refine ak_regionS (.cons rfl (ok_assign (dlt rfl rfl) rfl rfl) (.cons rfl (ok_assign (dlt rfl rfl) rfl rfl) (.nil ?_)))
   obtain rfl := Option.some.inj h
   refine ak_conv (Γ' := [(2, .int .i64 (0 : Int)), (3, .bool true)]) (σ' := []) (.cons rfl (.refl _) (.cons rfl (.refl _) (.nil _))) (.nil _) ?_
   exact ak_ret (fn := Tryz.f187) Tryz.func187 rfl trivial rfl
  ·have h := cond_f ht h
   refine ak_skip ?_
   refine ak_seq ?_
   refine ak_seq ?_
   refine ak_regionS (.cons rfl (ok_move (dlt rfl rfl) rfl rfl) (.cons rfl (ok_eqlS (dlt rfl rfl) rfl rfl rfl) (.cons rfl (ok_move (dlt rfl rfl) rfl rfl) (.consG (pre := []) (dlt rfl rfl) rfl rfl rfl rfl .nil (fun he => ok_move (dlt rfl rfl) rfl rfl) (.consG (pre := [(9, .str a0)]) (dlt rfl rfl) rfl rfl rfl rfl (.cons rfl (fun he => he) .nil) (fun he => ok_eqlS (dlt rfl rfl) rfl rfl rfl) (.cons rfl (ok_orW (dlt rfl rfl) rfl rfl rfl (fun h => (bnot_t h))) (.nil ?_)))))))
   refine ak_cond rfl (fun ht => ?_) (fun ht => ?_)
   ·have h := cond_t ht h
    refine ak_seq ?_
    refine ak_regionS (.cons rfl (ok_assign (dlt rfl rfl) rfl rfl) (.cons rfl (ok_assign (dlt rfl rfl) rfl rfl) (.nil ?_)))
    obtain rfl := Option.some.inj h
    refine ak_conv (Γ' := [(2, .int .i64 (1 : Int)), (3, .bool true)]) (σ' := []) (.cons rfl (.refl _) (.cons rfl (.refl _) (.nil _))) (.nil _) ?_
    exact ak_ret (fn := Tryz.f187) Tryz.func187 rfl trivial rfl
   ·have h := cond_f ht h
    refine ak_skip ?_
    refine ak_seq ?_
    refine ak_regionS (.cons rfl (ok_assign (dlt rfl rfl) rfl rfl) (.cons rfl (ok_assign (dlt rfl rfl) rfl rfl) (.nil ?_)))
    obtain rfl := Option.some.inj h
    refine ak_conv (Γ' := [(2, .int .i64 (0 : Int)), (3, .bool false)]) (σ' := []) (.cons rfl (.refl _) (.cons rfl (.refl _) (.nil _))) (.nil _) ?_
    exact ak_ret (fn := Tryz.f187) Tryz.func187 rfl trivial rfl)
theorem d187 {a0 : List UInt8} {r : Int × Bool} (h : f187 (.e187 a0) = some r) : Does Tryz.prog GG 187 [.str a0] [] (fun z _ => z = .tup [.int .i64 r.1, .bool r.2]) := fn_of (fn := Tryz.f187) Tryz.func187 rfl Tryz.ntmps187 rfl (w187 _ _ h)
/-- riffle/riffleref10.word -/
noncomputable abbrev b133 : Code := codeOf Tryz.f133
inductive L133 where
 | e133 (a0 : List UInt8) (a1 : Int)
 | l133_0 (a0 : List UInt8) (a1 : Int) (a2 : Int) (a3 : Int) (a4 : Int) (a5 : Int) (a6 : List UInt8) (a7 : Int) (a8 : Int) (a9 : Int) (a10 : List UInt8) (a11 : Bool) (a12 : Int) (a13 : Int)
noncomputable def f133 : L133 → Option Ref10Part
 | .e133 a0 a1 =>
  f133 (.l133_0 a0 a1 (0 : Int) (0 : Int) a1 (0 : Int) [] (0 : Int) (0 : Int) (0 : Int) [] false (0 : Int) (0 : Int))
 | .l133_0 a0 a1 a2 a3 a4 a5 a6 a7 a8 a9 a10 a11 a12 a13 =>
  if (decide ((IntKind.wrap .i64 (a1 + a2)) < (a0.length : Int))) = true then
   need (0 ≤ a1 ∧ a1 ≤ (IntKind.wrap .i64 (a1 + a2)) ∧ (IntKind.wrap .i64 (a1 + a2)) ≤ (a0.length : Int)) >>= fun v1 =>
   idx a0 (IntKind.wrap .i64 (a1 + a2)) >>= fun v2 =>
   f186 (.e186 ((a0.take (IntKind.wrap .i64 (a1 + a2)).toNat).drop a1.toNat) (v2.toNat : Int)) >>= fun v3 =>
   if (v3 == (2 : Int)) = true then
    f183 (.e183 (⟨a3, a4, a5, a6, ([] : List ApiValue), ([] : List (List UInt8))⟩ : ApiValue) (6 : Int) (IntKind.wrap .i64 (a1 + a2))) >>= fun v4 =>
    some v4
   else
    if (v3 == (1 : Int)) = true then
     need (0 ≤ a1 ∧ a1 ≤ (IntKind.wrap .i64 ((IntKind.wrap .i64 (a1 + a2)) + (1 : Int))) ∧ (IntKind.wrap .i64 ((IntKind.wrap .i64 (a1 + a2)) + (1 : Int))) ≤ (a0.length : Int)) >>= fun v5 =>
     f187 (.e187 ((a0.take (IntKind.wrap .i64 ((IntKind.wrap .i64 (a1 + a2)) + (1 : Int))).toNat).drop a1.toNat)) >>= fun v6 =>
     some (⟨(⟨v6.1, a4, IntKind.wrap .i64 ((IntKind.wrap .i64 (a1 + a2)) + (1 : Int)), (a0.take (IntKind.wrap .i64 ((IntKind.wrap .i64 (a1 + a2)) + (1 : Int))).toNat).drop a1.toNat, ([] : List ApiValue), ([] : List (List UInt8))⟩ : ApiValue), true, IntKind.wrap .i64 ((IntKind.wrap .i64 (a1 + a2)) + (1 : Int)), 0⟩ : Ref10Part)
    else
     f133 (.l133_0 a0 a1 (IntKind.wrap .i64 (a2 + (1 : Int))) a3 a4 a5 a6 a7 a8 a9 a10 a11 a12 a13)
  else
   f183 (.e183 (⟨a3, a4, a5, a6, ([] : List ApiValue), ([] : List (List UInt8))⟩ : ApiValue) (10 : Int) (a0.length : Int)) >>= fun v7 =>
   some v7
 partial_fixpoint
def M133 : L133 → Ref10Part → Prop
 | .e133 a0 a1, r => ∀ (w : World) (F : Nat → Prop) (ρ : Rho), AK Tryz.prog (ctx GG 67 w F ρ []) 133 [.code b133] (argE 0 [.str a0, .int .i64 a1]) [] (fun z _ => z = .agg [.int .i64 r.value.kind, .int .i64 r.value.frm, .int .i64 r.value.to, .str r.value.text, .sl Ty.sApiValue r.value.items, .sl Ty.str r.value.names, .bool r.begun, .int .i64 r.pos, .int .i64 r.fault])
 | .l133_0 a0 a1 a2 a3 a4 a5 a6 a7 a8 a9 a10 a11 a12 a13, r => ∀ (w : World) (F : Nat → Prop) (ρ : Rho), AK Tryz.prog (ctx GG 67 w F ρ []) 133 [.code (c1 (c1 (c2 (c1 (c2 (c2 b133)))))), .inLoop (c1 (c1 (c2 (c1 (c2 (c2 b133)))))), .inBlock 0, .code (c2 (c2 (c2 b133)))] [(0, .str a0), (1, .int .i64 a1), (4, .ref 4 0), (5, .ref 5 0), (6, .int .i64 a2)] [(5, .cells 29 [.int .i64 a3, .int .i64 a4, .int .i64 a5, .str a6, .nils, .nils]), (4, .cells 139 [.int .i64 a7, .int .i64 a8, .int .i64 a9, .str a10, .nils, .nils, .bool a11, .int .i64 a12, .int .i64 a13])] (fun z _ => z = .agg [.int .i64 r.value.kind, .int .i64 r.value.frm, .int .i64 r.value.to, .str r.value.text, .sl Ty.sApiValue r.value.items, .sl Ty.str r.value.names, .bool r.begun, .int .i64 r.pos, .int .i64 r.fault])
theorem w133 : ∀ (l : L133) (r : Ref10Part), f133 l = some r → M133 l r := f133.partial_correctness M133 (by
 intro f ih l r h
 cases l with
 | e133 a0 a1 =>
  intro w F ρ
  dsimp only at h
  refine ak_seq ?_
  refine ak_regionS (.cons rfl (ok_alloc (d := 4) (dlt rfl rfl) rfl ty139 rfl rfl rfl) (.nil ?_))
  refine ak_seq ?_
  refine ak_regionS (.cons rfl (ok_move (dlt rfl rfl) rfl rfl) (.cons rfl (ok_build (dlt rfl rfl) rfl ty29 rfl pl29 rfl rfl rfl) (.cons rfl (ok_alloc (d := 5) (dlt rfl rfl) rfl ty29 rfl rfl rfl) (.cons rfl (ok_storeV rfl rfl ty29 rfl rfl rfl rfl (by decide) rfl rfl) (.nil ?_)))))
  refine ak_seq ?_
  refine ak_seq ?_
  refine ak_regionS (.cons rfl (ok_assign (dlt rfl rfl) rfl rfl) (.nil ?_))
  refine ak_block ?_
  refine ak_loop ?_
  exact ak_conv (.cons rfl (.refl _) (.cons rfl (.refl _) (.cons rfl (.refl _) (.cons rfl (.refl _) (.cons rfl (.refl _) (.nil _)))))) (.cons rfl (.refl _) (.cons rfl (.refl _) (.nil _))) (ih _ _ h w F ρ)
 | l133_0 a0 a1 a2 a3 a4 a5 a6 a7 a8 a9 a10 a11 a12 a13 =>
  intro w F ρ
  dsimp only at h
  refine ak_seq ?_
  refine ak_seq ?_
  refine ak_regionS (.cons rfl (ok_move (dlt rfl rfl) rfl rfl) (.cons rfl (ok_move (dlt rfl rfl) rfl rfl) (.cons rfl (ok_add (dlt rfl rfl) rfl rfl rfl) (.cons rfl (ok_move (dlt rfl rfl) rfl rfl) (.cons rfl (ok_lenT (s := a0) (dlt rfl rfl) rfl Tryz.underlying9 rfl) (.cons rfl (ok_lss (dlt rfl rfl) rfl rfl rfl) (.nil ?_)))))))
  refine ak_cond rfl (fun ht => ?_) (fun ht => ?_)
  ·have h := cond_t ht h
   refine ak_skip ?_
   refine ak_seq ?_
   refine ak_block ?_
   refine ak_seq ?_
   obtain ⟨v1, hv1, h⟩ := bind_of h
   obtain ⟨v2, hv2, h⟩ := bind_of h
   obtain ⟨v3, hv3, h⟩ := bind_of h
   refine ak_drawL [⟨some 18, [(0, .str a0)], none, true, .str a0, [], []⟩,
  ⟨some 19, [(1, .int .i64 a1)], none, true, .int .i64 a1, [], []⟩,
  ⟨some 20, [(1, .int .i64 a1)], none, true, .int .i64 a1, [], []⟩,
  ⟨some 21, [(6, .int .i64 a2)], none, true, .int .i64 a2, [], []⟩,
  ⟨some 22, [(20, .int .i64 a1), (21, .int .i64 a2)], none, true, .int .i64 (IntKind.wrap .i64 (a1 + a2)), [], []⟩,
  ⟨some 23, [(18, .str a0), (19, .int .i64 a1), (22, .int .i64 (IntKind.wrap .i64 (a1 + a2)))], none, true, .str ((a0.take (IntKind.wrap .i64 (a1 + a2)).toNat).drop a1.toNat), [], []⟩,
  ⟨some 24, [(0, .str a0)], none, true, .str a0, [], []⟩,
  ⟨some 25, [(1, .int .i64 a1)], none, true, .int .i64 a1, [], []⟩,
  ⟨some 26, [(6, .int .i64 a2)], none, true, .int .i64 a2, [], []⟩,
  ⟨some 27, [(25, .int .i64 a1), (26, .int .i64 a2)], none, true, .int .i64 (IntKind.wrap .i64 (a1 + a2)), [], []⟩,
  ⟨some 28, [(24, .str a0), (27, .int .i64 (IntKind.wrap .i64 (a1 + a2)))], none, true, .int .u8 (v2.toNat : Int), [], []⟩,
  ⟨some 29, [(23, .str ((a0.take (IntKind.wrap .i64 (a1 + a2)).toNat).drop a1.toNat)), (28, .int .u8 (v2.toNat : Int))], none, true, .int .i64 v3, [], []⟩,
  ⟨some 7, [(29, .int .i64 v3)], none, true, .int .i64 v3, [], []⟩] [[], [], [], [], [2, 3], [0, 1, 2, 3, 4], [], [], [], [7, 8], [6, 7, 8, 9], [0, 1, 2, 3, 4, 5, 6, 7, 8, 9, 10], [0, 1, 2, 3, 4, 5, 6, 7, 8, 9, 10, 11]] (by kernel_rfl) (by kernel_rfl) (.cons (qok (dlt rfl rfl) rfl (.same rfl .nil) (NeedQ.all .nil) (fun Γx σx => ok_move (dlt rfl rfl) rfl rfl)) (.cons (qok (dlt rfl rfl) rfl (.same rfl .nil) (NeedQ.all .nil) (fun Γx σx => ok_move (dlt rfl rfl) rfl rfl)) (.cons (qok (dlt rfl rfl) rfl (.same rfl .nil) (NeedQ.all .nil) (fun Γx σx => ok_move (dlt rfl rfl) rfl rfl)) (.cons (qok (dlt rfl rfl) rfl (.same rfl .nil) (NeedQ.all .nil) (fun Γx σx => ok_move (dlt rfl rfl) rfl rfl)) (.cons (qok (dlt rfl rfl) rfl (.same rfl (.same rfl .nil)) (NeedQ.all .nil) (fun Γx σx => ok_add (dlt rfl rfl) rfl rfl rfl)) (.cons (qok (dlt rfl rfl) rfl (.same rfl (.same rfl (.same rfl .nil))) (NeedQ.all .nil) (fun Γx σx => ok_cutLH (dlt rfl rfl) rfl Tryz.underlying9 rfl rfl rfl (need_of hv1).1 (need_of hv1).2.1 (need_of hv1).2.2)) (.cons (qok (dlt rfl rfl) rfl (.same rfl .nil) (NeedQ.all .nil) (fun Γx σx => ok_move (dlt rfl rfl) rfl rfl)) (.cons (qok (dlt rfl rfl) rfl (.same rfl .nil) (NeedQ.all .nil) (fun Γx σx => ok_move (dlt rfl rfl) rfl rfl)) (.cons (qok (dlt rfl rfl) rfl (.same rfl .nil) (NeedQ.all .nil) (fun Γx σx => ok_move (dlt rfl rfl) rfl rfl)) (.cons (qok (dlt rfl rfl) rfl (.same rfl (.same rfl .nil)) (NeedQ.all .nil) (fun Γx σx => ok_add (dlt rfl rfl) rfl rfl rfl)) (.cons (qok (dlt rfl rfl) rfl (.same rfl (.same rfl .nil)) (NeedQ.all .nil) (fun Γx σx => ok_byte (s := a0) (c := v2) (dlt rfl rfl) rfl Tryz.underlying9 rfl rfl (idx_0 hv2) (idx_1 hv2))) (.cons (qok (dlt rfl rfl) rfl (.same rfl (.same rfl .nil)) (NeedQ.all .nil) (fun Γx σx => ok_call (xs := [.str ((a0.take (IntKind.wrap .i64 (a1 + a2)).toNat).drop a1.toNat), .int .u8 (v2.toNat : Int)]) (caps := []) (dlt rfl rfl) rfl rfl Tryz.func186 rfl rfl rfl (d186 hv3) rfl)) (.cons (qok (dlt rfl rfl) rfl (.same rfl .nil) (NeedQ.all .nil) (fun Γx σx => ok_assign (dlt rfl rfl) rfl rfl)) (.nil _ _)))))))))))))) (.nil ?_)
   refine ak_seq ?_
   refine ak_seq ?_
   refine ak_regionS (.cons rfl (ok_move (dlt rfl rfl) rfl rfl) (.cons rfl (ok_eql (dlt rfl rfl) rfl rfl rfl) (.nil ?_)))
   refine ak_cond rfl (fun ht => ?_) (fun ht => ?_)
   ·have h := cond_t ht h
    refine ak_seq ?_
    obtain ⟨v4, hv4, h⟩ := bind_of h
    refine ak_regionS (.cons rfl (ok_loadVT (dlt rfl rfl) rfl ty29 rfl rfl (by decide) rfl) (.cons rfl (ok_move (dlt rfl rfl) rfl rfl) (.cons rfl (ok_move (dlt rfl rfl) rfl rfl) (.cons rfl (ok_add (dlt rfl rfl) rfl rfl rfl) (.cons rfl (ok_call (xs := [.agg [.int .i64 a3, .int .i64 a4, .int .i64 a5, .str a6, .nils, .nils], .int .i64 (6 : Int), .int .i64 (IntKind.wrap .i64 (a1 + a2))]) (caps := []) (dlt rfl rfl) rfl rfl Tryz.func183 rfl rfl rfl (Does.sub (d183 hv4) (.cons (sub_agg (.cons (.refl _) (.cons (.refl _) (.cons (.refl _) (.cons (.refl _) (.cons (sub_nils Ty.sApiValue) (.cons (sub_nils Ty.str) (.nil)))))))) (.cons (.refl _) (.cons (.refl _) (.nil))))) rfl) (.cons rfl (ok_storeV rfl rfl ty139 rfl rfl rfl rfl (by decide) rfl rfl) (.nil ?_)))))))
    obtain rfl := Option.some.inj h
    refine ak_conv (Γ' := [(4, .ref 4 0)]) (σ' := [(4, .cells 139 [.int .i64 v4.value.kind, .int .i64 v4.value.frm, .int .i64 v4.value.to, .str v4.value.text, .sl Ty.sApiValue v4.value.items, .sl Ty.str v4.value.names, .bool v4.begun, .int .i64 v4.pos, .int .i64 v4.fault])]) (.cons rfl (.refl _) (.nil _)) (.cons rfl (.refl _) (.nil _)) ?_
    exact ak_ret (fn := Tryz.f133) Tryz.func133 rfl ⟨⟨_, _, _, _, _, _, rfl, rfl, ty139⟩, trivial⟩ rfl
   ·have h := cond_f ht h
    refine ak_skip ?_
    refine ak_seq ?_
    refine ak_regionS (.cons rfl (ok_move (dlt rfl rfl) rfl rfl) (.cons rfl (ok_eql (dlt rfl rfl) rfl rfl rfl) (.nil ?_)))
    refine ak_cond rfl (fun ht => ?_) (fun ht => ?_)
    ·have h := cond_t ht h
     refine ak_seq ?_
     obtain ⟨v5, hv5, h⟩ := bind_of h
     refine ak_regionS (.cons rfl (ok_move (dlt rfl rfl) rfl rfl) (.cons rfl (ok_move (dlt rfl rfl) rfl rfl) (.cons rfl (ok_move (dlt rfl rfl) rfl rfl) (.cons rfl (ok_move (dlt rfl rfl) rfl rfl) (.cons rfl (ok_add (dlt rfl rfl) rfl rfl rfl) (.cons rfl (ok_add (dlt rfl rfl) rfl rfl rfl) (.cons rfl (ok_cutLH (dlt rfl rfl) rfl Tryz.underlying9 rfl rfl rfl (need_of hv5).1 (need_of hv5).2.1 (need_of hv5).2.2) (.cons rfl (ok_fieldV (dlt rfl rfl) rfl fo29_3 ty9 (by decide) rfl) (.cons rfl (ok_storeV rfl rfl ty9 rfl rfl rfl rfl (by decide) rfl rfl) (.nil ?_))))))))))
     refine ak_seq ?_
     refine ak_regionS (.cons rfl (ok_move (dlt rfl rfl) rfl rfl) (.cons rfl (ok_move (dlt rfl rfl) rfl rfl) (.cons rfl (ok_add (dlt rfl rfl) rfl rfl rfl) (.cons rfl (ok_add (dlt rfl rfl) rfl rfl rfl) (.cons rfl (ok_fieldV (dlt rfl rfl) rfl fo29_2 ty3 (by decide) rfl) (.cons rfl (ok_storeV rfl rfl ty3 rfl rfl rfl rfl (by decide) rfl rfl) (.nil ?_)))))))
     refine ak_seq ?_
     obtain ⟨v6, hv6, h⟩ := bind_of h
     refine ak_regionS (.cons rfl (ok_fieldV (dlt rfl rfl) rfl fo29_3 ty9 (by decide) rfl) (.cons rfl (ok_loadV (dlt rfl rfl) rfl ty9 rfl rfl rfl) (.cons rfl (ok_call (xs := [.str ((a0.take (IntKind.wrap .i64 ((IntKind.wrap .i64 (a1 + a2)) + (1 : Int))).toNat).drop a1.toNat)]) (caps := []) (dlt rfl rfl) rfl rfl Tryz.func187 rfl rfl rfl (d187 hv6) rfl) (.cons rfl (ok_move (dlt rfl rfl) rfl rfl) (.cons rfl (ok_extract (dlt rfl rfl) rfl rfl rfl) (.cons rfl (ok_extract (dlt rfl rfl) rfl rfl rfl) (.cons rfl (ok_fieldV (dlt rfl rfl) rfl fo29_0 ty3 (by decide) rfl) (.cons rfl (ok_storeV rfl rfl ty3 rfl rfl rfl rfl (by decide) rfl rfl) (.nil ?_)))))))))
     refine ak_seq ?_
     refine ak_regionS (.cons rfl (ok_loadVT (dlt rfl rfl) rfl ty29 rfl rfl (by decide) rfl) (.cons rfl (ok_fieldV (dlt rfl rfl) rfl fo29_2 ty3 (by decide) rfl) (.cons rfl (ok_loadV (dlt rfl rfl) rfl ty3 rfl rfl rfl) (.cons rfl (ok_build (dlt rfl rfl) rfl ty139 rfl pl139 rfl rfl rfl) (.cons rfl (ok_storeV rfl rfl ty139 rfl rfl rfl rfl (by decide) rfl rfl) (.nil ?_))))))
     obtain rfl := Option.some.inj h
     refine ak_conv (Γ' := [(4, .ref 4 0)]) (σ' := [(4, .cells 139 [.int .i64 (((⟨(⟨v6.1, a4, IntKind.wrap .i64 ((IntKind.wrap .i64 (a1 + a2)) + (1 : Int)), (a0.take (IntKind.wrap .i64 ((IntKind.wrap .i64 (a1 + a2)) + (1 : Int))).toNat).drop a1.toNat, ([] : List ApiValue), ([] : List (List UInt8))⟩ : ApiValue), true, IntKind.wrap .i64 ((IntKind.wrap .i64 (a1 + a2)) + (1 : Int)), 0⟩ : Ref10Part).value).kind), .int .i64 (((⟨(⟨v6.1, a4, IntKind.wrap .i64 ((IntKind.wrap .i64 (a1 + a2)) + (1 : Int)), (a0.take (IntKind.wrap .i64 ((IntKind.wrap .i64 (a1 + a2)) + (1 : Int))).toNat).drop a1.toNat, ([] : List ApiValue), ([] : List (List UInt8))⟩ : ApiValue), true, IntKind.wrap .i64 ((IntKind.wrap .i64 (a1 + a2)) + (1 : Int)), 0⟩ : Ref10Part).value).frm), .int .i64 (((⟨(⟨v6.1, a4, IntKind.wrap .i64 ((IntKind.wrap .i64 (a1 + a2)) + (1 : Int)), (a0.take (IntKind.wrap .i64 ((IntKind.wrap .i64 (a1 + a2)) + (1 : Int))).toNat).drop a1.toNat, ([] : List ApiValue), ([] : List (List UInt8))⟩ : ApiValue), true, IntKind.wrap .i64 ((IntKind.wrap .i64 (a1 + a2)) + (1 : Int)), 0⟩ : Ref10Part).value).to), .str (((⟨(⟨v6.1, a4, IntKind.wrap .i64 ((IntKind.wrap .i64 (a1 + a2)) + (1 : Int)), (a0.take (IntKind.wrap .i64 ((IntKind.wrap .i64 (a1 + a2)) + (1 : Int))).toNat).drop a1.toNat, ([] : List ApiValue), ([] : List (List UInt8))⟩ : ApiValue), true, IntKind.wrap .i64 ((IntKind.wrap .i64 (a1 + a2)) + (1 : Int)), 0⟩ : Ref10Part).value).text), .sl Ty.sApiValue (((⟨(⟨v6.1, a4, IntKind.wrap .i64 ((IntKind.wrap .i64 (a1 + a2)) + (1 : Int)), (a0.take (IntKind.wrap .i64 ((IntKind.wrap .i64 (a1 + a2)) + (1 : Int))).toNat).drop a1.toNat, ([] : List ApiValue), ([] : List (List UInt8))⟩ : ApiValue), true, IntKind.wrap .i64 ((IntKind.wrap .i64 (a1 + a2)) + (1 : Int)), 0⟩ : Ref10Part).value).items), .sl Ty.str (((⟨(⟨v6.1, a4, IntKind.wrap .i64 ((IntKind.wrap .i64 (a1 + a2)) + (1 : Int)), (a0.take (IntKind.wrap .i64 ((IntKind.wrap .i64 (a1 + a2)) + (1 : Int))).toNat).drop a1.toNat, ([] : List ApiValue), ([] : List (List UInt8))⟩ : ApiValue), true, IntKind.wrap .i64 ((IntKind.wrap .i64 (a1 + a2)) + (1 : Int)), 0⟩ : Ref10Part).value).names), .bool ((⟨(⟨v6.1, a4, IntKind.wrap .i64 ((IntKind.wrap .i64 (a1 + a2)) + (1 : Int)), (a0.take (IntKind.wrap .i64 ((IntKind.wrap .i64 (a1 + a2)) + (1 : Int))).toNat).drop a1.toNat, ([] : List ApiValue), ([] : List (List UInt8))⟩ : ApiValue), true, IntKind.wrap .i64 ((IntKind.wrap .i64 (a1 + a2)) + (1 : Int)), 0⟩ : Ref10Part).begun), .int .i64 ((⟨(⟨v6.1, a4, IntKind.wrap .i64 ((IntKind.wrap .i64 (a1 + a2)) + (1 : Int)), (a0.take (IntKind.wrap .i64 ((IntKind.wrap .i64 (a1 + a2)) + (1 : Int))).toNat).drop a1.toNat, ([] : List ApiValue), ([] : List (List UInt8))⟩ : ApiValue), true, IntKind.wrap .i64 ((IntKind.wrap .i64 (a1 + a2)) + (1 : Int)), 0⟩ : Ref10Part).pos), .int .i64 ((⟨(⟨v6.1, a4, IntKind.wrap .i64 ((IntKind.wrap .i64 (a1 + a2)) + (1 : Int)), (a0.take (IntKind.wrap .i64 ((IntKind.wrap .i64 (a1 + a2)) + (1 : Int))).toNat).drop a1.toNat, ([] : List ApiValue), ([] : List (List UInt8))⟩ : ApiValue), true, IntKind.wrap .i64 ((IntKind.wrap .i64 (a1 + a2)) + (1 : Int)), 0⟩ : Ref10Part).fault)])]) (.cons rfl (.refl _) (.nil _)) (.cons rfl (.cells (.cons (.refl _) (.cons (.refl _) (.cons (.refl _) (.cons (.refl _) (.cons (sub_nils Ty.sApiValue) (.cons (sub_nils Ty.str) (.cons (.refl _) (.cons (.refl _) (.cons (.refl _) (.nil))))))))))) (.nil _)) ?_
     exact ak_ret (fn := Tryz.f133) Tryz.func133 rfl ⟨⟨_, _, _, _, _, _, rfl, rfl, ty139⟩, trivial⟩ rfl
    ·have h := cond_f ht h
     refine ak_skip ?_
     refine ak_inBlock ?_
     refine ak_regionS (.cons rfl (ok_move (dlt rfl rfl) rfl rfl) (.cons rfl (ok_add (dlt rfl rfl) rfl rfl rfl) (.cons rfl (ok_assign (dlt rfl rfl) rfl rfl) (.nil ?_))))
     refine ak_inLoop ?_
     exact ak_conv (.cons rfl (.refl _) (.cons rfl (.refl _) (.cons rfl (.refl _) (.cons rfl (.refl _) (.cons rfl (.refl _) (.nil _)))))) (.cons rfl (.refl _) (.cons rfl (.refl _) (.nil _))) (ih _ _ h w F ρ)
  ·have h := cond_f ht h
   refine ak_exit rfl ?_
   refine ak_seq ?_
   obtain ⟨v7, hv7, h⟩ := bind_of h
   refine ak_regionS (.cons rfl (ok_loadVT (dlt rfl rfl) rfl ty29 rfl rfl (by decide) rfl) (.cons rfl (ok_move (dlt rfl rfl) rfl rfl) (.cons rfl (ok_lenT (s := a0) (dlt rfl rfl) rfl Tryz.underlying9 rfl) (.cons rfl (ok_call (xs := [.agg [.int .i64 a3, .int .i64 a4, .int .i64 a5, .str a6, .nils, .nils], .int .i64 (10 : Int), .int .i64 (a0.length : Int)]) (caps := []) (dlt rfl rfl) rfl rfl Tryz.func183 rfl rfl rfl (Does.sub (d183 hv7) (.cons (sub_agg (.cons (.refl _) (.cons (.refl _) (.cons (.refl _) (.cons (.refl _) (.cons (sub_nils Ty.sApiValue) (.cons (sub_nils Ty.str) (.nil)))))))) (.cons (.refl _) (.cons (.refl _) (.nil))))) rfl) (.cons rfl (ok_storeV rfl rfl ty139 rfl rfl rfl rfl (by decide) rfl rfl) (.nil ?_))))))
   obtain rfl := Option.some.inj h
   refine ak_conv (Γ' := [(4, .ref 4 0)]) (σ' := [(4, .cells 139 [.int .i64 v7.value.kind, .int .i64 v7.value.frm, .int .i64 v7.value.to, .str v7.value.text, .sl Ty.sApiValue v7.value.items, .sl Ty.str v7.value.names, .bool v7.begun, .int .i64 v7.pos, .int .i64 v7.fault])]) (.cons rfl (.refl _) (.nil _)) (.cons rfl (.refl _) (.nil _)) ?_
   exact ak_ret (fn := Tryz.f133) Tryz.func133 rfl ⟨⟨_, _, _, _, _, _, rfl, rfl, ty139⟩, trivial⟩ rfl)
theorem d133 {a0 : List UInt8} {a1 : Int} {r : Ref10Part} (h : f133 (.e133 a0 a1) = some r) : Does Tryz.prog GG 133 [.str a0, .int .i64 a1] [] (fun z _ => z = .agg [.int .i64 r.value.kind, .int .i64 r.value.frm, .int .i64 r.value.to, .str r.value.text, .sl Ty.sApiValue r.value.items, .sl Ty.str r.value.names, .bool r.begun, .int .i64 r.pos, .int .i64 r.fault]) := fn_of (fn := Tryz.f133) Tryz.func133 rfl Tryz.ntmps133 rfl (w133 _ _ h)
end Go.Proofs.YtonlbdholdaifaaGreatDoor
end
section
set_option linter.unusedVariables false
set_option linter.unusedSimpArgs false
set_option maxRecDepth 10000
namespace Go.Proofs.YtonlbdholdaifaaGreatDoor
open Go Go.Rf Go.Proofs
/-- riffle/riffleref10.some, riffle/riffleref10.array, riffle/riffleref10.object -/
noncomputable abbrev b80 : Code := codeOf Tryz.f80
noncomputable abbrev b134 : Code := codeOf Tryz.f134
noncomputable abbrev b135 : Code := codeOf Tryz.f135
inductive L80 where
 | e80 (a0 : List UInt8) (a1 : Int) (a2 : Int) (a3 : Bool)
 | e134 (a0 : List UInt8) (a1 : Int) (a2 : Int) (a3 : Bool)
 | l134_0 (a0 : List UInt8) (a1 : Int) (a2 : Bool) (a3 : Int) (a4 : Int) (a5 : Int) (a6 : Int) (a7 : List UInt8) (a8 : Int) (a9 : Int) (a10 : Int) (a11 : List UInt8) (a12 : Bool) (a13 : Int) (a14 : Int) (a15 : List ApiValue)
 | l134_1 (a0 : List UInt8) (a1 : Int) (a2 : Bool) (a3 : Ref10Part) (a4 : Int) (a5 : Int) (a6 : Int) (a7 : List UInt8) (a8 : List ApiValue) (a9 : Int) (a10 : Int) (a11 : Int) (a12 : List UInt8) (a13 : Bool) (a14 : Int) (a15 : Int)
 | e135 (a0 : List UInt8) (a1 : Int) (a2 : Int) (a3 : Bool)
 | l135_0 (a0 : List UInt8) (a1 : Int) (a2 : Bool) (a3 : Int) (a4 : Int) (a5 : Int) (a6 : Int) (a7 : List UInt8) (a8 : Int) (a9 : Int) (a10 : Int) (a11 : List UInt8) (a12 : Bool) (a13 : Int) (a14 : Int) (a15 : List ApiValue) (a16 : List (List UInt8))
 | l135_1 (a0 : List UInt8) (a1 : Int) (a2 : Bool) (a3 : Ref10Part) (a4 : Int) (a5 : Int) (a6 : Int) (a7 : List UInt8) (a8 : List (List UInt8)) (a9 : List ApiValue) (a10 : Int) (a11 : Int) (a12 : Int) (a13 : List UInt8) (a14 : Bool) (a15 : Int) (a16 : Int)
noncomputable def f80 : L80 → Option Ref10Part
 | .e80 a0 a1 a2 a3 =>
  idx a0 a1 >>= fun v1 =>
  f130 (.e130 (v1.toNat : Int)) >>= fun v2 =>
  if (v2 == (8 : Int)) = true then
   f131 (.e131 a0 a1) >>= fun v3 =>
   some v3
  else
   if (v2 == (9 : Int)) = true then
    f132 (.e132 a0 a1 a3) >>= fun v4 =>
    some v4
   else
    if (v2 == (10 : Int)) = true then
     f133 (.e133 a0 a1) >>= fun v5 =>
     some v5
    else
     if (v2 == (2 : Int)) = true then
      if (decide (a2 < (1 : Int))) = true then
       some (⟨(⟨0, 0, 0, [], ([] : List ApiValue), ([] : List (List UInt8))⟩ : ApiValue), false, a1, 12⟩ : Ref10Part)
      else
       f80 (.e134 a0 a1 a2 a3) >>= fun v6 =>
       some v6
     else
      if (v2 == (4 : Int)) = true then
       if (decide (a2 < (1 : Int))) = true then
        some (⟨(⟨0, 0, 0, [], ([] : List ApiValue), ([] : List (List UInt8))⟩ : ApiValue), false, a1, 12⟩ : Ref10Part)
       else
        f80 (.e135 a0 a1 a2 a3) >>= fun v7 =>
        some v7
      else
       some (⟨(⟨0, 0, 0, [], ([] : List ApiValue), ([] : List (List UInt8))⟩ : ApiValue), false, a1, 8⟩ : Ref10Part)
 | .e134 a0 a1 a2 a3 =>
  f79 (.e79 a0 (IntKind.wrap .i64 (a1 + (1 : Int)))) >>= fun v1 =>
  gd (decide (v1 < (a0.length : Int))) (idx a0 v1) >>= fun v2 =>
  if ((decide (v1 < (a0.length : Int))) && ((v2.toNat : Int) == (93 : Int))) = true then
   some (⟨(⟨4, a1, IntKind.wrap .i64 (v1 + (1 : Int)), [], ([] : List ApiValue), ([] : List (List UInt8))⟩ : ApiValue), true, IntKind.wrap .i64 (v1 + (1 : Int)), 0⟩ : Ref10Part)
  else
   f80 (.l134_0 a0 a2 a3 v1 (4 : Int) a1 (0 : Int) [] (0 : Int) (0 : Int) (0 : Int) [] false (0 : Int) (0 : Int) ([] : List ApiValue))
 | .l134_0 a0 a1 a2 a3 a4 a5 a6 a7 a8 a9 a10 a11 a12 a13 a14 a15 =>
  if (decide ((a0.length : Int) ≤ a3)) = true then
   f183 (.e183 (⟨a4, a5, a6, a7, a15, ([] : List (List UInt8))⟩ : ApiValue) (10 : Int) (a0.length : Int)) >>= fun v3 =>
   some v3
  else
   f80 (.e80 a0 a3 (IntKind.wrap .i64 (a1 - (1 : Int))) a2) >>= fun v4 =>
   if v4.begun = true then
    room a15.length ([v4.value] : List ApiValue).length 88 >>= fun v5 =>
    f80 (.l134_1 a0 a1 a2 v4 a4 a5 a6 a7 (a15 ++ ([v4.value] : List ApiValue)) a8 a9 a10 a11 a12 a13 a14)
   else
    f80 (.l134_1 a0 a1 a2 v4 a4 a5 a6 a7 a15 a8 a9 a10 a11 a12 a13 a14)
 | .l134_1 a0 a1 a2 a3 a4 a5 a6 a7 a8 a9 a10 a11 a12 a13 a14 a15 =>
  if (a3.fault != (0 : Int)) = true then
   f183 (.e183 (⟨a4, a5, a6, a7, a8, ([] : List (List UInt8))⟩ : ApiValue) a3.fault a3.pos) >>= fun v6 =>
   some v6
  else
   f79 (.e79 a0 a3.pos) >>= fun v7 =>
   if (decide ((a0.length : Int) ≤ v7)) = true then
    f183 (.e183 (⟨a4, a5, a6, a7, a8, ([] : List (List UInt8))⟩ : ApiValue) (10 : Int) (a0.length : Int)) >>= fun v8 =>
    some v8
   else
    idx a0 v7 >>= fun v9 =>
    if ((v9.toNat : Int) == (93 : Int)) = true then
     some (⟨(⟨a4, a5, IntKind.wrap .i64 (v7 + (1 : Int)), a7, a8, ([] : List (List UInt8))⟩ : ApiValue), true, IntKind.wrap .i64 (v7 + (1 : Int)), 0⟩ : Ref10Part)
    else
     idx a0 v7 >>= fun v10 =>
     if ((v10.toNat : Int) != (44 : Int)) = true then
      f183 (.e183 (⟨a4, a5, a6, a7, a8, ([] : List (List UInt8))⟩ : ApiValue) (8 : Int) v7) >>= fun v11 =>
      some v11
     else
      f79 (.e79 a0 (IntKind.wrap .i64 (v7 + (1 : Int)))) >>= fun v12 =>
      f80 (.l134_0 a0 a1 a2 v12 a4 a5 a6 a7 a9 a10 a11 a12 a13 a14 a15 a8)
 | .e135 a0 a1 a2 a3 =>
  f79 (.e79 a0 (IntKind.wrap .i64 (a1 + (1 : Int)))) >>= fun v1 =>
  gd (decide (v1 < (a0.length : Int))) (idx a0 v1) >>= fun v2 =>
  if ((decide (v1 < (a0.length : Int))) && ((v2.toNat : Int) == (125 : Int))) = true then
   some (⟨(⟨5, a1, IntKind.wrap .i64 (v1 + (1 : Int)), [], ([] : List ApiValue), ([] : List (List UInt8))⟩ : ApiValue), true, IntKind.wrap .i64 (v1 + (1 : Int)), 0⟩ : Ref10Part)
  else
   f80 (.l135_0 a0 a2 a3 v1 (5 : Int) a1 (0 : Int) [] (0 : Int) (0 : Int) (0 : Int) [] false (0 : Int) (0 : Int) ([] : List ApiValue) ([] : List (List UInt8)))
 | .l135_0 a0 a1 a2 a3 a4 a5 a6 a7 a8 a9 a10 a11 a12 a13 a14 a15 a16 =>
  if (decide ((a0.length : Int) ≤ a3)) = true then
   f183 (.e183 (⟨a4, a5, a6, a7, a15, a16⟩ : ApiValue) (10 : Int) (a0.length : Int)) >>= fun v3 =>
   some v3
  else
   idx a0 a3 >>= fun v4 =>
   if ((v4.toNat : Int) != (34 : Int)) = true then
    f183 (.e183 (⟨a4, a5, a6, a7, a15, a16⟩ : ApiValue) (8 : Int) a3) >>= fun v5 =>
    some v5
   else
    f131 (.e131 a0 a3) >>= fun v6 =>
    if (v6.fault != (0 : Int)) = true then
     f183 (.e183 (⟨a4, a5, a6, a7, a15, a16⟩ : ApiValue) v6.fault v6.pos) >>= fun v7 =>
     some v7
    else
     f79 (.e79 a0 v6.pos) >>= fun v8 =>
     if (decide ((a0.length : Int) ≤ v8)) = true then
      f183 (.e183 (⟨a4, a5, a6, a7, a15, a16⟩ : ApiValue) (10 : Int) (a0.length : Int)) >>= fun v9 =>
      some v9
     else
      idx a0 v8 >>= fun v10 =>
      if ((v10.toNat : Int) != (58 : Int)) = true then
       f183 (.e183 (⟨a4, a5, a6, a7, a15, a16⟩ : ApiValue) (8 : Int) v8) >>= fun v11 =>
       some v11
      else
       f79 (.e79 a0 (IntKind.wrap .i64 (v8 + (1 : Int)))) >>= fun v12 =>
       if (decide ((a0.length : Int) ≤ v12)) = true then
        f183 (.e183 (⟨a4, a5, a6, a7, a15, a16⟩ : ApiValue) (10 : Int) (a0.length : Int)) >>= fun v13 =>
        some v13
       else
        f80 (.e80 a0 v12 (IntKind.wrap .i64 (a1 - (1 : Int))) a2) >>= fun v14 =>
        if v14.begun = true then
         room a16.length ([v6.value.text] : List (List UInt8)).length 16 >>= fun v15 =>
         room a15.length ([v14.value] : List ApiValue).length 88 >>= fun v16 =>
         f80 (.l135_1 a0 a1 a2 v14 a4 a5 a6 a7 (a16 ++ ([v6.value.text] : List (List UInt8))) (a15 ++ ([v14.value] : List ApiValue)) a8 a9 a10 a11 a12 a13 a14)
        else
         f80 (.l135_1 a0 a1 a2 v14 a4 a5 a6 a7 a16 a15 a8 a9 a10 a11 a12 a13 a14)
 | .l135_1 a0 a1 a2 a3 a4 a5 a6 a7 a8 a9 a10 a11 a12 a13 a14 a15 a16 =>
  if (a3.fault != (0 : Int)) = true then
   f183 (.e183 (⟨a4, a5, a6, a7, a9, a8⟩ : ApiValue) a3.fault a3.pos) >>= fun v17 =>
   some v17
  else
   f79 (.e79 a0 a3.pos) >>= fun v18 =>
   if (decide ((a0.length : Int) ≤ v18)) = true then
    f183 (.e183 (⟨a4, a5, a6, a7, a9, a8⟩ : ApiValue) (10 : Int) (a0.length : Int)) >>= fun v19 =>
    some v19
   else
    idx a0 v18 >>= fun v20 =>
    if ((v20.toNat : Int) == (125 : Int)) = true then
     some (⟨(⟨a4, a5, IntKind.wrap .i64 (v18 + (1 : Int)), a7, a9, a8⟩ : ApiValue), true, IntKind.wrap .i64 (v18 + (1 : Int)), 0⟩ : Ref10Part)
    else
     idx a0 v18 >>= fun v21 =>
     if ((v21.toNat : Int) != (44 : Int)) = true then
      f183 (.e183 (⟨a4, a5, a6, a7, a9, a8⟩ : ApiValue) (8 : Int) v18) >>= fun v22 =>
      some v22
     else
      f79 (.e79 a0 (IntKind.wrap .i64 (v18 + (1 : Int)))) >>= fun v23 =>
      f80 (.l135_0 a0 a1 a2 v23 a4 a5 a6 a7 a10 a11 a12 a13 a14 a15 a16 a9 a8)
 partial_fixpoint
def M80 : L80 → Ref10Part → Prop
 | .e80 a0 a1 a2 a3, r => ∀ (w : World) (F : Nat → Prop) (ρ : Rho), AK Tryz.prog (ctx GG 53 w F ρ []) 80 [.code b80] (argE 0 [.str a0, .int .i64 a1, .int .i64 a2, .bool a3]) [] (fun z _ => z = .agg [.int .i64 r.value.kind, .int .i64 r.value.frm, .int .i64 r.value.to, .str r.value.text, .sl Ty.sApiValue r.value.items, .sl Ty.str r.value.names, .bool r.begun, .int .i64 r.pos, .int .i64 r.fault])
 | .e134 a0 a1 a2 a3, r => ∀ (w : World) (F : Nat → Prop) (ρ : Rho), AK Tryz.prog (ctx GG 101 w F ρ []) 134 [.code b134] (argE 0 [.str a0, .int .i64 a1, .int .i64 a2, .bool a3]) [] (fun z _ => z = .agg [.int .i64 r.value.kind, .int .i64 r.value.frm, .int .i64 r.value.to, .str r.value.text, .sl Ty.sApiValue r.value.items, .sl Ty.str r.value.names, .bool r.begun, .int .i64 r.pos, .int .i64 r.fault])
 | .l134_0 a0 a1 a2 a3 a4 a5 a6 a7 a8 a9 a10 a11 a12 a13 a14 a15, r => ∀ (w : World) (F : Nat → Prop) (ρ : Rho), AK Tryz.prog (ctx GG 101 w F ρ []) 134 [.code (c1 (c1 (c2 (c2 (c2 (c2 b134)))))), .inLoop (c1 (c1 (c2 (c2 (c2 (c2 b134)))))), .inBlock 0] [(0, .str a0), (2, .int .i64 a1), (3, .bool a2), (8, .ref 8 0), (9, .ref 9 0), (10, .int .i64 a3)] [(9, .cells 29 [.int .i64 a4, .int .i64 a5, .int .i64 a6, .str a7, .mf 6 70904, .nils]), (8, .cells 139 [.int .i64 a8, .int .i64 a9, .int .i64 a10, .str a11, .nils, .nils, .bool a12, .int .i64 a13, .int .i64 a14]), (70904, .arr 29 Ty.sApiValue a15)] (fun z _ => z = .agg [.int .i64 r.value.kind, .int .i64 r.value.frm, .int .i64 r.value.to, .str r.value.text, .sl Ty.sApiValue r.value.items, .sl Ty.str r.value.names, .bool r.begun, .int .i64 r.pos, .int .i64 r.fault])
 | .l134_1 a0 a1 a2 a3 a4 a5 a6 a7 a8 a9 a10 a11 a12 a13 a14 a15, r => ∀ (w : World) (F : Nat → Prop) (ρ : Rho), AK Tryz.prog (ctx GG 101 w F ρ []) 134 [.code (c2 (c2 (c2 (c1 (c1 (c1 (c2 (c2 (c2 (c2 b134)))))))))), .inBlock 1, .inLoop (c1 (c1 (c2 (c2 (c2 (c2 b134)))))), .inBlock 0] [(0, .str a0), (2, .int .i64 a1), (3, .bool a2), (8, .ref 8 0), (9, .ref 9 0), (11, .ref 11 0)] [(11, .cells 139 [.int .i64 a3.value.kind, .int .i64 a3.value.frm, .int .i64 a3.value.to, .str a3.value.text, .sl Ty.sApiValue a3.value.items, .sl Ty.str a3.value.names, .bool a3.begun, .int .i64 a3.pos, .int .i64 a3.fault]), (9, .cells 29 [.int .i64 a4, .int .i64 a5, .int .i64 a6, .str a7, .mf 6 70904, .nils]), (70904, .arr 29 Ty.sApiValue a8), (8, .cells 139 [.int .i64 a9, .int .i64 a10, .int .i64 a11, .str a12, .nils, .nils, .bool a13, .int .i64 a14, .int .i64 a15])] (fun z _ => z = .agg [.int .i64 r.value.kind, .int .i64 r.value.frm, .int .i64 r.value.to, .str r.value.text, .sl Ty.sApiValue r.value.items, .sl Ty.str r.value.names, .bool r.begun, .int .i64 r.pos, .int .i64 r.fault])
 | .e135 a0 a1 a2 a3, r => ∀ (w : World) (F : Nat → Prop) (ρ : Rho), AK Tryz.prog (ctx GG 160 w F ρ []) 135 [.code b135] (argE 0 [.str a0, .int .i64 a1, .int .i64 a2, .bool a3]) [] (fun z _ => z = .agg [.int .i64 r.value.kind, .int .i64 r.value.frm, .int .i64 r.value.to, .str r.value.text, .sl Ty.sApiValue r.value.items, .sl Ty.str r.value.names, .bool r.begun, .int .i64 r.pos, .int .i64 r.fault])
 | .l135_0 a0 a1 a2 a3 a4 a5 a6 a7 a8 a9 a10 a11 a12 a13 a14 a15 a16, r => ∀ (w : World) (F : Nat → Prop) (ρ : Rho), AK Tryz.prog (ctx GG 160 w F ρ []) 135 [.code (c1 (c1 (c2 (c2 (c2 (c2 b135)))))), .inLoop (c1 (c1 (c2 (c2 (c2 (c2 b135)))))), .inBlock 0] [(0, .str a0), (2, .int .i64 a1), (3, .bool a2), (8, .ref 8 0), (9, .ref 9 0), (10, .int .i64 a3)] [(9, .cells 29 [.int .i64 a4, .int .i64 a5, .int .i64 a6, .str a7, .mf 6 70904, .mf 1 70905]), (8, .cells 139 [.int .i64 a8, .int .i64 a9, .int .i64 a10, .str a11, .nils, .nils, .bool a12, .int .i64 a13, .int .i64 a14]), (70904, .arr 29 Ty.sApiValue a15), (70905, .arr 9 Ty.str a16)] (fun z _ => z = .agg [.int .i64 r.value.kind, .int .i64 r.value.frm, .int .i64 r.value.to, .str r.value.text, .sl Ty.sApiValue r.value.items, .sl Ty.str r.value.names, .bool r.begun, .int .i64 r.pos, .int .i64 r.fault])
 | .l135_1 a0 a1 a2 a3 a4 a5 a6 a7 a8 a9 a10 a11 a12 a13 a14 a15 a16, r => ∀ (w : World) (F : Nat → Prop) (ρ : Rho), AK Tryz.prog (ctx GG 160 w F ρ []) 135 [.code (c2 (c2 (c2 (c2 (c2 (c2 (c2 (c2 (c2 (c2 (c2 (c1 (c1 (c1 (c2 (c2 (c2 (c2 b135)))))))))))))))))), .inBlock 1, .inLoop (c1 (c1 (c2 (c2 (c2 (c2 b135)))))), .inBlock 0] [(0, .str a0), (2, .int .i64 a1), (3, .bool a2), (8, .ref 8 0), (9, .ref 9 0), (12, .ref 12 0)] [(12, .cells 139 [.int .i64 a3.value.kind, .int .i64 a3.value.frm, .int .i64 a3.value.to, .str a3.value.text, .sl Ty.sApiValue a3.value.items, .sl Ty.str a3.value.names, .bool a3.begun, .int .i64 a3.pos, .int .i64 a3.fault]), (9, .cells 29 [.int .i64 a4, .int .i64 a5, .int .i64 a6, .str a7, .mf 6 70904, .mf 1 70905]), (70905, .arr 9 Ty.str a8), (70904, .arr 29 Ty.sApiValue a9), (8, .cells 139 [.int .i64 a10, .int .i64 a11, .int .i64 a12, .str a13, .nils, .nils, .bool a14, .int .i64 a15, .int .i64 a16])] (fun z _ => z = .agg [.int .i64 r.value.kind, .int .i64 r.value.frm, .int .i64 r.value.to, .str r.value.text, .sl Ty.sApiValue r.value.items, .sl Ty.str r.value.names, .bool r.begun, .int .i64 r.pos, .int .i64 r.fault])
theorem w80 : ∀ (l : L80) (r : Ref10Part), f80 l = some r → M80 l r := f80.partial_correctness M80 (by
 intro f ih l r h
 cases l with
 | e80 a0 a1 a2 a3 =>
  intro w F ρ
  dsimp only at h
  refine ak_seq ?_
  refine ak_regionS (.cons rfl (ok_alloc (d := 8) (dlt rfl rfl) rfl ty139 rfl rfl rfl) (.nil ?_))
  refine ak_seq ?_
  refine ak_seq ?_
  obtain ⟨v1, hv1, h⟩ := bind_of h
  obtain ⟨v2, hv2, h⟩ := bind_of h
  refine ak_regionS (.cons rfl (ok_move (dlt rfl rfl) rfl rfl) (.cons rfl (ok_move (dlt rfl rfl) rfl rfl) (.cons rfl (ok_byte (s := a0) (c := v1) (dlt rfl rfl) rfl Tryz.underlying9 rfl rfl (idx_0 hv1) (idx_1 hv1)) (.cons rfl (ok_call (xs := [.int .u8 (v1.toNat : Int)]) (caps := []) (dlt rfl rfl) rfl rfl Tryz.func130 rfl rfl rfl (d130 hv2) rfl) (.nil ?_)))))
  refine ak_block ?_
  refine ak_seq ?_
  refine ak_regionS (.cons rfl (ok_eql (dlt rfl rfl) rfl rfl rfl) (.cons rfl (ok_assign (dlt rfl rfl) rfl rfl) (.nil ?_)))
  refine ak_cond rfl (fun ht => ?_) (fun ht => ?_)
  ·have h := cond_t ht h
   refine ak_seq ?_
   obtain ⟨v3, hv3, h⟩ := bind_of h
   refine ak_regionS (.cons rfl (ok_move (dlt rfl rfl) rfl rfl) (.cons rfl (ok_move (dlt rfl rfl) rfl rfl) (.cons rfl (ok_call (xs := [.str a0, .int .i64 a1]) (caps := []) (dlt rfl rfl) rfl rfl Tryz.func131 rfl rfl rfl (d131 hv3) rfl) (.cons rfl (ok_storeV rfl rfl ty139 rfl rfl rfl rfl (by decide) rfl rfl) (.nil ?_)))))
   obtain rfl := Option.some.inj h
   refine ak_conv (Γ' := [(8, .ref 8 0)]) (σ' := [(8, .cells 139 [.int .i64 v3.value.kind, .int .i64 v3.value.frm, .int .i64 v3.value.to, .str v3.value.text, .sl Ty.sApiValue v3.value.items, .sl Ty.str v3.value.names, .bool v3.begun, .int .i64 v3.pos, .int .i64 v3.fault])]) (.cons rfl (.refl _) (.nil _)) (.cons rfl (.refl _) (.nil _)) ?_
   exact ak_ret (fn := Tryz.f80) Tryz.func80 rfl ⟨⟨_, _, _, _, _, _, rfl, rfl, ty139⟩, trivial⟩ rfl
  ·have h := cond_f ht h
   refine ak_seq ?_
   refine ak_regionS (.cons rfl (ok_eql (dlt rfl rfl) rfl rfl rfl) (.cons rfl (ok_assign (dlt rfl rfl) rfl rfl) (.nil ?_)))
   refine ak_cond rfl (fun ht => ?_) (fun ht => ?_)
   ·have h := cond_t ht h
    refine ak_seq ?_
    obtain ⟨v4, hv4, h⟩ := bind_of h
    refine ak_regionS (.cons rfl (ok_move (dlt rfl rfl) rfl rfl) (.cons rfl (ok_move (dlt rfl rfl) rfl rfl) (.cons rfl (ok_move (dlt rfl rfl) rfl rfl) (.cons rfl (ok_call (xs := [.str a0, .int .i64 a1, .bool a3]) (caps := []) (dlt rfl rfl) rfl rfl Tryz.func132 rfl rfl rfl (d132 hv4) rfl) (.cons rfl (ok_storeV rfl rfl ty139 rfl rfl rfl rfl (by decide) rfl rfl) (.nil ?_))))))
    obtain rfl := Option.some.inj h
    refine ak_conv (Γ' := [(8, .ref 8 0)]) (σ' := [(8, .cells 139 [.int .i64 v4.value.kind, .int .i64 v4.value.frm, .int .i64 v4.value.to, .str v4.value.text, .sl Ty.sApiValue v4.value.items, .sl Ty.str v4.value.names, .bool v4.begun, .int .i64 v4.pos, .int .i64 v4.fault])]) (.cons rfl (.refl _) (.nil _)) (.cons rfl (.refl _) (.nil _)) ?_
    exact ak_ret (fn := Tryz.f80) Tryz.func80 rfl ⟨⟨_, _, _, _, _, _, rfl, rfl, ty139⟩, trivial⟩ rfl
   ·have h := cond_f ht h
    refine ak_seq ?_
    refine ak_regionS (.cons rfl (ok_eql (dlt rfl rfl) rfl rfl rfl) (.cons rfl (ok_assign (dlt rfl rfl) rfl rfl) (.nil ?_)))
    refine ak_cond rfl (fun ht => ?_) (fun ht => ?_)
    ·have h := cond_t ht h
     refine ak_seq ?_
     obtain ⟨v5, hv5, h⟩ := bind_of h
     refine ak_regionS (.cons rfl (ok_move (dlt rfl rfl) rfl rfl) (.cons rfl (ok_move (dlt rfl rfl) rfl rfl) (.cons rfl (ok_call (xs := [.str a0, .int .i64 a1]) (caps := []) (dlt rfl rfl) rfl rfl Tryz.func133 rfl rfl rfl (d133 hv5) rfl) (.cons rfl (ok_storeV rfl rfl ty139 rfl rfl rfl rfl (by decide) rfl rfl) (.nil ?_)))))
     obtain rfl := Option.some.inj h
     refine ak_conv (Γ' := [(8, .ref 8 0)]) (σ' := [(8, .cells 139 [.int .i64 v5.value.kind, .int .i64 v5.value.frm, .int .i64 v5.value.to, .str v5.value.text, .sl Ty.sApiValue v5.value.items, .sl Ty.str v5.value.names, .bool v5.begun, .int .i64 v5.pos, .int .i64 v5.fault])]) (.cons rfl (.refl _) (.nil _)) (.cons rfl (.refl _) (.nil _)) ?_
     exact ak_ret (fn := Tryz.f80) Tryz.func80 rfl ⟨⟨_, _, _, _, _, _, rfl, rfl, ty139⟩, trivial⟩ rfl
    ·have h := cond_f ht h
     refine ak_seq ?_
     refine ak_regionS (.cons rfl (ok_eql (dlt rfl rfl) rfl rfl rfl) (.cons rfl (ok_assign (dlt rfl rfl) rfl rfl) (.nil ?_)))
     refine ak_cond rfl (fun ht => ?_) (fun ht => ?_)
     ·have h := cond_t ht h
      refine ak_seq ?_
      refine ak_seq ?_
      refine ak_regionS (.cons rfl (ok_move (dlt rfl rfl) rfl rfl) (.cons rfl (ok_lss (dlt rfl rfl) rfl rfl rfl) (.nil ?_)))
      refine ak_cond rfl (fun ht => ?_) (fun ht => ?_)
      ·have h := cond_t ht h
       refine ak_seq ?_
       refine ak_regionS (.cons rfl (ok_move (dlt rfl rfl) rfl rfl) (.cons rfl (ok_build (dlt rfl rfl) rfl ty139 rfl pl139 rfl rfl rfl) (.cons rfl (ok_storeV rfl rfl ty139 rfl rfl rfl rfl (by decide) rfl rfl) (.nil ?_))))
       obtain rfl := Option.some.inj h
       refine ak_conv (Γ' := [(8, .ref 8 0)]) (σ' := [(8, .cells 139 [.int .i64 (((⟨(⟨0, 0, 0, [], ([] : List ApiValue), ([] : List (List UInt8))⟩ : ApiValue), false, a1, 12⟩ : Ref10Part).value).kind), .int .i64 (((⟨(⟨0, 0, 0, [], ([] : List ApiValue), ([] : List (List UInt8))⟩ : ApiValue), false, a1, 12⟩ : Ref10Part).value).frm), .int .i64 (((⟨(⟨0, 0, 0, [], ([] : List ApiValue), ([] : List (List UInt8))⟩ : ApiValue), false, a1, 12⟩ : Ref10Part).value).to), .str (((⟨(⟨0, 0, 0, [], ([] : List ApiValue), ([] : List (List UInt8))⟩ : ApiValue), false, a1, 12⟩ : Ref10Part).value).text), .sl Ty.sApiValue (((⟨(⟨0, 0, 0, [], ([] : List ApiValue), ([] : List (List UInt8))⟩ : ApiValue), false, a1, 12⟩ : Ref10Part).value).items), .sl Ty.str (((⟨(⟨0, 0, 0, [], ([] : List ApiValue), ([] : List (List UInt8))⟩ : ApiValue), false, a1, 12⟩ : Ref10Part).value).names), .bool ((⟨(⟨0, 0, 0, [], ([] : List ApiValue), ([] : List (List UInt8))⟩ : ApiValue), false, a1, 12⟩ : Ref10Part).begun), .int .i64 ((⟨(⟨0, 0, 0, [], ([] : List ApiValue), ([] : List (List UInt8))⟩ : ApiValue), false, a1, 12⟩ : Ref10Part).pos), .int .i64 ((⟨(⟨0, 0, 0, [], ([] : List ApiValue), ([] : List (List UInt8))⟩ : ApiValue), false, a1, 12⟩ : Ref10Part).fault)])]) (.cons rfl (.refl _) (.nil _)) (.cons rfl (.cells (.cons (.refl _) (.cons (.refl _) (.cons (.refl _) (.cons (.refl _) (.cons (sub_nils Ty.sApiValue) (.cons (sub_nils Ty.str) (.cons (.refl _) (.cons (.refl _) (.cons (.refl _) (.nil))))))))))) (.nil _)) ?_
       exact ak_ret (fn := Tryz.f80) Tryz.func80 rfl ⟨⟨_, _, _, _, _, _, rfl, rfl, ty139⟩, trivial⟩ rfl
      ·have h := cond_f ht h
       refine ak_skip ?_
       refine ak_seq ?_
       obtain ⟨v6, hv6, h⟩ := bind_of h
       refine ak_regionS (.cons rfl (ok_move (dlt rfl rfl) rfl rfl) (.cons rfl (ok_move (dlt rfl rfl) rfl rfl) (.cons rfl (ok_move (dlt rfl rfl) rfl rfl) (.cons rfl (ok_move (dlt rfl rfl) rfl rfl) (.cons rfl (ok_call (xs := [.str a0, .int .i64 a1, .int .i64 a2, .bool a3]) (caps := []) (dlt rfl rfl) rfl rfl Tryz.func134 rfl rfl rfl (fn_of (fn := Tryz.f134) Tryz.func134 rfl Tryz.ntmps134 rfl (ih _ _ hv6)) rfl) (.cons rfl (ok_storeV rfl rfl ty139 rfl rfl rfl rfl (by decide) rfl rfl) (.nil ?_)))))))
       obtain rfl := Option.some.inj h
       refine ak_conv (Γ' := [(8, .ref 8 0)]) (σ' := [(8, .cells 139 [.int .i64 v6.value.kind, .int .i64 v6.value.frm, .int .i64 v6.value.to, .str v6.value.text, .sl Ty.sApiValue v6.value.items, .sl Ty.str v6.value.names, .bool v6.begun, .int .i64 v6.pos, .int .i64 v6.fault])]) (.cons rfl (.refl _) (.nil _)) (.cons rfl (.refl _) (.nil _)) ?_
       exact ak_ret (fn := Tryz.f80) Tryz.func80 rfl ⟨⟨_, _, _, _, _, _, rfl, rfl, ty139⟩, trivial⟩ rfl
     ·have h := cond_f ht h
      refine ak_seq ?_
      refine ak_regionS (.cons rfl (ok_eql (dlt rfl rfl) rfl rfl rfl) (.cons rfl (ok_assign (dlt rfl rfl) rfl rfl) (.nil ?_)))
      refine ak_cond rfl (fun ht => ?_) (fun ht => ?_)
      ·have h := cond_t ht h
       refine ak_seq ?_
       refine ak_seq ?_
       refine ak_regionS (.cons rfl (ok_move (dlt rfl rfl) rfl rfl) (.cons rfl (ok_lss (dlt rfl rfl) rfl rfl rfl) (.nil ?_)))
       refine ak_cond rfl (fun ht => ?_) (fun ht => ?_)
       ·have h := cond_t ht h
        refine ak_seq ?_
        refine ak_regionS (.cons rfl (ok_move (dlt rfl rfl) rfl rfl) (.cons rfl (ok_build (dlt rfl rfl) rfl ty139 rfl pl139 rfl rfl rfl) (.cons rfl (ok_storeV rfl rfl ty139 rfl rfl rfl rfl (by decide) rfl rfl) (.nil ?_))))
        obtain rfl := Option.some.inj h
        refine ak_conv (Γ' := [(8, .ref 8 0)]) (σ' := [(8, .cells 139 [.int .i64 (((⟨(⟨0, 0, 0, [], ([] : List ApiValue), ([] : List (List UInt8))⟩ : ApiValue), false, a1, 12⟩ : Ref10Part).value).kind), .int .i64 (((⟨(⟨0, 0, 0, [], ([] : List ApiValue), ([] : List (List UInt8))⟩ : ApiValue), false, a1, 12⟩ : Ref10Part).value).frm), .int .i64 (((⟨(⟨0, 0, 0, [], ([] : List ApiValue), ([] : List (List UInt8))⟩ : ApiValue), false, a1, 12⟩ : Ref10Part).value).to), .str (((⟨(⟨0, 0, 0, [], ([] : List ApiValue), ([] : List (List UInt8))⟩ : ApiValue), false, a1, 12⟩ : Ref10Part).value).text), .sl Ty.sApiValue (((⟨(⟨0, 0, 0, [], ([] : List ApiValue), ([] : List (List UInt8))⟩ : ApiValue), false, a1, 12⟩ : Ref10Part).value).items), .sl Ty.str (((⟨(⟨0, 0, 0, [], ([] : List ApiValue), ([] : List (List UInt8))⟩ : ApiValue), false, a1, 12⟩ : Ref10Part).value).names), .bool ((⟨(⟨0, 0, 0, [], ([] : List ApiValue), ([] : List (List UInt8))⟩ : ApiValue), false, a1, 12⟩ : Ref10Part).begun), .int .i64 ((⟨(⟨0, 0, 0, [], ([] : List ApiValue), ([] : List (List UInt8))⟩ : ApiValue), false, a1, 12⟩ : Ref10Part).pos), .int .i64 ((⟨(⟨0, 0, 0, [], ([] : List ApiValue), ([] : List (List UInt8))⟩ : ApiValue), false, a1, 12⟩ : Ref10Part).fault)])]) (.cons rfl (.refl _) (.nil _)) (.cons rfl (.cells (.cons (.refl _) (.cons (.refl _) (.cons (.refl _) (.cons (.refl _) (.cons (sub_nils Ty.sApiValue) (.cons (sub_nils Ty.str) (.cons (.refl _) (.cons (.refl _) (.cons (.refl _) (.nil))))))))))) (.nil _)) ?_
        exact ak_ret (fn := Tryz.f80) Tryz.func80 rfl ⟨⟨_, _, _, _, _, _, rfl, rfl, ty139⟩, trivial⟩ rfl
       ·have h := cond_f ht h
        refine ak_skip ?_
        refine ak_seq ?_
        obtain ⟨v7, hv7, h⟩ := bind_of h
        refine ak_regionS (.cons rfl (ok_move (dlt rfl rfl) rfl rfl) (.cons rfl (ok_move (dlt rfl rfl) rfl rfl) (.cons rfl (ok_move (dlt rfl rfl) rfl rfl) (.cons rfl (ok_move (dlt rfl rfl) rfl rfl) (.cons rfl (ok_call (xs := [.str a0, .int .i64 a1, .int .i64 a2, .bool a3]) (caps := []) (dlt rfl rfl) rfl rfl Tryz.func135 rfl rfl rfl (fn_of (fn := Tryz.f135) Tryz.func135 rfl Tryz.ntmps135 rfl (ih _ _ hv7)) rfl) (.cons rfl (ok_storeV rfl rfl ty139 rfl rfl rfl rfl (by decide) rfl rfl) (.nil ?_)))))))
        obtain rfl := Option.some.inj h
        refine ak_conv (Γ' := [(8, .ref 8 0)]) (σ' := [(8, .cells 139 [.int .i64 v7.value.kind, .int .i64 v7.value.frm, .int .i64 v7.value.to, .str v7.value.text, .sl Ty.sApiValue v7.value.items, .sl Ty.str v7.value.names, .bool v7.begun, .int .i64 v7.pos, .int .i64 v7.fault])]) (.cons rfl (.refl _) (.nil _)) (.cons rfl (.refl _) (.nil _)) ?_
        exact ak_ret (fn := Tryz.f80) Tryz.func80 rfl ⟨⟨_, _, _, _, _, _, rfl, rfl, ty139⟩, trivial⟩ rfl
      ·have h := cond_f ht h
       refine ak_skip ?_
       refine ak_inBlock ?_
       refine ak_seq ?_
       refine ak_regionS (.cons rfl (ok_move (dlt rfl rfl) rfl rfl) (.cons rfl (ok_build (dlt rfl rfl) rfl ty139 rfl pl139 rfl rfl rfl) (.cons rfl (ok_storeV rfl rfl ty139 rfl rfl rfl rfl (by decide) rfl rfl) (.nil ?_))))
       obtain rfl := Option.some.inj h
       refine ak_conv (Γ' := [(8, .ref 8 0)]) (σ' := [(8, .cells 139 [.int .i64 (((⟨(⟨0, 0, 0, [], ([] : List ApiValue), ([] : List (List UInt8))⟩ : ApiValue), false, a1, 8⟩ : Ref10Part).value).kind), .int .i64 (((⟨(⟨0, 0, 0, [], ([] : List ApiValue), ([] : List (List UInt8))⟩ : ApiValue), false, a1, 8⟩ : Ref10Part).value).frm), .int .i64 (((⟨(⟨0, 0, 0, [], ([] : List ApiValue), ([] : List (List UInt8))⟩ : ApiValue), false, a1, 8⟩ : Ref10Part).value).to), .str (((⟨(⟨0, 0, 0, [], ([] : List ApiValue), ([] : List (List UInt8))⟩ : ApiValue), false, a1, 8⟩ : Ref10Part).value).text), .sl Ty.sApiValue (((⟨(⟨0, 0, 0, [], ([] : List ApiValue), ([] : List (List UInt8))⟩ : ApiValue), false, a1, 8⟩ : Ref10Part).value).items), .sl Ty.str (((⟨(⟨0, 0, 0, [], ([] : List ApiValue), ([] : List (List UInt8))⟩ : ApiValue), false, a1, 8⟩ : Ref10Part).value).names), .bool ((⟨(⟨0, 0, 0, [], ([] : List ApiValue), ([] : List (List UInt8))⟩ : ApiValue), false, a1, 8⟩ : Ref10Part).begun), .int .i64 ((⟨(⟨0, 0, 0, [], ([] : List ApiValue), ([] : List (List UInt8))⟩ : ApiValue), false, a1, 8⟩ : Ref10Part).pos), .int .i64 ((⟨(⟨0, 0, 0, [], ([] : List ApiValue), ([] : List (List UInt8))⟩ : ApiValue), false, a1, 8⟩ : Ref10Part).fault)])]) (.cons rfl (.refl _) (.nil _)) (.cons rfl (.cells (.cons (.refl _) (.cons (.refl _) (.cons (.refl _) (.cons (.refl _) (.cons (sub_nils Ty.sApiValue) (.cons (sub_nils Ty.str) (.cons (.refl _) (.cons (.refl _) (.cons (.refl _) (.nil))))))))))) (.nil _)) ?_
       exact ak_ret (fn := Tryz.f80) Tryz.func80 rfl ⟨⟨_, _, _, _, _, _, rfl, rfl, ty139⟩, trivial⟩ rfl
 | e134 a0 a1 a2 a3 =>
  intro w F ρ
  dsimp only at h
  refine ak_seq ?_
  refine ak_regionS (.cons rfl (ok_alloc (d := 8) (dlt rfl rfl) rfl ty139 rfl rfl rfl) (.nil ?_))
  refine ak_seq ?_
  refine ak_regionS (.cons rfl (ok_move (dlt rfl rfl) rfl rfl) (.cons rfl (ok_build (dlt rfl rfl) rfl ty29 rfl pl29 rfl rfl rfl) (.cons rfl (ok_alloc (d := 9) (dlt rfl rfl) rfl ty29 rfl rfl rfl) (.cons rfl (ok_storeV rfl rfl ty29 rfl rfl rfl rfl (by decide) rfl rfl) (.nil ?_)))))
  refine ak_seq ?_
  obtain ⟨v1, hv1, h⟩ := bind_of h
  refine ak_regionS (.cons rfl (ok_move (dlt rfl rfl) rfl rfl) (.cons rfl (ok_move (dlt rfl rfl) rfl rfl) (.cons rfl (ok_add (dlt rfl rfl) rfl rfl rfl) (.cons rfl (ok_call (xs := [.str a0, .int .i64 (IntKind.wrap .i64 (a1 + (1 : Int)))]) (caps := []) (dlt rfl rfl) rfl rfl Tryz.func79 rfl rfl rfl (d79 hv1) rfl) (.cons rfl (ok_assign (dlt rfl rfl) rfl rfl) (.nil ?_))))))
  refine ak_seq ?_
  refine ak_seq ?_
  obtain ⟨v2, hv2, h⟩ := bind_of h
  refine ak_regionS (.cons rfl (ok_move (dlt rfl rfl) rfl rfl) (.cons rfl (ok_move (dlt rfl rfl) rfl rfl) (.cons rfl (ok_lenT (s := a0) (dlt rfl rfl) rfl Tryz.underlying9 rfl) (.cons rfl (ok_lss (dlt rfl rfl) rfl rfl rfl) (.cons rfl (ok_move (dlt rfl rfl) rfl rfl) (.consG (pre := []) (dlt rfl rfl) rfl rfl rfl rfl .nil (fun he => ok_move (dlt rfl rfl) rfl rfl) (.consG (pre := []) (dlt rfl rfl) rfl rfl rfl rfl .nil (fun he => ok_move (dlt rfl rfl) rfl rfl) (.consG (pre := [(23, .str a0), (24, .int .i64 v1)]) (dlt rfl rfl) rfl rfl rfl rfl (.cons rfl (fun he => he) (.cons rfl (fun he => he) .nil)) (fun he => ok_byte (s := a0) (c := v2) (dlt rfl rfl) rfl Tryz.underlying9 rfl rfl (idx_0 (gd_t hv2 he)) (idx_1 (gd_t hv2 he))) (.consG (pre := [(25, .int .u8 (v2.toNat : Int))]) (dlt rfl rfl) rfl rfl rfl rfl (.cons rfl (fun he => he) .nil) (fun he => ok_eql (dlt rfl rfl) rfl rfl rfl) (.cons rfl (ok_andW (dlt rfl rfl) rfl rfl rfl (fun h => h)) (.nil ?_)))))))))))
  refine ak_cond rfl (fun ht => ?_) (fun ht => ?_)
  ·have h := cond_t ht h
   refine ak_seq ?_
   refine ak_regionS (.cons rfl (ok_move (dlt rfl rfl) rfl rfl) (.cons rfl (ok_add (dlt rfl rfl) rfl rfl rfl) (.cons rfl (ok_fieldV (dlt rfl rfl) rfl fo29_2 ty3 (by decide) rfl) (.cons rfl (ok_storeV rfl rfl ty3 rfl rfl rfl rfl (by decide) rfl rfl) (.nil ?_)))))
   refine ak_seq ?_
   refine ak_regionS (.cons rfl (ok_loadVT (dlt rfl rfl) rfl ty29 rfl rfl (by decide) rfl) (.cons rfl (ok_move (dlt rfl rfl) rfl rfl) (.cons rfl (ok_add (dlt rfl rfl) rfl rfl rfl) (.cons rfl (ok_build (dlt rfl rfl) rfl ty139 rfl pl139 rfl rfl rfl) (.cons rfl (ok_storeV rfl rfl ty139 rfl rfl rfl rfl (by decide) rfl rfl) (.nil ?_))))))
   obtain rfl := Option.some.inj h
   refine ak_conv (Γ' := [(8, .ref 8 0)]) (σ' := [(8, .cells 139 [.int .i64 (((⟨(⟨4, a1, IntKind.wrap .i64 (v1 + (1 : Int)), [], ([] : List ApiValue), ([] : List (List UInt8))⟩ : ApiValue), true, IntKind.wrap .i64 (v1 + (1 : Int)), 0⟩ : Ref10Part).value).kind), .int .i64 (((⟨(⟨4, a1, IntKind.wrap .i64 (v1 + (1 : Int)), [], ([] : List ApiValue), ([] : List (List UInt8))⟩ : ApiValue), true, IntKind.wrap .i64 (v1 + (1 : Int)), 0⟩ : Ref10Part).value).frm), .int .i64 (((⟨(⟨4, a1, IntKind.wrap .i64 (v1 + (1 : Int)), [], ([] : List ApiValue), ([] : List (List UInt8))⟩ : ApiValue), true, IntKind.wrap .i64 (v1 + (1 : Int)), 0⟩ : Ref10Part).value).to), .str (((⟨(⟨4, a1, IntKind.wrap .i64 (v1 + (1 : Int)), [], ([] : List ApiValue), ([] : List (List UInt8))⟩ : ApiValue), true, IntKind.wrap .i64 (v1 + (1 : Int)), 0⟩ : Ref10Part).value).text), .sl Ty.sApiValue (((⟨(⟨4, a1, IntKind.wrap .i64 (v1 + (1 : Int)), [], ([] : List ApiValue), ([] : List (List UInt8))⟩ : ApiValue), true, IntKind.wrap .i64 (v1 + (1 : Int)), 0⟩ : Ref10Part).value).items), .sl Ty.str (((⟨(⟨4, a1, IntKind.wrap .i64 (v1 + (1 : Int)), [], ([] : List ApiValue), ([] : List (List UInt8))⟩ : ApiValue), true, IntKind.wrap .i64 (v1 + (1 : Int)), 0⟩ : Ref10Part).value).names), .bool ((⟨(⟨4, a1, IntKind.wrap .i64 (v1 + (1 : Int)), [], ([] : List ApiValue), ([] : List (List UInt8))⟩ : ApiValue), true, IntKind.wrap .i64 (v1 + (1 : Int)), 0⟩ : Ref10Part).begun), .int .i64 ((⟨(⟨4, a1, IntKind.wrap .i64 (v1 + (1 : Int)), [], ([] : List ApiValue), ([] : List (List UInt8))⟩ : ApiValue), true, IntKind.wrap .i64 (v1 + (1 : Int)), 0⟩ : Ref10Part).pos), .int .i64 ((⟨(⟨4, a1, IntKind.wrap .i64 (v1 + (1 : Int)), [], ([] : List ApiValue), ([] : List (List UInt8))⟩ : ApiValue), true, IntKind.wrap .i64 (v1 + (1 : Int)), 0⟩ : Ref10Part).fault)])]) (.cons rfl (.refl _) (.nil _)) (.cons rfl (.cells (.cons (.refl _) (.cons (.refl _) (.cons (.refl _) (.cons (.refl _) (.cons (sub_nils Ty.sApiValue) (.cons (sub_nils Ty.str) (.cons (.refl _) (.cons (.refl _) (.cons (.refl _) (.nil))))))))))) (.nil _)) ?_
   exact ak_ret (fn := Tryz.f134) Tryz.func134 rfl ⟨⟨_, _, _, _, _, _, rfl, rfl, ty139⟩, trivial⟩ rfl
  ·have h := cond_f ht h
   refine ak_skip ?_
   refine ak_block ?_
   refine ak_loop ?_
   refine ak_nilRowV (r := 9) (i := 4) (d := 5000) (e := 29) Ty.sApiValue rfl rfl rfl rfl rfl ?_
   refine ak_conv (Γ' := [(0, .str a0), (2, .int .i64 a2), (3, .bool a3), (8, .ref 8 0), (9, .ref 9 0), (10, .int .i64 v1)]) (σ' := [(9, .cells 29 [.int .i64 (4 : Int), .int .i64 a1, .int .i64 (0 : Int), .str [], .mf 6 5000, .nils]), (5000, .arr 29 Ty.sApiValue ([] : List ApiValue)), (8, .cells 139 [.int .i64 (0 : Int), .int .i64 (0 : Int), .int .i64 (0 : Int), .str [], .nils, .nils, .bool false, .int .i64 (0 : Int), .int .i64 (0 : Int)])]) (.cons rfl (.refl _) (.cons rfl (.refl _) (.cons rfl (.refl _) (.cons rfl (.refl _) (.cons rfl (.refl _) (.cons rfl (.refl _) (.nil _))))))) (.cons rfl (.refl _) (.cons rfl (.refl _) (.cons rfl (.refl _) (.nil _)))) ?_
   refine ak_ren 5000 70904 rfl rfl rfl rfl ?_
   exact ak_conv (.cons rfl (.refl _) (.cons rfl (.refl _) (.cons rfl (.refl _) (.cons rfl (.refl _) (.cons rfl (.refl _) (.cons rfl (.refl _) (.nil _))))))) (.cons rfl (.refl _) (.cons rfl (.refl _) (.cons rfl (.refl _) (.nil _)))) (ih _ _ h w F ρ)
 | l134_0 a0 a1 a2 a3 a4 a5 a6 a7 a8 a9 a10 a11 a12 a13 a14 a15 =>
  intro w F ρ
  dsimp only at h
  refine ak_block ?_
  refine ak_seq ?_
  refine ak_seq ?_
  refine ak_regionS (.cons rfl (ok_move (dlt rfl rfl) rfl rfl) (.cons rfl (ok_move (dlt rfl rfl) rfl rfl) (.cons rfl (ok_lenT (s := a0) (dlt rfl rfl) rfl Tryz.underlying9 rfl) (.cons rfl (ok_geq (dlt rfl rfl) rfl rfl rfl) (.nil ?_)))))
  refine ak_cond rfl (fun ht => ?_) (fun ht => ?_)
  ·have h := cond_t ht h
   refine ak_seq ?_
   obtain ⟨v3, hv3, h⟩ := bind_of h
   refine ak_regionS (.cons rfl (ok_loadVT (dlt rfl rfl) rfl ty29 rfl rfl (by decide) rfl) (.cons rfl (ok_move (dlt rfl rfl) rfl rfl) (.cons rfl (ok_lenT (s := a0) (dlt rfl rfl) rfl Tryz.underlying9 rfl) (.freeze 70904 rfl rfl (.cons rfl (ok_call (xs := [.agg [.int .i64 a4, .int .i64 a5, .int .i64 a6, .str a7, .sl Ty.sApiValue a15, .nils], .int .i64 (10 : Int), .int .i64 (a0.length : Int)]) (caps := []) (dlt rfl rfl) rfl rfl Tryz.func183 rfl rfl rfl (Does.sub (d183 hv3) (.cons (sub_agg (.cons (.refl _) (.cons (.refl _) (.cons (.refl _) (.cons (.refl _) (.cons (.refl _) (.cons (sub_nils Ty.str) (.nil)))))))) (.cons (.refl _) (.cons (.refl _) (.nil))))) rfl) (.cons rfl (ok_storeV rfl rfl ty139 rfl rfl rfl rfl (by decide) rfl rfl) (.nil ?_)))))))
   obtain rfl := Option.some.inj h
   refine ak_conv (Γ' := [(8, .ref 8 0)]) (σ' := [(8, .cells 139 [.int .i64 v3.value.kind, .int .i64 v3.value.frm, .int .i64 v3.value.to, .str v3.value.text, .sl Ty.sApiValue v3.value.items, .sl Ty.str v3.value.names, .bool v3.begun, .int .i64 v3.pos, .int .i64 v3.fault])]) (.cons rfl (.refl _) (.nil _)) (.cons rfl (.refl _) (.nil _)) ?_
   exact ak_ret (fn := Tryz.f134) Tryz.func134 rfl ⟨⟨_, _, _, _, _, _, rfl, rfl, ty139⟩, trivial⟩ rfl
  ·have h := cond_f ht h
   refine ak_skip ?_
   refine ak_seq ?_
   obtain ⟨v4, hv4, h⟩ := bind_of h
   refine ak_regionS (.cons rfl (ok_move (dlt rfl rfl) rfl rfl) (.cons rfl (ok_move (dlt rfl rfl) rfl rfl) (.cons rfl (ok_move (dlt rfl rfl) rfl rfl) (.cons rfl (ok_sub (dlt rfl rfl) rfl rfl rfl) (.cons rfl (ok_move (dlt rfl rfl) rfl rfl) (.cons rfl (ok_call (xs := [.str a0, .int .i64 a3, .int .i64 (IntKind.wrap .i64 (a1 - (1 : Int))), .bool a2]) (caps := []) (dlt rfl rfl) rfl rfl Tryz.func80 rfl rfl rfl (fn_of (fn := Tryz.f80) Tryz.func80 rfl Tryz.ntmps80 rfl (ih _ _ hv4)) rfl) (.cons rfl (ok_alloc (d := 11) (dlt rfl rfl) rfl ty139 rfl rfl rfl) (.cons rfl (ok_storeV rfl rfl ty139 rfl rfl rfl rfl (by decide) rfl rfl) (.nil ?_)))))))))
   refine ak_seq ?_
   refine ak_seq ?_
   refine ak_regionS (.cons rfl (ok_fieldV (dlt rfl rfl) rfl fo139_1 ty4 (by decide) rfl) (.cons rfl (ok_loadV (dlt rfl rfl) rfl ty4 rfl rfl rfl) (.nil ?_)))
   refine ak_cond rfl (fun ht => ?_) (fun ht => ?_)
   ·have h := cond_t ht h
    obtain ⟨v5, hv5, h⟩ := bind_of h
    refine ak_regionS (.cons rfl (ok_fieldV (dlt rfl rfl) rfl fo29_4 ty26 (by decide) rfl) (.cons rfl (ok_loadV (dlt rfl rfl) rfl ty26 rfl rfl rfl) (.cons rfl (ok_fieldV (dlt rfl rfl) rfl fo139_0 ty29 (by decide) rfl) (.cons rfl (ok_loadVT (dlt rfl rfl) rfl ty29 rfl rfl (by decide) rfl) (.cons rfl (ok_lit (τ := Ty.sApiValue) (dlt rfl rfl) ([v4.value] : List ApiValue) rfl Tryz.underlying26 ty29 rfl rfl rfl rfl rfl (by decide) (by decide) rfl) (.cons rfl (ok_appendF (τ := Ty.sApiValue) (xs := a15) (ys := ([v4.value] : List ApiValue)) (dlt rfl rfl) rfl Tryz.underlying26 ty29 rfl rfl rfl rfl (room_1 hv5) (room_2 hv5)) (.cons rfl (ok_fieldV (dlt rfl rfl) rfl fo29_4 ty26 (by decide) rfl) (.cons rfl (ok_storeV rfl rfl ty26 rfl rfl rfl rfl (by decide) rfl rfl) (.nil ?_)))))))))
    exact ak_conv (.cons rfl (.refl _) (.cons rfl (.refl _) (.cons rfl (.refl _) (.cons rfl (.refl _) (.cons rfl (.refl _) (.cons rfl (.refl _) (.nil _))))))) (.cons rfl (.refl _) (.cons rfl (.refl _) (.cons rfl (.refl _) (.cons rfl (.refl _) (.nil _))))) (ih _ _ h w F ρ)
   ·have h := cond_f ht h
    refine ak_skip ?_
    exact ak_conv (.cons rfl (.refl _) (.cons rfl (.refl _) (.cons rfl (.refl _) (.cons rfl (.refl _) (.cons rfl (.refl _) (.cons rfl (.refl _) (.nil _))))))) (.cons rfl (.refl _) (.cons rfl (.refl _) (.cons rfl (.refl _) (.cons rfl (.refl _) (.nil _))))) (ih _ _ h w F ρ)
 | l134_1 a0 a1 a2 a3 a4 a5 a6 a7 a8 a9 a10 a11 a12 a13 a14 a15 =>
  intro w F ρ
  dsimp only at h
  refine ak_seq ?_
  refine ak_seq ?_
  refine ak_regionS (.cons rfl (ok_fieldV (dlt rfl rfl) rfl fo139_3 ty3 (by decide) rfl) (.cons rfl (ok_loadV (dlt rfl rfl) rfl ty3 rfl rfl rfl) (.cons rfl (ok_neq (dlt rfl rfl) rfl rfl rfl) (.nil ?_))))
  refine ak_cond rfl (fun ht => ?_) (fun ht => ?_)
  ·have h := cond_t ht h
   refine ak_seq ?_
   obtain ⟨v6, hv6, h⟩ := bind_of h
   refine ak_regionS (.cons rfl (ok_loadVT (dlt rfl rfl) rfl ty29 rfl rfl (by decide) rfl) (.cons rfl (ok_fieldV (dlt rfl rfl) rfl fo139_3 ty3 (by decide) rfl) (.cons rfl (ok_loadV (dlt rfl rfl) rfl ty3 rfl rfl rfl) (.cons rfl (ok_fieldV (dlt rfl rfl) rfl fo139_2 ty3 (by decide) rfl) (.cons rfl (ok_loadV (dlt rfl rfl) rfl ty3 rfl rfl rfl) (.freeze 70904 rfl rfl (.cons rfl (ok_call (xs := [.agg [.int .i64 a4, .int .i64 a5, .int .i64 a6, .str a7, .sl Ty.sApiValue a8, .nils], .int .i64 a3.fault, .int .i64 a3.pos]) (caps := []) (dlt rfl rfl) rfl rfl Tryz.func183 rfl rfl rfl (Does.sub (d183 hv6) (.cons (sub_agg (.cons (.refl _) (.cons (.refl _) (.cons (.refl _) (.cons (.refl _) (.cons (.refl _) (.cons (sub_nils Ty.str) (.nil)))))))) (.cons (.refl _) (.cons (.refl _) (.nil))))) rfl) (.cons rfl (ok_storeV rfl rfl ty139 rfl rfl rfl rfl (by decide) rfl rfl) (.nil ?_)))))))))
   obtain rfl := Option.some.inj h
   refine ak_conv (Γ' := [(8, .ref 8 0)]) (σ' := [(8, .cells 139 [.int .i64 v6.value.kind, .int .i64 v6.value.frm, .int .i64 v6.value.to, .str v6.value.text, .sl Ty.sApiValue v6.value.items, .sl Ty.str v6.value.names, .bool v6.begun, .int .i64 v6.pos, .int .i64 v6.fault])]) (.cons rfl (.refl _) (.nil _)) (.cons rfl (.refl _) (.nil _)) ?_
   exact ak_ret (fn := Tryz.f134) Tryz.func134 rfl ⟨⟨_, _, _, _, _, _, rfl, rfl, ty139⟩, trivial⟩ rfl
  ·have h := cond_f ht h
   refine ak_skip ?_
   refine ak_seq ?_
   obtain ⟨v7, hv7, h⟩ := bind_of h
   refine ak_regionS (.cons rfl (ok_move (dlt rfl rfl) rfl rfl) (.cons rfl (ok_fieldV (dlt rfl rfl) rfl fo139_2 ty3 (by decide) rfl) (.cons rfl (ok_loadV (dlt rfl rfl) rfl ty3 rfl rfl rfl) (.cons rfl (ok_call (xs := [.str a0, .int .i64 a3.pos]) (caps := []) (dlt rfl rfl) rfl rfl Tryz.func79 rfl rfl rfl (d79 hv7) rfl) (.cons rfl (ok_assign (dlt rfl rfl) rfl rfl) (.nil ?_))))))
   refine ak_seq ?_
   refine ak_seq ?_
   refine ak_regionS (.cons rfl (ok_move (dlt rfl rfl) rfl rfl) (.cons rfl (ok_move (dlt rfl rfl) rfl rfl) (.cons rfl (ok_lenT (s := a0) (dlt rfl rfl) rfl Tryz.underlying9 rfl) (.cons rfl (ok_geq (dlt rfl rfl) rfl rfl rfl) (.nil ?_)))))
   refine ak_cond rfl (fun ht => ?_) (fun ht => ?_)
   ·have h := cond_t ht h
    refine ak_seq ?_
    obtain ⟨v8, hv8, h⟩ := bind_of h
    refine ak_regionS (.cons rfl (ok_loadVT (dlt rfl rfl) rfl ty29 rfl rfl (by decide) rfl) (.cons rfl (ok_move (dlt rfl rfl) rfl rfl) (.cons rfl (ok_lenT (s := a0) (dlt rfl rfl) rfl Tryz.underlying9 rfl) (.freeze 70904 rfl rfl (.cons rfl (ok_call (xs := [.agg [.int .i64 a4, .int .i64 a5, .int .i64 a6, .str a7, .sl Ty.sApiValue a8, .nils], .int .i64 (10 : Int), .int .i64 (a0.length : Int)]) (caps := []) (dlt rfl rfl) rfl rfl Tryz.func183 rfl rfl rfl (Does.sub (d183 hv8) (.cons (sub_agg (.cons (.refl _) (.cons (.refl _) (.cons (.refl _) (.cons (.refl _) (.cons (.refl _) (.cons (sub_nils Ty.str) (.nil)))))))) (.cons (.refl _) (.cons (.refl _) (.nil))))) rfl) (.cons rfl (ok_storeV rfl rfl ty139 rfl rfl rfl rfl (by decide) rfl rfl) (.nil ?_)))))))
    obtain rfl := Option.some.inj h
    refine ak_conv (Γ' := [(8, .ref 8 0)]) (σ' := [(8, .cells 139 [.int .i64 v8.value.kind, .int .i64 v8.value.frm, .int .i64 v8.value.to, .str v8.value.text, .sl Ty.sApiValue v8.value.items, .sl Ty.str v8.value.names, .bool v8.begun, .int .i64 v8.pos, .int .i64 v8.fault])]) (.cons rfl (.refl _) (.nil _)) (.cons rfl (.refl _) (.nil _)) ?_
    exact ak_ret (fn := Tryz.f134) Tryz.func134 rfl ⟨⟨_, _, _, _, _, _, rfl, rfl, ty139⟩, trivial⟩ rfl
   ·have h := cond_f ht h
    refine ak_skip ?_
    refine ak_seq ?_
    refine ak_seq ?_
    obtain ⟨v9, hv9, h⟩ := bind_of h
    refine ak_regionS (.cons rfl (ok_move (dlt rfl rfl) rfl rfl) (.cons rfl (ok_move (dlt rfl rfl) rfl rfl) (.cons rfl (ok_byte (s := a0) (c := v9) (dlt rfl rfl) rfl Tryz.underlying9 rfl rfl (idx_0 hv9) (idx_1 hv9)) (.cons rfl (ok_eql (dlt rfl rfl) rfl rfl rfl) (.nil ?_)))))
    refine ak_cond rfl (fun ht => ?_) (fun ht => ?_)
    ·have h := cond_t ht h
     refine ak_seq ?_
     refine ak_regionS (.cons rfl (ok_move (dlt rfl rfl) rfl rfl) (.cons rfl (ok_add (dlt rfl rfl) rfl rfl rfl) (.cons rfl (ok_fieldV (dlt rfl rfl) rfl fo29_2 ty3 (by decide) rfl) (.cons rfl (ok_storeV rfl rfl ty3 rfl rfl rfl rfl (by decide) rfl rfl) (.nil ?_)))))
     refine ak_seq ?_
     refine ak_regionS (.cons rfl (ok_loadVT (dlt rfl rfl) rfl ty29 rfl rfl (by decide) rfl) (.cons rfl (ok_move (dlt rfl rfl) rfl rfl) (.cons rfl (ok_add (dlt rfl rfl) rfl rfl rfl) (.cons rfl (ok_build (dlt rfl rfl) rfl ty139 rfl pl139 rfl rfl rfl) (.cons rfl (ok_storeV rfl rfl ty139 rfl rfl rfl rfl (by decide) rfl rfl) (.nil ?_))))))
     obtain rfl := Option.some.inj h
     refine ak_freeze 70904 rfl ?_
     refine ak_conv (Γ' := [(8, .ref 8 0)]) (σ' := [(8, .cells 139 [.int .i64 (((⟨(⟨a4, a5, IntKind.wrap .i64 (v7 + (1 : Int)), a7, a8, ([] : List (List UInt8))⟩ : ApiValue), true, IntKind.wrap .i64 (v7 + (1 : Int)), 0⟩ : Ref10Part).value).kind), .int .i64 (((⟨(⟨a4, a5, IntKind.wrap .i64 (v7 + (1 : Int)), a7, a8, ([] : List (List UInt8))⟩ : ApiValue), true, IntKind.wrap .i64 (v7 + (1 : Int)), 0⟩ : Ref10Part).value).frm), .int .i64 (((⟨(⟨a4, a5, IntKind.wrap .i64 (v7 + (1 : Int)), a7, a8, ([] : List (List UInt8))⟩ : ApiValue), true, IntKind.wrap .i64 (v7 + (1 : Int)), 0⟩ : Ref10Part).value).to), .str (((⟨(⟨a4, a5, IntKind.wrap .i64 (v7 + (1 : Int)), a7, a8, ([] : List (List UInt8))⟩ : ApiValue), true, IntKind.wrap .i64 (v7 + (1 : Int)), 0⟩ : Ref10Part).value).text), .sl Ty.sApiValue (((⟨(⟨a4, a5, IntKind.wrap .i64 (v7 + (1 : Int)), a7, a8, ([] : List (List UInt8))⟩ : ApiValue), true, IntKind.wrap .i64 (v7 + (1 : Int)), 0⟩ : Ref10Part).value).items), .sl Ty.str (((⟨(⟨a4, a5, IntKind.wrap .i64 (v7 + (1 : Int)), a7, a8, ([] : List (List UInt8))⟩ : ApiValue), true, IntKind.wrap .i64 (v7 + (1 : Int)), 0⟩ : Ref10Part).value).names), .bool ((⟨(⟨a4, a5, IntKind.wrap .i64 (v7 + (1 : Int)), a7, a8, ([] : List (List UInt8))⟩ : ApiValue), true, IntKind.wrap .i64 (v7 + (1 : Int)), 0⟩ : Ref10Part).begun), .int .i64 ((⟨(⟨a4, a5, IntKind.wrap .i64 (v7 + (1 : Int)), a7, a8, ([] : List (List UInt8))⟩ : ApiValue), true, IntKind.wrap .i64 (v7 + (1 : Int)), 0⟩ : Ref10Part).pos), .int .i64 ((⟨(⟨a4, a5, IntKind.wrap .i64 (v7 + (1 : Int)), a7, a8, ([] : List (List UInt8))⟩ : ApiValue), true, IntKind.wrap .i64 (v7 + (1 : Int)), 0⟩ : Ref10Part).fault)])]) (.cons rfl (.refl _) (.nil _)) (.cons rfl (.cells (.cons (.refl _) (.cons (.refl _) (.cons (.refl _) (.cons (.refl _) (.cons (.refl _) (.cons (sub_nils Ty.str) (.cons (.refl _) (.cons (.refl _) (.cons (.refl _) (.nil))))))))))) (.nil _)) ?_
     exact ak_ret (fn := Tryz.f134) Tryz.func134 rfl ⟨⟨_, _, _, _, _, _, rfl, rfl, ty139⟩, trivial⟩ rfl
    ·have h := cond_f ht h
     refine ak_skip ?_
     refine ak_seq ?_
     refine ak_seq ?_
     obtain ⟨v10, hv10, h⟩ := bind_of h
     refine ak_regionS (.cons rfl (ok_move (dlt rfl rfl) rfl rfl) (.cons rfl (ok_move (dlt rfl rfl) rfl rfl) (.cons rfl (ok_byte (s := a0) (c := v10) (dlt rfl rfl) rfl Tryz.underlying9 rfl rfl (idx_0 hv10) (idx_1 hv10)) (.cons rfl (ok_neq (dlt rfl rfl) rfl rfl rfl) (.nil ?_)))))
     refine ak_cond rfl (fun ht => ?_) (fun ht => ?_)
     ·have h := cond_t ht h
      refine ak_seq ?_
      obtain ⟨v11, hv11, h⟩ := bind_of h
      refine ak_regionS (.cons rfl (ok_loadVT (dlt rfl rfl) rfl ty29 rfl rfl (by decide) rfl) (.cons rfl (ok_move (dlt rfl rfl) rfl rfl) (.freeze 70904 rfl rfl (.cons rfl (ok_call (xs := [.agg [.int .i64 a4, .int .i64 a5, .int .i64 a6, .str a7, .sl Ty.sApiValue a8, .nils], .int .i64 (8 : Int), .int .i64 v7]) (caps := []) (dlt rfl rfl) rfl rfl Tryz.func183 rfl rfl rfl (Does.sub (d183 hv11) (.cons (sub_agg (.cons (.refl _) (.cons (.refl _) (.cons (.refl _) (.cons (.refl _) (.cons (.refl _) (.cons (sub_nils Ty.str) (.nil)))))))) (.cons (.refl _) (.cons (.refl _) (.nil))))) rfl) (.cons rfl (ok_storeV rfl rfl ty139 rfl rfl rfl rfl (by decide) rfl rfl) (.nil ?_))))))
      obtain rfl := Option.some.inj h
      refine ak_conv (Γ' := [(8, .ref 8 0)]) (σ' := [(8, .cells 139 [.int .i64 v11.value.kind, .int .i64 v11.value.frm, .int .i64 v11.value.to, .str v11.value.text, .sl Ty.sApiValue v11.value.items, .sl Ty.str v11.value.names, .bool v11.begun, .int .i64 v11.pos, .int .i64 v11.fault])]) (.cons rfl (.refl _) (.nil _)) (.cons rfl (.refl _) (.nil _)) ?_
      exact ak_ret (fn := Tryz.f134) Tryz.func134 rfl ⟨⟨_, _, _, _, _, _, rfl, rfl, ty139⟩, trivial⟩ rfl
     ·have h := cond_f ht h
      refine ak_skip ?_
      obtain ⟨v12, hv12, h⟩ := bind_of h
      refine ak_regionS (.cons rfl (ok_move (dlt rfl rfl) rfl rfl) (.cons rfl (ok_move (dlt rfl rfl) rfl rfl) (.cons rfl (ok_add (dlt rfl rfl) rfl rfl rfl) (.cons rfl (ok_call (xs := [.str a0, .int .i64 (IntKind.wrap .i64 (v7 + (1 : Int)))]) (caps := []) (dlt rfl rfl) rfl rfl Tryz.func79 rfl rfl rfl (d79 hv12) rfl) (.cons rfl (ok_assign (dlt rfl rfl) rfl rfl) (.nil ?_))))))
      refine ak_inBlock ?_
      refine ak_inLoop ?_
      exact ak_conv (.cons rfl (.refl _) (.cons rfl (.refl _) (.cons rfl (.refl _) (.cons rfl (.refl _) (.cons rfl (.refl _) (.cons rfl (.refl _) (.nil _))))))) (.cons rfl (.refl _) (.cons rfl (.refl _) (.cons rfl (.refl _) (.nil _)))) (ih _ _ h w F ρ)
 | e135 a0 a1 a2 a3 =>
  intro w F ρ
  dsimp only at h
  refine ak_seq ?_
  refine ak_regionS (.cons rfl (ok_alloc (d := 8) (dlt rfl rfl) rfl ty139 rfl rfl rfl) (.nil ?_))
  refine ak_seq ?_
  refine ak_regionS (.cons rfl (ok_move (dlt rfl rfl) rfl rfl) (.cons rfl (ok_build (dlt rfl rfl) rfl ty29 rfl pl29 rfl rfl rfl) (.cons rfl (ok_alloc (d := 9) (dlt rfl rfl) rfl ty29 rfl rfl rfl) (.cons rfl (ok_storeV rfl rfl ty29 rfl rfl rfl rfl (by decide) rfl rfl) (.nil ?_)))))
  refine ak_seq ?_
  obtain ⟨v1, hv1, h⟩ := bind_of h
  refine ak_regionS (.cons rfl (ok_move (dlt rfl rfl) rfl rfl) (.cons rfl (ok_move (dlt rfl rfl) rfl rfl) (.cons rfl (ok_add (dlt rfl rfl) rfl rfl rfl) (.cons rfl (ok_call (xs := [.str a0, .int .i64 (IntKind.wrap .i64 (a1 + (1 : Int)))]) (caps := []) (dlt rfl rfl) rfl rfl Tryz.func79 rfl rfl rfl (d79 hv1) rfl) (.cons rfl (ok_assign (dlt rfl rfl) rfl rfl) (.nil ?_))))))
  refine ak_seq ?_
  refine ak_seq ?_
  obtain ⟨v2, hv2, h⟩ := bind_of h
  refine ak_regionS (.cons rfl (ok_move (dlt rfl rfl) rfl rfl) (.cons rfl (ok_move (dlt rfl rfl) rfl rfl) (.cons rfl (ok_lenT (s := a0) (dlt rfl rfl) rfl Tryz.underlying9 rfl) (.cons rfl (ok_lss (dlt rfl rfl) rfl rfl rfl) (.cons rfl (ok_move (dlt rfl rfl) rfl rfl) (.consG (pre := []) (dlt rfl rfl) rfl rfl rfl rfl .nil (fun he => ok_move (dlt rfl rfl) rfl rfl) (.consG (pre := []) (dlt rfl rfl) rfl rfl rfl rfl .nil (fun he => ok_move (dlt rfl rfl) rfl rfl) (.consG (pre := [(24, .str a0), (25, .int .i64 v1)]) (dlt rfl rfl) rfl rfl rfl rfl (.cons rfl (fun he => he) (.cons rfl (fun he => he) .nil)) (fun he => ok_byte (s := a0) (c := v2) (dlt rfl rfl) rfl Tryz.underlying9 rfl rfl (idx_0 (gd_t hv2 he)) (idx_1 (gd_t hv2 he))) (.consG (pre := [(26, .int .u8 (v2.toNat : Int))]) (dlt rfl rfl) rfl rfl rfl rfl (.cons rfl (fun he => he) .nil) (fun he => ok_eql (dlt rfl rfl) rfl rfl rfl) (.cons rfl (ok_andW (dlt rfl rfl) rfl rfl rfl (fun h => h)) (.nil ?_)))))))))))
  refine ak_cond rfl (fun ht => ?_) (fun ht => ?_)
  ·have h := cond_t ht h
   refine ak_seq ?_
   refine ak_regionS (.cons rfl (ok_move (dlt rfl rfl) rfl rfl) (.cons rfl (ok_add (dlt rfl rfl) rfl rfl rfl) (.cons rfl (ok_fieldV (dlt rfl rfl) rfl fo29_2 ty3 (by decide) rfl) (.cons rfl (ok_storeV rfl rfl ty3 rfl rfl rfl rfl (by decide) rfl rfl) (.nil ?_)))))
   refine ak_seq ?_
   refine ak_regionS (.cons rfl (ok_loadVT (dlt rfl rfl) rfl ty29 rfl rfl (by decide) rfl) (.cons rfl (ok_move (dlt rfl rfl) rfl rfl) (.cons rfl (ok_add (dlt rfl rfl) rfl rfl rfl) (.cons rfl (ok_build (dlt rfl rfl) rfl ty139 rfl pl139 rfl rfl rfl) (.cons rfl (ok_storeV rfl rfl ty139 rfl rfl rfl rfl (by decide) rfl rfl) (.nil ?_))))))
   obtain rfl := Option.some.inj h
   refine ak_conv (Γ' := [(8, .ref 8 0)]) (σ' := [(8, .cells 139 [.int .i64 (((⟨(⟨5, a1, IntKind.wrap .i64 (v1 + (1 : Int)), [], ([] : List ApiValue), ([] : List (List UInt8))⟩ : ApiValue), true, IntKind.wrap .i64 (v1 + (1 : Int)), 0⟩ : Ref10Part).value).kind), .int .i64 (((⟨(⟨5, a1, IntKind.wrap .i64 (v1 + (1 : Int)), [], ([] : List ApiValue), ([] : List (List UInt8))⟩ : ApiValue), true, IntKind.wrap .i64 (v1 + (1 : Int)), 0⟩ : Ref10Part).value).frm), .int .i64 (((⟨(⟨5, a1, IntKind.wrap .i64 (v1 + (1 : Int)), [], ([] : List ApiValue), ([] : List (List UInt8))⟩ : ApiValue), true, IntKind.wrap .i64 (v1 + (1 : Int)), 0⟩ : Ref10Part).value).to), .str (((⟨(⟨5, a1, IntKind.wrap .i64 (v1 + (1 : Int)), [], ([] : List ApiValue), ([] : List (List UInt8))⟩ : ApiValue), true, IntKind.wrap .i64 (v1 + (1 : Int)), 0⟩ : Ref10Part).value).text), .sl Ty.sApiValue (((⟨(⟨5, a1, IntKind.wrap .i64 (v1 + (1 : Int)), [], ([] : List ApiValue), ([] : List (List UInt8))⟩ : ApiValue), true, IntKind.wrap .i64 (v1 + (1 : Int)), 0⟩ : Ref10Part).value).items), .sl Ty.str (((⟨(⟨5, a1, IntKind.wrap .i64 (v1 + (1 : Int)), [], ([] : List ApiValue), ([] : List (List UInt8))⟩ : ApiValue), true, IntKind.wrap .i64 (v1 + (1 : Int)), 0⟩ : Ref10Part).value).names), .bool ((⟨(⟨5, a1, IntKind.wrap .i64 (v1 + (1 : Int)), [], ([] : List ApiValue), ([] : List (List UInt8))⟩ : ApiValue), true, IntKind.wrap .i64 (v1 + (1 : Int)), 0⟩ : Ref10Part).begun), .int .i64 ((⟨(⟨5, a1, IntKind.wrap .i64 (v1 + (1 : Int)), [], ([] : List ApiValue), ([] : List (List UInt8))⟩ : ApiValue), true, IntKind.wrap .i64 (v1 + (1 : Int)), 0⟩ : Ref10Part).pos), .int .i64 ((⟨(⟨5, a1, IntKind.wrap .i64 (v1 + (1 : Int)), [], ([] : List ApiValue), ([] : List (List UInt8))⟩ : ApiValue), true, IntKind.wrap .i64 (v1 + (1 : Int)), 0⟩ : Ref10Part).fault)])]) (.cons rfl (.refl _) (.nil _)) (.cons rfl (.cells (.cons (.refl _) (.cons (.refl _) (.cons (.refl _) (.cons (.refl _) (.cons (sub_nils Ty.sApiValue) (.cons (sub_nils Ty.str) (.cons (.refl _) (.cons (.refl _) (.cons (.refl _) (.nil))))))))))) (.nil _)) ?_
   exact ak_ret (fn := Tryz.f135) Tryz.func135 rfl ⟨⟨_, _, _, _, _, _, rfl, rfl, ty139⟩, trivial⟩ rfl
  ·have h := cond_f ht h
   refine ak_skip ?_
   refine ak_block ?_
   refine ak_loop ?_
   refine ak_nilRowV (r := 9) (i := 4) (d := 5000) (e := 29) Ty.sApiValue rfl rfl rfl rfl rfl ?_
   refine ak_nilRowV (r := 9) (i := 5) (d := 105000) (e := 9) Ty.str rfl rfl rfl rfl rfl ?_
   refine ak_conv (Γ' := [(0, .str a0), (2, .int .i64 a2), (3, .bool a3), (8, .ref 8 0), (9, .ref 9 0), (10, .int .i64 v1)]) (σ' := [(9, .cells 29 [.int .i64 (5 : Int), .int .i64 a1, .int .i64 (0 : Int), .str [], .mf 6 5000, .mf 1 105000]), (105000, .arr 9 Ty.str ([] : List (List UInt8))), (5000, .arr 29 Ty.sApiValue ([] : List ApiValue)), (8, .cells 139 [.int .i64 (0 : Int), .int .i64 (0 : Int), .int .i64 (0 : Int), .str [], .nils, .nils, .bool false, .int .i64 (0 : Int), .int .i64 (0 : Int)])]) (.cons rfl (.refl _) (.cons rfl (.refl _) (.cons rfl (.refl _) (.cons rfl (.refl _) (.cons rfl (.refl _) (.cons rfl (.refl _) (.nil _))))))) (.cons rfl (.refl _) (.cons rfl (.refl _) (.cons rfl (.refl _) (.cons rfl (.refl _) (.nil _))))) ?_
   refine ak_ren 5000 70904 rfl rfl rfl rfl ?_
   refine ak_ren 105000 70905 rfl rfl rfl rfl ?_
   exact ak_conv (.cons rfl (.refl _) (.cons rfl (.refl _) (.cons rfl (.refl _) (.cons rfl (.refl _) (.cons rfl (.refl _) (.cons rfl (.refl _) (.nil _))))))) (.cons rfl (.refl _) (.cons rfl (.refl _) (.cons rfl (.refl _) (.cons rfl (.refl _) (.nil _))))) (ih _ _ h w F ρ)
 | l135_0 a0 a1 a2 a3 a4 a5 a6 a7 a8 a9 a10 a11 a12 a13 a14 a15 a16 =>
  intro w F ρ
  dsimp only at h
  refine ak_block ?_
  refine ak_seq ?_
  refine ak_seq ?_
  refine ak_regionS (.cons rfl (ok_move (dlt rfl rfl) rfl rfl) (.cons rfl (ok_move (dlt rfl rfl) rfl rfl) (.cons rfl (ok_lenT (s := a0) (dlt rfl rfl) rfl Tryz.underlying9 rfl) (.cons rfl (ok_geq (dlt rfl rfl) rfl rfl rfl) (.nil ?_)))))
  refine ak_cond rfl (fun ht => ?_) (fun ht => ?_)
  ·have h := cond_t ht h
   refine ak_seq ?_
   obtain ⟨v3, hv3, h⟩ := bind_of h
   refine ak_regionS (.cons rfl (ok_loadVT (dlt rfl rfl) rfl ty29 rfl rfl (by decide) rfl) (.cons rfl (ok_move (dlt rfl rfl) rfl rfl) (.cons rfl (ok_lenT (s := a0) (dlt rfl rfl) rfl Tryz.underlying9 rfl) (.freeze 70904 rfl rfl (.freeze 70905 rfl rfl (.cons rfl (ok_call (xs := [.agg [.int .i64 a4, .int .i64 a5, .int .i64 a6, .str a7, .sl Ty.sApiValue a15, .sl Ty.str a16], .int .i64 (10 : Int), .int .i64 (a0.length : Int)]) (caps := []) (dlt rfl rfl) rfl rfl Tryz.func183 rfl rfl rfl (d183 hv3) rfl) (.cons rfl (ok_storeV rfl rfl ty139 rfl rfl rfl rfl (by decide) rfl rfl) (.nil ?_))))))))
   obtain rfl := Option.some.inj h
   refine ak_conv (Γ' := [(8, .ref 8 0)]) (σ' := [(8, .cells 139 [.int .i64 v3.value.kind, .int .i64 v3.value.frm, .int .i64 v3.value.to, .str v3.value.text, .sl Ty.sApiValue v3.value.items, .sl Ty.str v3.value.names, .bool v3.begun, .int .i64 v3.pos, .int .i64 v3.fault])]) (.cons rfl (.refl _) (.nil _)) (.cons rfl (.refl _) (.nil _)) ?_
   exact ak_ret (fn := Tryz.f135) Tryz.func135 rfl ⟨⟨_, _, _, _, _, _, rfl, rfl, ty139⟩, trivial⟩ rfl
  ·have h := cond_f ht h
   refine ak_skip ?_
   refine ak_seq ?_
   refine ak_seq ?_
   obtain ⟨v4, hv4, h⟩ := bind_of h
   refine ak_regionS (.cons rfl (ok_move (dlt rfl rfl) rfl rfl) (.cons rfl (ok_move (dlt rfl rfl) rfl rfl) (.cons rfl (ok_byte (s := a0) (c := v4) (dlt rfl rfl) rfl Tryz.underlying9 rfl rfl (idx_0 hv4) (idx_1 hv4)) (.cons rfl (ok_neq (dlt rfl rfl) rfl rfl rfl) (.nil ?_)))))
   refine ak_cond rfl (fun ht => ?_) (fun ht => ?_)
   ·have h := cond_t ht h
    refine ak_seq ?_
    obtain ⟨v5, hv5, h⟩ := bind_of h
    refine ak_regionS (.cons rfl (ok_loadVT (dlt rfl rfl) rfl ty29 rfl rfl (by decide) rfl) (.cons rfl (ok_move (dlt rfl rfl) rfl rfl) (.freeze 70904 rfl rfl (.freeze 70905 rfl rfl (.cons rfl (ok_call (xs := [.agg [.int .i64 a4, .int .i64 a5, .int .i64 a6, .str a7, .sl Ty.sApiValue a15, .sl Ty.str a16], .int .i64 (8 : Int), .int .i64 a3]) (caps := []) (dlt rfl rfl) rfl rfl Tryz.func183 rfl rfl rfl (d183 hv5) rfl) (.cons rfl (ok_storeV rfl rfl ty139 rfl rfl rfl rfl (by decide) rfl rfl) (.nil ?_)))))))
    obtain rfl := Option.some.inj h
    refine ak_conv (Γ' := [(8, .ref 8 0)]) (σ' := [(8, .cells 139 [.int .i64 v5.value.kind, .int .i64 v5.value.frm, .int .i64 v5.value.to, .str v5.value.text, .sl Ty.sApiValue v5.value.items, .sl Ty.str v5.value.names, .bool v5.begun, .int .i64 v5.pos, .int .i64 v5.fault])]) (.cons rfl (.refl _) (.nil _)) (.cons rfl (.refl _) (.nil _)) ?_
    exact ak_ret (fn := Tryz.f135) Tryz.func135 rfl ⟨⟨_, _, _, _, _, _, rfl, rfl, ty139⟩, trivial⟩ rfl
   ·have h := cond_f ht h
    refine ak_skip ?_
    refine ak_seq ?_
    obtain ⟨v6, hv6, h⟩ := bind_of h
    refine ak_regionS (.cons rfl (ok_move (dlt rfl rfl) rfl rfl) (.cons rfl (ok_move (dlt rfl rfl) rfl rfl) (.cons rfl (ok_call (xs := [.str a0, .int .i64 a3]) (caps := []) (dlt rfl rfl) rfl rfl Tryz.func131 rfl rfl rfl (d131 hv6) rfl) (.cons rfl (ok_alloc (d := 11) (dlt rfl rfl) rfl ty139 rfl rfl rfl) (.cons rfl (ok_storeV rfl rfl ty139 rfl rfl rfl rfl (by decide) rfl rfl) (.nil ?_))))))
    refine ak_seq ?_
    refine ak_seq ?_
    refine ak_regionS (.cons rfl (ok_fieldV (dlt rfl rfl) rfl fo139_3 ty3 (by decide) rfl) (.cons rfl (ok_loadV (dlt rfl rfl) rfl ty3 rfl rfl rfl) (.cons rfl (ok_neq (dlt rfl rfl) rfl rfl rfl) (.nil ?_))))
    refine ak_cond rfl (fun ht => ?_) (fun ht => ?_)
    ·have h := cond_t ht h
     refine ak_seq ?_
     obtain ⟨v7, hv7, h⟩ := bind_of h
     refine ak_regionS (.cons rfl (ok_loadVT (dlt rfl rfl) rfl ty29 rfl rfl (by decide) rfl) (.cons rfl (ok_fieldV (dlt rfl rfl) rfl fo139_3 ty3 (by decide) rfl) (.cons rfl (ok_loadV (dlt rfl rfl) rfl ty3 rfl rfl rfl) (.cons rfl (ok_fieldV (dlt rfl rfl) rfl fo139_2 ty3 (by decide) rfl) (.cons rfl (ok_loadV (dlt rfl rfl) rfl ty3 rfl rfl rfl) (.freeze 70904 rfl rfl (.freeze 70905 rfl rfl (.cons rfl (ok_call (xs := [.agg [.int .i64 a4, .int .i64 a5, .int .i64 a6, .str a7, .sl Ty.sApiValue a15, .sl Ty.str a16], .int .i64 v6.fault, .int .i64 v6.pos]) (caps := []) (dlt rfl rfl) rfl rfl Tryz.func183 rfl rfl rfl (d183 hv7) rfl) (.cons rfl (ok_storeV rfl rfl ty139 rfl rfl rfl rfl (by decide) rfl rfl) (.nil ?_))))))))))
     obtain rfl := Option.some.inj h
     refine ak_conv (Γ' := [(8, .ref 8 0)]) (σ' := [(8, .cells 139 [.int .i64 v7.value.kind, .int .i64 v7.value.frm, .int .i64 v7.value.to, .str v7.value.text, .sl Ty.sApiValue v7.value.items, .sl Ty.str v7.value.names, .bool v7.begun, .int .i64 v7.pos, .int .i64 v7.fault])]) (.cons rfl (.refl _) (.nil _)) (.cons rfl (.refl _) (.nil _)) ?_
     exact ak_ret (fn := Tryz.f135) Tryz.func135 rfl ⟨⟨_, _, _, _, _, _, rfl, rfl, ty139⟩, trivial⟩ rfl
    ·have h := cond_f ht h
     refine ak_skip ?_
     refine ak_seq ?_
     obtain ⟨v8, hv8, h⟩ := bind_of h
     refine ak_regionS (.cons rfl (ok_move (dlt rfl rfl) rfl rfl) (.cons rfl (ok_fieldV (dlt rfl rfl) rfl fo139_2 ty3 (by decide) rfl) (.cons rfl (ok_loadV (dlt rfl rfl) rfl ty3 rfl rfl rfl) (.cons rfl (ok_call (xs := [.str a0, .int .i64 v6.pos]) (caps := []) (dlt rfl rfl) rfl rfl Tryz.func79 rfl rfl rfl (d79 hv8) rfl) (.cons rfl (ok_assign (dlt rfl rfl) rfl rfl) (.nil ?_))))))
     refine ak_seq ?_
     refine ak_seq ?_
     refine ak_regionS (.cons rfl (ok_move (dlt rfl rfl) rfl rfl) (.cons rfl (ok_move (dlt rfl rfl) rfl rfl) (.cons rfl (ok_lenT (s := a0) (dlt rfl rfl) rfl Tryz.underlying9 rfl) (.cons rfl (ok_geq (dlt rfl rfl) rfl rfl rfl) (.nil ?_)))))
     refine ak_cond rfl (fun ht => ?_) (fun ht => ?_)
     ·have h := cond_t ht h
      refine ak_seq ?_
      obtain ⟨v9, hv9, h⟩ := bind_of h
      refine ak_regionS (.cons rfl (ok_loadVT (dlt rfl rfl) rfl ty29 rfl rfl (by decide) rfl) (.cons rfl (ok_move (dlt rfl rfl) rfl rfl) (.cons rfl (ok_lenT (s := a0) (dlt rfl rfl) rfl Tryz.underlying9 rfl) (.freeze 70904 rfl rfl (.freeze 70905 rfl rfl (.cons rfl (ok_call (xs := [.agg [.int .i64 a4, .int .i64 a5, .int .i64 a6, .str a7, .sl Ty.sApiValue a15, .sl Ty.str a16], .int .i64 (10 : Int), .int .i64 (a0.length : Int)]) (caps := []) (dlt rfl rfl) rfl rfl Tryz.func183 rfl rfl rfl (d183 hv9) rfl) (.cons rfl (ok_storeV rfl rfl ty139 rfl rfl rfl rfl (by decide) rfl rfl) (.nil ?_))))))))
      obtain rfl := Option.some.inj h
      refine ak_conv (Γ' := [(8, .ref 8 0)]) (σ' := [(8, .cells 139 [.int .i64 v9.value.kind, .int .i64 v9.value.frm, .int .i64 v9.value.to, .str v9.value.text, .sl Ty.sApiValue v9.value.items, .sl Ty.str v9.value.names, .bool v9.begun, .int .i64 v9.pos, .int .i64 v9.fault])]) (.cons rfl (.refl _) (.nil _)) (.cons rfl (.refl _) (.nil _)) ?_
      exact ak_ret (fn := Tryz.f135) Tryz.func135 rfl ⟨⟨_, _, _, _, _, _, rfl, rfl, ty139⟩, trivial⟩ rfl
     ·have h := cond_f ht h
      refine ak_skip ?_
      refine ak_seq ?_
      refine ak_seq ?_
      obtain ⟨v10, hv10, h⟩ := bind_of h
      refine ak_regionS (.cons rfl (ok_move (dlt rfl rfl) rfl rfl) (.cons rfl (ok_move (dlt rfl rfl) rfl rfl) (.cons rfl (ok_byte (s := a0) (c := v10) (dlt rfl rfl) rfl Tryz.underlying9 rfl rfl (idx_0 hv10) (idx_1 hv10)) (.cons rfl (ok_neq (dlt rfl rfl) rfl rfl rfl) (.nil ?_)))))
      refine ak_cond rfl (fun ht => ?_) (fun ht => ?_)
      ·have h := cond_t ht h
       refine ak_seq ?_
       obtain ⟨v11, hv11, h⟩ := bind_of h
       refine ak_regionS (.cons rfl (ok_loadVT (dlt rfl rfl) rfl ty29 rfl rfl (by decide) rfl) (.cons rfl (ok_move (dlt rfl rfl) rfl rfl) (.freeze 70904 rfl rfl (.freeze 70905 rfl rfl (.cons rfl (ok_call (xs := [.agg [.int .i64 a4, .int .i64 a5, .int .i64 a6, .str a7, .sl Ty.sApiValue a15, .sl Ty.str a16], .int .i64 (8 : Int), .int .i64 v8]) (caps := []) (dlt rfl rfl) rfl rfl Tryz.func183 rfl rfl rfl (d183 hv11) rfl) (.cons rfl (ok_storeV rfl rfl ty139 rfl rfl rfl rfl (by decide) rfl rfl) (.nil ?_)))))))
       obtain rfl := Option.some.inj h
       refine ak_conv (Γ' := [(8, .ref 8 0)]) (σ' := [(8, .cells 139 [.int .i64 v11.value.kind, .int .i64 v11.value.frm, .int .i64 v11.value.to, .str v11.value.text, .sl Ty.sApiValue v11.value.items, .sl Ty.str v11.value.names, .bool v11.begun, .int .i64 v11.pos, .int .i64 v11.fault])]) (.cons rfl (.refl _) (.nil _)) (.cons rfl (.refl _) (.nil _)) ?_
       exact ak_ret (fn := Tryz.f135) Tryz.func135 rfl ⟨⟨_, _, _, _, _, _, rfl, rfl, ty139⟩, trivial⟩ rfl
      ·have h := cond_f ht h
       refine ak_skip ?_
       refine ak_seq ?_
       obtain ⟨v12, hv12, h⟩ := bind_of h
       refine ak_regionS (.cons rfl (ok_move (dlt rfl rfl) rfl rfl) (.cons rfl (ok_move (dlt rfl rfl) rfl rfl) (.cons rfl (ok_add (dlt rfl rfl) rfl rfl rfl) (.cons rfl (ok_call (xs := [.str a0, .int .i64 (IntKind.wrap .i64 (v8 + (1 : Int)))]) (caps := []) (dlt rfl rfl) rfl rfl Tryz.func79 rfl rfl rfl (d79 hv12) rfl) (.cons rfl (ok_assign (dlt rfl rfl) rfl rfl) (.nil ?_))))))
       refine ak_seq ?_
       refine ak_seq ?_
       refine ak_regionS (.cons rfl (ok_move (dlt rfl rfl) rfl rfl) (.cons rfl (ok_move (dlt rfl rfl) rfl rfl) (.cons rfl (ok_lenT (s := a0) (dlt rfl rfl) rfl Tryz.underlying9 rfl) (.cons rfl (ok_geq (dlt rfl rfl) rfl rfl rfl) (.nil ?_)))))
       refine ak_cond rfl (fun ht => ?_) (fun ht => ?_)
       ·have h := cond_t ht h
        refine ak_seq ?_
        obtain ⟨v13, hv13, h⟩ := bind_of h
        refine ak_regionS (.cons rfl (ok_loadVT (dlt rfl rfl) rfl ty29 rfl rfl (by decide) rfl) (.cons rfl (ok_move (dlt rfl rfl) rfl rfl) (.cons rfl (ok_lenT (s := a0) (dlt rfl rfl) rfl Tryz.underlying9 rfl) (.freeze 70904 rfl rfl (.freeze 70905 rfl rfl (.cons rfl (ok_call (xs := [.agg [.int .i64 a4, .int .i64 a5, .int .i64 a6, .str a7, .sl Ty.sApiValue a15, .sl Ty.str a16], .int .i64 (10 : Int), .int .i64 (a0.length : Int)]) (caps := []) (dlt rfl rfl) rfl rfl Tryz.func183 rfl rfl rfl (d183 hv13) rfl) (.cons rfl (ok_storeV rfl rfl ty139 rfl rfl rfl rfl (by decide) rfl rfl) (.nil ?_))))))))
        obtain rfl := Option.some.inj h
        refine ak_conv (Γ' := [(8, .ref 8 0)]) (σ' := [(8, .cells 139 [.int .i64 v13.value.kind, .int .i64 v13.value.frm, .int .i64 v13.value.to, .str v13.value.text, .sl Ty.sApiValue v13.value.items, .sl Ty.str v13.value.names, .bool v13.begun, .int .i64 v13.pos, .int .i64 v13.fault])]) (.cons rfl (.refl _) (.nil _)) (.cons rfl (.refl _) (.nil _)) ?_
        exact ak_ret (fn := Tryz.f135) Tryz.func135 rfl ⟨⟨_, _, _, _, _, _, rfl, rfl, ty139⟩, trivial⟩ rfl
       ·have h := cond_f ht h
        refine ak_skip ?_
        refine ak_seq ?_
        obtain ⟨v14, hv14, h⟩ := bind_of h
        refine ak_regionS (.cons rfl (ok_move (dlt rfl rfl) rfl rfl) (.cons rfl (ok_move (dlt rfl rfl) rfl rfl) (.cons rfl (ok_move (dlt rfl rfl) rfl rfl) (.cons rfl (ok_sub (dlt rfl rfl) rfl rfl rfl) (.cons rfl (ok_move (dlt rfl rfl) rfl rfl) (.cons rfl (ok_call (xs := [.str a0, .int .i64 v12, .int .i64 (IntKind.wrap .i64 (a1 - (1 : Int))), .bool a2]) (caps := []) (dlt rfl rfl) rfl rfl Tryz.func80 rfl rfl rfl (fn_of (fn := Tryz.f80) Tryz.func80 rfl Tryz.ntmps80 rfl (ih _ _ hv14)) rfl) (.cons rfl (ok_alloc (d := 12) (dlt rfl rfl) rfl ty139 rfl rfl rfl) (.cons rfl (ok_storeV rfl rfl ty139 rfl rfl rfl rfl (by decide) rfl rfl) (.nil ?_)))))))))
        refine ak_seq ?_
        refine ak_seq ?_
        refine ak_regionS (.cons rfl (ok_fieldV (dlt rfl rfl) rfl fo139_1 ty4 (by decide) rfl) (.cons rfl (ok_loadV (dlt rfl rfl) rfl ty4 rfl rfl rfl) (.nil ?_)))
        refine ak_cond rfl (fun ht => ?_) (fun ht => ?_)
        ·have h := cond_t ht h
         refine ak_seq ?_
         obtain ⟨v15, hv15, h⟩ := bind_of h
         refine ak_regionS (.cons rfl (ok_fieldV (dlt rfl rfl) rfl fo29_5 ty27 (by decide) rfl) (.cons rfl (ok_loadV (dlt rfl rfl) rfl ty27 rfl rfl rfl) (.cons rfl (ok_fieldV (dlt rfl rfl) rfl fo139_0 ty29 (by decide) rfl) (.cons rfl (ok_fieldV (dlt rfl rfl) rfl fo29_3 ty9 (by decide) rfl) (.cons rfl (ok_loadV (dlt rfl rfl) rfl ty9 rfl rfl rfl) (.cons rfl (ok_lit (τ := Ty.str) (dlt rfl rfl) ([v6.value.text] : List (List UInt8)) rfl Tryz.underlying27 ty9 rfl rfl rfl rfl rfl (by decide) (by decide) rfl) (.cons rfl (ok_appendF (τ := Ty.str) (xs := a16) (ys := ([v6.value.text] : List (List UInt8))) (dlt rfl rfl) rfl Tryz.underlying27 ty9 rfl rfl rfl rfl (room_1 hv15) (room_2 hv15)) (.cons rfl (ok_fieldV (dlt rfl rfl) rfl fo29_5 ty27 (by decide) rfl) (.cons rfl (ok_storeV rfl rfl ty27 rfl rfl rfl rfl (by decide) rfl rfl) (.nil ?_))))))))))
         obtain ⟨v16, hv16, h⟩ := bind_of h
         refine ak_regionS (.cons rfl (ok_fieldV (dlt rfl rfl) rfl fo29_4 ty26 (by decide) rfl) (.cons rfl (ok_loadV (dlt rfl rfl) rfl ty26 rfl rfl rfl) (.cons rfl (ok_fieldV (dlt rfl rfl) rfl fo139_0 ty29 (by decide) rfl) (.cons rfl (ok_loadVT (dlt rfl rfl) rfl ty29 rfl rfl (by decide) rfl) (.cons rfl (ok_lit (τ := Ty.sApiValue) (dlt rfl rfl) ([v14.value] : List ApiValue) rfl Tryz.underlying26 ty29 rfl rfl rfl rfl rfl (by decide) (by decide) rfl) (.cons rfl (ok_appendF (τ := Ty.sApiValue) (xs := a15) (ys := ([v14.value] : List ApiValue)) (dlt rfl rfl) rfl Tryz.underlying26 ty29 rfl rfl rfl rfl (room_1 hv16) (room_2 hv16)) (.cons rfl (ok_fieldV (dlt rfl rfl) rfl fo29_4 ty26 (by decide) rfl) (.cons rfl (ok_storeV rfl rfl ty26 rfl rfl rfl rfl (by decide) rfl rfl) (.nil ?_)))))))))
         exact ak_conv (.cons rfl (.refl _) (.cons rfl (.refl _) (.cons rfl (.refl _) (.cons rfl (.refl _) (.cons rfl (.refl _) (.cons rfl (.refl _) (.nil _))))))) (.cons rfl (.refl _) (.cons rfl (.refl _) (.cons rfl (.refl _) (.cons rfl (.refl _) (.cons rfl (.refl _) (.nil _)))))) (ih _ _ h w F ρ)
        ·have h := cond_f ht h
         refine ak_skip ?_
         exact ak_conv (.cons rfl (.refl _) (.cons rfl (.refl _) (.cons rfl (.refl _) (.cons rfl (.refl _) (.cons rfl (.refl _) (.cons rfl (.refl _) (.nil _))))))) (.cons rfl (.refl _) (.cons rfl (.refl _) (.cons rfl (.refl _) (.cons rfl (.refl _) (.cons rfl (.refl _) (.nil _)))))) (ih _ _ h w F ρ)
 | l135_1 a0 a1 a2 a3 a4 a5 a6 a7 a8 a9 a10 a11 a12 a13 a14 a15 a16 =>
  intro w F ρ
  dsimp only at h
  refine ak_seq ?_
  refine ak_seq ?_
  refine ak_regionS (.cons rfl (ok_fieldV (dlt rfl rfl) rfl fo139_3 ty3 (by decide) rfl) (.cons rfl (ok_loadV (dlt rfl rfl) rfl ty3 rfl rfl rfl) (.cons rfl (ok_neq (dlt rfl rfl) rfl rfl rfl) (.nil ?_))))
  refine ak_cond rfl (fun ht => ?_) (fun ht => ?_)
  ·have h := cond_t ht h
   refine ak_seq ?_
   obtain ⟨v17, hv17, h⟩ := bind_of h
   refine ak_regionS (.cons rfl (ok_loadVT (dlt rfl rfl) rfl ty29 rfl rfl (by decide) rfl) (.cons rfl (ok_fieldV (dlt rfl rfl) rfl fo139_3 ty3 (by decide) rfl) (.cons rfl (ok_loadV (dlt rfl rfl) rfl ty3 rfl rfl rfl) (.cons rfl (ok_fieldV (dlt rfl rfl) rfl fo139_2 ty3 (by decide) rfl) (.cons rfl (ok_loadV (dlt rfl rfl) rfl ty3 rfl rfl rfl) (.freeze 70904 rfl rfl (.freeze 70905 rfl rfl (.cons rfl (ok_call (xs := [.agg [.int .i64 a4, .int .i64 a5, .int .i64 a6, .str a7, .sl Ty.sApiValue a9, .sl Ty.str a8], .int .i64 a3.fault, .int .i64 a3.pos]) (caps := []) (dlt rfl rfl) rfl rfl Tryz.func183 rfl rfl rfl (d183 hv17) rfl) (.cons rfl (ok_storeV rfl rfl ty139 rfl rfl rfl rfl (by decide) rfl rfl) (.nil ?_))))))))))
   obtain rfl := Option.some.inj h
   refine ak_conv (Γ' := [(8, .ref 8 0)]) (σ' := [(8, .cells 139 [.int .i64 v17.value.kind, .int .i64 v17.value.frm, .int .i64 v17.value.to, .str v17.value.text, .sl Ty.sApiValue v17.value.items, .sl Ty.str v17.value.names, .bool v17.begun, .int .i64 v17.pos, .int .i64 v17.fault])]) (.cons rfl (.refl _) (.nil _)) (.cons rfl (.refl _) (.nil _)) ?_
   exact ak_ret (fn := Tryz.f135) Tryz.func135 rfl ⟨⟨_, _, _, _, _, _, rfl, rfl, ty139⟩, trivial⟩ rfl
  ·have h := cond_f ht h
   refine ak_skip ?_
   refine ak_seq ?_
   obtain ⟨v18, hv18, h⟩ := bind_of h
   refine ak_regionS (.cons rfl (ok_move (dlt rfl rfl) rfl rfl) (.cons rfl (ok_fieldV (dlt rfl rfl) rfl fo139_2 ty3 (by decide) rfl) (.cons rfl (ok_loadV (dlt rfl rfl) rfl ty3 rfl rfl rfl) (.cons rfl (ok_call (xs := [.str a0, .int .i64 a3.pos]) (caps := []) (dlt rfl rfl) rfl rfl Tryz.func79 rfl rfl rfl (d79 hv18) rfl) (.cons rfl (ok_assign (dlt rfl rfl) rfl rfl) (.nil ?_))))))
   refine ak_seq ?_
   refine ak_seq ?_
   refine ak_regionS (.cons rfl (ok_move (dlt rfl rfl) rfl rfl) (.cons rfl (ok_move (dlt rfl rfl) rfl rfl) (.cons rfl (ok_lenT (s := a0) (dlt rfl rfl) rfl Tryz.underlying9 rfl) (.cons rfl (ok_geq (dlt rfl rfl) rfl rfl rfl) (.nil ?_)))))
   refine ak_cond rfl (fun ht => ?_) (fun ht => ?_)
   ·have h := cond_t ht h
    refine ak_seq ?_
    obtain ⟨v19, hv19, h⟩ := bind_of h
    refine ak_regionS (.cons rfl (ok_loadVT (dlt rfl rfl) rfl ty29 rfl rfl (by decide) rfl) (.cons rfl (ok_move (dlt rfl rfl) rfl rfl) (.cons rfl (ok_lenT (s := a0) (dlt rfl rfl) rfl Tryz.underlying9 rfl) (.freeze 70904 rfl rfl (.freeze 70905 rfl rfl (.cons rfl (ok_call (xs := [.agg [.int .i64 a4, .int .i64 a5, .int .i64 a6, .str a7, .sl Ty.sApiValue a9, .sl Ty.str a8], .int .i64 (10 : Int), .int .i64 (a0.length : Int)]) (caps := []) (dlt rfl rfl) rfl rfl Tryz.func183 rfl rfl rfl (d183 hv19) rfl) (.cons rfl (ok_storeV rfl rfl ty139 rfl rfl rfl rfl (by decide) rfl rfl) (.nil ?_))))))))
    obtain rfl := Option.some.inj h
    refine ak_conv (Γ' := [(8, .ref 8 0)]) (σ' := [(8, .cells 139 [.int .i64 v19.value.kind, .int .i64 v19.value.frm, .int .i64 v19.value.to, .str v19.value.text, .sl Ty.sApiValue v19.value.items, .sl Ty.str v19.value.names, .bool v19.begun, .int .i64 v19.pos, .int .i64 v19.fault])]) (.cons rfl (.refl _) (.nil _)) (.cons rfl (.refl _) (.nil _)) ?_
    exact ak_ret (fn := Tryz.f135) Tryz.func135 rfl ⟨⟨_, _, _, _, _, _, rfl, rfl, ty139⟩, trivial⟩ rfl
   ·have h := cond_f ht h
    refine ak_skip ?_
    refine ak_seq ?_
    refine ak_seq ?_
    obtain ⟨v20, hv20, h⟩ := bind_of h
    refine ak_regionS (.cons rfl (ok_move (dlt rfl rfl) rfl rfl) (.cons rfl (ok_move (dlt rfl rfl) rfl rfl) (.cons rfl (ok_byte (s := a0) (c := v20) (dlt rfl rfl) rfl Tryz.underlying9 rfl rfl (idx_0 hv20) (idx_1 hv20)) (.cons rfl (ok_eql (dlt rfl rfl) rfl rfl rfl) (.nil ?_)))))
    refine ak_cond rfl (fun ht => ?_) (fun ht => ?_)
    ·have h := cond_t ht h
     refine ak_seq ?_
     refine ak_regionS (.cons rfl (ok_move (dlt rfl rfl) rfl rfl) (.cons rfl (ok_add (dlt rfl rfl) rfl rfl rfl) (.cons rfl (ok_fieldV (dlt rfl rfl) rfl fo29_2 ty3 (by decide) rfl) (.cons rfl (ok_storeV rfl rfl ty3 rfl rfl rfl rfl (by decide) rfl rfl) (.nil ?_)))))
     refine ak_seq ?_
     refine ak_regionS (.cons rfl (ok_loadVT (dlt rfl rfl) rfl ty29 rfl rfl (by decide) rfl) (.cons rfl (ok_move (dlt rfl rfl) rfl rfl) (.cons rfl (ok_add (dlt rfl rfl) rfl rfl rfl) (.cons rfl (ok_build (dlt rfl rfl) rfl ty139 rfl pl139 rfl rfl rfl) (.cons rfl (ok_storeV rfl rfl ty139 rfl rfl rfl rfl (by decide) rfl rfl) (.nil ?_))))))
     obtain rfl := Option.some.inj h
     refine ak_freeze 70904 rfl ?_
     refine ak_freeze 70905 rfl ?_
     refine ak_conv (Γ' := [(8, .ref 8 0)]) (σ' := [(8, .cells 139 [.int .i64 (((⟨(⟨a4, a5, IntKind.wrap .i64 (v18 + (1 : Int)), a7, a9, a8⟩ : ApiValue), true, IntKind.wrap .i64 (v18 + (1 : Int)), 0⟩ : Ref10Part).value).kind), .int .i64 (((⟨(⟨a4, a5, IntKind.wrap .i64 (v18 + (1 : Int)), a7, a9, a8⟩ : ApiValue), true, IntKind.wrap .i64 (v18 + (1 : Int)), 0⟩ : Ref10Part).value).frm), .int .i64 (((⟨(⟨a4, a5, IntKind.wrap .i64 (v18 + (1 : Int)), a7, a9, a8⟩ : ApiValue), true, IntKind.wrap .i64 (v18 + (1 : Int)), 0⟩ : Ref10Part).value).to), .str (((⟨(⟨a4, a5, IntKind.wrap .i64 (v18 + (1 : Int)), a7, a9, a8⟩ : ApiValue), true, IntKind.wrap .i64 (v18 + (1 : Int)), 0⟩ : Ref10Part).value).text), .sl Ty.sApiValue (((⟨(⟨a4, a5, IntKind.wrap .i64 (v18 + (1 : Int)), a7, a9, a8⟩ : ApiValue), true, IntKind.wrap .i64 (v18 + (1 : Int)), 0⟩ : Ref10Part).value).items), .sl Ty.str (((⟨(⟨a4, a5, IntKind.wrap .i64 (v18 + (1 : Int)), a7, a9, a8⟩ : ApiValue), true, IntKind.wrap .i64 (v18 + (1 : Int)), 0⟩ : Ref10Part).value).names), .bool ((⟨(⟨a4, a5, IntKind.wrap .i64 (v18 + (1 : Int)), a7, a9, a8⟩ : ApiValue), true, IntKind.wrap .i64 (v18 + (1 : Int)), 0⟩ : Ref10Part).begun), .int .i64 ((⟨(⟨a4, a5, IntKind.wrap .i64 (v18 + (1 : Int)), a7, a9, a8⟩ : ApiValue), true, IntKind.wrap .i64 (v18 + (1 : Int)), 0⟩ : Ref10Part).pos), .int .i64 ((⟨(⟨a4, a5, IntKind.wrap .i64 (v18 + (1 : Int)), a7, a9, a8⟩ : ApiValue), true, IntKind.wrap .i64 (v18 + (1 : Int)), 0⟩ : Ref10Part).fault)])]) (.cons rfl (.refl _) (.nil _)) (.cons rfl (.refl _) (.nil _)) ?_
     exact ak_ret (fn := Tryz.f135) Tryz.func135 rfl ⟨⟨_, _, _, _, _, _, rfl, rfl, ty139⟩, trivial⟩ rfl
    ·have h := cond_f ht h
     refine ak_skip ?_
     refine ak_seq ?_
     refine ak_seq ?_
     obtain ⟨v21, hv21, h⟩ := bind_of h
     refine ak_regionS (.cons rfl (ok_move (dlt rfl rfl) rfl rfl) (.cons rfl (ok_move (dlt rfl rfl) rfl rfl) (.cons rfl (ok_byte (s := a0) (c := v21) (dlt rfl rfl) rfl Tryz.underlying9 rfl rfl (idx_0 hv21) (idx_1 hv21)) (.cons rfl (ok_neq (dlt rfl rfl) rfl rfl rfl) (.nil ?_)))))
     refine ak_cond rfl (fun ht => ?_) (fun ht => ?_)
     ·have h := cond_t ht h
      refine ak_seq ?_
      obtain ⟨v22, hv22, h⟩ := bind_of h
      refine ak_regionS (.cons rfl (ok_loadVT (dlt rfl rfl) rfl ty29 rfl rfl (by decide) rfl) (.cons rfl (ok_move (dlt rfl rfl) rfl rfl) (.freeze 70904 rfl rfl (.freeze 70905 rfl rfl (.cons rfl (ok_call (xs := [.agg [.int .i64 a4, .int .i64 a5, .int .i64 a6, .str a7, .sl Ty.sApiValue a9, .sl Ty.str a8], .int .i64 (8 : Int), .int .i64 v18]) (caps := []) (dlt rfl rfl) rfl rfl Tryz.func183 rfl rfl rfl (d183 hv22) rfl) (.cons rfl (ok_storeV rfl rfl ty139 rfl rfl rfl rfl (by decide) rfl rfl) (.nil ?_)))))))
      obtain rfl := Option.some.inj h
      refine ak_conv (Γ' := [(8, .ref 8 0)]) (σ' := [(8, .cells 139 [.int .i64 v22.value.kind, .int .i64 v22.value.frm, .int .i64 v22.value.to, .str v22.value.text, .sl Ty.sApiValue v22.value.items, .sl Ty.str v22.value.names, .bool v22.begun, .int .i64 v22.pos, .int .i64 v22.fault])]) (.cons rfl (.refl _) (.nil _)) (.cons rfl (.refl _) (.nil _)) ?_
      exact ak_ret (fn := Tryz.f135) Tryz.func135 rfl ⟨⟨_, _, _, _, _, _, rfl, rfl, ty139⟩, trivial⟩ rfl
     ·have h := cond_f ht h
      refine ak_skip ?_
      obtain ⟨v23, hv23, h⟩ := bind_of h
      refine ak_regionS (.cons rfl (ok_move (dlt rfl rfl) rfl rfl) (.cons rfl (ok_move (dlt rfl rfl) rfl rfl) (.cons rfl (ok_add (dlt rfl rfl) rfl rfl rfl) (.cons rfl (ok_call (xs := [.str a0, .int .i64 (IntKind.wrap .i64 (v18 + (1 : Int)))]) (caps := []) (dlt rfl rfl) rfl rfl Tryz.func79 rfl rfl rfl (d79 hv23) rfl) (.cons rfl (ok_assign (dlt rfl rfl) rfl rfl) (.nil ?_))))))
      refine ak_inBlock ?_
      refine ak_inLoop ?_
      exact ak_conv (.cons rfl (.refl _) (.cons rfl (.refl _) (.cons rfl (.refl _) (.cons rfl (.refl _) (.cons rfl (.refl _) (.cons rfl (.refl _) (.nil _))))))) (.cons rfl (.refl _) (.cons rfl (.refl _) (.cons rfl (.refl _) (.cons rfl (.refl _) (.nil _))))) (ih _ _ h w F ρ))
theorem d80 {a0 : List UInt8} {a1 : Int} {a2 : Int} {a3 : Bool} {r : Ref10Part} (h : f80 (.e80 a0 a1 a2 a3) = some r) : Does Tryz.prog GG 80 [.str a0, .int .i64 a1, .int .i64 a2, .bool a3] [] (fun z _ => z = .agg [.int .i64 r.value.kind, .int .i64 r.value.frm, .int .i64 r.value.to, .str r.value.text, .sl Ty.sApiValue r.value.items, .sl Ty.str r.value.names, .bool r.begun, .int .i64 r.pos, .int .i64 r.fault]) := fn_of (fn := Tryz.f80) Tryz.func80 rfl Tryz.ntmps80 rfl (w80 _ _ h)
theorem d134 {a0 : List UInt8} {a1 : Int} {a2 : Int} {a3 : Bool} {r : Ref10Part} (h : f80 (.e134 a0 a1 a2 a3) = some r) : Does Tryz.prog GG 134 [.str a0, .int .i64 a1, .int .i64 a2, .bool a3] [] (fun z _ => z = .agg [.int .i64 r.value.kind, .int .i64 r.value.frm, .int .i64 r.value.to, .str r.value.text, .sl Ty.sApiValue r.value.items, .sl Ty.str r.value.names, .bool r.begun, .int .i64 r.pos, .int .i64 r.fault]) := fn_of (fn := Tryz.f134) Tryz.func134 rfl Tryz.ntmps134 rfl (w80 _ _ h)
theorem d135 {a0 : List UInt8} {a1 : Int} {a2 : Int} {a3 : Bool} {r : Ref10Part} (h : f80 (.e135 a0 a1 a2 a3) = some r) : Does Tryz.prog GG 135 [.str a0, .int .i64 a1, .int .i64 a2, .bool a3] [] (fun z _ => z = .agg [.int .i64 r.value.kind, .int .i64 r.value.frm, .int .i64 r.value.to, .str r.value.text, .sl Ty.sApiValue r.value.items, .sl Ty.str r.value.names, .bool r.begun, .int .i64 r.pos, .int .i64 r.fault]) := fn_of (fn := Tryz.f135) Tryz.func135 rfl Tryz.ntmps135 rfl (w80 _ _ h)
end Go.Proofs.YtonlbdholdaifaaGreatDoor
end
