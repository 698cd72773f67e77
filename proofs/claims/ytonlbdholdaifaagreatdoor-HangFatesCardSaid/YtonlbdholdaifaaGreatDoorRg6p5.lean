import Derived.Test.YtonlbdholdaifaaGreatDoorProg
import Derived.Test.YtonlbdholdaifaaGreatDoorRfp4
import Derived.Test.YtonlbdholdaifaaGreatDoorRg6p1
import Derived.Test.YtonlbdholdaifaaGreatDoorRg6p2
import Derived.Test.YtonlbdholdaifaaGreatDoorRg6p4
section
set_option linter.unusedVariables false
set_option linter.unusedSimpArgs false
set_option maxRecDepth 10000
namespace Go.Proofs.YtonlbdholdaifaaGreatDoor
open Go Go.Rf Go.Proofs
/-- riffle/riffleref10.Some -/
noncomputable abbrev b28 : Code := codeOf Tryz.f28
inductive L28 where
 | e28 (a0 : List UInt8) (a1 : Int) (a2 : Bool)
 | l28_0 (a0 : List UInt8) (a1 : Int) (a2 : Bool) (a3 : Int) (a4 : Int) (a5 : Int) (a6 : List UInt8) (a7 : Int) (a8 : Int)
 | l28_1 (a0 : Int) (a1 : Int) (a2 : Int) (a3 : List UInt8) (a4 : Int) (a5 : Int) (a6 : Int) (a7 : Int)
 | l28_2 (a0 : Int) (a1 : Int) (a2 : Int) (a3 : List UInt8) (a4 : Ref10Part) (a5 : Int) (a6 : Int) (a7 : Int) (a8 : Int)
noncomputable def f28 : L28 → Option (ApiValue × Bool × ApiVerdict)
 | .e28 a0 a1 a2 =>
  if (decide (a1 < (1 : Int))) = true then
   f28 (.l28_0 a0 (1 : Int) a2 (0 : Int) (0 : Int) (0 : Int) [] (0 : Int) (0 : Int))
  else
   f28 (.l28_0 a0 a1 a2 (0 : Int) (0 : Int) (0 : Int) [] (0 : Int) (0 : Int))
 | .l28_0 a0 a1 a2 a3 a4 a5 a6 a7 a8 =>
  f79 (.e79 a0 (0 : Int)) >>= fun v1 =>
  if (decide ((a0.length : Int) ≤ v1)) = true then
   if a2 = true then
    f28 (.l28_1 a3 a4 a5 a6 (11 : Int) (a0.length : Int) a7 a8)
   else
    f28 (.l28_1 a3 a4 a5 a6 (0 : Int) (a0.length : Int) a7 a8)
  else
   f80 (.e80 a0 v1 a1 a2) >>= fun v2 =>
   if ((v2.fault == (10 : Int)) && (!a2)) = true then
    some (v2.value, v2.begun, (⟨0, (a0.length : Int)⟩ : ApiVerdict))
   else
    if (v2.fault != (0 : Int)) = true then
     some (v2.value, v2.begun, (⟨v2.fault, v2.pos⟩ : ApiVerdict))
    else
     f79 (.e79 a0 v2.pos) >>= fun v3 =>
     if (decide (v3 < (a0.length : Int))) = true then
      some (v2.value, true, (⟨9, v3⟩ : ApiVerdict))
     else
      if a2 = true then
       f28 (.l28_2 a3 a4 a5 a6 v2 (1 : Int) (a0.length : Int) a7 a8)
      else
       f28 (.l28_2 a3 a4 a5 a6 v2 (0 : Int) (a0.length : Int) a7 a8)
 | .l28_1 a0 a1 a2 a3 a4 a5 a6 a7 =>
  some ((⟨0, 0, 0, [], ([] : List ApiValue), ([] : List (List UInt8))⟩ : ApiValue), false, (⟨a4, a5⟩ : ApiVerdict))
 | .l28_2 a0 a1 a2 a3 a4 a5 a6 a7 a8 =>
  some (a4.value, true, (⟨a5, a6⟩ : ApiVerdict))
 partial_fixpoint
def M28 : L28 → (ApiValue × Bool × ApiVerdict) → Prop
 | .e28 a0 a1 a2, r => ∀ (w : World) (F : Nat → Prop) (ρ : Rho), AK Tryz.prog (ctx GG 73 w F ρ []) 28 [.code b28] (argE 0 [.str a0, .int .i64 a1, .bool a2]) [] (fun z _ => z = .tup [.agg [.int .i64 r.1.kind, .int .i64 r.1.frm, .int .i64 r.1.to, .str r.1.text, .sl Ty.sApiValue r.1.items, .sl Ty.str r.1.names], .bool r.2.1, .agg [.int .i64 r.2.2.kind, .int .i64 r.2.2.pos]])
 | .l28_0 a0 a1 a2 a3 a4 a5 a6 a7 a8, r => ∀ (w : World) (F : Nat → Prop) (ρ : Rho), AK Tryz.prog (ctx GG 73 w F ρ []) 28 [.code (c2 (c2 b28))] [(0, .str a0), (1, .int .i64 a1), (2, .bool a2), (6, .ref 6 0), (8, .ref 8 0)] [(6, .cells 29 [.int .i64 a3, .int .i64 a4, .int .i64 a5, .str a6, .nils, .nils]), (8, .cells 57 [.int .i64 a7, .int .i64 a8])] (fun z _ => z = .tup [.agg [.int .i64 r.1.kind, .int .i64 r.1.frm, .int .i64 r.1.to, .str r.1.text, .sl Ty.sApiValue r.1.items, .sl Ty.str r.1.names], .bool r.2.1, .agg [.int .i64 r.2.2.kind, .int .i64 r.2.2.pos]])
 | .l28_1 a0 a1 a2 a3 a4 a5 a6 a7, r => ∀ (w : World) (F : Nat → Prop) (ρ : Rho), AK Tryz.prog (ctx GG 73 w F ρ []) 28 [.code (c2 (c1 (c2 (c1 (c2 (c2 (c2 (c2 b28)))))))), .code (c2 (c2 (c2 (c2 (c2 b28)))))] [(6, .ref 6 0), (8, .ref 8 0), (9, .ref 9 0)] [(6, .cells 29 [.int .i64 a0, .int .i64 a1, .int .i64 a2, .str a3, .nils, .nils]), (9, .cells 57 [.int .i64 a4, .int .i64 a5]), (8, .cells 57 [.int .i64 a6, .int .i64 a7])] (fun z _ => z = .tup [.agg [.int .i64 r.1.kind, .int .i64 r.1.frm, .int .i64 r.1.to, .str r.1.text, .sl Ty.sApiValue r.1.items, .sl Ty.str r.1.names], .bool r.2.1, .agg [.int .i64 r.2.2.kind, .int .i64 r.2.2.pos]])
 | .l28_2 a0 a1 a2 a3 a4 a5 a6 a7 a8, r => ∀ (w : World) (F : Nat → Prop) (ρ : Rho), AK Tryz.prog (ctx GG 73 w F ρ []) 28 [.code (c2 (c2 (c2 (c2 (c2 (c2 (c2 (c2 (c2 (c2 (c2 b28)))))))))))] [(6, .ref 6 0), (8, .ref 8 0), (9, .ref 9 0), (11, .ref 11 0)] [(6, .cells 29 [.int .i64 a0, .int .i64 a1, .int .i64 a2, .str a3, .nils, .nils]), (11, .cells 139 [.int .i64 a4.value.kind, .int .i64 a4.value.frm, .int .i64 a4.value.to, .str a4.value.text, .sl Ty.sApiValue a4.value.items, .sl Ty.str a4.value.names, .bool a4.begun, .int .i64 a4.pos, .int .i64 a4.fault]), (9, .cells 57 [.int .i64 a5, .int .i64 a6]), (8, .cells 57 [.int .i64 a7, .int .i64 a8])] (fun z _ => z = .tup [.agg [.int .i64 r.1.kind, .int .i64 r.1.frm, .int .i64 r.1.to, .str r.1.text, .sl Ty.sApiValue r.1.items, .sl Ty.str r.1.names], .bool r.2.1, .agg [.int .i64 r.2.2.kind, .int .i64 r.2.2.pos]])
theorem w28 : ∀ (l : L28) (r : ApiValue × Bool × ApiVerdict), f28 l = some r → M28 l r := f28.partial_correctness M28 (by
 intro f ih l r h
 cases l with
 | e28 a0 a1 a2 =>
  intro w F ρ
  dsimp only at h
  refine ak_seq ?_
  refine ak_regionS (.cons rfl (ok_alloc (d := 6) (dlt rfl rfl) rfl ty29 rfl rfl rfl) (.cons rfl (ok_assign (dlt rfl rfl) rfl rfl) (.cons rfl (ok_alloc (d := 8) (dlt rfl rfl) rfl ty57 rfl rfl rfl) (.nil ?_))))
  refine ak_seq ?_
  refine ak_seq ?_
  refine ak_regionS (.cons rfl (ok_move (dlt rfl rfl) rfl rfl) (.cons rfl (ok_lss (dlt rfl rfl) rfl rfl rfl) (.nil ?_)))
  refine ak_cond rfl (fun ht => ?_) (fun ht => ?_)
  ·have h := cond_t ht h
   refine ak_regionS (.cons rfl (ok_assign (dlt rfl rfl) rfl rfl) (.nil ?_))
   exact ak_conv (.cons rfl (.refl _) (.cons rfl (.refl _) (.cons rfl (.refl _) (.cons rfl (.refl _) (.cons rfl (.refl _) (.nil _)))))) (.cons rfl (.refl _) (.cons rfl (.refl _) (.nil _))) (ih _ _ h w F ρ)
  ·have h := cond_f ht h
   refine ak_skip ?_
   exact ak_conv (.cons rfl (.refl _) (.cons rfl (.refl _) (.cons rfl (.refl _) (.cons rfl (.refl _) (.cons rfl (.refl _) (.nil _)))))) (.cons rfl (.refl _) (.cons rfl (.refl _) (.nil _))) (ih _ _ h w F ρ)
 | l28_0 a0 a1 a2 a3 a4 a5 a6 a7 a8 =>
  intro w F ρ
  dsimp only at h
  refine ak_seq ?_
  refine ak_regionS (.cons rfl (ok_move (dlt rfl rfl) rfl rfl) (.cons rfl (ok_lenT (s := a0) (dlt rfl rfl) rfl Tryz.underlying9 rfl) (.cons rfl (ok_build (dlt rfl rfl) rfl ty57 rfl pl57 rfl rfl rfl) (.cons rfl (ok_alloc (d := 9) (dlt rfl rfl) rfl ty57 rfl rfl rfl) (.cons rfl (ok_storeV rfl rfl ty57 rfl rfl rfl rfl (by decide) rfl rfl) (.nil ?_))))))
  refine ak_seq ?_
  obtain ⟨v1, hv1, h⟩ := bind_of h
  refine ak_regionS (.cons rfl (ok_move (dlt rfl rfl) rfl rfl) (.cons rfl (ok_call (xs := [.str a0, .int .i64 (0 : Int)]) (caps := []) (dlt rfl rfl) rfl rfl Tryz.func79 rfl rfl rfl (d79 hv1) rfl) (.cons rfl (ok_assign (dlt rfl rfl) rfl rfl) (.nil ?_))))
  refine ak_seq ?_
  refine ak_seq ?_
  refine ak_regionS (.cons rfl (ok_move (dlt rfl rfl) rfl rfl) (.cons rfl (ok_move (dlt rfl rfl) rfl rfl) (.cons rfl (ok_lenT (s := a0) (dlt rfl rfl) rfl Tryz.underlying9 rfl) (.cons rfl (ok_geq (dlt rfl rfl) rfl rfl rfl) (.nil ?_)))))
  refine ak_cond rfl (fun ht => ?_) (fun ht => ?_)
  ·have h := cond_t ht h
   refine ak_seq ?_
   refine ak_seq ?_
   refine ak_regionS (.cons rfl (ok_move (dlt rfl rfl) rfl rfl) (.nil ?_))
   refine ak_cond rfl (fun ht => ?_) (fun ht => ?_)
   ·have h := cond_t ht h
    refine ak_regionS (.cons rfl (ok_fieldV (dlt rfl rfl) rfl fo57_0 ty3 (by decide) rfl) (.cons rfl (ok_storeV rfl rfl ty3 rfl rfl rfl rfl (by decide) rfl rfl) (.nil ?_)))
    exact ak_conv (.cons rfl (.refl _) (.cons rfl (.refl _) (.cons rfl (.refl _) (.nil _)))) (.cons rfl (.refl _) (.cons rfl (.refl _) (.cons rfl (.refl _) (.nil _)))) (ih _ _ h w F ρ)
   ·have h := cond_f ht h
    refine ak_skip ?_
    exact ak_conv (.cons rfl (.refl _) (.cons rfl (.refl _) (.cons rfl (.refl _) (.nil _)))) (.cons rfl (.refl _) (.cons rfl (.refl _) (.cons rfl (.refl _) (.nil _)))) (ih _ _ h w F ρ)
  ·have h := cond_f ht h
   refine ak_skip ?_
   refine ak_seq ?_
   obtain ⟨v2, hv2, h⟩ := bind_of h
   refine ak_regionS (.cons rfl (ok_move (dlt rfl rfl) rfl rfl) (.cons rfl (ok_move (dlt rfl rfl) rfl rfl) (.cons rfl (ok_move (dlt rfl rfl) rfl rfl) (.cons rfl (ok_move (dlt rfl rfl) rfl rfl) (.cons rfl (ok_call (xs := [.str a0, .int .i64 v1, .int .i64 a1, .bool a2]) (caps := []) (dlt rfl rfl) rfl rfl Tryz.func80 rfl rfl rfl (d80 hv2) rfl) (.cons rfl (ok_alloc (d := 11) (dlt rfl rfl) rfl ty139 rfl rfl rfl) (.cons rfl (ok_storeV rfl rfl ty139 rfl rfl rfl rfl (by decide) rfl rfl) (.nil ?_))))))))
   refine ak_seq ?_
   refine ak_seq ?_
   refine ak_regionS (.cons rfl (ok_fieldV (dlt rfl rfl) rfl fo139_3 ty3 (by decide) rfl) (.cons rfl (ok_loadV (dlt rfl rfl) rfl ty3 rfl rfl rfl) (.cons rfl (ok_eql (dlt rfl rfl) rfl rfl rfl) (.cons rfl (ok_move (dlt rfl rfl) rfl rfl) (.consG (pre := []) (dlt rfl rfl) rfl rfl rfl rfl .nil (fun he => ok_move (dlt rfl rfl) rfl rfl) (.consG (pre := [(36, .bool a2)]) (dlt rfl rfl) rfl rfl rfl rfl (.cons rfl (fun he => he) .nil) (fun he => ok_not (dlt rfl rfl) rfl rfl) (.cons rfl (ok_andW (dlt rfl rfl) rfl rfl rfl (fun h => h)) (.nil ?_))))))))
   refine ak_cond rfl (fun ht => ?_) (fun ht => ?_)
   ·have h := cond_t ht h
    refine ak_seq ?_
    refine ak_drawL [⟨some 39, [(11, .ref 11 0)], none, true, .ref 11 0, [], []⟩,
  ⟨some 40, [(39, .ref 11 0)], none, true, .agg [.int .i64 v2.value.kind, .int .i64 v2.value.frm, .int .i64 v2.value.to, .str v2.value.text, .sl Ty.sApiValue v2.value.items, .sl Ty.str v2.value.names], [(11, .cells 139 [.int .i64 v2.value.kind, .int .i64 v2.value.frm, .int .i64 v2.value.to, .str v2.value.text, .sl Ty.sApiValue v2.value.items, .sl Ty.str v2.value.names, .bool v2.begun, .int .i64 v2.pos, .int .i64 v2.fault])], []⟩,
  ⟨some 41, [(11, .ref 11 0)], none, true, .ref 11 6, [], []⟩,
  ⟨some 42, [(41, .ref 11 6)], none, true, .bool v2.begun, [(11, .cells 139 [.int .i64 v2.value.kind, .int .i64 v2.value.frm, .int .i64 v2.value.to, .str v2.value.text, .sl Ty.sApiValue v2.value.items, .sl Ty.str v2.value.names, .bool v2.begun, .int .i64 v2.pos, .int .i64 v2.fault])], []⟩,
  ⟨some 43, [(9, .ref 9 0)], none, true, .agg [.int .i64 (0 : Int), .int .i64 (a0.length : Int)], [(9, .cells 57 [.int .i64 (0 : Int), .int .i64 (a0.length : Int)])], []⟩,
  ⟨none, [(6, .ref 6 0), (40, .agg [.int .i64 v2.value.kind, .int .i64 v2.value.frm, .int .i64 v2.value.to, .str v2.value.text, .sl Ty.sApiValue v2.value.items, .sl Ty.str v2.value.names])], none, true, .undef, [(6, .cells 29 [.int .i64 a3, .int .i64 a4, .int .i64 a5, .str a6, .nils, .nils])], [(6, .cells 29 [.int .i64 v2.value.kind, .int .i64 v2.value.frm, .int .i64 v2.value.to, .str v2.value.text, .sl Ty.sApiValue v2.value.items, .sl Ty.str v2.value.names])]⟩,
  ⟨some 7, [(42, .bool v2.begun)], none, true, .bool v2.begun, [], []⟩,
  ⟨none, [(8, .ref 8 0), (43, .agg [.int .i64 (0 : Int), .int .i64 (a0.length : Int)])], none, true, .undef, [(8, .cells 57 [.int .i64 a7, .int .i64 a8])], [(8, .cells 57 [.int .i64 (0 : Int), .int .i64 (a0.length : Int)])]⟩] [[], [0], [], [2], [], [0, 1], [0, 1, 2, 3, 5], [0, 1, 2, 3, 4, 5, 6]] (by kernel_rfl) (by kernel_rfl) (.cons (qok (dlt rfl rfl) rfl (.same rfl .nil) (NeedQ.all .nil) (fun Γx σx => ok_fieldV (dlt rfl rfl) rfl fo139_0 ty29 (by decide) rfl)) (.cons (qok (dlt rfl rfl) rfl (.same rfl .nil) (NeedQ.all (.cons rfl .nil)) (fun Γx σx => ok_loadVT (dlt rfl rfl) rfl ty29 rfl rfl (by decide) rfl)) (.cons (qok (dlt rfl rfl) rfl (.same rfl .nil) (NeedQ.all .nil) (fun Γx σx => ok_fieldV (dlt rfl rfl) rfl fo139_1 ty4 (by decide) rfl)) (.cons (qok (dlt rfl rfl) rfl (.same rfl .nil) (NeedQ.all (.cons rfl .nil)) (fun Γx σx => ok_loadV (dlt rfl rfl) rfl ty4 rfl rfl rfl)) (.cons (qok (dlt rfl rfl) rfl (.same rfl .nil) (NeedQ.all (.cons rfl .nil)) (fun Γx σx => ok_loadVT (dlt rfl rfl) rfl ty57 rfl rfl (by decide) rfl)) (.cons (qokN (nodst rfl) rfl (.same rfl (.same rfl .nil)) (NeedQ.all (.cons rfl .nil)) (fresh0 rfl) (fun Γx σx hfr => ok_storeV rfl rfl ty29 rfl rfl rfl rfl (by decide) rfl rfl)) (.cons (qok (dlt rfl rfl) rfl (.same rfl .nil) (NeedQ.all .nil) (fun Γx σx => ok_assign (dlt rfl rfl) rfl rfl)) (.cons (qokN (nodst rfl) rfl (.same rfl (.same rfl .nil)) (NeedQ.all (.cons rfl .nil)) (fresh0 rfl) (fun Γx σx hfr => ok_storeV rfl rfl ty57 rfl rfl rfl rfl (by decide) rfl rfl)) (.nil _ _))))))))) (.nil ?_)
    obtain rfl := Option.some.inj h
    refine ak_conv (Γ' := [(6, .ref 6 0), (7, .bool v2.begun), (8, .ref 8 0)]) (σ' := [(6, .cells 29 [.int .i64 v2.value.kind, .int .i64 v2.value.frm, .int .i64 v2.value.to, .str v2.value.text, .sl Ty.sApiValue v2.value.items, .sl Ty.str v2.value.names]), (8, .cells 57 [.int .i64 ((⟨0, (a0.length : Int)⟩ : ApiVerdict).kind), .int .i64 ((⟨0, (a0.length : Int)⟩ : ApiVerdict).pos)])]) (.cons rfl (.refl _) (.cons rfl (.refl _) (.cons rfl (.refl _) (.nil _)))) (.cons rfl (.refl _) (.cons rfl (.refl _) (.nil _))) ?_
    exact ak_ret (fn := Tryz.f28) Tryz.func28 rfl ⟨⟨_, _, _, _, _, _, rfl, rfl, ty29⟩, ⟨⟨_, _, _, _, _, _, rfl, rfl, ty57⟩, trivial⟩⟩ rfl
   ·have h := cond_f ht h
    refine ak_skip ?_
    refine ak_seq ?_
    refine ak_seq ?_
    refine ak_regionS (.cons rfl (ok_fieldV (dlt rfl rfl) rfl fo139_3 ty3 (by decide) rfl) (.cons rfl (ok_loadV (dlt rfl rfl) rfl ty3 rfl rfl rfl) (.cons rfl (ok_neq (dlt rfl rfl) rfl rfl rfl) (.nil ?_))))
    refine ak_cond rfl (fun ht => ?_) (fun ht => ?_)
    ·have h := cond_t ht h
     refine ak_seq ?_
     refine ak_drawL [⟨some 47, [(11, .ref 11 0)], none, true, .ref 11 0, [], []⟩,
  ⟨some 48, [(47, .ref 11 0)], none, true, .agg [.int .i64 v2.value.kind, .int .i64 v2.value.frm, .int .i64 v2.value.to, .str v2.value.text, .sl Ty.sApiValue v2.value.items, .sl Ty.str v2.value.names], [(11, .cells 139 [.int .i64 v2.value.kind, .int .i64 v2.value.frm, .int .i64 v2.value.to, .str v2.value.text, .sl Ty.sApiValue v2.value.items, .sl Ty.str v2.value.names, .bool v2.begun, .int .i64 v2.pos, .int .i64 v2.fault])], []⟩,
  ⟨some 49, [(11, .ref 11 0)], none, true, .ref 11 6, [], []⟩,
  ⟨some 50, [(49, .ref 11 6)], none, true, .bool v2.begun, [(11, .cells 139 [.int .i64 v2.value.kind, .int .i64 v2.value.frm, .int .i64 v2.value.to, .str v2.value.text, .sl Ty.sApiValue v2.value.items, .sl Ty.str v2.value.names, .bool v2.begun, .int .i64 v2.pos, .int .i64 v2.fault])], []⟩,
  ⟨some 51, [(11, .ref 11 0)], none, true, .ref 11 8, [], []⟩,
  ⟨some 52, [(51, .ref 11 8)], none, true, .int .i64 v2.fault, [(11, .cells 139 [.int .i64 v2.value.kind, .int .i64 v2.value.frm, .int .i64 v2.value.to, .str v2.value.text, .sl Ty.sApiValue v2.value.items, .sl Ty.str v2.value.names, .bool v2.begun, .int .i64 v2.pos, .int .i64 v2.fault])], []⟩,
  ⟨some 53, [(11, .ref 11 0)], none, true, .ref 11 7, [], []⟩,
  ⟨some 54, [(53, .ref 11 7)], none, true, .int .i64 v2.pos, [(11, .cells 139 [.int .i64 v2.value.kind, .int .i64 v2.value.frm, .int .i64 v2.value.to, .str v2.value.text, .sl Ty.sApiValue v2.value.items, .sl Ty.str v2.value.names, .bool v2.begun, .int .i64 v2.pos, .int .i64 v2.fault])], []⟩,
  ⟨some 55, [(52, .int .i64 v2.fault), (54, .int .i64 v2.pos)], none, true, .agg [.int .i64 v2.fault, .int .i64 v2.pos], [], []⟩,
  ⟨none, [(6, .ref 6 0), (48, .agg [.int .i64 v2.value.kind, .int .i64 v2.value.frm, .int .i64 v2.value.to, .str v2.value.text, .sl Ty.sApiValue v2.value.items, .sl Ty.str v2.value.names])], none, true, .undef, [(6, .cells 29 [.int .i64 a3, .int .i64 a4, .int .i64 a5, .str a6, .nils, .nils])], [(6, .cells 29 [.int .i64 v2.value.kind, .int .i64 v2.value.frm, .int .i64 v2.value.to, .str v2.value.text, .sl Ty.sApiValue v2.value.items, .sl Ty.str v2.value.names])]⟩,
  ⟨some 7, [(50, .bool v2.begun)], none, true, .bool v2.begun, [], []⟩,
  ⟨none, [(8, .ref 8 0), (55, .agg [.int .i64 v2.fault, .int .i64 v2.pos])], none, true, .undef, [(8, .cells 57 [.int .i64 a7, .int .i64 a8])], [(8, .cells 57 [.int .i64 v2.fault, .int .i64 v2.pos])]⟩] [[], [0], [], [2], [], [4], [], [6], [4, 5, 6, 7], [0, 1], [0, 1, 2, 3, 9], [0, 1, 2, 3, 4, 5, 6, 7, 8, 9, 10]] (by kernel_rfl) (by kernel_rfl) (.cons (qok (dlt rfl rfl) rfl (.same rfl .nil) (NeedQ.all .nil) (fun Γx σx => ok_fieldV (dlt rfl rfl) rfl fo139_0 ty29 (by decide) rfl)) (.cons (qok (dlt rfl rfl) rfl (.same rfl .nil) (NeedQ.all (.cons rfl .nil)) (fun Γx σx => ok_loadVT (dlt rfl rfl) rfl ty29 rfl rfl (by decide) rfl)) (.cons (qok (dlt rfl rfl) rfl (.same rfl .nil) (NeedQ.all .nil) (fun Γx σx => ok_fieldV (dlt rfl rfl) rfl fo139_1 ty4 (by decide) rfl)) (.cons (qok (dlt rfl rfl) rfl (.same rfl .nil) (NeedQ.all (.cons rfl .nil)) (fun Γx σx => ok_loadV (dlt rfl rfl) rfl ty4 rfl rfl rfl)) (.cons (qok (dlt rfl rfl) rfl (.same rfl .nil) (NeedQ.all .nil) (fun Γx σx => ok_fieldV (dlt rfl rfl) rfl fo139_3 ty3 (by decide) rfl)) (.cons (qok (dlt rfl rfl) rfl (.same rfl .nil) (NeedQ.all (.cons rfl .nil)) (fun Γx σx => ok_loadV (dlt rfl rfl) rfl ty3 rfl rfl rfl)) (.cons (qok (dlt rfl rfl) rfl (.same rfl .nil) (NeedQ.all .nil) (fun Γx σx => ok_fieldV (dlt rfl rfl) rfl fo139_2 ty3 (by decide) rfl)) (.cons (qok (dlt rfl rfl) rfl (.same rfl .nil) (NeedQ.all (.cons rfl .nil)) (fun Γx σx => ok_loadV (dlt rfl rfl) rfl ty3 rfl rfl rfl)) (.cons (qok (dlt rfl rfl) rfl (.same rfl (.same rfl .nil)) (NeedQ.all .nil) (fun Γx σx => ok_build (dlt rfl rfl) rfl ty57 rfl pl57 rfl rfl rfl)) (.cons (qokN (nodst rfl) rfl (.same rfl (.same rfl .nil)) (NeedQ.all (.cons rfl .nil)) (fresh0 rfl) (fun Γx σx hfr => ok_storeV rfl rfl ty29 rfl rfl rfl rfl (by decide) rfl rfl)) (.cons (qok (dlt rfl rfl) rfl (.same rfl .nil) (NeedQ.all .nil) (fun Γx σx => ok_assign (dlt rfl rfl) rfl rfl)) (.cons (qokN (nodst rfl) rfl (.same rfl (.same rfl .nil)) (NeedQ.all (.cons rfl .nil)) (fresh0 rfl) (fun Γx σx hfr => ok_storeV rfl rfl ty57 rfl rfl rfl rfl (by decide) rfl rfl)) (.nil _ _))))))))))))) (.nil ?_)
     obtain rfl := Option.some.inj h
     refine ak_conv (Γ' := [(6, .ref 6 0), (7, .bool v2.begun), (8, .ref 8 0)]) (σ' := [(6, .cells 29 [.int .i64 v2.value.kind, .int .i64 v2.value.frm, .int .i64 v2.value.to, .str v2.value.text, .sl Ty.sApiValue v2.value.items, .sl Ty.str v2.value.names]), (8, .cells 57 [.int .i64 ((⟨v2.fault, v2.pos⟩ : ApiVerdict).kind), .int .i64 ((⟨v2.fault, v2.pos⟩ : ApiVerdict).pos)])]) (.cons rfl (.refl _) (.cons rfl (.refl _) (.cons rfl (.refl _) (.nil _)))) (.cons rfl (.refl _) (.cons rfl (.refl _) (.nil _))) ?_
     exact ak_ret (fn := Tryz.f28) Tryz.func28 rfl ⟨⟨_, _, _, _, _, _, rfl, rfl, ty29⟩, ⟨⟨_, _, _, _, _, _, rfl, rfl, ty57⟩, trivial⟩⟩ rfl
    ·have h := cond_f ht h
     refine ak_skip ?_
     refine ak_seq ?_
     obtain ⟨v3, hv3, h⟩ := bind_of h
     refine ak_regionS (.cons rfl (ok_move (dlt rfl rfl) rfl rfl) (.cons rfl (ok_fieldV (dlt rfl rfl) rfl fo139_2 ty3 (by decide) rfl) (.cons rfl (ok_loadV (dlt rfl rfl) rfl ty3 rfl rfl rfl) (.cons rfl (ok_call (xs := [.str a0, .int .i64 v2.pos]) (caps := []) (dlt rfl rfl) rfl rfl Tryz.func79 rfl rfl rfl (d79 hv3) rfl) (.cons rfl (ok_assign (dlt rfl rfl) rfl rfl) (.nil ?_))))))
     refine ak_seq ?_
     refine ak_seq ?_
     refine ak_regionS (.cons rfl (ok_move (dlt rfl rfl) rfl rfl) (.cons rfl (ok_move (dlt rfl rfl) rfl rfl) (.cons rfl (ok_lenT (s := a0) (dlt rfl rfl) rfl Tryz.underlying9 rfl) (.cons rfl (ok_lss (dlt rfl rfl) rfl rfl rfl) (.nil ?_)))))
     refine ak_cond rfl (fun ht => ?_) (fun ht => ?_)
     ·have h := cond_t ht h
      refine ak_seq ?_
      refine ak_regionS (.cons rfl (ok_fieldV (dlt rfl rfl) rfl fo139_0 ty29 (by decide) rfl) (.cons rfl (ok_loadVT (dlt rfl rfl) rfl ty29 rfl rfl (by decide) rfl) (.cons rfl (ok_move (dlt rfl rfl) rfl rfl) (.cons rfl (ok_build (dlt rfl rfl) rfl ty57 rfl pl57 rfl rfl rfl) (.cons rfl (ok_storeV rfl rfl ty29 rfl rfl rfl rfl (by decide) rfl rfl) (.cons rfl (ok_assign (dlt rfl rfl) rfl rfl) (.cons rfl (ok_storeV rfl rfl ty57 rfl rfl rfl rfl (by decide) rfl rfl) (.nil ?_))))))))
      obtain rfl := Option.some.inj h
      refine ak_conv (Γ' := [(6, .ref 6 0), (7, .bool true), (8, .ref 8 0)]) (σ' := [(6, .cells 29 [.int .i64 v2.value.kind, .int .i64 v2.value.frm, .int .i64 v2.value.to, .str v2.value.text, .sl Ty.sApiValue v2.value.items, .sl Ty.str v2.value.names]), (8, .cells 57 [.int .i64 ((⟨9, v3⟩ : ApiVerdict).kind), .int .i64 ((⟨9, v3⟩ : ApiVerdict).pos)])]) (.cons rfl (.refl _) (.cons rfl (.refl _) (.cons rfl (.refl _) (.nil _)))) (.cons rfl (.refl _) (.cons rfl (.refl _) (.nil _))) ?_
      exact ak_ret (fn := Tryz.f28) Tryz.func28 rfl ⟨⟨_, _, _, _, _, _, rfl, rfl, ty29⟩, ⟨⟨_, _, _, _, _, _, rfl, rfl, ty57⟩, trivial⟩⟩ rfl
     ·have h := cond_f ht h
      refine ak_skip ?_
      refine ak_seq ?_
      refine ak_seq ?_
      refine ak_regionS (.cons rfl (ok_move (dlt rfl rfl) rfl rfl) (.nil ?_))
      refine ak_cond rfl (fun ht => ?_) (fun ht => ?_)
      ·have h := cond_t ht h
       refine ak_regionS (.cons rfl (ok_fieldV (dlt rfl rfl) rfl fo57_0 ty3 (by decide) rfl) (.cons rfl (ok_storeV rfl rfl ty3 rfl rfl rfl rfl (by decide) rfl rfl) (.nil ?_)))
       exact ak_conv (.cons rfl (.refl _) (.cons rfl (.refl _) (.cons rfl (.refl _) (.cons rfl (.refl _) (.nil _))))) (.cons rfl (.refl _) (.cons rfl (.refl _) (.cons rfl (.refl _) (.cons rfl (.refl _) (.nil _))))) (ih _ _ h w F ρ)
      ·have h := cond_f ht h
       refine ak_skip ?_
       exact ak_conv (.cons rfl (.refl _) (.cons rfl (.refl _) (.cons rfl (.refl _) (.cons rfl (.refl _) (.nil _))))) (.cons rfl (.refl _) (.cons rfl (.refl _) (.cons rfl (.refl _) (.cons rfl (.refl _) (.nil _))))) (ih _ _ h w F ρ)
 | l28_1 a0 a1 a2 a3 a4 a5 a6 a7 =>
  intro w F ρ
  dsimp only at h
  refine ak_seq ?_
  refine ak_drawL [⟨some 25, [], none, true, .agg [.int .i64 (0 : Int), .int .i64 (0 : Int), .int .i64 (0 : Int), .str [], .nils, .nils], [], []⟩,
  ⟨some 26, [(9, .ref 9 0)], none, true, .agg [.int .i64 a4, .int .i64 a5], [(9, .cells 57 [.int .i64 a4, .int .i64 a5])], []⟩,
  ⟨none, [(6, .ref 6 0), (25, .agg [.int .i64 (0 : Int), .int .i64 (0 : Int), .int .i64 (0 : Int), .str [], .nils, .nils])], none, true, .undef, [(6, .cells 29 [.int .i64 a0, .int .i64 a1, .int .i64 a2, .str a3, .nils, .nils])], [(6, .cells 29 [.int .i64 (0 : Int), .int .i64 (0 : Int), .int .i64 (0 : Int), .str [], .nils, .nils])]⟩,
  ⟨some 7, [], none, true, .bool false, [], []⟩,
  ⟨none, [(8, .ref 8 0), (26, .agg [.int .i64 a4, .int .i64 a5])], none, true, .undef, [(8, .cells 57 [.int .i64 a6, .int .i64 a7])], [(8, .cells 57 [.int .i64 a4, .int .i64 a5])]⟩] [[], [], [0], [0, 2], [0, 1, 2, 3]] (by kernel_rfl) (by kernel_rfl) (.cons (qok (dlt rfl rfl) rfl .nil (NeedQ.all .nil) (fun Γx σx => ok_build (dlt rfl rfl) rfl ty29 rfl pl29 rfl rfl rfl)) (.cons (qok (dlt rfl rfl) rfl (.same rfl .nil) (NeedQ.all (.cons rfl .nil)) (fun Γx σx => ok_loadVT (dlt rfl rfl) rfl ty57 rfl rfl (by decide) rfl)) (.cons (qokN (nodst rfl) rfl (.same rfl (.same rfl .nil)) (NeedQ.all (.cons rfl .nil)) (fresh0 rfl) (fun Γx σx hfr => ok_storeV rfl rfl ty29 rfl rfl rfl rfl (by decide) rfl rfl)) (.cons (qok (dlt rfl rfl) rfl .nil (NeedQ.all .nil) (fun Γx σx => ok_assign (dlt rfl rfl) rfl rfl)) (.cons (qokN (nodst rfl) rfl (.same rfl (.same rfl .nil)) (NeedQ.all (.cons rfl .nil)) (fresh0 rfl) (fun Γx σx hfr => ok_storeV rfl rfl ty57 rfl rfl rfl rfl (by decide) rfl rfl)) (.nil _ _)))))) (.nil ?_)
  obtain rfl := Option.some.inj h
  refine ak_conv (Γ' := [(6, .ref 6 0), (7, .bool false), (8, .ref 8 0)]) (σ' := [(6, .cells 29 [.int .i64 ((⟨0, 0, 0, [], ([] : List ApiValue), ([] : List (List UInt8))⟩ : ApiValue).kind), .int .i64 ((⟨0, 0, 0, [], ([] : List ApiValue), ([] : List (List UInt8))⟩ : ApiValue).frm), .int .i64 ((⟨0, 0, 0, [], ([] : List ApiValue), ([] : List (List UInt8))⟩ : ApiValue).to), .str ((⟨0, 0, 0, [], ([] : List ApiValue), ([] : List (List UInt8))⟩ : ApiValue).text), .sl Ty.sApiValue ((⟨0, 0, 0, [], ([] : List ApiValue), ([] : List (List UInt8))⟩ : ApiValue).items), .sl Ty.str ((⟨0, 0, 0, [], ([] : List ApiValue), ([] : List (List UInt8))⟩ : ApiValue).names)]), (8, .cells 57 [.int .i64 ((⟨a4, a5⟩ : ApiVerdict).kind), .int .i64 ((⟨a4, a5⟩ : ApiVerdict).pos)])]) (.cons rfl (.refl _) (.cons rfl (.refl _) (.cons rfl (.refl _) (.nil _)))) (.cons rfl (.cells (.cons (.refl _) (.cons (.refl _) (.cons (.refl _) (.cons (.refl _) (.cons (sub_nils Ty.sApiValue) (.cons (sub_nils Ty.str) (.nil)))))))) (.cons rfl (.refl _) (.nil _))) ?_
  exact ak_ret (fn := Tryz.f28) Tryz.func28 rfl ⟨⟨_, _, _, _, _, _, rfl, rfl, ty29⟩, ⟨⟨_, _, _, _, _, _, rfl, rfl, ty57⟩, trivial⟩⟩ rfl
 | l28_2 a0 a1 a2 a3 a4 a5 a6 a7 a8 =>
  intro w F ρ
  dsimp only at h
  refine ak_seq ?_
  refine ak_drawL [⟨some 70, [(11, .ref 11 0)], none, true, .ref 11 0, [], []⟩,
  ⟨some 71, [(70, .ref 11 0)], none, true, .agg [.int .i64 a4.value.kind, .int .i64 a4.value.frm, .int .i64 a4.value.to, .str a4.value.text, .sl Ty.sApiValue a4.value.items, .sl Ty.str a4.value.names], [(11, .cells 139 [.int .i64 a4.value.kind, .int .i64 a4.value.frm, .int .i64 a4.value.to, .str a4.value.text, .sl Ty.sApiValue a4.value.items, .sl Ty.str a4.value.names, .bool a4.begun, .int .i64 a4.pos, .int .i64 a4.fault])], []⟩,
  ⟨some 72, [(9, .ref 9 0)], none, true, .agg [.int .i64 a5, .int .i64 a6], [(9, .cells 57 [.int .i64 a5, .int .i64 a6])], []⟩,
  ⟨none, [(6, .ref 6 0), (71, .agg [.int .i64 a4.value.kind, .int .i64 a4.value.frm, .int .i64 a4.value.to, .str a4.value.text, .sl Ty.sApiValue a4.value.items, .sl Ty.str a4.value.names])], none, true, .undef, [(6, .cells 29 [.int .i64 a0, .int .i64 a1, .int .i64 a2, .str a3, .nils, .nils])], [(6, .cells 29 [.int .i64 a4.value.kind, .int .i64 a4.value.frm, .int .i64 a4.value.to, .str a4.value.text, .sl Ty.sApiValue a4.value.items, .sl Ty.str a4.value.names])]⟩,
  ⟨some 7, [], none, true, .bool true, [], []⟩,
  ⟨none, [(8, .ref 8 0), (72, .agg [.int .i64 a5, .int .i64 a6])], none, true, .undef, [(8, .cells 57 [.int .i64 a7, .int .i64 a8])], [(8, .cells 57 [.int .i64 a5, .int .i64 a6])]⟩] [[], [0], [], [0, 1], [0, 1, 3], [0, 1, 2, 3, 4]] (by kernel_rfl) (by kernel_rfl) (.cons (qok (dlt rfl rfl) rfl (.same rfl .nil) (NeedQ.all .nil) (fun Γx σx => ok_fieldV (dlt rfl rfl) rfl fo139_0 ty29 (by decide) rfl)) (.cons (qok (dlt rfl rfl) rfl (.same rfl .nil) (NeedQ.all (.cons rfl .nil)) (fun Γx σx => ok_loadVT (dlt rfl rfl) rfl ty29 rfl rfl (by decide) rfl)) (.cons (qok (dlt rfl rfl) rfl (.same rfl .nil) (NeedQ.all (.cons rfl .nil)) (fun Γx σx => ok_loadVT (dlt rfl rfl) rfl ty57 rfl rfl (by decide) rfl)) (.cons (qokN (nodst rfl) rfl (.same rfl (.same rfl .nil)) (NeedQ.all (.cons rfl .nil)) (fresh0 rfl) (fun Γx σx hfr => ok_storeV rfl rfl ty29 rfl rfl rfl rfl (by decide) rfl rfl)) (.cons (qok (dlt rfl rfl) rfl .nil (NeedQ.all .nil) (fun Γx σx => ok_assign (dlt rfl rfl) rfl rfl)) (.cons (qokN (nodst rfl) rfl (.same rfl (.same rfl .nil)) (NeedQ.all (.cons rfl .nil)) (fresh0 rfl) (fun Γx σx hfr => ok_storeV rfl rfl ty57 rfl rfl rfl rfl (by decide) rfl rfl)) (.nil _ _))))))) (.nil ?_)
  obtain rfl := Option.some.inj h
  refine ak_conv (Γ' := [(6, .ref 6 0), (7, .bool true), (8, .ref 8 0)]) (σ' := [(6, .cells 29 [.int .i64 a4.value.kind, .int .i64 a4.value.frm, .int .i64 a4.value.to, .str a4.value.text, .sl Ty.sApiValue a4.value.items, .sl Ty.str a4.value.names]), (8, .cells 57 [.int .i64 ((⟨a5, a6⟩ : ApiVerdict).kind), .int .i64 ((⟨a5, a6⟩ : ApiVerdict).pos)])]) (.cons rfl (.refl _) (.cons rfl (.refl _) (.cons rfl (.refl _) (.nil _)))) (.cons rfl (.refl _) (.cons rfl (.refl _) (.nil _))) ?_
  exact ak_ret (fn := Tryz.f28) Tryz.func28 rfl ⟨⟨_, _, _, _, _, _, rfl, rfl, ty29⟩, ⟨⟨_, _, _, _, _, _, rfl, rfl, ty57⟩, trivial⟩⟩ rfl)
theorem d28 {a0 : List UInt8} {a1 : Int} {a2 : Bool} {r : ApiValue × Bool × ApiVerdict} (h : f28 (.e28 a0 a1 a2) = some r) : Does Tryz.prog GG 28 [.str a0, .int .i64 a1, .bool a2] [] (fun z _ => z = .tup [.agg [.int .i64 r.1.kind, .int .i64 r.1.frm, .int .i64 r.1.to, .str r.1.text, .sl Ty.sApiValue r.1.items, .sl Ty.str r.1.names], .bool r.2.1, .agg [.int .i64 r.2.2.kind, .int .i64 r.2.2.pos]]) := fn_of (fn := Tryz.f28) Tryz.func28 rfl Tryz.ntmps28 rfl (w28 _ _ h)
end Go.Proofs.YtonlbdholdaifaaGreatDoor
end
section
set_option linter.unusedVariables false
set_option linter.unusedSimpArgs false
set_option maxRecDepth 10000
namespace Go.Proofs.YtonlbdholdaifaaGreatDoor
open Go Go.Rf Go.Proofs
/-- riffle/riffleref10.Parse -/
noncomputable abbrev b57 : Code := codeOf Tryz.f57
inductive L57 where
 | e57 (a0 : List UInt8) (a1 : Int)
noncomputable def f57 : L57 → Option (ApiValue × ApiVerdict)
 | .e57 a0 a1 =>
  f28 (.e28 a0 a1 true) >>= fun v1 =>
  if (v1.2.2.kind != (1 : Int)) = true then
   none
  else
   some (v1.1, v1.2.2)
def M57 : L57 → (ApiValue × ApiVerdict) → Prop
 | .e57 a0 a1, r => ∀ (w : World) (F : Nat → Prop) (ρ : Rho), AK Tryz.prog (ctx GG 23 w F ρ []) 57 [.code b57] (argE 0 [.str a0, .int .i64 a1]) [] (fun z _ => z = .tup [.agg [.int .i64 r.1.kind, .int .i64 r.1.frm, .int .i64 r.1.to, .str r.1.text, .sl Ty.sApiValue r.1.items, .sl Ty.str r.1.names], .agg [.int .i64 r.2.kind, .int .i64 r.2.pos]])
theorem w57 : ∀ (l : L57) (r : ApiValue × ApiVerdict), f57 l = some r → M57 l r := (by
 intro l r h
 cases l with
 | e57 a0 a1 =>
  intro w F ρ
  dsimp only [f57] at h
  refine ak_seq ?_
  refine ak_regionS (.cons rfl (ok_alloc (d := 4) (dlt rfl rfl) rfl ty29 rfl rfl rfl) (.cons rfl (ok_alloc (d := 5) (dlt rfl rfl) rfl ty57 rfl rfl rfl) (.nil ?_)))
  refine ak_seq ?_
  obtain ⟨v1, hv1, h⟩ := bind_of h
  refine ak_regionS (.cons rfl (ok_move (dlt rfl rfl) rfl rfl) (.cons rfl (ok_move (dlt rfl rfl) rfl rfl) (.cons rfl (ok_call (xs := [.str a0, .int .i64 a1, .bool true]) (caps := []) (dlt rfl rfl) rfl rfl Tryz.func28 rfl rfl rfl (d28 hv1) rfl) (.cons rfl (ok_move (dlt rfl rfl) rfl rfl) (.cons rfl (ok_extract (dlt rfl rfl) rfl rfl rfl) (.cons rfl (ok_extract (dlt rfl rfl) rfl rfl rfl) (.cons rfl (ok_extract (dlt rfl rfl) rfl rfl rfl) (.cons rfl (ok_alloc (d := 6) (dlt rfl rfl) rfl ty29 rfl rfl rfl) (.cons rfl (ok_alloc (d := 8) (dlt rfl rfl) rfl ty57 rfl rfl rfl) (.cons rfl (ok_storeV rfl rfl ty29 rfl rfl rfl rfl (by decide) rfl rfl) (.cons rfl (ok_assign (dlt rfl rfl) rfl rfl) (.cons rfl (ok_storeV rfl rfl ty57 rfl rfl rfl rfl (by decide) rfl rfl) (.nil ?_)))))))))))))
  refine ak_seq ?_
  refine ak_seq ?_
  refine ak_regionS (.cons rfl (ok_fieldV (dlt rfl rfl) rfl fo57_0 ty3 (by decide) rfl) (.cons rfl (ok_loadV (dlt rfl rfl) rfl ty3 rfl rfl rfl) (.cons rfl (ok_neq (dlt rfl rfl) rfl rfl rfl) (.nil ?_))))
  refine ak_cond rfl (fun ht => ?_) (fun ht => ?_)
  ·have h := cond_t ht h
   exact no_of h
  ·have h := cond_f ht h
   refine ak_skip ?_
   refine ak_seq ?_
   refine ak_drawL [⟨some 21, [(6, .ref 6 0)], none, true, .agg [.int .i64 v1.1.kind, .int .i64 v1.1.frm, .int .i64 v1.1.to, .str v1.1.text, .sl Ty.sApiValue v1.1.items, .sl Ty.str v1.1.names], [(6, .cells 29 [.int .i64 v1.1.kind, .int .i64 v1.1.frm, .int .i64 v1.1.to, .str v1.1.text, .sl Ty.sApiValue v1.1.items, .sl Ty.str v1.1.names])], []⟩,
  ⟨some 22, [(8, .ref 8 0)], none, true, .agg [.int .i64 v1.2.2.kind, .int .i64 v1.2.2.pos], [(8, .cells 57 [.int .i64 v1.2.2.kind, .int .i64 v1.2.2.pos])], []⟩,
  ⟨none, [(4, .ref 4 0), (21, .agg [.int .i64 v1.1.kind, .int .i64 v1.1.frm, .int .i64 v1.1.to, .str v1.1.text, .sl Ty.sApiValue v1.1.items, .sl Ty.str v1.1.names])], none, true, .undef, [(4, .cells 29 [.int .i64 (0 : Int), .int .i64 (0 : Int), .int .i64 (0 : Int), .str [], .nils, .nils])], [(4, .cells 29 [.int .i64 v1.1.kind, .int .i64 v1.1.frm, .int .i64 v1.1.to, .str v1.1.text, .sl Ty.sApiValue v1.1.items, .sl Ty.str v1.1.names])]⟩,
  ⟨none, [(5, .ref 5 0), (22, .agg [.int .i64 v1.2.2.kind, .int .i64 v1.2.2.pos])], none, true, .undef, [(5, .cells 57 [.int .i64 (0 : Int), .int .i64 (0 : Int)])], [(5, .cells 57 [.int .i64 v1.2.2.kind, .int .i64 v1.2.2.pos])]⟩] [[], [], [0], [0, 1, 2]] (by kernel_rfl) (by kernel_rfl) (.cons (qok (dlt rfl rfl) rfl (.same rfl .nil) (NeedQ.all (.cons rfl .nil)) (fun Γx σx => ok_loadVT (dlt rfl rfl) rfl ty29 rfl rfl (by decide) rfl)) (.cons (qok (dlt rfl rfl) rfl (.same rfl .nil) (NeedQ.all (.cons rfl .nil)) (fun Γx σx => ok_loadVT (dlt rfl rfl) rfl ty57 rfl rfl (by decide) rfl)) (.cons (qokN (nodst rfl) rfl (.same rfl (.same rfl .nil)) (NeedQ.all (.cons rfl .nil)) (fresh0 rfl) (fun Γx σx hfr => ok_storeV rfl rfl ty29 rfl rfl rfl rfl (by decide) rfl rfl)) (.cons (qokN (nodst rfl) rfl (.same rfl (.same rfl .nil)) (NeedQ.all (.cons rfl .nil)) (fresh0 rfl) (fun Γx σx hfr => ok_storeV rfl rfl ty57 rfl rfl rfl rfl (by decide) rfl rfl)) (.nil _ _))))) (.nil ?_)
   obtain rfl := Option.some.inj h
   refine ak_conv (Γ' := [(4, .ref 4 0), (5, .ref 5 0)]) (σ' := [(4, .cells 29 [.int .i64 v1.1.kind, .int .i64 v1.1.frm, .int .i64 v1.1.to, .str v1.1.text, .sl Ty.sApiValue v1.1.items, .sl Ty.str v1.1.names]), (5, .cells 57 [.int .i64 v1.2.2.kind, .int .i64 v1.2.2.pos])]) (.cons rfl (.refl _) (.cons rfl (.refl _) (.nil _))) (.cons rfl (.refl _) (.cons rfl (.refl _) (.nil _))) ?_
   exact ak_ret (fn := Tryz.f57) Tryz.func57 rfl ⟨⟨_, _, _, _, _, _, rfl, rfl, ty29⟩, ⟨⟨_, _, _, _, _, _, rfl, rfl, ty57⟩, trivial⟩⟩ rfl)
theorem d57 {a0 : List UInt8} {a1 : Int} {r : ApiValue × ApiVerdict} (h : f57 (.e57 a0 a1) = some r) : Does Tryz.prog GG 57 [.str a0, .int .i64 a1] [] (fun z _ => z = .tup [.agg [.int .i64 r.1.kind, .int .i64 r.1.frm, .int .i64 r.1.to, .str r.1.text, .sl Ty.sApiValue r.1.items, .sl Ty.str r.1.names], .agg [.int .i64 r.2.kind, .int .i64 r.2.pos]]) := fn_of (fn := Tryz.f57) Tryz.func57 rfl Tryz.ntmps57 rfl (w57 _ _ h)
/-- riffle/utf.first -/
noncomputable abbrev b171 : Code := codeOf Tryz.f171
inductive L171 where
 | e171 (a0 : Int)
noncomputable def f171 : L171 → Option (UtfWalk × Bool)
 | .e171 a0 =>
  if (decide (a0 < (128 : Int))) = true then
   some ((⟨0, 128, 191, IntKind.wrap .i32 a0⟩ : UtfWalk), true)
  else
   none
def M171 : L171 → (UtfWalk × Bool) → Prop
 | .e171 a0, r => ∀ (w : World) (F : Nat → Prop) (ρ : Rho), AK Tryz.prog (ctx GG 56 w F ρ []) 171 [.code b171] (argE 0 [.int .u8 a0]) [] (fun z _ => z = .tup [.agg [.int .i64 r.1.left, .int .u8 r.1.low, .int .u8 r.1.top, .int .i32 r.1.sign], .bool r.2])
theorem w171 : ∀ (l : L171) (r : UtfWalk × Bool), f171 l = some r → M171 l r := (by
 intro l r h
 cases l with
 | e171 a0 =>
  intro w F ρ
  dsimp only [f171] at h
  refine ak_seq ?_
  refine ak_regionS (.cons rfl (ok_alloc (d := 2) (dlt rfl rfl) rfl ty189 rfl rfl rfl) (.cons rfl (ok_assign (dlt rfl rfl) rfl rfl) (.nil ?_)))
  refine ak_seq ?_
  refine ak_regionS (.cons rfl (ok_fieldV (dlt rfl rfl) rfl fo189_1 ty5 (by decide) rfl) (.cons rfl (ok_storeV rfl rfl ty5 rfl rfl rfl rfl (by decide) rfl rfl) (.cons rfl (ok_fieldV (dlt rfl rfl) rfl fo189_2 ty5 (by decide) rfl) (.cons rfl (ok_storeV rfl rfl ty5 rfl rfl rfl rfl (by decide) rfl rfl) (.nil ?_)))))
  refine ak_seq ?_
  refine ak_block ?_
  refine ak_seq ?_
  refine ak_regionS (.cons rfl (ok_move (dlt rfl rfl) rfl rfl) (.cons rfl (ok_lss (dlt rfl rfl) rfl rfl rfl) (.cons rfl (ok_assign (dlt rfl rfl) rfl rfl) (.nil ?_))))
  refine ak_cond rfl (fun ht => ?_) (fun ht => ?_)
  ·have h := cond_t ht h
   refine ak_seq ?_
   refine ak_regionS (.cons rfl (ok_move (dlt rfl rfl) rfl rfl) (.cons rfl (ok_conv (dlt rfl rfl) rfl Tryz.underlying5 Tryz.underlying21 rfl) (.cons rfl (ok_fieldV (dlt rfl rfl) rfl fo189_3 ty21 (by decide) rfl) (.cons rfl (ok_storeV rfl rfl ty21 rfl rfl rfl rfl (by decide) rfl rfl) (.nil ?_)))))
   refine ak_seq ?_
   refine ak_regionS (.cons rfl (ok_loadVT (dlt rfl rfl) rfl ty189 rfl rfl (by decide) rfl) (.cons rfl (ok_storeV rfl rfl ty189 rfl rfl rfl rfl (by decide) rfl rfl) (.cons rfl (ok_assign (dlt rfl rfl) rfl rfl) (.nil ?_))))
   obtain rfl := Option.some.inj h
   refine ak_conv (Γ' := [(2, .ref 2 0), (3, .bool true)]) (σ' := [(2, .cells 189 [.int .i64 ((⟨0, 128, 191, IntKind.wrap .i32 a0⟩ : UtfWalk).left), .int .u8 ((⟨0, 128, 191, IntKind.wrap .i32 a0⟩ : UtfWalk).low), .int .u8 ((⟨0, 128, 191, IntKind.wrap .i32 a0⟩ : UtfWalk).top), .int .i32 ((⟨0, 128, 191, IntKind.wrap .i32 a0⟩ : UtfWalk).sign)])]) (.cons rfl (.refl _) (.cons rfl (.refl _) (.nil _))) (.cons rfl (.refl _) (.nil _)) ?_
   exact ak_ret (fn := Tryz.f171) Tryz.func171 rfl ⟨⟨_, _, _, _, _, _, rfl, rfl, ty189⟩, trivial⟩ rfl
  ·have h := cond_f ht h
   exact no_of h)
theorem d171 {a0 : Int} {r : UtfWalk × Bool} (h : f171 (.e171 a0) = some r) : Does Tryz.prog GG 171 [.int .u8 a0] [] (fun z _ => z = .tup [.agg [.int .i64 r.1.left, .int .u8 r.1.low, .int .u8 r.1.top, .int .i32 r.1.sign], .bool r.2]) := fn_of (fn := Tryz.f171) Tryz.func171 rfl Tryz.ntmps171 rfl (w171 _ _ h)
/-- (*riffle/utf.Walk).Step -/
noncomputable abbrev b117 : Code := codeOf Tryz.f117
inductive L117 where
 | e117 (a0 : UtfWalk) (a1 : Int)
 | l117_0 (a0 : Bool) (a1 : UtfWalk)
noncomputable def f117 : L117 → Option (Bool × UtfWalk)
 | .e117 a0 a1 =>
  if (a0.left == (0 : Int)) = true then
   f171 (.e171 a1) >>= fun v1 =>
   if v1.2 = true then
    f117 (.l117_0 v1.2 v1.1)
   else
    none
  else
   none
 | .l117_0 a0 a1 =>
  some (a0, a1)
 partial_fixpoint
def M117 : L117 → (Bool × UtfWalk) → Prop
 | .e117 a0 a1, r => ∀ (w : World) (F : Nat → Prop) (ρ : Rho), AK Tryz.prog (ctx GG 61 w F ρ [(10000, .cells 189 [.int .i64 a0.left, .int .u8 a0.low, .int .u8 a0.top, .int .i32 a0.sign])]) 117 [.code b117] (argE 0 [.ref 10000 0, .int .u8 a1]) [(10000, .cells 189 [.int .i64 a0.left, .int .u8 a0.low, .int .u8 a0.top, .int .i32 a0.sign])] (fun z σ' => z = .bool r.1 ∧ σ' = [(10000, .cells 189 [.int .i64 r.2.left, .int .u8 r.2.low, .int .u8 r.2.top, .int .i32 r.2.sign])])
 | .l117_0 a0 a1, r => ∀ (w : World) (F : Nat → Prop) (ρ : Rho) (S : Nat → Prop), AK Tryz.prog (ctxL GG 61 w F ρ S [10000]) 117 [.code (c2 (c2 (c1 (c2 (c1 (c2 b117)))))), .code (c2 (c2 b117))] [(6, .bool a0)] [(10000, .cells 189 [.int .i64 a1.left, .int .u8 a1.low, .int .u8 a1.top, .int .i32 a1.sign])] (fun z σ' => z = .bool r.1 ∧ σ' = [(10000, .cells 189 [.int .i64 r.2.left, .int .u8 r.2.low, .int .u8 r.2.top, .int .i32 r.2.sign])])
theorem w117 : ∀ (l : L117) (r : Bool × UtfWalk), f117 l = some r → M117 l r := f117.partial_correctness M117 (by
 intro f ih l r h
 cases l with
 | e117 a0 a1 =>
  intro w F ρ
  dsimp only at h
  refine ak_seq ?_
  refine ak_regionS (.cons rfl (ok_assign (dlt rfl rfl) rfl rfl) (.nil ?_))
  refine ak_seq ?_
  refine ak_seq ?_
  refine ak_regionS (.cons rfl (ok_move (dlt rfl rfl) rfl rfl) (.cons rfl (ok_nilCheckV (dlt rfl rfl) rfl rfl) (.cons rfl (ok_fieldV (dlt rfl rfl) rfl fo189_0 ty3 (by decide) rfl) (.cons rfl (ok_loadV (dlt rfl rfl) rfl ty3 rfl rfl rfl) (.cons rfl (ok_eql (dlt rfl rfl) rfl rfl rfl) (.nil ?_))))))
  refine ak_cond rfl (fun ht => ?_) (fun ht => ?_)
  ·have h := cond_t ht h
   refine ak_seq ?_
   obtain ⟨v1, hv1, h⟩ := bind_of h
   refine ak_regionS (.cons rfl (ok_move (dlt rfl rfl) rfl rfl) (.cons rfl (ok_call (xs := [.int .u8 a1]) (caps := []) (dlt rfl rfl) rfl rfl Tryz.func171 rfl rfl rfl (d171 hv1) rfl) (.cons rfl (ok_move (dlt rfl rfl) rfl rfl) (.cons rfl (ok_extract (dlt rfl rfl) rfl rfl rfl) (.cons rfl (ok_extract (dlt rfl rfl) rfl rfl rfl) (.cons rfl (ok_alloc (d := 5) (dlt rfl rfl) rfl ty189 rfl rfl rfl) (.cons rfl (ok_storeV rfl rfl ty189 rfl rfl rfl rfl (by decide) rfl rfl) (.cons rfl (ok_assign (dlt rfl rfl) rfl rfl) (.nil ?_)))))))))
   refine ak_seq ?_
   refine ak_seq ?_
   refine ak_regionS (.cons rfl (ok_move (dlt rfl rfl) rfl rfl) (.nil ?_))
   refine ak_cond rfl (fun ht => ?_) (fun ht => ?_)
   ·have h := cond_t ht h
    refine ak_regionS (.cons rfl (ok_move (dlt rfl rfl) rfl rfl) (.cons rfl (ok_loadVT (dlt rfl rfl) rfl ty189 rfl rfl (by decide) rfl) (.cons rfl (ok_nilCheckV (dlt rfl rfl) rfl rfl) (.cons rfl (ok_storeV rfl rfl ty189 rfl rfl rfl rfl (by decide) rfl rfl) (.nil ?_)))))
    exact ak_conv (.cons rfl (.refl _) (.nil _)) (.cons rfl (.refl _) (.nil _)) (ih _ _ h w F ρ _)
   ·have h := cond_f ht h
    exact no_of h
  ·have h := cond_f ht h
   exact no_of h
 | l117_0 a0 a1 =>
  intro w F ρ S
  dsimp only at h
  refine ak_seq ?_
  refine ak_regionS (.cons rfl (ok_move (dlt rfl rfl) rfl rfl) (.cons rfl (ok_assign (dlt rfl rfl) rfl rfl) (.nil ?_)))
  obtain rfl := Option.some.inj h
  refine ak_conv (Γ' := [(4, .bool a0)]) (σ' := [(10000, .cells 189 [.int .i64 a1.left, .int .u8 a1.low, .int .u8 a1.top, .int .i32 a1.sign])]) (.cons rfl (.refl _) (.nil _)) (.cons rfl (.cells (.cons (.refl _) (.cons (.refl _) (.cons (.refl _) (.cons (.refl _) (.nil)))))) (.nil _)) ?_
  exact ak_retC (fn := Tryz.f117) [(10000, .cells 189 [.int .i64 a1.left, .int .u8 a1.low, .int .u8 a1.top, .int .i32 a1.sign])] (.cons rfl (.refl _) (.nil _)) Tryz.func117 rfl trivial ⟨rfl, rfl⟩)
theorem d117 {a0 : UtfWalk} {a1 : Int} {r : Bool × UtfWalk} (h : f117 (.e117 a0 a1) = some r) : Does Tryz.prog GG 117 [.ref 10000 0, .int .u8 a1] [(10000, .cells 189 [.int .i64 a0.left, .int .u8 a0.low, .int .u8 a0.top, .int .i32 a0.sign])] (fun z σ' => z = .bool r.1 ∧ σ' = [(10000, .cells 189 [.int .i64 r.2.left, .int .u8 r.2.low, .int .u8 r.2.top, .int .i32 r.2.sign])]) := fn_of (fn := Tryz.f117) Tryz.func117 rfl Tryz.ntmps117 rfl (w117 _ _ h)
/-- (*riffle/utf.Walk).Within -/
noncomputable abbrev b118 : Code := codeOf Tryz.f118
inductive L118 where
 | e118 (a0 : UtfWalk)
noncomputable def f118 : L118 → Option Bool
 | .e118 a0 =>
  some (decide ((0 : Int) < a0.left))
def M118 : L118 → Bool → Prop
 | .e118 a0, r => ∀ (w : World) (F : Nat → Prop) (ρ : Rho), AK Tryz.prog (ctx GG 8 w F ρ [(10000, .cells 189 [.int .i64 a0.left, .int .u8 a0.low, .int .u8 a0.top, .int .i32 a0.sign])]) 118 [.code b118] (argE 0 [.ref 10000 0]) [(10000, .cells 189 [.int .i64 a0.left, .int .u8 a0.low, .int .u8 a0.top, .int .i32 a0.sign])] (fun z σ' => z = .bool r ∧ σ' = [(10000, .cells 189 [.int .i64 a0.left, .int .u8 a0.low, .int .u8 a0.top, .int .i32 a0.sign])])
theorem w118 : ∀ (l : L118) (r : Bool), f118 l = some r → M118 l r := (by
 intro l r h
 cases l with
 | e118 a0 =>
  intro w F ρ
  dsimp only [f118] at h
  refine ak_seq ?_
  refine ak_regionS (.cons rfl (ok_assign (dlt rfl rfl) rfl rfl) (.nil ?_))
  refine ak_seq ?_
  refine ak_regionS (.cons rfl (ok_move (dlt rfl rfl) rfl rfl) (.cons rfl (ok_nilCheckV (dlt rfl rfl) rfl rfl) (.cons rfl (ok_fieldV (dlt rfl rfl) rfl fo189_0 ty3 (by decide) rfl) (.cons rfl (ok_loadV (dlt rfl rfl) rfl ty3 rfl rfl rfl) (.cons rfl (ok_gtr (dlt rfl rfl) rfl rfl rfl) (.cons rfl (ok_assign (dlt rfl rfl) rfl rfl) (.nil ?_)))))))
  obtain rfl := Option.some.inj h
  refine ak_conv (Γ' := [(2, .bool (decide ((0 : Int) < a0.left)))]) (σ' := [(10000, .cells 189 [.int .i64 a0.left, .int .u8 a0.low, .int .u8 a0.top, .int .i32 a0.sign])]) (.cons rfl (.refl _) (.nil _)) (.cons rfl (.refl _) (.nil _)) ?_
  exact ak_retC (fn := Tryz.f118) [(10000, .cells 189 [.int .i64 a0.left, .int .u8 a0.low, .int .u8 a0.top, .int .i32 a0.sign])] (.cons rfl (.refl _) (.nil _)) Tryz.func118 rfl trivial ⟨rfl, rfl⟩)
theorem d118 {a0 : UtfWalk} {r : Bool} (h : f118 (.e118 a0) = some r) : Does Tryz.prog GG 118 [.ref 10000 0] [(10000, .cells 189 [.int .i64 a0.left, .int .u8 a0.low, .int .u8 a0.top, .int .i32 a0.sign])] (fun z σ' => z = .bool r ∧ σ' = [(10000, .cells 189 [.int .i64 a0.left, .int .u8 a0.low, .int .u8 a0.top, .int .i32 a0.sign])]) := fn_of (fn := Tryz.f118) Tryz.func118 rfl Tryz.ntmps118 rfl (w118 _ _ h)
/-- riffle/utf.Bad -/
noncomputable abbrev b67 : Code := codeOf Tryz.f67
inductive L67 where
 | e67 (a0 : List UInt8)
 | l67_0 (a0 : List UInt8) (a1 : Int) (a2 : Int) (a3 : Int) (a4 : Int) (a5 : Int) (a6 : Int)
noncomputable def f67 : L67 → Option Int
 | .e67 a0 =>
  f67 (.l67_0 a0 (a0.length : Int) (0 : Int) (0 : Int) (0 : Int) (0 : Int) (0 : Int))
 | .l67_0 a0 a1 a2 a3 a4 a5 a6 =>
  if (decide (a2 < a1)) = true then
   idx a0 a2 >>= fun v1 =>
   f117 (.e117 (⟨a3, a4, a5, a6⟩ : UtfWalk) (v1.toNat : Int)) >>= fun v2 =>
   if (!v2.1) = true then
    none
   else
    f67 (.l67_0 a0 a1 (IntKind.wrap .i64 (a2 + (1 : Int))) v2.2.left v2.2.low v2.2.top v2.2.sign)
  else
   f118 (.e118 (⟨a3, a4, a5, a6⟩ : UtfWalk)) >>= fun v3 =>
   if v3 = true then
    none
   else
    some (-1)
 partial_fixpoint
def M67 : L67 → Int → Prop
 | .e67 a0, r => ∀ (w : World) (F : Nat → Prop) (ρ : Rho), AK Tryz.prog (ctx GG 20 w F ρ []) 67 [.code b67] (argE 0 [.str a0]) [] (fun z _ => z = .int .i64 r)
 | .l67_0 a0 a1 a2 a3 a4 a5 a6, r => ∀ (w : World) (F : Nat → Prop) (ρ : Rho), AK Tryz.prog (ctx GG 20 w F ρ []) 67 [.code (c1 (c1 (c2 (c1 (c2 (c2 b67)))))), .inLoop (c1 (c1 (c2 (c1 (c2 (c2 b67)))))), .inBlock 0, .code (c2 (c2 (c2 b67)))] [(0, .str a0), (3, .ref 3 0), (6, .int .i64 a1), (7, .int .i64 a2)] [(3, .cells 189 [.int .i64 a3, .int .u8 a4, .int .u8 a5, .int .i32 a6])] (fun z _ => z = .int .i64 r)
theorem w67 : ∀ (l : L67) (r : Int), f67 l = some r → M67 l r := f67.partial_correctness M67 (by
 intro f ih l r h
 cases l with
 | e67 a0 =>
  intro w F ρ
  dsimp only at h
  refine ak_seq ?_
  refine ak_regionS (.cons rfl (ok_assign (dlt rfl rfl) rfl rfl) (.nil ?_))
  refine ak_seq ?_
  refine ak_regionS (.cons rfl (ok_alloc (d := 3) (dlt rfl rfl) rfl ty189 rfl rfl rfl) (.nil ?_))
  refine ak_seq ?_
  refine ak_seq ?_
  refine ak_regionS (.cons rfl (ok_move (dlt rfl rfl) rfl rfl) (.cons rfl (ok_lenT (s := a0) (dlt rfl rfl) rfl Tryz.underlying9 rfl) (.cons rfl (ok_move (dlt rfl rfl) rfl rfl) (.nil ?_))))
  refine ak_block ?_
  refine ak_loop ?_
  exact ak_conv (.cons rfl (.refl _) (.cons rfl (.refl _) (.cons rfl (.refl _) (.cons rfl (.refl _) (.nil _))))) (.cons rfl (.refl _) (.nil _)) (ih _ _ h w F ρ)
 | l67_0 a0 a1 a2 a3 a4 a5 a6 =>
  intro w F ρ
  dsimp only at h
  refine ak_seq ?_
  refine ak_regionS (.cons rfl (ok_lss (dlt rfl rfl) rfl rfl rfl) (.nil ?_))
  refine ak_seq ?_
  refine ak_cond rfl (fun ht => ?_) (fun ht => ?_)
  ·have h := cond_t ht h
   refine ak_skip ?_
   refine ak_seq ?_
   refine ak_block ?_
   refine ak_seq ?_
   refine ak_regionS (.cons rfl (ok_move (dlt rfl rfl) rfl rfl) (.cons rfl (ok_assign (dlt rfl rfl) rfl rfl) (.nil ?_)))
   refine ak_seq ?_
   obtain ⟨v1, hv1, h⟩ := bind_of h
   obtain ⟨v2, hv2, h⟩ := bind_of h
   refine ak_regionS (.cons rfl (ok_move (dlt rfl rfl) rfl rfl) (.cons rfl (ok_move (dlt rfl rfl) rfl rfl) (.cons rfl (ok_byte (s := a0) (c := v1) (dlt rfl rfl) rfl Tryz.underlying9 rfl rfl (idx_0 hv1) (idx_1 hv1)) (.cons rfl (ok_callL (xs := [.ref 3 0, .int .u8 (v1.toNat : Int)]) (caps := []) (xs1 := [.ref 3 0, .int .u8 (v1.toNat : Int)]) (z := .bool v2.1) (ups := [(3, .cells 189 [.int .i64 v2.2.left, .int .u8 v2.2.low, .int .u8 v2.2.top, .int .i32 v2.2.sign])]) (dlt rfl rfl) [(10000, (3, some (0, 4)))] [] rfl rfl Tryz.func117 rfl rfl rfl (.cons (.refl _) (.cons (.refl _) (.nil))) (.cons (.ref rfl rfl) (.cons (.same rfl) (.nil))) (.cells rfl rfl (by decide) rfl (.cons (.refl _) (.cons (.refl _) (.cons (.refl _) (.cons (.refl _) (.nil))))) (.cons (.same rfl) (.cons (.same rfl) (.cons (.same rfl) (.cons (.same rfl) (.nil))))) .nil) rfl (d117 hv2) (.cells (l := 10000) rfl rfl rfl rfl (.cons (.same rfl) (.cons (.same rfl) (.cons (.same rfl) (.cons (.same rfl) (.nil))))) (Nat.succ_ne_zero _) rfl .nil) rfl rfl rfl (by intro d h; simp at h) rfl (.same rfl)) (.cons rfl (ok_not (dlt rfl rfl) rfl rfl) (.nil ?_))))))
   refine ak_cond rfl (fun ht => ?_) (fun ht => ?_)
   ·have h := cond_t ht h
    exact no_of h
   ·have h := cond_f ht h
    refine ak_skip ?_
    refine ak_inBlock ?_
    refine ak_regionS (.cons rfl (ok_add (dlt rfl rfl) rfl rfl rfl) (.cons rfl (ok_move (dlt rfl rfl) rfl rfl) (.nil ?_)))
    refine ak_inLoop ?_
    exact ak_conv (.cons rfl (.refl _) (.cons rfl (.refl _) (.cons rfl (.refl _) (.cons rfl (.refl _) (.nil _))))) (.cons rfl (.refl _) (.nil _)) (ih _ _ h w F ρ)
  ·have h := cond_f ht h
   refine ak_exit rfl ?_
   refine ak_seq ?_
   refine ak_seq ?_
   obtain ⟨v3, hv3, h⟩ := bind_of h
   refine ak_regionS (.cons rfl (Sound.same (ok_callL (xs := [.ref 3 0]) (caps := []) (xs1 := [.ref 3 0]) (z := .bool v3) (ups := [(3, .cells 189 [.int .i64 ((⟨a3, a4, a5, a6⟩ : UtfWalk).left), .int .u8 ((⟨a3, a4, a5, a6⟩ : UtfWalk).low), .int .u8 ((⟨a3, a4, a5, a6⟩ : UtfWalk).top), .int .i32 ((⟨a3, a4, a5, a6⟩ : UtfWalk).sign)])]) (dlt rfl rfl) [(10000, (3, some (0, 4)))] [] rfl rfl Tryz.func118 rfl rfl rfl (.cons (.refl _) (.nil)) (.cons (.ref rfl rfl) (.nil)) (.cells rfl rfl (by decide) rfl (.cons (.refl _) (.cons (.refl _) (.cons (.refl _) (.cons (.refl _) (.nil))))) (.cons (.same rfl) (.cons (.same rfl) (.cons (.same rfl) (.cons (.same rfl) (.nil))))) .nil) rfl (d118 hv3) (.cells (l := 10000) rfl rfl rfl rfl (.cons (.same rfl) (.cons (.same rfl) (.cons (.same rfl) (.cons (.same rfl) (.nil))))) (Nat.succ_ne_zero _) rfl .nil) rfl rfl rfl (by intro d h; simp at h) rfl (.same rfl)) (NeedQ.all (.cons rfl .nil))) (.nil ?_))
   refine ak_cond rfl (fun ht => ?_) (fun ht => ?_)
   ·have h := cond_t ht h
    exact no_of h
   ·have h := cond_f ht h
    refine ak_skip ?_
    refine ak_seq ?_
    refine ak_regionS (.cons rfl (ok_assign (dlt rfl rfl) rfl rfl) (.nil ?_))
    obtain rfl := Option.some.inj h
    refine ak_conv (Γ' := [(2, .int .i64 (-1))]) (σ' := []) (.cons rfl (.refl _) (.nil _)) (.nil _) ?_
    exact ak_ret (fn := Tryz.f67) Tryz.func67 rfl trivial rfl)
theorem d67 {a0 : List UInt8} {r : Int} (h : f67 (.e67 a0) = some r) : Does Tryz.prog GG 67 [.str a0] [] (fun z _ => z = .int .i64 r) := fn_of (fn := Tryz.f67) Tryz.func67 rfl Tryz.ntmps67 rfl (w67 _ _ h)
/-- (*riffle/query.reader).rest -/
noncomputable abbrev b120 : Code := codeOf Tryz.f120
inductive L120 where
 | e120 (a0 : QueryReader)
noncomputable def f120 : L120 → Option (List UInt8)
 | .e120 a0 =>
  need (0 ≤ a0.pos ∧ a0.pos ≤ (a0.s.length : Int)) >>= fun v1 =>
  some (a0.s.drop a0.pos.toNat)
def M120 : L120 → (List UInt8) → Prop
 | .e120 a0, r => ∀ (w : World) (F : Nat → Prop) (ρ : Rho), AK Tryz.prog (ctx GG 12 w F ρ [(10000, .cells 125 [.str a0.s, .int .i64 a0.pos, .bool a0.bad])]) 120 [.code b120] (argE 0 [.ref 10000 0]) [(10000, .cells 125 [.str a0.s, .int .i64 a0.pos, .bool a0.bad])] (fun z σ' => z = .str r ∧ σ' = [(10000, .cells 125 [.str a0.s, .int .i64 a0.pos, .bool a0.bad])])
theorem w120 : ∀ (l : L120) (r : List UInt8), f120 l = some r → M120 l r := (by
 intro l r h
 cases l with
 | e120 a0 =>
  intro w F ρ
  dsimp only [f120] at h
  refine ak_seq ?_
  refine ak_regionS (.cons rfl (ok_assign (dlt rfl rfl) rfl rfl) (.nil ?_))
  refine ak_seq ?_
  obtain ⟨v1, hv1, h⟩ := bind_of h
  refine ak_drawL [⟨some 3, [(0, .ref 10000 0)], none, true, .ref 10000 0, [], []⟩,
  ⟨some 4, [(3, .ref 10000 0)], none, true, .ref 10000 0, [], []⟩,
  ⟨some 5, [(4, .ref 10000 0)], none, true, .ref 10000 0, [], []⟩,
  ⟨some 6, [(5, .ref 10000 0)], none, true, .str a0.s, [(10000, .cells 125 [.str a0.s, .int .i64 a0.pos, .bool a0.bad])], []⟩,
  ⟨some 7, [(0, .ref 10000 0)], none, true, .ref 10000 0, [], []⟩,
  ⟨some 8, [(7, .ref 10000 0)], none, true, .ref 10000 0, [], []⟩,
  ⟨some 9, [(8, .ref 10000 0)], none, true, .ref 10000 1, [], []⟩,
  ⟨some 10, [(9, .ref 10000 1)], none, true, .int .i64 a0.pos, [(10000, .cells 125 [.str a0.s, .int .i64 a0.pos, .bool a0.bad])], []⟩,
  ⟨some 11, [(6, .str a0.s), (10, .int .i64 a0.pos)], none, true, .str (a0.s.drop a0.pos.toNat), [], []⟩,
  ⟨some 2, [(11, .str (a0.s.drop a0.pos.toNat))], none, true, .str (a0.s.drop a0.pos.toNat), [], []⟩] [[], [0], [0, 1], [0, 1, 2], [], [4], [4, 5], [4, 5, 6], [0, 1, 2, 3, 4, 5, 6, 7], [0, 1, 2, 3, 4, 5, 6, 7, 8]] (by kernel_rfl) (by kernel_rfl) (.cons (qok (dlt rfl rfl) rfl (.same rfl .nil) (NeedQ.all .nil) (fun Γx σx => ok_move (dlt rfl rfl) rfl rfl)) (.cons (qok (dlt rfl rfl) rfl (.same rfl .nil) (NeedQ.all .nil) (fun Γx σx => ok_nilCheckV (dlt rfl rfl) rfl rfl)) (.cons (qok (dlt rfl rfl) rfl (.same rfl .nil) (NeedQ.all .nil) (fun Γx σx => ok_fieldV (dlt rfl rfl) rfl fo125_0 ty9 (by decide) rfl)) (.cons (qok (dlt rfl rfl) rfl (.same rfl .nil) (NeedQ.all (.cons rfl .nil)) (fun Γx σx => ok_loadV (dlt rfl rfl) rfl ty9 rfl rfl rfl)) (.cons (qok (dlt rfl rfl) rfl (.same rfl .nil) (NeedQ.all .nil) (fun Γx σx => ok_move (dlt rfl rfl) rfl rfl)) (.cons (qok (dlt rfl rfl) rfl (.same rfl .nil) (NeedQ.all .nil) (fun Γx σx => ok_nilCheckV (dlt rfl rfl) rfl rfl)) (.cons (qok (dlt rfl rfl) rfl (.same rfl .nil) (NeedQ.all .nil) (fun Γx σx => ok_fieldV (dlt rfl rfl) rfl fo125_1 ty3 (by decide) rfl)) (.cons (qok (dlt rfl rfl) rfl (.same rfl .nil) (NeedQ.all (.cons rfl .nil)) (fun Γx σx => ok_loadV (dlt rfl rfl) rfl ty3 rfl rfl rfl)) (.cons (qok (dlt rfl rfl) rfl (.same rfl (.same rfl .nil)) (NeedQ.all .nil) (fun Γx σx => ok_cutL (dlt rfl rfl) rfl Tryz.underlying9 rfl rfl (need_of hv1).1 (need_of hv1).2)) (.cons (qok (dlt rfl rfl) rfl (.same rfl .nil) (NeedQ.all .nil) (fun Γx σx => ok_assign (dlt rfl rfl) rfl rfl)) (.nil _ _))))))))))) (.nil ?_)
  obtain rfl := Option.some.inj h
  refine ak_conv (Γ' := [(2, .str (a0.s.drop a0.pos.toNat))]) (σ' := [(10000, .cells 125 [.str a0.s, .int .i64 a0.pos, .bool a0.bad])]) (.cons rfl (.refl _) (.nil _)) (.cons rfl (.refl _) (.nil _)) ?_
  exact ak_retC (fn := Tryz.f120) [(10000, .cells 125 [.str a0.s, .int .i64 a0.pos, .bool a0.bad])] (.cons rfl (.refl _) (.nil _)) Tryz.func120 rfl trivial ⟨rfl, rfl⟩)
theorem d120 {a0 : QueryReader} {r : List UInt8} (h : f120 (.e120 a0) = some r) : Does Tryz.prog GG 120 [.ref 10000 0] [(10000, .cells 125 [.str a0.s, .int .i64 a0.pos, .bool a0.bad])] (fun z σ' => z = .str r ∧ σ' = [(10000, .cells 125 [.str a0.s, .int .i64 a0.pos, .bool a0.bad])]) := fn_of (fn := Tryz.f120) Tryz.func120 rfl Tryz.ntmps120 rfl (w120 _ _ h)
/-- internal/stringslite.HasPrefix -/
noncomputable abbrev b172 : Code := codeOf Tryz.f172
inductive L172 where
 | e172 (a0 : List UInt8) (a1 : List UInt8)
noncomputable def f172 : L172 → Option Bool
 | .e172 a0 a1 =>
  gd (decide ((a1.length : Int) ≤ (a0.length : Int))) (need (0 ≤ (a1.length : Int) ∧ (a1.length : Int) ≤ (a0.length : Int))) >>= fun v1 =>
  some ((decide ((a1.length : Int) ≤ (a0.length : Int))) && ((a0.take (a1.length : Int).toNat) == a1))
def M172 : L172 → Bool → Prop
 | .e172 a0 a1, r => ∀ (w : World) (F : Nat → Prop) (ρ : Rho), AK Tryz.prog (ctx GG 18 w F ρ []) 172 [.code b172] (argE 0 [.str a0, .str a1]) [] (fun z _ => z = .bool r)
theorem w172 : ∀ (l : L172) (r : Bool), f172 l = some r → M172 l r := (by
 intro l r h
 cases l with
 | e172 a0 a1 =>
  intro w F ρ
  dsimp only [f172] at h
  refine ak_seq ?_
  refine ak_regionS (.cons rfl (ok_assign (dlt rfl rfl) rfl rfl) (.nil ?_))
  refine ak_seq ?_
  obtain ⟨v1, hv1, h⟩ := bind_of h
  refine ak_regionS (.cons rfl (ok_move (dlt rfl rfl) rfl rfl) (.cons rfl (ok_lenT (s := a0) (dlt rfl rfl) rfl Tryz.underlying9 rfl) (.cons rfl (ok_move (dlt rfl rfl) rfl rfl) (.cons rfl (ok_lenT (s := a1) (dlt rfl rfl) rfl Tryz.underlying9 rfl) (.cons rfl (ok_geq (dlt rfl rfl) rfl rfl rfl) (.cons rfl (ok_move (dlt rfl rfl) rfl rfl) (.consG (pre := []) (dlt rfl rfl) rfl rfl rfl rfl .nil (fun he => ok_move (dlt rfl rfl) rfl rfl) (.consG (pre := []) (dlt rfl rfl) rfl rfl rfl rfl .nil (fun he => ok_move (dlt rfl rfl) rfl rfl) (.consG (pre := [(12, .str a1)]) (dlt rfl rfl) rfl rfl rfl rfl (.cons rfl (fun he => he) .nil) (fun he => ok_lenT (s := a1) (dlt rfl rfl) rfl Tryz.underlying9 rfl) (.consG (pre := [(11, .str a0), (13, .int .i64 (a1.length : Int))]) (dlt rfl rfl) rfl rfl rfl rfl (.cons rfl (fun he => he) (.cons rfl (fun he => he) .nil)) (fun he => ok_cutH (dlt rfl rfl) rfl Tryz.underlying9 rfl rfl (need_of (gd_t hv1 he)).1 (need_of (gd_t hv1 he)).2) (.consG (pre := []) (dlt rfl rfl) rfl rfl rfl rfl .nil (fun he => ok_move (dlt rfl rfl) rfl rfl) (.consG (pre := [(14, .str (a0.take (a1.length : Int).toNat)), (15, .str a1)]) (dlt rfl rfl) rfl rfl rfl rfl (.cons rfl (fun he => he) (.cons rfl (fun he => he) .nil)) (fun he => ok_eqlS (dlt rfl rfl) rfl rfl rfl) (.cons rfl (ok_andW (dlt rfl rfl) rfl rfl rfl (fun h => h)) (.cons rfl (ok_assign (dlt rfl rfl) rfl rfl) (.nil ?_)))))))))))))))
  obtain rfl := Option.some.inj h
  refine ak_conv (Γ' := [(4, .bool ((decide ((a1.length : Int) ≤ (a0.length : Int))) && ((a0.take (a1.length : Int).toNat) == a1)))]) (σ' := []) (.cons rfl (.refl _) (.nil _)) (.nil _) ?_
  exact ak_ret (fn := Tryz.f172) Tryz.func172 rfl trivial rfl)
theorem d172 {a0 : List UInt8} {a1 : List UInt8} {r : Bool} (h : f172 (.e172 a0 a1) = some r) : Does Tryz.prog GG 172 [.str a0, .str a1] [] (fun z _ => z = .bool r) := fn_of (fn := Tryz.f172) Tryz.func172 rfl Tryz.ntmps172 rfl (w172 _ _ h)
end Go.Proofs.YtonlbdholdaifaaGreatDoor
end
section
set_option linter.unusedVariables false
set_option linter.unusedSimpArgs false
set_option maxRecDepth 10000
namespace Go.Proofs.YtonlbdholdaifaaGreatDoor
open Go Go.Rf Go.Proofs
/-- strings.HasPrefix -/
noncomputable abbrev b119 : Code := codeOf Tryz.f119
inductive L119 where
 | e119 (a0 : List UInt8) (a1 : List UInt8)
noncomputable def f119 : L119 → Option Bool
 | .e119 a0 a1 =>
  f172 (.e172 a0 a1) >>= fun v1 =>
  some v1
def M119 : L119 → Bool → Prop
 | .e119 a0 a1, r => ∀ (w : World) (F : Nat → Prop) (ρ : Rho), AK Tryz.prog (ctx GG 8 w F ρ []) 119 [.code b119] (argE 0 [.str a0, .str a1]) [] (fun z _ => z = .bool r)
theorem w119 : ∀ (l : L119) (r : Bool), f119 l = some r → M119 l r := (by
 intro l r h
 cases l with
 | e119 a0 a1 =>
  intro w F ρ
  dsimp only [f119] at h
  refine ak_seq ?_
  refine ak_regionS (.cons rfl (ok_assign (dlt rfl rfl) rfl rfl) (.nil ?_))
  refine ak_seq ?_
  obtain ⟨v1, hv1, h⟩ := bind_of h
  refine ak_regionS (.cons rfl (ok_move (dlt rfl rfl) rfl rfl) (.cons rfl (ok_move (dlt rfl rfl) rfl rfl) (.cons rfl (ok_call (xs := [.str a0, .str a1]) (caps := []) (dlt rfl rfl) rfl rfl Tryz.func172 rfl rfl rfl (d172 hv1) rfl) (.cons rfl (ok_assign (dlt rfl rfl) rfl rfl) (.nil ?_)))))
  obtain rfl := Option.some.inj h
  refine ak_conv (Γ' := [(4, .bool v1)]) (σ' := []) (.cons rfl (.refl _) (.nil _)) (.nil _) ?_
  exact ak_ret (fn := Tryz.f119) Tryz.func119 rfl trivial rfl)
theorem d119 {a0 : List UInt8} {a1 : List UInt8} {r : Bool} (h : f119 (.e119 a0 a1) = some r) : Does Tryz.prog GG 119 [.str a0, .str a1] [] (fun z _ => z = .bool r) := fn_of (fn := Tryz.f119) Tryz.func119 rfl Tryz.ntmps119 rfl (w119 _ _ h)
/-- (*riffle/query.reader).take -/
noncomputable abbrev b68 : Code := codeOf Tryz.f68
inductive L68 where
 | e68 (a0 : QueryReader) (a1 : List UInt8)
 | l68_0 (a0 : Bool) (a1 : List UInt8) (a2 : Int) (a3 : Bool)
noncomputable def f68 : L68 → Option (Bool × QueryReader)
 | .e68 a0 a1 =>
  f120 (.e120 a0) >>= fun v1 =>
  f119 (.e119 v1 a1) >>= fun v2 =>
  if v2 = true then
   f68 (.l68_0 v2 a0.s (IntKind.wrap .i64 (a0.pos + (a1.length : Int))) a0.bad)
  else
   f68 (.l68_0 v2 a0.s a0.pos a0.bad)
 | .l68_0 a0 a1 a2 a3 =>
  some (a0, (⟨a1, a2, a3⟩ : QueryReader))
 partial_fixpoint
def M68 : L68 → (Bool × QueryReader) → Prop
 | .e68 a0 a1, r => ∀ (w : World) (F : Nat → Prop) (ρ : Rho), AK Tryz.prog (ctx GG 21 w F ρ [(10000, .cells 125 [.str a0.s, .int .i64 a0.pos, .bool a0.bad])]) 68 [.code b68] (argE 0 [.ref 10000 0, .str a1]) [(10000, .cells 125 [.str a0.s, .int .i64 a0.pos, .bool a0.bad])] (fun z σ' => z = .bool r.1 ∧ σ' = [(10000, .cells 125 [.str r.2.s, .int .i64 r.2.pos, .bool r.2.bad])])
 | .l68_0 a0 a1 a2 a3, r => ∀ (w : World) (F : Nat → Prop) (ρ : Rho) (S : Nat → Prop), AK Tryz.prog (ctxL GG 21 w F ρ S [10000]) 68 [.code (c2 (c2 (c2 b68)))] [(5, .bool a0)] [(10000, .cells 125 [.str a1, .int .i64 a2, .bool a3])] (fun z σ' => z = .bool r.1 ∧ σ' = [(10000, .cells 125 [.str r.2.s, .int .i64 r.2.pos, .bool r.2.bad])])
theorem w68 : ∀ (l : L68) (r : Bool × QueryReader), f68 l = some r → M68 l r := f68.partial_correctness M68 (by
 intro f ih l r h
 cases l with
 | e68 a0 a1 =>
  intro w F ρ
  dsimp only at h
  refine ak_seq ?_
  refine ak_regionS (.cons rfl (ok_assign (dlt rfl rfl) rfl rfl) (.nil ?_))
  refine ak_seq ?_
  obtain ⟨v1, hv1, h⟩ := bind_of h
  obtain ⟨v2, hv2, h⟩ := bind_of h
  refine ak_regionS (.cons rfl (ok_move (dlt rfl rfl) rfl rfl) (.cons rfl (Sound.same (ok_callL (xs := [.ref 10000 0]) (caps := []) (xs1 := [.ref 10000 0]) (z := .str v1) (ups := [(10000, .cells 125 [.str a0.s, .int .i64 a0.pos, .bool a0.bad])]) (dlt rfl rfl) [(10000, (10000, some (0, 3)))] [] rfl rfl Tryz.func120 rfl rfl rfl (.cons (.refl _) (.nil)) (.cons (.ref rfl rfl) (.nil)) (.cells rfl rfl (by decide) rfl (.cons (.refl _) (.cons (.refl _) (.cons (.refl _) (.nil)))) (.cons (.same rfl) (.cons (.same rfl) (.cons (.same rfl) (.nil)))) .nil) rfl (d120 hv1) (.cells (l := 10000) rfl rfl rfl rfl (.cons (.same rfl) (.cons (.same rfl) (.cons (.same rfl) (.nil)))) (Nat.succ_ne_zero _) rfl .nil) rfl rfl rfl (by intro d h; simp at h) rfl (.same rfl)) (NeedQ.all (.cons rfl .nil))) (.cons rfl (ok_move (dlt rfl rfl) rfl rfl) (.cons rfl (ok_call (xs := [.str v1, .str a1]) (caps := []) (dlt rfl rfl) rfl rfl Tryz.func119 rfl rfl rfl (d119 hv2) rfl) (.cons rfl (ok_assign (dlt rfl rfl) rfl rfl) (.nil ?_))))))
  refine ak_seq ?_
  refine ak_seq ?_
  refine ak_regionS (.cons rfl (ok_move (dlt rfl rfl) rfl rfl) (.nil ?_))
  refine ak_cond rfl (fun ht => ?_) (fun ht => ?_)
  ·have h := cond_t ht h
   refine ak_regionS (.cons rfl (ok_move (dlt rfl rfl) rfl rfl) (.cons rfl (ok_nilCheckV (dlt rfl rfl) rfl rfl) (.cons rfl (ok_fieldV (dlt rfl rfl) rfl fo125_1 ty3 (by decide) rfl) (.cons rfl (ok_loadV (dlt rfl rfl) rfl ty3 rfl rfl rfl) (.cons rfl (ok_move (dlt rfl rfl) rfl rfl) (.cons rfl (ok_lenT (s := a1) (dlt rfl rfl) rfl Tryz.underlying9 rfl) (.cons rfl (ok_add (dlt rfl rfl) rfl rfl rfl) (.cons rfl (ok_nilCheckV (dlt rfl rfl) rfl rfl) (.cons rfl (ok_fieldV (dlt rfl rfl) rfl fo125_1 ty3 (by decide) rfl) (.cons rfl (ok_storeV rfl rfl ty3 rfl rfl rfl rfl (by decide) rfl rfl) (.nil ?_)))))))))))
   exact ak_conv (.cons rfl (.refl _) (.nil _)) (.cons rfl (.refl _) (.nil _)) (ih _ _ h w F ρ _)
  ·have h := cond_f ht h
   refine ak_skip ?_
   exact ak_conv (.cons rfl (.refl _) (.nil _)) (.cons rfl (.refl _) (.nil _)) (ih _ _ h w F ρ _)
 | l68_0 a0 a1 a2 a3 =>
  intro w F ρ S
  dsimp only at h
  refine ak_seq ?_
  refine ak_regionS (.cons rfl (ok_move (dlt rfl rfl) rfl rfl) (.cons rfl (ok_assign (dlt rfl rfl) rfl rfl) (.nil ?_)))
  obtain rfl := Option.some.inj h
  refine ak_conv (Γ' := [(4, .bool a0)]) (σ' := [(10000, .cells 125 [.str ((⟨a1, a2, a3⟩ : QueryReader).s), .int .i64 ((⟨a1, a2, a3⟩ : QueryReader).pos), .bool ((⟨a1, a2, a3⟩ : QueryReader).bad)])]) (.cons rfl (.refl _) (.nil _)) (.cons rfl (.cells (.cons (.refl _) (.cons (.refl _) (.cons (.refl _) (.nil))))) (.nil _)) ?_
  exact ak_retC (fn := Tryz.f68) [(10000, .cells 125 [.str ((⟨a1, a2, a3⟩ : QueryReader).s), .int .i64 ((⟨a1, a2, a3⟩ : QueryReader).pos), .bool ((⟨a1, a2, a3⟩ : QueryReader).bad)])] (.cons rfl (.refl _) (.nil _)) Tryz.func68 rfl trivial ⟨rfl, rfl⟩)
theorem d68 {a0 : QueryReader} {a1 : List UInt8} {r : Bool × QueryReader} (h : f68 (.e68 a0 a1) = some r) : Does Tryz.prog GG 68 [.ref 10000 0, .str a1] [(10000, .cells 125 [.str a0.s, .int .i64 a0.pos, .bool a0.bad])] (fun z σ' => z = .bool r.1 ∧ σ' = [(10000, .cells 125 [.str r.2.s, .int .i64 r.2.pos, .bool r.2.bad])]) := fn_of (fn := Tryz.f68) Tryz.func68 rfl Tryz.ntmps68 rfl (w68 _ _ h)
/-- riffle/octet.Digit -/
noncomputable abbrev b173 : Code := codeOf Tryz.f173
inductive L173 where
 | e173 (a0 : Int)
noncomputable def f173 : L173 → Option Bool
 | .e173 a0 =>
  some ((decide ((48 : Int) ≤ a0)) && (decide (a0 ≤ (57 : Int))))
def M173 : L173 → Bool → Prop
 | .e173 a0, r => ∀ (w : World) (F : Nat → Prop) (ρ : Rho), AK Tryz.prog (ctx GG 9 w F ρ []) 173 [.code b173] (argE 0 [.int .u8 a0]) [] (fun z _ => z = .bool r)
theorem w173 : ∀ (l : L173) (r : Bool), f173 l = some r → M173 l r := (by
 intro l r h
 cases l with
 | e173 a0 =>
  intro w F ρ
  dsimp only [f173] at h
  refine ak_seq ?_
  refine ak_regionS (.cons rfl (ok_assign (dlt rfl rfl) rfl rfl) (.nil ?_))
  refine ak_seq ?_
  refine ak_regionS (.cons rfl (ok_move (dlt rfl rfl) rfl rfl) (.cons rfl (ok_geq (dlt rfl rfl) rfl rfl rfl) (.cons rfl (ok_move (dlt rfl rfl) rfl rfl) (.consG (pre := []) (dlt rfl rfl) rfl rfl rfl rfl .nil (fun he => ok_move (dlt rfl rfl) rfl rfl) (.consG (pre := [(6, .int .u8 a0)]) (dlt rfl rfl) rfl rfl rfl rfl (.cons rfl (fun he => he) .nil) (fun he => ok_leq (dlt rfl rfl) rfl rfl rfl) (.cons rfl (ok_andW (dlt rfl rfl) rfl rfl rfl (fun h => h)) (.cons rfl (ok_assign (dlt rfl rfl) rfl rfl) (.nil ?_))))))))
  obtain rfl := Option.some.inj h
  refine ak_conv (Γ' := [(2, .bool ((decide ((48 : Int) ≤ a0)) && (decide (a0 ≤ (57 : Int)))))]) (σ' := []) (.cons rfl (.refl _) (.nil _)) (.nil _) ?_
  exact ak_ret (fn := Tryz.f173) Tryz.func173 rfl trivial rfl)
theorem d173 {a0 : Int} {r : Bool} (h : f173 (.e173 a0) = some r) : Does Tryz.prog GG 173 [.int .u8 a0] [] (fun z _ => z = .bool r) := fn_of (fn := Tryz.f173) Tryz.func173 rfl Tryz.ntmps173 rfl (w173 _ _ h)
/-- riffle/octet.Kind -/
noncomputable abbrev b121 : Code := codeOf Tryz.f121
inductive L121 where
 | e121 (a0 : Int)
 | l121_0 (a0 : Int) (a1 : Int) (a2 : Bool)
 | l121_1 (a0 : Int) (a1 : Bool)
noncomputable def f121 : L121 → Option Int
 | .e121 a0 =>
  if (a0 == (32 : Int)) = true then
   none
  else
   if (a0 == (9 : Int)) = true then
    none
   else
    if (a0 == (10 : Int)) = true then
     none
    else
     f121 (.l121_0 a0 a0 (a0 == (13 : Int)))
 | .l121_0 a0 a1 a2 =>
  if a2 = true then
   none
  else
   if (a1 == (91 : Int)) = true then
    some (2 : Int)
   else
    if (a1 == (93 : Int)) = true then
     some (3 : Int)
    else
     if (a1 == (123 : Int)) = true then
      none
     else
      if (a1 == (125 : Int)) = true then
       none
      else
       if (a1 == (44 : Int)) = true then
        none
       else
        if (a1 == (58 : Int)) = true then
         none
        else
         if (a1 == (34 : Int)) = true then
          none
         else
          if (a1 == (45 : Int)) = true then
           some (9 : Int)
          else
           if (a1 == (116 : Int)) = true then
            none
           else
            if (a1 == (102 : Int)) = true then
             none
            else
             f121 (.l121_1 a0 (a1 == (110 : Int)))
 | .l121_1 a0 a1 =>
  if a1 = true then
   none
  else
   f173 (.e173 a0) >>= fun v1 =>
   if v1 = true then
    some (9 : Int)
   else
    none
 partial_fixpoint
def M121 : L121 → Int → Prop
 | .e121 a0, r => ∀ (w : World) (F : Nat → Prop) (ρ : Rho), AK Tryz.prog (ctx GG 31 w F ρ []) 121 [.code b121] (argE 0 [.int .u8 a0]) [] (fun z _ => z = .int .i64 r)
 | .l121_0 a0 a1 a2, r => ∀ (w : World) (F : Nat → Prop) (ρ : Rho), AK Tryz.prog (ctx GG 31 w F ρ []) 121 [.code (c2 (c1 (c2 (c1 (c2 b121))))), .inBlock 0, .code (c2 (c2 b121))] [(0, .int .u8 a0), (3, .int .u8 a1), (4, .bool a2)] [] (fun z _ => z = .int .i64 r)
 | .l121_1 a0 a1, r => ∀ (w : World) (F : Nat → Prop) (ρ : Rho), AK Tryz.prog (ctx GG 31 w F ρ []) 121 [.code (c2 (c2 (c2 (c2 (c2 (c2 (c2 (c2 (c2 (c2 (c2 (c2 (c2 (c2 (c2 (c2 (c2 (c2 (c2 (c1 (c2 (c1 (c2 b121))))))))))))))))))))))), .inBlock 0, .code (c2 (c2 b121))] [(0, .int .u8 a0), (25, .bool a1)] [] (fun z _ => z = .int .i64 r)
theorem w121 : ∀ (l : L121) (r : Int), f121 l = some r → M121 l r := f121.partial_correctness M121 (by
 intro f ih l r h
 cases l with
 | e121 a0 =>
  intro w F ρ
  dsimp only at h
  refine ak_seq ?_
  refine ak_regionS (.cons rfl (ok_assign (dlt rfl rfl) rfl rfl) (.nil ?_))
  refine ak_seq ?_
  refine ak_seq ?_
  refine ak_regionS (.cons rfl (ok_move (dlt rfl rfl) rfl rfl) (.nil ?_))
  refine ak_block ?_
  refine ak_seq ?_
  refine ak_seq ?_
  refine ak_regionS (.cons rfl (ok_eql (dlt rfl rfl) rfl rfl rfl) (.cons rfl (ok_assign (dlt rfl rfl) rfl rfl) (.nil ?_)))
  refine ak_cond rfl (fun ht => ?_) (fun ht => ?_)
  ·have h := cond_t ht h
   exact no_of h
  ·have h := cond_f ht h
   refine ak_seq ?_
   refine ak_regionS (.cons rfl (ok_eql (dlt rfl rfl) rfl rfl rfl) (.cons rfl (ok_assign (dlt rfl rfl) rfl rfl) (.nil ?_)))
   refine ak_cond rfl (fun ht => ?_) (fun ht => ?_)
   ·have h := cond_t ht h
    exact no_of h
   ·have h := cond_f ht h
    refine ak_seq ?_
    refine ak_regionS (.cons rfl (ok_eql (dlt rfl rfl) rfl rfl rfl) (.cons rfl (ok_assign (dlt rfl rfl) rfl rfl) (.nil ?_)))
    refine ak_cond rfl (fun ht => ?_) (fun ht => ?_)
    ·have h := cond_t ht h
     exact no_of h
    ·have h := cond_f ht h
     refine ak_regionS (.cons rfl (ok_eql (dlt rfl rfl) rfl rfl rfl) (.cons rfl (ok_assign (dlt rfl rfl) rfl rfl) (.nil ?_)))
     exact ak_conv (.cons rfl (.refl _) (.cons rfl (.refl _) (.cons rfl (.refl _) (.nil _)))) (.nil _) (ih _ _ h w F ρ)
 | l121_0 a0 a1 a2 =>
  intro w F ρ
  dsimp only at h
  refine ak_cond rfl (fun ht => ?_) (fun ht => ?_)
  ·have h := cond_t ht h
   exact no_of h
  ·have h := cond_f ht h
   refine ak_seq ?_
   refine ak_regionS (.cons rfl (ok_eql (dlt rfl rfl) rfl rfl rfl) (.cons rfl (ok_assign (dlt rfl rfl) rfl rfl) (.nil ?_)))
   refine ak_cond rfl (fun ht => ?_) (fun ht => ?_)
   ·have h := cond_t ht h
    refine ak_seq ?_
    refine ak_regionS (.cons rfl (ok_assign (dlt rfl rfl) rfl rfl) (.nil ?_))
    obtain rfl := Option.some.inj h
    refine ak_conv (Γ' := [(2, .int .i64 (2 : Int))]) (σ' := []) (.cons rfl (.refl _) (.nil _)) (.nil _) ?_
    exact ak_ret (fn := Tryz.f121) Tryz.func121 rfl trivial rfl
   ·have h := cond_f ht h
    refine ak_seq ?_
    refine ak_regionS (.cons rfl (ok_eql (dlt rfl rfl) rfl rfl rfl) (.cons rfl (ok_assign (dlt rfl rfl) rfl rfl) (.nil ?_)))
    refine ak_cond rfl (fun ht => ?_) (fun ht => ?_)
    ·have h := cond_t ht h
     refine ak_seq ?_
     refine ak_regionS (.cons rfl (ok_assign (dlt rfl rfl) rfl rfl) (.nil ?_))
     obtain rfl := Option.some.inj h
     refine ak_conv (Γ' := [(2, .int .i64 (3 : Int))]) (σ' := []) (.cons rfl (.refl _) (.nil _)) (.nil _) ?_
     exact ak_ret (fn := Tryz.f121) Tryz.func121 rfl trivial rfl
    ·have h := cond_f ht h
     refine ak_seq ?_
     refine ak_regionS (.cons rfl (ok_eql (dlt rfl rfl) rfl rfl rfl) (.cons rfl (ok_assign (dlt rfl rfl) rfl rfl) (.nil ?_)))
     refine ak_cond rfl (fun ht => ?_) (fun ht => ?_)
     ·have h := cond_t ht h
      exact no_of h
     ·have h := cond_f ht h
      refine ak_seq ?_
      refine ak_regionS (.cons rfl (ok_eql (dlt rfl rfl) rfl rfl rfl) (.cons rfl (ok_assign (dlt rfl rfl) rfl rfl) (.nil ?_)))
      refine ak_cond rfl (fun ht => ?_) (fun ht => ?_)
      ·have h := cond_t ht h
       exact no_of h
      ·have h := cond_f ht h
       refine ak_seq ?_
       refine ak_regionS (.cons rfl (ok_eql (dlt rfl rfl) rfl rfl rfl) (.cons rfl (ok_assign (dlt rfl rfl) rfl rfl) (.nil ?_)))
       refine ak_cond rfl (fun ht => ?_) (fun ht => ?_)
       ·have h := cond_t ht h
        exact no_of h
       ·have h := cond_f ht h
        refine ak_seq ?_
        refine ak_regionS (.cons rfl (ok_eql (dlt rfl rfl) rfl rfl rfl) (.cons rfl (ok_assign (dlt rfl rfl) rfl rfl) (.nil ?_)))
        refine ak_cond rfl (fun ht => ?_) (fun ht => ?_)
        ·have h := cond_t ht h
         exact no_of h
        ·have h := cond_f ht h
         refine ak_seq ?_
         refine ak_regionS (.cons rfl (ok_eql (dlt rfl rfl) rfl rfl rfl) (.cons rfl (ok_assign (dlt rfl rfl) rfl rfl) (.nil ?_)))
         refine ak_cond rfl (fun ht => ?_) (fun ht => ?_)
         ·have h := cond_t ht h
          exact no_of h
         ·have h := cond_f ht h
          refine ak_seq ?_
          refine ak_regionS (.cons rfl (ok_eql (dlt rfl rfl) rfl rfl rfl) (.cons rfl (ok_assign (dlt rfl rfl) rfl rfl) (.nil ?_)))
          refine ak_cond rfl (fun ht => ?_) (fun ht => ?_)
          ·have h := cond_t ht h
           refine ak_seq ?_
           refine ak_regionS (.cons rfl (ok_assign (dlt rfl rfl) rfl rfl) (.nil ?_))
           obtain rfl := Option.some.inj h
           refine ak_conv (Γ' := [(2, .int .i64 (9 : Int))]) (σ' := []) (.cons rfl (.refl _) (.nil _)) (.nil _) ?_
           exact ak_ret (fn := Tryz.f121) Tryz.func121 rfl trivial rfl
          ·have h := cond_f ht h
           refine ak_seq ?_
           refine ak_seq ?_
           refine ak_regionS (.cons rfl (ok_eql (dlt rfl rfl) rfl rfl rfl) (.cons rfl (ok_assign (dlt rfl rfl) rfl rfl) (.nil ?_)))
           refine ak_cond rfl (fun ht => ?_) (fun ht => ?_)
           ·have h := cond_t ht h
            exact no_of h
           ·have h := cond_f ht h
            refine ak_seq ?_
            refine ak_regionS (.cons rfl (ok_eql (dlt rfl rfl) rfl rfl rfl) (.cons rfl (ok_assign (dlt rfl rfl) rfl rfl) (.nil ?_)))
            refine ak_cond rfl (fun ht => ?_) (fun ht => ?_)
            ·have h := cond_t ht h
             exact no_of h
            ·have h := cond_f ht h
             refine ak_regionS (.cons rfl (ok_eql (dlt rfl rfl) rfl rfl rfl) (.cons rfl (ok_assign (dlt rfl rfl) rfl rfl) (.nil ?_)))
             exact ak_conv (.cons rfl (.refl _) (.cons rfl (.refl _) (.nil _))) (.nil _) (ih _ _ h w F ρ)
 | l121_1 a0 a1 =>
  intro w F ρ
  dsimp only at h
  refine ak_cond rfl (fun ht => ?_) (fun ht => ?_)
  ·have h := cond_t ht h
   exact no_of h
  ·have h := cond_f ht h
   refine ak_skip ?_
   refine ak_inBlock ?_
   refine ak_seq ?_
   refine ak_seq ?_
   obtain ⟨v1, hv1, h⟩ := bind_of h
   refine ak_regionS (.cons rfl (ok_move (dlt rfl rfl) rfl rfl) (.cons rfl (ok_call (xs := [.int .u8 a0]) (caps := []) (dlt rfl rfl) rfl rfl Tryz.func173 rfl rfl rfl (d173 hv1) rfl) (.nil ?_)))
   refine ak_cond rfl (fun ht => ?_) (fun ht => ?_)
   ·have h := cond_t ht h
    refine ak_seq ?_
    refine ak_regionS (.cons rfl (ok_assign (dlt rfl rfl) rfl rfl) (.nil ?_))
    obtain rfl := Option.some.inj h
    refine ak_conv (Γ' := [(2, .int .i64 (9 : Int))]) (σ' := []) (.cons rfl (.refl _) (.nil _)) (.nil _) ?_
    exact ak_ret (fn := Tryz.f121) Tryz.func121 rfl trivial rfl
   ·have h := cond_f ht h
    exact no_of h)
theorem d121 {a0 : Int} {r : Int} (h : f121 (.e121 a0) = some r) : Does Tryz.prog GG 121 [.int .u8 a0] [] (fun z _ => z = .int .i64 r) := fn_of (fn := Tryz.f121) Tryz.func121 rfl Tryz.ntmps121 rfl (w121 _ _ h)
/-- (*riffle/query.reader).blanks -/
noncomputable abbrev b69 : Code := codeOf Tryz.f69
inductive L69 where
 | e69 (a0 : QueryReader)
 | l69_0 (a0 : QueryReader)
noncomputable def f69 : L69 → Option QueryReader
 | .e69 a0 =>
  f69 (.l69_0 a0)
 | .l69_0 a0 =>
  gd (decide (a0.pos < (a0.s.length : Int))) (idx a0.s a0.pos) >>= fun v1 =>
  gd (decide (a0.pos < (a0.s.length : Int))) (f121 (.e121 (v1.toNat : Int))) >>= fun v2 =>
  if ((decide (a0.pos < (a0.s.length : Int))) && (v2 == (1 : Int))) = true then
   none
  else
   some a0
 partial_fixpoint
def M69 : L69 → QueryReader → Prop
 | .e69 a0, r => ∀ (w : World) (F : Nat → Prop) (ρ : Rho), AK Tryz.prog (ctx GG 32 w F ρ [(10000, .cells 125 [.str a0.s, .int .i64 a0.pos, .bool a0.bad])]) 69 [.code b69] (argE 0 [.ref 10000 0]) [(10000, .cells 125 [.str a0.s, .int .i64 a0.pos, .bool a0.bad])] (fun z σ' => z = .tup [] ∧ σ' = [(10000, .cells 125 [.str r.s, .int .i64 r.pos, .bool r.bad])])
 | .l69_0 a0, r => ∀ (w : World) (F : Nat → Prop) (ρ : Rho) (S : Nat → Prop), AK Tryz.prog (ctxL GG 32 w F ρ S [10000]) 69 [.code (c1 (c1 b69)), .inLoop (c1 (c1 b69)), .inBlock 0] [(0, .ref 10000 0)] [(10000, .cells 125 [.str a0.s, .int .i64 a0.pos, .bool a0.bad])] (fun z σ' => z = .tup [] ∧ σ' = [(10000, .cells 125 [.str r.s, .int .i64 r.pos, .bool r.bad])])
theorem w69 : ∀ (l : L69) (r : QueryReader), f69 l = some r → M69 l r := f69.partial_correctness M69 (by
 intro f ih l r h
 cases l with
 | e69 a0 =>
  intro w F ρ
  dsimp only at h
  refine ak_block ?_
  refine ak_loop ?_
  exact ak_conv (.cons rfl (.refl _) (.nil _)) (.cons rfl (.refl _) (.nil _)) (ih _ _ h w F ρ _)
 | l69_0 a0 =>
  intro w F ρ S
  dsimp only at h
  refine ak_seq ?_
  refine ak_seq ?_
  obtain ⟨v1, hv1, h⟩ := bind_of h
  obtain ⟨v2, hv2, h⟩ := bind_of h
  refine ak_drawL [⟨some 2, [(0, .ref 10000 0)], none, true, .ref 10000 0, [], []⟩,
  ⟨some 3, [(2, .ref 10000 0)], none, true, .ref 10000 0, [], []⟩,
  ⟨some 4, [(3, .ref 10000 0)], none, true, .ref 10000 1, [], []⟩,
  ⟨some 5, [(4, .ref 10000 1)], none, true, .int .i64 a0.pos, [(10000, .cells 125 [.str a0.s, .int .i64 a0.pos, .bool a0.bad])], []⟩,
  ⟨some 6, [(0, .ref 10000 0)], none, true, .ref 10000 0, [], []⟩,
  ⟨some 7, [(6, .ref 10000 0)], none, true, .ref 10000 0, [], []⟩,
  ⟨some 8, [(7, .ref 10000 0)], none, true, .ref 10000 0, [], []⟩,
  ⟨some 9, [(8, .ref 10000 0)], none, true, .str a0.s, [(10000, .cells 125 [.str a0.s, .int .i64 a0.pos, .bool a0.bad])], []⟩,
  ⟨some 10, [(9, .str a0.s)], none, true, .int .i64 (a0.s.length : Int), [], []⟩,
  ⟨some 11, [(5, .int .i64 a0.pos), (10, .int .i64 (a0.s.length : Int))], none, true, .bool (decide (a0.pos < (a0.s.length : Int))), [], []⟩,
  ⟨some 12, [(11, .bool (decide (a0.pos < (a0.s.length : Int))))], none, true, .bool (decide (a0.pos < (a0.s.length : Int))), [], []⟩,
  ⟨some 13, [(0, .ref 10000 0)], some 12, (decide (a0.pos < (a0.s.length : Int))), .ref 10000 0, [], []⟩,
  ⟨some 14, [(13, .ref 10000 0)], some 12, (decide (a0.pos < (a0.s.length : Int))), .ref 10000 0, [], []⟩,
  ⟨some 15, [(14, .ref 10000 0)], some 12, (decide (a0.pos < (a0.s.length : Int))), .ref 10000 0, [], []⟩,
  ⟨some 16, [(15, .ref 10000 0)], some 12, (decide (a0.pos < (a0.s.length : Int))), .str a0.s, [(10000, .cells 125 [.str a0.s, .int .i64 a0.pos, .bool a0.bad])], []⟩,
  ⟨some 17, [(0, .ref 10000 0)], some 12, (decide (a0.pos < (a0.s.length : Int))), .ref 10000 0, [], []⟩,
  ⟨some 18, [(17, .ref 10000 0)], some 12, (decide (a0.pos < (a0.s.length : Int))), .ref 10000 0, [], []⟩,
  ⟨some 19, [(18, .ref 10000 0)], some 12, (decide (a0.pos < (a0.s.length : Int))), .ref 10000 1, [], []⟩,
  ⟨some 20, [(19, .ref 10000 1)], some 12, (decide (a0.pos < (a0.s.length : Int))), .int .i64 a0.pos, [(10000, .cells 125 [.str a0.s, .int .i64 a0.pos, .bool a0.bad])], []⟩,
  ⟨some 21, [(16, .str a0.s), (20, .int .i64 a0.pos)], some 12, (decide (a0.pos < (a0.s.length : Int))), .int .u8 (v1.toNat : Int), [], []⟩,
  ⟨some 22, [(21, .int .u8 (v1.toNat : Int))], some 12, (decide (a0.pos < (a0.s.length : Int))), .int .i64 v2, [], []⟩,
  ⟨some 23, [(22, .int .i64 v2)], some 12, (decide (a0.pos < (a0.s.length : Int))), .bool (v2 == (1 : Int)), [], []⟩,
  ⟨some 24, [(12, .bool (decide (a0.pos < (a0.s.length : Int)))), (23, .when (decide (a0.pos < (a0.s.length : Int))) (.bool (v2 == (1 : Int))))], none, true, .bool ((decide (a0.pos < (a0.s.length : Int))) && (v2 == (1 : Int))), [], []⟩] [[], [0], [0, 1], [0, 1, 2], [], [4], [4, 5], [4, 5, 6], [4, 5, 6, 7], [0, 1, 2, 3, 4, 5, 6, 7, 8], [0, 1, 2, 3, 4, 5, 6, 7, 8, 9], [0, 1, 2, 3, 4, 5, 6, 7, 8, 9, 10], [0, 1, 2, 3, 4, 5, 6, 7, 8, 9, 10, 11], [0, 1, 2, 3, 4, 5, 6, 7, 8, 9, 10, 11, 12], [0, 1, 2, 3, 4, 5, 6, 7, 8, 9, 10, 11, 12, 13], [0, 1, 2, 3, 4, 5, 6, 7, 8, 9, 10], [0, 1, 2, 3, 4, 5, 6, 7, 8, 9, 10, 15], [0, 1, 2, 3, 4, 5, 6, 7, 8, 9, 10, 15, 16], [0, 1, 2, 3, 4, 5, 6, 7, 8, 9, 10, 15, 16, 17], [0, 1, 2, 3, 4, 5, 6, 7, 8, 9, 10, 11, 12, 13, 14, 15, 16, 17, 18], [0, 1, 2, 3, 4, 5, 6, 7, 8, 9, 10, 11, 12, 13, 14, 15, 16, 17, 18, 19], [0, 1, 2, 3, 4, 5, 6, 7, 8, 9, 10, 11, 12, 13, 14, 15, 16, 17, 18, 19, 20], [0, 1, 2, 3, 4, 5, 6, 7, 8, 9, 10, 11, 12, 13, 14, 15, 16, 17, 18, 19, 20, 21]] (by kernel_rfl) (by kernel_rfl) (.cons (qok (dlt rfl rfl) rfl (.same rfl .nil) (NeedQ.all .nil) (fun Γx σx => ok_move (dlt rfl rfl) rfl rfl)) (.cons (qok (dlt rfl rfl) rfl (.same rfl .nil) (NeedQ.all .nil) (fun Γx σx => ok_nilCheckV (dlt rfl rfl) rfl rfl)) (.cons (qok (dlt rfl rfl) rfl (.same rfl .nil) (NeedQ.all .nil) (fun Γx σx => ok_fieldV (dlt rfl rfl) rfl fo125_1 ty3 (by decide) rfl)) (.cons (qok (dlt rfl rfl) rfl (.same rfl .nil) (NeedQ.all (.cons rfl .nil)) (fun Γx σx => ok_loadV (dlt rfl rfl) rfl ty3 rfl rfl rfl)) (.cons (qok (dlt rfl rfl) rfl (.same rfl .nil) (NeedQ.all .nil) (fun Γx σx => ok_move (dlt rfl rfl) rfl rfl)) (.cons (qok (dlt rfl rfl) rfl (.same rfl .nil) (NeedQ.all .nil) (fun Γx σx => ok_nilCheckV (dlt rfl rfl) rfl rfl)) (.cons (qok (dlt rfl rfl) rfl (.same rfl .nil) (NeedQ.all .nil) (fun Γx σx => ok_fieldV (dlt rfl rfl) rfl fo125_0 ty9 (by decide) rfl)) (.cons (qok (dlt rfl rfl) rfl (.same rfl .nil) (NeedQ.all (.cons rfl .nil)) (fun Γx σx => ok_loadV (dlt rfl rfl) rfl ty9 rfl rfl rfl)) (.cons (qok (dlt rfl rfl) rfl (.same rfl .nil) (NeedQ.all .nil) (fun Γx σx => ok_lenT (s := a0.s) (dlt rfl rfl) rfl Tryz.underlying9 rfl)) (.cons (qok (dlt rfl rfl) rfl (.same rfl (.same rfl .nil)) (NeedQ.all .nil) (fun Γx σx => ok_lss (dlt rfl rfl) rfl rfl rfl)) (.cons (qok (dlt rfl rfl) rfl (.same rfl .nil) (NeedQ.all .nil) (fun Γx σx => ok_move (dlt rfl rfl) rfl rfl)) (.cons (qokG (dlt rfl rfl) rfl rfl rfl rfl (.same rfl .nil) (NeedQ.all .nil) (fun he Γx σx => ok_move (dlt rfl rfl) rfl rfl)) (.cons (qokG (dlt rfl rfl) rfl rfl rfl rfl (.when rfl (fun he => he) .nil) (NeedQ.all .nil) (fun he Γx σx => ok_nilCheckV (dlt rfl rfl) rfl rfl)) (.cons (qokG (dlt rfl rfl) rfl rfl rfl rfl (.when rfl (fun he => he) .nil) (NeedQ.all .nil) (fun he Γx σx => ok_fieldV (dlt rfl rfl) rfl fo125_0 ty9 (by decide) rfl)) (.cons (qokG (dlt rfl rfl) rfl rfl rfl rfl (.when rfl (fun he => he) .nil) (NeedQ.all (.cons rfl .nil)) (fun he Γx σx => ok_loadV (dlt rfl rfl) rfl ty9 rfl rfl rfl)) (.cons (qokG (dlt rfl rfl) rfl rfl rfl rfl (.same rfl .nil) (NeedQ.all .nil) (fun he Γx σx => ok_move (dlt rfl rfl) rfl rfl)) (.cons (qokG (dlt rfl rfl) rfl rfl rfl rfl (.when rfl (fun he => he) .nil) (NeedQ.all .nil) (fun he Γx σx => ok_nilCheckV (dlt rfl rfl) rfl rfl)) (.cons (qokG (dlt rfl rfl) rfl rfl rfl rfl (.when rfl (fun he => he) .nil) (NeedQ.all .nil) (fun he Γx σx => ok_fieldV (dlt rfl rfl) rfl fo125_1 ty3 (by decide) rfl)) (.cons (qokG (dlt rfl rfl) rfl rfl rfl rfl (.when rfl (fun he => he) .nil) (NeedQ.all (.cons rfl .nil)) (fun he Γx σx => ok_loadV (dlt rfl rfl) rfl ty3 rfl rfl rfl)) (.cons (qokG (dlt rfl rfl) rfl rfl rfl rfl (.when rfl (fun he => he) (.when rfl (fun he => he) .nil)) (NeedQ.all .nil) (fun he Γx σx => ok_byte (s := a0.s) (c := v1) (dlt rfl rfl) rfl Tryz.underlying9 rfl rfl (idx_0 (gd_t hv1 he)) (idx_1 (gd_t hv1 he)))) (.cons (qokG (dlt rfl rfl) rfl rfl rfl rfl (.when rfl (fun he => he) .nil) (NeedQ.all .nil) (fun he Γx σx => ok_call (xs := [.int .u8 (v1.toNat : Int)]) (caps := []) (dlt rfl rfl) rfl rfl Tryz.func121 rfl rfl rfl (d121 (gd_t hv2 he)) rfl)) (.cons (qokG (dlt rfl rfl) rfl rfl rfl rfl (.when rfl (fun he => he) .nil) (NeedQ.all .nil) (fun he Γx σx => ok_eql (dlt rfl rfl) rfl rfl rfl)) (.cons (qok (dlt rfl rfl) rfl (.same rfl (.same rfl .nil)) (NeedQ.all .nil) (fun Γx σx => ok_andW (dlt rfl rfl) rfl rfl rfl (fun h => h))) (.nil _ _)))))))))))))))))))))))) (.nil ?_)
  refine ak_cond rfl (fun ht => ?_) (fun ht => ?_)
  ·have h := cond_t ht h
   exact no_of h
  ·have h := cond_f ht h
   refine ak_exit rfl ?_
   obtain rfl := Option.some.inj h
   refine ak_conv (Γ' := []) (σ' := [(10000, .cells 125 [.str a0.s, .int .i64 a0.pos, .bool a0.bad])]) (.nil _) (.cons rfl (.cells (.cons (.refl _) (.cons (.refl _) (.cons (.refl _) (.nil))))) (.nil _)) ?_
   exact ak_endC (fn := Tryz.f69) [(10000, .cells 125 [.str a0.s, .int .i64 a0.pos, .bool a0.bad])] (.cons rfl (.refl _) (.nil _)) Tryz.func69 rfl trivial ⟨rfl, rfl⟩)
theorem d69 {a0 : QueryReader} {r : QueryReader} (h : f69 (.e69 a0) = some r) : Does Tryz.prog GG 69 [.ref 10000 0] [(10000, .cells 125 [.str a0.s, .int .i64 a0.pos, .bool a0.bad])] (fun z σ' => z = .tup [] ∧ σ' = [(10000, .cells 125 [.str r.s, .int .i64 r.pos, .bool r.bad])]) := fn_of (fn := Tryz.f69) Tryz.func69 rfl Tryz.ntmps69 rfl (w69 _ _ h)
/-- (*riffle/utf.Walk).Sign -/
noncomputable abbrev b258 : Code := codeOf Tryz.f258
inductive L258 where
 | e258 (a0 : UtfWalk)
noncomputable def f258 : L258 → Option Int
 | .e258 a0 =>
  none
def M258 : L258 → Int → Prop
 | .e258 a0, r => ∀ (w : World) (F : Nat → Prop) (ρ : Rho), AK Tryz.prog (ctx GG 12 w F ρ [(10000, .cells 189 [.int .i64 a0.left, .int .u8 a0.low, .int .u8 a0.top, .int .i32 a0.sign])]) 258 [.code b258] (argE 0 [.ref 10000 0]) [(10000, .cells 189 [.int .i64 a0.left, .int .u8 a0.low, .int .u8 a0.top, .int .i32 a0.sign])] (fun z σ' => z = .int .i32 r ∧ σ' = [(10000, .cells 189 [.int .i64 a0.left, .int .u8 a0.low, .int .u8 a0.top, .int .i32 a0.sign])])
theorem w258 : ∀ (l : L258) (r : Int), f258 l = some r → M258 l r := (by
 intro l r h
 cases l with
 | e258 a0 =>
  intro w F ρ
  dsimp only [f258] at h
  exact no_of h)
theorem d258 {a0 : UtfWalk} {r : Int} (h : f258 (.e258 a0) = some r) : Does Tryz.prog GG 258 [.ref 10000 0] [(10000, .cells 189 [.int .i64 a0.left, .int .u8 a0.low, .int .u8 a0.top, .int .i32 a0.sign])] (fun z σ' => z = .int .i32 r ∧ σ' = [(10000, .cells 189 [.int .i64 a0.left, .int .u8 a0.low, .int .u8 a0.top, .int .i32 a0.sign])]) := fn_of (fn := Tryz.f258) Tryz.func258 rfl Tryz.ntmps258 rfl (w258 _ _ h)
end Go.Proofs.YtonlbdholdaifaaGreatDoor
end
section
set_option linter.unusedVariables false
set_option linter.unusedSimpArgs false
set_option maxRecDepth 10000
namespace Go.Proofs.YtonlbdholdaifaaGreatDoor
open Go Go.Rf Go.Proofs
/-- unicode/utf8.appendRuneNonASCII -/
noncomputable abbrev b239 : Code := codeOf Tryz.f239
inductive L239 where
 | e239 (a0 : List UInt8) (a1 : Int)
noncomputable def f239 : L239 → Option (List UInt8)
 | .e239 a0 a1 =>
  none
def M239 : L239 → (List UInt8) → Prop
 | .e239 a0 a1, r => ∀ (w : World) (F : Nat → Prop) (ρ : Rho), AK Tryz.prog (ctx GG 78 w F ρ [(20000, .arr 5 Ty.u8 a0)]) 239 [.code b239] (argE 0 [.mf 1 20000, .int .i32 a1]) [(20000, .arr 5 Ty.u8 a0)] (fun z σ' => z = .mf 1 30000 ∧ σ' = [(30000, .arr 5 Ty.u8 r)])
theorem w239 : ∀ (l : L239) (r : List UInt8), f239 l = some r → M239 l r := (by
 intro l r h
 cases l with
 | e239 a0 a1 =>
  intro w F ρ
  dsimp only [f239] at h
  exact no_of h)
theorem d239 {a0 : List UInt8} {a1 : Int} {r : List UInt8} (h : f239 (.e239 a0 a1) = some r) : Does Tryz.prog GG 239 [.mf 1 20000, .int .i32 a1] [(20000, .arr 5 Ty.u8 a0)] (fun z σ' => z = .mf 1 30000 ∧ σ' = [(30000, .arr 5 Ty.u8 r)]) := fn_of (fn := Tryz.f239) Tryz.func239 rfl Tryz.ntmps239 rfl (w239 _ _ h)
/-- unicode/utf8.AppendRune -/
noncomputable abbrev b218 : Code := codeOf Tryz.f218
inductive L218 where
 | e218 (a0 : List UInt8) (a1 : Int)
noncomputable def f218 : L218 → Option (List UInt8)
 | .e218 a0 a1 =>
  none
def M218 : L218 → (List UInt8) → Prop
 | .e218 a0 a1, r => ∀ (w : World) (F : Nat → Prop) (ρ : Rho), AK Tryz.prog (ctx GG 16 w F ρ [(20000, .arr 5 Ty.u8 a0)]) 218 [.code b218] (argE 0 [.mf 1 20000, .int .i32 a1]) [(20000, .arr 5 Ty.u8 a0)] (fun z σ' => z = .mf 1 30000 ∧ σ' = [(30000, .arr 5 Ty.u8 r)])
theorem w218 : ∀ (l : L218) (r : List UInt8), f218 l = some r → M218 l r := (by
 intro l r h
 cases l with
 | e218 a0 a1 =>
  intro w F ρ
  dsimp only [f218] at h
  exact no_of h)
theorem d218 {a0 : List UInt8} {a1 : Int} {r : List UInt8} (h : f218 (.e218 a0 a1) = some r) : Does Tryz.prog GG 218 [.mf 1 20000, .int .i32 a1] [(20000, .arr 5 Ty.u8 a0)] (fun z σ' => z = .mf 1 30000 ∧ σ' = [(30000, .arr 5 Ty.u8 r)]) := fn_of (fn := Tryz.f218) Tryz.func218 rfl Tryz.ntmps218 rfl (w218 _ _ h)
/-- riffle/utf.Put -/
noncomputable abbrev b257 : Code := codeOf Tryz.f257
inductive L257 where
 | e257 (a0 : List UInt8) (a1 : Int)
noncomputable def f257 : L257 → Option (List UInt8)
 | .e257 a0 a1 =>
  none
def M257 : L257 → (List UInt8) → Prop
 | .e257 a0 a1, r => ∀ (w : World) (F : Nat → Prop) (ρ : Rho), AK Tryz.prog (ctx GG 8 w F ρ [(20000, .arr 5 Ty.u8 a0)]) 257 [.code b257] (argE 0 [.mf 1 20000, .int .i32 a1]) [(20000, .arr 5 Ty.u8 a0)] (fun z σ' => z = .mf 1 30000 ∧ σ' = [(30000, .arr 5 Ty.u8 r)])
theorem w257 : ∀ (l : L257) (r : List UInt8), f257 l = some r → M257 l r := (by
 intro l r h
 cases l with
 | e257 a0 a1 =>
  intro w F ρ
  dsimp only [f257] at h
  exact no_of h)
theorem d257 {a0 : List UInt8} {a1 : Int} {r : List UInt8} (h : f257 (.e257 a0 a1) = some r) : Does Tryz.prog GG 257 [.mf 1 20000, .int .i32 a1] [(20000, .arr 5 Ty.u8 a0)] (fun z σ' => z = .mf 1 30000 ∧ σ' = [(30000, .arr 5 Ty.u8 r)]) := fn_of (fn := Tryz.f257) Tryz.func257 rfl Tryz.ntmps257 rfl (w257 _ _ h)
/-- (*riffle/quote.Walk).among -/
noncomputable abbrev b244 : Code := codeOf Tryz.f244
inductive L244 where
 | e244 (a0 : QuoteWalk) (a1 : Int)
noncomputable def f244 : L244 → Option (Int × QuoteWalk)
 | .e244 a0 a1 =>
  none
def M244 : L244 → (Int × QuoteWalk) → Prop
 | .e244 a0 a1, r => ∀ (w : World) (F : Nat → Prop) (ρ : Rho), AK Tryz.prog (ctx GG 48 w F ρ [(20000, .arr 5 Ty.u8 a0.text), (10000, .cells 265 [.int .i64 a0.pos, .int .i64 a0.sign.left, .int .u8 a0.sign.low, .int .u8 a0.sign.top, .int .i32 a0.sign.sign, .mf 1 20000, .int .i64 a0.left, .int .i64 a0.unit, .int .i64 a0.first])]) 244 [.code b244] (argE 0 [.ref 10000 0, .int .u8 a1]) [(20000, .arr 5 Ty.u8 a0.text), (10000, .cells 265 [.int .i64 a0.pos, .int .i64 a0.sign.left, .int .u8 a0.sign.low, .int .u8 a0.sign.top, .int .i32 a0.sign.sign, .mf 1 20000, .int .i64 a0.left, .int .i64 a0.unit, .int .i64 a0.first])] (fun z σ' => z = .int .i64 r.1 ∧ σ' = [(20000, .arr 5 Ty.u8 r.2.text), (10000, .cells 265 [.int .i64 r.2.pos, .int .i64 r.2.sign.left, .int .u8 r.2.sign.low, .int .u8 r.2.sign.top, .int .i32 r.2.sign.sign, .mf 1 20000, .int .i64 r.2.left, .int .i64 r.2.unit, .int .i64 r.2.first])])
theorem w244 : ∀ (l : L244) (r : Int × QuoteWalk), f244 l = some r → M244 l r := (by
 intro l r h
 cases l with
 | e244 a0 a1 =>
  intro w F ρ
  dsimp only [f244] at h
  exact no_of h)
theorem d244 {a0 : QuoteWalk} {a1 : Int} {r : Int × QuoteWalk} (h : f244 (.e244 a0 a1) = some r) : Does Tryz.prog GG 244 [.ref 10000 0, .int .u8 a1] [(20000, .arr 5 Ty.u8 a0.text), (10000, .cells 265 [.int .i64 a0.pos, .int .i64 a0.sign.left, .int .u8 a0.sign.low, .int .u8 a0.sign.top, .int .i32 a0.sign.sign, .mf 1 20000, .int .i64 a0.left, .int .i64 a0.unit, .int .i64 a0.first])] (fun z σ' => z = .int .i64 r.1 ∧ σ' = [(20000, .arr 5 Ty.u8 r.2.text), (10000, .cells 265 [.int .i64 r.2.pos, .int .i64 r.2.sign.left, .int .u8 r.2.sign.low, .int .u8 r.2.sign.top, .int .i32 r.2.sign.sign, .mf 1 20000, .int .i64 r.2.left, .int .i64 r.2.unit, .int .i64 r.2.first])]) := fn_of (fn := Tryz.f244) Tryz.func244 rfl Tryz.ntmps244 rfl (w244 _ _ h)
/-- riffle/quote.letters -/
noncomputable abbrev b259 : Code := codeOf Tryz.f259
inductive L259 where
 | e259 (a0 : Int)
noncomputable def f259 : L259 → Option (Int × Bool)
 | .e259 a0 =>
  none
def M259 : L259 → (Int × Bool) → Prop
 | .e259 a0, r => ∀ (w : World) (F : Nat → Prop) (ρ : Rho), AK Tryz.prog (ctx GG 20 w F ρ []) 259 [.code b259] (argE 0 [.int .u8 a0]) [] (fun z _ => z = .tup [.int .u8 r.1, .bool r.2])
theorem w259 : ∀ (l : L259) (r : Int × Bool), f259 l = some r → M259 l r := (by
 intro l r h
 cases l with
 | e259 a0 =>
  intro w F ρ
  dsimp only [f259] at h
  exact no_of h)
theorem d259 {a0 : Int} {r : Int × Bool} (h : f259 (.e259 a0) = some r) : Does Tryz.prog GG 259 [.int .u8 a0] [] (fun z _ => z = .tup [.int .u8 r.1, .bool r.2]) := fn_of (fn := Tryz.f259) Tryz.func259 rfl Tryz.ntmps259 rfl (w259 _ _ h)
/-- (*riffle/quote.Walk).slash -/
noncomputable abbrev b245 : Code := codeOf Tryz.f245
inductive L245 where
 | e245 (a0 : QuoteWalk) (a1 : Int)
noncomputable def f245 : L245 → Option (Int × QuoteWalk)
 | .e245 a0 a1 =>
  none
def M245 : L245 → (Int × QuoteWalk) → Prop
 | .e245 a0 a1, r => ∀ (w : World) (F : Nat → Prop) (ρ : Rho), AK Tryz.prog (ctx GG 41 w F ρ [(20000, .arr 5 Ty.u8 a0.text), (10000, .cells 265 [.int .i64 a0.pos, .int .i64 a0.sign.left, .int .u8 a0.sign.low, .int .u8 a0.sign.top, .int .i32 a0.sign.sign, .mf 1 20000, .int .i64 a0.left, .int .i64 a0.unit, .int .i64 a0.first])]) 245 [.code b245] (argE 0 [.ref 10000 0, .int .u8 a1]) [(20000, .arr 5 Ty.u8 a0.text), (10000, .cells 265 [.int .i64 a0.pos, .int .i64 a0.sign.left, .int .u8 a0.sign.low, .int .u8 a0.sign.top, .int .i32 a0.sign.sign, .mf 1 20000, .int .i64 a0.left, .int .i64 a0.unit, .int .i64 a0.first])] (fun z σ' => z = .int .i64 r.1 ∧ σ' = [(20000, .arr 5 Ty.u8 r.2.text), (10000, .cells 265 [.int .i64 r.2.pos, .int .i64 r.2.sign.left, .int .u8 r.2.sign.low, .int .u8 r.2.sign.top, .int .i32 r.2.sign.sign, .mf 1 20000, .int .i64 r.2.left, .int .i64 r.2.unit, .int .i64 r.2.first])])
theorem w245 : ∀ (l : L245) (r : Int × QuoteWalk), f245 l = some r → M245 l r := (by
 intro l r h
 cases l with
 | e245 a0 a1 =>
  intro w F ρ
  dsimp only [f245] at h
  exact no_of h)
theorem d245 {a0 : QuoteWalk} {a1 : Int} {r : Int × QuoteWalk} (h : f245 (.e245 a0 a1) = some r) : Does Tryz.prog GG 245 [.ref 10000 0, .int .u8 a1] [(20000, .arr 5 Ty.u8 a0.text), (10000, .cells 265 [.int .i64 a0.pos, .int .i64 a0.sign.left, .int .u8 a0.sign.low, .int .u8 a0.sign.top, .int .i32 a0.sign.sign, .mf 1 20000, .int .i64 a0.left, .int .i64 a0.unit, .int .i64 a0.first])] (fun z σ' => z = .int .i64 r.1 ∧ σ' = [(20000, .arr 5 Ty.u8 r.2.text), (10000, .cells 265 [.int .i64 r.2.pos, .int .i64 r.2.sign.left, .int .u8 r.2.sign.low, .int .u8 r.2.sign.top, .int .i32 r.2.sign.sign, .mf 1 20000, .int .i64 r.2.left, .int .i64 r.2.unit, .int .i64 r.2.first])]) := fn_of (fn := Tryz.f245) Tryz.func245 rfl Tryz.ntmps245 rfl (w245 _ _ h)
/-- riffle/octet.Hex -/
noncomputable abbrev b260 : Code := codeOf Tryz.f260
inductive L260 where
 | e260 (a0 : Int)
noncomputable def f260 : L260 → Option (Int × Bool)
 | .e260 a0 =>
  none
def M260 : L260 → (Int × Bool) → Prop
 | .e260 a0, r => ∀ (w : World) (F : Nat → Prop) (ρ : Rho), AK Tryz.prog (ctx GG 22 w F ρ []) 260 [.code b260] (argE 0 [.int .u8 a0]) [] (fun z _ => z = .tup [.int .i64 r.1, .bool r.2])
theorem w260 : ∀ (l : L260) (r : Int × Bool), f260 l = some r → M260 l r := (by
 intro l r h
 cases l with
 | e260 a0 =>
  intro w F ρ
  dsimp only [f260] at h
  exact no_of h)
theorem d260 {a0 : Int} {r : Int × Bool} (h : f260 (.e260 a0) = some r) : Does Tryz.prog GG 260 [.int .u8 a0] [] (fun z _ => z = .tup [.int .i64 r.1, .bool r.2]) := fn_of (fn := Tryz.f260) Tryz.func260 rfl Tryz.ntmps260 rfl (w260 _ _ h)
/-- riffle/utf.Unit -/
noncomputable abbrev b261 : Code := codeOf Tryz.f261
inductive L261 where
 | e261 (a0 : Int)
noncomputable def f261 : L261 → Option Int
 | .e261 a0 =>
  none
def M261 : L261 → Int → Prop
 | .e261 a0, r => ∀ (w : World) (F : Nat → Prop) (ρ : Rho), AK Tryz.prog (ctx GG 17 w F ρ []) 261 [.code b261] (argE 0 [.int .i64 a0]) [] (fun z _ => z = .int .i64 r)
theorem w261 : ∀ (l : L261) (r : Int), f261 l = some r → M261 l r := (by
 intro l r h
 cases l with
 | e261 a0 =>
  intro w F ρ
  dsimp only [f261] at h
  exact no_of h)
theorem d261 {a0 : Int} {r : Int} (h : f261 (.e261 a0) = some r) : Does Tryz.prog GG 261 [.int .i64 a0] [] (fun z _ => z = .int .i64 r) := fn_of (fn := Tryz.f261) Tryz.func261 rfl Tryz.ntmps261 rfl (w261 _ _ h)
/-- (*riffle/quote.Walk).digit -/
noncomputable abbrev b246 : Code := codeOf Tryz.f246
inductive L246 where
 | e246 (a0 : QuoteWalk) (a1 : Int)
noncomputable def f246 : L246 → Option (Int × QuoteWalk)
 | .e246 a0 a1 =>
  none
def M246 : L246 → (Int × QuoteWalk) → Prop
 | .e246 a0 a1, r => ∀ (w : World) (F : Nat → Prop) (ρ : Rho), AK Tryz.prog (ctx GG 163 w F ρ [(20000, .arr 5 Ty.u8 a0.text), (10000, .cells 265 [.int .i64 a0.pos, .int .i64 a0.sign.left, .int .u8 a0.sign.low, .int .u8 a0.sign.top, .int .i32 a0.sign.sign, .mf 1 20000, .int .i64 a0.left, .int .i64 a0.unit, .int .i64 a0.first])]) 246 [.code b246] (argE 0 [.ref 10000 0, .int .u8 a1]) [(20000, .arr 5 Ty.u8 a0.text), (10000, .cells 265 [.int .i64 a0.pos, .int .i64 a0.sign.left, .int .u8 a0.sign.low, .int .u8 a0.sign.top, .int .i32 a0.sign.sign, .mf 1 20000, .int .i64 a0.left, .int .i64 a0.unit, .int .i64 a0.first])] (fun z σ' => z = .int .i64 r.1 ∧ σ' = [(20000, .arr 5 Ty.u8 r.2.text), (10000, .cells 265 [.int .i64 r.2.pos, .int .i64 r.2.sign.left, .int .u8 r.2.sign.low, .int .u8 r.2.sign.top, .int .i32 r.2.sign.sign, .mf 1 20000, .int .i64 r.2.left, .int .i64 r.2.unit, .int .i64 r.2.first])])
theorem w246 : ∀ (l : L246) (r : Int × QuoteWalk), f246 l = some r → M246 l r := (by
 intro l r h
 cases l with
 | e246 a0 a1 =>
  intro w F ρ
  dsimp only [f246] at h
  exact no_of h)
theorem d246 {a0 : QuoteWalk} {a1 : Int} {r : Int × QuoteWalk} (h : f246 (.e246 a0 a1) = some r) : Does Tryz.prog GG 246 [.ref 10000 0, .int .u8 a1] [(20000, .arr 5 Ty.u8 a0.text), (10000, .cells 265 [.int .i64 a0.pos, .int .i64 a0.sign.left, .int .u8 a0.sign.low, .int .u8 a0.sign.top, .int .i32 a0.sign.sign, .mf 1 20000, .int .i64 a0.left, .int .i64 a0.unit, .int .i64 a0.first])] (fun z σ' => z = .int .i64 r.1 ∧ σ' = [(20000, .arr 5 Ty.u8 r.2.text), (10000, .cells 265 [.int .i64 r.2.pos, .int .i64 r.2.sign.left, .int .u8 r.2.sign.low, .int .u8 r.2.sign.top, .int .i32 r.2.sign.sign, .mf 1 20000, .int .i64 r.2.left, .int .i64 r.2.unit, .int .i64 r.2.first])]) := fn_of (fn := Tryz.f246) Tryz.func246 rfl Tryz.ntmps246 rfl (w246 _ _ h)
/-- (*riffle/quote.Walk).Step -/
noncomputable abbrev b227 : Code := codeOf Tryz.f227
inductive L227 where
 | e227 (a0 : QuoteWalk) (a1 : Int)
noncomputable def f227 : L227 → Option (Int × QuoteWalk)
 | .e227 a0 a1 =>
  none
def M227 : L227 → (Int × QuoteWalk) → Prop
 | .e227 a0 a1, r => ∀ (w : World) (F : Nat → Prop) (ρ : Rho), AK Tryz.prog (ctx GG 44 w F ρ [(20000, .arr 5 Ty.u8 a0.text), (10000, .cells 265 [.int .i64 a0.pos, .int .i64 a0.sign.left, .int .u8 a0.sign.low, .int .u8 a0.sign.top, .int .i32 a0.sign.sign, .mf 1 20000, .int .i64 a0.left, .int .i64 a0.unit, .int .i64 a0.first])]) 227 [.code b227] (argE 0 [.ref 10000 0, .int .u8 a1]) [(20000, .arr 5 Ty.u8 a0.text), (10000, .cells 265 [.int .i64 a0.pos, .int .i64 a0.sign.left, .int .u8 a0.sign.low, .int .u8 a0.sign.top, .int .i32 a0.sign.sign, .mf 1 20000, .int .i64 a0.left, .int .i64 a0.unit, .int .i64 a0.first])] (fun z σ' => z = .int .i64 r.1 ∧ σ' = [(20000, .arr 5 Ty.u8 r.2.text), (10000, .cells 265 [.int .i64 r.2.pos, .int .i64 r.2.sign.left, .int .u8 r.2.sign.low, .int .u8 r.2.sign.top, .int .i32 r.2.sign.sign, .mf 1 20000, .int .i64 r.2.left, .int .i64 r.2.unit, .int .i64 r.2.first])])
theorem w227 : ∀ (l : L227) (r : Int × QuoteWalk), f227 l = some r → M227 l r := (by
 intro l r h
 cases l with
 | e227 a0 a1 =>
  intro w F ρ
  dsimp only [f227] at h
  exact no_of h)
theorem d227 {a0 : QuoteWalk} {a1 : Int} {r : Int × QuoteWalk} (h : f227 (.e227 a0 a1) = some r) : Does Tryz.prog GG 227 [.ref 10000 0, .int .u8 a1] [(20000, .arr 5 Ty.u8 a0.text), (10000, .cells 265 [.int .i64 a0.pos, .int .i64 a0.sign.left, .int .u8 a0.sign.low, .int .u8 a0.sign.top, .int .i32 a0.sign.sign, .mf 1 20000, .int .i64 a0.left, .int .i64 a0.unit, .int .i64 a0.first])] (fun z σ' => z = .int .i64 r.1 ∧ σ' = [(20000, .arr 5 Ty.u8 r.2.text), (10000, .cells 265 [.int .i64 r.2.pos, .int .i64 r.2.sign.left, .int .u8 r.2.sign.low, .int .u8 r.2.sign.top, .int .i32 r.2.sign.sign, .mf 1 20000, .int .i64 r.2.left, .int .i64 r.2.unit, .int .i64 r.2.first])]) := fn_of (fn := Tryz.f227) Tryz.func227 rfl Tryz.ntmps227 rfl (w227 _ _ h)
/-- (*riffle/quote.Walk).Text -/
noncomputable abbrev b228 : Code := codeOf Tryz.f228
inductive L228 where
 | e228 (a0 : QuoteWalk)
noncomputable def f228 : L228 → Option (List UInt8)
 | .e228 a0 =>
  none
def M228 : L228 → (List UInt8) → Prop
 | .e228 a0, r => ∀ (w : World) (F : Nat → Prop) (ρ : Rho), AK Tryz.prog (ctx GG 8 w F ρ [(12000, .arr 5 Ty.u8 a0.text), (10000, .cells 265 [.int .i64 a0.pos, .int .i64 a0.sign.left, .int .u8 a0.sign.low, .int .u8 a0.sign.top, .int .i32 a0.sign.sign, .mf 1 12000, .int .i64 a0.left, .int .i64 a0.unit, .int .i64 a0.first])]) 228 [.code b228] (argE 0 [.ref 10000 0]) [(12000, .arr 5 Ty.u8 a0.text), (10000, .cells 265 [.int .i64 a0.pos, .int .i64 a0.sign.left, .int .u8 a0.sign.low, .int .u8 a0.sign.top, .int .i32 a0.sign.sign, .mf 1 12000, .int .i64 a0.left, .int .i64 a0.unit, .int .i64 a0.first])] (fun z σ' => z = .str r ∧ σ' = [(12000, .arr 5 Ty.u8 a0.text), (10000, .cells 265 [.int .i64 a0.pos, .int .i64 a0.sign.left, .int .u8 a0.sign.low, .int .u8 a0.sign.top, .int .i32 a0.sign.sign, .mf 1 12000, .int .i64 a0.left, .int .i64 a0.unit, .int .i64 a0.first])])
theorem w228 : ∀ (l : L228) (r : List UInt8), f228 l = some r → M228 l r := (by
 intro l r h
 cases l with
 | e228 a0 =>
  intro w F ρ
  dsimp only [f228] at h
  exact no_of h)
theorem d228 {a0 : QuoteWalk} {r : List UInt8} (h : f228 (.e228 a0) = some r) : Does Tryz.prog GG 228 [.ref 10000 0] [(12000, .arr 5 Ty.u8 a0.text), (10000, .cells 265 [.int .i64 a0.pos, .int .i64 a0.sign.left, .int .u8 a0.sign.low, .int .u8 a0.sign.top, .int .i32 a0.sign.sign, .mf 1 12000, .int .i64 a0.left, .int .i64 a0.unit, .int .i64 a0.first])] (fun z σ' => z = .str r ∧ σ' = [(12000, .arr 5 Ty.u8 a0.text), (10000, .cells 265 [.int .i64 a0.pos, .int .i64 a0.sign.left, .int .u8 a0.sign.low, .int .u8 a0.sign.top, .int .i32 a0.sign.sign, .mf 1 12000, .int .i64 a0.left, .int .i64 a0.unit, .int .i64 a0.first])]) := fn_of (fn := Tryz.f228) Tryz.func228 rfl Tryz.ntmps228 rfl (w228 _ _ h)
/-- riffle/quote.Read -/
noncomputable abbrev b234 : Code := codeOf Tryz.f234
inductive L234 where
 | e234 (a0 : List UInt8)
noncomputable def f234 : L234 → Option ((List UInt8) × Int × Int)
 | .e234 a0 =>
  none
def M234 : L234 → ((List UInt8) × Int × Int) → Prop
 | .e234 a0, r => ∀ (w : World) (F : Nat → Prop) (ρ : Rho), AK Tryz.prog (ctx GG 31 w F ρ []) 234 [.code b234] (argE 0 [.str a0]) [] (fun z _ => z = .tup [.str r.1, .int .i64 r.2.1, .int .i64 r.2.2])
theorem w234 : ∀ (l : L234) (r : (List UInt8) × Int × Int), f234 l = some r → M234 l r := (by
 intro l r h
 cases l with
 | e234 a0 =>
  intro w F ρ
  dsimp only [f234] at h
  exact no_of h)
theorem d234 {a0 : List UInt8} {r : (List UInt8) × Int × Int} (h : f234 (.e234 a0) = some r) : Does Tryz.prog GG 234 [.str a0] [] (fun z _ => z = .tup [.str r.1, .int .i64 r.2.1, .int .i64 r.2.2]) := fn_of (fn := Tryz.f234) Tryz.func234 rfl Tryz.ntmps234 rfl (w234 _ _ h)
/-- (*riffle/query.reader).quoted -/
noncomputable abbrev b206 : Code := codeOf Tryz.f206
inductive L206 where
 | e206 (a0 : QueryReader) (a1 : Int)
noncomputable def f206 : L206 → Option ((List UInt8) × QueryReader)
 | .e206 a0 a1 =>
  none
def M206 : L206 → ((List UInt8) × QueryReader) → Prop
 | .e206 a0 a1, r => ∀ (w : World) (F : Nat → Prop) (ρ : Rho), AK Tryz.prog (ctx GG 201 w F ρ [(10000, .cells 125 [.str a0.s, .int .i64 a0.pos, .bool a0.bad])]) 206 [.code b206] (argE 0 [.ref 10000 0, .int .u8 a1]) [(10000, .cells 125 [.str a0.s, .int .i64 a0.pos, .bool a0.bad])] (fun z σ' => z = .str r.1 ∧ σ' = [(10000, .cells 125 [.str r.2.s, .int .i64 r.2.pos, .bool r.2.bad])])
theorem w206 : ∀ (l : L206) (r : (List UInt8) × QueryReader), f206 l = some r → M206 l r := (by
 intro l r h
 cases l with
 | e206 a0 a1 =>
  intro w F ρ
  dsimp only [f206] at h
  exact no_of h)
theorem d206 {a0 : QueryReader} {a1 : Int} {r : (List UInt8) × QueryReader} (h : f206 (.e206 a0 a1) = some r) : Does Tryz.prog GG 206 [.ref 10000 0, .int .u8 a1] [(10000, .cells 125 [.str a0.s, .int .i64 a0.pos, .bool a0.bad])] (fun z σ' => z = .str r.1 ∧ σ' = [(10000, .cells 125 [.str r.2.s, .int .i64 r.2.pos, .bool r.2.bad])]) := fn_of (fn := Tryz.f206) Tryz.func206 rfl Tryz.ntmps206 rfl (w206 _ _ h)
/-- internal/strconv.lower -/
noncomputable abbrev b275 : Code := codeOf Tryz.f275
inductive L275 where
 | e275 (a0 : Int)
noncomputable def f275 : L275 → Option Int
 | .e275 a0 =>
  none
def M275 : L275 → Int → Prop
 | .e275 a0, r => ∀ (w : World) (F : Nat → Prop) (ρ : Rho), AK Tryz.prog (ctx GG 5 w F ρ []) 275 [.code b275] (argE 0 [.int .u8 a0]) [] (fun z _ => z = .int .u8 r)
theorem w275 : ∀ (l : L275) (r : Int), f275 l = some r → M275 l r := (by
 intro l r h
 cases l with
 | e275 a0 =>
  intro w F ρ
  dsimp only [f275] at h
  exact no_of h)
theorem d275 {a0 : Int} {r : Int} (h : f275 (.e275 a0) = some r) : Does Tryz.prog GG 275 [.int .u8 a0] [] (fun z _ => z = .int .u8 r) := fn_of (fn := Tryz.f275) Tryz.func275 rfl Tryz.ntmps275 rfl (w275 _ _ h)
/-- internal/strconv.underscoreOK -/
noncomputable abbrev b276 : Code := codeOf Tryz.f276
inductive L276 where
 | e276 (a0 : List UInt8)
noncomputable def f276 : L276 → Option Bool
 | .e276 a0 =>
  none
def M276 : L276 → Bool → Prop
 | .e276 a0, r => ∀ (w : World) (F : Nat → Prop) (ρ : Rho), AK Tryz.prog (ctx GG 94 w F ρ []) 276 [.code b276] (argE 0 [.str a0]) [] (fun z _ => z = .bool r)
theorem w276 : ∀ (l : L276) (r : Bool), f276 l = some r → M276 l r := (by
 intro l r h
 cases l with
 | e276 a0 =>
  intro w F ρ
  dsimp only [f276] at h
  exact no_of h)
theorem d276 {a0 : List UInt8} {r : Bool} (h : f276 (.e276 a0) = some r) : Does Tryz.prog GG 276 [.str a0] [] (fun z _ => z = .bool r) := fn_of (fn := Tryz.f276) Tryz.func276 rfl Tryz.ntmps276 rfl (w276 _ _ h)
/-- internal/strconv.ParseUint -/
noncomputable abbrev b272 : Code := codeOf Tryz.f272
inductive L272 where
 | e272 (a0 : List UInt8) (a1 : Int) (a2 : Int)
noncomputable def f272 : L272 → Option (Int × Unit)
 | .e272 a0 a1 a2 =>
  none
def M272 : L272 → (Int × Unit) → Prop
 | .e272 a0 a1 a2, r => ∀ (w : World) (F : Nat → Prop) (ρ : Rho), AK Tryz.prog (ctx GG 172 w F ρ []) 272 [.code b272] (argE 0 [.str a0, .int .i64 a1, .int .i64 a2]) [] (fun z _ => z = .tup [.int .u64 r.1, .nili])
theorem w272 : ∀ (l : L272) (r : Int × Unit), f272 l = some r → M272 l r := (by
 intro l r h
 cases l with
 | e272 a0 a1 a2 =>
  intro w F ρ
  dsimp only [f272] at h
  exact no_of h)
theorem d272 {a0 : List UInt8} {a1 : Int} {a2 : Int} {r : Int × Unit} (h : f272 (.e272 a0 a1 a2) = some r) : Does Tryz.prog GG 272 [.str a0, .int .i64 a1, .int .i64 a2] [] (fun z _ => z = .tup [.int .u64 r.1, .nili]) := fn_of (fn := Tryz.f272) Tryz.func272 rfl Tryz.ntmps272 rfl (w272 _ _ h)
/-- internal/strconv.ParseInt -/
noncomputable abbrev b267 : Code := codeOf Tryz.f267
inductive L267 where
 | e267 (a0 : List UInt8) (a1 : Int) (a2 : Int)
noncomputable def f267 : L267 → Option (Int × Unit)
 | .e267 a0 a1 a2 =>
  none
def M267 : L267 → (Int × Unit) → Prop
 | .e267 a0 a1 a2, r => ∀ (w : World) (F : Nat → Prop) (ρ : Rho), AK Tryz.prog (ctx GG 73 w F ρ []) 267 [.code b267] (argE 0 [.str a0, .int .i64 a1, .int .i64 a2]) [] (fun z _ => z = .tup [.int .i64 r.1, .nili])
theorem w267 : ∀ (l : L267) (r : Int × Unit), f267 l = some r → M267 l r := (by
 intro l r h
 cases l with
 | e267 a0 a1 a2 =>
  intro w F ρ
  dsimp only [f267] at h
  exact no_of h)
theorem d267 {a0 : List UInt8} {a1 : Int} {a2 : Int} {r : Int × Unit} (h : f267 (.e267 a0 a1 a2) = some r) : Does Tryz.prog GG 267 [.str a0, .int .i64 a1, .int .i64 a2] [] (fun z _ => z = .tup [.int .i64 r.1, .nili]) := fn_of (fn := Tryz.f267) Tryz.func267 rfl Tryz.ntmps267 rfl (w267 _ _ h)
end Go.Proofs.YtonlbdholdaifaaGreatDoor
end
