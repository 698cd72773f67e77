import Derived.Test.YtonlbdholdaifaaGreatDoorProg
import Derived.Test.YtonlbdholdaifaaGreatDoorRfp4
import Derived.Test.YtonlbdholdaifaaGreatDoorRgp1
import Derived.Test.YtonlbdholdaifaaGreatDoorRgp9
import Derived.Test.YtonlbdholdaifaaGreatDoorRgp7
import Derived.Test.YtonlbdholdaifaaGreatDoorRgp8
section
set_option linter.unusedVariables false
set_option linter.unusedSimpArgs false
set_option maxRecDepth 10000
namespace Go.Proofs.YtonlbdholdaifaaGreatDoor
open Go Go.Rf Go.Proofs
/-- riffle/rifflelaw16.same -/
noncomputable abbrev b16 : Code := codeOf Tryz.f16
inductive L16 where
 | e16 (a0 : List EvalNode) (a1 : List Ref16Node)
 | l16_0 (a0 : List EvalNode) (a1 : List Ref16Node) (a2 : Int) (a3 : Int)
noncomputable def f16 : L16 → Option Bool
 | .e16 a0 a1 =>
  if ((a0.length : Int) != (a1.length : Int)) = true then
   some false
  else
   f16 (.l16_0 a0 a1 (a0.length : Int) (0 : Int))
 | .l16_0 a0 a1 a2 a3 =>
  if (decide (a3 < a2)) = true then
   idx a0 a3 >>= fun v1 =>
   idx a1 a3 >>= fun v2 =>
   gd (!(v1.frm != v2.value.frm)) (idx a0 a3) >>= fun v3 =>
   gd (!(v1.frm != v2.value.frm)) (idx a1 a3) >>= fun v4 =>
   gd (!((v1.frm != v2.value.frm) || (v3.to != v4.value.to))) (idx a0 a3) >>= fun v5 =>
   gd (!((v1.frm != v2.value.frm) || (v3.to != v4.value.to))) (idx a1 a3) >>= fun v6 =>
   gd (!((v1.frm != v2.value.frm) || (v3.to != v4.value.to))) (f44 (.e44 v5.steps v6.steps)) >>= fun v7 =>
   if (((v1.frm != v2.value.frm) || (v3.to != v4.value.to)) || (!v7)) = true then
    some false
   else
    f16 (.l16_0 a0 a1 a2 (IntKind.wrap .i64 (a3 + (1 : Int))))
  else
   some true
 partial_fixpoint
def M16 : L16 → Bool → Prop
 | .e16 a0 a1, r => ∀ (w : World) (F : Nat → Prop) (ρ : Rho), AK Tryz.prog (ctx GG 57 w F ρ []) 16 [.code b16] (argE 0 [.sl Ty.sEvalNode a0, .sl Ty.sRef16Node a1]) [] (fun z _ => z = .bool r)
 | .l16_0 a0 a1 a2 a3, r => ∀ (w : World) (F : Nat → Prop) (ρ : Rho), AK Tryz.prog (ctx GG 57 w F ρ []) 16 [.code (c1 (c1 (c2 (c1 (c2 (c2 b16)))))), .inLoop (c1 (c1 (c2 (c1 (c2 (c2 b16)))))), .inBlock 0, .code (c2 (c2 (c2 b16)))] [(0, .sl Ty.sEvalNode a0), (1, .sl Ty.sRef16Node a1), (12, .int .i64 a2), (13, .int .i64 a3)] [] (fun z _ => z = .bool r)
theorem w16 : ∀ (l : L16) (r : Bool), f16 l = some r → M16 l r := f16.partial_correctness M16 (by
 intro f ih l r h
 cases l with
 | e16 a0 a1 =>
  intro w F ρ
  dsimp only at h
  refine ak_seq ?_
  refine ak_regionS (.cons rfl (ok_assign (dlt rfl rfl) rfl rfl) (.nil ?_))
  refine ak_seq ?_
  refine ak_seq ?_
  refine ak_regionS (.cons rfl (ok_move (dlt rfl rfl) rfl rfl) (.cons rfl (ok_lenS (τ := Ty.sEvalNode) (xs := a0) (dlt rfl rfl) rfl Tryz.underlying33 rfl) (.cons rfl (ok_move (dlt rfl rfl) rfl rfl) (.cons rfl (ok_lenS (τ := Ty.sRef16Node) (xs := a1) (dlt rfl rfl) rfl Tryz.underlying35 rfl) (.cons rfl (ok_neq (dlt rfl rfl) rfl rfl rfl) (.nil ?_))))))
  refine ak_cond rfl (fun ht => ?_) (fun ht => ?_)
  ·have h := cond_t ht h
   refine ak_seq ?_
   refine ak_regionS (.cons rfl (ok_assign (dlt rfl rfl) rfl rfl) (.nil ?_))
   obtain rfl := Option.some.inj h
   refine ak_conv (Γ' := [(4, .bool false)]) (σ' := []) (.cons rfl (.refl _) (.nil _)) (.nil _) ?_
   exact ak_ret (fn := Tryz.f16) Tryz.func16 rfl trivial rfl
  ·have h := cond_f ht h
   refine ak_skip ?_
   refine ak_seq ?_
   refine ak_seq ?_
   refine ak_regionS (.cons rfl (ok_move (dlt rfl rfl) rfl rfl) (.cons rfl (ok_lenS (τ := Ty.sEvalNode) (xs := a0) (dlt rfl rfl) rfl Tryz.underlying33 rfl) (.cons rfl (ok_move (dlt rfl rfl) rfl rfl) (.nil ?_))))
   refine ak_block ?_
   refine ak_loop ?_
   exact ak_conv (.cons rfl (.refl _) (.cons rfl (.refl _) (.cons rfl (.refl _) (.cons rfl (.refl _) (.nil _))))) (.nil _) (ih _ _ h w F ρ)
 | l16_0 a0 a1 a2 a3 =>
  intro w F ρ
  dsimp only at h
  refine ak_seq ?_
  refine ak_regionS (.cons rfl (ok_lss (dlt rfl rfl) rfl rfl rfl) (.nil ?_))
  refine ak_seq ?_
  refine ak_cond rfl (fun ht => ?_) (fun ht => ?_)
  ·have h := cond_t ht h
   refine ak_skip ?_
   refine ak_seq ?_
   refine ak_block ?_
   refine ak_seq ?_
   refine ak_regionS (.cons rfl (ok_move (dlt rfl rfl) rfl rfl) (.cons rfl (ok_assign (dlt rfl rfl) rfl rfl) (.nil ?_)))
   refine ak_seq ?_
   obtain ⟨v1, hv1, h⟩ := bind_of h
   obtain ⟨v2, hv2, h⟩ := bind_of h
   obtain ⟨v3, hv3, h⟩ := bind_of h
   obtain ⟨v4, hv4, h⟩ := bind_of h
   obtain ⟨v5, hv5, h⟩ := bind_of h
   obtain ⟨v6, hv6, h⟩ := bind_of h
   obtain ⟨v7, hv7, h⟩ := bind_of h
   refine ak_drawL [⟨some 16, [(0, .sl Ty.sEvalNode a0)], none, true, .sl Ty.sEvalNode a0, [], []⟩,
  ⟨some 17, [(5, .int .i64 a3)], none, true, .int .i64 a3, [], []⟩,
  ⟨some 18, [(16, .sl Ty.sEvalNode a0), (17, .int .i64 a3)], none, true, .rp [.sl Ty.sApiStep v1.steps, .int .i64 v1.frm, .int .i64 v1.to], [], []⟩,
  ⟨some 19, [(18, .rp [.sl Ty.sApiStep v1.steps, .int .i64 v1.frm, .int .i64 v1.to])], none, true, .rp [.int .i64 v1.frm, .int .i64 v1.to], [], []⟩,
  ⟨some 20, [(19, .rp [.int .i64 v1.frm, .int .i64 v1.to])], none, true, .int .i64 v1.frm, [], []⟩,
  ⟨some 21, [(1, .sl Ty.sRef16Node a1)], none, true, .sl Ty.sRef16Node a1, [], []⟩,
  ⟨some 22, [(5, .int .i64 a3)], none, true, .int .i64 a3, [], []⟩,
  ⟨some 23, [(21, .sl Ty.sRef16Node a1), (22, .int .i64 a3)], none, true, .rp [.int .i64 v2.value.kind, .int .i64 v2.value.frm, .int .i64 v2.value.to, .str v2.value.text, .sl Ty.sApiValue v2.value.items, .sl Ty.str v2.value.names, .sl Ty.sApiStep v2.steps], [], []⟩,
  ⟨some 24, [(23, .rp [.int .i64 v2.value.kind, .int .i64 v2.value.frm, .int .i64 v2.value.to, .str v2.value.text, .sl Ty.sApiValue v2.value.items, .sl Ty.str v2.value.names, .sl Ty.sApiStep v2.steps])], none, true, .rp [.int .i64 v2.value.kind, .int .i64 v2.value.frm, .int .i64 v2.value.to, .str v2.value.text, .sl Ty.sApiValue v2.value.items, .sl Ty.str v2.value.names, .sl Ty.sApiStep v2.steps], [], []⟩,
  ⟨some 25, [(24, .rp [.int .i64 v2.value.kind, .int .i64 v2.value.frm, .int .i64 v2.value.to, .str v2.value.text, .sl Ty.sApiValue v2.value.items, .sl Ty.str v2.value.names, .sl Ty.sApiStep v2.steps])], none, true, .rp [.int .i64 v2.value.frm, .int .i64 v2.value.to, .str v2.value.text, .sl Ty.sApiValue v2.value.items, .sl Ty.str v2.value.names, .sl Ty.sApiStep v2.steps], [], []⟩,
  ⟨some 26, [(25, .rp [.int .i64 v2.value.frm, .int .i64 v2.value.to, .str v2.value.text, .sl Ty.sApiValue v2.value.items, .sl Ty.str v2.value.names, .sl Ty.sApiStep v2.steps])], none, true, .int .i64 v2.value.frm, [], []⟩,
  ⟨some 27, [(20, .int .i64 v1.frm), (26, .int .i64 v2.value.frm)], none, true, .bool (v1.frm != v2.value.frm), [], []⟩,
  ⟨some 28, [(27, .bool (v1.frm != v2.value.frm))], none, true, .bool (v1.frm != v2.value.frm), [], []⟩,
  ⟨some 29, [(0, .sl Ty.sEvalNode a0)], some 28, (!(v1.frm != v2.value.frm)), .sl Ty.sEvalNode a0, [], []⟩,
  ⟨some 30, [(5, .int .i64 a3)], some 28, (!(v1.frm != v2.value.frm)), .int .i64 a3, [], []⟩,
  ⟨some 31, [(29, .sl Ty.sEvalNode a0), (30, .int .i64 a3)], some 28, (!(v1.frm != v2.value.frm)), .rp [.sl Ty.sApiStep v3.steps, .int .i64 v3.frm, .int .i64 v3.to], [], []⟩,
  ⟨some 32, [(31, .rp [.sl Ty.sApiStep v3.steps, .int .i64 v3.frm, .int .i64 v3.to])], some 28, (!(v1.frm != v2.value.frm)), .rp [.int .i64 v3.to], [], []⟩,
  ⟨some 33, [(32, .rp [.int .i64 v3.to])], some 28, (!(v1.frm != v2.value.frm)), .int .i64 v3.to, [], []⟩,
  ⟨some 34, [(1, .sl Ty.sRef16Node a1)], some 28, (!(v1.frm != v2.value.frm)), .sl Ty.sRef16Node a1, [], []⟩,
  ⟨some 35, [(5, .int .i64 a3)], some 28, (!(v1.frm != v2.value.frm)), .int .i64 a3, [], []⟩,
  ⟨some 36, [(34, .sl Ty.sRef16Node a1), (35, .int .i64 a3)], some 28, (!(v1.frm != v2.value.frm)), .rp [.int .i64 v4.value.kind, .int .i64 v4.value.frm, .int .i64 v4.value.to, .str v4.value.text, .sl Ty.sApiValue v4.value.items, .sl Ty.str v4.value.names, .sl Ty.sApiStep v4.steps], [], []⟩,
  ⟨some 37, [(36, .rp [.int .i64 v4.value.kind, .int .i64 v4.value.frm, .int .i64 v4.value.to, .str v4.value.text, .sl Ty.sApiValue v4.value.items, .sl Ty.str v4.value.names, .sl Ty.sApiStep v4.steps])], some 28, (!(v1.frm != v2.value.frm)), .rp [.int .i64 v4.value.kind, .int .i64 v4.value.frm, .int .i64 v4.value.to, .str v4.value.text, .sl Ty.sApiValue v4.value.items, .sl Ty.str v4.value.names, .sl Ty.sApiStep v4.steps], [], []⟩,
  ⟨some 38, [(37, .rp [.int .i64 v4.value.kind, .int .i64 v4.value.frm, .int .i64 v4.value.to, .str v4.value.text, .sl Ty.sApiValue v4.value.items, .sl Ty.str v4.value.names, .sl Ty.sApiStep v4.steps])], some 28, (!(v1.frm != v2.value.frm)), .rp [.int .i64 v4.value.to, .str v4.value.text, .sl Ty.sApiValue v4.value.items, .sl Ty.str v4.value.names, .sl Ty.sApiStep v4.steps], [], []⟩,
  ⟨some 39, [(38, .rp [.int .i64 v4.value.to, .str v4.value.text, .sl Ty.sApiValue v4.value.items, .sl Ty.str v4.value.names, .sl Ty.sApiStep v4.steps])], some 28, (!(v1.frm != v2.value.frm)), .int .i64 v4.value.to, [], []⟩,
  ⟨some 40, [(33, .int .i64 v3.to), (39, .int .i64 v4.value.to)], some 28, (!(v1.frm != v2.value.frm)), .bool (v3.to != v4.value.to), [], []⟩,
  ⟨some 41, [(28, .bool (v1.frm != v2.value.frm)), (40, .when (!(v1.frm != v2.value.frm)) (.bool (v3.to != v4.value.to)))], none, true, .bool ((v1.frm != v2.value.frm) || (v3.to != v4.value.to)), [], []⟩,
  ⟨some 42, [(41, .bool ((v1.frm != v2.value.frm) || (v3.to != v4.value.to)))], none, true, .bool ((v1.frm != v2.value.frm) || (v3.to != v4.value.to)), [], []⟩,
  ⟨some 43, [(0, .sl Ty.sEvalNode a0)], some 42, (!((v1.frm != v2.value.frm) || (v3.to != v4.value.to))), .sl Ty.sEvalNode a0, [], []⟩,
  ⟨some 44, [(5, .int .i64 a3)], some 42, (!((v1.frm != v2.value.frm) || (v3.to != v4.value.to))), .int .i64 a3, [], []⟩,
  ⟨some 45, [(43, .sl Ty.sEvalNode a0), (44, .int .i64 a3)], some 42, (!((v1.frm != v2.value.frm) || (v3.to != v4.value.to))), .rp [.sl Ty.sApiStep v5.steps, .int .i64 v5.frm, .int .i64 v5.to], [], []⟩,
  ⟨some 46, [(45, .rp [.sl Ty.sApiStep v5.steps, .int .i64 v5.frm, .int .i64 v5.to])], some 42, (!((v1.frm != v2.value.frm) || (v3.to != v4.value.to))), .rp [.sl Ty.sApiStep v5.steps, .int .i64 v5.frm, .int .i64 v5.to], [], []⟩,
  ⟨some 47, [(46, .rp [.sl Ty.sApiStep v5.steps, .int .i64 v5.frm, .int .i64 v5.to])], some 42, (!((v1.frm != v2.value.frm) || (v3.to != v4.value.to))), .sl Ty.sApiStep v5.steps, [], []⟩,
  ⟨some 48, [(1, .sl Ty.sRef16Node a1)], some 42, (!((v1.frm != v2.value.frm) || (v3.to != v4.value.to))), .sl Ty.sRef16Node a1, [], []⟩,
  ⟨some 49, [(5, .int .i64 a3)], some 42, (!((v1.frm != v2.value.frm) || (v3.to != v4.value.to))), .int .i64 a3, [], []⟩,
  ⟨some 50, [(48, .sl Ty.sRef16Node a1), (49, .int .i64 a3)], some 42, (!((v1.frm != v2.value.frm) || (v3.to != v4.value.to))), .rp [.int .i64 v6.value.kind, .int .i64 v6.value.frm, .int .i64 v6.value.to, .str v6.value.text, .sl Ty.sApiValue v6.value.items, .sl Ty.str v6.value.names, .sl Ty.sApiStep v6.steps], [], []⟩,
  ⟨some 51, [(50, .rp [.int .i64 v6.value.kind, .int .i64 v6.value.frm, .int .i64 v6.value.to, .str v6.value.text, .sl Ty.sApiValue v6.value.items, .sl Ty.str v6.value.names, .sl Ty.sApiStep v6.steps])], some 42, (!((v1.frm != v2.value.frm) || (v3.to != v4.value.to))), .rp [.sl Ty.sApiStep v6.steps], [], []⟩,
  ⟨some 52, [(51, .rp [.sl Ty.sApiStep v6.steps])], some 42, (!((v1.frm != v2.value.frm) || (v3.to != v4.value.to))), .sl Ty.sApiStep v6.steps, [], []⟩,
  ⟨some 53, [(47, .sl Ty.sApiStep v5.steps), (52, .sl Ty.sApiStep v6.steps)], some 42, (!((v1.frm != v2.value.frm) || (v3.to != v4.value.to))), .bool v7, [], []⟩,
  ⟨some 54, [(53, .bool v7)], some 42, (!((v1.frm != v2.value.frm) || (v3.to != v4.value.to))), .bool (!v7), [], []⟩,
  ⟨some 55, [(42, .bool ((v1.frm != v2.value.frm) || (v3.to != v4.value.to))), (54, .when (!((v1.frm != v2.value.frm) || (v3.to != v4.value.to))) (.bool (!v7)))], none, true, .bool (((v1.frm != v2.value.frm) || (v3.to != v4.value.to)) || (!v7)), [], []⟩] [[], [], [0, 1], [0, 1, 2], [0, 1, 2, 3], [], [], [5, 6], [5, 6, 7], [5, 6, 7, 8], [5, 6, 7, 8, 9], [0, 1, 2, 3, 4, 5, 6, 7, 8, 9, 10], [0, 1, 2, 3, 4, 5, 6, 7, 8, 9, 10, 11], [0, 1, 2, 3, 4, 5, 6, 7, 8, 9, 10, 11, 12], [0, 1, 2, 3, 4, 5, 6, 7, 8, 9, 10, 11, 12], [0, 1, 2, 3, 4, 5, 6, 7, 8, 9, 10, 11, 12, 13, 14], [0, 1, 2, 3, 4, 5, 6, 7, 8, 9, 10, 11, 12, 13, 14, 15], [0, 1, 2, 3, 4, 5, 6, 7, 8, 9, 10, 11, 12, 13, 14, 15, 16], [0, 1, 2, 3, 4, 5, 6, 7, 8, 9, 10, 11, 12], [0, 1, 2, 3, 4, 5, 6, 7, 8, 9, 10, 11, 12], [0, 1, 2, 3, 4, 5, 6, 7, 8, 9, 10, 11, 12, 18, 19], [0, 1, 2, 3, 4, 5, 6, 7, 8, 9, 10, 11, 12, 18, 19, 20], [0, 1, 2, 3, 4, 5, 6, 7, 8, 9, 10, 11, 12, 18, 19, 20, 21], [0, 1, 2, 3, 4, 5, 6, 7, 8, 9, 10, 11, 12, 18, 19, 20, 21, 22], [0, 1, 2, 3, 4, 5, 6, 7, 8, 9, 10, 11, 12, 13, 14, 15, 16, 17, 18, 19, 20, 21, 22, 23], [0, 1, 2, 3, 4, 5, 6, 7, 8, 9, 10, 11, 12, 13, 14, 15, 16, 17, 18, 19, 20, 21, 22, 23, 24], [0, 1, 2, 3, 4, 5, 6, 7, 8, 9, 10, 11, 12, 13, 14, 15, 16, 17, 18, 19, 20, 21, 22, 23, 24, 25], [0, 1, 2, 3, 4, 5, 6, 7, 8, 9, 10, 11, 12, 13, 14, 15, 16, 17, 18, 19, 20, 21, 22, 23, 24, 25, 26], [0, 1, 2, 3, 4, 5, 6, 7, 8, 9, 10, 11, 12, 13, 14, 15, 16, 17, 18, 19, 20, 21, 22, 23, 24, 25, 26], [0, 1, 2, 3, 4, 5, 6, 7, 8, 9, 10, 11, 12, 13, 14, 15, 16, 17, 18, 19, 20, 21, 22, 23, 24, 25, 26, 27, 28], [0, 1, 2, 3, 4, 5, 6, 7, 8, 9, 10, 11, 12, 13, 14, 15, 16, 17, 18, 19, 20, 21, 22, 23, 24, 25, 26, 27, 28, 29], [0, 1, 2, 3, 4, 5, 6, 7, 8, 9, 10, 11, 12, 13, 14, 15, 16, 17, 18, 19, 20, 21, 22, 23, 24, 25, 26, 27, 28, 29, 30], [0, 1, 2, 3, 4, 5, 6, 7, 8, 9, 10, 11, 12, 13, 14, 15, 16, 17, 18, 19, 20, 21, 22, 23, 24, 25, 26], [0, 1, 2, 3, 4, 5, 6, 7, 8, 9, 10, 11, 12, 13, 14, 15, 16, 17, 18, 19, 20, 21, 22, 23, 24, 25, 26], [0, 1, 2, 3, 4, 5, 6, 7, 8, 9, 10, 11, 12, 13, 14, 15, 16, 17, 18, 19, 20, 21, 22, 23, 24, 25, 26, 32, 33], [0, 1, 2, 3, 4, 5, 6, 7, 8, 9, 10, 11, 12, 13, 14, 15, 16, 17, 18, 19, 20, 21, 22, 23, 24, 25, 26, 32, 33, 34], [0, 1, 2, 3, 4, 5, 6, 7, 8, 9, 10, 11, 12, 13, 14, 15, 16, 17, 18, 19, 20, 21, 22, 23, 24, 25, 26, 32, 33, 34, 35], [0, 1, 2, 3, 4, 5, 6, 7, 8, 9, 10, 11, 12, 13, 14, 15, 16, 17, 18, 19, 20, 21, 22, 23, 24, 25, 26, 27, 28, 29, 30, 31, 32, 33, 34, 35, 36], [0, 1, 2, 3, 4, 5, 6, 7, 8, 9, 10, 11, 12, 13, 14, 15, 16, 17, 18, 19, 20, 21, 22, 23, 24, 25, 26, 27, 28, 29, 30, 31, 32, 33, 34, 35, 36, 37], [0, 1, 2, 3, 4, 5, 6, 7, 8, 9, 10, 11, 12, 13, 14, 15, 16, 17, 18, 19, 20, 21, 22, 23, 24, 25, 26, 27, 28, 29, 30, 31, 32, 33, 34, 35, 36, 37, 38]] (by kernel_rfl) (by kernel_rfl) (.cons (qok (dlt rfl rfl) rfl (.same rfl .nil) (NeedQ.all .nil) (fun Γx σx => ok_move (dlt rfl rfl) rfl rfl)) (.cons (qok (dlt rfl rfl) rfl (.same rfl .nil) (NeedQ.all .nil) (fun Γx σx => ok_move (dlt rfl rfl) rfl rfl)) (.cons (qok (dlt rfl rfl) rfl (.same rfl (.same rfl .nil)) (NeedQ.all .nil) (fun Γx σx => ok_indexS (τ := Ty.sEvalNode) (x := v1) (dlt rfl rfl) rfl Tryz.underlying33 ty40 rfl rfl rfl (idx_0 hv1) (idx_1 hv1))) (.cons (qok (dlt rfl rfl) rfl (.same rfl .nil) (NeedQ.all .nil) (fun Γx σx => ok_fieldR (cs := [.sl Ty.sApiStep v1.steps, .int .i64 v1.frm, .int .i64 v1.to]) (dlt rfl rfl) rfl fo40_1 ty3 (by decide) rfl)) (.cons (qok (dlt rfl rfl) rfl (.same rfl .nil) (NeedQ.all .nil) (fun Γx σx => ok_loadR (dlt rfl rfl) rfl ty3 rfl rfl)) (.cons (qok (dlt rfl rfl) rfl (.same rfl .nil) (NeedQ.all .nil) (fun Γx σx => ok_move (dlt rfl rfl) rfl rfl)) (.cons (qok (dlt rfl rfl) rfl (.same rfl .nil) (NeedQ.all .nil) (fun Γx σx => ok_move (dlt rfl rfl) rfl rfl)) (.cons (qok (dlt rfl rfl) rfl (.same rfl (.same rfl .nil)) (NeedQ.all .nil) (fun Γx σx => ok_indexS (τ := Ty.sRef16Node) (x := v2) (dlt rfl rfl) rfl Tryz.underlying35 ty64 rfl rfl rfl (idx_0 hv2) (idx_1 hv2))) (.cons (qok (dlt rfl rfl) rfl (.same rfl .nil) (NeedQ.all .nil) (fun Γx σx => ok_fieldR (cs := [.int .i64 v2.value.kind, .int .i64 v2.value.frm, .int .i64 v2.value.to, .str v2.value.text, .sl Ty.sApiValue v2.value.items, .sl Ty.str v2.value.names, .sl Ty.sApiStep v2.steps]) (dlt rfl rfl) rfl fo64_0 ty29 (by decide) rfl)) (.cons (qok (dlt rfl rfl) rfl (.same rfl .nil) (NeedQ.all .nil) (fun Γx σx => ok_fieldR (cs := [.int .i64 v2.value.kind, .int .i64 v2.value.frm, .int .i64 v2.value.to, .str v2.value.text, .sl Ty.sApiValue v2.value.items, .sl Ty.str v2.value.names, .sl Ty.sApiStep v2.steps]) (dlt rfl rfl) rfl fo29_1 ty3 (by decide) rfl)) (.cons (qok (dlt rfl rfl) rfl (.same rfl .nil) (NeedQ.all .nil) (fun Γx σx => ok_loadR (dlt rfl rfl) rfl ty3 rfl rfl)) (.cons (qok (dlt rfl rfl) rfl (.same rfl (.same rfl .nil)) (NeedQ.all .nil) (fun Γx σx => ok_neq (dlt rfl rfl) rfl rfl rfl)) (.cons (qok (dlt rfl rfl) rfl (.same rfl .nil) (NeedQ.all .nil) (fun Γx σx => ok_move (dlt rfl rfl) rfl rfl)) (.cons (qokG (dlt rfl rfl) rfl rfl rfl rfl (.same rfl .nil) (NeedQ.all .nil) (fun he Γx σx => ok_move (dlt rfl rfl) rfl rfl)) (.cons (qokG (dlt rfl rfl) rfl rfl rfl rfl (.same rfl .nil) (NeedQ.all .nil) (fun he Γx σx => ok_move (dlt rfl rfl) rfl rfl)) (.cons (qokG (dlt rfl rfl) rfl rfl rfl rfl (.when rfl (fun he => he) (.when rfl (fun he => he) .nil)) (NeedQ.all .nil) (fun he Γx σx => ok_indexS (τ := Ty.sEvalNode) (x := v3) (dlt rfl rfl) rfl Tryz.underlying33 ty40 rfl rfl rfl (idx_0 (gd_t hv3 he)) (idx_1 (gd_t hv3 he)))) (.cons (qokG (dlt rfl rfl) rfl rfl rfl rfl (.when rfl (fun he => he) .nil) (NeedQ.all .nil) (fun he Γx σx => ok_fieldR (cs := [.sl Ty.sApiStep v3.steps, .int .i64 v3.frm, .int .i64 v3.to]) (dlt rfl rfl) rfl fo40_2 ty3 (by decide) rfl)) (.cons (qokG (dlt rfl rfl) rfl rfl rfl rfl (.when rfl (fun he => he) .nil) (NeedQ.all .nil) (fun he Γx σx => ok_loadR (dlt rfl rfl) rfl ty3 rfl rfl)) (.cons (qokG (dlt rfl rfl) rfl rfl rfl rfl (.same rfl .nil) (NeedQ.all .nil) (fun he Γx σx => ok_move (dlt rfl rfl) rfl rfl)) (.cons (qokG (dlt rfl rfl) rfl rfl rfl rfl (.same rfl .nil) (NeedQ.all .nil) (fun he Γx σx => ok_move (dlt rfl rfl) rfl rfl)) (.cons (qokG (dlt rfl rfl) rfl rfl rfl rfl (.when rfl (fun he => he) (.when rfl (fun he => he) .nil)) (NeedQ.all .nil) (fun he Γx σx => ok_indexS (τ := Ty.sRef16Node) (x := v4) (dlt rfl rfl) rfl Tryz.underlying35 ty64 rfl rfl rfl (idx_0 (gd_t hv4 he)) (idx_1 (gd_t hv4 he)))) (.cons (qokG (dlt rfl rfl) rfl rfl rfl rfl (.when rfl (fun he => he) .nil) (NeedQ.all .nil) (fun he Γx σx => ok_fieldR (cs := [.int .i64 v4.value.kind, .int .i64 v4.value.frm, .int .i64 v4.value.to, .str v4.value.text, .sl Ty.sApiValue v4.value.items, .sl Ty.str v4.value.names, .sl Ty.sApiStep v4.steps]) (dlt rfl rfl) rfl fo64_0 ty29 (by decide) rfl)) (.cons (qokG (dlt rfl rfl) rfl rfl rfl rfl (.when rfl (fun he => he) .nil) (NeedQ.all .nil) (fun he Γx σx => ok_fieldR (cs := [.int .i64 v4.value.kind, .int .i64 v4.value.frm, .int .i64 v4.value.to, .str v4.value.text, .sl Ty.sApiValue v4.value.items, .sl Ty.str v4.value.names, .sl Ty.sApiStep v4.steps]) (dlt rfl rfl) rfl fo29_2 ty3 (by decide) rfl)) (.cons (qokG (dlt rfl rfl) rfl rfl rfl rfl (.when rfl (fun he => he) .nil) (NeedQ.all .nil) (fun he Γx σx => ok_loadR (dlt rfl rfl) rfl ty3 rfl rfl)) (.cons (qokG (dlt rfl rfl) rfl rfl rfl rfl (.when rfl (fun he => he) (.when rfl (fun he => he) .nil)) (NeedQ.all .nil) (fun he Γx σx => ok_neq (dlt rfl rfl) rfl rfl rfl)) (.cons (qok (dlt rfl rfl) rfl (.same rfl (.same rfl .nil)) (NeedQ.all .nil) (fun Γx σx => ok_orW (dlt rfl rfl) rfl rfl rfl (fun h => (bnot_t h)))) (.cons (qok (dlt rfl rfl) rfl (.same rfl .nil) (NeedQ.all .nil) (fun Γx σx => ok_move (dlt rfl rfl) rfl rfl)) (.cons (qokG (dlt rfl rfl) rfl rfl rfl rfl (.same rfl .nil) (NeedQ.all .nil) (fun he Γx σx => ok_move (dlt rfl rfl) rfl rfl)) (.cons (qokG (dlt rfl rfl) rfl rfl rfl rfl (.same rfl .nil) (NeedQ.all .nil) (fun he Γx σx => ok_move (dlt rfl rfl) rfl rfl)) (.cons (qokG (dlt rfl rfl) rfl rfl rfl rfl (.when rfl (fun he => he) (.when rfl (fun he => he) .nil)) (NeedQ.all .nil) (fun he Γx σx => ok_indexS (τ := Ty.sEvalNode) (x := v5) (dlt rfl rfl) rfl Tryz.underlying33 ty40 rfl rfl rfl (idx_0 (gd_t hv5 he)) (idx_1 (gd_t hv5 he)))) (.cons (qokG (dlt rfl rfl) rfl rfl rfl rfl (.when rfl (fun he => he) .nil) (NeedQ.all .nil) (fun he Γx σx => ok_fieldR (cs := [.sl Ty.sApiStep v5.steps, .int .i64 v5.frm, .int .i64 v5.to]) (dlt rfl rfl) rfl fo40_0 ty38 (by decide) rfl)) (.cons (qokG (dlt rfl rfl) rfl rfl rfl rfl (.when rfl (fun he => he) .nil) (NeedQ.all .nil) (fun he Γx σx => ok_loadR (dlt rfl rfl) rfl ty38 rfl rfl)) (.cons (qokG (dlt rfl rfl) rfl rfl rfl rfl (.same rfl .nil) (NeedQ.all .nil) (fun he Γx σx => ok_move (dlt rfl rfl) rfl rfl)) (.cons (qokG (dlt rfl rfl) rfl rfl rfl rfl (.same rfl .nil) (NeedQ.all .nil) (fun he Γx σx => ok_move (dlt rfl rfl) rfl rfl)) (.cons (qokG (dlt rfl rfl) rfl rfl rfl rfl (.when rfl (fun he => he) (.when rfl (fun he => he) .nil)) (NeedQ.all .nil) (fun he Γx σx => ok_indexS (τ := Ty.sRef16Node) (x := v6) (dlt rfl rfl) rfl Tryz.underlying35 ty64 rfl rfl rfl (idx_0 (gd_t hv6 he)) (idx_1 (gd_t hv6 he)))) (.cons (qokG (dlt rfl rfl) rfl rfl rfl rfl (.when rfl (fun he => he) .nil) (NeedQ.all .nil) (fun he Γx σx => ok_fieldR (cs := [.int .i64 v6.value.kind, .int .i64 v6.value.frm, .int .i64 v6.value.to, .str v6.value.text, .sl Ty.sApiValue v6.value.items, .sl Ty.str v6.value.names, .sl Ty.sApiStep v6.steps]) (dlt rfl rfl) rfl fo64_1 ty38 (by decide) rfl)) (.cons (qokG (dlt rfl rfl) rfl rfl rfl rfl (.when rfl (fun he => he) .nil) (NeedQ.all .nil) (fun he Γx σx => ok_loadR (dlt rfl rfl) rfl ty38 rfl rfl)) (.cons (qokG (dlt rfl rfl) rfl rfl rfl rfl (.when rfl (fun he => he) (.when rfl (fun he => he) .nil)) (NeedQ.all .nil) (fun he Γx σx => ok_call (xs := [.sl Ty.sApiStep v5.steps, .sl Ty.sApiStep v6.steps]) (caps := []) (dlt rfl rfl) rfl rfl Tryz.func44 rfl rfl rfl (d44 (gd_t hv7 he)) rfl)) (.cons (qokG (dlt rfl rfl) rfl rfl rfl rfl (.when rfl (fun he => he) .nil) (NeedQ.all .nil) (fun he Γx σx => ok_not (dlt rfl rfl) rfl rfl)) (.cons (qok (dlt rfl rfl) rfl (.same rfl (.same rfl .nil)) (NeedQ.all .nil) (fun Γx σx => ok_orW (dlt rfl rfl) rfl rfl rfl (fun h => (bnot_t h)))) (.nil _ _))))))))))))))))))))))))))))))))))))))))) (.nil ?_)
   refine ak_cond rfl (fun ht => ?_) (fun ht => ?_)
   ·have h := cond_t ht h
    refine ak_seq ?_
    refine ak_regionS (.cons rfl (ok_assign (dlt rfl rfl) rfl rfl) (.nil ?_))
    obtain rfl := Option.some.inj h
    refine ak_conv (Γ' := [(4, .bool false)]) (σ' := []) (.cons rfl (.refl _) (.nil _)) (.nil _) ?_
    exact ak_ret (fn := Tryz.f16) Tryz.func16 rfl trivial rfl
   ·have h := cond_f ht h
    refine ak_skip ?_
    refine ak_inBlock ?_
    refine ak_regionS (.cons rfl (ok_add (dlt rfl rfl) rfl rfl rfl) (.cons rfl (ok_move (dlt rfl rfl) rfl rfl) (.nil ?_)))
    refine ak_inLoop ?_
    exact ak_conv (.cons rfl (.refl _) (.cons rfl (.refl _) (.cons rfl (.refl _) (.cons rfl (.refl _) (.nil _))))) (.nil _) (ih _ _ h w F ρ)
  ·have h := cond_f ht h
   refine ak_exit rfl ?_
   refine ak_seq ?_
   refine ak_regionS (.cons rfl (ok_assign (dlt rfl rfl) rfl rfl) (.nil ?_))
   obtain rfl := Option.some.inj h
   refine ak_conv (Γ' := [(4, .bool true)]) (σ' := []) (.cons rfl (.refl _) (.nil _)) (.nil _) ?_
   exact ak_ret (fn := Tryz.f16) Tryz.func16 rfl trivial rfl)
theorem d16 {a0 : List EvalNode} {a1 : List Ref16Node} {r : Bool} (h : f16 (.e16 a0 a1) = some r) : Does Tryz.prog GG 16 [.sl Ty.sEvalNode a0, .sl Ty.sRef16Node a1] [] (fun z _ => z = .bool r) := fn_of (fn := Tryz.f16) Tryz.func16 rfl Tryz.ntmps16 rfl (w16 _ _ h)
end Go.Proofs.YtonlbdholdaifaaGreatDoor
end
section
set_option linter.unusedVariables false
set_option linter.unusedSimpArgs false
set_option maxRecDepth 10000
namespace Go.Proofs.YtonlbdholdaifaaGreatDoor
open Go Go.Rf Go.Proofs
/-- riffle/rifflelaw16.EvalRows -/
noncomputable abbrev b5 : Code := codeOf Tryz.f5
inductive L5 where
 | e5 (a0 : List UInt8) (a1 : List ApiSegment)
 | l5_0 (a0 : List ApiSegment) (a1 : List ApiSegment) (a2 : Int) (a3 : Int) (a4 : ApiValue)
 | l5_1 (a0 : List ApiSegment) (a1 : List ApiSegment) (a2 : Int) (a3 : Int) (a4 : List ApiSelector) (a5 : Int) (a6 : Int) (a7 : ApiValue)
 | l5_2 (a0 : List ApiSegment) (a1 : List Int) (a2 : List Int) (a3 : List ApiSegment) (a4 : Int) (a5 : Int) (a6 : List ApiSelector) (a7 : Int) (a8 : Int) (a9 : Int) (a10 : Int) (a11 : ApiValue)
noncomputable def f5 : L5 → Option Bool
 | .e5 a0 a1 =>
  f14 (.e14) >>= fun v1 =>
  if (!v1) = true then
   some false
  else
   f15 (.e15 a0 a1) >>= fun v2 =>
   if (!v2.2) = true then
    some true
   else
    f5 (.l5_0 a1 a1 (a1.length : Int) (0 : Int) v2.1)
 | .l5_0 a0 a1 a2 a3 a4 =>
  if (decide (a3 < a2)) = true then
   idx a1 a3 >>= fun v3 =>
   f5 (.l5_1 a0 a1 a2 a3 v3.selectors (v3.selectors.length : Int) (0 : Int) a4)
  else
   f24 (.e24 a4 a0 (2000 : Int)) >>= fun v4 =>
   gd (!(!v4.2)) (f25 (.e25 a4 a0)) >>= fun v5 =>
   gd (!(!v4.2)) (f16 (.e16 v5 v4.1)) >>= fun v6 =>
   some ((!v4.2) || v6)
 | .l5_1 a0 a1 a2 a3 a4 a5 a6 a7 =>
  if (decide (a6 < a5)) = true then
   idx a4 a6 >>= fun v7 =>
   f22 (.e22 a7 v7) >>= fun v8 =>
   f23 (.e23 a7 v7) >>= fun v9 =>
   if ((v8.length : Int) != (v9.length : Int)) = true then
    some false
   else
    f5 (.l5_2 a0 v8 v9 a1 a2 a3 a4 a5 a6 (v8.length : Int) (0 : Int) a7)
  else
   f5 (.l5_0 a0 a1 a2 (IntKind.wrap .i64 (a3 + (1 : Int))) a7)
 | .l5_2 a0 a1 a2 a3 a4 a5 a6 a7 a8 a9 a10 a11 =>
  if (decide (a10 < a9)) = true then
   idx a1 a10 >>= fun v10 =>
   idx a2 a10 >>= fun v11 =>
   if (v10 != v11) = true then
    some false
   else
    f5 (.l5_2 a0 a1 a2 a3 a4 a5 a6 a7 a8 a9 (IntKind.wrap .i64 (a10 + (1 : Int))) a11)
  else
   f5 (.l5_1 a0 a3 a4 a5 a6 a7 (IntKind.wrap .i64 (a8 + (1 : Int))) a11)
 partial_fixpoint
def M5 : L5 → Bool → Prop
 | .e5 a0 a1, r => ∀ (w : World) (F : Nat → Prop) (ρ : Rho), AK Tryz.prog (ctx GG 82 w F ρ []) 5 [.code b5] (argE 0 [.sl Ty.u8 a0, .sl Ty.sApiSegment a1]) [] (fun z _ => z = .bool r)
 | .l5_0 a0 a1 a2 a3 a4, r => ∀ (w : World) (F : Nat → Prop) (ρ : Rho), AK Tryz.prog (ctx GG 82 w F ρ []) 5 [.code (c1 (c1 (c2 (c1 (c2 (c2 (c2 (c2 b5)))))))), .inLoop (c1 (c1 (c2 (c1 (c2 (c2 (c2 (c2 b5)))))))), .inBlock 0, .code (c2 (c2 (c2 (c2 (c2 b5)))))] [(1, .sl Ty.sApiSegment a0), (5, .ref 5 0), (26, .sl Ty.sApiSegment a1), (27, .int .i64 a2), (28, .int .i64 a3)] [(5, .cells 29 [.int .i64 a4.kind, .int .i64 a4.frm, .int .i64 a4.to, .str a4.text, .sl Ty.sApiValue a4.items, .sl Ty.str a4.names])] (fun z _ => z = .bool r)
 | .l5_1 a0 a1 a2 a3 a4 a5 a6 a7, r => ∀ (w : World) (F : Nat → Prop) (ρ : Rho), AK Tryz.prog (ctx GG 82 w F ρ []) 5 [.code (c1 (c1 (c2 (c2 (c1 (c1 (c2 (c2 (c1 (c1 (c2 (c1 (c2 (c2 (c2 (c2 b5)))))))))))))))), .inLoop (c1 (c1 (c2 (c2 (c1 (c1 (c2 (c2 (c1 (c1 (c2 (c1 (c2 (c2 (c2 (c2 b5)))))))))))))))), .inBlock 2, .inBlock 1, .code (c2 (c2 (c2 (c1 (c1 (c2 (c1 (c2 (c2 (c2 (c2 b5))))))))))), .inLoop (c1 (c1 (c2 (c1 (c2 (c2 (c2 (c2 b5)))))))), .inBlock 0, .code (c2 (c2 (c2 (c2 (c2 b5)))))] [(1, .sl Ty.sApiSegment a0), (5, .ref 5 0), (26, .sl Ty.sApiSegment a1), (27, .int .i64 a2), (28, .int .i64 a3), (33, .sl Ty.sApiSelector a4), (34, .int .i64 a5), (35, .int .i64 a6)] [(5, .cells 29 [.int .i64 a7.kind, .int .i64 a7.frm, .int .i64 a7.to, .str a7.text, .sl Ty.sApiValue a7.items, .sl Ty.str a7.names])] (fun z _ => z = .bool r)
 | .l5_2 a0 a1 a2 a3 a4 a5 a6 a7 a8 a9 a10 a11, r => ∀ (w : World) (F : Nat → Prop) (ρ : Rho), AK Tryz.prog (ctx GG 82 w F ρ []) 5 [.code (c1 (c1 (c2 (c2 (c2 (c2 (c1 (c1 (c2 (c2 (c1 (c1 (c2 (c2 (c1 (c1 (c2 (c2 (c1 (c1 (c2 (c1 (c2 (c2 (c2 (c2 b5)))))))))))))))))))))))))), .inLoop (c1 (c1 (c2 (c2 (c2 (c2 (c1 (c1 (c2 (c2 (c1 (c1 (c2 (c2 (c1 (c1 (c2 (c2 (c1 (c1 (c2 (c1 (c2 (c2 (c2 (c2 b5)))))))))))))))))))))))))), .inBlock 4, .inBlock 3, .code (c2 (c2 (c2 (c1 (c1 (c2 (c2 (c1 (c1 (c2 (c2 (c1 (c1 (c2 (c1 (c2 (c2 (c2 (c2 b5))))))))))))))))))), .inLoop (c1 (c1 (c2 (c2 (c1 (c1 (c2 (c2 (c1 (c1 (c2 (c1 (c2 (c2 (c2 (c2 b5)))))))))))))))), .inBlock 2, .inBlock 1, .code (c2 (c2 (c2 (c1 (c1 (c2 (c1 (c2 (c2 (c2 (c2 b5))))))))))), .inLoop (c1 (c1 (c2 (c1 (c2 (c2 (c2 (c2 b5)))))))), .inBlock 0, .code (c2 (c2 (c2 (c2 (c2 b5)))))] [(1, .sl Ty.sApiSegment a0), (5, .ref 5 0), (11, .sl Ty.i64 a1), (12, .sl Ty.i64 a2), (26, .sl Ty.sApiSegment a3), (27, .int .i64 a4), (28, .int .i64 a5), (33, .sl Ty.sApiSelector a6), (34, .int .i64 a7), (35, .int .i64 a8), (51, .int .i64 a9), (52, .int .i64 a10)] [(5, .cells 29 [.int .i64 a11.kind, .int .i64 a11.frm, .int .i64 a11.to, .str a11.text, .sl Ty.sApiValue a11.items, .sl Ty.str a11.names])] (fun z _ => z = .bool r)
theorem w5 : ∀ (l : L5) (r : Bool), f5 l = some r → M5 l r := f5.partial_correctness M5 (by
 intro f ih l r h
 cases l with
 | e5 a0 a1 =>
  intro w F ρ
  dsimp only at h
  refine ak_seq ?_
  refine ak_regionS (.cons rfl (ok_assign (dlt rfl rfl) rfl rfl) (.nil ?_))
  refine ak_seq ?_
  refine ak_seq ?_
  obtain ⟨v1, hv1, h⟩ := bind_of h
  refine ak_regionS (.cons rfl (ok_call (xs := []) (caps := []) (dlt rfl rfl) rfl rfl Tryz.func14 rfl rfl rfl (d14 hv1) rfl) (.cons rfl (ok_not (dlt rfl rfl) rfl rfl) (.nil ?_)))
  refine ak_cond rfl (fun ht => ?_) (fun ht => ?_)
  ·have h := cond_t ht h
   refine ak_seq ?_
   refine ak_regionS (.cons rfl (ok_assign (dlt rfl rfl) rfl rfl) (.nil ?_))
   obtain rfl := Option.some.inj h
   refine ak_conv (Γ' := [(4, .bool false)]) (σ' := []) (.cons rfl (.refl _) (.nil _)) (.nil _) ?_
   exact ak_ret (fn := Tryz.f5) Tryz.func5 rfl trivial rfl
  ·have h := cond_f ht h
   refine ak_skip ?_
   refine ak_seq ?_
   obtain ⟨v2, hv2, h⟩ := bind_of h
   refine ak_regionS (.cons rfl (ok_move (dlt rfl rfl) rfl rfl) (.cons rfl (ok_move (dlt rfl rfl) rfl rfl) (.cons rfl (ok_call (xs := [.sl Ty.u8 a0, .sl Ty.sApiSegment a1]) (caps := []) (dlt rfl rfl) rfl rfl Tryz.func15 rfl rfl rfl (d15 hv2) rfl) (.cons rfl (ok_move (dlt rfl rfl) rfl rfl) (.cons rfl (ok_extract (dlt rfl rfl) rfl rfl rfl) (.cons rfl (ok_extract (dlt rfl rfl) rfl rfl rfl) (.cons rfl (ok_alloc (d := 5) (dlt rfl rfl) rfl ty29 rfl rfl rfl) (.cons rfl (ok_storeV rfl rfl ty29 rfl rfl rfl rfl (by decide) rfl rfl) (.cons rfl (ok_assign (dlt rfl rfl) rfl rfl) (.nil ?_))))))))))
   refine ak_seq ?_
   refine ak_seq ?_
   refine ak_regionS (.cons rfl (ok_move (dlt rfl rfl) rfl rfl) (.cons rfl (ok_not (dlt rfl rfl) rfl rfl) (.nil ?_)))
   refine ak_cond rfl (fun ht => ?_) (fun ht => ?_)
   ·have h := cond_t ht h
    refine ak_seq ?_
    refine ak_regionS (.cons rfl (ok_assign (dlt rfl rfl) rfl rfl) (.nil ?_))
    obtain rfl := Option.some.inj h
    refine ak_conv (Γ' := [(4, .bool true)]) (σ' := []) (.cons rfl (.refl _) (.nil _)) (.nil _) ?_
    exact ak_ret (fn := Tryz.f5) Tryz.func5 rfl trivial rfl
   ·have h := cond_f ht h
    refine ak_skip ?_
    refine ak_seq ?_
    refine ak_seq ?_
    refine ak_regionS (.cons rfl (ok_move (dlt rfl rfl) rfl rfl) (.cons rfl (ok_lenS (τ := Ty.sApiSegment) (xs := a1) (dlt rfl rfl) rfl Tryz.underlying24 rfl) (.cons rfl (ok_move (dlt rfl rfl) rfl rfl) (.nil ?_))))
    refine ak_block ?_
    refine ak_loop ?_
    exact ak_conv (.cons rfl (.refl _) (.cons rfl (.refl _) (.cons rfl (.refl _) (.cons rfl (.refl _) (.cons rfl (.refl _) (.nil _)))))) (.cons rfl (.refl _) (.nil _)) (ih _ _ h w F ρ)
 | l5_0 a0 a1 a2 a3 a4 =>
  intro w F ρ
  dsimp only at h
  refine ak_seq ?_
  refine ak_regionS (.cons rfl (ok_lss (dlt rfl rfl) rfl rfl rfl) (.nil ?_))
  refine ak_seq ?_
  refine ak_cond rfl (fun ht => ?_) (fun ht => ?_)
  ·have h := cond_t ht h
   refine ak_skip ?_
   refine ak_seq ?_
   refine ak_block ?_
   refine ak_seq ?_
   obtain ⟨v3, hv3, h⟩ := bind_of h
   refine ak_regionS (.cons rfl (ok_indexS (τ := Ty.sApiSegment) (x := v3) (dlt rfl rfl) rfl Tryz.underlying24 ty47 rfl rfl rfl (idx_0 hv3) (idx_1 hv3)) (.cons rfl (ok_loadRT (dlt rfl rfl) rfl ty47 rfl (by decide) rfl) (.cons rfl (ok_alloc (d := 8) (dlt rfl rfl) rfl ty47 rfl rfl rfl) (.cons rfl (ok_storeV rfl rfl ty47 rfl rfl rfl rfl (by decide) rfl rfl) (.nil ?_)))))
   refine ak_seq ?_
   refine ak_regionS (.cons rfl (ok_fieldV (dlt rfl rfl) rfl fo47_1 ty45 (by decide) rfl) (.cons rfl (ok_loadV (dlt rfl rfl) rfl ty45 rfl rfl rfl) (.cons rfl (ok_lenS (τ := Ty.sApiSelector) (xs := v3.selectors) (dlt rfl rfl) rfl Tryz.underlying45 rfl) (.cons rfl (ok_move (dlt rfl rfl) rfl rfl) (.nil ?_)))))
   refine ak_block ?_
   refine ak_loop ?_
   exact ak_conv (.cons rfl (.refl _) (.cons rfl (.refl _) (.cons rfl (.refl _) (.cons rfl (.refl _) (.cons rfl (.refl _) (.cons rfl (.refl _) (.cons rfl (.refl _) (.cons rfl (.refl _) (.nil _))))))))) (.cons rfl (.refl _) (.nil _)) (ih _ _ h w F ρ)
  ·have h := cond_f ht h
   refine ak_exit rfl ?_
   refine ak_seq ?_
   obtain ⟨v4, hv4, h⟩ := bind_of h
   refine ak_regionS (.cons rfl (ok_loadVT (dlt rfl rfl) rfl ty29 rfl rfl (by decide) rfl) (.cons rfl (ok_move (dlt rfl rfl) rfl rfl) (.cons rfl (ok_call (xs := [.agg [.int .i64 a4.kind, .int .i64 a4.frm, .int .i64 a4.to, .str a4.text, .sl Ty.sApiValue a4.items, .sl Ty.str a4.names], .sl Ty.sApiSegment a0, .int .i64 (2000 : Int)]) (caps := []) (dlt rfl rfl) rfl rfl Tryz.func24 rfl rfl rfl (d24 hv4) rfl) (.cons rfl (ok_move (dlt rfl rfl) rfl rfl) (.cons rfl (ok_extract (dlt rfl rfl) rfl rfl rfl) (.cons rfl (ok_extract (dlt rfl rfl) rfl rfl rfl) (.cons rfl (ok_assign (dlt rfl rfl) rfl rfl) (.cons rfl (ok_assign (dlt rfl rfl) rfl rfl) (.nil ?_)))))))))
   refine ak_seq ?_
   obtain ⟨v5, hv5, h⟩ := bind_of h
   obtain ⟨v6, hv6, h⟩ := bind_of h
   refine ak_regionS (.cons rfl (ok_move (dlt rfl rfl) rfl rfl) (.cons rfl (ok_not (dlt rfl rfl) rfl rfl) (.cons rfl (ok_move (dlt rfl rfl) rfl rfl) (.consG (pre := []) (dlt rfl rfl) rfl rfl rfl rfl .nil (fun he => ok_loadVT (dlt rfl rfl) rfl ty29 rfl rfl (by decide) rfl) (.consG (pre := []) (dlt rfl rfl) rfl rfl rfl rfl .nil (fun he => ok_move (dlt rfl rfl) rfl rfl) (.consG (pre := [(76, .agg [.int .i64 a4.kind, .int .i64 a4.frm, .int .i64 a4.to, .str a4.text, .sl Ty.sApiValue a4.items, .sl Ty.str a4.names]), (77, .sl Ty.sApiSegment a0)]) (dlt rfl rfl) rfl rfl rfl rfl (.cons rfl (fun he => he) (.cons rfl (fun he => he) .nil)) (fun he => ok_call (xs := [.agg [.int .i64 a4.kind, .int .i64 a4.frm, .int .i64 a4.to, .str a4.text, .sl Ty.sApiValue a4.items, .sl Ty.str a4.names], .sl Ty.sApiSegment a0]) (caps := []) (dlt rfl rfl) rfl rfl Tryz.func25 rfl rfl rfl (d25 (gd_t hv5 he)) rfl) (.consG (pre := []) (dlt rfl rfl) rfl rfl rfl rfl .nil (fun he => ok_move (dlt rfl rfl) rfl rfl) (.consG (pre := [(78, .sl Ty.sEvalNode v5), (79, .sl Ty.sRef16Node v4.1)]) (dlt rfl rfl) rfl rfl rfl rfl (.cons rfl (fun he => he) (.cons rfl (fun he => he) .nil)) (fun he => ok_call (xs := [.sl Ty.sEvalNode v5, .sl Ty.sRef16Node v4.1]) (caps := []) (dlt rfl rfl) rfl rfl Tryz.func16 rfl rfl rfl (d16 (gd_t hv6 he)) rfl) (.cons rfl (ok_orW (dlt rfl rfl) rfl rfl rfl (fun h => (bnot_t h))) (.cons rfl (ok_assign (dlt rfl rfl) rfl rfl) (.nil ?_)))))))))))
   obtain rfl := Option.some.inj h
   refine ak_conv (Γ' := [(4, .bool ((!v4.2) || v6))]) (σ' := []) (.cons rfl (.refl _) (.nil _)) (.nil _) ?_
   exact ak_ret (fn := Tryz.f5) Tryz.func5 rfl trivial rfl
 | l5_1 a0 a1 a2 a3 a4 a5 a6 a7 =>
  intro w F ρ
  dsimp only at h
  refine ak_seq ?_
  refine ak_regionS (.cons rfl (ok_lss (dlt rfl rfl) rfl rfl rfl) (.nil ?_))
  refine ak_seq ?_
  refine ak_cond rfl (fun ht => ?_) (fun ht => ?_)
  ·have h := cond_t ht h
   refine ak_skip ?_
   refine ak_seq ?_
   refine ak_block ?_
   refine ak_seq ?_
   obtain ⟨v7, hv7, h⟩ := bind_of h
   refine ak_regionS (.cons rfl (ok_indexS (τ := Ty.sApiSelector) (x := v7) (dlt rfl rfl) rfl Tryz.underlying45 ty49 rfl rfl rfl (idx_0 hv7) (idx_1 hv7)) (.cons rfl (ok_loadRT (dlt rfl rfl) rfl ty49 rfl (by decide) rfl) (.cons rfl (ok_alloc (d := 10) (dlt rfl rfl) rfl ty49 rfl rfl rfl) (.cons rfl (ok_storeV rfl rfl ty49 rfl rfl rfl rfl (by decide) rfl rfl) (.nil ?_)))))
   refine ak_seq ?_
   obtain ⟨v8, hv8, h⟩ := bind_of h
   obtain ⟨v9, hv9, h⟩ := bind_of h
   refine ak_drawL [⟨some 39, [(5, .ref 5 0)], none, true, .agg [.int .i64 a7.kind, .int .i64 a7.frm, .int .i64 a7.to, .str a7.text, .sl Ty.sApiValue a7.items, .sl Ty.str a7.names], [(5, .cells 29 [.int .i64 a7.kind, .int .i64 a7.frm, .int .i64 a7.to, .str a7.text, .sl Ty.sApiValue a7.items, .sl Ty.str a7.names])], []⟩,
  ⟨some 40, [(10, .ref 10 0)], none, true, .agg [.int .i64 v7.kind, .str v7.name, .int .i64 v7.index, .int .i64 v7.start, .int .i64 v7.stop, .bool v7.hasStart, .bool v7.hasEnd, .int .i64 v7.stride], [(10, .cells 49 [.int .i64 v7.kind, .str v7.name, .int .i64 v7.index, .int .i64 v7.start, .int .i64 v7.stop, .bool v7.hasStart, .bool v7.hasEnd, .int .i64 v7.stride])], []⟩,
  ⟨some 41, [(39, .agg [.int .i64 a7.kind, .int .i64 a7.frm, .int .i64 a7.to, .str a7.text, .sl Ty.sApiValue a7.items, .sl Ty.str a7.names]), (40, .agg [.int .i64 v7.kind, .str v7.name, .int .i64 v7.index, .int .i64 v7.start, .int .i64 v7.stop, .bool v7.hasStart, .bool v7.hasEnd, .int .i64 v7.stride])], none, true, .sl Ty.i64 v8, [], []⟩,
  ⟨some 42, [(5, .ref 5 0)], none, true, .agg [.int .i64 a7.kind, .int .i64 a7.frm, .int .i64 a7.to, .str a7.text, .sl Ty.sApiValue a7.items, .sl Ty.str a7.names], [(5, .cells 29 [.int .i64 a7.kind, .int .i64 a7.frm, .int .i64 a7.to, .str a7.text, .sl Ty.sApiValue a7.items, .sl Ty.str a7.names])], []⟩,
  ⟨some 43, [(10, .ref 10 0)], none, true, .agg [.int .i64 v7.kind, .str v7.name, .int .i64 v7.index, .int .i64 v7.start, .int .i64 v7.stop, .bool v7.hasStart, .bool v7.hasEnd, .int .i64 v7.stride], [(10, .cells 49 [.int .i64 v7.kind, .str v7.name, .int .i64 v7.index, .int .i64 v7.start, .int .i64 v7.stop, .bool v7.hasStart, .bool v7.hasEnd, .int .i64 v7.stride])], []⟩,
  ⟨some 44, [(42, .agg [.int .i64 a7.kind, .int .i64 a7.frm, .int .i64 a7.to, .str a7.text, .sl Ty.sApiValue a7.items, .sl Ty.str a7.names]), (43, .agg [.int .i64 v7.kind, .str v7.name, .int .i64 v7.index, .int .i64 v7.start, .int .i64 v7.stop, .bool v7.hasStart, .bool v7.hasEnd, .int .i64 v7.stride])], none, true, .sl Ty.i64 v9, [], []⟩,
  ⟨some 11, [(41, .sl Ty.i64 v8)], none, true, .sl Ty.i64 v8, [], []⟩,
  ⟨some 12, [(44, .sl Ty.i64 v9)], none, true, .sl Ty.i64 v9, [], []⟩] [[], [], [0, 1], [], [], [0, 1, 2, 3, 4], [0, 1, 2, 3, 4, 5], [0, 1, 2, 3, 4, 5, 6]] (by kernel_rfl) (by kernel_rfl) (.cons (qok (dlt rfl rfl) rfl (.same rfl .nil) (NeedQ.all (.cons rfl .nil)) (fun Γx σx => ok_loadVT (dlt rfl rfl) rfl ty29 rfl rfl (by decide) rfl)) (.cons (qok (dlt rfl rfl) rfl (.same rfl .nil) (NeedQ.all (.cons rfl .nil)) (fun Γx σx => ok_loadVT (dlt rfl rfl) rfl ty49 rfl rfl (by decide) rfl)) (.cons (qok (dlt rfl rfl) rfl (.same rfl (.same rfl .nil)) (NeedQ.all .nil) (fun Γx σx => ok_call (xs := [.agg [.int .i64 a7.kind, .int .i64 a7.frm, .int .i64 a7.to, .str a7.text, .sl Ty.sApiValue a7.items, .sl Ty.str a7.names], .agg [.int .i64 v7.kind, .str v7.name, .int .i64 v7.index, .int .i64 v7.start, .int .i64 v7.stop, .bool v7.hasStart, .bool v7.hasEnd, .int .i64 v7.stride]]) (caps := []) (dlt rfl rfl) rfl rfl Tryz.func22 rfl rfl rfl (d22 hv8) rfl)) (.cons (qok (dlt rfl rfl) rfl (.same rfl .nil) (NeedQ.all (.cons rfl .nil)) (fun Γx σx => ok_loadVT (dlt rfl rfl) rfl ty29 rfl rfl (by decide) rfl)) (.cons (qok (dlt rfl rfl) rfl (.same rfl .nil) (NeedQ.all (.cons rfl .nil)) (fun Γx σx => ok_loadVT (dlt rfl rfl) rfl ty49 rfl rfl (by decide) rfl)) (.cons (qok (dlt rfl rfl) rfl (.same rfl (.same rfl .nil)) (NeedQ.all .nil) (fun Γx σx => ok_call (xs := [.agg [.int .i64 a7.kind, .int .i64 a7.frm, .int .i64 a7.to, .str a7.text, .sl Ty.sApiValue a7.items, .sl Ty.str a7.names], .agg [.int .i64 v7.kind, .str v7.name, .int .i64 v7.index, .int .i64 v7.start, .int .i64 v7.stop, .bool v7.hasStart, .bool v7.hasEnd, .int .i64 v7.stride]]) (caps := []) (dlt rfl rfl) rfl rfl Tryz.func23 rfl rfl rfl (d23 hv9) rfl)) (.cons (qok (dlt rfl rfl) rfl (.same rfl .nil) (NeedQ.all .nil) (fun Γx σx => ok_assign (dlt rfl rfl) rfl rfl)) (.cons (qok (dlt rfl rfl) rfl (.same rfl .nil) (NeedQ.all .nil) (fun Γx σx => ok_assign (dlt rfl rfl) rfl rfl)) (.nil _ _))))))))) (.nil ?_)
   refine ak_seq ?_
   refine ak_seq ?_
   refine ak_regionS (.cons rfl (ok_move (dlt rfl rfl) rfl rfl) (.cons rfl (ok_lenS (τ := Ty.i64) (xs := v8) (dlt rfl rfl) rfl Tryz.underlying50 rfl) (.cons rfl (ok_move (dlt rfl rfl) rfl rfl) (.cons rfl (ok_lenS (τ := Ty.i64) (xs := v9) (dlt rfl rfl) rfl Tryz.underlying50 rfl) (.cons rfl (ok_neq (dlt rfl rfl) rfl rfl rfl) (.nil ?_))))))
   refine ak_cond rfl (fun ht => ?_) (fun ht => ?_)
   ·have h := cond_t ht h
    refine ak_seq ?_
    refine ak_regionS (.cons rfl (ok_assign (dlt rfl rfl) rfl rfl) (.nil ?_))
    obtain rfl := Option.some.inj h
    refine ak_conv (Γ' := [(4, .bool false)]) (σ' := []) (.cons rfl (.refl _) (.nil _)) (.nil _) ?_
    exact ak_ret (fn := Tryz.f5) Tryz.func5 rfl trivial rfl
   ·have h := cond_f ht h
    refine ak_skip ?_
    refine ak_seq ?_
    refine ak_regionS (.cons rfl (ok_move (dlt rfl rfl) rfl rfl) (.cons rfl (ok_lenS (τ := Ty.i64) (xs := v8) (dlt rfl rfl) rfl Tryz.underlying50 rfl) (.cons rfl (ok_move (dlt rfl rfl) rfl rfl) (.nil ?_))))
    refine ak_block ?_
    refine ak_loop ?_
    exact ak_conv (.cons rfl (.refl _) (.cons rfl (.refl _) (.cons rfl (.refl _) (.cons rfl (.refl _) (.cons rfl (.refl _) (.cons rfl (.refl _) (.cons rfl (.refl _) (.cons rfl (.refl _) (.cons rfl (.refl _) (.cons rfl (.refl _) (.cons rfl (.refl _) (.cons rfl (.refl _) (.nil _))))))))))))) (.cons rfl (.refl _) (.nil _)) (ih _ _ h w F ρ)
  ·have h := cond_f ht h
   refine ak_exit rfl ?_
   refine ak_inBlock ?_
   refine ak_regionS (.cons rfl (ok_add (dlt rfl rfl) rfl rfl rfl) (.cons rfl (ok_move (dlt rfl rfl) rfl rfl) (.nil ?_)))
   refine ak_inLoop ?_
   exact ak_conv (.cons rfl (.refl _) (.cons rfl (.refl _) (.cons rfl (.refl _) (.cons rfl (.refl _) (.cons rfl (.refl _) (.nil _)))))) (.cons rfl (.refl _) (.nil _)) (ih _ _ h w F ρ)
 | l5_2 a0 a1 a2 a3 a4 a5 a6 a7 a8 a9 a10 a11 =>
  intro w F ρ
  dsimp only at h
  refine ak_seq ?_
  refine ak_regionS (.cons rfl (ok_lss (dlt rfl rfl) rfl rfl rfl) (.nil ?_))
  refine ak_seq ?_
  refine ak_cond rfl (fun ht => ?_) (fun ht => ?_)
  ·have h := cond_t ht h
   refine ak_skip ?_
   refine ak_seq ?_
   refine ak_block ?_
   refine ak_seq ?_
   refine ak_regionS (.cons rfl (ok_move (dlt rfl rfl) rfl rfl) (.cons rfl (ok_assign (dlt rfl rfl) rfl rfl) (.nil ?_)))
   refine ak_seq ?_
   obtain ⟨v10, hv10, h⟩ := bind_of h
   obtain ⟨v11, hv11, h⟩ := bind_of h
   refine ak_drawL [⟨some 55, [(11, .sl Ty.i64 a1)], none, true, .sl Ty.i64 a1, [], []⟩,
  ⟨some 56, [(13, .int .i64 a10)], none, true, .int .i64 a10, [], []⟩,
  ⟨some 57, [(55, .sl Ty.i64 a1), (56, .int .i64 a10)], none, true, .rp [.int .i64 v10], [], []⟩,
  ⟨some 58, [(57, .rp [.int .i64 v10])], none, true, .int .i64 v10, [], []⟩,
  ⟨some 59, [(12, .sl Ty.i64 a2)], none, true, .sl Ty.i64 a2, [], []⟩,
  ⟨some 60, [(13, .int .i64 a10)], none, true, .int .i64 a10, [], []⟩,
  ⟨some 61, [(59, .sl Ty.i64 a2), (60, .int .i64 a10)], none, true, .rp [.int .i64 v11], [], []⟩,
  ⟨some 62, [(61, .rp [.int .i64 v11])], none, true, .int .i64 v11, [], []⟩,
  ⟨some 63, [(58, .int .i64 v10), (62, .int .i64 v11)], none, true, .bool (v10 != v11), [], []⟩] [[], [], [0, 1], [0, 1, 2], [], [], [4, 5], [4, 5, 6], [0, 1, 2, 3, 4, 5, 6, 7]] (by kernel_rfl) (by kernel_rfl) (.cons (qok (dlt rfl rfl) rfl (.same rfl .nil) (NeedQ.all .nil) (fun Γx σx => ok_move (dlt rfl rfl) rfl rfl)) (.cons (qok (dlt rfl rfl) rfl (.same rfl .nil) (NeedQ.all .nil) (fun Γx σx => ok_move (dlt rfl rfl) rfl rfl)) (.cons (qok (dlt rfl rfl) rfl (.same rfl (.same rfl .nil)) (NeedQ.all .nil) (fun Γx σx => ok_indexS (τ := Ty.i64) (x := v10) (dlt rfl rfl) rfl Tryz.underlying50 ty3 rfl rfl rfl (idx_0 hv10) (idx_1 hv10))) (.cons (qok (dlt rfl rfl) rfl (.same rfl .nil) (NeedQ.all .nil) (fun Γx σx => ok_loadR (dlt rfl rfl) rfl ty3 rfl rfl)) (.cons (qok (dlt rfl rfl) rfl (.same rfl .nil) (NeedQ.all .nil) (fun Γx σx => ok_move (dlt rfl rfl) rfl rfl)) (.cons (qok (dlt rfl rfl) rfl (.same rfl .nil) (NeedQ.all .nil) (fun Γx σx => ok_move (dlt rfl rfl) rfl rfl)) (.cons (qok (dlt rfl rfl) rfl (.same rfl (.same rfl .nil)) (NeedQ.all .nil) (fun Γx σx => ok_indexS (τ := Ty.i64) (x := v11) (dlt rfl rfl) rfl Tryz.underlying50 ty3 rfl rfl rfl (idx_0 hv11) (idx_1 hv11))) (.cons (qok (dlt rfl rfl) rfl (.same rfl .nil) (NeedQ.all .nil) (fun Γx σx => ok_loadR (dlt rfl rfl) rfl ty3 rfl rfl)) (.cons (qok (dlt rfl rfl) rfl (.same rfl (.same rfl .nil)) (NeedQ.all .nil) (fun Γx σx => ok_neq (dlt rfl rfl) rfl rfl rfl)) (.nil _ _)))))))))) (.nil ?_)
   refine ak_cond rfl (fun ht => ?_) (fun ht => ?_)
   ·have h := cond_t ht h
    refine ak_seq ?_
    refine ak_regionS (.cons rfl (ok_assign (dlt rfl rfl) rfl rfl) (.nil ?_))
    obtain rfl := Option.some.inj h
    refine ak_conv (Γ' := [(4, .bool false)]) (σ' := []) (.cons rfl (.refl _) (.nil _)) (.nil _) ?_
    exact ak_ret (fn := Tryz.f5) Tryz.func5 rfl trivial rfl
   ·have h := cond_f ht h
    refine ak_skip ?_
    refine ak_inBlock ?_
    refine ak_regionS (.cons rfl (ok_add (dlt rfl rfl) rfl rfl rfl) (.cons rfl (ok_move (dlt rfl rfl) rfl rfl) (.nil ?_)))
    refine ak_inLoop ?_
    exact ak_conv (.cons rfl (.refl _) (.cons rfl (.refl _) (.cons rfl (.refl _) (.cons rfl (.refl _) (.cons rfl (.refl _) (.cons rfl (.refl _) (.cons rfl (.refl _) (.cons rfl (.refl _) (.cons rfl (.refl _) (.cons rfl (.refl _) (.cons rfl (.refl _) (.cons rfl (.refl _) (.nil _))))))))))))) (.cons rfl (.refl _) (.nil _)) (ih _ _ h w F ρ)
  ·have h := cond_f ht h
   refine ak_exit rfl ?_
   refine ak_inBlock ?_
   refine ak_regionS (.cons rfl (ok_add (dlt rfl rfl) rfl rfl rfl) (.cons rfl (ok_move (dlt rfl rfl) rfl rfl) (.nil ?_)))
   refine ak_inLoop ?_
   exact ak_conv (.cons rfl (.refl _) (.cons rfl (.refl _) (.cons rfl (.refl _) (.cons rfl (.refl _) (.cons rfl (.refl _) (.cons rfl (.refl _) (.cons rfl (.refl _) (.cons rfl (.refl _) (.nil _))))))))) (.cons rfl (.refl _) (.nil _)) (ih _ _ h w F ρ))
theorem d5 {a0 : List UInt8} {a1 : List ApiSegment} {r : Bool} (h : f5 (.e5 a0 a1) = some r) : Does Tryz.prog GG 5 [.sl Ty.u8 a0, .sl Ty.sApiSegment a1] [] (fun z _ => z = .bool r) := fn_of (fn := Tryz.f5) Tryz.func5 rfl Tryz.ntmps5 rfl (w5 _ _ h)
end Go.Proofs.YtonlbdholdaifaaGreatDoor
end
