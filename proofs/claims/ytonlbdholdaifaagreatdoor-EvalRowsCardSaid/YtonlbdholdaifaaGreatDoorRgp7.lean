import Derived.Test.YtonlbdholdaifaaGreatDoorProg
import Derived.Test.YtonlbdholdaifaaGreatDoorRfp4
import Derived.Test.YtonlbdholdaifaaGreatDoorRgp1
import Derived.Test.YtonlbdholdaifaaGreatDoorRgp6
section
set_option linter.unusedVariables false
set_option linter.unusedSimpArgs false
set_option maxRecDepth 10000
namespace Go.Proofs.YtonlbdholdaifaaGreatDoor
open Go Go.Rf Go.Proofs
/-- slices.Reverse[[]int,int] -/
noncomputable abbrev b75 : Code := codeOf Tryz.f75
inductive L75 where
 | e75 (a0 : List Int)
 | l75_0 (a0 : Int) (a1 : Int) (a2 : List Int)
noncomputable def f75 : L75 → Option (List Int)
 | .e75 a0 =>
  f75 (.l75_0 (0 : Int) (IntKind.wrap .i64 ((a0.length : Int) - (1 : Int))) a0)
 | .l75_0 a0 a1 a2 =>
  if (decide (a0 < a1)) = true then
   idx a2 a1 >>= fun v1 =>
   idx a2 a0 >>= fun v2 =>
   idx a2 a0 >>= fun v3 =>
   idx (a2.set (a0 : Int).toNat v1) a1 >>= fun v4 =>
   f75 (.l75_0 (IntKind.wrap .i64 (a0 + (1 : Int))) (IntKind.wrap .i64 (a1 - (1 : Int))) ((a2.set (a0 : Int).toNat v1).set (a1 : Int).toNat v2))
  else
   some a2
 partial_fixpoint
def M75 : L75 → (List Int) → Prop
 | .e75 a0, r => ∀ (w : World) (F : Nat → Prop) (ρ : Rho), AK Tryz.prog (ctx GG 28 w F ρ [(10000, .arr 3 Ty.i64 a0)]) 75 [.code b75] (argE 0 [.mf 1 10000]) [(10000, .arr 3 Ty.i64 a0)] (fun z σ' => z = .tup [] ∧ σ' = [(10000, .arr 3 Ty.i64 r)])
 | .l75_0 a0 a1 a2, r => ∀ (w : World) (F : Nat → Prop) (ρ : Rho) (S : Nat → Prop), AK Tryz.prog (ctxL GG 28 w F ρ S [10000]) 75 [.code (c1 (c1 (c2 b75))), .inLoop (c1 (c1 (c2 b75))), .inBlock 0] [(0, .mf 1 10000), (2, .int .i64 a0), (3, .int .i64 a1)] [(10000, .arr 3 Ty.i64 a2)] (fun z σ' => z = .tup [] ∧ σ' = [(10000, .arr 3 Ty.i64 r)])
theorem w75 : ∀ (l : L75) (r : List Int), f75 l = some r → M75 l r := f75.partial_correctness M75 (by
 intro f ih l r h
 cases l with
 | e75 a0 =>
  intro w F ρ
  dsimp only at h
  refine ak_seq ?_
  refine ak_regionS (.cons rfl (ok_move (dlt rfl rfl) rfl rfl) (.cons rfl (ok_lenA (dlt rfl rfl) rfl Tryz.underlying50 rfl rfl) (.cons rfl (ok_sub (dlt rfl rfl) rfl rfl rfl) (.cons rfl (ok_assign (dlt rfl rfl) rfl rfl) (.cons rfl (ok_assign (dlt rfl rfl) rfl rfl) (.nil ?_))))))
  refine ak_block ?_
  refine ak_loop ?_
  exact ak_conv (.cons rfl (.refl _) (.cons rfl (.refl _) (.cons rfl (.refl _) (.nil _)))) (.cons rfl (.refl _) (.nil _)) (ih _ _ h w F ρ _)
 | l75_0 a0 a1 a2 =>
  intro w F ρ S
  dsimp only at h
  refine ak_seq ?_
  refine ak_seq ?_
  refine ak_regionS (.cons rfl (ok_move (dlt rfl rfl) rfl rfl) (.cons rfl (ok_move (dlt rfl rfl) rfl rfl) (.cons rfl (ok_lss (dlt rfl rfl) rfl rfl rfl) (.nil ?_))))
  refine ak_cond rfl (fun ht => ?_) (fun ht => ?_)
  ·have h := cond_t ht h
   refine ak_skip ?_
   refine ak_seq ?_
   refine ak_block ?_
   obtain ⟨v1, hv1, h⟩ := bind_of h
   obtain ⟨v2, hv2, h⟩ := bind_of h
   obtain ⟨v3, hv3, h⟩ := bind_of h
   obtain ⟨v4, hv4, h⟩ := bind_of h
   refine ak_drawL [⟨some 14, [(0, .mf 1 10000)], none, true, .mf 1 10000, [], []⟩,
  ⟨some 15, [(2, .int .i64 a0)], none, true, .int .i64 a0, [], []⟩,
  ⟨some 16, [(0, .mf 1 10000)], none, true, .mf 1 10000, [], []⟩,
  ⟨some 17, [(3, .int .i64 a1)], none, true, .int .i64 a1, [], []⟩,
  ⟨some 18, [(0, .mf 1 10000)], none, true, .mf 1 10000, [], []⟩,
  ⟨some 19, [(3, .int .i64 a1)], none, true, .int .i64 a1, [], []⟩,
  ⟨some 20, [(18, .mf 1 10000), (19, .int .i64 a1)], none, true, .ar 1 10000 (a1 : Int).toNat 0, [(10000, .arr 3 Ty.i64 a2)], []⟩,
  ⟨some 21, [(20, .ar 1 10000 (a1 : Int).toNat 0)], none, true, .int .i64 v1, [(10000, .arr 3 Ty.i64 a2)], []⟩,
  ⟨some 22, [(0, .mf 1 10000)], none, true, .mf 1 10000, [], []⟩,
  ⟨some 23, [(2, .int .i64 a0)], none, true, .int .i64 a0, [], []⟩,
  ⟨some 24, [(22, .mf 1 10000), (23, .int .i64 a0)], none, true, .ar 1 10000 (a0 : Int).toNat 0, [(10000, .arr 3 Ty.i64 a2)], []⟩,
  ⟨some 25, [(24, .ar 1 10000 (a0 : Int).toNat 0)], none, true, .int .i64 v2, [(10000, .arr 3 Ty.i64 a2)], []⟩,
  ⟨some 26, [(14, .mf 1 10000), (15, .int .i64 a0)], none, true, .ar 1 10000 (a0 : Int).toNat 0, [(10000, .arr 3 Ty.i64 a2)], []⟩,
  ⟨none, [(26, .ar 1 10000 (a0 : Int).toNat 0), (21, .int .i64 v1)], none, true, .undef, [(10000, .arr 3 Ty.i64 a2)], [(10000, .arr 3 Ty.i64 (a2.set (a0 : Int).toNat v1))]⟩,
  ⟨some 27, [(16, .mf 1 10000), (17, .int .i64 a1)], none, true, .ar 1 10000 (a1 : Int).toNat 0, [(10000, .arr 3 Ty.i64 (a2.set (a0 : Int).toNat v1))], []⟩,
  ⟨none, [(27, .ar 1 10000 (a1 : Int).toNat 0), (25, .int .i64 v2)], none, true, .undef, [(10000, .arr 3 Ty.i64 (a2.set (a0 : Int).toNat v1))], [(10000, .arr 3 Ty.i64 ((a2.set (a0 : Int).toNat v1).set (a1 : Int).toNat v2))]⟩] [[], [], [], [], [], [], [4, 5], [4, 5, 6], [], [], [8, 9], [8, 9, 10], [0, 1, 4, 5, 6, 7, 8, 9, 10, 11], [0, 1, 4, 5, 6, 7, 8, 9, 10, 11, 12], [0, 1, 2, 3, 4, 5, 6, 7, 8, 9, 10, 11, 12, 13], [0, 1, 2, 3, 4, 5, 6, 7, 8, 9, 10, 11, 12, 13, 14]] (by kernel_rfl) (by kernel_rfl) (.cons (qok (dlt rfl rfl) rfl (.same rfl .nil) (NeedQ.all .nil) (fun Γx σx => ok_move (dlt rfl rfl) rfl rfl)) (.cons (qok (dlt rfl rfl) rfl (.same rfl .nil) (NeedQ.all .nil) (fun Γx σx => ok_move (dlt rfl rfl) rfl rfl)) (.cons (qok (dlt rfl rfl) rfl (.same rfl .nil) (NeedQ.all .nil) (fun Γx σx => ok_move (dlt rfl rfl) rfl rfl)) (.cons (qok (dlt rfl rfl) rfl (.same rfl .nil) (NeedQ.all .nil) (fun Γx σx => ok_move (dlt rfl rfl) rfl rfl)) (.cons (qok (dlt rfl rfl) rfl (.same rfl .nil) (NeedQ.all .nil) (fun Γx σx => ok_move (dlt rfl rfl) rfl rfl)) (.cons (qok (dlt rfl rfl) rfl (.same rfl .nil) (NeedQ.all .nil) (fun Γx σx => ok_move (dlt rfl rfl) rfl rfl)) (.cons (qok (dlt rfl rfl) rfl (.same rfl (.same rfl .nil)) (NeedQ.all (.cons rfl .nil)) (fun Γx σx => ok_indexA (dlt rfl rfl) rfl Tryz.underlying50 ty3 rfl rfl rfl (idx_0 hv1) (idx_lt hv1))) (.cons (qok (dlt rfl rfl) rfl (.same rfl .nil) (NeedQ.all (.cons rfl .nil)) (fun Γx σx => ok_loadE (τ := Ty.i64) (x := v1) (dlt rfl rfl) rfl ty3 rfl rfl (idx_1 hv1) rfl)) (.cons (qok (dlt rfl rfl) rfl (.same rfl .nil) (NeedQ.all .nil) (fun Γx σx => ok_move (dlt rfl rfl) rfl rfl)) (.cons (qok (dlt rfl rfl) rfl (.same rfl .nil) (NeedQ.all .nil) (fun Γx σx => ok_move (dlt rfl rfl) rfl rfl)) (.cons (qok (dlt rfl rfl) rfl (.same rfl (.same rfl .nil)) (NeedQ.all (.cons rfl .nil)) (fun Γx σx => ok_indexA (dlt rfl rfl) rfl Tryz.underlying50 ty3 rfl rfl rfl (idx_0 hv2) (idx_lt hv2))) (.cons (qok (dlt rfl rfl) rfl (.same rfl .nil) (NeedQ.all (.cons rfl .nil)) (fun Γx σx => ok_loadE (τ := Ty.i64) (x := v2) (dlt rfl rfl) rfl ty3 rfl rfl (idx_1 hv2) rfl)) (.cons (qok (dlt rfl rfl) rfl (.same rfl (.same rfl .nil)) (NeedQ.all (.cons rfl .nil)) (fun Γx σx => ok_indexA (dlt rfl rfl) rfl Tryz.underlying50 ty3 rfl rfl rfl (idx_0 hv3) (idx_lt hv3))) (.cons (qokN (nodst rfl) rfl (.same rfl (.same rfl .nil)) (NeedQ.all (.cons rfl .nil)) (fresh0 rfl) (fun Γx σx hfr => ok_storeE (τ := Ty.i64) (j := 0) (size := 1) (x := v3) (y := v1) rfl rfl ty3 rfl rfl rfl (idx_1 hv3) rfl rfl (by decide) rfl)) (.cons (qok (dlt rfl rfl) rfl (.same rfl (.same rfl .nil)) (NeedQ.all (.cons rfl .nil)) (fun Γx σx => ok_indexA (dlt rfl rfl) rfl Tryz.underlying50 ty3 rfl rfl rfl (idx_0 hv4) (idx_lt hv4))) (.cons (qokN (nodst rfl) rfl (.same rfl (.same rfl .nil)) (NeedQ.all (.cons rfl .nil)) (fresh0 rfl) (fun Γx σx hfr => ok_storeE (τ := Ty.i64) (j := 0) (size := 1) (x := v4) (y := v2) rfl rfl ty3 rfl rfl rfl (idx_1 hv4) rfl rfl (by decide) rfl)) (.nil _ _))))))))))))))))) (.nil ?_)
   refine ak_inBlock ?_
   refine ak_regionS (.cons rfl (ok_move (dlt rfl rfl) rfl rfl) (.cons rfl (ok_add (dlt rfl rfl) rfl rfl rfl) (.cons rfl (ok_move (dlt rfl rfl) rfl rfl) (.cons rfl (ok_sub (dlt rfl rfl) rfl rfl rfl) (.cons rfl (ok_assign (dlt rfl rfl) rfl rfl) (.cons rfl (ok_assign (dlt rfl rfl) rfl rfl) (.nil ?_)))))))
   refine ak_inLoop ?_
   exact ak_conv (.cons rfl (.refl _) (.cons rfl (.refl _) (.cons rfl (.refl _) (.nil _)))) (.cons rfl (.refl _) (.nil _)) (ih _ _ h w F ρ _)
  ·have h := cond_f ht h
   refine ak_exit rfl ?_
   obtain rfl := Option.some.inj h
   refine ak_conv (Γ' := []) (σ' := [(10000, .arr 3 Ty.i64 a2)]) (.nil _) (.cons rfl (.refl _) (.nil _)) ?_
   exact ak_endC (fn := Tryz.f75) [(10000, .arr 3 Ty.i64 a2)] (.cons rfl (.refl _) (.nil _)) Tryz.func75 rfl trivial ⟨rfl, rfl⟩)
theorem d75 {a0 : List Int} {r : List Int} (h : f75 (.e75 a0) = some r) : Does Tryz.prog GG 75 [.mf 1 10000] [(10000, .arr 3 Ty.i64 a0)] (fun z σ' => z = .tup [] ∧ σ' = [(10000, .arr 3 Ty.i64 r)]) := fn_of (fn := Tryz.f75) Tryz.func75 rfl Tryz.ntmps75 rfl (w75 _ _ h)
/-- riffle/eval.Children -/
noncomputable abbrev b22 : Code := codeOf Tryz.f22
inductive L22 where
 | e22 (a0 : ApiValue) (a1 : ApiSelector)
 | l22_0 (a0 : Int) (a1 : Int) (a2 : List Int) (a3 : ApiSelector) (a4 : ApiValue)
 | l22_1 (a0 : Int) (a1 : Bool) (a2 : Int) (a3 : Int) (a4 : List Int) (a5 : ApiSelector) (a6 : ApiValue)
 | l22_2 (a0 : List Int)
 | l22_3 (a0 : Int) (a1 : Int) (a2 : List Int) (a3 : ApiSelector) (a4 : ApiValue)
noncomputable def f22 : L22 → Option (List Int)
 | .e22 a0 a1 =>
  f22 (.l22_0 (a0.items.length : Int) (0 : Int) ([] : List Int) a1 a0)
 | .l22_0 a0 a1 a2 a3 a4 =>
  if (decide (a1 < a0)) = true then
   if (a4.kind == (5 : Int)) = true then
    gd ((!(a3.kind == (1 : Int))) && (a3.kind == (0 : Int))) (idx a4.names a1) >>= fun v1 =>
    f22 (.l22_1 a1 ((a3.kind == (1 : Int)) || ((a3.kind == (0 : Int)) && (v1 == a3.name))) a0 a1 a2 a3 a4)
   else
    if (a4.kind == (4 : Int)) = true then
     gd (!(a3.kind == (1 : Int))) (f74 (.e74 a3 a1 (a4.items.length : Int))) >>= fun v2 =>
     f22 (.l22_1 a1 ((a3.kind == (1 : Int)) || v2) a0 a1 a2 a3 a4)
    else
     f22 (.l22_1 a1 false a0 a1 a2 a3 a4)
  else
   if ((a3.kind == (3 : Int)) && (decide (a3.stride < (0 : Int)))) = true then
    f75 (.e75 a2) >>= fun v3 =>
    f22 (.l22_2 v3)
   else
    f22 (.l22_2 a2)
 | .l22_1 a0 a1 a2 a3 a4 a5 a6 =>
  if a1 = true then
   room a4.length ([a0] : List Int).length 8 >>= fun v4 =>
   f22 (.l22_3 a2 a3 (a4 ++ ([a0] : List Int)) a5 a6)
  else
   f22 (.l22_3 a2 a3 a4 a5 a6)
 | .l22_2 a0 =>
  some a0
 | .l22_3 a0 a1 a2 a3 a4 =>
  f22 (.l22_0 a0 (IntKind.wrap .i64 (a1 + (1 : Int))) a2 a3 a4)
 partial_fixpoint
def M22 : L22 → (List Int) → Prop
 | .e22 a0 a1, r => ∀ (w : World) (F : Nat → Prop) (ρ : Rho), AK Tryz.prog (ctx GG 66 w F ρ []) 22 [.code b22] (argE 0 [.agg [.int .i64 a0.kind, .int .i64 a0.frm, .int .i64 a0.to, .str a0.text, .sl Ty.sApiValue a0.items, .sl Ty.str a0.names], .agg [.int .i64 a1.kind, .str a1.name, .int .i64 a1.index, .int .i64 a1.start, .int .i64 a1.stop, .bool a1.hasStart, .bool a1.hasEnd, .int .i64 a1.stride]]) [] (fun z _ => z = .sl Ty.i64 r)
 | .l22_0 a0 a1 a2 a3 a4, r => ∀ (w : World) (F : Nat → Prop) (ρ : Rho), AK Tryz.prog (ctx GG 66 w F ρ []) 22 [.code (c1 (c1 (c2 (c1 (c2 (c2 b22)))))), .inLoop (c1 (c1 (c2 (c1 (c2 (c2 b22)))))), .inBlock 0, .code (c2 (c2 (c2 b22)))] [(2, .ref 2 0), (3, .ref 3 0), (5, .mf 1 1005), (10, .int .i64 a0), (11, .int .i64 a1)] [(1005, .arr 3 Ty.i64 a2), (3, .cells 49 [.int .i64 a3.kind, .str a3.name, .int .i64 a3.index, .int .i64 a3.start, .int .i64 a3.stop, .bool a3.hasStart, .bool a3.hasEnd, .int .i64 a3.stride]), (2, .cells 29 [.int .i64 a4.kind, .int .i64 a4.frm, .int .i64 a4.to, .str a4.text, .sl Ty.sApiValue a4.items, .sl Ty.str a4.names])] (fun z _ => z = .sl Ty.i64 r)
 | .l22_1 a0 a1 a2 a3 a4 a5 a6, r => ∀ (w : World) (F : Nat → Prop) (ρ : Rho), AK Tryz.prog (ctx GG 66 w F ρ []) 22 [.inBlock 2, .code (c2 (c2 (c2 (c1 (c1 (c2 (c2 (c1 (c1 (c2 (c1 (c2 (c2 b22))))))))))))), .inBlock 1, .code (c2 (c2 (c2 (c1 (c1 (c2 (c1 (c2 (c2 b22))))))))), .inLoop (c1 (c1 (c2 (c1 (c2 (c2 b22)))))), .inBlock 0, .code (c2 (c2 (c2 b22)))] [(2, .ref 2 0), (3, .ref 3 0), (5, .mf 1 1005), (6, .int .i64 a0), (7, .bool a1), (10, .int .i64 a2), (11, .int .i64 a3)] [(1005, .arr 3 Ty.i64 a4), (3, .cells 49 [.int .i64 a5.kind, .str a5.name, .int .i64 a5.index, .int .i64 a5.start, .int .i64 a5.stop, .bool a5.hasStart, .bool a5.hasEnd, .int .i64 a5.stride]), (2, .cells 29 [.int .i64 a6.kind, .int .i64 a6.frm, .int .i64 a6.to, .str a6.text, .sl Ty.sApiValue a6.items, .sl Ty.str a6.names])] (fun z _ => z = .sl Ty.i64 r)
 | .l22_2 a0, r => ∀ (w : World) (F : Nat → Prop) (ρ : Rho), AK Tryz.prog (ctx GG 66 w F ρ []) 22 [.code (c2 (c2 (c2 (c2 b22))))] [(5, .mf 1 1005)] [(1005, .arr 3 Ty.i64 a0)] (fun z _ => z = .sl Ty.i64 r)
 | .l22_3 a0 a1 a2 a3 a4, r => ∀ (w : World) (F : Nat → Prop) (ρ : Rho), AK Tryz.prog (ctx GG 66 w F ρ []) 22 [.inBlock 1, .code (c2 (c2 (c2 (c1 (c1 (c2 (c1 (c2 (c2 b22))))))))), .inLoop (c1 (c1 (c2 (c1 (c2 (c2 b22)))))), .inBlock 0, .code (c2 (c2 (c2 b22)))] [(2, .ref 2 0), (3, .ref 3 0), (5, .mf 1 1005), (10, .int .i64 a0), (11, .int .i64 a1)] [(1005, .arr 3 Ty.i64 a2), (3, .cells 49 [.int .i64 a3.kind, .str a3.name, .int .i64 a3.index, .int .i64 a3.start, .int .i64 a3.stop, .bool a3.hasStart, .bool a3.hasEnd, .int .i64 a3.stride]), (2, .cells 29 [.int .i64 a4.kind, .int .i64 a4.frm, .int .i64 a4.to, .str a4.text, .sl Ty.sApiValue a4.items, .sl Ty.str a4.names])] (fun z _ => z = .sl Ty.i64 r)
theorem w22 : ∀ (l : L22) (r : List Int), f22 l = some r → M22 l r := f22.partial_correctness M22 (by
 intro f ih l r h
 cases l with
 | e22 a0 a1 =>
  intro w F ρ
  dsimp only at h
  refine ak_seq ?_
  refine ak_regionS (.cons rfl (ok_box (d := 2) (dlt rfl rfl) rfl rfl rfl rfl rfl) (.cons rfl (ok_box (d := 3) (dlt rfl rfl) rfl rfl rfl rfl rfl) (.cons rfl (ok_assign (dlt rfl rfl) rfl rfl) (.nil ?_))))
  refine ak_seq ?_
  refine ak_regionS (.cons rfl (ok_assign (dlt rfl rfl) rfl rfl) (.nil ?_))
  refine ak_nilRow (s := 5) (d := 1005) (e := 3) Ty.i64 rfl rfl rfl ?_
  refine ak_seq ?_
  refine ak_seq ?_
  refine ak_regionS (.cons rfl (ok_fieldV (dlt rfl rfl) rfl fo29_4 ty26 (by decide) rfl) (.cons rfl (ok_loadV (dlt rfl rfl) rfl ty26 rfl rfl rfl) (.cons rfl (ok_lenS (τ := Ty.sApiValue) (xs := a0.items) (dlt rfl rfl) rfl Tryz.underlying26 rfl) (.cons rfl (ok_move (dlt rfl rfl) rfl rfl) (.nil ?_)))))
  refine ak_block ?_
  refine ak_loop ?_
  exact ak_conv (.cons rfl (.refl _) (.cons rfl (.refl _) (.cons rfl (.refl _) (.cons rfl (.refl _) (.cons rfl (.refl _) (.nil _)))))) (.cons rfl (.refl _) (.cons rfl (.refl _) (.cons rfl (.refl _) (.nil _)))) (ih _ _ h w F ρ)
 | l22_0 a0 a1 a2 a3 a4 =>
  intro w F ρ
  dsimp only at h
  refine ak_seq ?_
  refine ak_regionS (.cons rfl (ok_lss (dlt rfl rfl) rfl rfl rfl) (.nil ?_))
  refine ak_seq ?_
  refine ak_cond rfl (fun ht => ?_) (fun ht => ?_)
  ·have h := cond_t ht h
   refine ak_skip ?_
   refine ak_seq ?_
   refine ak_block ?_
   refine ak_seq ?_
   refine ak_regionS (.cons rfl (ok_move (dlt rfl rfl) rfl rfl) (.cons rfl (ok_assign (dlt rfl rfl) rfl rfl) (.nil ?_)))
   refine ak_seq ?_
   refine ak_regionS (.cons rfl (ok_assign (dlt rfl rfl) rfl rfl) (.nil ?_))
   refine ak_seq ?_
   refine ak_seq ?_
   refine ak_regionS (.cons rfl (ok_fieldV (dlt rfl rfl) rfl fo29_0 ty3 (by decide) rfl) (.cons rfl (ok_loadV (dlt rfl rfl) rfl ty3 rfl rfl rfl) (.nil ?_)))
   refine ak_block ?_
   refine ak_seq ?_
   refine ak_regionS (.cons rfl (ok_eql (dlt rfl rfl) rfl rfl rfl) (.cons rfl (ok_assign (dlt rfl rfl) rfl rfl) (.nil ?_)))
   refine ak_cond rfl (fun ht => ?_) (fun ht => ?_)
   ·have h := cond_t ht h
    obtain ⟨v1, hv1, h⟩ := bind_of h
    refine ak_drawL [⟨some 18, [(3, .ref 3 0)], none, true, .ref 3 0, [], []⟩,
  ⟨some 19, [(18, .ref 3 0)], none, true, .int .i64 a3.kind, [(3, .cells 49 [.int .i64 a3.kind, .str a3.name, .int .i64 a3.index, .int .i64 a3.start, .int .i64 a3.stop, .bool a3.hasStart, .bool a3.hasEnd, .int .i64 a3.stride])], []⟩,
  ⟨some 20, [(19, .int .i64 a3.kind)], none, true, .bool (a3.kind == (1 : Int)), [], []⟩,
  ⟨some 21, [(20, .bool (a3.kind == (1 : Int)))], none, true, .bool (a3.kind == (1 : Int)), [], []⟩,
  ⟨some 22, [(3, .ref 3 0)], some 21, (!(a3.kind == (1 : Int))), .ref 3 0, [], []⟩,
  ⟨some 23, [(22, .ref 3 0)], some 21, (!(a3.kind == (1 : Int))), .int .i64 a3.kind, [(3, .cells 49 [.int .i64 a3.kind, .str a3.name, .int .i64 a3.index, .int .i64 a3.start, .int .i64 a3.stop, .bool a3.hasStart, .bool a3.hasEnd, .int .i64 a3.stride])], []⟩,
  ⟨some 24, [(23, .int .i64 a3.kind)], some 21, (!(a3.kind == (1 : Int))), .bool (a3.kind == (0 : Int)), [], []⟩,
  ⟨some 25, [(24, .bool (a3.kind == (0 : Int)))], some 21, (!(a3.kind == (1 : Int))), .bool (a3.kind == (0 : Int)), [], []⟩,
  ⟨some 26, [(2, .ref 2 0)], some 25, ((!(a3.kind == (1 : Int))) && (a3.kind == (0 : Int))), .ref 2 5, [], []⟩,
  ⟨some 27, [(26, .ref 2 5)], some 25, ((!(a3.kind == (1 : Int))) && (a3.kind == (0 : Int))), .sl Ty.str a4.names, [(2, .cells 29 [.int .i64 a4.kind, .int .i64 a4.frm, .int .i64 a4.to, .str a4.text, .sl Ty.sApiValue a4.items, .sl Ty.str a4.names])], []⟩,
  ⟨some 28, [(6, .int .i64 a1)], some 25, ((!(a3.kind == (1 : Int))) && (a3.kind == (0 : Int))), .int .i64 a1, [], []⟩,
  ⟨some 29, [(27, .sl Ty.str a4.names), (28, .int .i64 a1)], some 25, ((!(a3.kind == (1 : Int))) && (a3.kind == (0 : Int))), .rp [.str v1], [], []⟩,
  ⟨some 30, [(29, .rp [.str v1])], some 25, ((!(a3.kind == (1 : Int))) && (a3.kind == (0 : Int))), .str v1, [], []⟩,
  ⟨some 31, [(3, .ref 3 0)], some 25, ((!(a3.kind == (1 : Int))) && (a3.kind == (0 : Int))), .ref 3 1, [], []⟩,
  ⟨some 32, [(31, .ref 3 1)], some 25, ((!(a3.kind == (1 : Int))) && (a3.kind == (0 : Int))), .str a3.name, [(3, .cells 49 [.int .i64 a3.kind, .str a3.name, .int .i64 a3.index, .int .i64 a3.start, .int .i64 a3.stop, .bool a3.hasStart, .bool a3.hasEnd, .int .i64 a3.stride])], []⟩,
  ⟨some 33, [(30, .str v1), (32, .str a3.name)], some 25, ((!(a3.kind == (1 : Int))) && (a3.kind == (0 : Int))), .bool (v1 == a3.name), [], []⟩,
  ⟨some 34, [(25, .bool (a3.kind == (0 : Int))), (33, .when ((!(a3.kind == (1 : Int))) && (a3.kind == (0 : Int))) (.bool (v1 == a3.name)))], some 21, (!(a3.kind == (1 : Int))), .bool ((a3.kind == (0 : Int)) && (v1 == a3.name)), [], []⟩,
  ⟨some 35, [(21, .bool (a3.kind == (1 : Int))), (34, .when (!(a3.kind == (1 : Int))) (.bool ((a3.kind == (0 : Int)) && (v1 == a3.name))))], none, true, .bool ((a3.kind == (1 : Int)) || ((a3.kind == (0 : Int)) && (v1 == a3.name))), [], []⟩,
  ⟨some 7, [(35, .bool ((a3.kind == (1 : Int)) || ((a3.kind == (0 : Int)) && (v1 == a3.name))))], none, true, .bool ((a3.kind == (1 : Int)) || ((a3.kind == (0 : Int)) && (v1 == a3.name))), [], []⟩] [[], [0], [0, 1], [0, 1, 2], [0, 1, 2, 3], [0, 1, 2, 3, 4], [0, 1, 2, 3, 4, 5], [0, 1, 2, 3, 4, 5, 6], [0, 1, 2, 3, 4, 5, 6, 7], [0, 1, 2, 3, 4, 5, 6, 7, 8], [0, 1, 2, 3, 4, 5, 6, 7], [0, 1, 2, 3, 4, 5, 6, 7, 8, 9, 10], [0, 1, 2, 3, 4, 5, 6, 7, 8, 9, 10, 11], [0, 1, 2, 3, 4, 5, 6, 7], [0, 1, 2, 3, 4, 5, 6, 7, 13], [0, 1, 2, 3, 4, 5, 6, 7, 8, 9, 10, 11, 12, 13, 14], [0, 1, 2, 3, 4, 5, 6, 7, 8, 9, 10, 11, 12, 13, 14, 15], [0, 1, 2, 3, 4, 5, 6, 7, 8, 9, 10, 11, 12, 13, 14, 15, 16], [0, 1, 2, 3, 4, 5, 6, 7, 8, 9, 10, 11, 12, 13, 14, 15, 16, 17]] (by kernel_rfl) (by kernel_rfl) (.cons (qok (dlt rfl rfl) rfl (.same rfl .nil) (NeedQ.all .nil) (fun Γx σx => ok_fieldV (dlt rfl rfl) rfl fo49_0 ty3 (by decide) rfl)) (.cons (qok (dlt rfl rfl) rfl (.same rfl .nil) (NeedQ.all (.cons rfl .nil)) (fun Γx σx => ok_loadV (dlt rfl rfl) rfl ty3 rfl rfl rfl)) (.cons (qok (dlt rfl rfl) rfl (.same rfl .nil) (NeedQ.all .nil) (fun Γx σx => ok_eql (dlt rfl rfl) rfl rfl rfl)) (.cons (qok (dlt rfl rfl) rfl (.same rfl .nil) (NeedQ.all .nil) (fun Γx σx => ok_move (dlt rfl rfl) rfl rfl)) (.cons (qokG (dlt rfl rfl) rfl rfl rfl rfl (.same rfl .nil) (NeedQ.all .nil) (fun he Γx σx => ok_fieldV (dlt rfl rfl) rfl fo49_0 ty3 (by decide) rfl)) (.cons (qokG (dlt rfl rfl) rfl rfl rfl rfl (.when rfl (fun he => he) .nil) (NeedQ.all (.cons rfl .nil)) (fun he Γx σx => ok_loadV (dlt rfl rfl) rfl ty3 rfl rfl rfl)) (.cons (qokG (dlt rfl rfl) rfl rfl rfl rfl (.when rfl (fun he => he) .nil) (NeedQ.all .nil) (fun he Γx σx => ok_eql (dlt rfl rfl) rfl rfl rfl)) (.cons (qokG (dlt rfl rfl) rfl rfl rfl rfl (.when rfl (fun he => he) .nil) (NeedQ.all .nil) (fun he Γx σx => ok_move (dlt rfl rfl) rfl rfl)) (.cons (qokG (dlt rfl rfl) rfl rfl rfl rfl (.same rfl .nil) (NeedQ.all .nil) (fun he Γx σx => ok_fieldV (dlt rfl rfl) rfl fo29_5 ty27 (by decide) rfl)) (.cons (qokG (dlt rfl rfl) rfl rfl rfl rfl (.when rfl (fun he => he) .nil) (NeedQ.all (.cons rfl .nil)) (fun he Γx σx => ok_loadV (dlt rfl rfl) rfl ty27 rfl rfl rfl)) (.cons (qokG (dlt rfl rfl) rfl rfl rfl rfl (.same rfl .nil) (NeedQ.all .nil) (fun he Γx σx => ok_move (dlt rfl rfl) rfl rfl)) (.cons (qokG (dlt rfl rfl) rfl rfl rfl rfl (.when rfl (fun he => he) (.when rfl (fun he => he) .nil)) (NeedQ.all .nil) (fun he Γx σx => ok_indexS (τ := Ty.str) (x := v1) (dlt rfl rfl) rfl Tryz.underlying27 ty9 rfl rfl rfl (idx_0 (gd_t hv1 he)) (idx_1 (gd_t hv1 he)))) (.cons (qokG (dlt rfl rfl) rfl rfl rfl rfl (.when rfl (fun he => he) .nil) (NeedQ.all .nil) (fun he Γx σx => ok_loadR (dlt rfl rfl) rfl ty9 rfl rfl)) (.cons (qokG (dlt rfl rfl) rfl rfl rfl rfl (.same rfl .nil) (NeedQ.all .nil) (fun he Γx σx => ok_fieldV (dlt rfl rfl) rfl fo49_1 ty9 (by decide) rfl)) (.cons (qokG (dlt rfl rfl) rfl rfl rfl rfl (.when rfl (fun he => he) .nil) (NeedQ.all (.cons rfl .nil)) (fun he Γx σx => ok_loadV (dlt rfl rfl) rfl ty9 rfl rfl rfl)) (.cons (qokG (dlt rfl rfl) rfl rfl rfl rfl (.when rfl (fun he => he) (.when rfl (fun he => he) .nil)) (NeedQ.all .nil) (fun he Γx σx => ok_eqlS (dlt rfl rfl) rfl rfl rfl)) (.cons (qokG (dlt rfl rfl) rfl rfl rfl rfl (.when rfl (fun he => he) (.same rfl .nil)) (NeedQ.all .nil) (fun he Γx σx => ok_andW (dlt rfl rfl) rfl rfl rfl (fun h => band_i he h))) (.cons (qok (dlt rfl rfl) rfl (.same rfl (.same rfl .nil)) (NeedQ.all .nil) (fun Γx σx => ok_orW (dlt rfl rfl) rfl rfl rfl (fun h => (bnot_t h)))) (.cons (qok (dlt rfl rfl) rfl (.same rfl .nil) (NeedQ.all .nil) (fun Γx σx => ok_assign (dlt rfl rfl) rfl rfl)) (.nil _ _)))))))))))))))))))) (.nil ?_)
    exact ak_conv (.cons rfl (.refl _) (.cons rfl (.refl _) (.cons rfl (.refl _) (.cons rfl (.refl _) (.cons rfl (.refl _) (.cons rfl (.refl _) (.cons rfl (.refl _) (.nil _)))))))) (.cons rfl (.refl _) (.cons rfl (.refl _) (.cons rfl (.refl _) (.nil _)))) (ih _ _ h w F ρ)
   ·have h := cond_f ht h
    refine ak_seq ?_
    refine ak_regionS (.cons rfl (ok_eql (dlt rfl rfl) rfl rfl rfl) (.cons rfl (ok_assign (dlt rfl rfl) rfl rfl) (.nil ?_)))
    refine ak_cond rfl (fun ht => ?_) (fun ht => ?_)
    ·have h := cond_t ht h
     obtain ⟨v2, hv2, h⟩ := bind_of h
     refine ak_regionS (.cons rfl (ok_fieldV (dlt rfl rfl) rfl fo49_0 ty3 (by decide) rfl) (.cons rfl (ok_loadV (dlt rfl rfl) rfl ty3 rfl rfl rfl) (.cons rfl (ok_eql (dlt rfl rfl) rfl rfl rfl) (.cons rfl (ok_move (dlt rfl rfl) rfl rfl) (.consG (pre := []) (dlt rfl rfl) rfl rfl rfl rfl .nil (fun he => ok_loadVT (dlt rfl rfl) rfl ty49 rfl rfl (by decide) rfl) (.consG (pre := []) (dlt rfl rfl) rfl rfl rfl rfl .nil (fun he => ok_move (dlt rfl rfl) rfl rfl) (.consG (pre := []) (dlt rfl rfl) rfl rfl rfl rfl .nil (fun he => ok_fieldV (dlt rfl rfl) rfl fo29_4 ty26 (by decide) rfl) (.consG (pre := [(44, .ref 2 4)]) (dlt rfl rfl) rfl rfl rfl rfl (.cons rfl (fun he => he) .nil) (fun he => ok_loadV (dlt rfl rfl) rfl ty26 rfl rfl rfl) (.consG (pre := [(45, .sl Ty.sApiValue a4.items)]) (dlt rfl rfl) rfl rfl rfl rfl (.cons rfl (fun he => he) .nil) (fun he => ok_lenS (τ := Ty.sApiValue) (xs := a4.items) (dlt rfl rfl) rfl Tryz.underlying26 rfl) (.consG (pre := [(42, .agg [.int .i64 a3.kind, .str a3.name, .int .i64 a3.index, .int .i64 a3.start, .int .i64 a3.stop, .bool a3.hasStart, .bool a3.hasEnd, .int .i64 a3.stride]), (43, .int .i64 a1), (46, .int .i64 (a4.items.length : Int))]) (dlt rfl rfl) rfl rfl rfl rfl (.cons rfl (fun he => he) (.cons rfl (fun he => he) (.cons rfl (fun he => he) .nil))) (fun he => ok_call (xs := [.agg [.int .i64 a3.kind, .str a3.name, .int .i64 a3.index, .int .i64 a3.start, .int .i64 a3.stop, .bool a3.hasStart, .bool a3.hasEnd, .int .i64 a3.stride], .int .i64 a1, .int .i64 (a4.items.length : Int)]) (caps := []) (dlt rfl rfl) rfl rfl Tryz.func74 rfl rfl rfl (d74 (gd_t hv2 he)) rfl) (.cons rfl (ok_orW (dlt rfl rfl) rfl rfl rfl (fun h => (bnot_t h))) (.cons rfl (ok_assign (dlt rfl rfl) rfl rfl) (.nil ?_)))))))))))))
     exact ak_conv (.cons rfl (.refl _) (.cons rfl (.refl _) (.cons rfl (.refl _) (.cons rfl (.refl _) (.cons rfl (.refl _) (.cons rfl (.refl _) (.cons rfl (.refl _) (.nil _)))))))) (.cons rfl (.refl _) (.cons rfl (.refl _) (.cons rfl (.refl _) (.nil _)))) (ih _ _ h w F ρ)
    ·have h := cond_f ht h
     refine ak_skip ?_
     exact ak_conv (.cons rfl (.refl _) (.cons rfl (.refl _) (.cons rfl (.refl _) (.cons rfl (.refl _) (.cons rfl (.refl _) (.cons rfl (.refl _) (.cons rfl (.refl _) (.nil _)))))))) (.cons rfl (.refl _) (.cons rfl (.refl _) (.cons rfl (.refl _) (.nil _)))) (ih _ _ h w F ρ)
  ·have h := cond_f ht h
   refine ak_exit rfl ?_
   refine ak_seq ?_
   refine ak_seq ?_
   refine ak_regionS (.cons rfl (ok_fieldV (dlt rfl rfl) rfl fo49_0 ty3 (by decide) rfl) (.cons rfl (ok_loadV (dlt rfl rfl) rfl ty3 rfl rfl rfl) (.cons rfl (ok_eql (dlt rfl rfl) rfl rfl rfl) (.cons rfl (ok_move (dlt rfl rfl) rfl rfl) (.consG (pre := []) (dlt rfl rfl) rfl rfl rfl rfl .nil (fun he => ok_fieldV (dlt rfl rfl) rfl fo49_7 ty3 (by decide) rfl) (.consG (pre := [(59, .ref 3 7)]) (dlt rfl rfl) rfl rfl rfl rfl (.cons rfl (fun he => he) .nil) (fun he => ok_loadV (dlt rfl rfl) rfl ty3 rfl rfl rfl) (.consG (pre := [(60, .int .i64 a3.stride)]) (dlt rfl rfl) rfl rfl rfl rfl (.cons rfl (fun he => he) .nil) (fun he => ok_lss (dlt rfl rfl) rfl rfl rfl) (.cons rfl (ok_andW (dlt rfl rfl) rfl rfl rfl (fun h => h)) (.nil ?_)))))))))
   refine ak_cond rfl (fun ht => ?_) (fun ht => ?_)
   ·have h := cond_t ht h
    obtain ⟨v3, hv3, h⟩ := bind_of h
    refine ak_regionS (.cons rfl (ok_move (dlt rfl rfl) rfl rfl) (.cons rfl (ok_callL (xs := [.mf 1 1005]) (caps := []) (xs1 := [.mf 1 1005]) (z := .tup []) (ups := [(1005, .arr 3 Ty.i64 v3)]) (dlt rfl rfl) [(10000, (1005, none))] [] rfl rfl Tryz.func75 rfl rfl rfl (.cons (.refl _) (.nil)) (.cons (.mf rfl) (.nil)) (.arr rfl .nil) rfl (d75 hv3) (.arr (l := 10000) rfl rfl rfl .nil) rfl rfl rfl (by intro d h; simp at h) rfl (.same rfl)) (.nil ?_)))
    exact ak_conv (.cons rfl (.refl _) (.nil _)) (.cons rfl (.refl _) (.nil _)) (ih _ _ h w F ρ)
   ·have h := cond_f ht h
    refine ak_skip ?_
    exact ak_conv (.cons rfl (.refl _) (.nil _)) (.cons rfl (.refl _) (.nil _)) (ih _ _ h w F ρ)
 | l22_1 a0 a1 a2 a3 a4 a5 a6 =>
  intro w F ρ
  dsimp only at h
  refine ak_inBlock ?_
  refine ak_seq ?_
  refine ak_regionS (.cons rfl (ok_move (dlt rfl rfl) rfl rfl) (.nil ?_))
  refine ak_cond rfl (fun ht => ?_) (fun ht => ?_)
  ·have h := cond_t ht h
   obtain ⟨v4, hv4, h⟩ := bind_of h
   refine ak_regionS (.cons rfl (ok_move (dlt rfl rfl) rfl rfl) (.cons rfl (ok_move (dlt rfl rfl) rfl rfl) (.cons rfl (ok_lit (τ := Ty.i64) (dlt rfl rfl) ([a0] : List Int) rfl Tryz.underlying50 ty3 rfl rfl rfl rfl rfl (by decide) (by decide) rfl) (.cons rfl (ok_appendF (τ := Ty.i64) (xs := a4) (ys := ([a0] : List Int)) (dlt rfl rfl) rfl Tryz.underlying50 ty3 rfl rfl rfl rfl (room_1 hv4) (room_2 hv4)) (.cons rfl (ok_assign (dlt rfl rfl) rfl rfl) (.nil ?_))))))
   exact ak_conv (.cons rfl (.refl _) (.cons rfl (.refl _) (.cons rfl (.refl _) (.cons rfl (.refl _) (.cons rfl (.refl _) (.nil _)))))) (.cons rfl (.refl _) (.cons rfl (.refl _) (.cons rfl (.refl _) (.nil _)))) (ih _ _ h w F ρ)
  ·have h := cond_f ht h
   refine ak_skip ?_
   exact ak_conv (.cons rfl (.refl _) (.cons rfl (.refl _) (.cons rfl (.refl _) (.cons rfl (.refl _) (.cons rfl (.refl _) (.nil _)))))) (.cons rfl (.refl _) (.cons rfl (.refl _) (.cons rfl (.refl _) (.nil _)))) (ih _ _ h w F ρ)
 | l22_2 a0 =>
  intro w F ρ
  dsimp only at h
  refine ak_seq ?_
  refine ak_regionS (.cons rfl (ok_move (dlt rfl rfl) rfl rfl) (.cons rfl (ok_assign (dlt rfl rfl) rfl rfl) (.nil ?_)))
  obtain rfl := Option.some.inj h
  refine ak_freeze 1005 rfl ?_
  refine ak_conv (Γ' := [(4, .sl Ty.i64 a0)]) (σ' := []) (.cons rfl (.refl _) (.nil _)) (.nil _) ?_
  exact ak_ret (fn := Tryz.f22) Tryz.func22 rfl trivial rfl
 | l22_3 a0 a1 a2 a3 a4 =>
  intro w F ρ
  dsimp only at h
  refine ak_inBlock ?_
  refine ak_regionS (.cons rfl (ok_add (dlt rfl rfl) rfl rfl rfl) (.cons rfl (ok_move (dlt rfl rfl) rfl rfl) (.nil ?_)))
  refine ak_inLoop ?_
  exact ak_conv (.cons rfl (.refl _) (.cons rfl (.refl _) (.cons rfl (.refl _) (.cons rfl (.refl _) (.cons rfl (.refl _) (.nil _)))))) (.cons rfl (.refl _) (.cons rfl (.refl _) (.cons rfl (.refl _) (.nil _)))) (ih _ _ h w F ρ))
theorem d22 {a0 : ApiValue} {a1 : ApiSelector} {r : List Int} (h : f22 (.e22 a0 a1) = some r) : Does Tryz.prog GG 22 [.agg [.int .i64 a0.kind, .int .i64 a0.frm, .int .i64 a0.to, .str a0.text, .sl Ty.sApiValue a0.items, .sl Ty.str a0.names], .agg [.int .i64 a1.kind, .str a1.name, .int .i64 a1.index, .int .i64 a1.start, .int .i64 a1.stop, .bool a1.hasStart, .bool a1.hasEnd, .int .i64 a1.stride]] [] (fun z _ => z = .sl Ty.i64 r) := fn_of (fn := Tryz.f22) Tryz.func22 rfl Tryz.ntmps22 rfl (w22 _ _ h)
end Go.Proofs.YtonlbdholdaifaaGreatDoor
end
section
set_option linter.unusedVariables false
set_option linter.unusedSimpArgs false
set_option maxRecDepth 10000
namespace Go.Proofs.YtonlbdholdaifaaGreatDoor
open Go Go.Rf Go.Proofs
/-- (riffle/eval.found).item -/
noncomputable abbrev b114 : Code := codeOf Tryz.f114
inductive L114 where
 | e114 (a0 : EvalFound) (a1 : Int)
 | l114_0 (a0 : Int) (a1 : Bool) (a2 : List UInt8) (a3 : Int) (a4 : Int) (a5 : Int) (a6 : Int) (a7 : List UInt8) (a8 : EvalFound)
noncomputable def f114 : L114 → Option EvalFound
 | .e114 a0 a1 =>
  if (a0.value.kind == (5 : Int)) = true then
   idx a0.value.names a1 >>= fun v1 =>
   f114 (.l114_0 a1 true v1 (0 : Int) (0 : Int) (0 : Int) (0 : Int) [] a0)
  else
   f114 (.l114_0 a1 false [] a1 (0 : Int) (0 : Int) (0 : Int) [] a0)
 | .l114_0 a0 a1 a2 a3 a4 a5 a6 a7 a8 =>
  idx a8.value.items a0 >>= fun v2 =>
  need ((a8.steps.length : Int) = (a8.steps.length : Int) ∧ (a8.steps.length : Int) = (a8.steps.length : Int)) >>= fun v3 =>
  room a8.steps.length ([(⟨a1, a2, a3⟩ : ApiStep)] : List ApiStep).length 32 >>= fun v4 =>
  some (⟨v2, a8.steps ++ ([(⟨a1, a2, a3⟩ : ApiStep)] : List ApiStep)⟩ : EvalFound)
 partial_fixpoint
def M114 : L114 → EvalFound → Prop
 | .e114 a0 a1, r => ∀ (w : World) (F : Nat → Prop) (ρ : Rho), AK Tryz.prog (ctx GG 38 w F ρ []) 114 [.code b114] (argE 0 [.agg [.int .i64 a0.value.kind, .int .i64 a0.value.frm, .int .i64 a0.value.to, .str a0.value.text, .sl Ty.sApiValue a0.value.items, .sl Ty.str a0.value.names, .sl Ty.sApiStep a0.steps], .int .i64 a1]) [] (fun z _ => z = .agg [.int .i64 r.value.kind, .int .i64 r.value.frm, .int .i64 r.value.to, .str r.value.text, .sl Ty.sApiValue r.value.items, .sl Ty.str r.value.names, .sl Ty.sApiStep r.steps])
 | .l114_0 a0 a1 a2 a3 a4 a5 a6 a7 a8, r => ∀ (w : World) (F : Nat → Prop) (ρ : Rho), AK Tryz.prog (ctx GG 38 w F ρ []) 114 [.code (c2 (c2 (c2 b114)))] [(1, .int .i64 a0), (2, .ref 2 0), (4, .ref 4 0), (5, .ref 5 0)] [(5, .cells 121 [.bool a1, .str a2, .int .i64 a3]), (4, .cells 111 [.int .i64 a4, .int .i64 a5, .int .i64 a6, .str a7, .nils, .nils, .nils]), (2, .cells 111 [.int .i64 a8.value.kind, .int .i64 a8.value.frm, .int .i64 a8.value.to, .str a8.value.text, .sl Ty.sApiValue a8.value.items, .sl Ty.str a8.value.names, .sl Ty.sApiStep a8.steps])] (fun z _ => z = .agg [.int .i64 r.value.kind, .int .i64 r.value.frm, .int .i64 r.value.to, .str r.value.text, .sl Ty.sApiValue r.value.items, .sl Ty.str r.value.names, .sl Ty.sApiStep r.steps])
theorem w114 : ∀ (l : L114) (r : EvalFound), f114 l = some r → M114 l r := f114.partial_correctness M114 (by
 intro f ih l r h
 cases l with
 | e114 a0 a1 =>
  intro w F ρ
  dsimp only at h
  refine ak_seq ?_
  refine ak_regionS (.cons rfl (ok_box (d := 2) (dlt rfl rfl) rfl rfl rfl rfl rfl) (.cons rfl (ok_alloc (d := 4) (dlt rfl rfl) rfl ty111 rfl rfl rfl) (.nil ?_)))
  refine ak_seq ?_
  refine ak_regionS (.cons rfl (ok_move (dlt rfl rfl) rfl rfl) (.cons rfl (ok_build (dlt rfl rfl) rfl ty121 rfl pl121 rfl rfl rfl) (.cons rfl (ok_alloc (d := 5) (dlt rfl rfl) rfl ty121 rfl rfl rfl) (.cons rfl (ok_storeV rfl rfl ty121 rfl rfl rfl rfl (by decide) rfl rfl) (.nil ?_)))))
  refine ak_seq ?_
  refine ak_seq ?_
  refine ak_regionS (.cons rfl (ok_fieldV (dlt rfl rfl) rfl fo111_0 ty29 (by decide) rfl) (.cons rfl (ok_fieldV (dlt rfl rfl) rfl fo29_0 ty3 (by decide) rfl) (.cons rfl (ok_loadV (dlt rfl rfl) rfl ty3 rfl rfl rfl) (.cons rfl (ok_eql (dlt rfl rfl) rfl rfl rfl) (.nil ?_)))))
  refine ak_cond rfl (fun ht => ?_) (fun ht => ?_)
  ·have h := cond_t ht h
   obtain ⟨v1, hv1, h⟩ := bind_of h
   refine ak_regionS (.cons rfl (ok_fieldV (dlt rfl rfl) rfl fo111_0 ty29 (by decide) rfl) (.cons rfl (ok_fieldV (dlt rfl rfl) rfl fo29_5 ty27 (by decide) rfl) (.cons rfl (ok_loadV (dlt rfl rfl) rfl ty27 rfl rfl rfl) (.cons rfl (ok_move (dlt rfl rfl) rfl rfl) (.cons rfl (ok_indexS (τ := Ty.str) (x := v1) (dlt rfl rfl) rfl Tryz.underlying27 ty9 rfl rfl rfl (idx_0 hv1) (idx_1 hv1)) (.cons rfl (ok_loadR (dlt rfl rfl) rfl ty9 rfl rfl) (.cons rfl (ok_build (dlt rfl rfl) rfl ty121 rfl pl121 rfl rfl rfl) (.cons rfl (ok_storeV rfl rfl ty121 rfl rfl rfl rfl (by decide) rfl rfl) (.nil ?_)))))))))
   exact ak_conv (.cons rfl (.refl _) (.cons rfl (.refl _) (.cons rfl (.refl _) (.cons rfl (.refl _) (.nil _))))) (.cons rfl (.refl _) (.cons rfl (.refl _) (.cons rfl (.refl _) (.nil _)))) (ih _ _ h w F ρ)
  ·have h := cond_f ht h
   refine ak_skip ?_
   exact ak_conv (.cons rfl (.refl _) (.cons rfl (.refl _) (.cons rfl (.refl _) (.cons rfl (.refl _) (.nil _))))) (.cons rfl (.refl _) (.cons rfl (.refl _) (.cons rfl (.refl _) (.nil _)))) (ih _ _ h w F ρ)
 | l114_0 a0 a1 a2 a3 a4 a5 a6 a7 a8 =>
  intro w F ρ
  dsimp only at h
  refine ak_seq ?_
  obtain ⟨v2, hv2, h⟩ := bind_of h
  obtain ⟨v3, hv3, h⟩ := bind_of h
  obtain ⟨v4, hv4, h⟩ := bind_of h
  refine ak_drawL [⟨some 19, [(2, .ref 2 0)], none, true, .ref 2 0, [], []⟩,
  ⟨some 20, [(19, .ref 2 0)], none, true, .ref 2 4, [], []⟩,
  ⟨some 21, [(20, .ref 2 4)], none, true, .sl Ty.sApiValue a8.value.items, [(2, .cells 111 [.int .i64 a8.value.kind, .int .i64 a8.value.frm, .int .i64 a8.value.to, .str a8.value.text, .sl Ty.sApiValue a8.value.items, .sl Ty.str a8.value.names, .sl Ty.sApiStep a8.steps])], []⟩,
  ⟨some 22, [(1, .int .i64 a0)], none, true, .int .i64 a0, [], []⟩,
  ⟨some 23, [(21, .sl Ty.sApiValue a8.value.items), (22, .int .i64 a0)], none, true, .rp [.int .i64 v2.kind, .int .i64 v2.frm, .int .i64 v2.to, .str v2.text, .sl Ty.sApiValue v2.items, .sl Ty.str v2.names], [], []⟩,
  ⟨some 24, [(23, .rp [.int .i64 v2.kind, .int .i64 v2.frm, .int .i64 v2.to, .str v2.text, .sl Ty.sApiValue v2.items, .sl Ty.str v2.names])], none, true, .agg [.int .i64 v2.kind, .int .i64 v2.frm, .int .i64 v2.to, .str v2.text, .sl Ty.sApiValue v2.items, .sl Ty.str v2.names], [], []⟩,
  ⟨some 25, [(2, .ref 2 0)], none, true, .ref 2 6, [], []⟩,
  ⟨some 26, [(25, .ref 2 6)], none, true, .sl Ty.sApiStep a8.steps, [(2, .cells 111 [.int .i64 a8.value.kind, .int .i64 a8.value.frm, .int .i64 a8.value.to, .str a8.value.text, .sl Ty.sApiValue a8.value.items, .sl Ty.str a8.value.names, .sl Ty.sApiStep a8.steps])], []⟩,
  ⟨some 27, [(2, .ref 2 0)], none, true, .ref 2 6, [], []⟩,
  ⟨some 28, [(27, .ref 2 6)], none, true, .sl Ty.sApiStep a8.steps, [(2, .cells 111 [.int .i64 a8.value.kind, .int .i64 a8.value.frm, .int .i64 a8.value.to, .str a8.value.text, .sl Ty.sApiValue a8.value.items, .sl Ty.str a8.value.names, .sl Ty.sApiStep a8.steps])], []⟩,
  ⟨some 29, [(28, .sl Ty.sApiStep a8.steps)], none, true, .int .i64 (a8.steps.length : Int), [], []⟩,
  ⟨some 30, [(2, .ref 2 0)], none, true, .ref 2 6, [], []⟩,
  ⟨some 31, [(30, .ref 2 6)], none, true, .sl Ty.sApiStep a8.steps, [(2, .cells 111 [.int .i64 a8.value.kind, .int .i64 a8.value.frm, .int .i64 a8.value.to, .str a8.value.text, .sl Ty.sApiValue a8.value.items, .sl Ty.str a8.value.names, .sl Ty.sApiStep a8.steps])], []⟩,
  ⟨some 32, [(31, .sl Ty.sApiStep a8.steps)], none, true, .int .i64 (a8.steps.length : Int), [], []⟩,
  ⟨some 33, [(26, .sl Ty.sApiStep a8.steps), (29, .int .i64 (a8.steps.length : Int)), (32, .int .i64 (a8.steps.length : Int))], none, true, .sf Ty.sApiStep a8.steps, [], []⟩,
  ⟨some 34, [(5, .ref 5 0)], none, true, .agg [.bool a1, .str a2, .int .i64 a3], [(5, .cells 121 [.bool a1, .str a2, .int .i64 a3])], []⟩,
  ⟨some 35, [(34, .agg [.bool a1, .str a2, .int .i64 a3])], none, true, .sf Ty.sApiStep ([(⟨a1, a2, a3⟩ : ApiStep)] : List ApiStep), [], []⟩,
  ⟨some 36, [(33, .sf Ty.sApiStep a8.steps), (35, .sf Ty.sApiStep ([(⟨a1, a2, a3⟩ : ApiStep)] : List ApiStep))], none, true, .sl Ty.sApiStep (a8.steps ++ ([(⟨a1, a2, a3⟩ : ApiStep)] : List ApiStep)), [], []⟩,
  ⟨some 37, [(24, .agg [.int .i64 v2.kind, .int .i64 v2.frm, .int .i64 v2.to, .str v2.text, .sl Ty.sApiValue v2.items, .sl Ty.str v2.names]), (36, .sl Ty.sApiStep (a8.steps ++ ([(⟨a1, a2, a3⟩ : ApiStep)] : List ApiStep)))], none, true, .agg [.int .i64 v2.kind, .int .i64 v2.frm, .int .i64 v2.to, .str v2.text, .sl Ty.sApiValue v2.items, .sl Ty.str v2.names, .sl Ty.sApiStep (a8.steps ++ ([(⟨a1, a2, a3⟩ : ApiStep)] : List ApiStep))], [], []⟩,
  ⟨none, [(4, .ref 4 0), (37, .agg [.int .i64 v2.kind, .int .i64 v2.frm, .int .i64 v2.to, .str v2.text, .sl Ty.sApiValue v2.items, .sl Ty.str v2.names, .sl Ty.sApiStep (a8.steps ++ ([(⟨a1, a2, a3⟩ : ApiStep)] : List ApiStep))])], none, true, .undef, [(4, .cells 111 [.int .i64 a4, .int .i64 a5, .int .i64 a6, .str a7, .nils, .nils, .nils])], [(4, .cells 111 [.int .i64 v2.kind, .int .i64 v2.frm, .int .i64 v2.to, .str v2.text, .sl Ty.sApiValue v2.items, .sl Ty.str v2.names, .sl Ty.sApiStep (a8.steps ++ ([(⟨a1, a2, a3⟩ : ApiStep)] : List ApiStep))])]⟩] [[], [0], [0, 1], [], [0, 1, 2, 3], [0, 1, 2, 3, 4], [], [6], [], [8], [8, 9], [], [11], [11, 12], [6, 7, 8, 9, 10, 11, 12, 13], [], [15], [6, 7, 8, 9, 10, 11, 12, 13, 14, 15, 16], [0, 1, 2, 3, 4, 5, 6, 7, 8, 9, 10, 11, 12, 13, 14, 15, 16, 17], [0, 1, 2, 3, 4, 5, 6, 7, 8, 9, 10, 11, 12, 13, 14, 15, 16, 17, 18]] (by kernel_rfl) (by kernel_rfl) (.cons (qok (dlt rfl rfl) rfl (.same rfl .nil) (NeedQ.all .nil) (fun Γx σx => ok_fieldV (dlt rfl rfl) rfl fo111_0 ty29 (by decide) rfl)) (.cons (qok (dlt rfl rfl) rfl (.same rfl .nil) (NeedQ.all .nil) (fun Γx σx => ok_fieldV (dlt rfl rfl) rfl fo29_4 ty26 (by decide) rfl)) (.cons (qok (dlt rfl rfl) rfl (.same rfl .nil) (NeedQ.all (.cons rfl .nil)) (fun Γx σx => ok_loadV (dlt rfl rfl) rfl ty26 rfl rfl rfl)) (.cons (qok (dlt rfl rfl) rfl (.same rfl .nil) (NeedQ.all .nil) (fun Γx σx => ok_move (dlt rfl rfl) rfl rfl)) (.cons (qok (dlt rfl rfl) rfl (.same rfl (.same rfl .nil)) (NeedQ.all .nil) (fun Γx σx => ok_indexS (τ := Ty.sApiValue) (x := v2) (dlt rfl rfl) rfl Tryz.underlying26 ty29 rfl rfl rfl (idx_0 hv2) (idx_1 hv2))) (.cons (qok (dlt rfl rfl) rfl (.same rfl .nil) (NeedQ.all .nil) (fun Γx σx => ok_loadRT (dlt rfl rfl) rfl ty29 rfl (by decide) rfl)) (.cons (qok (dlt rfl rfl) rfl (.same rfl .nil) (NeedQ.all .nil) (fun Γx σx => ok_fieldV (dlt rfl rfl) rfl fo111_1 ty38 (by decide) rfl)) (.cons (qok (dlt rfl rfl) rfl (.same rfl .nil) (NeedQ.all (.cons rfl .nil)) (fun Γx σx => ok_loadV (dlt rfl rfl) rfl ty38 rfl rfl rfl)) (.cons (qok (dlt rfl rfl) rfl (.same rfl .nil) (NeedQ.all .nil) (fun Γx σx => ok_fieldV (dlt rfl rfl) rfl fo111_1 ty38 (by decide) rfl)) (.cons (qok (dlt rfl rfl) rfl (.same rfl .nil) (NeedQ.all (.cons rfl .nil)) (fun Γx σx => ok_loadV (dlt rfl rfl) rfl ty38 rfl rfl rfl)) (.cons (qok (dlt rfl rfl) rfl (.same rfl .nil) (NeedQ.all .nil) (fun Γx σx => ok_lenS (τ := Ty.sApiStep) (xs := a8.steps) (dlt rfl rfl) rfl Tryz.underlying38 rfl)) (.cons (qok (dlt rfl rfl) rfl (.same rfl .nil) (NeedQ.all .nil) (fun Γx σx => ok_fieldV (dlt rfl rfl) rfl fo111_1 ty38 (by decide) rfl)) (.cons (qok (dlt rfl rfl) rfl (.same rfl .nil) (NeedQ.all (.cons rfl .nil)) (fun Γx σx => ok_loadV (dlt rfl rfl) rfl ty38 rfl rfl rfl)) (.cons (qok (dlt rfl rfl) rfl (.same rfl .nil) (NeedQ.all .nil) (fun Γx σx => ok_lenS (τ := Ty.sApiStep) (xs := a8.steps) (dlt rfl rfl) rfl Tryz.underlying38 rfl)) (.cons (qok (dlt rfl rfl) rfl (.same rfl (.same rfl (.same rfl .nil))) (NeedQ.all .nil) (fun Γx σx => ok_full (dlt rfl rfl) rfl Tryz.underlying38 ty121 rfl rfl rfl rfl (need_of hv3).1 (need_of hv3).2)) (.cons (qok (dlt rfl rfl) rfl (.same rfl .nil) (NeedQ.all (.cons rfl .nil)) (fun Γx σx => ok_loadVT (dlt rfl rfl) rfl ty121 rfl rfl (by decide) rfl)) (.cons (qok (dlt rfl rfl) rfl (.same rfl .nil) (NeedQ.all .nil) (fun Γx σx => ok_lit (τ := Ty.sApiStep) (dlt rfl rfl) ([(⟨a1, a2, a3⟩ : ApiStep)] : List ApiStep) rfl Tryz.underlying38 ty121 rfl rfl rfl rfl rfl (by decide) (by decide) rfl)) (.cons (qok (dlt rfl rfl) rfl (.same rfl (.same rfl .nil)) (NeedQ.all .nil) (fun Γx σx => ok_appendNew (dlt rfl rfl) rfl Tryz.underlying38 ty121 rfl rfl (fun F ρ ac w _ h => src_sf h) (room_1 hv4) (room_2 hv4))) (.cons (qok (dlt rfl rfl) rfl (.same rfl (.same rfl .nil)) (NeedQ.all .nil) (fun Γx σx => ok_build (dlt rfl rfl) rfl ty111 rfl pl111 rfl rfl rfl)) (.cons (qokN (nodst rfl) rfl (.same rfl (.same rfl .nil)) (NeedQ.all (.cons rfl .nil)) (fresh0 rfl) (fun Γx σx hfr => ok_storeV rfl rfl ty111 rfl rfl rfl rfl (by decide) rfl rfl)) (.nil _ _))))))))))))))))))))) (.nil ?_)
  obtain rfl := Option.some.inj h
  refine ak_conv (Γ' := [(4, .ref 4 0)]) (σ' := [(4, .cells 111 [.int .i64 (((⟨v2, a8.steps ++ ([(⟨a1, a2, a3⟩ : ApiStep)] : List ApiStep)⟩ : EvalFound).value).kind), .int .i64 (((⟨v2, a8.steps ++ ([(⟨a1, a2, a3⟩ : ApiStep)] : List ApiStep)⟩ : EvalFound).value).frm), .int .i64 (((⟨v2, a8.steps ++ ([(⟨a1, a2, a3⟩ : ApiStep)] : List ApiStep)⟩ : EvalFound).value).to), .str (((⟨v2, a8.steps ++ ([(⟨a1, a2, a3⟩ : ApiStep)] : List ApiStep)⟩ : EvalFound).value).text), .sl Ty.sApiValue (((⟨v2, a8.steps ++ ([(⟨a1, a2, a3⟩ : ApiStep)] : List ApiStep)⟩ : EvalFound).value).items), .sl Ty.str (((⟨v2, a8.steps ++ ([(⟨a1, a2, a3⟩ : ApiStep)] : List ApiStep)⟩ : EvalFound).value).names), .sl Ty.sApiStep ((⟨v2, a8.steps ++ ([(⟨a1, a2, a3⟩ : ApiStep)] : List ApiStep)⟩ : EvalFound).steps)])]) (.cons rfl (.refl _) (.nil _)) (.cons rfl (.refl _) (.nil _)) ?_
  exact ak_ret (fn := Tryz.f114) Tryz.func114 rfl ⟨⟨_, _, _, _, _, _, rfl, rfl, ty111⟩, trivial⟩ rfl)
theorem d114 {a0 : EvalFound} {a1 : Int} {r : EvalFound} (h : f114 (.e114 a0 a1) = some r) : Does Tryz.prog GG 114 [.agg [.int .i64 a0.value.kind, .int .i64 a0.value.frm, .int .i64 a0.value.to, .str a0.value.text, .sl Ty.sApiValue a0.value.items, .sl Ty.str a0.value.names, .sl Ty.sApiStep a0.steps], .int .i64 a1] [] (fun z _ => z = .agg [.int .i64 r.value.kind, .int .i64 r.value.frm, .int .i64 r.value.to, .str r.value.text, .sl Ty.sApiValue r.value.items, .sl Ty.str r.value.names, .sl Ty.sApiStep r.steps]) := fn_of (fn := Tryz.f114) Tryz.func114 rfl Tryz.ntmps114 rfl (w114 _ _ h)
end Go.Proofs.YtonlbdholdaifaaGreatDoor
end
section
set_option linter.unusedVariables false
set_option linter.unusedSimpArgs false
set_option maxRecDepth 10000
namespace Go.Proofs.YtonlbdholdaifaaGreatDoor
open Go Go.Rf Go.Proofs
/-- (riffle/eval.found).selects -/
noncomputable abbrev b59 : Code := codeOf Tryz.f59
inductive L59 where
 | e59 (a0 : EvalFound) (a1 : List EvalFound) (a2 : ApiSegment)
 | l59_0 (a0 : List ApiSelector) (a1 : Int) (a2 : Int) (a3 : ApiSegment) (a4 : List EvalFound) (a5 : EvalFound)
 | l59_1 (a0 : List ApiSelector) (a1 : Int) (a2 : Int) (a3 : List Int) (a4 : Int) (a5 : Int) (a6 : ApiSegment) (a7 : List EvalFound) (a8 : EvalFound)
 | l59_2 (a0 : Int) (a1 : Int) (a2 : ApiSegment) (a3 : List EvalFound) (a4 : EvalFound)
noncomputable def f59 : L59 → Option (List EvalFound)
 | .e59 a0 a1 a2 =>
  f59 (.l59_0 a2.selectors (a2.selectors.length : Int) (0 : Int) a2 a1 a0)
 | .l59_0 a0 a1 a2 a3 a4 a5 =>
  if (decide (a2 < a1)) = true then
   idx a0 a2 >>= fun v1 =>
   f22 (.e22 a5.value v1) >>= fun v2 =>
   f59 (.l59_1 a0 a1 a2 v2 (v2.length : Int) (0 : Int) a3 a4 a5)
  else
   f59 (.l59_2 (a5.value.items.length : Int) (0 : Int) a3 a4 a5)
 | .l59_1 a0 a1 a2 a3 a4 a5 a6 a7 a8 =>
  if (decide (a5 < a4)) = true then
   idx a3 a5 >>= fun v3 =>
   f114 (.e114 a8 v3) >>= fun v4 =>
   room a7.length ([v4] : List EvalFound).length 112 >>= fun v5 =>
   f59 (.l59_1 a0 a1 a2 a3 a4 (IntKind.wrap .i64 (a5 + (1 : Int))) a6 (a7 ++ ([v4] : List EvalFound)) a8)
  else
   f59 (.l59_0 a0 a1 (IntKind.wrap .i64 (a2 + (1 : Int))) a6 a7 a8)
 | .l59_2 a0 a1 a2 a3 a4 =>
  if (decide (a1 < a0)) = true then
   if (!a2.deep) = true then
    some a3
   else
    f114 (.e114 a4 a1) >>= fun v6 =>
    f59 (.e59 v6 a3 a2) >>= fun v7 =>
    f59 (.l59_2 a0 (IntKind.wrap .i64 (a1 + (1 : Int))) a2 v7 a4)
  else
   some a3
 partial_fixpoint
def M59 : L59 → (List EvalFound) → Prop
 | .e59 a0 a1 a2, r => ∀ (w : World) (F : Nat → Prop) (ρ : Rho), AK Tryz.prog (ctx GG 54 w F ρ [(20100, .arr 111 Ty.sEvalFound a1)]) 59 [.code b59] (argE 0 [.agg [.int .i64 a0.value.kind, .int .i64 a0.value.frm, .int .i64 a0.value.to, .str a0.value.text, .sl Ty.sApiValue a0.value.items, .sl Ty.str a0.value.names, .sl Ty.sApiStep a0.steps], .mf 7 20100, .agg [.bool a2.deep, .sl Ty.sApiSelector a2.selectors]]) [(20100, .arr 111 Ty.sEvalFound a1)] (fun z σ' => z = .mf 7 30000 ∧ σ' = [(30000, .arr 111 Ty.sEvalFound r)])
 | .l59_0 a0 a1 a2 a3 a4 a5, r => ∀ (w : World) (F : Nat → Prop) (ρ : Rho) (S : Nat → Prop), AK Tryz.prog (ctxL GG 54 w F ρ S []) 59 [.code (c1 (c1 (c2 (c1 (c2 b59))))), .inLoop (c1 (c1 (c2 (c1 (c2 b59))))), .inBlock 0, .code (c2 (c2 b59))] [(1, .mf 7 20100), (3, .ref 3 0), (5, .ref 5 0), (13, .sl Ty.sApiSelector a0), (14, .int .i64 a1), (15, .int .i64 a2)] [(5, .cells 47 [.bool a3.deep, .sl Ty.sApiSelector a3.selectors]), (20100, .arr 111 Ty.sEvalFound a4), (3, .cells 111 [.int .i64 a5.value.kind, .int .i64 a5.value.frm, .int .i64 a5.value.to, .str a5.value.text, .sl Ty.sApiValue a5.value.items, .sl Ty.str a5.value.names, .sl Ty.sApiStep a5.steps])] (fun z σ' => z = .mf 7 30000 ∧ σ' = [(30000, .arr 111 Ty.sEvalFound r)])
 | .l59_1 a0 a1 a2 a3 a4 a5 a6 a7 a8, r => ∀ (w : World) (F : Nat → Prop) (ρ : Rho) (S : Nat → Prop), AK Tryz.prog (ctxL GG 54 w F ρ S []) 59 [.code (c1 (c1 (c2 (c2 (c1 (c1 (c2 (c2 (c1 (c1 (c2 (c1 (c2 b59))))))))))))), .inLoop (c1 (c1 (c2 (c2 (c1 (c1 (c2 (c2 (c1 (c1 (c2 (c1 (c2 b59))))))))))))), .inBlock 2, .inBlock 1, .code (c2 (c2 (c2 (c1 (c1 (c2 (c1 (c2 b59)))))))), .inLoop (c1 (c1 (c2 (c1 (c2 b59))))), .inBlock 0, .code (c2 (c2 b59))] [(1, .mf 7 20100), (3, .ref 3 0), (5, .ref 5 0), (13, .sl Ty.sApiSelector a0), (14, .int .i64 a1), (15, .int .i64 a2), (22, .sl Ty.i64 a3), (23, .int .i64 a4), (24, .int .i64 a5)] [(5, .cells 47 [.bool a6.deep, .sl Ty.sApiSelector a6.selectors]), (20100, .arr 111 Ty.sEvalFound a7), (3, .cells 111 [.int .i64 a8.value.kind, .int .i64 a8.value.frm, .int .i64 a8.value.to, .str a8.value.text, .sl Ty.sApiValue a8.value.items, .sl Ty.str a8.value.names, .sl Ty.sApiStep a8.steps])] (fun z σ' => z = .mf 7 30000 ∧ σ' = [(30000, .arr 111 Ty.sEvalFound r)])
 | .l59_2 a0 a1 a2 a3 a4, r => ∀ (w : World) (F : Nat → Prop) (ρ : Rho) (S : Nat → Prop), AK Tryz.prog (ctxL GG 54 w F ρ S []) 59 [.code (c1 (c1 (c2 (c1 (c2 (c2 b59)))))), .inLoop (c1 (c1 (c2 (c1 (c2 (c2 b59)))))), .inBlock 4, .code (c2 (c2 (c2 b59)))] [(1, .mf 7 20100), (3, .ref 3 0), (5, .ref 5 0), (39, .int .i64 a0), (40, .int .i64 a1)] [(5, .cells 47 [.bool a2.deep, .sl Ty.sApiSelector a2.selectors]), (20100, .arr 111 Ty.sEvalFound a3), (3, .cells 111 [.int .i64 a4.value.kind, .int .i64 a4.value.frm, .int .i64 a4.value.to, .str a4.value.text, .sl Ty.sApiValue a4.value.items, .sl Ty.str a4.value.names, .sl Ty.sApiStep a4.steps])] (fun z σ' => z = .mf 7 30000 ∧ σ' = [(30000, .arr 111 Ty.sEvalFound r)])
theorem w59 : ∀ (l : L59) (r : List EvalFound), f59 l = some r → M59 l r := f59.partial_correctness M59 (by
 intro f ih l r h
 cases l with
 | e59 a0 a1 a2 =>
  intro w F ρ
  dsimp only at h
  refine ak_seq ?_
  refine ak_regionS (.cons rfl (ok_box (d := 3) (dlt rfl rfl) rfl rfl rfl rfl rfl) (.cons rfl (ok_box (d := 5) (dlt rfl rfl) rfl rfl rfl rfl rfl) (.cons rfl (ok_assign (dlt rfl rfl) rfl rfl) (.nil ?_))))
  refine ak_seq ?_
  refine ak_seq ?_
  refine ak_regionS (.cons rfl (ok_fieldV (dlt rfl rfl) rfl fo47_1 ty45 (by decide) rfl) (.cons rfl (ok_loadV (dlt rfl rfl) rfl ty45 rfl rfl rfl) (.cons rfl (ok_lenS (τ := Ty.sApiSelector) (xs := a2.selectors) (dlt rfl rfl) rfl Tryz.underlying45 rfl) (.cons rfl (ok_move (dlt rfl rfl) rfl rfl) (.nil ?_)))))
  refine ak_block ?_
  refine ak_loop ?_
  exact ak_conv (.cons rfl (.refl _) (.cons rfl (.refl _) (.cons rfl (.refl _) (.cons rfl (.refl _) (.cons rfl (.refl _) (.cons rfl (.refl _) (.nil _))))))) (.cons rfl (.refl _) (.cons rfl (.refl _) (.cons rfl (.refl _) (.nil _)))) (ih _ _ h w F ρ _)
 | l59_0 a0 a1 a2 a3 a4 a5 =>
  intro w F ρ S
  dsimp only at h
  refine ak_seq ?_
  refine ak_regionS (.cons rfl (ok_lss (dlt rfl rfl) rfl rfl rfl) (.nil ?_))
  refine ak_seq ?_
  refine ak_cond rfl (fun ht => ?_) (fun ht => ?_)
  ·have h := cond_t ht h
   refine ak_skip ?_
   refine ak_seq ?_
   refine ak_block ?_
   refine ak_seq ?_
   obtain ⟨v1, hv1, h⟩ := bind_of h
   refine ak_regionS (.cons rfl (ok_indexS (τ := Ty.sApiSelector) (x := v1) (dlt rfl rfl) rfl Tryz.underlying45 ty49 rfl rfl rfl (idx_0 hv1) (idx_1 hv1)) (.cons rfl (ok_loadRT (dlt rfl rfl) rfl ty49 rfl (by decide) rfl) (.cons rfl (ok_alloc (d := 8) (dlt rfl rfl) rfl ty49 rfl rfl rfl) (.cons rfl (ok_storeV rfl rfl ty49 rfl rfl rfl rfl (by decide) rfl rfl) (.nil ?_)))))
   refine ak_seq ?_
   obtain ⟨v2, hv2, h⟩ := bind_of h
   refine ak_regionS (.cons rfl (ok_fieldV (dlt rfl rfl) rfl fo111_0 ty29 (by decide) rfl) (.cons rfl (ok_loadVT (dlt rfl rfl) rfl ty29 rfl rfl (by decide) rfl) (.cons rfl (ok_loadVT (dlt rfl rfl) rfl ty49 rfl rfl (by decide) rfl) (.cons rfl (ok_call (xs := [.agg [.int .i64 a5.value.kind, .int .i64 a5.value.frm, .int .i64 a5.value.to, .str a5.value.text, .sl Ty.sApiValue a5.value.items, .sl Ty.str a5.value.names], .agg [.int .i64 v1.kind, .str v1.name, .int .i64 v1.index, .int .i64 v1.start, .int .i64 v1.stop, .bool v1.hasStart, .bool v1.hasEnd, .int .i64 v1.stride]]) (caps := []) (dlt rfl rfl) rfl rfl Tryz.func22 rfl rfl rfl (d22 hv2) rfl) (.cons rfl (ok_lenS (τ := Ty.i64) (xs := v2) (dlt rfl rfl) rfl Tryz.underlying50 rfl) (.cons rfl (ok_move (dlt rfl rfl) rfl rfl) (.nil ?_)))))))
   refine ak_block ?_
   refine ak_loop ?_
   exact ak_conv (.cons rfl (.refl _) (.cons rfl (.refl _) (.cons rfl (.refl _) (.cons rfl (.refl _) (.cons rfl (.refl _) (.cons rfl (.refl _) (.cons rfl (.refl _) (.cons rfl (.refl _) (.cons rfl (.refl _) (.nil _)))))))))) (.cons rfl (.refl _) (.cons rfl (.refl _) (.cons rfl (.refl _) (.nil _)))) (ih _ _ h w F ρ _)
  ·have h := cond_f ht h
   refine ak_exit rfl ?_
   refine ak_seq ?_
   refine ak_seq ?_
   refine ak_regionS (.cons rfl (ok_fieldV (dlt rfl rfl) rfl fo111_0 ty29 (by decide) rfl) (.cons rfl (ok_fieldV (dlt rfl rfl) rfl fo29_4 ty26 (by decide) rfl) (.cons rfl (ok_loadV (dlt rfl rfl) rfl ty26 rfl rfl rfl) (.cons rfl (ok_lenS (τ := Ty.sApiValue) (xs := a5.value.items) (dlt rfl rfl) rfl Tryz.underlying26 rfl) (.cons rfl (ok_move (dlt rfl rfl) rfl rfl) (.nil ?_))))))
   refine ak_block ?_
   refine ak_loop ?_
   exact ak_conv (.cons rfl (.refl _) (.cons rfl (.refl _) (.cons rfl (.refl _) (.cons rfl (.refl _) (.cons rfl (.refl _) (.nil _)))))) (.cons rfl (.refl _) (.cons rfl (.refl _) (.cons rfl (.refl _) (.nil _)))) (ih _ _ h w F ρ _)
 | l59_1 a0 a1 a2 a3 a4 a5 a6 a7 a8 =>
  intro w F ρ S
  dsimp only at h
  refine ak_seq ?_
  refine ak_regionS (.cons rfl (ok_lss (dlt rfl rfl) rfl rfl rfl) (.nil ?_))
  refine ak_seq ?_
  refine ak_cond rfl (fun ht => ?_) (fun ht => ?_)
  ·have h := cond_t ht h
   refine ak_skip ?_
   refine ak_seq ?_
   refine ak_block ?_
   refine ak_seq ?_
   obtain ⟨v3, hv3, h⟩ := bind_of h
   refine ak_regionS (.cons rfl (ok_indexS (τ := Ty.i64) (x := v3) (dlt rfl rfl) rfl Tryz.underlying50 ty3 rfl rfl rfl (idx_0 hv3) (idx_1 hv3)) (.cons rfl (ok_loadR (dlt rfl rfl) rfl ty3 rfl rfl) (.cons rfl (ok_assign (dlt rfl rfl) rfl rfl) (.nil ?_))))
   obtain ⟨v4, hv4, h⟩ := bind_of h
   obtain ⟨v5, hv5, h⟩ := bind_of h
   refine ak_regionS (.cons rfl (ok_move (dlt rfl rfl) rfl rfl) (.cons rfl (ok_loadVT (dlt rfl rfl) rfl ty111 rfl rfl (by decide) rfl) (.cons rfl (ok_move (dlt rfl rfl) rfl rfl) (.cons rfl (ok_call (xs := [.agg [.int .i64 a8.value.kind, .int .i64 a8.value.frm, .int .i64 a8.value.to, .str a8.value.text, .sl Ty.sApiValue a8.value.items, .sl Ty.str a8.value.names, .sl Ty.sApiStep a8.steps], .int .i64 v3]) (caps := []) (dlt rfl rfl) rfl rfl Tryz.func114 rfl rfl rfl (d114 hv4) rfl) (.cons rfl (ok_lit (τ := Ty.sEvalFound) (dlt rfl rfl) ([v4] : List EvalFound) rfl Tryz.underlying112 ty111 rfl rfl rfl rfl rfl (by decide) (by decide) rfl) (.cons rfl (ok_appendF (τ := Ty.sEvalFound) (xs := a7) (ys := ([v4] : List EvalFound)) (dlt rfl rfl) rfl Tryz.underlying112 ty111 rfl rfl rfl rfl (room_1 hv5) (room_2 hv5)) (.cons rfl (ok_assign (dlt rfl rfl) rfl rfl) (.nil ?_))))))))
   refine ak_inBlock ?_
   refine ak_regionS (.cons rfl (ok_add (dlt rfl rfl) rfl rfl rfl) (.cons rfl (ok_move (dlt rfl rfl) rfl rfl) (.nil ?_)))
   refine ak_inLoop ?_
   exact ak_conv (.cons rfl (.refl _) (.cons rfl (.refl _) (.cons rfl (.refl _) (.cons rfl (.refl _) (.cons rfl (.refl _) (.cons rfl (.refl _) (.cons rfl (.refl _) (.cons rfl (.refl _) (.cons rfl (.refl _) (.nil _)))))))))) (.cons rfl (.refl _) (.cons rfl (.refl _) (.cons rfl (.refl _) (.nil _)))) (ih _ _ h w F ρ _)
  ·have h := cond_f ht h
   refine ak_exit rfl ?_
   refine ak_inBlock ?_
   refine ak_regionS (.cons rfl (ok_add (dlt rfl rfl) rfl rfl rfl) (.cons rfl (ok_move (dlt rfl rfl) rfl rfl) (.nil ?_)))
   refine ak_inLoop ?_
   exact ak_conv (.cons rfl (.refl _) (.cons rfl (.refl _) (.cons rfl (.refl _) (.cons rfl (.refl _) (.cons rfl (.refl _) (.cons rfl (.refl _) (.nil _))))))) (.cons rfl (.refl _) (.cons rfl (.refl _) (.cons rfl (.refl _) (.nil _)))) (ih _ _ h w F ρ _)
 | l59_2 a0 a1 a2 a3 a4 =>
  intro w F ρ S
  dsimp only at h
  refine ak_seq ?_
  refine ak_regionS (.cons rfl (ok_lss (dlt rfl rfl) rfl rfl rfl) (.nil ?_))
  refine ak_seq ?_
  refine ak_cond rfl (fun ht => ?_) (fun ht => ?_)
  ·have h := cond_t ht h
   refine ak_skip ?_
   refine ak_seq ?_
   refine ak_block ?_
   refine ak_seq ?_
   refine ak_regionS (.cons rfl (ok_move (dlt rfl rfl) rfl rfl) (.cons rfl (ok_assign (dlt rfl rfl) rfl rfl) (.nil ?_)))
   refine ak_seq ?_
   refine ak_seq ?_
   refine ak_regionS (.cons rfl (ok_fieldV (dlt rfl rfl) rfl fo47_0 ty4 (by decide) rfl) (.cons rfl (ok_loadV (dlt rfl rfl) rfl ty4 rfl rfl rfl) (.cons rfl (ok_not (dlt rfl rfl) rfl rfl) (.nil ?_))))
   refine ak_cond rfl (fun ht => ?_) (fun ht => ?_)
   ·have h := cond_t ht h
    refine ak_exit rfl ?_
    refine ak_seq ?_
    refine ak_regionS (.cons rfl (ok_move (dlt rfl rfl) rfl rfl) (.cons rfl (ok_assign (dlt rfl rfl) rfl rfl) (.nil ?_)))
    obtain rfl := Option.some.inj h
    refine ak_conv (Γ' := [(6, .mf 7 20100)]) (σ' := [(20100, .arr 111 Ty.sEvalFound a3)]) (.cons rfl (.refl _) (.nil _)) (.cons rfl (.refl _) (.nil _)) ?_
    refine ak_ren 20100 30000 rfl rfl rfl rfl ?_
    refine ak_conv (Γ' := [(6, .mf 7 30000)]) (σ' := [(30000, .arr 111 Ty.sEvalFound a3)]) (.cons rfl (.refl _) (.nil _)) (.cons rfl (.refl _) (.nil _)) ?_
    exact ak_retC (fn := Tryz.f59) [(30000, .arr 111 Ty.sEvalFound a3)] (.cons rfl (.refl _) (.nil _)) Tryz.func59 rfl trivial ⟨rfl, rfl⟩
   ·have h := cond_f ht h
    refine ak_skip ?_
    obtain ⟨v6, hv6, h⟩ := bind_of h
    obtain ⟨v7, hv7, h⟩ := bind_of h
    refine ak_drawL [⟨some 46, [(3, .ref 3 0)], none, true, .agg [.int .i64 a4.value.kind, .int .i64 a4.value.frm, .int .i64 a4.value.to, .str a4.value.text, .sl Ty.sApiValue a4.value.items, .sl Ty.str a4.value.names, .sl Ty.sApiStep a4.steps], [(3, .cells 111 [.int .i64 a4.value.kind, .int .i64 a4.value.frm, .int .i64 a4.value.to, .str a4.value.text, .sl Ty.sApiValue a4.value.items, .sl Ty.str a4.value.names, .sl Ty.sApiStep a4.steps])], []⟩,
  ⟨some 47, [(11, .int .i64 a1)], none, true, .int .i64 a1, [], []⟩,
  ⟨some 48, [(46, .agg [.int .i64 a4.value.kind, .int .i64 a4.value.frm, .int .i64 a4.value.to, .str a4.value.text, .sl Ty.sApiValue a4.value.items, .sl Ty.str a4.value.names, .sl Ty.sApiStep a4.steps]), (47, .int .i64 a1)], none, true, .agg [.int .i64 v6.value.kind, .int .i64 v6.value.frm, .int .i64 v6.value.to, .str v6.value.text, .sl Ty.sApiValue v6.value.items, .sl Ty.str v6.value.names, .sl Ty.sApiStep v6.steps], [], []⟩,
  ⟨some 49, [(1, .mf 7 20100)], none, true, .mf 7 20100, [], []⟩,
  ⟨some 50, [(5, .ref 5 0)], none, true, .agg [.bool a2.deep, .sl Ty.sApiSelector a2.selectors], [(5, .cells 47 [.bool a2.deep, .sl Ty.sApiSelector a2.selectors])], []⟩,
  ⟨some 51, [(48, .agg [.int .i64 v6.value.kind, .int .i64 v6.value.frm, .int .i64 v6.value.to, .str v6.value.text, .sl Ty.sApiValue v6.value.items, .sl Ty.str v6.value.names, .sl Ty.sApiStep v6.steps]), (49, .mf 7 20100), (50, .agg [.bool a2.deep, .sl Ty.sApiSelector a2.selectors])], none, true, .mf 7 4051, [(20100, .arr 111 Ty.sEvalFound a3)], [(20100, .dead), (4051, .arr 111 Ty.sEvalFound v7)]⟩,
  ⟨some 1, [(51, .mf 7 4051)], none, true, .mf 7 4051, [], []⟩] [[], [], [0, 1], [], [], [0, 1, 2, 3, 4], [0, 1, 2, 3, 4, 5]] (by kernel_rfl) (by kernel_rfl) (.cons (qok (dlt rfl rfl) rfl (.same rfl .nil) (NeedQ.all (.cons rfl .nil)) (fun Γx σx => ok_loadVT (dlt rfl rfl) rfl ty111 rfl rfl (by decide) rfl)) (.cons (qok (dlt rfl rfl) rfl (.same rfl .nil) (NeedQ.all .nil) (fun Γx σx => ok_move (dlt rfl rfl) rfl rfl)) (.cons (qok (dlt rfl rfl) rfl (.same rfl (.same rfl .nil)) (NeedQ.all .nil) (fun Γx σx => ok_call (xs := [.agg [.int .i64 a4.value.kind, .int .i64 a4.value.frm, .int .i64 a4.value.to, .str a4.value.text, .sl Ty.sApiValue a4.value.items, .sl Ty.str a4.value.names, .sl Ty.sApiStep a4.steps], .int .i64 a1]) (caps := []) (dlt rfl rfl) rfl rfl Tryz.func114 rfl rfl rfl (d114 hv6) rfl)) (.cons (qok (dlt rfl rfl) rfl (.same rfl .nil) (NeedQ.all .nil) (fun Γx σx => ok_move (dlt rfl rfl) rfl rfl)) (.cons (qok (dlt rfl rfl) rfl (.same rfl .nil) (NeedQ.all (.cons rfl .nil)) (fun Γx σx => ok_loadVT (dlt rfl rfl) rfl ty47 rfl rfl (by decide) rfl)) (.cons (qokN (dlt rfl rfl) rfl (.same rfl (.same rfl (.same rfl .nil))) (NeedQ.all (.cons rfl .nil)) (frAll rfl) (fun Γx σx hfr => ok_callL (xs := [.agg [.int .i64 v6.value.kind, .int .i64 v6.value.frm, .int .i64 v6.value.to, .str v6.value.text, .sl Ty.sApiValue v6.value.items, .sl Ty.str v6.value.names, .sl Ty.sApiStep v6.steps], .mf 7 20100, .agg [.bool a2.deep, .sl Ty.sApiSelector a2.selectors]]) (caps := []) (xs1 := [.agg [.int .i64 v6.value.kind, .int .i64 v6.value.frm, .int .i64 v6.value.to, .str v6.value.text, .sl Ty.sApiValue v6.value.items, .sl Ty.str v6.value.names, .sl Ty.sApiStep v6.steps], .mf 7 20100, .agg [.bool a2.deep, .sl Ty.sApiSelector a2.selectors]]) (z := .mf 7 4051) (ups := [(20100, .dead), (4051, .arr 111 Ty.sEvalFound v7)]) (dlt rfl rfl) [(20100, (20100, none))] [(30000, (4051, none))] rfl rfl Tryz.func59 rfl rfl rfl (.cons (.refl _) (.cons (.refl _) (.cons (.refl _) (.nil)))) (.cons (.same rfl) (.cons (.mf rfl) (.cons (.same rfl) (.nil)))) (.arr rfl .nil) rfl (fn_of (fn := Tryz.f59) Tryz.func59 rfl Tryz.ntmps59 rfl (ih _ _ hv7)) (.dead (l := 20100) rfl rfl (.newA (l := 30000) rfl rfl .nil)) rfl rfl rfl (frQ rfl rfl hfr) rfl (.mf rfl))) (.cons (qok (dlt rfl rfl) rfl (.same rfl .nil) (NeedQ.all .nil) (fun Γx σx => ok_assign (dlt rfl rfl) rfl rfl)) (.nil _ _)))))))) (.nil ?_)
    refine ak_inBlock ?_
    refine ak_regionS (.cons rfl (ok_add (dlt rfl rfl) rfl rfl rfl) (.cons rfl (ok_move (dlt rfl rfl) rfl rfl) (.nil ?_)))
    refine ak_inLoop ?_
    refine ak_conv (Γ' := [(1, .mf 7 4051), (3, .ref 3 0), (5, .ref 5 0), (39, .int .i64 a0), (40, .int .i64 (IntKind.wrap .i64 (a1 + (1 : Int))))]) (σ' := [(5, .cells 47 [.bool a2.deep, .sl Ty.sApiSelector a2.selectors]), (4051, .arr 111 Ty.sEvalFound v7), (3, .cells 111 [.int .i64 a4.value.kind, .int .i64 a4.value.frm, .int .i64 a4.value.to, .str a4.value.text, .sl Ty.sApiValue a4.value.items, .sl Ty.str a4.value.names, .sl Ty.sApiStep a4.steps])]) (.cons rfl (.refl _) (.cons rfl (.refl _) (.cons rfl (.refl _) (.cons rfl (.refl _) (.cons rfl (.refl _) (.nil _)))))) (.cons rfl (.refl _) (.cons rfl (.refl _) (.cons rfl (.refl _) (.nil _)))) ?_
    refine ak_ren 4051 20100 rfl rfl rfl rfl ?_
    exact ak_conv (.cons rfl (.refl _) (.cons rfl (.refl _) (.cons rfl (.refl _) (.cons rfl (.refl _) (.cons rfl (.refl _) (.nil _)))))) (.cons rfl (.refl _) (.cons rfl (.refl _) (.cons rfl (.refl _) (.nil _)))) (ih _ _ h w F ρ _)
  ·have h := cond_f ht h
   refine ak_exit rfl ?_
   refine ak_seq ?_
   refine ak_regionS (.cons rfl (ok_move (dlt rfl rfl) rfl rfl) (.cons rfl (ok_assign (dlt rfl rfl) rfl rfl) (.nil ?_)))
   obtain rfl := Option.some.inj h
   refine ak_conv (Γ' := [(6, .mf 7 20100)]) (σ' := [(20100, .arr 111 Ty.sEvalFound a3)]) (.cons rfl (.refl _) (.nil _)) (.cons rfl (.refl _) (.nil _)) ?_
   refine ak_ren 20100 30000 rfl rfl rfl rfl ?_
   refine ak_conv (Γ' := [(6, .mf 7 30000)]) (σ' := [(30000, .arr 111 Ty.sEvalFound a3)]) (.cons rfl (.refl _) (.nil _)) (.cons rfl (.refl _) (.nil _)) ?_
   exact ak_retC (fn := Tryz.f59) [(30000, .arr 111 Ty.sEvalFound a3)] (.cons rfl (.refl _) (.nil _)) Tryz.func59 rfl trivial ⟨rfl, rfl⟩)
theorem d59 {a0 : EvalFound} {a1 : List EvalFound} {a2 : ApiSegment} {r : List EvalFound} (h : f59 (.e59 a0 a1 a2) = some r) : Does Tryz.prog GG 59 [.agg [.int .i64 a0.value.kind, .int .i64 a0.value.frm, .int .i64 a0.value.to, .str a0.value.text, .sl Ty.sApiValue a0.value.items, .sl Ty.str a0.value.names, .sl Ty.sApiStep a0.steps], .mf 7 20100, .agg [.bool a2.deep, .sl Ty.sApiSelector a2.selectors]] [(20100, .arr 111 Ty.sEvalFound a1)] (fun z σ' => z = .mf 7 30000 ∧ σ' = [(30000, .arr 111 Ty.sEvalFound r)]) := fn_of (fn := Tryz.f59) Tryz.func59 rfl Tryz.ntmps59 rfl (w59 _ _ h)
/-- cmp.isNaN[int] -/
noncomputable abbrev b116 : Code := codeOf Tryz.f116
inductive L116 where
 | e116 (a0 : Int)
noncomputable def f116 : L116 → Option Bool
 | .e116 a0 =>
  some (a0 != a0)
def M116 : L116 → Bool → Prop
 | .e116 a0, r => ∀ (w : World) (F : Nat → Prop) (ρ : Rho), AK Tryz.prog (ctx GG 6 w F ρ []) 116 [.code b116] (argE 0 [.int .i64 a0]) [] (fun z _ => z = .bool r)
theorem w116 : ∀ (l : L116) (r : Bool), f116 l = some r → M116 l r := (by
 intro l r h
 cases l with
 | e116 a0 =>
  intro w F ρ
  dsimp only [f116] at h
  refine ak_seq ?_
  refine ak_regionS (.cons rfl (ok_assign (dlt rfl rfl) rfl rfl) (.nil ?_))
  refine ak_seq ?_
  refine ak_regionS (.cons rfl (ok_move (dlt rfl rfl) rfl rfl) (.cons rfl (ok_move (dlt rfl rfl) rfl rfl) (.cons rfl (ok_neq (dlt rfl rfl) rfl rfl rfl) (.cons rfl (ok_assign (dlt rfl rfl) rfl rfl) (.nil ?_)))))
  obtain rfl := Option.some.inj h
  refine ak_conv (Γ' := [(2, .bool (a0 != a0))]) (σ' := []) (.cons rfl (.refl _) (.nil _)) (.nil _) ?_
  exact ak_ret (fn := Tryz.f116) Tryz.func116 rfl trivial rfl)
theorem d116 {a0 : Int} {r : Bool} (h : f116 (.e116 a0) = some r) : Does Tryz.prog GG 116 [.int .i64 a0] [] (fun z _ => z = .bool r) := fn_of (fn := Tryz.f116) Tryz.func116 rfl Tryz.ntmps116 rfl (w116 _ _ h)
/-- cmp.Compare[int] -/
noncomputable abbrev b62 : Code := codeOf Tryz.f62
inductive L62 where
 | e62 (a0 : Int) (a1 : Int)
noncomputable def f62 : L62 → Option Int
 | .e62 a0 a1 =>
  f116 (.e116 a0) >>= fun v1 =>
  f116 (.e116 a1) >>= fun v2 =>
  if v1 = true then
   none
  else
   if v2 = true then
    none
   else
    if (decide (a0 < a1)) = true then
     none
    else
     if (decide (a1 < a0)) = true then
      some (1 : Int)
     else
      none
def M62 : L62 → Int → Prop
 | .e62 a0 a1, r => ∀ (w : World) (F : Nat → Prop) (ρ : Rho), AK Tryz.prog (ctx GG 20 w F ρ []) 62 [.code b62] (argE 0 [.int .i64 a0, .int .i64 a1]) [] (fun z _ => z = .int .i64 r)
theorem w62 : ∀ (l : L62) (r : Int), f62 l = some r → M62 l r := (by
 intro l r h
 cases l with
 | e62 a0 a1 =>
  intro w F ρ
  dsimp only [f62] at h
  refine ak_seq ?_
  refine ak_regionS (.cons rfl (ok_assign (dlt rfl rfl) rfl rfl) (.nil ?_))
  refine ak_seq ?_
  obtain ⟨v1, hv1, h⟩ := bind_of h
  refine ak_regionS (.cons rfl (ok_move (dlt rfl rfl) rfl rfl) (.cons rfl (ok_call (xs := [.int .i64 a0]) (caps := []) (dlt rfl rfl) rfl rfl Tryz.func116 rfl rfl rfl (d116 hv1) rfl) (.cons rfl (ok_assign (dlt rfl rfl) rfl rfl) (.nil ?_))))
  refine ak_seq ?_
  obtain ⟨v2, hv2, h⟩ := bind_of h
  refine ak_regionS (.cons rfl (ok_move (dlt rfl rfl) rfl rfl) (.cons rfl (ok_call (xs := [.int .i64 a1]) (caps := []) (dlt rfl rfl) rfl rfl Tryz.func116 rfl rfl rfl (d116 hv2) rfl) (.cons rfl (ok_assign (dlt rfl rfl) rfl rfl) (.nil ?_))))
  refine ak_seq ?_
  refine ak_seq ?_
  refine ak_regionS (.cons rfl (ok_move (dlt rfl rfl) rfl rfl) (.nil ?_))
  refine ak_cond rfl (fun ht => ?_) (fun ht => ?_)
  ·have h := cond_t ht h
   exact no_of h
  ·have h := cond_f ht h
   refine ak_skip ?_
   refine ak_seq ?_
   refine ak_seq ?_
   refine ak_regionS (.cons rfl (ok_move (dlt rfl rfl) rfl rfl) (.nil ?_))
   refine ak_cond rfl (fun ht => ?_) (fun ht => ?_)
   ·have h := cond_t ht h
    exact no_of h
   ·have h := cond_f ht h
    refine ak_skip ?_
    refine ak_seq ?_
    refine ak_seq ?_
    refine ak_regionS (.cons rfl (ok_move (dlt rfl rfl) rfl rfl) (.cons rfl (ok_move (dlt rfl rfl) rfl rfl) (.cons rfl (ok_lss (dlt rfl rfl) rfl rfl rfl) (.nil ?_))))
    refine ak_cond rfl (fun ht => ?_) (fun ht => ?_)
    ·have h := cond_t ht h
     exact no_of h
    ·have h := cond_f ht h
     refine ak_skip ?_
     refine ak_seq ?_
     refine ak_seq ?_
     refine ak_regionS (.cons rfl (ok_move (dlt rfl rfl) rfl rfl) (.cons rfl (ok_move (dlt rfl rfl) rfl rfl) (.cons rfl (ok_gtr (dlt rfl rfl) rfl rfl rfl) (.nil ?_))))
     refine ak_cond rfl (fun ht => ?_) (fun ht => ?_)
     ·have h := cond_t ht h
      refine ak_seq ?_
      refine ak_regionS (.cons rfl (ok_assign (dlt rfl rfl) rfl rfl) (.nil ?_))
      obtain rfl := Option.some.inj h
      refine ak_conv (Γ' := [(4, .int .i64 (1 : Int))]) (σ' := []) (.cons rfl (.refl _) (.nil _)) (.nil _) ?_
      exact ak_ret (fn := Tryz.f62) Tryz.func62 rfl trivial rfl
     ·have h := cond_f ht h
      exact no_of h)
theorem d62 {a0 : Int} {a1 : Int} {r : Int} (h : f62 (.e62 a0 a1) = some r) : Does Tryz.prog GG 62 [.int .i64 a0, .int .i64 a1] [] (fun z _ => z = .int .i64 r) := fn_of (fn := Tryz.f62) Tryz.func62 rfl Tryz.ntmps62 rfl (w62 _ _ h)
/-- riffle/eval.Nodes$1 -/
noncomputable abbrev b61 : Code := codeOf Tryz.f61
inductive L61 where
 | e61 (a0 : EvalFound) (a1 : EvalFound)
noncomputable def f61 : L61 → Option Int
 | .e61 a0 a1 =>
  f62 (.e62 a0.value.frm a1.value.frm) >>= fun v1 =>
  some v1
def M61 : L61 → Int → Prop
 | .e61 a0 a1, r => ∀ (w : World) (F : Nat → Prop) (ρ : Rho), AK Tryz.prog (ctx GG 12 w F ρ []) 61 [.code b61] (argE 0 [.agg [.int .i64 a0.value.kind, .int .i64 a0.value.frm, .int .i64 a0.value.to, .str a0.value.text, .sl Ty.sApiValue a0.value.items, .sl Ty.str a0.value.names, .sl Ty.sApiStep a0.steps], .agg [.int .i64 a1.value.kind, .int .i64 a1.value.frm, .int .i64 a1.value.to, .str a1.value.text, .sl Ty.sApiValue a1.value.items, .sl Ty.str a1.value.names, .sl Ty.sApiStep a1.steps]]) [] (fun z _ => z = .int .i64 r)
theorem w61 : ∀ (l : L61) (r : Int), f61 l = some r → M61 l r := (by
 intro l r h
 cases l with
 | e61 a0 a1 =>
  intro w F ρ
  dsimp only [f61] at h
  refine ak_seq ?_
  refine ak_regionS (.cons rfl (ok_box (d := 2) (dlt rfl rfl) rfl rfl rfl rfl rfl) (.cons rfl (ok_box (d := 3) (dlt rfl rfl) rfl rfl rfl rfl rfl) (.cons rfl (ok_assign (dlt rfl rfl) rfl rfl) (.nil ?_))))
  refine ak_seq ?_
  obtain ⟨v1, hv1, h⟩ := bind_of h
  refine ak_regionS (.cons rfl (ok_fieldV (dlt rfl rfl) rfl fo111_0 ty29 (by decide) rfl) (.cons rfl (ok_fieldV (dlt rfl rfl) rfl fo29_1 ty3 (by decide) rfl) (.cons rfl (ok_loadV (dlt rfl rfl) rfl ty3 rfl rfl rfl) (.cons rfl (ok_fieldV (dlt rfl rfl) rfl fo111_0 ty29 (by decide) rfl) (.cons rfl (ok_fieldV (dlt rfl rfl) rfl fo29_1 ty3 (by decide) rfl) (.cons rfl (ok_loadV (dlt rfl rfl) rfl ty3 rfl rfl rfl) (.cons rfl (ok_call (xs := [.int .i64 a0.value.frm, .int .i64 a1.value.frm]) (caps := []) (dlt rfl rfl) rfl rfl Tryz.func62 rfl rfl rfl (d62 hv1) rfl) (.cons rfl (ok_assign (dlt rfl rfl) rfl rfl) (.nil ?_)))))))))
  obtain rfl := Option.some.inj h
  refine ak_conv (Γ' := [(4, .int .i64 v1)]) (σ' := []) (.cons rfl (.refl _) (.nil _)) (.nil _) ?_
  exact ak_ret (fn := Tryz.f61) Tryz.func61 rfl trivial rfl)
theorem d61 {a0 : EvalFound} {a1 : EvalFound} {r : Int} (h : f61 (.e61 a0 a1) = some r) : Does Tryz.prog GG 61 [.agg [.int .i64 a0.value.kind, .int .i64 a0.value.frm, .int .i64 a0.value.to, .str a0.value.text, .sl Ty.sApiValue a0.value.items, .sl Ty.str a0.value.names, .sl Ty.sApiStep a0.steps], .agg [.int .i64 a1.value.kind, .int .i64 a1.value.frm, .int .i64 a1.value.to, .str a1.value.text, .sl Ty.sApiValue a1.value.items, .sl Ty.str a1.value.names, .sl Ty.sApiStep a1.steps]] [] (fun z _ => z = .int .i64 r) := fn_of (fn := Tryz.f61) Tryz.func61 rfl Tryz.ntmps61 rfl (w61 _ _ h)
end Go.Proofs.YtonlbdholdaifaaGreatDoor
end
section
set_option linter.unusedVariables false
set_option linter.unusedSimpArgs false
set_option maxRecDepth 10000
namespace Go.Proofs.YtonlbdholdaifaaGreatDoor
open Go Go.Rf Go.Proofs
/-- slices.insertionSortCmpFunc[riffle/eval.found] -/
noncomputable abbrev b169_61 : Code := codeOf Tryz.f169
inductive L169_61 where
 | e169_61 (a0 : List EvalFound) (a1 : Int) (a2 : Int)
 | l169_61_0 (a0 : Int) (a1 : Int) (a2 : Int) (a3 : List EvalFound)
 | l169_61_1 (a0 : Int) (a1 : Int) (a2 : Int) (a3 : Int) (a4 : List EvalFound)
noncomputable def f169_61 : L169_61 → Option (List EvalFound)
 | .e169_61 a0 a1 a2 =>
  f169_61 (.l169_61_0 a1 a2 (IntKind.wrap .i64 (a1 + (1 : Int))) a0)
 | .l169_61_0 a0 a1 a2 a3 =>
  if (decide (a2 < a1)) = true then
   f169_61 (.l169_61_1 a0 a1 a2 a2 a3)
  else
   some a3
 | .l169_61_1 a0 a1 a2 a3 a4 =>
  gd (decide (a0 < a3)) (idx a4 a3) >>= fun v1 =>
  gd (decide (a0 < a3)) (idx a4 (IntKind.wrap .i64 (a3 - (1 : Int)))) >>= fun v2 =>
  gd (decide (a0 < a3)) (f61 (.e61 v1 v2)) >>= fun v3 =>
  if ((decide (a0 < a3)) && (decide (v3 < (0 : Int)))) = true then
   none
  else
   f169_61 (.l169_61_0 a0 a1 (IntKind.wrap .i64 (a2 + (1 : Int))) a4)
 partial_fixpoint
def M169_61 : L169_61 → (List EvalFound) → Prop
 | .e169_61 a0 a1 a2, r => ∀ (w : World) (F : Nat → Prop) (ρ : Rho), AK Tryz.prog (ctx GG 53 w F ρ [(10000, .arr 111 Ty.sEvalFound a0)]) 169 [.code b169_61] (argE 0 [.mf 7 10000, .int .i64 a1, .int .i64 a2, .fn 61 []]) [(10000, .arr 111 Ty.sEvalFound a0)] (fun z σ' => z = .tup [] ∧ σ' = [(10000, .arr 111 Ty.sEvalFound r)])
 | .l169_61_0 a0 a1 a2 a3, r => ∀ (w : World) (F : Nat → Prop) (ρ : Rho) (S : Nat → Prop), AK Tryz.prog (ctxL GG 53 w F ρ S [10000]) 169 [.code (c1 (c1 (c2 b169_61))), .inLoop (c1 (c1 (c2 b169_61))), .inBlock 0] [(0, .mf 7 10000), (1, .int .i64 a0), (2, .int .i64 a1), (3, .fn 61 []), (8, .int .i64 a2)] [(10000, .arr 111 Ty.sEvalFound a3)] (fun z σ' => z = .tup [] ∧ σ' = [(10000, .arr 111 Ty.sEvalFound r)])
 | .l169_61_1 a0 a1 a2 a3 a4, r => ∀ (w : World) (F : Nat → Prop) (ρ : Rho) (S : Nat → Prop), AK Tryz.prog (ctxL GG 53 w F ρ S [10000]) 169 [.code (c1 (c1 (c2 (c1 (c1 (c2 (c1 (c1 (c2 b169_61))))))))), .inLoop (c1 (c1 (c2 (c1 (c1 (c2 (c1 (c1 (c2 b169_61))))))))), .inBlock 2, .inBlock 1, .code (c2 (c2 (c1 (c1 (c2 b169_61))))), .inLoop (c1 (c1 (c2 b169_61))), .inBlock 0] [(0, .mf 7 10000), (1, .int .i64 a0), (2, .int .i64 a1), (3, .fn 61 []), (8, .int .i64 a2), (9, .int .i64 a3)] [(10000, .arr 111 Ty.sEvalFound a4)] (fun z σ' => z = .tup [] ∧ σ' = [(10000, .arr 111 Ty.sEvalFound r)])
theorem w169_61 : ∀ (l : L169_61) (r : List EvalFound), f169_61 l = some r → M169_61 l r := f169_61.partial_correctness M169_61 (by
 intro f ih l r h
 cases l with
 | e169_61 a0 a1 a2 =>
  intro w F ρ
  dsimp only at h
  refine ak_seq ?_
  refine ak_regionS (.cons rfl (ok_move (dlt rfl rfl) rfl rfl) (.cons rfl (ok_add (dlt rfl rfl) rfl rfl rfl) (.cons rfl (ok_assign (dlt rfl rfl) rfl rfl) (.nil ?_))))
  refine ak_block ?_
  refine ak_loop ?_
  exact ak_conv (.cons rfl (.refl _) (.cons rfl (.refl _) (.cons rfl (.refl _) (.cons rfl (.refl _) (.cons rfl (.refl _) (.nil _)))))) (.cons rfl (.refl _) (.nil _)) (ih _ _ h w F ρ _)
 | l169_61_0 a0 a1 a2 a3 =>
  intro w F ρ S
  dsimp only at h
  refine ak_seq ?_
  refine ak_seq ?_
  refine ak_regionS (.cons rfl (ok_move (dlt rfl rfl) rfl rfl) (.cons rfl (ok_move (dlt rfl rfl) rfl rfl) (.cons rfl (ok_lss (dlt rfl rfl) rfl rfl rfl) (.nil ?_))))
  refine ak_cond rfl (fun ht => ?_) (fun ht => ?_)
  ·have h := cond_t ht h
   refine ak_skip ?_
   refine ak_seq ?_
   refine ak_block ?_
   refine ak_seq ?_
   refine ak_regionS (.cons rfl (ok_move (dlt rfl rfl) rfl rfl) (.cons rfl (ok_assign (dlt rfl rfl) rfl rfl) (.nil ?_)))
   refine ak_block ?_
   refine ak_loop ?_
   exact ak_conv (.cons rfl (.refl _) (.cons rfl (.refl _) (.cons rfl (.refl _) (.cons rfl (.refl _) (.cons rfl (.refl _) (.cons rfl (.refl _) (.nil _))))))) (.cons rfl (.refl _) (.nil _)) (ih _ _ h w F ρ _)
  ·have h := cond_f ht h
   refine ak_exit rfl ?_
   obtain rfl := Option.some.inj h
   refine ak_conv (Γ' := []) (σ' := [(10000, .arr 111 Ty.sEvalFound a3)]) (.nil _) (.cons rfl (.refl _) (.nil _)) ?_
   exact ak_endC (fn := Tryz.f169) [(10000, .arr 111 Ty.sEvalFound a3)] (.cons rfl (.refl _) (.nil _)) Tryz.func169 rfl trivial ⟨rfl, rfl⟩
 | l169_61_1 a0 a1 a2 a3 a4 =>
  intro w F ρ S
  dsimp only at h
  refine ak_seq ?_
  refine ak_seq ?_
  obtain ⟨v1, hv1, h⟩ := bind_of h
  obtain ⟨v2, hv2, h⟩ := bind_of h
  obtain ⟨v3, hv3, h⟩ := bind_of h
  refine ak_drawL [⟨some 18, [(9, .int .i64 a3)], none, true, .int .i64 a3, [], []⟩,
  ⟨some 19, [(1, .int .i64 a0)], none, true, .int .i64 a0, [], []⟩,
  ⟨some 20, [(18, .int .i64 a3), (19, .int .i64 a0)], none, true, .bool (decide (a0 < a3)), [], []⟩,
  ⟨some 21, [(20, .bool (decide (a0 < a3)))], none, true, .bool (decide (a0 < a3)), [], []⟩,
  ⟨some 22, [(3, .fn 61 [])], some 21, (decide (a0 < a3)), .fn 61 [], [], []⟩,
  ⟨some 23, [(0, .mf 7 10000)], some 21, (decide (a0 < a3)), .mf 7 10000, [], []⟩,
  ⟨some 24, [(9, .int .i64 a3)], some 21, (decide (a0 < a3)), .int .i64 a3, [], []⟩,
  ⟨some 25, [(23, .mf 7 10000), (24, .int .i64 a3)], some 21, (decide (a0 < a3)), .ar 7 10000 (a3 : Int).toNat 0, [(10000, .arr 111 Ty.sEvalFound a4)], []⟩,
  ⟨some 26, [(25, .ar 7 10000 (a3 : Int).toNat 0)], some 21, (decide (a0 < a3)), .agg [.int .i64 v1.value.kind, .int .i64 v1.value.frm, .int .i64 v1.value.to, .str v1.value.text, .sl Ty.sApiValue v1.value.items, .sl Ty.str v1.value.names, .sl Ty.sApiStep v1.steps], [(10000, .arr 111 Ty.sEvalFound a4)], []⟩,
  ⟨some 27, [(0, .mf 7 10000)], some 21, (decide (a0 < a3)), .mf 7 10000, [], []⟩,
  ⟨some 28, [(9, .int .i64 a3)], some 21, (decide (a0 < a3)), .int .i64 a3, [], []⟩,
  ⟨some 29, [(28, .int .i64 a3)], some 21, (decide (a0 < a3)), .int .i64 (IntKind.wrap .i64 (a3 - (1 : Int))), [], []⟩,
  ⟨some 30, [(27, .mf 7 10000), (29, .int .i64 (IntKind.wrap .i64 (a3 - (1 : Int))))], some 21, (decide (a0 < a3)), .ar 7 10000 (IntKind.wrap .i64 (a3 - (1 : Int)) : Int).toNat 0, [(10000, .arr 111 Ty.sEvalFound a4)], []⟩,
  ⟨some 31, [(30, .ar 7 10000 (IntKind.wrap .i64 (a3 - (1 : Int)) : Int).toNat 0)], some 21, (decide (a0 < a3)), .agg [.int .i64 v2.value.kind, .int .i64 v2.value.frm, .int .i64 v2.value.to, .str v2.value.text, .sl Ty.sApiValue v2.value.items, .sl Ty.str v2.value.names, .sl Ty.sApiStep v2.steps], [(10000, .arr 111 Ty.sEvalFound a4)], []⟩,
  ⟨some 32, [(26, .agg [.int .i64 v1.value.kind, .int .i64 v1.value.frm, .int .i64 v1.value.to, .str v1.value.text, .sl Ty.sApiValue v1.value.items, .sl Ty.str v1.value.names, .sl Ty.sApiStep v1.steps]), (31, .agg [.int .i64 v2.value.kind, .int .i64 v2.value.frm, .int .i64 v2.value.to, .str v2.value.text, .sl Ty.sApiValue v2.value.items, .sl Ty.str v2.value.names, .sl Ty.sApiStep v2.steps]), (22, .fn 61 [])], some 21, (decide (a0 < a3)), .int .i64 v3, [], []⟩,
  ⟨some 33, [(32, .int .i64 v3)], some 21, (decide (a0 < a3)), .bool (decide (v3 < (0 : Int))), [], []⟩,
  ⟨some 34, [(21, .bool (decide (a0 < a3))), (33, .when (decide (a0 < a3)) (.bool (decide (v3 < (0 : Int)))))], none, true, .bool ((decide (a0 < a3)) && (decide (v3 < (0 : Int)))), [], []⟩] [[], [], [0, 1], [0, 1, 2], [0, 1, 2, 3], [0, 1, 2, 3], [0, 1, 2, 3], [0, 1, 2, 3, 5, 6], [0, 1, 2, 3, 5, 6, 7], [0, 1, 2, 3], [0, 1, 2, 3], [0, 1, 2, 3, 10], [0, 1, 2, 3, 9, 10, 11], [0, 1, 2, 3, 9, 10, 11, 12], [0, 1, 2, 3, 4, 5, 6, 7, 8, 9, 10, 11, 12, 13], [0, 1, 2, 3, 4, 5, 6, 7, 8, 9, 10, 11, 12, 13, 14], [0, 1, 2, 3, 4, 5, 6, 7, 8, 9, 10, 11, 12, 13, 14, 15]] (by kernel_rfl) (by kernel_rfl) (.cons (qok (dlt rfl rfl) rfl (.same rfl .nil) (NeedQ.all .nil) (fun Γx σx => ok_move (dlt rfl rfl) rfl rfl)) (.cons (qok (dlt rfl rfl) rfl (.same rfl .nil) (NeedQ.all .nil) (fun Γx σx => ok_move (dlt rfl rfl) rfl rfl)) (.cons (qok (dlt rfl rfl) rfl (.same rfl (.same rfl .nil)) (NeedQ.all .nil) (fun Γx σx => ok_gtr (dlt rfl rfl) rfl rfl rfl)) (.cons (qok (dlt rfl rfl) rfl (.same rfl .nil) (NeedQ.all .nil) (fun Γx σx => ok_move (dlt rfl rfl) rfl rfl)) (.cons (qokG (dlt rfl rfl) rfl rfl rfl rfl (.same rfl .nil) (NeedQ.all .nil) (fun he Γx σx => ok_move (dlt rfl rfl) rfl rfl)) (.cons (qokG (dlt rfl rfl) rfl rfl rfl rfl (.same rfl .nil) (NeedQ.all .nil) (fun he Γx σx => ok_move (dlt rfl rfl) rfl rfl)) (.cons (qokG (dlt rfl rfl) rfl rfl rfl rfl (.same rfl .nil) (NeedQ.all .nil) (fun he Γx σx => ok_move (dlt rfl rfl) rfl rfl)) (.cons (qokG (dlt rfl rfl) rfl rfl rfl rfl (.when rfl (fun he => he) (.when rfl (fun he => he) .nil)) (NeedQ.all (.cons rfl .nil)) (fun he Γx σx => ok_indexA (dlt rfl rfl) rfl Tryz.underlying112 ty111 rfl rfl rfl (idx_0 (gd_t hv1 he)) (idx_lt (gd_t hv1 he)))) (.cons (qokG (dlt rfl rfl) rfl rfl rfl rfl (.when rfl (fun he => he) .nil) (NeedQ.all (.cons rfl .nil)) (fun he Γx σx => ok_loadEA (τ := Ty.sEvalFound) (x := v1) (dlt rfl rfl) rfl ty111 rfl rfl (idx_1 (gd_t hv1 he)) rfl)) (.cons (qokG (dlt rfl rfl) rfl rfl rfl rfl (.same rfl .nil) (NeedQ.all .nil) (fun he Γx σx => ok_move (dlt rfl rfl) rfl rfl)) (.cons (qokG (dlt rfl rfl) rfl rfl rfl rfl (.same rfl .nil) (NeedQ.all .nil) (fun he Γx σx => ok_move (dlt rfl rfl) rfl rfl)) (.cons (qokG (dlt rfl rfl) rfl rfl rfl rfl (.when rfl (fun he => he) .nil) (NeedQ.all .nil) (fun he Γx σx => ok_sub (dlt rfl rfl) rfl rfl rfl)) (.cons (qokG (dlt rfl rfl) rfl rfl rfl rfl (.when rfl (fun he => he) (.when rfl (fun he => he) .nil)) (NeedQ.all (.cons rfl .nil)) (fun he Γx σx => ok_indexA (dlt rfl rfl) rfl Tryz.underlying112 ty111 rfl rfl rfl (idx_0 (gd_t hv2 he)) (idx_lt (gd_t hv2 he)))) (.cons (qokG (dlt rfl rfl) rfl rfl rfl rfl (.when rfl (fun he => he) .nil) (NeedQ.all (.cons rfl .nil)) (fun he Γx σx => ok_loadEA (τ := Ty.sEvalFound) (x := v2) (dlt rfl rfl) rfl ty111 rfl rfl (idx_1 (gd_t hv2 he)) rfl)) (.cons (qokG (dlt rfl rfl) rfl rfl rfl rfl (.when rfl (fun he => he) (.when rfl (fun he => he) (.when rfl (fun he => he) .nil))) (NeedQ.all .nil) (fun he Γx σx => ok_call (xs := [.agg [.int .i64 v1.value.kind, .int .i64 v1.value.frm, .int .i64 v1.value.to, .str v1.value.text, .sl Ty.sApiValue v1.value.items, .sl Ty.str v1.value.names, .sl Ty.sApiStep v1.steps], .agg [.int .i64 v2.value.kind, .int .i64 v2.value.frm, .int .i64 v2.value.to, .str v2.value.text, .sl Ty.sApiValue v2.value.items, .sl Ty.str v2.value.names, .sl Ty.sApiStep v2.steps]]) (caps := []) (dlt rfl rfl) rfl rfl Tryz.func61 rfl rfl rfl (d61 (gd_t hv3 he)) rfl)) (.cons (qokG (dlt rfl rfl) rfl rfl rfl rfl (.when rfl (fun he => he) .nil) (NeedQ.all .nil) (fun he Γx σx => ok_lss (dlt rfl rfl) rfl rfl rfl)) (.cons (qok (dlt rfl rfl) rfl (.same rfl (.same rfl .nil)) (NeedQ.all .nil) (fun Γx σx => ok_andW (dlt rfl rfl) rfl rfl rfl (fun h => h))) (.nil _ _)))))))))))))))))) (.nil ?_)
  refine ak_cond rfl (fun ht => ?_) (fun ht => ?_)
  ·have h := cond_t ht h
   exact no_of h
  ·have h := cond_f ht h
   refine ak_exit rfl ?_
   refine ak_inBlock ?_
   refine ak_regionS (.cons rfl (ok_move (dlt rfl rfl) rfl rfl) (.cons rfl (ok_add (dlt rfl rfl) rfl rfl rfl) (.cons rfl (ok_assign (dlt rfl rfl) rfl rfl) (.nil ?_))))
   refine ak_inLoop ?_
   exact ak_conv (.cons rfl (.refl _) (.cons rfl (.refl _) (.cons rfl (.refl _) (.cons rfl (.refl _) (.cons rfl (.refl _) (.nil _)))))) (.cons rfl (.refl _) (.nil _)) (ih _ _ h w F ρ _))
theorem d169_61 {a0 : List EvalFound} {a1 : Int} {a2 : Int} {r : List EvalFound} (h : f169_61 (.e169_61 a0 a1 a2) = some r) : Does Tryz.prog GG 169 [.mf 7 10000, .int .i64 a1, .int .i64 a2, .fn 61 []] [(10000, .arr 111 Ty.sEvalFound a0)] (fun z σ' => z = .tup [] ∧ σ' = [(10000, .arr 111 Ty.sEvalFound r)]) := fn_of (fn := Tryz.f169) Tryz.func169 rfl Tryz.ntmps169 rfl (w169_61 _ _ h)
/-- slices.swapRangeCmpFunc[riffle/eval.found] -/
noncomputable abbrev b233_61 : Code := codeOf Tryz.f233
inductive L233_61 where
 | e233_61 (a0 : List EvalFound) (a1 : Int) (a2 : Int) (a3 : Int)
noncomputable def f233_61 : L233_61 → Option (List EvalFound)
 | .e233_61 a0 a1 a2 a3 =>
  none
def M233_61 : L233_61 → (List EvalFound) → Prop
 | .e233_61 a0 a1 a2 a3, r => ∀ (w : World) (F : Nat → Prop) (ρ : Rho), AK Tryz.prog (ctx GG 38 w F ρ [(10000, .arr 111 Ty.sEvalFound a0)]) 233 [.code b233_61] (argE 0 [.mf 7 10000, .int .i64 a1, .int .i64 a2, .int .i64 a3, .fn 61 []]) [(10000, .arr 111 Ty.sEvalFound a0)] (fun z σ' => z = .tup [] ∧ σ' = [(10000, .arr 111 Ty.sEvalFound r)])
theorem w233_61 : ∀ (l : L233_61) (r : List EvalFound), f233_61 l = some r → M233_61 l r := (by
 intro l r h
 cases l with
 | e233_61 a0 a1 a2 a3 =>
  intro w F ρ
  dsimp only [f233_61] at h
  exact no_of h)
theorem d233_61 {a0 : List EvalFound} {a1 : Int} {a2 : Int} {a3 : Int} {r : List EvalFound} (h : f233_61 (.e233_61 a0 a1 a2 a3) = some r) : Does Tryz.prog GG 233 [.mf 7 10000, .int .i64 a1, .int .i64 a2, .int .i64 a3, .fn 61 []] [(10000, .arr 111 Ty.sEvalFound a0)] (fun z σ' => z = .tup [] ∧ σ' = [(10000, .arr 111 Ty.sEvalFound r)]) := fn_of (fn := Tryz.f233) Tryz.func233 rfl Tryz.ntmps233 rfl (w233_61 _ _ h)
/-- slices.rotateCmpFunc[riffle/eval.found] -/
noncomputable abbrev b205_61 : Code := codeOf Tryz.f205
inductive L205_61 where
 | e205_61 (a0 : List EvalFound) (a1 : Int) (a2 : Int) (a3 : Int)
noncomputable def f205_61 : L205_61 → Option (List EvalFound)
 | .e205_61 a0 a1 a2 a3 =>
  none
def M205_61 : L205_61 → (List EvalFound) → Prop
 | .e205_61 a0 a1 a2 a3, r => ∀ (w : World) (F : Nat → Prop) (ρ : Rho), AK Tryz.prog (ctx GG 58 w F ρ [(10000, .arr 111 Ty.sEvalFound a0)]) 205 [.code b205_61] (argE 0 [.mf 7 10000, .int .i64 a1, .int .i64 a2, .int .i64 a3, .fn 61 []]) [(10000, .arr 111 Ty.sEvalFound a0)] (fun z σ' => z = .tup [] ∧ σ' = [(10000, .arr 111 Ty.sEvalFound r)])
theorem w205_61 : ∀ (l : L205_61) (r : List EvalFound), f205_61 l = some r → M205_61 l r := (by
 intro l r h
 cases l with
 | e205_61 a0 a1 a2 a3 =>
  intro w F ρ
  dsimp only [f205_61] at h
  exact no_of h)
theorem d205_61 {a0 : List EvalFound} {a1 : Int} {a2 : Int} {a3 : Int} {r : List EvalFound} (h : f205_61 (.e205_61 a0 a1 a2 a3) = some r) : Does Tryz.prog GG 205 [.mf 7 10000, .int .i64 a1, .int .i64 a2, .int .i64 a3, .fn 61 []] [(10000, .arr 111 Ty.sEvalFound a0)] (fun z σ' => z = .tup [] ∧ σ' = [(10000, .arr 111 Ty.sEvalFound r)]) := fn_of (fn := Tryz.f205) Tryz.func205 rfl Tryz.ntmps205 rfl (w205_61 _ _ h)
/-- slices.symMergeCmpFunc[riffle/eval.found] -/
noncomputable abbrev b170_61 : Code := codeOf Tryz.f170
inductive L170_61 where
 | e170_61 (a0 : List EvalFound) (a1 : Int) (a2 : Int) (a3 : Int)
noncomputable def f170_61 : L170_61 → Option (List EvalFound)
 | .e170_61 a0 a1 a2 a3 =>
  none
def M170_61 : L170_61 → (List EvalFound) → Prop
 | .e170_61 a0 a1 a2 a3, r => ∀ (w : World) (F : Nat → Prop) (ρ : Rho), AK Tryz.prog (ctx GG 220 w F ρ [(10000, .arr 111 Ty.sEvalFound a0)]) 170 [.code b170_61] (argE 0 [.mf 7 10000, .int .i64 a1, .int .i64 a2, .int .i64 a3, .fn 61 []]) [(10000, .arr 111 Ty.sEvalFound a0)] (fun z σ' => z = .tup [] ∧ σ' = [(10000, .arr 111 Ty.sEvalFound r)])
theorem w170_61 : ∀ (l : L170_61) (r : List EvalFound), f170_61 l = some r → M170_61 l r := (by
 intro l r h
 cases l with
 | e170_61 a0 a1 a2 a3 =>
  intro w F ρ
  dsimp only [f170_61] at h
  exact no_of h)
theorem d170_61 {a0 : List EvalFound} {a1 : Int} {a2 : Int} {a3 : Int} {r : List EvalFound} (h : f170_61 (.e170_61 a0 a1 a2 a3) = some r) : Does Tryz.prog GG 170 [.mf 7 10000, .int .i64 a1, .int .i64 a2, .int .i64 a3, .fn 61 []] [(10000, .arr 111 Ty.sEvalFound a0)] (fun z σ' => z = .tup [] ∧ σ' = [(10000, .arr 111 Ty.sEvalFound r)]) := fn_of (fn := Tryz.f170) Tryz.func170 rfl Tryz.ntmps170 rfl (w170_61 _ _ h)
/-- slices.stableCmpFunc[riffle/eval.found] -/
noncomputable abbrev b115_61 : Code := codeOf Tryz.f115
inductive L115_61 where
 | e115_61 (a0 : List EvalFound) (a1 : Int)
 | l115_61_0 (a0 : Int) (a1 : Int) (a2 : Int) (a3 : Int) (a4 : List EvalFound)
 | l115_61_1 (a0 : Int) (a1 : Int) (a2 : List EvalFound)
noncomputable def f115_61 : L115_61 → Option (List EvalFound)
 | .e115_61 a0 a1 =>
  f115_61 (.l115_61_0 a1 (20 : Int) (0 : Int) (20 : Int) a0)
 | .l115_61_0 a0 a1 a2 a3 a4 =>
  if (decide (a3 ≤ a0)) = true then
   none
  else
   f169_61 (.e169_61 a4 a2 a0) >>= fun v1 =>
   f115_61 (.l115_61_1 a0 a1 v1)
 | .l115_61_1 a0 a1 a2 =>
  if (decide (a1 < a0)) = true then
   none
  else
   some a2
 partial_fixpoint
def M115_61 : L115_61 → (List EvalFound) → Prop
 | .e115_61 a0 a1, r => ∀ (w : World) (F : Nat → Prop) (ρ : Rho), AK Tryz.prog (ctx GG 63 w F ρ [(10000, .arr 111 Ty.sEvalFound a0)]) 115 [.code b115_61] (argE 0 [.mf 7 10000, .int .i64 a1, .fn 61 []]) [(10000, .arr 111 Ty.sEvalFound a0)] (fun z σ' => z = .tup [] ∧ σ' = [(10000, .arr 111 Ty.sEvalFound r)])
 | .l115_61_0 a0 a1 a2 a3 a4, r => ∀ (w : World) (F : Nat → Prop) (ρ : Rho) (S : Nat → Prop), AK Tryz.prog (ctxL GG 63 w F ρ S [10000]) 115 [.code (c1 (c1 (c1 (c2 (c2 b115_61))))), .inLoop (c1 (c1 (c1 (c2 (c2 b115_61))))), .inBlock 0, .code (c2 (c2 (c2 b115_61)))] [(0, .mf 7 10000), (1, .int .i64 a0), (2, .fn 61 []), (6, .int .i64 a1), (7, .int .i64 a2), (8, .int .i64 a3)] [(10000, .arr 111 Ty.sEvalFound a4)] (fun z σ' => z = .tup [] ∧ σ' = [(10000, .arr 111 Ty.sEvalFound r)])
 | .l115_61_1 a0 a1 a2, r => ∀ (w : World) (F : Nat → Prop) (ρ : Rho) (S : Nat → Prop), AK Tryz.prog (ctxL GG 63 w F ρ S [10000]) 115 [.code (c1 (c1 (c2 (c2 (c2 (c2 b115_61)))))), .inLoop (c1 (c1 (c2 (c2 (c2 (c2 b115_61)))))), .inBlock 2] [(0, .mf 7 10000), (1, .int .i64 a0), (2, .fn 61 []), (6, .int .i64 a1)] [(10000, .arr 111 Ty.sEvalFound a2)] (fun z σ' => z = .tup [] ∧ σ' = [(10000, .arr 111 Ty.sEvalFound r)])
theorem w115_61 : ∀ (l : L115_61) (r : List EvalFound), f115_61 l = some r → M115_61 l r := f115_61.partial_correctness M115_61 (by
 intro f ih l r h
 cases l with
 | e115_61 a0 a1 =>
  intro w F ρ
  dsimp only at h
  refine ak_seq ?_
  refine ak_regionS (.cons rfl (ok_assign (dlt rfl rfl) rfl rfl) (.nil ?_))
  refine ak_seq ?_
  refine ak_regionS (.cons rfl (ok_move (dlt rfl rfl) rfl rfl) (.cons rfl (ok_assign (dlt rfl rfl) rfl rfl) (.cons rfl (ok_assign (dlt rfl rfl) rfl rfl) (.nil ?_))))
  refine ak_seq ?_
  refine ak_block ?_
  refine ak_loop ?_
  exact ak_conv (.cons rfl (.refl _) (.cons rfl (.refl _) (.cons rfl (.refl _) (.cons rfl (.refl _) (.cons rfl (.refl _) (.cons rfl (.refl _) (.nil _))))))) (.cons rfl (.refl _) (.nil _)) (ih _ _ h w F ρ _)
 | l115_61_0 a0 a1 a2 a3 a4 =>
  intro w F ρ S
  dsimp only at h
  refine ak_seq ?_
  refine ak_seq ?_
  refine ak_regionS (.cons rfl (ok_move (dlt rfl rfl) rfl rfl) (.cons rfl (ok_move (dlt rfl rfl) rfl rfl) (.cons rfl (ok_leq (dlt rfl rfl) rfl rfl rfl) (.nil ?_))))
  refine ak_cond rfl (fun ht => ?_) (fun ht => ?_)
  ·have h := cond_t ht h
   exact no_of h
  ·have h := cond_f ht h
   refine ak_exit rfl ?_
   refine ak_seq ?_
   obtain ⟨v1, hv1, h⟩ := bind_of h
   refine ak_regionS (.cons rfl (ok_move (dlt rfl rfl) rfl rfl) (.cons rfl (ok_move (dlt rfl rfl) rfl rfl) (.cons rfl (ok_move (dlt rfl rfl) rfl rfl) (.cons rfl (ok_move (dlt rfl rfl) rfl rfl) (.cons rfl (ok_callL (xs := [.mf 7 10000, .int .i64 a2, .int .i64 a0, .fn 61 []]) (caps := []) (xs1 := [.mf 7 10000, .int .i64 a2, .int .i64 a0, .fn 61 []]) (z := .tup []) (ups := [(10000, .arr 111 Ty.sEvalFound v1)]) (dlt rfl rfl) [(10000, (10000, none))] [] rfl rfl Tryz.func169 rfl rfl rfl (.cons (.refl _) (.cons (.refl _) (.cons (.refl _) (.cons (.refl _) (.nil))))) (.cons (.mf rfl) (.cons (.same rfl) (.cons (.same rfl) (.cons (.same rfl) (.nil))))) (.arr rfl .nil) rfl (d169_61 hv1) (.arr (l := 10000) rfl rfl rfl .nil) rfl rfl rfl (by intro d h; simp at h) rfl (.same rfl)) (.nil ?_))))))
   refine ak_block ?_
   refine ak_loop ?_
   exact ak_conv (.cons rfl (.refl _) (.cons rfl (.refl _) (.cons rfl (.refl _) (.cons rfl (.refl _) (.nil _))))) (.cons rfl (.refl _) (.nil _)) (ih _ _ h w F ρ _)
 | l115_61_1 a0 a1 a2 =>
  intro w F ρ S
  dsimp only at h
  refine ak_seq ?_
  refine ak_seq ?_
  refine ak_regionS (.cons rfl (ok_move (dlt rfl rfl) rfl rfl) (.cons rfl (ok_move (dlt rfl rfl) rfl rfl) (.cons rfl (ok_lss (dlt rfl rfl) rfl rfl rfl) (.nil ?_))))
  refine ak_cond rfl (fun ht => ?_) (fun ht => ?_)
  ·have h := cond_t ht h
   exact no_of h
  ·have h := cond_f ht h
   refine ak_exit rfl ?_
   obtain rfl := Option.some.inj h
   refine ak_conv (Γ' := []) (σ' := [(10000, .arr 111 Ty.sEvalFound a2)]) (.nil _) (.cons rfl (.refl _) (.nil _)) ?_
   exact ak_endC (fn := Tryz.f115) [(10000, .arr 111 Ty.sEvalFound a2)] (.cons rfl (.refl _) (.nil _)) Tryz.func115 rfl trivial ⟨rfl, rfl⟩)
theorem d115_61 {a0 : List EvalFound} {a1 : Int} {r : List EvalFound} (h : f115_61 (.e115_61 a0 a1) = some r) : Does Tryz.prog GG 115 [.mf 7 10000, .int .i64 a1, .fn 61 []] [(10000, .arr 111 Ty.sEvalFound a0)] (fun z σ' => z = .tup [] ∧ σ' = [(10000, .arr 111 Ty.sEvalFound r)]) := fn_of (fn := Tryz.f115) Tryz.func115 rfl Tryz.ntmps115 rfl (w115_61 _ _ h)
/-- slices.SortStableFunc[[]riffle/eval.found,riffle/eval.found] -/
noncomputable abbrev b60_61 : Code := codeOf Tryz.f60
inductive L60_61 where
 | e60_61 (a0 : List EvalFound)
noncomputable def f60_61 : L60_61 → Option (List EvalFound)
 | .e60_61 a0 =>
  f115_61 (.e115_61 a0 (a0.length : Int)) >>= fun v1 =>
  some v1
def M60_61 : L60_61 → (List EvalFound) → Prop
 | .e60_61 a0, r => ∀ (w : World) (F : Nat → Prop) (ρ : Rho), AK Tryz.prog (ctx GG 9 w F ρ [(10000, .arr 111 Ty.sEvalFound a0)]) 60 [.code b60_61] (argE 0 [.mf 7 10000, .fn 61 []]) [(10000, .arr 111 Ty.sEvalFound a0)] (fun z σ' => z = .tup [] ∧ σ' = [(10000, .arr 111 Ty.sEvalFound r)])
theorem w60_61 : ∀ (l : L60_61) (r : List EvalFound), f60_61 l = some r → M60_61 l r := (by
 intro l r h
 cases l with
 | e60_61 a0 =>
  intro w F ρ
  dsimp only [f60_61] at h
  obtain ⟨v1, hv1, h⟩ := bind_of h
  refine ak_regionS (.cons rfl (ok_move (dlt rfl rfl) rfl rfl) (.cons rfl (ok_move (dlt rfl rfl) rfl rfl) (.cons rfl (ok_lenA (dlt rfl rfl) rfl Tryz.underlying112 rfl rfl) (.cons rfl (ok_move (dlt rfl rfl) rfl rfl) (.cons rfl (ok_callL (xs := [.mf 7 10000, .int .i64 (a0.length : Int), .fn 61 []]) (caps := []) (xs1 := [.mf 7 10000, .int .i64 (a0.length : Int), .fn 61 []]) (z := .tup []) (ups := [(10000, .arr 111 Ty.sEvalFound v1)]) (dlt rfl rfl) [(10000, (10000, none))] [] rfl rfl Tryz.func115 rfl rfl rfl (.cons (.refl _) (.cons (.refl _) (.cons (.refl _) (.nil)))) (.cons (.mf rfl) (.cons (.same rfl) (.cons (.same rfl) (.nil)))) (.arr rfl .nil) rfl (d115_61 hv1) (.arr (l := 10000) rfl rfl rfl .nil) rfl rfl rfl (by intro d h; simp at h) rfl (.same rfl)) (.nil ?_))))))
  obtain rfl := Option.some.inj h
  refine ak_conv (Γ' := []) (σ' := [(10000, .arr 111 Ty.sEvalFound v1)]) (.nil _) (.cons rfl (.refl _) (.nil _)) ?_
  exact ak_endC (fn := Tryz.f60) [(10000, .arr 111 Ty.sEvalFound v1)] (.cons rfl (.refl _) (.nil _)) Tryz.func60 rfl trivial ⟨rfl, rfl⟩)
theorem d60_61 {a0 : List EvalFound} {r : List EvalFound} (h : f60_61 (.e60_61 a0) = some r) : Does Tryz.prog GG 60 [.mf 7 10000, .fn 61 []] [(10000, .arr 111 Ty.sEvalFound a0)] (fun z σ' => z = .tup [] ∧ σ' = [(10000, .arr 111 Ty.sEvalFound r)]) := fn_of (fn := Tryz.f60) Tryz.func60 rfl Tryz.ntmps60 rfl (w60_61 _ _ h)
/-- riffle/eval.Nodes$2 -/
noncomputable abbrev b64 : Code := codeOf Tryz.f64
inductive L64 where
 | e64 (a0 : EvalFound) (a1 : EvalFound)
noncomputable def f64 : L64 → Option Bool
 | .e64 a0 a1 =>
  some (a0.value.frm == a1.value.frm)
def M64 : L64 → Bool → Prop
 | .e64 a0 a1, r => ∀ (w : World) (F : Nat → Prop) (ρ : Rho), AK Tryz.prog (ctx GG 12 w F ρ []) 64 [.code b64] (argE 0 [.agg [.int .i64 a0.value.kind, .int .i64 a0.value.frm, .int .i64 a0.value.to, .str a0.value.text, .sl Ty.sApiValue a0.value.items, .sl Ty.str a0.value.names, .sl Ty.sApiStep a0.steps], .agg [.int .i64 a1.value.kind, .int .i64 a1.value.frm, .int .i64 a1.value.to, .str a1.value.text, .sl Ty.sApiValue a1.value.items, .sl Ty.str a1.value.names, .sl Ty.sApiStep a1.steps]]) [] (fun z _ => z = .bool r)
theorem w64 : ∀ (l : L64) (r : Bool), f64 l = some r → M64 l r := (by
 intro l r h
 cases l with
 | e64 a0 a1 =>
  intro w F ρ
  dsimp only [f64] at h
  refine ak_seq ?_
  refine ak_regionS (.cons rfl (ok_box (d := 2) (dlt rfl rfl) rfl rfl rfl rfl rfl) (.cons rfl (ok_box (d := 3) (dlt rfl rfl) rfl rfl rfl rfl rfl) (.cons rfl (ok_assign (dlt rfl rfl) rfl rfl) (.nil ?_))))
  refine ak_seq ?_
  refine ak_regionS (.cons rfl (ok_fieldV (dlt rfl rfl) rfl fo111_0 ty29 (by decide) rfl) (.cons rfl (ok_fieldV (dlt rfl rfl) rfl fo29_1 ty3 (by decide) rfl) (.cons rfl (ok_loadV (dlt rfl rfl) rfl ty3 rfl rfl rfl) (.cons rfl (ok_fieldV (dlt rfl rfl) rfl fo111_0 ty29 (by decide) rfl) (.cons rfl (ok_fieldV (dlt rfl rfl) rfl fo29_1 ty3 (by decide) rfl) (.cons rfl (ok_loadV (dlt rfl rfl) rfl ty3 rfl rfl rfl) (.cons rfl (ok_eql (dlt rfl rfl) rfl rfl rfl) (.cons rfl (ok_assign (dlt rfl rfl) rfl rfl) (.nil ?_)))))))))
  obtain rfl := Option.some.inj h
  refine ak_conv (Γ' := [(4, .bool (a0.value.frm == a1.value.frm))]) (σ' := []) (.cons rfl (.refl _) (.nil _)) (.nil _) ?_
  exact ak_ret (fn := Tryz.f64) Tryz.func64 rfl trivial rfl)
theorem d64 {a0 : EvalFound} {a1 : EvalFound} {r : Bool} (h : f64 (.e64 a0 a1) = some r) : Does Tryz.prog GG 64 [.agg [.int .i64 a0.value.kind, .int .i64 a0.value.frm, .int .i64 a0.value.to, .str a0.value.text, .sl Ty.sApiValue a0.value.items, .sl Ty.str a0.value.names, .sl Ty.sApiStep a0.steps], .agg [.int .i64 a1.value.kind, .int .i64 a1.value.frm, .int .i64 a1.value.to, .str a1.value.text, .sl Ty.sApiValue a1.value.items, .sl Ty.str a1.value.names, .sl Ty.sApiStep a1.steps]] [] (fun z _ => z = .bool r) := fn_of (fn := Tryz.f64) Tryz.func64 rfl Tryz.ntmps64 rfl (w64 _ _ h)
end Go.Proofs.YtonlbdholdaifaaGreatDoor
end
section
set_option linter.unusedVariables false
set_option linter.unusedSimpArgs false
set_option maxRecDepth 10000
namespace Go.Proofs.YtonlbdholdaifaaGreatDoor
open Go Go.Rf Go.Proofs
/-- slices.CompactFunc[[]riffle/eval.found,riffle/eval.found] -/
noncomputable abbrev b63_64 : Code := codeOf Tryz.f63
inductive L63_64 where
 | e63_64 (a0 : List EvalFound)
 | l63_64_0 (a0 : Int) (a1 : List EvalFound)
noncomputable def f63_64 : L63_64 → Option (List EvalFound)
 | .e63_64 a0 =>
  if (decide ((a0.length : Int) < (2 : Int))) = true then
   none
  else
   f63_64 (.l63_64_0 (1 : Int) a0)
 | .l63_64_0 a0 a1 =>
  if (decide (a0 < (a1.length : Int))) = true then
   idx a1 a0 >>= fun v1 =>
   idx a1 (IntKind.wrap .i64 (a0 - (1 : Int))) >>= fun v2 =>
   f64 (.e64 v1 v2) >>= fun v3 =>
   if v3 = true then
    none
   else
    f63_64 (.l63_64_0 (IntKind.wrap .i64 (a0 + (1 : Int))) a1)
  else
   some a1
 partial_fixpoint
def M63_64 : L63_64 → (List EvalFound) → Prop
 | .e63_64 a0, r => ∀ (w : World) (F : Nat → Prop) (ρ : Rho), AK Tryz.prog (ctx GG 66 w F ρ [(20000, .arr 111 Ty.sEvalFound a0)]) 63 [.code b63_64] (argE 0 [.mf 7 20000, .fn 64 []]) [(20000, .arr 111 Ty.sEvalFound a0)] (fun z σ' => z = .mf 7 30000 ∧ σ' = [(30000, .arr 111 Ty.sEvalFound r)])
 | .l63_64_0 a0 a1, r => ∀ (w : World) (F : Nat → Prop) (ρ : Rho) (S : Nat → Prop), AK Tryz.prog (ctxL GG 66 w F ρ S []) 63 [.code (c1 (c1 (c2 (c1 (c2 (c2 b63_64)))))), .inLoop (c1 (c1 (c2 (c1 (c2 (c2 b63_64)))))), .inBlock 0, .code (c2 (c2 (c2 b63_64)))] [(0, .mf 7 20000), (1, .fn 64 []), (5, .int .i64 a0)] [(20000, .arr 111 Ty.sEvalFound a1)] (fun z σ' => z = .mf 7 30000 ∧ σ' = [(30000, .arr 111 Ty.sEvalFound r)])
theorem w63_64 : ∀ (l : L63_64) (r : List EvalFound), f63_64 l = some r → M63_64 l r := f63_64.partial_correctness M63_64 (by
 intro f ih l r h
 cases l with
 | e63_64 a0 =>
  intro w F ρ
  dsimp only at h
  refine ak_seq ?_
  refine ak_regionS (.cons rfl (ok_assign (dlt rfl rfl) rfl rfl) (.nil ?_))
  refine ak_seq ?_
  refine ak_seq ?_
  refine ak_regionS (.cons rfl (ok_move (dlt rfl rfl) rfl rfl) (.cons rfl (ok_lenA (dlt rfl rfl) rfl Tryz.underlying112 rfl rfl) (.cons rfl (ok_lss (dlt rfl rfl) rfl rfl rfl) (.nil ?_))))
  refine ak_cond rfl (fun ht => ?_) (fun ht => ?_)
  ·have h := cond_t ht h
   exact no_of h
  ·have h := cond_f ht h
   refine ak_skip ?_
   refine ak_seq ?_
   refine ak_seq ?_
   refine ak_regionS (.cons rfl (ok_assign (dlt rfl rfl) rfl rfl) (.nil ?_))
   refine ak_block ?_
   refine ak_loop ?_
   exact ak_conv (.cons rfl (.refl _) (.cons rfl (.refl _) (.cons rfl (.refl _) (.nil _)))) (.cons rfl (.refl _) (.nil _)) (ih _ _ h w F ρ _)
 | l63_64_0 a0 a1 =>
  intro w F ρ S
  dsimp only at h
  refine ak_seq ?_
  refine ak_seq ?_
  refine ak_regionS (.cons rfl (ok_move (dlt rfl rfl) rfl rfl) (.cons rfl (ok_move (dlt rfl rfl) rfl rfl) (.cons rfl (ok_lenA (dlt rfl rfl) rfl Tryz.underlying112 rfl rfl) (.cons rfl (ok_lss (dlt rfl rfl) rfl rfl rfl) (.nil ?_)))))
  refine ak_cond rfl (fun ht => ?_) (fun ht => ?_)
  ·have h := cond_t ht h
   refine ak_skip ?_
   refine ak_seq ?_
   refine ak_block ?_
   refine ak_seq ?_
   obtain ⟨v1, hv1, h⟩ := bind_of h
   obtain ⟨v2, hv2, h⟩ := bind_of h
   obtain ⟨v3, hv3, h⟩ := bind_of h
   refine ak_drawL [⟨some 18, [(1, .fn 64 [])], none, true, .fn 64 [], [], []⟩,
  ⟨some 19, [(0, .mf 7 20000)], none, true, .mf 7 20000, [], []⟩,
  ⟨some 20, [(5, .int .i64 a0)], none, true, .int .i64 a0, [], []⟩,
  ⟨some 21, [(19, .mf 7 20000), (20, .int .i64 a0)], none, true, .ar 7 20000 (a0 : Int).toNat 0, [(20000, .arr 111 Ty.sEvalFound a1)], []⟩,
  ⟨some 22, [(21, .ar 7 20000 (a0 : Int).toNat 0)], none, true, .agg [.int .i64 v1.value.kind, .int .i64 v1.value.frm, .int .i64 v1.value.to, .str v1.value.text, .sl Ty.sApiValue v1.value.items, .sl Ty.str v1.value.names, .sl Ty.sApiStep v1.steps], [(20000, .arr 111 Ty.sEvalFound a1)], []⟩,
  ⟨some 23, [(0, .mf 7 20000)], none, true, .mf 7 20000, [], []⟩,
  ⟨some 24, [(5, .int .i64 a0)], none, true, .int .i64 a0, [], []⟩,
  ⟨some 25, [(24, .int .i64 a0)], none, true, .int .i64 (IntKind.wrap .i64 (a0 - (1 : Int))), [], []⟩,
  ⟨some 26, [(23, .mf 7 20000), (25, .int .i64 (IntKind.wrap .i64 (a0 - (1 : Int))))], none, true, .ar 7 20000 (IntKind.wrap .i64 (a0 - (1 : Int)) : Int).toNat 0, [(20000, .arr 111 Ty.sEvalFound a1)], []⟩,
  ⟨some 27, [(26, .ar 7 20000 (IntKind.wrap .i64 (a0 - (1 : Int)) : Int).toNat 0)], none, true, .agg [.int .i64 v2.value.kind, .int .i64 v2.value.frm, .int .i64 v2.value.to, .str v2.value.text, .sl Ty.sApiValue v2.value.items, .sl Ty.str v2.value.names, .sl Ty.sApiStep v2.steps], [(20000, .arr 111 Ty.sEvalFound a1)], []⟩,
  ⟨some 28, [(22, .agg [.int .i64 v1.value.kind, .int .i64 v1.value.frm, .int .i64 v1.value.to, .str v1.value.text, .sl Ty.sApiValue v1.value.items, .sl Ty.str v1.value.names, .sl Ty.sApiStep v1.steps]), (27, .agg [.int .i64 v2.value.kind, .int .i64 v2.value.frm, .int .i64 v2.value.to, .str v2.value.text, .sl Ty.sApiValue v2.value.items, .sl Ty.str v2.value.names, .sl Ty.sApiStep v2.steps]), (18, .fn 64 [])], none, true, .bool v3, [], []⟩] [[], [], [], [1, 2], [1, 2, 3], [], [], [6], [5, 6, 7], [5, 6, 7, 8], [0, 1, 2, 3, 4, 5, 6, 7, 8, 9]] (by kernel_rfl) (by kernel_rfl) (.cons (qok (dlt rfl rfl) rfl (.same rfl .nil) (NeedQ.all .nil) (fun Γx σx => ok_move (dlt rfl rfl) rfl rfl)) (.cons (qok (dlt rfl rfl) rfl (.same rfl .nil) (NeedQ.all .nil) (fun Γx σx => ok_move (dlt rfl rfl) rfl rfl)) (.cons (qok (dlt rfl rfl) rfl (.same rfl .nil) (NeedQ.all .nil) (fun Γx σx => ok_move (dlt rfl rfl) rfl rfl)) (.cons (qok (dlt rfl rfl) rfl (.same rfl (.same rfl .nil)) (NeedQ.all (.cons rfl .nil)) (fun Γx σx => ok_indexA (dlt rfl rfl) rfl Tryz.underlying112 ty111 rfl rfl rfl (idx_0 hv1) (idx_lt hv1))) (.cons (qok (dlt rfl rfl) rfl (.same rfl .nil) (NeedQ.all (.cons rfl .nil)) (fun Γx σx => ok_loadEA (τ := Ty.sEvalFound) (x := v1) (dlt rfl rfl) rfl ty111 rfl rfl (idx_1 hv1) rfl)) (.cons (qok (dlt rfl rfl) rfl (.same rfl .nil) (NeedQ.all .nil) (fun Γx σx => ok_move (dlt rfl rfl) rfl rfl)) (.cons (qok (dlt rfl rfl) rfl (.same rfl .nil) (NeedQ.all .nil) (fun Γx σx => ok_move (dlt rfl rfl) rfl rfl)) (.cons (qok (dlt rfl rfl) rfl (.same rfl .nil) (NeedQ.all .nil) (fun Γx σx => ok_sub (dlt rfl rfl) rfl rfl rfl)) (.cons (qok (dlt rfl rfl) rfl (.same rfl (.same rfl .nil)) (NeedQ.all (.cons rfl .nil)) (fun Γx σx => ok_indexA (dlt rfl rfl) rfl Tryz.underlying112 ty111 rfl rfl rfl (idx_0 hv2) (idx_lt hv2))) (.cons (qok (dlt rfl rfl) rfl (.same rfl .nil) (NeedQ.all (.cons rfl .nil)) (fun Γx σx => ok_loadEA (τ := Ty.sEvalFound) (x := v2) (dlt rfl rfl) rfl ty111 rfl rfl (idx_1 hv2) rfl)) (.cons (qok (dlt rfl rfl) rfl (.same rfl (.same rfl (.same rfl .nil))) (NeedQ.all .nil) (fun Γx σx => ok_call (xs := [.agg [.int .i64 v1.value.kind, .int .i64 v1.value.frm, .int .i64 v1.value.to, .str v1.value.text, .sl Ty.sApiValue v1.value.items, .sl Ty.str v1.value.names, .sl Ty.sApiStep v1.steps], .agg [.int .i64 v2.value.kind, .int .i64 v2.value.frm, .int .i64 v2.value.to, .str v2.value.text, .sl Ty.sApiValue v2.value.items, .sl Ty.str v2.value.names, .sl Ty.sApiStep v2.steps]]) (caps := []) (dlt rfl rfl) rfl rfl Tryz.func64 rfl rfl rfl (d64 hv3) rfl)) (.nil _ _)))))))))))) (.nil ?_)
   refine ak_cond rfl (fun ht => ?_) (fun ht => ?_)
   ·have h := cond_t ht h
    exact no_of h
   ·have h := cond_f ht h
    refine ak_skip ?_
    refine ak_inBlock ?_
    refine ak_regionS (.cons rfl (ok_move (dlt rfl rfl) rfl rfl) (.cons rfl (ok_add (dlt rfl rfl) rfl rfl rfl) (.cons rfl (ok_assign (dlt rfl rfl) rfl rfl) (.nil ?_))))
    refine ak_inLoop ?_
    exact ak_conv (.cons rfl (.refl _) (.cons rfl (.refl _) (.cons rfl (.refl _) (.nil _)))) (.cons rfl (.refl _) (.nil _)) (ih _ _ h w F ρ _)
  ·have h := cond_f ht h
   refine ak_exit rfl ?_
   refine ak_seq ?_
   refine ak_regionS (.cons rfl (ok_move (dlt rfl rfl) rfl rfl) (.cons rfl (ok_assign (dlt rfl rfl) rfl rfl) (.nil ?_)))
   obtain rfl := Option.some.inj h
   refine ak_conv (Γ' := [(4, .mf 7 20000)]) (σ' := [(20000, .arr 111 Ty.sEvalFound a1)]) (.cons rfl (.refl _) (.nil _)) (.cons rfl (.refl _) (.nil _)) ?_
   refine ak_ren 20000 30000 rfl rfl rfl rfl ?_
   refine ak_conv (Γ' := [(4, .mf 7 30000)]) (σ' := [(30000, .arr 111 Ty.sEvalFound a1)]) (.cons rfl (.refl _) (.nil _)) (.cons rfl (.refl _) (.nil _)) ?_
   exact ak_retC (fn := Tryz.f63) [(30000, .arr 111 Ty.sEvalFound a1)] (.cons rfl (.refl _) (.nil _)) Tryz.func63 rfl trivial ⟨rfl, rfl⟩)
theorem d63_64 {a0 : List EvalFound} {r : List EvalFound} (h : f63_64 (.e63_64 a0) = some r) : Does Tryz.prog GG 63 [.mf 7 20000, .fn 64 []] [(20000, .arr 111 Ty.sEvalFound a0)] (fun z σ' => z = .mf 7 30000 ∧ σ' = [(30000, .arr 111 Ty.sEvalFound r)]) := fn_of (fn := Tryz.f63) Tryz.func63 rfl Tryz.ntmps63 rfl (w63_64 _ _ h)
/-- slices.Clone[[]riffle/api.Step,riffle/api.Step] -/
noncomputable abbrev b65 : Code := codeOf Tryz.f65
inductive L65 where
 | e65 (a0 : List ApiStep)
noncomputable def f65 : L65 → Option (List ApiStep)
 | .e65 a0 =>
  room ([] : List ApiStep).length a0.length 32 >>= fun v1 =>
  some (([] : List ApiStep) ++ a0)
def M65 : L65 → (List ApiStep) → Prop
 | .e65 a0, r => ∀ (w : World) (F : Nat → Prop) (ρ : Rho), AK Tryz.prog (ctx GG 8 w F ρ []) 65 [.code b65] (argE 0 [.sl Ty.sApiStep a0]) [] (fun z _ => z = .sl Ty.sApiStep r)
theorem w65 : ∀ (l : L65) (r : List ApiStep), f65 l = some r → M65 l r := (by
 intro l r h
 cases l with
 | e65 a0 =>
  intro w F ρ
  dsimp only [f65] at h
  refine ak_seq ?_
  refine ak_regionS (.cons rfl (ok_assign (dlt rfl rfl) rfl rfl) (.nil ?_))
  refine ak_nilRow (s := 2) (d := 1002) (e := 121) Ty.sApiStep rfl rfl rfl ?_
  refine ak_seq ?_
  refine ak_seq ?_
  refine ak_regionS (.cons rfl (ok_move (dlt rfl rfl) rfl rfl) (seq_nilS (dlt rfl rfl) rfl rfl Tryz.underlying38 rfl rfl (fun c1 hc1 => ?_)))
  refine (.nil ?_)
  refine ak_cond rfl (fun ht => ?_) (fun ht => ?_)
  ·have hx := hc1 ht
   subst hx
   have h : some ([] : List ApiStep) = some r := by
    obtain ⟨_, _, h⟩ := bind_of h
    exact h
   refine ak_seq ?_
   refine ak_regionS (.cons rfl (ok_assign (dlt rfl rfl) rfl rfl) (.nil ?_))
   refine ak_nilRow (s := 2) (d := 101002) (e := 121) Ty.sApiStep rfl rfl rfl ?_
   obtain rfl := Option.some.inj h
   refine ak_freeze 101002 rfl ?_
   refine ak_conv (Γ' := [(2, .sl Ty.sApiStep ([] : List ApiStep))]) (σ' := []) (.cons rfl (.refl _) (.nil _)) (.nil _) ?_
   exact ak_ret (fn := Tryz.f65) Tryz.func65 rfl trivial rfl
  ·refine ak_skip ?_
   refine ak_seq ?_
   obtain ⟨v1, hv1, h⟩ := bind_of h
   refine ak_regionS (.cons rfl (ok_litM0 (d := 2005) (dlt rfl rfl) Ty.sApiStep rfl rfl Tryz.underlying38 ty121 rfl rfl) (.cons rfl (ok_move (dlt rfl rfl) rfl rfl) (.cons rfl (ok_appendS (τ := Ty.sApiStep) (xs := ([] : List ApiStep)) (ys := a0) (dlt rfl rfl) rfl Tryz.underlying38 ty121 rfl rfl rfl rfl (room_1 hv1) (room_2 hv1)) (.cons rfl (ok_assign (dlt rfl rfl) rfl rfl) (.nil ?_)))))
   obtain rfl := Option.some.inj h
   refine ak_freeze 2005 rfl ?_
   refine ak_conv (Γ' := [(2, .sl Ty.sApiStep (([] : List ApiStep) ++ a0))]) (σ' := []) (.cons rfl (.refl _) (.nil _)) (.nil _) ?_
   exact ak_ret (fn := Tryz.f65) Tryz.func65 rfl trivial rfl)
theorem d65 {a0 : List ApiStep} {r : List ApiStep} (h : f65 (.e65 a0) = some r) : Does Tryz.prog GG 65 [.sl Ty.sApiStep a0] [] (fun z _ => z = .sl Ty.sApiStep r) := fn_of (fn := Tryz.f65) Tryz.func65 rfl Tryz.ntmps65 rfl (w65 _ _ h)
end Go.Proofs.YtonlbdholdaifaaGreatDoor
end
