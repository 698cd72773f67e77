import Derived.Test.YtonlbdholdaifaaGreatDoorProg
import Derived.Test.YtonlbdholdaifaaGreatDoorRfp4
import Derived.Test.YtonlbdholdaifaaGreatDoorRg6p1
import Derived.Test.YtonlbdholdaifaaGreatDoorRg6p8
import Derived.Test.YtonlbdholdaifaaGreatDoorRg6p6
import Derived.Test.YtonlbdholdaifaaGreatDoorRg6p7
section
set_option linter.unusedVariables false
set_option linter.unusedSimpArgs false
set_option maxRecDepth 10000
namespace Go.Proofs.YtonlbdholdaifaaGreatDoor
open Go Go.Rf Go.Proofs
/-- riffle/rifflelaw17.Few -/
noncomputable abbrev b27 : Code := codeOf Tryz.f27
inductive L27 where
 | e27 (a0 : List (List ApiSegment))
 | l27_0 (a0 : List (List ApiSegment)) (a1 : Int) (a2 : Int)
 | l27_1 (a0 : List (List ApiSegment)) (a1 : Int) (a2 : Int) (a3 : List ApiSegment) (a4 : Int) (a5 : Int)
noncomputable def f27 : L27 → Option Int
 | .e27 a0 =>
  if (decide ((6 : Int) < (a0.length : Int))) = true then
   some (0 : Int)
  else
   f27 (.l27_0 a0 (a0.length : Int) (0 : Int))
 | .l27_0 a0 a1 a2 =>
  if (decide (a2 < a1)) = true then
   idx a0 a2 >>= fun v1 =>
   gd (!(decide ((6 : Int) < (v1.length : Int)))) (f58 (.e58 v1)) >>= fun v2 =>
   if ((decide ((6 : Int) < (v1.length : Int))) || (!v2)) = true then
    some (0 : Int)
   else
    f27 (.l27_1 a0 a1 a2 v1 (v1.length : Int) (0 : Int))
  else
   some (1 : Int)
 | .l27_1 a0 a1 a2 a3 a4 a5 =>
  if (decide (a5 < a4)) = true then
   idx a3 a5 >>= fun v3 =>
   if (decide ((6 : Int) < (v3.selectors.length : Int))) = true then
    some (0 : Int)
   else
    f27 (.l27_1 a0 a1 a2 a3 a4 (IntKind.wrap .i64 (a5 + (1 : Int))))
  else
   f27 (.l27_0 a0 a1 (IntKind.wrap .i64 (a2 + (1 : Int))))
 partial_fixpoint
def M27 : L27 → Int → Prop
 | .e27 a0, r => ∀ (w : World) (F : Nat → Prop) (ρ : Rho), AK Tryz.prog (ctx GG 36 w F ρ []) 27 [.code b27] (argE 0 [.sl Ty.lsApiSegment a0]) [] (fun z _ => z = .int .i64 r)
 | .l27_0 a0 a1 a2, r => ∀ (w : World) (F : Nat → Prop) (ρ : Rho), AK Tryz.prog (ctx GG 36 w F ρ []) 27 [.code (c1 (c1 (c2 (c1 (c2 (c2 b27)))))), .inLoop (c1 (c1 (c2 (c1 (c2 (c2 b27)))))), .inBlock 0, .code (c2 (c2 (c2 b27)))] [(10, .sl Ty.lsApiSegment a0), (11, .int .i64 a1), (12, .int .i64 a2)] [] (fun z _ => z = .int .i64 r)
 | .l27_1 a0 a1 a2 a3 a4 a5, r => ∀ (w : World) (F : Nat → Prop) (ρ : Rho), AK Tryz.prog (ctx GG 36 w F ρ []) 27 [.code (c1 (c1 (c2 (c2 (c2 (c1 (c1 (c2 (c2 (c1 (c1 (c2 (c1 (c2 (c2 b27))))))))))))))), .inLoop (c1 (c1 (c2 (c2 (c2 (c1 (c1 (c2 (c2 (c1 (c1 (c2 (c1 (c2 (c2 b27))))))))))))))), .inBlock 2, .inBlock 1, .code (c2 (c2 (c2 (c1 (c1 (c2 (c1 (c2 (c2 b27))))))))), .inLoop (c1 (c1 (c2 (c1 (c2 (c2 b27)))))), .inBlock 0, .code (c2 (c2 (c2 b27)))] [(10, .sl Ty.lsApiSegment a0), (11, .int .i64 a1), (12, .int .i64 a2), (24, .sl Ty.sApiSegment a3), (25, .int .i64 a4), (26, .int .i64 a5)] [] (fun z _ => z = .int .i64 r)
theorem w27 : ∀ (l : L27) (r : Int), f27 l = some r → M27 l r := f27.partial_correctness M27 (by
 intro f ih l r h
 cases l with
 | e27 a0 =>
  intro w F ρ
  dsimp only at h
  refine ak_seq ?_
  refine ak_regionS (.cons rfl (ok_assign (dlt rfl rfl) rfl rfl) (.nil ?_))
  refine ak_seq ?_
  refine ak_seq ?_
  refine ak_regionS (.cons rfl (ok_move (dlt rfl rfl) rfl rfl) (.cons rfl (ok_lenS (τ := Ty.lsApiSegment) (xs := a0) (dlt rfl rfl) rfl Tryz.underlying55 rfl) (.cons rfl (ok_gtr (dlt rfl rfl) rfl rfl rfl) (.nil ?_))))
  refine ak_cond rfl (fun ht => ?_) (fun ht => ?_)
  ·have h := cond_t ht h
   refine ak_seq ?_
   refine ak_regionS (.cons rfl (ok_assign (dlt rfl rfl) rfl rfl) (.nil ?_))
   obtain rfl := Option.some.inj h
   refine ak_conv (Γ' := [(2, .int .i64 (0 : Int))]) (σ' := []) (.cons rfl (.refl _) (.nil _)) (.nil _) ?_
   exact ak_ret (fn := Tryz.f27) Tryz.func27 rfl trivial rfl
  ·have h := cond_f ht h
   refine ak_skip ?_
   refine ak_seq ?_
   refine ak_seq ?_
   refine ak_regionS (.cons rfl (ok_move (dlt rfl rfl) rfl rfl) (.cons rfl (ok_lenS (τ := Ty.lsApiSegment) (xs := a0) (dlt rfl rfl) rfl Tryz.underlying55 rfl) (.cons rfl (ok_move (dlt rfl rfl) rfl rfl) (.nil ?_))))
   refine ak_block ?_
   refine ak_loop ?_
   exact ak_conv (.cons rfl (.refl _) (.cons rfl (.refl _) (.cons rfl (.refl _) (.nil _)))) (.nil _) (ih _ _ h w F ρ)
 | l27_0 a0 a1 a2 =>
  intro w F ρ
  dsimp only at h
  refine ak_seq ?_
  refine ak_regionS (.cons rfl (ok_lss (dlt rfl rfl) rfl rfl rfl) (.nil ?_))
  refine ak_seq ?_
  refine ak_cond rfl (fun ht => ?_) (fun ht => ?_)
  ·have h := cond_t ht h
   refine ak_skip ?_
   refine ak_seq ?_
   refine ak_block ?_
   refine ak_seq ?_
   obtain ⟨v1, hv1, h⟩ := bind_of h
   refine ak_regionS (.cons rfl (ok_indexS (τ := Ty.lsApiSegment) (x := v1) (dlt rfl rfl) rfl Tryz.underlying55 ty24 rfl rfl rfl (idx_0 hv1) (idx_1 hv1)) (.cons rfl (ok_loadR (dlt rfl rfl) rfl ty24 rfl rfl) (.cons rfl (ok_assign (dlt rfl rfl) rfl rfl) (.nil ?_))))
   refine ak_seq ?_
   refine ak_seq ?_
   obtain ⟨v2, hv2, h⟩ := bind_of h
   refine ak_regionS (.cons rfl (ok_move (dlt rfl rfl) rfl rfl) (.cons rfl (ok_lenS (τ := Ty.sApiSegment) (xs := v1) (dlt rfl rfl) rfl Tryz.underlying24 rfl) (.cons rfl (ok_gtr (dlt rfl rfl) rfl rfl rfl) (.cons rfl (ok_move (dlt rfl rfl) rfl rfl) (.consG (pre := []) (dlt rfl rfl) rfl rfl rfl rfl .nil (fun he => ok_move (dlt rfl rfl) rfl rfl) (.consG (pre := [(20, .sl Ty.sApiSegment v1)]) (dlt rfl rfl) rfl rfl rfl rfl (.cons rfl (fun he => he) .nil) (fun he => ok_call (xs := [.sl Ty.sApiSegment v1]) (caps := []) (dlt rfl rfl) rfl rfl Tryz.func58 rfl rfl rfl (d58 (gd_t hv2 he)) rfl) (.consG (pre := [(21, .bool v2)]) (dlt rfl rfl) rfl rfl rfl rfl (.cons rfl (fun he => he) .nil) (fun he => ok_not (dlt rfl rfl) rfl rfl) (.cons rfl (ok_orW (dlt rfl rfl) rfl rfl rfl (fun h => (bnot_t h))) (.nil ?_)))))))))
   refine ak_cond rfl (fun ht => ?_) (fun ht => ?_)
   ·have h := cond_t ht h
    refine ak_seq ?_
    refine ak_regionS (.cons rfl (ok_assign (dlt rfl rfl) rfl rfl) (.nil ?_))
    obtain rfl := Option.some.inj h
    refine ak_conv (Γ' := [(2, .int .i64 (0 : Int))]) (σ' := []) (.cons rfl (.refl _) (.nil _)) (.nil _) ?_
    exact ak_ret (fn := Tryz.f27) Tryz.func27 rfl trivial rfl
   ·have h := cond_f ht h
    refine ak_skip ?_
    refine ak_seq ?_
    refine ak_regionS (.cons rfl (ok_move (dlt rfl rfl) rfl rfl) (.cons rfl (ok_lenS (τ := Ty.sApiSegment) (xs := v1) (dlt rfl rfl) rfl Tryz.underlying24 rfl) (.cons rfl (ok_move (dlt rfl rfl) rfl rfl) (.nil ?_))))
    refine ak_block ?_
    refine ak_loop ?_
    exact ak_conv (.cons rfl (.refl _) (.cons rfl (.refl _) (.cons rfl (.refl _) (.cons rfl (.refl _) (.cons rfl (.refl _) (.cons rfl (.refl _) (.nil _))))))) (.nil _) (ih _ _ h w F ρ)
  ·have h := cond_f ht h
   refine ak_exit rfl ?_
   refine ak_seq ?_
   refine ak_regionS (.cons rfl (ok_assign (dlt rfl rfl) rfl rfl) (.nil ?_))
   obtain rfl := Option.some.inj h
   refine ak_conv (Γ' := [(2, .int .i64 (1 : Int))]) (σ' := []) (.cons rfl (.refl _) (.nil _)) (.nil _) ?_
   exact ak_ret (fn := Tryz.f27) Tryz.func27 rfl trivial rfl
 | l27_1 a0 a1 a2 a3 a4 a5 =>
  intro w F ρ
  dsimp only at h
  refine ak_seq ?_
  refine ak_regionS (.cons rfl (ok_lss (dlt rfl rfl) rfl rfl rfl) (.nil ?_))
  refine ak_seq ?_
  refine ak_cond rfl (fun ht => ?_) (fun ht => ?_)
  ·have h := cond_t ht h
   refine ak_skip ?_
   refine ak_seq ?_
   refine ak_block ?_
   refine ak_seq ?_
   obtain ⟨v3, hv3, h⟩ := bind_of h
   refine ak_regionS (.cons rfl (ok_indexS (τ := Ty.sApiSegment) (x := v3) (dlt rfl rfl) rfl Tryz.underlying24 ty47 rfl rfl rfl (idx_0 hv3) (idx_1 hv3)) (.cons rfl (ok_loadRT (dlt rfl rfl) rfl ty47 rfl (by decide) rfl) (.cons rfl (ok_alloc (d := 6) (dlt rfl rfl) rfl ty47 rfl rfl rfl) (.cons rfl (ok_storeV rfl rfl ty47 rfl rfl rfl rfl (by decide) rfl rfl) (.nil ?_)))))
   refine ak_seq ?_
   refine ak_regionS (.cons rfl (ok_fieldV (dlt rfl rfl) rfl fo47_1 ty45 (by decide) rfl) (.cons rfl (ok_loadV (dlt rfl rfl) rfl ty45 rfl rfl rfl) (.cons rfl (ok_lenS (τ := Ty.sApiSelector) (xs := v3.selectors) (dlt rfl rfl) rfl Tryz.underlying45 rfl) (.cons rfl (ok_gtr (dlt rfl rfl) rfl rfl rfl) (.nil ?_)))))
   refine ak_cond rfl (fun ht => ?_) (fun ht => ?_)
   ·have h := cond_t ht h
    refine ak_seq ?_
    refine ak_regionS (.cons rfl (ok_assign (dlt rfl rfl) rfl rfl) (.nil ?_))
    obtain rfl := Option.some.inj h
    refine ak_conv (Γ' := [(2, .int .i64 (0 : Int))]) (σ' := []) (.cons rfl (.refl _) (.nil _)) (.nil _) ?_
    exact ak_ret (fn := Tryz.f27) Tryz.func27 rfl trivial rfl
   ·have h := cond_f ht h
    refine ak_skip ?_
    refine ak_inBlock ?_
    refine ak_regionS (.cons rfl (ok_add (dlt rfl rfl) rfl rfl rfl) (.cons rfl (ok_move (dlt rfl rfl) rfl rfl) (.nil ?_)))
    refine ak_inLoop ?_
    exact ak_conv (.cons rfl (.refl _) (.cons rfl (.refl _) (.cons rfl (.refl _) (.cons rfl (.refl _) (.cons rfl (.refl _) (.cons rfl (.refl _) (.nil _))))))) (.nil _) (ih _ _ h w F ρ)
  ·have h := cond_f ht h
   refine ak_exit rfl ?_
   refine ak_inBlock ?_
   refine ak_regionS (.cons rfl (ok_add (dlt rfl rfl) rfl rfl rfl) (.cons rfl (ok_move (dlt rfl rfl) rfl rfl) (.nil ?_)))
   refine ak_inLoop ?_
   exact ak_conv (.cons rfl (.refl _) (.cons rfl (.refl _) (.cons rfl (.refl _) (.nil _)))) (.nil _) (ih _ _ h w F ρ))
theorem d27 {a0 : List (List ApiSegment)} {r : Int} (h : f27 (.e27 a0) = some r) : Does Tryz.prog GG 27 [.sl Ty.lsApiSegment a0] [] (fun z _ => z = .int .i64 r) := fn_of (fn := Tryz.f27) Tryz.func27 rfl Tryz.ntmps27 rfl (w27 _ _ h)
/-- riffle/riffleref16.Step -/
noncomputable abbrev b136 : Code := codeOf Tryz.f136
inductive L136 where
 | e136 (a0 : ApiValue) (a1 : Int)
noncomputable def f136 : L136 → Option ApiStep
 | .e136 a0 a1 =>
  if (a0.kind == (5 : Int)) = true then
   idx a0.names a1 >>= fun v1 =>
   some (⟨true, v1, 0⟩ : ApiStep)
  else
   some (⟨false, [], a1⟩ : ApiStep)
def M136 : L136 → ApiStep → Prop
 | .e136 a0 a1, r => ∀ (w : World) (F : Nat → Prop) (ρ : Rho), AK Tryz.prog (ctx GG 16 w F ρ []) 136 [.code b136] (argE 0 [.agg [.int .i64 a0.kind, .int .i64 a0.frm, .int .i64 a0.to, .str a0.text, .sl Ty.sApiValue a0.items, .sl Ty.str a0.names], .int .i64 a1]) [] (fun z _ => z = .agg [.bool r.named, .str r.name, .int .i64 r.index])
theorem w136 : ∀ (l : L136) (r : ApiStep), f136 l = some r → M136 l r := (by
 intro l r h
 cases l with
 | e136 a0 a1 =>
  intro w F ρ
  dsimp only [f136] at h
  refine ak_seq ?_
  refine ak_regionS (.cons rfl (ok_box (d := 2) (dlt rfl rfl) rfl rfl rfl rfl rfl) (.cons rfl (ok_alloc (d := 4) (dlt rfl rfl) rfl ty121 rfl rfl rfl) (.nil ?_)))
  refine ak_seq ?_
  refine ak_seq ?_
  refine ak_regionS (.cons rfl (ok_fieldV (dlt rfl rfl) rfl fo29_0 ty3 (by decide) rfl) (.cons rfl (ok_loadV (dlt rfl rfl) rfl ty3 rfl rfl rfl) (.cons rfl (ok_eql (dlt rfl rfl) rfl rfl rfl) (.nil ?_))))
  refine ak_cond rfl (fun ht => ?_) (fun ht => ?_)
  ·have h := cond_t ht h
   refine ak_seq ?_
   obtain ⟨v1, hv1, h⟩ := bind_of h
   refine ak_regionS (.cons rfl (ok_fieldV (dlt rfl rfl) rfl fo29_5 ty27 (by decide) rfl) (.cons rfl (ok_loadV (dlt rfl rfl) rfl ty27 rfl rfl rfl) (.cons rfl (ok_move (dlt rfl rfl) rfl rfl) (.cons rfl (ok_indexS (τ := Ty.str) (x := v1) (dlt rfl rfl) rfl Tryz.underlying27 ty9 rfl rfl rfl (idx_0 hv1) (idx_1 hv1)) (.cons rfl (ok_loadR (dlt rfl rfl) rfl ty9 rfl rfl) (.cons rfl (ok_build (dlt rfl rfl) rfl ty121 rfl pl121 rfl rfl rfl) (.cons rfl (ok_storeV rfl rfl ty121 rfl rfl rfl rfl (by decide) rfl rfl) (.nil ?_))))))))
   obtain rfl := Option.some.inj h
   refine ak_conv (Γ' := [(4, .ref 4 0)]) (σ' := [(4, .cells 121 [.bool ((⟨true, v1, 0⟩ : ApiStep).named), .str ((⟨true, v1, 0⟩ : ApiStep).name), .int .i64 ((⟨true, v1, 0⟩ : ApiStep).index)])]) (.cons rfl (.refl _) (.nil _)) (.cons rfl (.refl _) (.nil _)) ?_
   exact ak_ret (fn := Tryz.f136) Tryz.func136 rfl ⟨⟨_, _, _, _, _, _, rfl, rfl, ty121⟩, trivial⟩ rfl
  ·have h := cond_f ht h
   refine ak_skip ?_
   refine ak_seq ?_
   refine ak_regionS (.cons rfl (ok_move (dlt rfl rfl) rfl rfl) (.cons rfl (ok_build (dlt rfl rfl) rfl ty121 rfl pl121 rfl rfl rfl) (.cons rfl (ok_storeV rfl rfl ty121 rfl rfl rfl rfl (by decide) rfl rfl) (.nil ?_))))
   obtain rfl := Option.some.inj h
   refine ak_conv (Γ' := [(4, .ref 4 0)]) (σ' := [(4, .cells 121 [.bool ((⟨false, [], a1⟩ : ApiStep).named), .str ((⟨false, [], a1⟩ : ApiStep).name), .int .i64 ((⟨false, [], a1⟩ : ApiStep).index)])]) (.cons rfl (.refl _) (.nil _)) (.cons rfl (.refl _) (.nil _)) ?_
   exact ak_ret (fn := Tryz.f136) Tryz.func136 rfl ⟨⟨_, _, _, _, _, _, rfl, rfl, ty121⟩, trivial⟩ rfl)
theorem d136 {a0 : ApiValue} {a1 : Int} {r : ApiStep} (h : f136 (.e136 a0 a1) = some r) : Does Tryz.prog GG 136 [.agg [.int .i64 a0.kind, .int .i64 a0.frm, .int .i64 a0.to, .str a0.text, .sl Ty.sApiValue a0.items, .sl Ty.str a0.names], .int .i64 a1] [] (fun z _ => z = .agg [.bool r.named, .str r.name, .int .i64 r.index]) := fn_of (fn := Tryz.f136) Tryz.func136 rfl Tryz.ntmps136 rfl (w136 _ _ h)
/-- riffle/riffleref16.Item -/
noncomputable abbrev b81 : Code := codeOf Tryz.f81
inductive L81 where
 | e81 (a0 : Ref16Node) (a1 : Int)
noncomputable def f81 : L81 → Option Ref16Node
 | .e81 a0 a1 =>
  idx a0.value.items a1 >>= fun v1 =>
  room ([] : List ApiStep).length a0.steps.length 32 >>= fun v2 =>
  f136 (.e136 a0.value a1) >>= fun v3 =>
  room (([] : List ApiStep) ++ a0.steps).length ([v3] : List ApiStep).length 32 >>= fun v4 =>
  some (⟨v1, ((([] : List ApiStep) ++ a0.steps) ++ ([v3] : List ApiStep))⟩ : Ref16Node)
def M81 : L81 → Ref16Node → Prop
 | .e81 a0 a1, r => ∀ (w : World) (F : Nat → Prop) (ρ : Rho), AK Tryz.prog (ctx GG 22 w F ρ []) 81 [.code b81] (argE 0 [.agg [.int .i64 a0.value.kind, .int .i64 a0.value.frm, .int .i64 a0.value.to, .str a0.value.text, .sl Ty.sApiValue a0.value.items, .sl Ty.str a0.value.names, .sl Ty.sApiStep a0.steps], .int .i64 a1]) [] (fun z _ => z = .agg [.int .i64 r.value.kind, .int .i64 r.value.frm, .int .i64 r.value.to, .str r.value.text, .sl Ty.sApiValue r.value.items, .sl Ty.str r.value.names, .sl Ty.sApiStep r.steps])
theorem w81 : ∀ (l : L81) (r : Ref16Node), f81 l = some r → M81 l r := (by
 intro l r h
 cases l with
 | e81 a0 a1 =>
  intro w F ρ
  dsimp only [f81] at h
  refine ak_seq ?_
  refine ak_regionS (.cons rfl (ok_box (d := 2) (dlt rfl rfl) rfl rfl rfl rfl rfl) (.cons rfl (ok_alloc (d := 4) (dlt rfl rfl) rfl ty64 rfl rfl rfl) (.nil ?_)))
  refine ak_seq ?_
  obtain ⟨v1, hv1, h⟩ := bind_of h
  obtain ⟨v2, hv2, h⟩ := bind_of h
  obtain ⟨v3, hv3, h⟩ := bind_of h
  obtain ⟨v4, hv4, h⟩ := bind_of h
  refine ak_drawL [⟨some 5, [(2, .ref 2 0)], none, true, .ref 2 0, [], []⟩,
  ⟨some 6, [(5, .ref 2 0)], none, true, .ref 2 4, [], []⟩,
  ⟨some 7, [(6, .ref 2 4)], none, true, .sl Ty.sApiValue a0.value.items, [(2, .cells 64 [.int .i64 a0.value.kind, .int .i64 a0.value.frm, .int .i64 a0.value.to, .str a0.value.text, .sl Ty.sApiValue a0.value.items, .sl Ty.str a0.value.names, .sl Ty.sApiStep a0.steps])], []⟩,
  ⟨some 8, [(1, .int .i64 a1)], none, true, .int .i64 a1, [], []⟩,
  ⟨some 9, [(7, .sl Ty.sApiValue a0.value.items), (8, .int .i64 a1)], none, true, .rp [.int .i64 v1.kind, .int .i64 v1.frm, .int .i64 v1.to, .str v1.text, .sl Ty.sApiValue v1.items, .sl Ty.str v1.names], [], []⟩,
  ⟨some 10, [(9, .rp [.int .i64 v1.kind, .int .i64 v1.frm, .int .i64 v1.to, .str v1.text, .sl Ty.sApiValue v1.items, .sl Ty.str v1.names])], none, true, .agg [.int .i64 v1.kind, .int .i64 v1.frm, .int .i64 v1.to, .str v1.text, .sl Ty.sApiValue v1.items, .sl Ty.str v1.names], [], []⟩,
  ⟨some 11, [], none, true, .mf 3 2011, [], [(2011, .arr 121 Ty.sApiStep ([] : List ApiStep))]⟩,
  ⟨some 12, [(2, .ref 2 0)], none, true, .ref 2 6, [], []⟩,
  ⟨some 13, [(12, .ref 2 6)], none, true, .sl Ty.sApiStep a0.steps, [(2, .cells 64 [.int .i64 a0.value.kind, .int .i64 a0.value.frm, .int .i64 a0.value.to, .str a0.value.text, .sl Ty.sApiValue a0.value.items, .sl Ty.str a0.value.names, .sl Ty.sApiStep a0.steps])], []⟩,
  ⟨some 14, [(11, .mf 3 2011), (13, .sl Ty.sApiStep a0.steps)], none, true, .mf 3 3014, [(2011, .arr 121 Ty.sApiStep ([] : List ApiStep))], [(3014, .arr 121 Ty.sApiStep (([] : List ApiStep) ++ a0.steps)), (2011, .dead)]⟩,
  ⟨some 15, [(2, .ref 2 0)], none, true, .ref 2 0, [], []⟩,
  ⟨some 16, [(15, .ref 2 0)], none, true, .agg [.int .i64 a0.value.kind, .int .i64 a0.value.frm, .int .i64 a0.value.to, .str a0.value.text, .sl Ty.sApiValue a0.value.items, .sl Ty.str a0.value.names], [(2, .cells 64 [.int .i64 a0.value.kind, .int .i64 a0.value.frm, .int .i64 a0.value.to, .str a0.value.text, .sl Ty.sApiValue a0.value.items, .sl Ty.str a0.value.names, .sl Ty.sApiStep a0.steps])], []⟩,
  ⟨some 17, [(1, .int .i64 a1)], none, true, .int .i64 a1, [], []⟩,
  ⟨some 18, [(16, .agg [.int .i64 a0.value.kind, .int .i64 a0.value.frm, .int .i64 a0.value.to, .str a0.value.text, .sl Ty.sApiValue a0.value.items, .sl Ty.str a0.value.names]), (17, .int .i64 a1)], none, true, .agg [.bool v3.named, .str v3.name, .int .i64 v3.index], [], []⟩,
  ⟨some 19, [(18, .agg [.bool v3.named, .str v3.name, .int .i64 v3.index])], none, true, .sf Ty.sApiStep ([v3] : List ApiStep), [], []⟩,
  ⟨some 20, [(14, .mf 3 3014), (19, .sf Ty.sApiStep ([v3] : List ApiStep))], none, true, .mf 3 3020, [(3014, .arr 121 Ty.sApiStep (([] : List ApiStep) ++ a0.steps))], [(3020, .arr 121 Ty.sApiStep ((([] : List ApiStep) ++ a0.steps) ++ ([v3] : List ApiStep))), (3014, .dead)]⟩,
  ⟨some 21, [(10, .agg [.int .i64 v1.kind, .int .i64 v1.frm, .int .i64 v1.to, .str v1.text, .sl Ty.sApiValue v1.items, .sl Ty.str v1.names]), (20, .mf 3 3020)], none, true, .agg [.int .i64 v1.kind, .int .i64 v1.frm, .int .i64 v1.to, .str v1.text, .sl Ty.sApiValue v1.items, .sl Ty.str v1.names, .mf 3 3020], [], []⟩,
  ⟨none, [(4, .ref 4 0), (21, .agg [.int .i64 v1.kind, .int .i64 v1.frm, .int .i64 v1.to, .str v1.text, .sl Ty.sApiValue v1.items, .sl Ty.str v1.names, .mf 3 3020])], none, true, .undef, [(4, .cells 64 [.int .i64 (0 : Int), .int .i64 (0 : Int), .int .i64 (0 : Int), .str [], .nils, .nils, .nils])], [(4, .cells 64 [.int .i64 v1.kind, .int .i64 v1.frm, .int .i64 v1.to, .str v1.text, .sl Ty.sApiValue v1.items, .sl Ty.str v1.names, .mf 3 3020])]⟩] [[], [0], [0, 1], [], [0, 1, 2, 3], [0, 1, 2, 3, 4], [], [], [7], [6, 7, 8], [], [10], [], [6, 7, 8, 9, 10, 11, 12], [6, 7, 8, 9, 10, 11, 12, 13], [6, 7, 8, 9, 10, 11, 12, 13, 14], [0, 1, 2, 3, 4, 5, 6, 7, 8, 9, 10, 11, 12, 13, 14, 15], [0, 1, 2, 3, 4, 5, 6, 7, 8, 9, 10, 11, 12, 13, 14, 15, 16]] (by kernel_rfl) (by kernel_rfl) (.cons (qok (dlt rfl rfl) rfl (.same rfl .nil) (NeedQ.all .nil) (fun Γx σx => ok_fieldV (dlt rfl rfl) rfl fo64_0 ty29 (by decide) rfl)) (.cons (qok (dlt rfl rfl) rfl (.same rfl .nil) (NeedQ.all .nil) (fun Γx σx => ok_fieldV (dlt rfl rfl) rfl fo29_4 ty26 (by decide) rfl)) (.cons (qok (dlt rfl rfl) rfl (.same rfl .nil) (NeedQ.all (.cons rfl .nil)) (fun Γx σx => ok_loadV (dlt rfl rfl) rfl ty26 rfl rfl rfl)) (.cons (qok (dlt rfl rfl) rfl (.same rfl .nil) (NeedQ.all .nil) (fun Γx σx => ok_move (dlt rfl rfl) rfl rfl)) (.cons (qok (dlt rfl rfl) rfl (.same rfl (.same rfl .nil)) (NeedQ.all .nil) (fun Γx σx => ok_indexS (τ := Ty.sApiValue) (x := v1) (dlt rfl rfl) rfl Tryz.underlying26 ty29 rfl rfl rfl (idx_0 hv1) (idx_1 hv1))) (.cons (qok (dlt rfl rfl) rfl (.same rfl .nil) (NeedQ.all .nil) (fun Γx σx => ok_loadRT (dlt rfl rfl) rfl ty29 rfl (by decide) rfl)) (.cons (qokN (dlt rfl rfl) rfl .nil (NeedQ.all .nil) (fresh1 rfl rfl rfl) (fun Γx σx hfr => ok_litM0 (d := 2011) (dlt rfl rfl) Ty.sApiStep rfl rfl Tryz.underlying38 ty121 (noM_app rfl (fresh2 rfl hfr).1) (noMH_app rfl (fresh2 rfl hfr).2))) (.cons (qok (dlt rfl rfl) rfl (.same rfl .nil) (NeedQ.all .nil) (fun Γx σx => ok_fieldV (dlt rfl rfl) rfl fo64_1 ty38 (by decide) rfl)) (.cons (qok (dlt rfl rfl) rfl (.same rfl .nil) (NeedQ.all (.cons rfl .nil)) (fun Γx σx => ok_loadV (dlt rfl rfl) rfl ty38 rfl rfl rfl)) (.cons (qokN (dlt rfl rfl) rfl (.same rfl (.same rfl .nil)) (NeedQ.all (.cons rfl .nil)) (fresh1 rfl rfl rfl) (fun Γx σx hfr => ok_appendL (τ := Ty.sApiStep) (r := 2011) (xs := ([] : List ApiStep)) (ys := a0.steps) (dlt rfl rfl) 3014 rfl Tryz.underlying38 ty121 rfl rfl rfl rfl (fun F ρ ac w _ h => src_sl h) (room_1 hv2) (room_2 hv2) (noM_app rfl (fresh2 rfl hfr).1) (noMH_app rfl (fresh2 rfl hfr).2))) (.cons (qok (dlt rfl rfl) rfl (.same rfl .nil) (NeedQ.all .nil) (fun Γx σx => ok_fieldV (dlt rfl rfl) rfl fo64_0 ty29 (by decide) rfl)) (.cons (qok (dlt rfl rfl) rfl (.same rfl .nil) (NeedQ.all (.cons rfl .nil)) (fun Γx σx => ok_loadVT (dlt rfl rfl) rfl ty29 rfl rfl (by decide) rfl)) (.cons (qok (dlt rfl rfl) rfl (.same rfl .nil) (NeedQ.all .nil) (fun Γx σx => ok_move (dlt rfl rfl) rfl rfl)) (.cons (qok (dlt rfl rfl) rfl (.same rfl (.same rfl .nil)) (NeedQ.all .nil) (fun Γx σx => ok_call (xs := [.agg [.int .i64 a0.value.kind, .int .i64 a0.value.frm, .int .i64 a0.value.to, .str a0.value.text, .sl Ty.sApiValue a0.value.items, .sl Ty.str a0.value.names], .int .i64 a1]) (caps := []) (dlt rfl rfl) rfl rfl Tryz.func136 rfl rfl rfl (d136 hv3) rfl)) (.cons (qok (dlt rfl rfl) rfl (.same rfl .nil) (NeedQ.all .nil) (fun Γx σx => ok_lit (τ := Ty.sApiStep) (dlt rfl rfl) ([v3] : List ApiStep) rfl Tryz.underlying38 ty121 rfl rfl rfl rfl rfl (by decide) (by decide) rfl)) (.cons (qokN (dlt rfl rfl) rfl (.same rfl (.same rfl .nil)) (NeedQ.all (.cons rfl .nil)) (fresh1 rfl rfl rfl) (fun Γx σx hfr => ok_appendL (τ := Ty.sApiStep) (r := 3014) (xs := (([] : List ApiStep) ++ a0.steps)) (ys := ([v3] : List ApiStep)) (dlt rfl rfl) 3020 rfl Tryz.underlying38 ty121 rfl rfl rfl rfl (fun F ρ ac w _ h => src_sf h) (room_1 hv4) (room_2 hv4) (noM_app rfl (fresh2 rfl hfr).1) (noMH_app rfl (fresh2 rfl hfr).2))) (.cons (qok (dlt rfl rfl) rfl (.same rfl (.same rfl .nil)) (NeedQ.all .nil) (fun Γx σx => ok_build (dlt rfl rfl) rfl ty64 rfl pl64 rfl rfl rfl)) (.cons (qokN (nodst rfl) rfl (.same rfl (.same rfl .nil)) (NeedQ.all (.cons rfl .nil)) (fresh0 rfl) (fun Γx σx hfr => ok_storeV rfl rfl ty64 rfl rfl rfl rfl (by decide) rfl rfl)) (.nil _ _))))))))))))))))))) (.nil ?_)
  obtain rfl := Option.some.inj h
  refine ak_freeze 3020 rfl ?_
  refine ak_conv (Γ' := [(4, .ref 4 0)]) (σ' := [(4, .cells 64 [.int .i64 (((⟨v1, ((([] : List ApiStep) ++ a0.steps) ++ ([v3] : List ApiStep))⟩ : Ref16Node).value).kind), .int .i64 (((⟨v1, ((([] : List ApiStep) ++ a0.steps) ++ ([v3] : List ApiStep))⟩ : Ref16Node).value).frm), .int .i64 (((⟨v1, ((([] : List ApiStep) ++ a0.steps) ++ ([v3] : List ApiStep))⟩ : Ref16Node).value).to), .str (((⟨v1, ((([] : List ApiStep) ++ a0.steps) ++ ([v3] : List ApiStep))⟩ : Ref16Node).value).text), .sl Ty.sApiValue (((⟨v1, ((([] : List ApiStep) ++ a0.steps) ++ ([v3] : List ApiStep))⟩ : Ref16Node).value).items), .sl Ty.str (((⟨v1, ((([] : List ApiStep) ++ a0.steps) ++ ([v3] : List ApiStep))⟩ : Ref16Node).value).names), .sl Ty.sApiStep ((⟨v1, ((([] : List ApiStep) ++ a0.steps) ++ ([v3] : List ApiStep))⟩ : Ref16Node).steps)])]) (.cons rfl (.refl _) (.nil _)) (.cons rfl (.refl _) (.nil _)) ?_
  exact ak_ret (fn := Tryz.f81) Tryz.func81 rfl ⟨⟨_, _, _, _, _, _, rfl, rfl, ty64⟩, trivial⟩ rfl)
theorem d81 {a0 : Ref16Node} {a1 : Int} {r : Ref16Node} (h : f81 (.e81 a0 a1) = some r) : Does Tryz.prog GG 81 [.agg [.int .i64 a0.value.kind, .int .i64 a0.value.frm, .int .i64 a0.value.to, .str a0.value.text, .sl Ty.sApiValue a0.value.items, .sl Ty.str a0.value.names, .sl Ty.sApiStep a0.steps], .int .i64 a1] [] (fun z _ => z = .agg [.int .i64 r.value.kind, .int .i64 r.value.frm, .int .i64 r.value.to, .str r.value.text, .sl Ty.sApiValue r.value.items, .sl Ty.str r.value.names, .sl Ty.sApiStep r.steps]) := fn_of (fn := Tryz.f81) Tryz.func81 rfl Tryz.ntmps81 rfl (w81 _ _ h)
end Go.Proofs.YtonlbdholdaifaaGreatDoor
end
section
set_option linter.unusedVariables false
set_option linter.unusedSimpArgs false
set_option maxRecDepth 10000
namespace Go.Proofs.YtonlbdholdaifaaGreatDoor
open Go Go.Rf Go.Proofs
/-- riffle/riffleref16.All -/
noncomputable abbrev b29 : Code := codeOf Tryz.f29
inductive L29 where
 | e29 (a0 : Ref16Node) (a1 : List Int)
 | l29_0 (a0 : List Int) (a1 : Int) (a2 : Int) (a3 : List (List Int)) (a4 : List Ref16Node) (a5 : Ref16Node)
noncomputable def f29 : L29 → Option ((List Ref16Node) × (List (List Int)))
 | .e29 a0 a1 =>
  f29 (.l29_0 a1 (a0.value.items.length : Int) (0 : Int) ([a1] : List (List Int)) ([a0] : List Ref16Node) a0)
 | .l29_0 a0 a1 a2 a3 a4 a5 =>
  if (decide (a2 < a1)) = true then
   f81 (.e81 a5 a2) >>= fun v1 =>
   room ([] : List Int).length a0.length 8 >>= fun v2 =>
   room (([] : List Int) ++ a0).length ([a2] : List Int).length 8 >>= fun v3 =>
   f29 (.e29 v1 ((([] : List Int) ++ a0) ++ ([a2] : List Int))) >>= fun v4 =>
   room a4.length v4.1.length 112 >>= fun v5 =>
   room a3.length v4.2.length 24 >>= fun v6 =>
   f29 (.l29_0 a0 a1 (IntKind.wrap .i64 (a2 + (1 : Int))) (a3 ++ v4.2) (a4 ++ v4.1) a5)
  else
   some (a4, a3)
 partial_fixpoint
def M29 : L29 → ((List Ref16Node) × (List (List Int))) → Prop
 | .e29 a0 a1, r => ∀ (w : World) (F : Nat → Prop) (ρ : Rho), AK Tryz.prog (ctx GG 44 w F ρ []) 29 [.code b29] (argE 0 [.agg [.int .i64 a0.value.kind, .int .i64 a0.value.frm, .int .i64 a0.value.to, .str a0.value.text, .sl Ty.sApiValue a0.value.items, .sl Ty.str a0.value.names, .sl Ty.sApiStep a0.steps], .sl Ty.i64 a1]) [] (fun z _ => z = .tup [.sl Ty.sRef16Node r.1, .sl Ty.li64 r.2])
 | .l29_0 a0 a1 a2 a3 a4 a5, r => ∀ (w : World) (F : Nat → Prop) (ρ : Rho), AK Tryz.prog (ctx GG 44 w F ρ []) 29 [.code (c1 (c1 (c2 (c1 (c2 (c2 (c2 b29))))))), .inLoop (c1 (c1 (c2 (c1 (c2 (c2 (c2 b29))))))), .inBlock 0, .code (c2 (c2 (c2 (c2 b29))))] [(1, .sl Ty.i64 a0), (2, .ref 2 0), (6, .mf 7 2012), (7, .mf 1 2014), (18, .int .i64 a1), (19, .int .i64 a2)] [(2014, .arr 50 Ty.li64 a3), (2012, .arr 64 Ty.sRef16Node a4), (2, .cells 64 [.int .i64 a5.value.kind, .int .i64 a5.value.frm, .int .i64 a5.value.to, .str a5.value.text, .sl Ty.sApiValue a5.value.items, .sl Ty.str a5.value.names, .sl Ty.sApiStep a5.steps])] (fun z _ => z = .tup [.sl Ty.sRef16Node r.1, .sl Ty.li64 r.2])
theorem w29 : ∀ (l : L29) (r : (List Ref16Node) × (List (List Int))), f29 l = some r → M29 l r := f29.partial_correctness M29 (by
 intro f ih l r h
 cases l with
 | e29 a0 a1 =>
  intro w F ρ
  dsimp only at h
  refine ak_seq ?_
  refine ak_regionS (.cons rfl (ok_box (d := 2) (dlt rfl rfl) rfl rfl rfl rfl rfl) (.cons rfl (ok_assign (dlt rfl rfl) rfl rfl) (.cons rfl (ok_assign (dlt rfl rfl) rfl rfl) (.nil ?_))))
  refine ak_seq ?_
  refine ak_regionS (.cons rfl (ok_loadVT (dlt rfl rfl) rfl ty64 rfl rfl (by decide) rfl) (.cons rfl (ok_litM (d := 2012) (τ := Ty.sRef16Node) (dlt rfl rfl) ([a0] : List Ref16Node) rfl Tryz.underlying35 ty64 rfl rfl rfl rfl rfl (by decide) (by decide) rfl (.cons (.refl _) (.cons (.refl _) (.cons (.refl _) (.cons (.refl _) (.cons (.refl _) (.cons (.refl _) (.cons (.refl _) (.nil)))))))) rfl rfl) (.cons rfl (ok_assign (dlt rfl rfl) rfl rfl) (.nil ?_))))
  refine ak_seq ?_
  refine ak_regionS (.cons rfl (ok_move (dlt rfl rfl) rfl rfl) (.cons rfl (ok_litM (d := 2014) (τ := Ty.li64) (dlt rfl rfl) ([a1] : List (List Int)) rfl Tryz.underlying60 ty50 rfl rfl rfl rfl rfl (by decide) (by decide) rfl (.cons (.refl _) (.nil)) rfl rfl) (.cons rfl (ok_assign (dlt rfl rfl) rfl rfl) (.nil ?_))))
  refine ak_seq ?_
  refine ak_seq ?_
  refine ak_regionS (.cons rfl (ok_fieldV (dlt rfl rfl) rfl fo64_0 ty29 (by decide) rfl) (.cons rfl (ok_fieldV (dlt rfl rfl) rfl fo29_4 ty26 (by decide) rfl) (.cons rfl (ok_loadV (dlt rfl rfl) rfl ty26 rfl rfl rfl) (.cons rfl (ok_lenS (τ := Ty.sApiValue) (xs := a0.value.items) (dlt rfl rfl) rfl Tryz.underlying26 rfl) (.cons rfl (ok_move (dlt rfl rfl) rfl rfl) (.nil ?_))))))
  refine ak_block ?_
  refine ak_loop ?_
  exact ak_conv (.cons rfl (.refl _) (.cons rfl (.refl _) (.cons rfl (.refl _) (.cons rfl (.refl _) (.cons rfl (.refl _) (.cons rfl (.refl _) (.nil _))))))) (.cons rfl (.refl _) (.cons rfl (.refl _) (.cons rfl (.refl _) (.nil _)))) (ih _ _ h w F ρ)
 | l29_0 a0 a1 a2 a3 a4 a5 =>
  intro w F ρ
  dsimp only at h
  refine ak_seq ?_
  refine ak_regionS (.cons rfl (ok_lss (dlt rfl rfl) rfl rfl rfl) (.nil ?_))
  refine ak_seq ?_
  refine ak_cond rfl (fun ht => ?_) (fun ht => ?_)
  ·have h := cond_t ht h
   refine ak_skip ?_
   refine ak_seq ?_
   refine ak_block ?_
   refine ak_seq ?_
   refine ak_regionS (.cons rfl (ok_move (dlt rfl rfl) rfl rfl) (.cons rfl (ok_assign (dlt rfl rfl) rfl rfl) (.nil ?_)))
   refine ak_seq ?_
   obtain ⟨v1, hv1, h⟩ := bind_of h
   obtain ⟨v2, hv2, h⟩ := bind_of h
   obtain ⟨v3, hv3, h⟩ := bind_of h
   obtain ⟨v4, hv4, h⟩ := bind_of h
   refine ak_regionS (.cons rfl (ok_loadVT (dlt rfl rfl) rfl ty64 rfl rfl (by decide) rfl) (.cons rfl (ok_move (dlt rfl rfl) rfl rfl) (.cons rfl (ok_call (xs := [.agg [.int .i64 a5.value.kind, .int .i64 a5.value.frm, .int .i64 a5.value.to, .str a5.value.text, .sl Ty.sApiValue a5.value.items, .sl Ty.str a5.value.names, .sl Ty.sApiStep a5.steps], .int .i64 a2]) (caps := []) (dlt rfl rfl) rfl rfl Tryz.func81 rfl rfl rfl (d81 hv1) rfl) (.cons rfl (ok_litM0 (d := 2026) (dlt rfl rfl) Ty.i64 rfl rfl Tryz.underlying50 ty3 rfl rfl) (.cons rfl (ok_move (dlt rfl rfl) rfl rfl) (.cons rfl (ok_appendS (τ := Ty.i64) (xs := ([] : List Int)) (ys := a0) (dlt rfl rfl) rfl Tryz.underlying50 ty3 rfl rfl rfl rfl (room_1 hv2) (room_2 hv2)) (.cons rfl (ok_move (dlt rfl rfl) rfl rfl) (.cons rfl (ok_lit (τ := Ty.i64) (dlt rfl rfl) ([a2] : List Int) rfl Tryz.underlying50 ty3 rfl rfl rfl rfl rfl (by decide) (by decide) rfl) (.cons rfl (ok_appendF (τ := Ty.i64) (xs := (([] : List Int) ++ a0)) (ys := ([a2] : List Int)) (dlt rfl rfl) rfl Tryz.underlying50 ty3 rfl rfl rfl rfl (room_1 hv3) (room_2 hv3)) (.freeze 2026 rfl rfl (.cons rfl (ok_call (xs := [.agg [.int .i64 v1.value.kind, .int .i64 v1.value.frm, .int .i64 v1.value.to, .str v1.value.text, .sl Ty.sApiValue v1.value.items, .sl Ty.str v1.value.names, .sl Ty.sApiStep v1.steps], .sl Ty.i64 ((([] : List Int) ++ a0) ++ ([a2] : List Int))]) (caps := []) (dlt rfl rfl) rfl rfl Tryz.func29 rfl rfl rfl (fn_of (fn := Tryz.f29) Tryz.func29 rfl Tryz.ntmps29 rfl (ih _ _ hv4)) rfl) (.cons rfl (ok_move (dlt rfl rfl) rfl rfl) (.cons rfl (ok_extract (dlt rfl rfl) rfl rfl rfl) (.cons rfl (ok_extract (dlt rfl rfl) rfl rfl rfl) (.cons rfl (ok_assign (dlt rfl rfl) rfl rfl) (.cons rfl (ok_assign (dlt rfl rfl) rfl rfl) (.nil ?_)))))))))))))))))
   refine ak_seq ?_
   obtain ⟨v5, hv5, h⟩ := bind_of h
   refine ak_regionS (.cons rfl (ok_move (dlt rfl rfl) rfl rfl) (.cons rfl (ok_move (dlt rfl rfl) rfl rfl) (.cons rfl (ok_appendS (τ := Ty.sRef16Node) (xs := a4) (ys := v4.1) (dlt rfl rfl) rfl Tryz.underlying35 ty64 rfl rfl rfl rfl (room_1 hv5) (room_2 hv5)) (.cons rfl (ok_assign (dlt rfl rfl) rfl rfl) (.nil ?_)))))
   obtain ⟨v6, hv6, h⟩ := bind_of h
   refine ak_regionS (.cons rfl (ok_move (dlt rfl rfl) rfl rfl) (.cons rfl (ok_move (dlt rfl rfl) rfl rfl) (.cons rfl (ok_appendS (τ := Ty.li64) (xs := a3) (ys := v4.2) (dlt rfl rfl) rfl Tryz.underlying60 ty50 rfl rfl rfl rfl (room_1 hv6) (room_2 hv6)) (.cons rfl (ok_assign (dlt rfl rfl) rfl rfl) (.nil ?_)))))
   refine ak_inBlock ?_
   refine ak_regionS (.cons rfl (ok_add (dlt rfl rfl) rfl rfl rfl) (.cons rfl (ok_move (dlt rfl rfl) rfl rfl) (.nil ?_)))
   refine ak_inLoop ?_
   exact ak_conv (.cons rfl (.refl _) (.cons rfl (.refl _) (.cons rfl (.refl _) (.cons rfl (.refl _) (.cons rfl (.refl _) (.cons rfl (.refl _) (.nil _))))))) (.cons rfl (.refl _) (.cons rfl (.refl _) (.cons rfl (.refl _) (.nil _)))) (ih _ _ h w F ρ)
  ·have h := cond_f ht h
   refine ak_exit rfl ?_
   refine ak_seq ?_
   refine ak_regionS (.cons rfl (ok_move (dlt rfl rfl) rfl rfl) (.cons rfl (ok_move (dlt rfl rfl) rfl rfl) (.cons rfl (ok_assign (dlt rfl rfl) rfl rfl) (.cons rfl (ok_assign (dlt rfl rfl) rfl rfl) (.nil ?_)))))
   obtain rfl := Option.some.inj h
   refine ak_freeze 2012 rfl ?_
   refine ak_freeze 2014 rfl ?_
   refine ak_conv (Γ' := [(4, .sl Ty.sRef16Node a4), (5, .sl Ty.li64 a3)]) (σ' := []) (.cons rfl (.refl _) (.cons rfl (.refl _) (.nil _))) (.nil _) ?_
   exact ak_ret (fn := Tryz.f29) Tryz.func29 rfl trivial rfl)
theorem d29 {a0 : Ref16Node} {a1 : List Int} {r : (List Ref16Node) × (List (List Int))} (h : f29 (.e29 a0 a1) = some r) : Does Tryz.prog GG 29 [.agg [.int .i64 a0.value.kind, .int .i64 a0.value.frm, .int .i64 a0.value.to, .str a0.value.text, .sl Ty.sApiValue a0.value.items, .sl Ty.str a0.value.names, .sl Ty.sApiStep a0.steps], .sl Ty.i64 a1] [] (fun z _ => z = .tup [.sl Ty.sRef16Node r.1, .sl Ty.li64 r.2]) := fn_of (fn := Tryz.f29) Tryz.func29 rfl Tryz.ntmps29 rfl (w29 _ _ h)
/-- (riffle/hang.Fate).told -/
noncomputable abbrev b84 : Code := codeOf Tryz.f84
inductive L84 where
 | e84 (a0 : HangFate)
 | l84_0 (a0 : Bool) (a1 : Int) (a2 : Int) (a3 : Bool) (a4 : Int) (a5 : Int)
 | l84_1 (a0 : Bool) (a1 : Int) (a2 : Int) (a3 : Bool) (a4 : Int) (a5 : Int)
noncomputable def f84 : L84 → Option HangFate
 | .e84 a0 =>
  if (!a0.may) = true then
   some (⟨false, (-1), (-1)⟩ : HangFate)
  else
   if (a0.holds == (9223372036854775807 : Int)) = true then
    f84 (.l84_0 false (0 : Int) (0 : Int) a0.may (-1) a0.fails)
   else
    f84 (.l84_0 false (0 : Int) (0 : Int) a0.may a0.holds a0.fails)
 | .l84_0 a0 a1 a2 a3 a4 a5 =>
  if (a5 == (9223372036854775807 : Int)) = true then
   f84 (.l84_1 a0 a1 a2 a3 a4 (-1))
  else
   f84 (.l84_1 a0 a1 a2 a3 a4 a5)
 | .l84_1 a0 a1 a2 a3 a4 a5 =>
  some (⟨a3, a4, a5⟩ : HangFate)
 partial_fixpoint
def M84 : L84 → HangFate → Prop
 | .e84 a0, r => ∀ (w : World) (F : Nat → Prop) (ρ : Rho), AK Tryz.prog (ctx GG 16 w F ρ []) 84 [.code b84] (argE 0 [.agg [.bool a0.may, .int .i64 a0.holds, .int .i64 a0.fails]]) [] (fun z _ => z = .agg [.bool r.may, .int .i64 r.holds, .int .i64 r.fails])
 | .l84_0 a0 a1 a2 a3 a4 a5, r => ∀ (w : World) (F : Nat → Prop) (ρ : Rho), AK Tryz.prog (ctx GG 16 w F ρ []) 84 [.code (c2 (c2 (c2 b84)))] [(1, .ref 1 0), (2, .ref 2 0)] [(2, .cells 67 [.bool a0, .int .i64 a1, .int .i64 a2]), (1, .cells 67 [.bool a3, .int .i64 a4, .int .i64 a5])] (fun z _ => z = .agg [.bool r.may, .int .i64 r.holds, .int .i64 r.fails])
 | .l84_1 a0 a1 a2 a3 a4 a5, r => ∀ (w : World) (F : Nat → Prop) (ρ : Rho), AK Tryz.prog (ctx GG 16 w F ρ []) 84 [.code (c2 (c2 (c2 (c2 b84))))] [(1, .ref 1 0), (2, .ref 2 0)] [(2, .cells 67 [.bool a0, .int .i64 a1, .int .i64 a2]), (1, .cells 67 [.bool a3, .int .i64 a4, .int .i64 a5])] (fun z _ => z = .agg [.bool r.may, .int .i64 r.holds, .int .i64 r.fails])
theorem w84 : ∀ (l : L84) (r : HangFate), f84 l = some r → M84 l r := f84.partial_correctness M84 (by
 intro f ih l r h
 cases l with
 | e84 a0 =>
  intro w F ρ
  dsimp only at h
  refine ak_seq ?_
  refine ak_regionS (.cons rfl (ok_box (d := 1) (dlt rfl rfl) rfl rfl rfl rfl rfl) (.cons rfl (ok_alloc (d := 2) (dlt rfl rfl) rfl ty67 rfl rfl rfl) (.nil ?_)))
  refine ak_seq ?_
  refine ak_seq ?_
  refine ak_regionS (.cons rfl (ok_fieldV (dlt rfl rfl) rfl fo67_0 ty4 (by decide) rfl) (.cons rfl (ok_loadV (dlt rfl rfl) rfl ty4 rfl rfl rfl) (.cons rfl (ok_not (dlt rfl rfl) rfl rfl) (.nil ?_))))
  refine ak_cond rfl (fun ht => ?_) (fun ht => ?_)
  ·have h := cond_t ht h
   refine ak_seq ?_
   refine ak_regionS (.cons rfl (ok_build (dlt rfl rfl) rfl ty67 rfl pl67 rfl rfl rfl) (.cons rfl (ok_storeV rfl rfl ty67 rfl rfl rfl rfl (by decide) rfl rfl) (.nil ?_)))
   obtain rfl := Option.some.inj h
   refine ak_conv (Γ' := [(2, .ref 2 0)]) (σ' := [(2, .cells 67 [.bool ((⟨false, (-1), (-1)⟩ : HangFate).may), .int .i64 ((⟨false, (-1), (-1)⟩ : HangFate).holds), .int .i64 ((⟨false, (-1), (-1)⟩ : HangFate).fails)])]) (.cons rfl (.refl _) (.nil _)) (.cons rfl (.refl _) (.nil _)) ?_
   exact ak_ret (fn := Tryz.f84) Tryz.func84 rfl ⟨⟨_, _, _, _, _, _, rfl, rfl, ty67⟩, trivial⟩ rfl
  ·have h := cond_f ht h
   refine ak_skip ?_
   refine ak_seq ?_
   refine ak_seq ?_
   refine ak_regionS (.cons rfl (ok_fieldV (dlt rfl rfl) rfl fo67_1 ty3 (by decide) rfl) (.cons rfl (ok_loadV (dlt rfl rfl) rfl ty3 rfl rfl rfl) (.cons rfl (ok_eql (dlt rfl rfl) rfl rfl rfl) (.nil ?_))))
   refine ak_cond rfl (fun ht => ?_) (fun ht => ?_)
   ·have h := cond_t ht h
    refine ak_regionS (.cons rfl (ok_fieldV (dlt rfl rfl) rfl fo67_1 ty3 (by decide) rfl) (.cons rfl (ok_storeV rfl rfl ty3 rfl rfl rfl rfl (by decide) rfl rfl) (.nil ?_)))
    exact ak_conv (.cons rfl (.refl _) (.cons rfl (.refl _) (.nil _))) (.cons rfl (.refl _) (.cons rfl (.refl _) (.nil _))) (ih _ _ h w F ρ)
   ·have h := cond_f ht h
    refine ak_skip ?_
    exact ak_conv (.cons rfl (.refl _) (.cons rfl (.refl _) (.nil _))) (.cons rfl (.refl _) (.cons rfl (.refl _) (.nil _))) (ih _ _ h w F ρ)
 | l84_0 a0 a1 a2 a3 a4 a5 =>
  intro w F ρ
  dsimp only at h
  refine ak_seq ?_
  refine ak_seq ?_
  refine ak_regionS (.cons rfl (ok_fieldV (dlt rfl rfl) rfl fo67_2 ty3 (by decide) rfl) (.cons rfl (ok_loadV (dlt rfl rfl) rfl ty3 rfl rfl rfl) (.cons rfl (ok_eql (dlt rfl rfl) rfl rfl rfl) (.nil ?_))))
  refine ak_cond rfl (fun ht => ?_) (fun ht => ?_)
  ·have h := cond_t ht h
   refine ak_regionS (.cons rfl (ok_fieldV (dlt rfl rfl) rfl fo67_2 ty3 (by decide) rfl) (.cons rfl (ok_storeV rfl rfl ty3 rfl rfl rfl rfl (by decide) rfl rfl) (.nil ?_)))
   exact ak_conv (.cons rfl (.refl _) (.cons rfl (.refl _) (.nil _))) (.cons rfl (.refl _) (.cons rfl (.refl _) (.nil _))) (ih _ _ h w F ρ)
  ·have h := cond_f ht h
   refine ak_skip ?_
   exact ak_conv (.cons rfl (.refl _) (.cons rfl (.refl _) (.nil _))) (.cons rfl (.refl _) (.cons rfl (.refl _) (.nil _))) (ih _ _ h w F ρ)
 | l84_1 a0 a1 a2 a3 a4 a5 =>
  intro w F ρ
  dsimp only at h
  refine ak_seq ?_
  refine ak_regionS (.cons rfl (ok_loadVT (dlt rfl rfl) rfl ty67 rfl rfl (by decide) rfl) (.cons rfl (ok_storeV rfl rfl ty67 rfl rfl rfl rfl (by decide) rfl rfl) (.nil ?_)))
  obtain rfl := Option.some.inj h
  refine ak_conv (Γ' := [(2, .ref 2 0)]) (σ' := [(2, .cells 67 [.bool ((⟨a3, a4, a5⟩ : HangFate).may), .int .i64 ((⟨a3, a4, a5⟩ : HangFate).holds), .int .i64 ((⟨a3, a4, a5⟩ : HangFate).fails)])]) (.cons rfl (.refl _) (.nil _)) (.cons rfl (.refl _) (.nil _)) ?_
  exact ak_ret (fn := Tryz.f84) Tryz.func84 rfl ⟨⟨_, _, _, _, _, _, rfl, rfl, ty67⟩, trivial⟩ rfl)
theorem d84 {a0 : HangFate} {r : HangFate} (h : f84 (.e84 a0) = some r) : Does Tryz.prog GG 84 [.agg [.bool a0.may, .int .i64 a0.holds, .int .i64 a0.fails]] [] (fun z _ => z = .agg [.bool r.may, .int .i64 r.holds, .int .i64 r.fails]) := fn_of (fn := Tryz.f84) Tryz.func84 rfl Tryz.ntmps84 rfl (w84 _ _ h)
/-- riffle/hang.Of -/
noncomputable abbrev b30 : Code := codeOf Tryz.f30
inductive L30 where
 | e30 (a0 : ApiValue) (a1 : List ApiSegment) (a2 : List Int)
 | l30_0 (a0 : List ApiSegment) (a1 : List HangFate) (a2 : List Int) (a3 : Int) (a4 : Int) (a5 : Bool) (a6 : Int) (a7 : Int) (a8 : ApiValue)
noncomputable def f30 : L30 → Option HangFate
 | .e30 a0 a1 a2 =>
  f82 (.e82 a1) >>= fun v1 =>
  f30 (.l30_0 a1 v1 a2 (a2.length : Int) (0 : Int) false (0 : Int) (0 : Int) a0)
 | .l30_0 a0 a1 a2 a3 a4 a5 a6 a7 a8 =>
  if (decide (a4 < a3)) = true then
   idx a2 a4 >>= fun v2 =>
   if ((decide (v2 < (0 : Int))) || (decide ((a8.items.length : Int) ≤ v2))) = true then
    f83 (.e83) >>= fun v3 =>
    f84 (.e84 v3) >>= fun v4 =>
    some v4
   else
    f85 (.e85 a8 v2 a0 a1) >>= fun v5 =>
    idx a8.items v2 >>= fun v6 =>
    f30 (.l30_0 a0 v5 a2 a3 (IntKind.wrap .i64 (a4 + (1 : Int))) a5 a6 a7 v6)
  else
   idx a1 (a0.length : Int) >>= fun v7 =>
   f84 (.e84 v7) >>= fun v8 =>
   some v8
 partial_fixpoint
def M30 : L30 → HangFate → Prop
 | .e30 a0 a1 a2, r => ∀ (w : World) (F : Nat → Prop) (ρ : Rho), AK Tryz.prog (ctx GG 46 w F ρ []) 30 [.code b30] (argE 0 [.agg [.int .i64 a0.kind, .int .i64 a0.frm, .int .i64 a0.to, .str a0.text, .sl Ty.sApiValue a0.items, .sl Ty.str a0.names], .sl Ty.sApiSegment a1, .sl Ty.i64 a2]) [] (fun z _ => z = .agg [.bool r.may, .int .i64 r.holds, .int .i64 r.fails])
 | .l30_0 a0 a1 a2 a3 a4 a5 a6 a7 a8, r => ∀ (w : World) (F : Nat → Prop) (ρ : Rho), AK Tryz.prog (ctx GG 46 w F ρ []) 30 [.code (c1 (c1 (c2 (c1 (c2 (c2 b30)))))), .inLoop (c1 (c1 (c2 (c1 (c2 (c2 b30)))))), .inBlock 0, .code (c2 (c2 (c2 b30)))] [(1, .sl Ty.sApiSegment a0), (3, .ref 3 0), (6, .ref 6 0), (7, .sl Ty.sHangFate a1), (12, .sl Ty.i64 a2), (13, .int .i64 a3), (14, .int .i64 a4)] [(6, .cells 67 [.bool a5, .int .i64 a6, .int .i64 a7]), (3, .cells 29 [.int .i64 a8.kind, .int .i64 a8.frm, .int .i64 a8.to, .str a8.text, .sl Ty.sApiValue a8.items, .sl Ty.str a8.names])] (fun z _ => z = .agg [.bool r.may, .int .i64 r.holds, .int .i64 r.fails])
theorem w30 : ∀ (l : L30) (r : HangFate), f30 l = some r → M30 l r := f30.partial_correctness M30 (by
 intro f ih l r h
 cases l with
 | e30 a0 a1 a2 =>
  intro w F ρ
  dsimp only at h
  refine ak_seq ?_
  refine ak_regionS (.cons rfl (ok_box (d := 3) (dlt rfl rfl) rfl rfl rfl rfl rfl) (.cons rfl (ok_alloc (d := 6) (dlt rfl rfl) rfl ty67 rfl rfl rfl) (.nil ?_)))
  refine ak_seq ?_
  obtain ⟨v1, hv1, h⟩ := bind_of h
  refine ak_regionS (.cons rfl (ok_move (dlt rfl rfl) rfl rfl) (.cons rfl (ok_call (xs := [.sl Ty.sApiSegment a1]) (caps := []) (dlt rfl rfl) rfl rfl Tryz.func82 rfl rfl rfl (d82 hv1) rfl) (.cons rfl (ok_assign (dlt rfl rfl) rfl rfl) (.nil ?_))))
  refine ak_seq ?_
  refine ak_seq ?_
  refine ak_regionS (.cons rfl (ok_move (dlt rfl rfl) rfl rfl) (.cons rfl (ok_lenS (τ := Ty.i64) (xs := a2) (dlt rfl rfl) rfl Tryz.underlying50 rfl) (.cons rfl (ok_move (dlt rfl rfl) rfl rfl) (.nil ?_))))
  refine ak_block ?_
  refine ak_loop ?_
  exact ak_conv (.cons rfl (.refl _) (.cons rfl (.refl _) (.cons rfl (.refl _) (.cons rfl (.refl _) (.cons rfl (.refl _) (.cons rfl (.refl _) (.cons rfl (.refl _) (.nil _)))))))) (.cons rfl (.refl _) (.cons rfl (.refl _) (.nil _))) (ih _ _ h w F ρ)
 | l30_0 a0 a1 a2 a3 a4 a5 a6 a7 a8 =>
  intro w F ρ
  dsimp only at h
  refine ak_seq ?_
  refine ak_regionS (.cons rfl (ok_lss (dlt rfl rfl) rfl rfl rfl) (.nil ?_))
  refine ak_seq ?_
  refine ak_cond rfl (fun ht => ?_) (fun ht => ?_)
  ·have h := cond_t ht h
   refine ak_skip ?_
   refine ak_seq ?_
   refine ak_block ?_
   refine ak_seq ?_
   obtain ⟨v2, hv2, h⟩ := bind_of h
   refine ak_regionS (.cons rfl (ok_indexS (τ := Ty.i64) (x := v2) (dlt rfl rfl) rfl Tryz.underlying50 ty3 rfl rfl rfl (idx_0 hv2) (idx_1 hv2)) (.cons rfl (ok_loadR (dlt rfl rfl) rfl ty3 rfl rfl) (.cons rfl (ok_assign (dlt rfl rfl) rfl rfl) (.nil ?_))))
   refine ak_seq ?_
   refine ak_seq ?_
   refine ak_regionS (.cons rfl (ok_move (dlt rfl rfl) rfl rfl) (.cons rfl (ok_lss (dlt rfl rfl) rfl rfl rfl) (.cons rfl (ok_move (dlt rfl rfl) rfl rfl) (.consG (pre := []) (dlt rfl rfl) rfl rfl rfl rfl .nil (fun he => ok_move (dlt rfl rfl) rfl rfl) (.consG (pre := []) (dlt rfl rfl) rfl rfl rfl rfl .nil (fun he => ok_fieldV (dlt rfl rfl) rfl fo29_4 ty26 (by decide) rfl) (.consG (pre := [(22, .ref 3 4)]) (dlt rfl rfl) rfl rfl rfl rfl (.cons rfl (fun he => he) .nil) (fun he => ok_loadV (dlt rfl rfl) rfl ty26 rfl rfl rfl) (.consG (pre := [(23, .sl Ty.sApiValue a8.items)]) (dlt rfl rfl) rfl rfl rfl rfl (.cons rfl (fun he => he) .nil) (fun he => ok_lenS (τ := Ty.sApiValue) (xs := a8.items) (dlt rfl rfl) rfl Tryz.underlying26 rfl) (.consG (pre := [(21, .int .i64 v2), (24, .int .i64 (a8.items.length : Int))]) (dlt rfl rfl) rfl rfl rfl rfl (.cons rfl (fun he => he) (.cons rfl (fun he => he) .nil)) (fun he => ok_geq (dlt rfl rfl) rfl rfl rfl) (.cons rfl (ok_orW (dlt rfl rfl) rfl rfl rfl (fun h => (bnot_t h))) (.nil ?_))))))))))
   refine ak_cond rfl (fun ht => ?_) (fun ht => ?_)
   ·have h := cond_t ht h
    refine ak_seq ?_
    obtain ⟨v3, hv3, h⟩ := bind_of h
    obtain ⟨v4, hv4, h⟩ := bind_of h
    refine ak_regionS (.cons rfl (ok_call (xs := []) (caps := []) (dlt rfl rfl) rfl rfl Tryz.func83 rfl rfl rfl (d83 hv3) rfl) (.cons rfl (ok_call (xs := [.agg [.bool v3.may, .int .i64 v3.holds, .int .i64 v3.fails]]) (caps := []) (dlt rfl rfl) rfl rfl Tryz.func84 rfl rfl rfl (d84 hv4) rfl) (.cons rfl (ok_storeV rfl rfl ty67 rfl rfl rfl rfl (by decide) rfl rfl) (.nil ?_))))
    obtain rfl := Option.some.inj h
    refine ak_conv (Γ' := [(6, .ref 6 0)]) (σ' := [(6, .cells 67 [.bool v4.may, .int .i64 v4.holds, .int .i64 v4.fails])]) (.cons rfl (.refl _) (.nil _)) (.cons rfl (.refl _) (.nil _)) ?_
    exact ak_ret (fn := Tryz.f30) Tryz.func30 rfl ⟨⟨_, _, _, _, _, _, rfl, rfl, ty67⟩, trivial⟩ rfl
   ·have h := cond_f ht h
    refine ak_skip ?_
    refine ak_seq ?_
    obtain ⟨v5, hv5, h⟩ := bind_of h
    refine ak_regionS (.cons rfl (ok_loadVT (dlt rfl rfl) rfl ty29 rfl rfl (by decide) rfl) (.cons rfl (ok_move (dlt rfl rfl) rfl rfl) (.cons rfl (ok_move (dlt rfl rfl) rfl rfl) (.cons rfl (ok_move (dlt rfl rfl) rfl rfl) (.cons rfl (ok_call (xs := [.agg [.int .i64 a8.kind, .int .i64 a8.frm, .int .i64 a8.to, .str a8.text, .sl Ty.sApiValue a8.items, .sl Ty.str a8.names], .int .i64 v2, .sl Ty.sApiSegment a0, .sl Ty.sHangFate a1]) (caps := []) (dlt rfl rfl) rfl rfl Tryz.func85 rfl rfl rfl (d85 hv5) rfl) (.cons rfl (ok_assign (dlt rfl rfl) rfl rfl) (.nil ?_)))))))
    obtain ⟨v6, hv6, h⟩ := bind_of h
    refine ak_regionS (.cons rfl (ok_fieldV (dlt rfl rfl) rfl fo29_4 ty26 (by decide) rfl) (.cons rfl (ok_loadV (dlt rfl rfl) rfl ty26 rfl rfl rfl) (.cons rfl (ok_move (dlt rfl rfl) rfl rfl) (.cons rfl (ok_indexS (τ := Ty.sApiValue) (x := v6) (dlt rfl rfl) rfl Tryz.underlying26 ty29 rfl rfl rfl (idx_0 hv6) (idx_1 hv6)) (.cons rfl (ok_loadRT (dlt rfl rfl) rfl ty29 rfl (by decide) rfl) (.cons rfl (ok_storeV rfl rfl ty29 rfl rfl rfl rfl (by decide) rfl rfl) (.nil ?_)))))))
    refine ak_inBlock ?_
    refine ak_regionS (.cons rfl (ok_add (dlt rfl rfl) rfl rfl rfl) (.cons rfl (ok_move (dlt rfl rfl) rfl rfl) (.nil ?_)))
    refine ak_inLoop ?_
    exact ak_conv (.cons rfl (.refl _) (.cons rfl (.refl _) (.cons rfl (.refl _) (.cons rfl (.refl _) (.cons rfl (.refl _) (.cons rfl (.refl _) (.cons rfl (.refl _) (.nil _)))))))) (.cons rfl (.refl _) (.cons rfl (.refl _) (.nil _))) (ih _ _ h w F ρ)
  ·have h := cond_f ht h
   refine ak_exit rfl ?_
   refine ak_seq ?_
   obtain ⟨v7, hv7, h⟩ := bind_of h
   obtain ⟨v8, hv8, h⟩ := bind_of h
   refine ak_regionS (.cons rfl (ok_move (dlt rfl rfl) rfl rfl) (.cons rfl (ok_move (dlt rfl rfl) rfl rfl) (.cons rfl (ok_lenS (τ := Ty.sApiSegment) (xs := a0) (dlt rfl rfl) rfl Tryz.underlying24 rfl) (.cons rfl (ok_indexS (τ := Ty.sHangFate) (x := v7) (dlt rfl rfl) rfl Tryz.underlying142 ty67 rfl rfl rfl (idx_0 hv7) (idx_1 hv7)) (.cons rfl (ok_loadRT (dlt rfl rfl) rfl ty67 rfl (by decide) rfl) (.cons rfl (ok_call (xs := [.agg [.bool v7.may, .int .i64 v7.holds, .int .i64 v7.fails]]) (caps := []) (dlt rfl rfl) rfl rfl Tryz.func84 rfl rfl rfl (d84 hv8) rfl) (.cons rfl (ok_storeV rfl rfl ty67 rfl rfl rfl rfl (by decide) rfl rfl) (.nil ?_))))))))
   obtain rfl := Option.some.inj h
   refine ak_conv (Γ' := [(6, .ref 6 0)]) (σ' := [(6, .cells 67 [.bool v8.may, .int .i64 v8.holds, .int .i64 v8.fails])]) (.cons rfl (.refl _) (.nil _)) (.cons rfl (.refl _) (.nil _)) ?_
   exact ak_ret (fn := Tryz.f30) Tryz.func30 rfl ⟨⟨_, _, _, _, _, _, rfl, rfl, ty67⟩, trivial⟩ rfl)
theorem d30 {a0 : ApiValue} {a1 : List ApiSegment} {a2 : List Int} {r : HangFate} (h : f30 (.e30 a0 a1 a2) = some r) : Does Tryz.prog GG 30 [.agg [.int .i64 a0.kind, .int .i64 a0.frm, .int .i64 a0.to, .str a0.text, .sl Ty.sApiValue a0.items, .sl Ty.str a0.names], .sl Ty.sApiSegment a1, .sl Ty.i64 a2] [] (fun z _ => z = .agg [.bool r.may, .int .i64 r.holds, .int .i64 r.fails]) := fn_of (fn := Tryz.f30) Tryz.func30 rfl Tryz.ntmps30 rfl (w30 _ _ h)
end Go.Proofs.YtonlbdholdaifaaGreatDoor
end
section
set_option linter.unusedVariables false
set_option linter.unusedSimpArgs false
set_option maxRecDepth 10000
namespace Go.Proofs.YtonlbdholdaifaaGreatDoor
open Go Go.Rf Go.Proofs
/-- riffle/riffleref12.Hangs -/
noncomputable abbrev b141 : Code := codeOf Tryz.f141
inductive L141 where
 | e141 (a0 : ApiSelector)
noncomputable def f141 : L141 → Option Bool
 | .e141 a0 =>
  if (a0.kind == (2 : Int)) = true then
   some (decide (a0.index < (0 : Int)))
  else
   if ((a0.kind != (3 : Int)) || (a0.stride == (0 : Int))) = true then
    some false
   else
    some (((decide (a0.stride < (0 : Int))) || (a0.hasStart && (decide (a0.start < (0 : Int))))) || (a0.hasEnd && (decide (a0.stop < (0 : Int)))))
def M141 : L141 → Bool → Prop
 | .e141 a0, r => ∀ (w : World) (F : Nat → Prop) (ρ : Rho), AK Tryz.prog (ctx GG 38 w F ρ []) 141 [.code b141] (argE 0 [.agg [.int .i64 a0.kind, .str a0.name, .int .i64 a0.index, .int .i64 a0.start, .int .i64 a0.stop, .bool a0.hasStart, .bool a0.hasEnd, .int .i64 a0.stride]]) [] (fun z _ => z = .bool r)
theorem w141 : ∀ (l : L141) (r : Bool), f141 l = some r → M141 l r := (by
 intro l r h
 cases l with
 | e141 a0 =>
  intro w F ρ
  dsimp only [f141] at h
  refine ak_seq ?_
  refine ak_regionS (.cons rfl (ok_box (d := 1) (dlt rfl rfl) rfl rfl rfl rfl rfl) (.cons rfl (ok_assign (dlt rfl rfl) rfl rfl) (.nil ?_)))
  refine ak_seq ?_
  refine ak_seq ?_
  refine ak_regionS (.cons rfl (ok_fieldV (dlt rfl rfl) rfl fo49_0 ty3 (by decide) rfl) (.cons rfl (ok_loadV (dlt rfl rfl) rfl ty3 rfl rfl rfl) (.cons rfl (ok_eql (dlt rfl rfl) rfl rfl rfl) (.nil ?_))))
  refine ak_cond rfl (fun ht => ?_) (fun ht => ?_)
  ·have h := cond_t ht h
   refine ak_seq ?_
   refine ak_regionS (.cons rfl (ok_fieldV (dlt rfl rfl) rfl fo49_2 ty3 (by decide) rfl) (.cons rfl (ok_loadV (dlt rfl rfl) rfl ty3 rfl rfl rfl) (.cons rfl (ok_lss (dlt rfl rfl) rfl rfl rfl) (.cons rfl (ok_assign (dlt rfl rfl) rfl rfl) (.nil ?_)))))
   obtain rfl := Option.some.inj h
   refine ak_conv (Γ' := [(2, .bool (decide (a0.index < (0 : Int))))]) (σ' := []) (.cons rfl (.refl _) (.nil _)) (.nil _) ?_
   exact ak_ret (fn := Tryz.f141) Tryz.func141 rfl trivial rfl
  ·have h := cond_f ht h
   refine ak_skip ?_
   refine ak_seq ?_
   refine ak_seq ?_
   refine ak_regionS (.cons rfl (ok_fieldV (dlt rfl rfl) rfl fo49_0 ty3 (by decide) rfl) (.cons rfl (ok_loadV (dlt rfl rfl) rfl ty3 rfl rfl rfl) (.cons rfl (ok_neq (dlt rfl rfl) rfl rfl rfl) (.cons rfl (ok_move (dlt rfl rfl) rfl rfl) (.consG (pre := []) (dlt rfl rfl) rfl rfl rfl rfl .nil (fun he => ok_fieldV (dlt rfl rfl) rfl fo49_7 ty3 (by decide) rfl) (.consG (pre := [(13, .ref 1 7)]) (dlt rfl rfl) rfl rfl rfl rfl (.cons rfl (fun he => he) .nil) (fun he => ok_loadV (dlt rfl rfl) rfl ty3 rfl rfl rfl) (.consG (pre := [(14, .int .i64 a0.stride)]) (dlt rfl rfl) rfl rfl rfl rfl (.cons rfl (fun he => he) .nil) (fun he => ok_eql (dlt rfl rfl) rfl rfl rfl) (.cons rfl (ok_orW (dlt rfl rfl) rfl rfl rfl (fun h => (bnot_t h))) (.nil ?_)))))))))
   refine ak_cond rfl (fun ht => ?_) (fun ht => ?_)
   ·have h := cond_t ht h
    refine ak_seq ?_
    refine ak_regionS (.cons rfl (ok_assign (dlt rfl rfl) rfl rfl) (.nil ?_))
    obtain rfl := Option.some.inj h
    refine ak_conv (Γ' := [(2, .bool false)]) (σ' := []) (.cons rfl (.refl _) (.nil _)) (.nil _) ?_
    exact ak_ret (fn := Tryz.f141) Tryz.func141 rfl trivial rfl
   ·have h := cond_f ht h
    refine ak_skip ?_
    refine ak_seq ?_
    refine ak_regionS (.cons rfl (ok_fieldV (dlt rfl rfl) rfl fo49_7 ty3 (by decide) rfl) (.cons rfl (ok_loadV (dlt rfl rfl) rfl ty3 rfl rfl rfl) (.cons rfl (ok_lss (dlt rfl rfl) rfl rfl rfl) (.cons rfl (ok_move (dlt rfl rfl) rfl rfl) (.consG (pre := []) (dlt rfl rfl) rfl rfl rfl rfl .nil (fun he => ok_fieldV (dlt rfl rfl) rfl fo49_5 ty4 (by decide) rfl) (.consG (pre := [(21, .ref 1 5)]) (dlt rfl rfl) rfl rfl rfl rfl (.cons rfl (fun he => he) .nil) (fun he => ok_loadV (dlt rfl rfl) rfl ty4 rfl rfl rfl) (.consG (pre := [(22, .bool a0.hasStart)]) (dlt rfl rfl) rfl rfl rfl rfl (.cons rfl (fun he => he) .nil) (fun he => ok_move (dlt rfl rfl) rfl rfl) (.consG (pre := []) (dlt rfl rfl) rfl rfl rfl rfl .nil (fun he => ok_fieldV (dlt rfl rfl) rfl fo49_3 ty3 (by decide) rfl) (.consG (pre := [(24, .ref 1 3)]) (dlt rfl rfl) rfl rfl rfl rfl (.cons rfl (fun he => he) .nil) (fun he => ok_loadV (dlt rfl rfl) rfl ty3 rfl rfl rfl) (.consG (pre := [(25, .int .i64 a0.start)]) (dlt rfl rfl) rfl rfl rfl rfl (.cons rfl (fun he => he) .nil) (fun he => ok_lss (dlt rfl rfl) rfl rfl rfl) (.consG (pre := [(23, .bool a0.hasStart)]) (dlt rfl rfl) rfl rfl rfl rfl (.cons rfl (fun he => he) .nil) (fun he => ok_andW (dlt rfl rfl) rfl rfl rfl (fun h => band_i he h)) (.cons rfl (ok_orW (dlt rfl rfl) rfl rfl rfl (fun h => (bnot_t h))) (.cons rfl (ok_move (dlt rfl rfl) rfl rfl) (.consG (pre := []) (dlt rfl rfl) rfl rfl rfl rfl .nil (fun he => ok_fieldV (dlt rfl rfl) rfl fo49_6 ty4 (by decide) rfl) (.consG (pre := [(30, .ref 1 6)]) (dlt rfl rfl) rfl rfl rfl rfl (.cons rfl (fun he => he) .nil) (fun he => ok_loadV (dlt rfl rfl) rfl ty4 rfl rfl rfl) (.consG (pre := [(31, .bool a0.hasEnd)]) (dlt rfl rfl) rfl rfl rfl rfl (.cons rfl (fun he => he) .nil) (fun he => ok_move (dlt rfl rfl) rfl rfl) (.consG (pre := []) (dlt rfl rfl) rfl rfl rfl rfl .nil (fun he => ok_fieldV (dlt rfl rfl) rfl fo49_4 ty3 (by decide) rfl) (.consG (pre := [(33, .ref 1 4)]) (dlt rfl rfl) rfl rfl rfl rfl (.cons rfl (fun he => he) .nil) (fun he => ok_loadV (dlt rfl rfl) rfl ty3 rfl rfl rfl) (.consG (pre := [(34, .int .i64 a0.stop)]) (dlt rfl rfl) rfl rfl rfl rfl (.cons rfl (fun he => he) .nil) (fun he => ok_lss (dlt rfl rfl) rfl rfl rfl) (.consG (pre := [(32, .bool a0.hasEnd)]) (dlt rfl rfl) rfl rfl rfl rfl (.cons rfl (fun he => he) .nil) (fun he => ok_andW (dlt rfl rfl) rfl rfl rfl (fun h => band_i he h)) (.cons rfl (ok_orW (dlt rfl rfl) rfl rfl rfl (fun h => (bnot_t h))) (.cons rfl (ok_assign (dlt rfl rfl) rfl rfl) (.nil ?_)))))))))))))))))))))))
    obtain rfl := Option.some.inj h
    refine ak_conv (Γ' := [(2, .bool (((decide (a0.stride < (0 : Int))) || (a0.hasStart && (decide (a0.start < (0 : Int))))) || (a0.hasEnd && (decide (a0.stop < (0 : Int))))))]) (σ' := []) (.cons rfl (.refl _) (.nil _)) (.nil _) ?_
    exact ak_ret (fn := Tryz.f141) Tryz.func141 rfl trivial rfl)
theorem d141 {a0 : ApiSelector} {r : Bool} (h : f141 (.e141 a0) = some r) : Does Tryz.prog GG 141 [.agg [.int .i64 a0.kind, .str a0.name, .int .i64 a0.index, .int .i64 a0.start, .int .i64 a0.stop, .bool a0.hasStart, .bool a0.hasEnd, .int .i64 a0.stride]] [] (fun z _ => z = .bool r) := fn_of (fn := Tryz.f141) Tryz.func141 rfl Tryz.ntmps141 rfl (w141 _ _ h)
/-- riffle/riffleref12.Place -/
noncomputable abbrev b179 : Code := codeOf Tryz.f179
inductive L179 where
 | e179 (a0 : Int) (a1 : Int)
noncomputable def f179 : L179 → Option Int
 | .e179 a0 a1 =>
  if (decide ((0 : Int) ≤ a0)) = true then
   some a0
  else
   some (IntKind.wrap .i64 (a1 + a0))
def M179 : L179 → Int → Prop
 | .e179 a0 a1, r => ∀ (w : World) (F : Nat → Prop) (ρ : Rho), AK Tryz.prog (ctx GG 11 w F ρ []) 179 [.code b179] (argE 0 [.int .i64 a0, .int .i64 a1]) [] (fun z _ => z = .int .i64 r)
theorem w179 : ∀ (l : L179) (r : Int), f179 l = some r → M179 l r := (by
 intro l r h
 cases l with
 | e179 a0 a1 =>
  intro w F ρ
  dsimp only [f179] at h
  refine ak_seq ?_
  refine ak_regionS (.cons rfl (ok_assign (dlt rfl rfl) rfl rfl) (.nil ?_))
  refine ak_seq ?_
  refine ak_seq ?_
  refine ak_regionS (.cons rfl (ok_move (dlt rfl rfl) rfl rfl) (.cons rfl (ok_geq (dlt rfl rfl) rfl rfl rfl) (.nil ?_)))
  refine ak_cond rfl (fun ht => ?_) (fun ht => ?_)
  ·have h := cond_t ht h
   refine ak_seq ?_
   refine ak_regionS (.cons rfl (ok_move (dlt rfl rfl) rfl rfl) (.cons rfl (ok_assign (dlt rfl rfl) rfl rfl) (.nil ?_)))
   obtain rfl := Option.some.inj h
   refine ak_conv (Γ' := [(4, .int .i64 a0)]) (σ' := []) (.cons rfl (.refl _) (.nil _)) (.nil _) ?_
   exact ak_ret (fn := Tryz.f179) Tryz.func179 rfl trivial rfl
  ·have h := cond_f ht h
   refine ak_skip ?_
   refine ak_seq ?_
   refine ak_regionS (.cons rfl (ok_move (dlt rfl rfl) rfl rfl) (.cons rfl (ok_move (dlt rfl rfl) rfl rfl) (.cons rfl (ok_add (dlt rfl rfl) rfl rfl rfl) (.cons rfl (ok_assign (dlt rfl rfl) rfl rfl) (.nil ?_)))))
   obtain rfl := Option.some.inj h
   refine ak_conv (Γ' := [(4, .int .i64 (IntKind.wrap .i64 (a1 + a0)))]) (σ' := []) (.cons rfl (.refl _) (.nil _)) (.nil _) ?_
   exact ak_ret (fn := Tryz.f179) Tryz.func179 rfl trivial rfl)
theorem d179 {a0 : Int} {a1 : Int} {r : Int} (h : f179 (.e179 a0 a1) = some r) : Does Tryz.prog GG 179 [.int .i64 a0, .int .i64 a1] [] (fun z _ => z = .int .i64 r) := fn_of (fn := Tryz.f179) Tryz.func179 rfl Tryz.ntmps179 rfl (w179 _ _ h)
/-- riffle/riffleref12.clip -/
noncomputable abbrev b210 : Code := codeOf Tryz.f210
inductive L210 where
 | e210 (a0 : Int) (a1 : Int) (a2 : Int)
 | l210_0 (a0 : Int) (a1 : Int)
 | l210_1 (a0 : Int)
noncomputable def f210 : L210 → Option Int
 | .e210 a0 a1 a2 =>
  if (decide (a2 < a0)) = true then
   f210 (.l210_0 a2 a1)
  else
   f210 (.l210_0 a0 a1)
 | .l210_0 a0 a1 =>
  if (decide (a0 < a1)) = true then
   f210 (.l210_1 a1)
  else
   f210 (.l210_1 a0)
 | .l210_1 a0 =>
  some a0
 partial_fixpoint
def M210 : L210 → Int → Prop
 | .e210 a0 a1 a2, r => ∀ (w : World) (F : Nat → Prop) (ρ : Rho), AK Tryz.prog (ctx GG 16 w F ρ []) 210 [.code b210] (argE 0 [.int .i64 a0, .int .i64 a1, .int .i64 a2]) [] (fun z _ => z = .int .i64 r)
 | .l210_0 a0 a1, r => ∀ (w : World) (F : Nat → Prop) (ρ : Rho), AK Tryz.prog (ctx GG 16 w F ρ []) 210 [.code (c2 (c2 b210))] [(0, .int .i64 a0), (1, .int .i64 a1)] [] (fun z _ => z = .int .i64 r)
 | .l210_1 a0, r => ∀ (w : World) (F : Nat → Prop) (ρ : Rho), AK Tryz.prog (ctx GG 16 w F ρ []) 210 [.code (c2 (c2 (c2 b210)))] [(0, .int .i64 a0)] [] (fun z _ => z = .int .i64 r)
theorem w210 : ∀ (l : L210) (r : Int), f210 l = some r → M210 l r := f210.partial_correctness M210 (by
 intro f ih l r h
 cases l with
 | e210 a0 a1 a2 =>
  intro w F ρ
  dsimp only at h
  refine ak_seq ?_
  refine ak_regionS (.cons rfl (ok_assign (dlt rfl rfl) rfl rfl) (.nil ?_))
  refine ak_seq ?_
  refine ak_seq ?_
  refine ak_regionS (.cons rfl (ok_move (dlt rfl rfl) rfl rfl) (.cons rfl (ok_move (dlt rfl rfl) rfl rfl) (.cons rfl (ok_gtr (dlt rfl rfl) rfl rfl rfl) (.nil ?_))))
  refine ak_cond rfl (fun ht => ?_) (fun ht => ?_)
  ·have h := cond_t ht h
   refine ak_regionS (.cons rfl (ok_move (dlt rfl rfl) rfl rfl) (.cons rfl (ok_assign (dlt rfl rfl) rfl rfl) (.nil ?_)))
   exact ak_conv (.cons rfl (.refl _) (.cons rfl (.refl _) (.nil _))) (.nil _) (ih _ _ h w F ρ)
  ·have h := cond_f ht h
   refine ak_skip ?_
   exact ak_conv (.cons rfl (.refl _) (.cons rfl (.refl _) (.nil _))) (.nil _) (ih _ _ h w F ρ)
 | l210_0 a0 a1 =>
  intro w F ρ
  dsimp only at h
  refine ak_seq ?_
  refine ak_seq ?_
  refine ak_regionS (.cons rfl (ok_move (dlt rfl rfl) rfl rfl) (.cons rfl (ok_move (dlt rfl rfl) rfl rfl) (.cons rfl (ok_lss (dlt rfl rfl) rfl rfl rfl) (.nil ?_))))
  refine ak_cond rfl (fun ht => ?_) (fun ht => ?_)
  ·have h := cond_t ht h
   refine ak_regionS (.cons rfl (ok_move (dlt rfl rfl) rfl rfl) (.cons rfl (ok_assign (dlt rfl rfl) rfl rfl) (.nil ?_)))
   exact ak_conv (.cons rfl (.refl _) (.nil _)) (.nil _) (ih _ _ h w F ρ)
  ·have h := cond_f ht h
   refine ak_skip ?_
   exact ak_conv (.cons rfl (.refl _) (.nil _)) (.nil _) (ih _ _ h w F ρ)
 | l210_1 a0 =>
  intro w F ρ
  dsimp only at h
  refine ak_seq ?_
  refine ak_regionS (.cons rfl (ok_move (dlt rfl rfl) rfl rfl) (.cons rfl (ok_assign (dlt rfl rfl) rfl rfl) (.nil ?_)))
  obtain rfl := Option.some.inj h
  refine ak_conv (Γ' := [(6, .int .i64 a0)]) (σ' := []) (.cons rfl (.refl _) (.nil _)) (.nil _) ?_
  exact ak_ret (fn := Tryz.f210) Tryz.func210 rfl trivial rfl)
theorem d210 {a0 : Int} {a1 : Int} {a2 : Int} {r : Int} (h : f210 (.e210 a0 a1 a2) = some r) : Does Tryz.prog GG 210 [.int .i64 a0, .int .i64 a1, .int .i64 a2] [] (fun z _ => z = .int .i64 r) := fn_of (fn := Tryz.f210) Tryz.func210 rfl Tryz.ntmps210 rfl (w210 _ _ h)
/-- riffle/riffleref12.Bounds -/
noncomputable abbrev b180 : Code := codeOf Tryz.f180
inductive L180 where
 | e180 (a0 : ApiSelector) (a1 : Int)
 | l180_0 (a0 : Int) (a1 : Int) (a2 : Int) (a3 : ApiSelector)
 | l180_1 (a0 : Int) (a1 : Int) (a2 : Int) (a3 : ApiSelector)
 | l180_2 (a0 : Int) (a1 : Int) (a2 : Int)
 | l180_3 (a0 : Int) (a1 : Int) (a2 : Int)
noncomputable def f180 : L180 → Option (Int × Int)
 | .e180 a0 a1 =>
  if (a0.stride == (0 : Int)) = true then
   some (0, 0)
  else
   f179 (.e179 a0.start a1) >>= fun v1 =>
   f179 (.e179 a0.stop a1) >>= fun v2 =>
   if (decide ((0 : Int) < a0.stride)) = true then
    if (!a0.hasStart) = true then
     f180 (.l180_0 a1 (0 : Int) v2 a0)
    else
     f180 (.l180_0 a1 v1 v2 a0)
   else
    if (!a0.hasStart) = true then
     f180 (.l180_1 a1 (IntKind.wrap .i64 (a1 - (1 : Int))) v2 a0)
    else
     f180 (.l180_1 a1 v1 v2 a0)
 | .l180_0 a0 a1 a2 a3 =>
  if (!a3.hasEnd) = true then
   f180 (.l180_2 a0 a1 a0)
  else
   f180 (.l180_2 a0 a1 a2)
 | .l180_1 a0 a1 a2 a3 =>
  if (!a3.hasEnd) = true then
   f180 (.l180_3 a0 a1 (-1))
  else
   f180 (.l180_3 a0 a1 a2)
 | .l180_2 a0 a1 a2 =>
  f210 (.e210 a1 (0 : Int) a0) >>= fun v3 =>
  f210 (.e210 a2 (0 : Int) a0) >>= fun v4 =>
  some (v3, v4)
 | .l180_3 a0 a1 a2 =>
  f210 (.e210 a2 (-1) (IntKind.wrap .i64 (a0 - (1 : Int)))) >>= fun v5 =>
  f210 (.e210 a1 (-1) (IntKind.wrap .i64 (a0 - (1 : Int)))) >>= fun v6 =>
  some (v5, v6)
 partial_fixpoint
def M180 : L180 → (Int × Int) → Prop
 | .e180 a0 a1, r => ∀ (w : World) (F : Nat → Prop) (ρ : Rho), AK Tryz.prog (ctx GG 51 w F ρ []) 180 [.code b180] (argE 0 [.agg [.int .i64 a0.kind, .str a0.name, .int .i64 a0.index, .int .i64 a0.start, .int .i64 a0.stop, .bool a0.hasStart, .bool a0.hasEnd, .int .i64 a0.stride], .int .i64 a1]) [] (fun z _ => z = .tup [.int .i64 r.1, .int .i64 r.2])
 | .l180_0 a0 a1 a2 a3, r => ∀ (w : World) (F : Nat → Prop) (ρ : Rho), AK Tryz.prog (ctx GG 51 w F ρ []) 180 [.code (c2 (c1 (c2 (c1 (c2 (c2 (c2 (c2 b180)))))))), .code (c2 (c2 (c2 (c2 (c2 b180)))))] [(1, .int .i64 a0), (2, .ref 2 0), (6, .int .i64 a1), (7, .int .i64 a2)] [(2, .cells 49 [.int .i64 a3.kind, .str a3.name, .int .i64 a3.index, .int .i64 a3.start, .int .i64 a3.stop, .bool a3.hasStart, .bool a3.hasEnd, .int .i64 a3.stride])] (fun z _ => z = .tup [.int .i64 r.1, .int .i64 r.2])
 | .l180_1 a0 a1 a2 a3, r => ∀ (w : World) (F : Nat → Prop) (ρ : Rho), AK Tryz.prog (ctx GG 51 w F ρ []) 180 [.code (c2 (c2 (c2 (c2 (c2 (c2 b180))))))] [(1, .int .i64 a0), (2, .ref 2 0), (6, .int .i64 a1), (7, .int .i64 a2)] [(2, .cells 49 [.int .i64 a3.kind, .str a3.name, .int .i64 a3.index, .int .i64 a3.start, .int .i64 a3.stop, .bool a3.hasStart, .bool a3.hasEnd, .int .i64 a3.stride])] (fun z _ => z = .tup [.int .i64 r.1, .int .i64 r.2])
 | .l180_2 a0 a1 a2, r => ∀ (w : World) (F : Nat → Prop) (ρ : Rho), AK Tryz.prog (ctx GG 51 w F ρ []) 180 [.code (c2 (c2 (c1 (c2 (c1 (c2 (c2 (c2 (c2 b180))))))))), .code (c2 (c2 (c2 (c2 (c2 b180)))))] [(1, .int .i64 a0), (6, .int .i64 a1), (7, .int .i64 a2)] [] (fun z _ => z = .tup [.int .i64 r.1, .int .i64 r.2])
 | .l180_3 a0 a1 a2, r => ∀ (w : World) (F : Nat → Prop) (ρ : Rho), AK Tryz.prog (ctx GG 51 w F ρ []) 180 [.code (c2 (c2 (c2 (c2 (c2 (c2 (c2 b180)))))))] [(1, .int .i64 a0), (6, .int .i64 a1), (7, .int .i64 a2)] [] (fun z _ => z = .tup [.int .i64 r.1, .int .i64 r.2])
theorem w180 : ∀ (l : L180) (r : Int × Int), f180 l = some r → M180 l r := f180.partial_correctness M180 (by
 intro f ih l r h
 cases l with
 | e180 a0 a1 =>
  intro w F ρ
  dsimp only at h
  refine ak_seq ?_
  refine ak_regionS (.cons rfl (ok_box (d := 2) (dlt rfl rfl) rfl rfl rfl rfl rfl) (.cons rfl (ok_assign (dlt rfl rfl) rfl rfl) (.cons rfl (ok_assign (dlt rfl rfl) rfl rfl) (.nil ?_))))
  refine ak_seq ?_
  refine ak_seq ?_
  refine ak_regionS (.cons rfl (ok_fieldV (dlt rfl rfl) rfl fo49_7 ty3 (by decide) rfl) (.cons rfl (ok_loadV (dlt rfl rfl) rfl ty3 rfl rfl rfl) (.cons rfl (ok_eql (dlt rfl rfl) rfl rfl rfl) (.nil ?_))))
  refine ak_cond rfl (fun ht => ?_) (fun ht => ?_)
  ·have h := cond_t ht h
   refine ak_seq ?_
   refine ak_regionS (.cons rfl (ok_assign (dlt rfl rfl) rfl rfl) (.cons rfl (ok_assign (dlt rfl rfl) rfl rfl) (.nil ?_)))
   obtain rfl := Option.some.inj h
   refine ak_conv (Γ' := [(4, .int .i64 (0 : Int)), (5, .int .i64 (0 : Int))]) (σ' := []) (.cons rfl (.refl _) (.cons rfl (.refl _) (.nil _))) (.nil _) ?_
   exact ak_ret (fn := Tryz.f180) Tryz.func180 rfl trivial rfl
  ·have h := cond_f ht h
   refine ak_skip ?_
   refine ak_seq ?_
   obtain ⟨v1, hv1, h⟩ := bind_of h
   refine ak_regionS (.cons rfl (ok_fieldV (dlt rfl rfl) rfl fo49_3 ty3 (by decide) rfl) (.cons rfl (ok_loadV (dlt rfl rfl) rfl ty3 rfl rfl rfl) (.cons rfl (ok_move (dlt rfl rfl) rfl rfl) (.cons rfl (ok_call (xs := [.int .i64 a0.start, .int .i64 a1]) (caps := []) (dlt rfl rfl) rfl rfl Tryz.func179 rfl rfl rfl (d179 hv1) rfl) (.cons rfl (ok_assign (dlt rfl rfl) rfl rfl) (.nil ?_))))))
   refine ak_seq ?_
   obtain ⟨v2, hv2, h⟩ := bind_of h
   refine ak_regionS (.cons rfl (ok_fieldV (dlt rfl rfl) rfl fo49_4 ty3 (by decide) rfl) (.cons rfl (ok_loadV (dlt rfl rfl) rfl ty3 rfl rfl rfl) (.cons rfl (ok_move (dlt rfl rfl) rfl rfl) (.cons rfl (ok_call (xs := [.int .i64 a0.stop, .int .i64 a1]) (caps := []) (dlt rfl rfl) rfl rfl Tryz.func179 rfl rfl rfl (d179 hv2) rfl) (.cons rfl (ok_assign (dlt rfl rfl) rfl rfl) (.nil ?_))))))
   refine ak_seq ?_
   refine ak_seq ?_
   refine ak_regionS (.cons rfl (ok_fieldV (dlt rfl rfl) rfl fo49_7 ty3 (by decide) rfl) (.cons rfl (ok_loadV (dlt rfl rfl) rfl ty3 rfl rfl rfl) (.cons rfl (ok_gtr (dlt rfl rfl) rfl rfl rfl) (.nil ?_))))
   refine ak_cond rfl (fun ht => ?_) (fun ht => ?_)
   ·have h := cond_t ht h
    refine ak_seq ?_
    refine ak_seq ?_
    refine ak_regionS (.cons rfl (ok_fieldV (dlt rfl rfl) rfl fo49_5 ty4 (by decide) rfl) (.cons rfl (ok_loadV (dlt rfl rfl) rfl ty4 rfl rfl rfl) (.cons rfl (ok_not (dlt rfl rfl) rfl rfl) (.nil ?_))))
    refine ak_cond rfl (fun ht => ?_) (fun ht => ?_)
    ·have h := cond_t ht h
     refine ak_regionS (.cons rfl (ok_assign (dlt rfl rfl) rfl rfl) (.nil ?_))
     exact ak_conv (.cons rfl (.refl _) (.cons rfl (.refl _) (.cons rfl (.refl _) (.cons rfl (.refl _) (.nil _))))) (.cons rfl (.refl _) (.nil _)) (ih _ _ h w F ρ)
    ·have h := cond_f ht h
     refine ak_skip ?_
     exact ak_conv (.cons rfl (.refl _) (.cons rfl (.refl _) (.cons rfl (.refl _) (.cons rfl (.refl _) (.nil _))))) (.cons rfl (.refl _) (.nil _)) (ih _ _ h w F ρ)
   ·have h := cond_f ht h
    refine ak_skip ?_
    refine ak_seq ?_
    refine ak_seq ?_
    refine ak_regionS (.cons rfl (ok_fieldV (dlt rfl rfl) rfl fo49_5 ty4 (by decide) rfl) (.cons rfl (ok_loadV (dlt rfl rfl) rfl ty4 rfl rfl rfl) (.cons rfl (ok_not (dlt rfl rfl) rfl rfl) (.nil ?_))))
    refine ak_cond rfl (fun ht => ?_) (fun ht => ?_)
    ·have h := cond_t ht h
     refine ak_regionS (.cons rfl (ok_move (dlt rfl rfl) rfl rfl) (.cons rfl (ok_sub (dlt rfl rfl) rfl rfl rfl) (.cons rfl (ok_assign (dlt rfl rfl) rfl rfl) (.nil ?_))))
     exact ak_conv (.cons rfl (.refl _) (.cons rfl (.refl _) (.cons rfl (.refl _) (.cons rfl (.refl _) (.nil _))))) (.cons rfl (.refl _) (.nil _)) (ih _ _ h w F ρ)
    ·have h := cond_f ht h
     refine ak_skip ?_
     exact ak_conv (.cons rfl (.refl _) (.cons rfl (.refl _) (.cons rfl (.refl _) (.cons rfl (.refl _) (.nil _))))) (.cons rfl (.refl _) (.nil _)) (ih _ _ h w F ρ)
 | l180_0 a0 a1 a2 a3 =>
  intro w F ρ
  dsimp only at h
  refine ak_seq ?_
  refine ak_seq ?_
  refine ak_regionS (.cons rfl (ok_fieldV (dlt rfl rfl) rfl fo49_6 ty4 (by decide) rfl) (.cons rfl (ok_loadV (dlt rfl rfl) rfl ty4 rfl rfl rfl) (.cons rfl (ok_not (dlt rfl rfl) rfl rfl) (.nil ?_))))
  refine ak_cond rfl (fun ht => ?_) (fun ht => ?_)
  ·have h := cond_t ht h
   refine ak_regionS (.cons rfl (ok_move (dlt rfl rfl) rfl rfl) (.cons rfl (ok_assign (dlt rfl rfl) rfl rfl) (.nil ?_)))
   exact ak_conv (.cons rfl (.refl _) (.cons rfl (.refl _) (.cons rfl (.refl _) (.nil _)))) (.nil _) (ih _ _ h w F ρ)
  ·have h := cond_f ht h
   refine ak_skip ?_
   exact ak_conv (.cons rfl (.refl _) (.cons rfl (.refl _) (.cons rfl (.refl _) (.nil _)))) (.nil _) (ih _ _ h w F ρ)
 | l180_1 a0 a1 a2 a3 =>
  intro w F ρ
  dsimp only at h
  refine ak_seq ?_
  refine ak_seq ?_
  refine ak_regionS (.cons rfl (ok_fieldV (dlt rfl rfl) rfl fo49_6 ty4 (by decide) rfl) (.cons rfl (ok_loadV (dlt rfl rfl) rfl ty4 rfl rfl rfl) (.cons rfl (ok_not (dlt rfl rfl) rfl rfl) (.nil ?_))))
  refine ak_cond rfl (fun ht => ?_) (fun ht => ?_)
  ·have h := cond_t ht h
   refine ak_regionS (.cons rfl (ok_assign (dlt rfl rfl) rfl rfl) (.nil ?_))
   exact ak_conv (.cons rfl (.refl _) (.cons rfl (.refl _) (.cons rfl (.refl _) (.nil _)))) (.nil _) (ih _ _ h w F ρ)
  ·have h := cond_f ht h
   refine ak_skip ?_
   exact ak_conv (.cons rfl (.refl _) (.cons rfl (.refl _) (.cons rfl (.refl _) (.nil _)))) (.nil _) (ih _ _ h w F ρ)
 | l180_2 a0 a1 a2 =>
  intro w F ρ
  dsimp only at h
  refine ak_seq ?_
  obtain ⟨v3, hv3, h⟩ := bind_of h
  obtain ⟨v4, hv4, h⟩ := bind_of h
  refine ak_regionS (.cons rfl (ok_move (dlt rfl rfl) rfl rfl) (.cons rfl (ok_move (dlt rfl rfl) rfl rfl) (.cons rfl (ok_call (xs := [.int .i64 a1, .int .i64 (0 : Int), .int .i64 a0]) (caps := []) (dlt rfl rfl) rfl rfl Tryz.func210 rfl rfl rfl (d210 hv3) rfl) (.cons rfl (ok_move (dlt rfl rfl) rfl rfl) (.cons rfl (ok_move (dlt rfl rfl) rfl rfl) (.cons rfl (ok_call (xs := [.int .i64 a2, .int .i64 (0 : Int), .int .i64 a0]) (caps := []) (dlt rfl rfl) rfl rfl Tryz.func210 rfl rfl rfl (d210 hv4) rfl) (.cons rfl (ok_assign (dlt rfl rfl) rfl rfl) (.cons rfl (ok_assign (dlt rfl rfl) rfl rfl) (.nil ?_)))))))))
  obtain rfl := Option.some.inj h
  refine ak_conv (Γ' := [(4, .int .i64 v3), (5, .int .i64 v4)]) (σ' := []) (.cons rfl (.refl _) (.cons rfl (.refl _) (.nil _))) (.nil _) ?_
  exact ak_ret (fn := Tryz.f180) Tryz.func180 rfl trivial rfl
 | l180_3 a0 a1 a2 =>
  intro w F ρ
  dsimp only at h
  refine ak_seq ?_
  obtain ⟨v5, hv5, h⟩ := bind_of h
  obtain ⟨v6, hv6, h⟩ := bind_of h
  refine ak_regionS (.cons rfl (ok_move (dlt rfl rfl) rfl rfl) (.cons rfl (ok_move (dlt rfl rfl) rfl rfl) (.cons rfl (ok_sub (dlt rfl rfl) rfl rfl rfl) (.cons rfl (ok_call (xs := [.int .i64 a2, .int .i64 (-1), .int .i64 (IntKind.wrap .i64 (a0 - (1 : Int)))]) (caps := []) (dlt rfl rfl) rfl rfl Tryz.func210 rfl rfl rfl (d210 hv5) rfl) (.cons rfl (ok_move (dlt rfl rfl) rfl rfl) (.cons rfl (ok_move (dlt rfl rfl) rfl rfl) (.cons rfl (ok_sub (dlt rfl rfl) rfl rfl rfl) (.cons rfl (ok_call (xs := [.int .i64 a1, .int .i64 (-1), .int .i64 (IntKind.wrap .i64 (a0 - (1 : Int)))]) (caps := []) (dlt rfl rfl) rfl rfl Tryz.func210 rfl rfl rfl (d210 hv6) rfl) (.cons rfl (ok_assign (dlt rfl rfl) rfl rfl) (.cons rfl (ok_assign (dlt rfl rfl) rfl rfl) (.nil ?_)))))))))))
  obtain rfl := Option.some.inj h
  refine ak_conv (Γ' := [(4, .int .i64 v5), (5, .int .i64 v6)]) (σ' := []) (.cons rfl (.refl _) (.cons rfl (.refl _) (.nil _))) (.nil _) ?_
  exact ak_ret (fn := Tryz.f180) Tryz.func180 rfl trivial rfl)
theorem d180 {a0 : ApiSelector} {a1 : Int} {r : Int × Int} (h : f180 (.e180 a0 a1) = some r) : Does Tryz.prog GG 180 [.agg [.int .i64 a0.kind, .str a0.name, .int .i64 a0.index, .int .i64 a0.start, .int .i64 a0.stop, .bool a0.hasStart, .bool a0.hasEnd, .int .i64 a0.stride], .int .i64 a1] [] (fun z _ => z = .tup [.int .i64 r.1, .int .i64 r.2]) := fn_of (fn := Tryz.f180) Tryz.func180 rfl Tryz.ntmps180 rfl (w180 _ _ h)
end Go.Proofs.YtonlbdholdaifaaGreatDoor
end
section
set_option linter.unusedVariables false
set_option linter.unusedSimpArgs false
set_option maxRecDepth 10000
namespace Go.Proofs.YtonlbdholdaifaaGreatDoor
open Go Go.Rf Go.Proofs
/-- riffle/riffleref12.Has -/
noncomputable abbrev b128 : Code := codeOf Tryz.f128
inductive L128 where
 | e128 (a0 : ApiSelector) (a1 : Int) (a2 : Int)
noncomputable def f128 : L128 → Option Bool
 | .e128 a0 a1 a2 =>
  if ((decide (a1 < (0 : Int))) || (decide (a2 ≤ a1))) = true then
   some false
  else
   if (a0.kind == (2 : Int)) = true then
    f179 (.e179 a0.index a2) >>= fun v1 =>
    some (v1 == a1)
   else
    if ((a0.kind != (3 : Int)) || (a0.stride == (0 : Int))) = true then
     some false
    else
     f180 (.e180 a0 a2) >>= fun v2 =>
     if (decide ((0 : Int) < a0.stride)) = true then
      gd ((decide (v2.1 ≤ a1)) && (decide (a1 < v2.2))) (need (¬ a0.stride = 0)) >>= fun v3 =>
      some (((decide (v2.1 ≤ a1)) && (decide (a1 < v2.2))) && (((IntKind.wrap .i64 (a1 - v2.1)).tmod a0.stride) == (0 : Int)))
     else
      gd ((decide (v2.1 < a1)) && (decide (a1 ≤ v2.2))) (need (¬ (IntKind.wrap .i64 ((0 : Int) - a0.stride)) = 0)) >>= fun v4 =>
      some (((decide (v2.1 < a1)) && (decide (a1 ≤ v2.2))) && (((IntKind.wrap .i64 (v2.2 - a1)).tmod (IntKind.wrap .i64 ((0 : Int) - a0.stride))) == (0 : Int)))
def M128 : L128 → Bool → Prop
 | .e128 a0 a1 a2, r => ∀ (w : World) (F : Nat → Prop) (ρ : Rho), AK Tryz.prog (ctx GG 77 w F ρ []) 128 [.code b128] (argE 0 [.agg [.int .i64 a0.kind, .str a0.name, .int .i64 a0.index, .int .i64 a0.start, .int .i64 a0.stop, .bool a0.hasStart, .bool a0.hasEnd, .int .i64 a0.stride], .int .i64 a1, .int .i64 a2]) [] (fun z _ => z = .bool r)
theorem w128 : ∀ (l : L128) (r : Bool), f128 l = some r → M128 l r := (by
 intro l r h
 cases l with
 | e128 a0 a1 a2 =>
  intro w F ρ
  dsimp only [f128] at h
  refine ak_seq ?_
  refine ak_regionS (.cons rfl (ok_box (d := 3) (dlt rfl rfl) rfl rfl rfl rfl rfl) (.cons rfl (ok_assign (dlt rfl rfl) rfl rfl) (.nil ?_)))
  refine ak_seq ?_
  refine ak_seq ?_
  refine ak_regionS (.cons rfl (ok_move (dlt rfl rfl) rfl rfl) (.cons rfl (ok_lss (dlt rfl rfl) rfl rfl rfl) (.cons rfl (ok_move (dlt rfl rfl) rfl rfl) (.consG (pre := []) (dlt rfl rfl) rfl rfl rfl rfl .nil (fun he => ok_move (dlt rfl rfl) rfl rfl) (.consG (pre := []) (dlt rfl rfl) rfl rfl rfl rfl .nil (fun he => ok_move (dlt rfl rfl) rfl rfl) (.consG (pre := [(12, .int .i64 a1), (13, .int .i64 a2)]) (dlt rfl rfl) rfl rfl rfl rfl (.cons rfl (fun he => he) (.cons rfl (fun he => he) .nil)) (fun he => ok_geq (dlt rfl rfl) rfl rfl rfl) (.cons rfl (ok_orW (dlt rfl rfl) rfl rfl rfl (fun h => (bnot_t h))) (.nil ?_))))))))
  refine ak_cond rfl (fun ht => ?_) (fun ht => ?_)
  ·have h := cond_t ht h
   refine ak_seq ?_
   refine ak_regionS (.cons rfl (ok_assign (dlt rfl rfl) rfl rfl) (.nil ?_))
   obtain rfl := Option.some.inj h
   refine ak_conv (Γ' := [(6, .bool false)]) (σ' := []) (.cons rfl (.refl _) (.nil _)) (.nil _) ?_
   exact ak_ret (fn := Tryz.f128) Tryz.func128 rfl trivial rfl
  ·have h := cond_f ht h
   refine ak_skip ?_
   refine ak_seq ?_
   refine ak_seq ?_
   refine ak_regionS (.cons rfl (ok_fieldV (dlt rfl rfl) rfl fo49_0 ty3 (by decide) rfl) (.cons rfl (ok_loadV (dlt rfl rfl) rfl ty3 rfl rfl rfl) (.cons rfl (ok_eql (dlt rfl rfl) rfl rfl rfl) (.nil ?_))))
   refine ak_cond rfl (fun ht => ?_) (fun ht => ?_)
   ·have h := cond_t ht h
    refine ak_seq ?_
    obtain ⟨v1, hv1, h⟩ := bind_of h
    refine ak_regionS (.cons rfl (ok_fieldV (dlt rfl rfl) rfl fo49_2 ty3 (by decide) rfl) (.cons rfl (ok_loadV (dlt rfl rfl) rfl ty3 rfl rfl rfl) (.cons rfl (ok_move (dlt rfl rfl) rfl rfl) (.cons rfl (ok_call (xs := [.int .i64 a0.index, .int .i64 a2]) (caps := []) (dlt rfl rfl) rfl rfl Tryz.func179 rfl rfl rfl (d179 hv1) rfl) (.cons rfl (ok_move (dlt rfl rfl) rfl rfl) (.cons rfl (ok_eql (dlt rfl rfl) rfl rfl rfl) (.cons rfl (ok_assign (dlt rfl rfl) rfl rfl) (.nil ?_))))))))
    obtain rfl := Option.some.inj h
    refine ak_conv (Γ' := [(6, .bool (v1 == a1))]) (σ' := []) (.cons rfl (.refl _) (.nil _)) (.nil _) ?_
    exact ak_ret (fn := Tryz.f128) Tryz.func128 rfl trivial rfl
   ·have h := cond_f ht h
    refine ak_skip ?_
    refine ak_seq ?_
    refine ak_seq ?_
    refine ak_regionS (.cons rfl (ok_fieldV (dlt rfl rfl) rfl fo49_0 ty3 (by decide) rfl) (.cons rfl (ok_loadV (dlt rfl rfl) rfl ty3 rfl rfl rfl) (.cons rfl (ok_neq (dlt rfl rfl) rfl rfl rfl) (.cons rfl (ok_move (dlt rfl rfl) rfl rfl) (.consG (pre := []) (dlt rfl rfl) rfl rfl rfl rfl .nil (fun he => ok_fieldV (dlt rfl rfl) rfl fo49_7 ty3 (by decide) rfl) (.consG (pre := [(29, .ref 3 7)]) (dlt rfl rfl) rfl rfl rfl rfl (.cons rfl (fun he => he) .nil) (fun he => ok_loadV (dlt rfl rfl) rfl ty3 rfl rfl rfl) (.consG (pre := [(30, .int .i64 a0.stride)]) (dlt rfl rfl) rfl rfl rfl rfl (.cons rfl (fun he => he) .nil) (fun he => ok_eql (dlt rfl rfl) rfl rfl rfl) (.cons rfl (ok_orW (dlt rfl rfl) rfl rfl rfl (fun h => (bnot_t h))) (.nil ?_)))))))))
    refine ak_cond rfl (fun ht => ?_) (fun ht => ?_)
    ·have h := cond_t ht h
     refine ak_seq ?_
     refine ak_regionS (.cons rfl (ok_assign (dlt rfl rfl) rfl rfl) (.nil ?_))
     obtain rfl := Option.some.inj h
     refine ak_conv (Γ' := [(6, .bool false)]) (σ' := []) (.cons rfl (.refl _) (.nil _)) (.nil _) ?_
     exact ak_ret (fn := Tryz.f128) Tryz.func128 rfl trivial rfl
    ·have h := cond_f ht h
     refine ak_skip ?_
     refine ak_seq ?_
     obtain ⟨v2, hv2, h⟩ := bind_of h
     refine ak_regionS (.cons rfl (ok_loadVT (dlt rfl rfl) rfl ty49 rfl rfl (by decide) rfl) (.cons rfl (ok_move (dlt rfl rfl) rfl rfl) (.cons rfl (ok_call (xs := [.agg [.int .i64 a0.kind, .str a0.name, .int .i64 a0.index, .int .i64 a0.start, .int .i64 a0.stop, .bool a0.hasStart, .bool a0.hasEnd, .int .i64 a0.stride], .int .i64 a2]) (caps := []) (dlt rfl rfl) rfl rfl Tryz.func180 rfl rfl rfl (d180 hv2) rfl) (.cons rfl (ok_move (dlt rfl rfl) rfl rfl) (.cons rfl (ok_extract (dlt rfl rfl) rfl rfl rfl) (.cons rfl (ok_extract (dlt rfl rfl) rfl rfl rfl) (.cons rfl (ok_assign (dlt rfl rfl) rfl rfl) (.cons rfl (ok_assign (dlt rfl rfl) rfl rfl) (.nil ?_)))))))))
     refine ak_seq ?_
     refine ak_seq ?_
     refine ak_regionS (.cons rfl (ok_fieldV (dlt rfl rfl) rfl fo49_7 ty3 (by decide) rfl) (.cons rfl (ok_loadV (dlt rfl rfl) rfl ty3 rfl rfl rfl) (.cons rfl (ok_gtr (dlt rfl rfl) rfl rfl rfl) (.nil ?_))))
     refine ak_cond rfl (fun ht => ?_) (fun ht => ?_)
     ·have h := cond_t ht h
      refine ak_seq ?_
      obtain ⟨v3, hv3, h⟩ := bind_of h
      refine ak_regionS (.cons rfl (ok_move (dlt rfl rfl) rfl rfl) (.cons rfl (ok_move (dlt rfl rfl) rfl rfl) (.cons rfl (ok_geq (dlt rfl rfl) rfl rfl rfl) (.cons rfl (ok_move (dlt rfl rfl) rfl rfl) (.consG (pre := []) (dlt rfl rfl) rfl rfl rfl rfl .nil (fun he => ok_move (dlt rfl rfl) rfl rfl) (.consG (pre := []) (dlt rfl rfl) rfl rfl rfl rfl .nil (fun he => ok_move (dlt rfl rfl) rfl rfl) (.consG (pre := [(46, .int .i64 a1), (47, .int .i64 v2.2)]) (dlt rfl rfl) rfl rfl rfl rfl (.cons rfl (fun he => he) (.cons rfl (fun he => he) .nil)) (fun he => ok_lss (dlt rfl rfl) rfl rfl rfl) (.cons rfl (ok_andW (dlt rfl rfl) rfl rfl rfl (fun h => h)) (.cons rfl (ok_move (dlt rfl rfl) rfl rfl) (.consG (pre := []) (dlt rfl rfl) rfl rfl rfl rfl .nil (fun he => ok_move (dlt rfl rfl) rfl rfl) (.consG (pre := []) (dlt rfl rfl) rfl rfl rfl rfl .nil (fun he => ok_move (dlt rfl rfl) rfl rfl) (.consG (pre := [(51, .int .i64 a1), (52, .int .i64 v2.1)]) (dlt rfl rfl) rfl rfl rfl rfl (.cons rfl (fun he => he) (.cons rfl (fun he => he) .nil)) (fun he => ok_sub (dlt rfl rfl) rfl rfl rfl) (.consG (pre := []) (dlt rfl rfl) rfl rfl rfl rfl .nil (fun he => ok_fieldV (dlt rfl rfl) rfl fo49_7 ty3 (by decide) rfl) (.consG (pre := [(54, .ref 3 7)]) (dlt rfl rfl) rfl rfl rfl rfl (.cons rfl (fun he => he) .nil) (fun he => ok_loadV (dlt rfl rfl) rfl ty3 rfl rfl rfl) (.consG (pre := [(53, .int .i64 (IntKind.wrap .i64 (a1 - v2.1))), (55, .int .i64 a0.stride)]) (dlt rfl rfl) rfl rfl rfl rfl (.cons rfl (fun he => he) (.cons rfl (fun he => he) .nil)) (fun he => ok_rem (dlt rfl rfl) rfl rfl rfl (need_of (gd_t hv3 he))) (.consG (pre := [(56, .int .i64 ((IntKind.wrap .i64 (a1 - v2.1)).tmod a0.stride))]) (dlt rfl rfl) rfl rfl rfl rfl (.cons rfl (fun he => he) .nil) (fun he => ok_eql (dlt rfl rfl) rfl rfl rfl) (.cons rfl (ok_andW (dlt rfl rfl) rfl rfl rfl (fun h => h)) (.cons rfl (ok_assign (dlt rfl rfl) rfl rfl) (.nil ?_)))))))))))))))))))
      obtain rfl := Option.some.inj h
      refine ak_conv (Γ' := [(6, .bool (((decide (v2.1 ≤ a1)) && (decide (a1 < v2.2))) && (((IntKind.wrap .i64 (a1 - v2.1)).tmod a0.stride) == (0 : Int))))]) (σ' := []) (.cons rfl (.refl _) (.nil _)) (.nil _) ?_
      exact ak_ret (fn := Tryz.f128) Tryz.func128 rfl trivial rfl
     ·have h := cond_f ht h
      refine ak_skip ?_
      refine ak_seq ?_
      obtain ⟨v4, hv4, h⟩ := bind_of h
      refine ak_regionS (.cons rfl (ok_move (dlt rfl rfl) rfl rfl) (.cons rfl (ok_move (dlt rfl rfl) rfl rfl) (.cons rfl (ok_gtr (dlt rfl rfl) rfl rfl rfl) (.cons rfl (ok_move (dlt rfl rfl) rfl rfl) (.consG (pre := []) (dlt rfl rfl) rfl rfl rfl rfl .nil (fun he => ok_move (dlt rfl rfl) rfl rfl) (.consG (pre := []) (dlt rfl rfl) rfl rfl rfl rfl .nil (fun he => ok_move (dlt rfl rfl) rfl rfl) (.consG (pre := [(63, .int .i64 a1), (64, .int .i64 v2.2)]) (dlt rfl rfl) rfl rfl rfl rfl (.cons rfl (fun he => he) (.cons rfl (fun he => he) .nil)) (fun he => ok_leq (dlt rfl rfl) rfl rfl rfl) (.cons rfl (ok_andW (dlt rfl rfl) rfl rfl rfl (fun h => h)) (.cons rfl (ok_move (dlt rfl rfl) rfl rfl) (.consG (pre := []) (dlt rfl rfl) rfl rfl rfl rfl .nil (fun he => ok_move (dlt rfl rfl) rfl rfl) (.consG (pre := []) (dlt rfl rfl) rfl rfl rfl rfl .nil (fun he => ok_move (dlt rfl rfl) rfl rfl) (.consG (pre := [(68, .int .i64 v2.2), (69, .int .i64 a1)]) (dlt rfl rfl) rfl rfl rfl rfl (.cons rfl (fun he => he) (.cons rfl (fun he => he) .nil)) (fun he => ok_sub (dlt rfl rfl) rfl rfl rfl) (.consG (pre := []) (dlt rfl rfl) rfl rfl rfl rfl .nil (fun he => ok_fieldV (dlt rfl rfl) rfl fo49_7 ty3 (by decide) rfl) (.consG (pre := [(71, .ref 3 7)]) (dlt rfl rfl) rfl rfl rfl rfl (.cons rfl (fun he => he) .nil) (fun he => ok_loadV (dlt rfl rfl) rfl ty3 rfl rfl rfl) (.consG (pre := [(72, .int .i64 a0.stride)]) (dlt rfl rfl) rfl rfl rfl rfl (.cons rfl (fun he => he) .nil) (fun he => ok_sub (dlt rfl rfl) rfl rfl rfl) (.consG (pre := [(70, .int .i64 (IntKind.wrap .i64 (v2.2 - a1))), (73, .int .i64 (IntKind.wrap .i64 ((0 : Int) - a0.stride)))]) (dlt rfl rfl) rfl rfl rfl rfl (.cons rfl (fun he => he) (.cons rfl (fun he => he) .nil)) (fun he => ok_rem (dlt rfl rfl) rfl rfl rfl (need_of (gd_t hv4 he))) (.consG (pre := [(74, .int .i64 ((IntKind.wrap .i64 (v2.2 - a1)).tmod (IntKind.wrap .i64 ((0 : Int) - a0.stride))))]) (dlt rfl rfl) rfl rfl rfl rfl (.cons rfl (fun he => he) .nil) (fun he => ok_eql (dlt rfl rfl) rfl rfl rfl) (.cons rfl (ok_andW (dlt rfl rfl) rfl rfl rfl (fun h => h)) (.cons rfl (ok_assign (dlt rfl rfl) rfl rfl) (.nil ?_))))))))))))))))))))
      obtain rfl := Option.some.inj h
      refine ak_conv (Γ' := [(6, .bool (((decide (v2.1 < a1)) && (decide (a1 ≤ v2.2))) && (((IntKind.wrap .i64 (v2.2 - a1)).tmod (IntKind.wrap .i64 ((0 : Int) - a0.stride))) == (0 : Int))))]) (σ' := []) (.cons rfl (.refl _) (.nil _)) (.nil _) ?_
      exact ak_ret (fn := Tryz.f128) Tryz.func128 rfl trivial rfl)
theorem d128 {a0 : ApiSelector} {a1 : Int} {a2 : Int} {r : Bool} (h : f128 (.e128 a0 a1 a2) = some r) : Does Tryz.prog GG 128 [.agg [.int .i64 a0.kind, .str a0.name, .int .i64 a0.index, .int .i64 a0.start, .int .i64 a0.stop, .bool a0.hasStart, .bool a0.hasEnd, .int .i64 a0.stride], .int .i64 a1, .int .i64 a2] [] (fun z _ => z = .bool r) := fn_of (fn := Tryz.f128) Tryz.func128 rfl Tryz.ntmps128 rfl (w128 _ _ h)
/-- riffle/riffleref16.Meets -/
noncomputable abbrev b76 : Code := codeOf Tryz.f76
inductive L76 where
 | e76 (a0 : ApiValue) (a1 : Int) (a2 : ApiSelector)
noncomputable def f76 : L76 → Option Bool
 | .e76 a0 a1 a2 =>
  if (a0.kind == (5 : Int)) = true then
   gd ((!(a2.kind == (1 : Int))) && (a2.kind == (0 : Int))) (idx a0.names a1) >>= fun v1 =>
   some ((a2.kind == (1 : Int)) || ((a2.kind == (0 : Int)) && (v1 == a2.name)))
  else
   gd ((a0.kind == (4 : Int)) && !(a2.kind == (1 : Int))) (f128 (.e128 a2 a1 (a0.items.length : Int))) >>= fun v2 =>
   some ((a0.kind == (4 : Int)) && ((a2.kind == (1 : Int)) || v2))
def M76 : L76 → Bool → Prop
 | .e76 a0 a1 a2, r => ∀ (w : World) (F : Nat → Prop) (ρ : Rho), AK Tryz.prog (ctx GG 44 w F ρ []) 76 [.code b76] (argE 0 [.agg [.int .i64 a0.kind, .int .i64 a0.frm, .int .i64 a0.to, .str a0.text, .sl Ty.sApiValue a0.items, .sl Ty.str a0.names], .int .i64 a1, .agg [.int .i64 a2.kind, .str a2.name, .int .i64 a2.index, .int .i64 a2.start, .int .i64 a2.stop, .bool a2.hasStart, .bool a2.hasEnd, .int .i64 a2.stride]]) [] (fun z _ => z = .bool r)
theorem w76 : ∀ (l : L76) (r : Bool), f76 l = some r → M76 l r := (by
 intro l r h
 cases l with
 | e76 a0 a1 a2 =>
  intro w F ρ
  dsimp only [f76] at h
  refine ak_seq ?_
  refine ak_regionS (.cons rfl (ok_box (d := 3) (dlt rfl rfl) rfl rfl rfl rfl rfl) (.cons rfl (ok_box (d := 5) (dlt rfl rfl) rfl rfl rfl rfl rfl) (.cons rfl (ok_assign (dlt rfl rfl) rfl rfl) (.nil ?_))))
  refine ak_seq ?_
  refine ak_seq ?_
  refine ak_regionS (.cons rfl (ok_fieldV (dlt rfl rfl) rfl fo29_0 ty3 (by decide) rfl) (.cons rfl (ok_loadV (dlt rfl rfl) rfl ty3 rfl rfl rfl) (.cons rfl (ok_eql (dlt rfl rfl) rfl rfl rfl) (.nil ?_))))
  refine ak_cond rfl (fun ht => ?_) (fun ht => ?_)
  ·have h := cond_t ht h
   refine ak_seq ?_
   obtain ⟨v1, hv1, h⟩ := bind_of h
   refine ak_drawL [⟨some 10, [(5, .ref 5 0)], none, true, .ref 5 0, [], []⟩,
  ⟨some 11, [(10, .ref 5 0)], none, true, .int .i64 a2.kind, [(5, .cells 49 [.int .i64 a2.kind, .str a2.name, .int .i64 a2.index, .int .i64 a2.start, .int .i64 a2.stop, .bool a2.hasStart, .bool a2.hasEnd, .int .i64 a2.stride])], []⟩,
  ⟨some 12, [(11, .int .i64 a2.kind)], none, true, .bool (a2.kind == (1 : Int)), [], []⟩,
  ⟨some 13, [(12, .bool (a2.kind == (1 : Int)))], none, true, .bool (a2.kind == (1 : Int)), [], []⟩,
  ⟨some 14, [(5, .ref 5 0)], some 13, (!(a2.kind == (1 : Int))), .ref 5 0, [], []⟩,
  ⟨some 15, [(14, .ref 5 0)], some 13, (!(a2.kind == (1 : Int))), .int .i64 a2.kind, [(5, .cells 49 [.int .i64 a2.kind, .str a2.name, .int .i64 a2.index, .int .i64 a2.start, .int .i64 a2.stop, .bool a2.hasStart, .bool a2.hasEnd, .int .i64 a2.stride])], []⟩,
  ⟨some 16, [(15, .int .i64 a2.kind)], some 13, (!(a2.kind == (1 : Int))), .bool (a2.kind == (0 : Int)), [], []⟩,
  ⟨some 17, [(16, .bool (a2.kind == (0 : Int)))], some 13, (!(a2.kind == (1 : Int))), .bool (a2.kind == (0 : Int)), [], []⟩,
  ⟨some 18, [(3, .ref 3 0)], some 17, ((!(a2.kind == (1 : Int))) && (a2.kind == (0 : Int))), .ref 3 5, [], []⟩,
  ⟨some 19, [(18, .ref 3 5)], some 17, ((!(a2.kind == (1 : Int))) && (a2.kind == (0 : Int))), .sl Ty.str a0.names, [(3, .cells 29 [.int .i64 a0.kind, .int .i64 a0.frm, .int .i64 a0.to, .str a0.text, .sl Ty.sApiValue a0.items, .sl Ty.str a0.names])], []⟩,
  ⟨some 20, [(1, .int .i64 a1)], some 17, ((!(a2.kind == (1 : Int))) && (a2.kind == (0 : Int))), .int .i64 a1, [], []⟩,
  ⟨some 21, [(19, .sl Ty.str a0.names), (20, .int .i64 a1)], some 17, ((!(a2.kind == (1 : Int))) && (a2.kind == (0 : Int))), .rp [.str v1], [], []⟩,
  ⟨some 22, [(21, .rp [.str v1])], some 17, ((!(a2.kind == (1 : Int))) && (a2.kind == (0 : Int))), .str v1, [], []⟩,
  ⟨some 23, [(5, .ref 5 0)], some 17, ((!(a2.kind == (1 : Int))) && (a2.kind == (0 : Int))), .ref 5 1, [], []⟩,
  ⟨some 24, [(23, .ref 5 1)], some 17, ((!(a2.kind == (1 : Int))) && (a2.kind == (0 : Int))), .str a2.name, [(5, .cells 49 [.int .i64 a2.kind, .str a2.name, .int .i64 a2.index, .int .i64 a2.start, .int .i64 a2.stop, .bool a2.hasStart, .bool a2.hasEnd, .int .i64 a2.stride])], []⟩,
  ⟨some 25, [(22, .str v1), (24, .str a2.name)], some 17, ((!(a2.kind == (1 : Int))) && (a2.kind == (0 : Int))), .bool (v1 == a2.name), [], []⟩,
  ⟨some 26, [(17, .bool (a2.kind == (0 : Int))), (25, .when ((!(a2.kind == (1 : Int))) && (a2.kind == (0 : Int))) (.bool (v1 == a2.name)))], some 13, (!(a2.kind == (1 : Int))), .bool ((a2.kind == (0 : Int)) && (v1 == a2.name)), [], []⟩,
  ⟨some 27, [(13, .bool (a2.kind == (1 : Int))), (26, .when (!(a2.kind == (1 : Int))) (.bool ((a2.kind == (0 : Int)) && (v1 == a2.name))))], none, true, .bool ((a2.kind == (1 : Int)) || ((a2.kind == (0 : Int)) && (v1 == a2.name))), [], []⟩,
  ⟨some 6, [(27, .bool ((a2.kind == (1 : Int)) || ((a2.kind == (0 : Int)) && (v1 == a2.name))))], none, true, .bool ((a2.kind == (1 : Int)) || ((a2.kind == (0 : Int)) && (v1 == a2.name))), [], []⟩] [[], [0], [0, 1], [0, 1, 2], [0, 1, 2, 3], [0, 1, 2, 3, 4], [0, 1, 2, 3, 4, 5], [0, 1, 2, 3, 4, 5, 6], [0, 1, 2, 3, 4, 5, 6, 7], [0, 1, 2, 3, 4, 5, 6, 7, 8], [0, 1, 2, 3, 4, 5, 6, 7], [0, 1, 2, 3, 4, 5, 6, 7, 8, 9, 10], [0, 1, 2, 3, 4, 5, 6, 7, 8, 9, 10, 11], [0, 1, 2, 3, 4, 5, 6, 7], [0, 1, 2, 3, 4, 5, 6, 7, 13], [0, 1, 2, 3, 4, 5, 6, 7, 8, 9, 10, 11, 12, 13, 14], [0, 1, 2, 3, 4, 5, 6, 7, 8, 9, 10, 11, 12, 13, 14, 15], [0, 1, 2, 3, 4, 5, 6, 7, 8, 9, 10, 11, 12, 13, 14, 15, 16], [0, 1, 2, 3, 4, 5, 6, 7, 8, 9, 10, 11, 12, 13, 14, 15, 16, 17]] (by kernel_rfl) (by kernel_rfl) (.cons (qok (dlt rfl rfl) rfl (.same rfl .nil) (NeedQ.all .nil) (fun Γx σx => ok_fieldV (dlt rfl rfl) rfl fo49_0 ty3 (by decide) rfl)) (.cons (qok (dlt rfl rfl) rfl (.same rfl .nil) (NeedQ.all (.cons rfl .nil)) (fun Γx σx => ok_loadV (dlt rfl rfl) rfl ty3 rfl rfl rfl)) (.cons (qok (dlt rfl rfl) rfl (.same rfl .nil) (NeedQ.all .nil) (fun Γx σx => ok_eql (dlt rfl rfl) rfl rfl rfl)) (.cons (qok (dlt rfl rfl) rfl (.same rfl .nil) (NeedQ.all .nil) (fun Γx σx => ok_move (dlt rfl rfl) rfl rfl)) (.cons (qokG (dlt rfl rfl) rfl rfl rfl rfl (.same rfl .nil) (NeedQ.all .nil) (fun he Γx σx => ok_fieldV (dlt rfl rfl) rfl fo49_0 ty3 (by decide) rfl)) (.cons (qokG (dlt rfl rfl) rfl rfl rfl rfl (.when rfl (fun he => he) .nil) (NeedQ.all (.cons rfl .nil)) (fun he Γx σx => ok_loadV (dlt rfl rfl) rfl ty3 rfl rfl rfl)) (.cons (qokG (dlt rfl rfl) rfl rfl rfl rfl (.when rfl (fun he => he) .nil) (NeedQ.all .nil) (fun he Γx σx => ok_eql (dlt rfl rfl) rfl rfl rfl)) (.cons (qokG (dlt rfl rfl) rfl rfl rfl rfl (.when rfl (fun he => he) .nil) (NeedQ.all .nil) (fun he Γx σx => ok_move (dlt rfl rfl) rfl rfl)) (.cons (qokG (dlt rfl rfl) rfl rfl rfl rfl (.same rfl .nil) (NeedQ.all .nil) (fun he Γx σx => ok_fieldV (dlt rfl rfl) rfl fo29_5 ty27 (by decide) rfl)) (.cons (qokG (dlt rfl rfl) rfl rfl rfl rfl (.when rfl (fun he => he) .nil) (NeedQ.all (.cons rfl .nil)) (fun he Γx σx => ok_loadV (dlt rfl rfl) rfl ty27 rfl rfl rfl)) (.cons (qokG (dlt rfl rfl) rfl rfl rfl rfl (.same rfl .nil) (NeedQ.all .nil) (fun he Γx σx => ok_move (dlt rfl rfl) rfl rfl)) (.cons (qokG (dlt rfl rfl) rfl rfl rfl rfl (.when rfl (fun he => he) (.when rfl (fun he => he) .nil)) (NeedQ.all .nil) (fun he Γx σx => ok_indexS (τ := Ty.str) (x := v1) (dlt rfl rfl) rfl Tryz.underlying27 ty9 rfl rfl rfl (idx_0 (gd_t hv1 he)) (idx_1 (gd_t hv1 he)))) (.cons (qokG (dlt rfl rfl) rfl rfl rfl rfl (.when rfl (fun he => he) .nil) (NeedQ.all .nil) (fun he Γx σx => ok_loadR (dlt rfl rfl) rfl ty9 rfl rfl)) (.cons (qokG (dlt rfl rfl) rfl rfl rfl rfl (.same rfl .nil) (NeedQ.all .nil) (fun he Γx σx => ok_fieldV (dlt rfl rfl) rfl fo49_1 ty9 (by decide) rfl)) (.cons (qokG (dlt rfl rfl) rfl rfl rfl rfl (.when rfl (fun he => he) .nil) (NeedQ.all (.cons rfl .nil)) (fun he Γx σx => ok_loadV (dlt rfl rfl) rfl ty9 rfl rfl rfl)) (.cons (qokG (dlt rfl rfl) rfl rfl rfl rfl (.when rfl (fun he => he) (.when rfl (fun he => he) .nil)) (NeedQ.all .nil) (fun he Γx σx => ok_eqlS (dlt rfl rfl) rfl rfl rfl)) (.cons (qokG (dlt rfl rfl) rfl rfl rfl rfl (.when rfl (fun he => he) (.same rfl .nil)) (NeedQ.all .nil) (fun he Γx σx => ok_andW (dlt rfl rfl) rfl rfl rfl (fun h => band_i he h))) (.cons (qok (dlt rfl rfl) rfl (.same rfl (.same rfl .nil)) (NeedQ.all .nil) (fun Γx σx => ok_orW (dlt rfl rfl) rfl rfl rfl (fun h => (bnot_t h)))) (.cons (qok (dlt rfl rfl) rfl (.same rfl .nil) (NeedQ.all .nil) (fun Γx σx => ok_assign (dlt rfl rfl) rfl rfl)) (.nil _ _)))))))))))))))))))) (.nil ?_)
   obtain rfl := Option.some.inj h
   refine ak_conv (Γ' := [(6, .bool ((a2.kind == (1 : Int)) || ((a2.kind == (0 : Int)) && (v1 == a2.name))))]) (σ' := []) (.cons rfl (.refl _) (.nil _)) (.nil _) ?_
   exact ak_ret (fn := Tryz.f76) Tryz.func76 rfl trivial rfl
  ·have h := cond_f ht h
   refine ak_skip ?_
   refine ak_seq ?_
   obtain ⟨v2, hv2, h⟩ := bind_of h
   refine ak_regionS (.cons rfl (ok_fieldV (dlt rfl rfl) rfl fo29_0 ty3 (by decide) rfl) (.cons rfl (ok_loadV (dlt rfl rfl) rfl ty3 rfl rfl rfl) (.cons rfl (ok_eql (dlt rfl rfl) rfl rfl rfl) (.cons rfl (ok_move (dlt rfl rfl) rfl rfl) (.consG (pre := []) (dlt rfl rfl) rfl rfl rfl rfl .nil (fun he => ok_fieldV (dlt rfl rfl) rfl fo49_0 ty3 (by decide) rfl) (.consG (pre := [(32, .ref 5 0)]) (dlt rfl rfl) rfl rfl rfl rfl (.cons rfl (fun he => he) .nil) (fun he => ok_loadV (dlt rfl rfl) rfl ty3 rfl rfl rfl) (.consG (pre := [(33, .int .i64 a2.kind)]) (dlt rfl rfl) rfl rfl rfl rfl (.cons rfl (fun he => he) .nil) (fun he => ok_eql (dlt rfl rfl) rfl rfl rfl) (.consG (pre := [(34, .bool (a2.kind == (1 : Int)))]) (dlt rfl rfl) rfl rfl rfl rfl (.cons rfl (fun he => he) .nil) (fun he => ok_move (dlt rfl rfl) rfl rfl) (.consG (pre := []) (dlt rfl rfl) rfl rfl rfl rfl .nil (fun he => ok_loadVT (dlt rfl rfl) rfl ty49 rfl rfl (by decide) rfl) (.consG (pre := []) (dlt rfl rfl) rfl rfl rfl rfl .nil (fun he => ok_move (dlt rfl rfl) rfl rfl) (.consG (pre := []) (dlt rfl rfl) rfl rfl rfl rfl .nil (fun he => ok_fieldV (dlt rfl rfl) rfl fo29_4 ty26 (by decide) rfl) (.consG (pre := [(38, .ref 3 4)]) (dlt rfl rfl) rfl rfl rfl rfl (.cons rfl (fun he => he) .nil) (fun he => ok_loadV (dlt rfl rfl) rfl ty26 rfl rfl rfl) (.consG (pre := [(39, .sl Ty.sApiValue a0.items)]) (dlt rfl rfl) rfl rfl rfl rfl (.cons rfl (fun he => he) .nil) (fun he => ok_lenS (τ := Ty.sApiValue) (xs := a0.items) (dlt rfl rfl) rfl Tryz.underlying26 rfl) (.consG (pre := [(36, .agg [.int .i64 a2.kind, .str a2.name, .int .i64 a2.index, .int .i64 a2.start, .int .i64 a2.stop, .bool a2.hasStart, .bool a2.hasEnd, .int .i64 a2.stride]), (37, .int .i64 a1), (40, .int .i64 (a0.items.length : Int))]) (dlt rfl rfl) rfl rfl rfl rfl (.cons rfl (fun he => he) (.cons rfl (fun he => he) (.cons rfl (fun he => he) .nil))) (fun he => ok_call (xs := [.agg [.int .i64 a2.kind, .str a2.name, .int .i64 a2.index, .int .i64 a2.start, .int .i64 a2.stop, .bool a2.hasStart, .bool a2.hasEnd, .int .i64 a2.stride], .int .i64 a1, .int .i64 (a0.items.length : Int)]) (caps := []) (dlt rfl rfl) rfl rfl Tryz.func128 rfl rfl rfl (d128 (gd_t hv2 he)) rfl) (.consG (pre := [(35, .bool (a2.kind == (1 : Int)))]) (dlt rfl rfl) rfl rfl rfl rfl (.cons rfl (fun he => he) .nil) (fun he => ok_orW (dlt rfl rfl) rfl rfl rfl (fun h => band_i he (bnot_t h))) (.cons rfl (ok_andW (dlt rfl rfl) rfl rfl rfl (fun h => h)) (.cons rfl (ok_assign (dlt rfl rfl) rfl rfl) (.nil ?_))))))))))))))))))
   obtain rfl := Option.some.inj h
   refine ak_conv (Γ' := [(6, .bool ((a0.kind == (4 : Int)) && ((a2.kind == (1 : Int)) || v2)))]) (σ' := []) (.cons rfl (.refl _) (.nil _)) (.nil _) ?_
   exact ak_ret (fn := Tryz.f76) Tryz.func76 rfl trivial rfl)
theorem d76 {a0 : ApiValue} {a1 : Int} {a2 : ApiSelector} {r : Bool} (h : f76 (.e76 a0 a1 a2) = some r) : Does Tryz.prog GG 76 [.agg [.int .i64 a0.kind, .int .i64 a0.frm, .int .i64 a0.to, .str a0.text, .sl Ty.sApiValue a0.items, .sl Ty.str a0.names], .int .i64 a1, .agg [.int .i64 a2.kind, .str a2.name, .int .i64 a2.index, .int .i64 a2.start, .int .i64 a2.stop, .bool a2.hasStart, .bool a2.hasEnd, .int .i64 a2.stride]] [] (fun z _ => z = .bool r) := fn_of (fn := Tryz.f76) Tryz.func76 rfl Tryz.ntmps76 rfl (w76 _ _ h)
/-- riffle/riffleref17.most -/
noncomputable abbrev b103 : Code := codeOf Tryz.f103
inductive L103 where
 | e103 (a0 : Int) (a1 : Int)
noncomputable def f103 : L103 → Option Int
 | .e103 a0 a1 =>
  if ((a0 == (-1)) || (a1 == (-1))) = true then
   some (-1)
  else
   if (decide (a1 < a0)) = true then
    some a0
   else
    some a1
def M103 : L103 → Int → Prop
 | .e103 a0 a1, r => ∀ (w : World) (F : Nat → Prop) (ρ : Rho), AK Tryz.prog (ctx GG 16 w F ρ []) 103 [.code b103] (argE 0 [.int .i64 a0, .int .i64 a1]) [] (fun z _ => z = .int .i64 r)
theorem w103 : ∀ (l : L103) (r : Int), f103 l = some r → M103 l r := (by
 intro l r h
 cases l with
 | e103 a0 a1 =>
  intro w F ρ
  dsimp only [f103] at h
  refine ak_seq ?_
  refine ak_regionS (.cons rfl (ok_assign (dlt rfl rfl) rfl rfl) (.nil ?_))
  refine ak_seq ?_
  refine ak_seq ?_
  refine ak_regionS (.cons rfl (ok_move (dlt rfl rfl) rfl rfl) (.cons rfl (ok_eql (dlt rfl rfl) rfl rfl rfl) (.cons rfl (ok_move (dlt rfl rfl) rfl rfl) (.consG (pre := []) (dlt rfl rfl) rfl rfl rfl rfl .nil (fun he => ok_move (dlt rfl rfl) rfl rfl) (.consG (pre := [(8, .int .i64 a1)]) (dlt rfl rfl) rfl rfl rfl rfl (.cons rfl (fun he => he) .nil) (fun he => ok_eql (dlt rfl rfl) rfl rfl rfl) (.cons rfl (ok_orW (dlt rfl rfl) rfl rfl rfl (fun h => (bnot_t h))) (.nil ?_)))))))
  refine ak_cond rfl (fun ht => ?_) (fun ht => ?_)
  ·have h := cond_t ht h
   refine ak_seq ?_
   refine ak_regionS (.cons rfl (ok_assign (dlt rfl rfl) rfl rfl) (.nil ?_))
   obtain rfl := Option.some.inj h
   refine ak_conv (Γ' := [(4, .int .i64 (-1))]) (σ' := []) (.cons rfl (.refl _) (.nil _)) (.nil _) ?_
   exact ak_ret (fn := Tryz.f103) Tryz.func103 rfl trivial rfl
  ·have h := cond_f ht h
   refine ak_skip ?_
   refine ak_seq ?_
   refine ak_seq ?_
   refine ak_regionS (.cons rfl (ok_move (dlt rfl rfl) rfl rfl) (.cons rfl (ok_move (dlt rfl rfl) rfl rfl) (.cons rfl (ok_gtr (dlt rfl rfl) rfl rfl rfl) (.nil ?_))))
   refine ak_cond rfl (fun ht => ?_) (fun ht => ?_)
   ·have h := cond_t ht h
    refine ak_seq ?_
    refine ak_regionS (.cons rfl (ok_move (dlt rfl rfl) rfl rfl) (.cons rfl (ok_assign (dlt rfl rfl) rfl rfl) (.nil ?_)))
    obtain rfl := Option.some.inj h
    refine ak_conv (Γ' := [(4, .int .i64 a0)]) (σ' := []) (.cons rfl (.refl _) (.nil _)) (.nil _) ?_
    exact ak_ret (fn := Tryz.f103) Tryz.func103 rfl trivial rfl
   ·have h := cond_f ht h
    refine ak_skip ?_
    refine ak_seq ?_
    refine ak_regionS (.cons rfl (ok_move (dlt rfl rfl) rfl rfl) (.cons rfl (ok_assign (dlt rfl rfl) rfl rfl) (.nil ?_)))
    obtain rfl := Option.some.inj h
    refine ak_conv (Γ' := [(4, .int .i64 a1)]) (σ' := []) (.cons rfl (.refl _) (.nil _)) (.nil _) ?_
    exact ak_ret (fn := Tryz.f103) Tryz.func103 rfl trivial rfl)
theorem d103 {a0 : Int} {a1 : Int} {r : Int} (h : f103 (.e103 a0 a1) = some r) : Does Tryz.prog GG 103 [.int .i64 a0, .int .i64 a1] [] (fun z _ => z = .int .i64 r) := fn_of (fn := Tryz.f103) Tryz.func103 rfl Tryz.ntmps103 rfl (w103 _ _ h)
end Go.Proofs.YtonlbdholdaifaaGreatDoor
end
