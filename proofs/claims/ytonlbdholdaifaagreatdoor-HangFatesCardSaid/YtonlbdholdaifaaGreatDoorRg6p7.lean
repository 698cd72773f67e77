import Derived.Test.YtonlbdholdaifaaGreatDoorProg
import Derived.Test.YtonlbdholdaifaaGreatDoorRfp4
import Derived.Test.YtonlbdholdaifaaGreatDoorRg6p1
import Derived.Test.YtonlbdholdaifaaGreatDoorRg6p6
section
set_option linter.unusedVariables false
set_option linter.unusedSimpArgs false
set_option maxRecDepth 10000
namespace Go.Proofs.YtonlbdholdaifaaGreatDoor
open Go Go.Rf Go.Proofs
/-- slices.Clone[[]riffle/api.Step,riffle/api.Step] -/
noncomputable abbrev b65 : Code := codeOf Tryz.f65
inductive L65 where
 | e65 (a0 : List ApiStep)
noncomputable def f65 : L65 → Option (List ApiStep)
 | .e65 a0 =>
  room ([] : List ApiStep).length a0.length 32 >>= fun v1 =>
  some (([] : List ApiStep) ++ a0)
def M65 : L65 → (List ApiStep) → Prop
 | .e65 a0, r => ∀ (w : World) (F : Nat → Prop) (ρ : Rho), AK Tryz.prog (ctx GG 8 w F ρ []) 65 [.code b65] (argE 0 [.sl Ty.sApiStep a0]) [] (fun z _ => z = .sl Ty.sApiStep r)
theorem w65 : ∀ (l : L65) (r : List ApiStep), f65 l = some r → M65 l r := (by
 intro l r h
 cases l with
 | e65 a0 =>
  intro w F ρ
  dsimp only [f65] at h
  refine ak_seq ?_
  refine ak_regionS (.cons rfl (ok_assign (dlt rfl rfl) rfl rfl) (.nil ?_))
  refine ak_nilRow (s := 2) (d := 1002) (e := 121) Ty.sApiStep rfl rfl rfl ?_
  refine ak_seq ?_
  refine ak_seq ?_
  refine ak_regionS (.cons rfl (ok_move (dlt rfl rfl) rfl rfl) (seq_nilS (dlt rfl rfl) rfl rfl Tryz.underlying38 rfl rfl (fun c1 hc1 => ?_)))
  refine (.nil ?_)
  refine ak_cond rfl (fun ht => ?_) (fun ht => ?_)
  ·have hx := hc1 ht
   subst hx
   have h : some ([] : List ApiStep) = some r := by
    obtain ⟨_, _, h⟩ := bind_of h
    exact h
   refine ak_seq ?_
   refine ak_regionS (.cons rfl (ok_assign (dlt rfl rfl) rfl rfl) (.nil ?_))
   refine ak_nilRow (s := 2) (d := 101002) (e := 121) Ty.sApiStep rfl rfl rfl ?_
   obtain rfl := Option.some.inj h
   refine ak_freeze 101002 rfl ?_
   refine ak_conv (Γ' := [(2, .sl Ty.sApiStep ([] : List ApiStep))]) (σ' := []) (.cons rfl (.refl _) (.nil _)) (.nil _) ?_
   exact ak_ret (fn := Tryz.f65) Tryz.func65 rfl trivial rfl
  ·refine ak_skip ?_
   refine ak_seq ?_
   obtain ⟨v1, hv1, h⟩ := bind_of h
   refine ak_regionS (.cons rfl (ok_litM0 (d := 2005) (dlt rfl rfl) Ty.sApiStep rfl rfl Tryz.underlying38 ty121 rfl rfl) (.cons rfl (ok_move (dlt rfl rfl) rfl rfl) (.cons rfl (ok_appendS (τ := Ty.sApiStep) (xs := ([] : List ApiStep)) (ys := a0) (dlt rfl rfl) rfl Tryz.underlying38 ty121 rfl rfl rfl rfl (room_1 hv1) (room_2 hv1)) (.cons rfl (ok_assign (dlt rfl rfl) rfl rfl) (.nil ?_)))))
   obtain rfl := Option.some.inj h
   refine ak_freeze 2005 rfl ?_
   refine ak_conv (Γ' := [(2, .sl Ty.sApiStep (([] : List ApiStep) ++ a0))]) (σ' := []) (.cons rfl (.refl _) (.nil _)) (.nil _) ?_
   exact ak_ret (fn := Tryz.f65) Tryz.func65 rfl trivial rfl)
theorem d65 {a0 : List ApiStep} {r : List ApiStep} (h : f65 (.e65 a0) = some r) : Does Tryz.prog GG 65 [.sl Ty.sApiStep a0] [] (fun z _ => z = .sl Ty.sApiStep r) := fn_of (fn := Tryz.f65) Tryz.func65 rfl Tryz.ntmps65 rfl (w65 _ _ h)
/-- (riffle/hang.Fate).or -/
noncomputable abbrev b137 : Code := codeOf Tryz.f137
inductive L137 where
 | e137 (a0 : HangFate) (a1 : HangFate)
noncomputable def f137 : L137 → Option HangFate
 | .e137 a0 a1 =>
  if (!a0.may) = true then
   some a1
  else
   if (!a1.may) = true then
    some a0
   else
    some (⟨true, gmin a0.holds a1.holds, gmax a0.fails a1.fails⟩ : HangFate)
def M137 : L137 → HangFate → Prop
 | .e137 a0 a1, r => ∀ (w : World) (F : Nat → Prop) (ρ : Rho), AK Tryz.prog (ctx GG 26 w F ρ []) 137 [.code b137] (argE 0 [.agg [.bool a0.may, .int .i64 a0.holds, .int .i64 a0.fails], .agg [.bool a1.may, .int .i64 a1.holds, .int .i64 a1.fails]]) [] (fun z _ => z = .agg [.bool r.may, .int .i64 r.holds, .int .i64 r.fails])
theorem w137 : ∀ (l : L137) (r : HangFate), f137 l = some r → M137 l r := (by
 intro l r h
 cases l with
 | e137 a0 a1 =>
  intro w F ρ
  dsimp only [f137] at h
  refine ak_seq ?_
  refine ak_regionS (.cons rfl (ok_box (d := 2) (dlt rfl rfl) rfl rfl rfl rfl rfl) (.cons rfl (ok_box (d := 3) (dlt rfl rfl) rfl rfl rfl rfl rfl) (.cons rfl (ok_alloc (d := 4) (dlt rfl rfl) rfl ty67 rfl rfl rfl) (.nil ?_))))
  refine ak_seq ?_
  refine ak_block ?_
  refine ak_seq ?_
  refine ak_regionS (.cons rfl (ok_fieldV (dlt rfl rfl) rfl fo67_0 ty4 (by decide) rfl) (.cons rfl (ok_loadV (dlt rfl rfl) rfl ty4 rfl rfl rfl) (.cons rfl (ok_not (dlt rfl rfl) rfl rfl) (.cons rfl (ok_assign (dlt rfl rfl) rfl rfl) (.nil ?_)))))
  refine ak_cond rfl (fun ht => ?_) (fun ht => ?_)
  ·have h := cond_t ht h
   refine ak_seq ?_
   refine ak_regionS (.cons rfl (ok_loadVT (dlt rfl rfl) rfl ty67 rfl rfl (by decide) rfl) (.cons rfl (ok_storeV rfl rfl ty67 rfl rfl rfl rfl (by decide) rfl rfl) (.nil ?_)))
   obtain rfl := Option.some.inj h
   refine ak_conv (Γ' := [(4, .ref 4 0)]) (σ' := [(4, .cells 67 [.bool a1.may, .int .i64 a1.holds, .int .i64 a1.fails])]) (.cons rfl (.refl _) (.nil _)) (.cons rfl (.refl _) (.nil _)) ?_
   exact ak_ret (fn := Tryz.f137) Tryz.func137 rfl ⟨⟨_, _, _, _, _, _, rfl, rfl, ty67⟩, trivial⟩ rfl
  ·have h := cond_f ht h
   refine ak_seq ?_
   refine ak_regionS (.cons rfl (ok_fieldV (dlt rfl rfl) rfl fo67_0 ty4 (by decide) rfl) (.cons rfl (ok_loadV (dlt rfl rfl) rfl ty4 rfl rfl rfl) (.cons rfl (ok_not (dlt rfl rfl) rfl rfl) (.cons rfl (ok_assign (dlt rfl rfl) rfl rfl) (.nil ?_)))))
   refine ak_cond rfl (fun ht => ?_) (fun ht => ?_)
   ·have h := cond_t ht h
    refine ak_seq ?_
    refine ak_regionS (.cons rfl (ok_loadVT (dlt rfl rfl) rfl ty67 rfl rfl (by decide) rfl) (.cons rfl (ok_storeV rfl rfl ty67 rfl rfl rfl rfl (by decide) rfl rfl) (.nil ?_)))
    obtain rfl := Option.some.inj h
    refine ak_conv (Γ' := [(4, .ref 4 0)]) (σ' := [(4, .cells 67 [.bool a0.may, .int .i64 a0.holds, .int .i64 a0.fails])]) (.cons rfl (.refl _) (.nil _)) (.cons rfl (.refl _) (.nil _)) ?_
    exact ak_ret (fn := Tryz.f137) Tryz.func137 rfl ⟨⟨_, _, _, _, _, _, rfl, rfl, ty67⟩, trivial⟩ rfl
   ·have h := cond_f ht h
    refine ak_skip ?_
    refine ak_inBlock ?_
    refine ak_seq ?_
    refine ak_regionS (.cons rfl (ok_fieldV (dlt rfl rfl) rfl fo67_1 ty3 (by decide) rfl) (.cons rfl (ok_loadV (dlt rfl rfl) rfl ty3 rfl rfl rfl) (.cons rfl (ok_fieldV (dlt rfl rfl) rfl fo67_1 ty3 (by decide) rfl) (.cons rfl (ok_loadV (dlt rfl rfl) rfl ty3 rfl rfl rfl) (.cons rfl (ok_min (dlt rfl rfl) rfl rfl rfl) (.cons rfl (ok_fieldV (dlt rfl rfl) rfl fo67_2 ty3 (by decide) rfl) (.cons rfl (ok_loadV (dlt rfl rfl) rfl ty3 rfl rfl rfl) (.cons rfl (ok_fieldV (dlt rfl rfl) rfl fo67_2 ty3 (by decide) rfl) (.cons rfl (ok_loadV (dlt rfl rfl) rfl ty3 rfl rfl rfl) (.cons rfl (ok_max (dlt rfl rfl) rfl rfl rfl) (.cons rfl (ok_build (dlt rfl rfl) rfl ty67 rfl pl67 rfl rfl rfl) (.cons rfl (ok_storeV rfl rfl ty67 rfl rfl rfl rfl (by decide) rfl rfl) (.nil ?_)))))))))))))
    obtain rfl := Option.some.inj h
    refine ak_conv (Γ' := [(4, .ref 4 0)]) (σ' := [(4, .cells 67 [.bool ((⟨true, gmin a0.holds a1.holds, gmax a0.fails a1.fails⟩ : HangFate).may), .int .i64 ((⟨true, gmin a0.holds a1.holds, gmax a0.fails a1.fails⟩ : HangFate).holds), .int .i64 ((⟨true, gmin a0.holds a1.holds, gmax a0.fails a1.fails⟩ : HangFate).fails)])]) (.cons rfl (.refl _) (.nil _)) (.cons rfl (.refl _) (.nil _)) ?_
    exact ak_ret (fn := Tryz.f137) Tryz.func137 rfl ⟨⟨_, _, _, _, _, _, rfl, rfl, ty67⟩, trivial⟩ rfl)
theorem d137 {a0 : HangFate} {a1 : HangFate} {r : HangFate} (h : f137 (.e137 a0 a1) = some r) : Does Tryz.prog GG 137 [.agg [.bool a0.may, .int .i64 a0.holds, .int .i64 a0.fails], .agg [.bool a1.may, .int .i64 a1.holds, .int .i64 a1.fails]] [] (fun z _ => z = .agg [.bool r.may, .int .i64 r.holds, .int .i64 r.fails]) := fn_of (fn := Tryz.f137) Tryz.func137 rfl Tryz.ntmps137 rfl (w137 _ _ h)
/-- riffle/slice.Place -/
noncomputable abbrev b127 : Code := codeOf Tryz.f127
inductive L127 where
 | e127 (a0 : Int) (a1 : Int)
noncomputable def f127 : L127 → Option Int
 | .e127 a0 a1 =>
  if (decide (a0 < (0 : Int))) = true then
   some (IntKind.wrap .i64 (a1 + a0))
  else
   some a0
def M127 : L127 → Int → Prop
 | .e127 a0 a1, r => ∀ (w : World) (F : Nat → Prop) (ρ : Rho), AK Tryz.prog (ctx GG 11 w F ρ []) 127 [.code b127] (argE 0 [.int .i64 a0, .int .i64 a1]) [] (fun z _ => z = .int .i64 r)
theorem w127 : ∀ (l : L127) (r : Int), f127 l = some r → M127 l r := (by
 intro l r h
 cases l with
 | e127 a0 a1 =>
  intro w F ρ
  dsimp only [f127] at h
  refine ak_seq ?_
  refine ak_regionS (.cons rfl (ok_assign (dlt rfl rfl) rfl rfl) (.nil ?_))
  refine ak_seq ?_
  refine ak_seq ?_
  refine ak_regionS (.cons rfl (ok_move (dlt rfl rfl) rfl rfl) (.cons rfl (ok_lss (dlt rfl rfl) rfl rfl rfl) (.nil ?_)))
  refine ak_cond rfl (fun ht => ?_) (fun ht => ?_)
  ·have h := cond_t ht h
   refine ak_seq ?_
   refine ak_regionS (.cons rfl (ok_move (dlt rfl rfl) rfl rfl) (.cons rfl (ok_move (dlt rfl rfl) rfl rfl) (.cons rfl (ok_add (dlt rfl rfl) rfl rfl rfl) (.cons rfl (ok_assign (dlt rfl rfl) rfl rfl) (.nil ?_)))))
   obtain rfl := Option.some.inj h
   refine ak_conv (Γ' := [(4, .int .i64 (IntKind.wrap .i64 (a1 + a0)))]) (σ' := []) (.cons rfl (.refl _) (.nil _)) (.nil _) ?_
   exact ak_ret (fn := Tryz.f127) Tryz.func127 rfl trivial rfl
  ·have h := cond_f ht h
   refine ak_skip ?_
   refine ak_seq ?_
   refine ak_regionS (.cons rfl (ok_move (dlt rfl rfl) rfl rfl) (.cons rfl (ok_assign (dlt rfl rfl) rfl rfl) (.nil ?_)))
   obtain rfl := Option.some.inj h
   refine ak_conv (Γ' := [(4, .int .i64 a0)]) (σ' := []) (.cons rfl (.refl _) (.nil _)) (.nil _) ?_
   exact ak_ret (fn := Tryz.f127) Tryz.func127 rfl trivial rfl)
theorem d127 {a0 : Int} {a1 : Int} {r : Int} (h : f127 (.e127 a0 a1) = some r) : Does Tryz.prog GG 127 [.int .i64 a0, .int .i64 a1] [] (fun z _ => z = .int .i64 r) := fn_of (fn := Tryz.f127) Tryz.func127 rfl Tryz.ntmps127 rfl (w127 _ _ h)
/-- riffle/slice.Bounds -/
noncomputable abbrev b126 : Code := codeOf Tryz.f126
inductive L126 where
 | e126 (a0 : ApiSelector) (a1 : Int)
 | l126_0 (a0 : Int) (a1 : Int) (a2 : Int) (a3 : ApiSelector)
 | l126_1 (a0 : Int) (a1 : Int) (a2 : Int) (a3 : ApiSelector)
 | l126_2 (a0 : Int) (a1 : Int) (a2 : Int)
 | l126_3 (a0 : Int) (a1 : Int) (a2 : Int)
noncomputable def f126 : L126 → Option (Int × Int)
 | .e126 a0 a1 =>
  f127 (.e127 a0.start a1) >>= fun v1 =>
  f127 (.e127 a0.stop a1) >>= fun v2 =>
  if (decide ((0 : Int) < a0.stride)) = true then
   if (!a0.hasStart) = true then
    f126 (.l126_0 a1 (0 : Int) v2 a0)
   else
    f126 (.l126_0 a1 v1 v2 a0)
  else
   if (decide (a0.stride < (0 : Int))) = true then
    if (!a0.hasStart) = true then
     f126 (.l126_1 a1 (IntKind.wrap .i64 (a1 - (1 : Int))) v2 a0)
    else
     f126 (.l126_1 a1 v1 v2 a0)
   else
    some (0, 0)
 | .l126_0 a0 a1 a2 a3 =>
  if (!a3.hasEnd) = true then
   f126 (.l126_2 a0 a1 a0)
  else
   f126 (.l126_2 a0 a1 a2)
 | .l126_1 a0 a1 a2 a3 =>
  if (!a3.hasEnd) = true then
   f126 (.l126_3 a0 a1 (-1))
  else
   f126 (.l126_3 a0 a1 a2)
 | .l126_2 a0 a1 a2 =>
  some (gmin (gmax a1 (0 : Int)) a0, gmin (gmax a2 (0 : Int)) a0)
 | .l126_3 a0 a1 a2 =>
  some (gmin (gmax a2 (-1)) (IntKind.wrap .i64 (a0 - (1 : Int))), gmin (gmax a1 (-1)) (IntKind.wrap .i64 (a0 - (1 : Int))))
 partial_fixpoint
def M126 : L126 → (Int × Int) → Prop
 | .e126 a0 a1, r => ∀ (w : World) (F : Nat → Prop) (ρ : Rho), AK Tryz.prog (ctx GG 57 w F ρ []) 126 [.code b126] (argE 0 [.agg [.int .i64 a0.kind, .str a0.name, .int .i64 a0.index, .int .i64 a0.start, .int .i64 a0.stop, .bool a0.hasStart, .bool a0.hasEnd, .int .i64 a0.stride], .int .i64 a1]) [] (fun z _ => z = .tup [.int .i64 r.1, .int .i64 r.2])
 | .l126_0 a0 a1 a2 a3, r => ∀ (w : World) (F : Nat → Prop) (ρ : Rho), AK Tryz.prog (ctx GG 57 w F ρ []) 126 [.code (c2 (c1 (c2 (c1 (c1 (c2 (c2 b126))))))), .inBlock 0, .code (c2 (c2 (c2 b126)))] [(1, .int .i64 a0), (2, .ref 2 0), (6, .int .i64 a1), (7, .int .i64 a2)] [(2, .cells 49 [.int .i64 a3.kind, .str a3.name, .int .i64 a3.index, .int .i64 a3.start, .int .i64 a3.stop, .bool a3.hasStart, .bool a3.hasEnd, .int .i64 a3.stride])] (fun z _ => z = .tup [.int .i64 r.1, .int .i64 r.2])
 | .l126_1 a0 a1 a2 a3, r => ∀ (w : World) (F : Nat → Prop) (ρ : Rho), AK Tryz.prog (ctx GG 57 w F ρ []) 126 [.code (c2 (c1 (c2 (c2 (c2 (c1 (c1 (c2 (c2 b126))))))))), .inBlock 0, .code (c2 (c2 (c2 b126)))] [(1, .int .i64 a0), (2, .ref 2 0), (6, .int .i64 a1), (7, .int .i64 a2)] [(2, .cells 49 [.int .i64 a3.kind, .str a3.name, .int .i64 a3.index, .int .i64 a3.start, .int .i64 a3.stop, .bool a3.hasStart, .bool a3.hasEnd, .int .i64 a3.stride])] (fun z _ => z = .tup [.int .i64 r.1, .int .i64 r.2])
 | .l126_2 a0 a1 a2, r => ∀ (w : World) (F : Nat → Prop) (ρ : Rho), AK Tryz.prog (ctx GG 57 w F ρ []) 126 [.code (c2 (c2 (c1 (c2 (c1 (c1 (c2 (c2 b126)))))))), .inBlock 0, .code (c2 (c2 (c2 b126)))] [(1, .int .i64 a0), (6, .int .i64 a1), (7, .int .i64 a2)] [] (fun z _ => z = .tup [.int .i64 r.1, .int .i64 r.2])
 | .l126_3 a0 a1 a2, r => ∀ (w : World) (F : Nat → Prop) (ρ : Rho), AK Tryz.prog (ctx GG 57 w F ρ []) 126 [.code (c2 (c2 (c1 (c2 (c2 (c2 (c1 (c1 (c2 (c2 b126)))))))))), .inBlock 0, .code (c2 (c2 (c2 b126)))] [(1, .int .i64 a0), (6, .int .i64 a1), (7, .int .i64 a2)] [] (fun z _ => z = .tup [.int .i64 r.1, .int .i64 r.2])
theorem w126 : ∀ (l : L126) (r : Int × Int), f126 l = some r → M126 l r := f126.partial_correctness M126 (by
 intro f ih l r h
 cases l with
 | e126 a0 a1 =>
  intro w F ρ
  dsimp only at h
  refine ak_seq ?_
  refine ak_regionS (.cons rfl (ok_box (d := 2) (dlt rfl rfl) rfl rfl rfl rfl rfl) (.cons rfl (ok_assign (dlt rfl rfl) rfl rfl) (.cons rfl (ok_assign (dlt rfl rfl) rfl rfl) (.nil ?_))))
  refine ak_seq ?_
  obtain ⟨v1, hv1, h⟩ := bind_of h
  obtain ⟨v2, hv2, h⟩ := bind_of h
  refine ak_drawL [⟨some 8, [(2, .ref 2 0)], none, true, .ref 2 3, [], []⟩,
  ⟨some 9, [(8, .ref 2 3)], none, true, .int .i64 a0.start, [(2, .cells 49 [.int .i64 a0.kind, .str a0.name, .int .i64 a0.index, .int .i64 a0.start, .int .i64 a0.stop, .bool a0.hasStart, .bool a0.hasEnd, .int .i64 a0.stride])], []⟩,
  ⟨some 10, [(1, .int .i64 a1)], none, true, .int .i64 a1, [], []⟩,
  ⟨some 11, [(9, .int .i64 a0.start), (10, .int .i64 a1)], none, true, .int .i64 v1, [], []⟩,
  ⟨some 12, [(2, .ref 2 0)], none, true, .ref 2 4, [], []⟩,
  ⟨some 13, [(12, .ref 2 4)], none, true, .int .i64 a0.stop, [(2, .cells 49 [.int .i64 a0.kind, .str a0.name, .int .i64 a0.index, .int .i64 a0.start, .int .i64 a0.stop, .bool a0.hasStart, .bool a0.hasEnd, .int .i64 a0.stride])], []⟩,
  ⟨some 14, [(1, .int .i64 a1)], none, true, .int .i64 a1, [], []⟩,
  ⟨some 15, [(13, .int .i64 a0.stop), (14, .int .i64 a1)], none, true, .int .i64 v2, [], []⟩,
  ⟨some 6, [(11, .int .i64 v1)], none, true, .int .i64 v1, [], []⟩,
  ⟨some 7, [(15, .int .i64 v2)], none, true, .int .i64 v2, [], []⟩] [[], [0], [], [0, 1, 2], [], [4], [], [0, 1, 2, 3, 4, 5, 6], [0, 1, 2, 3, 4, 5, 6, 7], [0, 1, 2, 3, 4, 5, 6, 7, 8]] (by kernel_rfl) (by kernel_rfl) (.cons (qok (dlt rfl rfl) rfl (.same rfl .nil) (NeedQ.all .nil) (fun Γx σx => ok_fieldV (dlt rfl rfl) rfl fo49_3 ty3 (by decide) rfl)) (.cons (qok (dlt rfl rfl) rfl (.same rfl .nil) (NeedQ.all (.cons rfl .nil)) (fun Γx σx => ok_loadV (dlt rfl rfl) rfl ty3 rfl rfl rfl)) (.cons (qok (dlt rfl rfl) rfl (.same rfl .nil) (NeedQ.all .nil) (fun Γx σx => ok_move (dlt rfl rfl) rfl rfl)) (.cons (qok (dlt rfl rfl) rfl (.same rfl (.same rfl .nil)) (NeedQ.all .nil) (fun Γx σx => ok_call (xs := [.int .i64 a0.start, .int .i64 a1]) (caps := []) (dlt rfl rfl) rfl rfl Tryz.func127 rfl rfl rfl (d127 hv1) rfl)) (.cons (qok (dlt rfl rfl) rfl (.same rfl .nil) (NeedQ.all .nil) (fun Γx σx => ok_fieldV (dlt rfl rfl) rfl fo49_4 ty3 (by decide) rfl)) (.cons (qok (dlt rfl rfl) rfl (.same rfl .nil) (NeedQ.all (.cons rfl .nil)) (fun Γx σx => ok_loadV (dlt rfl rfl) rfl ty3 rfl rfl rfl)) (.cons (qok (dlt rfl rfl) rfl (.same rfl .nil) (NeedQ.all .nil) (fun Γx σx => ok_move (dlt rfl rfl) rfl rfl)) (.cons (qok (dlt rfl rfl) rfl (.same rfl (.same rfl .nil)) (NeedQ.all .nil) (fun Γx σx => ok_call (xs := [.int .i64 a0.stop, .int .i64 a1]) (caps := []) (dlt rfl rfl) rfl rfl Tryz.func127 rfl rfl rfl (d127 hv2) rfl)) (.cons (qok (dlt rfl rfl) rfl (.same rfl .nil) (NeedQ.all .nil) (fun Γx σx => ok_assign (dlt rfl rfl) rfl rfl)) (.cons (qok (dlt rfl rfl) rfl (.same rfl .nil) (NeedQ.all .nil) (fun Γx σx => ok_assign (dlt rfl rfl) rfl rfl)) (.nil _ _))))))))))) (.nil ?_)
  refine ak_seq ?_
  refine ak_block ?_
  refine ak_seq ?_
  refine ak_regionS (.cons rfl (ok_fieldV (dlt rfl rfl) rfl fo49_7 ty3 (by decide) rfl) (.cons rfl (ok_loadV (dlt rfl rfl) rfl ty3 rfl rfl rfl) (.cons rfl (ok_gtr (dlt rfl rfl) rfl rfl rfl) (.cons rfl (ok_assign (dlt rfl rfl) rfl rfl) (.nil ?_)))))
  refine ak_cond rfl (fun ht => ?_) (fun ht => ?_)
  ·have h := cond_t ht h
   refine ak_seq ?_
   refine ak_seq ?_
   refine ak_regionS (.cons rfl (ok_fieldV (dlt rfl rfl) rfl fo49_5 ty4 (by decide) rfl) (.cons rfl (ok_loadV (dlt rfl rfl) rfl ty4 rfl rfl rfl) (.cons rfl (ok_not (dlt rfl rfl) rfl rfl) (.nil ?_))))
   refine ak_cond rfl (fun ht => ?_) (fun ht => ?_)
   ·have h := cond_t ht h
    refine ak_regionS (.cons rfl (ok_assign (dlt rfl rfl) rfl rfl) (.nil ?_))
    exact ak_conv (.cons rfl (.refl _) (.cons rfl (.refl _) (.cons rfl (.refl _) (.cons rfl (.refl _) (.nil _))))) (.cons rfl (.refl _) (.nil _)) (ih _ _ h w F ρ)
   ·have h := cond_f ht h
    refine ak_skip ?_
    exact ak_conv (.cons rfl (.refl _) (.cons rfl (.refl _) (.cons rfl (.refl _) (.cons rfl (.refl _) (.nil _))))) (.cons rfl (.refl _) (.nil _)) (ih _ _ h w F ρ)
  ·have h := cond_f ht h
   refine ak_seq ?_
   refine ak_regionS (.cons rfl (ok_fieldV (dlt rfl rfl) rfl fo49_7 ty3 (by decide) rfl) (.cons rfl (ok_loadV (dlt rfl rfl) rfl ty3 rfl rfl rfl) (.cons rfl (ok_lss (dlt rfl rfl) rfl rfl rfl) (.cons rfl (ok_assign (dlt rfl rfl) rfl rfl) (.nil ?_)))))
   refine ak_cond rfl (fun ht => ?_) (fun ht => ?_)
   ·have h := cond_t ht h
    refine ak_seq ?_
    refine ak_seq ?_
    refine ak_regionS (.cons rfl (ok_fieldV (dlt rfl rfl) rfl fo49_5 ty4 (by decide) rfl) (.cons rfl (ok_loadV (dlt rfl rfl) rfl ty4 rfl rfl rfl) (.cons rfl (ok_not (dlt rfl rfl) rfl rfl) (.nil ?_))))
    refine ak_cond rfl (fun ht => ?_) (fun ht => ?_)
    ·have h := cond_t ht h
     refine ak_regionS (.cons rfl (ok_move (dlt rfl rfl) rfl rfl) (.cons rfl (ok_sub (dlt rfl rfl) rfl rfl rfl) (.cons rfl (ok_assign (dlt rfl rfl) rfl rfl) (.nil ?_))))
     exact ak_conv (.cons rfl (.refl _) (.cons rfl (.refl _) (.cons rfl (.refl _) (.cons rfl (.refl _) (.nil _))))) (.cons rfl (.refl _) (.nil _)) (ih _ _ h w F ρ)
    ·have h := cond_f ht h
     refine ak_skip ?_
     exact ak_conv (.cons rfl (.refl _) (.cons rfl (.refl _) (.cons rfl (.refl _) (.cons rfl (.refl _) (.nil _))))) (.cons rfl (.refl _) (.nil _)) (ih _ _ h w F ρ)
   ·have h := cond_f ht h
    refine ak_skip ?_
    refine ak_inBlock ?_
    refine ak_seq ?_
    refine ak_regionS (.cons rfl (ok_assign (dlt rfl rfl) rfl rfl) (.cons rfl (ok_assign (dlt rfl rfl) rfl rfl) (.nil ?_)))
    obtain rfl := Option.some.inj h
    refine ak_conv (Γ' := [(4, .int .i64 (0 : Int)), (5, .int .i64 (0 : Int))]) (σ' := []) (.cons rfl (.refl _) (.cons rfl (.refl _) (.nil _))) (.nil _) ?_
    exact ak_ret (fn := Tryz.f126) Tryz.func126 rfl trivial rfl
 | l126_0 a0 a1 a2 a3 =>
  intro w F ρ
  dsimp only at h
  refine ak_seq ?_
  refine ak_seq ?_
  refine ak_regionS (.cons rfl (ok_fieldV (dlt rfl rfl) rfl fo49_6 ty4 (by decide) rfl) (.cons rfl (ok_loadV (dlt rfl rfl) rfl ty4 rfl rfl rfl) (.cons rfl (ok_not (dlt rfl rfl) rfl rfl) (.nil ?_))))
  refine ak_cond rfl (fun ht => ?_) (fun ht => ?_)
  ·have h := cond_t ht h
   refine ak_regionS (.cons rfl (ok_move (dlt rfl rfl) rfl rfl) (.cons rfl (ok_assign (dlt rfl rfl) rfl rfl) (.nil ?_)))
   exact ak_conv (.cons rfl (.refl _) (.cons rfl (.refl _) (.cons rfl (.refl _) (.nil _)))) (.nil _) (ih _ _ h w F ρ)
  ·have h := cond_f ht h
   refine ak_skip ?_
   exact ak_conv (.cons rfl (.refl _) (.cons rfl (.refl _) (.cons rfl (.refl _) (.nil _)))) (.nil _) (ih _ _ h w F ρ)
 | l126_1 a0 a1 a2 a3 =>
  intro w F ρ
  dsimp only at h
  refine ak_seq ?_
  refine ak_seq ?_
  refine ak_regionS (.cons rfl (ok_fieldV (dlt rfl rfl) rfl fo49_6 ty4 (by decide) rfl) (.cons rfl (ok_loadV (dlt rfl rfl) rfl ty4 rfl rfl rfl) (.cons rfl (ok_not (dlt rfl rfl) rfl rfl) (.nil ?_))))
  refine ak_cond rfl (fun ht => ?_) (fun ht => ?_)
  ·have h := cond_t ht h
   refine ak_regionS (.cons rfl (ok_assign (dlt rfl rfl) rfl rfl) (.nil ?_))
   exact ak_conv (.cons rfl (.refl _) (.cons rfl (.refl _) (.cons rfl (.refl _) (.nil _)))) (.nil _) (ih _ _ h w F ρ)
  ·have h := cond_f ht h
   refine ak_skip ?_
   exact ak_conv (.cons rfl (.refl _) (.cons rfl (.refl _) (.cons rfl (.refl _) (.nil _)))) (.nil _) (ih _ _ h w F ρ)
 | l126_2 a0 a1 a2 =>
  intro w F ρ
  dsimp only at h
  refine ak_seq ?_
  refine ak_regionS (.cons rfl (ok_move (dlt rfl rfl) rfl rfl) (.cons rfl (ok_max (dlt rfl rfl) rfl rfl rfl) (.cons rfl (ok_move (dlt rfl rfl) rfl rfl) (.cons rfl (ok_min (dlt rfl rfl) rfl rfl rfl) (.cons rfl (ok_move (dlt rfl rfl) rfl rfl) (.cons rfl (ok_max (dlt rfl rfl) rfl rfl rfl) (.cons rfl (ok_move (dlt rfl rfl) rfl rfl) (.cons rfl (ok_min (dlt rfl rfl) rfl rfl rfl) (.cons rfl (ok_assign (dlt rfl rfl) rfl rfl) (.cons rfl (ok_assign (dlt rfl rfl) rfl rfl) (.nil ?_)))))))))))
  obtain rfl := Option.some.inj h
  refine ak_conv (Γ' := [(4, .int .i64 (gmin (gmax a1 (0 : Int)) a0)), (5, .int .i64 (gmin (gmax a2 (0 : Int)) a0))]) (σ' := []) (.cons rfl (.refl _) (.cons rfl (.refl _) (.nil _))) (.nil _) ?_
  exact ak_ret (fn := Tryz.f126) Tryz.func126 rfl trivial rfl
 | l126_3 a0 a1 a2 =>
  intro w F ρ
  dsimp only at h
  refine ak_seq ?_
  refine ak_regionS (.cons rfl (ok_move (dlt rfl rfl) rfl rfl) (.cons rfl (ok_max (dlt rfl rfl) rfl rfl rfl) (.cons rfl (ok_move (dlt rfl rfl) rfl rfl) (.cons rfl (ok_sub (dlt rfl rfl) rfl rfl rfl) (.cons rfl (ok_min (dlt rfl rfl) rfl rfl rfl) (.cons rfl (ok_move (dlt rfl rfl) rfl rfl) (.cons rfl (ok_max (dlt rfl rfl) rfl rfl rfl) (.cons rfl (ok_move (dlt rfl rfl) rfl rfl) (.cons rfl (ok_sub (dlt rfl rfl) rfl rfl rfl) (.cons rfl (ok_min (dlt rfl rfl) rfl rfl rfl) (.cons rfl (ok_assign (dlt rfl rfl) rfl rfl) (.cons rfl (ok_assign (dlt rfl rfl) rfl rfl) (.nil ?_)))))))))))))
  obtain rfl := Option.some.inj h
  refine ak_conv (Γ' := [(4, .int .i64 (gmin (gmax a2 (-1)) (IntKind.wrap .i64 (a0 - (1 : Int))))), (5, .int .i64 (gmin (gmax a1 (-1)) (IntKind.wrap .i64 (a0 - (1 : Int)))))]) (σ' := []) (.cons rfl (.refl _) (.cons rfl (.refl _) (.nil _))) (.nil _) ?_
  exact ak_ret (fn := Tryz.f126) Tryz.func126 rfl trivial rfl)
theorem d126 {a0 : ApiSelector} {a1 : Int} {r : Int × Int} (h : f126 (.e126 a0 a1) = some r) : Does Tryz.prog GG 126 [.agg [.int .i64 a0.kind, .str a0.name, .int .i64 a0.index, .int .i64 a0.start, .int .i64 a0.stop, .bool a0.hasStart, .bool a0.hasEnd, .int .i64 a0.stride], .int .i64 a1] [] (fun z _ => z = .tup [.int .i64 r.1, .int .i64 r.2]) := fn_of (fn := Tryz.f126) Tryz.func126 rfl Tryz.ntmps126 rfl (w126 _ _ h)
end Go.Proofs.YtonlbdholdaifaaGreatDoor
end
section
set_option linter.unusedVariables false
set_option linter.unusedSimpArgs false
set_option maxRecDepth 10000
namespace Go.Proofs.YtonlbdholdaifaaGreatDoor
open Go Go.Rf Go.Proofs
/-- riffle/slice.Has -/
noncomputable abbrev b74 : Code := codeOf Tryz.f74
inductive L74 where
 | e74 (a0 : ApiSelector) (a1 : Int) (a2 : Int)
noncomputable def f74 : L74 → Option Bool
 | .e74 a0 a1 a2 =>
  if ((decide (a1 < (0 : Int))) || (decide (a2 ≤ a1))) = true then
   some false
  else
   f126 (.e126 a0 a2) >>= fun v1 =>
   if (a0.kind == (2 : Int)) = true then
    f127 (.e127 a0.index a2) >>= fun v2 =>
    some (v2 == a1)
   else
    if (a0.kind != (3 : Int)) = true then
     some false
    else
     if (decide ((0 : Int) < a0.stride)) = true then
      gd ((decide (v1.1 ≤ a1)) && (decide (a1 < v1.2))) (need (¬ a0.stride = 0)) >>= fun v3 =>
      some (((decide (v1.1 ≤ a1)) && (decide (a1 < v1.2))) && (((IntKind.wrap .i64 (a1 - v1.1)).tmod a0.stride) == (0 : Int)))
     else
      if (decide (a0.stride < (0 : Int))) = true then
       gd ((decide (v1.1 < a1)) && (decide (a1 ≤ v1.2))) (need (¬ a0.stride = 0)) >>= fun v4 =>
       some (((decide (v1.1 < a1)) && (decide (a1 ≤ v1.2))) && (((IntKind.wrap .i64 (v1.2 - a1)).tmod a0.stride) == (0 : Int)))
      else
       some false
def M74 : L74 → Bool → Prop
 | .e74 a0 a1 a2, r => ∀ (w : World) (F : Nat → Prop) (ρ : Rho), AK Tryz.prog (ctx GG 78 w F ρ []) 74 [.code b74] (argE 0 [.agg [.int .i64 a0.kind, .str a0.name, .int .i64 a0.index, .int .i64 a0.start, .int .i64 a0.stop, .bool a0.hasStart, .bool a0.hasEnd, .int .i64 a0.stride], .int .i64 a1, .int .i64 a2]) [] (fun z _ => z = .bool r)
theorem w74 : ∀ (l : L74) (r : Bool), f74 l = some r → M74 l r := (by
 intro l r h
 cases l with
 | e74 a0 a1 a2 =>
  intro w F ρ
  dsimp only [f74] at h
  refine ak_seq ?_
  refine ak_regionS (.cons rfl (ok_box (d := 3) (dlt rfl rfl) rfl rfl rfl rfl rfl) (.cons rfl (ok_assign (dlt rfl rfl) rfl rfl) (.nil ?_)))
  refine ak_seq ?_
  refine ak_seq ?_
  refine ak_regionS (.cons rfl (ok_move (dlt rfl rfl) rfl rfl) (.cons rfl (ok_lss (dlt rfl rfl) rfl rfl rfl) (.cons rfl (ok_move (dlt rfl rfl) rfl rfl) (.consG (pre := []) (dlt rfl rfl) rfl rfl rfl rfl .nil (fun he => ok_move (dlt rfl rfl) rfl rfl) (.consG (pre := []) (dlt rfl rfl) rfl rfl rfl rfl .nil (fun he => ok_move (dlt rfl rfl) rfl rfl) (.consG (pre := [(12, .int .i64 a1), (13, .int .i64 a2)]) (dlt rfl rfl) rfl rfl rfl rfl (.cons rfl (fun he => he) (.cons rfl (fun he => he) .nil)) (fun he => ok_geq (dlt rfl rfl) rfl rfl rfl) (.cons rfl (ok_orW (dlt rfl rfl) rfl rfl rfl (fun h => (bnot_t h))) (.nil ?_))))))))
  refine ak_cond rfl (fun ht => ?_) (fun ht => ?_)
  ·have h := cond_t ht h
   refine ak_seq ?_
   refine ak_regionS (.cons rfl (ok_assign (dlt rfl rfl) rfl rfl) (.nil ?_))
   obtain rfl := Option.some.inj h
   refine ak_conv (Γ' := [(6, .bool false)]) (σ' := []) (.cons rfl (.refl _) (.nil _)) (.nil _) ?_
   exact ak_ret (fn := Tryz.f74) Tryz.func74 rfl trivial rfl
  ·have h := cond_f ht h
   refine ak_skip ?_
   refine ak_seq ?_
   obtain ⟨v1, hv1, h⟩ := bind_of h
   refine ak_regionS (.cons rfl (ok_loadVT (dlt rfl rfl) rfl ty49 rfl rfl (by decide) rfl) (.cons rfl (ok_move (dlt rfl rfl) rfl rfl) (.cons rfl (ok_call (xs := [.agg [.int .i64 a0.kind, .str a0.name, .int .i64 a0.index, .int .i64 a0.start, .int .i64 a0.stop, .bool a0.hasStart, .bool a0.hasEnd, .int .i64 a0.stride], .int .i64 a2]) (caps := []) (dlt rfl rfl) rfl rfl Tryz.func126 rfl rfl rfl (d126 hv1) rfl) (.cons rfl (ok_move (dlt rfl rfl) rfl rfl) (.cons rfl (ok_extract (dlt rfl rfl) rfl rfl rfl) (.cons rfl (ok_extract (dlt rfl rfl) rfl rfl rfl) (.cons rfl (ok_assign (dlt rfl rfl) rfl rfl) (.cons rfl (ok_assign (dlt rfl rfl) rfl rfl) (.nil ?_)))))))))
   refine ak_seq ?_
   refine ak_block ?_
   refine ak_seq ?_
   refine ak_regionS (.cons rfl (ok_fieldV (dlt rfl rfl) rfl fo49_0 ty3 (by decide) rfl) (.cons rfl (ok_loadV (dlt rfl rfl) rfl ty3 rfl rfl rfl) (.cons rfl (ok_eql (dlt rfl rfl) rfl rfl rfl) (.cons rfl (ok_assign (dlt rfl rfl) rfl rfl) (.nil ?_)))))
   refine ak_cond rfl (fun ht => ?_) (fun ht => ?_)
   ·have h := cond_t ht h
    refine ak_seq ?_
    obtain ⟨v2, hv2, h⟩ := bind_of h
    refine ak_regionS (.cons rfl (ok_fieldV (dlt rfl rfl) rfl fo49_2 ty3 (by decide) rfl) (.cons rfl (ok_loadV (dlt rfl rfl) rfl ty3 rfl rfl rfl) (.cons rfl (ok_move (dlt rfl rfl) rfl rfl) (.cons rfl (ok_call (xs := [.int .i64 a0.index, .int .i64 a2]) (caps := []) (dlt rfl rfl) rfl rfl Tryz.func127 rfl rfl rfl (d127 hv2) rfl) (.cons rfl (ok_move (dlt rfl rfl) rfl rfl) (.cons rfl (ok_eql (dlt rfl rfl) rfl rfl rfl) (.cons rfl (ok_assign (dlt rfl rfl) rfl rfl) (.nil ?_))))))))
    obtain rfl := Option.some.inj h
    refine ak_conv (Γ' := [(6, .bool (v2 == a1))]) (σ' := []) (.cons rfl (.refl _) (.nil _)) (.nil _) ?_
    exact ak_ret (fn := Tryz.f74) Tryz.func74 rfl trivial rfl
   ·have h := cond_f ht h
    refine ak_seq ?_
    refine ak_regionS (.cons rfl (ok_fieldV (dlt rfl rfl) rfl fo49_0 ty3 (by decide) rfl) (.cons rfl (ok_loadV (dlt rfl rfl) rfl ty3 rfl rfl rfl) (.cons rfl (ok_neq (dlt rfl rfl) rfl rfl rfl) (.cons rfl (ok_assign (dlt rfl rfl) rfl rfl) (.nil ?_)))))
    refine ak_cond rfl (fun ht => ?_) (fun ht => ?_)
    ·have h := cond_t ht h
     refine ak_seq ?_
     refine ak_regionS (.cons rfl (ok_assign (dlt rfl rfl) rfl rfl) (.nil ?_))
     obtain rfl := Option.some.inj h
     refine ak_conv (Γ' := [(6, .bool false)]) (σ' := []) (.cons rfl (.refl _) (.nil _)) (.nil _) ?_
     exact ak_ret (fn := Tryz.f74) Tryz.func74 rfl trivial rfl
    ·have h := cond_f ht h
     refine ak_seq ?_
     refine ak_regionS (.cons rfl (ok_fieldV (dlt rfl rfl) rfl fo49_7 ty3 (by decide) rfl) (.cons rfl (ok_loadV (dlt rfl rfl) rfl ty3 rfl rfl rfl) (.cons rfl (ok_gtr (dlt rfl rfl) rfl rfl rfl) (.cons rfl (ok_assign (dlt rfl rfl) rfl rfl) (.nil ?_)))))
     refine ak_cond rfl (fun ht => ?_) (fun ht => ?_)
     ·have h := cond_t ht h
      refine ak_seq ?_
      obtain ⟨v3, hv3, h⟩ := bind_of h
      refine ak_regionS (.cons rfl (ok_move (dlt rfl rfl) rfl rfl) (.cons rfl (ok_move (dlt rfl rfl) rfl rfl) (.cons rfl (ok_geq (dlt rfl rfl) rfl rfl rfl) (.cons rfl (ok_move (dlt rfl rfl) rfl rfl) (.consG (pre := []) (dlt rfl rfl) rfl rfl rfl rfl .nil (fun he => ok_move (dlt rfl rfl) rfl rfl) (.consG (pre := []) (dlt rfl rfl) rfl rfl rfl rfl .nil (fun he => ok_move (dlt rfl rfl) rfl rfl) (.consG (pre := [(44, .int .i64 a1), (45, .int .i64 v1.2)]) (dlt rfl rfl) rfl rfl rfl rfl (.cons rfl (fun he => he) (.cons rfl (fun he => he) .nil)) (fun he => ok_lss (dlt rfl rfl) rfl rfl rfl) (.cons rfl (ok_andW (dlt rfl rfl) rfl rfl rfl (fun h => h)) (.cons rfl (ok_move (dlt rfl rfl) rfl rfl) (.consG (pre := []) (dlt rfl rfl) rfl rfl rfl rfl .nil (fun he => ok_move (dlt rfl rfl) rfl rfl) (.consG (pre := []) (dlt rfl rfl) rfl rfl rfl rfl .nil (fun he => ok_move (dlt rfl rfl) rfl rfl) (.consG (pre := [(49, .int .i64 a1), (50, .int .i64 v1.1)]) (dlt rfl rfl) rfl rfl rfl rfl (.cons rfl (fun he => he) (.cons rfl (fun he => he) .nil)) (fun he => ok_sub (dlt rfl rfl) rfl rfl rfl) (.consG (pre := []) (dlt rfl rfl) rfl rfl rfl rfl .nil (fun he => ok_fieldV (dlt rfl rfl) rfl fo49_7 ty3 (by decide) rfl) (.consG (pre := [(52, .ref 3 7)]) (dlt rfl rfl) rfl rfl rfl rfl (.cons rfl (fun he => he) .nil) (fun he => ok_loadV (dlt rfl rfl) rfl ty3 rfl rfl rfl) (.consG (pre := [(51, .int .i64 (IntKind.wrap .i64 (a1 - v1.1))), (53, .int .i64 a0.stride)]) (dlt rfl rfl) rfl rfl rfl rfl (.cons rfl (fun he => he) (.cons rfl (fun he => he) .nil)) (fun he => ok_rem (dlt rfl rfl) rfl rfl rfl (need_of (gd_t hv3 he))) (.consG (pre := [(54, .int .i64 ((IntKind.wrap .i64 (a1 - v1.1)).tmod a0.stride))]) (dlt rfl rfl) rfl rfl rfl rfl (.cons rfl (fun he => he) .nil) (fun he => ok_eql (dlt rfl rfl) rfl rfl rfl) (.cons rfl (ok_andW (dlt rfl rfl) rfl rfl rfl (fun h => h)) (.cons rfl (ok_assign (dlt rfl rfl) rfl rfl) (.nil ?_)))))))))))))))))))
      obtain rfl := Option.some.inj h
      refine ak_conv (Γ' := [(6, .bool (((decide (v1.1 ≤ a1)) && (decide (a1 < v1.2))) && (((IntKind.wrap .i64 (a1 - v1.1)).tmod a0.stride) == (0 : Int))))]) (σ' := []) (.cons rfl (.refl _) (.nil _)) (.nil _) ?_
      exact ak_ret (fn := Tryz.f74) Tryz.func74 rfl trivial rfl
     ·have h := cond_f ht h
      refine ak_seq ?_
      refine ak_regionS (.cons rfl (ok_fieldV (dlt rfl rfl) rfl fo49_7 ty3 (by decide) rfl) (.cons rfl (ok_loadV (dlt rfl rfl) rfl ty3 rfl rfl rfl) (.cons rfl (ok_lss (dlt rfl rfl) rfl rfl rfl) (.cons rfl (ok_assign (dlt rfl rfl) rfl rfl) (.nil ?_)))))
      refine ak_cond rfl (fun ht => ?_) (fun ht => ?_)
      ·have h := cond_t ht h
       refine ak_seq ?_
       obtain ⟨v4, hv4, h⟩ := bind_of h
       refine ak_regionS (.cons rfl (ok_move (dlt rfl rfl) rfl rfl) (.cons rfl (ok_move (dlt rfl rfl) rfl rfl) (.cons rfl (ok_gtr (dlt rfl rfl) rfl rfl rfl) (.cons rfl (ok_move (dlt rfl rfl) rfl rfl) (.consG (pre := []) (dlt rfl rfl) rfl rfl rfl rfl .nil (fun he => ok_move (dlt rfl rfl) rfl rfl) (.consG (pre := []) (dlt rfl rfl) rfl rfl rfl rfl .nil (fun he => ok_move (dlt rfl rfl) rfl rfl) (.consG (pre := [(65, .int .i64 a1), (66, .int .i64 v1.2)]) (dlt rfl rfl) rfl rfl rfl rfl (.cons rfl (fun he => he) (.cons rfl (fun he => he) .nil)) (fun he => ok_leq (dlt rfl rfl) rfl rfl rfl) (.cons rfl (ok_andW (dlt rfl rfl) rfl rfl rfl (fun h => h)) (.cons rfl (ok_move (dlt rfl rfl) rfl rfl) (.consG (pre := []) (dlt rfl rfl) rfl rfl rfl rfl .nil (fun he => ok_move (dlt rfl rfl) rfl rfl) (.consG (pre := []) (dlt rfl rfl) rfl rfl rfl rfl .nil (fun he => ok_move (dlt rfl rfl) rfl rfl) (.consG (pre := [(70, .int .i64 v1.2), (71, .int .i64 a1)]) (dlt rfl rfl) rfl rfl rfl rfl (.cons rfl (fun he => he) (.cons rfl (fun he => he) .nil)) (fun he => ok_sub (dlt rfl rfl) rfl rfl rfl) (.consG (pre := []) (dlt rfl rfl) rfl rfl rfl rfl .nil (fun he => ok_fieldV (dlt rfl rfl) rfl fo49_7 ty3 (by decide) rfl) (.consG (pre := [(73, .ref 3 7)]) (dlt rfl rfl) rfl rfl rfl rfl (.cons rfl (fun he => he) .nil) (fun he => ok_loadV (dlt rfl rfl) rfl ty3 rfl rfl rfl) (.consG (pre := [(72, .int .i64 (IntKind.wrap .i64 (v1.2 - a1))), (74, .int .i64 a0.stride)]) (dlt rfl rfl) rfl rfl rfl rfl (.cons rfl (fun he => he) (.cons rfl (fun he => he) .nil)) (fun he => ok_rem (dlt rfl rfl) rfl rfl rfl (need_of (gd_t hv4 he))) (.consG (pre := [(75, .int .i64 ((IntKind.wrap .i64 (v1.2 - a1)).tmod a0.stride))]) (dlt rfl rfl) rfl rfl rfl rfl (.cons rfl (fun he => he) .nil) (fun he => ok_eql (dlt rfl rfl) rfl rfl rfl) (.cons rfl (ok_andW (dlt rfl rfl) rfl rfl rfl (fun h => h)) (.cons rfl (ok_assign (dlt rfl rfl) rfl rfl) (.nil ?_)))))))))))))))))))
       obtain rfl := Option.some.inj h
       refine ak_conv (Γ' := [(6, .bool (((decide (v1.1 < a1)) && (decide (a1 ≤ v1.2))) && (((IntKind.wrap .i64 (v1.2 - a1)).tmod a0.stride) == (0 : Int))))]) (σ' := []) (.cons rfl (.refl _) (.nil _)) (.nil _) ?_
       exact ak_ret (fn := Tryz.f74) Tryz.func74 rfl trivial rfl
      ·have h := cond_f ht h
       refine ak_skip ?_
       refine ak_inBlock ?_
       refine ak_seq ?_
       refine ak_regionS (.cons rfl (ok_assign (dlt rfl rfl) rfl rfl) (.nil ?_))
       obtain rfl := Option.some.inj h
       refine ak_conv (Γ' := [(6, .bool false)]) (σ' := []) (.cons rfl (.refl _) (.nil _)) (.nil _) ?_
       exact ak_ret (fn := Tryz.f74) Tryz.func74 rfl trivial rfl)
theorem d74 {a0 : ApiSelector} {a1 : Int} {a2 : Int} {r : Bool} (h : f74 (.e74 a0 a1 a2) = some r) : Does Tryz.prog GG 74 [.agg [.int .i64 a0.kind, .str a0.name, .int .i64 a0.index, .int .i64 a0.start, .int .i64 a0.stop, .bool a0.hasStart, .bool a0.hasEnd, .int .i64 a0.stride], .int .i64 a1, .int .i64 a2] [] (fun z _ => z = .bool r) := fn_of (fn := Tryz.f74) Tryz.func74 rfl Tryz.ntmps74 rfl (w74 _ _ h)
/-- riffle/slice.Hangs -/
noncomputable abbrev b188 : Code := codeOf Tryz.f188
inductive L188 where
 | e188 (a0 : ApiSelector)
noncomputable def f188 : L188 → Option Bool
 | .e188 a0 =>
  if (a0.kind == (2 : Int)) = true then
   some (decide (a0.index < (0 : Int)))
  else
   if (a0.kind == (3 : Int)) = true then
    some ((decide (a0.stride < (0 : Int))) || ((decide ((0 : Int) < a0.stride)) && ((a0.hasStart && (decide (a0.start < (0 : Int)))) || (a0.hasEnd && (decide (a0.stop < (0 : Int)))))))
   else
    some false
def M188 : L188 → Bool → Prop
 | .e188 a0, r => ∀ (w : World) (F : Nat → Prop) (ρ : Rho), AK Tryz.prog (ctx GG 38 w F ρ []) 188 [.code b188] (argE 0 [.agg [.int .i64 a0.kind, .str a0.name, .int .i64 a0.index, .int .i64 a0.start, .int .i64 a0.stop, .bool a0.hasStart, .bool a0.hasEnd, .int .i64 a0.stride]]) [] (fun z _ => z = .bool r)
theorem w188 : ∀ (l : L188) (r : Bool), f188 l = some r → M188 l r := (by
 intro l r h
 cases l with
 | e188 a0 =>
  intro w F ρ
  dsimp only [f188] at h
  refine ak_seq ?_
  refine ak_regionS (.cons rfl (ok_box (d := 1) (dlt rfl rfl) rfl rfl rfl rfl rfl) (.cons rfl (ok_assign (dlt rfl rfl) rfl rfl) (.nil ?_)))
  refine ak_seq ?_
  refine ak_seq ?_
  refine ak_regionS (.cons rfl (ok_fieldV (dlt rfl rfl) rfl fo49_0 ty3 (by decide) rfl) (.cons rfl (ok_loadV (dlt rfl rfl) rfl ty3 rfl rfl rfl) (.nil ?_)))
  refine ak_block ?_
  refine ak_seq ?_
  refine ak_regionS (.cons rfl (ok_eql (dlt rfl rfl) rfl rfl rfl) (.cons rfl (ok_assign (dlt rfl rfl) rfl rfl) (.nil ?_)))
  refine ak_cond rfl (fun ht => ?_) (fun ht => ?_)
  ·have h := cond_t ht h
   refine ak_seq ?_
   refine ak_regionS (.cons rfl (ok_fieldV (dlt rfl rfl) rfl fo49_2 ty3 (by decide) rfl) (.cons rfl (ok_loadV (dlt rfl rfl) rfl ty3 rfl rfl rfl) (.cons rfl (ok_lss (dlt rfl rfl) rfl rfl rfl) (.cons rfl (ok_assign (dlt rfl rfl) rfl rfl) (.nil ?_)))))
   obtain rfl := Option.some.inj h
   refine ak_conv (Γ' := [(2, .bool (decide (a0.index < (0 : Int))))]) (σ' := []) (.cons rfl (.refl _) (.nil _)) (.nil _) ?_
   exact ak_ret (fn := Tryz.f188) Tryz.func188 rfl trivial rfl
  ·have h := cond_f ht h
   refine ak_seq ?_
   refine ak_regionS (.cons rfl (ok_eql (dlt rfl rfl) rfl rfl rfl) (.cons rfl (ok_assign (dlt rfl rfl) rfl rfl) (.nil ?_)))
   refine ak_cond rfl (fun ht => ?_) (fun ht => ?_)
   ·have h := cond_t ht h
    refine ak_seq ?_
    refine ak_regionS (.cons rfl (ok_fieldV (dlt rfl rfl) rfl fo49_7 ty3 (by decide) rfl) (.cons rfl (ok_loadV (dlt rfl rfl) rfl ty3 rfl rfl rfl) (.cons rfl (ok_lss (dlt rfl rfl) rfl rfl rfl) (.cons rfl (ok_move (dlt rfl rfl) rfl rfl) (.consG (pre := []) (dlt rfl rfl) rfl rfl rfl rfl .nil (fun he => ok_fieldV (dlt rfl rfl) rfl fo49_7 ty3 (by decide) rfl) (.consG (pre := [(16, .ref 1 7)]) (dlt rfl rfl) rfl rfl rfl rfl (.cons rfl (fun he => he) .nil) (fun he => ok_loadV (dlt rfl rfl) rfl ty3 rfl rfl rfl) (.consG (pre := [(17, .int .i64 a0.stride)]) (dlt rfl rfl) rfl rfl rfl rfl (.cons rfl (fun he => he) .nil) (fun he => ok_gtr (dlt rfl rfl) rfl rfl rfl) (.consG (pre := [(18, .bool (decide ((0 : Int) < a0.stride)))]) (dlt rfl rfl) rfl rfl rfl rfl (.cons rfl (fun he => he) .nil) (fun he => ok_move (dlt rfl rfl) rfl rfl) (.consG (pre := []) (dlt rfl rfl) rfl rfl rfl rfl .nil (fun he => ok_fieldV (dlt rfl rfl) rfl fo49_5 ty4 (by decide) rfl) (.consG (pre := [(20, .ref 1 5)]) (dlt rfl rfl) rfl rfl rfl rfl (.cons rfl (fun he => he) .nil) (fun he => ok_loadV (dlt rfl rfl) rfl ty4 rfl rfl rfl) (.consG (pre := [(21, .bool a0.hasStart)]) (dlt rfl rfl) rfl rfl rfl rfl (.cons rfl (fun he => he) .nil) (fun he => ok_move (dlt rfl rfl) rfl rfl) (.consG (pre := []) (dlt rfl rfl) rfl rfl rfl rfl .nil (fun he => ok_fieldV (dlt rfl rfl) rfl fo49_3 ty3 (by decide) rfl) (.consG (pre := [(23, .ref 1 3)]) (dlt rfl rfl) rfl rfl rfl rfl (.cons rfl (fun he => he) .nil) (fun he => ok_loadV (dlt rfl rfl) rfl ty3 rfl rfl rfl) (.consG (pre := [(24, .int .i64 a0.start)]) (dlt rfl rfl) rfl rfl rfl rfl (.cons rfl (fun he => he) .nil) (fun he => ok_lss (dlt rfl rfl) rfl rfl rfl) (.consG (pre := [(22, .bool a0.hasStart)]) (dlt rfl rfl) rfl rfl rfl rfl (.cons rfl (fun he => he) .nil) (fun he => ok_andW (dlt rfl rfl) rfl rfl rfl (fun h => band_i he h)) (.consG (pre := [(26, .bool (a0.hasStart && (decide (a0.start < (0 : Int)))))]) (dlt rfl rfl) rfl rfl rfl rfl (.cons rfl (fun he => he) .nil) (fun he => ok_move (dlt rfl rfl) rfl rfl) (.consG (pre := []) (dlt rfl rfl) rfl rfl rfl rfl .nil (fun he => ok_fieldV (dlt rfl rfl) rfl fo49_6 ty4 (by decide) rfl) (.consG (pre := [(28, .ref 1 6)]) (dlt rfl rfl) rfl rfl rfl rfl (.cons rfl (fun he => he) .nil) (fun he => ok_loadV (dlt rfl rfl) rfl ty4 rfl rfl rfl) (.consG (pre := [(29, .bool a0.hasEnd)]) (dlt rfl rfl) rfl rfl rfl rfl (.cons rfl (fun he => he) .nil) (fun he => ok_move (dlt rfl rfl) rfl rfl) (.consG (pre := []) (dlt rfl rfl) rfl rfl rfl rfl .nil (fun he => ok_fieldV (dlt rfl rfl) rfl fo49_4 ty3 (by decide) rfl) (.consG (pre := [(31, .ref 1 4)]) (dlt rfl rfl) rfl rfl rfl rfl (.cons rfl (fun he => he) .nil) (fun he => ok_loadV (dlt rfl rfl) rfl ty3 rfl rfl rfl) (.consG (pre := [(32, .int .i64 a0.stop)]) (dlt rfl rfl) rfl rfl rfl rfl (.cons rfl (fun he => he) .nil) (fun he => ok_lss (dlt rfl rfl) rfl rfl rfl) (.consG (pre := [(30, .bool a0.hasEnd)]) (dlt rfl rfl) rfl rfl rfl rfl (.cons rfl (fun he => he) .nil) (fun he => ok_andW (dlt rfl rfl) rfl rfl rfl (fun h => band_i he h)) (.consG (pre := [(27, .bool (a0.hasStart && (decide (a0.start < (0 : Int)))))]) (dlt rfl rfl) rfl rfl rfl rfl (.cons rfl (fun he => he) .nil) (fun he => ok_orW (dlt rfl rfl) rfl rfl rfl (fun h => band_i he (bnot_t h))) (.consG (pre := [(19, .bool (decide ((0 : Int) < a0.stride)))]) (dlt rfl rfl) rfl rfl rfl rfl (.cons rfl (fun he => he) .nil) (fun he => ok_andW (dlt rfl rfl) rfl rfl rfl (fun h => band_i he h)) (.cons rfl (ok_orW (dlt rfl rfl) rfl rfl rfl (fun h => (bnot_t h))) (.cons rfl (ok_assign (dlt rfl rfl) rfl rfl) (.nil ?_))))))))))))))))))))))))))))
    obtain rfl := Option.some.inj h
    refine ak_conv (Γ' := [(2, .bool ((decide (a0.stride < (0 : Int))) || ((decide ((0 : Int) < a0.stride)) && ((a0.hasStart && (decide (a0.start < (0 : Int)))) || (a0.hasEnd && (decide (a0.stop < (0 : Int))))))))]) (σ' := []) (.cons rfl (.refl _) (.nil _)) (.nil _) ?_
    exact ak_ret (fn := Tryz.f188) Tryz.func188 rfl trivial rfl
   ·have h := cond_f ht h
    refine ak_skip ?_
    refine ak_inBlock ?_
    refine ak_seq ?_
    refine ak_regionS (.cons rfl (ok_assign (dlt rfl rfl) rfl rfl) (.nil ?_))
    obtain rfl := Option.some.inj h
    refine ak_conv (Γ' := [(2, .bool false)]) (σ' := []) (.cons rfl (.refl _) (.nil _)) (.nil _) ?_
    exact ak_ret (fn := Tryz.f188) Tryz.func188 rfl trivial rfl)
theorem d188 {a0 : ApiSelector} {r : Bool} (h : f188 (.e188 a0) = some r) : Does Tryz.prog GG 188 [.agg [.int .i64 a0.kind, .str a0.name, .int .i64 a0.index, .int .i64 a0.start, .int .i64 a0.stop, .bool a0.hasStart, .bool a0.hasEnd, .int .i64 a0.stride]] [] (fun z _ => z = .bool r) := fn_of (fn := Tryz.f188) Tryz.func188 rfl Tryz.ntmps188 rfl (w188 _ _ h)
end Go.Proofs.YtonlbdholdaifaaGreatDoor
end
section
set_option linter.unusedVariables false
set_option linter.unusedSimpArgs false
set_option maxRecDepth 10000
namespace Go.Proofs.YtonlbdholdaifaaGreatDoor
open Go Go.Rf Go.Proofs
/-- riffle/hang.meets -/
noncomputable abbrev b138 : Code := codeOf Tryz.f138
inductive L138 where
 | e138 (a0 : ApiValue) (a1 : Int) (a2 : ApiSelector)
noncomputable def f138 : L138 → Option (Bool × Int × Int)
 | .e138 a0 a1 a2 =>
  if (a0.kind == (5 : Int)) = true then
   gd ((!(a2.kind == (1 : Int))) && (a2.kind == (0 : Int))) (idx a0.names a1) >>= fun v1 =>
   some (((a2.kind == (1 : Int)) || ((a2.kind == (0 : Int)) && (v1 == a2.name))), 0, 9223372036854775807)
  else
   gd (!(a2.kind == (1 : Int))) (f74 (.e74 a2 a1 (a0.items.length : Int))) >>= fun v2 =>
   if (a0.kind != (4 : Int)) = true then
    some (false, 9223372036854775807, 9223372036854775807)
   else
    f188 (.e188 a2) >>= fun v3 =>
    if (!v3) = true then
     some (((a2.kind == (1 : Int)) || v2), 0, 9223372036854775807)
    else
     if (a0.to == (0 : Int)) = true then
      some (true, 9223372036854775807, 9223372036854775807)
     else
      if ((a2.kind == (1 : Int)) || v2) = true then
       some (true, a0.to, 9223372036854775807)
      else
       some (true, 9223372036854775807, a0.to)
def M138 : L138 → (Bool × Int × Int) → Prop
 | .e138 a0 a1 a2, r => ∀ (w : World) (F : Nat → Prop) (ρ : Rho), AK Tryz.prog (ctx GG 61 w F ρ []) 138 [.code b138] (argE 0 [.agg [.int .i64 a0.kind, .int .i64 a0.frm, .int .i64 a0.to, .str a0.text, .sl Ty.sApiValue a0.items, .sl Ty.str a0.names], .int .i64 a1, .agg [.int .i64 a2.kind, .str a2.name, .int .i64 a2.index, .int .i64 a2.start, .int .i64 a2.stop, .bool a2.hasStart, .bool a2.hasEnd, .int .i64 a2.stride]]) [] (fun z _ => z = .tup [.bool r.1, .int .i64 r.2.1, .int .i64 r.2.2])
theorem w138 : ∀ (l : L138) (r : Bool × Int × Int), f138 l = some r → M138 l r := (by
 intro l r h
 cases l with
 | e138 a0 a1 a2 =>
  intro w F ρ
  dsimp only [f138] at h
  refine ak_seq ?_
  refine ak_regionS (.cons rfl (ok_box (d := 3) (dlt rfl rfl) rfl rfl rfl rfl rfl) (.cons rfl (ok_box (d := 5) (dlt rfl rfl) rfl rfl rfl rfl rfl) (.cons rfl (ok_assign (dlt rfl rfl) rfl rfl) (.cons rfl (ok_assign (dlt rfl rfl) rfl rfl) (.cons rfl (ok_assign (dlt rfl rfl) rfl rfl) (.nil ?_))))))
  refine ak_seq ?_
  refine ak_seq ?_
  refine ak_regionS (.cons rfl (ok_fieldV (dlt rfl rfl) rfl fo29_0 ty3 (by decide) rfl) (.cons rfl (ok_loadV (dlt rfl rfl) rfl ty3 rfl rfl rfl) (.cons rfl (ok_eql (dlt rfl rfl) rfl rfl rfl) (.nil ?_))))
  refine ak_cond rfl (fun ht => ?_) (fun ht => ?_)
  ·have h := cond_t ht h
   refine ak_seq ?_
   obtain ⟨v1, hv1, h⟩ := bind_of h
   refine ak_drawL [⟨some 13, [(5, .ref 5 0)], none, true, .ref 5 0, [], []⟩,
  ⟨some 14, [(13, .ref 5 0)], none, true, .int .i64 a2.kind, [(5, .cells 49 [.int .i64 a2.kind, .str a2.name, .int .i64 a2.index, .int .i64 a2.start, .int .i64 a2.stop, .bool a2.hasStart, .bool a2.hasEnd, .int .i64 a2.stride])], []⟩,
  ⟨some 15, [(14, .int .i64 a2.kind)], none, true, .bool (a2.kind == (1 : Int)), [], []⟩,
  ⟨some 16, [(15, .bool (a2.kind == (1 : Int)))], none, true, .bool (a2.kind == (1 : Int)), [], []⟩,
  ⟨some 17, [(5, .ref 5 0)], some 16, (!(a2.kind == (1 : Int))), .ref 5 0, [], []⟩,
  ⟨some 18, [(17, .ref 5 0)], some 16, (!(a2.kind == (1 : Int))), .int .i64 a2.kind, [(5, .cells 49 [.int .i64 a2.kind, .str a2.name, .int .i64 a2.index, .int .i64 a2.start, .int .i64 a2.stop, .bool a2.hasStart, .bool a2.hasEnd, .int .i64 a2.stride])], []⟩,
  ⟨some 19, [(18, .int .i64 a2.kind)], some 16, (!(a2.kind == (1 : Int))), .bool (a2.kind == (0 : Int)), [], []⟩,
  ⟨some 20, [(19, .bool (a2.kind == (0 : Int)))], some 16, (!(a2.kind == (1 : Int))), .bool (a2.kind == (0 : Int)), [], []⟩,
  ⟨some 21, [(3, .ref 3 0)], some 20, ((!(a2.kind == (1 : Int))) && (a2.kind == (0 : Int))), .ref 3 5, [], []⟩,
  ⟨some 22, [(21, .ref 3 5)], some 20, ((!(a2.kind == (1 : Int))) && (a2.kind == (0 : Int))), .sl Ty.str a0.names, [(3, .cells 29 [.int .i64 a0.kind, .int .i64 a0.frm, .int .i64 a0.to, .str a0.text, .sl Ty.sApiValue a0.items, .sl Ty.str a0.names])], []⟩,
  ⟨some 23, [(1, .int .i64 a1)], some 20, ((!(a2.kind == (1 : Int))) && (a2.kind == (0 : Int))), .int .i64 a1, [], []⟩,
  ⟨some 24, [(22, .sl Ty.str a0.names), (23, .int .i64 a1)], some 20, ((!(a2.kind == (1 : Int))) && (a2.kind == (0 : Int))), .rp [.str v1], [], []⟩,
  ⟨some 25, [(24, .rp [.str v1])], some 20, ((!(a2.kind == (1 : Int))) && (a2.kind == (0 : Int))), .str v1, [], []⟩,
  ⟨some 26, [(5, .ref 5 0)], some 20, ((!(a2.kind == (1 : Int))) && (a2.kind == (0 : Int))), .ref 5 1, [], []⟩,
  ⟨some 27, [(26, .ref 5 1)], some 20, ((!(a2.kind == (1 : Int))) && (a2.kind == (0 : Int))), .str a2.name, [(5, .cells 49 [.int .i64 a2.kind, .str a2.name, .int .i64 a2.index, .int .i64 a2.start, .int .i64 a2.stop, .bool a2.hasStart, .bool a2.hasEnd, .int .i64 a2.stride])], []⟩,
  ⟨some 28, [(25, .str v1), (27, .str a2.name)], some 20, ((!(a2.kind == (1 : Int))) && (a2.kind == (0 : Int))), .bool (v1 == a2.name), [], []⟩,
  ⟨some 29, [(20, .bool (a2.kind == (0 : Int))), (28, .when ((!(a2.kind == (1 : Int))) && (a2.kind == (0 : Int))) (.bool (v1 == a2.name)))], some 16, (!(a2.kind == (1 : Int))), .bool ((a2.kind == (0 : Int)) && (v1 == a2.name)), [], []⟩,
  ⟨some 30, [(16, .bool (a2.kind == (1 : Int))), (29, .when (!(a2.kind == (1 : Int))) (.bool ((a2.kind == (0 : Int)) && (v1 == a2.name))))], none, true, .bool ((a2.kind == (1 : Int)) || ((a2.kind == (0 : Int)) && (v1 == a2.name))), [], []⟩,
  ⟨some 6, [(30, .bool ((a2.kind == (1 : Int)) || ((a2.kind == (0 : Int)) && (v1 == a2.name))))], none, true, .bool ((a2.kind == (1 : Int)) || ((a2.kind == (0 : Int)) && (v1 == a2.name))), [], []⟩,
  ⟨some 7, [], none, true, .int .i64 (0 : Int), [], []⟩,
  ⟨some 8, [], none, true, .int .i64 (9223372036854775807 : Int), [], []⟩] [[], [0], [0, 1], [0, 1, 2], [0, 1, 2, 3], [0, 1, 2, 3, 4], [0, 1, 2, 3, 4, 5], [0, 1, 2, 3, 4, 5, 6], [0, 1, 2, 3, 4, 5, 6, 7], [0, 1, 2, 3, 4, 5, 6, 7, 8], [0, 1, 2, 3, 4, 5, 6, 7], [0, 1, 2, 3, 4, 5, 6, 7, 8, 9, 10], [0, 1, 2, 3, 4, 5, 6, 7, 8, 9, 10, 11], [0, 1, 2, 3, 4, 5, 6, 7], [0, 1, 2, 3, 4, 5, 6, 7, 13], [0, 1, 2, 3, 4, 5, 6, 7, 8, 9, 10, 11, 12, 13, 14], [0, 1, 2, 3, 4, 5, 6, 7, 8, 9, 10, 11, 12, 13, 14, 15], [0, 1, 2, 3, 4, 5, 6, 7, 8, 9, 10, 11, 12, 13, 14, 15, 16], [0, 1, 2, 3, 4, 5, 6, 7, 8, 9, 10, 11, 12, 13, 14, 15, 16, 17], [0, 1, 2, 3, 4, 5, 6, 7, 8, 9, 10, 11, 12, 13, 14, 15, 16, 17, 18], [0, 1, 2, 3, 4, 5, 6, 7, 8, 9, 10, 11, 12, 13, 14, 15, 16, 17, 18, 19]] (by kernel_rfl) (by kernel_rfl) (.cons (qok (dlt rfl rfl) rfl (.same rfl .nil) (NeedQ.all .nil) (fun Γx σx => ok_fieldV (dlt rfl rfl) rfl fo49_0 ty3 (by decide) rfl)) (.cons (qok (dlt rfl rfl) rfl (.same rfl .nil) (NeedQ.all (.cons rfl .nil)) (fun Γx σx => ok_loadV (dlt rfl rfl) rfl ty3 rfl rfl rfl)) (.cons (qok (dlt rfl rfl) rfl (.same rfl .nil) (NeedQ.all .nil) (fun Γx σx => ok_eql (dlt rfl rfl) rfl rfl rfl)) (.cons (qok (dlt rfl rfl) rfl (.same rfl .nil) (NeedQ.all .nil) (fun Γx σx => ok_move (dlt rfl rfl) rfl rfl)) (.cons (qokG (dlt rfl rfl) rfl rfl rfl rfl (.same rfl .nil) (NeedQ.all .nil) (fun he Γx σx => ok_fieldV (dlt rfl rfl) rfl fo49_0 ty3 (by decide) rfl)) (.cons (qokG (dlt rfl rfl) rfl rfl rfl rfl (.when rfl (fun he => he) .nil) (NeedQ.all (.cons rfl .nil)) (fun he Γx σx => ok_loadV (dlt rfl rfl) rfl ty3 rfl rfl rfl)) (.cons (qokG (dlt rfl rfl) rfl rfl rfl rfl (.when rfl (fun he => he) .nil) (NeedQ.all .nil) (fun he Γx σx => ok_eql (dlt rfl rfl) rfl rfl rfl)) (.cons (qokG (dlt rfl rfl) rfl rfl rfl rfl (.when rfl (fun he => he) .nil) (NeedQ.all .nil) (fun he Γx σx => ok_move (dlt rfl rfl) rfl rfl)) (.cons (qokG (dlt rfl rfl) rfl rfl rfl rfl (.same rfl .nil) (NeedQ.all .nil) (fun he Γx σx => ok_fieldV (dlt rfl rfl) rfl fo29_5 ty27 (by decide) rfl)) (.cons (qokG (dlt rfl rfl) rfl rfl rfl rfl (.when rfl (fun he => he) .nil) (NeedQ.all (.cons rfl .nil)) (fun he Γx σx => ok_loadV (dlt rfl rfl) rfl ty27 rfl rfl rfl)) (.cons (qokG (dlt rfl rfl) rfl rfl rfl rfl (.same rfl .nil) (NeedQ.all .nil) (fun he Γx σx => ok_move (dlt rfl rfl) rfl rfl)) (.cons (qokG (dlt rfl rfl) rfl rfl rfl rfl (.when rfl (fun he => he) (.when rfl (fun he => he) .nil)) (NeedQ.all .nil) (fun he Γx σx => ok_indexS (τ := Ty.str) (x := v1) (dlt rfl rfl) rfl Tryz.underlying27 ty9 rfl rfl rfl (idx_0 (gd_t hv1 he)) (idx_1 (gd_t hv1 he)))) (.cons (qokG (dlt rfl rfl) rfl rfl rfl rfl (.when rfl (fun he => he) .nil) (NeedQ.all .nil) (fun he Γx σx => ok_loadR (dlt rfl rfl) rfl ty9 rfl rfl)) (.cons (qokG (dlt rfl rfl) rfl rfl rfl rfl (.same rfl .nil) (NeedQ.all .nil) (fun he Γx σx => ok_fieldV (dlt rfl rfl) rfl fo49_1 ty9 (by decide) rfl)) (.cons (qokG (dlt rfl rfl) rfl rfl rfl rfl (.when rfl (fun he => he) .nil) (NeedQ.all (.cons rfl .nil)) (fun he Γx σx => ok_loadV (dlt rfl rfl) rfl ty9 rfl rfl rfl)) (.cons (qokG (dlt rfl rfl) rfl rfl rfl rfl (.when rfl (fun he => he) (.when rfl (fun he => he) .nil)) (NeedQ.all .nil) (fun he Γx σx => ok_eqlS (dlt rfl rfl) rfl rfl rfl)) (.cons (qokG (dlt rfl rfl) rfl rfl rfl rfl (.when rfl (fun he => he) (.same rfl .nil)) (NeedQ.all .nil) (fun he Γx σx => ok_andW (dlt rfl rfl) rfl rfl rfl (fun h => band_i he h))) (.cons (qok (dlt rfl rfl) rfl (.same rfl (.same rfl .nil)) (NeedQ.all .nil) (fun Γx σx => ok_orW (dlt rfl rfl) rfl rfl rfl (fun h => (bnot_t h)))) (.cons (qok (dlt rfl rfl) rfl (.same rfl .nil) (NeedQ.all .nil) (fun Γx σx => ok_assign (dlt rfl rfl) rfl rfl)) (.cons (qok (dlt rfl rfl) rfl .nil (NeedQ.all .nil) (fun Γx σx => ok_assign (dlt rfl rfl) rfl rfl)) (.cons (qok (dlt rfl rfl) rfl .nil (NeedQ.all .nil) (fun Γx σx => ok_assign (dlt rfl rfl) rfl rfl)) (.nil _ _)))))))))))))))))))))) (.nil ?_)
   obtain rfl := Option.some.inj h
   refine ak_conv (Γ' := [(6, .bool ((a2.kind == (1 : Int)) || ((a2.kind == (0 : Int)) && (v1 == a2.name)))), (7, .int .i64 (0 : Int)), (8, .int .i64 (9223372036854775807 : Int))]) (σ' := []) (.cons rfl (.refl _) (.cons rfl (.refl _) (.cons rfl (.refl _) (.nil _)))) (.nil _) ?_
   exact ak_ret (fn := Tryz.f138) Tryz.func138 rfl trivial rfl
  ·have h := cond_f ht h
   refine ak_skip ?_
   refine ak_seq ?_
   obtain ⟨v2, hv2, h⟩ := bind_of h
   refine ak_regionS (.cons rfl (ok_fieldV (dlt rfl rfl) rfl fo49_0 ty3 (by decide) rfl) (.cons rfl (ok_loadV (dlt rfl rfl) rfl ty3 rfl rfl rfl) (.cons rfl (ok_eql (dlt rfl rfl) rfl rfl rfl) (.cons rfl (ok_move (dlt rfl rfl) rfl rfl) (.consG (pre := []) (dlt rfl rfl) rfl rfl rfl rfl .nil (fun he => ok_loadVT (dlt rfl rfl) rfl ty49 rfl rfl (by decide) rfl) (.consG (pre := []) (dlt rfl rfl) rfl rfl rfl rfl .nil (fun he => ok_move (dlt rfl rfl) rfl rfl) (.consG (pre := []) (dlt rfl rfl) rfl rfl rfl rfl .nil (fun he => ok_fieldV (dlt rfl rfl) rfl fo29_4 ty26 (by decide) rfl) (.consG (pre := [(37, .ref 3 4)]) (dlt rfl rfl) rfl rfl rfl rfl (.cons rfl (fun he => he) .nil) (fun he => ok_loadV (dlt rfl rfl) rfl ty26 rfl rfl rfl) (.consG (pre := [(38, .sl Ty.sApiValue a0.items)]) (dlt rfl rfl) rfl rfl rfl rfl (.cons rfl (fun he => he) .nil) (fun he => ok_lenS (τ := Ty.sApiValue) (xs := a0.items) (dlt rfl rfl) rfl Tryz.underlying26 rfl) (.consG (pre := [(35, .agg [.int .i64 a2.kind, .str a2.name, .int .i64 a2.index, .int .i64 a2.start, .int .i64 a2.stop, .bool a2.hasStart, .bool a2.hasEnd, .int .i64 a2.stride]), (36, .int .i64 a1), (39, .int .i64 (a0.items.length : Int))]) (dlt rfl rfl) rfl rfl rfl rfl (.cons rfl (fun he => he) (.cons rfl (fun he => he) (.cons rfl (fun he => he) .nil))) (fun he => ok_call (xs := [.agg [.int .i64 a2.kind, .str a2.name, .int .i64 a2.index, .int .i64 a2.start, .int .i64 a2.stop, .bool a2.hasStart, .bool a2.hasEnd, .int .i64 a2.stride], .int .i64 a1, .int .i64 (a0.items.length : Int)]) (caps := []) (dlt rfl rfl) rfl rfl Tryz.func74 rfl rfl rfl (d74 (gd_t hv2 he)) rfl) (.cons rfl (ok_orW (dlt rfl rfl) rfl rfl rfl (fun h => (bnot_t h))) (.cons rfl (ok_assign (dlt rfl rfl) rfl rfl) (.nil ?_)))))))))))))
   refine ak_seq ?_
   refine ak_block ?_
   refine ak_seq ?_
   refine ak_regionS (.cons rfl (ok_fieldV (dlt rfl rfl) rfl fo29_0 ty3 (by decide) rfl) (.cons rfl (ok_loadV (dlt rfl rfl) rfl ty3 rfl rfl rfl) (.cons rfl (ok_neq (dlt rfl rfl) rfl rfl rfl) (.cons rfl (ok_assign (dlt rfl rfl) rfl rfl) (.nil ?_)))))
   refine ak_cond rfl (fun ht => ?_) (fun ht => ?_)
   ·have h := cond_t ht h
    refine ak_seq ?_
    refine ak_regionS (.cons rfl (ok_assign (dlt rfl rfl) rfl rfl) (.cons rfl (ok_assign (dlt rfl rfl) rfl rfl) (.cons rfl (ok_assign (dlt rfl rfl) rfl rfl) (.nil ?_))))
    obtain rfl := Option.some.inj h
    refine ak_conv (Γ' := [(6, .bool false), (7, .int .i64 (9223372036854775807 : Int)), (8, .int .i64 (9223372036854775807 : Int))]) (σ' := []) (.cons rfl (.refl _) (.cons rfl (.refl _) (.cons rfl (.refl _) (.nil _)))) (.nil _) ?_
    exact ak_ret (fn := Tryz.f138) Tryz.func138 rfl trivial rfl
   ·have h := cond_f ht h
    refine ak_seq ?_
    obtain ⟨v3, hv3, h⟩ := bind_of h
    refine ak_regionS (.cons rfl (ok_loadVT (dlt rfl rfl) rfl ty49 rfl rfl (by decide) rfl) (.cons rfl (ok_call (xs := [.agg [.int .i64 a2.kind, .str a2.name, .int .i64 a2.index, .int .i64 a2.start, .int .i64 a2.stop, .bool a2.hasStart, .bool a2.hasEnd, .int .i64 a2.stride]]) (caps := []) (dlt rfl rfl) rfl rfl Tryz.func188 rfl rfl rfl (d188 hv3) rfl) (.cons rfl (ok_not (dlt rfl rfl) rfl rfl) (.cons rfl (ok_assign (dlt rfl rfl) rfl rfl) (.nil ?_)))))
    refine ak_cond rfl (fun ht => ?_) (fun ht => ?_)
    ·have h := cond_t ht h
     refine ak_seq ?_
     refine ak_regionS (.cons rfl (ok_move (dlt rfl rfl) rfl rfl) (.cons rfl (ok_assign (dlt rfl rfl) rfl rfl) (.cons rfl (ok_assign (dlt rfl rfl) rfl rfl) (.cons rfl (ok_assign (dlt rfl rfl) rfl rfl) (.nil ?_)))))
     obtain rfl := Option.some.inj h
     refine ak_conv (Γ' := [(6, .bool ((a2.kind == (1 : Int)) || v2)), (7, .int .i64 (0 : Int)), (8, .int .i64 (9223372036854775807 : Int))]) (σ' := []) (.cons rfl (.refl _) (.cons rfl (.refl _) (.cons rfl (.refl _) (.nil _)))) (.nil _) ?_
     exact ak_ret (fn := Tryz.f138) Tryz.func138 rfl trivial rfl
    ·have h := cond_f ht h
     refine ak_seq ?_
     refine ak_regionS (.cons rfl (ok_fieldV (dlt rfl rfl) rfl fo29_2 ty3 (by decide) rfl) (.cons rfl (ok_loadV (dlt rfl rfl) rfl ty3 rfl rfl rfl) (.cons rfl (ok_eql (dlt rfl rfl) rfl rfl rfl) (.cons rfl (ok_assign (dlt rfl rfl) rfl rfl) (.nil ?_)))))
     refine ak_cond rfl (fun ht => ?_) (fun ht => ?_)
     ·have h := cond_t ht h
      refine ak_seq ?_
      refine ak_regionS (.cons rfl (ok_assign (dlt rfl rfl) rfl rfl) (.cons rfl (ok_assign (dlt rfl rfl) rfl rfl) (.cons rfl (ok_assign (dlt rfl rfl) rfl rfl) (.nil ?_))))
      obtain rfl := Option.some.inj h
      refine ak_conv (Γ' := [(6, .bool true), (7, .int .i64 (9223372036854775807 : Int)), (8, .int .i64 (9223372036854775807 : Int))]) (σ' := []) (.cons rfl (.refl _) (.cons rfl (.refl _) (.cons rfl (.refl _) (.nil _)))) (.nil _) ?_
      exact ak_ret (fn := Tryz.f138) Tryz.func138 rfl trivial rfl
     ·have h := cond_f ht h
      refine ak_seq ?_
      refine ak_regionS (.cons rfl (ok_move (dlt rfl rfl) rfl rfl) (.cons rfl (ok_assign (dlt rfl rfl) rfl rfl) (.nil ?_)))
      refine ak_cond rfl (fun ht => ?_) (fun ht => ?_)
      ·have h := cond_t ht h
       refine ak_seq ?_
       refine ak_drawL [⟨some 57, [(3, .ref 3 0)], none, true, .ref 3 2, [], []⟩,
  ⟨some 58, [(57, .ref 3 2)], none, true, .int .i64 a0.to, [(3, .cells 29 [.int .i64 a0.kind, .int .i64 a0.frm, .int .i64 a0.to, .str a0.text, .sl Ty.sApiValue a0.items, .sl Ty.str a0.names])], []⟩,
  ⟨some 6, [], none, true, .bool true, [], []⟩,
  ⟨some 7, [(58, .int .i64 a0.to)], none, true, .int .i64 a0.to, [], []⟩,
  ⟨some 8, [], none, true, .int .i64 (9223372036854775807 : Int), [], []⟩] [[], [0], [], [0, 1, 2], [0, 1, 2, 3]] (by kernel_rfl) (by kernel_rfl) (.cons (qok (dlt rfl rfl) rfl (.same rfl .nil) (NeedQ.all .nil) (fun Γx σx => ok_fieldV (dlt rfl rfl) rfl fo29_2 ty3 (by decide) rfl)) (.cons (qok (dlt rfl rfl) rfl (.same rfl .nil) (NeedQ.all (.cons rfl .nil)) (fun Γx σx => ok_loadV (dlt rfl rfl) rfl ty3 rfl rfl rfl)) (.cons (qok (dlt rfl rfl) rfl .nil (NeedQ.all .nil) (fun Γx σx => ok_assign (dlt rfl rfl) rfl rfl)) (.cons (qok (dlt rfl rfl) rfl (.same rfl .nil) (NeedQ.all .nil) (fun Γx σx => ok_assign (dlt rfl rfl) rfl rfl)) (.cons (qok (dlt rfl rfl) rfl .nil (NeedQ.all .nil) (fun Γx σx => ok_assign (dlt rfl rfl) rfl rfl)) (.nil _ _)))))) (.nil ?_)
       obtain rfl := Option.some.inj h
       refine ak_conv (Γ' := [(6, .bool true), (7, .int .i64 a0.to), (8, .int .i64 (9223372036854775807 : Int))]) (σ' := []) (.cons rfl (.refl _) (.cons rfl (.refl _) (.cons rfl (.refl _) (.nil _)))) (.nil _) ?_
       exact ak_ret (fn := Tryz.f138) Tryz.func138 rfl trivial rfl
      ·have h := cond_f ht h
       refine ak_skip ?_
       refine ak_inBlock ?_
       refine ak_seq ?_
       refine ak_drawL [⟨some 59, [(3, .ref 3 0)], none, true, .ref 3 2, [], []⟩,
  ⟨some 60, [(59, .ref 3 2)], none, true, .int .i64 a0.to, [(3, .cells 29 [.int .i64 a0.kind, .int .i64 a0.frm, .int .i64 a0.to, .str a0.text, .sl Ty.sApiValue a0.items, .sl Ty.str a0.names])], []⟩,
  ⟨some 6, [], none, true, .bool true, [], []⟩,
  ⟨some 7, [], none, true, .int .i64 (9223372036854775807 : Int), [], []⟩,
  ⟨some 8, [(60, .int .i64 a0.to)], none, true, .int .i64 a0.to, [], []⟩] [[], [0], [], [2], [0, 1, 2, 3]] (by kernel_rfl) (by kernel_rfl) (.cons (qok (dlt rfl rfl) rfl (.same rfl .nil) (NeedQ.all .nil) (fun Γx σx => ok_fieldV (dlt rfl rfl) rfl fo29_2 ty3 (by decide) rfl)) (.cons (qok (dlt rfl rfl) rfl (.same rfl .nil) (NeedQ.all (.cons rfl .nil)) (fun Γx σx => ok_loadV (dlt rfl rfl) rfl ty3 rfl rfl rfl)) (.cons (qok (dlt rfl rfl) rfl .nil (NeedQ.all .nil) (fun Γx σx => ok_assign (dlt rfl rfl) rfl rfl)) (.cons (qok (dlt rfl rfl) rfl .nil (NeedQ.all .nil) (fun Γx σx => ok_assign (dlt rfl rfl) rfl rfl)) (.cons (qok (dlt rfl rfl) rfl (.same rfl .nil) (NeedQ.all .nil) (fun Γx σx => ok_assign (dlt rfl rfl) rfl rfl)) (.nil _ _)))))) (.nil ?_)
       obtain rfl := Option.some.inj h
       refine ak_conv (Γ' := [(6, .bool true), (7, .int .i64 (9223372036854775807 : Int)), (8, .int .i64 a0.to)]) (σ' := []) (.cons rfl (.refl _) (.cons rfl (.refl _) (.cons rfl (.refl _) (.nil _)))) (.nil _) ?_
       exact ak_ret (fn := Tryz.f138) Tryz.func138 rfl trivial rfl)
theorem d138 {a0 : ApiValue} {a1 : Int} {a2 : ApiSelector} {r : Bool × Int × Int} (h : f138 (.e138 a0 a1 a2) = some r) : Does Tryz.prog GG 138 [.agg [.int .i64 a0.kind, .int .i64 a0.frm, .int .i64 a0.to, .str a0.text, .sl Ty.sApiValue a0.items, .sl Ty.str a0.names], .int .i64 a1, .agg [.int .i64 a2.kind, .str a2.name, .int .i64 a2.index, .int .i64 a2.start, .int .i64 a2.stop, .bool a2.hasStart, .bool a2.hasEnd, .int .i64 a2.stride]] [] (fun z _ => z = .tup [.bool r.1, .int .i64 r.2.1, .int .i64 r.2.2]) := fn_of (fn := Tryz.f138) Tryz.func138 rfl Tryz.ntmps138 rfl (w138 _ _ h)
/-- (riffle/hang.Fate).both -/
noncomputable abbrev b139 : Code := codeOf Tryz.f139
inductive L139 where
 | e139 (a0 : HangFate) (a1 : Int) (a2 : Int)
noncomputable def f139 : L139 → Option HangFate
 | .e139 a0 a1 a2 =>
  some (⟨a0.may, gmax a0.holds a1, gmin a0.fails a2⟩ : HangFate)
def M139 : L139 → HangFate → Prop
 | .e139 a0 a1 a2, r => ∀ (w : World) (F : Nat → Prop) (ρ : Rho), AK Tryz.prog (ctx GG 18 w F ρ []) 139 [.code b139] (argE 0 [.agg [.bool a0.may, .int .i64 a0.holds, .int .i64 a0.fails], .int .i64 a1, .int .i64 a2]) [] (fun z _ => z = .agg [.bool r.may, .int .i64 r.holds, .int .i64 r.fails])
theorem w139 : ∀ (l : L139) (r : HangFate), f139 l = some r → M139 l r := (by
 intro l r h
 cases l with
 | e139 a0 a1 a2 =>
  intro w F ρ
  dsimp only [f139] at h
  refine ak_seq ?_
  refine ak_regionS (.cons rfl (ok_box (d := 3) (dlt rfl rfl) rfl rfl rfl rfl rfl) (.cons rfl (ok_alloc (d := 6) (dlt rfl rfl) rfl ty67 rfl rfl rfl) (.nil ?_)))
  refine ak_seq ?_
  refine ak_regionS (.cons rfl (ok_fieldV (dlt rfl rfl) rfl fo67_0 ty4 (by decide) rfl) (.cons rfl (ok_loadV (dlt rfl rfl) rfl ty4 rfl rfl rfl) (.cons rfl (ok_fieldV (dlt rfl rfl) rfl fo67_1 ty3 (by decide) rfl) (.cons rfl (ok_loadV (dlt rfl rfl) rfl ty3 rfl rfl rfl) (.cons rfl (ok_move (dlt rfl rfl) rfl rfl) (.cons rfl (ok_max (dlt rfl rfl) rfl rfl rfl) (.cons rfl (ok_fieldV (dlt rfl rfl) rfl fo67_2 ty3 (by decide) rfl) (.cons rfl (ok_loadV (dlt rfl rfl) rfl ty3 rfl rfl rfl) (.cons rfl (ok_move (dlt rfl rfl) rfl rfl) (.cons rfl (ok_min (dlt rfl rfl) rfl rfl rfl) (.cons rfl (ok_build (dlt rfl rfl) rfl ty67 rfl pl67 rfl rfl rfl) (.cons rfl (ok_storeV rfl rfl ty67 rfl rfl rfl rfl (by decide) rfl rfl) (.nil ?_)))))))))))))
  obtain rfl := Option.some.inj h
  refine ak_conv (Γ' := [(6, .ref 6 0)]) (σ' := [(6, .cells 67 [.bool ((⟨a0.may, gmax a0.holds a1, gmin a0.fails a2⟩ : HangFate).may), .int .i64 ((⟨a0.may, gmax a0.holds a1, gmin a0.fails a2⟩ : HangFate).holds), .int .i64 ((⟨a0.may, gmax a0.holds a1, gmin a0.fails a2⟩ : HangFate).fails)])]) (.cons rfl (.refl _) (.nil _)) (.cons rfl (.refl _) (.nil _)) ?_
  exact ak_ret (fn := Tryz.f139) Tryz.func139 rfl ⟨⟨_, _, _, _, _, _, rfl, rfl, ty67⟩, trivial⟩ rfl)
theorem d139 {a0 : HangFate} {a1 : Int} {a2 : Int} {r : HangFate} (h : f139 (.e139 a0 a1 a2) = some r) : Does Tryz.prog GG 139 [.agg [.bool a0.may, .int .i64 a0.holds, .int .i64 a0.fails], .int .i64 a1, .int .i64 a2] [] (fun z _ => z = .agg [.bool r.may, .int .i64 r.holds, .int .i64 r.fails]) := fn_of (fn := Tryz.f139) Tryz.func139 rfl Tryz.ntmps139 rfl (w139 _ _ h)
end Go.Proofs.YtonlbdholdaifaaGreatDoor
end
section
set_option linter.unusedVariables false
set_option linter.unusedSimpArgs false
set_option maxRecDepth 10000
namespace Go.Proofs.YtonlbdholdaifaaGreatDoor
open Go Go.Rf Go.Proofs
/-- riffle/hang.down -/
noncomputable abbrev b85 : Code := codeOf Tryz.f85
inductive L85 where
 | e85 (a0 : ApiValue) (a1 : Int) (a2 : List ApiSegment) (a3 : List HangFate)
 | l85_0 (a0 : Int) (a1 : List ApiSegment) (a2 : List HangFate) (a3 : Int) (a4 : Int) (a5 : List HangFate) (a6 : ApiValue)
 | l85_1 (a0 : Int) (a1 : List ApiSegment) (a2 : List HangFate) (a3 : Int) (a4 : Int) (a5 : List HangFate) (a6 : ApiValue)
 | l85_2 (a0 : Int) (a1 : List ApiSegment) (a2 : List HangFate) (a3 : Int) (a4 : Int) (a5 : List HangFate) (a6 : ApiValue)
 | l85_3 (a0 : Int) (a1 : List ApiSegment) (a2 : Int) (a3 : List HangFate) (a4 : Int) (a5 : Int) (a6 : List HangFate) (a7 : HangFate) (a8 : ApiValue)
 | l85_4 (a0 : Int) (a1 : List ApiSegment) (a2 : Int) (a3 : List HangFate) (a4 : Int) (a5 : Int) (a6 : List ApiSelector) (a7 : Int) (a8 : Int) (a9 : List HangFate) (a10 : HangFate) (a11 : ApiValue)
 | l85_5 (a0 : Int) (a1 : List ApiSegment) (a2 : Int) (a3 : List HangFate) (a4 : Int) (a5 : Int) (a6 : List ApiSelector) (a7 : Int) (a8 : Int) (a9 : List HangFate) (a10 : HangFate) (a11 : ApiValue)
noncomputable def f85 : L85 → Option (List HangFate)
 | .e85 a0 a1 a2 a3 =>
  need (0 ≤ (a3.length : Int) ∧ (24 : Int) * (a3.length : Int) ≤ 281474976710656 ∧ (a3.length : Int) ≤ 9223372036854775807) >>= fun v1 =>
  f85 (.l85_0 a1 a2 a3 ((List.replicate ((a3.length : Int) : Int).toNat (⟨false, 0, 0⟩ : HangFate)).length : Int) (0 : Int) (List.replicate ((a3.length : Int) : Int).toNat (⟨false, 0, 0⟩ : HangFate)) a0)
 | .l85_0 a0 a1 a2 a3 a4 a5 a6 =>
  if (decide (a4 < a3)) = true then
   f83 (.e83) >>= fun v2 =>
   idx a5 a4 >>= fun v3 =>
   f85 (.l85_0 a0 a1 a2 a3 (IntKind.wrap .i64 (a4 + (1 : Int))) (a5.set (a4 : Int).toNat v2) a6)
  else
   f85 (.l85_1 a0 a1 a2 (a2.length : Int) (0 : Int) a5 a6)
 | .l85_1 a0 a1 a2 a3 a4 a5 a6 =>
  if (decide (a4 < a3)) = true then
   idx a2 a4 >>= fun v4 =>
   if ((!v4.may) || (a4 == (a1.length : Int))) = true then
    f85 (.l85_2 a0 a1 a2 a3 a4 a5 a6)
   else
    idx a1 a4 >>= fun v5 =>
    if v5.deep = true then
     idx a5 a4 >>= fun v6 =>
     f137 (.e137 v6 v4) >>= fun v7 =>
     idx a5 a4 >>= fun v8 =>
     f85 (.l85_3 a0 a1 a4 a2 a3 a4 (a5.set (a4 : Int).toNat v7) v4 a6)
    else
     f85 (.l85_3 a0 a1 a4 a2 a3 a4 a5 v4 a6)
  else
   some a5
 | .l85_2 a0 a1 a2 a3 a4 a5 a6 =>
  f85 (.l85_1 a0 a1 a2 a3 (IntKind.wrap .i64 (a4 + (1 : Int))) a5 a6)
 | .l85_3 a0 a1 a2 a3 a4 a5 a6 a7 a8 =>
  idx a1 a2 >>= fun v9 =>
  f85 (.l85_4 a0 a1 a2 a3 a4 a5 v9.selectors (v9.selectors.length : Int) (0 : Int) a6 a7 a8)
 | .l85_4 a0 a1 a2 a3 a4 a5 a6 a7 a8 a9 a10 a11 =>
  if (decide (a8 < a7)) = true then
   idx a6 a8 >>= fun v10 =>
   f138 (.e138 a11 a0 v10) >>= fun v11 =>
   if v11.1 = true then
    idx a9 (IntKind.wrap .i64 (a2 + (1 : Int))) >>= fun v12 =>
    f139 (.e139 a10 v11.2.1 v11.2.2) >>= fun v13 =>
    f137 (.e137 v12 v13) >>= fun v14 =>
    idx a9 (IntKind.wrap .i64 (a2 + (1 : Int))) >>= fun v15 =>
    f85 (.l85_5 a0 a1 a2 a3 a4 a5 a6 a7 a8 (a9.set (IntKind.wrap .i64 (a2 + (1 : Int)) : Int).toNat v14) a10 a11)
   else
    f85 (.l85_5 a0 a1 a2 a3 a4 a5 a6 a7 a8 a9 a10 a11)
  else
   f85 (.l85_1 a0 a1 a3 a4 (IntKind.wrap .i64 (a5 + (1 : Int))) a9 a11)
 | .l85_5 a0 a1 a2 a3 a4 a5 a6 a7 a8 a9 a10 a11 =>
  f85 (.l85_4 a0 a1 a2 a3 a4 a5 a6 a7 (IntKind.wrap .i64 (a8 + (1 : Int))) a9 a10 a11)
 partial_fixpoint
def M85 : L85 → (List HangFate) → Prop
 | .e85 a0 a1 a2 a3, r => ∀ (w : World) (F : Nat → Prop) (ρ : Rho), AK Tryz.prog (ctx GG 97 w F ρ []) 85 [.code b85] (argE 0 [.agg [.int .i64 a0.kind, .int .i64 a0.frm, .int .i64 a0.to, .str a0.text, .sl Ty.sApiValue a0.items, .sl Ty.str a0.names], .int .i64 a1, .sl Ty.sApiSegment a2, .sl Ty.sHangFate a3]) [] (fun z _ => z = .sl Ty.sHangFate r)
 | .l85_0 a0 a1 a2 a3 a4 a5 a6, r => ∀ (w : World) (F : Nat → Prop) (ρ : Rho), AK Tryz.prog (ctx GG 97 w F ρ []) 85 [.code (c1 (c1 (c2 (c1 (c2 (c2 b85)))))), .inLoop (c1 (c1 (c2 (c1 (c2 (c2 b85)))))), .inBlock 0, .code (c2 (c2 (c2 b85)))] [(1, .int .i64 a0), (2, .sl Ty.sApiSegment a1), (3, .sl Ty.sHangFate a2), (4, .ref 4 0), (9, .mf 3 2020), (22, .int .i64 a3), (23, .int .i64 a4)] [(2020, .arr 67 Ty.sHangFate a5), (4, .cells 29 [.int .i64 a6.kind, .int .i64 a6.frm, .int .i64 a6.to, .str a6.text, .sl Ty.sApiValue a6.items, .sl Ty.str a6.names])] (fun z _ => z = .sl Ty.sHangFate r)
 | .l85_1 a0 a1 a2 a3 a4 a5 a6, r => ∀ (w : World) (F : Nat → Prop) (ρ : Rho), AK Tryz.prog (ctx GG 97 w F ρ []) 85 [.code (c1 (c1 (c2 (c1 (c2 (c2 (c2 b85))))))), .inLoop (c1 (c1 (c2 (c1 (c2 (c2 (c2 b85))))))), .inBlock 2, .code (c2 (c2 (c2 (c2 b85))))] [(1, .int .i64 a0), (2, .sl Ty.sApiSegment a1), (4, .ref 4 0), (9, .mf 3 2020), (31, .sl Ty.sHangFate a2), (32, .int .i64 a3), (33, .int .i64 a4)] [(2020, .arr 67 Ty.sHangFate a5), (4, .cells 29 [.int .i64 a6.kind, .int .i64 a6.frm, .int .i64 a6.to, .str a6.text, .sl Ty.sApiValue a6.items, .sl Ty.str a6.names])] (fun z _ => z = .sl Ty.sHangFate r)
 | .l85_2 a0 a1 a2 a3 a4 a5 a6, r => ∀ (w : World) (F : Nat → Prop) (ρ : Rho), AK Tryz.prog (ctx GG 97 w F ρ []) 85 [.code (c2 (c2 (c2 (c1 (c1 (c2 (c1 (c2 (c2 (c2 b85)))))))))), .inLoop (c1 (c1 (c2 (c1 (c2 (c2 (c2 b85))))))), .inBlock 2, .code (c2 (c2 (c2 (c2 b85))))] [(1, .int .i64 a0), (2, .sl Ty.sApiSegment a1), (4, .ref 4 0), (9, .mf 3 2020), (31, .sl Ty.sHangFate a2), (32, .int .i64 a3), (33, .int .i64 a4)] [(2020, .arr 67 Ty.sHangFate a5), (4, .cells 29 [.int .i64 a6.kind, .int .i64 a6.frm, .int .i64 a6.to, .str a6.text, .sl Ty.sApiValue a6.items, .sl Ty.str a6.names])] (fun z _ => z = .sl Ty.sHangFate r)
 | .l85_3 a0 a1 a2 a3 a4 a5 a6 a7 a8, r => ∀ (w : World) (F : Nat → Prop) (ρ : Rho), AK Tryz.prog (ctx GG 97 w F ρ []) 85 [.code (c2 (c2 (c2 (c1 (c1 (c2 (c2 (c1 (c1 (c2 (c1 (c2 (c2 (c2 b85)))))))))))))), .inBlock 3, .code (c2 (c2 (c2 (c1 (c1 (c2 (c1 (c2 (c2 (c2 b85)))))))))), .inLoop (c1 (c1 (c2 (c1 (c2 (c2 (c2 b85))))))), .inBlock 2, .code (c2 (c2 (c2 (c2 b85))))] [(1, .int .i64 a0), (2, .sl Ty.sApiSegment a1), (4, .ref 4 0), (9, .mf 3 2020), (11, .int .i64 a2), (12, .ref 12 0), (31, .sl Ty.sHangFate a3), (32, .int .i64 a4), (33, .int .i64 a5)] [(2020, .arr 67 Ty.sHangFate a6), (12, .cells 67 [.bool a7.may, .int .i64 a7.holds, .int .i64 a7.fails]), (4, .cells 29 [.int .i64 a8.kind, .int .i64 a8.frm, .int .i64 a8.to, .str a8.text, .sl Ty.sApiValue a8.items, .sl Ty.str a8.names])] (fun z _ => z = .sl Ty.sHangFate r)
 | .l85_4 a0 a1 a2 a3 a4 a5 a6 a7 a8 a9 a10 a11, r => ∀ (w : World) (F : Nat → Prop) (ρ : Rho), AK Tryz.prog (ctx GG 97 w F ρ []) 85 [.code (c1 (c1 (c2 (c2 (c2 (c2 (c1 (c1 (c2 (c2 (c1 (c1 (c2 (c1 (c2 (c2 (c2 b85))))))))))))))))), .inLoop (c1 (c1 (c2 (c2 (c2 (c2 (c1 (c1 (c2 (c2 (c1 (c1 (c2 (c1 (c2 (c2 (c2 b85))))))))))))))))), .inBlock 4, .inBlock 3, .code (c2 (c2 (c2 (c1 (c1 (c2 (c1 (c2 (c2 (c2 b85)))))))))), .inLoop (c1 (c1 (c2 (c1 (c2 (c2 (c2 b85))))))), .inBlock 2, .code (c2 (c2 (c2 (c2 b85))))] [(1, .int .i64 a0), (2, .sl Ty.sApiSegment a1), (4, .ref 4 0), (9, .mf 3 2020), (11, .int .i64 a2), (12, .ref 12 0), (31, .sl Ty.sHangFate a3), (32, .int .i64 a4), (33, .int .i64 a5), (65, .sl Ty.sApiSelector a6), (66, .int .i64 a7), (67, .int .i64 a8)] [(2020, .arr 67 Ty.sHangFate a9), (12, .cells 67 [.bool a10.may, .int .i64 a10.holds, .int .i64 a10.fails]), (4, .cells 29 [.int .i64 a11.kind, .int .i64 a11.frm, .int .i64 a11.to, .str a11.text, .sl Ty.sApiValue a11.items, .sl Ty.str a11.names])] (fun z _ => z = .sl Ty.sHangFate r)
 | .l85_5 a0 a1 a2 a3 a4 a5 a6 a7 a8 a9 a10 a11, r => ∀ (w : World) (F : Nat → Prop) (ρ : Rho), AK Tryz.prog (ctx GG 97 w F ρ []) 85 [.inBlock 5, .code (c2 (c2 (c2 (c1 (c1 (c2 (c2 (c2 (c2 (c1 (c1 (c2 (c2 (c1 (c1 (c2 (c1 (c2 (c2 (c2 b85)))))))))))))))))))), .inLoop (c1 (c1 (c2 (c2 (c2 (c2 (c1 (c1 (c2 (c2 (c1 (c1 (c2 (c1 (c2 (c2 (c2 b85))))))))))))))))), .inBlock 4, .inBlock 3, .code (c2 (c2 (c2 (c1 (c1 (c2 (c1 (c2 (c2 (c2 b85)))))))))), .inLoop (c1 (c1 (c2 (c1 (c2 (c2 (c2 b85))))))), .inBlock 2, .code (c2 (c2 (c2 (c2 b85))))] [(1, .int .i64 a0), (2, .sl Ty.sApiSegment a1), (4, .ref 4 0), (9, .mf 3 2020), (11, .int .i64 a2), (12, .ref 12 0), (31, .sl Ty.sHangFate a3), (32, .int .i64 a4), (33, .int .i64 a5), (65, .sl Ty.sApiSelector a6), (66, .int .i64 a7), (67, .int .i64 a8)] [(2020, .arr 67 Ty.sHangFate a9), (12, .cells 67 [.bool a10.may, .int .i64 a10.holds, .int .i64 a10.fails]), (4, .cells 29 [.int .i64 a11.kind, .int .i64 a11.frm, .int .i64 a11.to, .str a11.text, .sl Ty.sApiValue a11.items, .sl Ty.str a11.names])] (fun z _ => z = .sl Ty.sHangFate r)
theorem w85 : ∀ (l : L85) (r : List HangFate), f85 l = some r → M85 l r := f85.partial_correctness M85 (by
 intro f ih l r h
 cases l with
 | e85 a0 a1 a2 a3 =>
  intro w F ρ
  dsimp only at h
  refine ak_seq ?_
  refine ak_regionS (.cons rfl (ok_box (d := 4) (dlt rfl rfl) rfl rfl rfl rfl rfl) (.cons rfl (ok_assign (dlt rfl rfl) rfl rfl) (.nil ?_)))
  refine ak_seq ?_
  obtain ⟨v1, hv1, h⟩ := bind_of h
  refine ak_regionS (.cons rfl (ok_move (dlt rfl rfl) rfl rfl) (.cons rfl (ok_lenS (τ := Ty.sHangFate) (xs := a3) (dlt rfl rfl) rfl Tryz.underlying142 rfl) (.cons rfl (ok_make (d := 2020) (τ := Ty.sHangFate) (dlt rfl rfl) (⟨false, 0, 0⟩ : HangFate) rfl Tryz.underlying142 ty67 rfl rfl rfl rfl rfl (need_of hv1).1 (need_of hv1).2.1 (need_of hv1).2.2 rfl rfl) (.cons rfl (ok_assign (dlt rfl rfl) rfl rfl) (.nil ?_)))))
  refine ak_seq ?_
  refine ak_seq ?_
  refine ak_regionS (.cons rfl (ok_move (dlt rfl rfl) rfl rfl) (.cons rfl (ok_lenA (dlt rfl rfl) rfl Tryz.underlying142 rfl rfl) (.cons rfl (ok_move (dlt rfl rfl) rfl rfl) (.nil ?_))))
  refine ak_block ?_
  refine ak_loop ?_
  exact ak_conv (.cons rfl (.refl _) (.cons rfl (.refl _) (.cons rfl (.refl _) (.cons rfl (.refl _) (.cons rfl (.refl _) (.cons rfl (.refl _) (.cons rfl (.refl _) (.nil _)))))))) (.cons rfl (.refl _) (.cons rfl (.refl _) (.nil _))) (ih _ _ h w F ρ)
 | l85_0 a0 a1 a2 a3 a4 a5 a6 =>
  intro w F ρ
  dsimp only at h
  refine ak_seq ?_
  refine ak_regionS (.cons rfl (ok_lss (dlt rfl rfl) rfl rfl rfl) (.nil ?_))
  refine ak_seq ?_
  refine ak_cond rfl (fun ht => ?_) (fun ht => ?_)
  ·have h := cond_t ht h
   refine ak_skip ?_
   refine ak_seq ?_
   refine ak_block ?_
   refine ak_seq ?_
   refine ak_regionS (.cons rfl (ok_move (dlt rfl rfl) rfl rfl) (.cons rfl (ok_assign (dlt rfl rfl) rfl rfl) (.nil ?_)))
   obtain ⟨v2, hv2, h⟩ := bind_of h
   obtain ⟨v3, hv3, h⟩ := bind_of h
   refine ak_regionS (.cons rfl (ok_move (dlt rfl rfl) rfl rfl) (.cons rfl (ok_move (dlt rfl rfl) rfl rfl) (.cons rfl (ok_call (xs := []) (caps := []) (dlt rfl rfl) rfl rfl Tryz.func83 rfl rfl rfl (d83 hv2) rfl) (.cons rfl (ok_indexA (dlt rfl rfl) rfl Tryz.underlying142 ty67 rfl rfl rfl (idx_0 hv3) (idx_lt hv3)) (.cons rfl (ok_storeE (τ := Ty.sHangFate) (j := 0) (size := 3) (x := v3) (y := v2) rfl rfl ty67 rfl rfl rfl (idx_1 hv3) rfl rfl (by decide) rfl) (.nil ?_))))))
   refine ak_inBlock ?_
   refine ak_regionS (.cons rfl (ok_add (dlt rfl rfl) rfl rfl rfl) (.cons rfl (ok_move (dlt rfl rfl) rfl rfl) (.nil ?_)))
   refine ak_inLoop ?_
   exact ak_conv (.cons rfl (.refl _) (.cons rfl (.refl _) (.cons rfl (.refl _) (.cons rfl (.refl _) (.cons rfl (.refl _) (.cons rfl (.refl _) (.cons rfl (.refl _) (.nil _)))))))) (.cons rfl (.refl _) (.cons rfl (.refl _) (.nil _))) (ih _ _ h w F ρ)
  ·have h := cond_f ht h
   refine ak_exit rfl ?_
   refine ak_seq ?_
   refine ak_seq ?_
   refine ak_regionS (.cons rfl (ok_move (dlt rfl rfl) rfl rfl) (.cons rfl (ok_lenS (τ := Ty.sHangFate) (xs := a2) (dlt rfl rfl) rfl Tryz.underlying142 rfl) (.cons rfl (ok_move (dlt rfl rfl) rfl rfl) (.nil ?_))))
   refine ak_block ?_
   refine ak_loop ?_
   exact ak_conv (.cons rfl (.refl _) (.cons rfl (.refl _) (.cons rfl (.refl _) (.cons rfl (.refl _) (.cons rfl (.refl _) (.cons rfl (.refl _) (.cons rfl (.refl _) (.nil _)))))))) (.cons rfl (.refl _) (.cons rfl (.refl _) (.nil _))) (ih _ _ h w F ρ)
 | l85_1 a0 a1 a2 a3 a4 a5 a6 =>
  intro w F ρ
  dsimp only at h
  refine ak_seq ?_
  refine ak_regionS (.cons rfl (ok_lss (dlt rfl rfl) rfl rfl rfl) (.nil ?_))
  refine ak_seq ?_
  refine ak_cond rfl (fun ht => ?_) (fun ht => ?_)
  ·have h := cond_t ht h
   refine ak_skip ?_
   refine ak_seq ?_
   refine ak_block ?_
   refine ak_seq ?_
   obtain ⟨v4, hv4, h⟩ := bind_of h
   refine ak_regionS (.cons rfl (ok_move (dlt rfl rfl) rfl rfl) (.cons rfl (ok_indexS (τ := Ty.sHangFate) (x := v4) (dlt rfl rfl) rfl Tryz.underlying142 ty67 rfl rfl rfl (idx_0 hv4) (idx_1 hv4)) (.cons rfl (ok_loadRT (dlt rfl rfl) rfl ty67 rfl (by decide) rfl) (.cons rfl (ok_alloc (d := 12) (dlt rfl rfl) rfl ty67 rfl rfl rfl) (.cons rfl (ok_assign (dlt rfl rfl) rfl rfl) (.cons rfl (ok_storeV rfl rfl ty67 rfl rfl rfl rfl (by decide) rfl rfl) (.nil ?_)))))))
   refine ak_seq ?_
   refine ak_seq ?_
   refine ak_regionS (.cons rfl (ok_fieldV (dlt rfl rfl) rfl fo67_0 ty4 (by decide) rfl) (.cons rfl (ok_loadV (dlt rfl rfl) rfl ty4 rfl rfl rfl) (.cons rfl (ok_not (dlt rfl rfl) rfl rfl) (.cons rfl (ok_move (dlt rfl rfl) rfl rfl) (.consG (pre := []) (dlt rfl rfl) rfl rfl rfl rfl .nil (fun he => ok_move (dlt rfl rfl) rfl rfl) (.consG (pre := []) (dlt rfl rfl) rfl rfl rfl rfl .nil (fun he => ok_move (dlt rfl rfl) rfl rfl) (.consG (pre := [(43, .sl Ty.sApiSegment a1)]) (dlt rfl rfl) rfl rfl rfl rfl (.cons rfl (fun he => he) .nil) (fun he => ok_lenS (τ := Ty.sApiSegment) (xs := a1) (dlt rfl rfl) rfl Tryz.underlying24 rfl) (.consG (pre := [(42, .int .i64 a4), (44, .int .i64 (a1.length : Int))]) (dlt rfl rfl) rfl rfl rfl rfl (.cons rfl (fun he => he) (.cons rfl (fun he => he) .nil)) (fun he => ok_eql (dlt rfl rfl) rfl rfl rfl) (.cons rfl (ok_orW (dlt rfl rfl) rfl rfl rfl (fun h => (bnot_t h))) (.nil ?_))))))))))
   refine ak_cond rfl (fun ht => ?_) (fun ht => ?_)
   ·have h := cond_t ht h
    refine ak_exit rfl ?_
    exact ak_conv (.cons rfl (.refl _) (.cons rfl (.refl _) (.cons rfl (.refl _) (.cons rfl (.refl _) (.cons rfl (.refl _) (.cons rfl (.refl _) (.cons rfl (.refl _) (.nil _)))))))) (.cons rfl (.refl _) (.cons rfl (.refl _) (.nil _))) (ih _ _ h w F ρ)
   ·have h := cond_f ht h
    refine ak_skip ?_
    refine ak_seq ?_
    refine ak_seq ?_
    obtain ⟨v5, hv5, h⟩ := bind_of h
    refine ak_regionS (.cons rfl (ok_move (dlt rfl rfl) rfl rfl) (.cons rfl (ok_move (dlt rfl rfl) rfl rfl) (.cons rfl (ok_indexS (τ := Ty.sApiSegment) (x := v5) (dlt rfl rfl) rfl Tryz.underlying24 ty47 rfl rfl rfl (idx_0 hv5) (idx_1 hv5)) (.cons rfl (ok_fieldR (cs := [.bool v5.deep, .sl Ty.sApiSelector v5.selectors]) (dlt rfl rfl) rfl fo47_0 ty4 (by decide) rfl) (.cons rfl (ok_loadR (dlt rfl rfl) rfl ty4 rfl rfl) (.nil ?_))))))
    refine ak_cond rfl (fun ht => ?_) (fun ht => ?_)
    ·have h := cond_t ht h
     obtain ⟨v6, hv6, h⟩ := bind_of h
     obtain ⟨v7, hv7, h⟩ := bind_of h
     obtain ⟨v8, hv8, h⟩ := bind_of h
     refine ak_drawL [⟨some 52, [(9, .mf 3 2020)], none, true, .mf 3 2020, [], []⟩,
  ⟨some 53, [(11, .int .i64 a4)], none, true, .int .i64 a4, [], []⟩,
  ⟨some 54, [(9, .mf 3 2020)], none, true, .mf 3 2020, [], []⟩,
  ⟨some 55, [(11, .int .i64 a4)], none, true, .int .i64 a4, [], []⟩,
  ⟨some 56, [(54, .mf 3 2020), (55, .int .i64 a4)], none, true, .ar 3 2020 (a4 : Int).toNat 0, [(2020, .arr 67 Ty.sHangFate a5)], []⟩,
  ⟨some 57, [(56, .ar 3 2020 (a4 : Int).toNat 0)], none, true, .agg [.bool v6.may, .int .i64 v6.holds, .int .i64 v6.fails], [(2020, .arr 67 Ty.sHangFate a5)], []⟩,
  ⟨some 58, [(12, .ref 12 0)], none, true, .agg [.bool v4.may, .int .i64 v4.holds, .int .i64 v4.fails], [(12, .cells 67 [.bool v4.may, .int .i64 v4.holds, .int .i64 v4.fails])], []⟩,
  ⟨some 59, [(57, .agg [.bool v6.may, .int .i64 v6.holds, .int .i64 v6.fails]), (58, .agg [.bool v4.may, .int .i64 v4.holds, .int .i64 v4.fails])], none, true, .agg [.bool v7.may, .int .i64 v7.holds, .int .i64 v7.fails], [], []⟩,
  ⟨some 60, [(52, .mf 3 2020), (53, .int .i64 a4)], none, true, .ar 3 2020 (a4 : Int).toNat 0, [(2020, .arr 67 Ty.sHangFate a5)], []⟩,
  ⟨none, [(60, .ar 3 2020 (a4 : Int).toNat 0), (59, .agg [.bool v7.may, .int .i64 v7.holds, .int .i64 v7.fails])], none, true, .undef, [(2020, .arr 67 Ty.sHangFate a5)], [(2020, .arr 67 Ty.sHangFate (a5.set (a4 : Int).toNat v7))]⟩] [[], [], [], [], [2, 3], [2, 3, 4], [], [2, 3, 4, 5, 6], [0, 1, 2, 3, 4, 5, 6, 7], [0, 1, 2, 3, 4, 5, 6, 7, 8]] (by kernel_rfl) (by kernel_rfl) (.cons (qok (dlt rfl rfl) rfl (.same rfl .nil) (NeedQ.all .nil) (fun Γx σx => ok_move (dlt rfl rfl) rfl rfl)) (.cons (qok (dlt rfl rfl) rfl (.same rfl .nil) (NeedQ.all .nil) (fun Γx σx => ok_move (dlt rfl rfl) rfl rfl)) (.cons (qok (dlt rfl rfl) rfl (.same rfl .nil) (NeedQ.all .nil) (fun Γx σx => ok_move (dlt rfl rfl) rfl rfl)) (.cons (qok (dlt rfl rfl) rfl (.same rfl .nil) (NeedQ.all .nil) (fun Γx σx => ok_move (dlt rfl rfl) rfl rfl)) (.cons (qok (dlt rfl rfl) rfl (.same rfl (.same rfl .nil)) (NeedQ.all (.cons rfl .nil)) (fun Γx σx => ok_indexA (dlt rfl rfl) rfl Tryz.underlying142 ty67 rfl rfl rfl (idx_0 hv6) (idx_lt hv6))) (.cons (qok (dlt rfl rfl) rfl (.same rfl .nil) (NeedQ.all (.cons rfl .nil)) (fun Γx σx => ok_loadEA (τ := Ty.sHangFate) (x := v6) (dlt rfl rfl) rfl ty67 rfl rfl (idx_1 hv6) rfl)) (.cons (qok (dlt rfl rfl) rfl (.same rfl .nil) (NeedQ.all (.cons rfl .nil)) (fun Γx σx => ok_loadVT (dlt rfl rfl) rfl ty67 rfl rfl (by decide) rfl)) (.cons (qok (dlt rfl rfl) rfl (.same rfl (.same rfl .nil)) (NeedQ.all .nil) (fun Γx σx => ok_call (xs := [.agg [.bool v6.may, .int .i64 v6.holds, .int .i64 v6.fails], .agg [.bool v4.may, .int .i64 v4.holds, .int .i64 v4.fails]]) (caps := []) (dlt rfl rfl) rfl rfl Tryz.func137 rfl rfl rfl (d137 hv7) rfl)) (.cons (qok (dlt rfl rfl) rfl (.same rfl (.same rfl .nil)) (NeedQ.all (.cons rfl .nil)) (fun Γx σx => ok_indexA (dlt rfl rfl) rfl Tryz.underlying142 ty67 rfl rfl rfl (idx_0 hv8) (idx_lt hv8))) (.cons (qokN (nodst rfl) rfl (.same rfl (.same rfl .nil)) (NeedQ.all (.cons rfl .nil)) (fresh0 rfl) (fun Γx σx hfr => ok_storeE (τ := Ty.sHangFate) (j := 0) (size := 3) (x := v8) (y := v7) rfl rfl ty67 rfl rfl rfl (idx_1 hv8) rfl rfl (by decide) rfl)) (.nil _ _))))))))))) (.nil ?_)
     exact ak_conv (.cons rfl (.refl _) (.cons rfl (.refl _) (.cons rfl (.refl _) (.cons rfl (.refl _) (.cons rfl (.refl _) (.cons rfl (.refl _) (.cons rfl (.refl _) (.cons rfl (.refl _) (.cons rfl (.refl _) (.nil _)))))))))) (.cons rfl (.refl _) (.cons rfl (.refl _) (.cons rfl (.refl _) (.nil _)))) (ih _ _ h w F ρ)
    ·have h := cond_f ht h
     refine ak_skip ?_
     exact ak_conv (.cons rfl (.refl _) (.cons rfl (.refl _) (.cons rfl (.refl _) (.cons rfl (.refl _) (.cons rfl (.refl _) (.cons rfl (.refl _) (.cons rfl (.refl _) (.cons rfl (.refl _) (.cons rfl (.refl _) (.nil _)))))))))) (.cons rfl (.refl _) (.cons rfl (.refl _) (.cons rfl (.refl _) (.nil _)))) (ih _ _ h w F ρ)
  ·have h := cond_f ht h
   refine ak_exit rfl ?_
   refine ak_seq ?_
   refine ak_regionS (.cons rfl (ok_move (dlt rfl rfl) rfl rfl) (.cons rfl (ok_assign (dlt rfl rfl) rfl rfl) (.nil ?_)))
   obtain rfl := Option.some.inj h
   refine ak_freeze 2020 rfl ?_
   refine ak_conv (Γ' := [(8, .sl Ty.sHangFate a5)]) (σ' := []) (.cons rfl (.refl _) (.nil _)) (.nil _) ?_
   exact ak_ret (fn := Tryz.f85) Tryz.func85 rfl trivial rfl
 | l85_2 a0 a1 a2 a3 a4 a5 a6 =>
  intro w F ρ
  dsimp only at h
  refine ak_regionS (.cons rfl (ok_add (dlt rfl rfl) rfl rfl rfl) (.cons rfl (ok_move (dlt rfl rfl) rfl rfl) (.nil ?_)))
  refine ak_inLoop ?_
  exact ak_conv (.cons rfl (.refl _) (.cons rfl (.refl _) (.cons rfl (.refl _) (.cons rfl (.refl _) (.cons rfl (.refl _) (.cons rfl (.refl _) (.cons rfl (.refl _) (.nil _)))))))) (.cons rfl (.refl _) (.cons rfl (.refl _) (.nil _))) (ih _ _ h w F ρ)
 | l85_3 a0 a1 a2 a3 a4 a5 a6 a7 a8 =>
  intro w F ρ
  dsimp only at h
  refine ak_seq ?_
  obtain ⟨v9, hv9, h⟩ := bind_of h
  refine ak_regionS (.cons rfl (ok_move (dlt rfl rfl) rfl rfl) (.cons rfl (ok_move (dlt rfl rfl) rfl rfl) (.cons rfl (ok_indexS (τ := Ty.sApiSegment) (x := v9) (dlt rfl rfl) rfl Tryz.underlying24 ty47 rfl rfl rfl (idx_0 hv9) (idx_1 hv9)) (.cons rfl (ok_fieldR (cs := [.bool v9.deep, .sl Ty.sApiSelector v9.selectors]) (dlt rfl rfl) rfl fo47_1 ty45 (by decide) rfl) (.cons rfl (ok_loadR (dlt rfl rfl) rfl ty45 rfl rfl) (.cons rfl (ok_lenS (τ := Ty.sApiSelector) (xs := v9.selectors) (dlt rfl rfl) rfl Tryz.underlying45 rfl) (.cons rfl (ok_move (dlt rfl rfl) rfl rfl) (.nil ?_))))))))
  refine ak_block ?_
  refine ak_loop ?_
  exact ak_conv (.cons rfl (.refl _) (.cons rfl (.refl _) (.cons rfl (.refl _) (.cons rfl (.refl _) (.cons rfl (.refl _) (.cons rfl (.refl _) (.cons rfl (.refl _) (.cons rfl (.refl _) (.cons rfl (.refl _) (.cons rfl (.refl _) (.cons rfl (.refl _) (.cons rfl (.refl _) (.nil _))))))))))))) (.cons rfl (.refl _) (.cons rfl (.refl _) (.cons rfl (.refl _) (.nil _)))) (ih _ _ h w F ρ)
 | l85_4 a0 a1 a2 a3 a4 a5 a6 a7 a8 a9 a10 a11 =>
  intro w F ρ
  dsimp only at h
  refine ak_seq ?_
  refine ak_regionS (.cons rfl (ok_lss (dlt rfl rfl) rfl rfl rfl) (.nil ?_))
  refine ak_seq ?_
  refine ak_cond rfl (fun ht => ?_) (fun ht => ?_)
  ·have h := cond_t ht h
   refine ak_skip ?_
   refine ak_seq ?_
   refine ak_block ?_
   refine ak_seq ?_
   obtain ⟨v10, hv10, h⟩ := bind_of h
   refine ak_regionS (.cons rfl (ok_indexS (τ := Ty.sApiSelector) (x := v10) (dlt rfl rfl) rfl Tryz.underlying45 ty49 rfl rfl rfl (idx_0 hv10) (idx_1 hv10)) (.cons rfl (ok_loadRT (dlt rfl rfl) rfl ty49 rfl (by decide) rfl) (.cons rfl (ok_alloc (d := 14) (dlt rfl rfl) rfl ty49 rfl rfl rfl) (.cons rfl (ok_storeV rfl rfl ty49 rfl rfl rfl rfl (by decide) rfl rfl) (.nil ?_)))))
   refine ak_seq ?_
   obtain ⟨v11, hv11, h⟩ := bind_of h
   refine ak_regionS (.cons rfl (ok_loadVT (dlt rfl rfl) rfl ty29 rfl rfl (by decide) rfl) (.cons rfl (ok_move (dlt rfl rfl) rfl rfl) (.cons rfl (ok_loadVT (dlt rfl rfl) rfl ty49 rfl rfl (by decide) rfl) (.cons rfl (ok_call (xs := [.agg [.int .i64 a11.kind, .int .i64 a11.frm, .int .i64 a11.to, .str a11.text, .sl Ty.sApiValue a11.items, .sl Ty.str a11.names], .int .i64 a0, .agg [.int .i64 v10.kind, .str v10.name, .int .i64 v10.index, .int .i64 v10.start, .int .i64 v10.stop, .bool v10.hasStart, .bool v10.hasEnd, .int .i64 v10.stride]]) (caps := []) (dlt rfl rfl) rfl rfl Tryz.func138 rfl rfl rfl (d138 hv11) rfl) (.cons rfl (ok_move (dlt rfl rfl) rfl rfl) (.cons rfl (ok_extract (dlt rfl rfl) rfl rfl rfl) (.cons rfl (ok_extract (dlt rfl rfl) rfl rfl rfl) (.cons rfl (ok_extract (dlt rfl rfl) rfl rfl rfl) (.cons rfl (ok_assign (dlt rfl rfl) rfl rfl) (.cons rfl (ok_assign (dlt rfl rfl) rfl rfl) (.cons rfl (ok_assign (dlt rfl rfl) rfl rfl) (.nil ?_))))))))))))
   refine ak_seq ?_
   refine ak_regionS (.cons rfl (ok_move (dlt rfl rfl) rfl rfl) (.nil ?_))
   refine ak_cond rfl (fun ht => ?_) (fun ht => ?_)
   ·have h := cond_t ht h
    obtain ⟨v12, hv12, h⟩ := bind_of h
    obtain ⟨v13, hv13, h⟩ := bind_of h
    obtain ⟨v14, hv14, h⟩ := bind_of h
    obtain ⟨v15, hv15, h⟩ := bind_of h
    refine ak_drawL [⟨some 80, [(9, .mf 3 2020)], none, true, .mf 3 2020, [], []⟩,
  ⟨some 81, [(11, .int .i64 a2)], none, true, .int .i64 a2, [], []⟩,
  ⟨some 82, [(81, .int .i64 a2)], none, true, .int .i64 (IntKind.wrap .i64 (a2 + (1 : Int))), [], []⟩,
  ⟨some 83, [(9, .mf 3 2020)], none, true, .mf 3 2020, [], []⟩,
  ⟨some 84, [(11, .int .i64 a2)], none, true, .int .i64 a2, [], []⟩,
  ⟨some 85, [(84, .int .i64 a2)], none, true, .int .i64 (IntKind.wrap .i64 (a2 + (1 : Int))), [], []⟩,
  ⟨some 86, [(83, .mf 3 2020), (85, .int .i64 (IntKind.wrap .i64 (a2 + (1 : Int))))], none, true, .ar 3 2020 (IntKind.wrap .i64 (a2 + (1 : Int)) : Int).toNat 0, [(2020, .arr 67 Ty.sHangFate a9)], []⟩,
  ⟨some 87, [(86, .ar 3 2020 (IntKind.wrap .i64 (a2 + (1 : Int)) : Int).toNat 0)], none, true, .agg [.bool v12.may, .int .i64 v12.holds, .int .i64 v12.fails], [(2020, .arr 67 Ty.sHangFate a9)], []⟩,
  ⟨some 88, [(12, .ref 12 0)], none, true, .agg [.bool a10.may, .int .i64 a10.holds, .int .i64 a10.fails], [(12, .cells 67 [.bool a10.may, .int .i64 a10.holds, .int .i64 a10.fails])], []⟩,
  ⟨some 89, [(16, .int .i64 v11.2.1)], none, true, .int .i64 v11.2.1, [], []⟩,
  ⟨some 90, [(17, .int .i64 v11.2.2)], none, true, .int .i64 v11.2.2, [], []⟩,
  ⟨some 91, [(88, .agg [.bool a10.may, .int .i64 a10.holds, .int .i64 a10.fails]), (89, .int .i64 v11.2.1), (90, .int .i64 v11.2.2)], none, true, .agg [.bool v13.may, .int .i64 v13.holds, .int .i64 v13.fails], [], []⟩,
  ⟨some 92, [(87, .agg [.bool v12.may, .int .i64 v12.holds, .int .i64 v12.fails]), (91, .agg [.bool v13.may, .int .i64 v13.holds, .int .i64 v13.fails])], none, true, .agg [.bool v14.may, .int .i64 v14.holds, .int .i64 v14.fails], [], []⟩,
  ⟨some 93, [(80, .mf 3 2020), (82, .int .i64 (IntKind.wrap .i64 (a2 + (1 : Int))))], none, true, .ar 3 2020 (IntKind.wrap .i64 (a2 + (1 : Int)) : Int).toNat 0, [(2020, .arr 67 Ty.sHangFate a9)], []⟩,
  ⟨none, [(93, .ar 3 2020 (IntKind.wrap .i64 (a2 + (1 : Int)) : Int).toNat 0), (92, .agg [.bool v14.may, .int .i64 v14.holds, .int .i64 v14.fails])], none, true, .undef, [(2020, .arr 67 Ty.sHangFate a9)], [(2020, .arr 67 Ty.sHangFate (a9.set (IntKind.wrap .i64 (a2 + (1 : Int)) : Int).toNat v14))]⟩] [[], [], [1], [], [], [4], [3, 4, 5], [3, 4, 5, 6], [], [], [], [8, 9, 10], [3, 4, 5, 6, 7, 8, 9, 10, 11], [0, 1, 2, 3, 4, 5, 6, 7, 8, 9, 10, 11, 12], [0, 1, 2, 3, 4, 5, 6, 7, 8, 9, 10, 11, 12, 13]] (by kernel_rfl) (by kernel_rfl) (.cons (qok (dlt rfl rfl) rfl (.same rfl .nil) (NeedQ.all .nil) (fun Γx σx => ok_move (dlt rfl rfl) rfl rfl)) (.cons (qok (dlt rfl rfl) rfl (.same rfl .nil) (NeedQ.all .nil) (fun Γx σx => ok_move (dlt rfl rfl) rfl rfl)) (.cons (qok (dlt rfl rfl) rfl (.same rfl .nil) (NeedQ.all .nil) (fun Γx σx => ok_add (dlt rfl rfl) rfl rfl rfl)) (.cons (qok (dlt rfl rfl) rfl (.same rfl .nil) (NeedQ.all .nil) (fun Γx σx => ok_move (dlt rfl rfl) rfl rfl)) (.cons (qok (dlt rfl rfl) rfl (.same rfl .nil) (NeedQ.all .nil) (fun Γx σx => ok_move (dlt rfl rfl) rfl rfl)) (.cons (qok (dlt rfl rfl) rfl (.same rfl .nil) (NeedQ.all .nil) (fun Γx σx => ok_add (dlt rfl rfl) rfl rfl rfl)) (.cons (qok (dlt rfl rfl) rfl (.same rfl (.same rfl .nil)) (NeedQ.all (.cons rfl .nil)) (fun Γx σx => ok_indexA (dlt rfl rfl) rfl Tryz.underlying142 ty67 rfl rfl rfl (idx_0 hv12) (idx_lt hv12))) (.cons (qok (dlt rfl rfl) rfl (.same rfl .nil) (NeedQ.all (.cons rfl .nil)) (fun Γx σx => ok_loadEA (τ := Ty.sHangFate) (x := v12) (dlt rfl rfl) rfl ty67 rfl rfl (idx_1 hv12) rfl)) (.cons (qok (dlt rfl rfl) rfl (.same rfl .nil) (NeedQ.all (.cons rfl .nil)) (fun Γx σx => ok_loadVT (dlt rfl rfl) rfl ty67 rfl rfl (by decide) rfl)) (.cons (qok (dlt rfl rfl) rfl (.same rfl .nil) (NeedQ.all .nil) (fun Γx σx => ok_move (dlt rfl rfl) rfl rfl)) (.cons (qok (dlt rfl rfl) rfl (.same rfl .nil) (NeedQ.all .nil) (fun Γx σx => ok_move (dlt rfl rfl) rfl rfl)) (.cons (qok (dlt rfl rfl) rfl (.same rfl (.same rfl (.same rfl .nil))) (NeedQ.all .nil) (fun Γx σx => ok_call (xs := [.agg [.bool a10.may, .int .i64 a10.holds, .int .i64 a10.fails], .int .i64 v11.2.1, .int .i64 v11.2.2]) (caps := []) (dlt rfl rfl) rfl rfl Tryz.func139 rfl rfl rfl (d139 hv13) rfl)) (.cons (qok (dlt rfl rfl) rfl (.same rfl (.same rfl .nil)) (NeedQ.all .nil) (fun Γx σx => ok_call (xs := [.agg [.bool v12.may, .int .i64 v12.holds, .int .i64 v12.fails], .agg [.bool v13.may, .int .i64 v13.holds, .int .i64 v13.fails]]) (caps := []) (dlt rfl rfl) rfl rfl Tryz.func137 rfl rfl rfl (d137 hv14) rfl)) (.cons (qok (dlt rfl rfl) rfl (.same rfl (.same rfl .nil)) (NeedQ.all (.cons rfl .nil)) (fun Γx σx => ok_indexA (dlt rfl rfl) rfl Tryz.underlying142 ty67 rfl rfl rfl (idx_0 hv15) (idx_lt hv15))) (.cons (qokN (nodst rfl) rfl (.same rfl (.same rfl .nil)) (NeedQ.all (.cons rfl .nil)) (fresh0 rfl) (fun Γx σx hfr => ok_storeE (τ := Ty.sHangFate) (j := 0) (size := 3) (x := v15) (y := v14) rfl rfl ty67 rfl rfl rfl (idx_1 hv15) rfl rfl (by decide) rfl)) (.nil _ _)))))))))))))))) (.nil ?_)
    exact ak_conv (.cons rfl (.refl _) (.cons rfl (.refl _) (.cons rfl (.refl _) (.cons rfl (.refl _) (.cons rfl (.refl _) (.cons rfl (.refl _) (.cons rfl (.refl _) (.cons rfl (.refl _) (.cons rfl (.refl _) (.cons rfl (.refl _) (.cons rfl (.refl _) (.cons rfl (.refl _) (.nil _))))))))))))) (.cons rfl (.refl _) (.cons rfl (.refl _) (.cons rfl (.refl _) (.nil _)))) (ih _ _ h w F ρ)
   ·have h := cond_f ht h
    refine ak_skip ?_
    exact ak_conv (.cons rfl (.refl _) (.cons rfl (.refl _) (.cons rfl (.refl _) (.cons rfl (.refl _) (.cons rfl (.refl _) (.cons rfl (.refl _) (.cons rfl (.refl _) (.cons rfl (.refl _) (.cons rfl (.refl _) (.cons rfl (.refl _) (.cons rfl (.refl _) (.cons rfl (.refl _) (.nil _))))))))))))) (.cons rfl (.refl _) (.cons rfl (.refl _) (.cons rfl (.refl _) (.nil _)))) (ih _ _ h w F ρ)
  ·have h := cond_f ht h
   refine ak_exit rfl ?_
   refine ak_inBlock ?_
   refine ak_regionS (.cons rfl (ok_add (dlt rfl rfl) rfl rfl rfl) (.cons rfl (ok_move (dlt rfl rfl) rfl rfl) (.nil ?_)))
   refine ak_inLoop ?_
   exact ak_conv (.cons rfl (.refl _) (.cons rfl (.refl _) (.cons rfl (.refl _) (.cons rfl (.refl _) (.cons rfl (.refl _) (.cons rfl (.refl _) (.cons rfl (.refl _) (.nil _)))))))) (.cons rfl (.refl _) (.cons rfl (.refl _) (.nil _))) (ih _ _ h w F ρ)
 | l85_5 a0 a1 a2 a3 a4 a5 a6 a7 a8 a9 a10 a11 =>
  intro w F ρ
  dsimp only at h
  refine ak_inBlock ?_
  refine ak_regionS (.cons rfl (ok_add (dlt rfl rfl) rfl rfl rfl) (.cons rfl (ok_move (dlt rfl rfl) rfl rfl) (.nil ?_)))
  refine ak_inLoop ?_
  exact ak_conv (.cons rfl (.refl _) (.cons rfl (.refl _) (.cons rfl (.refl _) (.cons rfl (.refl _) (.cons rfl (.refl _) (.cons rfl (.refl _) (.cons rfl (.refl _) (.cons rfl (.refl _) (.cons rfl (.refl _) (.cons rfl (.refl _) (.cons rfl (.refl _) (.cons rfl (.refl _) (.nil _))))))))))))) (.cons rfl (.refl _) (.cons rfl (.refl _) (.cons rfl (.refl _) (.nil _)))) (ih _ _ h w F ρ))
theorem d85 {a0 : ApiValue} {a1 : Int} {a2 : List ApiSegment} {a3 : List HangFate} {r : List HangFate} (h : f85 (.e85 a0 a1 a2 a3) = some r) : Does Tryz.prog GG 85 [.agg [.int .i64 a0.kind, .int .i64 a0.frm, .int .i64 a0.to, .str a0.text, .sl Ty.sApiValue a0.items, .sl Ty.str a0.names], .int .i64 a1, .sl Ty.sApiSegment a2, .sl Ty.sHangFate a3] [] (fun z _ => z = .sl Ty.sHangFate r) := fn_of (fn := Tryz.f85) Tryz.func85 rfl Tryz.ntmps85 rfl (w85 _ _ h)
end Go.Proofs.YtonlbdholdaifaaGreatDoor
end
