/- A part of the proof of BacklogPlaysSaid: YtnihjdfbiddggaaCl. -/
import Derived.Test.YtnihjdfbiddggaaChecked
import Derived.Test.YtnihjdfbiddggaaKV4
import Derived.KernelRfl
import Derived.WalkKit
/- The copies of slices. -/
set_option linter.unusedVariables false
set_option linter.unusedSimpArgs false
set_option maxHeartbeats 1000000
namespace Go.Vm.Bk
open Go.Proofs
set_option maxRecDepth 100000 in
theorem clone72 (w0 : World) : CloneOk Try.prog w0 72 1 := by
  intro F M ρ hp hr w x v ysz ys nb hrel hs hx hv hok hlen hns hfr
  obtain ⟨base, cap, rfl, hnil⟩ := view_slice hrel hs hx hv hns hok (by omega)
  refine ⟨Try.f72, Try.func72, by decide +kernel, rfl, fun post hpost => ?_⟩
  refine calls_of_wp Try.func72 rfl ?_
  have hq : ∀ w : World, (binOp .eql 22 (.slice base ys.length cap) (.slice none 0 0)).run Try.prog w = .ok (.bool base.isNone) w := fun w => run_eql_slice_nil w _ _ base ys.length cap Try.underlying22
  show Code.wp _ _ _ { tmps := #[.slice base ys.length cap, undef, undef, undef, undef, undef, undef, undef], defers := [] } w
  refine wp_seq (wp_region ?_)
  show wpOps _ _ _ [0] _ _
  refine ops_step rfl rfl (op_val (v := .slice none 0 0) (w' := w) rfl ?_)
  show Code.wp _ _ _ { tmps := #[.slice base ys.length cap, undef, .slice none 0 0, undef, undef, undef, undef, undef], defers := [] } w
  refine wp_seq (wp_seq (wp_region ?_))
  show wpOps _ _ _ [0, 1] _ _
  refine ops_step rfl rfl (op_val (v := .slice base ys.length cap) (w' := w) rfl ?_)
  refine ops_step rfl rfl (op_val (v := .bool base.isNone) (w' := w) (by show (do pure (Next.value (← binOp .eql 22 (.slice base ys.length cap) (.slice none 0 0)))  : Sem Next).run Try.prog w = _; simp [hq]) ?_)
  show Code.wp _ _ _ { tmps := #[.slice base ys.length cap, undef, .slice none 0 0, .slice base ys.length cap, .bool base.isNone, undef, undef, undef], defers := [] } w
  refine wp_cond (t := base.isNone) rfl ?_
  cases base with
  | none =>
    have hys := hnil rfl
    subst hys
    show Code.wp _ _ _ _ _
    refine wp_seq (wp_region ?_)
    show wpOps _ _ _ [0] _ _
    refine ops_step rfl rfl (op_val (v := .slice none 0 0) (w' := w) rfl ?_)
    show Code.wp _ _ _ { tmps := #[.slice none 0 cap, undef, .slice none 0 0, .slice none 0 cap, .bool true, undef, undef, undef], defers := [] } w
    refine wp_ret ?_
    refine ⟨rfl, .slice none 0 0, ?_, _, rfl, ?_⟩
    · simp [results, Try.f72]
    refine hpost M _ _ w (MemLe.refl _) (RhoLe.upd (hfr nb (Nat.le_refl _) (by omega))) (fun j l hj => by
      rcases upd_dom hj with h | h
      · exact .inl h
      · right; omega) (RepA.row (M := M) nb _ (upd_same ρ nb (some ⟨none, 0, 0, 1⟩))) ?_
    refine hrel.adopt (hfr nb (Nat.le_refl _) (by omega)) _ ⟨_, upd_same _ _ _, rfl, rfl, Nat.le_refl _, fun _ => rfl, by simp, by simp, .inl rfl⟩ (fun b' ho => ?_)
    obtain ⟨l, a, q1, q2, q3, q4⟩ := ho
    rw [upd_same] at q1; cases q1
    exact absurd rfl q4
  | some a =>
    show Code.wp _ _ _ _ _
    refine wp_skip ?_
    show Code.wp _ _ _ _ _
    refine wp_seq (wp_region ?_)
    show wpOps _ _ _ [0, 1, 2, 3] _ _
    have hb : (Instr.buildSlice 22 0 #[]).run Try.prog w = .ok (.slice (some ⟨w.heap.size, 0, none⟩) 0 0) (w.alloc (.cells #[] 3)) := by
      simp [Instr.buildSlice, run_underlying Try.underlying22, newRow, Instr.fill]
      congr 2
      apply Array.ext'; simp
    refine ops_step rfl rfl (op_val (v := .slice (some ⟨w.heap.size, 0, none⟩) 0 0) (w' := w.alloc (.cells #[] 3)) (by simp [execOp, hb]) ?_)
    refine ops_step rfl rfl (op_val (v := .slice (some a) ys.length cap) (w' := w.alloc (.cells #[] 3)) rfl ?_)
    have hrel1 : Rel w0 F M ρ hp (w.alloc (.cells #[] 3)) := hrel.alloc _
    obtain ⟨M', ρ', v', w', h1, h2, h3, h4, h5, h6⟩ := copy_ok (P := Try.prog) hrel1 hs hfr hx hv hlen 22 (t := 22) (tx := 22) (e := 3) (i := _) (z := [.int .i64 0]) hok Try.underlying22 (.inl ⟨3, Try.underlying22⟩) rfl rfl rfl (by decide) (base := some ⟨w.heap.size, 0, none⟩) (by intro a' h'; cases h'; rfl)
    refine ops_step rfl rfl (op_app (v := v') (w' := w') (args := [.slice (some ⟨w.heap.size, 0, none⟩) 0 0, .slice (some a) ys.length cap]) rfl rfl rfl rfl h1 ?_)
    refine ops_step rfl rfl (op_val (v := v') (w' := w') rfl ?_)
    show Code.wp _ _ _ { tmps := #[.slice (some a) ys.length cap, undef, v', .slice (some a) ys.length cap, .bool false, .slice (some ⟨w.heap.size, 0, none⟩) 0 0, .slice (some a) ys.length cap, v'], defers := [] } w'
    refine wp_ret ?_
    refine ⟨rfl, v', by simp [results, Try.f72], _, rfl, hpost M' ρ' v' w' h2 h3 h4 h5 h6⟩
set_option maxRecDepth 100000 in
theorem clone73 (w0 : World) : CloneOk Try.prog w0 73 2 := by
  intro F M ρ hp hr w x v ysz ys nb hrel hs hx hv hok hlen hns hfr
  obtain ⟨base, cap, rfl, hnil⟩ := view_slice hrel hs hx hv hns hok (by omega)
  refine ⟨Try.f73, Try.func73, by decide +kernel, rfl, fun post hpost => ?_⟩
  refine calls_of_wp Try.func73 rfl ?_
  have hq : ∀ w : World, (binOp .eql 31 (.slice base ys.length cap) (.slice none 0 0)).run Try.prog w = .ok (.bool base.isNone) w := fun w => run_eql_slice_nil w _ _ base ys.length cap Try.underlying31
  show Code.wp _ _ _ { tmps := #[.slice base ys.length cap, undef, undef, undef, undef, undef, undef, undef], defers := [] } w
  refine wp_seq (wp_region ?_)
  show wpOps _ _ _ [0] _ _
  refine ops_step rfl rfl (op_val (v := .slice none 0 0) (w' := w) rfl ?_)
  show Code.wp _ _ _ { tmps := #[.slice base ys.length cap, undef, .slice none 0 0, undef, undef, undef, undef, undef], defers := [] } w
  refine wp_seq (wp_seq (wp_region ?_))
  show wpOps _ _ _ [0, 1] _ _
  refine ops_step rfl rfl (op_val (v := .slice base ys.length cap) (w' := w) rfl ?_)
  refine ops_step rfl rfl (op_val (v := .bool base.isNone) (w' := w) (by show (do pure (Next.value (← binOp .eql 31 (.slice base ys.length cap) (.slice none 0 0)))  : Sem Next).run Try.prog w = _; simp [hq]) ?_)
  show Code.wp _ _ _ { tmps := #[.slice base ys.length cap, undef, .slice none 0 0, .slice base ys.length cap, .bool base.isNone, undef, undef, undef], defers := [] } w
  refine wp_cond (t := base.isNone) rfl ?_
  cases base with
  | none =>
    have hys := hnil rfl
    subst hys
    show Code.wp _ _ _ _ _
    refine wp_seq (wp_region ?_)
    show wpOps _ _ _ [0] _ _
    refine ops_step rfl rfl (op_val (v := .slice none 0 0) (w' := w) rfl ?_)
    show Code.wp _ _ _ { tmps := #[.slice none 0 cap, undef, .slice none 0 0, .slice none 0 cap, .bool true, undef, undef, undef], defers := [] } w
    refine wp_ret ?_
    refine ⟨rfl, .slice none 0 0, ?_, _, rfl, ?_⟩
    · simp [results, Try.f73]
    refine hpost M _ _ w (MemLe.refl _) (RhoLe.upd (hfr nb (Nat.le_refl _) (by omega))) (fun j l hj => by
      rcases upd_dom hj with h | h
      · exact .inl h
      · right; omega) (RepA.row (M := M) nb _ (upd_same ρ nb (some ⟨none, 0, 0, 2⟩))) ?_
    refine hrel.adopt (hfr nb (Nat.le_refl _) (by omega)) _ ⟨_, upd_same _ _ _, rfl, rfl, Nat.le_refl _, fun _ => rfl, by simp, by simp, .inl rfl⟩ (fun b' ho => ?_)
    obtain ⟨l, a, q1, q2, q3, q4⟩ := ho
    rw [upd_same] at q1; cases q1
    exact absurd rfl q4
  | some a =>
    show Code.wp _ _ _ _ _
    refine wp_skip ?_
    show Code.wp _ _ _ _ _
    refine wp_seq (wp_region ?_)
    show wpOps _ _ _ [0, 1, 2, 3] _ _
    have hb : (Instr.buildSlice 31 0 #[]).run Try.prog w = .ok (.slice (some ⟨w.heap.size, 0, none⟩) 0 0) (w.alloc (.cells #[] 99)) := by
      simp [Instr.buildSlice, run_underlying Try.underlying31, newRow, Instr.fill]
      congr 2
      apply Array.ext'; simp
    refine ops_step rfl rfl (op_val (v := .slice (some ⟨w.heap.size, 0, none⟩) 0 0) (w' := w.alloc (.cells #[] 99)) (by simp [execOp, hb]) ?_)
    refine ops_step rfl rfl (op_val (v := .slice (some a) ys.length cap) (w' := w.alloc (.cells #[] 99)) rfl ?_)
    have hrel1 : Rel w0 F M ρ hp (w.alloc (.cells #[] 99)) := hrel.alloc _
    obtain ⟨M', ρ', v', w', h1, h2, h3, h4, h5, h6⟩ := copy_ok (P := Try.prog) hrel1 hs hfr hx hv hlen 31 (t := 31) (tx := 31) (e := 99) (i := _) (z := [.int .i64 0, .int .i64 0]) hok Try.underlying31 (.inl ⟨99, Try.underlying31⟩) rfl rfl rfl (by decide) (base := some ⟨w.heap.size, 0, none⟩) (by intro a' h'; cases h'; rfl)
    refine ops_step rfl rfl (op_app (v := v') (w' := w') (args := [.slice (some ⟨w.heap.size, 0, none⟩) 0 0, .slice (some a) ys.length cap]) rfl rfl rfl rfl h1 ?_)
    refine ops_step rfl rfl (op_val (v := v') (w' := w') rfl ?_)
    show Code.wp _ _ _ { tmps := #[.slice (some a) ys.length cap, undef, v', .slice (some a) ys.length cap, .bool false, .slice (some ⟨w.heap.size, 0, none⟩) 0 0, .slice (some a) ys.length cap, v'], defers := [] } w'
    refine wp_ret ?_
    refine ⟨rfl, v', by simp [results, Try.f73], _, rfl, hpost M' ρ' v' w' h2 h3 h4 h5 h6⟩
set_option maxRecDepth 100000 in
theorem clone77 (w0 : World) : CloneOk Try.prog w0 77 4 := by
  intro F M ρ hp hr w x v ysz ys nb hrel hs hx hv hok hlen hns hfr
  obtain ⟨base, cap, rfl, hnil⟩ := view_slice hrel hs hx hv hns hok (by omega)
  refine ⟨Try.f77, Try.func77, by decide +kernel, rfl, fun post hpost => ?_⟩
  refine calls_of_wp Try.func77 rfl ?_
  have hq : ∀ w : World, (binOp .eql 50 (.slice base ys.length cap) (.slice none 0 0)).run Try.prog w = .ok (.bool base.isNone) w := fun w => run_eql_slice_nil w _ _ base ys.length cap Try.underlying50
  show Code.wp _ _ _ { tmps := #[.slice base ys.length cap, undef, undef, undef, undef, undef, undef, undef], defers := [] } w
  refine wp_seq (wp_region ?_)
  show wpOps _ _ _ [0] _ _
  refine ops_step rfl rfl (op_val (v := .slice none 0 0) (w' := w) rfl ?_)
  show Code.wp _ _ _ { tmps := #[.slice base ys.length cap, undef, .slice none 0 0, undef, undef, undef, undef, undef], defers := [] } w
  refine wp_seq (wp_seq (wp_region ?_))
  show wpOps _ _ _ [0, 1] _ _
  refine ops_step rfl rfl (op_val (v := .slice base ys.length cap) (w' := w) rfl ?_)
  refine ops_step rfl rfl (op_val (v := .bool base.isNone) (w' := w) (by show (do pure (Next.value (← binOp .eql 50 (.slice base ys.length cap) (.slice none 0 0)))  : Sem Next).run Try.prog w = _; simp [hq]) ?_)
  show Code.wp _ _ _ { tmps := #[.slice base ys.length cap, undef, .slice none 0 0, .slice base ys.length cap, .bool base.isNone, undef, undef, undef], defers := [] } w
  refine wp_cond (t := base.isNone) rfl ?_
  cases base with
  | none =>
    have hys := hnil rfl
    subst hys
    show Code.wp _ _ _ _ _
    refine wp_seq (wp_region ?_)
    show wpOps _ _ _ [0] _ _
    refine ops_step rfl rfl (op_val (v := .slice none 0 0) (w' := w) rfl ?_)
    show Code.wp _ _ _ { tmps := #[.slice none 0 cap, undef, .slice none 0 0, .slice none 0 cap, .bool true, undef, undef, undef], defers := [] } w
    refine wp_ret ?_
    refine ⟨rfl, .slice none 0 0, ?_, _, rfl, ?_⟩
    · simp [results, Try.f77]
    refine hpost M _ _ w (MemLe.refl _) (RhoLe.upd (hfr nb (Nat.le_refl _) (by omega))) (fun j l hj => by
      rcases upd_dom hj with h | h
      · exact .inl h
      · right; omega) (RepA.row (M := M) nb _ (upd_same ρ nb (some ⟨none, 0, 0, 4⟩))) ?_
    refine hrel.adopt (hfr nb (Nat.le_refl _) (by omega)) _ ⟨_, upd_same _ _ _, rfl, rfl, Nat.le_refl _, fun _ => rfl, by simp, by simp, .inl rfl⟩ (fun b' ho => ?_)
    obtain ⟨l, a, q1, q2, q3, q4⟩ := ho
    rw [upd_same] at q1; cases q1
    exact absurd rfl q4
  | some a =>
    show Code.wp _ _ _ _ _
    refine wp_skip ?_
    show Code.wp _ _ _ _ _
    refine wp_seq (wp_region ?_)
    show wpOps _ _ _ [0, 1, 2, 3] _ _
    have hb : (Instr.buildSlice 50 0 #[]).run Try.prog w = .ok (.slice (some ⟨w.heap.size, 0, none⟩) 0 0) (w.alloc (.cells #[] 54)) := by
      simp [Instr.buildSlice, run_underlying Try.underlying50, newRow, Instr.fill]
      congr 2
      apply Array.ext'; simp
    refine ops_step rfl rfl (op_val (v := .slice (some ⟨w.heap.size, 0, none⟩) 0 0) (w' := w.alloc (.cells #[] 54)) (by simp [execOp, hb]) ?_)
    refine ops_step rfl rfl (op_val (v := .slice (some a) ys.length cap) (w' := w.alloc (.cells #[] 54)) rfl ?_)
    have hrel1 : Rel w0 F M ρ hp (w.alloc (.cells #[] 54)) := hrel.alloc _
    obtain ⟨M', ρ', v', w', h1, h2, h3, h4, h5, h6⟩ := copy_ok (P := Try.prog) hrel1 hs hfr hx hv hlen 50 (t := 50) (tx := 50) (e := 54) (i := _) (z := [.str ⟨⟨[]⟩⟩, .int .i64 0, .int .i64 0, .str ⟨⟨[]⟩⟩]) hok Try.underlying50 (.inl ⟨54, Try.underlying50⟩) rfl rfl rfl (by decide) (base := some ⟨w.heap.size, 0, none⟩) (by intro a' h'; cases h'; rfl)
    refine ops_step rfl rfl (op_app (v := v') (w' := w') (args := [.slice (some ⟨w.heap.size, 0, none⟩) 0 0, .slice (some a) ys.length cap]) rfl rfl rfl rfl h1 ?_)
    refine ops_step rfl rfl (op_val (v := v') (w' := w') rfl ?_)
    show Code.wp _ _ _ { tmps := #[.slice (some a) ys.length cap, undef, v', .slice (some a) ys.length cap, .bool false, .slice (some ⟨w.heap.size, 0, none⟩) 0 0, .slice (some a) ys.length cap, v'], defers := [] } w'
    refine wp_ret ?_
    refine ⟨rfl, v', by simp [results, Try.f77], _, rfl, hpost M' ρ' v' w' h2 h3 h4 h5 h6⟩
end Go.Vm.Bk
