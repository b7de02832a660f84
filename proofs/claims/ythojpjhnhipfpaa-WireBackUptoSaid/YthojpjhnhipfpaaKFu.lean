/- A part of the proof of WireBackUptoSaid: YthojpjhnhipfpaaFu. -/
import Derived.Test.YthojpjhnhipfpaaKFt
/- Messages read from bytes: both Feed functions. -/
set_option linter.unusedVariables false
set_option linter.unusedSimpArgs false
set_option maxHeartbeats 400000
namespace Go.Vm.Wr
def fdR : (List Msg × List UInt8 × Bool) → A
  | (out, b, true) => .tup [.d (.sl .any 6 (msD out)), .d (.sl .any 1 (u8s b)), .d (.int .i64 0)]
  | (out, _, false) => .tup [.d (.sl .any 6 (msD out)), .d (.sl .any 0 []), .d (.int .i64 331)]
theorem ret_shape {x y : Chunk} (X : List (Nat × Chunk)) (h : X = [] ∨ ∃ x y, X = [(362, x), (362, y)]) : X = [] ∨ (∃ x y, X = [(362, x), (362, y)]) ∨ ∃ x y z, X = [(362, x), (362, y), (0, z)] := h.elim .inl (fun h => .inr (.inl h))
set_option maxRecDepth 20000 in
theorem fd_first {Q : Ex → St → Prop} (B : List UInt8) (hB : B.length ≤ 4000000) (k : Nat) (out : List Msg) (f f2 : Bool) (s : St) (hk : B.length < k + 1) (ho : out.length + B.length ≤ 8000000)
    (hg : gc [(7, some 1), (8, some 6)] s = ⟨gS [(7, .row 0), (8, .row 1)], gH [(0, .row 1 f (u8s B)), (1, .row 6 f2 (msD out))], 2, 0, []⟩)
    (hQ0 : ∀ T nx, fdF (k + 1) B out = (out, B, true) → (nx = 26 ∨ nx = 298) → Q (.exit 0) ⟨gS ((7, .row 0) :: (8, .row 1) :: T), gH [(0, .row 1 f (u8s B)), (1, .row 6 f2 (msD out))], nx, 0, []⟩)
    (hQ : ∀ out' lo' f2 T nx, fdF (k + 1) B out = (out', B.drop lo', true) → lo' ≤ B.length → out'.length ≤ 8000000 → (nx = 26 ∨ nx = 298) → Q (.exit 0) ⟨gS ((7, .sub 0 lo' B.length true) :: (8, .row 1) :: T), gH [(0, .imm 1 f (u8s B)), (1, .row 6 f2 (msD out'))], nx, 0, []⟩)
    (hR : ∀ out' f2 c T H nx, fdF (k + 1) B out = (out', [], false) → (H = [] ∨ (∃ x y, H = [(362, x), (362, y)]) ∨ ∃ x y z, H = [(362, x), (362, y), (0, z)]) → Q .ret ⟨gS ((4, .row 1) :: (5, .d (.sl .nil 0 [])) :: (6, .d (.int .i64 331)) :: T), gH (H ++ [(0, c), (1, .row 6 f2 (msD out'))]), nx, 0, []⟩) :
    wpW false prog (.loop [(7, some 1), (8, some 6)] l30_12) s Q := by
    refine wp_loop1 ?_
    rw [hg]
    generalize hJ : (fun s' => wpW false prog (.loop [(7, some 1), (8, some 6)] l30_12) s' Q) = J
    unfold l30_12
    have hbl : B.length = B.length := rfl
    have hul := u8s_len B
    have hml := msD_len out
    have hsub4 : ∀ x, (x + 4) - 4 = x := fun x => by omega
    by_cases h4 : B.length < 4
    · have e4 : (4 ≤ ((B.length : Nat) : Int)) = False := eq_false (by omega)
      have hF : fdF (k + 1) B out = (out, B, true) := by simp only [fdF]; rw [if_pos (by rw [hbl]; exact h4)]
      simp -dsimp (disch := first | rfl | omega) only [r30_3, e4, msD_len, ↓vmP, vm0, vm1, vm2, vm3, vm4, vm5, vm6, vm7, vm8, vm9, vm10, vm11, vm12, vm13, vm14, vm15, vmC, vmN, Nat.reduceAdd, Nat.reduceMul, Nat.reduceSub, Nat.reduceEqDiff, Nat.reduceLT, Nat.reduceLeDiff, ↓reduceIte, Tg.isFull, Int.reduceToNat]
      exact hQ0 _ _ hF (.inl rfl)
    have e4 : (4 ≤ ((B.length : Nat) : Int)) = True := eq_true (by omega)
    have t0 := u8s_at B (i := 0) (by omega)
    have t1 := u8s_at B (i := 1) (by omega)
    have t2 := u8s_at B (i := 2) (by omega)
    have t3 := u8s_at B (i := 3) (by omega)
    obtain ⟨x0, x1, x2, y1, y2, s0, s1, s2, o1, o2, o3, b3⟩ := n4_ex B (B.getD (0) 0) (B.getD (1) 0) (B.getD (2) 0) (B.getD (3) 0) rfl rfl rfl rfl
    generalize B.getD (0) 0 = c0 at t0 s0
    generalize B.getD (1) 0 = c1 at t1 s1
    generalize B.getD (2) 0 = c2 at t2 s2
    generalize B.getD (3) 0 = c3 at t3 o3
    have d0 : (0 : Int) < 1 := by omega
    have hF0 : fdF (k + 1) B out = _ := rfl
    conv at hF0 => rhs; unfold fdF
    rw [if_neg (show ¬ (B : List UInt8).length < 4 by rw [hbl]; omega)] at hF0
    generalize hnn : n4 B = n at o3 b3 hF0
    rcases nz_or n with hz | ⟨z1, z2⟩
    · rw [if_pos hz] at hF0
      have ez : ((n : Int) = 0) = True ∨ (((n : Int) = 0) = False ∧ (16512 < (n : Int)) = True) := by
        rcases hz with h | h
        · exact .inl (eq_true (by omega))
        · exact .inr ⟨eq_false (by omega), eq_true (by omega)⟩
      rcases ez with ez | ⟨ez, ez2⟩
      · simp -dsimp (disch := first | rfl | omega) only [r30_3, r30_4, e4, t0, t1, t2, t3, s0, s1, s2, o1, o2, o3, ↓vmP, vm0, vm1, vm2, vm3, vm4, vm5, vm6, vm7, vm8, vm9, vm10, vm11, vm12, vm13, vm14, vm15, vmC, vmN, Nat.reduceAdd, Nat.reduceMul, Nat.reduceSub, Nat.reduceEqDiff, Nat.reduceLT, Nat.reduceLeDiff, ↓reduceIte, Tg.isFull, Int.reduceToNat]
        refine regD_of (by kernel_rfl) ?_
        simp -dsimp (disch := first | rfl | omega) only [r30_5, r30_6, ez, ↓vmP, vm0, vm1, vm2, vm3, vm4, vm5, vm6, vm7, vm8, vm9, vm10, vm11, vm12, vm13, vm14, vm15, vmC, vmN, Nat.reduceAdd, Nat.reduceMul, Nat.reduceSub, Nat.reduceEqDiff, Nat.reduceLT, Nat.reduceLeDiff, ↓reduceIte, Tg.isFull, Int.reduceToNat]
        exact hR out f2 _ _ [] _ hF0 (.inl rfl)
      · simp -dsimp (disch := first | rfl | omega) only [r30_3, r30_4, e4, t0, t1, t2, t3, s0, s1, s2, o1, o2, o3, ↓vmP, vm0, vm1, vm2, vm3, vm4, vm5, vm6, vm7, vm8, vm9, vm10, vm11, vm12, vm13, vm14, vm15, vmC, vmN, Nat.reduceAdd, Nat.reduceMul, Nat.reduceSub, Nat.reduceEqDiff, Nat.reduceLT, Nat.reduceLeDiff, ↓reduceIte, Tg.isFull, Int.reduceToNat]
        refine regD_of (by kernel_rfl) ?_
        simp -dsimp (disch := first | rfl | omega) only [r30_5, r30_6, ez, ez2, ↓vmP, vm0, vm1, vm2, vm3, vm4, vm5, vm6, vm7, vm8, vm9, vm10, vm11, vm12, vm13, vm14, vm15, vmC, vmN, Nat.reduceAdd, Nat.reduceMul, Nat.reduceSub, Nat.reduceEqDiff, Nat.reduceLT, Nat.reduceLeDiff, ↓reduceIte, Tg.isFull, Int.reduceToNat]
        exact hR out f2 _ _ [] _ hF0 (.inl rfl)
    have ez : ((n : Int) = 0) = False := eq_false (by omega)
    have ez2 : (16512 < (n : Int)) = False := eq_false (by omega)
    have en : (n : Int) + 4 = ((n + 4 : Nat) : Int) := by omega
    rw [if_neg (show ¬ (n = 0 ∨ 16512 < n) by omega)] at hF0
    by_cases hs : B.length < n + 4
    · have es : (((B.length : Nat) : Int) < ((n + 4 : Nat) : Int)) = True := eq_true (by omega)
      rw [if_pos (by rw [hbl]; exact hs)] at hF0
      simp -dsimp (disch := first | rfl | omega) only [r30_3, r30_4, e4, t0, t1, t2, t3, s0, s1, s2, o1, o2, o3, ↓vmP, vm0, vm1, vm2, vm3, vm4, vm5, vm6, vm7, vm8, vm9, vm10, vm11, vm12, vm13, vm14, vm15, vmC, vmN, Nat.reduceAdd, Nat.reduceMul, Nat.reduceSub, Nat.reduceEqDiff, Nat.reduceLT, Nat.reduceLeDiff, ↓reduceIte, Tg.isFull, Int.reduceToNat]
      refine regD_of (by kernel_rfl) ?_
      simp -dsimp (disch := first | rfl | omega) only [r30_5, r30_7, ez, ez2, en, es, msD_len, ↓vmP, vm0, vm1, vm2, vm3, vm4, vm5, vm6, vm7, vm8, vm9, vm10, vm11, vm12, vm13, vm14, vm15, vmC, vmN, Nat.reduceAdd, Nat.reduceMul, Nat.reduceSub, Nat.reduceEqDiff, Nat.reduceLT, Nat.reduceLeDiff, ↓reduceIte, Tg.isFull, Int.reduceToNat]
      exact hQ0 _ _ hF0 (.inr rfl)
    have es : (((B.length : Nat) : Int) < ((n + 4 : Nat) : Int)) = False := eq_false (by omega)
    rw [if_neg (by rw [hbl]; exact hs)] at hF0
    have hs1 : n + 4 ≤ B.length := by omega
    have hD := Dec_eq (B.take (n + 4)) (by rw [List.length_take, hbl]; omega) (by rw [List.length_take, hbl]; omega)
    generalize hdr : dR (B.take (n + 4)) = dd at hD hF0
    obtain ⟨q, ok⟩ := dd
    simp only at hD hF0
    cases ok
    · rw [if_neg (by decide)] at hF0
      simp -dsimp (disch := first | rfl | omega) only [r30_3, r30_4, e4, t0, t1, t2, t3, s0, s1, s2, o1, o2, o3, ↓vmP, vm0, vm1, vm2, vm3, vm4, vm5, vm6, vm7, vm8, vm9, vm10, vm11, vm12, vm13, vm14, vm15, vmC, vmN, Nat.reduceAdd, Nat.reduceMul, Nat.reduceSub, Nat.reduceEqDiff, Nat.reduceLT, Nat.reduceLeDiff, ↓reduceIte, Tg.isFull, Int.reduceToNat]
      refine regD_of (by kernel_rfl) ?_
      simp only [mC] at hD
      simp -dsimp (disch := first | rfl | omega) only [r30_5, r30_7, r30_8, r30_9, r30_10, ez, ez2, en, es, callW_fn pgDec, hD, Nat.zero_add, Nat.sub_zero, Nat.add_sub_cancel, ↓vmP, vm0, vm1, vm2, vm3, vm4, vm5, vm6, vm7, vm8, vm9, vm10, vm11, vm12, vm13, vm14, vm15, vmC, vmN, Nat.reduceAdd, Nat.reduceMul, Nat.reduceSub, Nat.reduceEqDiff, Nat.reduceLT, Nat.reduceLeDiff, ↓reduceIte, Tg.isFull, Int.reduceToNat]
      exact hR out f2 _ _ [_, _, _] _ hF0 (.inr (.inr ⟨_, _, _, rfl⟩))
    · rw [if_pos rfl] at hF0
      simp -dsimp (disch := first | rfl | omega) only [r30_3, r30_4, e4, t0, t1, t2, t3, s0, s1, s2, o1, o2, o3, ↓vmP, vm0, vm1, vm2, vm3, vm4, vm5, vm6, vm7, vm8, vm9, vm10, vm11, vm12, vm13, vm14, vm15, vmC, vmN, Nat.reduceAdd, Nat.reduceMul, Nat.reduceSub, Nat.reduceEqDiff, Nat.reduceLT, Nat.reduceLeDiff, ↓reduceIte, Tg.isFull, Int.reduceToNat]
      refine regD_of (by kernel_rfl) ?_
      simp only [mC] at hD
      simp -dsimp (disch := first | rfl | omega) only [r30_5, r30_7, r30_8, r30_9, r30_11, ez, ez2, en, es, callW_fn pgDec, hD, Nat.zero_add, Nat.sub_zero, Nat.add_sub_cancel, dimF, msD_len, ↓vmP, vm0, vm1, vm2, vm3, vm4, vm5, vm6, vm7, vm8, vm9, vm10, vm11, vm12, vm13, vm14, vm15, vmC, vmN, Nat.reduceAdd, Nat.reduceMul, Nat.reduceSub, Nat.reduceEqDiff, Nat.reduceLT, Nat.reduceLeDiff, ↓reduceIte, Tg.isFull, Int.reduceToNat]
      refine regD_of (by kernel_rfl) ?_
      simp -dsimp (disch := first | rfl | omega) only [dimF, msD_app, Nat.zero_add, Nat.sub_zero, Nat.add_sub_cancel, ↓vmP, vm0, vm1, vm2, vm3, vm4, vm5, vm6, vm7, vm8, vm9, vm10, vm11, vm12, vm13, vm14, vm15, vmC, vmN, Nat.reduceAdd, Nat.reduceMul, Nat.reduceSub, Nat.reduceEqDiff, Nat.reduceLT, Nat.reduceLeDiff, ↓reduceIte, Tg.isFull, Int.reduceToNat]
      rw [← hJ]
      exact fd_loop B hB k (n + 4) (out ++ [_]) f false _ (by omega) (by omega) (by simp; omega) (by simp -dsimp (disch := first | rfl | omega) only [↓vmP, vm0, vm1, vm2, vm3, vm4, vm5, vm6, vm7, vm8, vm9, vm10, vm11, vm12, vm13, vm14, vm15, vmC, vmN, Nat.reduceAdd, Nat.reduceMul, Nat.reduceSub, Nat.reduceEqDiff, Nat.reduceLT, Nat.reduceLeDiff, ↓reduceIte, Tg.isFull, Int.reduceToNat]) (fun out' lo' f2 T nx h1 h2 h3 h4 => hQ out' lo' f2 T nx (hF0.trans h1) h2 h3 h4) (fun out' f2 T H nx h1 h2 => hR out' f2 _ T H nx (hF0.trans h1) (h2.elim .inl (fun h => .inr (.inl h))))
set_option maxRecDepth 20000 in
theorem rfd_first {Q : Ex → St → Prop} (B : List UInt8) (hB : B.length ≤ 4000000) (k : Nat) (out : List Msg) (f f2 : Bool) (s : St) (hk : B.length < k + 1) (ho : out.length + B.length ≤ 8000000)
    (hg : gc [(7, some 1), (8, some 6)] s = ⟨gS [(7, .row 0), (8, .row 1)], gH [(0, .row 1 f (u8s B)), (1, .row 6 f2 (msD out))], 2, 0, []⟩)
    (hQ0 : ∀ T nx, fdF (k + 1) B out = (out, B, true) → (nx = 26 ∨ nx = 298) → Q (.exit 0) ⟨gS ((7, .row 0) :: (8, .row 1) :: T), gH [(0, .row 1 f (u8s B)), (1, .row 6 f2 (msD out))], nx, 0, []⟩)
    (hQ : ∀ out' lo' f2 T nx, fdF (k + 1) B out = (out', B.drop lo', true) → lo' ≤ B.length → out'.length ≤ 8000000 → (nx = 26 ∨ nx = 298) → Q (.exit 0) ⟨gS ((7, .sub 0 lo' B.length true) :: (8, .row 1) :: T), gH [(0, .imm 1 f (u8s B)), (1, .row 6 f2 (msD out'))], nx, 0, []⟩)
    (hR : ∀ out' f2 c T H nx, fdF (k + 1) B out = (out', [], false) → (H = [] ∨ (∃ x y, H = [(362, x), (362, y)]) ∨ ∃ x y z, H = [(362, x), (362, y), (0, z)]) → Q .ret ⟨gS ((4, .row 1) :: (5, .d (.sl .nil 0 [])) :: (6, .d (.int .i64 331)) :: T), gH (H ++ [(0, c), (1, .row 6 f2 (msD out'))]), nx, 0, []⟩) :
    wpW false prog (.loop [(7, some 1), (8, some 6)] l16_13) s Q := by
    refine wp_loop1 ?_
    rw [hg]
    generalize hJ : (fun s' => wpW false prog (.loop [(7, some 1), (8, some 6)] l16_13) s' Q) = J
    unfold l16_13
    have hbl : B.length = B.length := rfl
    have hul := u8s_len B
    have hml := msD_len out
    have hsub4 : ∀ x, (x + 4) - 4 = x := fun x => by omega
    by_cases h4 : B.length < 4
    · have e4 : (4 ≤ ((B.length : Nat) : Int)) = False := eq_false (by omega)
      have hF : fdF (k + 1) B out = (out, B, true) := by simp only [fdF]; rw [if_pos (by rw [hbl]; exact h4)]
      simp -dsimp (disch := first | rfl | omega) only [r16_3, e4, msD_len, ↓vmP, vm0, vm1, vm2, vm3, vm4, vm5, vm6, vm7, vm8, vm9, vm10, vm11, vm12, vm13, vm14, vm15, vmC, vmN, Nat.reduceAdd, Nat.reduceMul, Nat.reduceSub, Nat.reduceEqDiff, Nat.reduceLT, Nat.reduceLeDiff, ↓reduceIte, Tg.isFull, Int.reduceToNat]
      exact hQ0 _ _ hF (.inl rfl)
    have e4 : (4 ≤ ((B.length : Nat) : Int)) = True := eq_true (by omega)
    have t0 := u8s_at B (i := 0) (by omega)
    have t1 := u8s_at B (i := 1) (by omega)
    have t2 := u8s_at B (i := 2) (by omega)
    have t3 := u8s_at B (i := 3) (by omega)
    obtain ⟨x0, x1, x2, y1, y2, s0, s1, s2, o1, o2, o3, b3⟩ := n4_ex B (B.getD (0) 0) (B.getD (1) 0) (B.getD (2) 0) (B.getD (3) 0) rfl rfl rfl rfl
    generalize B.getD (0) 0 = c0 at t0 s0
    generalize B.getD (1) 0 = c1 at t1 s1
    generalize B.getD (2) 0 = c2 at t2 s2
    generalize B.getD (3) 0 = c3 at t3 o3
    have d0 : (0 : Int) < 1 := by omega
    have hF0 : fdF (k + 1) B out = _ := rfl
    conv at hF0 => rhs; unfold fdF
    rw [if_neg (show ¬ (B : List UInt8).length < 4 by rw [hbl]; omega)] at hF0
    generalize hnn : n4 B = n at o3 b3 hF0
    rcases nz_or n with hz | ⟨z1, z2⟩
    · rw [if_pos hz] at hF0
      have ez : ((n : Int) < 1) = True ∨ (((n : Int) < 1) = False ∧ (16512 < (n : Int)) = True) := by
        rcases hz with h | h
        · exact .inl (eq_true (by omega))
        · exact .inr ⟨eq_false (by omega), eq_true (by omega)⟩
      rcases ez with ez | ⟨ez, ez2⟩
      · simp -dsimp (disch := first | rfl | omega) only [r16_3, r16_4, e4, t0, t1, t2, t3, s0, s1, s2, o1, o2, o3, ↓vmP, vm0, vm1, vm2, vm3, vm4, vm5, vm6, vm7, vm8, vm9, vm10, vm11, vm12, vm13, vm14, vm15, vmC, vmN, Nat.reduceAdd, Nat.reduceMul, Nat.reduceSub, Nat.reduceEqDiff, Nat.reduceLT, Nat.reduceLeDiff, ↓reduceIte, Tg.isFull, Int.reduceToNat]
        refine regD_of (by kernel_rfl) ?_
        simp -dsimp (disch := first | rfl | omega) only [r16_5, r16_6, ez, ↓vmP, vm0, vm1, vm2, vm3, vm4, vm5, vm6, vm7, vm8, vm9, vm10, vm11, vm12, vm13, vm14, vm15, vmC, vmN, Nat.reduceAdd, Nat.reduceMul, Nat.reduceSub, Nat.reduceEqDiff, Nat.reduceLT, Nat.reduceLeDiff, ↓reduceIte, Tg.isFull, Int.reduceToNat]
        exact hR out f2 _ _ [] _ hF0 (.inl rfl)
      · simp -dsimp (disch := first | rfl | omega) only [r16_3, r16_4, e4, t0, t1, t2, t3, s0, s1, s2, o1, o2, o3, ↓vmP, vm0, vm1, vm2, vm3, vm4, vm5, vm6, vm7, vm8, vm9, vm10, vm11, vm12, vm13, vm14, vm15, vmC, vmN, Nat.reduceAdd, Nat.reduceMul, Nat.reduceSub, Nat.reduceEqDiff, Nat.reduceLT, Nat.reduceLeDiff, ↓reduceIte, Tg.isFull, Int.reduceToNat]
        refine regD_of (by kernel_rfl) ?_
        simp -dsimp (disch := first | rfl | omega) only [r16_5, r16_6, ez, ez2, ↓vmP, vm0, vm1, vm2, vm3, vm4, vm5, vm6, vm7, vm8, vm9, vm10, vm11, vm12, vm13, vm14, vm15, vmC, vmN, Nat.reduceAdd, Nat.reduceMul, Nat.reduceSub, Nat.reduceEqDiff, Nat.reduceLT, Nat.reduceLeDiff, ↓reduceIte, Tg.isFull, Int.reduceToNat]
        exact hR out f2 _ _ [] _ hF0 (.inl rfl)
    have ez : ((n : Int) < 1) = False := eq_false (by omega)
    have ez2 : (16512 < (n : Int)) = False := eq_false (by omega)
    have en : 4 + (n : Int) = ((n + 4 : Nat) : Int) := by omega
    rw [if_neg (show ¬ (n = 0 ∨ 16512 < n) by omega)] at hF0
    by_cases hs : B.length < n + 4
    · have es : (((B.length : Nat) : Int) < ((n + 4 : Nat) : Int)) = True := eq_true (by omega)
      rw [if_pos (by rw [hbl]; exact hs)] at hF0
      simp -dsimp (disch := first | rfl | omega) only [r16_3, r16_4, e4, t0, t1, t2, t3, s0, s1, s2, o1, o2, o3, ↓vmP, vm0, vm1, vm2, vm3, vm4, vm5, vm6, vm7, vm8, vm9, vm10, vm11, vm12, vm13, vm14, vm15, vmC, vmN, Nat.reduceAdd, Nat.reduceMul, Nat.reduceSub, Nat.reduceEqDiff, Nat.reduceLT, Nat.reduceLeDiff, ↓reduceIte, Tg.isFull, Int.reduceToNat]
      refine regD_of (by kernel_rfl) ?_
      simp -dsimp (disch := first | rfl | omega) only [r16_5, r16_7, ez, ez2, en, es, msD_len, ↓vmP, vm0, vm1, vm2, vm3, vm4, vm5, vm6, vm7, vm8, vm9, vm10, vm11, vm12, vm13, vm14, vm15, vmC, vmN, Nat.reduceAdd, Nat.reduceMul, Nat.reduceSub, Nat.reduceEqDiff, Nat.reduceLT, Nat.reduceLeDiff, ↓reduceIte, Tg.isFull, Int.reduceToNat]
      exact hQ0 _ _ hF0 (.inr rfl)
    have es : (((B.length : Nat) : Int) < ((n + 4 : Nat) : Int)) = False := eq_false (by omega)
    rw [if_neg (by rw [hbl]; exact hs)] at hF0
    have hs1 : n + 4 ≤ B.length := by omega
    have hWl : (B.take (n + 4)).length = n + 4 := by rw [List.length_take, hbl]; omega
    obtain ⟨m, ok, hD, hwf, htg, hd1, hd2⟩ := RDec_ex (B.take (n + 4)) (by omega) (by omega)
    have hE := REnc_all m hwf
    obtain ⟨mk, mh, me, mq, mt, mb, mtg, mz⟩ := m
    simp only at htg
    subst htg
    rw [show (B.take (n + 4)).drop 4 = (B.drop 4).take n by rw [List.drop_take, Nat.add_sub_cancel]] at hD
    have hS := fun t1 t2 z1 z2 => SameBytes_eq (enc ⟨mk, mh, me, mq, mt, mb, .any, mz⟩) (B.take (n + 4)) t1 t2 z1 z2
    generalize hv : vld ⟨mk, mh, me, mq, mt, mb, .any, mz⟩ = v at hE hd1
    generalize hen : enc ⟨mk, mh, me, mq, mt, mb, .any, mz⟩ = em at hE hd1 hS
    generalize hWW : B.take (n + 4) = WW at hS hd1 hd2 hF0 hWl
    simp only [mC] at hD hE
    cases ok
    · simp only [Bool.false_and] at hd1
      rw [hd1, if_neg (by decide)] at hF0
      cases v
      all_goals
        simp only [if_true, if_false, Bool.false_eq_true] at hE
        simp -dsimp (disch := first | rfl | omega) only [r16_3, r16_4, e4, t0, t1, t2, t3, s0, s1, s2, o1, o2, o3, ↓vmP, vm0, vm1, vm2, vm3, vm4, vm5, vm6, vm7, vm8, vm9, vm10, vm11, vm12, vm13, vm14, vm15, vmC, vmN, Nat.reduceAdd, Nat.reduceMul, Nat.reduceSub, Nat.reduceEqDiff, Nat.reduceLT, Nat.reduceLeDiff, ↓reduceIte, Tg.isFull, Int.reduceToNat]
        refine regD_of (by kernel_rfl) ?_
        simp -dsimp (disch := first | rfl | omega) only [r16_5, r16_7, r16_8, r16_9, r16_10, r16_11, ez, ez2, en, es, callW_fn pgRDec, callW_fn pgREnc, callW_fn pgSame, hD, hE, hS, Nat.zero_add, Nat.sub_zero, Nat.add_sub_cancel, Int.reduceEq, ne_eq, not_true_eq_false, not_false_eq_true, ↓vmP, vm0, vm1, vm2, vm3, vm4, vm5, vm6, vm7, vm8, vm9, vm10, vm11, vm12, vm13, vm14, vm15, vmC, vmN, Nat.reduceAdd, Nat.reduceMul, Nat.reduceSub, Nat.reduceEqDiff, Nat.reduceLT, Nat.reduceLeDiff, ↓reduceIte, Tg.isFull, Int.reduceToNat]
        exact hR out f2 _ _ [_, _, _] _ hF0 (.inr (.inr ⟨_, _, _, rfl⟩))
    · cases v
      · simp only [Bool.and_false, Bool.false_and] at hd1
        rw [hd1, if_neg (by decide)] at hF0
        simp only [if_true, if_false, Bool.false_eq_true] at hE
        simp -dsimp (disch := first | rfl | omega) only [r16_3, r16_4, e4, t0, t1, t2, t3, s0, s1, s2, o1, o2, o3, ↓vmP, vm0, vm1, vm2, vm3, vm4, vm5, vm6, vm7, vm8, vm9, vm10, vm11, vm12, vm13, vm14, vm15, vmC, vmN, Nat.reduceAdd, Nat.reduceMul, Nat.reduceSub, Nat.reduceEqDiff, Nat.reduceLT, Nat.reduceLeDiff, ↓reduceIte, Tg.isFull, Int.reduceToNat]
        refine regD_of (by kernel_rfl) ?_
        simp -dsimp (disch := first | rfl | omega) only [r16_5, r16_7, r16_8, r16_9, r16_10, r16_11, ez, ez2, en, es, callW_fn pgRDec, callW_fn pgREnc, callW_fn pgSame, hD, hE, hS, Nat.zero_add, Nat.sub_zero, Nat.add_sub_cancel, Int.reduceEq, ne_eq, not_true_eq_false, not_false_eq_true, ↓vmP, vm0, vm1, vm2, vm3, vm4, vm5, vm6, vm7, vm8, vm9, vm10, vm11, vm12, vm13, vm14, vm15, vmC, vmN, Nat.reduceAdd, Nat.reduceMul, Nat.reduceSub, Nat.reduceEqDiff, Nat.reduceLT, Nat.reduceLeDiff, ↓reduceIte, Tg.isFull, Int.reduceToNat]
        exact hR out f2 _ _ [_, _, _] _ hF0 (.inr (.inr ⟨_, _, _, rfl⟩))
      · simp only [if_true, Bool.true_and] at hE hd1
        by_cases hq : em = WW
        · have hq2 : decide (em = WW) = true := by simp [hq]
          rw [hq2] at hd1 hS
          rw [hd1, if_pos rfl, ← hd2 hd1] at hF0
          simp -dsimp (disch := first | rfl | omega) only [r16_3, r16_4, e4, t0, t1, t2, t3, s0, s1, s2, o1, o2, o3, ↓vmP, vm0, vm1, vm2, vm3, vm4, vm5, vm6, vm7, vm8, vm9, vm10, vm11, vm12, vm13, vm14, vm15, vmC, vmN, Nat.reduceAdd, Nat.reduceMul, Nat.reduceSub, Nat.reduceEqDiff, Nat.reduceLT, Nat.reduceLeDiff, ↓reduceIte, Tg.isFull, Int.reduceToNat]
          refine regD_of (by kernel_rfl) ?_
          simp -dsimp (disch := first | rfl | omega) only [r16_5, r16_7, r16_8, r16_9, r16_10, r16_12, ez, ez2, en, es, callW_fn pgRDec, callW_fn pgREnc, callW_fn pgSame, hD, hE, hS, hWW, Nat.zero_add, Nat.sub_zero, Nat.add_sub_cancel, Int.reduceEq, ne_eq, not_true_eq_false, not_false_eq_true, msD_len, ↓vmP, vm0, vm1, vm2, vm3, vm4, vm5, vm6, vm7, vm8, vm9, vm10, vm11, vm12, vm13, vm14, vm15, vmC, vmN, Nat.reduceAdd, Nat.reduceMul, Nat.reduceSub, Nat.reduceEqDiff, Nat.reduceLT, Nat.reduceLeDiff, ↓reduceIte, Tg.isFull, Int.reduceToNat]
          refine regD_of (by kernel_rfl) ?_
          simp -dsimp (disch := first | rfl | omega) only [msD_app1, Nat.zero_add, Nat.sub_zero, Nat.add_sub_cancel, ↓vmP, vm0, vm1, vm2, vm3, vm4, vm5, vm6, vm7, vm8, vm9, vm10, vm11, vm12, vm13, vm14, vm15, vmC, vmN, Nat.reduceAdd, Nat.reduceMul, Nat.reduceSub, Nat.reduceEqDiff, Nat.reduceLT, Nat.reduceLeDiff, ↓reduceIte, Tg.isFull, Int.reduceToNat]
          rw [← hJ]
          exact rfd_loop B hB k (n + 4) (out ++ [_]) f false _ (by omega) (by omega) (by simp; omega) (by simp -dsimp (disch := first | rfl | omega) only [↓vmP, vm0, vm1, vm2, vm3, vm4, vm5, vm6, vm7, vm8, vm9, vm10, vm11, vm12, vm13, vm14, vm15, vmC, vmN, Nat.reduceAdd, Nat.reduceMul, Nat.reduceSub, Nat.reduceEqDiff, Nat.reduceLT, Nat.reduceLeDiff, ↓reduceIte, Tg.isFull, Int.reduceToNat]) (fun out' lo' f2 T nx h1 h2 h3 h4 => hQ out' lo' f2 T nx (hF0.trans h1) h2 h3 h4) (fun out' f2 T H nx h1 h2 => hR out' f2 _ T H nx (hF0.trans h1) (h2.elim .inl (fun h => .inr (.inl h))))
        · have hq2 : decide (em = WW) = false := by simp [hq]
          rw [hq2] at hd1 hS
          rw [hd1, if_neg (by decide)] at hF0
          simp -dsimp (disch := first | rfl | omega) only [r16_3, r16_4, e4, t0, t1, t2, t3, s0, s1, s2, o1, o2, o3, ↓vmP, vm0, vm1, vm2, vm3, vm4, vm5, vm6, vm7, vm8, vm9, vm10, vm11, vm12, vm13, vm14, vm15, vmC, vmN, Nat.reduceAdd, Nat.reduceMul, Nat.reduceSub, Nat.reduceEqDiff, Nat.reduceLT, Nat.reduceLeDiff, ↓reduceIte, Tg.isFull, Int.reduceToNat]
          refine regD_of (by kernel_rfl) ?_
          simp -dsimp (disch := first | rfl | omega) only [r16_5, r16_7, r16_8, r16_9, r16_10, r16_11, ez, ez2, en, es, callW_fn pgRDec, callW_fn pgREnc, callW_fn pgSame, hD, hE, hS, hWW, Nat.zero_add, Nat.sub_zero, Nat.add_sub_cancel, Int.reduceEq, ne_eq, not_true_eq_false, not_false_eq_true, ↓vmP, vm0, vm1, vm2, vm3, vm4, vm5, vm6, vm7, vm8, vm9, vm10, vm11, vm12, vm13, vm14, vm15, vmC, vmN, Nat.reduceAdd, Nat.reduceMul, Nat.reduceSub, Nat.reduceEqDiff, Nat.reduceLT, Nat.reduceLeDiff, ↓reduceIte, Tg.isFull, Int.reduceToNat]
          exact hR out f2 _ _ [_, _, _] _ hF0 (.inr (.inr ⟨_, _, _, rfl⟩))
set_option maxRecDepth 20000 in
theorem Feed_eq (r m : List UInt8) (t1 t2 : Tg) (z1 z2 : Nat) (hr : okSz 1 z1 (u8s r) = true) (hm : okSz 1 z2 (u8s m) = true) (hB : r.length + m.length ≤ 4000000) : runW false prog 30 [.d (.sl t1 z1 (u8s r)), .d (.sl t2 z2 (u8s m))] [] = some (fdR (fdF ((r ++ m).length + 1) (r ++ m) []), [], []) := by
  refine run_of rfl ?_
  have hBl : (r ++ m).length ≤ 4000000 := by simp; omega
  have fin : ∀ (f : Bool) (s : St), gc [(7, some 1), (8, some 6)] s = ⟨gS [(7, .row 0), (8, .row 1)], gH [(0, .row 1 f (u8s (r ++ m))), (1, .row 6 true (msD []))], 2, 0, []⟩ → wpW false prog (.loop [(7, some 1), (8, some 6)] l30_12) s (blockK 0 (seqK false prog ((CCode.reg r30_13 false (some [4, 5, 6])).seq CCode.ret) (leaveK false [.tmp 4, .tmp 5, .tmp 6] false [] none 0 (fdR (fdF ((r ++ m).length + 1) (r ++ m) []), [], [])))) := fun f s hg => by
    generalize r ++ m = B at hBl hg ⊢
    have hul := u8s_len B
    refine fd_first B hBl B.length [] f true s (by omega) (by simp; omega) hg (fun T nx hF hnx => ?_) (fun out' lo' f2 T nx hF hlo ho hnx => ?_) (fun out' f2 c T H nx hF hH => ?_)
    · rw [hF]
      rcases hnx with rfl | rfl
      all_goals simp -dsimp (disch := first | rfl | omega) only [fdR, r30_13, callW_cl pgClone, ↓vmP, vm0, vm1, vm2, vm3, vm4, vm5, vm6, vm7, vm8, vm9, vm10, vm11, vm12, vm13, vm14, vm15, vmC, vmN, Nat.reduceAdd, Nat.reduceMul, Nat.reduceSub, Nat.reduceEqDiff, Nat.reduceLT, Nat.reduceLeDiff, ↓reduceIte, Tg.isFull, Int.reduceToNat]
    · rw [hF]
      have hdl : (B.drop lo').length = B.length - lo' := by simp
      have hmin : (B.drop lo').take (B.length - lo') = B.drop lo' := by rw [List.take_of_length_le]; simp
      rcases hnx with rfl | rfl
      all_goals simp -dsimp (disch := first | rfl | omega) only [fdR, r30_13, callW_cl pgClone, hmin, ↓vmP, vm0, vm1, vm2, vm3, vm4, vm5, vm6, vm7, vm8, vm9, vm10, vm11, vm12, vm13, vm14, vm15, vmC, vmN, Nat.reduceAdd, Nat.reduceMul, Nat.reduceSub, Nat.reduceEqDiff, Nat.reduceLT, Nat.reduceLeDiff, ↓reduceIte, Tg.isFull, Int.reduceToNat]
    · rw [hF]
      rcases hH with rfl | ⟨x, y, rfl⟩ | ⟨x, y, z, rfl⟩
      all_goals simp -dsimp (disch := first | rfl | omega) only [fdR, ↓vmP, vm0, vm1, vm2, vm3, vm4, vm5, vm6, vm7, vm8, vm9, vm10, vm11, vm12, vm13, vm14, vm15, vmC, vmN, Nat.reduceAdd, Nat.reduceMul, Nat.reduceSub, Nat.reduceEqDiff, Nat.reduceLT, Nat.reduceLeDiff, ↓reduceIte, Tg.isFull, Int.reduceToNat]
  have ul1 := u8s_len r
  have ul2 := u8s_len m
  have em : (m = [] ∧ (u8s m).isEmpty = true) ∨ (u8s m).isEmpty = false := by cases m; exact .inl ⟨rfl, rfl⟩; exact .inr rfl
  rcases em with ⟨rfl, em⟩ | em
  · skip
    simp -dsimp (disch := first | rfl | omega) only [r30_0, r30_1, r30_2, hr, hm, em, callW_cl pgClone, u8s_nil, List.append_nil, ↓vmP, vm0, vm1, vm2, vm3, vm4, vm5, vm6, vm7, vm8, vm9, vm10, vm11, vm12, vm13, vm14, vm15, vmC, vmN, Nat.reduceAdd, Nat.reduceMul, Nat.reduceSub, Nat.reduceEqDiff, Nat.reduceLT, Nat.reduceLeDiff, ↓reduceIte, Tg.isFull, Int.reduceToNat]
    exact fin _ _ (by simp -dsimp (disch := first | rfl | omega) only [u8s_nil, List.append_nil, msD, List.map_nil, ↓vmP, vm0, vm1, vm2, vm3, vm4, vm5, vm6, vm7, vm8, vm9, vm10, vm11, vm12, vm13, vm14, vm15, vmC, vmN, Nat.reduceAdd, Nat.reduceMul, Nat.reduceSub, Nat.reduceEqDiff, Nat.reduceLT, Nat.reduceLeDiff, ↓reduceIte, Tg.isFull, Int.reduceToNat]; try rfl)
  · skip
    simp -dsimp (disch := first | rfl | omega) only [r30_0, r30_1, r30_2, hr, hm, em, callW_cl pgClone, u8s_nil, List.append_nil, ↓vmP, vm0, vm1, vm2, vm3, vm4, vm5, vm6, vm7, vm8, vm9, vm10, vm11, vm12, vm13, vm14, vm15, vmC, vmN, Nat.reduceAdd, Nat.reduceMul, Nat.reduceSub, Nat.reduceEqDiff, Nat.reduceLT, Nat.reduceLeDiff, ↓reduceIte, Tg.isFull, Int.reduceToNat]
    exact fin _ _ (by simp -dsimp (disch := first | rfl | omega) only [u8s_nil, List.append_nil, msD, List.map_nil, ↓vmP, vm0, vm1, vm2, vm3, vm4, vm5, vm6, vm7, vm8, vm9, vm10, vm11, vm12, vm13, vm14, vm15, vmC, vmN, Nat.reduceAdd, Nat.reduceMul, Nat.reduceSub, Nat.reduceEqDiff, Nat.reduceLT, Nat.reduceLeDiff, ↓reduceIte, Tg.isFull, Int.reduceToNat]; try rfl)
set_option maxRecDepth 20000 in
theorem RFeed_eq (r m : List UInt8) (t1 t2 : Tg) (z1 z2 : Nat) (hr : okSz 1 z1 (u8s r) = true) (hm : okSz 1 z2 (u8s m) = true) (hB : r.length + m.length ≤ 4000000) : runW false prog 16 [.d (.sl t1 z1 (u8s r)), .d (.sl t2 z2 (u8s m))] [] = some (fdR (fdF ((r ++ m).length + 1) (r ++ m) []), [], []) := by
  refine run_of rfl ?_
  have hBl : (r ++ m).length ≤ 4000000 := by simp; omega
  have fin : ∀ (f : Bool) (s : St), gc [(7, some 1), (8, some 6)] s = ⟨gS [(7, .row 0), (8, .row 1)], gH [(0, .row 1 f (u8s (r ++ m))), (1, .row 6 true (msD []))], 2, 0, []⟩ → wpW false prog (.loop [(7, some 1), (8, some 6)] l16_13) s (blockK 0 (seqK false prog ((CCode.reg r16_14 false (some [4, 5, 6])).seq CCode.ret) (leaveK false [.tmp 4, .tmp 5, .tmp 6] false [] none 0 (fdR (fdF ((r ++ m).length + 1) (r ++ m) []), [], [])))) := fun f s hg => by
    generalize r ++ m = B at hBl hg ⊢
    have hul := u8s_len B
    refine rfd_first B hBl B.length [] f true s (by omega) (by simp; omega) hg (fun T nx hF hnx => ?_) (fun out' lo' f2 T nx hF hlo ho hnx => ?_) (fun out' f2 c T H nx hF hH => ?_)
    · rw [hF]
      rcases hnx with rfl | rfl
      all_goals simp -dsimp (disch := first | rfl | omega) only [fdR, r16_14, ↓vmP, vm0, vm1, vm2, vm3, vm4, vm5, vm6, vm7, vm8, vm9, vm10, vm11, vm12, vm13, vm14, vm15, vmC, vmN, Nat.reduceAdd, Nat.reduceMul, Nat.reduceSub, Nat.reduceEqDiff, Nat.reduceLT, Nat.reduceLeDiff, ↓reduceIte, Tg.isFull, Int.reduceToNat]
    · rw [hF]
      have hdl : (B.drop lo').length = B.length - lo' := by simp
      have hmin : (B.drop lo').take (B.length - lo') = B.drop lo' := by rw [List.take_of_length_le]; simp
      rcases hnx with rfl | rfl
      all_goals simp -dsimp (disch := first | rfl | omega) only [fdR, r16_14, hmin, ↓vmP, vm0, vm1, vm2, vm3, vm4, vm5, vm6, vm7, vm8, vm9, vm10, vm11, vm12, vm13, vm14, vm15, vmC, vmN, Nat.reduceAdd, Nat.reduceMul, Nat.reduceSub, Nat.reduceEqDiff, Nat.reduceLT, Nat.reduceLeDiff, ↓reduceIte, Tg.isFull, Int.reduceToNat]
    · rw [hF]
      rcases hH with rfl | ⟨x, y, rfl⟩ | ⟨x, y, z, rfl⟩
      all_goals simp -dsimp (disch := first | rfl | omega) only [fdR, ↓vmP, vm0, vm1, vm2, vm3, vm4, vm5, vm6, vm7, vm8, vm9, vm10, vm11, vm12, vm13, vm14, vm15, vmC, vmN, Nat.reduceAdd, Nat.reduceMul, Nat.reduceSub, Nat.reduceEqDiff, Nat.reduceLT, Nat.reduceLeDiff, ↓reduceIte, Tg.isFull, Int.reduceToNat]
  have ul1 := u8s_len r
  have ul2 := u8s_len m
  have er : (r = [] ∧ (u8s r).isEmpty = true) ∨ (u8s r).isEmpty = false := by cases r; exact .inl ⟨rfl, rfl⟩; exact .inr rfl
  have em : (m = [] ∧ (u8s m).isEmpty = true) ∨ (u8s m).isEmpty = false := by cases m; exact .inl ⟨rfl, rfl⟩; exact .inr rfl
  rcases er with ⟨rfl, er⟩ | er
  · rcases em with ⟨rfl, em⟩ | em
    · skip
      simp -dsimp (disch := first | rfl | omega) only [r16_0, r16_1, r16_2, hr, hm, er, em, u8s_nil, List.append_nil, ↓vmP, vm0, vm1, vm2, vm3, vm4, vm5, vm6, vm7, vm8, vm9, vm10, vm11, vm12, vm13, vm14, vm15, vmC, vmN, Nat.reduceAdd, Nat.reduceMul, Nat.reduceSub, Nat.reduceEqDiff, Nat.reduceLT, Nat.reduceLeDiff, ↓reduceIte, Tg.isFull, Int.reduceToNat]
      exact fin _ _ (by simp -dsimp (disch := first | rfl | omega) only [u8s_nil, List.append_nil, msD, List.map_nil, ↓vmP, vm0, vm1, vm2, vm3, vm4, vm5, vm6, vm7, vm8, vm9, vm10, vm11, vm12, vm13, vm14, vm15, vmC, vmN, Nat.reduceAdd, Nat.reduceMul, Nat.reduceSub, Nat.reduceEqDiff, Nat.reduceLT, Nat.reduceLeDiff, ↓reduceIte, Tg.isFull, Int.reduceToNat]; try rfl)
    · skip
      simp -dsimp (disch := first | rfl | omega) only [r16_0, r16_1, r16_2, hr, hm, er, em, u8s_nil, List.append_nil, ↓vmP, vm0, vm1, vm2, vm3, vm4, vm5, vm6, vm7, vm8, vm9, vm10, vm11, vm12, vm13, vm14, vm15, vmC, vmN, Nat.reduceAdd, Nat.reduceMul, Nat.reduceSub, Nat.reduceEqDiff, Nat.reduceLT, Nat.reduceLeDiff, ↓reduceIte, Tg.isFull, Int.reduceToNat]
      exact fin _ _ (by simp -dsimp (disch := first | rfl | omega) only [u8s_nil, List.append_nil, msD, List.map_nil, ↓vmP, vm0, vm1, vm2, vm3, vm4, vm5, vm6, vm7, vm8, vm9, vm10, vm11, vm12, vm13, vm14, vm15, vmC, vmN, Nat.reduceAdd, Nat.reduceMul, Nat.reduceSub, Nat.reduceEqDiff, Nat.reduceLT, Nat.reduceLeDiff, ↓reduceIte, Tg.isFull, Int.reduceToNat]; try rfl)
  · rcases em with ⟨rfl, em⟩ | em
    · skip
      simp -dsimp (disch := first | rfl | omega) only [r16_0, r16_1, r16_2, hr, hm, er, em, u8s_nil, List.append_nil, ↓vmP, vm0, vm1, vm2, vm3, vm4, vm5, vm6, vm7, vm8, vm9, vm10, vm11, vm12, vm13, vm14, vm15, vmC, vmN, Nat.reduceAdd, Nat.reduceMul, Nat.reduceSub, Nat.reduceEqDiff, Nat.reduceLT, Nat.reduceLeDiff, ↓reduceIte, Tg.isFull, Int.reduceToNat]
      exact fin _ _ (by simp -dsimp (disch := first | rfl | omega) only [u8s_nil, List.append_nil, msD, List.map_nil, ↓vmP, vm0, vm1, vm2, vm3, vm4, vm5, vm6, vm7, vm8, vm9, vm10, vm11, vm12, vm13, vm14, vm15, vmC, vmN, Nat.reduceAdd, Nat.reduceMul, Nat.reduceSub, Nat.reduceEqDiff, Nat.reduceLT, Nat.reduceLeDiff, ↓reduceIte, Tg.isFull, Int.reduceToNat]; try rfl)
    · skip
      simp -dsimp (disch := first | rfl | omega) only [r16_0, r16_1, r16_2, hr, hm, er, em, u8s_nil, List.append_nil, ↓vmP, vm0, vm1, vm2, vm3, vm4, vm5, vm6, vm7, vm8, vm9, vm10, vm11, vm12, vm13, vm14, vm15, vmC, vmN, Nat.reduceAdd, Nat.reduceMul, Nat.reduceSub, Nat.reduceEqDiff, Nat.reduceLT, Nat.reduceLeDiff, ↓reduceIte, Tg.isFull, Int.reduceToNat]
      exact fin _ _ (by simp -dsimp (disch := first | rfl | omega) only [u8s_nil, List.append_nil, msD, List.map_nil, ↓vmP, vm0, vm1, vm2, vm3, vm4, vm5, vm6, vm7, vm8, vm9, vm10, vm11, vm12, vm13, vm14, vm15, vmC, vmN, Nat.reduceAdd, Nat.reduceMul, Nat.reduceSub, Nat.reduceEqDiff, Nat.reduceLT, Nat.reduceLeDiff, ↓reduceIte, Tg.isFull, Int.reduceToNat]; try rfl)
end Go.Vm.Wr
