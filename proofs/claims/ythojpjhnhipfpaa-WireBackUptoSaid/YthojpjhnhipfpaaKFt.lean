/- A part of the proof of WireBackUptoSaid: YthojpjhnhipfpaaFt. -/
import Derived.Test.YthojpjhnhipfpaaKFs
/- Messages read from bytes: the loops. -/
set_option linter.unusedVariables false
set_option linter.unusedSimpArgs false
set_option maxHeartbeats 400000
namespace Go.Vm.Wr
def n4 (b : List UInt8) : Nat := (((b.getD 0 0).toNat * 16777216 ||| (b.getD 1 0).toNat * 65536) ||| (b.getD 2 0).toNat * 256) ||| (b.getD 3 0).toNat
def fdF : Nat → List UInt8 → List Msg → (List Msg × List UInt8 × Bool)
  | 0, b, out => (out, b, true)
  | k + 1, b, out => if b.length < 4 then (out, b, true) else if n4 b = 0 ∨ 16512 < n4 b then (out, [], false) else if b.length < n4 b + 4 then (out, b, true)
    else if (dR (b.take (n4 b + 4))).2 then fdF k (b.drop (n4 b + 4)) (out ++ [(dR (b.take (n4 b + 4))).1]) else (out, [], false)
def mD (m : Msg) : List D := [.int .i64 m.kind, .str ⟨m.host.toArray⟩, .int .i64 m.epoch, .int .i64 m.seq, .int .i64 m.to, .sl .any m.bz (u8s m.body)]
def msD (l : List Msg) : List (List D) := l.map mD
theorem msD_len (l : List Msg) : (msD l).length = l.length := by simp [msD]
theorem msD_app (l : List Msg) (q : Msg) : msD l ++ [[.int .i64 q.kind, .str ⟨q.host.toArray⟩, .int .i64 q.epoch, .int .i64 q.seq, .int .i64 q.to, .sl .any q.bz (u8s q.body)]] = msD (l ++ [q]) := by simp [msD, mD]
theorem msD_app1 (l : List Msg) (k : Int) (h : List UInt8) (e s t : Int) (b : List UInt8) (z : Nat) : msD l ++ [[.int .i64 k, .str ⟨h.toArray⟩, .int .i64 e, .int .i64 s, .int .i64 t, .sl .any z (u8s b)]] = msD (l ++ [⟨k, h, e, s, t, b, .any, z⟩]) := by simp [msD, mD]
theorem sh24 (b : UInt8) : IntKind.i64.wrap ((b.toNat : Int) * 2 ^ (Nat.min 24 IntKind.i64.bits)) = ((b.toNat * 16777216 : Nat) : Int) := by
  have := b.toNat_lt
  have e : (2 : Int) ^ (Nat.min 24 IntKind.i64.bits) = 16777216 := rfl
  rw [e, w_i64 (by omega)]; simp
theorem sh16 (b : UInt8) : IntKind.i64.wrap ((b.toNat : Int) * 2 ^ (Nat.min 16 IntKind.i64.bits)) = ((b.toNat * 65536 : Nat) : Int) := by
  have := b.toNat_lt
  have e : (2 : Int) ^ (Nat.min 16 IntKind.i64.bits) = 65536 := rfl
  rw [e, w_i64 (by omega)]; simp
theorem n4_lt (c0 c1 c2 c3 : UInt8) : c0.toNat * 16777216 ||| c1.toNat * 65536 < 4294967296 ∧ (c0.toNat * 16777216 ||| c1.toNat * 65536) ||| c2.toNat * 256 < 4294967296 ∧ ((c0.toNat * 16777216 ||| c1.toNat * 65536) ||| c2.toNat * 256) ||| c3.toNat < 4294967296 := by
  have h0 := c0.toNat_lt
  have h1 := c1.toNat_lt
  have h2 := c2.toNat_lt
  have h3 := c3.toNat_lt
  have a1 : c0.toNat * 16777216 ||| c1.toNat * 65536 < 2 ^ 32 := Nat.or_lt_two_pow (by omega) (by omega)
  have a2 : (c0.toNat * 16777216 ||| c1.toNat * 65536) ||| c2.toNat * 256 < 2 ^ 32 := Nat.or_lt_two_pow a1 (by omega)
  have a3 : ((c0.toNat * 16777216 ||| c1.toNat * 65536) ||| c2.toNat * 256) ||| c3.toNat < 2 ^ 32 := Nat.or_lt_two_pow a2 (by omega)
  exact ⟨by omega, by omega, by omega⟩
theorem n4_num (c0 c1 c2 c3 : UInt8) :
    IntKind.i64.wrap ((BitVec.ofInt IntKind.i64.bits ((c0.toNat * 16777216 : Nat) : Int) ||| BitVec.ofInt IntKind.i64.bits ((c1.toNat * 65536 : Nat) : Int)).toNat : Int) = ((c0.toNat * 16777216 ||| c1.toNat * 65536 : Nat) : Int) ∧
    IntKind.i64.wrap ((BitVec.ofInt IntKind.i64.bits ((c0.toNat * 16777216 ||| c1.toNat * 65536 : Nat) : Int) ||| BitVec.ofInt IntKind.i64.bits ((c2.toNat * 256 : Nat) : Int)).toNat : Int) = (((c0.toNat * 16777216 ||| c1.toNat * 65536) ||| c2.toNat * 256 : Nat) : Int) ∧
    IntKind.i64.wrap ((BitVec.ofInt IntKind.i64.bits (((c0.toNat * 16777216 ||| c1.toNat * 65536) ||| c2.toNat * 256 : Nat) : Int) ||| BitVec.ofInt IntKind.i64.bits (c3.toNat : Int)).toNat : Int) = ((((c0.toNat * 16777216 ||| c1.toNat * 65536) ||| c2.toNat * 256) ||| c3.toNat : Nat) : Int) := by
  have h0 := c0.toNat_lt
  have h1 := c1.toNat_lt
  have h2 := c2.toNat_lt
  have h3 := c3.toNat_lt
  have ⟨a1, a2, a3⟩ := n4_lt c0 c1 c2 c3
  exact ⟨or_i64 _ _ (by omega) (by omega), or_i64 _ _ (by omega) (by omega), or_i64 _ _ (by omega) (by omega)⟩
theorem n4_ex (b : List UInt8) (c0 c1 c2 c3 : UInt8) (h0 : b.getD 0 0 = c0) (h1 : b.getD 1 0 = c1) (h2 : b.getD 2 0 = c2) (h3 : b.getD 3 0 = c3) : ∃ x0 x1 x2 y1 y2 : Nat, IntKind.i64.wrap ((c0.toNat : Int) * 2 ^ (Nat.min 24 IntKind.i64.bits)) = (x0 : Int) ∧ IntKind.i64.wrap ((c1.toNat : Int) * 2 ^ (Nat.min 16 IntKind.i64.bits)) = (x1 : Int) ∧ IntKind.i64.wrap ((c2.toNat : Int) * 2 ^ (Nat.min 8 IntKind.i64.bits)) = (x2 : Int) ∧
    IntKind.i64.wrap ((BitVec.ofInt IntKind.i64.bits (x0 : Int) ||| BitVec.ofInt IntKind.i64.bits (x1 : Int)).toNat : Int) = (y1 : Int) ∧ IntKind.i64.wrap ((BitVec.ofInt IntKind.i64.bits (y1 : Int) ||| BitVec.ofInt IntKind.i64.bits (x2 : Int)).toNat : Int) = (y2 : Int) ∧
    IntKind.i64.wrap ((BitVec.ofInt IntKind.i64.bits (y2 : Int) ||| BitVec.ofInt IntKind.i64.bits (c3.toNat : Int)).toNat : Int) = (n4 b : Int) ∧ n4 b < 4294967296 := by
  subst h0 h1 h2 h3
  obtain ⟨o1, o2, o3⟩ := n4_num (b.getD 0 0) (b.getD 1 0) (b.getD 2 0) (b.getD 3 0)
  exact ⟨_, _, _, _, _, sh24 _, sh16 _, sh8 _, o1, o2, o3, (n4_lt _ _ _ _).2.2⟩
theorem pgDec : prog 59 = some c59 := rfl
theorem pgRDec : prog 44 = some c44 := rfl
theorem pgREnc : prog 25 = some c25 := rfl
theorem pgSame : prog 22 = some c22 := rfl
theorem getD_drop (B : List UInt8) (lo i : Nat) : (B.drop lo).getD i 0 = B.getD (lo + i) 0 := by
  simp [List.getD_eq_getElem?_getD, List.getElem?_drop]
theorem nz_or (n : Nat) : (n = 0 ∨ 16512 < n) ∨ (1 ≤ n ∧ n ≤ 16512) := by omega
set_option maxRecDepth 20000 in
theorem fd_loop {Q : Ex → St → Prop} (B : List UInt8) (hB : B.length ≤ 4000000) : ∀ (k lo : Nat) (out : List Msg) (f f2 : Bool) (s : St), lo ≤ B.length → B.length - lo < k → out.length + (B.length - lo) ≤ 8000000 →
    gc [(7, some 1), (8, some 6)] s = ⟨gS [(7, .sub 0 lo B.length true), (8, .row 1)], gH [(0, .imm 1 f (u8s B)), (1, .row 6 f2 (msD out))], 2, 0, []⟩ →
    (∀ out' lo' f2 T nx, fdF k (B.drop lo) out = (out', B.drop lo', true) → lo' ≤ B.length → out'.length ≤ 8000000 → (nx = 26 ∨ nx = 298) → Q (.exit 0) ⟨gS ((7, .sub 0 lo' B.length true) :: (8, .row 1) :: T), gH [(0, .imm 1 f (u8s B)), (1, .row 6 f2 (msD out'))], nx, 0, []⟩) →
    (∀ out' f2 T H nx, fdF k (B.drop lo) out = (out', [], false) → (H = [] ∨ ∃ x y, H = [(362, x), (362, y)]) → Q .ret ⟨gS ((4, .row 1) :: (5, .d (.sl .nil 0 [])) :: (6, .d (.int .i64 331)) :: T), gH (H ++ [(0, .imm 1 f (u8s B)), (1, .row 6 f2 (msD out'))]), nx, 0, []⟩) →
    wpW false prog (.loop [(7, some 1), (8, some 6)] l30_12) s Q := by
  intro k
  induction k with
  | zero => intro lo out f f2 s h1 h2; omega
  | succ k ih =>
    intro lo out f f2 s hlo1 hk ho hg hQ hR
    refine wp_loop1 ?_
    rw [hg]
    generalize hJ : (fun s' => wpW false prog (.loop [(7, some 1), (8, some 6)] l30_12) s' Q) = J
    unfold l30_12
    have hbl : (B.drop lo).length = B.length - lo := by simp
    have hsub : ∀ x, lo + x - lo = x := fun x => by omega
    have hlo : lo + (B.length - lo) = B.length := by omega
    have hul := u8s_len B
    have hml := msD_len out
    have hsub4 : ∀ x, lo + (x + 4) - (lo + 4) = x := fun x => by omega
    have hlo3 : (lo ≤ B.length) = True := eq_true hlo1
    have hlo4 : (lo ≤ (u8s B).length) = True := eq_true (by rw [u8s_len]; exact hlo1)
    by_cases h4 : (B.length - lo) < 4
    · have e4 : (4 ≤ (((B.length - lo) : Nat) : Int)) = False := eq_false (by omega)
      have hF : fdF (k + 1) (B.drop lo) out = (out, (B.drop lo), true) := by simp only [fdF]; rw [if_pos (by rw [hbl]; exact h4)]
      simp -dsimp (disch := first | rfl | omega) only [r30_3, e4, msD_len, ↓vmP, vm0, vm1, vm2, vm3, vm4, vm5, vm6, vm7, vm8, vm9, vm10, vm11, vm12, vm13, vm14, vm15, vmC, vmN, Nat.reduceAdd, Nat.reduceMul, Nat.reduceSub, Nat.reduceEqDiff, Nat.reduceLT, Nat.reduceLeDiff, ↓reduceIte, Tg.isFull, Int.reduceToNat]
      exact hQ out lo f2 _ _ hF hlo1 (by omega) (.inl rfl)
    have e4 : (4 ≤ (((B.length - lo) : Nat) : Int)) = True := eq_true (by omega)
    have t0 := u8s_at B (i := lo) (by omega)
    have t1 := u8s_at B (i := lo + 1) (by omega)
    have t2 := u8s_at B (i := lo + 2) (by omega)
    have t3 := u8s_at B (i := lo + 3) (by omega)
    obtain ⟨x0, x1, x2, y1, y2, s0, s1, s2, o1, o2, o3, b3⟩ := n4_ex (B.drop lo) (B.getD (lo) 0) (B.getD (lo + 1) 0) (B.getD (lo + 2) 0) (B.getD (lo + 3) 0) (getD_drop _ _ _) (getD_drop _ _ _) (getD_drop _ _ _) (getD_drop _ _ _)
    generalize B.getD (lo) 0 = c0 at t0 s0
    generalize B.getD (lo + 1) 0 = c1 at t1 s1
    generalize B.getD (lo + 2) 0 = c2 at t2 s2
    generalize B.getD (lo + 3) 0 = c3 at t3 o3
    have d0 : (0 : Int) < 1 := by omega
    have hF0 : fdF (k + 1) (B.drop lo) out = _ := rfl
    conv at hF0 => rhs; unfold fdF
    rw [if_neg (show ¬ ((B.drop lo) : List UInt8).length < 4 by rw [hbl]; omega)] at hF0
    generalize hnn : n4 (B.drop lo) = n at o3 b3 hF0
    rcases nz_or n with hz | ⟨z1, z2⟩
    · rw [if_pos hz] at hF0
      have ez : ((n : Int) = 0) = True ∨ (((n : Int) = 0) = False ∧ (16512 < (n : Int)) = True) := by
        rcases hz with h | h
        · exact .inl (eq_true (by omega))
        · exact .inr ⟨eq_false (by omega), eq_true (by omega)⟩
      rcases ez with ez | ⟨ez, ez2⟩
      · simp -dsimp (disch := first | rfl | omega) only [r30_3, r30_4, e4, t0, t1, t2, t3, s0, s1, s2, o1, o2, o3, ↓vmP, vm0, vm1, vm2, vm3, vm4, vm5, vm6, vm7, vm8, vm9, vm10, vm11, vm12, vm13, vm14, vm15, vmC, vmN, Nat.reduceAdd, Nat.reduceMul, Nat.reduceSub, Nat.reduceEqDiff, Nat.reduceLT, Nat.reduceLeDiff, ↓reduceIte, Tg.isFull, Int.reduceToNat]
        refine regD_of (by kernel_rfl) ?_
        simp -dsimp (disch := first | rfl | omega) only [r30_5, r30_6, ez, ↓vmP, vm0, vm1, vm2, vm3, vm4, vm5, vm6, vm7, vm8, vm9, vm10, vm11, vm12, vm13, vm14, vm15, vmC, vmN, Nat.reduceAdd, Nat.reduceMul, Nat.reduceSub, Nat.reduceEqDiff, Nat.reduceLT, Nat.reduceLeDiff, ↓reduceIte, Tg.isFull, Int.reduceToNat]
        exact hR out f2 _ [] _ hF0 (.inl rfl)
      · simp -dsimp (disch := first | rfl | omega) only [r30_3, r30_4, e4, t0, t1, t2, t3, s0, s1, s2, o1, o2, o3, ↓vmP, vm0, vm1, vm2, vm3, vm4, vm5, vm6, vm7, vm8, vm9, vm10, vm11, vm12, vm13, vm14, vm15, vmC, vmN, Nat.reduceAdd, Nat.reduceMul, Nat.reduceSub, Nat.reduceEqDiff, Nat.reduceLT, Nat.reduceLeDiff, ↓reduceIte, Tg.isFull, Int.reduceToNat]
        refine regD_of (by kernel_rfl) ?_
        simp -dsimp (disch := first | rfl | omega) only [r30_5, r30_6, ez, ez2, ↓vmP, vm0, vm1, vm2, vm3, vm4, vm5, vm6, vm7, vm8, vm9, vm10, vm11, vm12, vm13, vm14, vm15, vmC, vmN, Nat.reduceAdd, Nat.reduceMul, Nat.reduceSub, Nat.reduceEqDiff, Nat.reduceLT, Nat.reduceLeDiff, ↓reduceIte, Tg.isFull, Int.reduceToNat]
        exact hR out f2 _ [] _ hF0 (.inl rfl)
    have ez : ((n : Int) = 0) = False := eq_false (by omega)
    have ez2 : (16512 < (n : Int)) = False := eq_false (by omega)
    have en : (n : Int) + 4 = ((n + 4 : Nat) : Int) := by omega
    rw [if_neg (show ¬ (n = 0 ∨ 16512 < n) by omega)] at hF0
    by_cases hs : (B.length - lo) < n + 4
    · have es : ((((B.length - lo) : Nat) : Int) < ((n + 4 : Nat) : Int)) = True := eq_true (by omega)
      rw [if_pos (by rw [hbl]; exact hs)] at hF0
      simp -dsimp (disch := first | rfl | omega) only [r30_3, r30_4, e4, t0, t1, t2, t3, s0, s1, s2, o1, o2, o3, ↓vmP, vm0, vm1, vm2, vm3, vm4, vm5, vm6, vm7, vm8, vm9, vm10, vm11, vm12, vm13, vm14, vm15, vmC, vmN, Nat.reduceAdd, Nat.reduceMul, Nat.reduceSub, Nat.reduceEqDiff, Nat.reduceLT, Nat.reduceLeDiff, ↓reduceIte, Tg.isFull, Int.reduceToNat]
      refine regD_of (by kernel_rfl) ?_
      simp -dsimp (disch := first | rfl | omega) only [r30_5, r30_7, ez, ez2, en, es, msD_len, ↓vmP, vm0, vm1, vm2, vm3, vm4, vm5, vm6, vm7, vm8, vm9, vm10, vm11, vm12, vm13, vm14, vm15, vmC, vmN, Nat.reduceAdd, Nat.reduceMul, Nat.reduceSub, Nat.reduceEqDiff, Nat.reduceLT, Nat.reduceLeDiff, ↓reduceIte, Tg.isFull, Int.reduceToNat]
      exact hQ out lo f2 _ _ hF0 hlo1 (by omega) (.inr rfl)
    have es : ((((B.length - lo) : Nat) : Int) < ((n + 4 : Nat) : Int)) = False := eq_false (by omega)
    rw [if_neg (by rw [hbl]; exact hs)] at hF0
    have hs1 : n + 4 ≤ (B.length - lo) := by omega
    have hD := Dec_eq ((B.drop lo).take (n + 4)) (by rw [List.length_take, hbl]; omega) (by rw [List.length_take, hbl]; omega)
    generalize hdr : dR ((B.drop lo).take (n + 4)) = dd at hD hF0
    obtain ⟨q, ok⟩ := dd
    simp only at hD hF0
    cases ok
    · rw [if_neg (by decide)] at hF0
      simp -dsimp (disch := first | rfl | omega) only [r30_3, r30_4, e4, t0, t1, t2, t3, s0, s1, s2, o1, o2, o3, ↓vmP, vm0, vm1, vm2, vm3, vm4, vm5, vm6, vm7, vm8, vm9, vm10, vm11, vm12, vm13, vm14, vm15, vmC, vmN, Nat.reduceAdd, Nat.reduceMul, Nat.reduceSub, Nat.reduceEqDiff, Nat.reduceLT, Nat.reduceLeDiff, ↓reduceIte, Tg.isFull, Int.reduceToNat]
      refine regD_of (by kernel_rfl) ?_
      simp only [mC] at hD
      simp -dsimp (disch := first | rfl | omega) only [r30_5, r30_7, r30_8, r30_9, r30_10, ez, ez2, en, es, callW_fn pgDec, hD, hsub, hlo, hsub4, ↓vmP, vm0, vm1, vm2, vm3, vm4, vm5, vm6, vm7, vm8, vm9, vm10, vm11, vm12, vm13, vm14, vm15, vmC, vmN, Nat.reduceAdd, Nat.reduceMul, Nat.reduceSub, Nat.reduceEqDiff, Nat.reduceLT, Nat.reduceLeDiff, ↓reduceIte, Tg.isFull, Int.reduceToNat]
      exact hR out f2 _ [_, _] _ hF0 (.inr ⟨_, _, rfl⟩)
    · rw [if_pos rfl] at hF0
      simp -dsimp (disch := first | rfl | omega) only [r30_3, r30_4, e4, t0, t1, t2, t3, s0, s1, s2, o1, o2, o3, ↓vmP, vm0, vm1, vm2, vm3, vm4, vm5, vm6, vm7, vm8, vm9, vm10, vm11, vm12, vm13, vm14, vm15, vmC, vmN, Nat.reduceAdd, Nat.reduceMul, Nat.reduceSub, Nat.reduceEqDiff, Nat.reduceLT, Nat.reduceLeDiff, ↓reduceIte, Tg.isFull, Int.reduceToNat]
      refine regD_of (by kernel_rfl) ?_
      simp only [mC] at hD
      simp -dsimp (disch := first | rfl | omega) only [r30_5, r30_7, r30_8, r30_9, r30_11, ez, ez2, en, es, callW_fn pgDec, hD, hsub, hlo, hsub4, dimF, msD_len, ↓vmP, vm0, vm1, vm2, vm3, vm4, vm5, vm6, vm7, vm8, vm9, vm10, vm11, vm12, vm13, vm14, vm15, vmC, vmN, Nat.reduceAdd, Nat.reduceMul, Nat.reduceSub, Nat.reduceEqDiff, Nat.reduceLT, Nat.reduceLeDiff, ↓reduceIte, Tg.isFull, Int.reduceToNat]
      refine regD_of (by kernel_rfl) ?_
      simp -dsimp (disch := first | rfl | omega) only [dimF, msD_app, hsub, hlo, hsub4, ↓vmP, vm0, vm1, vm2, vm3, vm4, vm5, vm6, vm7, vm8, vm9, vm10, vm11, vm12, vm13, vm14, vm15, vmC, vmN, Nat.reduceAdd, Nat.reduceMul, Nat.reduceSub, Nat.reduceEqDiff, Nat.reduceLT, Nat.reduceLeDiff, ↓reduceIte, Tg.isFull, Int.reduceToNat]
      rw [← hJ]
      have hdd : (B.drop lo).drop (n + 4) = B.drop (lo + (n + 4)) := by rw [List.drop_drop]
      rw [hdd] at hF0
      exact ih (lo + (n + 4)) (out ++ [_]) f false _ (by omega) (by omega) (by simp; omega) (by simp -dsimp (disch := first | rfl | omega) only [↓vmP, vm0, vm1, vm2, vm3, vm4, vm5, vm6, vm7, vm8, vm9, vm10, vm11, vm12, vm13, vm14, vm15, vmC, vmN, Nat.reduceAdd, Nat.reduceMul, Nat.reduceSub, Nat.reduceEqDiff, Nat.reduceLT, Nat.reduceLeDiff, ↓reduceIte, Tg.isFull, Int.reduceToNat]) (fun out' lo' f2 T nx h1 h2 h3 h4 => hQ out' lo' f2 T nx (hF0.trans h1) h2 h3 h4) (fun out' f2 T H nx h1 h2 => hR out' f2 T H nx (hF0.trans h1) h2)
set_option maxRecDepth 20000 in
theorem rfd_loop {Q : Ex → St → Prop} (B : List UInt8) (hB : B.length ≤ 4000000) : ∀ (k lo : Nat) (out : List Msg) (f f2 : Bool) (s : St), lo ≤ B.length → B.length - lo < k → out.length + (B.length - lo) ≤ 8000000 →
    gc [(7, some 1), (8, some 6)] s = ⟨gS [(7, .sub 0 lo B.length true), (8, .row 1)], gH [(0, .imm 1 f (u8s B)), (1, .row 6 f2 (msD out))], 2, 0, []⟩ →
    (∀ out' lo' f2 T nx, fdF k (B.drop lo) out = (out', B.drop lo', true) → lo' ≤ B.length → out'.length ≤ 8000000 → (nx = 26 ∨ nx = 298) → Q (.exit 0) ⟨gS ((7, .sub 0 lo' B.length true) :: (8, .row 1) :: T), gH [(0, .imm 1 f (u8s B)), (1, .row 6 f2 (msD out'))], nx, 0, []⟩) →
    (∀ out' f2 T H nx, fdF k (B.drop lo) out = (out', [], false) → (H = [] ∨ ∃ x y, H = [(362, x), (362, y)]) → Q .ret ⟨gS ((4, .row 1) :: (5, .d (.sl .nil 0 [])) :: (6, .d (.int .i64 331)) :: T), gH (H ++ [(0, .imm 1 f (u8s B)), (1, .row 6 f2 (msD out'))]), nx, 0, []⟩) →
    wpW false prog (.loop [(7, some 1), (8, some 6)] l16_13) s Q := by
  intro k
  induction k with
  | zero => intro lo out f f2 s h1 h2; omega
  | succ k ih =>
    intro lo out f f2 s hlo1 hk ho hg hQ hR
    refine wp_loop1 ?_
    rw [hg]
    generalize hJ : (fun s' => wpW false prog (.loop [(7, some 1), (8, some 6)] l16_13) s' Q) = J
    unfold l16_13
    have hbl : (B.drop lo).length = B.length - lo := by simp
    have hsub : ∀ x, lo + x - lo = x := fun x => by omega
    have hlo : lo + (B.length - lo) = B.length := by omega
    have hul := u8s_len B
    have hml := msD_len out
    have hsub4 : ∀ x, lo + (x + 4) - (lo + 4) = x := fun x => by omega
    have hlo3 : (lo ≤ B.length) = True := eq_true hlo1
    have hlo4 : (lo ≤ (u8s B).length) = True := eq_true (by rw [u8s_len]; exact hlo1)
    by_cases h4 : (B.length - lo) < 4
    · have e4 : (4 ≤ (((B.length - lo) : Nat) : Int)) = False := eq_false (by omega)
      have hF : fdF (k + 1) (B.drop lo) out = (out, (B.drop lo), true) := by simp only [fdF]; rw [if_pos (by rw [hbl]; exact h4)]
      simp -dsimp (disch := first | rfl | omega) only [r16_3, e4, msD_len, ↓vmP, vm0, vm1, vm2, vm3, vm4, vm5, vm6, vm7, vm8, vm9, vm10, vm11, vm12, vm13, vm14, vm15, vmC, vmN, Nat.reduceAdd, Nat.reduceMul, Nat.reduceSub, Nat.reduceEqDiff, Nat.reduceLT, Nat.reduceLeDiff, ↓reduceIte, Tg.isFull, Int.reduceToNat]
      exact hQ out lo f2 _ _ hF hlo1 (by omega) (.inl rfl)
    have e4 : (4 ≤ (((B.length - lo) : Nat) : Int)) = True := eq_true (by omega)
    have t0 := u8s_at B (i := lo) (by omega)
    have t1 := u8s_at B (i := lo + 1) (by omega)
    have t2 := u8s_at B (i := lo + 2) (by omega)
    have t3 := u8s_at B (i := lo + 3) (by omega)
    obtain ⟨x0, x1, x2, y1, y2, s0, s1, s2, o1, o2, o3, b3⟩ := n4_ex (B.drop lo) (B.getD (lo) 0) (B.getD (lo + 1) 0) (B.getD (lo + 2) 0) (B.getD (lo + 3) 0) (getD_drop _ _ _) (getD_drop _ _ _) (getD_drop _ _ _) (getD_drop _ _ _)
    generalize B.getD (lo) 0 = c0 at t0 s0
    generalize B.getD (lo + 1) 0 = c1 at t1 s1
    generalize B.getD (lo + 2) 0 = c2 at t2 s2
    generalize B.getD (lo + 3) 0 = c3 at t3 o3
    have d0 : (0 : Int) < 1 := by omega
    have hF0 : fdF (k + 1) (B.drop lo) out = _ := rfl
    conv at hF0 => rhs; unfold fdF
    rw [if_neg (show ¬ ((B.drop lo) : List UInt8).length < 4 by rw [hbl]; omega)] at hF0
    generalize hnn : n4 (B.drop lo) = n at o3 b3 hF0
    rcases nz_or n with hz | ⟨z1, z2⟩
    · rw [if_pos hz] at hF0
      have ez : ((n : Int) < 1) = True ∨ (((n : Int) < 1) = False ∧ (16512 < (n : Int)) = True) := by
        rcases hz with h | h
        · exact .inl (eq_true (by omega))
        · exact .inr ⟨eq_false (by omega), eq_true (by omega)⟩
      rcases ez with ez | ⟨ez, ez2⟩
      · simp -dsimp (disch := first | rfl | omega) only [r16_3, r16_4, e4, t0, t1, t2, t3, s0, s1, s2, o1, o2, o3, ↓vmP, vm0, vm1, vm2, vm3, vm4, vm5, vm6, vm7, vm8, vm9, vm10, vm11, vm12, vm13, vm14, vm15, vmC, vmN, Nat.reduceAdd, Nat.reduceMul, Nat.reduceSub, Nat.reduceEqDiff, Nat.reduceLT, Nat.reduceLeDiff, ↓reduceIte, Tg.isFull, Int.reduceToNat]
        refine regD_of (by kernel_rfl) ?_
        simp -dsimp (disch := first | rfl | omega) only [r16_5, r16_6, ez, ↓vmP, vm0, vm1, vm2, vm3, vm4, vm5, vm6, vm7, vm8, vm9, vm10, vm11, vm12, vm13, vm14, vm15, vmC, vmN, Nat.reduceAdd, Nat.reduceMul, Nat.reduceSub, Nat.reduceEqDiff, Nat.reduceLT, Nat.reduceLeDiff, ↓reduceIte, Tg.isFull, Int.reduceToNat]
        exact hR out f2 _ [] _ hF0 (.inl rfl)
      · simp -dsimp (disch := first | rfl | omega) only [r16_3, r16_4, e4, t0, t1, t2, t3, s0, s1, s2, o1, o2, o3, ↓vmP, vm0, vm1, vm2, vm3, vm4, vm5, vm6, vm7, vm8, vm9, vm10, vm11, vm12, vm13, vm14, vm15, vmC, vmN, Nat.reduceAdd, Nat.reduceMul, Nat.reduceSub, Nat.reduceEqDiff, Nat.reduceLT, Nat.reduceLeDiff, ↓reduceIte, Tg.isFull, Int.reduceToNat]
        refine regD_of (by kernel_rfl) ?_
        simp -dsimp (disch := first | rfl | omega) only [r16_5, r16_6, ez, ez2, ↓vmP, vm0, vm1, vm2, vm3, vm4, vm5, vm6, vm7, vm8, vm9, vm10, vm11, vm12, vm13, vm14, vm15, vmC, vmN, Nat.reduceAdd, Nat.reduceMul, Nat.reduceSub, Nat.reduceEqDiff, Nat.reduceLT, Nat.reduceLeDiff, ↓reduceIte, Tg.isFull, Int.reduceToNat]
        exact hR out f2 _ [] _ hF0 (.inl rfl)
    have ez : ((n : Int) < 1) = False := eq_false (by omega)
    have ez2 : (16512 < (n : Int)) = False := eq_false (by omega)
    have en : 4 + (n : Int) = ((n + 4 : Nat) : Int) := by omega
    rw [if_neg (show ¬ (n = 0 ∨ 16512 < n) by omega)] at hF0
    by_cases hs : (B.length - lo) < n + 4
    · have es : ((((B.length - lo) : Nat) : Int) < ((n + 4 : Nat) : Int)) = True := eq_true (by omega)
      rw [if_pos (by rw [hbl]; exact hs)] at hF0
      simp -dsimp (disch := first | rfl | omega) only [r16_3, r16_4, e4, t0, t1, t2, t3, s0, s1, s2, o1, o2, o3, ↓vmP, vm0, vm1, vm2, vm3, vm4, vm5, vm6, vm7, vm8, vm9, vm10, vm11, vm12, vm13, vm14, vm15, vmC, vmN, Nat.reduceAdd, Nat.reduceMul, Nat.reduceSub, Nat.reduceEqDiff, Nat.reduceLT, Nat.reduceLeDiff, ↓reduceIte, Tg.isFull, Int.reduceToNat]
      refine regD_of (by kernel_rfl) ?_
      simp -dsimp (disch := first | rfl | omega) only [r16_5, r16_7, ez, ez2, en, es, msD_len, ↓vmP, vm0, vm1, vm2, vm3, vm4, vm5, vm6, vm7, vm8, vm9, vm10, vm11, vm12, vm13, vm14, vm15, vmC, vmN, Nat.reduceAdd, Nat.reduceMul, Nat.reduceSub, Nat.reduceEqDiff, Nat.reduceLT, Nat.reduceLeDiff, ↓reduceIte, Tg.isFull, Int.reduceToNat]
      exact hQ out lo f2 _ _ hF0 hlo1 (by omega) (.inr rfl)
    have es : ((((B.length - lo) : Nat) : Int) < ((n + 4 : Nat) : Int)) = False := eq_false (by omega)
    rw [if_neg (by rw [hbl]; exact hs)] at hF0
    have hs1 : n + 4 ≤ (B.length - lo) := by omega
    have hWl : ((B.drop lo).take (n + 4)).length = n + 4 := by rw [List.length_take, hbl]; omega
    obtain ⟨m, ok, hD, hwf, htg, hd1, hd2⟩ := RDec_ex ((B.drop lo).take (n + 4)) (by omega) (by omega)
    have hE := REnc_all m hwf
    obtain ⟨mk, mh, me, mq, mt, mb, mtg, mz⟩ := m
    simp only at htg
    subst htg
    rw [show ((B.drop lo).take (n + 4)).drop 4 = (B.drop (lo + 4)).take n by rw [List.drop_take, List.drop_drop, Nat.add_sub_cancel]] at hD
    have hS := fun t1 t2 z1 z2 => SameBytes_eq (enc ⟨mk, mh, me, mq, mt, mb, .any, mz⟩) ((B.drop lo).take (n + 4)) t1 t2 z1 z2
    generalize hv : vld ⟨mk, mh, me, mq, mt, mb, .any, mz⟩ = v at hE hd1
    generalize hen : enc ⟨mk, mh, me, mq, mt, mb, .any, mz⟩ = em at hE hd1 hS
    generalize hWW : (B.drop lo).take (n + 4) = WW at hS hd1 hd2 hF0 hWl
    simp only [mC] at hD hE
    cases ok
    · simp only [Bool.false_and] at hd1
      rw [hd1, if_neg (by decide)] at hF0
      cases v
      all_goals
        simp only [if_true, if_false, Bool.false_eq_true] at hE
        simp -dsimp (disch := first | rfl | omega) only [r16_3, r16_4, e4, t0, t1, t2, t3, s0, s1, s2, o1, o2, o3, ↓vmP, vm0, vm1, vm2, vm3, vm4, vm5, vm6, vm7, vm8, vm9, vm10, vm11, vm12, vm13, vm14, vm15, vmC, vmN, Nat.reduceAdd, Nat.reduceMul, Nat.reduceSub, Nat.reduceEqDiff, Nat.reduceLT, Nat.reduceLeDiff, ↓reduceIte, Tg.isFull, Int.reduceToNat]
        refine regD_of (by kernel_rfl) ?_
        simp -dsimp (disch := first | rfl | omega) only [r16_5, r16_7, r16_8, r16_9, r16_10, r16_11, ez, ez2, en, es, callW_fn pgRDec, callW_fn pgREnc, callW_fn pgSame, hD, hE, hS, hsub, hlo, hsub4, Int.reduceEq, ne_eq, not_true_eq_false, not_false_eq_true, ↓vmP, vm0, vm1, vm2, vm3, vm4, vm5, vm6, vm7, vm8, vm9, vm10, vm11, vm12, vm13, vm14, vm15, vmC, vmN, Nat.reduceAdd, Nat.reduceMul, Nat.reduceSub, Nat.reduceEqDiff, Nat.reduceLT, Nat.reduceLeDiff, ↓reduceIte, Tg.isFull, Int.reduceToNat]
        exact hR out f2 _ [_, _] _ hF0 (.inr ⟨_, _, rfl⟩)
    · cases v
      · simp only [Bool.and_false, Bool.false_and] at hd1
        rw [hd1, if_neg (by decide)] at hF0
        simp only [if_true, if_false, Bool.false_eq_true] at hE
        simp -dsimp (disch := first | rfl | omega) only [r16_3, r16_4, e4, t0, t1, t2, t3, s0, s1, s2, o1, o2, o3, ↓vmP, vm0, vm1, vm2, vm3, vm4, vm5, vm6, vm7, vm8, vm9, vm10, vm11, vm12, vm13, vm14, vm15, vmC, vmN, Nat.reduceAdd, Nat.reduceMul, Nat.reduceSub, Nat.reduceEqDiff, Nat.reduceLT, Nat.reduceLeDiff, ↓reduceIte, Tg.isFull, Int.reduceToNat]
        refine regD_of (by kernel_rfl) ?_
        simp -dsimp (disch := first | rfl | omega) only [r16_5, r16_7, r16_8, r16_9, r16_10, r16_11, ez, ez2, en, es, callW_fn pgRDec, callW_fn pgREnc, callW_fn pgSame, hD, hE, hS, hsub, hlo, hsub4, Int.reduceEq, ne_eq, not_true_eq_false, not_false_eq_true, ↓vmP, vm0, vm1, vm2, vm3, vm4, vm5, vm6, vm7, vm8, vm9, vm10, vm11, vm12, vm13, vm14, vm15, vmC, vmN, Nat.reduceAdd, Nat.reduceMul, Nat.reduceSub, Nat.reduceEqDiff, Nat.reduceLT, Nat.reduceLeDiff, ↓reduceIte, Tg.isFull, Int.reduceToNat]
        exact hR out f2 _ [_, _] _ hF0 (.inr ⟨_, _, rfl⟩)
      · simp only [if_true, Bool.true_and] at hE hd1
        by_cases hq : em = WW
        · have hq2 : decide (em = WW) = true := by simp [hq]
          rw [hq2] at hd1 hS
          rw [hd1, if_pos rfl, ← hd2 hd1] at hF0
          simp -dsimp (disch := first | rfl | omega) only [r16_3, r16_4, e4, t0, t1, t2, t3, s0, s1, s2, o1, o2, o3, ↓vmP, vm0, vm1, vm2, vm3, vm4, vm5, vm6, vm7, vm8, vm9, vm10, vm11, vm12, vm13, vm14, vm15, vmC, vmN, Nat.reduceAdd, Nat.reduceMul, Nat.reduceSub, Nat.reduceEqDiff, Nat.reduceLT, Nat.reduceLeDiff, ↓reduceIte, Tg.isFull, Int.reduceToNat]
          refine regD_of (by kernel_rfl) ?_
          simp -dsimp (disch := first | rfl | omega) only [r16_5, r16_7, r16_8, r16_9, r16_10, r16_12, ez, ez2, en, es, callW_fn pgRDec, callW_fn pgREnc, callW_fn pgSame, hD, hE, hS, hWW, hsub, hlo, hsub4, Int.reduceEq, ne_eq, not_true_eq_false, not_false_eq_true, msD_len, ↓vmP, vm0, vm1, vm2, vm3, vm4, vm5, vm6, vm7, vm8, vm9, vm10, vm11, vm12, vm13, vm14, vm15, vmC, vmN, Nat.reduceAdd, Nat.reduceMul, Nat.reduceSub, Nat.reduceEqDiff, Nat.reduceLT, Nat.reduceLeDiff, ↓reduceIte, Tg.isFull, Int.reduceToNat]
          refine regD_of (by kernel_rfl) ?_
          simp -dsimp (disch := first | rfl | omega) only [msD_app1, hsub, hlo, hsub4, ↓vmP, vm0, vm1, vm2, vm3, vm4, vm5, vm6, vm7, vm8, vm9, vm10, vm11, vm12, vm13, vm14, vm15, vmC, vmN, Nat.reduceAdd, Nat.reduceMul, Nat.reduceSub, Nat.reduceEqDiff, Nat.reduceLT, Nat.reduceLeDiff, ↓reduceIte, Tg.isFull, Int.reduceToNat]
          rw [← hJ]
          have hdd : (B.drop lo).drop (n + 4) = B.drop (lo + (n + 4)) := by rw [List.drop_drop]
          rw [hdd] at hF0
          exact ih (lo + (n + 4)) (out ++ [_]) f false _ (by omega) (by omega) (by simp; omega) (by simp -dsimp (disch := first | rfl | omega) only [↓vmP, vm0, vm1, vm2, vm3, vm4, vm5, vm6, vm7, vm8, vm9, vm10, vm11, vm12, vm13, vm14, vm15, vmC, vmN, Nat.reduceAdd, Nat.reduceMul, Nat.reduceSub, Nat.reduceEqDiff, Nat.reduceLT, Nat.reduceLeDiff, ↓reduceIte, Tg.isFull, Int.reduceToNat]) (fun out' lo' f2 T nx h1 h2 h3 h4 => hQ out' lo' f2 T nx (hF0.trans h1) h2 h3 h4) (fun out' f2 T H nx h1 h2 => hR out' f2 T H nx (hF0.trans h1) h2)
        · have hq2 : decide (em = WW) = false := by simp [hq]
          rw [hq2] at hd1 hS
          rw [hd1, if_neg (by decide)] at hF0
          simp -dsimp (disch := first | rfl | omega) only [r16_3, r16_4, e4, t0, t1, t2, t3, s0, s1, s2, o1, o2, o3, ↓vmP, vm0, vm1, vm2, vm3, vm4, vm5, vm6, vm7, vm8, vm9, vm10, vm11, vm12, vm13, vm14, vm15, vmC, vmN, Nat.reduceAdd, Nat.reduceMul, Nat.reduceSub, Nat.reduceEqDiff, Nat.reduceLT, Nat.reduceLeDiff, ↓reduceIte, Tg.isFull, Int.reduceToNat]
          refine regD_of (by kernel_rfl) ?_
          simp -dsimp (disch := first | rfl | omega) only [r16_5, r16_7, r16_8, r16_9, r16_10, r16_11, ez, ez2, en, es, callW_fn pgRDec, callW_fn pgREnc, callW_fn pgSame, hD, hE, hS, hWW, hsub, hlo, hsub4, Int.reduceEq, ne_eq, not_true_eq_false, not_false_eq_true, ↓vmP, vm0, vm1, vm2, vm3, vm4, vm5, vm6, vm7, vm8, vm9, vm10, vm11, vm12, vm13, vm14, vm15, vmC, vmN, Nat.reduceAdd, Nat.reduceMul, Nat.reduceSub, Nat.reduceEqDiff, Nat.reduceLT, Nat.reduceLeDiff, ↓reduceIte, Tg.isFull, Int.reduceToNat]
          exact hR out f2 _ [_, _] _ hF0 (.inr ⟨_, _, rfl⟩)
end Go.Vm.Wr
