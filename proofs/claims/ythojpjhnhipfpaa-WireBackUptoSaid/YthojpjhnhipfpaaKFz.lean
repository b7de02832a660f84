/- A part of the proof of WireBackUptoSaid: YthojpjhnhipfpaaFz. -/
import Derived.Test.YthojpjhnhipfpaaKFw
/- Messages in pieces: the plain law, and the statement run. -/
set_option linter.unusedVariables false
set_option linter.unusedSimpArgs false
set_option maxHeartbeats 1000000
namespace Go.Vm.Wr
theorem pgNewP : prog 9 = some c9 := rfl
theorem n4_lenB (n : Nat) (h : n ≤ 16512) (x : List UInt8) : n4 (lenB n ++ x) = n := by
  have e1 : n / 16777216 = 0 := by omega
  have e2 : n / 65536 = 0 := by omega
  have e3 := Nat.two_pow_add_eq_or_of_lt (i := 8) (show n % 256 < 2 ^ 8 by omega) (n / 256)
  show (((UInt8.ofNat (n / 16777216)).toNat * 16777216 ||| (UInt8.ofNat (n / 65536)).toNat * 65536) ||| (UInt8.ofNat (n / 256)).toNat * 256) ||| (UInt8.ofNat n).toNat = n
  rw [e1, e2]
  simp only [UInt8.toNat_ofNat']
  have a : n / 256 % 2 ^ 8 = n / 256 := Nat.mod_eq_of_lt (by omega)
  have b : n % 2 ^ 8 = n % 256 := rfl
  rw [a, b, show 0 % 2 ^ 8 * 16777216 = 0 from rfl, Nat.zero_or, Nat.zero_or, show n / 256 * 256 = 2 ^ 8 * (n / 256) by omega, ← e3]
  omega
theorem n4_pre {p q x : List UInt8} (h : p ++ q = x) (h4 : 4 ≤ p.length) : n4 p = n4 x := by
  subst h
  unfold n4
  have e : ∀ i, i < 4 → (p ++ q).getD i 0 = p.getD i 0 := fun i hi => by
    simp only [List.getD_eq_getElem?_getD]
    rw [List.getElem?_append_left (by omega)]
  rw [e 0 (by omega), e 1 (by omega), e 2 (by omega), e 3 (by omega)]
theorem enc_n4 {m : Msg} (hv : vld m = true) (x : List UInt8) : n4 (enc m ++ x) = (bodyB m).length ∧ (enc m).length = (bodyB m).length + 4 := by
  have := bodyB_len hv
  refine ⟨?_, by simp [enc, lenB]⟩
  show n4 ((lenB (bodyB m).length ++ bodyB m) ++ x) = _
  rw [List.append_assoc]
  exact n4_lenB _ this.2 _
theorem encs_cons (m : Msg) (l : List Msg) : encs (m :: l) = enc m ++ encs l := by simp [encs]
theorem fd_pref : ∀ (L : List Msg) (p q : List UInt8) (out : List Msg) (k : Nat), p ++ q = encs L → (∀ m ∈ L, Nm m) → p.length < k →
    ∃ i p', i ≤ L.length ∧ fdF k p out = (out ++ L.take i, p', true) ∧ p' ++ q = encs (L.drop i) ∧ (q = [] → i = L.length ∧ p' = [])
  | L, p, q, out, 0, _, _, hk => by omega
  | [], p, q, out, k + 1, h, hm, hk => by
    have hp : p = [] ∧ q = [] := by simpa [encs] using h
    obtain ⟨rfl, rfl⟩ := hp
    exact ⟨0, [], by simp, by simp [fdF], by simp [encs], fun _ => ⟨rfl, rfl⟩⟩
  | m :: L, p, q, out, k + 1, h, hm, hk => by
    have hmv := hm m (List.mem_cons_self ..)
    rw [encs_cons] at h
    obtain ⟨n1, n2⟩ := enc_n4 hmv.v (encs L)
    have hb := bodyB_len hmv.v
    have hq : q = [] → ¬ p.length < (bodyB m).length + 4 := fun e => by
      subst e
      rw [List.append_nil] at h
      rw [h, List.length_append]; omega
    by_cases h4 : p.length < 4
    · refine ⟨0, p, by simp, by simp [fdF, h4], by rw [h]; simp [encs], fun e => absurd h4 (by have := hq e; omega)⟩
    · have hn : n4 p = (bodyB m).length := by rw [n4_pre h (by omega), n1]
      by_cases hs : p.length < (bodyB m).length + 4
      · refine ⟨0, p, by simp, ?_, by rw [h]; simp [encs], fun e => absurd hs (hq e)⟩
        unfold fdF
        rw [if_neg h4, hn, if_neg (by omega), if_pos hs]
        simp
      · have hpe : p.take ((bodyB m).length + 4) = enc m := by
          have : (p ++ q).take ((bodyB m).length + 4) = enc m := by rw [h, List.take_append_of_le_length (by omega), List.take_of_length_le (by omega)]
          rw [List.take_append_of_le_length (by omega)] at this
          exact this
        have hpd : p.drop ((bodyB m).length + 4) ++ q = encs L := by
          have : (p ++ q).drop ((bodyB m).length + 4) = encs L := by rw [h, List.drop_append_of_le_length (by omega), List.drop_of_length_le (by omega)]; simp
          rw [List.drop_append_of_le_length (by omega)] at this
          exact this
        have hd := dR_enc m hmv.v
        rw [nm_no hmv] at hd
        obtain ⟨i, p', i1, i2, i3, i4⟩ := fd_pref L (p.drop ((bodyB m).length + 4)) q (out ++ [m]) k hpd (fun x hx => hm x (List.mem_cons_of_mem _ hx)) (by simp; omega)
        refine ⟨i + 1, p', by simp; omega, ?_, by simpa using i3, fun e => ⟨by simpa using (i4 e).1, (i4 e).2⟩⟩
        unfold fdF
        rw [if_neg h4, hn, if_neg (by omega), if_neg hs, hpe, hd, if_pos rfl, i2]
        simp
/-- The state of the reading: so many messages are out, the rest is still to come. -/
def Inv (L got : List Msg) (rest b : List UInt8) : Prop := ∃ i, i ≤ L.length ∧ got = L.take i ∧ rest ++ b = encs (L.drop i)
theorem msD_appL (a b : List Msg) : msD a ++ msD b = msD (a ++ b) := by simp [msD]
theorem p_loop {Q : Ex → St → Prop} (L : List Msg) (hL : ∀ m ∈ L, Nm m) (hl : L.length ≤ 10) (cuts : List UInt8) (hc : cuts.length ≤ 9223372036854775807) : ∀ (k j : Nat) (got : List Msg) (rest b : List UInt8) (t : Tg) (z : Nat) (f : Bool) (s : St), j + k = cuts.length → Inv L got rest b → okSz 1 z (u8s rest) = true →
    gc [(5, none), (6, none), (7, some 6), (8, none), (24, none), (25, none), (26, none)] s = ⟨gS [(5, .d (.sl .any 6 (msD L))), (6, .d (.sl .any 1 (u8s b))), (7, .row 0), (8, .d (.sl t z (u8s rest))), (24, .d (.sl .any 1 (u8s cuts))), (25, .d (.int .i64 cuts.length)), (26, .d (.int .i64 j))], gH [(0, .row 6 f (msD got))], 1, 0, []⟩ →
    (∀ got rest b t z f T, Inv L got rest b → okSz 1 z (u8s rest) = true → Q (.exit 0) ⟨gS ((5, .d (.sl .any 6 (msD L))) :: (6, .d (.sl .any 1 (u8s b))) :: (7, .row 0) :: (8, .d (.sl t z (u8s rest))) :: T), gH [(0, .row 6 f (msD got))], 9, 0, []⟩) →
    wpW false prog (.loop [(5, none), (6, none), (7, some 6), (8, none), (24, none), (25, none), (26, none)] l7_13) s Q := by
  intro k
  induction k with
  | zero =>
    intro j got rest b t z f s hj hI hz hg hQ
    refine wp_loop1 ?_
    rw [hg]
    generalize hJ : (fun s' => wpW false prog (.loop [(5, none), (6, none), (7, some 6), (8, none), (24, none), (25, none), (26, none)] l7_13) s' Q) = J
    unfold l7_13
    have e0 : ((j : Int) < cuts.length) = False := eq_false (by omega)
    simp -dsimp (disch := first | rfl | omega) only [r7_5, e0, ↓vmP, vm0, vm1, vm2, vm3, vm4, vm5, vm6, vm7, vm8, vm9, vm10, vm11, vm12, vm13, vm14, vm15, vmC, vmN, Nat.reduceAdd, Nat.reduceMul, Nat.reduceSub, Nat.reduceEqDiff, Nat.reduceLT, Nat.reduceLeDiff, ↓reduceIte, Tg.isFull, Int.reduceToNat]
    exact hQ _ _ _ _ _ _ _ hI hz
  | succ k ih =>
    intro j got rest b t z f s hj hI hz hg hQ
    refine wp_loop1 ?_
    rw [hg]
    generalize hJ : (fun s' => wpW false prog (.loop [(5, none), (6, none), (7, some 6), (8, none), (24, none), (25, none), (26, none)] l7_13) s' Q) = J
    unfold l7_13
    have e0 : ((j : Int) < cuts.length) = True := eq_true (by omega)
    have ej : ((j : Int) + 1) = ((j + 1 : Nat) : Int) := by omega
    have hat := u8s_at cuts (show j < cuts.length by omega)
    generalize cuts.getD j 0 = c at hat
    have em : (if (b.length : Int) < (c.toNat : Int) then (b.length : Int) else (c.toNat : Int)) = ((min c.toNat b.length : Nat) : Int) := by split <;> omega
    obtain ⟨i, hi, rfl, hrb⟩ := hI
    have hel : (encs (L.drop i)).length ≤ 165160 := by
      have := encs_len (l := L.drop i) (fun x hx => hL x (List.mem_of_mem_drop hx))
      simp at this; omega
    have hrl : rest.length + b.length ≤ 165160 := by
      have := congrArg List.length hrb
      simp at this; omega
    have hmb : min c.toNat b.length ≤ b.length := Nat.min_le_right ..
    generalize min c.toNat b.length = x at em hmb
    have hF := Feed_eq rest (b.take x) .any .any z 1 hz rfl (by simp; omega)
    obtain ⟨i2, p', j1, j2, j3, _⟩ := fd_pref (L.drop i) (rest ++ b.take x) (b.drop x) [] ((rest ++ b.take x).length + 1) (by rw [List.append_assoc, List.take_append_drop]; exact hrb) (fun y hy => hL y (List.mem_of_mem_drop hy)) (by omega)
    rw [j2] at hF
    simp only [List.nil_append, fdR] at hF
    have hI2 : Inv L (L.take i ++ (L.drop i).take i2) p' (b.drop x) := ⟨i + i2, by simp at j1; omega, by rw [List.take_add], by rw [j3, List.drop_drop]⟩
    have hgl := msD_len (L.take i)
    have hgl2 := msD_len ((L.drop i).take i2)
    have hgl3 : (L.take i).length ≤ 10 := by simp; omega
    have hgl4 : ((L.drop i).take i2).length ≤ 10 := by simp; omega
    have htk : (b.drop x).take (b.length - x) = b.drop x := by rw [List.take_of_length_le]; simp
    generalize (L.drop i).take i2 = out at hgl2 hgl4 hF hI2
    simp -dsimp (disch := first | rfl | omega) only [r7_5, r7_6, r7_7, r7_8, r7_9, r7_11, r7_12, callW_fn pgFeed, hF, hat, e0, ej, em, dimF, htk, msD_appL, ne_eq, not_true_eq_false, ↓vmP, vm0, vm1, vm2, vm3, vm4, vm5, vm6, vm7, vm8, vm9, vm10, vm11, vm12, vm13, vm14, vm15, vmC, vmN, Nat.reduceAdd, Nat.reduceMul, Nat.reduceSub, Nat.reduceEqDiff, Nat.reduceLT, Nat.reduceLeDiff, ↓reduceIte, Tg.isFull, Int.reduceToNat]
    refine regD_of (by kernel_rfl) ?_
    simp -dsimp (disch := first | rfl | omega) only [r7_12, ej, htk, msD_appL, ↓vmP, vm0, vm1, vm2, vm3, vm4, vm5, vm6, vm7, vm8, vm9, vm10, vm11, vm12, vm13, vm14, vm15, vmC, vmN, Nat.reduceAdd, Nat.reduceMul, Nat.reduceSub, Nat.reduceEqDiff, Nat.reduceLT, Nat.reduceLeDiff, ↓reduceIte, Tg.isFull, Int.reduceToNat]
    rw [← hJ]
    exact ih (j + 1) _ p' (b.drop x) .any 1 false _ (by omega) hI2 rfl (by simp -dsimp (disch := first | rfl | omega) only [↓vmP, vm0, vm1, vm2, vm3, vm4, vm5, vm6, vm7, vm8, vm9, vm10, vm11, vm12, vm13, vm14, vm15, vmC, vmN, Nat.reduceAdd, Nat.reduceMul, Nat.reduceSub, Nat.reduceEqDiff, Nat.reduceLT, Nat.reduceLeDiff, ↓reduceIte, Tg.isFull, Int.reduceToNat]) hQ
theorem law_pieces (codes cuts : List UInt8) (hc : cuts.length ≤ 9223372036854775807) : runW false prog 7 [.d (.sl .any 1 (u8s codes)), .d (.sl .any 1 (u8s cuts))] [] = some (.d (.bool true), [], []) := by
  refine run_of rfl ?_
  have h1 := New_eq codes 200 (by omega)
  rw [show ((200 : Nat) : Int) = 200 from rfl] at h1
  have hcl : (codes.take 200).length ≤ 1000 := by rw [List.length_take]; omega
  generalize codes.take 200 = l at h1 hcl
  obtain ⟨L, a1, hL, hLl, _, _, h2⟩ := Stream_ex l 0 hcl (by omega)
  simp only [cs] at h1 h2
  simp -dsimp (disch := first | rfl | omega) only [cs, r7_0, r7_1, r7_2, r7_3, r7_4, callW_fn pgNewP, callW_fn pgStream, h1, h2, ↓vmP, vm0, vm1, vm2, vm3, vm4, vm5, vm6, vm7, vm8, vm9, vm10, vm11, vm12, vm13, vm14, vm15, vmC, vmN, Nat.reduceAdd, Nat.reduceMul, Nat.reduceSub, Nat.reduceEqDiff, Nat.reduceLT, Nat.reduceLeDiff, ↓reduceIte, Tg.isFull, Int.reduceToNat]
  refine p_loop L hL hLl cuts hc cuts.length 0 [] [] (encs L) .nil 0 true _ (by omega) ⟨0, by omega, by simp, by simp⟩ rfl (by simp -dsimp (disch := first | rfl | omega) only [u8s_nil, msD, List.map_nil, ↓vmP, vm0, vm1, vm2, vm3, vm4, vm5, vm6, vm7, vm8, vm9, vm10, vm11, vm12, vm13, vm14, vm15, vmC, vmN, Nat.reduceAdd, Nat.reduceMul, Nat.reduceSub, Nat.reduceEqDiff, Nat.reduceLT, Nat.reduceLeDiff, ↓reduceIte, Tg.isFull, Int.reduceToNat]; rfl) (fun got rest b t z f T hI hz => ?_)
  obtain ⟨i, hi, rfl, hrb⟩ := hI
  have hel : (encs (L.drop i)).length ≤ 165160 := by
    have := encs_len (l := L.drop i) (fun x hx => hL x (List.mem_of_mem_drop hx))
    simp at this; omega
  have hrl : rest.length + b.length ≤ 165160 := by
    have := congrArg List.length hrb
    simp at this; omega
  have hF := Feed_eq rest b .any .any z 1 hz rfl (by omega)
  obtain ⟨i2, p', j1, j2, j3, j4⟩ := fd_pref (L.drop i) (rest ++ b) [] [] ((rest ++ b).length + 1) (by rw [List.append_nil]; exact hrb) (fun y hy => hL y (List.mem_of_mem_drop hy)) (by omega)
  obtain ⟨rfl, rfl⟩ := j4 rfl
  rw [j2] at hF
  simp only [List.nil_append, fdR, List.take_length, u8s_nil] at hF
  have hS := fun t1 t2 => SameList_self L (by omega) t1 t2 6 6 (fun _ => rfl) (fun _ => rfl)
  have hgl := msD_len (L.take i)
  have hgl2 := msD_len (L.drop i)
  have hgl3 : (L.take i).length ≤ 10 := by simp; omega
  have hgl4 : (L.drop i).length ≤ 10 := by simp; omega
  have hall : msD (L.take i) ++ msD (L.drop i) = msD L := by rw [msD_appL, List.take_append_drop]
  simp -dsimp (disch := first | rfl | omega) only [r7_14, r7_15, callW_fn pgFeed, callW_fn pgSameL, callW_fn pgBegun, begun_eq, hF, hS, hall, dimF, show (((0 : Nat) : Int)) = 0 from rfl, ↓vmP, vm0, vm1, vm2, vm3, vm4, vm5, vm6, vm7, vm8, vm9, vm10, vm11, vm12, vm13, vm14, vm15, vmC, vmN, Nat.reduceAdd, Nat.reduceMul, Nat.reduceSub, Nat.reduceEqDiff, Nat.reduceLT, Nat.reduceLeDiff, ↓reduceIte, Tg.isFull, Int.reduceToNat]
end Go.Vm.Wr
