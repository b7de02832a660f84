/- A part of the proof of WireBackUptoSaid: YthojpjhnhipfpaaFk. -/
import Derived.Test.YthojpjhnhipfpaaKFj
/- The bytes of a message, by the reference. -/
set_option linter.unusedVariables false
set_option linter.unusedSimpArgs false
set_option maxHeartbeats 4000000
namespace Go.Vm.Wr
theorem pgRValid : prog 27 = some c27 := rfl
theorem pgPutr : prog 54 = some c54 := rfl
set_option maxRecDepth 20000 in
theorem RE_1 (host : List UInt8) (epoch seq to : Int) (body : List UInt8) (tg : Tg) (bz : Nat) (hh : host.length ≤ 1000) (hz : okSz 1 bz (u8s body) = true) (hv : vld ⟨1, host, epoch, seq, to, body, tg, bz⟩ = true) : runW false prog 25 [.agg (mC ⟨1, host, epoch, seq, to, body, tg, bz⟩)] [] = some (.tup [.d (.sl .any 1 (u8s (enc ⟨1, host, epoch, seq, to, body, tg, bz⟩))), .d (.int .i64 0)], [], []) := by
  refine run_of rfl ?_
  have hV := RValid_eq ⟨1, host, epoch, seq, to, body, .any, bz⟩ (by show host.length ≤ _; omega)
  rw [vld_tg _ _ _ _ _ _ .any tg bz bz, hv] at hV
  have hf := hv
  rw [vld_1] at hf
  simp only [Bool.and_eq_true, decide_eq_true_eq] at hf
  have hu := uses_eq 1
  rw [show us 1 = (true, true, false, false) from rfl] at hu
  simp only at hu
  simp only [mC] at hV
  have wk : IntKind.u8.wrap 1 = ((toB 1).toNat : Int) := w_toB 1
  obtain ⟨n2, rfl⟩ : ∃ n : Nat, epoch = n := ⟨epoch.toNat, by omega⟩
  obtain ⟨n3, rfl⟩ : ∃ n : Nat, seq = n := ⟨seq.toNat, by omega⟩
  have hbn : body = [] := List.eq_nil_of_length_eq_zero (by omega)
  subst hbn
  rw [u8s_nil] at hV
  have w2 := vb_len n2 (by omega)
  have p2 := fun f => Put_row n2 (by omega) ((toB 1 :: UInt8.ofNat host.length :: host)) (by simp; omega) f
  have w3 := vb_len n3 (by omega)
  have p3 := fun f => Put_row n3 (by omega) ((toB 1 :: UInt8.ofNat host.length :: (host ++ vb n2))) (by simp; omega) f
  simp -dsimp (disch := first | rfl | omega) only [mC, r25_0, r25_1, r25_2, r25_3, r25_4, r25_5, r25_6, r25_7, r25_8, r25_9, r25_10, r25_11, r25_12, r25_13, r25_14, callW_fn pgRValid, callW_fn pgUses, callW_fn pgPutr, hV, hu, dimF, wk, shr8, shr16, shr24, bsz, byteCells_of, hz, u8s_nil, p2, p3, ↓vmP, vm0, vm1, vm2, vm3, vm4, vm5, vm6, vm7, vm8, vm9, vm10, vm11, vm12, vm13, vm14, vm15, vmC, vmN, Nat.reduceAdd, Nat.reduceMul, Nat.reduceSub, Nat.reduceEqDiff, Nat.reduceLT, Nat.reduceLeDiff, ↓reduceIte, Tg.isFull, Int.reduceToNat]
  refine regD_of (by kernel_rfl) ?_
  simp -dsimp (disch := first | rfl | omega) only [mC, r25_7, r25_8, r25_9, r25_10, r25_11, r25_12, r25_13, r25_14, callW_fn pgPutr, dimF, shr8, shr16, shr24, bsz, byteCells_of, hz, u8s_nil, p2, p3, ↓vmP, vm0, vm1, vm2, vm3, vm4, vm5, vm6, vm7, vm8, vm9, vm10, vm11, vm12, vm13, vm14, vm15, vmC, vmN, Nat.reduceAdd, Nat.reduceMul, Nat.reduceSub, Nat.reduceEqDiff, Nat.reduceLT, Nat.reduceLeDiff, ↓reduceIte, Tg.isFull, Int.reduceToNat]
  simp only [u8_cons]
  refine congrArg (fun z => some (A.tup [A.d (D.sl Tg.any 1 (u8s z)), A.d (D.int .i64 0)], ([] : List Chunk), ([] : List Nat))) ?_
  simp [enc, lenB, bodyB, lst, fbl, fbs, Nat.add_assoc]
set_option maxRecDepth 20000 in
theorem RE_2 (host : List UInt8) (epoch seq to : Int) (body : List UInt8) (tg : Tg) (bz : Nat) (hh : host.length ≤ 1000) (hz : okSz 1 bz (u8s body) = true) (hv : vld ⟨2, host, epoch, seq, to, body, tg, bz⟩ = true) : runW false prog 25 [.agg (mC ⟨2, host, epoch, seq, to, body, tg, bz⟩)] [] = some (.tup [.d (.sl .any 1 (u8s (enc ⟨2, host, epoch, seq, to, body, tg, bz⟩))), .d (.int .i64 0)], [], []) := by
  refine run_of rfl ?_
  have hV := RValid_eq ⟨2, host, epoch, seq, to, body, .any, bz⟩ (by show host.length ≤ _; omega)
  rw [vld_tg _ _ _ _ _ _ .any tg bz bz, hv] at hV
  have hf := hv
  rw [vld_2] at hf
  simp only [Bool.and_eq_true, decide_eq_true_eq] at hf
  have hu := uses_eq 2
  rw [show us 2 = (false, true, false, false) from rfl] at hu
  simp only at hu
  simp only [mC] at hV
  have wk : IntKind.u8.wrap 2 = ((toB 2).toNat : Int) := w_toB 2
  obtain ⟨n3, rfl⟩ : ∃ n : Nat, seq = n := ⟨seq.toNat, by omega⟩
  have hbn : body = [] := List.eq_nil_of_length_eq_zero (by omega)
  subst hbn
  rw [u8s_nil] at hV
  have w3 := vb_len n3 (by omega)
  have p3 := fun f => Put_row n3 (by omega) ((toB 2 :: [])) (by simp) f
  simp -dsimp (disch := first | rfl | omega) only [mC, r25_0, r25_1, r25_2, r25_3, r25_4, r25_5, r25_6, r25_7, r25_8, r25_9, r25_10, r25_11, r25_12, r25_13, r25_14, callW_fn pgRValid, callW_fn pgUses, callW_fn pgPutr, hV, hu, dimF, wk, shr8, shr16, shr24, bsz, byteCells_of, hz, u8s_nil, p3, ↓vmP, vm0, vm1, vm2, vm3, vm4, vm5, vm6, vm7, vm8, vm9, vm10, vm11, vm12, vm13, vm14, vm15, vmC, vmN, Nat.reduceAdd, Nat.reduceMul, Nat.reduceSub, Nat.reduceEqDiff, Nat.reduceLT, Nat.reduceLeDiff, ↓reduceIte, Tg.isFull, Int.reduceToNat]
  simp only [u8_cons]
  refine congrArg (fun z => some (A.tup [A.d (D.sl Tg.any 1 (u8s z)), A.d (D.int .i64 0)], ([] : List Chunk), ([] : List Nat))) ?_
  simp [enc, lenB, bodyB, lst, fbl, fbs, Nat.add_assoc]
set_option maxRecDepth 20000 in
theorem RE_3 (host : List UInt8) (epoch seq to : Int) (body : List UInt8) (tg : Tg) (bz : Nat) (hh : host.length ≤ 1000) (hz : okSz 1 bz (u8s body) = true) (hv : vld ⟨3, host, epoch, seq, to, body, tg, bz⟩ = true) : runW false prog 25 [.agg (mC ⟨3, host, epoch, seq, to, body, tg, bz⟩)] [] = some (.tup [.d (.sl .any 1 (u8s (enc ⟨3, host, epoch, seq, to, body, tg, bz⟩))), .d (.int .i64 0)], [], []) := by
  refine run_of rfl ?_
  have hV := RValid_eq ⟨3, host, epoch, seq, to, body, .any, bz⟩ (by show host.length ≤ _; omega)
  rw [vld_tg _ _ _ _ _ _ .any tg bz bz, hv] at hV
  have hf := hv
  rw [vld_3] at hf
  simp only [Bool.and_eq_true, decide_eq_true_eq] at hf
  have hu := uses_eq 3
  rw [show us 3 = (false, true, false, true) from rfl] at hu
  simp only at hu
  simp only [mC] at hV
  have wk : IntKind.u8.wrap 3 = ((toB 3).toNat : Int) := w_toB 3
  obtain ⟨n3, rfl⟩ : ∃ n : Nat, seq = n := ⟨seq.toNat, by omega⟩
  have w3 := vb_len n3 (by omega)
  have p3 := fun f => Put_row n3 (by omega) ((toB 3 :: [])) (by simp) f
  simp -dsimp (disch := first | rfl | omega) only [mC, r25_0, r25_1, r25_2, r25_3, r25_4, r25_5, r25_6, r25_7, r25_8, r25_9, r25_10, r25_11, r25_12, r25_13, r25_14, callW_fn pgRValid, callW_fn pgUses, callW_fn pgPutr, hV, hu, dimF, wk, shr8, shr16, shr24, bsz, byteCells_of, hz, u8s_nil, p3, ↓vmP, vm0, vm1, vm2, vm3, vm4, vm5, vm6, vm7, vm8, vm9, vm10, vm11, vm12, vm13, vm14, vm15, vmC, vmN, Nat.reduceAdd, Nat.reduceMul, Nat.reduceSub, Nat.reduceEqDiff, Nat.reduceLT, Nat.reduceLeDiff, ↓reduceIte, Tg.isFull, Int.reduceToNat]
  simp only [u8_cons]
  refine congrArg (fun z => some (A.tup [A.d (D.sl Tg.any 1 (u8s z)), A.d (D.int .i64 0)], ([] : List Chunk), ([] : List Nat))) ?_
  simp [enc, lenB, bodyB, lst, fbl, fbs, Nat.add_assoc]
set_option maxRecDepth 20000 in
theorem RE_4 (host : List UInt8) (epoch seq to : Int) (body : List UInt8) (tg : Tg) (bz : Nat) (hh : host.length ≤ 1000) (hz : okSz 1 bz (u8s body) = true) (hv : vld ⟨4, host, epoch, seq, to, body, tg, bz⟩ = true) : runW false prog 25 [.agg (mC ⟨4, host, epoch, seq, to, body, tg, bz⟩)] [] = some (.tup [.d (.sl .any 1 (u8s (enc ⟨4, host, epoch, seq, to, body, tg, bz⟩))), .d (.int .i64 0)], [], []) := by
  refine run_of rfl ?_
  have hV := RValid_eq ⟨4, host, epoch, seq, to, body, .any, bz⟩ (by show host.length ≤ _; omega)
  rw [vld_tg _ _ _ _ _ _ .any tg bz bz, hv] at hV
  have hf := hv
  rw [vld_4] at hf
  simp only [Bool.and_eq_true, decide_eq_true_eq] at hf
  have hu := uses_eq 4
  rw [show us 4 = (false, true, true, false) from rfl] at hu
  simp only at hu
  simp only [mC] at hV
  have wk : IntKind.u8.wrap 4 = ((toB 4).toNat : Int) := w_toB 4
  obtain ⟨n3, rfl⟩ : ∃ n : Nat, seq = n := ⟨seq.toNat, by omega⟩
  obtain ⟨n4, rfl⟩ : ∃ n : Nat, to = n := ⟨to.toNat, by omega⟩
  have hbn : body = [] := List.eq_nil_of_length_eq_zero (by omega)
  subst hbn
  rw [u8s_nil] at hV
  have w3 := vb_len n3 (by omega)
  have p3 := fun f => Put_row n3 (by omega) ((toB 4 :: [])) (by simp) f
  have w4 := vb_len n4 (by omega)
  have p4 := fun f => Put_row n4 (by omega) ((toB 4 :: vb n3)) (by simp; omega) f
  simp -dsimp (disch := first | rfl | omega) only [mC, r25_0, r25_1, r25_2, r25_3, r25_4, r25_5, r25_6, r25_7, r25_8, r25_9, r25_10, r25_11, r25_12, r25_13, r25_14, callW_fn pgRValid, callW_fn pgUses, callW_fn pgPutr, hV, hu, dimF, wk, shr8, shr16, shr24, bsz, byteCells_of, hz, u8s_nil, p3, p4, ↓vmP, vm0, vm1, vm2, vm3, vm4, vm5, vm6, vm7, vm8, vm9, vm10, vm11, vm12, vm13, vm14, vm15, vmC, vmN, Nat.reduceAdd, Nat.reduceMul, Nat.reduceSub, Nat.reduceEqDiff, Nat.reduceLT, Nat.reduceLeDiff, ↓reduceIte, Tg.isFull, Int.reduceToNat]
  simp only [u8_cons]
  refine congrArg (fun z => some (A.tup [A.d (D.sl Tg.any 1 (u8s z)), A.d (D.int .i64 0)], ([] : List Chunk), ([] : List Nat))) ?_
  simp [enc, lenB, bodyB, lst, fbl, fbs, Nat.add_assoc]
set_option maxRecDepth 20000 in
theorem RE_5 (host : List UInt8) (epoch seq to : Int) (body : List UInt8) (tg : Tg) (bz : Nat) (hh : host.length ≤ 1000) (hz : okSz 1 bz (u8s body) = true) (hv : vld ⟨5, host, epoch, seq, to, body, tg, bz⟩ = true) : runW false prog 25 [.agg (mC ⟨5, host, epoch, seq, to, body, tg, bz⟩)] [] = some (.tup [.d (.sl .any 1 (u8s (enc ⟨5, host, epoch, seq, to, body, tg, bz⟩))), .d (.int .i64 0)], [], []) := by
  refine run_of rfl ?_
  have hV := RValid_eq ⟨5, host, epoch, seq, to, body, .any, bz⟩ (by show host.length ≤ _; omega)
  rw [vld_tg _ _ _ _ _ _ .any tg bz bz, hv] at hV
  have hf := hv
  rw [vld_5] at hf
  simp only [Bool.and_eq_true, decide_eq_true_eq] at hf
  have hu := uses_eq 5
  rw [show us 5 = (false, true, false, false) from rfl] at hu
  simp only at hu
  simp only [mC] at hV
  have wk : IntKind.u8.wrap 5 = ((toB 5).toNat : Int) := w_toB 5
  obtain ⟨n3, rfl⟩ : ∃ n : Nat, seq = n := ⟨seq.toNat, by omega⟩
  have hbn : body = [] := List.eq_nil_of_length_eq_zero (by omega)
  subst hbn
  rw [u8s_nil] at hV
  have w3 := vb_len n3 (by omega)
  have p3 := fun f => Put_row n3 (by omega) ((toB 5 :: [])) (by simp) f
  simp -dsimp (disch := first | rfl | omega) only [mC, r25_0, r25_1, r25_2, r25_3, r25_4, r25_5, r25_6, r25_7, r25_8, r25_9, r25_10, r25_11, r25_12, r25_13, r25_14, callW_fn pgRValid, callW_fn pgUses, callW_fn pgPutr, hV, hu, dimF, wk, shr8, shr16, shr24, bsz, byteCells_of, hz, u8s_nil, p3, ↓vmP, vm0, vm1, vm2, vm3, vm4, vm5, vm6, vm7, vm8, vm9, vm10, vm11, vm12, vm13, vm14, vm15, vmC, vmN, Nat.reduceAdd, Nat.reduceMul, Nat.reduceSub, Nat.reduceEqDiff, Nat.reduceLT, Nat.reduceLeDiff, ↓reduceIte, Tg.isFull, Int.reduceToNat]
  simp only [u8_cons]
  refine congrArg (fun z => some (A.tup [A.d (D.sl Tg.any 1 (u8s z)), A.d (D.int .i64 0)], ([] : List Chunk), ([] : List Nat))) ?_
  simp [enc, lenB, bodyB, lst, fbl, fbs, Nat.add_assoc]
set_option maxRecDepth 20000 in
theorem RE_6 (host : List UInt8) (epoch seq to : Int) (body : List UInt8) (tg : Tg) (bz : Nat) (hh : host.length ≤ 1000) (hz : okSz 1 bz (u8s body) = true) (hv : vld ⟨6, host, epoch, seq, to, body, tg, bz⟩ = true) : runW false prog 25 [.agg (mC ⟨6, host, epoch, seq, to, body, tg, bz⟩)] [] = some (.tup [.d (.sl .any 1 (u8s (enc ⟨6, host, epoch, seq, to, body, tg, bz⟩))), .d (.int .i64 0)], [], []) := by
  refine run_of rfl ?_
  have hV := RValid_eq ⟨6, host, epoch, seq, to, body, .any, bz⟩ (by show host.length ≤ _; omega)
  rw [vld_tg _ _ _ _ _ _ .any tg bz bz, hv] at hV
  have hf := hv
  rw [vld_6] at hf
  simp only [Bool.and_eq_true, decide_eq_true_eq] at hf
  have hu := uses_eq 6
  rw [show us 6 = (false, false, false, false) from rfl] at hu
  simp only at hu
  simp only [mC] at hV
  have wk : IntKind.u8.wrap 6 = ((toB 6).toNat : Int) := w_toB 6
  have hbn : body = [] := List.eq_nil_of_length_eq_zero (by omega)
  subst hbn
  rw [u8s_nil] at hV
  simp -dsimp (disch := first | rfl | omega) only [mC, r25_0, r25_1, r25_2, r25_3, r25_4, r25_5, r25_6, r25_7, r25_8, r25_9, r25_10, r25_11, r25_12, r25_13, r25_14, callW_fn pgRValid, callW_fn pgUses, callW_fn pgPutr, hV, hu, dimF, wk, shr8, shr16, shr24, bsz, byteCells_of, hz, u8s_nil, ↓vmP, vm0, vm1, vm2, vm3, vm4, vm5, vm6, vm7, vm8, vm9, vm10, vm11, vm12, vm13, vm14, vm15, vmC, vmN, Nat.reduceAdd, Nat.reduceMul, Nat.reduceSub, Nat.reduceEqDiff, Nat.reduceLT, Nat.reduceLeDiff, ↓reduceIte, Tg.isFull, Int.reduceToNat]
  simp only [u8_cons]
  refine congrArg (fun z => some (A.tup [A.d (D.sl Tg.any 1 (u8s z)), A.d (D.int .i64 0)], ([] : List Chunk), ([] : List Nat))) ?_
  simp [enc, lenB, bodyB, lst, fbl, fbs, Nat.add_assoc]
set_option maxRecDepth 20000 in
theorem RE_7 (host : List UInt8) (epoch seq to : Int) (body : List UInt8) (tg : Tg) (bz : Nat) (hh : host.length ≤ 1000) (hz : okSz 1 bz (u8s body) = true) (hv : vld ⟨7, host, epoch, seq, to, body, tg, bz⟩ = true) : runW false prog 25 [.agg (mC ⟨7, host, epoch, seq, to, body, tg, bz⟩)] [] = some (.tup [.d (.sl .any 1 (u8s (enc ⟨7, host, epoch, seq, to, body, tg, bz⟩))), .d (.int .i64 0)], [], []) := by
  refine run_of rfl ?_
  have hV := RValid_eq ⟨7, host, epoch, seq, to, body, .any, bz⟩ (by show host.length ≤ _; omega)
  rw [vld_tg _ _ _ _ _ _ .any tg bz bz, hv] at hV
  have hf := hv
  rw [vld_7] at hf
  simp only [Bool.and_eq_true, decide_eq_true_eq] at hf
  have hu := uses_eq 7
  rw [show us 7 = (false, false, false, false) from rfl] at hu
  simp only at hu
  simp only [mC] at hV
  have wk : IntKind.u8.wrap 7 = ((toB 7).toNat : Int) := w_toB 7
  have hbn : body = [] := List.eq_nil_of_length_eq_zero (by omega)
  subst hbn
  rw [u8s_nil] at hV
  simp -dsimp (disch := first | rfl | omega) only [mC, r25_0, r25_1, r25_2, r25_3, r25_4, r25_5, r25_6, r25_7, r25_8, r25_9, r25_10, r25_11, r25_12, r25_13, r25_14, callW_fn pgRValid, callW_fn pgUses, callW_fn pgPutr, hV, hu, dimF, wk, shr8, shr16, shr24, bsz, byteCells_of, hz, u8s_nil, ↓vmP, vm0, vm1, vm2, vm3, vm4, vm5, vm6, vm7, vm8, vm9, vm10, vm11, vm12, vm13, vm14, vm15, vmC, vmN, Nat.reduceAdd, Nat.reduceMul, Nat.reduceSub, Nat.reduceEqDiff, Nat.reduceLT, Nat.reduceLeDiff, ↓reduceIte, Tg.isFull, Int.reduceToNat]
  simp only [u8_cons]
  refine congrArg (fun z => some (A.tup [A.d (D.sl Tg.any 1 (u8s z)), A.d (D.int .i64 0)], ([] : List Chunk), ([] : List Nat))) ?_
  simp [enc, lenB, bodyB, lst, fbl, fbs, Nat.add_assoc]
theorem REncode_eq (m : Msg) (hh : m.host.length ≤ 1000) (hz : okSz 1 m.bz (u8s m.body) = true) : runW false prog 25 [.agg (mC m)] [] = some (if vld m then (.tup [.d (.sl .any 1 (u8s (enc m))), .d (.int .i64 0)]) else (.tup [.d (.sl .any 0 []), .d (.int .i64 330)]), [], []) := by
  obtain ⟨k, host, epoch, seq, to, body, tg, bz⟩ := m
  simp only at hh hz
  cases h : vld ⟨k, host, epoch, seq, to, body, tg, bz⟩ with
  | false =>
    refine run_of rfl ?_
    have hV := RValid_eq ⟨k, host, epoch, seq, to, body, .any, bz⟩ (by show host.length ≤ _; omega)
    rw [vld_tg _ _ _ _ _ _ .any tg bz bz, h] at hV
    simp only [mC] at hV
    simp -dsimp (disch := first | rfl | omega) only [mC, r25_0, r25_1, r25_2, callW_fn pgRValid, hV, dimF, ↓vmP, vm0, vm1, vm2, vm3, vm4, vm5, vm6, vm7, vm8, vm9, vm10, vm11, vm12, vm13, vm14, vm15, vmC, vmN, Nat.reduceAdd, Nat.reduceMul, Nat.reduceSub, Nat.reduceEqDiff, Nat.reduceLT, Nat.reduceLeDiff, ↓reduceIte, Tg.isFull, Int.reduceToNat]
    try rfl
  | true =>
    rw [if_pos rfl]
    by_cases h1 : k = 1
    · subst h1; exact RE_1 host epoch seq to body tg bz hh hz h
    by_cases h2 : k = 2
    · subst h2; exact RE_2 host epoch seq to body tg bz hh hz h
    by_cases h3 : k = 3
    · subst h3; exact RE_3 host epoch seq to body tg bz hh hz h
    by_cases h4 : k = 4
    · subst h4; exact RE_4 host epoch seq to body tg bz hh hz h
    by_cases h5 : k = 5
    · subst h5; exact RE_5 host epoch seq to body tg bz hh hz h
    by_cases h6 : k = 6
    · subst h6; exact RE_6 host epoch seq to body tg bz hh hz h
    by_cases h7 : k = 7
    · subst h7; exact RE_7 host epoch seq to body tg bz hh hz h
    simp [vld, lst, h1, h2, h3, h4, h5, h6, h7] at h
end Go.Vm.Wr
