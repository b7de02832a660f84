/- A part of the proof of WireBackUptoSaid: YthojpjhnhipfpaaFm. -/
import Derived.Test.YthojpjhnhipfpaaKFl
/- Messages made of numbers: good ones, spoilt ones. -/
set_option linter.unusedVariables false
set_option linter.unusedSimpArgs false
set_option maxHeartbeats 1000000
namespace Go.Vm.Wr
theorem vld_host {m : Msg} (h : vld m = true) : m.host.length ≤ 16 := by
  obtain ⟨k, ho, e, s, t, b, tg, bz⟩ := m
  by_cases h1 : k = 1
  · subst h1; rw [vld_1] at h; simp [hname] at h; show ho.length ≤ 16; omega
  have hn : ho = [] := by
    by_cases h2 : k = 2
    · subst h2; rw [vld_2] at h; simp at h; exact h.1.1.1.1
    by_cases h3 : k = 3
    · subst h3; rw [vld_3] at h; simp at h; exact h.1.1.1.1
    by_cases h4 : k = 4
    · subst h4; rw [vld_4] at h; simp at h; exact h.1.1.1.1
    by_cases h5 : k = 5
    · subst h5; rw [vld_5] at h; simp at h; exact h.1.1.1.1
    by_cases h6 : k = 6
    · subst h6; rw [vld_6] at h; simp at h; exact h.1.1.1.1
    by_cases h7 : k = 7
    · subst h7; rw [vld_7] at h; simp at h; exact h.1.1.1.1
    simp [vld, lst, h1, h2, h3, h4, h5, h6, h7] at h
  subst hn; simp
/-- What is known of a message that came from anywhere. -/
structure Wf (m : Msg) : Prop where
  h : m.host.length ≤ 9223372036854775807
  b : m.body.length ≤ 9223372036854775807
  z : okSz 1 m.bz (u8s m.body) = true
theorem Enc_all (m : Msg) (w : Wf m) : runW false prog 17 [.agg (mC m)] [] = some (if vld m then (.tup [.d (.sl .any 1 (u8s (enc m))), .d (.int .i64 0)]) else (.tup [.d (.sl .any 0 []), .d (.int .i64 330)]), [], []) := by
  by_cases hv : vld m = true
  · exact Encode_eq m (by have := vld_host hv; omega) w.b w.z
  · have hv' : vld m = false := by simpa using hv
    rw [hv']
    refine run_of rfl ?_
    have hV := Valid_eq ⟨m.kind, m.host, m.epoch, m.seq, m.to, m.body, .any, m.bz⟩ w.h w.b
    rw [vld_tg _ _ _ _ _ _ .any m.tg m.bz m.bz] at hV
    change runW _ _ _ _ _ = some (.d (.bool (vld m)), _, _) at hV
    simp only [mC] at hV
    rw [hv'] at hV
    simp -dsimp (disch := first | rfl | omega) only [mC, r17_0, r17_1, r17_2, callW_fn pgValid, hV, dimF, ↓vmP, vm0, vm1, vm2, vm3, vm4, vm5, vm6, vm7, vm8, vm9, vm10, vm11, vm12, vm13, vm14, vm15, vmC, vmN, Nat.reduceAdd, Nat.reduceMul, Nat.reduceSub, Nat.reduceEqDiff, Nat.reduceLT, Nat.reduceLeDiff, ↓reduceIte, Tg.isFull, Int.reduceToNat]
    try rfl
theorem REnc_all (m : Msg) (w : Wf m) : runW false prog 25 [.agg (mC m)] [] = some (if vld m then (.tup [.d (.sl .any 1 (u8s (enc m))), .d (.int .i64 0)]) else (.tup [.d (.sl .any 0 []), .d (.int .i64 330)]), [], []) := by
  by_cases hv : vld m = true
  · exact REncode_eq m (by have := vld_host hv; omega) w.z
  · have hv' : vld m = false := by simpa using hv
    rw [hv']
    refine run_of rfl ?_
    have hV := RValid_eq ⟨m.kind, m.host, m.epoch, m.seq, m.to, m.body, .any, m.bz⟩ w.h
    rw [vld_tg _ _ _ _ _ _ .any m.tg m.bz m.bz] at hV
    change runW _ _ _ _ _ = some (.d (.bool (vld m)), _, _) at hV
    simp only [mC] at hV
    rw [hv'] at hV
    simp -dsimp (disch := first | rfl | omega) only [mC, r25_0, r25_1, r25_2, callW_fn pgRValid, hV, dimF, ↓vmP, vm0, vm1, vm2, vm3, vm4, vm5, vm6, vm7, vm8, vm9, vm10, vm11, vm12, vm13, vm14, vm15, vmC, vmN, Nat.reduceAdd, Nat.reduceMul, Nat.reduceSub, Nat.reduceEqDiff, Nat.reduceLT, Nat.reduceLeDiff, ↓reduceIte, Tg.isFull, Int.reduceToNat]
    try rfl
def texts : List (List UInt8) := [[], [97], [97, 110, 110], [47, 97, 47, 98], [110, 111], [121, 101, 115], [97, 32, 98], [120, 54, 102], [0], [109, 107, 100, 105, 114]]
theorem texts_c : [[D.str ⟨⟨[]⟩⟩], [D.str ⟨⟨[97]⟩⟩], [D.str ⟨⟨[97, 110, 110]⟩⟩], [D.str ⟨⟨[47, 97, 47, 98]⟩⟩], [D.str ⟨⟨[110, 111]⟩⟩], [D.str ⟨⟨[121, 101, 115]⟩⟩], [D.str ⟨⟨[97, 32, 98]⟩⟩], [D.str ⟨⟨[120, 54, 102]⟩⟩], [D.str ⟨⟨[0]⟩⟩], [D.str ⟨⟨[109, 107, 100, 105, 114]⟩⟩]] = strs texts := rfl
theorem Text_eq (l : List UInt8) (a : Nat) (ha : a ≤ 100000) (hl : l.length ≤ 100000) : runW false prog 52 [.ptr 0 0] [cs l a] = some (.d (.str ⟨(texts.getD (cI l a 10) []).toArray⟩), [cs l (cN l a 10)], [0]) := by
  refine run_of rfl ?_
  have h1 := Int_eq l a 10 ha hl (by omega)
  rw [show ((10 : Nat) : Int) = 10 from rfl] at h1
  have hx := cI_lt l a 10 (by omega)
  have hx' : cI l a 10 < texts.length := hx
  generalize cI l a 10 = x at h1 hx hx' ⊢
  generalize cN l a 10 = a1 at h1 ⊢
  have hlt : (strs texts).length = 10 := rfl
  simp only [cs] at h1
  simp -dsimp (disch := first | rfl | omega) only [cs, r52_0, r52_1, r52_2, callW_fn pgI, texts_c, h1, hlt, strs_at, show ((10 : Nat) : Int) = 10 from rfl, ↓vmP, vm0, vm1, vm2, vm3, vm4, vm5, vm6, vm7, vm8, vm9, vm10, vm11, vm12, vm13, vm14, vm15, vmC, vmN, Nat.reduceAdd, Nat.reduceMul, Nat.reduceSub, Nat.reduceEqDiff, Nat.reduceLT, Nat.reduceLeDiff, ↓reduceIte, Tg.isFull, Int.reduceToNat]
theorem pgText : prog 52 = some c52 := rfl
theorem pgHost : prog 11 = some c11 := rfl
/-- A message as the program makes it. -/
structure Nm (m : Msg) : Prop where
  v : vld m = true
  t : m.tg = .any
  z : m.bz = if m.kind = 3 then 1 else 0
theorem okSz_nm (m : Msg) (h : m.bz = if m.kind = 3 then 1 else 0) (hb : m.kind ≠ 3 → m.body = []) : okSz 1 m.bz (u8s m.body) = true := by
  by_cases h3 : m.kind = 3
  · rw [h, if_pos h3]; rfl
  · rw [hb h3]; simp [okSz, u8s_nil]
theorem hosts_ok (x : Nat) (h : x < 4) : hname (hosts.getD x []) = true := by
  have : x = 0 ∨ x = 1 ∨ x = 2 ∨ x = 3 := by omega
  rcases this with rfl | rfl | rfl | rfl <;> rfl
def nums : List Int := [1, 2, 127, 128, 300, 1099511627776]
theorem nums_ok (x : Nat) (h : x < 6) : ∃ n : Nat, nums.getD x 0 = n ∧ 1 ≤ n ∧ n ≤ 1099511627776 := by
  have : x = 0 ∨ x = 1 ∨ x = 2 ∨ x = 3 ∨ x = 4 ∨ x = 5 := by omega
  rcases this with rfl | rfl | rfl | rfl | rfl | rfl
  · exact ⟨1, rfl, by omega, by omega⟩
  · exact ⟨2, rfl, by omega, by omega⟩
  · exact ⟨127, rfl, by omega, by omega⟩
  · exact ⟨128, rfl, by omega, by omega⟩
  · exact ⟨300, rfl, by omega, by omega⟩
  · exact ⟨1099511627776, rfl, by omega, by omega⟩
def dM : Msg := ⟨0, [], 0, 0, 0, [], .any, 0⟩
theorem pgPk : prog 51 = some c51 := rfl
theorem pgBy : prog 36 = some c36 := rfl
theorem one_u8 (bs : List UInt8) : [D.int .u8 1] :: u8s bs = u8s (1 :: bs) := rfl
set_option maxRecDepth 20000 in
theorem Msg_ex (l : List UInt8) (a : Nat) (hl : l.length ≤ 1000) (ha : a ≤ l.length) : ∃ (m : Msg) (a' : Nat), Nm m ∧ a ≤ a' ∧ a' ≤ l.length ∧ runW false prog 23 [.ptr 0 0] [cs l a] = some (.agg (mC m), [cs l a'], [0]) := by
  have hp := Pick_eq l a nums (by simp [nums]) (by simp [nums]) (by omega) (by omega)
  rw [show nums.length = 6 from rfl] at hp
  obtain ⟨n, hn, n1, n2⟩ := nums_ok (cI l a 6) (cI_lt l a 6 (by omega))
  rw [hn] at hp
  have p1 := cN_le l a 6
  have p2 := cN_len l a 6 ha
  clear hn
  generalize cN l a 6 = a1 at hp p1 p2
  simp only [nums, List.map_cons, List.map_nil, cs] at hp
  have hi := Int_eq l a1 7 (by omega) (by omega) (by omega)
  rw [show ((7 : Nat) : Int) = 7 from rfl] at hi
  have q1 := cN_le l a1 7
  have q2 := cN_len l a1 7 p2
  have qx := cI_lt l a1 7 (by omega)
  generalize cN l a1 7 = a2 at hi q1 q2
  generalize cI l a1 7 = x at hi qx
  simp only [cs] at hi
  have i3 := fun a (h : a ≤ l.length) => Int_eq l a 3 (by omega) (by omega) (by omega)
  have i2 := Int_eq l a2 2 (by omega) (by omega) (by omega)
  have i200 := Int_eq l a2 200 (by omega) (by omega) (by omega)
  rw [show ((2 : Nat) : Int) = 2 from rfl] at i2
  rw [show ((200 : Nat) : Int) = 200 from rfl] at i200
  have r1 := cN_le l a2 2
  have r2 := cN_len l a2 2 q2
  have rx := cI_lt l a2 2 (by omega)
  generalize cN l a2 2 = a3 at i2 r1 r2
  generalize cI l a2 2 = y at i2 rx
  have s1 := cN_le l a2 200
  have s2 := cN_len l a2 200 q2
  have sx := cI_lt l a2 200 (by omega)
  generalize cN l a2 200 = a4 at i200 s1 s2
  generalize cI l a2 200 = z at i200 sx
  simp only [cs] at i2 i200
  by_cases x0 : x = 0
  · have e0 : ((x : Int) = 0) = True := eq_true (by omega)
    have hh := Host_eq l a2 (by omega) (by omega)
    have hho := hosts_ok (cI l a2 4) (cI_lt l a2 4 (by omega))
    have t1 := cN_le l a2 4
    have t2 := cN_len l a2 4 q2
    generalize cN l a2 4 = a5 at hh t1 t2
    generalize hosts.getD (cI l a2 4) [] = ho at hh hho
    have hj := i3 a5 t2
    rw [show ((3 : Nat) : Int) = 3 from rfl] at hj
    have u1 := cN_le l a5 3
    have u2 := cN_len l a5 3 t2
    have ux := cI_lt l a5 3 (by omega)
    generalize cN l a5 3 = a6 at hj u1 u2
    generalize cI l a5 3 = w at hj ux
    simp only [cs] at hh hj
    refine ⟨⟨1, ho, 1 + (w : Int), n, 0, [], .any, 0⟩, a6, ⟨?_, rfl, rfl⟩, by omega, u2, ?_⟩
    · rw [vld_1, hho]; simp; omega
    · refine run_of rfl ?_
      simp -dsimp (disch := first | rfl | omega) only [mC, cs, r23_0, r23_1, r23_2, r23_3, r23_4, callW_fn pgPk, callW_fn pgI, callW_fn pgHost, hp, hi, hh, hj, e0, ↓vmP, vm0, vm1, vm2, vm3, vm4, vm5, vm6, vm7, vm8, vm9, vm10, vm11, vm12, vm13, vm14, vm15, vmC, vmN, Nat.reduceAdd, Nat.reduceMul, Nat.reduceSub, Nat.reduceEqDiff, Nat.reduceLT, Nat.reduceLeDiff, ↓reduceIte, Tg.isFull, Int.reduceToNat]
      try rfl
  have e0 : ((x : Int) = 0) = False := eq_false (by omega)
  by_cases x1 : x = 1
  · have e1 : ((x : Int) = 1) = True := eq_true (by omega)
    refine ⟨⟨2, [], 0, n - (y : Int), 0, [], .any, 0⟩, a3, ⟨?_, rfl, rfl⟩, by omega, r2, ?_⟩
    · rw [vld_2]; simp; omega
    · refine run_of rfl ?_
      simp -dsimp (disch := first | rfl | omega) only [mC, cs, r23_0, r23_1, r23_2, r23_3, r23_5, r23_6, callW_fn pgPk, callW_fn pgI, hp, hi, i2, e0, e1, ↓vmP, vm0, vm1, vm2, vm3, vm4, vm5, vm6, vm7, vm8, vm9, vm10, vm11, vm12, vm13, vm14, vm15, vmC, vmN, Nat.reduceAdd, Nat.reduceMul, Nat.reduceSub, Nat.reduceEqDiff, Nat.reduceLT, Nat.reduceLeDiff, ↓reduceIte, Tg.isFull, Int.reduceToNat]
      try rfl
  have e1 : ((x : Int) = 1) = False := eq_false (by omega)
  by_cases x2 : x = 2
  · have e2 : ((x : Int) = 2) = True := eq_true (by omega)
    have er : (if (1099511627776 : Int) < (n : Int) + z then (1099511627776 : Int) else (n : Int) + z) = ((min (n + z) 1099511627776 : Nat) : Int) := by split <;> omega
    refine ⟨⟨4, [], 0, n, (min (n + z) 1099511627776 : Nat), [], .any, 0⟩, a4, ⟨?_, rfl, rfl⟩, by omega, s2, ?_⟩
    · rw [vld_4]; simp; omega
    · refine run_of rfl ?_
      simp -dsimp (disch := first | rfl | omega) only [mC, cs, r23_0, r23_1, r23_2, r23_3, r23_5, r23_7, r23_8, callW_fn pgPk, callW_fn pgI, hp, hi, i200, e0, e1, e2, er, ↓vmP, vm0, vm1, vm2, vm3, vm4, vm5, vm6, vm7, vm8, vm9, vm10, vm11, vm12, vm13, vm14, vm15, vmC, vmN, Nat.reduceAdd, Nat.reduceMul, Nat.reduceSub, Nat.reduceEqDiff, Nat.reduceLT, Nat.reduceLeDiff, ↓reduceIte, Tg.isFull, Int.reduceToNat]
      try rfl
  have e2 : ((x : Int) = 2) = False := eq_false (by omega)
  by_cases x3 : x = 3
  · have e3 : ((x : Int) = 3) = True := eq_true (by omega)
    refine ⟨⟨5, [], 0, n - (y : Int), 0, [], .any, 0⟩, a3, ⟨?_, rfl, rfl⟩, by omega, r2, ?_⟩
    · rw [vld_5]; simp; omega
    · refine run_of rfl ?_
      simp -dsimp (disch := first | rfl | omega) only [mC, cs, r23_0, r23_1, r23_2, r23_3, r23_5, r23_7, r23_9, r23_10, callW_fn pgPk, callW_fn pgI, hp, hi, i2, e0, e1, e2, e3, ↓vmP, vm0, vm1, vm2, vm3, vm4, vm5, vm6, vm7, vm8, vm9, vm10, vm11, vm12, vm13, vm14, vm15, vmC, vmN, Nat.reduceAdd, Nat.reduceMul, Nat.reduceSub, Nat.reduceEqDiff, Nat.reduceLT, Nat.reduceLeDiff, ↓reduceIte, Tg.isFull, Int.reduceToNat]
      try rfl
  have e3 : ((x : Int) = 3) = False := eq_false (by omega)
  by_cases x4 : x = 4
  · have e4 : ((x : Int) = 4) = True := eq_true (by omega)
    refine ⟨⟨6 + (y : Int), [], 0, 0, 0, [], .any, 0⟩, a3, ⟨?_, rfl, ?_⟩, by omega, r2, ?_⟩
    · have : 6 + (y : Int) = 6 ∨ 6 + (y : Int) = 7 := by omega
      rcases this with h | h <;> rw [h]
      · rw [vld_6]; simp
      · rw [vld_7]; simp
    · have : ¬ 6 + (y : Int) = 3 := by omega
      simp [this]
    · refine run_of rfl ?_
      simp -dsimp (disch := first | rfl | omega) only [mC, cs, r23_0, r23_1, r23_2, r23_3, r23_5, r23_7, r23_9, r23_11, r23_12, callW_fn pgPk, callW_fn pgI, hp, hi, i2, e0, e1, e2, e3, e4, ↓vmP, vm0, vm1, vm2, vm3, vm4, vm5, vm6, vm7, vm8, vm9, vm10, vm11, vm12, vm13, vm14, vm15, vmC, vmN, Nat.reduceAdd, Nat.reduceMul, Nat.reduceSub, Nat.reduceEqDiff, Nat.reduceLT, Nat.reduceLeDiff, ↓reduceIte, Tg.isFull, Int.reduceToNat]
      try rfl
  have e4 : ((x : Int) = 4) = False := eq_false (by omega)
  obtain ⟨bs, a5, b1, b2, b3, hb⟩ := Bytes_ex l a2 30 hl q2 (by omega)
  rw [show ((30 : Nat) : Int) = 30 from rfl] at hb
  simp only [cs] at hb
  refine ⟨⟨3, [], 0, n, 0, 1 :: bs, .any, 1⟩, a5, ⟨?_, rfl, rfl⟩, by omega, b3, ?_⟩
  · rw [vld_3]; simp; omega
  · refine run_of rfl ?_
    simp -dsimp (disch := first | rfl | omega) only [mC, cs, r23_0, r23_1, r23_2, r23_3, r23_5, r23_7, r23_9, r23_11, r23_13, callW_fn pgPk, callW_fn pgI, callW_fn pgBy, hp, hi, hb, e0, e1, e2, e3, e4, one_u8, ↓vmP, vm0, vm1, vm2, vm3, vm4, vm5, vm6, vm7, vm8, vm9, vm10, vm11, vm12, vm13, vm14, vm15, vmC, vmN, Nat.reduceAdd, Nat.reduceMul, Nat.reduceSub, Nat.reduceEqDiff, Nat.reduceLT, Nat.reduceLeDiff, ↓reduceIte, Tg.isFull, Int.reduceToNat]
    try rfl
end Go.Vm.Wr
