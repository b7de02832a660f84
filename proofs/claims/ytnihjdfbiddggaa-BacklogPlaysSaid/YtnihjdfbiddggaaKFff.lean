/- A part of the proof of BacklogPlaysSaid: YtnihjdfbiddggaaFff. -/
import Derived.Test.YtnihjdfbiddggaaKFee
/- Backlogs: a play; what a step is. -/
set_option linter.unusedVariables false
set_option linter.unusedSimpArgs false
set_option maxHeartbeats 1000000
namespace Go.Vm.Bk
inductive St : Ply → Ply → Prop
  | off (x : Ply) (n : Int) : St x (offerP x n)
  | put (x : Ply) (i : Nat) (r : Rec) (l : List Rec) (hi : x.op[i]? = some (r :: l)) : St x (putP x i r l)
  | tak (x : Ply) (n : Int) : St x (takP x n)
  | tim (x : Ply) (d : Int) (hd : 0 ≤ d ∧ d ≤ 1000) : St x (timP x d)
  | cnf (x : Ply) (m r f : Int) (hm : 1 ≤ m ∧ m ≤ 64) : St x (cnfP x m r f)
  | skip (x : Ply) : St x x
abbrev nlS : A := .d (.sl .nil 0 [])
/-- What a step leaves when nothing was open. -/
inductive LN (x x' : Ply) (f2 f3 : Bool) (S : Chunk) : A × List Chunk × List Nat → Prop
  | skip (h : x'.op = []) (he : x' = x) : LN x x' f2 f3 S (.d (.bool true), PLN x' f2 f3 ++ [S], [3])
  | same (h : x'.op = []) (ht : x'.tk = x.tk) (hg : x'.gv = x.gv) : LN x x' f2 f3 S (.d (.bool true), PLN x' f2 f3 ++ [S], [3, 0])
  | acc (hne : x'.op ≠ []) (ht : x'.tk = x.tk) : LN x x' f2 f3 S (.d (.bool true), [.box (plC x' (.row 4) (.row 1) (.row 5)), .row 4 f2 (recs x'.tk), .dead, S, .row 1 false (opD x'.op), .row 1 false (i64s x'.gv)], [3, 0, 2])
  | tak (h : x'.op = []) (hg : x'.gv = x.gv) : LN x x' f2 f3 S (.d (.bool true), [.box (plC x' nlS (.row 4) (.row 2)), .dead, .row 1 f3 (i64s x'.gv), S, .row 4 false (recs x'.tk)], [3, 0, 1])
/-- What a step leaves when something was open. -/
inductive LR (x x' : Ply) (f1 f2 f3 : Bool) (S : Chunk) : A × List Chunk × List Nat → Prop
  | same (ho : x'.op = x.op) (ht : x'.tk = x.tk) (hg : x'.gv = x.gv) : LR x x' f1 f2 f3 S (.d (.bool true), PLR x' f1 f2 f3 ++ [S], [4, 0])
  | more (hne : x'.op ≠ []) (ht : x'.tk = x.tk) (hg : x'.gv = x.gv) : LR x x' f1 f2 f3 S (.d (.bool true), PLR x' f1 f2 f3 ++ [S], [4, 0, 1])
  | acc (hne : x'.op ≠ []) (ht : x'.tk = x.tk) : LR x x' f1 f2 f3 S (.d (.bool true), [.box (plC x' (.row 5) (.row 2) (.row 6)), .dead, .row 4 f2 (recs x'.tk), .dead, S, .row 1 false (opD x'.op), .row 1 false (i64s x'.gv)], [4, 0, 1, 3])
  | one (J : List (List D)) (h : x'.op = []) (ht : x'.tk = x.tk) (hg : x'.gv = x.gv) : LR x x' f1 f2 f3 S (.d (.bool true), [.box (plC x' nlS (.row 2) (.row 3)), .row 1 f1 J, .row 4 f2 (recs x'.tk), .row 1 f3 (i64s x'.gv), S], [4, 0, 1])
  | part (J : List (List D)) (hne : x'.op ≠ []) (ht : x'.tk = x.tk) (hg : x'.gv = x.gv) : LR x x' f1 f2 f3 S (.d (.bool true), [.box (plC x' (.row 5) (.row 2) (.row 3)), .row 1 f1 J, .row 4 f2 (recs x'.tk), .row 1 f3 (i64s x'.gv), S, .row 1 false (opD x'.op)], [4, 0, 1])
  | tak (ho : x'.op = x.op) (hg : x'.gv = x.gv) : LR x x' f1 f2 f3 S (.d (.bool true), [.box (plC x' (.row 1) (.row 5) (.row 3)), .row 1 f1 (opD x'.op), .dead, .row 1 f3 (i64s x'.gv), S, .row 4 false (recs x'.tk)], [4, 0, 2])
theorem offP_acc {x : Ply} {n : Int} (h : (offerB x.b x.time n).2.2 = true) : (offerP x n).op ≠ [] := by
  unfold offerP; rw [h]; simp [accP]
theorem cut_ne {l : List (List Rec)} {i : Nat} (hi : i < l.length) (h1 : l.length ≠ 1) : l.take i ++ l.drop (i + 1) ≠ [] := fun h => by
  have := congrArg List.length h
  rw [List.length_append, List.length_take, List.length_drop, List.length_nil] at this
  omega
theorem offP_lost {x : Ply} {n : Int} (h : (offerB x.b x.time n).2.2 = false) : (offerP x n).op = x.op ∧ (offerP x n).tk = x.tk ∧ (offerP x n).gv = x.gv := by
  unfold offerP; rw [h]; exact ⟨rfl, rfl, rfl⟩
theorem offP_tk (x : Ply) (n : Int) : (offerP x n).tk = x.tk := by unfold offerP; split <;> rfl
theorem cnf_lim (l : List Int) (a : Nat) : 1 ≤ lms.getD (sN l a lms.length) 0 ∧ lms.getD (sN l a lms.length) 0 ≤ 64 := by
  have := sN_lt l a lms.length (by decide)
  generalize sN l a lms.length = q at this
  match q, this with
  | 0, _ => decide
  | 1, _ => decide
  | 2, _ => decide
  | 3, _ => decide
theorem step_N (l : List Int) (hl : l.length ≤ 9223372036854775807) (hv : ∀ v ∈ l, InI v) (a : Nat) (ha : a ≤ 900000) (x : Ply) (k : Nat) (hk : k ≤ 8000) (h : Pk k x) (hop : x.op = []) (f2 f3 : Bool) :
    ∃ x' a' R, St x x' ∧ Pk (k + 1) x' ∧ a' ≤ a + 4 ∧ LN x x' f2 f3 (src l a') R ∧ runW false prog 21 [.ptr 0 0, .ptr 3 0] (PLN x f2 f3 ++ [src l a]) = some R := by
  have hlt := sN_lt l a 9 (by decide)
  by_cases h3 : sN l a 9 < 3
  · cases hb : (offerB x.b x.time (ofs.getD (sN l (a + 1) ofs.length) 0)).2.2 with
    | false =>
      obtain ⟨g1, g2, g3⟩ := offP_lost hb
      exact ⟨_, a + 2, _, .off x _, pk_offer h _, by omega, .same (by rw [g1]; exact hop) g2 g3, stp_N_lost l hl hv a ha x k hk h true f2 f3 ⟨Nat.zero_le _, h3⟩ hb⟩
    | true =>
      have := stp_N_acc l hl hv a ha x k hk h true f2 f3 ⟨Nat.zero_le _, h3⟩ hb hop
      rw [← offP_tk x (ofs.getD (sN l (a + 1) ofs.length) 0)] at this
      exact ⟨_, a + 2, _, .off x _, pk_offer h _, by omega, .acc (offP_acc hb) (offP_tk _ _), by rw [← this]⟩
  · by_cases h6 : sN l a 9 < 6
    · exact ⟨x, a + 1, _, .skip x, pk_up h, by omega, .skip hop rfl, stp_N_skip l hl hv a ha x k hk h true f2 f3 ⟨by omega, h6⟩ hop⟩
    · by_cases h7 : sN l a 9 < 7
      · exact ⟨_, a + 2, _, .tak x _, pk_tak h _, by omega, .tak hop rfl, stp_N_tak l hl hv a ha x k hk h true f2 f3 ⟨by omega, h7⟩⟩
      · by_cases h8 : sN l a 9 < 8
        · exact ⟨_, a + 2, _, .tim x _ (getD_b tms 0 1000 (by decide) (by decide) _), pk_tim h _ (getD_b tms 0 1000 (by decide) (by decide) _), by omega, .same hop rfl rfl, stp_N_tim l hl hv a ha x k hk h true f2 f3 ⟨by omega, h8⟩⟩
        · exact ⟨_, a + 4, _, .cnf x _ _ _ (cnf_lim l (a + 1)), pk_cnf h _ _ _, by omega, .same hop rfl rfl, stp_N_cnf l hl hv a ha x k hk h true f2 f3 ⟨by omega, hlt⟩⟩
theorem step_R (l : List Int) (hl : l.length ≤ 9223372036854775807) (hv : ∀ v ∈ l, InI v) (a : Nat) (ha : a ≤ 900000) (x : Ply) (k : Nat) (hk : k ≤ 8000) (h : Pk k x) (hop : x.op ≠ []) (f1 f2 f3 : Bool) :
    ∃ x' a' R, St x x' ∧ Pk (k + 1) x' ∧ a' ≤ a + 4 ∧ LR x x' f1 f2 f3 (src l a') R ∧ runW false prog 21 [.ptr 0 0, .ptr 4 0] (PLR x f1 f2 f3 ++ [src l a]) = some R := by
  have hlt := sN_lt l a 9 (by decide)
  by_cases h3 : sN l a 9 < 3
  · cases hb : (offerB x.b x.time (ofs.getD (sN l (a + 1) ofs.length) 0)).2.2 with
    | false =>
      obtain ⟨g1, g2, g3⟩ := offP_lost hb
      exact ⟨_, a + 2, _, .off x _, pk_offer h _, by omega, .same g1 g2 g3, stp_R_lost l hl hv a ha x k hk h f1 f2 f3 ⟨Nat.zero_le _, h3⟩ hb⟩
    | true =>
      have := stp_R_acc l hl hv a ha x k hk h f1 f2 f3 ⟨Nat.zero_le _, h3⟩ hb
      rw [← offP_tk x (ofs.getD (sN l (a + 1) ofs.length) 0)] at this
      exact ⟨_, a + 2, _, .off x _, pk_offer h _, by omega, .acc (offP_acc hb) (offP_tk _ _), by rw [← this]⟩
  · by_cases h6 : sN l a 9 < 6
    · have hpos : 0 < x.op.length := List.length_pos_iff.2 hop
      have hil := sN_lt l (a + 1) x.op.length hpos
      have hi : x.op[sN l (a + 1) x.op.length]? = some (x.op[sN l (a + 1) x.op.length]) := List.getElem?_eq_getElem hil
      have hne := (h.e _ (List.getElem_mem hil)).1
      cases he : x.op[sN l (a + 1) x.op.length] with
      | nil => exact absurd he hne
      | cons r l' =>
        rw [he] at hi
        cases hle : l'.isEmpty with
        | false => exact ⟨_, a + 2, _, .put x _ r l' hi, pk_put h _ r l' hi, by omega, .more (by show (if l'.isEmpty then _ else _) ≠ []; rw [hle]; exact fun h0 => hop (by have := congrArg List.length h0; simp only [Bool.false_eq_true, if_false, List.length_set, List.length_nil] at this; exact List.length_eq_zero_iff.1 this)) rfl rfl, stp_R_more l hl hv a ha x k hk h f1 f2 f3 ⟨by omega, h6⟩ _ rfl r l' hi hle⟩
        | true =>
          obtain rfl : l' = [] := List.isEmpty_iff.1 hle
          by_cases h1 : x.op.length = 1
          · have := stp_R_one l hl hv a ha x k hk h f1 f2 f3 ⟨by omega, h6⟩ _ rfl r hi h1
            exact ⟨_, a + 2, _, .put x _ r [] hi, pk_put h _ r [] hi, by omega, .one _ (by
              show x.op.take _ ++ x.op.drop _ = []
              rw [List.append_eq_nil_iff]
              exact ⟨by rw [show sN l (a + 1) x.op.length = 0 by omega]; rfl, List.drop_of_length_le (by omega)⟩) rfl rfl, this⟩
          · by_cases h0 : sN l (a + 1) x.op.length = 0
            · exact ⟨_, a + 2, _, .put x _ r [] hi, pk_put h _ r [] hi, by omega, .part _ (cut_ne hil h1) rfl rfl, stp_R_first l hl hv a ha x k hk h f1 f2 f3 ⟨by omega, h6⟩ _ rfl r hi h0 (by omega)⟩
            · exact ⟨_, a + 2, _, .put x _ r [] hi, pk_put h _ r [] hi, by omega, .part _ (cut_ne hil h1) rfl rfl, stp_R_some l hl hv a ha x k hk h f1 f2 f3 ⟨by omega, h6⟩ _ rfl r hi (by omega)⟩
    · by_cases h7 : sN l a 9 < 7
      · exact ⟨_, a + 2, _, .tak x _, pk_tak h _, by omega, .tak rfl rfl, stp_R_tak l hl hv a ha x k hk h f1 f2 f3 ⟨by omega, h7⟩⟩
      · by_cases h8 : sN l a 9 < 8
        · exact ⟨_, a + 2, _, .tim x _ (getD_b tms 0 1000 (by decide) (by decide) _), pk_tim h _ (getD_b tms 0 1000 (by decide) (by decide) _), by omega, .same rfl rfl rfl, stp_R_tim l hl hv a ha x k hk h f1 f2 f3 ⟨by omega, h8⟩⟩
        · exact ⟨_, a + 4, _, .cnf x _ _ _ (cnf_lim l (a + 1)), pk_cnf h _ _ _, by omega, .same rfl rfl rfl, stp_R_cnf l hl hv a ha x k hk h f1 f2 f3 ⟨by omega, hlt⟩⟩
theorem pgStep : prog 21 = some c21 := rfl
end Go.Vm.Bk
