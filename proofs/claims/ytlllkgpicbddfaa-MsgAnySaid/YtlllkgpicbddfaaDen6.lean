/- A part of the proof of this claim (part 6): own work: a lifting of compiled code into pure functions, and laws on them. -/
import Derived.Test.YtlllkgpicbddfaaDen5
import Derived.KernelRfl
import Derived.Test.YtlllkgpicbddfaaProg
set_option linter.all false
set_option linter.unusedSimpArgs false
set_option linter.unusedVariables false
section
open Go
set_option linter.unusedVariables false
set_option linter.unusedSimpArgs false
set_option maxRecDepth 100000
namespace Go.Proofs.DenT
variable {N n M : Nat} {H : Heap}
/-- What a message's check tells. -/
noncomputable def chk (a : List AV) (m : Int) : Int :=
  if 1 ≤ (nth a 0 .junk).num ∧ (nth a 0 .junk).num ≤ 9 ∧ 0 ≤ (nth a 1 .junk).num ∧ (nth a 1 .junk).num ≤ m ∧ 0 ≤ (nth a 2 .junk).num ∧ (nth a 2 .junk).num ≤ m then
    if (256 : Int) < (nth a 146 .junk).els.length then 4 else 0
  else 1
theorem geq_iff (a b : Int) : COp.run a b .geq = decide (b ≤ a) := rfl
theorem lss_iff (a b : Int) : COp.run a b .lss = decide (a < b) := rfl
theorem w_within (x lo hi : Int) : F_msg_within_int N (x, lo, hi, ()) H = ok (decide (lo ≤ x) && decide (x ≤ hi), ()) H := by
  unfold F_msg_within_int
  dsimp only
  simp only [imp_self, req_true, geq_iff, leq_iff]
theorem w_Check {a : List AV} {m : Int} (ha : TyL M csMsg a) : F_msg_Check N (a, m, ()) H = ok (chk a m, ()) H := by
  unfold F_msg_Check chk
  dsimp only
  simp only [show (a.length == 147) = true by rw [ha.len]; rfl, ha.isI 0 .i64 rfl (by decide), ha.isI 1 .i64 rfl (by decide), ha.isI 2 .i64 rfl (by decide), ha.isSl 146 8 csBlock rfl rfl (by decide), reqB_true, reqG_true, req_true, imp_self, imp_tt, ok_pre, ok_out, w_within, gtr_iff]
  generalize (nth a 0 .junk).num = x
  generalize (nth a 1 .junk).num = y
  generalize (nth a 2 .junk).num = z
  by_cases h1 : 1 ≤ x
  rotate_left
  · simp [h1]
  by_cases h2 : x ≤ 9
  rotate_left
  · simp [h1, h2]
  by_cases h3 : 0 ≤ y
  rotate_left
  · simp [h1, h2, h3]
  by_cases h4 : y ≤ m
  rotate_left
  · simp [h1, h2, h3, h4]
  by_cases h5 : 0 ≤ z
  rotate_left
  · simp [h1, h2, h3, h4, h5]
  by_cases h6 : z ≤ m
  rotate_left
  · simp [h1, h2, h3, h4, h5, h6]
  by_cases h7 : (256 : Int) < (nth a 146 .junk).els.length
  · simp [h1, h2, h3, h4, h5, h6, h7]
  · simp [h1, h2, h3, h4, h5, h6, h7]
theorem w_CheckMsg {a : List AV} {m : Int} (ha : TyL M csMsg a) : F_folkmootref28_CheckMsg N (a, m, ()) H = ok (chk a m, ()) H := by
  unfold F_folkmootref28_CheckMsg chk
  dsimp only
  simp only [show (a.length == 147) = true by rw [ha.len]; rfl, ha.isI 0 .i64 rfl (by decide), ha.isI 1 .i64 rfl (by decide), ha.isI 2 .i64 rfl (by decide), ha.isSl 146 8 csBlock rfl rfl (by decide), reqB_true, reqG_true, req_true, imp_self, imp_tt, ok_pre, ok_out, gtr_iff, lss_iff]
  generalize (nth a 0 .junk).num = x
  generalize (nth a 1 .junk).num = y
  generalize (nth a 2 .junk).num = z
  simp only [show ∀ x y : Int, decide (x < y) = !decide (y ≤ x) from fun x y => by by_cases h : x < y <;> simp [h] <;> omega]
  by_cases h1 : 1 ≤ x
  rotate_left
  · simp [h1]
  by_cases h2 : x ≤ 9
  rotate_left
  · simp [h1, h2]
  by_cases h3 : 0 ≤ y
  rotate_left
  · simp [h1, h2, h3]
  by_cases h4 : y ≤ m
  rotate_left
  · simp [h1, h2, h3, h4]
  by_cases h5 : 0 ≤ z
  rotate_left
  · simp [h1, h2, h3, h4, h5]
  by_cases h6 : z ≤ m
  rotate_left
  · simp [h1, h2, h3, h4, h5, h6]
  by_cases h7 : ((nth a 146 .junk).els.length : Int) ≤ 256
  · have h8 : ¬ (256 : Int) < (nth a 146 .junk).els.length := by omega
    simp [h1, h2, h3, h4, h5, h6, h7, h8]
  · have h8 : (256 : Int) < (nth a 146 .junk).els.length := by omega
    simp [h1, h2, h3, h4, h5, h6, h7, h8]
/-- One message to one replica. -/
noncomputable def rowOf (a : List AV) (f k : Int) : List AV := nth a 0 .junk :: .i .i64 f :: .i .i64 k :: sub a 3 144
theorem rowOf_len (a : List AV) (f k : Int) : (rowOf a f k).length = 147 := by simp [rowOf, sub_len]
theorem rowOf_ty {a : List AV} {f k : Int} (ha : TyL n csMsg a) (hf : (Lit.int .i64 f).wf = true) (hk : (Lit.int .i64 k).wf = true) : TyL n csMsg (rowOf a f k) := by
  refine ⟨rowOf_len a f k, fun i hi => ?_⟩
  rw [← nth_getD, ← nth_getD]
  match i with
  | 0 => exact ha.nth 0 hi
  | 1 => exact .i _ _ hf
  | 2 => exact .i _ _ hk
  | i + 3 =>
    have e : DenT.nth (rowOf a f k) (i + 3) .junk = DenT.nth (DenT.sub a 3 144) i .junk := rfl
    have hi' : i + 3 < 147 := hi
    rw [e, nth_sub _ _ _ _ (by omega), Nat.add_comm 3 i]
    exact ha.nth (i + 3) hi
noncomputable def toAll (a : List AV) (f : Int) (k : Nat) : List (List AV) := (List.range k).map fun j => rowOf a f (j : Nat)
theorem toAll_len (a : List AV) (f : Int) (k : Nat) : (toAll a f k).length = k := by simp [toAll]
theorem toAll_cat (a : List AV) (f : Int) (k : Nat) : cat (toAll a f k) [rowOf a f (k : Nat)] = toAll a f (k + 1) := by simp [toAll, cat, List.range_succ]
theorem toAll_ty {a : List AV} {f : Int} {k : Nat} (ha : TyL n csMsg a) (hf : (Lit.int .i64 f).wf = true) (hk : k ≤ n) (hn : n ≤ 1000) : Rows n csMsg (toAll a f k) := by
  refine ⟨by rw [toAll_len]; exact hk, fun j hj => ?_⟩
  rw [toAll_len] at hj
  have : nth (toAll a f k) j [] = rowOf a f (j : Nat) := by
    rw [nth_getD]
    simp [toAll, List.getD, hj]
  rw [this]
  refine rowOf_ty ha hf ?_
  have e : ∀ x : Int, (Lit.int .i64 x).wf = (decide (-9223372036854775808 ≤ x) && decide (x ≤ 9223372036854775807)) := fun x => rfl
  rw [e]
  simp
  omega
/-- The message that a loop holds. -/
noncomputable def heldOf (m0 a : List AV) (f : Int) : Nat → List AV
  | 0 => m0
  | k + 1 => rowOf a f (k : Nat)
theorem roomL_all (a : List AV) (f : Int) (k : Nat) (hk : k < 1000) (x : List AV) : roomL (toAll a f k) [x] 1352 = true := by
  simp only [roomL, toAll_len, List.length_singleton, decide_eq_true_eq, room]
  omega
theorem w_All {a : List AV} {f : Int} {m : Int} (ha : TyL n csMsg a) (hm : m ≤ 40) (hm0 : -9223372036854775808 ≤ m) (hN : 1000 < N) : F_msg_All N (f, m, a, ()) H = ok (toAll a f m.toNat, ()) H := by
  unfold F_msg_All
  dsimp only
  simp only [show (a.length == 147) = true by rw [ha.len]; rfl, reqB_true]
  have hmx : minMax false m 0 = (m.toNat : Int) := by
    simp only [minMax]
    by_cases h : (0 : Int) > m
    · rw [if_pos h]; omega
    · rw [if_neg h]; omega
  rw [hmx]
  generalize hb : m.toNat = b
  generalize hr : iter _ _ N _ H = r
  have hx : r = ok (toAll a f b, heldOf [nth a 0 .junk, .i .i64 f, nth a 2 .junk, nth a 3 .junk, nth a 4 .junk, nth a 5 .junk, nth a 6 .junk, nth a 7 .junk, nth a 8 .junk, nth a 9 .junk, nth a 10 .junk, nth a 11 .junk, nth a 12 .junk, nth a 13 .junk, nth a 14 .junk, nth a 15 .junk, nth a 16 .junk, nth a 17 .junk, nth a 18 .junk, nth a 19 .junk, nth a 20 .junk, nth a 21 .junk, nth a 22 .junk, nth a 23 .junk, nth a 24 .junk, nth a 25 .junk, nth a 26 .junk, nth a 27 .junk, nth a 28 .junk, nth a 29 .junk, nth a 30 .junk, nth a 31 .junk, nth a 32 .junk, nth a 33 .junk, nth a 34 .junk, nth a 35 .junk, nth a 36 .junk, nth a 37 .junk, nth a 38 .junk, nth a 39 .junk, nth a 40 .junk, nth a 41 .junk, nth a 42 .junk, nth a 43 .junk, nth a 44 .junk, nth a 45 .junk, nth a 46 .junk, nth a 47 .junk, nth a 48 .junk, nth a 49 .junk, nth a 50 .junk, nth a 51 .junk, nth a 52 .junk, nth a 53 .junk, nth a 54 .junk, nth a 55 .junk, nth a 56 .junk, nth a 57 .junk, nth a 58 .junk, nth a 59 .junk, nth a 60 .junk, nth a 61 .junk, nth a 62 .junk, nth a 63 .junk, nth a 64 .junk, nth a 65 .junk, nth a 66 .junk, nth a 67 .junk, nth a 68 .junk, nth a 69 .junk, nth a 70 .junk, nth a 71 .junk, nth a 72 .junk, nth a 73 .junk, nth a 74 .junk, nth a 75 .junk, nth a 76 .junk, nth a 77 .junk, nth a 78 .junk, nth a 79 .junk, nth a 80 .junk, nth a 81 .junk, nth a 82 .junk, nth a 83 .junk, nth a 84 .junk, nth a 85 .junk, nth a 86 .junk, nth a 87 .junk, nth a 88 .junk, nth a 89 .junk, nth a 90 .junk, nth a 91 .junk, nth a 92 .junk, nth a 93 .junk, nth a 94 .junk, nth a 95 .junk, nth a 96 .junk, nth a 97 .junk, nth a 98 .junk, nth a 99 .junk, nth a 100 .junk, nth a 101 .junk, nth a 102 .junk, nth a 103 .junk, nth a 104 .junk, nth a 105 .junk, nth a 106 .junk, nth a 107 .junk, nth a 108 .junk, nth a 109 .junk, nth a 110 .junk, nth a 111 .junk, nth a 112 .junk, nth a 113 .junk, nth a 114 .junk, nth a 115 .junk, nth a 116 .junk, nth a 117 .junk, nth a 118 .junk, nth a 119 .junk, nth a 120 .junk, nth a 121 .junk, nth a 122 .junk, nth a 123 .junk, nth a 124 .junk, nth a 125 .junk, nth a 126 .junk, nth a 127 .junk, nth a 128 .junk, nth a 129 .junk, nth a 130 .junk, nth a 131 .junk, nth a 132 .junk, nth a 133 .junk, nth a 134 .junk, nth a 135 .junk, nth a 136 .junk, nth a 137 .junk, nth a 138 .junk, nth a 139 .junk, nth a 140 .junk, nth a 141 .junk, nth a 142 .junk, nth a 143 .junk, nth a 144 .junk, nth a 145 .junk, nth a 146 .junk] a f b, ()) H := by
    rw [← hr]
    refine run_iter (fun k => ((), toAll a f k, (b : Int), (k : Int), heldOf [nth a 0 .junk, .i .i64 f, nth a 2 .junk, nth a 3 .junk, nth a 4 .junk, nth a 5 .junk, nth a 6 .junk, nth a 7 .junk, nth a 8 .junk, nth a 9 .junk, nth a 10 .junk, nth a 11 .junk, nth a 12 .junk, nth a 13 .junk, nth a 14 .junk, nth a 15 .junk, nth a 16 .junk, nth a 17 .junk, nth a 18 .junk, nth a 19 .junk, nth a 20 .junk, nth a 21 .junk, nth a 22 .junk, nth a 23 .junk, nth a 24 .junk, nth a 25 .junk, nth a 26 .junk, nth a 27 .junk, nth a 28 .junk, nth a 29 .junk, nth a 30 .junk, nth a 31 .junk, nth a 32 .junk, nth a 33 .junk, nth a 34 .junk, nth a 35 .junk, nth a 36 .junk, nth a 37 .junk, nth a 38 .junk, nth a 39 .junk, nth a 40 .junk, nth a 41 .junk, nth a 42 .junk, nth a 43 .junk, nth a 44 .junk, nth a 45 .junk, nth a 46 .junk, nth a 47 .junk, nth a 48 .junk, nth a 49 .junk, nth a 50 .junk, nth a 51 .junk, nth a 52 .junk, nth a 53 .junk, nth a 54 .junk, nth a 55 .junk, nth a 56 .junk, nth a 57 .junk, nth a 58 .junk, nth a 59 .junk, nth a 60 .junk, nth a 61 .junk, nth a 62 .junk, nth a 63 .junk, nth a 64 .junk, nth a 65 .junk, nth a 66 .junk, nth a 67 .junk, nth a 68 .junk, nth a 69 .junk, nth a 70 .junk, nth a 71 .junk, nth a 72 .junk, nth a 73 .junk, nth a 74 .junk, nth a 75 .junk, nth a 76 .junk, nth a 77 .junk, nth a 78 .junk, nth a 79 .junk, nth a 80 .junk, nth a 81 .junk, nth a 82 .junk, nth a 83 .junk, nth a 84 .junk, nth a 85 .junk, nth a 86 .junk, nth a 87 .junk, nth a 88 .junk, nth a 89 .junk, nth a 90 .junk, nth a 91 .junk, nth a 92 .junk, nth a 93 .junk, nth a 94 .junk, nth a 95 .junk, nth a 96 .junk, nth a 97 .junk, nth a 98 .junk, nth a 99 .junk, nth a 100 .junk, nth a 101 .junk, nth a 102 .junk, nth a 103 .junk, nth a 104 .junk, nth a 105 .junk, nth a 106 .junk, nth a 107 .junk, nth a 108 .junk, nth a 109 .junk, nth a 110 .junk, nth a 111 .junk, nth a 112 .junk, nth a 113 .junk, nth a 114 .junk, nth a 115 .junk, nth a 116 .junk, nth a 117 .junk, nth a 118 .junk, nth a 119 .junk, nth a 120 .junk, nth a 121 .junk, nth a 122 .junk, nth a 123 .junk, nth a 124 .junk, nth a 125 .junk, nth a 126 .junk, nth a 127 .junk, nth a 128 .junk, nth a 129 .junk, nth a 130 .junk, nth a 131 .junk, nth a 132 .junk, nth a 133 .junk, nth a 134 .junk, nth a 135 .junk, nth a 136 .junk, nth a 137 .junk, nth a 138 .junk, nth a 139 .junk, nth a 140 .junk, nth a 141 .junk, nth a 142 .junk, nth a 143 .junk, nth a 144 .junk, nth a 145 .junk, nth a 146 .junk] a f k, ())) b _ (fun R => ?_) (fun R k hk => ?_) N (by omega)
    · dsimp only
      simp only [run_lss, Nat.lt_irrefl, decide_false]
    · have e1 : upd (heldOf [nth a 0 .junk, .i .i64 f, nth a 2 .junk, nth a 3 .junk, nth a 4 .junk, nth a 5 .junk, nth a 6 .junk, nth a 7 .junk, nth a 8 .junk, nth a 9 .junk, nth a 10 .junk, nth a 11 .junk, nth a 12 .junk, nth a 13 .junk, nth a 14 .junk, nth a 15 .junk, nth a 16 .junk, nth a 17 .junk, nth a 18 .junk, nth a 19 .junk, nth a 20 .junk, nth a 21 .junk, nth a 22 .junk, nth a 23 .junk, nth a 24 .junk, nth a 25 .junk, nth a 26 .junk, nth a 27 .junk, nth a 28 .junk, nth a 29 .junk, nth a 30 .junk, nth a 31 .junk, nth a 32 .junk, nth a 33 .junk, nth a 34 .junk, nth a 35 .junk, nth a 36 .junk, nth a 37 .junk, nth a 38 .junk, nth a 39 .junk, nth a 40 .junk, nth a 41 .junk, nth a 42 .junk, nth a 43 .junk, nth a 44 .junk, nth a 45 .junk, nth a 46 .junk, nth a 47 .junk, nth a 48 .junk, nth a 49 .junk, nth a 50 .junk, nth a 51 .junk, nth a 52 .junk, nth a 53 .junk, nth a 54 .junk, nth a 55 .junk, nth a 56 .junk, nth a 57 .junk, nth a 58 .junk, nth a 59 .junk, nth a 60 .junk, nth a 61 .junk, nth a 62 .junk, nth a 63 .junk, nth a 64 .junk, nth a 65 .junk, nth a 66 .junk, nth a 67 .junk, nth a 68 .junk, nth a 69 .junk, nth a 70 .junk, nth a 71 .junk, nth a 72 .junk, nth a 73 .junk, nth a 74 .junk, nth a 75 .junk, nth a 76 .junk, nth a 77 .junk, nth a 78 .junk, nth a 79 .junk, nth a 80 .junk, nth a 81 .junk, nth a 82 .junk, nth a 83 .junk, nth a 84 .junk, nth a 85 .junk, nth a 86 .junk, nth a 87 .junk, nth a 88 .junk, nth a 89 .junk, nth a 90 .junk, nth a 91 .junk, nth a 92 .junk, nth a 93 .junk, nth a 94 .junk, nth a 95 .junk, nth a 96 .junk, nth a 97 .junk, nth a 98 .junk, nth a 99 .junk, nth a 100 .junk, nth a 101 .junk, nth a 102 .junk, nth a 103 .junk, nth a 104 .junk, nth a 105 .junk, nth a 106 .junk, nth a 107 .junk, nth a 108 .junk, nth a 109 .junk, nth a 110 .junk, nth a 111 .junk, nth a 112 .junk, nth a 113 .junk, nth a 114 .junk, nth a 115 .junk, nth a 116 .junk, nth a 117 .junk, nth a 118 .junk, nth a 119 .junk, nth a 120 .junk, nth a 121 .junk, nth a 122 .junk, nth a 123 .junk, nth a 124 .junk, nth a 125 .junk, nth a 126 .junk, nth a 127 .junk, nth a 128 .junk, nth a 129 .junk, nth a 130 .junk, nth a 131 .junk, nth a 132 .junk, nth a 133 .junk, nth a 134 .junk, nth a 135 .junk, nth a 136 .junk, nth a 137 .junk, nth a 138 .junk, nth a 139 .junk, nth a 140 .junk, nth a 141 .junk, nth a 142 .junk, nth a 143 .junk, nth a 144 .junk, nth a 145 .junk, nth a 146 .junk] a f k) 2 (.i .i64 (k : Int)) = rowOf a f (k : Nat) := by
        cases k <;> rfl
      dsimp only
      simp only [run_lss, hk, decide_true, e1, show ((rowOf a f (k : Nat)).length == 147) = true by rw [rowOf_len]; rfl, reqB_true, roomL_all a f k (by omega), toAll_cat, add_one (show k < 9223372036854775807 by omega)]
      rfl
  rw [hx]
  simp only [req_true, ok_pre, ok_out, ok_H]
theorem w_AllTo {a : List AV} {f : Int} {m : Int} (ha : TyL n csMsg a) (hm : m ≤ 40) (hm0 : -9223372036854775808 ≤ m) (hN : 1000 < N) : F_folkmootref28_AllTo N (f, m, a, ()) H = ok (toAll a f m.toNat, ()) H := by
  unfold F_folkmootref28_AllTo
  dsimp only
  simp only [show (a.length == 147) = true by rw [ha.len]; rfl, reqB_true]
  generalize hr : iter _ _ N _ H = r
  have hx : r = ok (toAll a f m.toNat, heldOf [nth a 0 .junk, nth a 1 .junk, nth a 2 .junk, nth a 3 .junk, nth a 4 .junk, nth a 5 .junk, nth a 6 .junk, nth a 7 .junk, nth a 8 .junk, nth a 9 .junk, nth a 10 .junk, nth a 11 .junk, nth a 12 .junk, nth a 13 .junk, nth a 14 .junk, nth a 15 .junk, nth a 16 .junk, nth a 17 .junk, nth a 18 .junk, nth a 19 .junk, nth a 20 .junk, nth a 21 .junk, nth a 22 .junk, nth a 23 .junk, nth a 24 .junk, nth a 25 .junk, nth a 26 .junk, nth a 27 .junk, nth a 28 .junk, nth a 29 .junk, nth a 30 .junk, nth a 31 .junk, nth a 32 .junk, nth a 33 .junk, nth a 34 .junk, nth a 35 .junk, nth a 36 .junk, nth a 37 .junk, nth a 38 .junk, nth a 39 .junk, nth a 40 .junk, nth a 41 .junk, nth a 42 .junk, nth a 43 .junk, nth a 44 .junk, nth a 45 .junk, nth a 46 .junk, nth a 47 .junk, nth a 48 .junk, nth a 49 .junk, nth a 50 .junk, nth a 51 .junk, nth a 52 .junk, nth a 53 .junk, nth a 54 .junk, nth a 55 .junk, nth a 56 .junk, nth a 57 .junk, nth a 58 .junk, nth a 59 .junk, nth a 60 .junk, nth a 61 .junk, nth a 62 .junk, nth a 63 .junk, nth a 64 .junk, nth a 65 .junk, nth a 66 .junk, nth a 67 .junk, nth a 68 .junk, nth a 69 .junk, nth a 70 .junk, nth a 71 .junk, nth a 72 .junk, nth a 73 .junk, nth a 74 .junk, nth a 75 .junk, nth a 76 .junk, nth a 77 .junk, nth a 78 .junk, nth a 79 .junk, nth a 80 .junk, nth a 81 .junk, nth a 82 .junk, nth a 83 .junk, nth a 84 .junk, nth a 85 .junk, nth a 86 .junk, nth a 87 .junk, nth a 88 .junk, nth a 89 .junk, nth a 90 .junk, nth a 91 .junk, nth a 92 .junk, nth a 93 .junk, nth a 94 .junk, nth a 95 .junk, nth a 96 .junk, nth a 97 .junk, nth a 98 .junk, nth a 99 .junk, nth a 100 .junk, nth a 101 .junk, nth a 102 .junk, nth a 103 .junk, nth a 104 .junk, nth a 105 .junk, nth a 106 .junk, nth a 107 .junk, nth a 108 .junk, nth a 109 .junk, nth a 110 .junk, nth a 111 .junk, nth a 112 .junk, nth a 113 .junk, nth a 114 .junk, nth a 115 .junk, nth a 116 .junk, nth a 117 .junk, nth a 118 .junk, nth a 119 .junk, nth a 120 .junk, nth a 121 .junk, nth a 122 .junk, nth a 123 .junk, nth a 124 .junk, nth a 125 .junk, nth a 126 .junk, nth a 127 .junk, nth a 128 .junk, nth a 129 .junk, nth a 130 .junk, nth a 131 .junk, nth a 132 .junk, nth a 133 .junk, nth a 134 .junk, nth a 135 .junk, nth a 136 .junk, nth a 137 .junk, nth a 138 .junk, nth a 139 .junk, nth a 140 .junk, nth a 141 .junk, nth a 142 .junk, nth a 143 .junk, nth a 144 .junk, nth a 145 .junk, nth a 146 .junk] a f m.toNat, ()) H := by
    rw [← hr]
    refine run_iter (fun k => (f, m, (), toAll a f k, (k : Int), heldOf [nth a 0 .junk, nth a 1 .junk, nth a 2 .junk, nth a 3 .junk, nth a 4 .junk, nth a 5 .junk, nth a 6 .junk, nth a 7 .junk, nth a 8 .junk, nth a 9 .junk, nth a 10 .junk, nth a 11 .junk, nth a 12 .junk, nth a 13 .junk, nth a 14 .junk, nth a 15 .junk, nth a 16 .junk, nth a 17 .junk, nth a 18 .junk, nth a 19 .junk, nth a 20 .junk, nth a 21 .junk, nth a 22 .junk, nth a 23 .junk, nth a 24 .junk, nth a 25 .junk, nth a 26 .junk, nth a 27 .junk, nth a 28 .junk, nth a 29 .junk, nth a 30 .junk, nth a 31 .junk, nth a 32 .junk, nth a 33 .junk, nth a 34 .junk, nth a 35 .junk, nth a 36 .junk, nth a 37 .junk, nth a 38 .junk, nth a 39 .junk, nth a 40 .junk, nth a 41 .junk, nth a 42 .junk, nth a 43 .junk, nth a 44 .junk, nth a 45 .junk, nth a 46 .junk, nth a 47 .junk, nth a 48 .junk, nth a 49 .junk, nth a 50 .junk, nth a 51 .junk, nth a 52 .junk, nth a 53 .junk, nth a 54 .junk, nth a 55 .junk, nth a 56 .junk, nth a 57 .junk, nth a 58 .junk, nth a 59 .junk, nth a 60 .junk, nth a 61 .junk, nth a 62 .junk, nth a 63 .junk, nth a 64 .junk, nth a 65 .junk, nth a 66 .junk, nth a 67 .junk, nth a 68 .junk, nth a 69 .junk, nth a 70 .junk, nth a 71 .junk, nth a 72 .junk, nth a 73 .junk, nth a 74 .junk, nth a 75 .junk, nth a 76 .junk, nth a 77 .junk, nth a 78 .junk, nth a 79 .junk, nth a 80 .junk, nth a 81 .junk, nth a 82 .junk, nth a 83 .junk, nth a 84 .junk, nth a 85 .junk, nth a 86 .junk, nth a 87 .junk, nth a 88 .junk, nth a 89 .junk, nth a 90 .junk, nth a 91 .junk, nth a 92 .junk, nth a 93 .junk, nth a 94 .junk, nth a 95 .junk, nth a 96 .junk, nth a 97 .junk, nth a 98 .junk, nth a 99 .junk, nth a 100 .junk, nth a 101 .junk, nth a 102 .junk, nth a 103 .junk, nth a 104 .junk, nth a 105 .junk, nth a 106 .junk, nth a 107 .junk, nth a 108 .junk, nth a 109 .junk, nth a 110 .junk, nth a 111 .junk, nth a 112 .junk, nth a 113 .junk, nth a 114 .junk, nth a 115 .junk, nth a 116 .junk, nth a 117 .junk, nth a 118 .junk, nth a 119 .junk, nth a 120 .junk, nth a 121 .junk, nth a 122 .junk, nth a 123 .junk, nth a 124 .junk, nth a 125 .junk, nth a 126 .junk, nth a 127 .junk, nth a 128 .junk, nth a 129 .junk, nth a 130 .junk, nth a 131 .junk, nth a 132 .junk, nth a 133 .junk, nth a 134 .junk, nth a 135 .junk, nth a 136 .junk, nth a 137 .junk, nth a 138 .junk, nth a 139 .junk, nth a 140 .junk, nth a 141 .junk, nth a 142 .junk, nth a 143 .junk, nth a 144 .junk, nth a 145 .junk, nth a 146 .junk] a f k, ())) m.toNat _ (fun R => ?_) (fun R k hk => ?_) N (by omega)
    · dsimp only
      simp only [lss_iff, show decide ((m.toNat : Int) < m) = false by simp; omega]
    · have e1 : upd (upd (heldOf [nth a 0 .junk, nth a 1 .junk, nth a 2 .junk, nth a 3 .junk, nth a 4 .junk, nth a 5 .junk, nth a 6 .junk, nth a 7 .junk, nth a 8 .junk, nth a 9 .junk, nth a 10 .junk, nth a 11 .junk, nth a 12 .junk, nth a 13 .junk, nth a 14 .junk, nth a 15 .junk, nth a 16 .junk, nth a 17 .junk, nth a 18 .junk, nth a 19 .junk, nth a 20 .junk, nth a 21 .junk, nth a 22 .junk, nth a 23 .junk, nth a 24 .junk, nth a 25 .junk, nth a 26 .junk, nth a 27 .junk, nth a 28 .junk, nth a 29 .junk, nth a 30 .junk, nth a 31 .junk, nth a 32 .junk, nth a 33 .junk, nth a 34 .junk, nth a 35 .junk, nth a 36 .junk, nth a 37 .junk, nth a 38 .junk, nth a 39 .junk, nth a 40 .junk, nth a 41 .junk, nth a 42 .junk, nth a 43 .junk, nth a 44 .junk, nth a 45 .junk, nth a 46 .junk, nth a 47 .junk, nth a 48 .junk, nth a 49 .junk, nth a 50 .junk, nth a 51 .junk, nth a 52 .junk, nth a 53 .junk, nth a 54 .junk, nth a 55 .junk, nth a 56 .junk, nth a 57 .junk, nth a 58 .junk, nth a 59 .junk, nth a 60 .junk, nth a 61 .junk, nth a 62 .junk, nth a 63 .junk, nth a 64 .junk, nth a 65 .junk, nth a 66 .junk, nth a 67 .junk, nth a 68 .junk, nth a 69 .junk, nth a 70 .junk, nth a 71 .junk, nth a 72 .junk, nth a 73 .junk, nth a 74 .junk, nth a 75 .junk, nth a 76 .junk, nth a 77 .junk, nth a 78 .junk, nth a 79 .junk, nth a 80 .junk, nth a 81 .junk, nth a 82 .junk, nth a 83 .junk, nth a 84 .junk, nth a 85 .junk, nth a 86 .junk, nth a 87 .junk, nth a 88 .junk, nth a 89 .junk, nth a 90 .junk, nth a 91 .junk, nth a 92 .junk, nth a 93 .junk, nth a 94 .junk, nth a 95 .junk, nth a 96 .junk, nth a 97 .junk, nth a 98 .junk, nth a 99 .junk, nth a 100 .junk, nth a 101 .junk, nth a 102 .junk, nth a 103 .junk, nth a 104 .junk, nth a 105 .junk, nth a 106 .junk, nth a 107 .junk, nth a 108 .junk, nth a 109 .junk, nth a 110 .junk, nth a 111 .junk, nth a 112 .junk, nth a 113 .junk, nth a 114 .junk, nth a 115 .junk, nth a 116 .junk, nth a 117 .junk, nth a 118 .junk, nth a 119 .junk, nth a 120 .junk, nth a 121 .junk, nth a 122 .junk, nth a 123 .junk, nth a 124 .junk, nth a 125 .junk, nth a 126 .junk, nth a 127 .junk, nth a 128 .junk, nth a 129 .junk, nth a 130 .junk, nth a 131 .junk, nth a 132 .junk, nth a 133 .junk, nth a 134 .junk, nth a 135 .junk, nth a 136 .junk, nth a 137 .junk, nth a 138 .junk, nth a 139 .junk, nth a 140 .junk, nth a 141 .junk, nth a 142 .junk, nth a 143 .junk, nth a 144 .junk, nth a 145 .junk, nth a 146 .junk] a f k) 1 (.i .i64 f)) 2 (.i .i64 (k : Int)) = rowOf a f (k : Nat) := by
        cases k <;> rfl
      dsimp only
      simp only [lss_iff, show decide ((k : Int) < m) = true by simp; omega, e1, show ((rowOf a f (k : Nat)).length == 147) = true by rw [rowOf_len]; rfl, reqB_true, roomL_all a f k (by omega), toAll_cat, add_one (show k < 9223372036854775807 by omega)]
      rfl
  rw [hx]
  simp only [req_true, ok_pre, ok_out, ok_H]
theorem w_SameAll {l : List (List AV)} (hl : Rows n csMsg l) (hn : n ≤ 1000) (hN : 1000 < N) (hM : N < 9223372036854775807) : F_folkmootlaw22_SameAll N (l, l, ()) H = ok (true, ()) H := by
  unfold F_folkmootlaw22_SameAll
  dsimp only
  have h0 := hl.1
  simp only [neq_false rfl]
  generalize hr : iter _ _ N _ H = r
  have hx : r = ok (.inl ()) H := by
    rw [← hr]
    refine run_iter (fun k => (l, l, (k : Int), ())) l.length _ (fun R => ?_) (fun R k hk => ?_) N (by omega)
    · dsimp only
      simp only [run_lss, Nat.lt_irrefl, decide_false]
    · have h1 := hl.2 k hk
      dsimp only
      simp only [run_lss, hk, decide_true, inb_true hk, Int.toNat_natCast, reqB_true, req_true, i_folkmootlaw22_Of (N := N) (H := H) h1 hn hN hM, w_folkmootref28_SameMsg (N := N) (H := H) h1 h1 (by omega) hM, ok_pre, ok_out, Bool.not_true, add_one (show k < 9223372036854775807 by omega)]
  rw [hx]
  simp [sumElim]
theorem known_ok (H : Heap) : F_folkmootlaw22_known 1000000 () H = ok (true, ()) H := by kernel_rfl
theorem law_MsgAny {a b : List AV} {m f : Int} (ha : TyL M csMsg a) (hb : TyL M csMsg b) (hm : (Lit.int .i64 m).wf = true) (hf : (Lit.int .i64 f).wf = true) : F_folkmootlaw22_MsgAny 1000000 (a, b, m, f, ()) H = ok (true, ()) H := by
  unfold F_folkmootlaw22_MsgAny
  dsimp only
  obtain ⟨t1, e1, h1⟩ := f_22_Few (N := 1000000) (H := H) ha (by decide)
  obtain ⟨t2, e2, h2⟩ := f_22_Few (N := 1000000) (H := H) hb (by decide)
  simp only [show (a.length == 147) = true by rw [ha.len]; rfl, show (b.length == 147) = true by rw [hb.len]; rfl, known_ok, e1, e2, reqB_true, reqG_true, req_true, imp_self, imp_tt, ok_pre, ok_out, Bool.not_true]
  cases t1
  · simp
  cases t2
  · simp
  simp only [Bool.not_true, Bool.or_self, Bool.false_or, gtr_iff]
  by_cases hm4 : 40 < m
  · simp [hm4]
  simp only [hm4, decide_false]
  have ha' := h1 rfl
  have hb' := h2 rfl
  have hm0 : -9223372036854775808 ≤ m := by
    have e : (Lit.int .i64 m).wf = (decide (-9223372036854775808 ≤ m) && decide (m ≤ 9223372036854775807)) := rfl
    rw [e] at hm
    simp at hm
    exact hm.1
  have hT := toAll_ty (f := f) (k := m.toNat) ha' hf (by omega) (by decide)
  simp only [i_folkmootlaw22_To (N := 1000000) (H := H) ha' (by decide) (by decide) (by decide), i_folkmootlaw22_To (N := 1000000) (H := H) hb' (by decide) (by decide) (by decide), show (a.length == 147) = true by rw [ha.len]; rfl, show (b.length == 147) = true by rw [hb.len]; rfl,
    w_Check ha', w_CheckMsg ha', w_msg_Same (N := 1000000) (H := H) ha' hb' (by decide) (by decide), w_folkmootref28_SameMsg (N := 1000000) (H := H) ha' hb' (by decide) (by decide), w_msg_Same (N := 1000000) (H := H) ha' ha' (by decide) (by decide),
    w_All (N := 1000000) (H := H) ha' (show m ≤ 40 by omega) hm0 (by decide), w_AllTo (N := 1000000) (H := H) ha' (show m ≤ 40 by omega) hm0 (by decide), w_SameAll (N := 1000000) (H := H) hT (by decide) (by decide) (by decide),
    w_folkmootref21_Same (N := 1000000) (H := H) (ha'.sub (ds := csBlock) 88 8 rfl rfl) (ha'.sub (ds := csBlock) 88 8 rfl rfl) (by decide) (by decide), reqB_true, reqG_true, req_true, imp_self, imp_tt, ok_pre, ok_out, eql_iff, decide_true, beq_self_eq_true, Bool.and_self]
end Go.Proofs.DenT
end
section
open Go Go.Proofs
set_option maxRecDepth 1000000
namespace Go.Proofs.DenT
theorem hmix : Try.prog.follows .mixedOrders = true := by kernel_rfl
theorem ok_msg_within_int (N : Nat) : CallOK Try.prog 29 (S_msg_within_int N) := fd_use (fd := fd_msg_within_int) (Γ := G_msg_within_int N) (pu := true) (rk := .glob) hmix EnvOK.nil Try.func29 (by kernel_rfl) (den_msg_within_int N)
theorem ok_msg_Check (N : Nat) : CallOK Try.prog 7 (S_msg_Check N) := fd_use (fd := fd_msg_Check) (Γ := G_msg_Check N) (pu := true) (rk := .glob) hmix (EnvOK.cons (ok_msg_within_int N) EnvOK.nil) Try.func7 (by kernel_rfl) (den_msg_Check N)
theorem ok_slices_Equal_hash_Digest_hash_Digest (N : Nat) : CallOK Try.prog 70 (S_slices_Equal_hash_Digest_hash_Digest N) := fd_use (fd := fd_slices_Equal_hash_Digest_hash_Digest) (Γ := G_slices_Equal_hash_Digest_hash_Digest N) (pu := true) (rk := .glob) hmix EnvOK.nil Try.func70 (by kernel_rfl) (den_slices_Equal_hash_Digest_hash_Digest N)
theorem ok_key_Same (N : Nat) : CallOK Try.prog 53 (S_key_Same N) := fd_use (fd := fd_key_Same) (Γ := G_key_Same N) (pu := true) (rk := .glob) hmix (EnvOK.cons (ok_slices_Equal_hash_Digest_hash_Digest N) EnvOK.nil) Try.func53 (by kernel_rfl) (den_key_Same N)
theorem ok_stamp_Same (N : Nat) : CallOK Try.prog 30 (S_stamp_Same N) := fd_use (fd := fd_stamp_Same) (Γ := G_stamp_Same N) (pu := true) (rk := .glob) hmix (EnvOK.cons (ok_key_Same N) EnvOK.nil) Try.func30 (by kernel_rfl) (den_stamp_Same N)
theorem ok_slices_EqualFunc_stamp_Stamp_stamp_Stamp_stamp_Stamp_stamp_Stamp (N : Nat) : CallOK Try.prog 54 (S_slices_EqualFunc_stamp_Stamp_stamp_Stamp_stamp_Stamp_stamp_Stamp N) := fd_use (fd := fd_slices_EqualFunc_stamp_Stamp_stamp_Stamp_stamp_Stamp_stamp_Stamp) (Γ := G_slices_EqualFunc_stamp_Stamp_stamp_Stamp_stamp_Stamp_stamp_Stamp N) (pu := true) (rk := .glob) hmix (EnvOK.cons (ok_stamp_Same N) EnvOK.nil) Try.func54 (by kernel_rfl) (den_slices_EqualFunc_stamp_Stamp_stamp_Stamp_stamp_Stamp_stamp_Stamp N)
theorem ok_median_Same (N : Nat) : CallOK Try.prog 31 (S_median_Same N) := fd_use (fd := fd_median_Same) (Γ := G_median_Same N) (pu := true) (rk := .glob) hmix (EnvOK.cons (ok_slices_EqualFunc_stamp_Stamp_stamp_Stamp_stamp_Stamp_stamp_Stamp N) EnvOK.nil) Try.func31 (by kernel_rfl) (den_median_Same N)
theorem ok_msg_sameAck (N : Nat) : CallOK Try.prog 32 (S_msg_sameAck N) := fd_use (fd := fd_msg_sameAck) (Γ := G_msg_sameAck N) (pu := true) (rk := .glob) hmix (EnvOK.cons (ok_key_Same N) EnvOK.nil) Try.func32 (by kernel_rfl) (den_msg_sameAck N)
theorem ok_slices_EqualFunc_median_Cert_median_Cert_median_Cert_median_Cert (N : Nat) : CallOK Try.prog 55 (S_slices_EqualFunc_median_Cert_median_Cert_median_Cert_median_Cert N) := fd_use (fd := fd_slices_EqualFunc_median_Cert_median_Cert_median_Cert_median_Cert) (Γ := G_slices_EqualFunc_median_Cert_median_Cert_median_Cert_median_Cert N) (pu := true) (rk := .glob) hmix (EnvOK.cons (ok_median_Same N) EnvOK.nil) Try.func55 (by kernel_rfl) (den_slices_EqualFunc_median_Cert_median_Cert_median_Cert_median_Cert N)
theorem ok_cut_Same (N : Nat) : CallOK Try.prog 33 (S_cut_Same N) := fd_use (fd := fd_cut_Same) (Γ := G_cut_Same N) (pu := true) (rk := .glob) hmix (EnvOK.cons (ok_key_Same N) (EnvOK.cons (ok_slices_EqualFunc_median_Cert_median_Cert_median_Cert_median_Cert N) EnvOK.nil)) Try.func33 (by kernel_rfl) (den_cut_Same N)
theorem ok_msg_sameVote (N : Nat) : CallOK Try.prog 35 (S_msg_sameVote N) := fd_use (fd := fd_msg_sameVote) (Γ := G_msg_sameVote N) (pu := true) (rk := .glob) hmix (EnvOK.cons (ok_key_Same N) EnvOK.nil) Try.func35 (by kernel_rfl) (den_msg_sameVote N)
theorem ok_slices_EqualFunc_block_Vote_block_Vote_block_Vote_block_Vote (N : Nat) : CallOK Try.prog 78 (S_slices_EqualFunc_block_Vote_block_Vote_block_Vote_block_Vote N) := fd_use (fd := fd_slices_EqualFunc_block_Vote_block_Vote_block_Vote_block_Vote) (Γ := G_slices_EqualFunc_block_Vote_block_Vote_block_Vote_block_Vote N) (pu := true) (rk := .glob) hmix (EnvOK.cons (ok_msg_sameVote N) EnvOK.nil) Try.func78 (by kernel_rfl) (den_slices_EqualFunc_block_Vote_block_Vote_block_Vote_block_Vote N)
theorem ok_msg_rows_block_Vote (N : Nat) : CallOK Try.prog 71 (S_msg_rows_block_Vote N) := fd_use (fd := fd_msg_rows_block_Vote) (Γ := G_msg_rows_block_Vote N) (pu := true) (rk := .glob) hmix (EnvOK.cons (ok_slices_EqualFunc_block_Vote_block_Vote_block_Vote_block_Vote N) EnvOK.nil) Try.func71 (by kernel_rfl) (den_msg_rows_block_Vote N)
theorem ok_msg_sameQC (N : Nat) : CallOK Try.prog 56 (S_msg_sameQC N) := fd_use (fd := fd_msg_sameQC) (Γ := G_msg_sameQC N) (pu := true) (rk := .glob) hmix (EnvOK.cons (ok_msg_rows_block_Vote N) EnvOK.nil) Try.func56 (by kernel_rfl) (den_msg_sameQC N)
theorem ok_slices_EqualFunc_cut_Report_cut_Report_cut_Report_cut_Report (N : Nat) : CallOK Try.prog 72 (S_slices_EqualFunc_cut_Report_cut_Report_cut_Report_cut_Report N) := fd_use (fd := fd_slices_EqualFunc_cut_Report_cut_Report_cut_Report_cut_Report) (Γ := G_slices_EqualFunc_cut_Report_cut_Report_cut_Report_cut_Report N) (pu := true) (rk := .glob) hmix (EnvOK.cons (ok_cut_Same N) EnvOK.nil) Try.func72 (by kernel_rfl) (den_slices_EqualFunc_cut_Report_cut_Report_cut_Report_cut_Report N)
theorem ok_msg_rows_cut_Report (N : Nat) : CallOK Try.prog 57 (S_msg_rows_cut_Report N) := fd_use (fd := fd_msg_rows_cut_Report) (Γ := G_msg_rows_cut_Report N) (pu := true) (rk := .glob) hmix (EnvOK.cons (ok_slices_EqualFunc_cut_Report_cut_Report_cut_Report_cut_Report N) EnvOK.nil) Try.func57 (by kernel_rfl) (den_msg_rows_cut_Report N)
theorem ok_msg_sameBlock (N : Nat) : CallOK Try.prog 34 (S_msg_sameBlock N) := fd_use (fd := fd_msg_sameBlock) (Γ := G_msg_sameBlock N) (pu := true) (rk := .glob) hmix (EnvOK.cons (ok_msg_sameQC N) (EnvOK.cons (ok_msg_rows_cut_Report N) EnvOK.nil)) Try.func34 (by kernel_rfl) (den_msg_sameBlock N)
theorem ok_msg_sameView (N : Nat) : CallOK Try.prog 36 (S_msg_sameView N) := fd_use (fd := fd_msg_sameView) (Γ := G_msg_sameView N) (pu := true) (rk := .glob) hmix (EnvOK.cons (ok_key_Same N) (EnvOK.cons (ok_msg_sameQC N) EnvOK.nil)) Try.func36 (by kernel_rfl) (den_msg_sameView N)
theorem ok_slices_EqualFunc_block_Block_block_Block_block_Block_block_Block (N : Nat) : CallOK Try.prog 58 (S_slices_EqualFunc_block_Block_block_Block_block_Block_block_Block N) := fd_use (fd := fd_slices_EqualFunc_block_Block_block_Block_block_Block_block_Block) (Γ := G_slices_EqualFunc_block_Block_block_Block_block_Block_block_Block N) (pu := true) (rk := .glob) hmix (EnvOK.cons (ok_msg_sameBlock N) EnvOK.nil) Try.func58 (by kernel_rfl) (den_slices_EqualFunc_block_Block_block_Block_block_Block_block_Block N)
theorem ok_msg_rows_block_Block (N : Nat) : CallOK Try.prog 37 (S_msg_rows_block_Block N) := fd_use (fd := fd_msg_rows_block_Block) (Γ := G_msg_rows_block_Block N) (pu := true) (rk := .glob) hmix (EnvOK.cons (ok_slices_EqualFunc_block_Block_block_Block_block_Block_block_Block N) EnvOK.nil) Try.func37 (by kernel_rfl) (den_msg_rows_block_Block N)
theorem ok_msg_Same (N : Nat) : CallOK Try.prog 9 (S_msg_Same N) := fd_use (fd := fd_msg_Same) (Γ := G_msg_Same N) (pu := true) (rk := .glob) hmix (EnvOK.cons (ok_stamp_Same N) (EnvOK.cons (ok_median_Same N) (EnvOK.cons (ok_msg_sameAck N) (EnvOK.cons (ok_cut_Same N) (EnvOK.cons (ok_msg_sameBlock N) (EnvOK.cons (ok_msg_sameVote N) (EnvOK.cons (ok_msg_sameView N) (EnvOK.cons (ok_msg_rows_block_Block N) EnvOK.nil)))))))) Try.func9 (by kernel_rfl) (den_msg_Same N)
theorem ok_msg_All (N : Nat) : CallOK Try.prog 12 (S_msg_All N) := fd_use (fd := fd_msg_All) (Γ := G_msg_All N) (pu := true) (rk := .glob) hmix EnvOK.nil Try.func12 (by kernel_rfl) (den_msg_All N)
theorem ok_folkmootlaw12_C (N : Nat) : CallOK Try.prog 15 (S_folkmootlaw12_C N) := fd_use (fd := fd_folkmootlaw12_C) (Γ := G_folkmootlaw12_C N) (pu := true) (rk := .glob) hmix EnvOK.nil Try.func15 (by kernel_rfl) (den_folkmootlaw12_C N)
theorem ok_msg_Word (N : Nat) : CallOK Try.prog 16 (S_msg_Word N) := fd_use (fd := fd_msg_Word) (Γ := G_msg_Word N) (pu := true) (rk := .glob) hmix (EnvOK.cons (ok_msg_within_int N) EnvOK.nil) Try.func16 (by kernel_rfl) (den_msg_Word N)
theorem ok_folkmootlaw22_known (N : Nat) : CallOK Try.prog 4 (S_folkmootlaw22_known N) := fd_use (fd := fd_folkmootlaw22_known) (Γ := G_folkmootlaw22_known N) (pu := true) (rk := .glob) hmix (EnvOK.cons (ok_msg_Check N) (EnvOK.cons (ok_msg_Same N) (EnvOK.cons (ok_msg_All N) (EnvOK.cons (ok_folkmootlaw12_C N) (EnvOK.cons (ok_msg_Word N) EnvOK.nil))))) Try.func4 (by kernel_rfl) (den_folkmootlaw22_known N)
theorem ok_folkmootlaw12_few (N : Nat) : CallOK Try.prog 46 (S_folkmootlaw12_few N) := fd_use (fd := fd_folkmootlaw12_few) (Γ := G_folkmootlaw12_few N) (pu := true) (rk := .glob) hmix EnvOK.nil Try.func46 (by kernel_rfl) (den_folkmootlaw12_few N)
theorem ok_folkmootlaw12_Few (N : Nat) : CallOK Try.prog 17 (S_folkmootlaw12_Few N) := fd_use (fd := fd_folkmootlaw12_Few) (Γ := G_folkmootlaw12_Few N) (pu := true) (rk := .glob) hmix (EnvOK.cons (ok_folkmootlaw12_few N) EnvOK.nil) Try.func17 (by kernel_rfl) (den_folkmootlaw12_Few N)
theorem ok_folkmootlaw15_Few (N : Nat) : CallOK Try.prog 18 (S_folkmootlaw15_Few N) := fd_use (fd := fd_folkmootlaw15_Few) (Γ := G_folkmootlaw15_Few N) (pu := true) (rk := .glob) hmix (EnvOK.cons (ok_folkmootlaw12_Few N) EnvOK.nil) Try.func18 (by kernel_rfl) (den_folkmootlaw15_Few N)
theorem ok_folkmootlaw16_FewQC (N : Nat) : CallOK Try.prog 47 (S_folkmootlaw16_FewQC N) := fd_use (fd := fd_folkmootlaw16_FewQC) (Γ := G_folkmootlaw16_FewQC N) (pu := true) (rk := .glob) hmix EnvOK.nil Try.func47 (by kernel_rfl) (den_folkmootlaw16_FewQC N)
theorem ok_folkmootlaw16_Few (N : Nat) : CallOK Try.prog 19 (S_folkmootlaw16_Few N) := fd_use (fd := fd_folkmootlaw16_Few) (Γ := G_folkmootlaw16_Few N) (pu := true) (rk := .glob) hmix (EnvOK.cons (ok_folkmootlaw15_Few N) (EnvOK.cons (ok_folkmootlaw16_FewQC N) EnvOK.nil)) Try.func19 (by kernel_rfl) (den_folkmootlaw16_Few N)
theorem ok_folkmootlaw19_Few (N : Nat) : CallOK Try.prog 20 (S_folkmootlaw19_Few N) := fd_use (fd := fd_folkmootlaw19_Few) (Γ := G_folkmootlaw19_Few N) (pu := true) (rk := .glob) hmix (EnvOK.cons (ok_folkmootlaw16_FewQC N) EnvOK.nil) Try.func20 (by kernel_rfl) (den_folkmootlaw19_Few N)
theorem ok_folkmootlaw22_Few (N : Nat) : CallOK Try.prog 5 (S_folkmootlaw22_Few N) := fd_use (fd := fd_folkmootlaw22_Few) (Γ := G_folkmootlaw22_Few N) (pu := true) (rk := .glob) hmix (EnvOK.cons (ok_folkmootlaw12_Few N) (EnvOK.cons (ok_folkmootlaw15_Few N) (EnvOK.cons (ok_folkmootlaw16_Few N) (EnvOK.cons (ok_folkmootlaw19_Few N) EnvOK.nil)))) Try.func5 (by kernel_rfl) (den_folkmootlaw22_Few N)
theorem ok_folkmootlaw9_To (N : Nat) : CallOK Try.prog 21 (S_folkmootlaw9_To N) := fd_use (fd := fd_folkmootlaw9_To) (Γ := G_folkmootlaw9_To N) (pu := true) (rk := .glob) hmix EnvOK.nil Try.func21 (by kernel_rfl) (den_folkmootlaw9_To N)
theorem ok_folkmootlaw3_To (N : Nat) : CallOK Try.prog 67 (S_folkmootlaw3_To N) := fd_use (fd := fd_folkmootlaw3_To) (Γ := G_folkmootlaw3_To N) (pu := true) (rk := .glob) hmix EnvOK.nil Try.func67 (by kernel_rfl) (den_folkmootlaw3_To N)
theorem ok_folkmootlaw4_To (N : Nat) : CallOK Try.prog 68 (S_folkmootlaw4_To N) := fd_use (fd := fd_folkmootlaw4_To) (Γ := G_folkmootlaw4_To N) (pu := true) (rk := .glob) hmix EnvOK.nil Try.func68 (by kernel_rfl) (den_folkmootlaw4_To N)
theorem ok_folkmootlaw5_To (N : Nat) : CallOK Try.prog 48 (S_folkmootlaw5_To N) := fd_use (fd := fd_folkmootlaw5_To) (Γ := G_folkmootlaw5_To N) (pu := true) (rk := .glob) hmix (EnvOK.cons (ok_folkmootlaw3_To N) (EnvOK.cons (ok_folkmootlaw4_To N) EnvOK.nil)) Try.func48 (by kernel_rfl) (den_folkmootlaw5_To N)
theorem ok_folkmootlaw11_To (N : Nat) : CallOK Try.prog 22 (S_folkmootlaw11_To N) := fd_use (fd := fd_folkmootlaw11_To) (Γ := G_folkmootlaw11_To N) (pu := true) (rk := .glob) hmix (EnvOK.cons (ok_folkmootlaw5_To N) EnvOK.nil) Try.func22 (by kernel_rfl) (den_folkmootlaw11_To N)
theorem ok_folkmootlaw11_ToAll (N : Nat) : CallOK Try.prog 49 (S_folkmootlaw11_ToAll N) := fd_use (fd := fd_folkmootlaw11_ToAll) (Γ := G_folkmootlaw11_ToAll N) (pu := true) (rk := .glob) hmix (EnvOK.cons (ok_folkmootlaw11_To N) EnvOK.nil) Try.func49 (by kernel_rfl) (den_folkmootlaw11_ToAll N)
theorem ok_folkmootlaw12_To (N : Nat) : CallOK Try.prog 23 (S_folkmootlaw12_To N) := fd_use (fd := fd_folkmootlaw12_To) (Γ := G_folkmootlaw12_To N) (pu := true) (rk := .glob) hmix (EnvOK.cons (ok_folkmootlaw9_To N) (EnvOK.cons (ok_folkmootlaw11_ToAll N) EnvOK.nil)) Try.func23 (by kernel_rfl) (den_folkmootlaw12_To N)
theorem ok_folkmootlaw14_To (N : Nat) : CallOK Try.prog 24 (S_folkmootlaw14_To N) := fd_use (fd := fd_folkmootlaw14_To) (Γ := G_folkmootlaw14_To N) (pu := true) (rk := .glob) hmix (EnvOK.cons (ok_folkmootlaw5_To N) EnvOK.nil) Try.func24 (by kernel_rfl) (den_folkmootlaw14_To N)
theorem ok_folkmootlaw12_ToAll (N : Nat) : CallOK Try.prog 50 (S_folkmootlaw12_ToAll N) := fd_use (fd := fd_folkmootlaw12_ToAll) (Γ := G_folkmootlaw12_ToAll N) (pu := true) (rk := .glob) hmix (EnvOK.cons (ok_folkmootlaw12_To N) EnvOK.nil) Try.func50 (by kernel_rfl) (den_folkmootlaw12_ToAll N)
theorem ok_folkmootlaw15_To (N : Nat) : CallOK Try.prog 25 (S_folkmootlaw15_To N) := fd_use (fd := fd_folkmootlaw15_To) (Γ := G_folkmootlaw15_To N) (pu := true) (rk := .glob) hmix (EnvOK.cons (ok_folkmootlaw5_To N) (EnvOK.cons (ok_folkmootlaw12_ToAll N) EnvOK.nil)) Try.func25 (by kernel_rfl) (den_folkmootlaw15_To N)
theorem ok_folkmootlaw16_ToVote (N : Nat) : CallOK Try.prog 27 (S_folkmootlaw16_ToVote N) := fd_use (fd := fd_folkmootlaw16_ToVote) (Γ := G_folkmootlaw16_ToVote N) (pu := true) (rk := .glob) hmix (EnvOK.cons (ok_folkmootlaw5_To N) EnvOK.nil) Try.func27 (by kernel_rfl) (den_folkmootlaw16_ToVote N)
theorem ok_folkmootlaw16_ToVotes (N : Nat) : CallOK Try.prog 69 (S_folkmootlaw16_ToVotes N) := fd_use (fd := fd_folkmootlaw16_ToVotes) (Γ := G_folkmootlaw16_ToVotes N) (pu := true) (rk := .glob) hmix (EnvOK.cons (ok_folkmootlaw16_ToVote N) EnvOK.nil) Try.func69 (by kernel_rfl) (den_folkmootlaw16_ToVotes N)
theorem ok_folkmootlaw16_ToQC (N : Nat) : CallOK Try.prog 51 (S_folkmootlaw16_ToQC N) := fd_use (fd := fd_folkmootlaw16_ToQC) (Γ := G_folkmootlaw16_ToQC N) (pu := true) (rk := .glob) hmix (EnvOK.cons (ok_folkmootlaw16_ToVotes N) EnvOK.nil) Try.func51 (by kernel_rfl) (den_folkmootlaw16_ToQC N)
theorem ok_folkmootlaw15_ToAll (N : Nat) : CallOK Try.prog 52 (S_folkmootlaw15_ToAll N) := fd_use (fd := fd_folkmootlaw15_ToAll) (Γ := G_folkmootlaw15_ToAll N) (pu := true) (rk := .glob) hmix (EnvOK.cons (ok_folkmootlaw15_To N) EnvOK.nil) Try.func52 (by kernel_rfl) (den_folkmootlaw15_ToAll N)
theorem ok_folkmootlaw16_To (N : Nat) : CallOK Try.prog 26 (S_folkmootlaw16_To N) := fd_use (fd := fd_folkmootlaw16_To) (Γ := G_folkmootlaw16_To N) (pu := true) (rk := .glob) hmix (EnvOK.cons (ok_folkmootlaw16_ToQC N) (EnvOK.cons (ok_folkmootlaw15_ToAll N) EnvOK.nil)) Try.func26 (by kernel_rfl) (den_folkmootlaw16_To N)
theorem ok_folkmootlaw19_To (N : Nat) : CallOK Try.prog 28 (S_folkmootlaw19_To N) := fd_use (fd := fd_folkmootlaw19_To) (Γ := G_folkmootlaw19_To N) (pu := true) (rk := .glob) hmix (EnvOK.cons (ok_folkmootlaw5_To N) (EnvOK.cons (ok_folkmootlaw16_ToQC N) EnvOK.nil)) Try.func28 (by kernel_rfl) (den_folkmootlaw19_To N)
theorem ok_folkmootlaw22_To (N : Nat) : CallOK Try.prog 6 (S_folkmootlaw22_To N) := fd_use (fd := fd_folkmootlaw22_To) (Γ := G_folkmootlaw22_To N) (pu := true) (rk := .glob) hmix (EnvOK.cons (ok_folkmootlaw9_To N) (EnvOK.cons (ok_folkmootlaw11_To N) (EnvOK.cons (ok_folkmootlaw12_To N) (EnvOK.cons (ok_folkmootlaw14_To N) (EnvOK.cons (ok_folkmootlaw15_To N) (EnvOK.cons (ok_folkmootlaw16_To N) (EnvOK.cons (ok_folkmootlaw16_ToVote N) (EnvOK.cons (ok_folkmootlaw19_To N) EnvOK.nil)))))))) Try.func6 (by kernel_rfl) (den_folkmootlaw22_To N)
theorem ok_folkmootref28_CheckMsg (N : Nat) : CallOK Try.prog 8 (S_folkmootref28_CheckMsg N) := fd_use (fd := fd_folkmootref28_CheckMsg) (Γ := G_folkmootref28_CheckMsg N) (pu := true) (rk := .glob) hmix EnvOK.nil Try.func8 (by kernel_rfl) (den_folkmootref28_CheckMsg N)
theorem ok_folkmootref6_SameSig (N : Nat) : CallOK Try.prog 40 (S_folkmootref6_SameSig N) := fd_use (fd := fd_folkmootref6_SameSig) (Γ := G_folkmootref6_SameSig N) (pu := true) (rk := .glob) hmix EnvOK.nil Try.func40 (by kernel_rfl) (den_folkmootref6_SameSig N)
theorem ok_folkmootref15_SameStamp (N : Nat) : CallOK Try.prog 38 (S_folkmootref15_SameStamp N) := fd_use (fd := fd_folkmootref15_SameStamp) (Γ := G_folkmootref15_SameStamp N) (pu := true) (rk := .glob) hmix (EnvOK.cons (ok_folkmootref6_SameSig N) EnvOK.nil) Try.func38 (by kernel_rfl) (den_folkmootref15_SameStamp N)
theorem ok_folkmootref15_SameCert (N : Nat) : CallOK Try.prog 39 (S_folkmootref15_SameCert N) := fd_use (fd := fd_folkmootref15_SameCert) (Γ := G_folkmootref15_SameCert N) (pu := true) (rk := .glob) hmix (EnvOK.cons (ok_folkmootref15_SameStamp N) EnvOK.nil) Try.func39 (by kernel_rfl) (den_folkmootref15_SameCert N)
theorem ok_folkmootref15_SameReport (N : Nat) : CallOK Try.prog 41 (S_folkmootref15_SameReport N) := fd_use (fd := fd_folkmootref15_SameReport) (Γ := G_folkmootref15_SameReport N) (pu := true) (rk := .glob) hmix (EnvOK.cons (ok_folkmootref15_SameCert N) (EnvOK.cons (ok_folkmootref6_SameSig N) EnvOK.nil)) Try.func41 (by kernel_rfl) (den_folkmootref15_SameReport N)
theorem ok_folkmootref21_SameVote (N : Nat) : CallOK Try.prog 42 (S_folkmootref21_SameVote N) := fd_use (fd := fd_folkmootref21_SameVote) (Γ := G_folkmootref21_SameVote N) (pu := true) (rk := .glob) hmix (EnvOK.cons (ok_folkmootref6_SameSig N) EnvOK.nil) Try.func42 (by kernel_rfl) (den_folkmootref21_SameVote N)
theorem ok_folkmootref21_SameQC (N : Nat) : CallOK Try.prog 45 (S_folkmootref21_SameQC N) := fd_use (fd := fd_folkmootref21_SameQC) (Γ := G_folkmootref21_SameQC N) (pu := true) (rk := .glob) hmix (EnvOK.cons (ok_folkmootref21_SameVote N) EnvOK.nil) Try.func45 (by kernel_rfl) (den_folkmootref21_SameQC N)
theorem ok_folkmootref21_Same (N : Nat) : CallOK Try.prog 14 (S_folkmootref21_Same N) := fd_use (fd := fd_folkmootref21_Same) (Γ := G_folkmootref21_Same N) (pu := true) (rk := .glob) hmix (EnvOK.cons (ok_folkmootref15_SameReport N) (EnvOK.cons (ok_folkmootref21_SameQC N) EnvOK.nil)) Try.func14 (by kernel_rfl) (den_folkmootref21_Same N)
theorem ok_folkmootref21_SameView (N : Nat) : CallOK Try.prog 43 (S_folkmootref21_SameView N) := fd_use (fd := fd_folkmootref21_SameView) (Γ := G_folkmootref21_SameView N) (pu := true) (rk := .glob) hmix (EnvOK.cons (ok_folkmootref6_SameSig N) (EnvOK.cons (ok_folkmootref21_SameQC N) EnvOK.nil)) Try.func43 (by kernel_rfl) (den_folkmootref21_SameView N)
theorem ok_folkmootref28_SameMsg (N : Nat) : CallOK Try.prog 10 (S_folkmootref28_SameMsg N) := fd_use (fd := fd_folkmootref28_SameMsg) (Γ := G_folkmootref28_SameMsg N) (pu := true) (rk := .glob) hmix (EnvOK.cons (ok_folkmootref21_Same N) (EnvOK.cons (ok_folkmootref15_SameStamp N) (EnvOK.cons (ok_folkmootref15_SameCert N) (EnvOK.cons (ok_folkmootref6_SameSig N) (EnvOK.cons (ok_folkmootref15_SameReport N) (EnvOK.cons (ok_folkmootref21_SameVote N) (EnvOK.cons (ok_folkmootref21_SameView N) EnvOK.nil))))))) Try.func10 (by kernel_rfl) (den_folkmootref28_SameMsg N)
theorem ok_folkmootlaw9_Of (N : Nat) : CallOK Try.prog 59 (S_folkmootlaw9_Of N) := fd_use (fd := fd_folkmootlaw9_Of) (Γ := G_folkmootlaw9_Of N) (pu := true) (rk := .glob) hmix EnvOK.nil Try.func59 (by kernel_rfl) (den_folkmootlaw9_Of N)
theorem ok_folkmootlaw3_Of (N : Nat) : CallOK Try.prog 79 (S_folkmootlaw3_Of N) := fd_use (fd := fd_folkmootlaw3_Of) (Γ := G_folkmootlaw3_Of N) (pu := true) (rk := .glob) hmix EnvOK.nil Try.func79 (by kernel_rfl) (den_folkmootlaw3_Of N)
theorem ok_folkmootlaw4_Of (N : Nat) : CallOK Try.prog 80 (S_folkmootlaw4_Of N) := fd_use (fd := fd_folkmootlaw4_Of) (Γ := G_folkmootlaw4_Of N) (pu := true) (rk := .glob) hmix EnvOK.nil Try.func80 (by kernel_rfl) (den_folkmootlaw4_Of N)
theorem ok_folkmootlaw5_Of (N : Nat) : CallOK Try.prog 73 (S_folkmootlaw5_Of N) := fd_use (fd := fd_folkmootlaw5_Of) (Γ := G_folkmootlaw5_Of N) (pu := true) (rk := .glob) hmix (EnvOK.cons (ok_folkmootlaw3_Of N) (EnvOK.cons (ok_folkmootlaw4_Of N) EnvOK.nil)) Try.func73 (by kernel_rfl) (den_folkmootlaw5_Of N)
theorem ok_folkmootlaw11_Of (N : Nat) : CallOK Try.prog 60 (S_folkmootlaw11_Of N) := fd_use (fd := fd_folkmootlaw11_Of) (Γ := G_folkmootlaw11_Of N) (pu := true) (rk := .glob) hmix (EnvOK.cons (ok_folkmootlaw5_Of N) EnvOK.nil) Try.func60 (by kernel_rfl) (den_folkmootlaw11_Of N)
theorem ok_folkmootlaw11_OfAll (N : Nat) : CallOK Try.prog 74 (S_folkmootlaw11_OfAll N) := fd_use (fd := fd_folkmootlaw11_OfAll) (Γ := G_folkmootlaw11_OfAll N) (pu := true) (rk := .glob) hmix (EnvOK.cons (ok_folkmootlaw11_Of N) EnvOK.nil) Try.func74 (by kernel_rfl) (den_folkmootlaw11_OfAll N)
theorem ok_folkmootlaw12_Of (N : Nat) : CallOK Try.prog 61 (S_folkmootlaw12_Of N) := fd_use (fd := fd_folkmootlaw12_Of) (Γ := G_folkmootlaw12_Of N) (pu := true) (rk := .glob) hmix (EnvOK.cons (ok_folkmootlaw9_Of N) (EnvOK.cons (ok_folkmootlaw11_OfAll N) EnvOK.nil)) Try.func61 (by kernel_rfl) (den_folkmootlaw12_Of N)
theorem ok_folkmootlaw14_Of (N : Nat) : CallOK Try.prog 62 (S_folkmootlaw14_Of N) := fd_use (fd := fd_folkmootlaw14_Of) (Γ := G_folkmootlaw14_Of N) (pu := true) (rk := .glob) hmix (EnvOK.cons (ok_folkmootlaw5_Of N) EnvOK.nil) Try.func62 (by kernel_rfl) (den_folkmootlaw14_Of N)
theorem ok_folkmootlaw12_OfAll (N : Nat) : CallOK Try.prog 75 (S_folkmootlaw12_OfAll N) := fd_use (fd := fd_folkmootlaw12_OfAll) (Γ := G_folkmootlaw12_OfAll N) (pu := true) (rk := .glob) hmix (EnvOK.cons (ok_folkmootlaw12_Of N) EnvOK.nil) Try.func75 (by kernel_rfl) (den_folkmootlaw12_OfAll N)
theorem ok_folkmootlaw15_Of (N : Nat) : CallOK Try.prog 63 (S_folkmootlaw15_Of N) := fd_use (fd := fd_folkmootlaw15_Of) (Γ := G_folkmootlaw15_Of N) (pu := true) (rk := .glob) hmix (EnvOK.cons (ok_folkmootlaw5_Of N) (EnvOK.cons (ok_folkmootlaw12_OfAll N) EnvOK.nil)) Try.func63 (by kernel_rfl) (den_folkmootlaw15_Of N)
theorem ok_folkmootlaw16_OfVote (N : Nat) : CallOK Try.prog 65 (S_folkmootlaw16_OfVote N) := fd_use (fd := fd_folkmootlaw16_OfVote) (Γ := G_folkmootlaw16_OfVote N) (pu := true) (rk := .glob) hmix (EnvOK.cons (ok_folkmootlaw5_Of N) EnvOK.nil) Try.func65 (by kernel_rfl) (den_folkmootlaw16_OfVote N)
theorem ok_folkmootlaw16_OfQC (N : Nat) : CallOK Try.prog 76 (S_folkmootlaw16_OfQC N) := fd_use (fd := fd_folkmootlaw16_OfQC) (Γ := G_folkmootlaw16_OfQC N) (pu := true) (rk := .glob) hmix (EnvOK.cons (ok_folkmootlaw16_OfVote N) EnvOK.nil) Try.func76 (by kernel_rfl) (den_folkmootlaw16_OfQC N)
theorem ok_folkmootlaw15_OfAll (N : Nat) : CallOK Try.prog 77 (S_folkmootlaw15_OfAll N) := fd_use (fd := fd_folkmootlaw15_OfAll) (Γ := G_folkmootlaw15_OfAll N) (pu := true) (rk := .glob) hmix (EnvOK.cons (ok_folkmootlaw15_Of N) EnvOK.nil) Try.func77 (by kernel_rfl) (den_folkmootlaw15_OfAll N)
theorem ok_folkmootlaw16_Of (N : Nat) : CallOK Try.prog 64 (S_folkmootlaw16_Of N) := fd_use (fd := fd_folkmootlaw16_Of) (Γ := G_folkmootlaw16_Of N) (pu := true) (rk := .glob) hmix (EnvOK.cons (ok_folkmootlaw16_OfQC N) (EnvOK.cons (ok_folkmootlaw15_OfAll N) EnvOK.nil)) Try.func64 (by kernel_rfl) (den_folkmootlaw16_Of N)
theorem ok_folkmootlaw19_Of (N : Nat) : CallOK Try.prog 66 (S_folkmootlaw19_Of N) := fd_use (fd := fd_folkmootlaw19_Of) (Γ := G_folkmootlaw19_Of N) (pu := true) (rk := .glob) hmix (EnvOK.cons (ok_folkmootlaw5_Of N) (EnvOK.cons (ok_folkmootlaw16_OfQC N) EnvOK.nil)) Try.func66 (by kernel_rfl) (den_folkmootlaw19_Of N)
theorem ok_folkmootlaw22_Of (N : Nat) : CallOK Try.prog 44 (S_folkmootlaw22_Of N) := fd_use (fd := fd_folkmootlaw22_Of) (Γ := G_folkmootlaw22_Of N) (pu := true) (rk := .glob) hmix (EnvOK.cons (ok_folkmootlaw9_Of N) (EnvOK.cons (ok_folkmootlaw11_Of N) (EnvOK.cons (ok_folkmootlaw12_Of N) (EnvOK.cons (ok_folkmootlaw14_Of N) (EnvOK.cons (ok_folkmootlaw15_Of N) (EnvOK.cons (ok_folkmootlaw16_Of N) (EnvOK.cons (ok_folkmootlaw16_OfVote N) (EnvOK.cons (ok_folkmootlaw19_Of N) EnvOK.nil)))))))) Try.func44 (by kernel_rfl) (den_folkmootlaw22_Of N)
theorem ok_folkmootlaw22_SameAll (N : Nat) : CallOK Try.prog 11 (S_folkmootlaw22_SameAll N) := fd_use (fd := fd_folkmootlaw22_SameAll) (Γ := G_folkmootlaw22_SameAll N) (pu := true) (rk := .glob) hmix (EnvOK.cons (ok_folkmootref28_SameMsg N) (EnvOK.cons (ok_folkmootlaw22_Of N) EnvOK.nil)) Try.func11 (by kernel_rfl) (den_folkmootlaw22_SameAll N)
theorem ok_folkmootref28_AllTo (N : Nat) : CallOK Try.prog 13 (S_folkmootref28_AllTo N) := fd_use (fd := fd_folkmootref28_AllTo) (Γ := G_folkmootref28_AllTo N) (pu := true) (rk := .glob) hmix EnvOK.nil Try.func13 (by kernel_rfl) (den_folkmootref28_AllTo N)
theorem ok_folkmootlaw22_MsgAny (N : Nat) : CallOK Try.prog 3 (S_folkmootlaw22_MsgAny N) := fd_use (fd := fd_folkmootlaw22_MsgAny) (Γ := G_folkmootlaw22_MsgAny N) (pu := true) (rk := .glob) hmix (EnvOK.cons (ok_folkmootlaw22_known N) (EnvOK.cons (ok_folkmootlaw22_Few N) (EnvOK.cons (ok_folkmootlaw22_To N) (EnvOK.cons (ok_msg_Check N) (EnvOK.cons (ok_folkmootref28_CheckMsg N) (EnvOK.cons (ok_msg_Same N) (EnvOK.cons (ok_folkmootref28_SameMsg N) (EnvOK.cons (ok_folkmootlaw22_SameAll N) (EnvOK.cons (ok_msg_All N) (EnvOK.cons (ok_folkmootref28_AllTo N) (EnvOK.cons (ok_folkmootref21_Same N) EnvOK.nil))))))))))) Try.func3 (by kernel_rfl) (den_folkmootlaw22_MsgAny N)

end Go.Proofs.DenT
end
