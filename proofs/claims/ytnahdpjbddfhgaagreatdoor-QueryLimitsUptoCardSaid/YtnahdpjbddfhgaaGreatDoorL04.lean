/- A part of the proof: the program logic AL, the walks of the functions that the law calls, what they compute. No condition of its own. -/
import Derived.Test.YtnahdpjbddfhgaaGreatDoorL03
set_option linter.unusedVariables false
set_option linter.unusedSimpArgs false
set_option linter.unusedVariables false
set_option linter.unusedSimpArgs false
namespace Go.Proofs.YtnahdpjbddfhgaaGreatDoor
open Go Go.AL
set_option maxRecDepth 100000
theorem nxt_nil (s : List UInt8) : nxt s [] = trimL 32 s := by simp [nxt]
theorem trimL_len (c : UInt8) (s : List UInt8) : (trimL c s).length ≤ s.length := (List.dropWhile_sublist _).length_le
theorem trimL_idem {c : UInt8} {s : List UInt8} : trimL c (trimL c s) = trimL c s := by
  induction s with
  | nil => rfl
  | cons x r ih =>
    by_cases h : x = c
    · subst h; rw [trimL_cons_eq]; exact ih
    · rw [trimL_cons_ne h, trimL_cons_ne h]
/-- a byte of a name -/
def isN (c : UInt8) : Bool := decide (c.toNat = 95 ∨ (97 ≤ c.toNat ∧ c.toNat ≤ 122) ∨ (48 ≤ c.toNat ∧ c.toNat ≤ 57))
theorem nm_step {t : List UInt8} {n : Nat} {x : UInt8} (hx : t[n]? = some x) (h : isN x = true) (ht : t.takeWhile isN = t.take n ++ (t.drop n).takeWhile isN) :
    t.takeWhile isN = t.take (n + 1) ++ (t.drop (n + 1)).takeWhile isN := by
  rw [ht, drop_cons hx, List.takeWhile_cons, if_pos h]
  have hn := (List.getElem?_eq_some_iff.1 hx).1
  have e : t[n] = x := by simpa [List.getElem?_eq_getElem hn] using hx
  rw [List.take_succ_eq_append_getElem hn, e]
  simp
theorem nm_end1 {t : List UInt8} {n : Nat} (ht : t.takeWhile isN = t.take n ++ (t.drop n).takeWhile isN) (h : t.length ≤ n) : t.takeWhile isN = t.take n := by
  rw [ht, List.drop_of_length_le h]; simp
theorem nm_end2 {t : List UInt8} {n : Nat} {x : UInt8} (hx : t[n]? = some x) (h : isN x = false) (ht : t.takeWhile isN = t.take n ++ (t.drop n).takeWhile isN) : t.takeWhile isN = t.take n := by
  rw [ht, drop_cons hx, List.takeWhile_cons, if_neg (by simp [h])]; simp
theorem nm_drop {t : List UInt8} {n : Nat} (hn : n ≤ t.length) (h : t.takeWhile isN = t.take n) : t.dropWhile isN = t.drop n := by
  have h1 := List.takeWhile_append_dropWhile (p := isN) (l := t)
  rw [h] at h1
  have h2 : t.take n ++ t.dropWhile isN = t.take n ++ t.drop n := by rw [h1, List.take_append_drop]
  exact List.append_cancel_left h2
/-- which of some signs comes first (1, 2, ..; 0: none) -/
def opIdx (t : List UInt8) (signs : List (List UInt8)) : Nat := match signs.findIdx? (hasPre t) with | some i => i + 1 | none => 0
def opRest (t : List UInt8) (signs : List (List UInt8)) : List UInt8 := match signs.findIdx? (hasPre t) with | some i => t.drop (signs.getD i []).length | none => t
theorem op_find {t : List UInt8} {signs : List (List UInt8)} {i : Nat} {g : List UInt8} (hg : signs[i]? = some g) (h : hasPre t g = true) (hno : ∀ j, j < i → ∀ g, signs[j]? = some g → hasPre t g = false) :
    signs.findIdx? (hasPre t) = some i := by
  have hi := (List.getElem?_eq_some_iff.1 hg).1
  have e : signs[i] = g := by simpa [List.getElem?_eq_getElem hi] using hg
  rw [List.findIdx?_eq_some_iff_getElem]
  exact ⟨hi, by rw [e]; exact h, fun j hj => by rw [hno j hj _ (List.getElem?_eq_getElem (by omega))]; simp⟩
theorem op_none {t : List UInt8} {signs : List (List UInt8)} (hno : ∀ j, j < signs.length → ∀ g, signs[j]? = some g → hasPre t g = false) : signs.findIdx? (hasPre t) = none := by
  rw [List.findIdx?_eq_none_iff]
  intro x hx
  obtain ⟨j, hj⟩ := List.mem_iff_getElem?.1 hx
  exact hno j (List.getElem?_eq_some_iff.1 hj).1 x hj
theorem op_hit {t : List UInt8} {signs : List (List UInt8)} {i : Nat} {g : List UInt8} (hg : signs[i]? = some g) (h : hasPre t g = true) (hno : ∀ j, j < i → ∀ g, signs[j]? = some g → hasPre t g = false) : opIdx t signs = i + 1 := by
  rw [opIdx, op_find hg h hno]
theorem opRest_hit {t : List UInt8} {signs : List (List UInt8)} {i : Nat} {g : List UInt8} (hg : signs[i]? = some g) (h : hasPre t g = true) (hno : ∀ j, j < i → ∀ g, signs[j]? = some g → hasPre t g = false) : opRest t signs = t.drop g.length := by
  rw [opRest, op_find hg h hno]; simp [hg]
theorem op_miss {t : List UInt8} {signs : List (List UInt8)} (hno : ∀ j, j < signs.length → ∀ g, signs[j]? = some g → hasPre t g = false) : opIdx t signs = 0 := by rw [opIdx, op_none hno]
theorem opRest_miss {t : List UInt8} {signs : List (List UInt8)} (hno : ∀ j, j < signs.length → ∀ g, signs[j]? = some g → hasPre t g = false) : opRest t signs = t := by rw [opRest, op_none hno]

theorem name_spec (p : Nat) (s : List UInt8) (bad : Bool) (σ : AHeap) (hp : σ p = some (scn s bad)) (hl : s.length ≤ 1000000) : ASpec Tryz.prog 50 [.ref p 0 0] σ fun r σ' => r = .ret (str ((trimL 32 s).takeWhile isN)) ∧ σ' = upd σ p (scn ((trimL 32 s).dropWhile isN) bad) := by
  unfold scn at hp
  refine aspec_enter (N := 77) (rs := [.tmp 2]) Tryz.func50 rfl rfl rfl rfl rfl rfl ?_
  refine awp_seq ?_
  refine awp_region ?_
  refine aops_v rfl rfl rfl (a_assign rfl rfl ?_)
  refine aops_nil ?_
  refine thenE_n ?_
  refine awp_seq ?_
  refine awp_region ?_
  refine aops_v rfl rfl rfl (a_move rfl rfl ?_)
  refine aops_call_eq rfl rfl rfl rfl cf49 rfl (next_spec p s [] bad _ hp) ?_
  rw [nxt_nil]
  refine aops_nil ?_
  refine thenE_n ?_
  refine awp_seq ?_
  refine awp_region ?_
  refine aops_v rfl rfl rfl (a_assign rfl rfl ?_)
  refine aops_nil ?_
  refine thenE_n ?_
  refine awp_seq ?_
  refine awp_block ?_
  refine awp_loop (S := Nat) (fun n => [(0, .ref p 0 0), (3, int n)]) (fun _ => upd σ p (scn (trimL 32 s) bad)) (fun n => n ≤ (trimL 32 s).length ∧ (trimL 32 s).takeWhile isN = (trimL 32 s).take n ++ ((trimL 32 s).drop n).takeWhile isN) (fun n => (trimL 32 s).length - n) ⟨0, by simp, EL, rfl⟩ ?_
  rintro n ⟨hi, ht⟩
  have hbig : (trimL 32 s).length ≤ 1000000 := by have := trimL_len 32 s; omega
  refine awp_seq ?_
  refine awp_seq ?_
  refine awp_region ?_
  refine aops_v rfl rfl rfl (a_move rfl rfl ?_)
  refine aops_v rfl rfl rfl (a_move rfl rfl ?_)
  first | refine aops_v rfl rfl rfl (a_nilCheck rfl rfl ?_) | refine aops_v rfl rfl rfl (a_nilCheck_pin rfl rfl ?_) | refine aops_v rfl rfl rfl (a_nilCheck_clo rfl rfl ?_)
  first | refine aops_v rfl rfl rfl (a_fieldAddr rfl fk57_0 rfl rfl ?_) | refine aops_v rfl rfl rfl (a_fieldAddr_pin rfl fk57_0 rfl rfl ?_)
  first | refine aops_v rfl rfl rfl (a_load_pin rfl tk9 rfl rfl ?_) | refine aops_v rfl rfl rfl (a_load rfl tk9 rfl HP rfl ?_)
  refine aops_v rfl rfl rfl (a_len_str rfl ist9 rfl ?_)
  refine aops_v rfl rfl rfl (a_int rfl rfl rfl rfl ?_)
  refine aops_v rfl rfl rfl (a_move rfl rfl ?_)
  refine aops_bool (fun h1 => ?_) (fun h1 => ?_)
  · try simp only [zz1, zz2, ne_eq, zz4, zz5, zz6, gt_iff_lt, ge_iff_le, zz9, zz0] at h1
    obtain ⟨x, hx⟩ : ∃ x, (trimL 32 s)[n]? = some x := ⟨_, List.getElem?_eq_getElem (by omega)⟩
    refine aops_yes rfl rfl rfl rfl ?_
    refine aops_v rfl rfl rfl (a_move rfl rfl ?_)
    refine aops_yes rfl rfl rfl rfl ?_
    first | refine aops_v rfl rfl rfl (a_nilCheck rfl rfl ?_) | refine aops_v rfl rfl rfl (a_nilCheck_pin rfl rfl ?_) | refine aops_v rfl rfl rfl (a_nilCheck_clo rfl rfl ?_)
    refine aops_yes rfl rfl rfl rfl ?_
    first | refine aops_v rfl rfl rfl (a_fieldAddr rfl fk57_0 rfl rfl ?_) | refine aops_v rfl rfl rfl (a_fieldAddr_pin rfl fk57_0 rfl rfl ?_)
    refine aops_yes rfl rfl rfl rfl ?_
    first | refine aops_v rfl rfl rfl (a_load_pin rfl tk9 rfl rfl ?_) | refine aops_v rfl rfl rfl (a_load rfl tk9 rfl HP rfl ?_)
    refine aops_yes rfl rfl rfl rfl ?_
    refine aops_v rfl rfl rfl (a_move rfl rfl ?_)
    refine aops_yes rfl rfl rfl rfl ?_
    refine aops_v rfl rfl rfl (a_index_str rfl ist9 rfl rfl NT (by omega) (by first | assumption | rfl) ?_)
    refine aops_yes rfl rfl rfl rfl ?_
    refine aops_v rfl rfl rfl (a_int rfl rfl rfl rfl ?_)
    refine aops_yes rfl rfl rfl rfl ?_
    refine aops_v rfl rfl rfl (a_move rfl rfl ?_)
    refine aops_bool (fun h2 => ?_) (fun h2 => ?_)
    · try simp only [zz1, zz2, ne_eq, zz4, zz5, zz6, gt_iff_lt, ge_iff_le, zz9, zz0] at h2
      refine aops_no rfl rfl rfl rfl rfl rfl ?_
      refine aops_no rfl rfl rfl rfl rfl rfl ?_
      refine aops_no rfl rfl rfl rfl rfl rfl ?_
      refine aops_no rfl rfl rfl rfl rfl rfl ?_
      refine aops_no rfl rfl rfl rfl rfl rfl ?_
      refine aops_no rfl rfl rfl rfl rfl rfl ?_
      refine aops_no rfl rfl rfl rfl rfl rfl ?_
      refine aops_no rfl rfl rfl rfl rfl rfl ?_
      refine aops_nou rfl rfl rfl rfl rfl rfl ?_
      refine aops_nou rfl rfl rfl rfl rfl rfl ?_
      refine aops_nou rfl rfl rfl rfl rfl rfl ?_
      refine aops_nou rfl rfl rfl rfl rfl rfl ?_
      refine aops_nou rfl rfl rfl rfl rfl rfl ?_
      refine aops_nou rfl rfl rfl rfl rfl rfl ?_
      refine aops_nou rfl rfl rfl rfl rfl rfl ?_
      refine aops_no rfl rfl rfl rfl rfl rfl ?_
      refine aops_yes rfl rfl rfl rfl ?_
      refine aops_v rfl rfl rfl (a_pick rfl rfl rfl ?_)
      refine aops_yes rfl rfl rfl rfl ?_
      refine aops_v rfl rfl rfl (a_move rfl rfl ?_)
      refine aops_no rfl rfl rfl rfl rfl rfl ?_
      refine aops_no rfl rfl rfl rfl rfl rfl ?_
      refine aops_no rfl rfl rfl rfl rfl rfl ?_
      refine aops_no rfl rfl rfl rfl rfl rfl ?_
      refine aops_no rfl rfl rfl rfl rfl rfl ?_
      refine aops_no rfl rfl rfl rfl rfl rfl ?_
      refine aops_no rfl rfl rfl rfl rfl rfl ?_
      refine aops_no rfl rfl rfl rfl rfl rfl ?_
      refine aops_nou rfl rfl rfl rfl rfl rfl ?_
      refine aops_nou rfl rfl rfl rfl rfl rfl ?_
      refine aops_nou rfl rfl rfl rfl rfl rfl ?_
      refine aops_nou rfl rfl rfl rfl rfl rfl ?_
      refine aops_nou rfl rfl rfl rfl rfl rfl ?_
      refine aops_nou rfl rfl rfl rfl rfl rfl ?_
      refine aops_nou rfl rfl rfl rfl rfl rfl ?_
      refine aops_no rfl rfl rfl rfl rfl rfl ?_
      refine aops_yes rfl rfl rfl rfl ?_
      refine aops_v rfl rfl rfl (a_pick rfl rfl rfl ?_)
      refine aops_v rfl rfl rfl (a_pick rfl rfl rfl ?_)
      refine aops_nil ?_
      refine thenE_n ?_
      refine awp_cond (b := true) rfl (fun _ => ?_) (fun h => Bool.noConfusion h)
      refine awp_skip ?_
      refine thenE_n ?_
      refine awp_block ?_
      refine awp_region ?_
      refine aops_v rfl rfl rfl (a_move rfl rfl ?_)
      first | refine aops_v rfl rfl rfl (a_add rfl rfl rfl (by simp only [Go.AL.lo, Go.AL.hi]; omega) ?_) | refine aops_v rfl rfl rfl (a_int rfl rfl rfl rfl ?_)
      refine aops_v rfl rfl rfl (a_assign rfl rfl ?_)
      refine aops_nil ?_
      refine blockE_n ?_
      refine thenE_n ?_
      have hxn : isN x = true := by simp [isN]; omega
      exact .done ⟨n + 1, ⟨by omega, nm_step hx hxn ht⟩, by omega, EL, rfl⟩
    · try simp only [zz1, zz2, ne_eq, zz4, zz5, zz6, gt_iff_lt, ge_iff_le, zz9, zz0] at h2
      refine aops_yes rfl rfl rfl rfl ?_
      refine aops_v rfl rfl rfl (a_move rfl rfl ?_)
      refine aops_yes rfl rfl rfl rfl ?_
      first | refine aops_v rfl rfl rfl (a_nilCheck rfl rfl ?_) | refine aops_v rfl rfl rfl (a_nilCheck_pin rfl rfl ?_) | refine aops_v rfl rfl rfl (a_nilCheck_clo rfl rfl ?_)
      refine aops_yes rfl rfl rfl rfl ?_
      first | refine aops_v rfl rfl rfl (a_fieldAddr rfl fk57_0 rfl rfl ?_) | refine aops_v rfl rfl rfl (a_fieldAddr_pin rfl fk57_0 rfl rfl ?_)
      refine aops_yes rfl rfl rfl rfl ?_
      first | refine aops_v rfl rfl rfl (a_load_pin rfl tk9 rfl rfl ?_) | refine aops_v rfl rfl rfl (a_load rfl tk9 rfl HP rfl ?_)
      refine aops_yes rfl rfl rfl rfl ?_
      refine aops_v rfl rfl rfl (a_move rfl rfl ?_)
      refine aops_yes rfl rfl rfl rfl ?_
      refine aops_v rfl rfl rfl (a_index_str rfl ist9 rfl rfl NT (by omega) (by first | assumption | rfl) ?_)
      refine aops_yes rfl rfl rfl rfl ?_
      refine aops_v rfl rfl rfl (a_int rfl rfl rfl rfl ?_)
      refine aops_yes rfl rfl rfl rfl ?_
      refine aops_v rfl rfl rfl (a_move rfl rfl ?_)
      refine aops_bool (fun h3 => ?_) (fun h3 => ?_)
      · try simp only [zz1, zz2, ne_eq, zz4, zz5, zz6, gt_iff_lt, ge_iff_le, zz9, zz0] at h3
        refine aops_yes rfl rfl rfl rfl ?_
        refine aops_v rfl rfl rfl (a_move rfl rfl ?_)
        refine aops_yes rfl rfl rfl rfl ?_
        first | refine aops_v rfl rfl rfl (a_nilCheck rfl rfl ?_) | refine aops_v rfl rfl rfl (a_nilCheck_pin rfl rfl ?_) | refine aops_v rfl rfl rfl (a_nilCheck_clo rfl rfl ?_)
        refine aops_yes rfl rfl rfl rfl ?_
        first | refine aops_v rfl rfl rfl (a_fieldAddr rfl fk57_0 rfl rfl ?_) | refine aops_v rfl rfl rfl (a_fieldAddr_pin rfl fk57_0 rfl rfl ?_)
        refine aops_yes rfl rfl rfl rfl ?_
        first | refine aops_v rfl rfl rfl (a_load_pin rfl tk9 rfl rfl ?_) | refine aops_v rfl rfl rfl (a_load rfl tk9 rfl HP rfl ?_)
        refine aops_yes rfl rfl rfl rfl ?_
        refine aops_v rfl rfl rfl (a_move rfl rfl ?_)
        refine aops_yes rfl rfl rfl rfl ?_
        refine aops_v rfl rfl rfl (a_index_str rfl ist9 rfl rfl NT (by omega) (by first | assumption | rfl) ?_)
        refine aops_yes rfl rfl rfl rfl ?_
        refine aops_v rfl rfl rfl (a_int rfl rfl rfl rfl ?_)
        refine aops_yes rfl rfl rfl rfl ?_
        refine aops_v rfl rfl rfl (a_pick rfl rfl rfl ?_)
        refine aops_yes rfl rfl rfl rfl ?_
        refine aops_v rfl rfl rfl (a_pick rfl rfl rfl ?_)
        refine aops_yes rfl rfl rfl rfl ?_
        refine aops_v rfl rfl rfl (a_move rfl rfl ?_)
        refine aops_bool (fun h4 => ?_) (fun h4 => ?_)
        · try simp only [zz1, zz2, ne_eq, zz4, zz5, zz6, gt_iff_lt, ge_iff_le, zz9, zz0] at h4
          refine aops_no rfl rfl rfl rfl rfl rfl ?_
          refine aops_no rfl rfl rfl rfl rfl rfl ?_
          refine aops_no rfl rfl rfl rfl rfl rfl ?_
          refine aops_no rfl rfl rfl rfl rfl rfl ?_
          refine aops_no rfl rfl rfl rfl rfl rfl ?_
          refine aops_no rfl rfl rfl rfl rfl rfl ?_
          refine aops_no rfl rfl rfl rfl rfl rfl ?_
          refine aops_no rfl rfl rfl rfl rfl rfl ?_
          refine aops_nou rfl rfl rfl rfl rfl rfl ?_
          refine aops_nou rfl rfl rfl rfl rfl rfl ?_
          refine aops_nou rfl rfl rfl rfl rfl rfl ?_
          refine aops_nou rfl rfl rfl rfl rfl rfl ?_
          refine aops_nou rfl rfl rfl rfl rfl rfl ?_
          refine aops_nou rfl rfl rfl rfl rfl rfl ?_
          refine aops_nou rfl rfl rfl rfl rfl rfl ?_
          refine aops_no rfl rfl rfl rfl rfl rfl ?_
          refine aops_yes rfl rfl rfl rfl ?_
          refine aops_v rfl rfl rfl (a_pick rfl rfl rfl ?_)
          refine aops_v rfl rfl rfl (a_pick rfl rfl rfl ?_)
          refine aops_nil ?_
          refine thenE_n ?_
          refine awp_cond (b := true) rfl (fun _ => ?_) (fun h => Bool.noConfusion h)
          refine awp_skip ?_
          refine thenE_n ?_
          refine awp_block ?_
          refine awp_region ?_
          refine aops_v rfl rfl rfl (a_move rfl rfl ?_)
          first | refine aops_v rfl rfl rfl (a_add rfl rfl rfl (by simp only [Go.AL.lo, Go.AL.hi]; omega) ?_) | refine aops_v rfl rfl rfl (a_int rfl rfl rfl rfl ?_)
          refine aops_v rfl rfl rfl (a_assign rfl rfl ?_)
          refine aops_nil ?_
          refine blockE_n ?_
          refine thenE_n ?_
          have hxn : isN x = true := by simp [isN]; omega
          exact .done ⟨n + 1, ⟨by omega, nm_step hx hxn ht⟩, by omega, EL, rfl⟩
        · try simp only [zz1, zz2, ne_eq, zz4, zz5, zz6, gt_iff_lt, ge_iff_le, zz9, zz0] at h4
          refine aops_yes rfl rfl rfl rfl ?_
          refine aops_v rfl rfl rfl (a_move rfl rfl ?_)
          refine aops_yes rfl rfl rfl rfl ?_
          first | refine aops_v rfl rfl rfl (a_nilCheck rfl rfl ?_) | refine aops_v rfl rfl rfl (a_nilCheck_pin rfl rfl ?_) | refine aops_v rfl rfl rfl (a_nilCheck_clo rfl rfl ?_)
          refine aops_yes rfl rfl rfl rfl ?_
          first | refine aops_v rfl rfl rfl (a_fieldAddr rfl fk57_0 rfl rfl ?_) | refine aops_v rfl rfl rfl (a_fieldAddr_pin rfl fk57_0 rfl rfl ?_)
          refine aops_yes rfl rfl rfl rfl ?_
          first | refine aops_v rfl rfl rfl (a_load_pin rfl tk9 rfl rfl ?_) | refine aops_v rfl rfl rfl (a_load rfl tk9 rfl HP rfl ?_)
          refine aops_yes rfl rfl rfl rfl ?_
          refine aops_v rfl rfl rfl (a_move rfl rfl ?_)
          refine aops_yes rfl rfl rfl rfl ?_
          refine aops_v rfl rfl rfl (a_index_str rfl ist9 rfl rfl NT (by omega) (by first | assumption | rfl) ?_)
          refine aops_yes rfl rfl rfl rfl ?_
          refine aops_v rfl rfl rfl (a_int rfl rfl rfl rfl ?_)
          refine aops_yes rfl rfl rfl rfl ?_
          refine aops_v rfl rfl rfl (a_move rfl rfl ?_)
          refine aops_bool (fun h5 => ?_) (fun h5 => ?_)
          · try simp only [zz1, zz2, ne_eq, zz4, zz5, zz6, gt_iff_lt, ge_iff_le, zz9, zz0] at h5
            refine aops_yes rfl rfl rfl rfl ?_
            refine aops_v rfl rfl rfl (a_move rfl rfl ?_)
            refine aops_yes rfl rfl rfl rfl ?_
            first | refine aops_v rfl rfl rfl (a_nilCheck rfl rfl ?_) | refine aops_v rfl rfl rfl (a_nilCheck_pin rfl rfl ?_) | refine aops_v rfl rfl rfl (a_nilCheck_clo rfl rfl ?_)
            refine aops_yes rfl rfl rfl rfl ?_
            first | refine aops_v rfl rfl rfl (a_fieldAddr rfl fk57_0 rfl rfl ?_) | refine aops_v rfl rfl rfl (a_fieldAddr_pin rfl fk57_0 rfl rfl ?_)
            refine aops_yes rfl rfl rfl rfl ?_
            first | refine aops_v rfl rfl rfl (a_load_pin rfl tk9 rfl rfl ?_) | refine aops_v rfl rfl rfl (a_load rfl tk9 rfl HP rfl ?_)
            refine aops_yes rfl rfl rfl rfl ?_
            refine aops_v rfl rfl rfl (a_move rfl rfl ?_)
            refine aops_yes rfl rfl rfl rfl ?_
            refine aops_v rfl rfl rfl (a_index_str rfl ist9 rfl rfl NT (by omega) (by first | assumption | rfl) ?_)
            refine aops_yes rfl rfl rfl rfl ?_
            refine aops_v rfl rfl rfl (a_int rfl rfl rfl rfl ?_)
            refine aops_yes rfl rfl rfl rfl ?_
            refine aops_v rfl rfl rfl (a_pick rfl rfl rfl ?_)
            refine aops_yes rfl rfl rfl rfl ?_
            refine aops_v rfl rfl rfl (a_pick rfl rfl rfl ?_)
            refine aops_v rfl rfl rfl (a_pick rfl rfl rfl ?_)
            refine aops_nil ?_
            refine thenE_n ?_
            refine awp_cond rfl (fun h6 => ?_) (fun h6 => ?_)
            · try simp only [zz1, zz2, ne_eq, zz4, zz5, zz6, gt_iff_lt, ge_iff_le, zz9, zz0] at h6
              refine awp_skip ?_
              refine thenE_n ?_
              refine awp_block ?_
              refine awp_region ?_
              refine aops_v rfl rfl rfl (a_move rfl rfl ?_)
              first | refine aops_v rfl rfl rfl (a_add rfl rfl rfl (by simp only [Go.AL.lo, Go.AL.hi]; omega) ?_) | refine aops_v rfl rfl rfl (a_int rfl rfl rfl rfl ?_)
              refine aops_v rfl rfl rfl (a_assign rfl rfl ?_)
              refine aops_nil ?_
              refine blockE_n ?_
              refine thenE_n ?_
              have hxn : isN x = true := by simp [isN]; omega
              exact .done ⟨n + 1, ⟨by omega, nm_step hx hxn ht⟩, by omega, EL, rfl⟩
            · try simp only [zz1, zz2, ne_eq, zz4, zz5, zz6, gt_iff_lt, ge_iff_le, zz9, zz0] at h6
              refine awp_exit ?_
              refine thenE_x ?_
              refine thenE_x ?_
              refine blockE_x ?_
              refine thenE_n ?_
              refine awp_seq ?_
              have hn : (trimL 32 s).takeWhile isN = (trimL 32 s).take n := by first | exact nm_end1 ht (by omega) | exact nm_end2 hx (by simp [isN]; omega) ht
              have hd : (trimL 32 s).dropWhile isN = (trimL 32 s).drop n := nm_drop hi hn
              refine awp_region ?_
              refine aops_v rfl rfl rfl (a_move rfl rfl ?_)
              first | refine aops_v rfl rfl rfl (a_nilCheck rfl rfl ?_) | refine aops_v rfl rfl rfl (a_nilCheck_pin rfl rfl ?_) | refine aops_v rfl rfl rfl (a_nilCheck_clo rfl rfl ?_)
              first | refine aops_v rfl rfl rfl (a_fieldAddr rfl fk57_0 rfl rfl ?_) | refine aops_v rfl rfl rfl (a_fieldAddr_pin rfl fk57_0 rfl rfl ?_)
              first | refine aops_v rfl rfl rfl (a_load_pin rfl tk9 rfl rfl ?_) | refine aops_v rfl rfl rfl (a_load rfl tk9 rfl HP rfl ?_)
              refine aops_v rfl rfl rfl (a_move rfl rfl ?_)
              refine aops_v rfl rfl rfl (a_slice_take rfl ist9 rfl rfl NT (by omega) (by omega) ?_)
              refine aops_v rfl rfl rfl (a_assign rfl rfl ?_)
              refine aops_nil ?_
              refine thenE_n ?_
              refine awp_seq ?_
              refine awp_region ?_
              refine aops_v rfl rfl rfl (a_move rfl rfl ?_)
              refine aops_v rfl rfl rfl (a_move rfl rfl ?_)
              first | refine aops_v rfl rfl rfl (a_nilCheck rfl rfl ?_) | refine aops_v rfl rfl rfl (a_nilCheck_pin rfl rfl ?_) | refine aops_v rfl rfl rfl (a_nilCheck_clo rfl rfl ?_)
              first | refine aops_v rfl rfl rfl (a_fieldAddr rfl fk57_0 rfl rfl ?_) | refine aops_v rfl rfl rfl (a_fieldAddr_pin rfl fk57_0 rfl rfl ?_)
              first | refine aops_v rfl rfl rfl (a_load_pin rfl tk9 rfl rfl ?_) | refine aops_v rfl rfl rfl (a_load rfl tk9 rfl HP rfl ?_)
              refine aops_v rfl rfl rfl (a_move rfl rfl ?_)
              refine aops_v rfl rfl rfl (a_slice_drop rfl ist9 rfl rfl NT (by omega) (by omega) ?_)
              first | refine aops_v rfl rfl rfl (a_nilCheck rfl rfl ?_) | refine aops_v rfl rfl rfl (a_nilCheck_pin rfl rfl ?_) | refine aops_v rfl rfl rfl (a_nilCheck_clo rfl rfl ?_)
              first | refine aops_v rfl rfl rfl (a_fieldAddr rfl fk57_0 rfl rfl ?_) | refine aops_v rfl rfl rfl (a_fieldAddr_pin rfl fk57_0 rfl rfl ?_)
              first | refine aops_s rfl rfl (a_store_n (cs2 := [_, _]) rfl tk9 rfl rfl HP rfl rfl (by first | decide | (simp; done) | (simp; omega)) rfl ?_) | refine aops_s rfl rfl (a_store rfl tk9 rfl rfl HP rfl rfl (by first | decide | (simp [stv, AV.cells]; done) | (simp [stv, AV.cells]; omega)) ?_)
              refine aops_nil ?_
              refine thenE_n ?_
              refine awp_seq ?_
              refine awp_region ?_
              refine aops_v rfl rfl rfl (a_move rfl rfl ?_)
              refine aops_v rfl rfl rfl (a_assign rfl rfl ?_)
              refine aops_nil ?_
              refine thenE_n ?_
              refine awp_ret ?_
              change Gst _ _ _ _
              refine fin1 rfl ?_
              exact ⟨by rw [hn], by simp only [upd_upd, hd]; rfl⟩
          · try simp only [zz1, zz2, ne_eq, zz4, zz5, zz6, gt_iff_lt, ge_iff_le, zz9, zz0] at h5
            refine aops_no rfl rfl rfl rfl rfl rfl ?_
            refine aops_no rfl rfl rfl rfl rfl rfl ?_
            refine aops_no rfl rfl rfl rfl rfl rfl ?_
            refine aops_no rfl rfl rfl rfl rfl rfl ?_
            refine aops_no rfl rfl rfl rfl rfl rfl ?_
            refine aops_no rfl rfl rfl rfl rfl rfl ?_
            refine aops_no rfl rfl rfl rfl rfl rfl ?_
            refine aops_yes rfl rfl rfl rfl ?_
            refine aops_v rfl rfl rfl (a_pick rfl rfl rfl ?_)
            refine aops_yes rfl rfl rfl rfl ?_
            refine aops_v rfl rfl rfl (a_pick rfl rfl rfl ?_)
            refine aops_v rfl rfl rfl (a_pick rfl rfl rfl ?_)
            refine aops_nil ?_
            refine thenE_n ?_
            refine awp_cond (b := false) rfl (fun h => Bool.noConfusion h) (fun _ => ?_)
            refine awp_exit ?_
            refine thenE_x ?_
            refine thenE_x ?_
            refine blockE_x ?_
            refine thenE_n ?_
            refine awp_seq ?_
            have hn : (trimL 32 s).takeWhile isN = (trimL 32 s).take n := by first | exact nm_end1 ht (by omega) | exact nm_end2 hx (by simp [isN]; omega) ht
            have hd : (trimL 32 s).dropWhile isN = (trimL 32 s).drop n := nm_drop hi hn
            refine awp_region ?_
            refine aops_v rfl rfl rfl (a_move rfl rfl ?_)
            first | refine aops_v rfl rfl rfl (a_nilCheck rfl rfl ?_) | refine aops_v rfl rfl rfl (a_nilCheck_pin rfl rfl ?_) | refine aops_v rfl rfl rfl (a_nilCheck_clo rfl rfl ?_)
            first | refine aops_v rfl rfl rfl (a_fieldAddr rfl fk57_0 rfl rfl ?_) | refine aops_v rfl rfl rfl (a_fieldAddr_pin rfl fk57_0 rfl rfl ?_)
            first | refine aops_v rfl rfl rfl (a_load_pin rfl tk9 rfl rfl ?_) | refine aops_v rfl rfl rfl (a_load rfl tk9 rfl HP rfl ?_)
            refine aops_v rfl rfl rfl (a_move rfl rfl ?_)
            refine aops_v rfl rfl rfl (a_slice_take rfl ist9 rfl rfl NT (by omega) (by omega) ?_)
            refine aops_v rfl rfl rfl (a_assign rfl rfl ?_)
            refine aops_nil ?_
            refine thenE_n ?_
            refine awp_seq ?_
            refine awp_region ?_
            refine aops_v rfl rfl rfl (a_move rfl rfl ?_)
            refine aops_v rfl rfl rfl (a_move rfl rfl ?_)
            first | refine aops_v rfl rfl rfl (a_nilCheck rfl rfl ?_) | refine aops_v rfl rfl rfl (a_nilCheck_pin rfl rfl ?_) | refine aops_v rfl rfl rfl (a_nilCheck_clo rfl rfl ?_)
            first | refine aops_v rfl rfl rfl (a_fieldAddr rfl fk57_0 rfl rfl ?_) | refine aops_v rfl rfl rfl (a_fieldAddr_pin rfl fk57_0 rfl rfl ?_)
            first | refine aops_v rfl rfl rfl (a_load_pin rfl tk9 rfl rfl ?_) | refine aops_v rfl rfl rfl (a_load rfl tk9 rfl HP rfl ?_)
            refine aops_v rfl rfl rfl (a_move rfl rfl ?_)
            refine aops_v rfl rfl rfl (a_slice_drop rfl ist9 rfl rfl NT (by omega) (by omega) ?_)
            first | refine aops_v rfl rfl rfl (a_nilCheck rfl rfl ?_) | refine aops_v rfl rfl rfl (a_nilCheck_pin rfl rfl ?_) | refine aops_v rfl rfl rfl (a_nilCheck_clo rfl rfl ?_)
            first | refine aops_v rfl rfl rfl (a_fieldAddr rfl fk57_0 rfl rfl ?_) | refine aops_v rfl rfl rfl (a_fieldAddr_pin rfl fk57_0 rfl rfl ?_)
            first | refine aops_s rfl rfl (a_store_n (cs2 := [_, _]) rfl tk9 rfl rfl HP rfl rfl (by first | decide | (simp; done) | (simp; omega)) rfl ?_) | refine aops_s rfl rfl (a_store rfl tk9 rfl rfl HP rfl rfl (by first | decide | (simp [stv, AV.cells]; done) | (simp [stv, AV.cells]; omega)) ?_)
            refine aops_nil ?_
            refine thenE_n ?_
            refine awp_seq ?_
            refine awp_region ?_
            refine aops_v rfl rfl rfl (a_move rfl rfl ?_)
            refine aops_v rfl rfl rfl (a_assign rfl rfl ?_)
            refine aops_nil ?_
            refine thenE_n ?_
            refine awp_ret ?_
            change Gst _ _ _ _
            refine fin1 rfl ?_
            exact ⟨by rw [hn], by simp only [upd_upd, hd]; rfl⟩
      · try simp only [zz1, zz2, ne_eq, zz4, zz5, zz6, gt_iff_lt, ge_iff_le, zz9, zz0] at h3
        refine aops_no rfl rfl rfl rfl rfl rfl ?_
        refine aops_no rfl rfl rfl rfl rfl rfl ?_
        refine aops_no rfl rfl rfl rfl rfl rfl ?_
        refine aops_no rfl rfl rfl rfl rfl rfl ?_
        refine aops_no rfl rfl rfl rfl rfl rfl ?_
        refine aops_no rfl rfl rfl rfl rfl rfl ?_
        refine aops_no rfl rfl rfl rfl rfl rfl ?_
        refine aops_yes rfl rfl rfl rfl ?_
        refine aops_v rfl rfl rfl (a_pick rfl rfl rfl ?_)
        refine aops_yes rfl rfl rfl rfl ?_
        refine aops_v rfl rfl rfl (a_pick rfl rfl rfl ?_)
        refine aops_yes rfl rfl rfl rfl ?_
        refine aops_v rfl rfl rfl (a_move rfl rfl ?_)
        refine aops_yes rfl rfl rfl rfl ?_
        refine aops_v rfl rfl rfl (a_move rfl rfl ?_)
        refine aops_yes rfl rfl rfl rfl ?_
        first | refine aops_v rfl rfl rfl (a_nilCheck rfl rfl ?_) | refine aops_v rfl rfl rfl (a_nilCheck_pin rfl rfl ?_) | refine aops_v rfl rfl rfl (a_nilCheck_clo rfl rfl ?_)
        refine aops_yes rfl rfl rfl rfl ?_
        first | refine aops_v rfl rfl rfl (a_fieldAddr rfl fk57_0 rfl rfl ?_) | refine aops_v rfl rfl rfl (a_fieldAddr_pin rfl fk57_0 rfl rfl ?_)
        refine aops_yes rfl rfl rfl rfl ?_
        first | refine aops_v rfl rfl rfl (a_load_pin rfl tk9 rfl rfl ?_) | refine aops_v rfl rfl rfl (a_load rfl tk9 rfl HP rfl ?_)
        refine aops_yes rfl rfl rfl rfl ?_
        refine aops_v rfl rfl rfl (a_move rfl rfl ?_)
        refine aops_yes rfl rfl rfl rfl ?_
        refine aops_v rfl rfl rfl (a_index_str rfl ist9 rfl rfl NT (by omega) (by first | assumption | rfl) ?_)
        refine aops_yes rfl rfl rfl rfl ?_
        refine aops_v rfl rfl rfl (a_int rfl rfl rfl rfl ?_)
        refine aops_yes rfl rfl rfl rfl ?_
        refine aops_v rfl rfl rfl (a_move rfl rfl ?_)
        refine aops_bool (fun h7 => ?_) (fun h7 => ?_)
        · try simp only [zz1, zz2, ne_eq, zz4, zz5, zz6, gt_iff_lt, ge_iff_le, zz9, zz0] at h7
          refine aops_yes rfl rfl rfl rfl ?_
          refine aops_v rfl rfl rfl (a_move rfl rfl ?_)
          refine aops_yes rfl rfl rfl rfl ?_
          first | refine aops_v rfl rfl rfl (a_nilCheck rfl rfl ?_) | refine aops_v rfl rfl rfl (a_nilCheck_pin rfl rfl ?_) | refine aops_v rfl rfl rfl (a_nilCheck_clo rfl rfl ?_)
          refine aops_yes rfl rfl rfl rfl ?_
          first | refine aops_v rfl rfl rfl (a_fieldAddr rfl fk57_0 rfl rfl ?_) | refine aops_v rfl rfl rfl (a_fieldAddr_pin rfl fk57_0 rfl rfl ?_)
          refine aops_yes rfl rfl rfl rfl ?_
          first | refine aops_v rfl rfl rfl (a_load_pin rfl tk9 rfl rfl ?_) | refine aops_v rfl rfl rfl (a_load rfl tk9 rfl HP rfl ?_)
          refine aops_yes rfl rfl rfl rfl ?_
          refine aops_v rfl rfl rfl (a_move rfl rfl ?_)
          refine aops_yes rfl rfl rfl rfl ?_
          refine aops_v rfl rfl rfl (a_index_str rfl ist9 rfl rfl NT (by omega) (by first | assumption | rfl) ?_)
          refine aops_yes rfl rfl rfl rfl ?_
          refine aops_v rfl rfl rfl (a_int rfl rfl rfl rfl ?_)
          refine aops_yes rfl rfl rfl rfl ?_
          refine aops_v rfl rfl rfl (a_pick rfl rfl rfl ?_)
          refine aops_yes rfl rfl rfl rfl ?_
          refine aops_v rfl rfl rfl (a_pick rfl rfl rfl ?_)
          refine aops_v rfl rfl rfl (a_pick rfl rfl rfl ?_)
          refine aops_nil ?_
          refine thenE_n ?_
          refine awp_cond rfl (fun h8 => ?_) (fun h8 => ?_)
          · try simp only [zz1, zz2, ne_eq, zz4, zz5, zz6, gt_iff_lt, ge_iff_le, zz9, zz0] at h8
            refine awp_skip ?_
            refine thenE_n ?_
            refine awp_block ?_
            refine awp_region ?_
            refine aops_v rfl rfl rfl (a_move rfl rfl ?_)
            first | refine aops_v rfl rfl rfl (a_add rfl rfl rfl (by simp only [Go.AL.lo, Go.AL.hi]; omega) ?_) | refine aops_v rfl rfl rfl (a_int rfl rfl rfl rfl ?_)
            refine aops_v rfl rfl rfl (a_assign rfl rfl ?_)
            refine aops_nil ?_
            refine blockE_n ?_
            refine thenE_n ?_
            have hxn : isN x = true := by simp [isN]; omega
            exact .done ⟨n + 1, ⟨by omega, nm_step hx hxn ht⟩, by omega, EL, rfl⟩
          · try simp only [zz1, zz2, ne_eq, zz4, zz5, zz6, gt_iff_lt, ge_iff_le, zz9, zz0] at h8
            refine awp_exit ?_
            refine thenE_x ?_
            refine thenE_x ?_
            refine blockE_x ?_
            refine thenE_n ?_
            refine awp_seq ?_
            have hn : (trimL 32 s).takeWhile isN = (trimL 32 s).take n := by first | exact nm_end1 ht (by omega) | exact nm_end2 hx (by simp [isN]; omega) ht
            have hd : (trimL 32 s).dropWhile isN = (trimL 32 s).drop n := nm_drop hi hn
            refine awp_region ?_
            refine aops_v rfl rfl rfl (a_move rfl rfl ?_)
            first | refine aops_v rfl rfl rfl (a_nilCheck rfl rfl ?_) | refine aops_v rfl rfl rfl (a_nilCheck_pin rfl rfl ?_) | refine aops_v rfl rfl rfl (a_nilCheck_clo rfl rfl ?_)
            first | refine aops_v rfl rfl rfl (a_fieldAddr rfl fk57_0 rfl rfl ?_) | refine aops_v rfl rfl rfl (a_fieldAddr_pin rfl fk57_0 rfl rfl ?_)
            first | refine aops_v rfl rfl rfl (a_load_pin rfl tk9 rfl rfl ?_) | refine aops_v rfl rfl rfl (a_load rfl tk9 rfl HP rfl ?_)
            refine aops_v rfl rfl rfl (a_move rfl rfl ?_)
            refine aops_v rfl rfl rfl (a_slice_take rfl ist9 rfl rfl NT (by omega) (by omega) ?_)
            refine aops_v rfl rfl rfl (a_assign rfl rfl ?_)
            refine aops_nil ?_
            refine thenE_n ?_
            refine awp_seq ?_
            refine awp_region ?_
            refine aops_v rfl rfl rfl (a_move rfl rfl ?_)
            refine aops_v rfl rfl rfl (a_move rfl rfl ?_)
            first | refine aops_v rfl rfl rfl (a_nilCheck rfl rfl ?_) | refine aops_v rfl rfl rfl (a_nilCheck_pin rfl rfl ?_) | refine aops_v rfl rfl rfl (a_nilCheck_clo rfl rfl ?_)
            first | refine aops_v rfl rfl rfl (a_fieldAddr rfl fk57_0 rfl rfl ?_) | refine aops_v rfl rfl rfl (a_fieldAddr_pin rfl fk57_0 rfl rfl ?_)
            first | refine aops_v rfl rfl rfl (a_load_pin rfl tk9 rfl rfl ?_) | refine aops_v rfl rfl rfl (a_load rfl tk9 rfl HP rfl ?_)
            refine aops_v rfl rfl rfl (a_move rfl rfl ?_)
            refine aops_v rfl rfl rfl (a_slice_drop rfl ist9 rfl rfl NT (by omega) (by omega) ?_)
            first | refine aops_v rfl rfl rfl (a_nilCheck rfl rfl ?_) | refine aops_v rfl rfl rfl (a_nilCheck_pin rfl rfl ?_) | refine aops_v rfl rfl rfl (a_nilCheck_clo rfl rfl ?_)
            first | refine aops_v rfl rfl rfl (a_fieldAddr rfl fk57_0 rfl rfl ?_) | refine aops_v rfl rfl rfl (a_fieldAddr_pin rfl fk57_0 rfl rfl ?_)
            first | refine aops_s rfl rfl (a_store_n (cs2 := [_, _]) rfl tk9 rfl rfl HP rfl rfl (by first | decide | (simp; done) | (simp; omega)) rfl ?_) | refine aops_s rfl rfl (a_store rfl tk9 rfl rfl HP rfl rfl (by first | decide | (simp [stv, AV.cells]; done) | (simp [stv, AV.cells]; omega)) ?_)
            refine aops_nil ?_
            refine thenE_n ?_
            refine awp_seq ?_
            refine awp_region ?_
            refine aops_v rfl rfl rfl (a_move rfl rfl ?_)
            refine aops_v rfl rfl rfl (a_assign rfl rfl ?_)
            refine aops_nil ?_
            refine thenE_n ?_
            refine awp_ret ?_
            change Gst _ _ _ _
            refine fin1 rfl ?_
            exact ⟨by rw [hn], by simp only [upd_upd, hd]; rfl⟩
        · try simp only [zz1, zz2, ne_eq, zz4, zz5, zz6, gt_iff_lt, ge_iff_le, zz9, zz0] at h7
          refine aops_no rfl rfl rfl rfl rfl rfl ?_
          refine aops_no rfl rfl rfl rfl rfl rfl ?_
          refine aops_no rfl rfl rfl rfl rfl rfl ?_
          refine aops_no rfl rfl rfl rfl rfl rfl ?_
          refine aops_no rfl rfl rfl rfl rfl rfl ?_
          refine aops_no rfl rfl rfl rfl rfl rfl ?_
          refine aops_no rfl rfl rfl rfl rfl rfl ?_
          refine aops_yes rfl rfl rfl rfl ?_
          refine aops_v rfl rfl rfl (a_pick rfl rfl rfl ?_)
          refine aops_yes rfl rfl rfl rfl ?_
          refine aops_v rfl rfl rfl (a_pick rfl rfl rfl ?_)
          refine aops_v rfl rfl rfl (a_pick rfl rfl rfl ?_)
          refine aops_nil ?_
          refine thenE_n ?_
          refine awp_cond (b := false) rfl (fun h => Bool.noConfusion h) (fun _ => ?_)
          refine awp_exit ?_
          refine thenE_x ?_
          refine thenE_x ?_
          refine blockE_x ?_
          refine thenE_n ?_
          refine awp_seq ?_
          have hn : (trimL 32 s).takeWhile isN = (trimL 32 s).take n := by first | exact nm_end1 ht (by omega) | exact nm_end2 hx (by simp [isN]; omega) ht
          have hd : (trimL 32 s).dropWhile isN = (trimL 32 s).drop n := nm_drop hi hn
          refine awp_region ?_
          refine aops_v rfl rfl rfl (a_move rfl rfl ?_)
          first | refine aops_v rfl rfl rfl (a_nilCheck rfl rfl ?_) | refine aops_v rfl rfl rfl (a_nilCheck_pin rfl rfl ?_) | refine aops_v rfl rfl rfl (a_nilCheck_clo rfl rfl ?_)
          first | refine aops_v rfl rfl rfl (a_fieldAddr rfl fk57_0 rfl rfl ?_) | refine aops_v rfl rfl rfl (a_fieldAddr_pin rfl fk57_0 rfl rfl ?_)
          first | refine aops_v rfl rfl rfl (a_load_pin rfl tk9 rfl rfl ?_) | refine aops_v rfl rfl rfl (a_load rfl tk9 rfl HP rfl ?_)
          refine aops_v rfl rfl rfl (a_move rfl rfl ?_)
          refine aops_v rfl rfl rfl (a_slice_take rfl ist9 rfl rfl NT (by omega) (by omega) ?_)
          refine aops_v rfl rfl rfl (a_assign rfl rfl ?_)
          refine aops_nil ?_
          refine thenE_n ?_
          refine awp_seq ?_
          refine awp_region ?_
          refine aops_v rfl rfl rfl (a_move rfl rfl ?_)
          refine aops_v rfl rfl rfl (a_move rfl rfl ?_)
          first | refine aops_v rfl rfl rfl (a_nilCheck rfl rfl ?_) | refine aops_v rfl rfl rfl (a_nilCheck_pin rfl rfl ?_) | refine aops_v rfl rfl rfl (a_nilCheck_clo rfl rfl ?_)
          first | refine aops_v rfl rfl rfl (a_fieldAddr rfl fk57_0 rfl rfl ?_) | refine aops_v rfl rfl rfl (a_fieldAddr_pin rfl fk57_0 rfl rfl ?_)
          first | refine aops_v rfl rfl rfl (a_load_pin rfl tk9 rfl rfl ?_) | refine aops_v rfl rfl rfl (a_load rfl tk9 rfl HP rfl ?_)
          refine aops_v rfl rfl rfl (a_move rfl rfl ?_)
          refine aops_v rfl rfl rfl (a_slice_drop rfl ist9 rfl rfl NT (by omega) (by omega) ?_)
          first | refine aops_v rfl rfl rfl (a_nilCheck rfl rfl ?_) | refine aops_v rfl rfl rfl (a_nilCheck_pin rfl rfl ?_) | refine aops_v rfl rfl rfl (a_nilCheck_clo rfl rfl ?_)
          first | refine aops_v rfl rfl rfl (a_fieldAddr rfl fk57_0 rfl rfl ?_) | refine aops_v rfl rfl rfl (a_fieldAddr_pin rfl fk57_0 rfl rfl ?_)
          first | refine aops_s rfl rfl (a_store_n (cs2 := [_, _]) rfl tk9 rfl rfl HP rfl rfl (by first | decide | (simp; done) | (simp; omega)) rfl ?_) | refine aops_s rfl rfl (a_store rfl tk9 rfl rfl HP rfl rfl (by first | decide | (simp [stv, AV.cells]; done) | (simp [stv, AV.cells]; omega)) ?_)
          refine aops_nil ?_
          refine thenE_n ?_
          refine awp_seq ?_
          refine awp_region ?_
          refine aops_v rfl rfl rfl (a_move rfl rfl ?_)
          refine aops_v rfl rfl rfl (a_assign rfl rfl ?_)
          refine aops_nil ?_
          refine thenE_n ?_
          refine awp_ret ?_
          change Gst _ _ _ _
          refine fin1 rfl ?_
          exact ⟨by rw [hn], by simp only [upd_upd, hd]; rfl⟩
  · try simp only [zz1, zz2, ne_eq, zz4, zz5, zz6, gt_iff_lt, ge_iff_le, zz9, zz0] at h1
    refine aops_no rfl rfl rfl rfl rfl rfl ?_
    refine aops_no rfl rfl rfl rfl rfl rfl ?_
    refine aops_no rfl rfl rfl rfl rfl rfl ?_
    refine aops_no rfl rfl rfl rfl rfl rfl ?_
    refine aops_no rfl rfl rfl rfl rfl rfl ?_
    refine aops_no rfl rfl rfl rfl rfl rfl ?_
    refine aops_no rfl rfl rfl rfl rfl rfl ?_
    refine aops_no rfl rfl rfl rfl rfl rfl ?_
    refine aops_nou rfl rfl rfl rfl rfl rfl ?_
    refine aops_nou rfl rfl rfl rfl rfl rfl ?_
    refine aops_nou rfl rfl rfl rfl rfl rfl ?_
    refine aops_nou rfl rfl rfl rfl rfl rfl ?_
    refine aops_nou rfl rfl rfl rfl rfl rfl ?_
    refine aops_nou rfl rfl rfl rfl rfl rfl ?_
    refine aops_nou rfl rfl rfl rfl rfl rfl ?_
    refine aops_nou rfl rfl rfl rfl rfl rfl ?_
    refine aops_nou rfl rfl rfl rfl rfl rfl ?_
    refine aops_nou rfl rfl rfl rfl rfl rfl ?_
    refine aops_nou rfl rfl rfl rfl rfl rfl ?_
    refine aops_nou rfl rfl rfl rfl rfl rfl ?_
    refine aops_nou rfl rfl rfl rfl rfl rfl ?_
    refine aops_nou rfl rfl rfl rfl rfl rfl ?_
    refine aops_nou rfl rfl rfl rfl rfl rfl ?_
    refine aops_nou rfl rfl rfl rfl rfl rfl ?_
    refine aops_no rfl rfl rfl rfl rfl rfl ?_
    refine aops_no rfl rfl rfl rfl rfl rfl ?_
    refine aops_nou rfl rfl rfl rfl rfl rfl ?_
    refine aops_nou rfl rfl rfl rfl rfl rfl ?_
    refine aops_nou rfl rfl rfl rfl rfl rfl ?_
    refine aops_nou rfl rfl rfl rfl rfl rfl ?_
    refine aops_nou rfl rfl rfl rfl rfl rfl ?_
    refine aops_nou rfl rfl rfl rfl rfl rfl ?_
    refine aops_nou rfl rfl rfl rfl rfl rfl ?_
    refine aops_nou rfl rfl rfl rfl rfl rfl ?_
    refine aops_nou rfl rfl rfl rfl rfl rfl ?_
    refine aops_nou rfl rfl rfl rfl rfl rfl ?_
    refine aops_nou rfl rfl rfl rfl rfl rfl ?_
    refine aops_nou rfl rfl rfl rfl rfl rfl ?_
    refine aops_nou rfl rfl rfl rfl rfl rfl ?_
    refine aops_nou rfl rfl rfl rfl rfl rfl ?_
    refine aops_nou rfl rfl rfl rfl rfl rfl ?_
    refine aops_nou rfl rfl rfl rfl rfl rfl ?_
    refine aops_no rfl rfl rfl rfl rfl rfl ?_
    refine aops_v rfl rfl rfl (a_pick rfl rfl rfl ?_)
    refine aops_nil ?_
    refine thenE_n ?_
    refine awp_cond (b := false) rfl (fun h => Bool.noConfusion h) (fun _ => ?_)
    refine awp_exit ?_
    refine thenE_x ?_
    refine thenE_x ?_
    refine blockE_x ?_
    refine thenE_n ?_
    refine awp_seq ?_
    have hn : (trimL 32 s).takeWhile isN = (trimL 32 s).take n := by first | exact nm_end1 ht (by omega) | exact nm_end2 hx (by simp [isN]; omega) ht
    have hd : (trimL 32 s).dropWhile isN = (trimL 32 s).drop n := nm_drop hi hn
    refine awp_region ?_
    refine aops_v rfl rfl rfl (a_move rfl rfl ?_)
    first | refine aops_v rfl rfl rfl (a_nilCheck rfl rfl ?_) | refine aops_v rfl rfl rfl (a_nilCheck_pin rfl rfl ?_) | refine aops_v rfl rfl rfl (a_nilCheck_clo rfl rfl ?_)
    first | refine aops_v rfl rfl rfl (a_fieldAddr rfl fk57_0 rfl rfl ?_) | refine aops_v rfl rfl rfl (a_fieldAddr_pin rfl fk57_0 rfl rfl ?_)
    first | refine aops_v rfl rfl rfl (a_load_pin rfl tk9 rfl rfl ?_) | refine aops_v rfl rfl rfl (a_load rfl tk9 rfl HP rfl ?_)
    refine aops_v rfl rfl rfl (a_move rfl rfl ?_)
    refine aops_v rfl rfl rfl (a_slice_take rfl ist9 rfl rfl NT (by omega) (by omega) ?_)
    refine aops_v rfl rfl rfl (a_assign rfl rfl ?_)
    refine aops_nil ?_
    refine thenE_n ?_
    refine awp_seq ?_
    refine awp_region ?_
    refine aops_v rfl rfl rfl (a_move rfl rfl ?_)
    refine aops_v rfl rfl rfl (a_move rfl rfl ?_)
    first | refine aops_v rfl rfl rfl (a_nilCheck rfl rfl ?_) | refine aops_v rfl rfl rfl (a_nilCheck_pin rfl rfl ?_) | refine aops_v rfl rfl rfl (a_nilCheck_clo rfl rfl ?_)
    first | refine aops_v rfl rfl rfl (a_fieldAddr rfl fk57_0 rfl rfl ?_) | refine aops_v rfl rfl rfl (a_fieldAddr_pin rfl fk57_0 rfl rfl ?_)
    first | refine aops_v rfl rfl rfl (a_load_pin rfl tk9 rfl rfl ?_) | refine aops_v rfl rfl rfl (a_load rfl tk9 rfl HP rfl ?_)
    refine aops_v rfl rfl rfl (a_move rfl rfl ?_)
    refine aops_v rfl rfl rfl (a_slice_drop rfl ist9 rfl rfl NT (by omega) (by omega) ?_)
    first | refine aops_v rfl rfl rfl (a_nilCheck rfl rfl ?_) | refine aops_v rfl rfl rfl (a_nilCheck_pin rfl rfl ?_) | refine aops_v rfl rfl rfl (a_nilCheck_clo rfl rfl ?_)
    first | refine aops_v rfl rfl rfl (a_fieldAddr rfl fk57_0 rfl rfl ?_) | refine aops_v rfl rfl rfl (a_fieldAddr_pin rfl fk57_0 rfl rfl ?_)
    first | refine aops_s rfl rfl (a_store_n (cs2 := [_, _]) rfl tk9 rfl rfl HP rfl rfl (by first | decide | (simp; done) | (simp; omega)) rfl ?_) | refine aops_s rfl rfl (a_store rfl tk9 rfl rfl HP rfl rfl (by first | decide | (simp [stv, AV.cells]; done) | (simp [stv, AV.cells]; omega)) ?_)
    refine aops_nil ?_
    refine thenE_n ?_
    refine awp_seq ?_
    refine awp_region ?_
    refine aops_v rfl rfl rfl (a_move rfl rfl ?_)
    refine aops_v rfl rfl rfl (a_assign rfl rfl ?_)
    refine aops_nil ?_
    refine thenE_n ?_
    refine awp_ret ?_
    change Gst _ _ _ _
    refine fin1 rfl ?_
    exact ⟨by rw [hn], by simp only [upd_upd, hd]; rfl⟩

theorem op_spec (p : Nat) (s : List UInt8) (signs : List (List UInt8)) (bad : Bool) (hs : signs.length ≤ 1000) (σ : AHeap) (hp : σ p = some (scn s bad)) (hne : 0 < signs.length) : ASpec Tryz.prog 51 [.ref p 0 0, .lst (signs.map str) signs.length true] σ fun r σ' => r = .ret (int (opIdx (trimL 32 s) signs)) ∧ σ' = upd σ p (scn (opRest (trimL 32 s) signs) (bad || decide (opIdx (trimL 32 s) signs = 0))) := by
  refine aspec_enter (N := 23) (rs := [.tmp 4]) Tryz.func51 rfl rfl rfl rfl rfl rfl ?_
  refine awp_seq ?_
  refine awp_region ?_
  refine aops_v rfl rfl rfl (a_assign rfl rfl ?_)
  refine aops_nil ?_
  refine thenE_n ?_
  refine awp_seq ?_
  refine awp_seq ?_
  refine awp_region ?_
  refine aops_v rfl rfl rfl (a_move rfl rfl ?_)
  first | refine aops_v rfl rfl rfl (a_len_lst rfl isl62 rfl ?_) | refine aops_v rfl rfl rfl (a_len rfl isl62 rfl ?_) | refine aops_v rfl rfl rfl (a_len_slg rfl isl62 rfl ?_) | refine aops_v rfl rfl rfl (a_len_nil rfl isl62 rfl ?_)
  refine aops_v rfl rfl rfl (a_move rfl rfl ?_)
  refine aops_nil ?_
  refine thenE_n ?_
  refine awp_block ?_
  refine awp_loop (S := Nat × List UInt8) (fun x => [(0, .ref p 0 0), (7, .lst (signs.map str) signs.length true), (8, int signs.length), (9, int x.1)]) (fun x => upd σ p (scn x.2 bad)) (fun x => x.1 ≤ signs.length ∧ trimL 32 x.2 = trimL 32 s ∧ (∀ j, j < x.1 → ∀ g, signs[j]? = some g → hasPre (trimL 32 s) g = false) ∧ (x.1 = signs.length → 0 < x.1 → x.2 = trimL 32 s)) (fun x => signs.length - x.1) ⟨(0, s), ⟨by simp, rfl, by simp, by simp⟩, EL, (upd_self σ hp).symm⟩ ?_
  rintro ⟨i, u⟩ ⟨hi, hu, hno, hfin⟩
  dsimp only at hi hu hno hfin
  dsimp only
  refine awp_seq ?_
  refine awp_region ?_
  refine aops_v rfl rfl rfl (a_int rfl rfl rfl rfl ?_)
  refine aops_nil ?_
  refine thenE_n ?_
  refine awp_seq ?_
  refine awp_cond rfl (fun h1 => ?_) (fun h1 => ?_)
  · try simp only [zz1, zz2, ne_eq, zz4, zz5, zz6, gt_iff_lt, ge_iff_le, zz9, zz0] at h1
    refine awp_skip ?_
    refine thenE_n ?_
    refine awp_seq ?_
    refine awp_block ?_
    refine awp_seq ?_
    refine awp_region ?_
    refine aops_v rfl rfl rfl (a_move rfl rfl ?_)
    obtain ⟨g, hg⟩ : ∃ g, signs[i]? = some g := ⟨_, List.getElem?_eq_getElem (by omega)⟩
    first | refine aops_v rfl rfl rfl (a_indexAddr_lst rfl ek62 rfl rfl NT (by omega) (by omega) ?_) | refine aops_v rfl rfl rfl (a_indexAddr rfl ek62 rfl rfl NT (by omega) (by omega) ?_)
    refine aops_v rfl rfl rfl (a_load_pin rfl tk9 rfl (ldv_map hg) ?_)
    refine aops_v rfl rfl rfl (a_assign rfl rfl ?_)
    refine aops_v rfl rfl rfl (a_assign rfl rfl ?_)
    refine aops_nil ?_
    refine thenE_n ?_
    refine awp_seq ?_
    refine awp_region ?_
    refine aops_v rfl rfl rfl (a_move rfl rfl ?_)
    refine aops_v rfl rfl rfl (a_move rfl rfl ?_)
    refine aops_call_eq rfl rfl rfl rfl cf49 rfl (next_spec p u g bad _ (upd_same _ _ _)) ?_
    refine aops_nil ?_
    refine thenE_n ?_
    refine awp_cond rfl (fun h2 => ?_) (fun h2 => ?_)
    · try simp only [zz1, zz2, ne_eq, zz4, zz5, zz6, gt_iff_lt, ge_iff_le, zz9, zz0] at h2
      have hhit := h2
      refine awp_seq ?_
      refine awp_region ?_
      refine aops_v rfl rfl rfl (a_move rfl rfl ?_)
      first | refine aops_v rfl rfl rfl (a_add rfl rfl rfl (by simp only [Go.AL.lo, Go.AL.hi]; omega) ?_) | refine aops_v rfl rfl rfl (a_int rfl rfl rfl rfl ?_)
      refine aops_v rfl rfl rfl (a_assign rfl rfl ?_)
      refine aops_nil ?_
      refine thenE_n ?_
      refine awp_ret ?_
      change Gst _ _ _ _
      refine fin1 rfl ?_
      rw [hu] at hhit
      exact ⟨by rw [op_hit hg hhit hno]; simp, by simp [upd_upd, nxt, hu, hhit, op_hit hg hhit hno, opRest_hit hg hhit hno]⟩
    · try simp only [zz1, zz2, ne_eq, zz4, zz5, zz6, gt_iff_lt, ge_iff_le, zz9, zz0] at h2
      have hmiss := h2
      refine awp_skip ?_
      refine blockE_n ?_
      refine thenE_n ?_
      refine awp_region ?_
      first | refine aops_v rfl rfl rfl (a_add rfl rfl rfl (by simp only [Go.AL.lo, Go.AL.hi]; omega) ?_) | refine aops_v rfl rfl rfl (a_int rfl rfl rfl rfl ?_)
      refine aops_v rfl rfl rfl (a_move rfl rfl ?_)
      refine aops_nil ?_
      refine thenE_n ?_
      refine .done ⟨(i + 1, trimL 32 s), ⟨by dsimp only; omega, trimL_idem, ?_, fun _ _ => rfl⟩, by dsimp only; omega, EL, ?_⟩
      · intro j hj g' hg'
        by_cases hji : j = i
        · subst hji; rw [hg] at hg'; simp at hg'; subst hg'; rw [← hu]; exact hmiss
        · exact hno j (by dsimp only at hj; omega) g' hg'
      · rw [hu] at hmiss; simp [upd_upd, nxt, hmiss, hu]
  · try simp only [zz1, zz2, ne_eq, zz4, zz5, zz6, gt_iff_lt, ge_iff_le, zz9, zz0] at h1
    refine awp_exit ?_
    refine thenE_x ?_
    refine thenE_x ?_
    refine blockE_x ?_
    refine thenE_n ?_
    refine awp_seq ?_
    refine awp_region ?_
    refine aops_v rfl rfl rfl (a_move rfl rfl ?_)
    first | refine aops_v rfl rfl rfl (a_nilCheck rfl rfl ?_) | refine aops_v rfl rfl rfl (a_nilCheck_pin rfl rfl ?_) | refine aops_v rfl rfl rfl (a_nilCheck_clo rfl rfl ?_)
    first | refine aops_v rfl rfl rfl (a_fieldAddr rfl fk57_1 rfl rfl ?_) | refine aops_v rfl rfl rfl (a_fieldAddr_pin rfl fk57_1 rfl rfl ?_)
    first | refine aops_s rfl rfl (a_store_n (cs2 := [_, _]) rfl tk4 rfl rfl HP rfl rfl (by first | decide | (simp; done) | (simp; omega)) rfl ?_) | refine aops_s rfl rfl (a_store rfl tk4 rfl rfl HP rfl rfl (by first | decide | (simp [stv, AV.cells]; done) | (simp [stv, AV.cells]; omega)) ?_)
    refine aops_nil ?_
    refine thenE_n ?_
    refine awp_seq ?_
    refine awp_region ?_
    refine aops_v rfl rfl rfl (a_assign rfl rfl ?_)
    refine aops_nil ?_
    refine thenE_n ?_
    refine awp_ret ?_
    change Gst _ _ _ _
    obtain rfl : i = signs.length := by omega
    refine fin1 rfl ?_
    obtain rfl := hfin rfl hne
    exact ⟨by rw [op_miss hno]; rfl, by simp only [upd_upd, op_miss hno, opRest_miss hno]; simp [scn]⟩

end Go.Proofs.YtnahdpjbddfhgaaGreatDoor
set_option linter.unusedVariables false
set_option linter.unusedSimpArgs false
namespace Go.Proofs.YtnahdpjbddfhgaaGreatDoor
open Go Go.AL
set_option maxRecDepth 100000
/-- a rune of a label's name -/
def runeN (first : Bool) (c : Nat) : Bool := decide (c = 95) || (decide (97 ≤ c) && decide (c ≤ 122)) || (!first && decide (48 ≤ c) && decide (c ≤ 57))
def nmAll : Bool → List Nat → Bool
  | _, [] => true
  | b, c :: r => runeN b c && nmAll false r
def nameP (s : List UInt8) : Bool := nmAll true (runesOf s) && decide (0 < s.length) && decide (s.length ≤ 32)
theorem ln_step {s : List UInt8} {pos c wd : Nat} {v : Bool} (hp : pos < s.length) (hc : (decR (s.drop pos)).1 = c) (hw : (decR (s.drop pos)).2 = wd) (h : nmAll (decide (pos = 0)) (runesOf (s.drop pos)) = v)
    (hx : runeN (decide (pos = 0)) c = true) : nmAll (decide (pos + wd = 0)) (runesOf (s.drop (pos + wd))) = v := by
  have h1 := decR_width (s.drop pos)
  rw [runesOf_drop hp, hc, hw, nmAll, hx] at h
  have : decide (pos + wd = 0) = false := by simp; omega
  rw [this]; simpa using h
theorem ln_bad {s : List UInt8} {pos c : Nat} {v : Bool} (hp : pos < s.length) (hc : (decR (s.drop pos)).1 = c) (h : nmAll (decide (pos = 0)) (runesOf (s.drop pos)) = v) (hx : runeN (decide (pos = 0)) c = false) : v = false := by
  rw [runesOf_drop hp, hc, nmAll, hx] at h
  simpa using h.symm
theorem ln_end {s : List UInt8} {pos : Nat} {v : Bool} (hp : ¬ pos < s.length) (h : nmAll (decide (pos = 0)) (runesOf (s.drop pos)) = v) : v = true := by
  rw [List.drop_eq_nil_of_le (by omega)] at h
  simpa [runesOf, runesF, nmAll] using h.symm

abbrev u64 (n : Int) : AV := .v (.int .u64 n)

theorem valid_spec (s : List UInt8) (σ : AHeap) (hl : s.length ≤ 9223372036854775807) : ASpec Tryz.prog 19 [str s] σ fun r σ' => r = .ret (boo (Lib.validD s)) ∧ σ' = σ := by
  refine aspec_enter (N := 5) (rs := [.tmp 2]) Tryz.func19 rfl rfl rfl rfl rfl rfl ?_
  refine awp_seq ?_
  refine awp_region ?_
  refine aops_v rfl rfl rfl (a_assign rfl rfl ?_)
  refine aops_nil ?_
  refine thenE_n ?_
  refine awp_seq ?_
  refine awp_region ?_
  refine aops_v rfl rfl rfl (a_move rfl rfl ?_)
  refine aops_call_eq rfl rfl rfl rfl cf48 rfl (validString_spec _ (by omega) _) ?_
  refine aops_v rfl rfl rfl (a_assign rfl rfl ?_)
  refine aops_nil ?_
  refine thenE_n ?_
  refine awp_ret ?_
  change Gst _ _ _ _
  refine fin1 rfl ?_
  first | exact ⟨rfl, rfl⟩ | exact ⟨by simp [*], rfl⟩

theorem like_spec (op : Int) (σ : AHeap)  : ASpec Tryz.prog 34 [int op] σ fun r σ' => r = .ret (boo (decide (op = 3) || decide (op = 4))) ∧ σ' = σ := by
  refine aspec_enter (N := 9) (rs := [.tmp 2]) Tryz.func34 rfl rfl rfl rfl rfl rfl ?_
  refine awp_seq ?_
  refine awp_region ?_
  refine aops_v rfl rfl rfl (a_assign rfl rfl ?_)
  refine aops_nil ?_
  refine thenE_n ?_
  refine awp_seq ?_
  refine awp_region ?_
  refine aops_v rfl rfl rfl (a_move rfl rfl ?_)
  refine aops_v rfl rfl rfl (a_int rfl rfl rfl rfl ?_)
  refine aops_v rfl rfl rfl (a_move rfl rfl ?_)
  refine aops_bool (fun h1 => ?_) (fun h1 => ?_)
  · try simp only [zz1, zz2, ne_eq, zz4, zz5, zz6, gt_iff_lt, ge_iff_le, zz9, zz0] at h1
    refine aops_no rfl rfl rfl rfl rfl rfl ?_
    refine aops_no rfl rfl rfl rfl rfl rfl ?_
    refine aops_v rfl rfl rfl (a_pick rfl rfl rfl ?_)
    refine aops_v rfl rfl rfl (a_assign rfl rfl ?_)
    refine aops_nil ?_
    refine thenE_n ?_
    refine awp_ret ?_
    change Gst _ _ _ _
    refine fin1 rfl ?_
    exact ⟨by simp [*], rfl⟩
  · try simp only [zz1, zz2, ne_eq, zz4, zz5, zz6, gt_iff_lt, ge_iff_le, zz9, zz0] at h1
    refine aops_yes rfl rfl rfl rfl ?_
    refine aops_v rfl rfl rfl (a_move rfl rfl ?_)
    refine aops_yes rfl rfl rfl rfl ?_
    refine aops_v rfl rfl rfl (a_int rfl rfl rfl rfl ?_)
    refine aops_v rfl rfl rfl (a_pick rfl rfl rfl ?_)
    refine aops_v rfl rfl rfl (a_assign rfl rfl ?_)
    refine aops_nil ?_
    refine thenE_n ?_
    refine awp_ret ?_
    change Gst _ _ _ _
    refine fin1 rfl ?_
    exact ⟨by simp [*], rfl⟩

theorem not_spec (op : Int) (σ : AHeap)  : ASpec Tryz.prog 41 [int op] σ fun r σ' => r = .ret (boo (decide (op = 2) || decide (op = 4))) ∧ σ' = σ := by
  refine aspec_enter (N := 9) (rs := [.tmp 2]) Tryz.func41 rfl rfl rfl rfl rfl rfl ?_
  refine awp_seq ?_
  refine awp_region ?_
  refine aops_v rfl rfl rfl (a_assign rfl rfl ?_)
  refine aops_nil ?_
  refine thenE_n ?_
  refine awp_seq ?_
  refine awp_region ?_
  refine aops_v rfl rfl rfl (a_move rfl rfl ?_)
  refine aops_v rfl rfl rfl (a_int rfl rfl rfl rfl ?_)
  refine aops_v rfl rfl rfl (a_move rfl rfl ?_)
  refine aops_bool (fun h1 => ?_) (fun h1 => ?_)
  · try simp only [zz1, zz2, ne_eq, zz4, zz5, zz6, gt_iff_lt, ge_iff_le, zz9, zz0] at h1
    refine aops_no rfl rfl rfl rfl rfl rfl ?_
    refine aops_no rfl rfl rfl rfl rfl rfl ?_
    refine aops_v rfl rfl rfl (a_pick rfl rfl rfl ?_)
    refine aops_v rfl rfl rfl (a_assign rfl rfl ?_)
    refine aops_nil ?_
    refine thenE_n ?_
    refine awp_ret ?_
    change Gst _ _ _ _
    refine fin1 rfl ?_
    exact ⟨by simp [*], rfl⟩
  · try simp only [zz1, zz2, ne_eq, zz4, zz5, zz6, gt_iff_lt, ge_iff_le, zz9, zz0] at h1
    refine aops_yes rfl rfl rfl rfl ?_
    refine aops_v rfl rfl rfl (a_move rfl rfl ?_)
    refine aops_yes rfl rfl rfl rfl ?_
    refine aops_v rfl rfl rfl (a_int rfl rfl rfl rfl ?_)
    refine aops_v rfl rfl rfl (a_pick rfl rfl rfl ?_)
    refine aops_v rfl rfl rfl (a_assign rfl rfl ?_)
    refine aops_nil ?_
    refine thenE_n ?_
    refine awp_ret ?_
    change Gst _ _ _ _
    refine fin1 rfl ?_
    exact ⟨by simp [*], rfl⟩

theorem lname_spec (s : List UInt8) (σ : AHeap)  : ASpec Tryz.prog 93 [str s] σ fun r σ' => r = .ret (boo (nameP s)) ∧ σ' = σ := by
  refine aspec_enter (N := 41) (rs := [.tmp 2]) Tryz.func93 rfl rfl rfl rfl rfl rfl ?_
  refine awp_seq ?_
  refine awp_region ?_
  refine aops_v rfl rfl rfl (a_assign rfl rfl ?_)
  refine aops_nil ?_
  refine thenE_n ?_
  refine awp_seq ?_
  refine awp_seq ?_
  refine awp_region ?_
  refine aops_v rfl rfl rfl (a_move rfl rfl ?_)
  refine aops_v rfl rfl rfl (a_range_str rfl ist9 rfl ?_)
  intro id6 hid6
  refine aops_nil ?_
  refine thenE_n ?_
  refine awp_block ?_
  refine awp_loop (S := Nat) (fun pos => [(0, str s), (6, .itr id6)]) (fun pos => upd σ id6 (.siter ⟨s.toArray⟩ pos)) (fun pos => nmAll (decide (pos = 0)) (runesOf (s.drop pos)) = nmAll true (runesOf s)) (fun pos => s.length - pos) ⟨0, by simp, EL, rfl⟩ ?_
  intro pos hJ
  refine awp_seq ?_
  refine awp_region ?_
  refine aops_next rfl rfl rfl rfl rfl HP (fun h1 => ?_) (fun h1 => ?_)
  · try simp only [zz1, zz2, ne_eq, zz4, zz5, zz6, gt_iff_lt, ge_iff_le, zz9, zz0] at h1
    have hp := h1
    obtain ⟨c, hc⟩ : ∃ c, (decR (s.drop pos)).1 = c := ⟨_, rfl⟩
    obtain ⟨wd, hw⟩ : ∃ wd, (decR (s.drop pos)).2 = wd := ⟨_, rfl⟩
    have hw1 := decR_width (s.drop pos)
    rw [hc, hw]
    try simp only [upd_upd]
    refine aops_v rfl rfl rfl (a_extract rfl rfl rfl ?_)
    refine aops_nil ?_
    refine thenE_n ?_
    refine awp_seq ?_
    refine awp_cond (b := true) rfl (fun _ => ?_) (fun h => Bool.noConfusion h)
    refine awp_skip ?_
    refine thenE_n ?_
    refine awp_block ?_
    refine awp_seq ?_
    refine awp_region ?_
    refine aops_v rfl rfl rfl (a_extract rfl rfl rfl ?_)
    refine aops_v rfl rfl rfl (a_extract rfl rfl rfl ?_)
    refine aops_v rfl rfl rfl (a_assign rfl rfl ?_)
    refine aops_v rfl rfl rfl (a_assign rfl rfl ?_)
    refine aops_nil ?_
    refine thenE_n ?_
    refine awp_seq ?_
    refine awp_region ?_
    refine aops_v rfl rfl rfl (a_move rfl rfl ?_)
    refine aops_v rfl rfl rfl (a_int rfl rfl rfl rfl ?_)
    refine aops_v rfl rfl rfl (a_move rfl rfl ?_)
    refine aops_bool (fun h2 => ?_) (fun h2 => ?_)
    · try simp only [zz1, zz2, ne_eq, zz4, zz5, zz6, gt_iff_lt, ge_iff_le, zz9, zz0] at h2
      refine aops_yes rfl rfl rfl rfl ?_
      refine aops_v rfl rfl rfl (a_move rfl rfl ?_)
      refine aops_yes rfl rfl rfl rfl ?_
      refine aops_v rfl rfl rfl (a_int rfl rfl rfl rfl ?_)
      refine aops_yes rfl rfl rfl rfl ?_
      refine aops_v rfl rfl rfl (a_move rfl rfl ?_)
      refine aops_bool (fun h3 => ?_) (fun h3 => ?_)
      · try simp only [zz1, zz2, ne_eq, zz4, zz5, zz6, gt_iff_lt, ge_iff_le, zz9, zz0] at h3
        refine aops_no rfl rfl rfl rfl rfl rfl ?_
        refine aops_no rfl rfl rfl rfl rfl rfl ?_
        refine aops_yes rfl rfl rfl rfl ?_
        refine aops_v rfl rfl rfl (a_pick rfl rfl rfl ?_)
        refine aops_v rfl rfl rfl (a_pick rfl rfl rfl ?_)
        refine aops_v rfl rfl rfl (a_move rfl rfl ?_)
        refine aops_yes rfl rfl rfl rfl ?_
        refine aops_v rfl rfl rfl (a_move rfl rfl ?_)
        refine aops_yes rfl rfl rfl rfl ?_
        refine aops_v rfl rfl rfl (a_int rfl rfl rfl rfl ?_)
        refine aops_yes rfl rfl rfl rfl ?_
        refine aops_v rfl rfl rfl (a_move rfl rfl ?_)
        refine aops_bool (fun h4 => ?_) (fun h4 => ?_)
        · try simp only [zz1, zz2, ne_eq, zz4, zz5, zz6, gt_iff_lt, ge_iff_le, zz9, zz0] at h4
          refine aops_no rfl rfl rfl rfl rfl rfl ?_
          refine aops_no rfl rfl rfl rfl rfl rfl ?_
          refine aops_yes rfl rfl rfl rfl ?_
          refine aops_v rfl rfl rfl (a_pick rfl rfl rfl ?_)
          refine aops_yes rfl rfl rfl rfl ?_
          refine aops_v rfl rfl rfl (a_move rfl rfl ?_)
          refine aops_no rfl rfl rfl rfl rfl rfl ?_
          refine aops_no rfl rfl rfl rfl rfl rfl ?_
          refine aops_yes rfl rfl rfl rfl ?_
          refine aops_v rfl rfl rfl (a_pick rfl rfl rfl ?_)
          refine aops_v rfl rfl rfl (a_pick rfl rfl rfl ?_)
          refine aops_nil ?_
          refine thenE_n ?_
          refine awp_cond (b := true) rfl (fun _ => ?_) (fun h => Bool.noConfusion h)
          refine awp_seq ?_
          refine awp_region ?_
          refine aops_v rfl rfl rfl (a_assign rfl rfl ?_)
          refine aops_nil ?_
          refine thenE_n ?_
          refine awp_ret ?_
          change Gst _ _ _ _
          refine gst_del id6 ?_
          rw [del_upd _ _ hid6]
          refine fin1 rfl ?_
          have hb := ln_bad hp hc hJ (by simp [runeN]; omega)
          exact ⟨by simp [nameP, hb], rfl⟩
        · try simp only [zz1, zz2, ne_eq, zz4, zz5, zz6, gt_iff_lt, ge_iff_le, zz9, zz0] at h4
          refine aops_yes rfl rfl rfl rfl ?_
          refine aops_v rfl rfl rfl (a_move rfl rfl ?_)
          refine aops_yes rfl rfl rfl rfl ?_
          refine aops_v rfl rfl rfl (a_int rfl rfl rfl rfl ?_)
          refine aops_yes rfl rfl rfl rfl ?_
          refine aops_v rfl rfl rfl (a_pick rfl rfl rfl ?_)
          refine aops_yes rfl rfl rfl rfl ?_
          refine aops_v rfl rfl rfl (a_move rfl rfl ?_)
          refine aops_bool (fun h5 => ?_) (fun h5 => ?_)
          · try simp only [zz1, zz2, ne_eq, zz4, zz5, zz6, gt_iff_lt, ge_iff_le, zz9, zz0] at h5
            refine aops_no rfl rfl rfl rfl rfl rfl ?_
            refine aops_no rfl rfl rfl rfl rfl rfl ?_
            refine aops_yes rfl rfl rfl rfl ?_
            refine aops_v rfl rfl rfl (a_pick rfl rfl rfl ?_)
            refine aops_v rfl rfl rfl (a_pick rfl rfl rfl ?_)
            refine aops_nil ?_
            refine thenE_n ?_
            refine awp_cond (b := true) rfl (fun _ => ?_) (fun h => Bool.noConfusion h)
            refine awp_seq ?_
            refine awp_region ?_
            refine aops_v rfl rfl rfl (a_assign rfl rfl ?_)
            refine aops_nil ?_
            refine thenE_n ?_
            refine awp_ret ?_
            change Gst _ _ _ _
            refine gst_del id6 ?_
            rw [del_upd _ _ hid6]
            refine fin1 rfl ?_
            have hb := ln_bad hp hc hJ (by simp [runeN]; omega)
            exact ⟨by simp [nameP, hb], rfl⟩
          · try simp only [zz1, zz2, ne_eq, zz4, zz5, zz6, gt_iff_lt, ge_iff_le, zz9, zz0] at h5
            refine aops_yes rfl rfl rfl rfl ?_
            refine aops_v rfl rfl rfl (a_move rfl rfl ?_)
            refine aops_yes rfl rfl rfl rfl ?_
            refine aops_v rfl rfl rfl (a_int rfl rfl rfl rfl ?_)
            refine aops_yes rfl rfl rfl rfl ?_
            refine aops_v rfl rfl rfl (a_pick rfl rfl rfl ?_)
            refine aops_v rfl rfl rfl (a_pick rfl rfl rfl ?_)
            refine aops_nil ?_
            refine thenE_n ?_
            refine awp_cond rfl (fun h6 => ?_) (fun h6 => ?_)
            · try simp only [zz1, zz2, ne_eq, zz4, zz5, zz6, gt_iff_lt, ge_iff_le, zz9, zz0] at h6
              refine awp_seq ?_
              refine awp_region ?_
              refine aops_v rfl rfl rfl (a_assign rfl rfl ?_)
              refine aops_nil ?_
              refine thenE_n ?_
              refine awp_ret ?_
              change Gst _ _ _ _
              refine gst_del id6 ?_
              rw [del_upd _ _ hid6]
              refine fin1 rfl ?_
              have hb := ln_bad hp hc hJ (by simp [runeN]; omega)
              exact ⟨by simp [nameP, hb], rfl⟩
            · try simp only [zz1, zz2, ne_eq, zz4, zz5, zz6, gt_iff_lt, ge_iff_le, zz9, zz0] at h6
              refine awp_skip ?_
              refine blockE_n ?_
              refine thenE_n ?_
              exact .done ⟨pos + wd, ln_step hp hc hw hJ (by simp [runeN]; omega), by omega, EL, rfl⟩
      · try simp only [zz1, zz2, ne_eq, zz4, zz5, zz6, gt_iff_lt, ge_iff_le, zz9, zz0] at h3
        refine aops_yes rfl rfl rfl rfl ?_
        refine aops_v rfl rfl rfl (a_move rfl rfl ?_)
        refine aops_yes rfl rfl rfl rfl ?_
        refine aops_v rfl rfl rfl (a_int rfl rfl rfl rfl ?_)
        refine aops_yes rfl rfl rfl rfl ?_
        refine aops_v rfl rfl rfl (a_pick rfl rfl rfl ?_)
        refine aops_v rfl rfl rfl (a_pick rfl rfl rfl ?_)
        refine aops_v rfl rfl rfl (a_move rfl rfl ?_)
        refine aops_bool (fun h7 => ?_) (fun h7 => ?_)
        · try simp only [zz1, zz2, ne_eq, zz4, zz5, zz6, gt_iff_lt, ge_iff_le, zz9, zz0] at h7
          refine aops_yes rfl rfl rfl rfl ?_
          refine aops_v rfl rfl rfl (a_move rfl rfl ?_)
          refine aops_yes rfl rfl rfl rfl ?_
          refine aops_v rfl rfl rfl (a_int rfl rfl rfl rfl ?_)
          refine aops_yes rfl rfl rfl rfl ?_
          refine aops_v rfl rfl rfl (a_move rfl rfl ?_)
          refine aops_bool (fun h8 => ?_) (fun h8 => ?_)
          · try simp only [zz1, zz2, ne_eq, zz4, zz5, zz6, gt_iff_lt, ge_iff_le, zz9, zz0] at h8
            refine aops_no rfl rfl rfl rfl rfl rfl ?_
            refine aops_no rfl rfl rfl rfl rfl rfl ?_
            refine aops_yes rfl rfl rfl rfl ?_
            refine aops_v rfl rfl rfl (a_pick rfl rfl rfl ?_)
            refine aops_yes rfl rfl rfl rfl ?_
            refine aops_v rfl rfl rfl (a_move rfl rfl ?_)
            refine aops_no rfl rfl rfl rfl rfl rfl ?_
            refine aops_no rfl rfl rfl rfl rfl rfl ?_
            refine aops_yes rfl rfl rfl rfl ?_
            refine aops_v rfl rfl rfl (a_pick rfl rfl rfl ?_)
            refine aops_v rfl rfl rfl (a_pick rfl rfl rfl ?_)
            refine aops_nil ?_
            refine thenE_n ?_
            refine awp_cond (b := true) rfl (fun _ => ?_) (fun h => Bool.noConfusion h)
            refine awp_seq ?_
            refine awp_region ?_
            refine aops_v rfl rfl rfl (a_assign rfl rfl ?_)
            refine aops_nil ?_
            refine thenE_n ?_
            refine awp_ret ?_
            change Gst _ _ _ _
            refine gst_del id6 ?_
            rw [del_upd _ _ hid6]
            refine fin1 rfl ?_
            have hb := ln_bad hp hc hJ (by simp [runeN]; omega)
            exact ⟨by simp [nameP, hb], rfl⟩
          · try simp only [zz1, zz2, ne_eq, zz4, zz5, zz6, gt_iff_lt, ge_iff_le, zz9, zz0] at h8
            refine aops_yes rfl rfl rfl rfl ?_
            refine aops_v rfl rfl rfl (a_move rfl rfl ?_)
            refine aops_yes rfl rfl rfl rfl ?_
            refine aops_v rfl rfl rfl (a_int rfl rfl rfl rfl ?_)
            refine aops_yes rfl rfl rfl rfl ?_
            refine aops_v rfl rfl rfl (a_pick rfl rfl rfl ?_)
            refine aops_yes rfl rfl rfl rfl ?_
            refine aops_v rfl rfl rfl (a_move rfl rfl ?_)
            refine aops_bool (fun h9 => ?_) (fun h9 => ?_)
            · try simp only [zz1, zz2, ne_eq, zz4, zz5, zz6, gt_iff_lt, ge_iff_le, zz9, zz0] at h9
              refine aops_no rfl rfl rfl rfl rfl rfl ?_
              refine aops_no rfl rfl rfl rfl rfl rfl ?_
              refine aops_yes rfl rfl rfl rfl ?_
              refine aops_v rfl rfl rfl (a_pick rfl rfl rfl ?_)
              refine aops_v rfl rfl rfl (a_pick rfl rfl rfl ?_)
              refine aops_nil ?_
              refine thenE_n ?_
              refine awp_cond (b := true) rfl (fun _ => ?_) (fun h => Bool.noConfusion h)
              refine awp_seq ?_
              refine awp_region ?_
              refine aops_v rfl rfl rfl (a_assign rfl rfl ?_)
              refine aops_nil ?_
              refine thenE_n ?_
              refine awp_ret ?_
              change Gst _ _ _ _
              refine gst_del id6 ?_
              rw [del_upd _ _ hid6]
              refine fin1 rfl ?_
              have hb := ln_bad hp hc hJ (by simp [runeN]; omega)
              exact ⟨by simp [nameP, hb], rfl⟩
            · try simp only [zz1, zz2, ne_eq, zz4, zz5, zz6, gt_iff_lt, ge_iff_le, zz9, zz0] at h9
              refine aops_yes rfl rfl rfl rfl ?_
              refine aops_v rfl rfl rfl (a_move rfl rfl ?_)
              refine aops_yes rfl rfl rfl rfl ?_
              refine aops_v rfl rfl rfl (a_int rfl rfl rfl rfl ?_)
              refine aops_yes rfl rfl rfl rfl ?_
              refine aops_v rfl rfl rfl (a_pick rfl rfl rfl ?_)
              refine aops_v rfl rfl rfl (a_pick rfl rfl rfl ?_)
              refine aops_nil ?_
              refine thenE_n ?_
              refine awp_cond rfl (fun h10 => ?_) (fun h10 => ?_)
              · try simp only [zz1, zz2, ne_eq, zz4, zz5, zz6, gt_iff_lt, ge_iff_le, zz9, zz0] at h10
                refine awp_seq ?_
                refine awp_region ?_
                refine aops_v rfl rfl rfl (a_assign rfl rfl ?_)
                refine aops_nil ?_
                refine thenE_n ?_
                refine awp_ret ?_
                change Gst _ _ _ _
                refine gst_del id6 ?_
                rw [del_upd _ _ hid6]
                refine fin1 rfl ?_
                have hb := ln_bad hp hc hJ (by simp [runeN]; omega)
                exact ⟨by simp [nameP, hb], rfl⟩
              · try simp only [zz1, zz2, ne_eq, zz4, zz5, zz6, gt_iff_lt, ge_iff_le, zz9, zz0] at h10
                refine awp_skip ?_
                refine blockE_n ?_
                refine thenE_n ?_
                exact .done ⟨pos + wd, ln_step hp hc hw hJ (by simp [runeN]; omega), by omega, EL, rfl⟩
        · try simp only [zz1, zz2, ne_eq, zz4, zz5, zz6, gt_iff_lt, ge_iff_le, zz9, zz0] at h7
          refine aops_no rfl rfl rfl rfl rfl rfl ?_
          refine aops_no rfl rfl rfl rfl rfl rfl ?_
          refine aops_no rfl rfl rfl rfl rfl rfl ?_
          refine aops_nou rfl rfl rfl rfl rfl rfl ?_
          refine aops_nou rfl rfl rfl rfl rfl rfl ?_
          refine aops_no rfl rfl rfl rfl rfl rfl ?_
          refine aops_no rfl rfl rfl rfl rfl rfl ?_
          refine aops_nou rfl rfl rfl rfl rfl rfl ?_
          refine aops_nou rfl rfl rfl rfl rfl rfl ?_
          refine aops_no rfl rfl rfl rfl rfl rfl ?_
          refine aops_v rfl rfl rfl (a_pick rfl rfl rfl ?_)
          refine aops_nil ?_
          refine thenE_n ?_
          refine awp_cond (b := false) rfl (fun h => Bool.noConfusion h) (fun _ => ?_)
          refine awp_skip ?_
          refine blockE_n ?_
          refine thenE_n ?_
          exact .done ⟨pos + wd, ln_step hp hc hw hJ (by simp [runeN]; omega), by omega, EL, rfl⟩
    · try simp only [zz1, zz2, ne_eq, zz4, zz5, zz6, gt_iff_lt, ge_iff_le, zz9, zz0] at h2
      refine aops_no rfl rfl rfl rfl rfl rfl ?_
      refine aops_no rfl rfl rfl rfl rfl rfl ?_
      refine aops_no rfl rfl rfl rfl rfl rfl ?_
      refine aops_nou rfl rfl rfl rfl rfl rfl ?_
      refine aops_nou rfl rfl rfl rfl rfl rfl ?_
      refine aops_no rfl rfl rfl rfl rfl rfl ?_
      refine aops_v rfl rfl rfl (a_pick rfl rfl rfl ?_)
      refine aops_v rfl rfl rfl (a_move rfl rfl ?_)
      refine aops_no rfl rfl rfl rfl rfl rfl ?_
      refine aops_no rfl rfl rfl rfl rfl rfl ?_
      refine aops_no rfl rfl rfl rfl rfl rfl ?_
      refine aops_nou rfl rfl rfl rfl rfl rfl ?_
      refine aops_nou rfl rfl rfl rfl rfl rfl ?_
      refine aops_no rfl rfl rfl rfl rfl rfl ?_
      refine aops_no rfl rfl rfl rfl rfl rfl ?_
      refine aops_nou rfl rfl rfl rfl rfl rfl ?_
      refine aops_nou rfl rfl rfl rfl rfl rfl ?_
      refine aops_no rfl rfl rfl rfl rfl rfl ?_
      refine aops_v rfl rfl rfl (a_pick rfl rfl rfl ?_)
      refine aops_nil ?_
      refine thenE_n ?_
      refine awp_cond (b := false) rfl (fun h => Bool.noConfusion h) (fun _ => ?_)
      refine awp_skip ?_
      refine blockE_n ?_
      refine thenE_n ?_
      exact .done ⟨pos + wd, ln_step hp hc hw hJ (by simp [runeN]; omega), by omega, EL, rfl⟩
  · try simp only [zz1, zz2, ne_eq, zz4, zz5, zz6, gt_iff_lt, ge_iff_le, zz9, zz0] at h1
    have hp := h1
    refine aops_v rfl rfl rfl (a_extract rfl rfl rfl ?_)
    refine aops_nil ?_
    refine thenE_n ?_
    refine awp_seq ?_
    refine awp_cond (b := false) rfl (fun h => Bool.noConfusion h) (fun _ => ?_)
    refine awp_exit ?_
    refine thenE_x ?_
    refine thenE_x ?_
    refine blockE_x ?_
    refine thenE_n ?_
    refine awp_seq ?_
    refine awp_region ?_
    refine aops_v rfl rfl rfl (a_move rfl rfl ?_)
    refine aops_v rfl rfl rfl (a_len_str rfl ist9 rfl ?_)
    refine aops_v rfl rfl rfl (a_int rfl rfl rfl rfl ?_)
    refine aops_v rfl rfl rfl (a_move rfl rfl ?_)
    refine aops_bool (fun h11 => ?_) (fun h11 => ?_)
    · try simp only [zz1, zz2, ne_eq, zz4, zz5, zz6, gt_iff_lt, ge_iff_le, zz9, zz0] at h11
      refine aops_yes rfl rfl rfl rfl ?_
      refine aops_v rfl rfl rfl (a_move rfl rfl ?_)
      refine aops_yes rfl rfl rfl rfl ?_
      refine aops_v rfl rfl rfl (a_len_str rfl ist9 rfl ?_)
      refine aops_yes rfl rfl rfl rfl ?_
      refine aops_v rfl rfl rfl (a_int rfl rfl rfl rfl ?_)
      refine aops_v rfl rfl rfl (a_pick rfl rfl rfl ?_)
      refine aops_v rfl rfl rfl (a_assign rfl rfl ?_)
      refine aops_nil ?_
      refine thenE_n ?_
      refine awp_ret ?_
      change Gst _ _ _ _
      refine gst_del id6 ?_
      rw [del_upd _ _ hid6]
      refine fin1 rfl ?_
      have hb := ln_end hp hJ
      exact ⟨by simp [nameP, hb] <;> first | omega | (rw [Bool.eq_iff_iff]; simp; omega), rfl⟩
    · try simp only [zz1, zz2, ne_eq, zz4, zz5, zz6, gt_iff_lt, ge_iff_le, zz9, zz0] at h11
      refine aops_no rfl rfl rfl rfl rfl rfl ?_
      refine aops_no rfl rfl rfl rfl rfl rfl ?_
      refine aops_no rfl rfl rfl rfl rfl rfl ?_
      refine aops_v rfl rfl rfl (a_pick rfl rfl rfl ?_)
      refine aops_v rfl rfl rfl (a_assign rfl rfl ?_)
      refine aops_nil ?_
      refine thenE_n ?_
      refine awp_ret ?_
      change Gst _ _ _ _
      refine gst_del id6 ?_
      rw [del_upd _ _ hid6]
      refine fin1 rfl ?_
      have hb := ln_end hp hJ
      exact ⟨by simp [nameP, hb] <;> first | omega | (rw [Bool.eq_iff_iff]; simp; omega), rfl⟩

end Go.Proofs.YtnahdpjbddfhgaaGreatDoor
set_option linter.unusedVariables false
set_option linter.unusedSimpArgs false
namespace Go.Proofs.YtnahdpjbddfhgaaGreatDoor
open Go Go.AL
set_option maxRecDepth 100000
/-- a matcher, a filter, a query -/
structure Mt where
  name : List UInt8
  op : Int
  val : List UInt8
structure Fl where
  op : Int
  txt : List UInt8
structure Qr where
  ms : List Mt
  fs : List Fl
def encM (m : Mt) : List AV := [str m.name, int m.op, str m.val]
def encF (f : Fl) : List AV := [int f.op, str f.txt]
theorem encM_len (m : Mt) : (encM m).length = 3 := rfl
theorem encF_len (f : Fl) : (encF f).length = 2 := rfl
def encQ (q : Qr) (ex ex' : Bool) : List AV := [.lst (q.ms.flatMap encM) q.ms.length ex, .lst (q.fs.flatMap encF) q.fs.length ex']
def Mt.fl (m : Mt) : Fl := ⟨m.op, m.val⟩
def allP (q : Qr) : List Fl := q.ms.map Mt.fl ++ q.fs
theorem flat_len {α : Type} {enc : α → List AV} {n : Nat} (hn : ∀ x, (enc x).length = n) (l : List α) : (l.flatMap enc).length = l.length * n := length_flatMap' hn l
theorem flat_snoc {α : Type} (enc : α → List AV) (l : List α) (x : α) : l.flatMap enc ++ enc x = (l ++ [x]).flatMap enc := by simp
theorem flat_ones {α : Type} {enc : α → List AV} (h : ∀ x, (enc x).all AV.one = true) (l : List α) : (l.flatMap enc).all AV.one = true := by
  induction l with
  | nil => rfl
  | cons x r ih => rw [List.flatMap_cons, List.all_append, h, ih]; rfl
theorem encM_ones (m : Mt) : (encM m).all AV.one = true := rfl
theorem encF_ones (f : Fl) : (encF f).all AV.one = true := rfl
theorem take_succ' {α : Type} {l : List α} {i : Nat} {x : α} (h : l[i]? = some x) : l.take (i + 1) = l.take i ++ [x] := by
  have hi := (List.getElem?_eq_some_iff.1 h)
  rw [List.take_succ_eq_append_getElem hi.1]
  simp [hi.2]

theorem len64_spec  (σ : AHeap)  : ASpec Tryz.prog 148 [u64 1] σ fun r σ' => r = .ret (int 1) ∧ σ' = σ := by
  refine aspec_enter (N := 25) (rs := [.tmp 2]) Tryz.func148 rfl rfl rfl rfl rfl rfl ?_
  refine awp_seq ?_
  refine awp_region ?_
  refine aops_v rfl rfl rfl (a_assign rfl rfl ?_)
  refine aops_nil ?_
  refine thenE_n ?_
  refine awp_seq ?_
  refine awp_seq ?_
  refine awp_region ?_
  refine aops_v rfl rfl rfl (a_move rfl rfl ?_)
  refine aops_v rfl rfl rfl (a_int rfl rfl rfl rfl ?_)
  refine aops_nil ?_
  refine thenE_n ?_
  refine awp_cond rfl (fun h1 => ?_) (fun h1 => ?_)
  · try simp only [zz1, zz2, ne_eq, zz4, zz5, zz6, gt_iff_lt, ge_iff_le, zz9, zz0] at h1
    omega
  · try simp only [zz1, zz2, ne_eq, zz4, zz5, zz6, gt_iff_lt, ge_iff_le, zz9, zz0] at h1
    refine awp_skip ?_
    refine thenE_n ?_
    refine awp_seq ?_
    refine awp_seq ?_
    refine awp_region ?_
    refine aops_v rfl rfl rfl (a_move rfl rfl ?_)
    refine aops_v rfl rfl rfl (a_int rfl rfl rfl rfl ?_)
    refine aops_nil ?_
    refine thenE_n ?_
    refine awp_cond rfl (fun h2 => ?_) (fun h2 => ?_)
    · try simp only [zz1, zz2, ne_eq, zz4, zz5, zz6, gt_iff_lt, ge_iff_le, zz9, zz0] at h2
      omega
    · try simp only [zz1, zz2, ne_eq, zz4, zz5, zz6, gt_iff_lt, ge_iff_le, zz9, zz0] at h2
      refine awp_skip ?_
      refine thenE_n ?_
      refine awp_seq ?_
      refine awp_seq ?_
      refine awp_region ?_
      refine aops_v rfl rfl rfl (a_move rfl rfl ?_)
      refine aops_v rfl rfl rfl (a_int rfl rfl rfl rfl ?_)
      refine aops_nil ?_
      refine thenE_n ?_
      refine awp_cond rfl (fun h3 => ?_) (fun h3 => ?_)
      · try simp only [zz1, zz2, ne_eq, zz4, zz5, zz6, gt_iff_lt, ge_iff_le, zz9, zz0] at h3
        omega
      · try simp only [zz1, zz2, ne_eq, zz4, zz5, zz6, gt_iff_lt, ge_iff_le, zz9, zz0] at h3
        refine awp_skip ?_
        refine thenE_n ?_
        refine awp_seq ?_
        refine awp_region ?_
        refine aops_v rfl rfl rfl (a_move rfl rfl ?_)
        refine aops_v rfl rfl rfl (a_move rfl rfl ?_)
        first | refine aops_v rfl rfl rfl (a_conv rfl hu41 ik5 rfl (by simp only [Go.AL.lo, Go.AL.hi]; omega) ?_) | refine aops_v rfl rfl rfl (a_conv_wrap rfl hu41 ik5 rfl ?_)
        refine aops_v rfl rfl rfl (a_index_str (l := [0, 1, 2, 2, 3, 3, 3, 3, 4, 4, 4, 4, 4, 4, 4, 4, 5, 5, 5, 5, 5, 5, 5, 5, 5, 5, 5, 5, 5, 5, 5, 5, 6, 6, 6, 6, 6, 6, 6, 6, 6, 6, 6, 6, 6, 6, 6, 6, 6, 6, 6, 6, 6, 6, 6, 6, 6, 6, 6, 6, 6, 6, 6, 6, 7, 7, 7, 7, 7, 7, 7, 7, 7, 7, 7, 7, 7, 7, 7, 7, 7, 7, 7, 7, 7, 7, 7, 7, 7, 7, 7, 7, 7, 7, 7, 7, 7, 7, 7, 7, 7, 7, 7, 7, 7, 7, 7, 7, 7, 7, 7, 7, 7, 7, 7, 7, 7, 7, 7, 7, 7, 7, 7, 7, 7, 7, 7, 7, 8, 8, 8, 8, 8, 8, 8, 8, 8, 8, 8, 8, 8, 8, 8, 8, 8, 8, 8, 8, 8, 8, 8, 8, 8, 8, 8, 8, 8, 8, 8, 8, 8, 8, 8, 8, 8, 8, 8, 8, 8, 8, 8, 8, 8, 8, 8, 8, 8, 8, 8, 8, 8, 8, 8, 8, 8, 8, 8, 8, 8, 8, 8, 8, 8, 8, 8, 8, 8, 8, 8, 8, 8, 8, 8, 8, 8, 8, 8, 8, 8, 8, 8, 8, 8, 8, 8, 8, 8, 8, 8, 8, 8, 8, 8, 8, 8, 8, 8, 8, 8, 8, 8, 8, 8, 8, 8, 8, 8, 8, 8, 8, 8, 8, 8, 8, 8, 8, 8, 8, 8, 8, 8, 8, 8, 8, 8, 8]) rfl ist9 rfl rfl rfl (by omega) rfl ?_)
        first | refine aops_v rfl rfl rfl (a_conv rfl hu5 ik3 rfl (by simp only [Go.AL.lo, Go.AL.hi]; omega) ?_) | refine aops_v rfl rfl rfl (a_conv_wrap rfl hu5 ik3 rfl ?_)
        first | refine aops_v rfl rfl rfl (a_add rfl rfl rfl (by simp only [Go.AL.lo, Go.AL.hi]; omega) ?_) | refine aops_v rfl rfl rfl (a_int rfl rfl rfl rfl ?_)
        refine aops_v rfl rfl rfl (a_assign rfl rfl ?_)
        refine aops_nil ?_
        refine thenE_n ?_
        refine awp_ret ?_
        change Gst _ _ _ _
        refine fin1 rfl ?_
        first | exact ⟨rfl, rfl⟩ | exact ⟨by simp [*], rfl⟩

theorem blen_spec  (σ : AHeap)  : ASpec Tryz.prog 123 [u64 1] σ fun r σ' => r = .ret (int 1) ∧ σ' = σ := by
  refine aspec_enter (N := 8) (rs := [.tmp 2]) Tryz.func123 rfl rfl rfl rfl rfl rfl ?_
  refine awp_seq ?_
  refine awp_region ?_
  refine aops_v rfl rfl rfl (a_assign rfl rfl ?_)
  refine aops_nil ?_
  refine thenE_n ?_
  refine awp_seq ?_
  refine awp_cond (b := false) rfl (fun h => Bool.noConfusion h) (fun _ => ?_)
  refine awp_skip ?_
  refine thenE_n ?_
  refine awp_seq ?_
  refine awp_region ?_
  refine aops_v rfl rfl rfl (a_move rfl rfl ?_)
  refine aops_call_eq rfl rfl rfl rfl cf148 rfl (len64_spec _) ?_
  refine aops_v rfl rfl rfl (a_assign rfl rfl ?_)
  refine aops_nil ?_
  refine thenE_n ?_
  refine awp_ret ?_
  change Gst _ _ _ _
  refine fin1 rfl ?_
  first | exact ⟨rfl, rfl⟩ | exact ⟨by simp [*], rfl⟩

theorem ins1_spec (l f : AV) (σ : AHeap)  : ASpec Tryz.prog 139 [l, int 0, int 1, f] σ fun r σ' => r = .ret (.tup []) ∧ σ' = σ := by
  refine aspec_enter (N := 53) (rs := []) Tryz.func139 rfl rfl rfl rfl rfl rfl ?_
  refine awp_seq ?_
  refine awp_region ?_
  refine aops_v rfl rfl rfl (a_move rfl rfl ?_)
  first | refine aops_v rfl rfl rfl (a_add rfl rfl rfl (by simp only [Go.AL.lo, Go.AL.hi]; omega) ?_) | refine aops_v rfl rfl rfl (a_int rfl rfl rfl rfl ?_)
  refine aops_v rfl rfl rfl (a_assign rfl rfl ?_)
  refine aops_nil ?_
  refine thenE_n ?_
  refine awp_block ?_
  refine awp_loop (S := Unit) (fun _ => [(2, int 1), (8, int 1)]) (fun _ => σ) (fun _ => True) (fun _ => 0) ⟨(), by simp, EL, rfl⟩ ?_
  rintro _ _
  refine awp_seq ?_
  refine awp_seq ?_
  refine awp_region ?_
  refine aops_v rfl rfl rfl (a_move rfl rfl ?_)
  refine aops_v rfl rfl rfl (a_move rfl rfl ?_)
  refine aops_v rfl rfl rfl (a_int rfl rfl rfl rfl ?_)
  refine aops_nil ?_
  refine thenE_n ?_
  refine awp_cond rfl (fun h1 => ?_) (fun h1 => ?_)
  · try simp only [zz1, zz2, ne_eq, zz4, zz5, zz6, gt_iff_lt, ge_iff_le, zz9, zz0] at h1
    omega
  · try simp only [zz1, zz2, ne_eq, zz4, zz5, zz6, gt_iff_lt, ge_iff_le, zz9, zz0] at h1
    refine awp_exit ?_
    refine thenE_x ?_
    refine thenE_x ?_
    refine blockE_x ?_
    change Gst _ _ _ _
    refine fin0 rfl ?_
    first | exact ⟨rfl, rfl⟩ | exact ⟨by simp [*], rfl⟩

theorem pdq1_spec (l f : AV) (σ : AHeap)  : ASpec Tryz.prog 122 [l, int 0, int 1, int 1, f] σ fun r σ' => r = .ret (.tup []) ∧ σ' = σ := by
  refine aspec_enter (N := 148) (rs := []) Tryz.func122 rfl rfl rfl rfl rfl rfl ?_
  refine awp_seq ?_
  refine awp_region ?_
  refine aops_v rfl rfl rfl (a_assign rfl rfl ?_)
  refine aops_nil ?_
  refine thenE_n ?_
  refine awp_seq ?_
  refine awp_region ?_
  refine aops_v rfl rfl rfl (a_assign rfl rfl ?_)
  refine aops_nil ?_
  refine thenE_n ?_
  refine awp_block ?_
  refine awp_loop (S := Unit) (fun _ => [(0, l), (1, int 0), (2, int 1), (4, f)]) (fun _ => σ) (fun _ => True) (fun _ => 0) ⟨(), by simp, EL, rfl⟩ ?_
  rintro _ _
  refine awp_block ?_
  refine awp_seq ?_
  refine awp_region ?_
  refine aops_v rfl rfl rfl (a_move rfl rfl ?_)
  refine aops_v rfl rfl rfl (a_move rfl rfl ?_)
  first | refine aops_v rfl rfl rfl (a_sub rfl rfl rfl (by simp only [Go.AL.lo, Go.AL.hi]; omega) ?_) | refine aops_v rfl rfl rfl (a_int rfl rfl rfl rfl ?_)
  refine aops_v rfl rfl rfl (a_assign rfl rfl ?_)
  refine aops_nil ?_
  refine thenE_n ?_
  refine awp_seq ?_
  refine awp_seq ?_
  refine awp_region ?_
  refine aops_v rfl rfl rfl (a_move rfl rfl ?_)
  refine aops_v rfl rfl rfl (a_int rfl rfl rfl rfl ?_)
  refine aops_nil ?_
  refine thenE_n ?_
  refine awp_cond rfl (fun h1 => ?_) (fun h1 => ?_)
  · try simp only [zz1, zz2, ne_eq, zz4, zz5, zz6, gt_iff_lt, ge_iff_le, zz9, zz0] at h1
    refine awp_seq ?_
    refine awp_region ?_
    refine aops_v rfl rfl rfl (a_move rfl rfl ?_)
    refine aops_v rfl rfl rfl (a_move rfl rfl ?_)
    refine aops_v rfl rfl rfl (a_move rfl rfl ?_)
    refine aops_v rfl rfl rfl (a_move rfl rfl ?_)
    refine aops_call_eq rfl rfl rfl rfl cf139 rfl (ins1_spec l f _) ?_
    refine aops_nil ?_
    refine thenE_n ?_
    refine awp_ret ?_
    change Gst _ _ _ _
    refine fin0 rfl ?_
    first | exact ⟨rfl, rfl⟩ | exact ⟨by simp [*], rfl⟩
  · try simp only [zz1, zz2, ne_eq, zz4, zz5, zz6, gt_iff_lt, ge_iff_le, zz9, zz0] at h1
    omega

theorem sort1_spec (cs : List AV) (ex : Bool) (f : AV) (σ : AHeap)  : ASpec Tryz.prog 95 [.lst cs 1 ex, f] σ fun r σ' => r = .ret (.tup []) ∧ σ' = σ := by
  refine aspec_enter (N := 14) (rs := []) Tryz.func95 rfl rfl rfl rfl rfl rfl ?_
  refine awp_seq ?_
  refine awp_region ?_
  refine aops_v rfl rfl rfl (a_move rfl rfl ?_)
  first | refine aops_v rfl rfl rfl (a_len_lst rfl isl42 rfl ?_) | refine aops_v rfl rfl rfl (a_len rfl isl42 rfl ?_) | refine aops_v rfl rfl rfl (a_len_slg rfl isl42 rfl ?_) | refine aops_v rfl rfl rfl (a_len_nil rfl isl42 rfl ?_)
  refine aops_v rfl rfl rfl (a_assign rfl rfl ?_)
  refine aops_nil ?_
  refine thenE_n ?_
  refine awp_region ?_
  refine aops_v rfl rfl rfl (a_move rfl rfl ?_)
  refine aops_v rfl rfl rfl (a_move rfl rfl ?_)
  refine aops_v rfl rfl rfl (a_move rfl rfl ?_)
  first | refine aops_v rfl rfl rfl (a_conv rfl hu3 ik137 rfl (by simp only [Go.AL.lo, Go.AL.hi]; omega) ?_) | refine aops_v rfl rfl rfl (a_conv_wrap rfl hu3 ik137 rfl ?_)
  refine aops_call_eq rfl rfl rfl rfl cf123 rfl (blen_spec _) ?_
  refine aops_v rfl rfl rfl (a_move rfl rfl ?_)
  refine aops_call_eq rfl rfl rfl rfl cf122 rfl (pdq1_spec _ f _) ?_
  refine aops_nil ?_
  change Gst _ _ _ _
  refine fin0 rfl ?_
  first | exact ⟨rfl, rfl⟩ | exact ⟨by simp [*], rfl⟩

theorem clone1_spec (a b : List UInt8) (ex : Bool) (σ : AHeap)  : ASpec Tryz.prog 94 [.lst [str a, str b] 1 ex] σ fun r σ' => r = .ret (.lst [str a, str b] 1 false) ∧ σ' = σ := by
  refine aspec_enter (N := 8) (rs := [.tmp 2]) Tryz.func94 rfl rfl rfl rfl rfl rfl ?_
  refine awp_seq ?_
  refine awp_region ?_
  refine aops_v rfl rfl rfl (a_assign rfl rfl ?_)
  refine aops_nil ?_
  refine thenE_n ?_
  refine awp_seq ?_
  refine awp_seq ?_
  refine awp_region ?_
  refine aops_v rfl rfl rfl (a_move rfl rfl ?_)
  first | refine aops_v rfl rfl rfl (a_arr_nil rfl rfl isl42 rfl rfl ?_) | refine aops_v rfl rfl rfl (a_lst_nil rfl rfl isl42 rfl rfl ?_) | refine aops_v rfl rfl rfl (a_nilS_nil rfl rfl isl42 rfl rfl ?_) | refine aops_lst_nil rfl rfl rfl rfl rfl isl42 rfl rfl (fun b4 hb4 => ?_)
  refine aops_nil ?_
  refine thenE_n ?_
  refine awp_cond rfl (fun h1 => ?_) (fun h1 => ?_)
  · try simp only [zz1, zz2, ne_eq, zz4, zz5, zz6, gt_iff_lt, ge_iff_le, zz9, zz0] at h1
    exact absurd h1 (by decide)
  · try simp only [zz1, zz2, ne_eq, zz4, zz5, zz6, gt_iff_lt, ge_iff_le, zz9, zz0] at h1
    refine awp_skip ?_
    refine thenE_n ?_
    refine awp_seq ?_
    refine awp_region ?_
    refine aops_v rfl rfl rfl (a_buildSlice (res := []) rfl sk42 rfl rfl rfl ?_)
    refine aops_v rfl rfl rfl (a_move rfl rfl ?_)
    refine aops_v rfl rfl rfl (a_append_lit rfl sk42 rfl rfl (.lst (by first | rfl | exact (flat_len encM_len _).symm | exact (flat_len encF_len _).symm)) (rfl) (by omega) (by simp only [maxLen]; omega) ?_)
    refine aops_v rfl rfl rfl (a_assign rfl rfl ?_)
    refine aops_nil ?_
    refine thenE_n ?_
    refine awp_ret ?_
    change Gst _ _ _ _
    refine fin1 rfl ?_
    first | exact ⟨rfl, rfl⟩ | exact ⟨by simp [*], rfl⟩

theorem cloneMt_spec (l : List Mt) (ex : Bool) (σ : AHeap) (hl : l.length ≤ 1000000) : ASpec Tryz.prog 31 [.lst (l.flatMap encM) l.length ex] σ fun r σ' => r = .ret (.lst (l.flatMap encM) l.length false) ∧ σ' = σ := by
  refine aspec_enter (N := 8) (rs := [.tmp 2]) Tryz.func31 rfl rfl rfl rfl rfl rfl ?_
  refine awp_seq ?_
  refine awp_region ?_
  refine aops_v rfl rfl rfl (a_assign rfl rfl ?_)
  refine aops_nil ?_
  refine thenE_n ?_
  refine awp_seq ?_
  refine awp_seq ?_
  refine awp_region ?_
  refine aops_v rfl rfl rfl (a_move rfl rfl ?_)
  first | refine aops_v rfl rfl rfl (a_arr_nil rfl rfl isl23 rfl rfl ?_) | refine aops_v rfl rfl rfl (a_lst_nil rfl rfl isl23 rfl rfl ?_) | refine aops_v rfl rfl rfl (a_nilS_nil rfl rfl isl23 rfl rfl ?_) | refine aops_lst_nil rfl rfl rfl rfl rfl isl23 rfl rfl (fun b4 hb4 => ?_)
  refine aops_nil ?_
  refine thenE_n ?_
  refine awp_cond rfl (fun h1 => ?_) (fun h1 => ?_)
  · try simp only [zz1, zz2, ne_eq, zz4, zz5, zz6, gt_iff_lt, ge_iff_le, zz9, zz0] at h1
    obtain ⟨_, hl0⟩ := hb4 h1
    obtain rfl := List.eq_nil_of_length_eq_zero hl0
    refine awp_seq ?_
    refine awp_region ?_
    refine aops_v rfl rfl rfl (a_assign rfl rfl ?_)
    refine aops_nil ?_
    refine thenE_n ?_
    refine awp_ret ?_
    change Gst _ _ _ _
    refine gst_weak [(2, .lst [] 0 false)] ?_ ?_
    · intro p hp
      simp only [List.mem_singleton] at hp
      subst hp
      exact ⟨_, rfl, fun _ _ => weak_nil⟩
    refine fin1 rfl ?_
    exact ⟨rfl, rfl⟩
  · try simp only [zz1, zz2, ne_eq, zz4, zz5, zz6, gt_iff_lt, ge_iff_le, zz9, zz0] at h1
    refine awp_skip ?_
    refine thenE_n ?_
    refine awp_seq ?_
    refine awp_region ?_
    refine aops_v rfl rfl rfl (a_buildSlice (res := []) rfl sk23 rfl rfl rfl ?_)
    refine aops_v rfl rfl rfl (a_move rfl rfl ?_)
    refine aops_v rfl rfl rfl (a_append_lit rfl sk23 rfl rfl (.lst (by first | rfl | exact (flat_len encM_len _).symm | exact (flat_len encF_len _).symm)) (flat_ones encM_ones l) (by omega) (by simp only [maxLen]; omega) ?_)
    refine aops_v rfl rfl rfl (a_assign rfl rfl ?_)
    refine aops_nil ?_
    refine thenE_n ?_
    refine awp_ret ?_
    change Gst _ _ _ _
    refine fin1 rfl ?_
    first | exact ⟨rfl, rfl⟩ | exact ⟨by simp [*], rfl⟩

theorem cloneFl_spec (l : List Fl) (ex : Bool) (σ : AHeap) (hl : l.length ≤ 1000000) : ASpec Tryz.prog 32 [.lst (l.flatMap encF) l.length ex] σ fun r σ' => r = .ret (.lst (l.flatMap encF) l.length false) ∧ σ' = σ := by
  refine aspec_enter (N := 8) (rs := [.tmp 2]) Tryz.func32 rfl rfl rfl rfl rfl rfl ?_
  refine awp_seq ?_
  refine awp_region ?_
  refine aops_v rfl rfl rfl (a_assign rfl rfl ?_)
  refine aops_nil ?_
  refine thenE_n ?_
  refine awp_seq ?_
  refine awp_seq ?_
  refine awp_region ?_
  refine aops_v rfl rfl rfl (a_move rfl rfl ?_)
  first | refine aops_v rfl rfl rfl (a_arr_nil rfl rfl isl24 rfl rfl ?_) | refine aops_v rfl rfl rfl (a_lst_nil rfl rfl isl24 rfl rfl ?_) | refine aops_v rfl rfl rfl (a_nilS_nil rfl rfl isl24 rfl rfl ?_) | refine aops_lst_nil rfl rfl rfl rfl rfl isl24 rfl rfl (fun b4 hb4 => ?_)
  refine aops_nil ?_
  refine thenE_n ?_
  refine awp_cond rfl (fun h1 => ?_) (fun h1 => ?_)
  · try simp only [zz1, zz2, ne_eq, zz4, zz5, zz6, gt_iff_lt, ge_iff_le, zz9, zz0] at h1
    obtain ⟨_, hl0⟩ := hb4 h1
    obtain rfl := List.eq_nil_of_length_eq_zero hl0
    refine awp_seq ?_
    refine awp_region ?_
    refine aops_v rfl rfl rfl (a_assign rfl rfl ?_)
    refine aops_nil ?_
    refine thenE_n ?_
    refine awp_ret ?_
    change Gst _ _ _ _
    refine gst_weak [(2, .lst [] 0 false)] ?_ ?_
    · intro p hp
      simp only [List.mem_singleton] at hp
      subst hp
      exact ⟨_, rfl, fun _ _ => weak_nil⟩
    refine fin1 rfl ?_
    exact ⟨rfl, rfl⟩
  · try simp only [zz1, zz2, ne_eq, zz4, zz5, zz6, gt_iff_lt, ge_iff_le, zz9, zz0] at h1
    refine awp_skip ?_
    refine thenE_n ?_
    refine awp_seq ?_
    refine awp_region ?_
    refine aops_v rfl rfl rfl (a_buildSlice (res := []) rfl sk24 rfl rfl rfl ?_)
    refine aops_v rfl rfl rfl (a_move rfl rfl ?_)
    refine aops_v rfl rfl rfl (a_append_lit rfl sk24 rfl rfl (.lst (by first | rfl | exact (flat_len encM_len _).symm | exact (flat_len encF_len _).symm)) (flat_ones encF_ones l) (by omega) (by simp only [maxLen]; omega) ?_)
    refine aops_v rfl rfl rfl (a_assign rfl rfl ?_)
    refine aops_nil ?_
    refine thenE_n ?_
    refine awp_ret ?_
    change Gst _ _ _ _
    refine fin1 rfl ?_
    first | exact ⟨rfl, rfl⟩ | exact ⟨by simp [*], rfl⟩

theorem canon1_spec (s : List UInt8) (σ : AHeap)  : ASpec Tryz.prog 64 [.lst [str s, str []] 1 true] σ fun r σ' => (∃ a, r = .ret (.tup [a, int (if nameP s = true then 0 else 6)])) ∧ σ' = σ := by
  refine aspec_enter (N := 60) (rs := [.tmp 2, .tmp 3]) Tryz.func64 rfl rfl rfl rfl rfl rfl ?_
  refine awp_seq ?_
  refine awp_region ?_
  refine aops_v rfl rfl rfl (a_assign rfl rfl ?_)
  refine aops_v rfl rfl rfl (a_assign rfl rfl ?_)
  refine aops_nil ?_
  refine thenE_n ?_
  refine awp_seq ?_
  refine awp_seq ?_
  refine awp_region ?_
  refine aops_v rfl rfl rfl (a_move rfl rfl ?_)
  first | refine aops_v rfl rfl rfl (a_len_lst rfl isl42 rfl ?_) | refine aops_v rfl rfl rfl (a_len rfl isl42 rfl ?_) | refine aops_v rfl rfl rfl (a_len_slg rfl isl42 rfl ?_) | refine aops_v rfl rfl rfl (a_len_nil rfl isl42 rfl ?_)
  refine aops_v rfl rfl rfl (a_int rfl rfl rfl rfl ?_)
  refine aops_nil ?_
  refine thenE_n ?_
  refine awp_cond rfl (fun h1 => ?_) (fun h1 => ?_)
  · try simp only [zz1, zz2, ne_eq, zz4, zz5, zz6, gt_iff_lt, ge_iff_le, zz9, zz0] at h1
    omega
  · try simp only [zz1, zz2, ne_eq, zz4, zz5, zz6, gt_iff_lt, ge_iff_le, zz9, zz0] at h1
    refine awp_skip ?_
    refine thenE_n ?_
    refine awp_seq ?_
    refine awp_seq ?_
    refine awp_region ?_
    refine aops_v rfl rfl rfl (a_move rfl rfl ?_)
    first | refine aops_v rfl rfl rfl (a_len_lst rfl isl42 rfl ?_) | refine aops_v rfl rfl rfl (a_len rfl isl42 rfl ?_) | refine aops_v rfl rfl rfl (a_len_slg rfl isl42 rfl ?_) | refine aops_v rfl rfl rfl (a_len_nil rfl isl42 rfl ?_)
    refine aops_v rfl rfl rfl (a_move rfl rfl ?_)
    refine aops_nil ?_
    refine thenE_n ?_
    refine awp_block ?_
    refine awp_loop (S := Nat) (fun i => [(0, .lst [str s, str []] 1 true), (11, .lst [str s, str []] 1 true), (12, int 1), (13, int i)]) (fun _ => σ) (fun i => i ≤ 1 ∧ (i = 1 → nameP s = true)) (fun i => 1 - i) ⟨0, by simp, EL, rfl⟩ ?_
    rintro i ⟨hi, hJ⟩
    refine awp_seq ?_
    refine awp_region ?_
    refine aops_v rfl rfl rfl (a_int rfl rfl rfl rfl ?_)
    refine aops_nil ?_
    refine thenE_n ?_
    refine awp_seq ?_
    refine awp_cond rfl (fun h2 => ?_) (fun h2 => ?_)
    · try simp only [zz1, zz2, ne_eq, zz4, zz5, zz6, gt_iff_lt, ge_iff_le, zz9, zz0] at h2
      obtain rfl : i = 0 := by omega
      refine awp_skip ?_
      refine thenE_n ?_
      refine awp_seq ?_
      refine awp_block ?_
      refine awp_seq ?_
      refine awp_region ?_
      first | refine aops_v rfl rfl rfl (a_indexAddr_lst rfl ek42 rfl rfl NT (by omega) (by omega) ?_) | refine aops_v rfl rfl rfl (a_indexAddr rfl ek42 rfl rfl NT (by omega) (by omega) ?_)
      first | refine aops_v rfl rfl rfl (a_load_pin rfl tk54 rfl rfl ?_) | refine aops_v rfl rfl rfl (a_load rfl tk54 rfl HP rfl ?_)
      refine aops_var_frz rfl rfl rfl rfl rfl rfl rfl tk54 zk54 rfl rfl rfl rfl rfl ?_
      refine aops_nil ?_
      refine thenE_n ?_
      refine awp_block ?_
      refine awp_seq ?_
      refine awp_region ?_
      first | refine aops_v rfl rfl rfl (a_fieldAddr rfl fk54_0 rfl rfl ?_) | refine aops_v rfl rfl rfl (a_fieldAddr_pin rfl fk54_0 rfl rfl ?_)
      first | refine aops_v rfl rfl rfl (a_load_pin rfl tk9 rfl rfl ?_) | refine aops_v rfl rfl rfl (a_load rfl tk9 rfl HP rfl ?_)
      refine aops_call_eq rfl rfl rfl rfl cf93 rfl (lname_spec _ _) ?_
      refine aops_v rfl rfl rfl (a_not rfl rfl ?_)
      refine aops_v rfl rfl rfl (a_assign rfl rfl ?_)
      refine aops_nil ?_
      refine thenE_n ?_
      refine awp_cond rfl (fun h3 => ?_) (fun h3 => ?_)
      · try simp only [zz1, zz2, ne_eq, zz4, zz5, zz6, gt_iff_lt, ge_iff_le, zz9, zz0] at h3
        have hn := h3
        refine awp_seq ?_
        refine awp_region ?_
        refine aops_v rfl rfl rfl (a_assign rfl rfl ?_)
        refine aops_v rfl rfl rfl (a_assign rfl rfl ?_)
        refine aops_nil ?_
        refine thenE_n ?_
        refine awp_ret ?_
        change Gst _ _ _ _
        refine fin2 rfl ?_
        exact ⟨⟨_, by rw [if_neg (by simp [hn])]⟩, rfl⟩
      · try simp only [zz1, zz2, ne_eq, zz4, zz5, zz6, gt_iff_lt, ge_iff_le, zz9, zz0] at h3
        have hn := h3
        refine awp_seq ?_
        refine awp_region ?_
        first | refine aops_v rfl rfl rfl (a_fieldAddr rfl fk54_1 rfl rfl ?_) | refine aops_v rfl rfl rfl (a_fieldAddr_pin rfl fk54_1 rfl rfl ?_)
        first | refine aops_v rfl rfl rfl (a_load_pin rfl tk9 rfl rfl ?_) | refine aops_v rfl rfl rfl (a_load rfl tk9 rfl HP rfl ?_)
        refine aops_v rfl rfl rfl (a_len_str rfl ist9 rfl ?_)
        refine aops_v rfl rfl rfl (a_int rfl rfl rfl rfl ?_)
        refine aops_v rfl rfl rfl (a_assign rfl rfl ?_)
        refine aops_nil ?_
        refine thenE_n ?_
        refine awp_cond rfl (fun h4 => ?_) (fun h4 => ?_)
        · try simp only [zz1, zz2, ne_eq, zz4, zz5, zz6, gt_iff_lt, ge_iff_le, zz9, zz0] at h4
          simp at h4
        · try simp only [zz1, zz2, ne_eq, zz4, zz5, zz6, gt_iff_lt, ge_iff_le, zz9, zz0] at h4
          refine awp_seq ?_
          refine awp_region ?_
          first | refine aops_v rfl rfl rfl (a_fieldAddr rfl fk54_1 rfl rfl ?_) | refine aops_v rfl rfl rfl (a_fieldAddr_pin rfl fk54_1 rfl rfl ?_)
          first | refine aops_v rfl rfl rfl (a_load_pin rfl tk9 rfl rfl ?_) | refine aops_v rfl rfl rfl (a_load rfl tk9 rfl HP rfl ?_)
          refine aops_call_eq rfl rfl rfl rfl cf19 rfl (valid_spec _ _ (by simp)) ?_
          refine aops_v rfl rfl rfl (a_not rfl rfl ?_)
          refine aops_v rfl rfl rfl (a_assign rfl rfl ?_)
          refine aops_nil ?_
          refine thenE_n ?_
          refine awp_cond rfl (fun h5 => ?_) (fun h5 => ?_)
          · try simp only [zz1, zz2, ne_eq, zz4, zz5, zz6, gt_iff_lt, ge_iff_le, zz9, zz0] at h5
            exact absurd h5 (by decide)
          · try simp only [zz1, zz2, ne_eq, zz4, zz5, zz6, gt_iff_lt, ge_iff_le, zz9, zz0] at h5
            refine awp_skip ?_
            refine blockE_n ?_
            refine blockE_n ?_
            refine thenE_n ?_
            refine awp_region ?_
            first | refine aops_v rfl rfl rfl (a_add rfl rfl rfl (by simp only [Go.AL.lo, Go.AL.hi]; omega) ?_) | refine aops_v rfl rfl rfl (a_int rfl rfl rfl rfl ?_)
            refine aops_v rfl rfl rfl (a_move rfl rfl ?_)
            refine aops_nil ?_
            refine thenE_n ?_
            exact .done ⟨1, ⟨by omega, fun _ => hn⟩, by omega, EL, rfl⟩
    · try simp only [zz1, zz2, ne_eq, zz4, zz5, zz6, gt_iff_lt, ge_iff_le, zz9, zz0] at h2
      refine awp_exit ?_
      refine thenE_x ?_
      refine thenE_x ?_
      refine blockE_x ?_
      refine thenE_n ?_
      refine awp_seq ?_
      refine awp_region ?_
      refine aops_v rfl rfl rfl (a_move rfl rfl ?_)
      refine aops_call_eq rfl rfl rfl rfl cf94 rfl (clone1_spec _ _ _ _) ?_
      refine aops_v rfl rfl rfl (a_assign rfl rfl ?_)
      refine aops_nil ?_
      refine thenE_n ?_
      refine awp_seq ?_
      refine awp_region ?_
      refine aops_v rfl rfl rfl (a_move rfl rfl ?_)
      refine aops_call_eq rfl rfl rfl rfl cf95 rfl (sort1_spec _ _ _ _) ?_
      refine aops_nil ?_
      refine thenE_n ?_
      refine awp_seq ?_
      refine awp_seq ?_
      refine awp_region ?_
      refine aops_v rfl rfl rfl (a_move rfl rfl ?_)
      first | refine aops_v rfl rfl rfl (a_len_lst rfl isl42 rfl ?_) | refine aops_v rfl rfl rfl (a_len rfl isl42 rfl ?_) | refine aops_v rfl rfl rfl (a_len_slg rfl isl42 rfl ?_) | refine aops_v rfl rfl rfl (a_len_nil rfl isl42 rfl ?_)
      refine aops_v rfl rfl rfl (a_move rfl rfl ?_)
      refine aops_nil ?_
      refine thenE_n ?_
      refine awp_block ?_
      refine awp_loop (S := Nat) (fun i => [(6, .lst [str s, str []] 1 false), (38, int 1), (39, int i)]) (fun _ => σ) (fun i => i ≤ 1) (fun i => 1 - i) ⟨0, by simp, EL, rfl⟩ ?_
      rintro j hj
      refine awp_seq ?_
      refine awp_region ?_
      refine aops_v rfl rfl rfl (a_int rfl rfl rfl rfl ?_)
      refine aops_nil ?_
      refine thenE_n ?_
      refine awp_seq ?_
      refine awp_cond rfl (fun h6 => ?_) (fun h6 => ?_)
      · try simp only [zz1, zz2, ne_eq, zz4, zz5, zz6, gt_iff_lt, ge_iff_le, zz9, zz0] at h6
        obtain rfl : j = 0 := by omega
        refine awp_skip ?_
        refine thenE_n ?_
        refine awp_seq ?_
        refine awp_block ?_
        refine awp_seq ?_
        refine awp_region ?_
        refine aops_v rfl rfl rfl (a_move rfl rfl ?_)
        refine aops_v rfl rfl rfl (a_assign rfl rfl ?_)
        refine aops_nil ?_
        refine thenE_n ?_
        refine awp_seq ?_
        refine awp_draw [0, 1, 3, 7, 7, 31, 63, 127, 7, 7, 519, 1799, 3847, 7943, 16383, 32767] 16 rfl (by decide +kernel) (by decide +kernel) (by decide +kernel) rfl ?_
        simp only [List.take_succ_cons, List.take_zero, List.take_nil, List.drop_succ_cons, List.drop_zero, List.drop_nil]
        refine dp_val rfl (apure_val (a_move rfl rfl pure_done)) rfl ?_
        refine dp_val rfl (apure_val (a_int rfl rfl rfl rfl pure_done)) rfl ?_
        refine dp_val rfl (apure_val (a_move rfl rfl pure_done)) rfl ?_
        refine dp_bool (fun h7 => ?_) (fun h7 => ?_)
        · try simp only [zz1, zz2, ne_eq, zz4, zz5, zz6, gt_iff_lt, ge_iff_le, zz9, zz0] at h7
          simp at h7
        · try simp only [zz1, zz2, ne_eq, zz4, zz5, zz6, gt_iff_lt, ge_iff_le, zz9, zz0] at h7
          refine dp_no rfl rfl rfl rfl rfl ?_
          refine dp_no rfl rfl rfl rfl rfl ?_
          refine dp_no rfl rfl rfl rfl rfl ?_
          refine dp_no rfl rfl rfl rfl rfl ?_
          refine dp_no rfl rfl rfl rfl rfl ?_
          refine dp_no rfl rfl rfl rfl rfl ?_
          refine dp_no rfl rfl rfl rfl rfl ?_
          refine dp_no rfl rfl rfl rfl rfl ?_
          refine dp_no rfl rfl rfl rfl rfl ?_
          refine dp_no rfl rfl rfl rfl rfl ?_
          refine dp_no rfl rfl rfl rfl rfl ?_
          refine dp_no rfl rfl rfl rfl rfl ?_
          refine dp_val rfl (apure_val (a_pick rfl rfl rfl pure_done)) rfl ?_
          change AOps _ _ _ _ _ _ _
          refine aops_nil ?_
          refine thenE_n ?_
          refine awp_cond (b := false) rfl (fun h => Bool.noConfusion h) (fun _ => ?_)
          refine awp_skip ?_
          refine blockE_n ?_
          refine thenE_n ?_
          refine awp_region ?_
          first | refine aops_v rfl rfl rfl (a_add rfl rfl rfl (by simp only [Go.AL.lo, Go.AL.hi]; omega) ?_) | refine aops_v rfl rfl rfl (a_int rfl rfl rfl rfl ?_)
          refine aops_v rfl rfl rfl (a_move rfl rfl ?_)
          refine aops_nil ?_
          refine thenE_n ?_
          exact .done ⟨1, by omega, by omega, EL, rfl⟩
      · try simp only [zz1, zz2, ne_eq, zz4, zz5, zz6, gt_iff_lt, ge_iff_le, zz9, zz0] at h6
        refine awp_exit ?_
        refine thenE_x ?_
        refine thenE_x ?_
        refine blockE_x ?_
        refine thenE_n ?_
        refine awp_seq ?_
        refine awp_region ?_
        refine aops_v rfl rfl rfl (a_move rfl rfl ?_)
        refine aops_v rfl rfl rfl (a_assign rfl rfl ?_)
        refine aops_v rfl rfl rfl (a_assign rfl rfl ?_)
        refine aops_nil ?_
        refine thenE_n ?_
        refine awp_ret ?_
        change Gst _ _ _ _
        refine fin2 rfl ?_
        have hn := hJ (by omega)
        exact ⟨⟨_, by rw [if_pos hn]⟩, rfl⟩

theorem named_spec (s : List UInt8) (σ : AHeap)  : ASpec Tryz.prog 36 [str s] σ fun r σ' => r = .ret (boo (nameP s)) ∧ σ' = σ := by
  refine aspec_enter (N := 14) (rs := [.tmp 2]) Tryz.func36 rfl rfl rfl rfl rfl rfl ?_
  refine awp_seq ?_
  refine awp_region ?_
  refine aops_v rfl rfl rfl (a_assign rfl rfl ?_)
  refine aops_nil ?_
  refine thenE_n ?_
  refine awp_seq ?_
  refine awp_region ?_
  refine aops_v rfl rfl rfl (a_move rfl rfl ?_)
  refine aops_v rfl rfl rfl (a_build (res := [_, _]) rfl bk54 rfl rfl ?_)
  refine aops_v rfl rfl rfl (a_buildSlice (res := [_, _]) rfl sk42 rfl rfl rfl ?_)
  refine aops_call_any rfl rfl rfl rfl cf64 rfl (canon1_spec s _) ?_ ?_
  rotate_left
  · rintro c σ' ⟨⟨a, h⟩, _⟩
    exact absurd h (by simp)
  rintro a' σ' ⟨⟨a, h⟩, rfl⟩
  simp only [AEnd.ret.injEq] at h
  subst h
  refine aops_v rfl rfl rfl (a_move rfl rfl ?_)
  refine aops_v rfl rfl rfl (a_extract rfl rfl rfl ?_)
  refine aops_v rfl rfl rfl (a_extract rfl rfl rfl ?_)
  refine aops_v rfl rfl rfl (a_assign rfl rfl ?_)
  refine aops_v rfl rfl rfl (a_assign rfl rfl ?_)
  refine aops_nil ?_
  refine thenE_n ?_
  refine awp_seq ?_
  refine awp_region ?_
  refine aops_v rfl rfl rfl (a_move rfl rfl ?_)
  refine aops_v rfl rfl rfl (a_int rfl rfl rfl rfl ?_)
  refine aops_v rfl rfl rfl (a_assign rfl rfl ?_)
  refine aops_nil ?_
  refine thenE_n ?_
  refine awp_ret ?_
  change Gst _ _ _ _
  refine fin1 rfl ?_
  exact ⟨by cases nameP s <;> simp, rfl⟩

theorem all_spec (q : Qr) (ex ex' : Bool) (σ : AHeap) (hl : q.ms.length ≤ 1000000) (hl2 : q.fs.length ≤ 1000000) : ASpec Tryz.prog 33 [.agg (encQ q ex ex')] σ fun r σ' => r = .ret (.lst ((allP q).flatMap encF) (allP q).length false) ∧ σ' = σ := by
  unfold encQ
  refine aspec_enter (N := 26) (rs := [.tmp 2]) Tryz.func33 rfl rfl rfl rfl rfl rfl ?_
  refine awp_seq ?_
  refine awp_region ?_
  refine aops_v rfl rfl rfl (a_box_frz rfl rfl rfl ?_)
  refine aops_v rfl rfl rfl (a_assign rfl rfl ?_)
  refine aops_nil ?_
  refine thenE_n ?_
  refine awp_seq ?_
  refine awp_region ?_
  refine aops_v rfl rfl rfl (a_assign rfl rfl ?_)
  refine aops_nil ?_
  refine thenE_n ?_
  refine awp_seq ?_
  refine awp_seq ?_
  refine awp_region ?_
  first | refine aops_v rfl rfl rfl (a_fieldAddr rfl fk26_0 rfl rfl ?_) | refine aops_v rfl rfl rfl (a_fieldAddr_pin rfl fk26_0 rfl rfl ?_)
  first | refine aops_v rfl rfl rfl (a_load_pin rfl tk23 rfl rfl ?_) | refine aops_v rfl rfl rfl (a_load rfl tk23 rfl HP rfl ?_)
  first | refine aops_v rfl rfl rfl (a_len_lst rfl isl23 rfl ?_) | refine aops_v rfl rfl rfl (a_len rfl isl23 rfl ?_) | refine aops_v rfl rfl rfl (a_len_slg rfl isl23 rfl ?_) | refine aops_v rfl rfl rfl (a_len_nil rfl isl23 rfl ?_)
  refine aops_v rfl rfl rfl (a_move rfl rfl ?_)
  refine aops_nil ?_
  refine thenE_n ?_
  refine awp_block ?_
  refine awp_fresh fun id0 hid0 => ?_
  refine awp_loop (S := Nat × Nat × Nat) (fun x => [(1, .pin (encQ q ex ex') 0), (7, .lst (q.ms.flatMap encM) q.ms.length ex), (8, int q.ms.length), (9, int x.1), (3, slv 2 (((q.ms.take x.1).map Mt.fl).flatMap encF) x.1 x.2.1 x.2.2)]) (fun x => slh σ 50 (((q.ms.take x.1).map Mt.fl).flatMap encF) x.1 x.2.1 x.2.2) (fun x => x.1 ≤ q.ms.length ∧ σ x.2.1 = none) (fun x => q.ms.length - x.1) ⟨(0, id0, 0), ⟨by simp, hid0⟩, EL, rfl⟩ ?_
  rintro ⟨i, id, ver⟩ ⟨hi, hid⟩
  dsimp only at hi hid
  dsimp only
  refine awp_seq ?_
  refine awp_region ?_
  refine aops_v rfl rfl rfl (a_int rfl rfl rfl rfl ?_)
  refine aops_nil ?_
  refine thenE_n ?_
  refine awp_seq ?_
  refine awp_cond rfl (fun h1 => ?_) (fun h1 => ?_)
  · try simp only [zz1, zz2, ne_eq, zz4, zz5, zz6, gt_iff_lt, ge_iff_le, zz9, zz0] at h1
    obtain ⟨m, hm⟩ : ∃ m, q.ms[i]? = some m := ⟨_, List.getElem?_eq_getElem (by omega)⟩
    have hlen : (((q.ms.take i).map Mt.fl).flatMap encF).length = i * 2 := by rw [flat_len encF_len]; simp; omega
    refine awp_skip ?_
    refine thenE_n ?_
    refine awp_seq ?_
    refine awp_block ?_
    refine awp_seq ?_
    refine awp_region ?_
    first | refine aops_v rfl rfl rfl (a_indexAddr_lst rfl ek23 rfl rfl NT (by omega) (by omega) ?_) | refine aops_v rfl rfl rfl (a_indexAddr rfl ek23 rfl rfl NT (by omega) (by omega) ?_)
    refine aops_v rfl rfl rfl (a_load_pin rfl tk48 rfl (ldv_flat encM_len hm) ?_)
    refine aops_var_frz rfl rfl rfl rfl rfl rfl rfl tk48 zk48 rfl rfl rfl rfl rfl ?_
    refine aops_nil ?_
    refine thenE_n ?_
    refine awp_region ?_
    refine aops_v rfl rfl rfl (a_move rfl rfl ?_)
    first | refine aops_v rfl rfl rfl (a_fieldAddr rfl fk48_1 rfl rfl ?_) | refine aops_v rfl rfl rfl (a_fieldAddr_pin rfl fk48_1 rfl rfl ?_)
    first | refine aops_v rfl rfl rfl (a_load_pin rfl tk3 rfl rfl ?_) | refine aops_v rfl rfl rfl (a_load rfl tk3 rfl HP rfl ?_)
    first | refine aops_v rfl rfl rfl (a_fieldAddr rfl fk48_2 rfl rfl ?_) | refine aops_v rfl rfl rfl (a_fieldAddr_pin rfl fk48_2 rfl rfl ?_)
    first | refine aops_v rfl rfl rfl (a_load_pin rfl tk9 rfl rfl ?_) | refine aops_v rfl rfl rfl (a_load rfl tk9 rfl HP rfl ?_)
    refine aops_v rfl rfl rfl (a_build (res := [_, _]) rfl bk50 rfl rfl ?_)
    refine aops_v rfl rfl rfl (a_buildSlice (res := [_, _]) rfl sk24 rfl rfl rfl ?_)
    refine aops_v rfl rfl rfl (a_append_sl rfl sk24 rfl hlen rfl (.lst rfl) rfl (by omega) (by simp only [maxLen]; omega) hid ?_)
    intro id20 ver20 hid20
    rw [show ((q.ms.take i).map Mt.fl).flatMap encF ++ [int m.op, str m.val] = ((q.ms.take (i + 1)).map Mt.fl).flatMap encF by rw [take_succ' hm]; simp [encF, Mt.fl]]
    refine aops_v rfl rfl rfl (a_assign rfl rfl ?_)
    refine aops_nil ?_
    refine blockE_n ?_
    refine thenE_n ?_
    refine awp_region ?_
    first | refine aops_v rfl rfl rfl (a_add rfl rfl rfl (by simp only [Go.AL.lo, Go.AL.hi]; omega) ?_) | refine aops_v rfl rfl rfl (a_int rfl rfl rfl rfl ?_)
    refine aops_v rfl rfl rfl (a_move rfl rfl ?_)
    refine aops_nil ?_
    refine thenE_n ?_
    exact .done ⟨(i + 1, id20, ver20), ⟨by dsimp only; omega, by assumption⟩, by dsimp only; omega, EL, rfl⟩
  · try simp only [zz1, zz2, ne_eq, zz4, zz5, zz6, gt_iff_lt, ge_iff_le, zz9, zz0] at h1
    obtain rfl : i = q.ms.length := by omega
    simp only [List.take_length]
    have hlen : ((q.ms.map Mt.fl).flatMap encF).length = q.ms.length * 2 := by rw [flat_len encF_len]; simp
    refine awp_exit ?_
    refine thenE_x ?_
    refine thenE_x ?_
    refine blockE_x ?_
    refine thenE_n ?_
    refine awp_seq ?_
    refine awp_region ?_
    refine aops_v rfl rfl rfl (a_move rfl rfl ?_)
    first | refine aops_v rfl rfl rfl (a_fieldAddr rfl fk26_1 rfl rfl ?_) | refine aops_v rfl rfl rfl (a_fieldAddr_pin rfl fk26_1 rfl rfl ?_)
    first | refine aops_v rfl rfl rfl (a_load_pin rfl tk24 rfl rfl ?_) | refine aops_v rfl rfl rfl (a_load rfl tk24 rfl HP rfl ?_)
    refine aops_v rfl rfl rfl (a_append_sl rfl sk24 rfl hlen rfl (.lst (flat_len encF_len _).symm) (flat_ones encF_ones _) (by omega) (by simp only [maxLen]; omega) hid ?_)
    intro id25 ver25 hid25
    rw [show (q.ms.map Mt.fl).flatMap encF ++ q.fs.flatMap encF = (allP q).flatMap encF by simp [allP], show q.ms.length + q.fs.length = (allP q).length by simp [allP]]
    refine aops_v rfl rfl rfl (a_assign rfl rfl ?_)
    refine aops_nil ?_
    refine thenE_n ?_
    refine awp_ret ?_
    change Gst _ _ _ _
    refine gst_sl 2 rfl (flat_len encF_len _) hid25 ?_
    refine fin1 rfl ?_
    exact ⟨rfl, rfl⟩

end Go.Proofs.YtnahdpjbddfhgaaGreatDoor
set_option linter.unusedVariables false
set_option linter.unusedSimpArgs false
namespace Go.Proofs.YtnahdpjbddfhgaaGreatDoor
open Go Go.AL
set_option maxRecDepth 100000

/-- a text of ASCII has no byte of 128 or more -/
theorem runeS_last {r : Int} (h : 128 ≤ r) : ∃ a b, runeS r = a ++ [b] ∧ 128 ≤ b.toNat ∧ a.length ≤ 3 := by
  unfold runeS Utf8.encode
  have key : ∀ n : Nat, 128 ≤ (UInt8.ofNat (0x80 + n % 64)).toNat := fun n => by
    rw [UInt8.toNat_ofNat']; omega
  have h0 : 128 ≤ (if Utf8.valid r = true then r.toNat else Utf8.runeError) := by
    split
    · omega
    · decide
  generalize (if Utf8.valid r = true then r.toNat else Utf8.runeError) = c at h0 ⊢
  simp only []
  rw [if_neg (by omega)]
  split
  · exact ⟨[_], _, rfl, key c, by simp⟩
  · split
    · exact ⟨[_, _], _, rfl, key c, by simp⟩
    · exact ⟨[_, _, _], _, rfl, key c, by simp⟩
theorem indexByte_none : ∀ {l : List UInt8} {c : UInt8}, (∀ x ∈ l, x ≠ c) → Lib.indexByte l c = -1
  | [], _, _ => rfl
  | b :: l, c, h => by
    have h1 : (b == c) = false := by simpa using h b List.mem_cons_self
    have h2 := indexByte_none (l := l) (c := c) fun x hx => h x (List.mem_cons_of_mem _ hx)
    simp [Lib.indexByte, h1, h2]
theorem ascii_ne {l : List UInt8} (hl : l.all (fun b => decide (b.toNat < 128)) = true) {c : UInt8} (hc : 128 ≤ c.toNat) : ∀ x ∈ l, x ≠ c := by
  intro x hx e
  subst e
  simp only [List.all_eq_true, decide_eq_true_eq] at hl
  have := hl x hx
  omega
theorem decR_ascii {c : UInt8} {r : List UInt8} (h : c.toNat < 128) : decR (c :: r) = (c.toNat, 1) := by
  unfold decR Utf8.decode
  have : (⟨(c :: r).toArray⟩ : ByteArray).get! (0 + 0) = c := by simp [ByteArray.get!]
  simp only [this]
  rw [if_pos h]
theorem decR_drop_ascii {s : List UInt8} (hs : s.all (fun b => decide (b.toNat < 128)) = true) {pos : Nat} (hp : pos < s.length) : (decR (s.drop pos)).1 < 128 := by
  have e : s.drop pos = s[pos] :: s.drop (pos + 1) := by rw [List.drop_eq_getElem_cons hp]
  simp only [List.all_eq_true, decide_eq_true_eq] at hs
  have := hs s[pos] (List.getElem_mem hp)
  rw [e, decR_ascii this]; exact this
theorem u8_back (b : UInt8) : ((b.toNat : Int)).toNat.toUInt8 = b := by simp

theorem validRune_spec (c : Int) (σ : AHeap)  : ASpec Tryz.prog 157 [.v (.int .i32 c)] σ fun r σ' => r = .ret (boo ((decide (0 ≤ c) && decide (c < 55296)) || (decide (57343 < c) && decide (c ≤ 1114111)))) ∧ σ' = σ := by
  refine aspec_enter (N := 17) (rs := [.tmp 2]) Tryz.func157 rfl rfl rfl rfl rfl rfl ?_
  refine awp_seq ?_
  refine awp_region ?_
  refine aops_v rfl rfl rfl (a_assign rfl rfl ?_)
  refine aops_nil ?_
  refine thenE_n ?_
  refine awp_seq ?_
  refine awp_block ?_
  refine awp_seq ?_
  refine awp_region ?_
  refine aops_v rfl rfl rfl (a_move rfl rfl ?_)
  refine aops_v rfl rfl rfl (a_int rfl rfl rfl rfl ?_)
  refine aops_v rfl rfl rfl (a_move rfl rfl ?_)
  refine aops_bool (fun h1 => ?_) (fun h1 => ?_)
  · try simp only [zz1, zz2, ne_eq, zz4, zz5, zz6, gt_iff_lt, ge_iff_le, zz9, zz0] at h1
    refine aops_yes rfl rfl rfl rfl ?_
    refine aops_v rfl rfl rfl (a_move rfl rfl ?_)
    refine aops_yes rfl rfl rfl rfl ?_
    refine aops_v rfl rfl rfl (a_int rfl rfl rfl rfl ?_)
    refine aops_v rfl rfl rfl (a_pick rfl rfl rfl ?_)
    refine aops_v rfl rfl rfl (a_assign rfl rfl ?_)
    refine aops_nil ?_
    refine thenE_n ?_
    refine awp_cond rfl (fun h2 => ?_) (fun h2 => ?_)
    · try simp only [zz1, zz2, ne_eq, zz4, zz5, zz6, gt_iff_lt, ge_iff_le, zz9, zz0] at h2
      refine awp_seq ?_
      refine awp_region ?_
      refine aops_v rfl rfl rfl (a_assign rfl rfl ?_)
      refine aops_nil ?_
      refine thenE_n ?_
      refine awp_ret ?_
      change Gst _ _ _ _
      refine fin1 rfl ?_
      exact ⟨by simp [*] <;> first | omega | (rw [eq_comm, Bool.eq_false_iff]; simp; omega), rfl⟩
    · try simp only [zz1, zz2, ne_eq, zz4, zz5, zz6, gt_iff_lt, ge_iff_le, zz9, zz0] at h2
      refine awp_seq ?_
      refine awp_region ?_
      refine aops_v rfl rfl rfl (a_move rfl rfl ?_)
      refine aops_v rfl rfl rfl (a_int rfl rfl rfl rfl ?_)
      refine aops_v rfl rfl rfl (a_move rfl rfl ?_)
      refine aops_bool (fun h3 => ?_) (fun h3 => ?_)
      · try simp only [zz1, zz2, ne_eq, zz4, zz5, zz6, gt_iff_lt, ge_iff_le, zz9, zz0] at h3
        refine aops_yes rfl rfl rfl rfl ?_
        refine aops_v rfl rfl rfl (a_move rfl rfl ?_)
        refine aops_yes rfl rfl rfl rfl ?_
        refine aops_v rfl rfl rfl (a_int rfl rfl rfl rfl ?_)
        refine aops_v rfl rfl rfl (a_pick rfl rfl rfl ?_)
        refine aops_v rfl rfl rfl (a_assign rfl rfl ?_)
        refine aops_nil ?_
        refine thenE_n ?_
        refine awp_cond rfl (fun h4 => ?_) (fun h4 => ?_)
        · try simp only [zz1, zz2, ne_eq, zz4, zz5, zz6, gt_iff_lt, ge_iff_le, zz9, zz0] at h4
          refine awp_seq ?_
          refine awp_region ?_
          refine aops_v rfl rfl rfl (a_assign rfl rfl ?_)
          refine aops_nil ?_
          refine thenE_n ?_
          refine awp_ret ?_
          change Gst _ _ _ _
          refine fin1 rfl ?_
          exact ⟨by simp [*] <;> first | omega | (rw [eq_comm, Bool.eq_false_iff]; simp; omega), rfl⟩
        · try simp only [zz1, zz2, ne_eq, zz4, zz5, zz6, gt_iff_lt, ge_iff_le, zz9, zz0] at h4
          refine awp_skip ?_
          refine blockE_n ?_
          refine thenE_n ?_
          refine awp_seq ?_
          refine awp_region ?_
          refine aops_v rfl rfl rfl (a_assign rfl rfl ?_)
          refine aops_nil ?_
          refine thenE_n ?_
          refine awp_ret ?_
          change Gst _ _ _ _
          refine fin1 rfl ?_
          exact ⟨by simp [*] <;> first | omega | (rw [eq_comm, Bool.eq_false_iff]; simp; omega), rfl⟩
      · try simp only [zz1, zz2, ne_eq, zz4, zz5, zz6, gt_iff_lt, ge_iff_le, zz9, zz0] at h3
        refine aops_no rfl rfl rfl rfl rfl rfl ?_
        refine aops_no rfl rfl rfl rfl rfl rfl ?_
        refine aops_v rfl rfl rfl (a_pick rfl rfl rfl ?_)
        refine aops_v rfl rfl rfl (a_assign rfl rfl ?_)
        refine aops_nil ?_
        refine thenE_n ?_
        refine awp_cond (b := false) rfl (fun h => Bool.noConfusion h) (fun _ => ?_)
        refine awp_skip ?_
        refine blockE_n ?_
        refine thenE_n ?_
        refine awp_seq ?_
        refine awp_region ?_
        refine aops_v rfl rfl rfl (a_assign rfl rfl ?_)
        refine aops_nil ?_
        refine thenE_n ?_
        refine awp_ret ?_
        change Gst _ _ _ _
        refine fin1 rfl ?_
        exact ⟨by simp [*] <;> first | omega | (rw [eq_comm, Bool.eq_false_iff]; simp; omega), rfl⟩
  · try simp only [zz1, zz2, ne_eq, zz4, zz5, zz6, gt_iff_lt, ge_iff_le, zz9, zz0] at h1
    refine aops_no rfl rfl rfl rfl rfl rfl ?_
    refine aops_no rfl rfl rfl rfl rfl rfl ?_
    refine aops_v rfl rfl rfl (a_pick rfl rfl rfl ?_)
    refine aops_v rfl rfl rfl (a_assign rfl rfl ?_)
    refine aops_nil ?_
    refine thenE_n ?_
    refine awp_cond (b := false) rfl (fun h => Bool.noConfusion h) (fun _ => ?_)
    refine awp_seq ?_
    refine awp_region ?_
    refine aops_v rfl rfl rfl (a_move rfl rfl ?_)
    refine aops_v rfl rfl rfl (a_int rfl rfl rfl rfl ?_)
    refine aops_v rfl rfl rfl (a_move rfl rfl ?_)
    refine aops_bool (fun h5 => ?_) (fun h5 => ?_)
    · try simp only [zz1, zz2, ne_eq, zz4, zz5, zz6, gt_iff_lt, ge_iff_le, zz9, zz0] at h5
      refine aops_yes rfl rfl rfl rfl ?_
      refine aops_v rfl rfl rfl (a_move rfl rfl ?_)
      refine aops_yes rfl rfl rfl rfl ?_
      refine aops_v rfl rfl rfl (a_int rfl rfl rfl rfl ?_)
      refine aops_v rfl rfl rfl (a_pick rfl rfl rfl ?_)
      refine aops_v rfl rfl rfl (a_assign rfl rfl ?_)
      refine aops_nil ?_
      refine thenE_n ?_
      refine awp_cond rfl (fun h6 => ?_) (fun h6 => ?_)
      · try simp only [zz1, zz2, ne_eq, zz4, zz5, zz6, gt_iff_lt, ge_iff_le, zz9, zz0] at h6
        refine awp_seq ?_
        refine awp_region ?_
        refine aops_v rfl rfl rfl (a_assign rfl rfl ?_)
        refine aops_nil ?_
        refine thenE_n ?_
        refine awp_ret ?_
        change Gst _ _ _ _
        refine fin1 rfl ?_
        exact ⟨by simp [*] <;> first | omega | (rw [eq_comm, Bool.eq_false_iff]; simp; omega), rfl⟩
      · try simp only [zz1, zz2, ne_eq, zz4, zz5, zz6, gt_iff_lt, ge_iff_le, zz9, zz0] at h6
        refine awp_skip ?_
        refine blockE_n ?_
        refine thenE_n ?_
        refine awp_seq ?_
        refine awp_region ?_
        refine aops_v rfl rfl rfl (a_assign rfl rfl ?_)
        refine aops_nil ?_
        refine thenE_n ?_
        refine awp_ret ?_
        change Gst _ _ _ _
        refine fin1 rfl ?_
        exact ⟨by simp [*] <;> first | omega | (rw [eq_comm, Bool.eq_false_iff]; simp; omega), rfl⟩
    · try simp only [zz1, zz2, ne_eq, zz4, zz5, zz6, gt_iff_lt, ge_iff_le, zz9, zz0] at h5
      refine aops_no rfl rfl rfl rfl rfl rfl ?_
      refine aops_no rfl rfl rfl rfl rfl rfl ?_
      refine aops_v rfl rfl rfl (a_pick rfl rfl rfl ?_)
      refine aops_v rfl rfl rfl (a_assign rfl rfl ?_)
      refine aops_nil ?_
      refine thenE_n ?_
      refine awp_cond (b := false) rfl (fun h => Bool.noConfusion h) (fun _ => ?_)
      refine awp_skip ?_
      refine blockE_n ?_
      refine thenE_n ?_
      refine awp_seq ?_
      refine awp_region ?_
      refine aops_v rfl rfl rfl (a_assign rfl rfl ?_)
      refine aops_nil ?_
      refine thenE_n ?_
      refine awp_ret ?_
      change Gst _ _ _ _
      refine fin1 rfl ?_
      exact ⟨by simp [*] <;> first | omega | (rw [eq_comm, Bool.eq_false_iff]; simp; omega), rfl⟩

theorem indexRuneN_spec (s : List UInt8) (c : Int) (σ : AHeap) (g1 : 128 ≤ c) (g2 : c ≤ 1114111) (g3 : c < 55296 ∨ 57343 < c) (hs : s.all (fun b => decide (b.toNat < 128)) = true) (g4 : 4 ≤ s.length) (g5 : s.length ≤ 1000) : ASpec Tryz.prog 133 [str s, .v (.int .i32 c)] σ fun r σ' => r = .ret (int (-1)) ∧ σ' = σ := by
  refine aspec_enter (N := 187) (rs := [.tmp 4]) Tryz.func133 rfl rfl rfl rfl rfl rfl ?_
  refine awp_seq ?_
  refine awp_region ?_
  refine aops_v rfl rfl rfl (a_assign rfl rfl ?_)
  refine aops_nil ?_
  refine thenE_n ?_
  refine awp_block ?_
  refine awp_seq ?_
  refine awp_region ?_
  refine aops_v rfl rfl rfl (a_move rfl rfl ?_)
  refine aops_v rfl rfl rfl (a_int rfl rfl rfl rfl ?_)
  refine aops_v rfl rfl rfl (a_move rfl rfl ?_)
  refine aops_bool (fun h1 => ?_) (fun h1 => ?_)
  · try simp only [zz1, zz2, ne_eq, zz4, zz5, zz6, gt_iff_lt, ge_iff_le, zz9, zz0] at h1
    refine aops_yes rfl rfl rfl rfl ?_
    refine aops_v rfl rfl rfl (a_move rfl rfl ?_)
    refine aops_yes rfl rfl rfl rfl ?_
    refine aops_v rfl rfl rfl (a_int rfl rfl rfl rfl ?_)
    refine aops_v rfl rfl rfl (a_pick rfl rfl rfl ?_)
    refine aops_v rfl rfl rfl (a_assign rfl rfl ?_)
    refine aops_nil ?_
    refine thenE_n ?_
    refine awp_cond rfl (fun h2 => ?_) (fun h2 => ?_)
    · try simp only [zz1, zz2, ne_eq, zz4, zz5, zz6, gt_iff_lt, ge_iff_le, zz9, zz0] at h2
      omega
    · try simp only [zz1, zz2, ne_eq, zz4, zz5, zz6, gt_iff_lt, ge_iff_le, zz9, zz0] at h2
      refine awp_seq ?_
      refine awp_region ?_
      refine aops_v rfl rfl rfl (a_move rfl rfl ?_)
      refine aops_v rfl rfl rfl (a_int rfl rfl rfl rfl ?_)
      refine aops_v rfl rfl rfl (a_assign rfl rfl ?_)
      refine aops_nil ?_
      refine thenE_n ?_
      refine awp_cond rfl (fun h3 => ?_) (fun h3 => ?_)
      · try simp only [zz1, zz2, ne_eq, zz4, zz5, zz6, gt_iff_lt, ge_iff_le, zz9, zz0] at h3
        refine awp_seq ?_
        refine awp_seq ?_
        refine awp_region ?_
        refine aops_v rfl rfl rfl (a_move rfl rfl ?_)
        refine aops_v rfl rfl rfl (a_range_str rfl ist9 rfl ?_)
        intro id175 hid175
        refine aops_nil ?_
        refine thenE_n ?_
        refine awp_block ?_
        refine awp_loop (S := Nat) (fun pos => [(175, .itr id175)]) (fun pos => upd σ id175 (.siter ⟨s.toArray⟩ pos)) (fun _ => True) (fun pos => s.length - pos) ⟨0, by simp, EL, rfl⟩ ?_
        intro pos _
        refine awp_seq ?_
        refine awp_region ?_
        refine aops_next rfl rfl rfl rfl rfl HP (fun h4 => ?_) (fun h4 => ?_)
        · try simp only [zz1, zz2, ne_eq, zz4, zz5, zz6, gt_iff_lt, ge_iff_le, zz9, zz0] at h4
          have hp := h4
          have hd := decR_drop_ascii hs hp
          obtain ⟨d, hc⟩ : ∃ c, (decR (s.drop pos)).1 = c := ⟨_, rfl⟩
          obtain ⟨wd, hw⟩ : ∃ wd, (decR (s.drop pos)).2 = wd := ⟨_, rfl⟩
          have hw1 := decR_width (s.drop pos)
          rw [hc] at hd
          rw [hc, hw]
          try simp only [upd_upd]
          refine aops_v rfl rfl rfl (a_extract rfl rfl rfl ?_)
          refine aops_nil ?_
          refine thenE_n ?_
          refine awp_seq ?_
          refine awp_cond (b := true) rfl (fun _ => ?_) (fun h => Bool.noConfusion h)
          refine awp_skip ?_
          refine thenE_n ?_
          refine awp_block ?_
          refine awp_seq ?_
          refine awp_region ?_
          refine aops_v rfl rfl rfl (a_extract rfl rfl rfl ?_)
          refine aops_v rfl rfl rfl (a_extract rfl rfl rfl ?_)
          refine aops_v rfl rfl rfl (a_assign rfl rfl ?_)
          refine aops_v rfl rfl rfl (a_assign rfl rfl ?_)
          refine aops_nil ?_
          refine thenE_n ?_
          refine awp_seq ?_
          refine awp_region ?_
          refine aops_v rfl rfl rfl (a_move rfl rfl ?_)
          refine aops_v rfl rfl rfl (a_int rfl rfl rfl rfl ?_)
          refine aops_nil ?_
          refine thenE_n ?_
          refine awp_cond rfl (fun h5 => ?_) (fun h5 => ?_)
          · try simp only [zz1, zz2, ne_eq, zz4, zz5, zz6, gt_iff_lt, ge_iff_le, zz9, zz0] at h5
            omega
          · try simp only [zz1, zz2, ne_eq, zz4, zz5, zz6, gt_iff_lt, ge_iff_le, zz9, zz0] at h5
            refine awp_skip ?_
            refine blockE_n ?_
            refine thenE_n ?_
            exact .done ⟨pos + wd, trivial, by omega, EL, rfl⟩
        · try simp only [zz1, zz2, ne_eq, zz4, zz5, zz6, gt_iff_lt, ge_iff_le, zz9, zz0] at h4
          refine aops_v rfl rfl rfl (a_extract rfl rfl rfl ?_)
          refine aops_nil ?_
          refine thenE_n ?_
          refine awp_seq ?_
          refine awp_cond (b := false) rfl (fun h => Bool.noConfusion h) (fun _ => ?_)
          refine awp_exit ?_
          refine thenE_x ?_
          refine thenE_x ?_
          refine blockE_x ?_
          refine thenE_n ?_
          refine awp_seq ?_
          refine AWp.ghost (gst_del id175 (.done ?_))
          rw [del_upd _ _ hid175]
          refine awp_region ?_
          refine aops_v rfl rfl rfl (a_assign rfl rfl ?_)
          refine aops_nil ?_
          refine thenE_n ?_
          refine awp_ret ?_
          change Gst _ _ _ _
          refine fin1 rfl ?_
          first | exact ⟨rfl, rfl⟩ | exact ⟨by simp [*], rfl⟩
      · try simp only [zz1, zz2, ne_eq, zz4, zz5, zz6, gt_iff_lt, ge_iff_le, zz9, zz0] at h3
        refine awp_seq ?_
        refine awp_region ?_
        refine aops_v rfl rfl rfl (a_move rfl rfl ?_)
        refine aops_call_eq rfl rfl rfl rfl cf157 rfl (validRune_spec _ _) ?_
        refine aops_v rfl rfl rfl (a_not rfl rfl ?_)
        refine aops_v rfl rfl rfl (a_assign rfl rfl ?_)
        refine aops_nil ?_
        refine thenE_n ?_
        refine awp_cond rfl (fun h6 => ?_) (fun h6 => ?_)
        · try simp only [zz1, zz2, ne_eq, zz4, zz5, zz6, gt_iff_lt, ge_iff_le, zz9, zz0] at h6
          simp at h6; omega
        · try simp only [zz1, zz2, ne_eq, zz4, zz5, zz6, gt_iff_lt, ge_iff_le, zz9, zz0] at h6
          refine awp_scope ?_
          refine awp_seq ?_
          refine awp_region ?_
          refine aops_v rfl rfl rfl (a_move rfl rfl ?_)
          refine aops_v rfl rfl rfl (a_rune_str rfl ik21 ist9 rfl ?_)
          obtain ⟨a, b, hab, hb, ha⟩ := runeS_last g1
          rw [hab]
          have hal : (a ++ [b]).length = a.length + 1 := by simp
          refine aops_v rfl rfl rfl (a_assign rfl rfl ?_)
          refine aops_nil ?_
          refine thenE_n ?_
          refine awp_seq ?_
          refine awp_region ?_
          refine aops_v rfl rfl rfl (a_move rfl rfl ?_)
          refine aops_v rfl rfl rfl (a_len_str rfl ist9 rfl ?_)
          first | refine aops_v rfl rfl rfl (a_sub rfl rfl rfl (by simp only [Go.AL.lo, Go.AL.hi]; omega) ?_) | refine aops_v rfl rfl rfl (a_int rfl rfl rfl rfl ?_)
          refine aops_v rfl rfl rfl (a_assign rfl rfl ?_)
          refine aops_nil ?_
          refine thenE_n ?_
          refine awp_seq ?_
          refine awp_region ?_
          refine aops_v rfl rfl rfl (a_move rfl rfl ?_)
          refine aops_v rfl rfl rfl (a_assign rfl rfl ?_)
          refine aops_nil ?_
          refine thenE_n ?_
          refine awp_seq ?_
          refine awp_region ?_
          refine aops_v rfl rfl rfl (a_assign rfl rfl ?_)
          refine aops_nil ?_
          refine thenE_n ?_
          refine awp_seq ?_
          refine awp_block ?_
          refine awp_loop (S := Unit) (fun _ => [(0, str s), (7, str (a ++ [b])), (8, int (((a ++ [b]).length : Nat) - 1)), (9, int (((a ++ [b]).length : Nat) - 1))]) (fun _ => σ) (fun _ => True) (fun _ => 0) ⟨(), by simp, EL, rfl⟩ ?_
          rintro _ _
          refine awp_seq ?_
          refine awp_seq ?_
          refine awp_region ?_
          refine aops_v rfl rfl rfl (a_move rfl rfl ?_)
          refine aops_v rfl rfl rfl (a_move rfl rfl ?_)
          refine aops_v rfl rfl rfl (a_len_str rfl ist9 rfl ?_)
          refine aops_v rfl rfl rfl (a_int rfl rfl rfl rfl ?_)
          refine aops_nil ?_
          refine thenE_n ?_
          refine awp_cond rfl (fun h7 => ?_) (fun h7 => ?_)
          · try simp only [zz1, zz2, ne_eq, zz4, zz5, zz6, gt_iff_lt, ge_iff_le, zz9, zz0] at h7
            refine awp_skip ?_
            refine thenE_n ?_
            refine awp_block ?_
            refine awp_scope ?_
            refine awp_seq ?_
            refine awp_seq ?_
            refine awp_draw [0, 0, 3, 0, 0, 24, 63] 7 rfl (by decide +kernel) (by decide +kernel) (by decide +kernel) rfl ?_
            simp only [List.take_succ_cons, List.take_zero, List.take_nil, List.drop_succ_cons, List.drop_zero, List.drop_nil]
            refine dp_val rfl (apure_val (a_move rfl rfl pure_done)) rfl ?_
            refine dp_val rfl (apure_val (a_move rfl rfl pure_done)) rfl ?_
            obtain ⟨x, hx⟩ : ∃ x, s[a.length]? = some x := ⟨_, List.getElem?_eq_getElem (by omega)⟩
            have hxb : x ≠ b := ascii_ne hs hb x (List.mem_of_getElem? hx)
            have hb2 : (a ++ [b])[a.length]? = some b := by simp
            refine dp_val rfl (apure_val (a_index_str (j := a.length) rfl ist9 rfl rfl (by omega) (by omega) hx pure_done)) rfl ?_
            refine dp_val rfl (apure_val (a_move rfl rfl pure_done)) rfl ?_
            refine dp_val rfl (apure_val (a_move rfl rfl pure_done)) rfl ?_
            refine dp_val rfl (apure_val (a_index_str (j := a.length) rfl ist9 rfl rfl (by omega) (by omega) hb2 pure_done)) rfl ?_
            refine dp_val rfl (apure_val (a_int rfl rfl rfl rfl pure_done)) rfl ?_
            change AOps _ _ _ _ _ _ _
            refine aops_nil ?_
            refine thenE_n ?_
            refine awp_cond rfl (fun h8 => ?_) (fun h8 => ?_)
            · try simp only [zz1, zz2, ne_eq, zz4, zz5, zz6, gt_iff_lt, ge_iff_le, zz9, zz0] at h8
              refine awp_seq ?_
              refine awp_draw [0, 0, 2, 7, 0, 0, 48, 127, 255] 9 rfl (by decide +kernel) (by decide +kernel) (by decide +kernel) rfl ?_
              simp only [List.take_succ_cons, List.take_zero, List.take_nil, List.drop_succ_cons, List.drop_zero, List.drop_nil]
              refine dp_val rfl (apure_val (a_move rfl rfl pure_done)) rfl ?_
              refine dp_val rfl (apure_val (a_move rfl rfl pure_done)) rfl ?_
              first | refine dp_val rfl (apure_val (a_add rfl rfl rfl (by simp only [Go.AL.lo, Go.AL.hi]; omega) pure_done)) rfl ?_ | refine dp_val rfl (apure_val (a_int rfl rfl rfl rfl pure_done)) rfl ?_
              refine dp_val rfl (apure_val (a_slice_drop (a := a.length + 1) rfl ist9 rfl rfl (by omega) (by omega) (by omega) pure_done)) rfl ?_
              refine dp_val rfl (apure_val (a_move rfl rfl pure_done)) rfl ?_
              refine dp_val rfl (apure_val (a_move rfl rfl pure_done)) rfl ?_
              refine dp_val rfl (apure_val (a_index_str (j := a.length) rfl ist9 rfl rfl (by omega) (by omega) hb2 pure_done)) rfl ?_
              refine dp_val rfl (apure_call rfl cf156 rfl (indexByte_spec _ _ _)) rfl ?_
              rw [u8_back, indexByte_none (fun y hy => ascii_ne hs hb y (List.mem_of_mem_drop hy))]
              refine dp_val rfl (apure_val (a_assign rfl rfl pure_done)) rfl ?_
              change AOps _ _ _ _ _ _ _
              refine aops_nil ?_
              refine thenE_n ?_
              refine awp_seq ?_
              refine awp_seq ?_
              refine awp_region ?_
              refine aops_v rfl rfl rfl (a_move rfl rfl ?_)
              refine aops_v rfl rfl rfl (a_int rfl rfl rfl rfl ?_)
              refine aops_nil ?_
              refine thenE_n ?_
              refine awp_cond rfl (fun h9 => ?_) (fun h9 => ?_)
              · try simp only [zz1, zz2, ne_eq, zz4, zz5, zz6, gt_iff_lt, ge_iff_le, zz9, zz0] at h9
                refine awp_seq ?_
                refine awp_region ?_
                refine aops_v rfl rfl rfl (a_assign rfl rfl ?_)
                refine aops_nil ?_
                refine thenE_n ?_
                refine awp_ret ?_
                change Gst _ _ _ _
                refine fin1 rfl ?_
                first | exact ⟨rfl, rfl⟩ | exact ⟨by simp [*], rfl⟩
              · try simp only [zz1, zz2, ne_eq, zz4, zz5, zz6, gt_iff_lt, ge_iff_le, zz9, zz0] at h9
                omega
            · try simp only [zz1, zz2, ne_eq, zz4, zz5, zz6, gt_iff_lt, ge_iff_le, zz9, zz0] at h8
              exact absurd ((u8_eq x b).1 (by simpa using h8)) hxb
          · try simp only [zz1, zz2, ne_eq, zz4, zz5, zz6, gt_iff_lt, ge_iff_le, zz9, zz0] at h7
            omega
  · try simp only [zz1, zz2, ne_eq, zz4, zz5, zz6, gt_iff_lt, ge_iff_le, zz9, zz0] at h1
    omega

/-- a rune is one of a text's (of ASCII) -/
def oneOf (l : List Int) (r : Int) : Bool := l.contains r
def asI (s : List UInt8) : List Int := s.map fun b => (b.toNat : Int)
theorem indexByte_mem : ∀ (l : List UInt8) (c : UInt8), decide (0 ≤ Lib.indexByte l c) = l.contains c
  | [], c => by simp [Lib.indexByte]
  | b :: l, c => by
    have ih := indexByte_mem l c
    simp only [Lib.indexByte, List.contains_cons]
    by_cases e : b = c
    · subst e; simp
    · have h1 : (b == c) = false := by simpa using e
      have h2 : (c == b) = false := by simpa using fun h => e h.symm
      simp only [h1, h2, Bool.false_or, if_neg, Bool.false_eq_true, not_false_eq_true]
      by_cases h3 : Lib.indexByte l c = -1
      · rw [h3] at ih; simp at ih; simp [h3, ih]
      · have h4 : (Lib.indexByte l c == -1) = false := by simpa using h3
        rw [h4]
        have : -1 ≤ Lib.indexByte l c := indexByte_ge l c
        simp only [Bool.false_eq_true, if_false]
        rw [← ih]
        congr 1
        apply propext
        constructor <;> intro <;> omega
 where indexByte_ge : ∀ (l : List UInt8) (c : UInt8), -1 ≤ Lib.indexByte l c
  | [], _ => by simp [Lib.indexByte]
  | b :: l, c => by
    have := indexByte_ge l c
    simp only [Lib.indexByte]
    split
    · omega
    · split <;> omega
theorem contains_asI (s : List UInt8) {r : Int} (h0 : 0 ≤ r) (h1 : r < 128) : s.contains r.toNat.toUInt8 = oneOf (asI s) r := by
  unfold oneOf asI
  induction s with
  | nil => rfl
  | cons b s ih =>
    simp only [List.contains_cons, List.map_cons, ih]
    congr 1
    rw [Bool.eq_iff_iff]
    simp only [beq_iff_eq]
    constructor
    · intro h; rw [← h]; simp; omega
    · intro h
      rw [h]; simp
theorem oneOf_high {s : List UInt8} (hs : s.all (fun b => decide (b.toNat < 128)) = true) {r : Int} (h : 128 ≤ r) : oneOf (asI s) r = false := by
  unfold oneOf asI
  rw [List.contains_eq_any_beq, List.any_eq_false]
  intro x hx
  simp only [List.mem_map] at hx
  obtain ⟨b, hb, rfl⟩ := hx
  simp only [List.all_eq_true, decide_eq_true_eq] at hs
  have := hs b hb
  simp
  omega

theorem containsRuneN_spec (s : List UInt8) (c : Int) (σ : AHeap) (g1 : 128 ≤ c) (g2 : c ≤ 1114111) (g3 : c < 55296 ∨ 57343 < c) (hs : s.all (fun b => decide (b.toNat < 128)) = true) (g4 : 4 ≤ s.length) (g5 : s.length ≤ 1000) : ASpec Tryz.prog 112 [str s, .v (.int .i32 c)] σ fun r σ' => r = .ret (boo false) ∧ σ' = σ := by
  refine aspec_enter (N := 9) (rs := [.tmp 4]) Tryz.func112 rfl rfl rfl rfl rfl rfl ?_
  refine awp_seq ?_
  refine awp_region ?_
  refine aops_v rfl rfl rfl (a_assign rfl rfl ?_)
  refine aops_nil ?_
  refine thenE_n ?_
  refine awp_seq ?_
  refine awp_region ?_
  refine aops_v rfl rfl rfl (a_move rfl rfl ?_)
  refine aops_v rfl rfl rfl (a_move rfl rfl ?_)
  refine aops_call_eq rfl rfl rfl rfl cf133 rfl (indexRuneN_spec s c _ g1 g2 g3 hs g4 g5) ?_
  refine aops_v rfl rfl rfl (a_int rfl rfl rfl rfl ?_)
  refine aops_v rfl rfl rfl (a_assign rfl rfl ?_)
  refine aops_nil ?_
  refine thenE_n ?_
  refine awp_ret ?_
  change Gst _ _ _ _
  refine fin1 rfl ?_
  first | exact ⟨rfl, rfl⟩ | exact ⟨by simp [*], rfl⟩

theorem containsRune_spec (s : List UInt8) (c : Int) (σ : AHeap) (g1 : 0 ≤ c) (g2 : c ≤ 1114111) (g3 : c < 55296 ∨ 57343 < c) (hs : s.all (fun b => decide (b.toNat < 128)) = true) (g4 : 4 ≤ s.length) (g5 : s.length ≤ 1000) :
    ASpec Tryz.prog 112 [str s, .v (.int .i32 c)] σ fun r σ' => r = .ret (boo (oneOf (asI s) c)) ∧ σ' = σ := by
  by_cases h : c < 128
  · have := containsRuneA_spec s c g1 h σ
    rw [indexByte_mem, contains_asI s g1 h] at this
    exact this
  · have := containsRuneN_spec s c σ (by omega) g2 g3 hs g4 g5
    rw [oneOf_high hs (by omega)]
    exact this

end Go.Proofs.YtnahdpjbddfhgaaGreatDoor
