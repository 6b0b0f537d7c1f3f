/- PROVED: garnerlaw24.QueryParts answers true for every query and every record that are together of bulk at most 1,048,576 (the second form), and both arguments read afterwards as they read before. CONDITIONS: the row's own: that bound, and the two listed tables of unicode/utf8 hold what the program's text lays (the card ties them, the tie is given). -/
import Derived.Test.YtnahdpjbddfhgaaGreatDoorP09
import Derived.Test.YtnahdpjbddfhgaaGreatDoorRows
import Derived.Test.YtnahdpjbddfhgaaGreatDoorCards
import Derived.Test.YtnahdpjbddfhgaaGreatDoorTie
import Derived.Deep.DeepHandedRow
import Derived.Lib.LaidU8T
import Derived.Shelf.Vars
import Derived.WalkKit
import Derived.ProofKit
set_option linter.unusedVariables false
set_option linter.unusedSimpArgs false
set_option linter.unusedVariables false
set_option linter.unusedSimpArgs false
namespace Go.Proofs.YtnahdpjbddfhgaaGreatDoor
open Go Go.AL
set_option maxRecDepth 100000
/-- QueryParts -/
def flipO (op : Int) : Int := op + 2 * (op % 2) - 1
theorem flip_ok {op : Int} (h1 : 1 ≤ op) (h2 : op ≤ 4) : (op = 1 ∧ flipO op = 2) ∨ (op = 2 ∧ flipO op = 1) ∨ (op = 3 ∧ flipO op = 4) ∨ (op = 4 ∧ flipO op = 3) := by
  rcases (show op = 1 ∨ op = 2 ∨ op = 3 ∨ op = 4 by omega) with rfl | rfl | rfl | rfl
  · exact .inl ⟨rfl, rfl⟩
  · exact .inr (.inl ⟨rfl, rfl⟩)
  · exact .inr (.inr (.inl ⟨rfl, rfl⟩))
  · exact .inr (.inr (.inr ⟨rfl, rfl⟩))
theorem flip_b {op : Int} (h1 : 1 ≤ op) (h2 : op ≤ 4) : likeB (flipO op) = likeB op ∧ notB (flipO op) = !notB op ∧ opB op = true ∧ opB (flipO op) = true := by
  rcases flip_ok h1 h2 with ⟨rfl, h⟩ | ⟨rfl, h⟩ | ⟨rfl, h⟩ | ⟨rfl, h⟩ <;> rw [h] <;> decide
def flipM (m : Mt) : Mt := ⟨m.name, flipO m.op, m.val⟩
def flipF (f : Fl) : Fl := ⟨flipO f.op, f.txt⟩
theorem mHold_flip {m : Mt} (rc : Rc) (h1 : 1 ≤ m.op) (h2 : m.op ≤ 4) : mHold rc (flipM m) = !mHold rc m := by
  obtain ⟨g1, g2, _⟩ := flip_b h1 h2
  have hy : mYes rc (flipM m) = mYes rc m := by unfold mYes flipM; dsimp only; rw [g1]
  unfold mHold; rw [hy, show (flipM m).op = flipO m.op from rfl, g2]
  cases mYes rc m <;> cases notB m.op <;> rfl
theorem fHold_flip {m : Fl} (rc : Rc) (h1 : 1 ≤ m.op) (h2 : m.op ≤ 4) : fHold rc (flipF m) = !fHold rc m := by
  obtain ⟨g1, g2, _⟩ := flip_b h1 h2
  have hy : fYes rc (flipF m) = fYes rc m := by unfold fYes flipF; dsimp only; rw [g1]
  unfold fHold; rw [hy, show (flipF m).op = flipO m.op from rfl, g2]
  cases fYes rc m <;> cases notB m.op <;> rfl
theorem check_of {q : Qr} (h1 : q.ms.length ≤ 16 ∧ q.fs.length ≤ 16) (h2 : q.ms.all mOk = true) (h3 : (q.fs.all fun f => opB f.op) = true) (h4 : ((allP q).all fun f => Lib.validD f.txt) = true) (h5 : ((allP q).all rexB) = true) : checkP q = 0 := by
  rw [checkP_eq, if_neg (by omega), if_neg (by rw [h2]; simp), if_neg (by rw [h3]; simp), if_neg (by rw [h4]; simp), if_neg (by rw [h5]; simp)]
theorem mone_ok {q : Qr} (h : checkP q = 0) {m : Mt} (hm : m ∈ q.ms) : checkP ⟨[m], []⟩ = 0 ∧ checkP ⟨[flipM m], []⟩ = 0 := by
  obtain ⟨_, _, h1, h2, h3, h4⟩ := check_parts h
  obtain ⟨o1, o2⟩ := (op_ok h).1 m hm
  have hf : m.fl ∈ allP q := List.mem_append_left _ (List.mem_map_of_mem hm)
  rw [List.all_eq_true] at h1 h3 h4
  have g1 := h1 m hm; have g3 := h3 _ hf; have g4 := h4 _ hf
  obtain ⟨b1, _, b2, b3⟩ := flip_b o1 o2
  refine ⟨check_of (by simp) (by simpa using g1) (by simp) (by simpa [allP] using g3) (by simpa [allP] using g4), check_of (by simp) ?_ (by simp) (by simpa [allP, Mt.fl, flipM] using g3) ?_⟩
  · simp only [List.all_cons, List.all_nil, Bool.and_true, mOk] at g1 ⊢
    rw [show (flipM m).op = flipO m.op from rfl, b3, show (flipM m).name = m.name from rfl]
    simp only [Bool.and_eq_true] at g1 ⊢; exact ⟨g1.1, trivial⟩
  · simp only [allP, List.map_cons, List.map_nil, List.cons_append, List.nil_append, List.all_cons, List.all_nil, Bool.and_true, rexB, Mt.fl, flipM] at g4 ⊢
    rw [b1]; exact g4
theorem fone_ok {q : Qr} (h : checkP q = 0) {m : Fl} (hm : m ∈ q.fs) : checkP ⟨[], [m]⟩ = 0 ∧ checkP ⟨[], [flipF m]⟩ = 0 := by
  obtain ⟨_, _, h1, h2, h3, h4⟩ := check_parts h
  obtain ⟨o1, o2⟩ := (op_ok h).2 m hm
  have hf : m ∈ allP q := List.mem_append_right _ hm
  rw [List.all_eq_true] at h2 h3 h4
  have g2 := h2 m hm; have g3 := h3 _ hf; have g4 := h4 _ hf
  obtain ⟨b1, _, b2, b3⟩ := flip_b o1 o2
  refine ⟨check_of (by simp) (by simp) (by simpa using g2) (by simpa [allP] using g3) (by simpa [allP] using g4), check_of (by simp) (by simp) (by simpa [flipF] using b3) (by simpa [allP, flipF] using g3) ?_⟩
  simp only [allP, List.map_nil, List.nil_append, List.all_cons, List.all_nil, Bool.and_true, rexB, flipF] at g4 ⊢
  rw [b1]; exact g4
theorem mone_holds (m : Mt) (rc : Rc) : holdsP ⟨[m], []⟩ rc = mHold rc m := by simp [holdsP]
theorem fone_holds (m : Fl) (rc : Rc) : holdsP ⟨[], [m]⟩ rc = fHold rc m := by simp [holdsP]
theorem fltA_ok {q : Qr} (h : checkP q = 0) : fltA q = .pin (filC q) 0 := by unfold fltA; rw [if_pos h]
theorem fltA_no {q : Qr} (h : ¬ checkP q = 0) : fltA q = .v (.pointer none) := by unfold fltA; rw [if_neg h]
theorem qr_m {q : Qr} (h : QrOk q) {m : Mt} (hm : m ∈ q.ms) (n : List UInt8) (o : Int) : QrOk ⟨[⟨n, o, m.val⟩], []⟩ := ⟨by simp, by simp, fun x hx => by simp at hx; subst hx; exact h.mv m hm, by simp⟩
theorem qr_f {q : Qr} (h : QrOk q) {m : Fl} (hm : m ∈ q.fs) (o : Int) : QrOk ⟨[], [⟨o, m.txt⟩]⟩ := ⟨by simp, by simp, by simp, fun x hx => by simp at hx; subst hx; exact h.fv m hm⟩
theorem all_take {α : Type} {l : List α} {j : Nat} {x : α} (p : α → Bool) (h : l[j]? = some x) : (l.take (j + 1)).all p = ((l.take j).all p && p x) := by rw [take_succ' h]; simp

theorem parts_spec (q : Qr) (rc : Rc) (σ : AHeap) (hq : QrOk q) (hr : RcOk rc) : ASpec Tryz.prog 6 [.agg (encQ q false false), .agg (encR rc false)] σ fun r σ' => r = .ret (boo true) ∧ σ' = σ := by
  have hqm := hq.ms; have hqf := hq.fs
  refine aspec_enter (N := 134) (rs := [.tmp 4]) Tryz.func6 rfl rfl rfl rfl rfl rfl ?_
  refine awp_seq ?_
  refine awp_region ?_
  refine aops_v rfl rfl rfl (a_box_frz rfl rfl rfl ?_)
  refine aops_v rfl rfl rfl (a_box_frz rfl rfl rfl ?_)
  refine aops_v rfl rfl rfl (a_assign rfl rfl ?_)
  refine aops_nil ?_
  refine thenE_n ?_
  refine awp_seq ?_
  refine awp_seq ?_
  refine awp_region ?_
  refine aops_call_eq rfl rfl rfl rfl cf8 rfl (awake_spec _) ?_
  refine aops_v rfl rfl rfl (a_not rfl rfl ?_)
  refine aops_nil ?_
  refine thenE_n ?_
  refine awp_cond rfl (fun h1 => ?_) (fun h1 => ?_)
  · try simp only [zz1, zz2, ne_eq, zz4, zz5, zz6, gt_iff_lt, ge_iff_le, zz9, zz0] at h1
    simp at h1
  · try simp only [zz1, zz2, ne_eq, zz4, zz5, zz6, gt_iff_lt, ge_iff_le, zz9, zz0] at h1
    refine awp_skip ?_
    refine thenE_n ?_
    refine awp_seq ?_
    refine awp_region ?_
    first | refine aops_v rfl rfl rfl (a_load_pin rfl tk26 rfl rfl ?_) | refine aops_v rfl rfl rfl (a_load rfl tk26 rfl HP rfl ?_)
    refine aops_call_eq rfl rfl rfl rfl cf14 rfl (new_spec q false false _ hq) ?_
    refine aops_v rfl rfl rfl (a_move rfl rfl ?_)
    refine aops_v rfl rfl rfl (a_extract rfl rfl rfl ?_)
    refine aops_v rfl rfl rfl (a_extract rfl rfl rfl ?_)
    refine aops_v rfl rfl rfl (a_assign rfl rfl ?_)
    refine aops_v rfl rfl rfl (a_assign rfl rfl ?_)
    refine aops_nil ?_
    refine thenE_n ?_
    refine awp_seq ?_
    refine awp_seq ?_
    refine awp_region ?_
    refine aops_v rfl rfl rfl (a_move rfl rfl ?_)
    refine aops_v rfl rfl rfl (a_int rfl rfl rfl rfl ?_)
    refine aops_nil ?_
    refine thenE_n ?_
    refine awp_cond rfl (fun h2 => ?_) (fun h2 => ?_)
    · try simp only [zz1, zz2, ne_eq, zz4, zz5, zz6, gt_iff_lt, ge_iff_le, zz9, zz0] at h2
      have hc : ¬ checkP q = 0 := h2
      rw [fltA_no hc]
      refine awp_seq ?_
      refine awp_region ?_
      refine aops_v rfl rfl rfl (a_move rfl rfl ?_)
      first | refine aops_v rfl rfl rfl (a_load_pin rfl tk44 rfl rfl ?_) | refine aops_v rfl rfl rfl (a_load rfl tk44 rfl HP rfl ?_)
      refine aops_call_eq rfl rfl rfl rfl cf17 rfl (holds_nil rc false _) ?_
      refine aops_v rfl rfl rfl (a_not rfl rfl ?_)
      refine aops_v rfl rfl rfl (a_assign rfl rfl ?_)
      refine aops_nil ?_
      refine thenE_n ?_
      refine awp_ret ?_
      change Gst _ _ _ _
      refine fin1 rfl ?_
      exact ⟨by simp [holdsP], rfl⟩
    · try simp only [zz1, zz2, ne_eq, zz4, zz5, zz6, gt_iff_lt, ge_iff_le, zz9, zz0] at h2
      have hc : checkP q = 0 := h2
      rw [fltA_ok hc]
      obtain ⟨hb1, hb2, _⟩ := check_parts hc
      obtain ⟨ho1, ho2⟩ := op_ok hc
      refine awp_skip ?_
      refine thenE_n ?_
      refine awp_seq ?_
      refine awp_region ?_
      refine aops_v rfl rfl rfl (a_assign rfl rfl ?_)
      refine aops_nil ?_
      refine thenE_n ?_
      refine awp_seq ?_
      refine awp_seq ?_
      refine awp_region ?_
      refine aops_v rfl rfl rfl (a_assign rfl rfl ?_)
      refine aops_nil ?_
      refine thenE_n ?_
      refine awp_block ?_
      refine awp_loop (S := Nat) (fun j => [(2, .pin (encQ q false false) 0), (3, .pin (encR rc false) 0), (5, .pin (filC q) 0), (7, boo ((q.ms.take j).all (mHold rc))), (8, int j)]) (fun _ => σ) (fun j => j ≤ q.ms.length) (fun j => q.ms.length - j) ⟨0, by simp, EL, rfl⟩ ?_
      rintro j hj
      refine awp_seq ?_
      refine awp_seq ?_
      refine awp_region ?_
      refine aops_v rfl rfl rfl (a_move rfl rfl ?_)
      first | refine aops_v rfl rfl rfl (a_fieldAddr rfl fk26_0 rfl rfl ?_) | refine aops_v rfl rfl rfl (a_fieldAddr_pin rfl fk26_0 rfl rfl ?_)
      first | refine aops_v rfl rfl rfl (a_load_pin rfl tk23 rfl rfl ?_) | refine aops_v rfl rfl rfl (a_load rfl tk23 rfl HP rfl ?_)
      first | refine aops_v rfl rfl rfl (a_len_lst rfl isl23 rfl ?_) | refine aops_v rfl rfl rfl (a_len rfl isl23 rfl ?_) | refine aops_v rfl rfl rfl (a_len_slg rfl isl23 rfl ?_) | refine aops_v rfl rfl rfl (a_len_nil rfl isl23 rfl ?_)
      refine aops_v rfl rfl rfl (a_int rfl rfl rfl rfl ?_)
      refine aops_nil ?_
      refine thenE_n ?_
      refine awp_cond rfl (fun h3 => ?_) (fun h3 => ?_)
      · try simp only [zz1, zz2, ne_eq, zz4, zz5, zz6, gt_iff_lt, ge_iff_le, zz9, zz0] at h3
        obtain ⟨x, hx⟩ : ∃ k, q.ms[j]? = some k := ⟨_, List.getElem?_eq_getElem (by omega)⟩
        have hxm := List.mem_of_getElem? hx
        obtain ⟨hp1, hp2⟩ := ho1 x hxm
        obtain ⟨hk1, hk2⟩ := mone_ok hc hxm
        have hfl := flip_ok hp1 hp2
        refine awp_skip ?_
        refine thenE_n ?_
        refine awp_seq ?_
        refine awp_block ?_
        refine awp_seq ?_
        refine awp_region ?_
        first | refine aops_v rfl rfl rfl (a_fieldAddr rfl fk26_0 rfl rfl ?_) | refine aops_v rfl rfl rfl (a_fieldAddr_pin rfl fk26_0 rfl rfl ?_)
        first | refine aops_v rfl rfl rfl (a_load_pin rfl tk23 rfl rfl ?_) | refine aops_v rfl rfl rfl (a_load rfl tk23 rfl HP rfl ?_)
        refine aops_v rfl rfl rfl (a_move rfl rfl ?_)
        first | refine aops_v rfl rfl rfl (a_indexAddr_lst rfl ek23 rfl rfl NT (by omega) (by omega) ?_) | refine aops_v rfl rfl rfl (a_indexAddr rfl ek23 rfl rfl NT (by omega) (by omega) ?_)
        refine aops_v rfl rfl rfl (a_load_pin rfl tk48 rfl (ldv_flat encM_len hx) ?_)
        refine aops_var rfl rfl rfl rfl rfl rfl rfl tk48 zk48 rfl rfl rfl rfl rfl ?_
        intro id9 hid9
        refine aops_nil ?_
        refine thenE_n ?_
        refine awp_seq ?_
        refine awp_region ?_
        first | refine aops_v rfl rfl rfl (a_load_pin rfl tk48 rfl rfl ?_) | refine aops_v rfl rfl rfl (a_load rfl tk48 rfl HP rfl ?_)
        refine aops_v rfl rfl rfl (a_buildSlice (res := [_, _, _]) rfl sk23 rfl rfl rfl ?_)
        refine aops_v rfl rfl rfl (a_build (res := [_, _]) rfl bk26 rfl rfl ?_)
        refine aops_call_eq rfl rfl rfl rfl cf14 rfl ((ASpec.wk (.cons (wk_agg (.cons wk_refl (.cons wk_nil .nil))) .nil) (new_spec ⟨[x], []⟩ true false _ (qr_m hq hxm _ _)))) ?_
        rw [fltA_ok hk1]
        refine aops_v rfl rfl rfl (a_move rfl rfl ?_)
        refine aops_v rfl rfl rfl (a_extract rfl rfl rfl ?_)
        refine aops_v rfl rfl rfl (a_extract rfl rfl rfl ?_)
        refine aops_v rfl rfl rfl (a_assign rfl rfl ?_)
        refine aops_v rfl rfl rfl (a_assign rfl rfl ?_)
        refine aops_nil ?_
        refine thenE_n ?_
        refine awp_seq ?_
        refine awp_region ?_
        first | refine aops_v rfl rfl rfl (a_fieldAddr rfl fk48_1 rfl rfl ?_) | refine aops_v rfl rfl rfl (a_fieldAddr_pin rfl fk48_1 rfl rfl ?_)
        first | refine aops_v rfl rfl rfl (a_load_pin rfl tk3 rfl rfl ?_) | refine aops_v rfl rfl rfl (a_load rfl tk3 rfl HP rfl ?_)
        first | refine aops_v rfl rfl rfl (a_fieldAddr rfl fk48_1 rfl rfl ?_) | refine aops_v rfl rfl rfl (a_fieldAddr_pin rfl fk48_1 rfl rfl ?_)
        first | refine aops_v rfl rfl rfl (a_load_pin rfl tk3 rfl rfl ?_) | refine aops_v rfl rfl rfl (a_load rfl tk3 rfl HP rfl ?_)
        refine aops_v rfl rfl rfl (a_rem rfl rfl rfl (by omega) (by omega) ?_)
        first | refine aops_v rfl rfl rfl (a_mul rfl rfl rfl (by simp only [Go.AL.lo, Go.AL.hi]; omega) ?_) | refine aops_v rfl rfl rfl (a_int rfl rfl rfl rfl ?_)
        first | refine aops_v rfl rfl rfl (a_add rfl rfl rfl (by simp only [Go.AL.lo, Go.AL.hi]; omega) ?_) | refine aops_v rfl rfl rfl (a_int rfl rfl rfl rfl ?_)
        first | refine aops_v rfl rfl rfl (a_sub rfl rfl rfl (by simp only [Go.AL.lo, Go.AL.hi]; omega) ?_) | refine aops_v rfl rfl rfl (a_int rfl rfl rfl rfl ?_)
        first | refine aops_v rfl rfl rfl (a_fieldAddr rfl fk48_1 rfl rfl ?_) | refine aops_v rfl rfl rfl (a_fieldAddr_pin rfl fk48_1 rfl rfl ?_)
        refine aops_s rfl rfl (a_store rfl tk3 rfl rfl (upd_same _ _ _) rfl rfl (by simp [stv, AV.cells, encM]) ?_)
        refine aops_nil ?_
        refine thenE_n ?_
        refine awp_seq ?_
        rw [upd_upd]
        change AWp _ _ _ _ _ (upd σ id9 (.cells 0 48 (encM (flipM x))))
        refine awp_region ?_
        first | refine aops_v rfl rfl rfl (a_load_pin rfl tk48 rfl rfl ?_) | refine aops_v rfl rfl rfl (a_load rfl tk48 rfl HP rfl ?_)
        refine aops_v rfl rfl rfl (a_buildSlice (res := [_, _, _]) rfl sk23 rfl rfl rfl ?_)
        refine aops_v rfl rfl rfl (a_build (res := [_, _]) rfl bk26 rfl rfl ?_)
        refine aops_call_eq rfl rfl rfl rfl cf14 rfl ((ASpec.wk (.cons (wk_agg (.cons wk_refl (.cons wk_nil .nil))) .nil) (new_spec ⟨[flipM x], []⟩ true false _ (qr_m hq hxm _ _)))) ?_
        rw [fltA_ok hk2]
        refine aops_v rfl rfl rfl (a_move rfl rfl ?_)
        refine aops_v rfl rfl rfl (a_extract rfl rfl rfl ?_)
        refine aops_v rfl rfl rfl (a_extract rfl rfl rfl ?_)
        refine aops_v rfl rfl rfl (a_assign rfl rfl ?_)
        refine aops_v rfl rfl rfl (a_assign rfl rfl ?_)
        refine aops_nil ?_
        refine thenE_n ?_
        refine awp_seq ?_
        refine awp_seq ?_
        refine awp_draw [0, 0, 3, 0, 0, 31, 63] 7 rfl (by decide +kernel) (by decide +kernel) (by decide +kernel) rfl ?_
        simp only [List.take_succ_cons, List.take_zero, List.take_nil, List.drop_succ_cons, List.drop_zero, List.drop_nil]
        refine dp_val rfl (apure_val (a_move rfl rfl pure_done)) rfl ?_
        first | refine dp_val rfl (apure_val (a_load_pin rfl tk44 rfl rfl pure_done)) rfl ?_ | refine dp_val rfl (apure_val (a_load rfl tk44 rfl HP rfl pure_done)) rfl ?_
        refine dp_val rfl (apure_call rfl cf17 rfl (holds_spec ⟨[x], []⟩ rc false _ hk1 hr)) rfl ?_
        refine dp_val rfl (apure_val (a_move rfl rfl pure_done)) rfl ?_
        first | refine dp_val rfl (apure_val (a_load_pin rfl tk44 rfl rfl pure_done)) rfl ?_ | refine dp_val rfl (apure_val (a_load rfl tk44 rfl HP rfl pure_done)) rfl ?_
        refine dp_val rfl (apure_call rfl cf17 rfl (holds_spec ⟨[flipM x], []⟩ rc false _ hk2 hr)) rfl ?_
        refine dp_val rfl (apure_val (a_bool rfl ib4 rfl rfl rfl pure_done)) rfl ?_
        change AOps _ _ _ _ _ _ _
        refine aops_nil ?_
        refine thenE_n ?_
        refine awp_cond rfl (fun h4 => ?_) (fun h4 => ?_)
        · try simp only [zz1, zz2, ne_eq, zz4, zz5, zz6, gt_iff_lt, ge_iff_le, zz9, zz0] at h4
          rw [mone_holds, mone_holds, mHold_flip rc hp1 hp2] at h4; cases hm : mHold rc x <;> rw [hm] at h4 <;> exact absurd h4 (by decide)
        · try simp only [zz1, zz2, ne_eq, zz4, zz5, zz6, gt_iff_lt, ge_iff_le, zz9, zz0] at h4
          refine awp_skip ?_
          refine thenE_n ?_
          refine awp_region ?_
          refine aops_v rfl rfl rfl (a_move rfl rfl ?_)
          refine aops_v rfl rfl rfl (a_move rfl rfl ?_)
          refine aops_bool (fun h5 => ?_) (fun h5 => ?_)
          · try simp only [zz1, zz2, ne_eq, zz4, zz5, zz6, gt_iff_lt, ge_iff_le, zz9, zz0] at h5
            have hA := h5
            refine aops_yes rfl rfl rfl rfl ?_
            refine aops_v rfl rfl rfl (a_move rfl rfl ?_)
            refine aops_yes rfl rfl rfl rfl ?_
            first | refine aops_v rfl rfl rfl (a_load_pin rfl tk44 rfl rfl ?_) | refine aops_v rfl rfl rfl (a_load rfl tk44 rfl HP rfl ?_)
            refine aops_yes rfl rfl rfl rfl ?_
            refine aops_call_eq rfl rfl rfl rfl cf17 rfl (holds_spec ⟨[x], []⟩ rc false _ hk1 hr) ?_
            rw [mone_holds]
            refine aops_v rfl rfl rfl (a_pick rfl rfl rfl ?_)
            refine aops_v rfl rfl rfl (a_assign rfl rfl ?_)
            refine aops_nil ?_
            refine blockE_n ?_
            refine thenE_n ?_
            refine awp_region ?_
            refine aops_v rfl rfl rfl (a_move rfl rfl ?_)
            first | refine aops_v rfl rfl rfl (a_add rfl rfl rfl (by simp only [Go.AL.lo, Go.AL.hi]; omega) ?_) | refine aops_v rfl rfl rfl (a_int rfl rfl rfl rfl ?_)
            refine aops_v rfl rfl rfl (a_assign rfl rfl ?_)
            refine aops_nil ?_
            refine thenE_n ?_
            have e : (q.ms.take (j + 1)).all (mHold rc) = mHold rc x := by rw [all_take _ hx]; (try rw [← Bool.and_assoc]); rw [hA]; simp
            refine gst_sub σ (fun k o hk => by rw [upd_ne _ _ (fun e => by rw [e, hid9] at hk; exact absurd hk (by simp))]; exact hk) ?_
            exact .done ⟨j + 1, by omega, by omega, by rw [e]; repeat (first | exact Env.le_nil _ | refine Env.le_cons rfl ?_ | refine Env.le_cons (le_int rfl (by omega)) ?_), rfl⟩
          · try simp only [zz1, zz2, ne_eq, zz4, zz5, zz6, gt_iff_lt, ge_iff_le, zz9, zz0] at h5
            have hA := h5
            refine aops_no rfl rfl rfl rfl rfl rfl ?_
            refine aops_no rfl rfl rfl rfl rfl rfl ?_
            refine aops_no rfl rfl rfl rfl rfl rfl ?_
            refine aops_v rfl rfl rfl (a_pick rfl rfl rfl ?_)
            refine aops_v rfl rfl rfl (a_assign rfl rfl ?_)
            refine aops_nil ?_
            refine blockE_n ?_
            refine thenE_n ?_
            refine awp_region ?_
            refine aops_v rfl rfl rfl (a_move rfl rfl ?_)
            first | refine aops_v rfl rfl rfl (a_add rfl rfl rfl (by simp only [Go.AL.lo, Go.AL.hi]; omega) ?_) | refine aops_v rfl rfl rfl (a_int rfl rfl rfl rfl ?_)
            refine aops_v rfl rfl rfl (a_assign rfl rfl ?_)
            refine aops_nil ?_
            refine thenE_n ?_
            have e : (q.ms.take (j + 1)).all (mHold rc) = false := by rw [all_take _ hx]; (try rw [← Bool.and_assoc]); rw [hA]; simp
            refine gst_sub σ (fun k o hk => by rw [upd_ne _ _ (fun e => by rw [e, hid9] at hk; exact absurd hk (by simp))]; exact hk) ?_
            exact .done ⟨j + 1, by omega, by omega, by rw [e]; repeat (first | exact Env.le_nil _ | refine Env.le_cons rfl ?_ | refine Env.le_cons (le_int rfl (by omega)) ?_), rfl⟩
      · try simp only [zz1, zz2, ne_eq, zz4, zz5, zz6, gt_iff_lt, ge_iff_le, zz9, zz0] at h3
        obtain rfl : j = q.ms.length := by omega
        rw [List.take_length, show q.ms.all (mHold rc) = (q.ms.all (mHold rc) && (q.fs.take 0).all (fHold rc)) by simp]
        refine awp_exit ?_
        refine thenE_x ?_
        refine thenE_x ?_
        refine blockE_x ?_
        refine thenE_n ?_
        refine awp_seq ?_
        refine awp_seq ?_
        refine awp_region ?_
        refine aops_v rfl rfl rfl (a_assign rfl rfl ?_)
        refine aops_nil ?_
        refine thenE_n ?_
        refine awp_block ?_
        refine awp_loop (S := Nat) (fun j => [(2, .pin (encQ q false false) 0), (3, .pin (encR rc false) 0), (5, .pin (filC q) 0), (7, boo (q.ms.all (mHold rc) && (q.fs.take j).all (fHold rc))), (14, int j)]) (fun _ => σ) (fun j => j ≤ q.fs.length) (fun j => q.fs.length - j) ⟨0, by simp, EL, rfl⟩ ?_
        rintro j hj
        refine awp_seq ?_
        refine awp_seq ?_
        refine awp_region ?_
        refine aops_v rfl rfl rfl (a_move rfl rfl ?_)
        first | refine aops_v rfl rfl rfl (a_fieldAddr rfl fk26_1 rfl rfl ?_) | refine aops_v rfl rfl rfl (a_fieldAddr_pin rfl fk26_1 rfl rfl ?_)
        first | refine aops_v rfl rfl rfl (a_load_pin rfl tk24 rfl rfl ?_) | refine aops_v rfl rfl rfl (a_load rfl tk24 rfl HP rfl ?_)
        first | refine aops_v rfl rfl rfl (a_len_lst rfl isl24 rfl ?_) | refine aops_v rfl rfl rfl (a_len rfl isl24 rfl ?_) | refine aops_v rfl rfl rfl (a_len_slg rfl isl24 rfl ?_) | refine aops_v rfl rfl rfl (a_len_nil rfl isl24 rfl ?_)
        refine aops_v rfl rfl rfl (a_int rfl rfl rfl rfl ?_)
        refine aops_nil ?_
        refine thenE_n ?_
        refine awp_cond rfl (fun h6 => ?_) (fun h6 => ?_)
        · try simp only [zz1, zz2, ne_eq, zz4, zz5, zz6, gt_iff_lt, ge_iff_le, zz9, zz0] at h6
          obtain ⟨x, hx⟩ : ∃ k, q.fs[j]? = some k := ⟨_, List.getElem?_eq_getElem (by omega)⟩
          have hxm := List.mem_of_getElem? hx
          obtain ⟨hp1, hp2⟩ := ho2 x hxm
          obtain ⟨hk1, hk2⟩ := fone_ok hc hxm
          have hfl := flip_ok hp1 hp2
          refine awp_skip ?_
          refine thenE_n ?_
          refine awp_seq ?_
          refine awp_block ?_
          refine awp_seq ?_
          refine awp_region ?_
          first | refine aops_v rfl rfl rfl (a_fieldAddr rfl fk26_1 rfl rfl ?_) | refine aops_v rfl rfl rfl (a_fieldAddr_pin rfl fk26_1 rfl rfl ?_)
          first | refine aops_v rfl rfl rfl (a_load_pin rfl tk24 rfl rfl ?_) | refine aops_v rfl rfl rfl (a_load rfl tk24 rfl HP rfl ?_)
          refine aops_v rfl rfl rfl (a_move rfl rfl ?_)
          first | refine aops_v rfl rfl rfl (a_indexAddr_lst rfl ek24 rfl rfl NT (by omega) (by omega) ?_) | refine aops_v rfl rfl rfl (a_indexAddr rfl ek24 rfl rfl NT (by omega) (by omega) ?_)
          refine aops_v rfl rfl rfl (a_load_pin rfl tk50 rfl (ldv_flat encF_len hx) ?_)
          refine aops_var rfl rfl rfl rfl rfl rfl rfl tk50 zk50 rfl rfl rfl rfl rfl ?_
          intro id15 hid15
          refine aops_nil ?_
          refine thenE_n ?_
          refine awp_seq ?_
          refine awp_region ?_
          first | refine aops_v rfl rfl rfl (a_load_pin rfl tk50 rfl rfl ?_) | refine aops_v rfl rfl rfl (a_load rfl tk50 rfl HP rfl ?_)
          refine aops_v rfl rfl rfl (a_buildSlice (res := [_, _]) rfl sk24 rfl rfl rfl ?_)
          refine aops_v rfl rfl rfl (a_build (res := [_, _]) rfl bk26 rfl rfl ?_)
          refine aops_call_eq rfl rfl rfl rfl cf14 rfl ((ASpec.wk (.cons (wk_agg (.cons wk_nil (.cons wk_refl .nil))) .nil) (new_spec ⟨[], [x]⟩ false true _ (qr_f hq hxm _)))) ?_
          rw [fltA_ok hk1]
          refine aops_v rfl rfl rfl (a_move rfl rfl ?_)
          refine aops_v rfl rfl rfl (a_extract rfl rfl rfl ?_)
          refine aops_v rfl rfl rfl (a_extract rfl rfl rfl ?_)
          refine aops_v rfl rfl rfl (a_assign rfl rfl ?_)
          refine aops_v rfl rfl rfl (a_assign rfl rfl ?_)
          refine aops_nil ?_
          refine thenE_n ?_
          refine awp_seq ?_
          refine awp_region ?_
          first | refine aops_v rfl rfl rfl (a_fieldAddr rfl fk50_0 rfl rfl ?_) | refine aops_v rfl rfl rfl (a_fieldAddr_pin rfl fk50_0 rfl rfl ?_)
          first | refine aops_v rfl rfl rfl (a_load_pin rfl tk3 rfl rfl ?_) | refine aops_v rfl rfl rfl (a_load rfl tk3 rfl HP rfl ?_)
          first | refine aops_v rfl rfl rfl (a_fieldAddr rfl fk50_0 rfl rfl ?_) | refine aops_v rfl rfl rfl (a_fieldAddr_pin rfl fk50_0 rfl rfl ?_)
          first | refine aops_v rfl rfl rfl (a_load_pin rfl tk3 rfl rfl ?_) | refine aops_v rfl rfl rfl (a_load rfl tk3 rfl HP rfl ?_)
          refine aops_v rfl rfl rfl (a_rem rfl rfl rfl (by omega) (by omega) ?_)
          first | refine aops_v rfl rfl rfl (a_mul rfl rfl rfl (by simp only [Go.AL.lo, Go.AL.hi]; omega) ?_) | refine aops_v rfl rfl rfl (a_int rfl rfl rfl rfl ?_)
          first | refine aops_v rfl rfl rfl (a_add rfl rfl rfl (by simp only [Go.AL.lo, Go.AL.hi]; omega) ?_) | refine aops_v rfl rfl rfl (a_int rfl rfl rfl rfl ?_)
          first | refine aops_v rfl rfl rfl (a_sub rfl rfl rfl (by simp only [Go.AL.lo, Go.AL.hi]; omega) ?_) | refine aops_v rfl rfl rfl (a_int rfl rfl rfl rfl ?_)
          first | refine aops_v rfl rfl rfl (a_fieldAddr rfl fk50_0 rfl rfl ?_) | refine aops_v rfl rfl rfl (a_fieldAddr_pin rfl fk50_0 rfl rfl ?_)
          refine aops_s rfl rfl (a_store rfl tk3 rfl rfl (upd_same _ _ _) rfl rfl (by simp [stv, AV.cells, encF]) ?_)
          refine aops_nil ?_
          refine thenE_n ?_
          refine awp_seq ?_
          rw [upd_upd]
          change AWp _ _ _ _ _ (upd σ id15 (.cells 0 50 (encF (flipF x))))
          refine awp_region ?_
          first | refine aops_v rfl rfl rfl (a_load_pin rfl tk50 rfl rfl ?_) | refine aops_v rfl rfl rfl (a_load rfl tk50 rfl HP rfl ?_)
          refine aops_v rfl rfl rfl (a_buildSlice (res := [_, _]) rfl sk24 rfl rfl rfl ?_)
          refine aops_v rfl rfl rfl (a_build (res := [_, _]) rfl bk26 rfl rfl ?_)
          refine aops_call_eq rfl rfl rfl rfl cf14 rfl ((ASpec.wk (.cons (wk_agg (.cons wk_nil (.cons wk_refl .nil))) .nil) (new_spec ⟨[], [flipF x]⟩ false true _ (qr_f hq hxm _)))) ?_
          rw [fltA_ok hk2]
          refine aops_v rfl rfl rfl (a_move rfl rfl ?_)
          refine aops_v rfl rfl rfl (a_extract rfl rfl rfl ?_)
          refine aops_v rfl rfl rfl (a_extract rfl rfl rfl ?_)
          refine aops_v rfl rfl rfl (a_assign rfl rfl ?_)
          refine aops_v rfl rfl rfl (a_assign rfl rfl ?_)
          refine aops_nil ?_
          refine thenE_n ?_
          refine awp_seq ?_
          refine awp_seq ?_
          refine awp_draw [0, 0, 3, 0, 0, 31, 63] 7 rfl (by decide +kernel) (by decide +kernel) (by decide +kernel) rfl ?_
          simp only [List.take_succ_cons, List.take_zero, List.take_nil, List.drop_succ_cons, List.drop_zero, List.drop_nil]
          refine dp_val rfl (apure_val (a_move rfl rfl pure_done)) rfl ?_
          first | refine dp_val rfl (apure_val (a_load_pin rfl tk44 rfl rfl pure_done)) rfl ?_ | refine dp_val rfl (apure_val (a_load rfl tk44 rfl HP rfl pure_done)) rfl ?_
          refine dp_val rfl (apure_call rfl cf17 rfl (holds_spec ⟨[], [x]⟩ rc false _ hk1 hr)) rfl ?_
          refine dp_val rfl (apure_val (a_move rfl rfl pure_done)) rfl ?_
          first | refine dp_val rfl (apure_val (a_load_pin rfl tk44 rfl rfl pure_done)) rfl ?_ | refine dp_val rfl (apure_val (a_load rfl tk44 rfl HP rfl pure_done)) rfl ?_
          refine dp_val rfl (apure_call rfl cf17 rfl (holds_spec ⟨[], [flipF x]⟩ rc false _ hk2 hr)) rfl ?_
          refine dp_val rfl (apure_val (a_bool rfl ib4 rfl rfl rfl pure_done)) rfl ?_
          change AOps _ _ _ _ _ _ _
          refine aops_nil ?_
          refine thenE_n ?_
          refine awp_cond rfl (fun h7 => ?_) (fun h7 => ?_)
          · try simp only [zz1, zz2, ne_eq, zz4, zz5, zz6, gt_iff_lt, ge_iff_le, zz9, zz0] at h7
            rw [fone_holds, fone_holds, fHold_flip rc hp1 hp2] at h7; cases hm : fHold rc x <;> rw [hm] at h7 <;> exact absurd h7 (by decide)
          · try simp only [zz1, zz2, ne_eq, zz4, zz5, zz6, gt_iff_lt, ge_iff_le, zz9, zz0] at h7
            refine awp_skip ?_
            refine thenE_n ?_
            refine awp_region ?_
            refine aops_v rfl rfl rfl (a_move rfl rfl ?_)
            refine aops_v rfl rfl rfl (a_move rfl rfl ?_)
            refine aops_bool (fun h8 => ?_) (fun h8 => ?_)
            · try simp only [zz1, zz2, ne_eq, zz4, zz5, zz6, gt_iff_lt, ge_iff_le, zz9, zz0] at h8
              have hA := h8
              refine aops_yes rfl rfl rfl rfl ?_
              refine aops_v rfl rfl rfl (a_move rfl rfl ?_)
              refine aops_yes rfl rfl rfl rfl ?_
              first | refine aops_v rfl rfl rfl (a_load_pin rfl tk44 rfl rfl ?_) | refine aops_v rfl rfl rfl (a_load rfl tk44 rfl HP rfl ?_)
              refine aops_yes rfl rfl rfl rfl ?_
              refine aops_call_eq rfl rfl rfl rfl cf17 rfl (holds_spec ⟨[], [x]⟩ rc false _ hk1 hr) ?_
              rw [fone_holds]
              refine aops_v rfl rfl rfl (a_pick rfl rfl rfl ?_)
              refine aops_v rfl rfl rfl (a_assign rfl rfl ?_)
              refine aops_nil ?_
              refine blockE_n ?_
              refine thenE_n ?_
              refine awp_region ?_
              refine aops_v rfl rfl rfl (a_move rfl rfl ?_)
              first | refine aops_v rfl rfl rfl (a_add rfl rfl rfl (by simp only [Go.AL.lo, Go.AL.hi]; omega) ?_) | refine aops_v rfl rfl rfl (a_int rfl rfl rfl rfl ?_)
              refine aops_v rfl rfl rfl (a_assign rfl rfl ?_)
              refine aops_nil ?_
              refine thenE_n ?_
              have e : (q.ms.all (mHold rc) && (q.fs.take (j + 1)).all (fHold rc)) = fHold rc x := by rw [all_take _ hx]; (try rw [← Bool.and_assoc]); rw [hA]; simp
              refine gst_sub σ (fun k o hk => by rw [upd_ne _ _ (fun e => by rw [e, hid15] at hk; exact absurd hk (by simp))]; exact hk) ?_
              exact .done ⟨j + 1, by omega, by omega, by rw [e]; repeat (first | exact Env.le_nil _ | refine Env.le_cons rfl ?_ | refine Env.le_cons (le_int rfl (by omega)) ?_), rfl⟩
            · try simp only [zz1, zz2, ne_eq, zz4, zz5, zz6, gt_iff_lt, ge_iff_le, zz9, zz0] at h8
              have hA := h8
              refine aops_no rfl rfl rfl rfl rfl rfl ?_
              refine aops_no rfl rfl rfl rfl rfl rfl ?_
              refine aops_no rfl rfl rfl rfl rfl rfl ?_
              refine aops_v rfl rfl rfl (a_pick rfl rfl rfl ?_)
              refine aops_v rfl rfl rfl (a_assign rfl rfl ?_)
              refine aops_nil ?_
              refine blockE_n ?_
              refine thenE_n ?_
              refine awp_region ?_
              refine aops_v rfl rfl rfl (a_move rfl rfl ?_)
              first | refine aops_v rfl rfl rfl (a_add rfl rfl rfl (by simp only [Go.AL.lo, Go.AL.hi]; omega) ?_) | refine aops_v rfl rfl rfl (a_int rfl rfl rfl rfl ?_)
              refine aops_v rfl rfl rfl (a_assign rfl rfl ?_)
              refine aops_nil ?_
              refine thenE_n ?_
              have e : (q.ms.all (mHold rc) && (q.fs.take (j + 1)).all (fHold rc)) = false := by rw [all_take _ hx]; (try rw [← Bool.and_assoc]); rw [hA]; simp
              refine gst_sub σ (fun k o hk => by rw [upd_ne _ _ (fun e => by rw [e, hid15] at hk; exact absurd hk (by simp))]; exact hk) ?_
              exact .done ⟨j + 1, by omega, by omega, by rw [e]; repeat (first | exact Env.le_nil _ | refine Env.le_cons rfl ?_ | refine Env.le_cons (le_int rfl (by omega)) ?_), rfl⟩
        · try simp only [zz1, zz2, ne_eq, zz4, zz5, zz6, gt_iff_lt, ge_iff_le, zz9, zz0] at h6
          obtain rfl : j = q.fs.length := by omega
          rw [List.take_length]
          refine awp_exit ?_
          refine thenE_x ?_
          refine thenE_x ?_
          refine blockE_x ?_
          refine thenE_n ?_
          refine awp_seq ?_
          refine awp_region ?_
          refine aops_v rfl rfl rfl (a_move rfl rfl ?_)
          first | refine aops_v rfl rfl rfl (a_load_pin rfl tk44 rfl rfl ?_) | refine aops_v rfl rfl rfl (a_load rfl tk44 rfl HP rfl ?_)
          refine aops_call_eq rfl rfl rfl rfl cf17 rfl (holds_spec q rc false _ hc hr) ?_
          refine aops_v rfl rfl rfl (a_move rfl rfl ?_)
          refine aops_v rfl rfl rfl (a_bool rfl ib4 rfl rfl rfl ?_)
          refine aops_v rfl rfl rfl (a_assign rfl rfl ?_)
          refine aops_nil ?_
          refine thenE_n ?_
          refine awp_ret ?_
          change Gst _ _ _ _
          refine fin1 rfl ?_
          exact ⟨by simp [holdsP], rfl⟩

end Go.Proofs.YtnahdpjbddfhgaaGreatDoor
namespace Go.Proofs.YtnahdpjbddfhgaaGreatDoor
set_option maxRecDepth 100000
open Go Go.AL Go.ChangeShapes Go.WideShapes Go.ChangeAt Go.RowKit Go.Lib

/-! ### the seat's bulk, types and tables -/
theorem bulkAll_sum {H : Type} : ∀ l : List (DataW H), Rows.uptoBulkAll l = (l.map Rows.uptoBulk).sum
  | [] => by simp [Rows.uptoBulkAll]
  | d :: r => by simp only [Rows.uptoBulkAll, List.map_cons, List.sum_cons, bulkAll_sum r]
theorem bulkOk {H : Type} : BulkOk (H := H) Rows.uptoBulk where
  str b := by simp [Rows.uptoBulk]
  lit l := by cases l <;> simp [Rows.uptoBulk]
  nil := by simp [Rows.uptoBulk]
  sl a b := by simp only [Rows.uptoBulk, bulkAll_sum]; omega
  ag a := by simp only [Rows.uptoBulk, bulkAll_sum]; exact Nat.le_refl _

section
variable {H : Type} {enc : TypeId × Value → H} {W : World} {hg : GoodW W.heap.size W}
abbrev D (enc : TypeId × Value → H) (W : World) (hg : GoodW W.heap.size W) (t : TypeId) {α : Type} (en : α → List AV) (sz : α → Nat) : Prop := Dec enc Tryz.prog W hg Rows.uptoBulk t en sz
theorem d9 : D enc W hg 9 (fun s : List UInt8 => [str s]) (fun s => s.length + 1) := dec_str bulkOk Tryz.underlying9
theorem d3 : D enc W hg 3 (fun n : Int => [.v (.int .i64 n)]) (fun _ => 1) := dec_int bulkOk Tryz.underlying3
theorem d48 : D enc W hg 48 encM (fun m => m.name.length + m.val.length + 3) := by
  refine Dec.map (dec_st bulkOk (k := 3) Tryz.underlying48 (by kernel_rfl) (fun _ => rfl) (decF_cons (k := 1) d9 rfl (by kernel_rfl) (fun _ => rfl) (decF_cons (k := 1) d3 rfl (by kernel_rfl) (fun _ => rfl) (decF_cons (k := 1) d9 rfl (by kernel_rfl) (fun _ => rfl) decF_nil)))) (fun p => ⟨p.1, p.2.1, p.2.2.1⟩) (fun _ => rfl) (fun p => by dsimp only; omega)
theorem d50 : D enc W hg 50 encF (fun m => m.txt.length + 2) := by
  refine Dec.map (dec_st bulkOk (k := 2) Tryz.underlying50 (by kernel_rfl) (fun _ => rfl) (decF_cons (k := 1) d3 rfl (by kernel_rfl) (fun _ => rfl) (decF_cons (k := 1) d9 rfl (by kernel_rfl) (fun _ => rfl) decF_nil))) (fun p => ⟨p.1, p.2.1⟩) (fun _ => rfl) (fun p => by dsimp only; omega)
theorem d23 : D enc W hg 23 (fun l : List Mt => [.lst (l.flatMap encM) l.length false]) (fun l => (l.map fun m => m.name.length + m.val.length + 3).sum + 1) := dec_sl bulkOk Tryz.underlying23 (by kernel_rfl) (by decide) encM_len d48
theorem d24 : D enc W hg 24 (fun l : List Fl => [.lst (l.flatMap encF) l.length false]) (fun l => (l.map fun m => m.txt.length + 2).sum + 1) := dec_sl bulkOk Tryz.underlying24 (by kernel_rfl) (by decide) encF_len d50
def szQ (q : Qr) : Nat := (q.ms.map fun m => m.name.length + m.val.length + 3).sum + (q.fs.map fun m => m.txt.length + 2).sum
theorem d26 : D enc W hg 26 (fun q : Qr => encQ q false false) szQ := by
  refine Dec.map (dec_st bulkOk (k := 2) Tryz.underlying26 (by kernel_rfl) (fun _ => rfl) (decF_cons (k := 1) d23 rfl (by kernel_rfl) (fun _ => rfl) (decF_cons (k := 1) d24 rfl (by kernel_rfl) (fun _ => rfl) decF_nil))) (fun p => ⟨p.1, p.2.1⟩) (fun _ => rfl) (fun p => by unfold szQ; dsimp only; omega)
theorem d54 : D enc W hg 54 encL (fun l => l.name.length + l.val.length + 2) := by
  refine Dec.map (dec_st bulkOk (k := 2) Tryz.underlying54 (by kernel_rfl) (fun _ => rfl) (decF_cons (k := 1) d9 rfl (by kernel_rfl) (fun _ => rfl) (decF_cons (k := 1) d9 rfl (by kernel_rfl) (fun _ => rfl) decF_nil))) (fun p => ⟨p.1, p.2.1⟩) (fun _ => rfl) (fun p => by dsimp only; omega)
theorem d42 : D enc W hg 42 (fun l : List Lb => [.lst (l.flatMap encL) l.length false]) (fun l => (l.map fun m => m.name.length + m.val.length + 2).sum + 1) := dec_sl bulkOk Tryz.underlying42 (by kernel_rfl) (by decide) encL_len d54
theorem d2 : D enc W hg 2 (fun n : Int => [.v (.int .i64 n)]) (fun _ => 1) := dec_int bulkOk Tryz.underlying2
theorem d41 : D enc W hg 41 (fun n : Int => [.v (.int .u64 n)]) (fun _ => 1) := dec_int bulkOk Tryz.underlying41
def szR (r : Rc) : Nat := (r.labels.map fun m => m.name.length + m.val.length + 2).sum + r.line.length
theorem d44 : D enc W hg 44 (fun r : Rc => encR r false) szR := by
  refine Dec.map (dec_st bulkOk (k := 4) Tryz.underlying44 (by kernel_rfl) (fun _ => rfl) (decF_cons (k := 1) d2 rfl (by kernel_rfl) (fun _ => rfl) (decF_cons (k := 1) d41 rfl (by kernel_rfl) (fun _ => rfl)
    (decF_cons (k := 1) d42 rfl (by kernel_rfl) (fun _ => rfl) (decF_cons (k := 1) d9 rfl (by kernel_rfl) (fun _ => rfl) decF_nil))))) (fun p => ⟨p.1, p.2.1, p.2.2.1, p.2.2.2.1⟩) (fun _ => rfl) (fun p => by unfold szR; dsimp only; omega)
end
theorem sum_mem {α : Type} (f : α → Nat) : ∀ (l : List α) (x : α), x ∈ l → f x ≤ (l.map f).sum
  | y :: l, x, h => by
    simp only [List.map_cons, List.sum_cons]
    rcases List.mem_cons.1 h with rfl | h
    · omega
    · have := sum_mem f l x h; omega
theorem sum_len {α : Type} (f : α → Nat) (k : Nat) (hf : ∀ x, k ≤ f x) : ∀ l : List α, k * l.length ≤ (l.map f).sum
  | [] => by simp
  | y :: l => by
    have h1 := sum_len f k hf l; have h2 := hf y
    simp only [List.map_cons, List.sum_cons, List.length_cons, Nat.mul_succ]; omega
theorem qr_of {q : Qr} (h : szQ q ≤ 1048576) : QrOk q ∧ ∀ m ∈ q.ms, m.name.length ≤ 10000000 := by
  unfold szQ at h
  have h1 := sum_len (fun m : Mt => m.name.length + m.val.length + 3) 3 (fun _ => by omega) q.ms
  have h2 := sum_len (fun m : Fl => m.txt.length + 2) 2 (fun _ => by omega) q.fs
  refine ⟨⟨by omega, by omega, fun m hm => ?_, fun m hm => ?_⟩, fun m hm => ?_⟩
  · have := sum_mem (fun m : Mt => m.name.length + m.val.length + 3) q.ms m hm; omega
  · have := sum_mem (fun m : Fl => m.txt.length + 2) q.fs m hm; omega
  · have := sum_mem (fun m : Mt => m.name.length + m.val.length + 3) q.ms m hm; omega
theorem rc_of {r : Rc} (h : szR r ≤ 1048576) : RcOk r := by
  unfold szR at h
  have h1 := sum_len (fun m : Lb => m.name.length + m.val.length + 2) 2 (fun _ => by omega) r.labels
  refine ⟨by omega, fun m hm => ?_, by omega⟩
  have := sum_mem (fun m : Lb => m.name.length + m.val.length + 2) r.labels m hm; omega

/-! ### the tables -/
theorem own : ownKnob Tryz.prog.godebug = none := by kernel_rfl
abbrev laidL : List (String × DataW Unit) := [("unicode/utf8.acceptRanges", Rows.laid_unicode_utf8_acceptRanges), ("unicode/utf8.first", Rows.laid_unicode_utf8_first)]
theorem first_eq : Rows.laid_unicode_utf8_first = Lib.firstData := by kernel_rfl
theorem accept_eq : (Rows.laid_unicode_utf8_acceptRanges : DataW Unit) = Lib.acceptData := by kernel_rfl
theorem good_of {W : World} (hL : laidMetH Tryz.prog laidL W) (hsh : W.ShapedOpen Tryz.prog) : GoodW W.heap.size W := by
  have hm : ∃ m, W.cell? ⟨2, 0, none⟩ = some (.int .i64 m) := cell_of_shapedOpen_int (g := 2) (t := 3) (zero := #[.int .i64 0]) hsh (by decide +kernel) (by kernel_rfl) rfl (by kernel_rfl) (by kernel_rfl) Tryz.underlying3
  have hT : Lib.Utf8Tabs 0 1 W := utf8Tabs_of_readsT (ρ := Tryz.lays196_ren) (U8Types.of196 Tryz.lays196) ⟨by kernel_rfl, by kernel_rfl, by kernel_rfl, by kernel_rfl, by kernel_rfl, by kernel_rfl, by kernel_rfl⟩
    (first_eq ▸ Lib.laidMet.reads hL (.tail _ (.head _))) (accept_eq ▸ Lib.laidMet.reads hL (.head _))
  refine ⟨?_, hm, hT⟩
  obtain ⟨m, hm⟩ := hm
  unfold World.cell? at hm
  split at hm
  · rename_i hh; exact (Array.getElem?_eq_some_iff.1 hh).1
  · exact absurd hm (by simp)

/-- a world for the witness -/
noncomputable def laidWorld (os : Os) : World :=
  let put (h : Array Obj) (g : Nat) (cs : Array Value) : Array Obj := h.modify g fun
    | .cells _ t frozen => .cells cs t frozen
    | o => o
  let w0 := World.holding Tryz.prog os ⟨#[], #[], []⟩
  { w0 with heap := put (put w0.heap 0 (Lib.firstTab.map fun z => Value.int .u8 z).toArray) 1 ((List.range 16).flatMap fun i => [Value.int .u8 (Lib.accLo i), Value.int .u8 (Lib.accHi i)]).toArray }
theorem laid_met (os : Os) (args : Array Value) : laidMet Tryz.prog laidL ((laidWorld os).forCall (fun _ _ => 0) ⟨#[], args, []⟩).memory :=
  laidMet_of_run' 8 (by kernel_rfl) (by kernel_rfl)

/-- what a contract that ends in 'true' says of a call -/
theorem law_calls {H : Type} {enc : TypeId × Value → H} {fid : FuncId} {f : Func} {s : ChangeSpec} {apart fresh handsOn again : Bool} {W : World} {args : Array Value} {ds gs : List (DataW H)} {before : List MemPlace} (hg : GoodW W.heap.size W) {avs : List AV}
    (hspec : ASpec Tryz.prog fid avs (fun _ => none) fun r _ => r = .ret (boo true)) (hrel : VRels (G0 W hg) args avs)
    (hW : DataW.Whole enc Tryz.prog f.params.toList s.vars apart W args.toList ds gs before) (hvs : s.vars = []) (hfn : s.fn H (ds ++ gs) = { results := [.lit (.bool true)], args := ds }) (hrt : f.resultTypes = #[4])
    (hre : ∀ (W' : World) (sp : Nat → Bool), Below W.heap.size W W' → (∀ b, b < W.heap.size → sp b = true) → DataW.TrodAll enc Tryz.prog W' 0 sp true f.params.toList args.toList ds before) :
    Calls Tryz.prog fid args W fun e W' => ∃ v, e = .returned v ∧ s.post enc Tryz.prog f apart fresh handsOn again W args v W' := by
  refine (hspec (G0 W hg) W args (G0_st W hg) hrel).mono fun e W' ⟨G', σ', r, h1, h2, h3, h4⟩ => ?_
  subst h4
  cases e with
  | returned x =>
    have hx : x = .bool true := (show VRel G' x (.v (.bool true)) from h3).v_eq
    subst hx
    have hb : Below W.heap.size W W' := by have := h2.old; rw [h1.w0, h1.B] at this; exact this
    exact ⟨_, rfl, law_post hW hvs hfn hrt Tryz.underlying4 hb (fun sp hsp => hre W' sp hb hsp)⟩
  | _ => exact h3.elim

/-! ### QueryParts -/
theorem parts_contract (H : Type) (enc : TypeId × Value → H) (W : World) (base : Nat) (args : Array Value) (ds gs : List (DataW H)) (before : List MemPlace)
    (hval : ∀ (j : Nat) t v, Tryz.f6.params[j]? = some t → args[j]? = some v → Value.okWide Tryz.prog W .any base t v)
    (hW : DataW.Whole enc Tryz.prog Tryz.f6.params.toList Rows.queryPartsSpec.vars false W args.toList ds gs before) (hk : Rows.uptoSmall H (ds ++ gs) = true) (hg : GoodW W.heap.size W) :
    Calls Tryz.prog 6 args W fun e W' => ∃ v, e = .returned v ∧ Rows.queryPartsSpec.post enc Tryz.prog Tryz.f6 false true false false W args v W' := by
  have hW' := hW
  obtain ⟨p, q, hA0, hV, rfl, hfz, hnd⟩ := hW
  have hA : DataW.TrodAll enc Tryz.prog W 0 (fun _ => true) true Tryz.f6.params.toList args.toList ds p := hA0
  rw [Tryz.params6] at hA hval
  obtain ⟨v0, vs0, d0, ds0, p0, q0, hargs, rfl, rfl, h0, r0⟩ := trodAll_cons hA
  obtain ⟨v1, vs1, d1, ds1, p1, q1, rfl, rfl, rfl, h1, r1⟩ := trodAll_cons r0
  obtain ⟨rfl, rfl, rfl⟩ := trodAll_nil r1
  obtain rfl : args = #[v0, v1] := by cases args; simp_all
  obtain ⟨rfl, rfl⟩ := trodVars_none hV
  have hbulk : Rows.uptoBulkAll ([d0, d1] ++ []) ≤ 1048576 := of_decide_eq_true hk
  simp only [List.append_nil, Rows.uptoBulkAll] at hbulk
  obtain ⟨qq, g1, g2, g3⟩ := arg_st (hg := hg) d26 Tryz.underlying26 (Value.okWide_any_base (hval 0 26 v0 rfl rfl)) h0
  obtain ⟨rc, k1, k2, k3⟩ := arg_st (hg := hg) d44 Tryz.underlying44 (Value.okWide_any_base (hval 1 44 v1 rfl rfl)) h1
  obtain ⟨hq, _⟩ := qr_of (q := qq) (by omega)
  have hr := rc_of (r := rc) (by omega)
  refine law_calls hg (avs := [.agg (encQ qq false false), .agg (encR rc false)]) ((parts_spec qq rc _ hq hr).mono fun _ _ h => h.1) ⟨rfl, fun i a hi => ?_⟩ hW' rfl rfl rfl fun W' sp hb hsp => ?_
  · match i, hi with
    | 0, hi => simp only [List.getElem?_cons_zero, Option.some.injEq] at hi; subst hi; exact g1
    | 1, hi => simp only [List.getElem?_cons_succ, List.getElem?_cons_zero, Option.some.injEq] at hi; subst hi; exact k1
    | n + 2, hi => simp at hi
  · rw [List.append_nil]
    exact trodAll_cons_mk (g3 W' sp hb hsp) (trodAll_cons_mk (k3 W' sp hb hsp) trodAll_mk0)

def wargs : Array Value := #[.agg #[.slice none 0 0, .slice none 0 0], .agg #[.int .i64 0, .int .u64 0, .slice none 0 0, .string ⟨#[]⟩]]
theorem parts_reads (os : Os) {H : Type} (enc : TypeId × Value → H) : ∃ places, DataW.whole enc Tryz.prog ((laidWorld os).forCall (fun _ _ => 0) ⟨#[], wargs, []⟩).memory Tryz.f6.params.toList Rows.queryPartsSpec.vars false wargs.toList 8 =
    some ([.agg [.nil, .nil], .agg [.lit (.int .i64 0), .lit (.int .u64 0), .nil, .lit (.string [])]], [], places) :=
  ⟨[], by kernel_rfl⟩
theorem parts_lifted (os : Os) (started : os.Started) (H : Type) (enc : TypeId × Value → H) (F : Stop.Interp) :
    ReturnsInHanded {} Tryz.checked os 6 .any ((Rows.OpenSpec.upto Rows.queryPartsSpec).preRow enc Tryz.prog Tryz.f6 Rows.queryPartsUptoRow.domain false Rows.queryPartsUptoRow.laid) (((Rows.OpenSpec.upto Rows.queryPartsSpec).at F).post enc Tryz.prog Tryz.f6 false true false false) := by
  obtain ⟨places, hx⟩ := parts_reads os enc
  refine returnsInHanded_of_row (C := Tryz.checked) (s := Rows.OpenSpec.upto Rows.queryPartsSpec) own started (by kernel_rfl) Tryz.func6
    (witness_row_at (enc := enc) (C := Tryz.checked) false (laidWorld os) wargs rfl (by kernel_rfl) (by kernel_rfl) (by kernel_rfl)
      (OpenSpec.preRow_of_cond 8 hx (by kernel_rfl) (fun k hk => by cases hk; kernel_rfl) (by kernel_rfl) (laid_met os _))) ?_
  intro W base args ds gs before hval hW _ hcond _ hL hsh _
  exact parts_contract H enc W base args ds gs before hval hW (hcond _ rfl) (good_of hL hsh)
theorem parts_upto : Rows.QueryPartsUptoSaid :=
  OpenClaim.holds_of_cond 6 Tryz.f6 rfl rfl rfl rfl rfl rfl rfl ⟨rfl, rfl, rfl, rfl, rfl⟩ rfl rfl rfl rfl rfl (by kernel_rfl) Tryz.func6 (by kernel_rfl)
    (of_decide_eq_true (by kernel_rfl)) (by unfold Func.isWrapper; first | (rw [if_pos (by decide +kernel)]; kernel_rfl) | (rw [if_neg (by decide +kernel)]; exact ⟨rfl, rfl⟩))
    (fun os started H enc _ F => by rw [OpenClaim.pre_eq_preRow]; exact parts_lifted os started H enc F)
theorem parts_plain (f : FuncId) (fn : Func) (hf : Tryz.pinned.checked.prog.funcNamed "garner/garnerlaw24.QueryParts" = some f) (hfn : Tryz.pinned.checked.prog.funcs[f]? = some fn) :
    true = Tryz.pinned.checked.prog.looks [] ∧ ∀ (j : Nat) t, fn.params[j]? = some t → Tryz.pinned.checked.prog.wantsStandIn t = false := by
  obtain rfl : f = 6 := Option.some.inj ((show Tryz.prog.funcNamed "garner/garnerlaw24.QueryParts" = some 6 by kernel_rfl).symm.trans hf) |>.symm
  obtain rfl : fn = Tryz.f6 := (Option.some.inj (Tryz.func6.symm.trans hfn)).symm
  refine ⟨by kernel_rfl, fun j t ht => ?_⟩
  rw [Tryz.params6] at ht
  have : t = 26 ∨ t = 44 := by simpa using Array.mem_of_getElem? ht
  rcases this with rfl | rfl
  · exact (show Tryz.prog.wantsStandIn 26 = false by kernel_rfl)
  · exact (show Tryz.prog.wantsStandIn 44 = false by kernel_rfl)
theorem parts_card : Rows.QueryPartsUptoCardSaid :=
  Claim7.holds_tied_plain_at .later [] _ _ _ _ parts_upto (fun _ h => by cases h) (by kernel_rfl) (fun _ h => by cases h) queryPartsUpto_row_tie rfl ⟨rfl, rfl⟩ (by kernel_rfl) rfl parts_plain (by kernel_rfl)
end Go.Proofs.YtnahdpjbddfhgaaGreatDoor
