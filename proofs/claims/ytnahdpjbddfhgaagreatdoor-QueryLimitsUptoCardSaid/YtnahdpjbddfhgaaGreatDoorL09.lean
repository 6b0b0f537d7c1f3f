/- A part of the proof: the program logic AL, the walks of the functions that the law calls, what they compute. No condition of its own. -/
import Derived.Test.YtnahdpjbddfhgaaGreatDoorL08
set_option linter.unusedVariables false
set_option linter.unusedSimpArgs false
set_option linter.unusedVariables false
set_option linter.unusedSimpArgs false
namespace Go.Proofs.YtnahdpjbddfhgaaGreatDoor
open Go Go.AL
set_option maxRecDepth 100000
/-- a filter's matchers -/
def mA (f : Fl) : AV := if likeB f.op = true then matA f.txt else .v (.pointer none)
theorem mA_no {f : Fl} (h : likeB f.op = false) : mA f = .v (.pointer none) := by unfold mA; rw [h]; rfl
theorem mA_yes {f : Fl} (h : likeB f.op = true) : mA f = matA f.txt := by unfold mA; rw [if_pos h]
theorem mA_fill (x : Fl) : fillA (fun i => some (i*1,1)) ((repZ [Value.pointer none] (1*1)).map .v) [(0, mA x)] = some [mA x] := by
  unfold mA matA; split <;> (try split) <;> rfl
theorem mA_one (f : Fl) : (mA f).one = true := by unfold mA matA; split <;> (try split) <;> rfl
def filC (q : Qr) : List AV := [.lst (q.ms.flatMap encM) q.ms.length false, .lst (q.fs.flatMap encF) q.fs.length false, .lst ((q.ms.map Mt.fl).map mA) q.ms.length false, .lst (q.fs.map mA) q.fs.length false]
def nwC (q : Qr) (ms fs : List Fl) (i1 v1 i2 v2 : Nat) : List AV := [.lst (q.ms.flatMap encM) q.ms.length false, .lst (q.fs.flatMap encF) q.fs.length false, slv 1 (ms.map mA) ms.length i1 v1, slv 1 (fs.map mA) fs.length i2 v2]
def nwh (σ : AHeap) (p : Nat) (q : Qr) (ms fs : List Fl) (i1 v1 i2 v2 : Nat) : AHeap :=
  slh (slh (upd σ p (.cells 0 78 (nwC q ms fs i1 v1 i2 v2))) 80 (ms.map mA) ms.length i1 v1) 80 (fs.map mA) fs.length i2 v2
structure NwOk (σ : AHeap) (p n1 i1 n2 i2 : Nat) : Prop where
  hp : σ p = none
  h1 : σ i1 = none
  h2 : σ i2 = none
  p1 : p ≠ i1
  p2 : p ≠ i2
  ne : n1 = 0 ∨ n2 = 0 ∨ i1 ≠ i2
theorem nw_at {σ : AHeap} {p i1 v1 i2 v2 : Nat} {q : Qr} {ms fs : List Fl} (h1 : p ≠ i1) (h2 : p ≠ i2) : nwh σ p q ms fs i1 v1 i2 v2 p = some (.cells 0 78 (nwC q ms fs i1 v1 i2 v2)) := by
  unfold nwh; rw [slh_at _ _ _ _ h2, slh_at _ _ _ _ h1]; exact upd_same _ _ _
theorem nw_m {σ : AHeap} {p i1 v1 i2 v2 : Nat} {q : Qr} {ms : List Fl} : nwh σ p q ms [] i1 v1 i2 v2 = slh (upd σ p (.cells 0 78 (nwC q ms [] i1 v1 i2 v2))) 80 (ms.map mA) ms.length i1 v1 := rfl
theorem nw_f {σ : AHeap} {p i1 v1 i2 v2 : Nat} {q : Qr} {ms fs : List Fl} : nwh σ p q ms fs i1 v1 i2 v2 = slh (slh (upd σ p (.cells 0 78 (nwC q ms fs i1 v1 i2 v2))) 80 (ms.map mA) ms.length i1 v1) 80 (fs.map mA) fs.length i2 v2 := rfl
theorem nw_mset {σ : AHeap} {p i1 v1 i2 v2 : Nat} {q : Qr} {ms : List Fl} {o : AObj} (h : p ≠ i1) : upd (slh (upd σ p o) 80 (ms.map mA) ms.length i1 v1) p (.cells 0 78 (nwC q ms [] i1 v1 i2 v2)) = nwh σ p q ms [] i1 v1 i2 v2 := by
  rw [slh_upd _ _ _ _ h, upd_upd]; rfl
theorem nw_fset {σ : AHeap} {p i1 v1 i2 v2 : Nat} {q : Qr} {ms fs : List Fl} {o : AObj} (h : p ≠ i1) (h2 : p ≠ i2) :
    upd (slh (slh (upd σ p o) 80 (ms.map mA) ms.length i1 v1) 80 (fs.map mA) fs.length i2 v2) p (.cells 0 78 (nwC q ms fs i1 v1 i2 v2)) = nwh σ p q ms fs i1 v1 i2 v2 := by
  rw [slh_upd _ _ _ _ h2, slh_upd _ _ _ _ h, upd_upd]; rfl
theorem nw_free {σ : AHeap} {p n1 i1 n2 i2 v1 : Nat} {o : AObj} {cs : List AV} (hok : NwOk σ p n1 i1 n2 i2) (h : 0 < n2) : slh (upd σ p o) 80 cs n1 i1 v1 i2 = none := by
  rcases hok.ne with e | e | e
  · rw [e, slh_zero, upd_ne _ _ hok.p2.symm]; exact hok.h2
  · omega
  · rw [slh_at _ _ _ _ e.symm, upd_ne _ _ hok.p2.symm]; exact hok.h2
theorem gst_nw {N : Nat} {Q : Env → AHeap → Prop} {env : Env} {σ : AHeap} {p i1 v1 i2 v2 : Nat} {q : Qr} {ms fs : List Fl} (k : Nat) (hk : AL.look env k = some (.ref p 0 0)) (hok : NwOk σ p ms.length i1 fs.length i2)
    (h : Gst N Q ((k, .pin [.lst (q.ms.flatMap encM) q.ms.length false, .lst (q.fs.flatMap encF) q.fs.length false, .lst (ms.map mA) ms.length false, .lst (fs.map mA) fs.length false] 0) :: env) σ) : Gst N Q env (nwh σ p q ms fs i1 v1 i2 v2) := by
  -- the filters' list
  refine gst_frzL (sz := 1) (n := fs.length) (id := i2) (ver := v2) (e := 80) (cs := fs.map mA) (by simp) ?_ [] (by simp)
    (slh (upd σ p (.cells 0 78 [.lst (q.ms.flatMap encM) q.ms.length false, .lst (q.fs.flatMap encF) q.fs.length false, slv 1 (ms.map mA) ms.length i1 v1, .lst (fs.map mA) fs.length false])) 80 (ms.map mA) ms.length i1 v1) ?_ ?_
  · intro h0; unfold nwh; rw [slh_pos h0]; exact upd_same _ _ _
  · intro k o hk
    by_cases hkp : k = p
    · subst hkp
      rw [slh_at _ _ _ _ hok.p1, upd_same] at hk
      simp only [Option.some.injEq] at hk
      subst hk
      exact ⟨fun _ => hok.p2, _, nw_at hok.p1 hok.p2, .cells (.cons (.refl _) (.cons (.refl _) (.cons (.refl _) (.cons .sl .nil))))⟩
    · by_cases hm : 0 < ms.length ∧ k = i1
      · obtain ⟨hm0, rfl⟩ := hm
        rw [slh_pos hm0, upd_same] at hk
        have hne : 0 < fs.length → k ≠ i2 := fun h0 => hok.ne.elim (fun e => by omega) (fun e => e.elim (fun e => by omega) id)
        refine ⟨hne, o, ?_, .refl o⟩
        unfold nwh
        rcases Nat.eq_zero_or_pos fs.length with h0 | h0
        · rw [h0, slh_zero, slh_pos hm0, upd_same]; exact hk
        · rw [slh_at _ _ _ _ (hne h0), slh_pos hm0, upd_same]; exact hk
      · have hk2 : σ k = some o := by
          rcases Nat.eq_zero_or_pos ms.length with h0 | h0
          · rw [h0] at hk; simp only [slh] at hk; rw [upd_ne _ _ hkp] at hk; exact hk
          · rw [slh_at _ _ _ _ (fun e => hm ⟨h0, e⟩), upd_ne _ _ hkp] at hk; exact hk
        have n1 : k ≠ i1 := fun e => by rw [e, hok.h1] at hk2; exact absurd hk2 (by simp)
        have n2 : k ≠ i2 := fun e => by rw [e, hok.h2] at hk2; exact absurd hk2 (by simp)
        exact ⟨fun _ => n2, o, by unfold nwh; rw [slh_at _ _ _ _ n2, slh_at _ _ _ _ n1, upd_ne _ _ hkp]; exact hk2, .refl o⟩
  -- the matchers' list
  refine gst_frzL (sz := 1) (n := ms.length) (id := i1) (ver := v1) (e := 80) (cs := ms.map mA) (by simp) ?_ [] (by simp)
    (upd σ p (.cells 0 78 [.lst (q.ms.flatMap encM) q.ms.length false, .lst (q.fs.flatMap encF) q.fs.length false, .lst (ms.map mA) ms.length false, .lst (fs.map mA) fs.length false])) ?_ ?_
  · intro h0; rw [slh_pos h0]; exact upd_same _ _ _
  · intro k o hk
    by_cases hkp : k = p
    · subst hkp
      rw [upd_same] at hk
      simp only [Option.some.injEq] at hk
      subst hk
      exact ⟨fun _ => hok.p1, _, by rw [slh_at _ _ _ _ hok.p1]; exact upd_same _ _ _, .cells (.cons (.refl _) (.cons (.refl _) (.cons .sl (.cons (.refl _) .nil))))⟩
    · rw [upd_ne _ _ hkp] at hk
      have n1 : k ≠ i1 := fun e => by rw [e, hok.h1] at hk; exact absurd hk (by simp)
      exact ⟨fun _ => n1, o, by rw [slh_at _ _ _ _ n1, upd_ne _ _ hkp]; exact hk, .refl o⟩
  · refine gst_freeze (upd_same _ _ _) [(k, .pin [.lst (q.ms.flatMap encM) q.ms.length false, .lst (q.fs.flatMap encF) q.fs.length false, .lst (ms.map mA) ms.length false, .lst (fs.map mA) fs.length false] 0)] ?_ ?_
    · intro x hx
      simp only [List.mem_singleton] at hx
      subst hx
      exact ⟨_, hk, .ref⟩
    · rw [del_upd _ _ hok.hp]; exact h
def fltA (q : Qr) : AV := if checkP q = 0 then .pin (filC q) 0 else .v (.pointer none)
theorem take_take1 {α : Type} {l : List α} {j n : Nat} {x : α} (h : l[j]? = some x) (hj : j < n) : (l.take (j + 1)).take n = (l.take j).take n ++ [x] ∧ (l.take (j + 1)).drop n = [] ∧ (l.take j).drop n = [] := by
  have hl := (List.getElem?_eq_some_iff.1 h).1
  refine ⟨?_, List.drop_of_length_le (by simp; omega), List.drop_of_length_le (by simp; omega)⟩
  rw [List.take_of_length_le (l := l.take (j+1)) (by simp; omega), List.take_of_length_le (l := l.take j) (by simp; omega), take_succ' h]
theorem take_take2 {α : Type} {l : List α} {j n : Nat} {x : α} (h : l[j]? = some x) (hj : n ≤ j) : (l.take (j + 1)).take n = (l.take j).take n ∧ (l.take (j + 1)).drop n = (l.take j).drop n ++ [x] := by
  have hl := (List.getElem?_eq_some_iff.1 h).1
  refine ⟨by rw [List.take_take, List.take_take, Nat.min_eq_left (by omega), Nat.min_eq_left hj], ?_⟩
  rw [take_succ' h, List.drop_append_of_le_length (by simp; omega)]
/-- a record's part -/
def cmpl (s : List UInt8) : List In := compileP (rexpP s).1
def mYes (r : Rc) (m : Mt) : Bool := if likeB m.op = true then wholeP (cmpl m.val) (findP r.labels m.name).1 else decide ((findP r.labels m.name).1 = m.val)
def fYes (r : Rc) (f : Fl) : Bool := if likeB f.op = true then partP (cmpl f.txt) r.line else Lib.contains r.line f.txt
def mHold (r : Rc) (m : Mt) : Bool := !(mYes r m == notB m.op)
def fHold (r : Rc) (f : Fl) : Bool := !(fYes r f == notB f.op)
def holdsP (q : Qr) (r : Rc) : Bool := q.ms.all (mHold r) && q.fs.all (fHold r)
structure RcOk (r : Rc) : Prop where
  ls : r.labels.length ≤ 1000000
  lv : ∀ l ∈ r.labels, l.val.length ≤ 1000000000
  line : r.line.length ≤ 1000000000
theorem find_len {r : Rc} (h : RcOk r) (nm : List UInt8) : (findP r.labels nm).1.length ≤ 1000000000 := by
  have hv := h.lv
  generalize r.labels = l at hv
  induction l with
  | nil => simp [findP]
  | cons x t ih =>
    unfold findP
    split
    · exact hv x List.mem_cons_self
    · exact ih fun y hy => hv y (List.mem_cons_of_mem _ hy)
theorem check_parts {q : Qr} (h : checkP q = 0) : q.ms.length ≤ 16 ∧ q.fs.length ≤ 16 ∧ q.ms.all mOk = true ∧ (q.fs.all fun f => opB f.op) = true ∧ ((allP q).all fun f => Lib.validD f.txt) = true ∧ ((allP q).all rexB) = true := by
  rw [checkP_eq] at h
  split at h
  · exact absurd h (by decide)
  rename_i h1
  split at h
  · exact absurd h (by decide)
  rename_i h2
  split at h
  · exact absurd h (by decide)
  rename_i h3
  split at h
  · exact absurd h (by decide)
  rename_i h4
  split at h
  · exact absurd h (by decide)
  rename_i h5
  exact ⟨by omega, by omega, by simpa using h2, by simpa using h3, by simpa using h4, by simpa using h5⟩
theorem like_ok {q : Qr} (h : checkP q = 0) {f : Fl} (hf : f ∈ allP q) (hl : likeB f.op = true) : mA f = .pin [prgA (rexpP f.txt).1 (cmpl f.txt)] 0 ∧ PgOk (cmpl f.txt) ∧ (cmpl f.txt).length ≤ 100000 ∧ 0 < (cmpl f.txt).length := by
  have h1 := (check_parts h).2.2.2.2.2
  rw [List.all_eq_true] at h1
  have h2 := h1 f hf
  have h3 : (rexpP f.txt).2 = 0 := by simpa [rexB, hl] using h2
  obtain ⟨t1, t2, t3, t4⟩ := rexp_ok h3
  refine ⟨by rw [mA_yes hl, matA, if_pos h3]; rfl, compile_ok t1, ?_, ?_⟩
  · unfold cmpl; rw [compile_len]; omega
  · unfold cmpl; rw [compile_len]; omega

theorem new_spec (q : Qr) (ex ex' : Bool) (σ : AHeap) (hq : QrOk q) : ASpec Tryz.prog 14 [.agg (encQ q ex ex')] σ fun r σ' => r = .ret (.tup [fltA q, int (checkP q)]) ∧ σ' = σ := by
  have hqa := allP_ok hq; have hqm := hq.ms; have hqf := hq.fs; have hqal := hqa.1
  unfold encQ
  refine aspec_enter (N := 67) (rs := [.tmp 2, .tmp 3]) Tryz.func14 rfl rfl rfl rfl rfl rfl ?_
  refine awp_seq ?_
  refine awp_region ?_
  refine aops_v rfl rfl rfl (a_box_frz rfl rfl rfl ?_)
  refine aops_v rfl rfl rfl (a_assign rfl rfl ?_)
  refine aops_v rfl rfl rfl (a_assign rfl rfl ?_)
  refine aops_nil ?_
  refine thenE_n ?_
  refine awp_seq ?_
  refine awp_seq ?_
  refine awp_region ?_
  first | refine aops_v rfl rfl rfl (a_load_pin rfl tk26 rfl rfl ?_) | refine aops_v rfl rfl rfl (a_load rfl tk26 rfl HP rfl ?_)
  refine aops_call_eq rfl rfl rfl rfl cf15 rfl (check_spec q ex ex' _ hq) ?_
  refine aops_v rfl rfl rfl (a_assign rfl rfl ?_)
  refine aops_nil ?_
  refine thenE_n ?_
  refine awp_seq ?_
  refine awp_region ?_
  refine aops_v rfl rfl rfl (a_move rfl rfl ?_)
  refine aops_v rfl rfl rfl (a_int rfl rfl rfl rfl ?_)
  refine aops_nil ?_
  refine thenE_n ?_
  refine awp_cond rfl (fun h1 => ?_) (fun h1 => ?_)
  · try simp only [zz1, zz2, ne_eq, zz4, zz5, zz6, gt_iff_lt, ge_iff_le, zz9, zz0] at h1
    have hc := h1
    refine awp_seq ?_
    refine awp_region ?_
    refine aops_v rfl rfl rfl (a_move rfl rfl ?_)
    refine aops_v rfl rfl rfl (a_assign rfl rfl ?_)
    refine aops_v rfl rfl rfl (a_assign rfl rfl ?_)
    refine aops_nil ?_
    refine thenE_n ?_
    refine awp_ret ?_
    change Gst _ _ _ _
    refine fin2 rfl ?_
    exact ⟨by unfold fltA; rw [if_neg hc], rfl⟩
  · try simp only [zz1, zz2, ne_eq, zz4, zz5, zz6, gt_iff_lt, ge_iff_le, zz9, zz0] at h1
    have hc : checkP q = 0 := h1
    refine awp_skip ?_
    refine thenE_n ?_
    refine awp_seq ?_
    refine awp_draw [0, 1, 3, 0, 8, 31, 63, 127, 255, 511] 8 rfl (by decide +kernel) (by decide +kernel) (by decide +kernel) rfl ?_
    simp only [List.take_succ_cons, List.take_zero, List.take_nil, List.drop_succ_cons, List.drop_zero, List.drop_nil]
    first | refine dp_val rfl (apure_val (a_fieldAddr rfl fk26_0 rfl rfl pure_done)) rfl ?_ | refine dp_val rfl (apure_val (a_fieldAddr_pin rfl fk26_0 rfl rfl pure_done)) rfl ?_
    first | refine dp_val rfl (apure_val (a_load_pin rfl tk23 rfl rfl pure_done)) rfl ?_ | refine dp_val rfl (apure_val (a_load rfl tk23 rfl HP rfl pure_done)) rfl ?_
    refine dp_val rfl (apure_call rfl cf31 rfl (cloneMt_spec q.ms ex _ (by omega))) rfl ?_
    first | refine dp_val rfl (apure_val (a_fieldAddr rfl fk26_1 rfl rfl pure_done)) rfl ?_ | refine dp_val rfl (apure_val (a_fieldAddr_pin rfl fk26_1 rfl rfl pure_done)) rfl ?_
    first | refine dp_val rfl (apure_val (a_load_pin rfl tk24 rfl rfl pure_done)) rfl ?_ | refine dp_val rfl (apure_val (a_load rfl tk24 rfl HP rfl pure_done)) rfl ?_
    refine dp_val rfl (apure_call rfl cf32 rfl (cloneFl_spec q.fs ex' _ (by omega))) rfl ?_
    refine dp_val rfl (apure_val (a_build (res := [_, _]) rfl bk26 rfl rfl pure_done)) rfl ?_
    refine dp_val rfl (apure_val (a_build (res := [_, _, _, _]) rfl bk78 rfl rfl pure_done)) rfl ?_
    change AOps _ _ _ _ _ _ _
    refine aops_v rfl rfl rfl (a_box rfl rfl rfl ?_)
    intro id22 hid22
    refine aops_v rfl rfl rfl (a_assign rfl rfl ?_)
    refine aops_nil ?_
    refine thenE_n ?_
    refine awp_seq ?_
    refine awp_seq ?_
    change AWp _ _ _ _ _ (nwh σ id22 q [] [] 0 0 0 0)
    refine awp_region ?_
    first | refine aops_v rfl rfl rfl (a_load_pin rfl tk26 rfl rfl ?_) | refine aops_v rfl rfl rfl (a_load rfl tk26 rfl HP rfl ?_)
    refine aops_call_eq rfl rfl rfl rfl cf33 rfl (all_spec q ex ex' _ (by omega) (by omega)) ?_
    first | refine aops_v rfl rfl rfl (a_len_lst rfl isl24 rfl ?_) | refine aops_v rfl rfl rfl (a_len rfl isl24 rfl ?_) | refine aops_v rfl rfl rfl (a_len_slg rfl isl24 rfl ?_) | refine aops_v rfl rfl rfl (a_len_nil rfl isl24 rfl ?_)
    refine aops_v rfl rfl rfl (a_move rfl rfl ?_)
    refine aops_nil ?_
    refine thenE_n ?_
    refine awp_block ?_
    refine awp_fresh fun o0 ho0 => ?_
    obtain ⟨ho1, ho2⟩ : id22 ≠ o0 ∧ σ o0 = none := ne_of_upd ho0
    refine awp_loop (S := Nat × (Nat × Nat) × (Nat × Nat)) (fun x => [(1, .pin (encQ q ex ex') 0), (5, .ref id22 0 0), (24, .lst ((allP q).flatMap encF) (allP q).length false), (25, int (allP q).length), (26, int x.1)]) (fun x => nwh σ id22 q (((allP q).take x.1).take q.ms.length) (((allP q).take x.1).drop q.ms.length) x.2.1.1 x.2.1.2 x.2.2.1 x.2.2.2) (fun x => x.1 ≤ (allP q).length ∧ NwOk σ id22 (((allP q).take x.1).take q.ms.length).length x.2.1.1 (((allP q).take x.1).drop q.ms.length).length x.2.2.1) (fun x => (allP q).length - x.1) ⟨(0, (o0, 0), (o0, 0)), ⟨by simp, ⟨hid22, ho2, ho2, ho1, ho1, .inl (by simp)⟩⟩, EL, by simp [nwh, slh, nwC, slv]⟩ ?_
    rintro ⟨j, ⟨i1, v1⟩, ⟨i2, v2⟩⟩ ⟨hj, hok⟩
    dsimp only at hj hok
    dsimp only
    refine awp_seq ?_
    refine awp_region ?_
    refine aops_v rfl rfl rfl (a_int rfl rfl rfl rfl ?_)
    refine aops_nil ?_
    refine thenE_n ?_
    refine awp_seq ?_
    refine awp_cond rfl (fun h2 => ?_) (fun h2 => ?_)
    · try simp only [zz1, zz2, ne_eq, zz4, zz5, zz6, gt_iff_lt, ge_iff_le, zz9, zz0] at h2
      obtain ⟨x, hx⟩ : ∃ k, (allP q)[j]? = some k := ⟨_, List.getElem?_eq_getElem (by omega)⟩
      refine awp_skip ?_
      refine thenE_n ?_
      refine awp_seq ?_
      refine awp_block ?_
      refine awp_seq ?_
      refine awp_region ?_
      refine aops_v rfl rfl rfl (a_move rfl rfl ?_)
      first | refine aops_v rfl rfl rfl (a_indexAddr_lst rfl ek24 rfl rfl NT (by omega) (by omega) ?_) | refine aops_v rfl rfl rfl (a_indexAddr rfl ek24 rfl rfl NT (by omega) (by omega) ?_)
      refine aops_v rfl rfl rfl (a_load_pin rfl tk50 rfl (ldv_flat encF_len hx) ?_)
      refine aops_v rfl rfl rfl (a_alloc rfl zk50 ?_)
      intro id7 hid7
      refine aops_v rfl rfl rfl (a_assign rfl rfl ?_)
      first | refine aops_s rfl rfl (a_store_n (cs2 := [_, _]) rfl tk50 rfl rfl HP rfl rfl (by first | decide | (simp; done) | (simp; omega)) rfl ?_) | refine aops_s rfl rfl (a_store rfl tk50 rfl rfl HP rfl rfl (by first | decide | (simp [stv, AV.cells]; done) | (simp [stv, AV.cells]; omega)) ?_)
      refine aops_frz2 (d := 7) rfl hid7 ?_
      refine aops_nil ?_
      refine thenE_n ?_
      refine awp_seq ?_
      refine awp_region ?_
      refine aops_v rfl rfl rfl (a_assign rfl rfl ?_)
      refine aops_nil ?_
      refine thenE_n ?_
      refine awp_cut (S := Unit) (fun _ => [(1, .pin (encQ q ex ex') 0), (5, .ref id22 0 0), (24, .lst ((allP q).flatMap encF) (allP q).length false), (25, int (allP q).length), (26, int j), (6, int j), (8, mA x)]) (fun _ => nwh σ id22 q (((allP q).take j).take q.ms.length) (((allP q).take j).drop q.ms.length) i1 v1 i2 v2) (fun _ => True) ?_ ?_
      · skip
        refine awp_seq ?_
        refine awp_region ?_
        first | refine aops_v rfl rfl rfl (a_fieldAddr rfl fk50_0 rfl rfl ?_) | refine aops_v rfl rfl rfl (a_fieldAddr_pin rfl fk50_0 rfl rfl ?_)
        first | refine aops_v rfl rfl rfl (a_load_pin rfl tk3 rfl rfl ?_) | refine aops_v rfl rfl rfl (a_load rfl tk3 rfl HP rfl ?_)
        refine aops_call_eq rfl rfl rfl rfl cf34 rfl (like_spec _ _) ?_
        refine aops_nil ?_
        refine thenE_n ?_
        refine awp_cond rfl (fun h3 => ?_) (fun h3 => ?_)
        · try simp only [zz1, zz2, ne_eq, zz4, zz5, zz6, gt_iff_lt, ge_iff_le, zz9, zz0] at h3
          have hlk : likeB x.op = true := h3
          refine awp_region ?_
          first | refine aops_v rfl rfl rfl (a_fieldAddr rfl fk50_1 rfl rfl ?_) | refine aops_v rfl rfl rfl (a_fieldAddr_pin rfl fk50_1 rfl rfl ?_)
          first | refine aops_v rfl rfl rfl (a_load_pin rfl tk9 rfl rfl ?_) | refine aops_v rfl rfl rfl (a_load rfl tk9 rfl HP rfl ?_)
          refine aops_call_eq rfl rfl rfl rfl cf35 rfl (nfaNew_spec _ _ (by have := hqa.2 x (List.mem_of_getElem? hx); omega)) ?_
          refine aops_v rfl rfl rfl (a_move rfl rfl ?_)
          refine aops_v rfl rfl rfl (a_extract rfl rfl rfl ?_)
          refine aops_v rfl rfl rfl (a_extract rfl rfl rfl ?_)
          refine aops_v rfl rfl rfl (a_assign rfl rfl ?_)
          refine aops_nil ?_
          refine thenE_n ?_
          exact .done ⟨(), trivial, (by rw [mA_yes hlk]; repeat (first | exact Env.le_nil _ | refine Env.le_cons rfl ?_ | refine Env.le_cons (le_int rfl (by omega)) ?_)), rfl⟩
        · try simp only [zz1, zz2, ne_eq, zz4, zz5, zz6, gt_iff_lt, ge_iff_le, zz9, zz0] at h3
          have hlk : likeB x.op = false := h3
          refine awp_skip ?_
          refine thenE_n ?_
          exact .done ⟨(), trivial, (by rw [mA_no hlk]; repeat (first | exact Env.le_nil _ | refine Env.le_cons rfl ?_ | refine Env.le_cons (le_int rfl (by omega)) ?_)), rfl⟩
      intro _ _
      have hp1 := hok.p1; have hp2 := hok.p2
      refine awp_seq ?_
      refine awp_region ?_
      refine aops_v rfl rfl rfl (a_move rfl rfl ?_)
      first | refine aops_v rfl rfl rfl (a_fieldAddr rfl fk26_0 rfl rfl ?_) | refine aops_v rfl rfl rfl (a_fieldAddr_pin rfl fk26_0 rfl rfl ?_)
      first | refine aops_v rfl rfl rfl (a_load_pin rfl tk23 rfl rfl ?_) | refine aops_v rfl rfl rfl (a_load rfl tk23 rfl HP rfl ?_)
      first | refine aops_v rfl rfl rfl (a_len_lst rfl isl23 rfl ?_) | refine aops_v rfl rfl rfl (a_len rfl isl23 rfl ?_) | refine aops_v rfl rfl rfl (a_len_slg rfl isl23 rfl ?_) | refine aops_v rfl rfl rfl (a_len_nil rfl isl23 rfl ?_)
      refine aops_v rfl rfl rfl (a_int rfl rfl rfl rfl ?_)
      refine aops_nil ?_
      refine thenE_n ?_
      refine awp_cond rfl (fun h4 => ?_) (fun h4 => ?_)
      · try simp only [zz1, zz2, ne_eq, zz4, zz5, zz6, gt_iff_lt, ge_iff_le, zz9, zz0] at h4
        obtain ⟨tk1, tk2, tk3⟩ := take_take1 (n := q.ms.length) hx (by omega)
        rw [tk3, nw_m]
        obtain ⟨A, hA⟩ : ∃ A, ((allP q).take j).take q.ms.length = A := ⟨_, rfl⟩
        rw [hA] at tk1 hok ⊢
        have hAl : A.length ≤ 1000000 := by rw [← hA]; simp; omega
        refine awp_region ?_
        refine aops_v rfl rfl rfl (a_move rfl rfl ?_)
        refine aops_v rfl rfl rfl (a_move rfl rfl ?_)
        first | refine aops_v rfl rfl rfl (a_nilCheck rfl rfl ?_) | refine aops_v rfl rfl rfl (a_nilCheck_pin rfl rfl ?_) | refine aops_v rfl rfl rfl (a_nilCheck_clo rfl rfl ?_)
        first | refine aops_v rfl rfl rfl (a_fieldAddr rfl fk78_1 rfl rfl ?_) | refine aops_v rfl rfl rfl (a_fieldAddr_pin rfl fk78_1 rfl rfl ?_)
        refine aops_v rfl rfl rfl (a_load rfl tk76 rfl (by rw [slh_at _ _ _ _ hp1]; exact upd_same _ _ _) rfl ?_)
        refine aops_v rfl rfl rfl (a_move rfl rfl ?_)
        refine aops_v rfl rfl rfl (a_buildSlice (res := [mA x]) rfl sk76 rfl rfl (mA_fill x) ?_)
        refine aops_v rfl rfl rfl (a_append_slp rfl sk76 rfl (by simp) rfl (.lst rfl) (by simp [mA_one]) (by omega) (by simp only [maxLen]; omega) (by omega) (fun h => (by rw [upd_ne _ _ hp1.symm]; exact hok.h1)) ?_)
        intro i3 v3 hi3
        obtain ⟨hi3p, hi3n⟩ := ne_of_upd hi3
        rw [show A.map mA ++ [mA x] = (A ++ [x]).map mA by simp, show A.length + 1 = (A ++ [x]).length by simp]
        first | refine aops_v rfl rfl rfl (a_nilCheck rfl rfl ?_) | refine aops_v rfl rfl rfl (a_nilCheck_pin rfl rfl ?_) | refine aops_v rfl rfl rfl (a_nilCheck_clo rfl rfl ?_)
        first | refine aops_v rfl rfl rfl (a_fieldAddr rfl fk78_1 rfl rfl ?_) | refine aops_v rfl rfl rfl (a_fieldAddr_pin rfl fk78_1 rfl rfl ?_)
        refine aops_s rfl rfl (a_store_slv (cs2 := nwC q (A ++ [x]) [] i3 v3 i2 v2) rfl tk76 rfl rfl (by rw [slh_at _ _ _ _ hi3p]; exact upd_same _ _ _) (by simp [nwC]) rfl ?_)
        rw [nw_mset hi3p]
        refine aops_nil ?_
        refine blockE_n ?_
        refine thenE_n ?_
        refine awp_region ?_
        first | refine aops_v rfl rfl rfl (a_add rfl rfl rfl (by simp only [Go.AL.lo, Go.AL.hi]; omega) ?_) | refine aops_v rfl rfl rfl (a_int rfl rfl rfl rfl ?_)
        refine aops_v rfl rfl rfl (a_move rfl rfl ?_)
        refine aops_nil ?_
        refine thenE_n ?_
        exact .done ⟨(j + 1, (i3, v3), (i2, v2)), ⟨by dsimp only; omega, by dsimp only; rw [tk1, tk2]; exact ⟨hok.hp, hi3n, hok.h2, hi3p, hok.p2, .inr (.inl rfl)⟩⟩, by dsimp only; omega, EL, by dsimp only; rw [tk1, tk2]⟩
      · try simp only [zz1, zz2, ne_eq, zz4, zz5, zz6, gt_iff_lt, ge_iff_le, zz9, zz0] at h4
        obtain ⟨tk1, tk2⟩ := take_take2 (n := q.ms.length) hx (by omega)
        rw [nw_f]
        obtain ⟨A, hA⟩ : ∃ A, ((allP q).take j).take q.ms.length = A := ⟨_, rfl⟩
        obtain ⟨F, hF⟩ : ∃ F, ((allP q).take j).drop q.ms.length = F := ⟨_, rfl⟩
        rw [hA] at tk1 hok ⊢
        rw [hF] at tk2 hok ⊢
        have hFl : F.length ≤ 2000000 := by rw [← hF]; simp; omega
        refine awp_region ?_
        refine aops_v rfl rfl rfl (a_move rfl rfl ?_)
        refine aops_v rfl rfl rfl (a_move rfl rfl ?_)
        first | refine aops_v rfl rfl rfl (a_nilCheck rfl rfl ?_) | refine aops_v rfl rfl rfl (a_nilCheck_pin rfl rfl ?_) | refine aops_v rfl rfl rfl (a_nilCheck_clo rfl rfl ?_)
        first | refine aops_v rfl rfl rfl (a_fieldAddr rfl fk78_2 rfl rfl ?_) | refine aops_v rfl rfl rfl (a_fieldAddr_pin rfl fk78_2 rfl rfl ?_)
        refine aops_v rfl rfl rfl (a_load rfl tk76 rfl (by rw [slh_at _ _ _ _ hp2, slh_at _ _ _ _ hp1]; exact upd_same _ _ _) rfl ?_)
        refine aops_v rfl rfl rfl (a_move rfl rfl ?_)
        refine aops_v rfl rfl rfl (a_buildSlice (res := [mA x]) rfl sk76 rfl rfl (mA_fill x) ?_)
        refine aops_v rfl rfl rfl (a_append_slp rfl sk76 rfl (by simp) rfl (.lst rfl) (by simp [mA_one]) (by omega) (by simp only [maxLen]; omega) (by omega) (fun h => (nw_free hok h)) ?_)
        intro i3 v3 hi3
        have hi3x : id22 ≠ i3 ∧ σ i3 = none ∧ (A.length = 0 ∨ i1 ≠ i3) := slh_fresh hi3
        obtain ⟨hi3p, hi3n, hi3m⟩ := hi3x
        rw [show F.map mA ++ [mA x] = (F ++ [x]).map mA by simp, show F.length + 1 = (F ++ [x]).length by simp]
        first | refine aops_v rfl rfl rfl (a_nilCheck rfl rfl ?_) | refine aops_v rfl rfl rfl (a_nilCheck_pin rfl rfl ?_) | refine aops_v rfl rfl rfl (a_nilCheck_clo rfl rfl ?_)
        first | refine aops_v rfl rfl rfl (a_fieldAddr rfl fk78_2 rfl rfl ?_) | refine aops_v rfl rfl rfl (a_fieldAddr_pin rfl fk78_2 rfl rfl ?_)
        refine aops_s rfl rfl (a_store_slv (cs2 := nwC q A (F ++ [x]) i1 v1 i3 v3) rfl tk76 rfl rfl (by rw [slh_at _ _ _ _ hi3p, slh_at _ _ _ _ hp1]; exact upd_same _ _ _) (by simp [nwC]) rfl ?_)
        rw [nw_fset hp1 hi3p]
        refine aops_nil ?_
        refine blockE_n ?_
        refine thenE_n ?_
        refine awp_region ?_
        first | refine aops_v rfl rfl rfl (a_add rfl rfl rfl (by simp only [Go.AL.lo, Go.AL.hi]; omega) ?_) | refine aops_v rfl rfl rfl (a_int rfl rfl rfl rfl ?_)
        refine aops_v rfl rfl rfl (a_move rfl rfl ?_)
        refine aops_nil ?_
        refine thenE_n ?_
        exact .done ⟨(j + 1, (i1, v1), (i3, v3)), ⟨by dsimp only; omega, by dsimp only; rw [tk1, tk2]; exact ⟨hok.hp, hok.h1, hi3n, hok.p1, hi3p, hi3m.imp (fun h => h) .inr⟩⟩, by dsimp only; omega, EL, by dsimp only; rw [tk1, tk2]⟩
    · try simp only [zz1, zz2, ne_eq, zz4, zz5, zz6, gt_iff_lt, ge_iff_le, zz9, zz0] at h2
      obtain rfl : j = (allP q).length := by omega
      rw [List.take_length] at hok ⊢
      have e1 : (allP q).take q.ms.length = q.ms.map Mt.fl := by simp [allP]
      have e2 : (allP q).drop q.ms.length = q.fs := by simp [allP]
      rw [e1, e2] at hok ⊢
      refine awp_exit ?_
      refine thenE_x ?_
      refine thenE_x ?_
      refine blockE_x ?_
      refine thenE_n ?_
      refine awp_seq ?_
      refine awp_region ?_
      refine aops_v rfl rfl rfl (a_move rfl rfl ?_)
      refine aops_v rfl rfl rfl (a_assign rfl rfl ?_)
      refine aops_v rfl rfl rfl (a_assign rfl rfl ?_)
      refine aops_nil ?_
      refine thenE_n ?_
      refine awp_ret ?_
      change Gst _ _ _ _
      refine gst_nw 2 rfl hok ?_
      refine fin2 rfl ?_
      exact ⟨by unfold fltA; rw [if_pos hc, hc]; simp [filC], rfl⟩

end Go.Proofs.YtnahdpjbddfhgaaGreatDoor
set_option linter.unusedVariables false
set_option linter.unusedSimpArgs false
namespace Go.Proofs.YtnahdpjbddfhgaaGreatDoor
open Go Go.AL
set_option maxRecDepth 100000
theorem mem_ms {q : Qr} {j : Nat} {x : Mt} (h : q.ms[j]? = some x) : x.fl ∈ allP q := by
  unfold allP
  exact List.mem_append_left _ (List.mem_map_of_mem (List.mem_of_getElem? h))
theorem mem_fs {q : Qr} {j : Nat} {x : Fl} (h : q.fs[j]? = some x) : x ∈ allP q := List.mem_append_right _ (List.mem_of_getElem? h)
theorem ldv_mm {q : Qr} {j : Nat} {x : Mt} {a : AV} (h : q.ms[j]? = some x) (ha : mA x.fl = a) : ldv false 1 (j * 1) ((q.ms.map Mt.fl).map mA) = some a := by
  simp [ldv, h, ha]
theorem ldv_ff {q : Qr} {j : Nat} {x : Fl} {a : AV} (h : q.fs[j]? = some x) (ha : mA x = a) : ldv false 1 (j * 1) (q.fs.map mA) = some a := by
  simp [ldv, h, ha]

theorem holds_nil (rc : Rc) (ex : Bool) (σ : AHeap)  : ASpec Tryz.prog 17 [.v (.pointer none), .agg (encR rc ex)] σ fun r σ' => r = .ret (boo false) ∧ σ' = σ := by
  refine aspec_enter (N := 91) (rs := [.tmp 4]) Tryz.func17 rfl rfl rfl rfl rfl rfl ?_
  refine awp_seq ?_
  refine awp_region ?_
  refine aops_v rfl rfl rfl (a_box_frz rfl rfl rfl ?_)
  refine aops_v rfl rfl rfl (a_assign rfl rfl ?_)
  refine aops_nil ?_
  refine thenE_n ?_
  refine awp_seq ?_
  refine awp_seq ?_
  refine awp_region ?_
  refine aops_v rfl rfl rfl (a_move rfl rfl ?_)
  first | refine aops_v rfl rfl rfl (a_ref_nil rfl rfl ipt36 rfl rfl ?_) | refine aops_v rfl rfl rfl (a_pin_nil rfl rfl ipt36 rfl rfl ?_) | refine aops_v rfl rfl rfl (a_nil_nil rfl rfl ipt36 rfl rfl ?_)
  refine aops_nil ?_
  refine thenE_n ?_
  refine awp_cond rfl (fun h1 => ?_) (fun h1 => ?_)
  · try simp only [zz1, zz2, ne_eq, zz4, zz5, zz6, gt_iff_lt, ge_iff_le, zz9, zz0] at h1
    refine awp_seq ?_
    refine awp_region ?_
    refine aops_v rfl rfl rfl (a_assign rfl rfl ?_)
    refine aops_nil ?_
    refine thenE_n ?_
    refine awp_ret ?_
    change Gst _ _ _ _
    refine fin1 rfl ?_
    first | exact ⟨rfl, rfl⟩ | exact ⟨by simp [*], rfl⟩
  · try simp only [zz1, zz2, ne_eq, zz4, zz5, zz6, gt_iff_lt, ge_iff_le, zz9, zz0] at h1
    simp at h1

theorem holds_spec (q : Qr) (rc : Rc) (ex : Bool) (σ : AHeap) (hc : checkP q = 0) (hr : RcOk rc) : ASpec Tryz.prog 17 [.pin (filC q) 0, .agg (encR rc ex)] σ fun r σ' => r = .ret (boo (holdsP q rc)) ∧ σ' = σ := by
  obtain ⟨hb1, hb2, _⟩ := check_parts hc
  refine aspec_enter (N := 91) (rs := [.tmp 4]) Tryz.func17 rfl rfl rfl rfl rfl rfl ?_
  refine awp_seq ?_
  refine awp_region ?_
  refine aops_v rfl rfl rfl (a_box_frz rfl rfl rfl ?_)
  refine aops_v rfl rfl rfl (a_assign rfl rfl ?_)
  refine aops_nil ?_
  refine thenE_n ?_
  refine awp_seq ?_
  refine awp_seq ?_
  refine awp_region ?_
  refine aops_v rfl rfl rfl (a_move rfl rfl ?_)
  first | refine aops_v rfl rfl rfl (a_ref_nil rfl rfl ipt36 rfl rfl ?_) | refine aops_v rfl rfl rfl (a_pin_nil rfl rfl ipt36 rfl rfl ?_) | refine aops_v rfl rfl rfl (a_nil_nil rfl rfl ipt36 rfl rfl ?_)
  refine aops_nil ?_
  refine thenE_n ?_
  refine awp_cond rfl (fun h1 => ?_) (fun h1 => ?_)
  · try simp only [zz1, zz2, ne_eq, zz4, zz5, zz6, gt_iff_lt, ge_iff_le, zz9, zz0] at h1
    simp at h1
  · try simp only [zz1, zz2, ne_eq, zz4, zz5, zz6, gt_iff_lt, ge_iff_le, zz9, zz0] at h1
    refine awp_skip ?_
    refine thenE_n ?_
    refine awp_seq ?_
    refine awp_seq ?_
    refine awp_region ?_
    refine aops_v rfl rfl rfl (a_move rfl rfl ?_)
    first | refine aops_v rfl rfl rfl (a_nilCheck rfl rfl ?_) | refine aops_v rfl rfl rfl (a_nilCheck_pin rfl rfl ?_) | refine aops_v rfl rfl rfl (a_nilCheck_clo rfl rfl ?_)
    first | refine aops_v rfl rfl rfl (a_fieldAddr rfl fk78_0 rfl rfl ?_) | refine aops_v rfl rfl rfl (a_fieldAddr_pin rfl fk78_0 rfl rfl ?_)
    first | refine aops_v rfl rfl rfl (a_fieldAddr rfl fk26_0 rfl rfl ?_) | refine aops_v rfl rfl rfl (a_fieldAddr_pin rfl fk26_0 rfl rfl ?_)
    first | refine aops_v rfl rfl rfl (a_load_pin rfl tk23 rfl rfl ?_) | refine aops_v rfl rfl rfl (a_load rfl tk23 rfl HP rfl ?_)
    first | refine aops_v rfl rfl rfl (a_len_lst rfl isl23 rfl ?_) | refine aops_v rfl rfl rfl (a_len rfl isl23 rfl ?_) | refine aops_v rfl rfl rfl (a_len_slg rfl isl23 rfl ?_) | refine aops_v rfl rfl rfl (a_len_nil rfl isl23 rfl ?_)
    refine aops_v rfl rfl rfl (a_move rfl rfl ?_)
    refine aops_nil ?_
    refine thenE_n ?_
    refine awp_block ?_
    refine awp_loop (S := Nat) (fun j => [(0, .pin (filC q) 0), (3, .pin (encR rc ex) 0), (19, .lst (q.ms.flatMap encM) q.ms.length false), (20, int q.ms.length), (21, int j)]) (fun _ => σ) (fun j => j ≤ q.ms.length ∧ (q.ms.drop j).all (mHold rc) = q.ms.all (mHold rc)) (fun j => q.ms.length - j) ⟨0, ⟨by simp, by simp⟩, EL, rfl⟩ ?_
    rintro j ⟨hj, hJ⟩
    refine awp_seq ?_
    refine awp_region ?_
    refine aops_v rfl rfl rfl (a_int rfl rfl rfl rfl ?_)
    refine aops_nil ?_
    refine thenE_n ?_
    refine awp_seq ?_
    refine awp_cond rfl (fun h2 => ?_) (fun h2 => ?_)
    · try simp only [zz1, zz2, ne_eq, zz4, zz5, zz6, gt_iff_lt, ge_iff_le, zz9, zz0] at h2
      obtain ⟨x, hx⟩ : ∃ k, q.ms[j]? = some k := ⟨_, List.getElem?_eq_getElem (by omega)⟩
      refine awp_skip ?_
      refine thenE_n ?_
      refine awp_seq ?_
      refine awp_block ?_
      refine awp_seq ?_
      refine awp_region ?_
      refine aops_v rfl rfl rfl (a_move rfl rfl ?_)
      first | refine aops_v rfl rfl rfl (a_indexAddr_lst rfl ek23 rfl rfl NT (by omega) (by omega) ?_) | refine aops_v rfl rfl rfl (a_indexAddr rfl ek23 rfl rfl NT (by omega) (by omega) ?_)
      refine aops_v rfl rfl rfl (a_load_pin rfl tk48 rfl (ldv_flat encM_len hx) ?_)
      refine aops_v rfl rfl rfl (a_alloc rfl zk48 ?_)
      intro id6 hid6
      refine aops_v rfl rfl rfl (a_assign rfl rfl ?_)
      first | refine aops_s rfl rfl (a_store_n (cs2 := [_, _, _]) rfl tk48 rfl rfl HP rfl rfl (by first | decide | (simp; done) | (simp; omega)) rfl ?_) | refine aops_s rfl rfl (a_store rfl tk48 rfl rfl HP rfl rfl (by first | decide | (simp [stv, AV.cells]; done) | (simp [stv, AV.cells]; omega)) ?_)
      refine aops_frz2 (d := 6) rfl hid6 ?_
      refine aops_nil ?_
      refine thenE_n ?_
      refine awp_seq ?_
      refine awp_region ?_
      first | refine aops_v rfl rfl rfl (a_fieldAddr rfl fk44_2 rfl rfl ?_) | refine aops_v rfl rfl rfl (a_fieldAddr_pin rfl fk44_2 rfl rfl ?_)
      first | refine aops_v rfl rfl rfl (a_load_pin rfl tk42 rfl rfl ?_) | refine aops_v rfl rfl rfl (a_load rfl tk42 rfl HP rfl ?_)
      first | refine aops_v rfl rfl rfl (a_fieldAddr rfl fk48_0 rfl rfl ?_) | refine aops_v rfl rfl rfl (a_fieldAddr_pin rfl fk48_0 rfl rfl ?_)
      first | refine aops_v rfl rfl rfl (a_load_pin rfl tk9 rfl rfl ?_) | refine aops_v rfl rfl rfl (a_load rfl tk9 rfl HP rfl ?_)
      refine aops_call_eq rfl rfl rfl rfl cf39 rfl (find_spec rc.labels x.name ex _ hr.ls) ?_
      refine aops_v rfl rfl rfl (a_move rfl rfl ?_)
      refine aops_v rfl rfl rfl (a_extract rfl rfl rfl ?_)
      refine aops_v rfl rfl rfl (a_extract rfl rfl rfl ?_)
      refine aops_v rfl rfl rfl (a_assign rfl rfl ?_)
      refine aops_v rfl rfl rfl (a_assign rfl rfl ?_)
      refine aops_nil ?_
      refine thenE_n ?_
      refine awp_seq ?_
      refine awp_region ?_
      refine aops_v rfl rfl rfl (a_move rfl rfl ?_)
      first | refine aops_v rfl rfl rfl (a_fieldAddr rfl fk48_2 rfl rfl ?_) | refine aops_v rfl rfl rfl (a_fieldAddr_pin rfl fk48_2 rfl rfl ?_)
      first | refine aops_v rfl rfl rfl (a_load_pin rfl tk9 rfl rfl ?_) | refine aops_v rfl rfl rfl (a_load rfl tk9 rfl HP rfl ?_)
      refine aops_v rfl rfl rfl (a_str rfl rfl rfl rfl ?_)
      refine aops_v rfl rfl rfl (a_assign rfl rfl ?_)
      refine aops_nil ?_
      refine thenE_n ?_
      refine awp_seq ?_
      refine awp_seq ?_
      refine awp_region ?_
      first | refine aops_v rfl rfl rfl (a_fieldAddr rfl fk48_1 rfl rfl ?_) | refine aops_v rfl rfl rfl (a_fieldAddr_pin rfl fk48_1 rfl rfl ?_)
      first | refine aops_v rfl rfl rfl (a_load_pin rfl tk3 rfl rfl ?_) | refine aops_v rfl rfl rfl (a_load rfl tk3 rfl HP rfl ?_)
      refine aops_call_eq rfl rfl rfl rfl cf34 rfl (like_spec _ _) ?_
      refine aops_nil ?_
      refine thenE_n ?_
      refine awp_cond rfl (fun h3 => ?_) (fun h3 => ?_)
      · try simp only [zz1, zz2, ne_eq, zz4, zz5, zz6, gt_iff_lt, ge_iff_le, zz9, zz0] at h3
        have hlk : likeB x.op = true := h3
        obtain ⟨g1, g2, g3, g4⟩ := like_ok hc (mem_ms hx) hlk
        have hy : mYes rc x = wholeP (cmpl x.fl.txt) (findP rc.labels x.name).1 := by rw [mYes, if_pos hlk]; rfl
        refine awp_region ?_
        refine aops_v rfl rfl rfl (a_move rfl rfl ?_)
        first | refine aops_v rfl rfl rfl (a_nilCheck rfl rfl ?_) | refine aops_v rfl rfl rfl (a_nilCheck_pin rfl rfl ?_) | refine aops_v rfl rfl rfl (a_nilCheck_clo rfl rfl ?_)
        first | refine aops_v rfl rfl rfl (a_fieldAddr rfl fk78_1 rfl rfl ?_) | refine aops_v rfl rfl rfl (a_fieldAddr_pin rfl fk78_1 rfl rfl ?_)
        first | refine aops_v rfl rfl rfl (a_load_pin rfl tk76 rfl rfl ?_) | refine aops_v rfl rfl rfl (a_load rfl tk76 rfl HP rfl ?_)
        refine aops_v rfl rfl rfl (a_move rfl rfl ?_)
        first | refine aops_v rfl rfl rfl (a_indexAddr_lst rfl ek76 rfl rfl NT (by omega) (by omega) ?_) | refine aops_v rfl rfl rfl (a_indexAddr rfl ek76 rfl rfl NT (by omega) (by omega) ?_)
        refine aops_v rfl rfl rfl (a_load_pin rfl tk80 rfl (ldv_mm hx g1) ?_)
        refine aops_v rfl rfl rfl (a_move rfl rfl ?_)
        refine aops_call_eq rfl rfl rfl rfl cf40 rfl (whole_spec _ _ _ _ g2 g3 g4 (by have := find_len hr x.name; omega)) ?_
        refine aops_v rfl rfl rfl (a_assign rfl rfl ?_)
        refine aops_nil ?_
        refine thenE_n ?_
        refine awp_seq ?_
        refine awp_region ?_
        refine aops_v rfl rfl rfl (a_move rfl rfl ?_)
        first | refine aops_v rfl rfl rfl (a_fieldAddr rfl fk48_1 rfl rfl ?_) | refine aops_v rfl rfl rfl (a_fieldAddr_pin rfl fk48_1 rfl rfl ?_)
        first | refine aops_v rfl rfl rfl (a_load_pin rfl tk3 rfl rfl ?_) | refine aops_v rfl rfl rfl (a_load rfl tk3 rfl HP rfl ?_)
        refine aops_call_eq rfl rfl rfl rfl cf41 rfl (not_spec _ _) ?_
        refine aops_v rfl rfl rfl (a_bool rfl ib4 rfl rfl rfl ?_)
        refine aops_nil ?_
        refine thenE_n ?_
        refine awp_cond rfl (fun h4 => ?_) (fun h4 => ?_)
        · try simp only [zz1, zz2, ne_eq, zz4, zz5, zz6, gt_iff_lt, ge_iff_le, zz9, zz0] at h4
          have hm : mHold rc x = false := by rw [mHold, hy]; simp only [notB]; simp [h4]
          refine awp_seq ?_
          refine awp_region ?_
          refine aops_v rfl rfl rfl (a_assign rfl rfl ?_)
          refine aops_nil ?_
          refine thenE_n ?_
          refine awp_ret ?_
          change Gst _ _ _ _
          refine fin1 rfl ?_
          exact ⟨by rw [holdsP, ← hJ, all_drop hx, hm]; simp, rfl⟩
        · try simp only [zz1, zz2, ne_eq, zz4, zz5, zz6, gt_iff_lt, ge_iff_le, zz9, zz0] at h4
          have hm : mHold rc x = true := by rw [mHold, hy]; simp only [notB]; simp [h4]
          refine awp_skip ?_
          refine blockE_n ?_
          refine thenE_n ?_
          refine awp_region ?_
          first | refine aops_v rfl rfl rfl (a_add rfl rfl rfl (by simp only [Go.AL.lo, Go.AL.hi]; omega) ?_) | refine aops_v rfl rfl rfl (a_int rfl rfl rfl rfl ?_)
          refine aops_v rfl rfl rfl (a_move rfl rfl ?_)
          refine aops_nil ?_
          refine thenE_n ?_
          exact .done ⟨j + 1, ⟨by omega, by rw [← hJ, all_drop hx, hm]; simp⟩, by omega, EL, rfl⟩
      · try simp only [zz1, zz2, ne_eq, zz4, zz5, zz6, gt_iff_lt, ge_iff_le, zz9, zz0] at h3
        have hlk : likeB x.op = false := h3
        have hy : mYes rc x = decide ((findP rc.labels x.name).1 = x.val) := by rw [mYes, if_neg (by rw [hlk]; simp)]
        refine awp_skip ?_
        refine thenE_n ?_
        refine awp_seq ?_
        refine awp_region ?_
        refine aops_v rfl rfl rfl (a_move rfl rfl ?_)
        first | refine aops_v rfl rfl rfl (a_fieldAddr rfl fk48_1 rfl rfl ?_) | refine aops_v rfl rfl rfl (a_fieldAddr_pin rfl fk48_1 rfl rfl ?_)
        first | refine aops_v rfl rfl rfl (a_load_pin rfl tk3 rfl rfl ?_) | refine aops_v rfl rfl rfl (a_load rfl tk3 rfl HP rfl ?_)
        refine aops_call_eq rfl rfl rfl rfl cf41 rfl (not_spec _ _) ?_
        refine aops_v rfl rfl rfl (a_bool rfl ib4 rfl rfl rfl ?_)
        refine aops_nil ?_
        refine thenE_n ?_
        refine awp_cond rfl (fun h5 => ?_) (fun h5 => ?_)
        · try simp only [zz1, zz2, ne_eq, zz4, zz5, zz6, gt_iff_lt, ge_iff_le, zz9, zz0] at h5
          have hm : mHold rc x = false := by rw [mHold, hy]; simp only [notB]; simp [h5]
          refine awp_seq ?_
          refine awp_region ?_
          refine aops_v rfl rfl rfl (a_assign rfl rfl ?_)
          refine aops_nil ?_
          refine thenE_n ?_
          refine awp_ret ?_
          change Gst _ _ _ _
          refine fin1 rfl ?_
          exact ⟨by rw [holdsP, ← hJ, all_drop hx, hm]; simp, rfl⟩
        · try simp only [zz1, zz2, ne_eq, zz4, zz5, zz6, gt_iff_lt, ge_iff_le, zz9, zz0] at h5
          have hm : mHold rc x = true := by rw [mHold, hy]; simp only [notB]; simp [h5]
          refine awp_skip ?_
          refine blockE_n ?_
          refine thenE_n ?_
          refine awp_region ?_
          first | refine aops_v rfl rfl rfl (a_add rfl rfl rfl (by simp only [Go.AL.lo, Go.AL.hi]; omega) ?_) | refine aops_v rfl rfl rfl (a_int rfl rfl rfl rfl ?_)
          refine aops_v rfl rfl rfl (a_move rfl rfl ?_)
          refine aops_nil ?_
          refine thenE_n ?_
          exact .done ⟨j + 1, ⟨by omega, by rw [← hJ, all_drop hx, hm]; simp⟩, by omega, EL, rfl⟩
    · try simp only [zz1, zz2, ne_eq, zz4, zz5, zz6, gt_iff_lt, ge_iff_le, zz9, zz0] at h2
      obtain rfl : j = q.ms.length := by omega
      rw [List.drop_length] at hJ
      have hM := hJ.symm
      simp only [List.all_nil] at hM
      refine awp_exit ?_
      refine thenE_x ?_
      refine thenE_x ?_
      refine blockE_x ?_
      refine thenE_n ?_
      refine awp_seq ?_
      refine awp_seq ?_
      refine awp_region ?_
      refine aops_v rfl rfl rfl (a_move rfl rfl ?_)
      first | refine aops_v rfl rfl rfl (a_nilCheck rfl rfl ?_) | refine aops_v rfl rfl rfl (a_nilCheck_pin rfl rfl ?_) | refine aops_v rfl rfl rfl (a_nilCheck_clo rfl rfl ?_)
      first | refine aops_v rfl rfl rfl (a_fieldAddr rfl fk78_0 rfl rfl ?_) | refine aops_v rfl rfl rfl (a_fieldAddr_pin rfl fk78_0 rfl rfl ?_)
      first | refine aops_v rfl rfl rfl (a_fieldAddr rfl fk26_1 rfl rfl ?_) | refine aops_v rfl rfl rfl (a_fieldAddr_pin rfl fk26_1 rfl rfl ?_)
      first | refine aops_v rfl rfl rfl (a_load_pin rfl tk24 rfl rfl ?_) | refine aops_v rfl rfl rfl (a_load rfl tk24 rfl HP rfl ?_)
      first | refine aops_v rfl rfl rfl (a_len_lst rfl isl24 rfl ?_) | refine aops_v rfl rfl rfl (a_len rfl isl24 rfl ?_) | refine aops_v rfl rfl rfl (a_len_slg rfl isl24 rfl ?_) | refine aops_v rfl rfl rfl (a_len_nil rfl isl24 rfl ?_)
      refine aops_v rfl rfl rfl (a_move rfl rfl ?_)
      refine aops_nil ?_
      refine thenE_n ?_
      refine awp_block ?_
      refine awp_loop (S := Nat) (fun j => [(0, .pin (filC q) 0), (3, .pin (encR rc ex) 0), (60, .lst (q.fs.flatMap encF) q.fs.length false), (61, int q.fs.length), (62, int j)]) (fun _ => σ) (fun j => j ≤ q.fs.length ∧ (q.fs.drop j).all (fHold rc) = q.fs.all (fHold rc)) (fun j => q.fs.length - j) ⟨0, ⟨by simp, by simp⟩, EL, rfl⟩ ?_
      rintro j ⟨hj, hJ⟩
      refine awp_seq ?_
      refine awp_region ?_
      refine aops_v rfl rfl rfl (a_int rfl rfl rfl rfl ?_)
      refine aops_nil ?_
      refine thenE_n ?_
      refine awp_seq ?_
      refine awp_cond rfl (fun h6 => ?_) (fun h6 => ?_)
      · try simp only [zz1, zz2, ne_eq, zz4, zz5, zz6, gt_iff_lt, ge_iff_le, zz9, zz0] at h6
        obtain ⟨x, hx⟩ : ∃ k, q.fs[j]? = some k := ⟨_, List.getElem?_eq_getElem (by omega)⟩
        refine awp_skip ?_
        refine thenE_n ?_
        refine awp_seq ?_
        refine awp_block ?_
        refine awp_seq ?_
        refine awp_region ?_
        refine aops_v rfl rfl rfl (a_move rfl rfl ?_)
        first | refine aops_v rfl rfl rfl (a_indexAddr_lst rfl ek24 rfl rfl NT (by omega) (by omega) ?_) | refine aops_v rfl rfl rfl (a_indexAddr rfl ek24 rfl rfl NT (by omega) (by omega) ?_)
        refine aops_v rfl rfl rfl (a_load_pin rfl tk50 rfl (ldv_flat encF_len hx) ?_)
        refine aops_v rfl rfl rfl (a_alloc rfl zk50 ?_)
        intro id11 hid11
        refine aops_v rfl rfl rfl (a_assign rfl rfl ?_)
        first | refine aops_s rfl rfl (a_store_n (cs2 := [_, _]) rfl tk50 rfl rfl HP rfl rfl (by first | decide | (simp; done) | (simp; omega)) rfl ?_) | refine aops_s rfl rfl (a_store rfl tk50 rfl rfl HP rfl rfl (by first | decide | (simp [stv, AV.cells]; done) | (simp [stv, AV.cells]; omega)) ?_)
        refine aops_frz2 (d := 11) rfl hid11 ?_
        refine aops_nil ?_
        refine thenE_n ?_
        refine awp_seq ?_
        refine awp_region ?_
        refine aops_v rfl rfl rfl (a_assign rfl rfl ?_)
        refine aops_nil ?_
        refine thenE_n ?_
        refine awp_seq ?_
        refine awp_seq ?_
        refine awp_region ?_
        first | refine aops_v rfl rfl rfl (a_fieldAddr rfl fk50_0 rfl rfl ?_) | refine aops_v rfl rfl rfl (a_fieldAddr_pin rfl fk50_0 rfl rfl ?_)
        first | refine aops_v rfl rfl rfl (a_load_pin rfl tk3 rfl rfl ?_) | refine aops_v rfl rfl rfl (a_load rfl tk3 rfl HP rfl ?_)
        refine aops_call_eq rfl rfl rfl rfl cf34 rfl (like_spec _ _) ?_
        refine aops_nil ?_
        refine thenE_n ?_
        refine awp_cond rfl (fun h7 => ?_) (fun h7 => ?_)
        · try simp only [zz1, zz2, ne_eq, zz4, zz5, zz6, gt_iff_lt, ge_iff_le, zz9, zz0] at h7
          have hlk : likeB x.op = true := h7
          obtain ⟨g1, g2, g3, g4⟩ := like_ok hc (mem_fs hx) hlk
          have hy : fYes rc x = partP (cmpl x.txt) rc.line := by rw [fYes, if_pos hlk]
          refine awp_draw [0, 1, 3, 7, 0, 31, 63, 0, 128, 511, 1023] 11 rfl (by decide +kernel) (by decide +kernel) (by decide +kernel) rfl ?_
          simp only [List.take_succ_cons, List.take_zero, List.take_nil, List.drop_succ_cons, List.drop_zero, List.drop_nil]
          refine dp_val rfl (apure_val (a_move rfl rfl pure_done)) rfl ?_
          first | refine dp_val rfl (apure_val (a_nilCheck rfl rfl pure_done)) rfl ?_ | refine dp_val rfl (apure_val (a_nilCheck_pin rfl rfl pure_done)) rfl ?_ | refine dp_val rfl (apure_val (a_nilCheck_clo rfl rfl pure_done)) rfl ?_
          first | refine dp_val rfl (apure_val (a_fieldAddr rfl fk78_2 rfl rfl pure_done)) rfl ?_ | refine dp_val rfl (apure_val (a_fieldAddr_pin rfl fk78_2 rfl rfl pure_done)) rfl ?_
          first | refine dp_val rfl (apure_val (a_load_pin rfl tk76 rfl rfl pure_done)) rfl ?_ | refine dp_val rfl (apure_val (a_load rfl tk76 rfl HP rfl pure_done)) rfl ?_
          refine dp_val rfl (apure_val (a_move rfl rfl pure_done)) rfl ?_
          first | refine dp_val rfl (apure_val (a_indexAddr_lst rfl ek76 rfl rfl NT (by omega) (by omega) pure_done)) rfl ?_ | refine dp_val rfl (apure_val (a_indexAddr rfl ek76 rfl rfl NT (by omega) (by omega) pure_done)) rfl ?_
          refine dp_val rfl (apure_val (a_load_pin rfl tk80 rfl (ldv_ff hx g1) pure_done)) rfl ?_
          first | refine dp_val rfl (apure_val (a_fieldAddr rfl fk44_3 rfl rfl pure_done)) rfl ?_ | refine dp_val rfl (apure_val (a_fieldAddr_pin rfl fk44_3 rfl rfl pure_done)) rfl ?_
          first | refine dp_val rfl (apure_val (a_load_pin rfl tk9 rfl rfl pure_done)) rfl ?_ | refine dp_val rfl (apure_val (a_load rfl tk9 rfl HP rfl pure_done)) rfl ?_
          refine dp_val rfl (apure_call rfl cf42 rfl (part_spec _ _ _ _ g2 g3 g4 (by have := hr.line; omega))) rfl ?_
          refine dp_val rfl (apure_val (a_assign rfl rfl pure_done)) rfl ?_
          change AOps _ _ _ _ _ _ _
          refine aops_nil ?_
          refine thenE_n ?_
          refine awp_seq ?_
          refine awp_region ?_
          refine aops_v rfl rfl rfl (a_move rfl rfl ?_)
          first | refine aops_v rfl rfl rfl (a_fieldAddr rfl fk50_0 rfl rfl ?_) | refine aops_v rfl rfl rfl (a_fieldAddr_pin rfl fk50_0 rfl rfl ?_)
          first | refine aops_v rfl rfl rfl (a_load_pin rfl tk3 rfl rfl ?_) | refine aops_v rfl rfl rfl (a_load rfl tk3 rfl HP rfl ?_)
          refine aops_call_eq rfl rfl rfl rfl cf41 rfl (not_spec _ _) ?_
          refine aops_v rfl rfl rfl (a_bool rfl ib4 rfl rfl rfl ?_)
          refine aops_nil ?_
          refine thenE_n ?_
          refine awp_cond rfl (fun h8 => ?_) (fun h8 => ?_)
          · try simp only [zz1, zz2, ne_eq, zz4, zz5, zz6, gt_iff_lt, ge_iff_le, zz9, zz0] at h8
            have hm : fHold rc x = false := by rw [fHold, hy]; simp only [notB]; simp [h8]
            refine awp_seq ?_
            refine awp_region ?_
            refine aops_v rfl rfl rfl (a_assign rfl rfl ?_)
            refine aops_nil ?_
            refine thenE_n ?_
            refine awp_ret ?_
            change Gst _ _ _ _
            refine fin1 rfl ?_
            exact ⟨by rw [holdsP, ← hJ, all_drop hx, hm]; simp, rfl⟩
          · try simp only [zz1, zz2, ne_eq, zz4, zz5, zz6, gt_iff_lt, ge_iff_le, zz9, zz0] at h8
            have hm : fHold rc x = true := by rw [fHold, hy]; simp only [notB]; simp [h8]
            refine awp_skip ?_
            refine blockE_n ?_
            refine thenE_n ?_
            refine awp_region ?_
            first | refine aops_v rfl rfl rfl (a_add rfl rfl rfl (by simp only [Go.AL.lo, Go.AL.hi]; omega) ?_) | refine aops_v rfl rfl rfl (a_int rfl rfl rfl rfl ?_)
            refine aops_v rfl rfl rfl (a_move rfl rfl ?_)
            refine aops_nil ?_
            refine thenE_n ?_
            exact .done ⟨j + 1, ⟨by omega, by rw [← hJ, all_drop hx, hm]; simp⟩, by omega, EL, rfl⟩
        · try simp only [zz1, zz2, ne_eq, zz4, zz5, zz6, gt_iff_lt, ge_iff_le, zz9, zz0] at h7
          have hlk : likeB x.op = false := h7
          have hy : fYes rc x = Lib.contains rc.line x.txt := by rw [fYes, if_neg (by rw [hlk]; simp)]
          refine awp_region ?_
          first | refine aops_v rfl rfl rfl (a_fieldAddr rfl fk44_3 rfl rfl ?_) | refine aops_v rfl rfl rfl (a_fieldAddr_pin rfl fk44_3 rfl rfl ?_)
          first | refine aops_v rfl rfl rfl (a_load_pin rfl tk9 rfl rfl ?_) | refine aops_v rfl rfl rfl (a_load rfl tk9 rfl HP rfl ?_)
          first | refine aops_v rfl rfl rfl (a_fieldAddr rfl fk50_1 rfl rfl ?_) | refine aops_v rfl rfl rfl (a_fieldAddr_pin rfl fk50_1 rfl rfl ?_)
          first | refine aops_v rfl rfl rfl (a_load_pin rfl tk9 rfl rfl ?_) | refine aops_v rfl rfl rfl (a_load rfl tk9 rfl HP rfl ?_)
          refine aops_call_eq rfl rfl rfl rfl cf43 rfl (has2_spec _ _ _ (by have := hr.line; omega)) ?_
          refine aops_v rfl rfl rfl (a_assign rfl rfl ?_)
          refine aops_nil ?_
          refine thenE_n ?_
          refine awp_seq ?_
          refine awp_region ?_
          refine aops_v rfl rfl rfl (a_move rfl rfl ?_)
          first | refine aops_v rfl rfl rfl (a_fieldAddr rfl fk50_0 rfl rfl ?_) | refine aops_v rfl rfl rfl (a_fieldAddr_pin rfl fk50_0 rfl rfl ?_)
          first | refine aops_v rfl rfl rfl (a_load_pin rfl tk3 rfl rfl ?_) | refine aops_v rfl rfl rfl (a_load rfl tk3 rfl HP rfl ?_)
          refine aops_call_eq rfl rfl rfl rfl cf41 rfl (not_spec _ _) ?_
          refine aops_v rfl rfl rfl (a_bool rfl ib4 rfl rfl rfl ?_)
          refine aops_nil ?_
          refine thenE_n ?_
          refine awp_cond rfl (fun h9 => ?_) (fun h9 => ?_)
          · try simp only [zz1, zz2, ne_eq, zz4, zz5, zz6, gt_iff_lt, ge_iff_le, zz9, zz0] at h9
            have hm : fHold rc x = false := by rw [fHold, hy]; simp only [notB]; simp [h9]
            refine awp_seq ?_
            refine awp_region ?_
            refine aops_v rfl rfl rfl (a_assign rfl rfl ?_)
            refine aops_nil ?_
            refine thenE_n ?_
            refine awp_ret ?_
            change Gst _ _ _ _
            refine fin1 rfl ?_
            exact ⟨by rw [holdsP, ← hJ, all_drop hx, hm]; simp, rfl⟩
          · try simp only [zz1, zz2, ne_eq, zz4, zz5, zz6, gt_iff_lt, ge_iff_le, zz9, zz0] at h9
            have hm : fHold rc x = true := by rw [fHold, hy]; simp only [notB]; simp [h9]
            refine awp_skip ?_
            refine blockE_n ?_
            refine thenE_n ?_
            refine awp_region ?_
            first | refine aops_v rfl rfl rfl (a_add rfl rfl rfl (by simp only [Go.AL.lo, Go.AL.hi]; omega) ?_) | refine aops_v rfl rfl rfl (a_int rfl rfl rfl rfl ?_)
            refine aops_v rfl rfl rfl (a_move rfl rfl ?_)
            refine aops_nil ?_
            refine thenE_n ?_
            exact .done ⟨j + 1, ⟨by omega, by rw [← hJ, all_drop hx, hm]; simp⟩, by omega, EL, rfl⟩
      · try simp only [zz1, zz2, ne_eq, zz4, zz5, zz6, gt_iff_lt, ge_iff_le, zz9, zz0] at h6
        obtain rfl : j = q.fs.length := by omega
        rw [List.drop_length] at hJ
        have hF := hJ.symm
        simp only [List.all_nil] at hF
        refine awp_exit ?_
        refine thenE_x ?_
        refine thenE_x ?_
        refine blockE_x ?_
        refine thenE_n ?_
        refine awp_seq ?_
        refine awp_region ?_
        refine aops_v rfl rfl rfl (a_assign rfl rfl ?_)
        refine aops_nil ?_
        refine thenE_n ?_
        refine awp_ret ?_
        change Gst _ _ _ _
        refine fin1 rfl ?_
        exact ⟨by rw [holdsP, hM, hF]; rfl, rfl⟩

end Go.Proofs.YtnahdpjbddfhgaaGreatDoor
set_option linter.unusedVariables false
set_option linter.unusedSimpArgs false
namespace Go.Proofs.YtnahdpjbddfhgaaGreatDoor
open Go Go.AL
set_option maxRecDepth 100000
/-- a query's text -/
def mSign (op : Int) : List UInt8 := if op = 1 then [61] else if op = 2 then [33, 61] else if op = 3 then [61, 126] else [33, 126]
def fSign (op : Int) : List UInt8 := if op = 1 then [124, 61] else if op = 2 then [33, 61] else if op = 3 then [124, 126] else [33, 126]
theorem mSign_len (op : Int) : (mSign op).length ≤ 2 := by unfold mSign; split <;> (try split) <;> (try split) <;> decide
theorem fSign_len (op : Int) : (fSign op).length ≤ 2 := by unfold fSign; split <;> (try split) <;> (try split) <;> decide
theorem ldv_mS {op : Int} {n : Nat} (h1 : 1 ≤ op) (h2 : op ≤ 4) (hn : (op - 1).toNat = n) : ldv false 1 (n * 1) [str [61], str [33, 61], str [61, 126], str [33, 126]] = some (str (mSign op)) := by
  subst hn
  rcases (show op = 1 ∨ op = 2 ∨ op = 3 ∨ op = 4 by omega) with rfl | rfl | rfl | rfl <;> rfl
theorem ldv_fS {op : Int} {n : Nat} (h1 : 1 ≤ op) (h2 : op ≤ 4) (hn : (op - 1).toNat = n) : ldv false 1 (n * 1) [str [124, 61], str [33, 61], str [124, 126], str [33, 126]] = some (str (fSign op)) := by
  subst hn
  rcases (show op = 1 ∨ op = 2 ∨ op = 3 ∨ op = 4 by omega) with rfl | rfl | rfl | rfl <;> rfl
def mText (m : Mt) : List UInt8 := m.name ++ mSign m.op ++ quotedP m.val
def fText (f : Fl) : List UInt8 := [32] ++ fSign f.op ++ [32] ++ quotedP f.txt
def hText (q : Qr) : List UInt8 := [123] ++ Lib.join (q.ms.map mText) [44] ++ [125]
def pText (q : Qr) : List UInt8 := hText q ++ q.fs.flatMap fText
def printP (q : Qr) : List UInt8 × Int := if checkP q = 0 then (pText q, 0) else ([], checkP q)
theorem mText_len {q : Qr} (h : QrOk q) (hn : ∀ m ∈ q.ms, m.name.length ≤ 10000000) : ∀ y ∈ q.ms.map mText, y.length ≤ 100000000 := by
  intro y hy
  simp only [List.mem_map] at hy
  obtain ⟨m, hm, rfl⟩ := hy
  have h1 := hn m hm; have h2 := h.mv m hm; have h3 := mSign_len m.op; have h4 := quoted_len m.val
  simp [mText]; omega
theorem join_len {N : Nat} {sep : List UInt8} : ∀ (l : List (List UInt8)), (∀ y ∈ l, y.length ≤ N) → (Lib.join l sep).length ≤ l.length * (N + sep.length) := by
  intro l
  induction l with
  | nil => intro _; simp [Lib.join]
  | cons y r ih =>
    intro h
    have h1 := h y List.mem_cons_self
    have h2 := ih fun z hz => h z (List.mem_cons_of_mem _ hz)
    cases r with
    | nil => simp [Lib.join]; omega
    | cons z r =>
      have e : Lib.join (y :: z :: r) sep = y ++ (sep ++ Lib.join (z :: r) sep) := by simp [Lib.join, List.intercalate, List.intersperse]
      rw [e, List.length_cons, Nat.succ_mul, List.length_append, List.length_append]; omega
theorem flat_le {α : Type} {f : α → List UInt8} {N : Nat} (l : List α) (h : ∀ x ∈ l, (f x).length ≤ N) : (l.flatMap f).length ≤ l.length * N := by
  induction l with
  | nil => simp
  | cons y r ih =>
    have h1 := h y List.mem_cons_self
    have h2 := ih fun z hz => h z (List.mem_cons_of_mem _ hz)
    simp only [List.flatMap_cons, List.length_append, List.length_cons, Nat.succ_mul]; omega
theorem fText_len {q : Qr} (h : QrOk q) : ∀ x ∈ q.fs, (fText x).length ≤ 100000000 := by
  intro x hx
  have h2 := h.fv x hx; have h3 := fSign_len x.op; have h4 := quoted_len x.txt
  simp [fText]; omega
theorem hText_len {q : Qr} (hc : checkP q = 0) (h : QrOk q) (hn : ∀ m ∈ q.ms, m.name.length ≤ 10000000) : (Lib.join (q.ms.map mText) [44]).length ≤ 2000000000 ∧ (hText q).length ≤ 2000000000 := by
  have h1 := join_len (sep := [44]) (q.ms.map mText) (mText_len h hn)
  have h2 := (check_parts hc).1
  have h3 : (q.ms.map mText).length * (100000000 + [(44 : UInt8)].length) ≤ 16 * 100000001 := Nat.mul_le_mul (by simpa using h2) (by simp)
  constructor
  · omega
  · simp [hText]; omega
theorem fs_len {q : Qr} (hc : checkP q = 0) (h : QrOk q) (j : Nat) : ((q.fs.take j).flatMap fText).length ≤ 1600000000 := by
  have h1 := flat_le (q.fs.take j) fun x hx => fText_len h x (List.mem_of_mem_take hx)
  have h2 := (check_parts hc).2.1
  have h3 : (q.fs.take j).length * 100000000 ≤ 16 * 100000000 := Nat.mul_le_mul_right _ (by simp; omega)
  omega
theorem op_ok {q : Qr} (hc : checkP q = 0) : (∀ m ∈ q.ms, 1 ≤ m.op ∧ m.op ≤ 4) ∧ ∀ f ∈ q.fs, 1 ≤ f.op ∧ f.op ≤ 4 := by
  obtain ⟨_, _, h1, h2, _⟩ := check_parts hc
  rw [List.all_eq_true] at h1 h2
  exact ⟨fun m hm => by have := h1 m hm; simp [mOk, opB] at this; omega, fun f hf => by have := h2 f hf; simp [opB] at this; omega⟩
theorem join_spec2 (l : List (List UInt8)) (sep : List UInt8) {m : List AV} {n : Nat} (hm : m = l.map str ∧ n = l.length) (hl : l.length ≤ 1000) (hlen : (Lib.join l sep).length ≤ 140737488355328) (σ : AHeap) :
    ASpec Tryz.prog 30 [.lst m n false, str sep] σ fun r σ' => r = .ret (str (Lib.join l sep)) ∧ σ' = σ := by
  obtain ⟨rfl, rfl⟩ := hm
  exact join_spec l sep hl hlen σ

theorem print_spec (q : Qr) (ex ex' : Bool) (σ : AHeap) (hq : QrOk q) (hn : ∀ m ∈ q.ms, m.name.length ≤ 10000000) : ASpec Tryz.prog 13 [.agg (encQ q ex ex')] σ fun r σ' => r = .ret (.tup [str (printP q).1, int (printP q).2]) ∧ σ' = σ := by
  have hqm := hq.ms; have hqf := hq.fs
  unfold encQ
  refine aspec_enter (N := 65) (rs := [.tmp 2, .tmp 3]) Tryz.func13 rfl rfl rfl rfl rfl rfl ?_
  refine awp_seq ?_
  refine awp_region ?_
  refine aops_v rfl rfl rfl (a_box_frz rfl rfl rfl ?_)
  refine aops_v rfl rfl rfl (a_assign rfl rfl ?_)
  refine aops_v rfl rfl rfl (a_assign rfl rfl ?_)
  refine aops_nil ?_
  refine thenE_n ?_
  refine awp_seq ?_
  refine awp_seq ?_
  refine awp_region ?_
  first | refine aops_v rfl rfl rfl (a_load_pin rfl tk26 rfl rfl ?_) | refine aops_v rfl rfl rfl (a_load rfl tk26 rfl HP rfl ?_)
  refine aops_call_eq rfl rfl rfl rfl cf15 rfl (check_spec q ex ex' _ hq) ?_
  refine aops_v rfl rfl rfl (a_assign rfl rfl ?_)
  refine aops_nil ?_
  refine thenE_n ?_
  refine awp_seq ?_
  refine awp_region ?_
  refine aops_v rfl rfl rfl (a_move rfl rfl ?_)
  refine aops_v rfl rfl rfl (a_int rfl rfl rfl rfl ?_)
  refine aops_nil ?_
  refine thenE_n ?_
  refine awp_cond rfl (fun h1 => ?_) (fun h1 => ?_)
  · try simp only [zz1, zz2, ne_eq, zz4, zz5, zz6, gt_iff_lt, ge_iff_le, zz9, zz0] at h1
    have hc := h1
    refine awp_seq ?_
    refine awp_region ?_
    refine aops_v rfl rfl rfl (a_move rfl rfl ?_)
    refine aops_v rfl rfl rfl (a_assign rfl rfl ?_)
    refine aops_v rfl rfl rfl (a_assign rfl rfl ?_)
    refine aops_nil ?_
    refine thenE_n ?_
    refine awp_ret ?_
    change Gst _ _ _ _
    refine fin2 rfl ?_
    exact ⟨by unfold printP; rw [if_neg hc], rfl⟩
  · try simp only [zz1, zz2, ne_eq, zz4, zz5, zz6, gt_iff_lt, ge_iff_le, zz9, zz0] at h1
    have hc : checkP q = 0 := h1
    obtain ⟨hb1, hb2, _⟩ := check_parts hc
    obtain ⟨ho1, ho2⟩ := op_ok hc
    obtain ⟨hj1, hj2⟩ := hText_len hc hq hn
    refine awp_skip ?_
    refine thenE_n ?_
    refine awp_seq ?_
    refine awp_region ?_
    refine aops_v rfl rfl rfl (a_assign rfl rfl ?_)
    refine aops_nil ?_
    refine thenE_n ?_
    refine awp_seq ?_
    refine awp_seq ?_
    refine awp_region ?_
    first | refine aops_v rfl rfl rfl (a_fieldAddr rfl fk26_0 rfl rfl ?_) | refine aops_v rfl rfl rfl (a_fieldAddr_pin rfl fk26_0 rfl rfl ?_)
    first | refine aops_v rfl rfl rfl (a_load_pin rfl tk23 rfl rfl ?_) | refine aops_v rfl rfl rfl (a_load rfl tk23 rfl HP rfl ?_)
    first | refine aops_v rfl rfl rfl (a_len_lst rfl isl23 rfl ?_) | refine aops_v rfl rfl rfl (a_len rfl isl23 rfl ?_) | refine aops_v rfl rfl rfl (a_len_slg rfl isl23 rfl ?_) | refine aops_v rfl rfl rfl (a_len_nil rfl isl23 rfl ?_)
    refine aops_v rfl rfl rfl (a_move rfl rfl ?_)
    refine aops_nil ?_
    refine thenE_n ?_
    refine awp_block ?_
    refine awp_fresh fun o0 ho0 => ?_
    refine awp_loop (S := Nat × (Nat × Nat)) (fun x => [(1, .pin (encQ q ex ex') 0), (17, .lst (q.ms.flatMap encM) q.ms.length ex), (18, int q.ms.length), (19, int x.1), (5, slv 1 (((q.ms.take x.1).map mText).map str) x.1 x.2.1 x.2.2)]) (fun x => slh σ 9 (((q.ms.take x.1).map mText).map str) x.1 x.2.1 x.2.2) (fun x => x.1 ≤ q.ms.length ∧ σ x.2.1 = none) (fun x => q.ms.length - x.1) ⟨(0, (o0, 0)), ⟨by simp, ho0⟩, EL, rfl⟩ ?_
    rintro ⟨j, ⟨i, v⟩⟩ ⟨hj, hid⟩
    dsimp only at hj hid
    dsimp only
    refine awp_seq ?_
    refine awp_region ?_
    refine aops_v rfl rfl rfl (a_int rfl rfl rfl rfl ?_)
    refine aops_nil ?_
    refine thenE_n ?_
    refine awp_seq ?_
    refine awp_cond rfl (fun h2 => ?_) (fun h2 => ?_)
    · try simp only [zz1, zz2, ne_eq, zz4, zz5, zz6, gt_iff_lt, ge_iff_le, zz9, zz0] at h2
      obtain ⟨x, hx⟩ : ∃ k, q.ms[j]? = some k := ⟨_, List.getElem?_eq_getElem (by omega)⟩
      obtain ⟨hp1, hp2⟩ := ho1 x (List.mem_of_getElem? hx)
      have hv1 := hq.mv x (List.mem_of_getElem? hx); have hn1 := hn x (List.mem_of_getElem? hx); have hs1 := mSign_len x.op; have hq1 := quoted_len x.val
      refine awp_skip ?_
      refine thenE_n ?_
      refine awp_seq ?_
      refine awp_block ?_
      refine awp_seq ?_
      refine awp_region ?_
      first | refine aops_v rfl rfl rfl (a_indexAddr_lst rfl ek23 rfl rfl NT (by omega) (by omega) ?_) | refine aops_v rfl rfl rfl (a_indexAddr rfl ek23 rfl rfl NT (by omega) (by omega) ?_)
      refine aops_v rfl rfl rfl (a_load_pin rfl tk48 rfl (ldv_flat encM_len hx) ?_)
      refine aops_var_frz rfl rfl rfl rfl rfl rfl rfl tk48 zk48 rfl rfl rfl rfl rfl ?_
      refine aops_nil ?_
      refine thenE_n ?_
      refine awp_draw [0, 0, 2, 0, 0, 16, 48, 120, 254, 0, 512, 1536, 4094, 8190, 16383, 32767] 14 rfl (by decide +kernel) (by decide +kernel) (by decide +kernel) rfl ?_
      simp only [List.take_succ_cons, List.take_zero, List.take_nil, List.drop_succ_cons, List.drop_zero, List.drop_nil]
      refine dp_val rfl (apure_val (a_move rfl rfl pure_done)) rfl ?_
      first | refine dp_val rfl (apure_val (a_fieldAddr rfl fk48_0 rfl rfl pure_done)) rfl ?_ | refine dp_val rfl (apure_val (a_fieldAddr_pin rfl fk48_0 rfl rfl pure_done)) rfl ?_
      first | refine dp_val rfl (apure_val (a_load_pin rfl tk9 rfl rfl pure_done)) rfl ?_ | refine dp_val rfl (apure_val (a_load rfl tk9 rfl HP rfl pure_done)) rfl ?_
      refine dp_val rfl (apure_val (a_build (res := [_, _, _, _]) rfl bk71 rfl rfl pure_done)) rfl ?_
      first | refine dp_val rfl (apure_val (a_fieldAddr rfl fk48_1 rfl rfl pure_done)) rfl ?_ | refine dp_val rfl (apure_val (a_fieldAddr_pin rfl fk48_1 rfl rfl pure_done)) rfl ?_
      first | refine dp_val rfl (apure_val (a_load_pin rfl tk3 rfl rfl pure_done)) rfl ?_ | refine dp_val rfl (apure_val (a_load rfl tk3 rfl HP rfl pure_done)) rfl ?_
      first | refine dp_val rfl (apure_val (a_sub rfl rfl rfl (by simp only [Go.AL.lo, Go.AL.hi]; omega) pure_done)) rfl ?_ | refine dp_val rfl (apure_val (a_int rfl rfl rfl rfl pure_done)) rfl ?_
      refine dp_val rfl (apure_val (a_index_array rfl ak71 rfl rfl rfl (by omega) (by omega) (ldv_mS hp1 hp2 rfl) pure_done)) rfl ?_
      refine dp_val rfl (apure_val (a_concat rfl rfl rfl (by first | omega | (simp; omega)) pure_done)) rfl ?_
      first | refine dp_val rfl (apure_val (a_fieldAddr rfl fk48_2 rfl rfl pure_done)) rfl ?_ | refine dp_val rfl (apure_val (a_fieldAddr_pin rfl fk48_2 rfl rfl pure_done)) rfl ?_
      first | refine dp_val rfl (apure_val (a_load_pin rfl tk9 rfl rfl pure_done)) rfl ?_ | refine dp_val rfl (apure_val (a_load rfl tk9 rfl HP rfl pure_done)) rfl ?_
      refine dp_val rfl (apure_call rfl cf29 rfl (quoted_spec _ _ (by omega))) rfl ?_
      refine dp_val rfl (apure_val (a_concat rfl rfl rfl (by first | omega | (simp; omega)) pure_done)) rfl ?_
      refine dp_val rfl (apure_val (a_buildSlice (res := [_]) rfl sk62 rfl rfl rfl pure_done)) rfl ?_
      change AOps _ _ _ _ _ _ _
      refine aops_v rfl rfl rfl (a_append_sl rfl sk62 rfl (by simp; omega) rfl (.lst rfl) rfl (by omega) (by simp only [maxLen]; omega) hid ?_)
      intro i2 v2 hid2
      rw [show ((q.ms.take j).map mText).map str ++ [str (x.name ++ mSign x.op ++ quotedP x.val)] = ((q.ms.take (j + 1)).map mText).map str by rw [take_succ' hx]; simp [mText]]
      refine aops_v rfl rfl rfl (a_assign rfl rfl ?_)
      refine aops_nil ?_
      refine blockE_n ?_
      refine thenE_n ?_
      refine awp_region ?_
      first | refine aops_v rfl rfl rfl (a_add rfl rfl rfl (by simp only [Go.AL.lo, Go.AL.hi]; omega) ?_) | refine aops_v rfl rfl rfl (a_int rfl rfl rfl rfl ?_)
      refine aops_v rfl rfl rfl (a_move rfl rfl ?_)
      refine aops_nil ?_
      refine thenE_n ?_
      exact .done ⟨(j + 1, (i2, v2)), ⟨by dsimp only; omega, hid2⟩, by dsimp only; omega, EL, by dsimp only⟩
    · try simp only [zz1, zz2, ne_eq, zz4, zz5, zz6, gt_iff_lt, ge_iff_le, zz9, zz0] at h2
      obtain rfl : j = q.ms.length := by omega
      rw [List.take_length]
      refine AWp.ghost (gst_sl 5 rfl (by simp) hid (.done ?_))
      refine awp_exit ?_
      refine thenE_x ?_
      refine thenE_x ?_
      refine blockE_x ?_
      refine thenE_n ?_
      refine awp_seq ?_
      refine awp_region ?_
      refine aops_v rfl rfl rfl (a_move rfl rfl ?_)
      refine aops_call_eq rfl rfl rfl rfl cf30 rfl (join_spec2 (q.ms.map mText) [44] ⟨rfl, by simp⟩ (by simp; omega) (by omega) _) ?_
      refine aops_v rfl rfl rfl (a_concat rfl rfl rfl (by first | omega | (simp; omega)) ?_)
      refine aops_v rfl rfl rfl (a_concat rfl rfl rfl (by first | omega | (simp; omega)) ?_)
      rw [show [123] ++ Lib.join (q.ms.map mText) [44] ++ [125] = hText q ++ (q.fs.take 0).flatMap fText by simp [hText]]
      refine aops_v rfl rfl rfl (a_assign rfl rfl ?_)
      refine aops_nil ?_
      refine thenE_n ?_
      refine awp_seq ?_
      refine awp_seq ?_
      refine awp_region ?_
      first | refine aops_v rfl rfl rfl (a_fieldAddr rfl fk26_1 rfl rfl ?_) | refine aops_v rfl rfl rfl (a_fieldAddr_pin rfl fk26_1 rfl rfl ?_)
      first | refine aops_v rfl rfl rfl (a_load_pin rfl tk24 rfl rfl ?_) | refine aops_v rfl rfl rfl (a_load rfl tk24 rfl HP rfl ?_)
      first | refine aops_v rfl rfl rfl (a_len_lst rfl isl24 rfl ?_) | refine aops_v rfl rfl rfl (a_len rfl isl24 rfl ?_) | refine aops_v rfl rfl rfl (a_len_slg rfl isl24 rfl ?_) | refine aops_v rfl rfl rfl (a_len_nil rfl isl24 rfl ?_)
      refine aops_v rfl rfl rfl (a_move rfl rfl ?_)
      refine aops_nil ?_
      refine thenE_n ?_
      refine awp_block ?_
      refine awp_loop (S := Nat) (fun j => [(1, .pin (encQ q ex ex') 0), (44, .lst (q.fs.flatMap encF) q.fs.length ex'), (45, int q.fs.length), (46, int j), (8, str (hText q ++ (q.fs.take j).flatMap fText))]) (fun _ => σ) (fun j => j ≤ q.fs.length) (fun j => q.fs.length - j) ⟨0, by simp, EL, rfl⟩ ?_
      rintro j hj
      have hfl := fs_len hc hq j
      refine awp_seq ?_
      refine awp_region ?_
      refine aops_v rfl rfl rfl (a_int rfl rfl rfl rfl ?_)
      refine aops_nil ?_
      refine thenE_n ?_
      refine awp_seq ?_
      refine awp_cond rfl (fun h3 => ?_) (fun h3 => ?_)
      · try simp only [zz1, zz2, ne_eq, zz4, zz5, zz6, gt_iff_lt, ge_iff_le, zz9, zz0] at h3
        obtain ⟨x, hx⟩ : ∃ k, q.fs[j]? = some k := ⟨_, List.getElem?_eq_getElem (by omega)⟩
        obtain ⟨fl, hf0⟩ : ∃ fl, (q.fs.take j).flatMap fText = fl := ⟨_, rfl⟩
        rw [hf0] at hfl ⊢
        obtain ⟨hp1, hp2⟩ := ho2 x (List.mem_of_getElem? hx)
        have hv1 := hq.fv x (List.mem_of_getElem? hx); have hs1 := fSign_len x.op; have hq1 := quoted_len x.txt
        refine awp_skip ?_
        refine thenE_n ?_
        refine awp_seq ?_
        refine awp_block ?_
        refine awp_seq ?_
        refine awp_region ?_
        first | refine aops_v rfl rfl rfl (a_indexAddr_lst rfl ek24 rfl rfl NT (by omega) (by omega) ?_) | refine aops_v rfl rfl rfl (a_indexAddr rfl ek24 rfl rfl NT (by omega) (by omega) ?_)
        refine aops_v rfl rfl rfl (a_load_pin rfl tk50 rfl (ldv_flat encF_len hx) ?_)
        refine aops_var_frz rfl rfl rfl rfl rfl rfl rfl tk50 zk50 rfl rfl rfl rfl rfl ?_
        refine aops_nil ?_
        refine thenE_n ?_
        refine awp_draw [0, 0, 0, 4, 12, 30, 62, 126, 0, 256, 768, 2046, 4095, 8191] 14 rfl (by decide +kernel) (by decide +kernel) (by decide +kernel) rfl ?_
        simp only [List.take_succ_cons, List.take_zero, List.take_nil, List.drop_succ_cons, List.drop_zero, List.drop_nil]
        refine dp_val rfl (apure_val (a_move rfl rfl pure_done)) rfl ?_
        refine dp_val rfl (apure_val (a_build (res := [_, _, _, _]) rfl bk71 rfl rfl pure_done)) rfl ?_
        first | refine dp_val rfl (apure_val (a_fieldAddr rfl fk50_0 rfl rfl pure_done)) rfl ?_ | refine dp_val rfl (apure_val (a_fieldAddr_pin rfl fk50_0 rfl rfl pure_done)) rfl ?_
        first | refine dp_val rfl (apure_val (a_load_pin rfl tk3 rfl rfl pure_done)) rfl ?_ | refine dp_val rfl (apure_val (a_load rfl tk3 rfl HP rfl pure_done)) rfl ?_
        first | refine dp_val rfl (apure_val (a_sub rfl rfl rfl (by simp only [Go.AL.lo, Go.AL.hi]; omega) pure_done)) rfl ?_ | refine dp_val rfl (apure_val (a_int rfl rfl rfl rfl pure_done)) rfl ?_
        refine dp_val rfl (apure_val (a_index_array rfl ak71 rfl rfl rfl (by omega) (by omega) (ldv_fS hp1 hp2 rfl) pure_done)) rfl ?_
        refine dp_val rfl (apure_val (a_concat rfl rfl rfl (by first | omega | (simp; omega)) pure_done)) rfl ?_
        refine dp_val rfl (apure_val (a_concat rfl rfl rfl (by first | omega | (simp; omega)) pure_done)) rfl ?_
        first | refine dp_val rfl (apure_val (a_fieldAddr rfl fk50_1 rfl rfl pure_done)) rfl ?_ | refine dp_val rfl (apure_val (a_fieldAddr_pin rfl fk50_1 rfl rfl pure_done)) rfl ?_
        first | refine dp_val rfl (apure_val (a_load_pin rfl tk9 rfl rfl pure_done)) rfl ?_ | refine dp_val rfl (apure_val (a_load rfl tk9 rfl HP rfl pure_done)) rfl ?_
        refine dp_val rfl (apure_call rfl cf29 rfl (quoted_spec _ _ (by omega))) rfl ?_
        refine dp_val rfl (apure_val (a_concat rfl rfl rfl (by first | omega | (simp; omega)) pure_done)) rfl ?_
        refine dp_val rfl (apure_val (a_concat rfl rfl rfl (by first | omega | (simp; omega)) pure_done)) rfl ?_
        rw [show hText q ++ fl ++ ([32] ++ fSign x.op ++ [32] ++ quotedP x.txt) = hText q ++ (q.fs.take (j + 1)).flatMap fText by rw [← hf0, take_succ' hx]; simp [fText]]
        refine dp_val rfl (apure_val (a_assign rfl rfl pure_done)) rfl ?_
        change AOps _ _ _ _ _ _ _
        refine aops_nil ?_
        refine blockE_n ?_
        refine thenE_n ?_
        refine awp_region ?_
        first | refine aops_v rfl rfl rfl (a_add rfl rfl rfl (by simp only [Go.AL.lo, Go.AL.hi]; omega) ?_) | refine aops_v rfl rfl rfl (a_int rfl rfl rfl rfl ?_)
        refine aops_v rfl rfl rfl (a_move rfl rfl ?_)
        refine aops_nil ?_
        refine thenE_n ?_
        exact .done ⟨j + 1, by omega, by omega, EL, rfl⟩
      · try simp only [zz1, zz2, ne_eq, zz4, zz5, zz6, gt_iff_lt, ge_iff_le, zz9, zz0] at h3
        obtain rfl : j = q.fs.length := by omega
        rw [List.take_length]
        refine awp_exit ?_
        refine thenE_x ?_
        refine thenE_x ?_
        refine blockE_x ?_
        refine thenE_n ?_
        refine awp_seq ?_
        refine awp_region ?_
        refine aops_v rfl rfl rfl (a_move rfl rfl ?_)
        refine aops_v rfl rfl rfl (a_assign rfl rfl ?_)
        refine aops_v rfl rfl rfl (a_assign rfl rfl ?_)
        refine aops_nil ?_
        refine thenE_n ?_
        refine awp_ret ?_
        change Gst _ _ _ _
        refine fin2 rfl ?_
        exact ⟨by unfold printP; rw [if_pos hc]; rfl, rfl⟩

end Go.Proofs.YtnahdpjbddfhgaaGreatDoor
set_option linter.unusedVariables false
set_option linter.unusedSimpArgs false
namespace Go.Proofs.YtnahdpjbddfhgaaGreatDoor
open Go Go.AL
set_option maxRecDepth 100000
/-- a memory with one growing list, the scanner and two or three objects -/
def q0 (σ : AHeap) (a b p : Nat) (A B S : AObj) (e : TypeId) (L : List AV) (n i v : Nat) : AHeap := slh (upd (upd (upd σ a A) b B) p S) e L n i v
def q1 (σ : AHeap) (a b c p : Nat) (A B C S : AObj) (e : TypeId) (L : List AV) (n i v : Nat) : AHeap := slh (upd (upd (upd (upd σ a A) b B) c C) p S) e L n i v
structure QK (σ : AHeap) (a b p n i : Nat) : Prop where
  fa : σ a = none
  fb : σ b = none
  ab : a ≠ b
  ap : a ≠ p
  bp : b ≠ p
  fi : n = 0 ∨ (σ i = none ∧ a ≠ i ∧ b ≠ i ∧ p ≠ i)
structure QC1 (σ : AHeap) (a b c p n i : Nat) : Prop where
  fc : σ c = none
  ac : a ≠ c
  bc : b ≠ c
  cp : c ≠ p
  ci : n = 0 ∨ c ≠ i
section
variable {σ : AHeap} {a b c p n i v : Nat} {A B C S O : AObj} {e : TypeId} {L : List AV}
theorem slh_at' {τ : AHeap} {k : Nat} (h : n = 0 ∨ k ≠ i) : slh τ e L n i v k = τ k := by
  rcases h with rfl | h
  · rfl
  · exact slh_at _ _ _ _ h
theorem slh_upd' {τ : AHeap} {k : Nat} {o : AObj} (h : n = 0 ∨ k ≠ i) : upd (slh τ e L n i v) k o = slh (upd τ k o) e L n i v := by
  rcases h with rfl | h
  · rfl
  · exact slh_upd _ _ _ _ h _
theorem QK.i1 (h : QK σ a b p n i) : (n = 0 ∨ a ≠ i) ∧ (n = 0 ∨ b ≠ i) ∧ (n = 0 ∨ p ≠ i) := ⟨h.fi.imp id fun x => x.2.1, h.fi.imp id fun x => x.2.2.1, h.fi.imp id fun x => x.2.2.2⟩
theorem q0_p (h : QK σ a b p n i) : q0 σ a b p A B S e L n i v p = some S := by unfold q0; rw [slh_at' h.i1.2.2]; exact upd_same _ _ _
theorem q0_setp (h : QK σ a b p n i) : upd (q0 σ a b p A B S e L n i v) p O = q0 σ a b p A B O e L n i v := by unfold q0; rw [slh_upd' h.i1.2.2, upd_upd]
theorem q0_b (h : QK σ a b p n i) : q0 σ a b p A B S e L n i v b = some B := by unfold q0; rw [slh_at' h.i1.2.1, upd_ne _ _ h.bp]; exact upd_same _ _ _
theorem q0_new (h : QK σ a b p n i) (hc : q0 σ a b p A B S e L n i v c = none) : QC1 σ a b c p n i ∧ ∀ C, upd (q0 σ a b p A B S e L n i v) c C = q1 σ a b c p A B C S e L n i v := by
  have hi : n = 0 ∨ c ≠ i := by
    rcases Nat.eq_zero_or_pos n with h0 | h0
    · exact .inl h0
    · refine .inr fun e => ?_
      unfold q0 at hc; rw [slh_pos h0, e, upd_same] at hc; exact absurd hc (by simp)
  have hc' := hc
  unfold q0 at hc
  rw [slh_at' hi] at hc
  obtain ⟨h1, h2⟩ := ne_of_upd hc
  obtain ⟨h3, h4⟩ := ne_of_upd h2
  obtain ⟨h5, h6⟩ := ne_of_upd h4
  exact ⟨⟨h6, h5, h3, h1.symm, hi⟩, fun C => by unfold q0 q1; rw [slh_upd' hi, upd_comm _ _ _ h1]⟩
theorem q1_eq : slh (upd (upd (upd (upd σ a A) b B) c C) p S) e L n i v = q1 σ a b c p A B C S e L n i v := rfl
theorem q1_p (h : QK σ a b p n i) : q1 σ a b c p A B C S e L n i v p = some S := by unfold q1; rw [slh_at' h.i1.2.2]; exact upd_same _ _ _
theorem q1_setp (h : QK σ a b p n i) : upd (q1 σ a b c p A B C S e L n i v) p O = q1 σ a b c p A B C O e L n i v := by unfold q1; rw [slh_upd' h.i1.2.2, upd_upd]
theorem q1_c (h : QC1 σ a b c p n i) : q1 σ a b c p A B C S e L n i v c = some C := by unfold q1; rw [slh_at' h.ci, upd_ne _ _ h.cp]; exact upd_same _ _ _
theorem q1_setc (h : QC1 σ a b c p n i) : upd (q1 σ a b c p A B C S e L n i v) c O = q1 σ a b c p A B O S e L n i v := by
  unfold q1; rw [slh_upd' h.ci, upd_comm _ _ _ h.cp.symm, upd_upd]
theorem q1_b (h : QK σ a b p n i) (hc : QC1 σ a b c p n i) : q1 σ a b c p A B C S e L n i v b = some B := by unfold q1; rw [slh_at' h.i1.2.1, upd_ne _ _ h.bp, upd_ne _ _ hc.bc]; exact upd_same _ _ _
theorem q1_setb (h : QK σ a b p n i) (hc : QC1 σ a b c p n i) : upd (q1 σ a b c p A B C S e L n i v) b O = q1 σ a b c p A O C S e L n i v := by
  unfold q1; rw [slh_upd' h.i1.2.1, upd_comm _ _ _ h.bp.symm, upd_comm _ _ _ hc.bc.symm, upd_upd]
theorem q1_fi (h : QK σ a b p n i) (hc : QC1 σ a b c p n i) (h0 : 0 < n) : (upd (upd (upd (upd σ a A) b B) c C) p S) i = none := by
  obtain ⟨h1, h2, h3, h4⟩ := h.fi.resolve_left (by omega)
  rw [upd_ne _ _ h4.symm, upd_ne _ _ (hc.ci.resolve_left (by omega)).symm, upd_ne _ _ h3.symm, upd_ne _ _ h2.symm]; exact h1
theorem q1_grow {m j : Nat} (h : QK σ a b p n i) (hc : QC1 σ a b c p n i) (hj : (upd (upd (upd (upd σ a A) b B) c C) p S) j = none) : QK σ a b p m j ∧ QC1 σ a b c p m j := by
  obtain ⟨h1, h2⟩ := ne_of_upd hj
  obtain ⟨h3, h4⟩ := ne_of_upd h2
  obtain ⟨h5, h6⟩ := ne_of_upd h4
  obtain ⟨h7, h8⟩ := ne_of_upd h6
  exact ⟨⟨h.fa, h.fb, h.ab, h.ap, h.bp, .inr ⟨h8, h7, h5, h1⟩⟩, ⟨hc.fc, hc.ac, hc.bc, hc.cp, .inr h3⟩⟩
theorem q1_drop {N : Nat} {Q : Env → AHeap → Prop} {env : Env} (h : QK σ a b p n i) (hc : QC1 σ a b c p n i) (g : Gst N Q env (q0 σ a b p A B S e L n i v)) : Gst N Q env (q1 σ a b c p A B C S e L n i v) := by
  refine gst_sub _ (fun k o hk => ?_) g
  have hn : q0 σ a b p A B S e L n i v c = none := by
    unfold q0; rw [slh_at' hc.ci, upd_ne _ _ hc.cp, upd_ne _ _ hc.bc.symm, upd_ne _ _ hc.ac.symm]; exact hc.fc
  have hk0 : k ≠ c := fun e => by rw [e, hn] at hk; exact absurd hk (by simp)
  rw [← hk]
  have : q1 σ a b c p A B C S e L n i v = upd (q0 σ a b p A B S e L n i v) c C := by
    unfold q0 q1; rw [slh_upd' hc.ci, upd_comm _ _ _ hc.cp.symm]
  rw [this, upd_ne _ _ hk0]
/-- the list is frozen in its object -/
theorem q0_frz {N : Nat} {Q : Env → AHeap → Prop} {env : Env} {X Y : List AV} {ty : TypeId} (sz : Nat) (hl : L.length = n * sz) (h : QK σ a b p n i) (hxy : Cellwise (FrzL sz L n i v) X Y)
    (g : Gst N Q env (upd (upd (upd σ a A) b (.cells 0 ty Y)) p S)) : Gst N Q env (q0 σ a b p A (.cells 0 ty X) S e L n i v) := by
  refine gst_frzL (sz := sz) (n := n) (id := i) (ver := v) (e := e) (cs := L) hl ?_ [] (by simp) _ ?_ g
  · intro h0; unfold q0; rw [slh_pos h0]; exact upd_same _ _ _
  · intro k o hk
    have fr : 0 < n → (upd (upd (upd σ a A) b (.cells 0 ty Y)) p S) i = none := fun h0 => by
      obtain ⟨h1, h2, h3, h4⟩ := h.fi.resolve_left (by omega)
      rw [upd_ne _ _ h4.symm, upd_ne _ _ h3.symm, upd_ne _ _ h2.symm]; exact h1
    have hki : 0 < n → k ≠ i := fun h0 e => by rw [e, fr h0] at hk; exact absurd hk (by simp)
    have hki' : n = 0 ∨ k ≠ i := (Nat.eq_zero_or_pos n).imp id hki
    refine ⟨hki, ?_⟩
    by_cases hkb : k = b
    · subst hkb
      rw [upd_ne _ _ h.bp, upd_same] at hk
      simp only [Option.some.injEq] at hk
      subst hk
      exact ⟨_, q0_b h, .cells hxy⟩
    · refine ⟨o, ?_, .refl o⟩
      unfold q0
      rw [slh_at' hki']
      by_cases hkp : k = p
      · subst hkp; rw [upd_same] at hk ⊢; exact hk
      · rw [upd_ne _ _ hkp, upd_ne _ _ hkb] at hk ⊢; exact hk
end
/-- the scanner's reading of a query -/
def mSigns : List (List UInt8) := [[61], [33, 61], [61, 126], [33, 126]]
def fSigns : List (List UInt8) := [[124, 61], [33, 61], [124, 126], [33, 126]]
def mNm (s : List UInt8) : List UInt8 := (trimL 32 s).takeWhile isN
def mS1 (s : List UInt8) : List UInt8 := (trimL 32 s).dropWhile isN
def mOp (s : List UInt8) : Nat := opIdx (trimL 32 (mS1 s)) mSigns
def mS2 (s : List UInt8) : List UInt8 := opRest (trimL 32 (mS1 s)) mSigns
def mB2 (s : List UInt8) : Bool := !nameP (mNm s) || decide (mOp s = 0)
def mGe (s : List UInt8) : Bool := decide (mOp s = 1) && hasPre (mS2 s) [126]
def txA (s : List UInt8) (bad : Bool) : List UInt8 × List UInt8 × Bool := txt (nxt s [34]) [] (bad || !hasPre (trimL 32 s) [34])
def mS3 (s : List UInt8) : List UInt8 := if mGe s = true then (mS2 s).drop 1 else mS2 s
def mOp2 (s : List UInt8) : Int := if mGe s = true then 3 else (mOp s : Int)
def mX (s : List UInt8) : List UInt8 × List UInt8 × Bool := txA (mS3 s) (mB2 s)
def mM (s : List UInt8) : Mt := ⟨mNm s, mOp2 s, (mX s).1⟩
def mMore (s : List UInt8) : Bool := hasPre (trimL 32 (mX s).2.1) [44]
def mS5 (s : List UInt8) : List UInt8 := nxt (mX s).2.1 [44]
def mOne (s : List UInt8) : List UInt8 × Bool := if mMore s = true then (mS5 s, (mX s).2.2) else (nxt (mS5 s) [125], (mX s).2.2 || !hasPre (trimL 32 (mS5 s)) [125])
theorem txt_len : ∀ (k : Nat) (s : List UInt8), s.length ≤ k → ∀ b bad, (txt s b bad).1.length ≤ b.length + s.length ∧ (txt s b bad).2.1.length ≤ s.length ∧ (bad = true → (txt s b bad).2.2 = true) := by
  intro k
  induction k with
  | zero => intro s hs b bad; obtain rfl : s = [] := List.eq_nil_of_length_eq_zero (by omega); rw [txt.eq_def]; simp
  | succ k ih =>
    intro s hs b bad
    cases s with
    | nil => rw [txt.eq_def]; simp
    | cons x r =>
      rw [txt.eq_def]
      dsimp only
      have hr : r.length ≤ k := by simp at hs; omega
      split
      · simp
      split
      · obtain ⟨h1, h2, h3⟩ := ih r hr b true; simp; exact ⟨by omega, by omega, fun _ => h3 rfl⟩
      split
      · cases r with
        | nil => rw [show txt [] b true = ([], [], true) by rw [txt.eq_def]]; simp
        | cons y r =>
          dsimp only
          split
          · obtain ⟨h1, h2, h3⟩ := ih r (by simp at hr; omega) (b ++ [if y = 110 then 10 else y]) bad; simp at h1 h2 ⊢; exact ⟨by omega, by omega, h3⟩
          · obtain ⟨h1, h2, h3⟩ := ih (y :: r) hr b true; simp at h1 h2 ⊢; exact ⟨by omega, by omega, fun _ => h3 rfl⟩
      · obtain ⟨h1, h2, h3⟩ := ih r hr (b ++ [x]) bad; simp at h1 h2 ⊢; exact ⟨by omega, by omega, h3⟩
theorem nxt_lt {s g : List UInt8} (h : hasPre (trimL 32 s) g = true) (hg : 0 < g.length) : (nxt s g).length < s.length := by
  have h1 := trimL_len 32 s; have h2 := hasPre_len h
  unfold nxt; rw [if_pos h]; simp; omega
theorem txA_len (s : List UInt8) (bad : Bool) : (txA s bad).1.length ≤ s.length ∧ (txA s bad).2.1.length ≤ s.length ∧ ((txA s bad).2.2 = false → (txA s bad).2.1.length < s.length) := by
  obtain ⟨h1, h2, h3⟩ := txt_len _ (nxt s [34]) (Nat.le_refl _) [] (bad || !hasPre (trimL 32 s) [34])
  have h4 := nxt_len s [34]
  unfold txA
  refine ⟨by simp at h1; omega, by omega, fun h => ?_⟩
  cases hp : hasPre (trimL 32 s) [34] with
  | true => have := nxt_lt hp (by simp); rw [hp] at h2; omega
  | false => rw [h3 (by rw [hp]; simp)] at h; exact absurd h (by simp)
theorem opRest_len (t : List UInt8) (g : List (List UInt8)) : (opRest t g).length ≤ t.length := by unfold opRest; split <;> simp
theorem mS2_len (s : List UInt8) : (mS1 s).length ≤ s.length ∧ (mS2 s).length ≤ s.length ∧ (mNm s).length ≤ s.length := by
  have h1 := trimL_len 32 s
  have h2 : (mS1 s).length ≤ (trimL 32 s).length := (List.dropWhile_sublist _).length_le
  have h3 := trimL_len 32 (mS1 s); have h4 := opRest_len (trimL 32 (mS1 s)) mSigns
  have h5 : (mNm s).length ≤ (trimL 32 s).length := (List.takeWhile_sublist _).length_le
  exact ⟨by omega, by unfold mS2; omega, by omega⟩
theorem mS3_len (s : List UInt8) : (mS3 s).length ≤ s.length := by
  have h1 := (mS2_len s).2.1
  unfold mS3; split <;> simp <;> omega
theorem mX_len (s : List UInt8) : (mX s).1.length ≤ s.length ∧ (mX s).2.1.length ≤ s.length ∧ ((mX s).2.2 = false → (mX s).2.1.length < s.length) := by
  have h1 := mS3_len s
  obtain ⟨h2, h3, h4⟩ := txA_len (mS3 s) (mB2 s)
  unfold mX
  exact ⟨by omega, by omega, fun h => by have := h4 h; omega⟩
theorem mOne_len (s : List UInt8) : (mOne s).1.length ≤ s.length ∧ ((mOne s).2 = false → (mOne s).1.length < s.length) := by
  obtain ⟨h1, h2, h3⟩ := mX_len s
  have h4 : (mS5 s).length ≤ (mX s).2.1.length := nxt_len _ _
  have h5 := nxt_len (mS5 s) [125]
  unfold mOne
  split
  · exact ⟨by dsimp only; omega, fun h => by have := h3 h; dsimp only; omega⟩
  · refine ⟨by dsimp only; omega, fun h => ?_⟩
    dsimp only at h ⊢
    have := h3 (by simp at h; exact h.1)
    omega
def msL (s : List UInt8) (bad more : Bool) (acc : List Mt) : List Mt × List UInt8 × Bool :=
  if h : (more && !bad) = true then msL (mOne s).1 (mOne s).2 (mMore s) (acc ++ [mM s]) else (acc, s, bad)
 termination_by if bad = true then 0 else s.length + 1
 decreasing_by
  have hb : bad = false := by simp at h; exact h.2
  have h1 := mOne_len s
  rw [hb]
  cases h2 : (mOne s).2 with
  | true => simp
  | false => have := h1.2 h2; simp; exact this
theorem msL_go {s : List UInt8} {acc : List Mt} : msL s false true acc = msL (mOne s).1 (mOne s).2 (mMore s) (acc ++ [mM s]) := by rw [msL, dif_pos (by simp)]
theorem msL_no {s : List UInt8} {bad more : Bool} {acc : List Mt} (h : (more && !bad) = false) : msL s bad more acc = (acc, s, bad) := by rw [msL, dif_neg (by rw [h]; simp)]
def fOp (s : List UInt8) : Nat := opIdx (trimL 32 s) fSigns
def fS1 (s : List UInt8) : List UInt8 := opRest (trimL 32 s) fSigns
def fX (s : List UInt8) : List UInt8 × List UInt8 × Bool := txA (fS1 s) (decide (fOp s = 0))
def fF (s : List UInt8) : Fl := ⟨(fOp s : Int), (fX s).1⟩
theorem fS1_len (s : List UInt8) : (fS1 s).length ≤ s.length := by
  have h1 := trimL_len 32 s; have h2 := opRest_len (trimL 32 s) fSigns
  unfold fS1; omega
theorem fX_len (s : List UInt8) : (fX s).1.length ≤ s.length ∧ (fX s).2.1.length ≤ s.length ∧ ((fX s).2.2 = false → (fX s).2.1.length < s.length) := by
  have h1 := fS1_len s
  obtain ⟨h2, h3, h4⟩ := txA_len (fS1 s) (decide (fOp s = 0))
  unfold fX
  exact ⟨by omega, by omega, fun h => by have := h4 h; omega⟩
def fsGo (s : List UInt8) (bad : Bool) : Bool := !bad && decide (trimL 32 (trimR 32 s) ≠ [])
def fsL (s : List UInt8) (bad : Bool) (acc : List Fl) : List Fl × List UInt8 × Bool :=
  if h : fsGo s bad = true then fsL (fX s).2.1 (fX s).2.2 (acc ++ [fF s]) else (acc, s, bad)
 termination_by if bad = true then 0 else s.length + 1
 decreasing_by
  have hb : bad = false := by simp [fsGo] at h; exact h.1
  have h1 := fX_len s
  rw [hb]
  cases h2 : (fX s).2.2 with
  | true => simp
  | false => have := h1.2.2 h2; simp; exact this
theorem fsL_go {s : List UInt8} {bad : Bool} {acc : List Fl} (h : fsGo s bad = true) : fsL s bad acc = fsL (fX s).2.1 (fX s).2.2 (acc ++ [fF s]) := by rw [fsL, dif_pos h]
theorem fsL_no {s : List UInt8} {bad : Bool} {acc : List Fl} (h : fsGo s bad = false) : fsL s bad acc = (acc, s, bad) := by rw [fsL, dif_neg (by rw [h]; simp)]
def qS1 (s : List UInt8) : List UInt8 := nxt s [123]
def qB1 (s : List UInt8) : Bool := !hasPre (trimL 32 s) [123]
def qS2 (s : List UInt8) : List UInt8 := nxt (qS1 s) [125]
def qM2 (s : List UInt8) : Bool := !hasPre (trimL 32 (qS1 s)) [125]
def qMs (s : List UInt8) : List Mt × List UInt8 × Bool := msL (qS2 s) (qB1 s) (qM2 s) []
def qFs (s : List UInt8) : List Fl × List UInt8 × Bool := fsL (qMs s).2.1 (qMs s).2.2 []
def qQ (s : List UInt8) : Qr := ⟨(qMs s).1, (qFs s).1⟩
theorem msL_ok {K M : Nat} (s : List UInt8) (bad more : Bool) (acc : List Mt) : s.length ≤ K → acc.length + s.length + (if bad = true then 0 else 1) ≤ M → (∀ m ∈ acc, m.name.length ≤ K ∧ m.val.length ≤ K) →
    (msL s bad more acc).1.length ≤ M ∧ (msL s bad more acc).2.1.length ≤ s.length ∧ ∀ m ∈ (msL s bad more acc).1, m.name.length ≤ K ∧ m.val.length ≤ K := by
  induction s, bad, more, acc using msL.induct with
  | case1 s bad more acc h ih =>
    intro hk hm ha
    have hb : bad = false := by simp at h; exact h.2
    have ho := mOne_len s
    rw [msL, dif_pos h]
    subst hb
    simp only [Bool.false_eq_true, if_false] at hm
    have h3 := mS2_len s; have h4 := mX_len s
    obtain ⟨g1, g2, g3⟩ := ih (by omega) (by
      rw [List.length_append, List.length_singleton]
      cases hb : (mOne s).2 with
      | true => simp; omega
      | false => have := ho.2 hb; simp; omega) (fun m hm => by
      rcases List.mem_append.1 hm with hm | hm
      · exact ha m hm
      · simp only [List.mem_singleton] at hm; subst hm
        exact ⟨by simp [mM]; omega, by simp [mM]; omega⟩)
    exact ⟨g1, by omega, g3⟩
  | case2 s bad more acc h =>
    intro hk hm ha
    rw [msL, dif_neg h]
    exact ⟨by dsimp only; omega, by dsimp only; omega, ha⟩
theorem fsL_ok {K M : Nat} (s : List UInt8) (bad : Bool) (acc : List Fl) : s.length ≤ K → acc.length + s.length + (if bad = true then 0 else 1) ≤ M → (∀ m ∈ acc, m.txt.length ≤ K) →
    (fsL s bad acc).1.length ≤ M ∧ ∀ m ∈ (fsL s bad acc).1, m.txt.length ≤ K := by
  induction s, bad, acc using fsL.induct with
  | case1 s bad acc h ih =>
    intro hk hm ha
    have hb : bad = false := by simp [fsGo] at h; exact h.1
    have ho := fX_len s
    rw [fsL, dif_pos h]
    subst hb
    simp only [Bool.false_eq_true, if_false] at hm
    exact ih (by omega) (by
      rw [List.length_append, List.length_singleton]
      cases hb : (fX s).2.2 with
      | true => simp; omega
      | false => have := ho.2.2 hb; simp; omega) (fun m hm => by
      rcases List.mem_append.1 hm with hm | hm
      · exact ha m hm
      · simp only [List.mem_singleton] at hm; subst hm
        simp [fF]; omega)
  | case2 s bad acc h =>
    intro hk hm ha
    rw [fsL, dif_neg h]
    exact ⟨by dsimp only; omega, ha⟩
theorem qS_len (s : List UInt8) : (qS1 s).length ≤ s.length ∧ (qS2 s).length ≤ s.length := by
  have h1 := nxt_len s [123]; have h2 := nxt_len (qS1 s) [125]
  exact ⟨h1, Nat.le_trans h2 h1⟩
theorem qMs_ok {s : List UInt8} (h : s.length ≤ 512) : (qMs s).1.length ≤ 513 ∧ (qMs s).2.1.length ≤ 512 ∧ ∀ m ∈ (qMs s).1, m.name.length ≤ 512 ∧ m.val.length ≤ 512 := by
  have h2 := (qS_len s).2
  obtain ⟨g1, g2, g3⟩ := msL_ok (K := 512) (M := 513) (qS2 s) (qB1 s) (qM2 s) [] (by omega) (by split <;> simp <;> omega) (by simp)
  exact ⟨g1, by unfold qMs; omega, g3⟩
theorem qFs_ok {s : List UInt8} (h : s.length ≤ 512) : (qFs s).1.length ≤ 513 ∧ ∀ m ∈ (qFs s).1, m.txt.length ≤ 512 := by
  obtain ⟨g1, g2, g3⟩ := qMs_ok h
  exact fsL_ok (K := 512) (M := 513) (qMs s).2.1 (qMs s).2.2 [] (by omega) (by split <;> simp <;> omega) (by simp)
theorem qQ_ok {s : List UInt8} (h : s.length ≤ 512) : QrOk (qQ s) ∧ ∀ m ∈ (qQ s).ms, m.name.length ≤ 10000000 := by
  obtain ⟨g1, g2, g3⟩ := qMs_ok h
  obtain ⟨g4, g5⟩ := qFs_ok h
  refine ⟨⟨by simp only [qQ]; omega, by simp only [qQ]; omega, fun m hm => ?_, fun m hm => ?_⟩, fun m hm => ?_⟩
  · have := (g3 m hm).2; omega
  · have := g5 m hm; omega
  · have := (g3 m hm).1; omega
theorem q_ret {σ : AHeap} {a b p : Nat} {A B S R : AObj} (ab : a ≠ b) (ap : a ≠ p) : upd (upd (upd (upd σ a A) b B) p S) a R = upd (upd (upd σ b B) p S) a R := by
  rw [upd_comm _ _ _ ap.symm, upd_comm _ _ _ ab.symm, upd_upd, upd_comm _ _ _ ab, upd_comm _ _ _ ap]
theorem q_sub {σ : AHeap} {b p : Nat} {B S : AObj} (hb : σ b = none) (bp : b ≠ p) : ∀ k o, upd σ p S k = some o → upd (upd σ b B) p S k = some o := by
  intro k o hk
  by_cases e : k = p
  · subst e; rw [upd_same] at hk ⊢; exact hk
  · rw [upd_ne _ _ e] at hk ⊢
    rw [upd_ne _ _ (fun e2 => by rw [e2, hb] at hk; exact absurd hk (by simp))]; exact hk
theorem bF {b : Bool} (h : ¬ b = true) : b = false := by simpa using h

theorem query_spec (p : Nat) (s : List UInt8) (σ : AHeap) (hp : σ p = some (scn s false)) (hl : s.length ≤ 512) : ASpec Tryz.prog 20 [.ref p 0 0] σ fun r σ' => r = .ret (.agg (encQ (qQ s) false false)) ∧ σ' = upd σ p (scn (qFs s).2.1 (qFs s).2.2) := by
  refine aspec_enter_c (N := 111) (rs := [.cell 2 26]) Tryz.func20 rfl rfl rfl rfl rfl ?_
  refine awp_seq ?_
  refine awp_region ?_
  refine aops_v rfl rfl rfl (a_alloc rfl zk26 ?_)
  intro id2 hid2
  refine aops_nil ?_
  refine thenE_n ?_
  refine awp_seq ?_
  refine awp_region ?_
  refine aops_v rfl rfl rfl (a_alloc rfl zk26 ?_)
  intro id3 hid3
  refine aops_nil ?_
  refine thenE_n ?_
  refine awp_seq ?_
  have hp2 : p ≠ id2 := fun e => by rw [← e, hp] at hid2; exact absurd hid2 (by simp)
  obtain ⟨h23, hid3b⟩ := ne_of_upd hid3
  have hp3 : p ≠ id3 := fun e => by rw [← e, hp] at hid3b; exact absurd hid3b (by simp)
  have hk0 : QK σ id2 id3 p 0 0 := ⟨hid2, hid3b, h23, hp2.symm, hp3.symm, .inl rfl⟩
  obtain ⟨hl1, hl2⟩ := qS_len s
  have hqm := qMs_ok hl
  refine awp_region ?_
  refine aops_v rfl rfl rfl (a_move rfl rfl ?_)
  refine aops_v rfl rfl rfl (a_move rfl rfl ?_)
  refine aops_call_eq rfl rfl rfl rfl cf49 rfl (next_spec p s [123] false _ (by rw [upd_ne _ _ hp3, upd_ne _ _ hp2]; exact hp)) ?_
  refine aops_v rfl rfl rfl (a_not rfl rfl ?_)
  first | refine aops_v rfl rfl rfl (a_nilCheck rfl rfl ?_) | refine aops_v rfl rfl rfl (a_nilCheck_pin rfl rfl ?_) | refine aops_v rfl rfl rfl (a_nilCheck_clo rfl rfl ?_)
  first | refine aops_v rfl rfl rfl (a_fieldAddr rfl fk57_1 rfl rfl ?_) | refine aops_v rfl rfl rfl (a_fieldAddr_pin rfl fk57_1 rfl rfl ?_)
  first | refine aops_s rfl rfl (a_store_n (cs2 := [_, _]) rfl tk4 rfl rfl HP rfl rfl (by first | decide | (simp; done) | (simp; omega)) rfl ?_) | refine aops_s rfl rfl (a_store rfl tk4 rfl rfl HP rfl rfl (by first | decide | (simp [stv, AV.cells]; done) | (simp [stv, AV.cells]; omega)) ?_)
  refine aops_nil ?_
  refine thenE_n ?_
  refine awp_cut (S := Unit) (fun _ => [(0, .ref p 0 0), (2, .ref id2 0 0), (3, .ref id3 0 0)]) (fun _ => q0 σ id2 id3 p (.cells 0 26 [nilS, nilS]) (.cells 0 26 [.lst ((qMs s).1.flatMap encM) (qMs s).1.length false, nilS]) (scn (qMs s).2.1 (qMs s).2.2) 50 [] 0 0 0) (fun _ => True) ?_ ?_
  · skip
    refine awp_seq ?_
    rw [upd_upd]
    change AWp _ _ _ _ _ (q0 σ id2 id3 p (.cells 0 26 [nilS, nilS]) (.cells 0 26 [nilS, nilS]) (scn (qS1 s) (qB1 s)) 48 [] 0 0 0)
    refine awp_region ?_
    refine aops_v rfl rfl rfl (a_move rfl rfl ?_)
    refine aops_call_eq rfl rfl rfl rfl cf49 rfl (next_spec p (qS1 s) [125] (qB1 s) _ (q0_p hk0)) ?_
    rw [q0_setp hk0]
    refine aops_v rfl rfl rfl (a_not rfl rfl ?_)
    refine aops_v rfl rfl rfl (a_assign rfl rfl ?_)
    refine aops_nil ?_
    refine thenE_n ?_
    refine awp_block ?_
    refine awp_loop (S := List UInt8 × Bool × Bool × List Mt × (Nat × Nat)) (fun x => [(0, .ref p 0 0), (2, .ref id2 0 0), (3, .ref id3 0 0), (4, boo x.2.2.1)]) (fun x => q0 σ id2 id3 p (.cells 0 26 [nilS, nilS]) (.cells 0 26 [slv 3 (x.2.2.2.1.flatMap encM) x.2.2.2.1.length x.2.2.2.2.1 x.2.2.2.2.2, nilS]) (scn x.1 x.2.1) 48 (x.2.2.2.1.flatMap encM) x.2.2.2.1.length x.2.2.2.2.1 x.2.2.2.2.2) (fun x => msL x.1 x.2.1 x.2.2.1 x.2.2.2.1 = qMs s ∧ QK σ id2 id3 p x.2.2.2.1.length x.2.2.2.2.1 ∧ x.2.2.2.1.length + x.1.length + (if x.2.1 = true then 0 else 1) ≤ 513) (fun x => if x.2.1 = true then 0 else x.1.length + 1) ⟨(qS2 s, qB1 s, qM2 s, [], (0, 0)), ⟨rfl, hk0, by dsimp only; split <;> simp <;> omega⟩, EL, rfl⟩ ?_
    rintro ⟨s1, bad, more, ms, ⟨i, v⟩⟩ ⟨hJ, hk, hn⟩
    dsimp only at hJ hk hn
    dsimp only
    refine awp_seq ?_
    refine awp_seq ?_
    refine awp_region ?_
    refine aops_v rfl rfl rfl (a_move rfl rfl ?_)
    refine aops_v rfl rfl rfl (a_move rfl rfl ?_)
    refine aops_bool (fun h1 => ?_) (fun h1 => ?_)
    · try simp only [zz1, zz2, ne_eq, zz4, zz5, zz6, gt_iff_lt, ge_iff_le, zz9, zz0] at h1
      obtain rfl : more = true := h1
      refine aops_yes rfl rfl rfl rfl ?_
      refine aops_v rfl rfl rfl (a_move rfl rfl ?_)
      refine aops_yes rfl rfl rfl rfl ?_
      first | refine aops_v rfl rfl rfl (a_nilCheck rfl rfl ?_) | refine aops_v rfl rfl rfl (a_nilCheck_pin rfl rfl ?_) | refine aops_v rfl rfl rfl (a_nilCheck_clo rfl rfl ?_)
      refine aops_yes rfl rfl rfl rfl ?_
      first | refine aops_v rfl rfl rfl (a_fieldAddr rfl fk57_1 rfl rfl ?_) | refine aops_v rfl rfl rfl (a_fieldAddr_pin rfl fk57_1 rfl rfl ?_)
      refine aops_yes rfl rfl rfl rfl ?_
      refine aops_v rfl rfl rfl (a_load rfl tk4 rfl (q0_p hk) rfl ?_)
      refine aops_yes rfl rfl rfl rfl ?_
      refine aops_v rfl rfl rfl (a_not rfl rfl ?_)
      refine aops_v rfl rfl rfl (a_pick rfl rfl rfl ?_)
      refine aops_nil ?_
      refine thenE_n ?_
      refine awp_cond rfl (fun h2 => ?_) (fun h2 => ?_)
      · try simp only [zz1, zz2, ne_eq, zz4, zz5, zz6, gt_iff_lt, ge_iff_le, zz9, zz0] at h2
        obtain rfl : bad = false := h2
        simp only [Bool.false_eq_true, if_false] at hn
        obtain ⟨hm1, hm2x, hm3⟩ := mS2_len s1
        have hm4 := mS3_len s1
        refine awp_skip ?_
        refine thenE_n ?_
        refine awp_block ?_
        refine awp_seq ?_
        refine awp_region ?_
        refine aops_v rfl rfl rfl (a_move rfl rfl ?_)
        refine aops_call_eq rfl rfl rfl rfl cf50 rfl (name_spec p s1 false _ (q0_p hk) (by omega)) ?_
        rw [q0_setp hk]
        refine aops_v rfl rfl rfl (a_build (res := [_, _, _]) rfl bk48 rfl rfl ?_)
        refine aops_var rfl rfl rfl rfl rfl rfl rfl tk48 zk48 rfl rfl rfl rfl rfl ?_
        intro id5 hid5
        refine aops_nil ?_
        refine thenE_n ?_
        refine awp_seq ?_
        obtain ⟨hc, hq⟩ := q0_new hk hid5
        rw [hq]
        change AWp _ _ _ _ _ (q1 σ id2 id3 id5 p (.cells 0 26 [nilS, nilS]) (.cells 0 26 [slv 3 (ms.flatMap encM) ms.length i v, nilS]) (.cells 0 48 [str (mNm s1), int 0, str []]) (scn (mS1 s1) false) 48 (ms.flatMap encM) ms.length i v)
        refine awp_region ?_
        refine aops_v rfl rfl rfl (a_move rfl rfl ?_)
        refine aops_v rfl rfl rfl (a_move rfl rfl ?_)
        first | refine aops_v rfl rfl rfl (a_nilCheck rfl rfl ?_) | refine aops_v rfl rfl rfl (a_nilCheck_pin rfl rfl ?_) | refine aops_v rfl rfl rfl (a_nilCheck_clo rfl rfl ?_)
        first | refine aops_v rfl rfl rfl (a_fieldAddr rfl fk57_1 rfl rfl ?_) | refine aops_v rfl rfl rfl (a_fieldAddr_pin rfl fk57_1 rfl rfl ?_)
        refine aops_v rfl rfl rfl (a_load rfl tk4 rfl (q1_p hk) rfl ?_)
        refine aops_v rfl rfl rfl (a_move rfl rfl ?_)
        refine aops_bool (fun h3 => ?_) (fun h3 => ?_)
        · try simp only [zz1, zz2, ne_eq, zz4, zz5, zz6, gt_iff_lt, ge_iff_le, zz9, zz0] at h3
          simp at h3
        · try simp only [zz1, zz2, ne_eq, zz4, zz5, zz6, gt_iff_lt, ge_iff_le, zz9, zz0] at h3
          refine aops_yes rfl rfl rfl rfl ?_
          first | refine aops_v rfl rfl rfl (a_fieldAddr rfl fk48_0 rfl rfl ?_) | refine aops_v rfl rfl rfl (a_fieldAddr_pin rfl fk48_0 rfl rfl ?_)
          refine aops_yes rfl rfl rfl rfl ?_
          refine aops_v rfl rfl rfl (a_load rfl tk9 rfl (q1_c hc) rfl ?_)
          refine aops_yes rfl rfl rfl rfl ?_
          refine aops_call_eq rfl rfl rfl rfl cf36 rfl (named_spec _ _) ?_
          refine aops_yes rfl rfl rfl rfl ?_
          refine aops_v rfl rfl rfl (a_not rfl rfl ?_)
          refine aops_v rfl rfl rfl (a_pick rfl rfl rfl ?_)
          first | refine aops_v rfl rfl rfl (a_nilCheck rfl rfl ?_) | refine aops_v rfl rfl rfl (a_nilCheck_pin rfl rfl ?_) | refine aops_v rfl rfl rfl (a_nilCheck_clo rfl rfl ?_)
          first | refine aops_v rfl rfl rfl (a_fieldAddr rfl fk57_1 rfl rfl ?_) | refine aops_v rfl rfl rfl (a_fieldAddr_pin rfl fk57_1 rfl rfl ?_)
          refine aops_s rfl rfl (a_store rfl tk4 rfl rfl (q1_p hk) rfl rfl (by first | decide | (simp [stv, AV.cells]; done)) ?_)
          rw [q1_setp hk]
          refine aops_nil ?_
          refine thenE_n ?_
          refine awp_seq ?_
          change AWp _ _ _ _ _ (q1 σ id2 id3 id5 p (.cells 0 26 [nilS, nilS]) (.cells 0 26 [slv 3 (ms.flatMap encM) ms.length i v, nilS]) (.cells 0 48 [str (mNm s1), int 0, str []]) (scn (mS1 s1) (!nameP (mNm s1))) 48 (ms.flatMap encM) ms.length i v)
          refine awp_region ?_
          refine aops_v rfl rfl rfl (a_move rfl rfl ?_)
          refine aops_v rfl rfl rfl (a_buildSlice (res := [_, _, _, _]) rfl sk62 rfl rfl rfl ?_)
          refine aops_call_eq rfl rfl rfl rfl cf51 rfl (op_spec p (mS1 s1) mSigns (!nameP (mNm s1)) (by decide) _ (q1_p hk) (by decide)) ?_
          rw [q1_setp hk]
          first | refine aops_v rfl rfl rfl (a_fieldAddr rfl fk48_1 rfl rfl ?_) | refine aops_v rfl rfl rfl (a_fieldAddr_pin rfl fk48_1 rfl rfl ?_)
          refine aops_s rfl rfl (a_store rfl tk3 rfl rfl (q1_c hc) rfl rfl (by first | decide | (simp [stv, AV.cells]; done)) ?_)
          rw [q1_setc hc]
          refine aops_nil ?_
          refine thenE_n ?_
          refine awp_cut (S := Unit) (fun _ => [(0, .ref p 0 0), (2, .ref id2 0 0), (3, .ref id3 0 0), (5, .ref id5 0 0)]) (fun _ => q1 σ id2 id3 id5 p (.cells 0 26 [nilS, nilS]) (.cells 0 26 [slv 3 (ms.flatMap encM) ms.length i v, nilS]) (.cells 0 48 [str (mNm s1), int (mOp2 s1), str []]) (scn (mS3 s1) (mB2 s1)) 48 (ms.flatMap encM) ms.length i v) (fun _ => True) ?_ ?_
          · skip
            refine awp_seq ?_
            change AWp _ _ _ _ _ (q1 σ id2 id3 id5 p (.cells 0 26 [nilS, nilS]) (.cells 0 26 [slv 3 (ms.flatMap encM) ms.length i v, nilS]) (.cells 0 48 [str (mNm s1), int (mOp s1), str []]) (scn (mS2 s1) (mB2 s1)) 48 (ms.flatMap encM) ms.length i v)
            refine awp_region ?_
            first | refine aops_v rfl rfl rfl (a_fieldAddr rfl fk48_1 rfl rfl ?_) | refine aops_v rfl rfl rfl (a_fieldAddr_pin rfl fk48_1 rfl rfl ?_)
            refine aops_v rfl rfl rfl (a_load rfl tk3 rfl (q1_c hc) rfl ?_)
            refine aops_v rfl rfl rfl (a_int rfl rfl rfl rfl ?_)
            refine aops_v rfl rfl rfl (a_move rfl rfl ?_)
            refine aops_bool (fun h4 => ?_) (fun h4 => ?_)
            · try simp only [zz1, zz2, ne_eq, zz4, zz5, zz6, gt_iff_lt, ge_iff_le, zz9, zz0] at h4
              have ho1 : mOp s1 = 1 := by have := h4; omega
              refine aops_yes rfl rfl rfl rfl ?_
              refine aops_v rfl rfl rfl (a_move rfl rfl ?_)
              refine aops_yes rfl rfl rfl rfl ?_
              first | refine aops_v rfl rfl rfl (a_nilCheck rfl rfl ?_) | refine aops_v rfl rfl rfl (a_nilCheck_pin rfl rfl ?_) | refine aops_v rfl rfl rfl (a_nilCheck_clo rfl rfl ?_)
              refine aops_yes rfl rfl rfl rfl ?_
              first | refine aops_v rfl rfl rfl (a_fieldAddr rfl fk57_0 rfl rfl ?_) | refine aops_v rfl rfl rfl (a_fieldAddr_pin rfl fk57_0 rfl rfl ?_)
              refine aops_yes rfl rfl rfl rfl ?_
              refine aops_v rfl rfl rfl (a_load rfl tk9 rfl (q1_p hk) rfl ?_)
              refine aops_yes rfl rfl rfl rfl ?_
              refine aops_call_eq rfl rfl rfl rfl cf52 rfl (hasPre52_spec _ _ _) ?_
              refine aops_v rfl rfl rfl (a_pick rfl rfl rfl ?_)
              refine aops_nil ?_
              refine thenE_n ?_
              refine awp_cond rfl (fun h5 => ?_) (fun h5 => ?_)
              · try simp only [zz1, zz2, ne_eq, zz4, zz5, zz6, gt_iff_lt, ge_iff_le, zz9, zz0] at h5
                have hpr : hasPre (mS2 s1) [126] = true := h5
                have hge : mGe s1 = true := by simp [mGe, ho1, hpr]
                have hlen := hasPre_len hpr
                simp only [List.length_singleton] at hlen
                refine awp_seq ?_
                refine awp_region ?_
                first | refine aops_v rfl rfl rfl (a_fieldAddr rfl fk48_1 rfl rfl ?_) | refine aops_v rfl rfl rfl (a_fieldAddr_pin rfl fk48_1 rfl rfl ?_)
                refine aops_s rfl rfl (a_store rfl tk3 rfl rfl (q1_c hc) rfl rfl (by first | decide | (simp [stv, AV.cells]; done)) ?_)
                rw [q1_setc hc]
                refine aops_nil ?_
                refine thenE_n ?_
                refine awp_region ?_
                refine aops_v rfl rfl rfl (a_move rfl rfl ?_)
                refine aops_v rfl rfl rfl (a_move rfl rfl ?_)
                first | refine aops_v rfl rfl rfl (a_nilCheck rfl rfl ?_) | refine aops_v rfl rfl rfl (a_nilCheck_pin rfl rfl ?_) | refine aops_v rfl rfl rfl (a_nilCheck_clo rfl rfl ?_)
                first | refine aops_v rfl rfl rfl (a_fieldAddr rfl fk57_0 rfl rfl ?_) | refine aops_v rfl rfl rfl (a_fieldAddr_pin rfl fk57_0 rfl rfl ?_)
                refine aops_v rfl rfl rfl (a_load rfl tk9 rfl (q1_p hk) rfl ?_)
                refine aops_v rfl rfl rfl (a_slice_drop rfl ist9 rfl rfl NT (by omega) (by omega) ?_)
                first | refine aops_v rfl rfl rfl (a_nilCheck rfl rfl ?_) | refine aops_v rfl rfl rfl (a_nilCheck_pin rfl rfl ?_) | refine aops_v rfl rfl rfl (a_nilCheck_clo rfl rfl ?_)
                first | refine aops_v rfl rfl rfl (a_fieldAddr rfl fk57_0 rfl rfl ?_) | refine aops_v rfl rfl rfl (a_fieldAddr_pin rfl fk57_0 rfl rfl ?_)
                refine aops_s rfl rfl (a_store rfl tk9 rfl rfl (q1_p hk) rfl rfl (by first | decide | (simp [stv, AV.cells]; done)) ?_)
                rw [q1_setp hk]
                refine aops_nil ?_
                refine thenE_n ?_
                exact .done ⟨(), trivial, EL, by rw [mOp2, mS3]; simp only [hge, if_true, if_false, Bool.false_eq_true]; try rfl⟩
              · try simp only [zz1, zz2, ne_eq, zz4, zz5, zz6, gt_iff_lt, ge_iff_le, zz9, zz0] at h5
                try (have hge : mGe s1 = false := by simp [mGe, ho1]; exact h5)
                refine awp_skip ?_
                refine thenE_n ?_
                exact .done ⟨(), trivial, EL, by rw [mOp2, mS3]; simp only [hge, if_true, if_false, Bool.false_eq_true]; try rfl⟩
            · try simp only [zz1, zz2, ne_eq, zz4, zz5, zz6, gt_iff_lt, ge_iff_le, zz9, zz0] at h4
              have ho1 : ¬ mOp s1 = 1 := by have := h4; omega
              have hge : mGe s1 = false := by simp [mGe, ho1]
              refine aops_no rfl rfl rfl rfl rfl rfl ?_
              refine aops_no rfl rfl rfl rfl rfl rfl ?_
              refine aops_no rfl rfl rfl rfl rfl rfl ?_
              refine aops_no rfl rfl rfl rfl rfl rfl ?_
              refine aops_no rfl rfl rfl rfl rfl rfl ?_
              refine aops_v rfl rfl rfl (a_pick rfl rfl rfl ?_)
              refine aops_nil ?_
              refine thenE_n ?_
              refine awp_cond (b := false) rfl (fun h => Bool.noConfusion h) (fun _ => ?_)
              refine awp_skip ?_
              refine thenE_n ?_
              exact .done ⟨(), trivial, EL, by rw [mOp2, mS3]; simp only [hge, if_true, if_false, Bool.false_eq_true]; try rfl⟩
          intro _ _
          refine awp_seq ?_
          refine awp_region ?_
          refine aops_v rfl rfl rfl (a_move rfl rfl ?_)
          refine aops_call_eq rfl rfl rfl rfl cf53 rfl (text_spec p (mS3 s1) (mB2 s1) _ (q1_p hk) (by omega)) ?_
          rw [q1_setp hk]
          first | refine aops_v rfl rfl rfl (a_fieldAddr rfl fk48_2 rfl rfl ?_) | refine aops_v rfl rfl rfl (a_fieldAddr_pin rfl fk48_2 rfl rfl ?_)
          refine aops_s rfl rfl (a_store rfl tk9 rfl rfl (q1_c hc) rfl rfl (by first | decide | (simp [stv, AV.cells]; done)) ?_)
          rw [q1_setc hc]
          refine aops_nil ?_
          refine thenE_n ?_
          refine awp_seq ?_
          change AWp _ _ _ _ _ (q1 σ id2 id3 id5 p (.cells 0 26 [nilS, nilS]) (.cells 0 26 [slv 3 (ms.flatMap encM) ms.length i v, nilS]) (.cells 0 48 (encM (mM s1))) (scn (mX s1).2.1 (mX s1).2.2) 48 (ms.flatMap encM) ms.length i v)
          refine awp_region ?_
          first | refine aops_v rfl rfl rfl (a_fieldAddr rfl fk26_0 rfl rfl ?_) | refine aops_v rfl rfl rfl (a_fieldAddr_pin rfl fk26_0 rfl rfl ?_)
          refine aops_v rfl rfl rfl (a_load rfl tk23 rfl (q1_b hk hc) rfl ?_)
          refine aops_v rfl rfl rfl (a_load rfl tk48 rfl (q1_c hc) rfl ?_)
          refine aops_v rfl rfl rfl (a_buildSlice (res := [_, _, _]) rfl sk23 rfl rfl rfl ?_)
          refine aops_v rfl rfl rfl (a_append_slp (acs := encM (mM s1)) rfl sk23 rfl (flat_len encM_len _) rfl (.lst rfl) rfl (by omega) (by simp only [maxLen]; omega) (by omega) (fun h => q1_fi hk hc h) ?_)
          intro i2 v2 hi2
          obtain ⟨hk2, hc2⟩ := q1_grow (m := (ms ++ [mM s1]).length) hk hc hi2
          rw [q1_eq, show ms.length + 1 = (ms ++ [mM s1]).length by simp, flat_snoc encM ms (mM s1)]
          first | refine aops_v rfl rfl rfl (a_fieldAddr rfl fk26_0 rfl rfl ?_) | refine aops_v rfl rfl rfl (a_fieldAddr_pin rfl fk26_0 rfl rfl ?_)
          refine aops_s rfl rfl (a_store_slv (cs2 := [slv 3 ((ms ++ [mM s1]).flatMap encM) (ms ++ [mM s1]).length i2 v2, nilS]) rfl tk23 rfl rfl (q1_b hk2 hc2) (by simp) rfl ?_)
          rw [q1_setb hk2 hc2]
          refine aops_nil ?_
          refine thenE_n ?_
          refine awp_seq ?_
          refine awp_region ?_
          refine aops_v rfl rfl rfl (a_move rfl rfl ?_)
          refine aops_call_eq rfl rfl rfl rfl cf49 rfl (next_spec p (mX s1).2.1 [44] (mX s1).2.2 _ (q1_p hk2)) ?_
          rw [q1_setp hk2]
          refine aops_v rfl rfl rfl (a_assign rfl rfl ?_)
          refine aops_nil ?_
          refine thenE_n ?_
          refine awp_seq ?_
          refine awp_region ?_
          refine aops_v rfl rfl rfl (a_move rfl rfl ?_)
          refine aops_v rfl rfl rfl (a_not rfl rfl ?_)
          refine aops_v rfl rfl rfl (a_move rfl rfl ?_)
          refine aops_bool (fun h6 => ?_) (fun h6 => ?_)
          · try simp only [zz1, zz2, ne_eq, zz4, zz5, zz6, gt_iff_lt, ge_iff_le, zz9, zz0] at h6
            have hm : mMore s1 = false := by unfold mMore; simpa using h6
            refine aops_yes rfl rfl rfl rfl ?_
            refine aops_v rfl rfl rfl (a_move rfl rfl ?_)
            refine aops_yes rfl rfl rfl rfl ?_
            refine aops_call_eq rfl rfl rfl rfl cf49 rfl (next_spec p (mS5 s1) [125] (mX s1).2.2 _ (q1_p hk2)) ?_
            rw [q1_setp hk2]
            refine aops_yes rfl rfl rfl rfl ?_
            refine aops_v rfl rfl rfl (a_not rfl rfl ?_)
            refine aops_v rfl rfl rfl (a_pick rfl rfl rfl ?_)
            refine aops_nil ?_
            refine thenE_n ?_
            refine awp_cond rfl (fun h7 => ?_) (fun h7 => ?_)
            · try simp only [zz1, zz2, ne_eq, zz4, zz5, zz6, gt_iff_lt, ge_iff_le, zz9, zz0] at h7
              have hcl : hasPre (trimL 32 (mS5 s1)) [125] = false := by simpa using h7
              have e1 : mOne s1 = (nxt (mS5 s1) [125], true) := by simp [mOne, hm, hcl]
              refine awp_region ?_
              refine aops_v rfl rfl rfl (a_move rfl rfl ?_)
              first | refine aops_v rfl rfl rfl (a_nilCheck rfl rfl ?_) | refine aops_v rfl rfl rfl (a_nilCheck_pin rfl rfl ?_) | refine aops_v rfl rfl rfl (a_nilCheck_clo rfl rfl ?_)
              first | refine aops_v rfl rfl rfl (a_fieldAddr rfl fk57_1 rfl rfl ?_) | refine aops_v rfl rfl rfl (a_fieldAddr_pin rfl fk57_1 rfl rfl ?_)
              refine aops_s rfl rfl (a_store rfl tk4 rfl rfl (q1_p hk2) rfl rfl (by first | decide | (simp [stv, AV.cells]; done)) ?_)
              rw [q1_setp hk2]
              refine aops_nil ?_
              refine blockE_n ?_
              refine thenE_n ?_
              refine q1_drop hk2 hc2 ?_
              have hol := mOne_len s1
              rw [e1] at hol
              dsimp only at hol
              exact .done ⟨(nxt (mS5 s1) [125], true, mMore s1, ms ++ [mM s1], (i2, v2)), ⟨by dsimp only; rw [← hJ, msL_go, e1], hk2, by dsimp only; simp at hn ⊢; omega⟩, by dsimp only; simp, EL, rfl⟩
            · try simp only [zz1, zz2, ne_eq, zz4, zz5, zz6, gt_iff_lt, ge_iff_le, zz9, zz0] at h7
              have hcl : hasPre (trimL 32 (mS5 s1)) [125] = true := by simpa using h7
              have e1 : mOne s1 = (nxt (mS5 s1) [125], (mX s1).2.2) := by simp [mOne, hm, hcl]
              refine awp_skip ?_
              refine blockE_n ?_
              refine thenE_n ?_
              refine q1_drop hk2 hc2 ?_
              have hol := mOne_len s1
              rw [e1] at hol
              dsimp only at hol
              exact .done ⟨(nxt (mS5 s1) [125], (mX s1).2.2, mMore s1, ms ++ [mM s1], (i2, v2)), ⟨by dsimp only; rw [← hJ, msL_go, e1], hk2, by dsimp only; simp at hn ⊢; split <;> first | omega | (have := hol.2 (bF (by assumption)); omega)⟩, by dsimp only; simp only [Bool.false_eq_true, if_false]; split <;> first | omega | (have := hol.2 (bF (by assumption)); omega), EL, rfl⟩
          · try simp only [zz1, zz2, ne_eq, zz4, zz5, zz6, gt_iff_lt, ge_iff_le, zz9, zz0] at h6
            have hm : mMore s1 = true := by unfold mMore; simpa using h6
            have e1 : mOne s1 = (mS5 s1, (mX s1).2.2) := by rw [mOne, if_pos hm]
            refine aops_no rfl rfl rfl rfl rfl rfl ?_
            refine aops_no rfl rfl rfl rfl rfl rfl ?_
            refine aops_no rfl rfl rfl rfl rfl rfl ?_
            refine aops_v rfl rfl rfl (a_pick rfl rfl rfl ?_)
            refine aops_nil ?_
            refine thenE_n ?_
            refine awp_cond (b := false) rfl (fun h => Bool.noConfusion h) (fun _ => ?_)
            refine awp_skip ?_
            refine blockE_n ?_
            refine thenE_n ?_
            refine q1_drop hk2 hc2 ?_
            have hol := mOne_len s1
            rw [e1] at hol
            dsimp only at hol
            exact .done ⟨(mS5 s1, (mX s1).2.2, mMore s1, ms ++ [mM s1], (i2, v2)), ⟨by dsimp only; rw [← hJ, msL_go, e1], hk2, by dsimp only; simp at hn ⊢; split <;> first | omega | (have := hol.2 (bF (by assumption)); omega)⟩, by dsimp only; simp only [Bool.false_eq_true, if_false]; split <;> first | omega | (have := hol.2 (bF (by assumption)); omega), EL, rfl⟩
      · try simp only [zz1, zz2, ne_eq, zz4, zz5, zz6, gt_iff_lt, ge_iff_le, zz9, zz0] at h2
        have hbd : bad = true := h2
        refine awp_exit ?_
        refine thenE_x ?_
        refine thenE_x ?_
        refine blockE_x ?_
        refine thenE_n ?_
        rw [msL_no (by simp [*])] at hJ
        refine q0_frz 3 (flat_len encM_len _) hk (Y := [.lst (ms.flatMap encM) ms.length false, nilS]) (.cons .sl (.cons (.refl _) .nil)) ?_
        exact .done ⟨(), trivial, EL, by rw [← hJ]; rfl⟩
    · try simp only [zz1, zz2, ne_eq, zz4, zz5, zz6, gt_iff_lt, ge_iff_le, zz9, zz0] at h1
      obtain rfl : more = false := h1
      refine aops_no rfl rfl rfl rfl rfl rfl ?_
      refine aops_no rfl rfl rfl rfl rfl rfl ?_
      refine aops_no rfl rfl rfl rfl rfl rfl ?_
      refine aops_no rfl rfl rfl rfl rfl rfl ?_
      refine aops_no rfl rfl rfl rfl rfl rfl ?_
      refine aops_v rfl rfl rfl (a_pick rfl rfl rfl ?_)
      refine aops_nil ?_
      refine thenE_n ?_
      refine awp_cond (b := false) rfl (fun h => Bool.noConfusion h) (fun _ => ?_)
      refine awp_exit ?_
      refine thenE_x ?_
      refine thenE_x ?_
      refine blockE_x ?_
      refine thenE_n ?_
      rw [msL_no (by simp [*])] at hJ
      refine q0_frz 3 (flat_len encM_len _) hk (Y := [.lst (ms.flatMap encM) ms.length false, nilS]) (.cons .sl (.cons (.refl _) .nil)) ?_
      exact .done ⟨(), trivial, EL, by rw [← hJ]; rfl⟩
  intro _ _
  refine awp_seq ?_
  refine awp_block ?_
  refine awp_loop (S := List UInt8 × Bool × List Fl × (Nat × Nat)) (fun x => [(0, .ref p 0 0), (2, .ref id2 0 0), (3, .ref id3 0 0)]) (fun x => q0 σ id2 id3 p (.cells 0 26 [nilS, nilS]) (.cells 0 26 [.lst ((qMs s).1.flatMap encM) (qMs s).1.length false, slv 2 (x.2.2.1.flatMap encF) x.2.2.1.length x.2.2.2.1 x.2.2.2.2]) (scn x.1 x.2.1) 50 (x.2.2.1.flatMap encF) x.2.2.1.length x.2.2.2.1 x.2.2.2.2) (fun x => fsL x.1 x.2.1 x.2.2.1 = qFs s ∧ QK σ id2 id3 p x.2.2.1.length x.2.2.2.1 ∧ x.2.2.1.length + x.1.length + (if x.2.1 = true then 0 else 1) ≤ 513) (fun x => if x.2.1 = true then 0 else x.1.length + 1) ⟨((qMs s).2.1, (qMs s).2.2, [], (0, 0)), ⟨rfl, hk0, by dsimp only; split <;> simp <;> omega⟩, EL, rfl⟩ ?_
  rintro ⟨s1, bad, fs, ⟨i, v⟩⟩ ⟨hJ, hk, hn⟩
  dsimp only at hJ hk hn
  dsimp only
  refine awp_seq ?_
  refine awp_seq ?_
  refine awp_region ?_
  refine aops_v rfl rfl rfl (a_move rfl rfl ?_)
  first | refine aops_v rfl rfl rfl (a_nilCheck rfl rfl ?_) | refine aops_v rfl rfl rfl (a_nilCheck_pin rfl rfl ?_) | refine aops_v rfl rfl rfl (a_nilCheck_clo rfl rfl ?_)
  first | refine aops_v rfl rfl rfl (a_fieldAddr rfl fk57_1 rfl rfl ?_) | refine aops_v rfl rfl rfl (a_fieldAddr_pin rfl fk57_1 rfl rfl ?_)
  refine aops_v rfl rfl rfl (a_load rfl tk4 rfl (q0_p hk) rfl ?_)
  refine aops_v rfl rfl rfl (a_not rfl rfl ?_)
  refine aops_v rfl rfl rfl (a_move rfl rfl ?_)
  refine aops_bool (fun h8 => ?_) (fun h8 => ?_)
  · try simp only [zz1, zz2, ne_eq, zz4, zz5, zz6, gt_iff_lt, ge_iff_le, zz9, zz0] at h8
    obtain rfl : bad = false := by simpa using h8
    simp only [Bool.false_eq_true, if_false] at hn
    refine aops_yes rfl rfl rfl rfl ?_
    refine aops_v rfl rfl rfl (a_move rfl rfl ?_)
    refine aops_yes rfl rfl rfl rfl ?_
    first | refine aops_v rfl rfl rfl (a_nilCheck rfl rfl ?_) | refine aops_v rfl rfl rfl (a_nilCheck_pin rfl rfl ?_) | refine aops_v rfl rfl rfl (a_nilCheck_clo rfl rfl ?_)
    refine aops_yes rfl rfl rfl rfl ?_
    first | refine aops_v rfl rfl rfl (a_fieldAddr rfl fk57_0 rfl rfl ?_) | refine aops_v rfl rfl rfl (a_fieldAddr_pin rfl fk57_0 rfl rfl ?_)
    refine aops_yes rfl rfl rfl rfl ?_
    refine aops_v rfl rfl rfl (a_load rfl tk9 rfl (q0_p hk) rfl ?_)
    refine aops_yes rfl rfl rfl rfl ?_
    refine aops_call_eq rfl rfl rfl rfl cf54 rfl (trim_spec _ _ (by omega)) ?_
    refine aops_yes rfl rfl rfl rfl ?_
    refine aops_v rfl rfl rfl (a_str rfl rfl rfl rfl ?_)
    refine aops_v rfl rfl rfl (a_pick rfl rfl rfl ?_)
    refine aops_nil ?_
    refine thenE_n ?_
    refine awp_cond rfl (fun h9 => ?_) (fun h9 => ?_)
    · try simp only [zz1, zz2, ne_eq, zz4, zz5, zz6, gt_iff_lt, ge_iff_le, zz9, zz0] at h9
      have hgo : fsGo s1 false = true := by simp [fsGo]; simpa using h9
      refine awp_skip ?_
      refine thenE_n ?_
      refine awp_block ?_
      refine awp_seq ?_
      refine awp_region ?_
      refine aops_v rfl rfl rfl (a_move rfl rfl ?_)
      refine aops_v rfl rfl rfl (a_buildSlice (res := [_, _, _, _]) rfl sk62 rfl rfl rfl ?_)
      refine aops_call_eq rfl rfl rfl rfl cf51 rfl (op_spec p s1 fSigns false (by decide) _ (q0_p hk) (by decide)) ?_
      rw [q0_setp hk]
      refine aops_v rfl rfl rfl (a_build (res := [_, _]) rfl bk50 rfl rfl ?_)
      refine aops_var rfl rfl rfl rfl rfl rfl rfl tk50 zk50 rfl rfl rfl rfl rfl ?_
      intro id6 hid6
      refine aops_nil ?_
      refine thenE_n ?_
      refine awp_seq ?_
      obtain ⟨hc, hq⟩ := q0_new hk hid6
      rw [hq]
      have hf1 := fS1_len s1
      change AWp _ _ _ _ _ (q1 σ id2 id3 id6 p (.cells 0 26 [nilS, nilS]) (.cells 0 26 [.lst ((qMs s).1.flatMap encM) (qMs s).1.length false, slv 2 (fs.flatMap encF) fs.length i v]) (.cells 0 50 [int (fOp s1), str []]) (scn (fS1 s1) (decide (fOp s1 = 0))) 50 (fs.flatMap encF) fs.length i v)
      refine awp_region ?_
      refine aops_v rfl rfl rfl (a_move rfl rfl ?_)
      refine aops_call_eq rfl rfl rfl rfl cf53 rfl (text_spec p (fS1 s1) (decide (fOp s1 = 0)) _ (q1_p hk) (by omega)) ?_
      rw [q1_setp hk]
      first | refine aops_v rfl rfl rfl (a_fieldAddr rfl fk50_1 rfl rfl ?_) | refine aops_v rfl rfl rfl (a_fieldAddr_pin rfl fk50_1 rfl rfl ?_)
      refine aops_s rfl rfl (a_store rfl tk9 rfl rfl (q1_c hc) rfl rfl (by first | decide | (simp [stv, AV.cells]; done)) ?_)
      rw [q1_setc hc]
      refine aops_nil ?_
      refine thenE_n ?_
      change AWp _ _ _ _ _ (q1 σ id2 id3 id6 p (.cells 0 26 [nilS, nilS]) (.cells 0 26 [.lst ((qMs s).1.flatMap encM) (qMs s).1.length false, slv 2 (fs.flatMap encF) fs.length i v]) (.cells 0 50 (encF (fF s1))) (scn (fX s1).2.1 (fX s1).2.2) 50 (fs.flatMap encF) fs.length i v)
      refine awp_region ?_
      first | refine aops_v rfl rfl rfl (a_fieldAddr rfl fk26_1 rfl rfl ?_) | refine aops_v rfl rfl rfl (a_fieldAddr_pin rfl fk26_1 rfl rfl ?_)
      refine aops_v rfl rfl rfl (a_load rfl tk24 rfl (q1_b hk hc) rfl ?_)
      refine aops_v rfl rfl rfl (a_load rfl tk50 rfl (q1_c hc) rfl ?_)
      refine aops_v rfl rfl rfl (a_buildSlice (res := [_, _]) rfl sk24 rfl rfl rfl ?_)
      refine aops_v rfl rfl rfl (a_append_slp (acs := encF (fF s1)) rfl sk24 rfl (flat_len encF_len _) rfl (.lst rfl) rfl (by omega) (by simp only [maxLen]; omega) (by omega) (fun h => q1_fi hk hc h) ?_)
      intro i2 v2 hi2
      obtain ⟨hk2, hc2⟩ := q1_grow (m := (fs ++ [fF s1]).length) hk hc hi2
      rw [q1_eq, show fs.length + 1 = (fs ++ [fF s1]).length by simp, flat_snoc encF fs (fF s1)]
      first | refine aops_v rfl rfl rfl (a_fieldAddr rfl fk26_1 rfl rfl ?_) | refine aops_v rfl rfl rfl (a_fieldAddr_pin rfl fk26_1 rfl rfl ?_)
      refine aops_s rfl rfl (a_store_slv (cs2 := [.lst ((qMs s).1.flatMap encM) (qMs s).1.length false, slv 2 ((fs ++ [fF s1]).flatMap encF) (fs ++ [fF s1]).length i2 v2]) rfl tk24 rfl rfl (q1_b hk2 hc2) (by simp) rfl ?_)
      rw [q1_setb hk2 hc2]
      refine aops_nil ?_
      refine blockE_n ?_
      refine thenE_n ?_
      refine q1_drop hk2 hc2 ?_
      have hol := fX_len s1
      exact .done ⟨((fX s1).2.1, (fX s1).2.2, fs ++ [fF s1], (i2, v2)), ⟨by dsimp only; rw [← hJ, fsL_go hgo], hk2, by dsimp only; simp at hn ⊢; split <;> first | omega | (have := hol.2.2 (bF (by assumption)); omega)⟩, by dsimp only; simp only [Bool.false_eq_true, if_false]; split <;> first | omega | (have := hol.2.2 (bF (by assumption)); omega), EL, rfl⟩
    · try simp only [zz1, zz2, ne_eq, zz4, zz5, zz6, gt_iff_lt, ge_iff_le, zz9, zz0] at h9
      try (have hno : fsGo s1 false = false := by simp [fsGo]; simpa using h9)
      refine awp_exit ?_
      refine thenE_x ?_
      refine thenE_x ?_
      refine blockE_x ?_
      refine thenE_n ?_
      refine awp_seq ?_
      rw [fsL_no hno] at hJ
      refine AWp.ghost (q0_frz 2 (flat_len encF_len _) hk (Y := [.lst ((qMs s).1.flatMap encM) (qMs s).1.length false, .lst (fs.flatMap encF) fs.length false]) (.cons (.refl _) (.cons .sl .nil)) (.done ?_))
      refine awp_region ?_
      refine aops_v rfl rfl rfl (a_load rfl tk26 rfl (by rw [upd_ne _ _ hk.bp]; exact upd_same _ _ _) rfl ?_)
      refine aops_s rfl rfl (a_store rfl tk26 rfl rfl (by rw [upd_ne _ _ hk.ap, upd_ne _ _ hk.ab]; exact upd_same _ _ _) rfl rfl (by first | decide | (simp [stv, AV.cells]; done)) ?_)
      rw [q_ret hk.ab hk.ap]
      refine aops_nil ?_
      refine thenE_n ?_
      refine awp_ret ?_
      change Gst _ _ _ _
      refine gst_pin1 (ta := 2) rfl (by rw [upd_ne _ _ hk.ap, upd_ne _ _ hk.ab]; exact hk.fa) ?_
      refine gst_sub _ (q_sub hk.fb hk.bp) ?_
      refine finc1 rfl (by first | exact .cell rfl tk26 HP rfl | exact .pin rfl tk26 rfl) ?_
      exact ⟨by rw [encQ, qQ, ← hJ]; rfl, by rw [← hJ]⟩
  · try simp only [zz1, zz2, ne_eq, zz4, zz5, zz6, gt_iff_lt, ge_iff_le, zz9, zz0] at h8
    obtain rfl : bad = true := by simpa using h8
    have hno : fsGo s1 true = false := rfl
    refine aops_no rfl rfl rfl rfl rfl rfl ?_
    refine aops_no rfl rfl rfl rfl rfl rfl ?_
    refine aops_no rfl rfl rfl rfl rfl rfl ?_
    refine aops_no rfl rfl rfl rfl rfl rfl ?_
    refine aops_no rfl rfl rfl rfl rfl rfl ?_
    refine aops_no rfl rfl rfl rfl rfl rfl ?_
    refine aops_v rfl rfl rfl (a_pick rfl rfl rfl ?_)
    refine aops_nil ?_
    refine thenE_n ?_
    refine awp_cond (b := false) rfl (fun h => Bool.noConfusion h) (fun _ => ?_)
    refine awp_exit ?_
    refine thenE_x ?_
    refine thenE_x ?_
    refine blockE_x ?_
    refine thenE_n ?_
    refine awp_seq ?_
    rw [fsL_no hno] at hJ
    refine AWp.ghost (q0_frz 2 (flat_len encF_len _) hk (Y := [.lst ((qMs s).1.flatMap encM) (qMs s).1.length false, .lst (fs.flatMap encF) fs.length false]) (.cons (.refl _) (.cons .sl .nil)) (.done ?_))
    refine awp_region ?_
    refine aops_v rfl rfl rfl (a_load rfl tk26 rfl (by rw [upd_ne _ _ hk.bp]; exact upd_same _ _ _) rfl ?_)
    refine aops_s rfl rfl (a_store rfl tk26 rfl rfl (by rw [upd_ne _ _ hk.ap, upd_ne _ _ hk.ab]; exact upd_same _ _ _) rfl rfl (by first | decide | (simp [stv, AV.cells]; done)) ?_)
    rw [q_ret hk.ab hk.ap]
    refine aops_nil ?_
    refine thenE_n ?_
    refine awp_ret ?_
    change Gst _ _ _ _
    refine gst_pin1 (ta := 2) rfl (by rw [upd_ne _ _ hk.ap, upd_ne _ _ hk.ab]; exact hk.fa) ?_
    refine gst_sub _ (q_sub hk.fb hk.bp) ?_
    refine finc1 rfl (by first | exact .cell rfl tk26 HP rfl | exact .pin rfl tk26 rfl) ?_
    exact ⟨by rw [encQ, qQ, ← hJ]; rfl, by rw [← hJ]⟩

end Go.Proofs.YtnahdpjbddfhgaaGreatDoor
set_option linter.unusedVariables false
set_option linter.unusedSimpArgs false
namespace Go.Proofs.YtnahdpjbddfhgaaGreatDoor
open Go Go.AL
set_option maxRecDepth 100000
/-- query.Parse -/
def parseP (s : List UInt8) : Qr × Int :=
  if 512 < s.length then (⟨[], []⟩, 4) else if Lib.validD s = false then (⟨[], []⟩, 8) else if (qFs s).2.2 = true then (⟨[], []⟩, 50) else if checkP (qQ s) ≠ 0 then (⟨[], []⟩, checkP (qQ s)) else (qQ s, 0)
def parseA (s : List UInt8) : AV := .agg (if (parseP s).2 = 0 then encQ (parseP s).1 false false else [nilS, nilS])
theorem parse_no {s : List UInt8} {c : Int} (h : (parseP s).2 = c) (hc : c ≠ 0) : AEnd.ret (.tup [parseA s, int (parseP s).2]) = .ret (.tup [.agg [nilS, nilS], int c]) := by
  unfold parseA; rw [h, if_neg hc]
theorem parse_ok {s : List UInt8} (h : (parseP s).2 = 0) : checkP (parseP s).1 = 0 ∧ QrOk (parseP s).1 ∧ (∀ m ∈ (parseP s).1.ms, m.name.length ≤ 10000000) ∧ s.length ≤ 512 := by
  unfold parseP at h ⊢
  split at h
  · exact absurd h (by decide)
  rename_i h1
  rw [if_neg h1]
  split at h
  · exact absurd h (by decide)
  rename_i h2
  rw [if_neg h2]
  split at h
  · exact absurd h (by decide)
  rename_i h3
  rw [if_neg h3]
  split at h
  · rename_i h4; exact absurd h h4
  rename_i h4
  rw [if_neg h4]
  obtain ⟨g1, g2⟩ := qQ_ok (s := s) (by omega)
  exact ⟨by simpa using h4, g1, g2, by omega⟩

theorem parse_spec (s : List UInt8) (σ : AHeap)  : ASpec Tryz.prog 9 [str s] σ fun r σ' => r = .ret (.tup [parseA s, int (parseP s).2]) ∧ σ' = σ := by
  refine aspec_enter_c (N := 34) (rs := [.cell 2 26, .tmp 3]) Tryz.func9 rfl rfl rfl rfl rfl ?_
  refine awp_seq ?_
  refine awp_region ?_
  refine aops_v rfl rfl rfl (a_alloc rfl zk26 ?_)
  intro id2 hid2
  refine aops_v rfl rfl rfl (a_assign rfl rfl ?_)
  refine aops_nil ?_
  refine thenE_n ?_
  refine awp_seq ?_
  refine awp_block ?_
  refine awp_seq ?_
  refine awp_region ?_
  refine aops_v rfl rfl rfl (a_move rfl rfl ?_)
  refine aops_v rfl rfl rfl (a_len_str rfl ist9 rfl ?_)
  refine aops_v rfl rfl rfl (a_int rfl rfl rfl rfl ?_)
  refine aops_v rfl rfl rfl (a_assign rfl rfl ?_)
  refine aops_nil ?_
  refine thenE_n ?_
  refine awp_cond rfl (fun h1 => ?_) (fun h1 => ?_)
  · try simp only [zz1, zz2, ne_eq, zz4, zz5, zz6, gt_iff_lt, ge_iff_le, zz9, zz0] at h1
    have h4 := h1
    have hp : (parseP s).2 = 4 := by rw [parseP, if_pos (by omega)]
    refine awp_seq ?_
    refine awp_region ?_
    refine aops_v rfl rfl rfl (a_build (res := [_, _]) rfl bk26 rfl rfl ?_)
    first | refine aops_s rfl rfl (a_store_n (cs2 := [_, _]) rfl tk26 rfl rfl HP rfl rfl (by first | decide | (simp; done) | (simp; omega)) rfl ?_) | refine aops_s rfl rfl (a_store rfl tk26 rfl rfl HP rfl rfl (by first | decide | (simp [stv, AV.cells]; done) | (simp [stv, AV.cells]; omega)) ?_)
    refine aops_v rfl rfl rfl (a_assign rfl rfl ?_)
    refine aops_nil ?_
    refine thenE_n ?_
    refine awp_ret ?_
    change Gst _ _ _ _
    rw [upd_upd]
    refine gst_pin1 (ta := 2) rfl hid2 ?_
    refine finc2 rfl (by first | exact .cell rfl tk26 HP rfl | exact .pin rfl tk26 rfl) (.tmp rfl) ?_
    exact ⟨by rw [parse_no hp (by decide)]; rfl, rfl⟩
  · try simp only [zz1, zz2, ne_eq, zz4, zz5, zz6, gt_iff_lt, ge_iff_le, zz9, zz0] at h1
    have h4 := h1
    have hlen : s.length ≤ 512 := by omega
    have g4 : ¬ 512 < s.length := by omega
    refine awp_seq ?_
    refine awp_region ?_
    refine aops_v rfl rfl rfl (a_move rfl rfl ?_)
    refine aops_call_eq rfl rfl rfl rfl cf19 rfl (valid_spec _ _ (by omega)) ?_
    refine aops_v rfl rfl rfl (a_not rfl rfl ?_)
    refine aops_v rfl rfl rfl (a_assign rfl rfl ?_)
    refine aops_nil ?_
    refine thenE_n ?_
    refine awp_cond rfl (fun h2 => ?_) (fun h2 => ?_)
    · try simp only [zz1, zz2, ne_eq, zz4, zz5, zz6, gt_iff_lt, ge_iff_le, zz9, zz0] at h2
      have g8 : Lib.validD s = false := h2
      have hp : (parseP s).2 = 8 := by rw [parseP, if_neg g4, if_pos g8]
      refine awp_seq ?_
      refine awp_region ?_
      refine aops_v rfl rfl rfl (a_build (res := [_, _]) rfl bk26 rfl rfl ?_)
      first | refine aops_s rfl rfl (a_store_n (cs2 := [_, _]) rfl tk26 rfl rfl HP rfl rfl (by first | decide | (simp; done) | (simp; omega)) rfl ?_) | refine aops_s rfl rfl (a_store rfl tk26 rfl rfl HP rfl rfl (by first | decide | (simp [stv, AV.cells]; done) | (simp [stv, AV.cells]; omega)) ?_)
      refine aops_v rfl rfl rfl (a_assign rfl rfl ?_)
      refine aops_nil ?_
      refine thenE_n ?_
      refine awp_ret ?_
      change Gst _ _ _ _
      rw [upd_upd]
      refine gst_pin1 (ta := 2) rfl hid2 ?_
      refine finc2 rfl (by first | exact .cell rfl tk26 HP rfl | exact .pin rfl tk26 rfl) (.tmp rfl) ?_
      exact ⟨by rw [parse_no hp (by decide)]; rfl, rfl⟩
    · try simp only [zz1, zz2, ne_eq, zz4, zz5, zz6, gt_iff_lt, ge_iff_le, zz9, zz0] at h2
      have g8 : ¬ Lib.validD s = false := by rw [h2]; simp
      refine awp_skip ?_
      refine blockE_n ?_
      refine thenE_n ?_
      refine awp_seq ?_
      refine awp_region ?_
      refine aops_v rfl rfl rfl (a_move rfl rfl ?_)
      refine aops_v rfl rfl rfl (a_build (res := [_, _]) rfl bk57 rfl rfl ?_)
      refine aops_v rfl rfl rfl (a_box rfl rfl rfl ?_)
      intro id19 hid19
      refine aops_v rfl rfl rfl (a_assign rfl rfl ?_)
      refine aops_nil ?_
      refine thenE_n ?_
      refine awp_seq ?_
      obtain ⟨hne, hid19b⟩ := ne_of_upd hid19
      obtain ⟨hqo, hqn⟩ := qQ_ok hlen
      refine awp_region ?_
      refine aops_v rfl rfl rfl (a_move rfl rfl ?_)
      refine aops_call_eq rfl rfl rfl rfl cf20 rfl (query_spec id19 s _ (upd_same _ _ _) hlen) ?_
      refine aops_var_frz rfl rfl rfl rfl rfl rfl rfl tk26 zk26 rfl rfl rfl rfl rfl ?_
      refine aops_nil ?_
      refine thenE_n ?_
      refine awp_seq ?_
      refine awp_seq ?_
      refine awp_region ?_
      refine aops_v rfl rfl rfl (a_move rfl rfl ?_)
      first | refine aops_v rfl rfl rfl (a_nilCheck rfl rfl ?_) | refine aops_v rfl rfl rfl (a_nilCheck_pin rfl rfl ?_) | refine aops_v rfl rfl rfl (a_nilCheck_clo rfl rfl ?_)
      first | refine aops_v rfl rfl rfl (a_fieldAddr rfl fk57_1 rfl rfl ?_) | refine aops_v rfl rfl rfl (a_fieldAddr_pin rfl fk57_1 rfl rfl ?_)
      first | refine aops_v rfl rfl rfl (a_load_pin rfl tk4 rfl rfl ?_) | refine aops_v rfl rfl rfl (a_load rfl tk4 rfl HP rfl ?_)
      refine aops_nil ?_
      refine thenE_n ?_
      refine awp_cond rfl (fun h3 => ?_) (fun h3 => ?_)
      · try simp only [zz1, zz2, ne_eq, zz4, zz5, zz6, gt_iff_lt, ge_iff_le, zz9, zz0] at h3
        have g5 : (qFs s).2.2 = true := h3
        have hp : (parseP s).2 = 50 := by rw [parseP, if_neg g4, if_neg g8, if_pos g5]
        refine awp_seq ?_
        refine awp_region ?_
        refine aops_v rfl rfl rfl (a_build (res := [_, _]) rfl bk26 rfl rfl ?_)
        first | refine aops_s rfl rfl (a_store_n (cs2 := [_, _]) rfl tk26 rfl rfl HP rfl rfl (by first | decide | (simp; done) | (simp; omega)) rfl ?_) | refine aops_s rfl rfl (a_store rfl tk26 rfl rfl HP rfl rfl (by first | decide | (simp [stv, AV.cells]; done) | (simp [stv, AV.cells]; omega)) ?_)
        refine aops_v rfl rfl rfl (a_assign rfl rfl ?_)
        refine aops_nil ?_
        refine thenE_n ?_
        refine awp_ret ?_
        change Gst _ _ _ _
        rw [upd_upd, upd_in hne]
        refine gst_sub (upd σ id2 (.cells 0 26 [nilS, nilS])) (fun k o hk => by rw [upd_ne _ _ (fun e => by rw [e, upd_ne _ _ hne.symm, hid19b] at hk; exact absurd hk (by simp))]; exact hk) ?_
        refine gst_pin1 (ta := 2) rfl hid2 ?_
        refine finc2 rfl (by first | exact .cell rfl tk26 HP rfl | exact .pin rfl tk26 rfl) (.tmp rfl) ?_
        exact ⟨by rw [parse_no hp (by decide)]; rfl, rfl⟩
      · try simp only [zz1, zz2, ne_eq, zz4, zz5, zz6, gt_iff_lt, ge_iff_le, zz9, zz0] at h3
        have g5 : ¬ (qFs s).2.2 = true := by rw [h3]; simp
        refine awp_skip ?_
        refine thenE_n ?_
        refine awp_seq ?_
        refine awp_seq ?_
        refine awp_region ?_
        first | refine aops_v rfl rfl rfl (a_load_pin rfl tk26 rfl rfl ?_) | refine aops_v rfl rfl rfl (a_load rfl tk26 rfl HP rfl ?_)
        refine aops_call_eq rfl rfl rfl rfl cf15 rfl (check_spec (qQ s) false false _ hqo) ?_
        refine aops_v rfl rfl rfl (a_assign rfl rfl ?_)
        refine aops_nil ?_
        refine thenE_n ?_
        refine awp_seq ?_
        refine awp_region ?_
        refine aops_v rfl rfl rfl (a_move rfl rfl ?_)
        refine aops_v rfl rfl rfl (a_int rfl rfl rfl rfl ?_)
        refine aops_nil ?_
        refine thenE_n ?_
        refine awp_cond rfl (fun h4 => ?_) (fun h4 => ?_)
        · try simp only [zz1, zz2, ne_eq, zz4, zz5, zz6, gt_iff_lt, ge_iff_le, zz9, zz0] at h4
          have g6 : ¬ checkP (qQ s) = 0 := h4
          have hp : (parseP s).2 = checkP (qQ s) := by rw [parseP, if_neg g4, if_neg g8, if_neg g5, if_pos g6]
          refine awp_seq ?_
          refine awp_region ?_
          refine aops_v rfl rfl rfl (a_build (res := [_, _]) rfl bk26 rfl rfl ?_)
          refine aops_v rfl rfl rfl (a_move rfl rfl ?_)
          first | refine aops_s rfl rfl (a_store_n (cs2 := [_, _]) rfl tk26 rfl rfl HP rfl rfl (by first | decide | (simp; done) | (simp; omega)) rfl ?_) | refine aops_s rfl rfl (a_store rfl tk26 rfl rfl HP rfl rfl (by first | decide | (simp [stv, AV.cells]; done) | (simp [stv, AV.cells]; omega)) ?_)
          refine aops_v rfl rfl rfl (a_assign rfl rfl ?_)
          refine aops_nil ?_
          refine thenE_n ?_
          refine awp_ret ?_
          change Gst _ _ _ _
          rw [upd_upd, upd_in hne]
          refine gst_sub (upd σ id2 (.cells 0 26 [nilS, nilS])) (fun k o hk => by rw [upd_ne _ _ (fun e => by rw [e, upd_ne _ _ hne.symm, hid19b] at hk; exact absurd hk (by simp))]; exact hk) ?_
          refine gst_pin1 (ta := 2) rfl hid2 ?_
          refine finc2 rfl (by first | exact .cell rfl tk26 HP rfl | exact .pin rfl tk26 rfl) (.tmp rfl) ?_
          exact ⟨by rw [parse_no hp g6]; rfl, rfl⟩
        · try simp only [zz1, zz2, ne_eq, zz4, zz5, zz6, gt_iff_lt, ge_iff_le, zz9, zz0] at h4
          have g6 : checkP (qQ s) = 0 := h4
          have hp : parseP s = (qQ s, 0) := by rw [parseP, if_neg g4, if_neg g8, if_neg g5, if_neg (by rw [g6]; simp)]
          refine awp_skip ?_
          refine thenE_n ?_
          refine awp_seq ?_
          refine awp_region ?_
          first | refine aops_v rfl rfl rfl (a_load_pin rfl tk26 rfl rfl ?_) | refine aops_v rfl rfl rfl (a_load rfl tk26 rfl HP rfl ?_)
          first | refine aops_s rfl rfl (a_store_n (cs2 := [_, _]) rfl tk26 rfl rfl HP rfl rfl (by first | decide | (simp; done) | (simp; omega)) rfl ?_) | refine aops_s rfl rfl (a_store rfl tk26 rfl rfl HP rfl rfl (by first | decide | (simp [stv, AV.cells]; done) | (simp [stv, AV.cells]; omega)) ?_)
          refine aops_v rfl rfl rfl (a_assign rfl rfl ?_)
          refine aops_nil ?_
          refine thenE_n ?_
          refine awp_ret ?_
          change Gst _ _ _ _
          rw [upd_upd, upd_in hne]
          refine gst_sub (upd σ id2 (.cells 0 26 (encQ (qQ s) false false))) (fun k o hk => by rw [upd_ne _ _ (fun e => by rw [e, upd_ne _ _ hne.symm, hid19b] at hk; exact absurd hk (by simp))]; exact hk) ?_
          refine gst_pin1 (ta := 2) rfl hid2 ?_
          refine finc2 rfl (by first | exact .cell rfl tk26 HP rfl | exact .pin rfl tk26 rfl) (.tmp rfl) ?_
          exact ⟨by unfold parseA; rw [hp]; rfl, rfl⟩

end Go.Proofs.YtnahdpjbddfhgaaGreatDoor
set_option linter.unusedVariables false
set_option linter.unusedSimpArgs false
namespace Go.Proofs.YtnahdpjbddfhgaaGreatDoor
open Go Go.AL
set_option maxRecDepth 100000

/-- what the laws try first -/
def aw1 : List UInt8 := [32, 123, 97, 112, 112, 61, 34, 119, 101, 98, 34, 44, 32, 101, 110, 118, 33, 126, 34, 100, 101, 118, 124, 116, 101, 115, 116, 34, 125, 32, 124, 61, 32, 34, 101, 114, 114, 34, 32]
def aw2 : List UInt8 := [123, 125, 32, 124, 126, 32, 34, 42, 34]
def awT : List UInt8 := [123, 97, 112, 112, 61, 34, 119, 101, 98, 34, 44, 101, 110, 118, 33, 126, 34, 100, 101, 118, 124, 116, 101, 115, 116, 34, 125, 32, 124, 61, 32, 34, 101, 114, 114, 34]
def awQ : Qr := ⟨[⟨[97, 112, 112], 1, [119, 101, 98]⟩, ⟨[101, 110, 118], 4, [100, 101, 118, 124, 116, 101, 115, 116]⟩], [⟨1, [101, 114, 114]⟩]⟩
def awR1 : Rc := ⟨0, 0, [⟨[97, 112, 112], [119, 101, 98]⟩], [97, 110, 32, 101, 114, 114]⟩
def awR2 : Rc := ⟨0, 0, [], [97, 110, 32, 101, 114, 114]⟩
theorem aw_p1 : parseP aw1 = (awQ, 0) := by kernel_rfl
theorem aw_p2 : (parseP aw2).2 = 40 := by decide +kernel
theorem aw_c : checkP awQ = 0 := by decide +kernel
theorem aw_t : pText awQ = awT := by decide +kernel
theorem aw_h2 : holdsP awQ awR2 = false := by decide +kernel
/- the same with a sort that the kernel runs -/
def insI (x : Int) : List Int → List Int
  | [] => [x]
  | y :: t => if x ≤ y then x :: y :: t else y :: insI x t
def isI : List Int → List Int
  | [] => []
  | x :: t => insI x (isI t)
theorem insI_perm (x : Int) : ∀ l, (insI x l).Perm (x :: l)
  | [] => .refl _
  | y :: t => by
    unfold insI
    split
    · exact .refl _
    · exact ((insI_perm x t).cons y).trans (.swap _ _ _)
theorem insI_pw (x : Int) : ∀ l : List Int, l.Pairwise (· ≤ ·) → (insI x l).Pairwise (· ≤ ·)
  | [], _ => by simp [insI]
  | y :: t, h => by
    unfold insI
    have h' := List.pairwise_cons.1 h
    split
    · rename_i hx
      exact List.pairwise_cons.2 ⟨fun z hz => by
        rcases List.mem_cons.1 hz with rfl | hz
        · exact hx
        · have := h'.1 z hz; omega, h⟩
    · rename_i hx
      refine List.pairwise_cons.2 ⟨fun z hz => ?_, insI_pw x t h'.2⟩
      rcases List.mem_cons.1 ((insI_perm x t).subset hz) with rfl | hz
      · omega
      · exact h'.1 z hz
theorem isI_ok : ∀ l : List Int, (isI l).Perm l ∧ (isI l).Pairwise (· ≤ ·)
  | [] => ⟨.refl _, .nil⟩
  | x :: t => ⟨(insI_perm x _).trans ((isI_ok t).1.cons x), insI_pw x _ (isI_ok t).2⟩
theorem sortI_eq (l : List Int) : sortI l = isI l := by
  have h1 : (sortI l).Perm l := List.mergeSort_perm _ _
  have h2 : (sortI l).Pairwise (fun a b => decide (a ≤ b) = true) := List.pairwise_mergeSort (le := fun a b => decide (a ≤ b)) (fun a b c => by simp; omega) (fun a b => by simp; omega) l
  refine List.Perm.eq_of_pairwise (le := fun a b => a ≤ b) (fun a b _ _ h h' => by omega) (h2.imp (by intro a b h; simpa using h)) (isI_ok l).2 (h1.trans (isI_ok l).1.symm)
def closQ (is : List In) (fr : List Int) (first last : Bool) : List Int := isI (closL is first last (closFuel is fr) (List.replicate is.length false) fr [])
theorem closQ_eq (is : List In) (fr : List Int) (first last : Bool) : closP is fr first last = closQ is fr first last := sortI_eq _
def startQ (is : List In) : Sta := ⟨closQ is [0] true false, true⟩
def stepQ (is : List In) (s : Sta) (c : Int) (find : Bool) : Sta := ⟨closQ is (stepL is c s.pcs ++ (if find then [0] else [])) false false, false⟩
def matchQ (is : List In) (s : Sta) (last : Bool) : Bool := anyM is (if last then closQ is s.pcs s.first true else s.pcs)
def wholeQ (is : List In) : Sta → List Int → Bool
  | s, [] => matchQ is s true
  | s, c :: r => wholeQ is (stepQ is s c false) r
def partQ (is : List In) : Sta → List Int → Bool
  | s, [] => matchQ is s true
  | s, c :: r => if matchQ is s false then true else partQ is (stepQ is s c true) r
theorem startQ_eq (is : List In) : startP is = startQ is := by rw [startP, closQ_eq]; rfl
theorem stepQ_eq (is : List In) (s : Sta) (c : Int) (f : Bool) : stepP is s c f = stepQ is s c f := by rw [stepP, closQ_eq]; rfl
theorem matchQ_eq (is : List In) (s : Sta) (l : Bool) : matchP is s l = matchQ is s l := by rw [matchP, closQ_eq]; rfl
theorem wholeQ_eq (is : List In) : ∀ (l : List Int) (s : Sta), wholeL is s l = wholeQ is s l
  | [], s => matchQ_eq is s true
  | c :: r, s => by rw [wholeL, wholeQ, stepQ_eq]; exact wholeQ_eq is r _
theorem partQ_eq (is : List In) : ∀ (l : List Int) (s : Sta), partL is s l = partQ is s l
  | [], s => matchQ_eq is s true
  | c :: r, s => by rw [partL, partQ, stepQ_eq, matchQ_eq, partQ_eq is r]
theorem whole_q (is : List In) (s : List UInt8) : wholeP is s = wholeQ is (startQ is) (runesI s) := by rw [wholeP, wholeQ_eq, startQ_eq]
theorem aw_h1 : holdsP awQ awR1 = true := by
  have h : wholeP (cmpl [100, 101, 118, 124, 116, 101, 115, 116]) [] = false := by rw [whole_q]; kernel_rfl
  have h1 : (q : Qr) → q = awQ → q.ms.all (mHold awR1) = true := by
    rintro _ rfl
    have e1 : mHold awR1 ⟨[97, 112, 112], 1, [119, 101, 98]⟩ = true := by kernel_rfl
    have e2 : mHold awR1 ⟨[101, 110, 118], 4, [100, 101, 118, 124, 116, 101, 115, 116]⟩ = true := by
      have f1 : (findP awR1.labels [101, 110, 118]).1 = [] := by kernel_rfl
      simp only [mHold, mYes, f1, h, likeB, notB]; decide
    simp only [awQ, List.all_cons, List.all_nil, e1, e2]; rfl
  have h2 : awQ.fs.all (fHold awR1) = true := by kernel_rfl
  unfold holdsP
  rw [h1 awQ rfl, h2]; rfl
theorem aw_n1 : (parseP aw1).2 = 0 := by rw [aw_p1]
theorem aw_a1 : parseA aw1 = .agg (encQ awQ false false) := by unfold parseA; rw [aw_p1]; rfl
theorem aw_a2 : parseA aw2 = .agg [nilS, nilS] := by unfold parseA; rw [aw_p2]; rfl
theorem aw_pr : printP awQ = (awT, 0) := by unfold printP; rw [if_pos aw_c, aw_t]
theorem aw_f : fltA awQ = .pin (filC awQ) 0 := by unfold fltA; rw [if_pos aw_c]
theorem aw_q : QrOk awQ ∧ ∀ m ∈ awQ.ms, m.name.length ≤ 10000000 := by
  have h := parse_ok aw_n1
  rw [aw_p1] at h
  exact ⟨h.2.1, h.2.2.1⟩
theorem aw_r1 : RcOk awR1 := ⟨by decide, by decide, by decide⟩
theorem aw_r2 : RcOk awR2 := ⟨by decide, by decide, by decide⟩

theorem awake_spec  (σ : AHeap)  : ASpec Tryz.prog 8 [] σ fun r σ' => r = .ret (boo true) ∧ σ' = σ := by
  refine aspec_enter (N := 58) (rs := [.tmp 0]) Tryz.func8 rfl rfl rfl rfl rfl rfl ?_
  refine awp_seq ?_
  refine awp_region ?_
  refine aops_v rfl rfl rfl (a_assign rfl rfl ?_)
  refine aops_nil ?_
  refine thenE_n ?_
  refine awp_seq ?_
  refine awp_region ?_
  refine aops_call_eq rfl rfl rfl rfl cf9 rfl (parse_spec aw1 _) ?_
  rw [aw_a1, aw_n1]
  refine aops_v rfl rfl rfl (a_move rfl rfl ?_)
  refine aops_v rfl rfl rfl (a_extract rfl rfl rfl ?_)
  refine aops_v rfl rfl rfl (a_extract rfl rfl rfl ?_)
  refine aops_var_frz rfl rfl rfl rfl rfl rfl rfl tk26 zk26 rfl rfl rfl rfl rfl ?_
  refine aops_v rfl rfl rfl (a_assign rfl rfl ?_)
  refine aops_nil ?_
  refine thenE_n ?_
  refine awp_seq ?_
  refine awp_region ?_
  first | refine aops_v rfl rfl rfl (a_load_pin rfl tk26 rfl rfl ?_) | refine aops_v rfl rfl rfl (a_load rfl tk26 rfl HP rfl ?_)
  refine aops_call_eq rfl rfl rfl rfl cf13 rfl (print_spec awQ false false _ aw_q.1 aw_q.2) ?_
  rw [aw_pr]
  refine aops_v rfl rfl rfl (a_move rfl rfl ?_)
  refine aops_v rfl rfl rfl (a_extract rfl rfl rfl ?_)
  refine aops_v rfl rfl rfl (a_extract rfl rfl rfl ?_)
  refine aops_v rfl rfl rfl (a_assign rfl rfl ?_)
  refine aops_v rfl rfl rfl (a_assign rfl rfl ?_)
  refine aops_nil ?_
  refine thenE_n ?_
  refine awp_seq ?_
  refine awp_region ?_
  refine aops_call_eq rfl rfl rfl rfl cf9 rfl (parse_spec aw2 _) ?_
  rw [aw_a2, aw_p2]
  refine aops_v rfl rfl rfl (a_move rfl rfl ?_)
  refine aops_v rfl rfl rfl (a_extract rfl rfl rfl ?_)
  refine aops_v rfl rfl rfl (a_extract rfl rfl rfl ?_)
  refine aops_var_frz rfl rfl rfl rfl rfl rfl rfl tk26 zk26 rfl rfl rfl rfl rfl ?_
  refine aops_v rfl rfl rfl (a_assign rfl rfl ?_)
  refine aops_nil ?_
  refine thenE_n ?_
  refine awp_seq ?_
  refine awp_region ?_
  first | refine aops_v rfl rfl rfl (a_load_pin rfl tk26 rfl rfl ?_) | refine aops_v rfl rfl rfl (a_load rfl tk26 rfl HP rfl ?_)
  refine aops_call_eq rfl rfl rfl rfl cf14 rfl (new_spec awQ false false _ aw_q.1) ?_
  rw [aw_f, aw_c]
  refine aops_v rfl rfl rfl (a_move rfl rfl ?_)
  refine aops_v rfl rfl rfl (a_extract rfl rfl rfl ?_)
  refine aops_v rfl rfl rfl (a_extract rfl rfl rfl ?_)
  refine aops_v rfl rfl rfl (a_assign rfl rfl ?_)
  refine aops_v rfl rfl rfl (a_assign rfl rfl ?_)
  refine aops_nil ?_
  refine thenE_n ?_
  refine awp_seq ?_
  refine awp_region ?_
  refine aops_v rfl rfl rfl (a_move rfl rfl ?_)
  refine aops_v rfl rfl rfl (a_int rfl rfl rfl rfl ?_)
  refine aops_v rfl rfl rfl (a_move rfl rfl ?_)
  refine aops_bool (fun h1 => ?_) (fun h1 => ?_)
  · try simp only [zz1, zz2, ne_eq, zz4, zz5, zz6, gt_iff_lt, ge_iff_le, zz9, zz0] at h1
    refine aops_yes rfl rfl rfl rfl ?_
    refine aops_v rfl rfl rfl (a_move rfl rfl ?_)
    refine aops_yes rfl rfl rfl rfl ?_
    refine aops_v rfl rfl rfl (a_int rfl rfl rfl rfl ?_)
    refine aops_v rfl rfl rfl (a_pick rfl rfl rfl ?_)
    refine aops_v rfl rfl rfl (a_move rfl rfl ?_)
    refine aops_bool (fun h2 => ?_) (fun h2 => ?_)
    · try simp only [zz1, zz2, ne_eq, zz4, zz5, zz6, gt_iff_lt, ge_iff_le, zz9, zz0] at h2
      refine aops_yes rfl rfl rfl rfl ?_
      refine aops_v rfl rfl rfl (a_move rfl rfl ?_)
      refine aops_yes rfl rfl rfl rfl ?_
      refine aops_v rfl rfl rfl (a_str rfl rfl rfl rfl ?_)
      refine aops_v rfl rfl rfl (a_pick rfl rfl rfl ?_)
      refine aops_v rfl rfl rfl (a_move rfl rfl ?_)
      refine aops_bool (fun h3 => ?_) (fun h3 => ?_)
      · try simp only [zz1, zz2, ne_eq, zz4, zz5, zz6, gt_iff_lt, ge_iff_le, zz9, zz0] at h3
        refine aops_yes rfl rfl rfl rfl ?_
        refine aops_v rfl rfl rfl (a_move rfl rfl ?_)
        refine aops_yes rfl rfl rfl rfl ?_
        refine aops_v rfl rfl rfl (a_int rfl rfl rfl rfl ?_)
        refine aops_v rfl rfl rfl (a_pick rfl rfl rfl ?_)
        refine aops_v rfl rfl rfl (a_move rfl rfl ?_)
        refine aops_bool (fun h4 => ?_) (fun h4 => ?_)
        · try simp only [zz1, zz2, ne_eq, zz4, zz5, zz6, gt_iff_lt, ge_iff_le, zz9, zz0] at h4
          refine aops_yes rfl rfl rfl rfl ?_
          refine aops_v rfl rfl rfl (a_move rfl rfl ?_)
          refine aops_yes rfl rfl rfl rfl ?_
          refine aops_v rfl rfl rfl (a_int rfl rfl rfl rfl ?_)
          refine aops_v rfl rfl rfl (a_pick rfl rfl rfl ?_)
          refine aops_v rfl rfl rfl (a_move rfl rfl ?_)
          refine aops_bool (fun h5 => ?_) (fun h5 => ?_)
          · try simp only [zz1, zz2, ne_eq, zz4, zz5, zz6, gt_iff_lt, ge_iff_le, zz9, zz0] at h5
            refine aops_yes rfl rfl rfl rfl ?_
            refine aops_v rfl rfl rfl (a_move rfl rfl ?_)
            refine aops_yes rfl rfl rfl rfl ?_
            refine aops_v rfl rfl rfl (a_build (res := [_, _]) rfl bk54 rfl rfl ?_)
            refine aops_yes rfl rfl rfl rfl ?_
            refine aops_v rfl rfl rfl (a_buildSlice (res := [_, _]) rfl sk42 rfl rfl rfl ?_)
            refine aops_yes rfl rfl rfl rfl ?_
            refine aops_v rfl rfl rfl (a_build (res := [_, _, _, _]) rfl bk44 rfl rfl ?_)
            refine aops_yes rfl rfl rfl rfl ?_
            refine aops_call_eq rfl rfl rfl rfl cf17 rfl (holds_spec awQ awR1 true _ aw_c aw_r1) ?_
            rw [aw_h1]
            refine aops_v rfl rfl rfl (a_pick rfl rfl rfl ?_)
            refine aops_v rfl rfl rfl (a_move rfl rfl ?_)
            refine aops_bool (fun h6 => ?_) (fun h6 => ?_)
            · try simp only [zz1, zz2, ne_eq, zz4, zz5, zz6, gt_iff_lt, ge_iff_le, zz9, zz0] at h6
              refine aops_yes rfl rfl rfl rfl ?_
              refine aops_v rfl rfl rfl (a_move rfl rfl ?_)
              refine aops_yes rfl rfl rfl rfl ?_
              refine aops_v rfl rfl rfl (a_build (res := [_, _, _, _]) rfl bk44 rfl rfl ?_)
              refine aops_yes rfl rfl rfl rfl ?_
              refine aops_call_eq rfl rfl rfl rfl cf17 rfl ((ASpec.wk (.cons wk_refl (.cons (wk_agg (.cons wk_refl (.cons wk_refl (.cons wk_nil (.cons wk_refl .nil))))) .nil)) (holds_spec awQ awR2 false _ aw_c aw_r2))) ?_
              rw [aw_h2]
              refine aops_yes rfl rfl rfl rfl ?_
              refine aops_v rfl rfl rfl (a_not rfl rfl ?_)
              refine aops_v rfl rfl rfl (a_pick rfl rfl rfl ?_)
              refine aops_v rfl rfl rfl (a_assign rfl rfl ?_)
              refine aops_nil ?_
              refine thenE_n ?_
              refine awp_ret ?_
              change Gst _ _ _ _
              refine fin1 rfl ?_
              first | exact ⟨rfl, rfl⟩ | exact ⟨by simp [*], rfl⟩
            · try simp only [zz1, zz2, ne_eq, zz4, zz5, zz6, gt_iff_lt, ge_iff_le, zz9, zz0] at h6
              exact absurd h6 (by decide)
          · try simp only [zz1, zz2, ne_eq, zz4, zz5, zz6, gt_iff_lt, ge_iff_le, zz9, zz0] at h5
            first | exact absurd rfl h5 | exact absurd trivial h5
        · try simp only [zz1, zz2, ne_eq, zz4, zz5, zz6, gt_iff_lt, ge_iff_le, zz9, zz0] at h4
          first | exact absurd rfl h4 | exact absurd trivial h4
      · try simp only [zz1, zz2, ne_eq, zz4, zz5, zz6, gt_iff_lt, ge_iff_le, zz9, zz0] at h3
        first | exact absurd rfl h3 | exact absurd trivial h3
    · try simp only [zz1, zz2, ne_eq, zz4, zz5, zz6, gt_iff_lt, ge_iff_le, zz9, zz0] at h2
      first | exact absurd rfl h2 | exact absurd trivial h2
  · try simp only [zz1, zz2, ne_eq, zz4, zz5, zz6, gt_iff_lt, ge_iff_le, zz9, zz0] at h1
    first | exact absurd rfl h1 | exact absurd trivial h1

end Go.Proofs.YtnahdpjbddfhgaaGreatDoor
