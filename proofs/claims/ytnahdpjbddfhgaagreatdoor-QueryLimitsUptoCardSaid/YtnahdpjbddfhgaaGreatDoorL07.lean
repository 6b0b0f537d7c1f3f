/- A part of the proof: the program logic AL, the walks of the functions that the law calls, what they compute. No condition of its own. -/
import Derived.Test.YtnahdpjbddfhgaaGreatDoorL06
set_option linter.unusedVariables false
set_option linter.unusedSimpArgs false
set_option linter.unusedVariables false
set_option linter.unusedSimpArgs false
namespace Go.Proofs.YtnahdpjbddfhgaaGreatDoor
open Go Go.AL
set_option maxRecDepth 100000
theorem rexpP_none {s : List UInt8} (h1 : ¬ 128 < s.length) (h2 : Lib.validD s = true) (h : altP (fuelOf s) ⟨runesI s, [], 0, 0⟩ = none) : rexpP s = ([], 40) := by
  unfold rexpP; rw [if_neg h1, h2, h]; rfl
theorem rexpP_some {s : List UInt8} {k : Int} {st : PS} (h1 : ¬ 128 < s.length) (h2 : Lib.validD s = true) (h : altP (fuelOf s) ⟨runesI s, [], 0, 0⟩ = some (k, st)) :
    rexpP s = if st.s ≠ [] then ([], 40) else if 16 < st.most then ([], 9) else if 1000 < sizeP st.out then ([], 3) else (st.out, 0) := by
  unfold rexpP; rw [if_neg h1, h2, h]; rfl

theorem rexpParse_spec (s : List UInt8) (σ : AHeap) (hl : s.length ≤ 1000000000) : ASpec Tryz.prog 37 [str s] σ fun r σ' => r = .ret (.tup [.lst ((rexpP s).1.flatMap encN) (rexpP s).1.length false, int (rexpP s).2]) ∧ σ' = σ := by
  refine aspec_enter_d (N := 45) (rs := [.cell 2 68, .cell 3 27]) Tryz.func37 rfl rfl rfl rfl rfl ?_
  refine awpd_seq (awpd_of ?_)
  refine awp_region ?_
  refine aops_v rfl rfl rfl (a_alloc rfl zk68 ?_)
  intro id2 hid2
  refine aops_v rfl rfl rfl (a_alloc rfl zk27 ?_)
  intro id3 hid3
  obtain ⟨hne23, hid3n⟩ := ne_of_upd hid3
  change AOps _ _ _ _ _ _ (upd (upd σ id2 (.cells 0 68 [nilS])) id3 (.cells 0 27 [int 0]))
  refine aops_nil ?_
  change AWpD _ _ _ _ _ _ _
  refine awpd_seq (awpd_of ?_)
  refine awp_block ?_
  refine awp_seq ?_
  refine awp_region ?_
  refine aops_v rfl rfl rfl (a_move rfl rfl ?_)
  refine aops_v rfl rfl rfl (a_len_str rfl ist9 rfl ?_)
  refine aops_v rfl rfl rfl (a_int rfl rfl rfl rfl ?_)
  refine aops_v rfl rfl rfl (a_assign rfl rfl ?_)
  refine aops_nil ?_
  refine thenE_n ?_
  refine awp_cond rfl (fun h1 => ?_) (fun h1 => ?_)
  · try simp only [zz1, zz2, ne_eq, zz4, zz5, zz6, gt_iff_lt, ge_iff_le, zz9, zz0] at h1
    have hL := h1
    refine awp_seq ?_
    refine awp_region ?_
    first | refine aops_s rfl rfl (a_store_n (cs2 := [_]) rfl tk68 rfl rfl HP rfl rfl (by first | decide | (simp; done) | (simp; omega)) rfl ?_) | refine aops_s rfl rfl (a_store rfl tk68 rfl rfl HP rfl rfl (by first | decide | (simp [stv, AV.cells]; done) | (simp [stv, AV.cells]; omega)) ?_)
    rw [upd_in hne23]
    first | refine aops_s rfl rfl (a_store_n (cs2 := [_]) rfl tk27 rfl rfl HP rfl rfl (by first | decide | (simp; done) | (simp; omega)) rfl ?_) | refine aops_s rfl rfl (a_store rfl tk27 rfl rfl HP rfl rfl (by first | decide | (simp [stv, AV.cells]; done) | (simp [stv, AV.cells]; omega)) ?_)
    rw [upd_upd]
    refine aops_nil ?_
    refine thenE_n ?_
    refine awp_ret ?_
    change Gst _ _ _ _
    refine gst_pins (ta := 2) (tb := 3) rfl rfl (by decide) hne23 hid2 hid3n ?_
    refine gst_wk (k := 2) rfl (wk_pin (.cons wk_nil .nil)) ?_
    refine finc2 rfl (.pin rfl tk68 rfl) (.pin rfl tk27 rfl) ?_
    exact ⟨by unfold rexpP; rw [if_pos (by omega)]; rfl, rfl⟩
  · try simp only [zz1, zz2, ne_eq, zz4, zz5, zz6, gt_iff_lt, ge_iff_le, zz9, zz0] at h1
    have hL := h1
    refine awp_seq ?_
    refine awp_region ?_
    refine aops_v rfl rfl rfl (a_move rfl rfl ?_)
    refine aops_call_eq rfl rfl rfl rfl cf19 rfl (valid_spec _ _ (by omega)) ?_
    refine aops_v rfl rfl rfl (a_not rfl rfl ?_)
    refine aops_v rfl rfl rfl (a_assign rfl rfl ?_)
    refine aops_nil ?_
    refine thenE_n ?_
    refine awp_cond rfl (fun h2 => ?_) (fun h2 => ?_)
    · try simp only [zz1, zz2, ne_eq, zz4, zz5, zz6, gt_iff_lt, ge_iff_le, zz9, zz0] at h2
      have hV := h2
      refine awp_seq ?_
      refine awp_region ?_
      first | refine aops_s rfl rfl (a_store_n (cs2 := [_]) rfl tk68 rfl rfl HP rfl rfl (by first | decide | (simp; done) | (simp; omega)) rfl ?_) | refine aops_s rfl rfl (a_store rfl tk68 rfl rfl HP rfl rfl (by first | decide | (simp [stv, AV.cells]; done) | (simp [stv, AV.cells]; omega)) ?_)
      rw [upd_in hne23]
      first | refine aops_s rfl rfl (a_store_n (cs2 := [_]) rfl tk27 rfl rfl HP rfl rfl (by first | decide | (simp; done) | (simp; omega)) rfl ?_) | refine aops_s rfl rfl (a_store rfl tk27 rfl rfl HP rfl rfl (by first | decide | (simp [stv, AV.cells]; done) | (simp [stv, AV.cells]; omega)) ?_)
      rw [upd_upd]
      refine aops_nil ?_
      refine thenE_n ?_
      refine awp_ret ?_
      change Gst _ _ _ _
      refine gst_pins (ta := 2) (tb := 3) rfl rfl (by decide) hne23 hid2 hid3n ?_
      refine gst_wk (k := 2) rfl (wk_pin (.cons wk_nil .nil)) ?_
      refine finc2 rfl (.pin rfl tk68 rfl) (.pin rfl tk27 rfl) ?_
      exact ⟨by unfold rexpP; rw [if_neg (by omega), if_pos hV]; rfl, rfl⟩
    · try simp only [zz1, zz2, ne_eq, zz4, zz5, zz6, gt_iff_lt, ge_iff_le, zz9, zz0] at h2
      have hV := h2
      refine awp_skip ?_
      refine blockE_n ?_
      change AWpD _ _ _ _ _ _ _
      refine awpd_seq (awpd_of ?_)
      refine awp_region ?_
      refine aops_v rfl rfl rfl (a_move rfl rfl ?_)
      refine aops_v rfl rfl rfl (a_str_runes rfl ist9 ir59 rfl (by omega) ?_)
      refine aops_v rfl rfl rfl (a_build (res := [_, _, _, _]) rfl bk119 rfl rfl ?_)
      refine aops_v rfl rfl rfl (a_box rfl rfl rfl ?_)
      intro id16 hid16
      refine aops_v rfl rfl rfl (a_assign rfl rfl ?_)
      refine aops_nil ?_
      change AWpD _ _ _ _ _ _ _
      refine awpd_seq (awpd_defer rfl rfl rfl rfl rfl rfl rfl rfl ?_)
      refine awpd_of ?_
      refine awp_seq ?_
      have hrl := runesOf_len s
      refine awp_fresh fun f hf => ?_
      obtain ⟨hfp, hfn⟩ := ne_of_upd hf
      rw [← runesI_rI, ← runesI_len]
      change AWp _ _ _ _ _ (prs (upd (upd σ id2 (.cells 0 68 [nilS])) id3 (.cells 0 27 [int 0])) id16 f 0 ⟨runesI s, [], 0, 0⟩)
      have hok : okP (upd (upd σ id2 (.cells 0 68 [nilS])) id3 (.cells 0 27 [int 0])) id16 (f, 0) := ⟨hfn, hfp⟩
      have hrl2 := runesI_len s
      have hpc : PC 1 ⟨runesI s, [], 0, 0⟩ := ⟨runesI_valid s, by simp; omega, by simp, by simp; omega, by simp, by simp⟩
      refine awp_region ?_
      refine aops_v rfl rfl rfl (a_move rfl rfl ?_)
      refine aops_call_res rfl rfl rfl rfl cf66 rfl (altP_ok (fuelOf s) id16 f 0 ⟨runesI s, [], 0, 0⟩ _ hid16 hok hpc (by simp [fuelOf])) (fun h3 => ?_) ?_
      · change Callable _ _ ∧ _
        refine ⟨cf65, .panicking [{ v := .iface 121 (.agg #[.int .i64 40]), recovered := true }], rfl, .done ((def65_pan id2 id3 _ (by rw [upd_ne _ _ hne23]; exact upd_same _ _ _) (upd_same _ _ _) hne23).mono ?_)⟩
        rintro _ rfl
        rw [upd_in hne23, upd_upd]
        refine gst_pins (ta := 2) (tb := 3) rfl rfl (by decide) hne23 hid2 hid3n ?_
        refine gst_wk (k := 2) rfl (wk_pin (.cons wk_nil .nil)) ?_
        refine finc2 rfl (.pin rfl tk68 rfl) (.pin rfl tk27 rfl) ?_
        exact ⟨by rw [rexpP_none (by omega) hV h3]; rfl, rfl⟩
      rintro ⟨k, st1⟩ ⟨id1, ver1⟩ hr hok1
      dsimp only
      have hE := rexpP_some (by omega) hV hr
      have htk := altP_tk _ _ _ _ hpc (by intro i n hn; simp at hn) hr
      have hgo := altP_go _ _ _ _ hr
      have hph := hgo.phi; have hm0 := hgo.most0; have hm1 := hgo.most1
      simp only [List.length_nil] at hph hm0 hm1
      obtain ⟨s1, out1, dp1, mo1⟩ := st1
      obtain ⟨_, hne1⟩ := hok1
      have hok1 : okP _ id16 (id1, ver1) := ⟨‹_›, hne1⟩
      dsimp only at hne1 hph hm0 hm1 hE
      have hout : 0 < out1.length := by have := htk.2 k (by simp); simp only at this; omega
      refine aops_nil ?_
      refine thenE_n ?_
      refine awp_seq ?_
      refine awp_region ?_
      refine aops_v rfl rfl rfl (a_move rfl rfl ?_)
      refine aops_v rfl rfl rfl (a_move rfl rfl ?_)
      first | refine aops_v rfl rfl rfl (a_nilCheck rfl rfl ?_) | refine aops_v rfl rfl rfl (a_nilCheck_pin rfl rfl ?_) | refine aops_v rfl rfl rfl (a_nilCheck_clo rfl rfl ?_)
      first | refine aops_v rfl rfl rfl (a_fieldAddr rfl fk119_0 rfl rfl ?_) | refine aops_v rfl rfl rfl (a_fieldAddr_pin rfl fk119_0 rfl rfl ?_)
      first | refine aops_v rfl rfl rfl (a_load_pin rfl tk59 rfl rfl ?_) | refine aops_v rfl rfl rfl (a_load rfl tk59 rfl HP rfl ?_)
      first | refine aops_v rfl rfl rfl (a_len_lst rfl isl59 rfl ?_) | refine aops_v rfl rfl rfl (a_len rfl isl59 rfl ?_) | refine aops_v rfl rfl rfl (a_len_slg rfl isl59 rfl ?_) | refine aops_v rfl rfl rfl (a_len_nil rfl isl59 rfl ?_)
      refine aops_v rfl rfl rfl (a_int rfl rfl rfl rfl ?_)
      refine aops_call_res rfl rfl rfl rfl cf67 rfl (must_spec _ _ _) (fun h4 => ?_) ?_
      · change Callable _ _ ∧ _
        refine ⟨cf65, .panicking [{ v := .iface 121 (.agg #[.int .i64 40]), recovered := true }], rfl, gst_sub _ (prs_sub hid16 hok1.1) (.done ((def65_pan id2 id3 _ (by rw [upd_ne _ _ hne23]; exact upd_same _ _ _) (upd_same _ _ _) hne23).mono ?_))⟩
        rintro _ rfl
        rw [upd_in hne23, upd_upd]
        refine gst_pins (ta := 2) (tb := 3) rfl rfl (by decide) hne23 hid2 hid3n ?_
        refine gst_wk (k := 2) rfl (wk_pin (.cons wk_nil .nil)) ?_
        refine finc2 rfl (.pin rfl tk68 rfl) (.pin rfl tk27 rfl) ?_
        exact ⟨by rw [hE, if_pos (by simpa using h4)]; rfl, rfl⟩
      rintro ⟨⟩ ⟨⟩ hmu _
      try dsimp only
      have hs1 : s1 = [] := by simpa using hmu
      rw [if_neg (by simpa using hs1)] at hE
      refine aops_nil ?_
      refine thenE_n ?_
      refine awp_seq ?_
      refine awp_block ?_
      refine awp_seq ?_
      refine AWp.ghost (gst_prs_frz hid16 hok1 (.done ?_))
      refine awp_region ?_
      refine aops_v rfl rfl rfl (a_move rfl rfl ?_)
      first | refine aops_v rfl rfl rfl (a_nilCheck rfl rfl ?_) | refine aops_v rfl rfl rfl (a_nilCheck_pin rfl rfl ?_) | refine aops_v rfl rfl rfl (a_nilCheck_clo rfl rfl ?_)
      first | refine aops_v rfl rfl rfl (a_fieldAddr rfl fk119_3 rfl rfl ?_) | refine aops_v rfl rfl rfl (a_fieldAddr_pin rfl fk119_3 rfl rfl ?_)
      first | refine aops_v rfl rfl rfl (a_load_pin rfl tk3 rfl rfl ?_) | refine aops_v rfl rfl rfl (a_load rfl tk3 rfl HP rfl ?_)
      refine aops_v rfl rfl rfl (a_int rfl rfl rfl rfl ?_)
      refine aops_v rfl rfl rfl (a_assign rfl rfl ?_)
      refine aops_nil ?_
      refine thenE_n ?_
      refine awp_cond rfl (fun h5 => ?_) (fun h5 => ?_)
      · try simp only [zz1, zz2, ne_eq, zz4, zz5, zz6, gt_iff_lt, ge_iff_le, zz9, zz0] at h5
        have hM := h5
        rw [if_pos (by omega)] at hE
        refine awp_seq ?_
        refine AWp.ghost (gst_del id16 (.done ?_))
        rw [del_upd _ _ hid16]
        refine awp_region ?_
        first | refine aops_s rfl rfl (a_store_n (cs2 := [_]) rfl tk68 rfl rfl HP rfl rfl (by first | decide | (simp; done) | (simp; omega)) rfl ?_) | refine aops_s rfl rfl (a_store rfl tk68 rfl rfl HP rfl rfl (by first | decide | (simp [stv, AV.cells]; done) | (simp [stv, AV.cells]; omega)) ?_)
        rw [upd_in hne23]
        first | refine aops_s rfl rfl (a_store_n (cs2 := [_]) rfl tk27 rfl rfl HP rfl rfl (by first | decide | (simp; done) | (simp; omega)) rfl ?_) | refine aops_s rfl rfl (a_store rfl tk27 rfl rfl HP rfl rfl (by first | decide | (simp [stv, AV.cells]; done) | (simp [stv, AV.cells]; omega)) ?_)
        rw [upd_upd]
        refine aops_nil ?_
        refine thenE_n ?_
        refine awp_ret ?_
        change Callable _ _ ∧ _
        refine ⟨cf65, .done ((def65_ret id2 id3 _).mono ?_)⟩
        rintro _ rfl
        refine gst_pins (ta := 2) (tb := 3) rfl rfl (by decide) hne23 hid2 hid3n ?_
        refine gst_wk (k := 2) rfl (wk_pin (.cons wk_nil .nil)) ?_
        refine finc2 rfl (.pin rfl tk68 rfl) (.pin rfl tk27 rfl) ?_
        exact ⟨by rw [hE]; rfl, rfl⟩
      · try simp only [zz1, zz2, ne_eq, zz4, zz5, zz6, gt_iff_lt, ge_iff_le, zz9, zz0] at h5
        have hM := h5
        rw [if_neg (by omega)] at hE
        refine awp_seq ?_
        refine awp_region ?_
        refine aops_v rfl rfl rfl (a_move rfl rfl ?_)
        first | refine aops_v rfl rfl rfl (a_nilCheck rfl rfl ?_) | refine aops_v rfl rfl rfl (a_nilCheck_pin rfl rfl ?_) | refine aops_v rfl rfl rfl (a_nilCheck_clo rfl rfl ?_)
        first | refine aops_v rfl rfl rfl (a_fieldAddr rfl fk119_1 rfl rfl ?_) | refine aops_v rfl rfl rfl (a_fieldAddr_pin rfl fk119_1 rfl rfl ?_)
        first | refine aops_v rfl rfl rfl (a_load_pin rfl tk68 rfl rfl ?_) | refine aops_v rfl rfl rfl (a_load rfl tk68 rfl HP rfl ?_)
        refine aops_call_eq rfl rfl rfl rfl cf68 rfl (size_spec out1 _ htk.1 (by omega) hout) ?_
        refine aops_v rfl rfl rfl (a_int rfl rfl rfl rfl ?_)
        refine aops_v rfl rfl rfl (a_assign rfl rfl ?_)
        refine aops_nil ?_
        refine thenE_n ?_
        refine awp_cond rfl (fun h6 => ?_) (fun h6 => ?_)
        · try simp only [zz1, zz2, ne_eq, zz4, zz5, zz6, gt_iff_lt, ge_iff_le, zz9, zz0] at h6
          have hS := h6
          rw [if_pos (by omega)] at hE
          refine awp_seq ?_
          refine AWp.ghost (gst_del id16 (.done ?_))
          rw [del_upd _ _ hid16]
          refine awp_region ?_
          first | refine aops_s rfl rfl (a_store_n (cs2 := [_]) rfl tk68 rfl rfl HP rfl rfl (by first | decide | (simp; done) | (simp; omega)) rfl ?_) | refine aops_s rfl rfl (a_store rfl tk68 rfl rfl HP rfl rfl (by first | decide | (simp [stv, AV.cells]; done) | (simp [stv, AV.cells]; omega)) ?_)
          rw [upd_in hne23]
          first | refine aops_s rfl rfl (a_store_n (cs2 := [_]) rfl tk27 rfl rfl HP rfl rfl (by first | decide | (simp; done) | (simp; omega)) rfl ?_) | refine aops_s rfl rfl (a_store rfl tk27 rfl rfl HP rfl rfl (by first | decide | (simp [stv, AV.cells]; done) | (simp [stv, AV.cells]; omega)) ?_)
          rw [upd_upd]
          refine aops_nil ?_
          refine thenE_n ?_
          refine awp_ret ?_
          change Callable _ _ ∧ _
          refine ⟨cf65, .done ((def65_ret id2 id3 _).mono ?_)⟩
          rintro _ rfl
          refine gst_pins (ta := 2) (tb := 3) rfl rfl (by decide) hne23 hid2 hid3n ?_
          refine gst_wk (k := 2) rfl (wk_pin (.cons wk_nil .nil)) ?_
          refine finc2 rfl (.pin rfl tk68 rfl) (.pin rfl tk27 rfl) ?_
          exact ⟨by rw [hE]; rfl, rfl⟩
        · try simp only [zz1, zz2, ne_eq, zz4, zz5, zz6, gt_iff_lt, ge_iff_le, zz9, zz0] at h6
          have hS := h6
          rw [if_neg (by omega)] at hE
          refine awp_skip ?_
          refine blockE_n ?_
          refine thenE_n ?_
          refine awp_seq ?_
          refine awp_region ?_
          refine aops_v rfl rfl rfl (a_move rfl rfl ?_)
          first | refine aops_v rfl rfl rfl (a_nilCheck rfl rfl ?_) | refine aops_v rfl rfl rfl (a_nilCheck_pin rfl rfl ?_) | refine aops_v rfl rfl rfl (a_nilCheck_clo rfl rfl ?_)
          first | refine aops_v rfl rfl rfl (a_fieldAddr rfl fk119_1 rfl rfl ?_) | refine aops_v rfl rfl rfl (a_fieldAddr_pin rfl fk119_1 rfl rfl ?_)
          first | refine aops_v rfl rfl rfl (a_load_pin rfl tk68 rfl rfl ?_) | refine aops_v rfl rfl rfl (a_load rfl tk68 rfl HP rfl ?_)
          refine AOps.ghost (gst_del id16 (.done ?_))
          rw [del_upd _ _ hid16]
          first | refine aops_s rfl rfl (a_store_n (cs2 := [_]) rfl tk68 rfl rfl HP rfl rfl (by first | decide | (simp; done) | (simp; omega)) rfl ?_) | refine aops_s rfl rfl (a_store rfl tk68 rfl rfl HP rfl rfl (by first | decide | (simp [stv, AV.cells]; done) | (simp [stv, AV.cells]; omega)) ?_)
          rw [upd_in hne23]
          first | refine aops_s rfl rfl (a_store_n (cs2 := [_]) rfl tk27 rfl rfl HP rfl rfl (by first | decide | (simp; done) | (simp; omega)) rfl ?_) | refine aops_s rfl rfl (a_store rfl tk27 rfl rfl HP rfl rfl (by first | decide | (simp [stv, AV.cells]; done) | (simp [stv, AV.cells]; omega)) ?_)
          rw [upd_upd]
          refine aops_nil ?_
          refine thenE_n ?_
          refine awp_ret ?_
          change Callable _ _ ∧ _
          refine ⟨cf65, .done ((def65_ret id2 id3 _).mono ?_)⟩
          rintro _ rfl
          refine gst_pins (ta := 2) (tb := 3) rfl rfl (by decide) hne23 hid2 hid3n ?_
          refine finc2 rfl (.pin rfl tk68 rfl) (.pin rfl tk27 rfl) ?_
          exact ⟨by rw [hE], rfl⟩

end Go.Proofs.YtnahdpjbddfhgaaGreatDoor
set_option linter.unusedVariables false
set_option linter.unusedSimpArgs false
namespace Go.Proofs.YtnahdpjbddfhgaaGreatDoor
open Go Go.AL
set_option maxRecDepth 100000
/-- instructions -/
structure In where
  kind : Int
  x : Int
  y : Int
  set : List Int
def encI (i : In) : List AV := [int i.kind, int i.x, int i.y, .lst (i.set.map rI) i.set.length false]
theorem encI_len (i : In) : (encI i).length = 4 := rfl
theorem encI_ones (i : In) : (encI i).all AV.one = true := rfl
abbrev nodesA (l : List Nd) : AV := .lst (l.flatMap encN) l.length false
def prg (σ : AHeap) (p : Nat) (l : List Nd) (id ver : Nat) (is : List In) : AHeap :=
  slh (upd σ p (.cells 0 154 [nodesA l, slv 4 (is.flatMap encI) is.length id ver])) 157 (is.flatMap encI) is.length id ver
theorem prg_at {σ : AHeap} {p id ver : Nat} {l : List Nd} {is : List In} (hne : p ≠ id) : prg σ p l id ver is p = some (.cells 0 154 [nodesA l, slv 4 (is.flatMap encI) is.length id ver]) := by
  unfold prg; rw [slh_at _ _ _ _ hne]; exact upd_same _ _ _
theorem prg_push {σ : AHeap} {p id ver : Nat} {l : List Nd} {is : List In} {o : AObj} {cs : List AV} {n : Nat} (hne : p ≠ id) (hc : cs = is.flatMap encI) (hn : n = is.length) :
    upd (slh (upd σ p o) 157 cs n id ver) p (.cells 0 154 [nodesA l, slv 4 cs n id ver]) = prg σ p l id ver is := by
  unfold prg; rw [slh_upd _ _ _ _ hne, upd_upd, hc, hn]
theorem prg_eq {σ : AHeap} {p id ver : Nat} {l : List Nd} {is : List In} : prg σ p l id ver is = slh (upd σ p (.cells 0 154 [nodesA l, slv 4 (is.flatMap encI) is.length id ver])) 157 (is.flatMap encI) is.length id ver := rfl
theorem prg_sub {σ0 : AHeap} {p id ver : Nat} {l : List Nd} {is : List In} (h0 : σ0 p = none) (hi : σ0 id = none) : ∀ k o, σ0 k = some o → prg σ0 p l id ver is k = some o := by
  intro k o hk
  have h1 : k ≠ p := fun e => by rw [e, h0] at hk; exact absurd hk (by simp)
  have h2 : k ≠ id := fun e => by rw [e, hi] at hk; exact absurd hk (by simp)
  unfold prg
  rw [slh_at _ _ _ _ h2, upd_ne _ _ h1]; exact hk
/-- what a function that lays instructions says -/
abbrev PrgR (σ0 : AHeap) (p : Nat) (l : List Nd) (x : AV) (is' : List In) : AEnd → AHeap → Prop :=
  ResP (ι := Nat × Nat) flt σ0 (some ()) (fun _ i => okP σ0 p i) (fun _ _ => x) (fun _ i => prg σ0 p l i.1 i.2 is')
theorem prgR_ok {σ0 : AHeap} {p id ver : Nat} {l : List Nd} {x : AV} {is' : List In} (hok : okP σ0 p (id, ver)) : PrgR σ0 p l x is' (.ret x) (prg σ0 p l id ver is') := ⟨(id, ver), hok, rfl, rfl⟩

theorem here_spec (p id ver : Nat) (l : List Nd) (is : List In) (σ : AHeap) (h0 : σ p = none) (hok : okP σ p (id, ver)) : ASpec Tryz.prog 119 [.ref p 0 0] (prg σ p l id ver is) fun r σ' => r = .ret (int is.length) ∧ σ' = prg σ p l id ver is := by
  obtain ⟨_, hne⟩ := hok
  have hok : okP σ p (id, ver) := ⟨‹_›, hne⟩
  dsimp only at hne
  refine aspec_enter (N := 8) (rs := [.tmp 2]) Tryz.func119 rfl rfl rfl rfl rfl rfl ?_
  refine awp_seq ?_
  refine awp_region ?_
  refine aops_v rfl rfl rfl (a_assign rfl rfl ?_)
  refine aops_nil ?_
  refine thenE_n ?_
  refine awp_seq ?_
  refine awp_region ?_
  refine aops_v rfl rfl rfl (a_move rfl rfl ?_)
  first | refine aops_v rfl rfl rfl (a_nilCheck rfl rfl ?_) | refine aops_v rfl rfl rfl (a_nilCheck_pin rfl rfl ?_) | refine aops_v rfl rfl rfl (a_nilCheck_clo rfl rfl ?_)
  first | refine aops_v rfl rfl rfl (a_fieldAddr rfl fk154_1 rfl rfl ?_) | refine aops_v rfl rfl rfl (a_fieldAddr_pin rfl fk154_1 rfl rfl ?_)
  first | refine aops_v rfl rfl rfl (a_load_pin rfl tk152 rfl rfl ?_) | refine aops_v rfl rfl rfl (a_load rfl tk152 rfl HP rfl ?_)
  first | refine aops_v rfl rfl rfl (a_len_lst rfl isl152 rfl ?_) | refine aops_v rfl rfl rfl (a_len rfl isl152 rfl ?_) | refine aops_v rfl rfl rfl (a_len_slg rfl isl152 rfl ?_) | refine aops_v rfl rfl rfl (a_len_nil rfl isl152 rfl ?_)
  refine aops_v rfl rfl rfl (a_assign rfl rfl ?_)
  refine aops_nil ?_
  refine thenE_n ?_
  refine awp_ret ?_
  change Gst _ _ _ _
  refine fin1 rfl ?_
  exact ⟨rfl, rfl⟩

theorem emit_spec (p id ver : Nat) (l : List Nd) (is : List In) (i : In) (σ : AHeap) (h0 : σ p = none) (hok : okP σ p (id, ver)) (hl : is.length ≤ 1000000) : ASpec Tryz.prog 92 [.ref p 0 0, .agg (encI i)] (prg σ p l id ver is) fun r σ' => PrgR σ p l (int is.length) (is ++ [i]) r σ' := by
  obtain ⟨_, hne⟩ := hok
  have hok : okP σ p (id, ver) := ⟨‹_›, hne⟩
  dsimp only at hne
  have hid := hok.1
  dsimp only at hid
  unfold encI
  refine aspec_enter (N := 21) (rs := [.tmp 4]) Tryz.func92 rfl rfl rfl rfl rfl rfl ?_
  refine awp_seq ?_
  refine awp_region ?_
  refine aops_v rfl rfl rfl (a_box_frz rfl rfl rfl ?_)
  refine aops_v rfl rfl rfl (a_assign rfl rfl ?_)
  refine aops_nil ?_
  refine thenE_n ?_
  refine awp_seq ?_
  refine awp_drawH [0, 0, 2, 6, 14, 0, 32, 126, 255, 511, 1023] 7 126 rfl (by decide +kernel) (by decide +kernel) (by decide +kernel) rfl rfl rfl rfl ?_
  simp only [List.take_succ_cons, List.take_zero, List.take_nil, List.drop_succ_cons, List.drop_zero, List.drop_nil]
  refine dph_light rfl (fun _ => apure_val (a_move rfl rfl pure_done)) rfl ?_
  refine dph_val rfl (apure_val (a_move rfl rfl pure_done)) rfl rfl ?_
  first | refine dph_val rfl (apure_val (a_nilCheck rfl rfl pure_done)) rfl rfl ?_ | refine dph_val rfl (apure_val (a_nilCheck_pin rfl rfl pure_done)) rfl rfl ?_ | refine dph_val rfl (apure_val (a_nilCheck_clo rfl rfl pure_done)) rfl rfl ?_
  first | refine dph_val rfl (apure_val (a_fieldAddr rfl fk154_1 rfl rfl pure_done)) rfl rfl ?_ | refine dph_val rfl (apure_val (a_fieldAddr_pin rfl fk154_1 rfl rfl pure_done)) rfl rfl ?_
  first | refine dph_val rfl (apure_val (a_load_pin rfl tk152 rfl rfl pure_done)) rfl rfl ?_ | refine dph_val rfl (apure_val (a_load rfl tk152 rfl HP rfl pure_done)) rfl rfl ?_
  first | refine dph_val rfl (apure_val (a_load_pin rfl tk157 rfl rfl pure_done)) rfl rfl ?_ | refine dph_val rfl (apure_val (a_load rfl tk157 rfl HP rfl pure_done)) rfl rfl ?_
  refine dph_val rfl (apure_val (a_buildSlice (res := [_, _, _, _]) rfl sk152 rfl rfl rfl pure_done)) rfl rfl ?_
  have hlen := flat_len encI_len is
  rw [prg_eq]
  refine aheavy_val (a_append_sl rfl sk152 rfl hlen rfl (.lst rfl) rfl (by omega) (by simp only [maxLen]; omega) (by rw [upd_ne _ _ (Ne.symm hne)]; exact hid) ?_)
  intro id12 ver12 hid12
  change AOps _ _ _ _ _ _ _
  obtain ⟨hne12, hid12b⟩ := ne_of_upd hid12
  rw [show is.flatMap encI ++ [int i.kind, int i.x, int i.y, .lst (i.set.map rI) i.set.length false] = (is ++ [i]).flatMap encI by simp [encI], show is.length + 1 = (is ++ [i]).length by simp]
  have hl2 : (is ++ [i]).length = is.length + 1 := by simp
  first | refine aops_v rfl rfl rfl (a_nilCheck rfl rfl ?_) | refine aops_v rfl rfl rfl (a_nilCheck_pin rfl rfl ?_) | refine aops_v rfl rfl rfl (a_nilCheck_clo rfl rfl ?_)
  first | refine aops_v rfl rfl rfl (a_fieldAddr rfl fk154_1 rfl rfl ?_) | refine aops_v rfl rfl rfl (a_fieldAddr_pin rfl fk154_1 rfl rfl ?_)
  refine aops_s rfl rfl (a_store_slv (cs2 := [_, _]) rfl tk152 rfl rfl (by rw [slh_at _ _ _ _ hne12]; exact upd_same _ _ _) (by simp) rfl ?_)
  rw [prg_push hne12 rfl rfl]
  have hne := hne12
  refine aops_nil ?_
  refine thenE_n ?_
  refine awp_seq ?_
  refine awp_region ?_
  refine aops_v rfl rfl rfl (a_move rfl rfl ?_)
  first | refine aops_v rfl rfl rfl (a_nilCheck rfl rfl ?_) | refine aops_v rfl rfl rfl (a_nilCheck_pin rfl rfl ?_) | refine aops_v rfl rfl rfl (a_nilCheck_clo rfl rfl ?_)
  first | refine aops_v rfl rfl rfl (a_fieldAddr rfl fk154_1 rfl rfl ?_) | refine aops_v rfl rfl rfl (a_fieldAddr_pin rfl fk154_1 rfl rfl ?_)
  first | refine aops_v rfl rfl rfl (a_load_pin rfl tk152 rfl rfl ?_) | refine aops_v rfl rfl rfl (a_load rfl tk152 rfl HP rfl ?_)
  first | refine aops_v rfl rfl rfl (a_len_lst rfl isl152 rfl ?_) | refine aops_v rfl rfl rfl (a_len rfl isl152 rfl ?_) | refine aops_v rfl rfl rfl (a_len_slg rfl isl152 rfl ?_) | refine aops_v rfl rfl rfl (a_len_nil rfl isl152 rfl ?_)
  first | refine aops_v rfl rfl rfl (a_sub rfl rfl rfl (by simp only [Go.AL.lo, Go.AL.hi]; omega) ?_) | refine aops_v rfl rfl rfl (a_int rfl rfl rfl rfl ?_)
  refine aops_v rfl rfl rfl (a_assign rfl rfl ?_)
  refine aops_nil ?_
  refine thenE_n ?_
  refine awp_ret ?_
  change Gst _ _ _ _
  refine fin1 rfl ?_
  rw [show (((is ++ [i]).length : Nat) : Int) - 1 = is.length by simp]
  exact prgR_ok ⟨hid12b, hne12⟩

end Go.Proofs.YtnahdpjbddfhgaaGreatDoor
set_option linter.unusedVariables false
set_option linter.unusedSimpArgs false
namespace Go.Proofs.YtnahdpjbddfhgaaGreatDoor
open Go Go.AL
set_option maxRecDepth 100000
/-- the compiler in plain words -/
def splitI (is : List In) : List In := is ++ [⟨1, is.length + 1, 0, []⟩]
def setY (is : List In) (k : Nat) (y : Int) : List In := match is.drop k with
  | i :: r => is.take k ++ { i with y := y } :: r
  | [] => is
def setX (is : List In) (k : Nat) (x : Int) : List In := match is.drop k with
  | i :: r => is.take k ++ { i with x := x } :: r
  | [] => is
def fixXY (is : List In) (o : Int) : List In := setY (setX is o.toNat is.length) o.toNat is.length
def fixY (is : List In) (f : Int) : List In := setY is f.toNat is.length
def altC (node : Int → List In → List In) : List Int → List In → List Int → List In × List Int
  | [], is, outs => (is, outs)
  | [k], is, outs => (node k is, outs)
  | k :: k2 :: r, is, outs =>
    let is2 := node k (splitI is)
    let is3 := is2 ++ [⟨1, 0, 0, []⟩]
    altC node (k2 :: r) (setY is3 is.length is3.length) (outs ++ [(is2.length : Int)])
def altN (node : Int → List In → List In) (kids : List Int) (is : List In) : List In := (altC node kids is []).2.foldl fixXY (altC node kids is []).1
def repMin (node : Int → List In → List In) (k : Int) : Nat → List In → List In
  | 0, is => is
  | n + 1, is => repMin node k n (node k is)
def repMax (node : Int → List In → List In) (k : Int) : Nat → List In → List Int → List In × List Int
  | 0, is, fs => (is, fs)
  | n + 1, is, fs => repMax node k n (node k (splitI is)) (fs ++ [(is.length : Int)])
def starN (node : Int → List In → List In) (k : Int) (is1 : List In) : List In :=
  let is3 := node k (splitI is1) ++ [⟨1, is1.length, is1.length, []⟩]
  setY is3 is1.length is3.length
def optN (node : Int → List In → List In) (k : Int) (m : Nat) (is1 : List In) : List In := (repMax node k m is1 []).2.foldl fixY (repMax node k m is1 []).1
def kid0 (n : Nd) : Int := n.kids.headD 0
def repN (node : Int → List In → List In) (n : Nd) (is : List In) : List In :=
  if n.max < 0 then starN node (kid0 n) (repMin node (kid0 n) n.min.toNat is)
  else optN node (kid0 n) (n.max - n.min).toNat (repMin node (kid0 n) n.min.toNat is)
def seqN (node : Int → List In → List In) : List Int → List In → List In
  | [], is => is
  | k :: r, is => seqN node r (node k is)
def nodeK (node : Int → List In → List In) (n : Nd) (is : List In) : List In :=
  if n.kind = 2 then is ++ [⟨0, is.length + 1, 0, n.set⟩]
  else if n.kind = 6 then is ++ [⟨2, is.length + 1, 0, []⟩]
  else if n.kind = 7 then is ++ [⟨3, is.length + 1, 0, []⟩]
  else if n.kind = 3 then seqN node n.kids is
  else if n.kind = 4 then altN node n.kids is
  else if n.kind = 5 then repN node n is
  else is
def nodeC (l : List Nd) : Nat → Int → List In → List In
  | 0, _, is => is
  | f + 1, k, is => match l[k.toNat]? with | none => is | some n => nodeK (nodeC l f) n is
/-- how many instructions -/
def cntK (c : Int → Nat) (n : Nd) : Nat :=
  if n.kind = 2 then 1 else if n.kind = 6 then 1 else if n.kind = 7 then 1
  else if n.kind = 3 then (n.kids.map c).sum
  else if n.kind = 4 then (n.kids.map c).sum + 2 * (n.kids.length - 1)
  else if n.kind = 5 then n.min.toNat * c (kid0 n) + (if n.max < 0 then c (kid0 n) + 2 else (n.max - n.min).toNat * (c (kid0 n) + 1))
  else 0
def cntC (l : List Nd) : Nat → Int → Nat
  | 0, _ => 0
  | f + 1, k => match l[k.toNat]? with | none => 0 | some n => cntK (cntC l f) n
theorem setY_len (is : List In) (k : Nat) (y : Int) : (setY is k y).length = is.length := by
  unfold setY
  split
  · rename_i i r h
    have := congrArg List.length h
    simp at this
    simp; omega
  · rfl
theorem setX_len (is : List In) (k : Nat) (y : Int) : (setX is k y).length = is.length := by
  unfold setX
  split
  · rename_i i r h
    have := congrArg List.length h
    simp at this
    simp; omega
  · rfl
theorem fixXY_len (is : List In) (o : Int) : (fixXY is o).length = is.length := by unfold fixXY; rw [setY_len, setX_len]
theorem fixY_len (is : List In) (o : Int) : (fixY is o).length = is.length := by unfold fixY; rw [setY_len]
theorem fixXY_all (l : List Int) : ∀ (is : List In), (l.foldl fixXY is).length = is.length := by
  induction l with
  | nil => intro is; rfl
  | cons x r ih => intro is; rw [List.foldl_cons, ih, fixXY_len]
theorem fixY_all (l : List Int) : ∀ (is : List In), (l.foldl fixY is).length = is.length := by
  induction l with
  | nil => intro is; rfl
  | cons x r ih => intro is; rw [List.foldl_cons, ih, fixY_len]
theorem splitI_len (is : List In) : (splitI is).length = is.length + 1 := by simp [splitI]
def NdLen (node : Int → List In → List In) (c : Int → Nat) : Prop := ∀ k is, (node k is).length = is.length + c k
theorem altC_len {node : Int → List In → List In} {c : Int → Nat} (h : NdLen node c) : ∀ (ks : List Int) (is : List In) (outs : List Int),
    (altC node ks is outs).1.length = is.length + (ks.map c).sum + 2 * (ks.length - 1)
  | [], is, outs => by simp [altC]
  | [k], is, outs => by simp [altC, h k]
  | k :: k2 :: r, is, outs => by
    simp only [altC]
    rw [altC_len h (k2 :: r), setY_len]
    simp only [List.length_append, h k, splitI_len, List.length_cons, List.length_nil, List.map_cons, List.sum_cons]
    omega
theorem altN_len {node : Int → List In → List In} {c : Int → Nat} (h : NdLen node c) (ks : List Int) (is : List In) : (altN node ks is).length = is.length + (ks.map c).sum + 2 * (ks.length - 1) := by
  unfold altN; rw [fixXY_all, altC_len h]
theorem repMin_len {node : Int → List In → List In} {c : Int → Nat} (h : NdLen node c) (k : Int) : ∀ (m : Nat) (is : List In), (repMin node k m is).length = is.length + m * c k
  | 0, is => by simp [repMin]
  | m + 1, is => by rw [repMin, repMin_len h k m, h k, Nat.add_mul]; omega
theorem repMax_len {node : Int → List In → List In} {c : Int → Nat} (h : NdLen node c) (k : Int) : ∀ (m : Nat) (is : List In) (fs : List Int), (repMax node k m is fs).1.length = is.length + m * (c k + 1)
  | 0, is, fs => by simp [repMax]
  | m + 1, is, fs => by rw [repMax, repMax_len h k m, h k, splitI_len, Nat.add_mul (m) 1]; omega
theorem starN_len {node : Int → List In → List In} {c : Int → Nat} (h : NdLen node c) (k : Int) (is : List In) : (starN node k is).length = is.length + c k + 2 := by
  unfold starN; rw [setY_len]; simp [h k, splitI_len]; omega
theorem repN_len {node : Int → List In → List In} {c : Int → Nat} (h : NdLen node c) (n : Nd) (is : List In) :
    (repN node n is).length = is.length + (n.min.toNat * c (kid0 n) + (if n.max < 0 then c (kid0 n) + 2 else (n.max - n.min).toNat * (c (kid0 n) + 1))) := by
  unfold repN
  split
  · rw [starN_len h, repMin_len h]; omega
  · unfold optN; rw [fixY_all, repMax_len h, repMin_len h]; omega
theorem seqN_len {node : Int → List In → List In} {c : Int → Nat} (h : NdLen node c) : ∀ (ks : List Int) (is : List In), (seqN node ks is).length = is.length + (ks.map c).sum
  | [], is => by simp [seqN]
  | k :: r, is => by rw [seqN, seqN_len h r, h k]; simp; omega
theorem nodeK_len {node : Int → List In → List In} {c : Int → Nat} (h : NdLen node c) (n : Nd) (is : List In) : (nodeK node n is).length = is.length + cntK c n := by
  unfold nodeK cntK
  split
  · simp
  split
  · simp
  split
  · simp
  split
  · exact seqN_len h _ _
  split
  · rw [altN_len h]; omega
  split
  · exact repN_len h _ _
  · rfl
theorem nodeC_len (l : List Nd) : ∀ f, NdLen (nodeC l f) (cntC l f)
  | 0 => fun k is => rfl
  | f + 1 => fun k is => by
    simp only [nodeC, cntC]
    cases l[k.toNat]? with
    | none => rfl
    | some n => exact nodeK_len (nodeC_len l f) n is
/-- instructions in memory -/
theorem drop_at {is : List In} {k : Nat} (h : k < is.length) : ∃ i, is.drop k = i :: is.drop (k + 1) ∧ is = is.take k ++ i :: is.drop (k + 1) := by
  have := List.drop_eq_getElem_cons h
  exact ⟨is[k], this, by rw [← this]; simp⟩
theorem stv_flat {is : List In} {k : Nat} {c : Nat} {v : AV} {i2 : In → In} (h : k < is.length) (hi : ∀ i, stv c [v] (encI i) = encI (i2 i)) (hc : c < 4) :
    stv (k * 4 + c) [v] (is.flatMap encI) = (match is.drop k with | i :: r => is.take k ++ i2 i :: r | [] => is).flatMap encI := by
  obtain ⟨i, h1, h2⟩ := drop_at h
  rw [h1]
  simp only
  have hl : ((is.take k).flatMap encI).length = k * 4 := by rw [flat_len encI_len]; simp; omega
  conv => lhs; rw [h2]
  simp only [List.flatMap_append, List.flatMap_cons]
  have e := hi i
  unfold stv at e ⊢
  rw [List.take_append, hl, List.take_of_length_le (by omega), show k * 4 + c - k * 4 = c by omega, List.take_append_of_le_length (by rw [encI_len]; omega),
    List.drop_append, List.drop_of_length_le (by simp [hl]; omega), hl, List.drop_append_of_le_length (by rw [encI_len]; simp; omega)]
  have e2 : k * 4 + c + [v].length - k * 4 = c + [v].length := by omega
  rw [e2, ← e]
  simp
theorem stv_Y {is : List In} {k : Nat} {y : Int} (h : k < is.length) : stv (k * 4 + 2) [int y] (is.flatMap encI) = (setY is k y).flatMap encI := stv_flat (i2 := fun i => { i with y := y }) h (fun _ => rfl) (by omega)
theorem stv_X {is : List In} {k : Nat} {x : Int} (h : k < is.length) : stv (k * 4 + 1) [int x] (is.flatMap encI) = (setX is k x).flatMap encI := stv_flat (i2 := fun i => { i with x := x }) h (fun _ => rfl) (by omega)
theorem prg_pos {σ : AHeap} {p id ver : Nat} {l : List Nd} {is : List In} (h : 0 < is.length) : prg σ p l id ver is = upd (upd σ p (.cells 0 154 [nodesA l, .arr id ver 0 is.length 4])) id (.cells ver 157 (is.flatMap encI)) := by
  unfold prg; rw [slv_pos h, slh_pos h]
theorem prg_same {σ : AHeap} {p id ver n : Nat} {l : List Nd} {is : List In} (h : 0 < is.length) (hn : n = is.length) : upd (upd σ p (.cells 0 154 [nodesA l, .arr id ver 0 n 4])) id (.cells ver 157 (is.flatMap encI)) = prg σ p l id ver is := by
  rw [prg_pos h, hn]
theorem prg_none {σ : AHeap} {p id ver i : Nat} {l : List Nd} {is : List In} (h : prg σ p l id ver is i = none) : i ≠ p ∧ σ i = none ∧ (is = [] ∨ i ≠ id) := by
  unfold prg at h
  cases is with
  | nil =>
    simp only [List.length_nil, slh] at h
    obtain ⟨h1, h2⟩ := ne_of_upd h
    exact ⟨fun e => h1 e.symm, h2, .inl rfl⟩
  | cons x r =>
    simp only [List.length_cons, slh] at h
    obtain ⟨h1, h2⟩ := ne_of_upd h
    obtain ⟨h3, h4⟩ := ne_of_upd h2
    exact ⟨fun e => h3 e.symm, h4, .inr fun e => h1 e.symm⟩
theorem prg_is {σ : AHeap} {p id ver i : Nat} {l : List Nd} {is : List In} (h1 : i ≠ p) (h2 : σ i = none) (h3 : is = [] ∨ i ≠ id) : prg σ p l id ver is i = none := by
  unfold prg
  rcases h3 with h | h
  · rw [h]; simp only [List.length_nil, slh]; rw [upd_ne _ _ h1]; exact h2
  · rw [slh_at _ _ _ _ h, upd_ne _ _ h1]; exact h2
theorem prg_slh {σ : AHeap} {p id ver i v n : Nat} {l : List Nd} {is : List In} {ty : TypeId} {cs : List AV} (h1 : i ≠ p) (h3 : n = 0 ∨ is = [] ∨ i ≠ id) : prg (slh σ ty cs n i v) p l id ver is = slh (prg σ p l id ver is) ty cs n i v := by
  cases n with
  | zero => rfl
  | succ n =>
    unfold prg
    simp only [slh]
    rcases h3 with h | h | h
    · exact absurd h (by simp)
    · subst h; simp only [List.length_nil, slh]; exact upd_comm σ _ _ h1
    · cases is with
      | nil => simp only [List.length_nil, slh]; exact upd_comm σ _ _ h1
      | cons x r => simp only [List.length_cons, slh]; rw [upd_comm σ _ _ h1, upd_comm _ _ _ h]
theorem prg_norm {σ : AHeap} {p id ver f : Nat} {l : List Nd} {is : List In} (hf : prg σ p l id ver is f = none) (h : is = [] ∨ okP σ p (id, ver)) : ∃ a b, okP σ p (a, b) ∧ prg σ p l id ver is = prg σ p l a b is := by
  rcases h with h | h
  · obtain ⟨h1, h2, _⟩ := prg_none hf
    subst h
    exact ⟨f, 0, ⟨h2, fun e => h1 e.symm⟩, rfl⟩
  · exact ⟨id, ver, h, rfl⟩
theorem okP_new2 {σ : AHeap} {p id ver i v n : Nat} {ty : TypeId} {cs : List AV} {is : List In} (h : okP σ p (id, ver)) (h2 : is = [] ∨ i ≠ id) : is = [] ∨ okP (slh σ ty cs n i v) p (id, ver) :=
  h2.imp (fun h => h) fun k => okP_up h (.inr k)
def NodeOk (l : List Nd) (f : Nat) : Prop := ∀ (p id ver : Nat) (is : List In) (k : Int) (σ : AHeap), σ p = none → okP σ p (id, ver) → 0 ≤ k → k < f → k < l.length → is.length + cntC l f k ≤ 100000 →
  ASpec Tryz.prog 91 [.ref p 0 0, int k] (prg σ p l id ver is) fun r σ' => PrgR σ p l (.tup []) (nodeC l f k is) r σ'
def KidsOk (l : List Nd) (f : Nat) (ks : List Int) : Prop := ∀ k ∈ ks, 0 ≤ k ∧ k < f ∧ k < l.length

theorem here_spec2 (p id ver : Nat) (l : List Nd) (is : List In) (σ : AHeap) (h0 : σ p = none) (hok : okP σ p (id, ver)) (h : 0 < is.length) :
    ASpec Tryz.prog 119 [.ref p 0 0] (upd (upd σ p (.cells 0 154 [nodesA l, .arr id ver 0 is.length 4])) id (.cells ver 157 (is.flatMap encI))) fun r σ' => r = .ret (int is.length) ∧ σ' = upd (upd σ p (.cells 0 154 [nodesA l, .arr id ver 0 is.length 4])) id (.cells ver 157 (is.flatMap encI)) := by
  have := here_spec p id ver l is σ h0 hok
  rw [prg_pos h] at this
  exact this

end Go.Proofs.YtnahdpjbddfhgaaGreatDoor
set_option linter.unusedVariables false
set_option linter.unusedSimpArgs false
namespace Go.Proofs.YtnahdpjbddfhgaaGreatDoor
open Go Go.AL
set_option maxRecDepth 100000
theorem fixY_step {fs : List Int} {j : Nat} {x : Int} {is : List In} (h : fs[j]? = some x) : (fs.drop (j + 1)).foldl fixY (fixY is x) = (fs.drop j).foldl fixY is := by
  rw [List.drop_eq_getElem_cons (List.getElem?_eq_some_iff.1 h).1, (List.getElem?_eq_some_iff.1 h).2]; rfl
theorem fixXY_step {fs : List Int} {j : Nat} {x : Int} {is : List In} (h : fs[j]? = some x) : (fs.drop (j + 1)).foldl fixXY (fixXY is x) = (fs.drop j).foldl fixXY is := by
  rw [List.drop_eq_getElem_cons (List.getElem?_eq_some_iff.1 h).1, (List.getElem?_eq_some_iff.1 h).2]; rfl

theorem repC_spec (p id ver : Nat) (l : List Nd) (is : List In) (f : Nat) (n : Nd) (hN : NodeOk l f) (hkids : KidsOk l f n.kids) (i0 : Nat) (hno : NdOk i0 n) (hr : n.kids ≠ []) (σ : AHeap) (h0 : σ p = none) (hok : okP σ p (id, ver)) (hB : is.length + (n.min.toNat * cntC l f (kid0 n) + (if n.max < 0 then cntC l f (kid0 n) + 2 else (n.max - n.min).toNat * (cntC l f (kid0 n) + 1))) ≤ 100000) : ASpec Tryz.prog 121 [.ref p 0 0, .agg (encN n)] (prg σ p l id ver is) fun r σ' => PrgR σ p l (.tup []) (repN (nodeC l f) n is) r σ' := by
  obtain ⟨_, hne⟩ := hok
  have hok : okP σ p (id, ver) := ⟨‹_›, hne⟩
  dsimp only at hne
  have hb1 := hno.min0; have hb2 := hno.min8; have hb3 := hno.max8
  obtain ⟨kind, kids, mn, mx, set⟩ := n
  dsimp only at hb1 hb2 hb3 hkids hr hB
  obtain ⟨k, r, rfl⟩ := List.exists_cons_of_ne_nil hr
  have hk0 := hkids k List.mem_cons_self
  change is.length + (mn.toNat * cntC l f k + (if mx < 0 then cntC l f k + 2 else (mx - mn).toNat * (cntC l f k + 1))) ≤ 100000 at hB
  have hcl : (k :: r).length = r.length + 1 := rfl
  unfold encN
  refine aspec_enter (N := 87) (rs := []) Tryz.func121 rfl rfl rfl rfl rfl rfl ?_
  refine awp_seq ?_
  refine awp_region ?_
  refine aops_v rfl rfl rfl (a_box_frz rfl rfl rfl ?_)
  refine aops_nil ?_
  refine thenE_n ?_
  refine awp_seq ?_
  refine awp_seq ?_
  refine awp_region ?_
  first | refine aops_v rfl rfl rfl (a_fieldAddr rfl fk149_2 rfl rfl ?_) | refine aops_v rfl rfl rfl (a_fieldAddr_pin rfl fk149_2 rfl rfl ?_)
  first | refine aops_v rfl rfl rfl (a_load_pin rfl tk3 rfl rfl ?_) | refine aops_v rfl rfl rfl (a_load rfl tk3 rfl HP rfl ?_)
  refine aops_v rfl rfl rfl (a_move rfl rfl ?_)
  refine aops_nil ?_
  refine thenE_n ?_
  refine awp_block ?_
  refine awp_loop (S := Nat × List In × Nat × Nat) (fun x => [(0, .ref p 0 0), (3, .pin [int kind, .lst ((k :: r).map int) (k :: r).length false, int mn, int mx, .lst (set.map rI) set.length false] 0), (9, int mn), (10, int x.1)]) (fun x => prg σ p l x.2.2.1 x.2.2.2 x.2.1) (fun x => x.1 ≤ mn.toNat ∧ okP σ p x.2.2 ∧ repMin (nodeC l f) k (mn.toNat - x.1) x.2.1 = repMin (nodeC l f) k mn.toNat is ∧ x.2.1.length + (mn.toNat - x.1) * cntC l f k = is.length + mn.toNat * cntC l f k) (fun x => mn.toNat - x.1) ⟨(0, is, id, ver), ⟨by simp, hok, by simp, by simp⟩, EL, rfl⟩ ?_
  rintro ⟨j, is1, id1, ver1⟩ ⟨hj, hok1, hrep, hlen⟩
  dsimp only at hj hok1 hrep hlen
  dsimp only
  refine awp_seq ?_
  refine awp_region ?_
  refine aops_v rfl rfl rfl (a_int rfl rfl rfl rfl ?_)
  refine aops_nil ?_
  refine thenE_n ?_
  refine awp_seq ?_
  refine awp_cond rfl (fun h1 => ?_) (fun h1 => ?_)
  · try simp only [zz1, zz2, ne_eq, zz4, zz5, zz6, gt_iff_lt, ge_iff_le, zz9, zz0] at h1
    obtain ⟨q, hq⟩ : ∃ q, mn.toNat - j = q + 1 := ⟨mn.toNat - j - 1, by omega⟩
    rw [hq] at hrep hlen
    rw [Nat.succ_mul] at hlen
    have hms : q * cntC l f k + cntC l f k ≤ mn.toNat * cntC l f k := by rw [← Nat.succ_mul]; exact Nat.mul_le_mul_right _ (by omega)
    refine awp_skip ?_
    refine thenE_n ?_
    refine awp_seq ?_
    refine awp_block ?_
    refine awp_region ?_
    refine aops_v rfl rfl rfl (a_move rfl rfl ?_)
    first | refine aops_v rfl rfl rfl (a_fieldAddr rfl fk149_1 rfl rfl ?_) | refine aops_v rfl rfl rfl (a_fieldAddr_pin rfl fk149_1 rfl rfl ?_)
    first | refine aops_v rfl rfl rfl (a_load_pin rfl tk67 rfl rfl ?_) | refine aops_v rfl rfl rfl (a_load rfl tk67 rfl HP rfl ?_)
    first | refine aops_v rfl rfl rfl (a_indexAddr_lst rfl ek67 rfl rfl NT (by omega) (by omega) ?_) | refine aops_v rfl rfl rfl (a_indexAddr rfl ek67 rfl rfl NT (by omega) (by omega) ?_)
    first | refine aops_v rfl rfl rfl (a_load_pin rfl tk3 rfl rfl ?_) | refine aops_v rfl rfl rfl (a_load rfl tk3 rfl HP rfl ?_)
    refine aops_call_res rfl rfl rfl rfl cf91 rfl (hN p id1 ver1 is1 k σ h0 hok1 hk0.1 hk0.2.1 hk0.2.2 (by omega)) (fun h2 => ?_) ?_
    · change Gst _ _ _ _
      exact absurd h2 (by simp)
    rintro ⟨⟩ ⟨id2, ver2⟩ _ hok2
    dsimp only
    refine aops_nil ?_
    refine blockE_n ?_
    refine thenE_n ?_
    refine awp_region ?_
    first | refine aops_v rfl rfl rfl (a_add rfl rfl rfl (by simp only [Go.AL.lo, Go.AL.hi]; omega) ?_) | refine aops_v rfl rfl rfl (a_int rfl rfl rfl rfl ?_)
    refine aops_v rfl rfl rfl (a_move rfl rfl ?_)
    refine aops_nil ?_
    refine thenE_n ?_
    exact .done ⟨(j + 1, nodeC l f k is1, id2, ver2), ⟨by dsimp only; omega, hok2, by dsimp only; rw [show mn.toNat - (j + 1) = q by omega]; exact hrep, by dsimp only; rw [show mn.toNat - (j + 1) = q by omega, nodeC_len]; omega⟩, by dsimp only; omega, EL, rfl⟩
  · try simp only [zz1, zz2, ne_eq, zz4, zz5, zz6, gt_iff_lt, ge_iff_le, zz9, zz0] at h1
    obtain rfl : j = mn.toNat := by omega
    rw [Nat.sub_self] at hrep hlen
    simp only [repMin, Nat.zero_mul, Nat.add_zero] at hrep hlen
    refine awp_exit ?_
    refine thenE_x ?_
    refine thenE_x ?_
    refine blockE_x ?_
    refine thenE_n ?_
    refine awp_seq ?_
    refine awp_seq ?_
    refine awp_region ?_
    first | refine aops_v rfl rfl rfl (a_fieldAddr rfl fk149_3 rfl rfl ?_) | refine aops_v rfl rfl rfl (a_fieldAddr_pin rfl fk149_3 rfl rfl ?_)
    first | refine aops_v rfl rfl rfl (a_load_pin rfl tk3 rfl rfl ?_) | refine aops_v rfl rfl rfl (a_load rfl tk3 rfl HP rfl ?_)
    refine aops_v rfl rfl rfl (a_int rfl rfl rfl rfl ?_)
    refine aops_nil ?_
    refine thenE_n ?_
    refine awp_cond rfl (fun h3 => ?_) (fun h3 => ?_)
    · try simp only [zz1, zz2, ne_eq, zz4, zz5, zz6, gt_iff_lt, ge_iff_le, zz9, zz0] at h3
      have hmx := h3
      rw [if_pos hmx] at hB
      have hRN : repN (nodeC l f) ⟨kind, k :: r, mn, mx, set⟩ is = starN (nodeC l f) k is1 := by unfold repN; rw [if_pos hmx, hrep]; rfl
      obtain ⟨_, hne1⟩ := hok1
      have hok1 : okP _ p (id1, ver1) := ⟨‹_›, hne1⟩
      dsimp only at hne1
      refine awp_seq ?_
      refine awp_region ?_
      refine aops_v rfl rfl rfl (a_move rfl rfl ?_)
      refine aops_v rfl rfl rfl (a_move rfl rfl ?_)
      refine aops_call_eq rfl rfl rfl rfl cf119 rfl (here_spec p id1 ver1 l is1 σ h0 hok1) ?_
      first | refine aops_v rfl rfl rfl (a_add rfl rfl rfl (by simp only [Go.AL.lo, Go.AL.hi]; omega) ?_) | refine aops_v rfl rfl rfl (a_int rfl rfl rfl rfl ?_)
      refine aops_v rfl rfl rfl (a_build (res := [_, _, _, _]) rfl bk157 rfl rfl ?_)
      refine aops_call_res rfl rfl rfl rfl cf92 rfl ((emit_spec p id1 ver1 l is1 ⟨1, is1.length + 1, 0, []⟩ σ h0 hok1 (by first | omega | (simp [splitI]; omega))).wk (by refine .cons wk_refl (.cons (wk_agg ?_) .nil); repeat (first | exact .nil | refine .cons wk_refl ?_ | refine .cons wk_nil ?_ | refine .cons wk_ex ?_))) (fun h4 => ?_) ?_
      · change Gst _ _ _ _
        exact absurd h4 (by simp)
      rintro ⟨⟩ ⟨id2, ver2⟩ _ hok2
      dsimp only
      refine aops_v rfl rfl rfl (a_assign rfl rfl ?_)
      refine aops_nil ?_
      refine thenE_n ?_
      refine awp_seq ?_
      refine awp_region ?_
      refine aops_v rfl rfl rfl (a_move rfl rfl ?_)
      first | refine aops_v rfl rfl rfl (a_fieldAddr rfl fk149_1 rfl rfl ?_) | refine aops_v rfl rfl rfl (a_fieldAddr_pin rfl fk149_1 rfl rfl ?_)
      first | refine aops_v rfl rfl rfl (a_load_pin rfl tk67 rfl rfl ?_) | refine aops_v rfl rfl rfl (a_load rfl tk67 rfl HP rfl ?_)
      first | refine aops_v rfl rfl rfl (a_indexAddr_lst rfl ek67 rfl rfl NT (by omega) (by omega) ?_) | refine aops_v rfl rfl rfl (a_indexAddr rfl ek67 rfl rfl NT (by omega) (by omega) ?_)
      first | refine aops_v rfl rfl rfl (a_load_pin rfl tk3 rfl rfl ?_) | refine aops_v rfl rfl rfl (a_load rfl tk3 rfl HP rfl ?_)
      refine aops_call_res rfl rfl rfl rfl cf91 rfl (hN p id2 ver2 (splitI is1) k σ h0 hok2 hk0.1 hk0.2.1 hk0.2.2 (by rw [splitI_len]; omega)) (fun h5 => ?_) ?_
      · change Gst _ _ _ _
        exact absurd h5 (by simp)
      rintro ⟨⟩ ⟨id3, ver3⟩ _ hok3
      dsimp only
      refine aops_nil ?_
      refine thenE_n ?_
      refine awp_seq ?_
      refine awp_region ?_
      refine aops_v rfl rfl rfl (a_move rfl rfl ?_)
      refine aops_v rfl rfl rfl (a_move rfl rfl ?_)
      refine aops_v rfl rfl rfl (a_move rfl rfl ?_)
      refine aops_v rfl rfl rfl (a_build (res := [_, _, _, _]) rfl bk157 rfl rfl ?_)
      refine aops_call_res rfl rfl rfl rfl cf92 rfl ((emit_spec p id3 ver3 l (nodeC l f k (splitI is1)) ⟨1, is1.length, is1.length, []⟩ σ h0 hok3 (by rw [nodeC_len, splitI_len]; omega)).wk (by refine .cons wk_refl (.cons (wk_agg ?_) .nil); repeat (first | exact .nil | refine .cons wk_refl ?_ | refine .cons wk_nil ?_ | refine .cons wk_ex ?_))) (fun h6 => ?_) ?_
      · change Gst _ _ _ _
        exact absurd h6 (by simp)
      rintro ⟨⟩ ⟨id4, ver4⟩ _ hok4
      dsimp only
      obtain ⟨_, hne4⟩ := hok4
      have hok4 : okP _ p (id4, ver4) := ⟨‹_›, hne4⟩
      dsimp only at hne4
      obtain ⟨is3, h3⟩ : ∃ q, nodeC l f k (splitI is1) ++ [⟨1, is1.length, is1.length, []⟩] = q := ⟨_, rfl⟩
      have h3l : is3.length = is1.length + cntC l f k + 2 := by rw [← h3, List.length_append, nodeC_len, splitI_len]; simp; omega
      have hpos : 0 < is3.length := by omega
      rw [h3, prg_pos hpos]
      refine aops_nil ?_
      refine thenE_n ?_
      refine awp_seq ?_
      refine awp_draw [0, 1, 3, 7, 0, 0, 32, 127, 255, 511] 9 rfl (by decide +kernel) (by decide +kernel) (by decide +kernel) rfl ?_
      simp only [List.take_succ_cons, List.take_zero, List.take_nil, List.drop_succ_cons, List.drop_zero, List.drop_nil]
      refine dp_val rfl (apure_val (a_move rfl rfl pure_done)) rfl ?_
      first | refine dp_val rfl (apure_val (a_nilCheck rfl rfl pure_done)) rfl ?_ | refine dp_val rfl (apure_val (a_nilCheck_pin rfl rfl pure_done)) rfl ?_ | refine dp_val rfl (apure_val (a_nilCheck_clo rfl rfl pure_done)) rfl ?_
      first | refine dp_val rfl (apure_val (a_fieldAddr rfl fk154_1 rfl rfl pure_done)) rfl ?_ | refine dp_val rfl (apure_val (a_fieldAddr_pin rfl fk154_1 rfl rfl pure_done)) rfl ?_
      first | refine dp_val rfl (apure_val (a_load_pin rfl tk152 rfl rfl pure_done)) rfl ?_ | refine dp_val rfl (apure_val (a_load rfl tk152 rfl HP rfl pure_done)) rfl ?_
      refine dp_val rfl (apure_val (a_move rfl rfl pure_done)) rfl ?_
      refine dp_val rfl (apure_val (a_move rfl rfl pure_done)) rfl ?_
      refine dp_val rfl (apure_call rfl cf119 rfl (here_spec2 p id4 ver4 l is3 σ h0 hok4 hpos)) rfl ?_
      first | refine dp_val rfl (apure_val (a_indexAddr_lst rfl ek152 rfl rfl NT (by omega) (by omega) pure_done)) rfl ?_ | refine dp_val rfl (apure_val (a_indexAddr rfl ek152 rfl rfl NT (by omega) (by omega) pure_done)) rfl ?_
      first | refine dp_val rfl (apure_val (a_fieldAddr rfl fk157_2 rfl rfl pure_done)) rfl ?_ | refine dp_val rfl (apure_val (a_fieldAddr_pin rfl fk157_2 rfl rfl pure_done)) rfl ?_
      change AOps _ _ _ _ _ _ _
      refine aops_s rfl rfl (a_store_n (cs2 := (setY is3 is1.length is3.length).flatMap encI) rfl tk3 rfl rfl (upd_same _ _ _) rfl rfl (by rw [flat_len encI_len]; omega) (by rw [Nat.zero_add]; exact stv_Y (by omega)) ?_)
      rw [upd_upd, prg_same (by rw [setY_len]; exact hpos) (by rw [setY_len])]
      refine aops_nil ?_
      refine thenE_n ?_
      refine awp_ret ?_
      change Gst _ _ _ _
      refine fin0 rfl ?_
      rw [hRN, starN, h3]
      exact prgR_ok hok4
    · try simp only [zz1, zz2, ne_eq, zz4, zz5, zz6, gt_iff_lt, ge_iff_le, zz9, zz0] at h3
      have hmx := h3
      rw [if_neg (by omega)] at hB
      have hRN : repN (nodeC l f) ⟨kind, k :: r, mn, mx, set⟩ is = optN (nodeC l f) k (mx - mn).toNat is1 := by unfold repN; rw [if_neg (by simp only; omega), hrep]; rfl
      obtain ⟨M, hM⟩ : ∃ M, (mx - mn).toNat = M := ⟨_, rfl⟩
      rw [hM] at hB hRN
      refine awp_skip ?_
      refine thenE_n ?_
      refine awp_seq ?_
      refine awp_region ?_
      refine aops_v rfl rfl rfl (a_assign rfl rfl ?_)
      refine aops_nil ?_
      refine thenE_n ?_
      refine awp_seq ?_
      refine awp_seq ?_
      refine awp_region ?_
      first | refine aops_v rfl rfl rfl (a_fieldAddr rfl fk149_3 rfl rfl ?_) | refine aops_v rfl rfl rfl (a_fieldAddr_pin rfl fk149_3 rfl rfl ?_)
      first | refine aops_v rfl rfl rfl (a_load_pin rfl tk3 rfl rfl ?_) | refine aops_v rfl rfl rfl (a_load rfl tk3 rfl HP rfl ?_)
      first | refine aops_v rfl rfl rfl (a_fieldAddr rfl fk149_2 rfl rfl ?_) | refine aops_v rfl rfl rfl (a_fieldAddr_pin rfl fk149_2 rfl rfl ?_)
      first | refine aops_v rfl rfl rfl (a_load_pin rfl tk3 rfl rfl ?_) | refine aops_v rfl rfl rfl (a_load rfl tk3 rfl HP rfl ?_)
      first | refine aops_v rfl rfl rfl (a_sub rfl rfl rfl (by simp only [Go.AL.lo, Go.AL.hi]; omega) ?_) | refine aops_v rfl rfl rfl (a_int rfl rfl rfl rfl ?_)
      refine aops_v rfl rfl rfl (a_move rfl rfl ?_)
      refine aops_nil ?_
      refine thenE_n ?_
      refine awp_block ?_
      refine awp_fresh fun j0 hj0 => ?_
      obtain ⟨hj0p, hj0n, _⟩ := prg_none hj0
      refine awp_loop (S := Nat × List In × List Int × (Nat × Nat) × (Nat × Nat)) (fun x => [(0, .ref p 0 0), (3, .pin [int kind, .lst ((k :: r).map int) (k :: r).length false, int mn, int mx, .lst (set.map rI) set.length false] 0), (52, int (mx - mn)), (53, int x.1), (5, slv 1 (x.2.2.1.map int) x.2.2.1.length x.2.2.2.1.1 x.2.2.2.1.2)]) (fun x => prg (slh σ 3 (x.2.2.1.map int) x.2.2.1.length x.2.2.2.1.1 x.2.2.2.1.2) p l x.2.2.2.2.1 x.2.2.2.2.2 x.2.1) (fun x => x.1 ≤ M ∧ (x.2.1 = [] ∨ okP (slh σ 3 (x.2.2.1.map int) x.2.2.1.length x.2.2.2.1.1 x.2.2.2.1.2) p x.2.2.2.2) ∧ σ x.2.2.2.1.1 = none ∧ x.2.2.2.1.1 ≠ p ∧ repMax (nodeC l f) k (M - x.1) x.2.1 x.2.2.1 = repMax (nodeC l f) k M is1 [] ∧ x.2.1.length + (M - x.1) * (cntC l f k + 1) = is1.length + M * (cntC l f k + 1) ∧ x.2.2.1.length = x.1 ∧ ∀ z ∈ x.2.2.1, 0 ≤ z ∧ z < x.2.1.length) (fun x => M - x.1) ⟨(0, is1, [], (j0, 0), (id1, ver1)), ⟨by simp, .inr hok1, hj0n, hj0p, by simp, by simp, rfl, by simp⟩, EL, rfl⟩ ?_
      rintro ⟨j, is2, fs, ⟨i, v⟩, ⟨id1', ver1'⟩⟩ ⟨hj, hok1', hin, hip, hrm, hl2, hfl, hfs⟩
      dsimp only at hj hok1' hin hip hrm hl2 hfl hfs
      dsimp only
      refine awp_fresh fun ff hf => ?_
      obtain ⟨id1, ver1, hok1, he1⟩ := prg_norm hf hok1'
      rw [he1]
      obtain ⟨hok2, hor⟩ := okP_slh hok1
      have h0' : (slh σ 3 (fs.map int) fs.length i v) p = none := slh_p h0 hip
      refine awp_seq ?_
      refine awp_region ?_
      refine aops_v rfl rfl rfl (a_int rfl rfl rfl rfl ?_)
      refine aops_nil ?_
      refine thenE_n ?_
      refine awp_seq ?_
      refine awp_cond rfl (fun h7 => ?_) (fun h7 => ?_)
      · try simp only [zz1, zz2, ne_eq, zz4, zz5, zz6, gt_iff_lt, ge_iff_le, zz9, zz0] at h7
        obtain ⟨q, hq⟩ : ∃ q, M - j = q + 1 := ⟨M - j - 1, by omega⟩
        rw [hq] at hrm hl2
        rw [Nat.succ_mul] at hl2
        have hms : q * (cntC l f k + 1) + (cntC l f k + 1) ≤ M * (cntC l f k + 1) := by rw [← Nat.succ_mul]; exact Nat.mul_le_mul_right _ (by omega)
        refine awp_skip ?_
        refine thenE_n ?_
        refine awp_seq ?_
        refine awp_block ?_
        refine awp_seq ?_
        refine awp_region ?_
        refine aops_v rfl rfl rfl (a_move rfl rfl ?_)
        refine aops_v rfl rfl rfl (a_move rfl rfl ?_)
        refine aops_v rfl rfl rfl (a_move rfl rfl ?_)
        refine aops_call_eq rfl rfl rfl rfl cf119 rfl (here_spec p id1 ver1 l is2 _ h0' hok1) ?_
        first | refine aops_v rfl rfl rfl (a_add rfl rfl rfl (by simp only [Go.AL.lo, Go.AL.hi]; omega) ?_) | refine aops_v rfl rfl rfl (a_int rfl rfl rfl rfl ?_)
        refine aops_v rfl rfl rfl (a_build (res := [_, _, _, _]) rfl bk157 rfl rfl ?_)
        refine aops_call_res rfl rfl rfl rfl cf92 rfl ((emit_spec p id1 ver1 l is2 ⟨1, is2.length + 1, 0, []⟩ _ h0' hok1 (by omega)).wk (by refine .cons wk_refl (.cons (wk_agg ?_) .nil); repeat (first | exact .nil | refine .cons wk_refl ?_ | refine .cons wk_nil ?_ | refine .cons wk_ex ?_))) (fun h8 => ?_) ?_
        · change Gst _ _ _ _
          exact absurd h8 (by simp)
        rintro ⟨⟩ ⟨id2, ver2⟩ _ hokc
        dsimp only
        obtain ⟨hokb, horb⟩ := okP_slh hokc
        refine aops_v rfl rfl rfl (a_buildSlice (res := [_]) rfl sk67 rfl rfl rfl ?_)
        rw [prg_slh hip (horb.imp (fun h => h) .inr)]
        refine aops_v rfl rfl rfl (a_append_slp rfl sk67 rfl (by simp) rfl (.lst rfl) rfl (by omega) (by simp only [maxLen]; omega) (by omega) (fun h => prg_is hip hin (.inr (horb.resolve_left (by omega)))) ?_)
        intro i2 v2 hi2
        obtain ⟨hi2p, hi2n, hi2o⟩ := prg_none hi2
        rw [show fs.map int ++ [int is2.length] = (fs ++ [(is2.length : Int)]).map int by simp, show fs.length + 1 = (fs ++ [(is2.length : Int)]).length by simp, ← prg_slh hi2p (.inr hi2o)]
        have hi2d := hi2o.resolve_left (by simp)
        refine aops_v rfl rfl rfl (a_assign rfl rfl ?_)
        refine aops_nil ?_
        refine thenE_n ?_
        refine awp_region ?_
        refine aops_v rfl rfl rfl (a_move rfl rfl ?_)
        first | refine aops_v rfl rfl rfl (a_fieldAddr rfl fk149_1 rfl rfl ?_) | refine aops_v rfl rfl rfl (a_fieldAddr_pin rfl fk149_1 rfl rfl ?_)
        first | refine aops_v rfl rfl rfl (a_load_pin rfl tk67 rfl rfl ?_) | refine aops_v rfl rfl rfl (a_load rfl tk67 rfl HP rfl ?_)
        first | refine aops_v rfl rfl rfl (a_indexAddr_lst rfl ek67 rfl rfl NT (by omega) (by omega) ?_) | refine aops_v rfl rfl rfl (a_indexAddr rfl ek67 rfl rfl NT (by omega) (by omega) ?_)
        first | refine aops_v rfl rfl rfl (a_load_pin rfl tk3 rfl rfl ?_) | refine aops_v rfl rfl rfl (a_load rfl tk3 rfl HP rfl ?_)
        refine aops_call_res rfl rfl rfl rfl cf91 rfl (hN p id2 ver2 (splitI is2) k _ (slh_p h0 hi2p) (okP_up hokb (.inr hi2d)) hk0.1 hk0.2.1 hk0.2.2 (by rw [splitI_len]; omega)) (fun h9 => ?_) ?_
        · change Gst _ _ _ _
          exact absurd h9 (by simp)
        rintro ⟨⟩ ⟨id3, ver3⟩ _ hok3
        dsimp only
        refine aops_nil ?_
        refine blockE_n ?_
        refine thenE_n ?_
        refine awp_region ?_
        first | refine aops_v rfl rfl rfl (a_add rfl rfl rfl (by simp only [Go.AL.lo, Go.AL.hi]; omega) ?_) | refine aops_v rfl rfl rfl (a_int rfl rfl rfl rfl ?_)
        refine aops_v rfl rfl rfl (a_move rfl rfl ?_)
        refine aops_nil ?_
        refine thenE_n ?_
        exact .done ⟨(j + 1, nodeC l f k (splitI is2), fs ++ [(is2.length : Int)], (i2, v2), (id3, ver3)), ⟨by dsimp only; omega, .inr hok3, hi2n, hi2p, by dsimp only; rw [show M - (j + 1) = q by omega]; exact hrm, by dsimp only; rw [show M - (j + 1) = q by omega, nodeC_len, splitI_len]; omega, by simp [hfl], fun z hz => by rw [nodeC_len, splitI_len]; rcases List.mem_append.1 hz with hz | hz; exact ⟨(hfs z hz).1, by have := (hfs z hz).2; omega⟩; simp at hz; omega⟩, by dsimp only; omega, EL, rfl⟩
      · try simp only [zz1, zz2, ne_eq, zz4, zz5, zz6, gt_iff_lt, ge_iff_le, zz9, zz0] at h7
        obtain rfl : j = M := by omega
        rw [Nat.sub_self] at hrm hl2
        simp only [repMax, Nat.zero_mul, Nat.add_zero] at hrm hl2
        refine awp_exit ?_
        refine thenE_x ?_
        refine thenE_x ?_
        refine blockE_x ?_
        refine thenE_n ?_
        refine awp_seq ?_
        have hor2 : fs.length = 0 ∨ is2 = [] ∨ i ≠ id1 := hor.imp (fun h => h) .inr
        rw [prg_slh hip hor2]
        refine AWp.ghost (gst_slp 5 rfl (by simp) (fun h => prg_is hip hin (.inr (hor.resolve_left (by omega)))) (.done ?_))
        have hon : optN (nodeC l f) k j is1 = fs.foldl fixY is2 := by unfold optN; rw [← hrm]
        obtain ⟨_, hne2⟩ := hok2
        have hok2 : okP σ p (id1, ver1) := ⟨‹_›, hne2⟩
        dsimp only at hne2
        refine awp_region ?_
        refine aops_v rfl rfl rfl (a_move rfl rfl ?_)
        first | refine aops_v rfl rfl rfl (a_len_lst rfl isl67 rfl ?_) | refine aops_v rfl rfl rfl (a_len rfl isl67 rfl ?_) | refine aops_v rfl rfl rfl (a_len_slg rfl isl67 rfl ?_) | refine aops_v rfl rfl rfl (a_len_nil rfl isl67 rfl ?_)
        refine aops_v rfl rfl rfl (a_move rfl rfl ?_)
        refine aops_nil ?_
        refine thenE_n ?_
        refine awp_block ?_
        refine awp_loop (S := Nat × List In) (fun x => [(0, .ref p 0 0), (71, .lst (fs.map int) fs.length false), (72, int fs.length), (73, int x.1)]) (fun x => prg σ p l id1 ver1 x.2) (fun x => x.1 ≤ fs.length ∧ (fs.drop x.1).foldl fixY x.2 = fs.foldl fixY is2 ∧ x.2.length = is2.length) (fun x => fs.length - x.1) ⟨(0, is2), ⟨by simp, by simp, rfl⟩, EL, rfl⟩ ?_
        rintro ⟨g, is3⟩ ⟨hg, hfo, h3l⟩
        dsimp only at hg hfo h3l
        dsimp only
        refine awp_seq ?_
        refine awp_region ?_
        refine aops_v rfl rfl rfl (a_int rfl rfl rfl rfl ?_)
        refine aops_nil ?_
        refine thenE_n ?_
        refine awp_seq ?_
        refine awp_cond rfl (fun h10 => ?_) (fun h10 => ?_)
        · try simp only [zz1, zz2, ne_eq, zz4, zz5, zz6, gt_iff_lt, ge_iff_le, zz9, zz0] at h10
          obtain ⟨z, hz⟩ : ∃ z, fs[g]? = some z := ⟨_, List.getElem?_eq_getElem (by omega)⟩
          obtain ⟨hz0, hz1⟩ := hfs z (List.mem_of_getElem? hz)
          have hpos : 0 < is3.length := by omega
          refine awp_skip ?_
          refine thenE_n ?_
          refine awp_seq ?_
          refine awp_block ?_
          refine awp_seq ?_
          refine awp_region ?_
          first | refine aops_v rfl rfl rfl (a_indexAddr_lst rfl ek67 rfl rfl NT (by omega) (by omega) ?_) | refine aops_v rfl rfl rfl (a_indexAddr rfl ek67 rfl rfl NT (by omega) (by omega) ?_)
          refine aops_v rfl rfl rfl (a_load_pin rfl tk3 rfl (ldv_map hz) ?_)
          refine aops_v rfl rfl rfl (a_assign rfl rfl ?_)
          refine aops_nil ?_
          refine thenE_n ?_
          rw [prg_pos hpos]
          refine awp_draw [0, 1, 3, 7, 0, 0, 32, 127, 255, 511] 9 rfl (by decide +kernel) (by decide +kernel) (by decide +kernel) rfl ?_
          simp only [List.take_succ_cons, List.take_zero, List.take_nil, List.drop_succ_cons, List.drop_zero, List.drop_nil]
          refine dp_val rfl (apure_val (a_move rfl rfl pure_done)) rfl ?_
          first | refine dp_val rfl (apure_val (a_nilCheck rfl rfl pure_done)) rfl ?_ | refine dp_val rfl (apure_val (a_nilCheck_pin rfl rfl pure_done)) rfl ?_ | refine dp_val rfl (apure_val (a_nilCheck_clo rfl rfl pure_done)) rfl ?_
          first | refine dp_val rfl (apure_val (a_fieldAddr rfl fk154_1 rfl rfl pure_done)) rfl ?_ | refine dp_val rfl (apure_val (a_fieldAddr_pin rfl fk154_1 rfl rfl pure_done)) rfl ?_
          first | refine dp_val rfl (apure_val (a_load_pin rfl tk152 rfl rfl pure_done)) rfl ?_ | refine dp_val rfl (apure_val (a_load rfl tk152 rfl HP rfl pure_done)) rfl ?_
          refine dp_val rfl (apure_val (a_move rfl rfl pure_done)) rfl ?_
          refine dp_val rfl (apure_val (a_move rfl rfl pure_done)) rfl ?_
          refine dp_val rfl (apure_call rfl cf119 rfl (here_spec2 p id1 ver1 l is3 σ h0 hok2 hpos)) rfl ?_
          first | refine dp_val rfl (apure_val (a_indexAddr_lst rfl ek152 rfl rfl NT (by omega) (by omega) pure_done)) rfl ?_ | refine dp_val rfl (apure_val (a_indexAddr rfl ek152 rfl rfl NT (by omega) (by omega) pure_done)) rfl ?_
          first | refine dp_val rfl (apure_val (a_fieldAddr rfl fk157_2 rfl rfl pure_done)) rfl ?_ | refine dp_val rfl (apure_val (a_fieldAddr_pin rfl fk157_2 rfl rfl pure_done)) rfl ?_
          change AOps _ _ _ _ _ _ _
          refine aops_s rfl rfl (a_store_n (cs2 := (setY is3 z.toNat is3.length).flatMap encI) rfl tk3 rfl rfl (upd_same _ _ _) rfl rfl (by rw [flat_len encI_len]; omega) (by rw [Nat.zero_add]; exact stv_Y (by omega)) ?_)
          rw [upd_upd, prg_same (by rw [setY_len]; exact hpos) (by rw [setY_len])]
          refine aops_nil ?_
          refine blockE_n ?_
          refine thenE_n ?_
          refine awp_region ?_
          first | refine aops_v rfl rfl rfl (a_add rfl rfl rfl (by simp only [Go.AL.lo, Go.AL.hi]; omega) ?_) | refine aops_v rfl rfl rfl (a_int rfl rfl rfl rfl ?_)
          refine aops_v rfl rfl rfl (a_move rfl rfl ?_)
          refine aops_nil ?_
          refine thenE_n ?_
          exact .done ⟨(g + 1, setY is3 z.toNat is3.length), ⟨by dsimp only; omega, by dsimp only; rw [← hfo, ← fixY_step hz]; rfl, by dsimp only; rw [setY_len]; exact h3l⟩, by dsimp only; omega, EL, rfl⟩
        · try simp only [zz1, zz2, ne_eq, zz4, zz5, zz6, gt_iff_lt, ge_iff_le, zz9, zz0] at h10
          obtain rfl : g = fs.length := by omega
          rw [List.drop_length] at hfo
          refine awp_exit ?_
          refine thenE_x ?_
          refine thenE_x ?_
          refine blockE_x ?_
          change Gst _ _ _ _
          refine fin0 rfl ?_
          rw [hRN, hon, ← hfo]
          exact prgR_ok hok2

end Go.Proofs.YtnahdpjbddfhgaaGreatDoor
set_option linter.unusedVariables false
set_option linter.unusedSimpArgs false
namespace Go.Proofs.YtnahdpjbddfhgaaGreatDoor
open Go Go.AL
set_option maxRecDepth 100000
theorem altC_one {node : Int → List In → List In} {k : Int} {is : List In} {outs : List Int} : altC node [k] is outs = altC node [] (node k is) outs := rfl
theorem altC_more {node : Int → List In → List In} {k k2 : Int} {r : List Int} {is : List In} {outs : List Int} : altC node (k :: k2 :: r) is outs =
    altC node (k2 :: r) (setY (node k (splitI is) ++ ([⟨1, 0, 0, []⟩] : List In)) is.length (node k (splitI is) ++ ([⟨1, 0, 0, []⟩] : List In)).length) (outs ++ [((node k (splitI is)).length : Int)]) := rfl
theorem drop_c {l : List Int} {j : Nat} {k : Int} (h : l[j]? = some k) : l.drop j = k :: l.drop (j + 1) := by
  rw [List.drop_eq_getElem_cons (List.getElem?_eq_some_iff.1 h).1, (List.getElem?_eq_some_iff.1 h).2]

theorem altC_spec (p id ver : Nat) (l : List Nd) (is : List In) (f : Nat) (ks : List Int) (hN : NodeOk l f) (hkids : KidsOk l f ks) (σ : AHeap) (h0 : σ p = none) (hok : okP σ p (id, ver)) (hB : is.length + (ks.map (cntC l f)).sum + 2 * (ks.length - 1) ≤ 100000) (hkl : ks.length ≤ 1000000) : ASpec Tryz.prog 120 [.ref p 0 0, .lst (ks.map int) ks.length false] (prg σ p l id ver is) fun r σ' => PrgR σ p l (.tup []) (altN (nodeC l f) ks is) r σ' := by
  obtain ⟨_, hne⟩ := hok
  have hok : okP σ p (id, ver) := ⟨‹_›, hne⟩
  dsimp only at hne
  refine aspec_enter (N := 74) (rs := []) Tryz.func120 rfl rfl rfl rfl rfl rfl ?_
  refine awp_seq ?_
  refine awp_region ?_
  refine aops_v rfl rfl rfl (a_assign rfl rfl ?_)
  refine aops_nil ?_
  refine thenE_n ?_
  refine awp_seq ?_
  refine awp_seq ?_
  refine awp_region ?_
  refine aops_v rfl rfl rfl (a_move rfl rfl ?_)
  first | refine aops_v rfl rfl rfl (a_len_lst rfl isl67 rfl ?_) | refine aops_v rfl rfl rfl (a_len rfl isl67 rfl ?_) | refine aops_v rfl rfl rfl (a_len_slg rfl isl67 rfl ?_) | refine aops_v rfl rfl rfl (a_len_nil rfl isl67 rfl ?_)
  refine aops_v rfl rfl rfl (a_move rfl rfl ?_)
  refine aops_nil ?_
  refine thenE_n ?_
  refine awp_block ?_
  refine awp_fresh fun j0 hj0 => ?_
  obtain ⟨hj0p, hj0n, _⟩ := prg_none hj0
  refine awp_loop (S := Nat × List In × List Int × (Nat × Nat) × (Nat × Nat)) (fun x => [(0, .ref p 0 0), (1, .lst (ks.map int) ks.length false), (10, .lst (ks.map int) ks.length false), (11, int ks.length), (12, int x.1), (4, slv 1 (x.2.2.1.map int) x.2.2.1.length x.2.2.2.1.1 x.2.2.2.1.2)]) (fun x => prg (slh σ 3 (x.2.2.1.map int) x.2.2.1.length x.2.2.2.1.1 x.2.2.2.1.2) p l x.2.2.2.2.1 x.2.2.2.2.2 x.2.1) (fun x => x.1 ≤ ks.length ∧ (x.2.1 = [] ∨ okP (slh σ 3 (x.2.2.1.map int) x.2.2.1.length x.2.2.2.1.1 x.2.2.2.1.2) p x.2.2.2.2) ∧ σ x.2.2.2.1.1 = none ∧ x.2.2.2.1.1 ≠ p ∧ altC (nodeC l f) (ks.drop x.1) x.2.1 x.2.2.1 = altC (nodeC l f) ks is [] ∧ x.2.1.length + ((ks.drop x.1).map (cntC l f)).sum + 2 * ((ks.drop x.1).length - 1) ≤ 100000 ∧ x.2.2.1.length ≤ x.1 ∧ ∀ z ∈ x.2.2.1, 0 ≤ z ∧ z < x.2.1.length) (fun x => ks.length - x.1) ⟨(0, is, [], (j0, 0), (id, ver)), ⟨by simp, .inr hok, hj0n, hj0p, by simp, by simpa using hB, by simp, by simp⟩, EL, rfl⟩ ?_
  rintro ⟨j, is1, outs, ⟨i, v⟩, ⟨id1', ver1'⟩⟩ ⟨hj, hok1', hin, hip, hac, hl2, hol, hos⟩
  dsimp only at hj hok1' hin hip hac hl2 hol hos
  dsimp only
  refine awp_fresh fun ff hf => ?_
  obtain ⟨id1, ver1, hok1, he1⟩ := prg_norm hf hok1'
  rw [he1]
  obtain ⟨hok2, hor⟩ := okP_slh hok1
  have h0' : (slh σ 3 (outs.map int) outs.length i v) p = none := slh_p h0 hip
  refine awp_seq ?_
  refine awp_region ?_
  refine aops_v rfl rfl rfl (a_int rfl rfl rfl rfl ?_)
  refine aops_nil ?_
  refine thenE_n ?_
  refine awp_seq ?_
  refine awp_cond rfl (fun h1 => ?_) (fun h1 => ?_)
  · try simp only [zz1, zz2, ne_eq, zz4, zz5, zz6, gt_iff_lt, ge_iff_le, zz9, zz0] at h1
    obtain ⟨k, hk⟩ : ∃ k, ks[j]? = some k := ⟨_, List.getElem?_eq_getElem (by omega)⟩
    have hd := drop_c hk
    have hk0 := hkids k (List.mem_of_getElem? hk)
    rw [hd] at hac hl2
    simp only [List.map_cons, List.sum_cons, List.length_cons] at hl2
    refine awp_skip ?_
    refine thenE_n ?_
    refine awp_seq ?_
    refine awp_block ?_
    refine awp_seq ?_
    refine awp_region ?_
    refine aops_v rfl rfl rfl (a_move rfl rfl ?_)
    first | refine aops_v rfl rfl rfl (a_indexAddr_lst rfl ek67 rfl rfl NT (by omega) (by omega) ?_) | refine aops_v rfl rfl rfl (a_indexAddr rfl ek67 rfl rfl NT (by omega) (by omega) ?_)
    refine aops_v rfl rfl rfl (a_load_pin rfl tk3 rfl (ldv_map hk) ?_)
    refine aops_v rfl rfl rfl (a_assign rfl rfl ?_)
    refine aops_v rfl rfl rfl (a_assign rfl rfl ?_)
    refine aops_nil ?_
    refine thenE_n ?_
    refine awp_seq ?_
    refine awp_region ?_
    refine aops_v rfl rfl rfl (a_assign rfl rfl ?_)
    refine aops_nil ?_
    refine thenE_n ?_
    refine awp_seq ?_
    refine awp_seq ?_
    refine awp_region ?_
    refine aops_v rfl rfl rfl (a_move rfl rfl ?_)
    refine aops_v rfl rfl rfl (a_move rfl rfl ?_)
    first | refine aops_v rfl rfl rfl (a_len_lst rfl isl67 rfl ?_) | refine aops_v rfl rfl rfl (a_len rfl isl67 rfl ?_) | refine aops_v rfl rfl rfl (a_len_slg rfl isl67 rfl ?_) | refine aops_v rfl rfl rfl (a_len_nil rfl isl67 rfl ?_)
    first | refine aops_v rfl rfl rfl (a_sub rfl rfl rfl (by simp only [Go.AL.lo, Go.AL.hi]; omega) ?_) | refine aops_v rfl rfl rfl (a_int rfl rfl rfl rfl ?_)
    refine aops_v rfl rfl rfl (a_int rfl rfl rfl rfl ?_)
    refine aops_nil ?_
    refine thenE_n ?_
    refine awp_cond rfl (fun h2 => ?_) (fun h2 => ?_)
    · try simp only [zz1, zz2, ne_eq, zz4, zz5, zz6, gt_iff_lt, ge_iff_le, zz9, zz0] at h2
      obtain ⟨k2, hk2⟩ : ∃ k, ks[j + 1]? = some k := ⟨_, List.getElem?_eq_getElem (by omega)⟩
      have hd2 := drop_c hk2
      rw [hd2] at hac hl2
      simp only [List.map_cons, List.sum_cons, List.length_cons] at hl2
      refine awp_region ?_
      refine aops_v rfl rfl rfl (a_move rfl rfl ?_)
      refine aops_v rfl rfl rfl (a_move rfl rfl ?_)
      refine aops_call_eq rfl rfl rfl rfl cf119 rfl (here_spec p id1 ver1 l is1 _ h0' hok1) ?_
      first | refine aops_v rfl rfl rfl (a_add rfl rfl rfl (by simp only [Go.AL.lo, Go.AL.hi]; omega) ?_) | refine aops_v rfl rfl rfl (a_int rfl rfl rfl rfl ?_)
      refine aops_v rfl rfl rfl (a_build (res := [_, _, _, _]) rfl bk157 rfl rfl ?_)
      refine aops_call_res rfl rfl rfl rfl cf92 rfl ((emit_spec p id1 ver1 l is1 ⟨1, is1.length + 1, 0, []⟩ _ h0' hok1 (by omega)).wk (by refine .cons wk_refl (.cons (wk_agg ?_) .nil); repeat (first | exact .nil | refine .cons wk_refl ?_ | refine .cons wk_nil ?_ | refine .cons wk_ex ?_))) (fun h3 => ?_) ?_
      · change Gst _ _ _ _
        exact absurd h3 (by simp)
      rintro ⟨⟩ ⟨id2, ver2⟩ _ hok2
      dsimp only
      refine aops_v rfl rfl rfl (a_assign rfl rfl ?_)
      refine aops_nil ?_
      refine thenE_n ?_
      refine awp_seq ?_
      refine awp_region ?_
      refine aops_v rfl rfl rfl (a_move rfl rfl ?_)
      refine aops_v rfl rfl rfl (a_move rfl rfl ?_)
      refine aops_call_res rfl rfl rfl rfl cf91 rfl (hN p id2 ver2 (splitI is1) k _ h0' hok2 hk0.1 hk0.2.1 hk0.2.2 (by rw [splitI_len]; omega)) (fun h4 => ?_) ?_
      · change Gst _ _ _ _
        exact absurd h4 (by simp)
      rintro ⟨⟩ ⟨id3, ver3⟩ _ hok3
      dsimp only
      refine aops_nil ?_
      refine thenE_n ?_
      refine awp_seq ?_
      refine awp_region ?_
      refine aops_v rfl rfl rfl (a_move rfl rfl ?_)
      refine aops_v rfl rfl rfl (a_int rfl rfl rfl rfl ?_)
      refine aops_nil ?_
      refine thenE_n ?_
      refine awp_cond rfl (fun h5 => ?_) (fun h5 => ?_)
      · try simp only [zz1, zz2, ne_eq, zz4, zz5, zz6, gt_iff_lt, ge_iff_le, zz9, zz0] at h5
        refine awp_seq ?_
        refine awp_region ?_
        refine aops_v rfl rfl rfl (a_move rfl rfl ?_)
        refine aops_v rfl rfl rfl (a_move rfl rfl ?_)
        refine aops_v rfl rfl rfl (a_build (res := [_, _, _, _]) rfl bk157 rfl rfl ?_)
        refine aops_call_res rfl rfl rfl rfl cf92 rfl ((emit_spec p id3 ver3 l (nodeC l f k (splitI is1)) ⟨1, 0, 0, []⟩ _ h0' hok3 (by rw [nodeC_len, splitI_len]; omega)).wk (by refine .cons wk_refl (.cons (wk_agg ?_) .nil); repeat (first | exact .nil | refine .cons wk_refl ?_ | refine .cons wk_nil ?_ | refine .cons wk_ex ?_))) (fun h6 => ?_) ?_
        · change Gst _ _ _ _
          exact absurd h6 (by simp)
        rintro ⟨⟩ ⟨id4, ver4⟩ _ hokc
        dsimp only
        obtain ⟨hokb, horb⟩ := okP_slh hokc
        obtain ⟨is3, h3⟩ : ∃ q, nodeC l f k (splitI is1) ++ [⟨1, 0, 0, []⟩] = q := ⟨_, rfl⟩
        have h3l : is3.length = is1.length + cntC l f k + 2 := by rw [← h3, List.length_append, nodeC_len, splitI_len]; simp; omega
        have hpos : 0 < is3.length := by omega
        rw [h3]
        refine aops_v rfl rfl rfl (a_buildSlice (res := [_]) rfl sk67 rfl rfl rfl ?_)
        rw [prg_slh hip (horb.imp (fun h => h) .inr)]
        refine aops_v rfl rfl rfl (a_append_slp rfl sk67 rfl (by simp) rfl (.lst rfl) rfl (by omega) (by simp only [maxLen]; omega) (by omega) (fun h => prg_is hip hin (.inr (horb.resolve_left (by omega)))) ?_)
        intro i2 v2 hi2
        obtain ⟨hi2p, hi2n, hi2o⟩ := prg_none hi2
        rw [show outs.map int ++ [int (nodeC l f k (splitI is1)).length] = (outs ++ [((nodeC l f k (splitI is1)).length : Int)]).map int by simp, show outs.length + 1 = (outs ++ [((nodeC l f k (splitI is1)).length : Int)]).length by simp, ← prg_slh hi2p (.inr hi2o)]
        have hi2d := hi2o.resolve_left (by intro e; rw [e] at hpos; simp at hpos)
        have hok4 := okP_up (ty := 3) (cs := (outs ++ [((nodeC l f k (splitI is1)).length : Int)]).map int) (n := (outs ++ [((nodeC l f k (splitI is1)).length : Int)]).length) (v := v2) hokb (.inr hi2d)
        obtain ⟨_, hne4⟩ := hok4
        have hok4 : okP _ p (id4, ver4) := ⟨‹_›, hne4⟩
        dsimp only at hne4
        refine aops_v rfl rfl rfl (a_assign rfl rfl ?_)
        refine aops_nil ?_
        refine thenE_n ?_
        rw [prg_pos hpos]
        refine awp_draw [0, 1, 3, 7, 0, 0, 32, 127, 255, 511] 9 rfl (by decide +kernel) (by decide +kernel) (by decide +kernel) rfl ?_
        simp only [List.take_succ_cons, List.take_zero, List.take_nil, List.drop_succ_cons, List.drop_zero, List.drop_nil]
        refine dp_val rfl (apure_val (a_move rfl rfl pure_done)) rfl ?_
        first | refine dp_val rfl (apure_val (a_nilCheck rfl rfl pure_done)) rfl ?_ | refine dp_val rfl (apure_val (a_nilCheck_pin rfl rfl pure_done)) rfl ?_ | refine dp_val rfl (apure_val (a_nilCheck_clo rfl rfl pure_done)) rfl ?_
        first | refine dp_val rfl (apure_val (a_fieldAddr rfl fk154_1 rfl rfl pure_done)) rfl ?_ | refine dp_val rfl (apure_val (a_fieldAddr_pin rfl fk154_1 rfl rfl pure_done)) rfl ?_
        first | refine dp_val rfl (apure_val (a_load_pin rfl tk152 rfl rfl pure_done)) rfl ?_ | refine dp_val rfl (apure_val (a_load rfl tk152 rfl HP rfl pure_done)) rfl ?_
        refine dp_val rfl (apure_val (a_move rfl rfl pure_done)) rfl ?_
        refine dp_val rfl (apure_val (a_move rfl rfl pure_done)) rfl ?_
        refine dp_val rfl (apure_call rfl cf119 rfl (here_spec2 p id4 ver4 l is3 _ (slh_p h0 hi2p) hok4 hpos)) rfl ?_
        first | refine dp_val rfl (apure_val (a_indexAddr_lst rfl ek152 rfl rfl NT (by omega) (by omega) pure_done)) rfl ?_ | refine dp_val rfl (apure_val (a_indexAddr rfl ek152 rfl rfl NT (by omega) (by omega) pure_done)) rfl ?_
        first | refine dp_val rfl (apure_val (a_fieldAddr rfl fk157_2 rfl rfl pure_done)) rfl ?_ | refine dp_val rfl (apure_val (a_fieldAddr_pin rfl fk157_2 rfl rfl pure_done)) rfl ?_
        change AOps _ _ _ _ _ _ _
        refine aops_s rfl rfl (a_store_n (cs2 := (setY is3 is1.length is3.length).flatMap encI) rfl tk3 rfl rfl (upd_same _ _ _) rfl rfl (by rw [flat_len encI_len]; omega) (by rw [Nat.zero_add]; exact stv_Y (by omega)) ?_)
        rw [upd_upd, prg_same (by rw [setY_len]; exact hpos) (by rw [setY_len])]
        refine aops_nil ?_
        refine blockE_n ?_
        refine thenE_n ?_
        refine awp_region ?_
        first | refine aops_v rfl rfl rfl (a_add rfl rfl rfl (by simp only [Go.AL.lo, Go.AL.hi]; omega) ?_) | refine aops_v rfl rfl rfl (a_int rfl rfl rfl rfl ?_)
        refine aops_v rfl rfl rfl (a_move rfl rfl ?_)
        refine aops_nil ?_
        refine thenE_n ?_
        refine .done ⟨(j + 1, setY is3 is1.length is3.length, outs ++ [((nodeC l f k (splitI is1)).length : Int)], (i2, v2), (id4, ver4)), ⟨by dsimp only; omega, .inr hok4, hi2n, hi2p, by dsimp only; rw [← hac, hd2, altC_more, h3], by dsimp only; rw [setY_len, hd2]; simp only [List.map_cons, List.sum_cons, List.length_cons]; omega, by simp; omega, fun z hz => ?_⟩, by dsimp only; omega, EL, rfl⟩
        rw [setY_len]
        rcases List.mem_append.1 hz with hz | hz
        · exact ⟨(hos z hz).1, by have := (hos z hz).2; omega⟩
        · simp only [List.mem_singleton] at hz; subst hz; rw [nodeC_len, splitI_len]; omega
      · try simp only [zz1, zz2, ne_eq, zz4, zz5, zz6, gt_iff_lt, ge_iff_le, zz9, zz0] at h5
        omega
    · try simp only [zz1, zz2, ne_eq, zz4, zz5, zz6, gt_iff_lt, ge_iff_le, zz9, zz0] at h2
      have hd2 : ks.drop (j + 1) = [] := List.drop_of_length_le (by omega)
      rw [hd2] at hac hl2
      simp only [List.map_nil, List.sum_nil, List.length_nil] at hl2
      refine awp_skip ?_
      refine thenE_n ?_
      refine awp_seq ?_
      refine awp_region ?_
      refine aops_v rfl rfl rfl (a_move rfl rfl ?_)
      refine aops_v rfl rfl rfl (a_move rfl rfl ?_)
      refine aops_call_res rfl rfl rfl rfl cf91 rfl (hN p id1 ver1 is1 k _ h0' hok1 hk0.1 hk0.2.1 hk0.2.2 (by omega)) (fun h7 => ?_) ?_
      · change Gst _ _ _ _
        exact absurd h7 (by simp)
      rintro ⟨⟩ ⟨id2, ver2⟩ _ hokc
      dsimp only
      refine aops_nil ?_
      refine thenE_n ?_
      refine awp_seq ?_
      refine awp_region ?_
      refine aops_v rfl rfl rfl (a_move rfl rfl ?_)
      refine aops_v rfl rfl rfl (a_int rfl rfl rfl rfl ?_)
      refine aops_nil ?_
      refine thenE_n ?_
      refine awp_cond rfl (fun h8 => ?_) (fun h8 => ?_)
      · try simp only [zz1, zz2, ne_eq, zz4, zz5, zz6, gt_iff_lt, ge_iff_le, zz9, zz0] at h8
        omega
      · try simp only [zz1, zz2, ne_eq, zz4, zz5, zz6, gt_iff_lt, ge_iff_le, zz9, zz0] at h8
        refine awp_skip ?_
        refine blockE_n ?_
        refine thenE_n ?_
        refine awp_region ?_
        first | refine aops_v rfl rfl rfl (a_add rfl rfl rfl (by simp only [Go.AL.lo, Go.AL.hi]; omega) ?_) | refine aops_v rfl rfl rfl (a_int rfl rfl rfl rfl ?_)
        refine aops_v rfl rfl rfl (a_move rfl rfl ?_)
        refine aops_nil ?_
        refine thenE_n ?_
        exact .done ⟨(j + 1, nodeC l f k is1, outs, (i, v), (id2, ver2)), ⟨by dsimp only; omega, .inr hokc, hin, hip, by dsimp only; rw [← hac, hd2, altC_one], by dsimp only; rw [nodeC_len, hd2]; simp; omega, by dsimp only; omega, fun z hz => ⟨(hos z hz).1, by rw [nodeC_len]; have := (hos z hz).2; omega⟩⟩, by dsimp only; omega, EL, rfl⟩
  · try simp only [zz1, zz2, ne_eq, zz4, zz5, zz6, gt_iff_lt, ge_iff_le, zz9, zz0] at h1
    obtain rfl : j = ks.length := by omega
    rw [List.drop_length] at hac hl2
    simp only [List.map_nil, List.sum_nil, List.length_nil] at hl2
    refine awp_exit ?_
    refine thenE_x ?_
    refine thenE_x ?_
    refine blockE_x ?_
    refine thenE_n ?_
    refine awp_seq ?_
    have hor2 : outs.length = 0 ∨ is1 = [] ∨ i ≠ id1 := hor.imp (fun h => h) .inr
    rw [prg_slh hip hor2]
    refine AWp.ghost (gst_slp 4 rfl (by simp) (fun h => prg_is hip hin (.inr (hor.resolve_left (by omega)))) (.done ?_))
    have hon : altN (nodeC l f) ks is = outs.foldl fixXY is1 := by unfold altN; rw [← hac]; rfl
    obtain ⟨_, hne2⟩ := hok2
    have hok2 : okP σ p (id1, ver1) := ⟨‹_›, hne2⟩
    dsimp only at hne2
    refine awp_region ?_
    refine aops_v rfl rfl rfl (a_move rfl rfl ?_)
    first | refine aops_v rfl rfl rfl (a_len_lst rfl isl67 rfl ?_) | refine aops_v rfl rfl rfl (a_len rfl isl67 rfl ?_) | refine aops_v rfl rfl rfl (a_len_slg rfl isl67 rfl ?_) | refine aops_v rfl rfl rfl (a_len_nil rfl isl67 rfl ?_)
    refine aops_v rfl rfl rfl (a_move rfl rfl ?_)
    refine aops_nil ?_
    refine thenE_n ?_
    refine awp_block ?_
    refine awp_loop (S := Nat × List In) (fun x => [(0, .ref p 0 0), (49, .lst (outs.map int) outs.length false), (50, int outs.length), (51, int x.1)]) (fun x => prg σ p l id1 ver1 x.2) (fun x => x.1 ≤ outs.length ∧ (outs.drop x.1).foldl fixXY x.2 = outs.foldl fixXY is1 ∧ x.2.length = is1.length) (fun x => outs.length - x.1) ⟨(0, is1), ⟨by simp, by simp, rfl⟩, EL, rfl⟩ ?_
    rintro ⟨g, is3⟩ ⟨hg, hfo, h3l⟩
    dsimp only at hg hfo h3l
    dsimp only
    refine awp_seq ?_
    refine awp_region ?_
    refine aops_v rfl rfl rfl (a_int rfl rfl rfl rfl ?_)
    refine aops_nil ?_
    refine thenE_n ?_
    refine awp_seq ?_
    refine awp_cond rfl (fun h9 => ?_) (fun h9 => ?_)
    · try simp only [zz1, zz2, ne_eq, zz4, zz5, zz6, gt_iff_lt, ge_iff_le, zz9, zz0] at h9
      obtain ⟨z, hz⟩ : ∃ z, outs[g]? = some z := ⟨_, List.getElem?_eq_getElem (by omega)⟩
      obtain ⟨hz0, hz1⟩ := hos z (List.mem_of_getElem? hz)
      have hpos : 0 < is3.length := by omega
      refine awp_skip ?_
      refine thenE_n ?_
      refine awp_seq ?_
      refine awp_block ?_
      refine awp_seq ?_
      refine awp_region ?_
      first | refine aops_v rfl rfl rfl (a_indexAddr_lst rfl ek67 rfl rfl NT (by omega) (by omega) ?_) | refine aops_v rfl rfl rfl (a_indexAddr rfl ek67 rfl rfl NT (by omega) (by omega) ?_)
      refine aops_v rfl rfl rfl (a_load_pin rfl tk3 rfl (ldv_map hz) ?_)
      refine aops_v rfl rfl rfl (a_assign rfl rfl ?_)
      refine aops_nil ?_
      refine thenE_n ?_
      rw [prg_pos hpos]
      refine awp_drawHD [0, 1, 3, 7, 0, 0, 32, 96, 224, 0, 0, 1024, 0, 7168, 15871, 32255, 65023, 131071, 262143, 524287] 16 65023 rfl (drawOk_top (o1 := [0, 1, 2, 3, 4, 5, 6, 7, 8, 9, 10, 11, 12, 13, 14, 15, 16, 17, 18, 19]) (o2 := [0, 1, 2, 3, 4, 5, 6, 7, 8, 10, 11, 12, 13, 14, 15, 16, 9, 17, 18, 19]) (by decide +kernel) (by decide +kernel)) (by decide +kernel) (by decide +kernel) rfl rfl rfl rfl ?_
      simp only [List.take_succ_cons, List.take_zero, List.take_nil, List.drop_succ_cons, List.drop_zero, List.drop_nil]
      refine dph_val rfl (apure_val (a_move rfl rfl pure_done)) rfl rfl ?_
      first | refine dph_val rfl (apure_val (a_nilCheck rfl rfl pure_done)) rfl rfl ?_ | refine dph_val rfl (apure_val (a_nilCheck_pin rfl rfl pure_done)) rfl rfl ?_ | refine dph_val rfl (apure_val (a_nilCheck_clo rfl rfl pure_done)) rfl rfl ?_
      first | refine dph_val rfl (apure_val (a_fieldAddr rfl fk154_1 rfl rfl pure_done)) rfl rfl ?_ | refine dph_val rfl (apure_val (a_fieldAddr_pin rfl fk154_1 rfl rfl pure_done)) rfl rfl ?_
      first | refine dph_val rfl (apure_val (a_load_pin rfl tk152 rfl rfl pure_done)) rfl rfl ?_ | refine dph_val rfl (apure_val (a_load rfl tk152 rfl HP rfl pure_done)) rfl rfl ?_
      refine dph_val rfl (apure_val (a_move rfl rfl pure_done)) rfl rfl ?_
      refine dph_val rfl (apure_val (a_move rfl rfl pure_done)) rfl rfl ?_
      first | refine dph_val rfl (apure_val (a_nilCheck rfl rfl pure_done)) rfl rfl ?_ | refine dph_val rfl (apure_val (a_nilCheck_pin rfl rfl pure_done)) rfl rfl ?_ | refine dph_val rfl (apure_val (a_nilCheck_clo rfl rfl pure_done)) rfl rfl ?_
      first | refine dph_val rfl (apure_val (a_fieldAddr rfl fk154_1 rfl rfl pure_done)) rfl rfl ?_ | refine dph_val rfl (apure_val (a_fieldAddr_pin rfl fk154_1 rfl rfl pure_done)) rfl rfl ?_
      first | refine dph_val rfl (apure_val (a_load_pin rfl tk152 rfl rfl pure_done)) rfl rfl ?_ | refine dph_val rfl (apure_val (a_load rfl tk152 rfl HP rfl pure_done)) rfl rfl ?_
      refine dph_light rfl (fun _ => apure_val (a_move rfl rfl pure_done)) rfl ?_
      refine dph_val rfl (apure_val (a_move rfl rfl pure_done)) rfl rfl ?_
      refine dph_val rfl (apure_call rfl cf119 rfl (here_spec2 p id1 ver1 l is3 _ h0 hok2 hpos)) rfl rfl ?_
      refine dph_val rfl (apure_val (a_move rfl rfl pure_done)) rfl rfl ?_
      refine dph_val rfl (apure_call rfl cf119 rfl (here_spec2 p id1 ver1 l is3 _ h0 hok2 hpos)) rfl rfl ?_
      first | refine dph_val rfl (apure_val (a_indexAddr_lst rfl ek152 rfl rfl NT (by omega) (by omega) pure_done)) rfl rfl ?_ | refine dph_val rfl (apure_val (a_indexAddr rfl ek152 rfl rfl NT (by omega) (by omega) pure_done)) rfl rfl ?_
      first | refine dph_val rfl (apure_val (a_fieldAddr rfl fk157_1 rfl rfl pure_done)) rfl rfl ?_ | refine dph_val rfl (apure_val (a_fieldAddr_pin rfl fk157_1 rfl rfl pure_done)) rfl rfl ?_
      refine aheavy_skip (a_store_n (cs2 := (setX is3 z.toNat is3.length).flatMap encI) rfl tk3 rfl rfl (upd_same _ _ _) rfl rfl (by rw [flat_len encI_len]; omega) (by rw [Nat.zero_add]; exact stv_X (by omega)) ?_)
      rw [upd_upd]
      change AOps _ _ _ _ _ _ _
      first | refine aops_v rfl rfl rfl (a_indexAddr_lst rfl ek152 rfl rfl NT (by omega) (by omega) ?_) | refine aops_v rfl rfl rfl (a_indexAddr rfl ek152 rfl rfl NT (by omega) (by omega) ?_)
      first | refine aops_v rfl rfl rfl (a_fieldAddr rfl fk157_2 rfl rfl ?_) | refine aops_v rfl rfl rfl (a_fieldAddr_pin rfl fk157_2 rfl rfl ?_)
      refine aops_s rfl rfl (a_store_n (cs2 := (setY (setX is3 z.toNat is3.length) z.toNat is3.length).flatMap encI) rfl tk3 rfl rfl (upd_same _ _ _) rfl rfl (by rw [flat_len encI_len, setX_len]; omega) (by rw [Nat.zero_add]; exact stv_Y (by rw [setX_len]; omega)) ?_)
      rw [upd_upd, prg_same (by rw [setY_len, setX_len]; exact hpos) (by rw [setY_len, setX_len])]
      refine aops_nil ?_
      refine blockE_n ?_
      refine thenE_n ?_
      refine awp_region ?_
      first | refine aops_v rfl rfl rfl (a_add rfl rfl rfl (by simp only [Go.AL.lo, Go.AL.hi]; omega) ?_) | refine aops_v rfl rfl rfl (a_int rfl rfl rfl rfl ?_)
      refine aops_v rfl rfl rfl (a_move rfl rfl ?_)
      refine aops_nil ?_
      refine thenE_n ?_
      exact .done ⟨(g + 1, setY (setX is3 z.toNat is3.length) z.toNat is3.length, ), ⟨by dsimp only; omega, by dsimp only; rw [← hfo, ← fixXY_step hz]; rfl, by dsimp only; rw [setY_len, setX_len]; exact h3l⟩, by dsimp only; omega, EL, rfl⟩
    · try simp only [zz1, zz2, ne_eq, zz4, zz5, zz6, gt_iff_lt, ge_iff_le, zz9, zz0] at h9
      obtain rfl : g = outs.length := by omega
      rw [List.drop_length] at hfo
      refine awp_exit ?_
      refine thenE_x ?_
      refine thenE_x ?_
      refine blockE_x ?_
      change Gst _ _ _ _
      refine fin0 rfl ?_
      rw [hon, ← hfo]
      exact prgR_ok hok2

end Go.Proofs.YtnahdpjbddfhgaaGreatDoor
set_option linter.unusedVariables false
set_option linter.unusedSimpArgs false
namespace Go.Proofs.YtnahdpjbddfhgaaGreatDoor
open Go Go.AL
set_option maxRecDepth 100000
theorem nodeC_succ {l : List Nd} {f : Nat} {k : Int} {n : Nd} {is : List In} (h : l[k.toNat]? = some n) : nodeC l (f + 1) k is = nodeK (nodeC l f) n is := by rw [nodeC, h]
theorem cntC_succ {l : List Nd} {f : Nat} {k : Int} {n : Nd} (h : l[k.toNat]? = some n) : cntC l (f + 1) k = cntK (cntC l f) n := by rw [cntC, h]

theorem nodeC_spec (p id ver : Nat) (l : List Nd) (is : List In) (f : Nat) (k : Int) (n : Nd) (hN : NodeOk l f) (hn : l[k.toNat]? = some n) (hkids : KidsOk l f n.kids) (hno : NdOk k.toNat n) (σ : AHeap) (h0 : σ p = none) (hok : okP σ p (id, ver)) (hk0 : 0 ≤ k) (hk1 : k < l.length) (hB : is.length + cntC l (f + 1) k ≤ 100000) (hll : l.length ≤ 1000000) : ASpec Tryz.prog 91 [.ref p 0 0, int k] (prg σ p l id ver is) fun r σ' => PrgR σ p l (.tup []) (nodeC l (f + 1) k is) r σ' := by
  obtain ⟨_, hne⟩ := hok
  have hok : okP σ p (id, ver) := ⟨‹_›, hne⟩
  dsimp only at hne
  rw [cntC_succ hn] at hB
  unfold cntK at hB
  have hkl := hno.klen
  refine aspec_enter (N := 66) (rs := []) Tryz.func91 rfl rfl rfl rfl rfl rfl ?_
  refine awp_seq ?_
  refine awp_region ?_
  refine aops_v rfl rfl rfl (a_move rfl rfl ?_)
  first | refine aops_v rfl rfl rfl (a_nilCheck rfl rfl ?_) | refine aops_v rfl rfl rfl (a_nilCheck_pin rfl rfl ?_) | refine aops_v rfl rfl rfl (a_nilCheck_clo rfl rfl ?_)
  first | refine aops_v rfl rfl rfl (a_fieldAddr rfl fk154_0 rfl rfl ?_) | refine aops_v rfl rfl rfl (a_fieldAddr_pin rfl fk154_0 rfl rfl ?_)
  first | refine aops_v rfl rfl rfl (a_load_pin rfl tk68 rfl rfl ?_) | refine aops_v rfl rfl rfl (a_load rfl tk68 rfl HP rfl ?_)
  refine aops_v rfl rfl rfl (a_move rfl rfl ?_)
  first | refine aops_v rfl rfl rfl (a_indexAddr_lst rfl ek68 rfl rfl NT (by omega) (by omega) ?_) | refine aops_v rfl rfl rfl (a_indexAddr rfl ek68 rfl rfl NT (by omega) (by omega) ?_)
  refine aops_v rfl rfl rfl (a_load_pin rfl tk149 rfl (by first | exact ldv_flat encN_len hn | (rw [Nat.zero_add]; exact ldv_flat encN_len hn)) ?_)
  refine aops_var_frz rfl rfl rfl rfl rfl rfl rfl tk149 zk149 rfl rfl rfl rfl rfl ?_
  refine aops_nil ?_
  refine thenE_n ?_
  refine awp_seq ?_
  refine awp_region ?_
  first | refine aops_v rfl rfl rfl (a_fieldAddr rfl fk149_0 rfl rfl ?_) | refine aops_v rfl rfl rfl (a_fieldAddr_pin rfl fk149_0 rfl rfl ?_)
  first | refine aops_v rfl rfl rfl (a_load_pin rfl tk3 rfl rfl ?_) | refine aops_v rfl rfl rfl (a_load rfl tk3 rfl HP rfl ?_)
  refine aops_nil ?_
  refine thenE_n ?_
  refine awp_block ?_
  refine awp_seq ?_
  refine awp_region ?_
  refine aops_v rfl rfl rfl (a_int rfl rfl rfl rfl ?_)
  refine aops_v rfl rfl rfl (a_assign rfl rfl ?_)
  refine aops_nil ?_
  refine thenE_n ?_
  refine awp_cond rfl (fun h1 => ?_) (fun h1 => ?_)
  · try simp only [zz1, zz2, ne_eq, zz4, zz5, zz6, gt_iff_lt, ge_iff_le, zz9, zz0] at h1
    have hk2 := h1
    rw [if_pos hk2] at hB
    refine awp_draw [0, 0, 2, 6, 0, 16, 62, 127] 7 rfl (by decide +kernel) (by decide +kernel) (by decide +kernel) rfl ?_
    simp only [List.take_succ_cons, List.take_zero, List.take_nil, List.drop_succ_cons, List.drop_zero, List.drop_nil]
    refine dp_val rfl (apure_val (a_move rfl rfl pure_done)) rfl ?_
    refine dp_val rfl (apure_val (a_move rfl rfl pure_done)) rfl ?_
    refine dp_val rfl (apure_call rfl cf119 rfl (here_spec p id ver l is σ h0 hok)) rfl ?_
    first | refine dp_val rfl (apure_val (a_add rfl rfl rfl (by simp only [Go.AL.lo, Go.AL.hi]; omega) pure_done)) rfl ?_ | refine dp_val rfl (apure_val (a_int rfl rfl rfl rfl pure_done)) rfl ?_
    first | refine dp_val rfl (apure_val (a_fieldAddr rfl fk149_4 rfl rfl pure_done)) rfl ?_ | refine dp_val rfl (apure_val (a_fieldAddr_pin rfl fk149_4 rfl rfl pure_done)) rfl ?_
    first | refine dp_val rfl (apure_val (a_load_pin rfl tk59 rfl rfl pure_done)) rfl ?_ | refine dp_val rfl (apure_val (a_load rfl tk59 rfl HP rfl pure_done)) rfl ?_
    refine dp_val rfl (apure_val (a_build (res := [_, _, _, _]) rfl bk157 rfl rfl pure_done)) rfl ?_
    change AOps _ _ _ _ _ _ _
    refine aops_call_res rfl rfl rfl rfl cf92 rfl ((emit_spec p id ver l is ⟨0, is.length + 1, 0, n.set⟩ σ h0 hok (by omega)).wk (by refine .cons wk_refl (.cons (wk_agg ?_) .nil); repeat (first | exact .nil | refine .cons wk_refl ?_ | refine .cons wk_nil ?_ | refine .cons wk_ex ?_))) (fun h2 => ?_) ?_
    · change Gst _ _ _ _
      exact absurd h2 (by simp)
    rintro ⟨⟩ ⟨id2, ver2⟩ _ hok2
    dsimp only
    refine aops_nil ?_
    refine blockE_n ?_
    change Gst _ _ _ _
    refine fin0 rfl ?_
    rw [nodeC_succ hn]
    unfold nodeK
    rw [if_pos hk2]
    exact prgR_ok hok2
  · try simp only [zz1, zz2, ne_eq, zz4, zz5, zz6, gt_iff_lt, ge_iff_le, zz9, zz0] at h1
    have hk2 := h1
    rw [if_neg hk2] at hB
    refine awp_seq ?_
    refine awp_region ?_
    refine aops_v rfl rfl rfl (a_int rfl rfl rfl rfl ?_)
    refine aops_v rfl rfl rfl (a_assign rfl rfl ?_)
    refine aops_nil ?_
    refine thenE_n ?_
    refine awp_cond rfl (fun h3 => ?_) (fun h3 => ?_)
    · try simp only [zz1, zz2, ne_eq, zz4, zz5, zz6, gt_iff_lt, ge_iff_le, zz9, zz0] at h3
      have hk6 := h3
      rw [if_pos hk6] at hB
      refine awp_region ?_
      refine aops_v rfl rfl rfl (a_move rfl rfl ?_)
      refine aops_v rfl rfl rfl (a_move rfl rfl ?_)
      refine aops_call_eq rfl rfl rfl rfl cf119 rfl (here_spec p id ver l is σ h0 hok) ?_
      first | refine aops_v rfl rfl rfl (a_add rfl rfl rfl (by simp only [Go.AL.lo, Go.AL.hi]; omega) ?_) | refine aops_v rfl rfl rfl (a_int rfl rfl rfl rfl ?_)
      refine aops_v rfl rfl rfl (a_build (res := [_, _, _, _]) rfl bk157 rfl rfl ?_)
      refine aops_call_res rfl rfl rfl rfl cf92 rfl ((emit_spec p id ver l is ⟨2, is.length + 1, 0, []⟩ σ h0 hok (by omega)).wk (by refine .cons wk_refl (.cons (wk_agg ?_) .nil); repeat (first | exact .nil | refine .cons wk_refl ?_ | refine .cons wk_nil ?_ | refine .cons wk_ex ?_))) (fun h4 => ?_) ?_
      · change Gst _ _ _ _
        exact absurd h4 (by simp)
      rintro ⟨⟩ ⟨id2, ver2⟩ _ hok2
      dsimp only
      refine aops_nil ?_
      refine blockE_n ?_
      change Gst _ _ _ _
      refine fin0 rfl ?_
      rw [nodeC_succ hn]
      unfold nodeK
      rw [if_neg hk2, if_pos hk6]
      exact prgR_ok hok2
    · try simp only [zz1, zz2, ne_eq, zz4, zz5, zz6, gt_iff_lt, ge_iff_le, zz9, zz0] at h3
      have hk6 := h3
      rw [if_neg hk6] at hB
      refine awp_seq ?_
      refine awp_region ?_
      refine aops_v rfl rfl rfl (a_int rfl rfl rfl rfl ?_)
      refine aops_v rfl rfl rfl (a_assign rfl rfl ?_)
      refine aops_nil ?_
      refine thenE_n ?_
      refine awp_cond rfl (fun h5 => ?_) (fun h5 => ?_)
      · try simp only [zz1, zz2, ne_eq, zz4, zz5, zz6, gt_iff_lt, ge_iff_le, zz9, zz0] at h5
        have hk7 := h5
        rw [if_pos hk7] at hB
        refine awp_region ?_
        refine aops_v rfl rfl rfl (a_move rfl rfl ?_)
        refine aops_v rfl rfl rfl (a_move rfl rfl ?_)
        refine aops_call_eq rfl rfl rfl rfl cf119 rfl (here_spec p id ver l is σ h0 hok) ?_
        first | refine aops_v rfl rfl rfl (a_add rfl rfl rfl (by simp only [Go.AL.lo, Go.AL.hi]; omega) ?_) | refine aops_v rfl rfl rfl (a_int rfl rfl rfl rfl ?_)
        refine aops_v rfl rfl rfl (a_build (res := [_, _, _, _]) rfl bk157 rfl rfl ?_)
        refine aops_call_res rfl rfl rfl rfl cf92 rfl ((emit_spec p id ver l is ⟨3, is.length + 1, 0, []⟩ σ h0 hok (by omega)).wk (by refine .cons wk_refl (.cons (wk_agg ?_) .nil); repeat (first | exact .nil | refine .cons wk_refl ?_ | refine .cons wk_nil ?_ | refine .cons wk_ex ?_))) (fun h6 => ?_) ?_
        · change Gst _ _ _ _
          exact absurd h6 (by simp)
        rintro ⟨⟩ ⟨id2, ver2⟩ _ hok2
        dsimp only
        refine aops_nil ?_
        refine blockE_n ?_
        change Gst _ _ _ _
        refine fin0 rfl ?_
        rw [nodeC_succ hn]
        unfold nodeK
        rw [if_neg hk2, if_neg hk6, if_pos hk7]
        exact prgR_ok hok2
      · try simp only [zz1, zz2, ne_eq, zz4, zz5, zz6, gt_iff_lt, ge_iff_le, zz9, zz0] at h5
        have hk7 := h5
        rw [if_neg hk7] at hB
        refine awp_seq ?_
        refine awp_region ?_
        refine aops_v rfl rfl rfl (a_int rfl rfl rfl rfl ?_)
        refine aops_v rfl rfl rfl (a_assign rfl rfl ?_)
        refine aops_nil ?_
        refine thenE_n ?_
        refine awp_cond rfl (fun h7 => ?_) (fun h7 => ?_)
        · try simp only [zz1, zz2, ne_eq, zz4, zz5, zz6, gt_iff_lt, ge_iff_le, zz9, zz0] at h7
          have hk3 := h7
          rw [if_pos hk3] at hB
          refine awp_seq ?_
          refine awp_region ?_
          first | refine aops_v rfl rfl rfl (a_fieldAddr rfl fk149_1 rfl rfl ?_) | refine aops_v rfl rfl rfl (a_fieldAddr_pin rfl fk149_1 rfl rfl ?_)
          first | refine aops_v rfl rfl rfl (a_load_pin rfl tk67 rfl rfl ?_) | refine aops_v rfl rfl rfl (a_load rfl tk67 rfl HP rfl ?_)
          first | refine aops_v rfl rfl rfl (a_len_lst rfl isl67 rfl ?_) | refine aops_v rfl rfl rfl (a_len rfl isl67 rfl ?_) | refine aops_v rfl rfl rfl (a_len_slg rfl isl67 rfl ?_) | refine aops_v rfl rfl rfl (a_len_nil rfl isl67 rfl ?_)
          refine aops_v rfl rfl rfl (a_move rfl rfl ?_)
          refine aops_nil ?_
          refine thenE_n ?_
          refine awp_block ?_
          refine awp_loop (S := Nat × List In × Nat × Nat) (fun x => [(0, .ref p 0 0), (45, .lst (n.kids.map int) n.kids.length false), (46, int n.kids.length), (47, int x.1)]) (fun x => prg σ p l x.2.2.1 x.2.2.2 x.2.1) (fun x => x.1 ≤ n.kids.length ∧ okP σ p x.2.2 ∧ seqN (nodeC l f) (n.kids.drop x.1) x.2.1 = seqN (nodeC l f) n.kids is ∧ x.2.1.length + ((n.kids.drop x.1).map (cntC l f)).sum ≤ 100000) (fun x => n.kids.length - x.1) ⟨(0, is, id, ver), ⟨by simp, hok, by simp, by simpa using hB⟩, EL, rfl⟩ ?_
          rintro ⟨j, is1, id1, ver1⟩ ⟨hj, hok1, hsq, hlen⟩
          dsimp only at hj hok1 hsq hlen
          dsimp only
          refine awp_seq ?_
          refine awp_region ?_
          refine aops_v rfl rfl rfl (a_int rfl rfl rfl rfl ?_)
          refine aops_nil ?_
          refine thenE_n ?_
          refine awp_seq ?_
          refine awp_cond rfl (fun h8 => ?_) (fun h8 => ?_)
          · try simp only [zz1, zz2, ne_eq, zz4, zz5, zz6, gt_iff_lt, ge_iff_le, zz9, zz0] at h8
            obtain ⟨z, hz⟩ : ∃ z, n.kids[j]? = some z := ⟨_, List.getElem?_eq_getElem (by omega)⟩
            have hd := drop_c hz
            have hk0 := hkids z (List.mem_of_getElem? hz)
            rw [hd] at hsq hlen
            simp only [List.map_cons, List.sum_cons] at hlen
            refine awp_skip ?_
            refine thenE_n ?_
            refine awp_seq ?_
            refine awp_block ?_
            refine awp_seq ?_
            refine awp_region ?_
            first | refine aops_v rfl rfl rfl (a_indexAddr_lst rfl ek67 rfl rfl NT (by omega) (by omega) ?_) | refine aops_v rfl rfl rfl (a_indexAddr rfl ek67 rfl rfl NT (by omega) (by omega) ?_)
            refine aops_v rfl rfl rfl (a_load_pin rfl tk3 rfl (ldv_map hz) ?_)
            refine aops_v rfl rfl rfl (a_assign rfl rfl ?_)
            refine aops_nil ?_
            refine thenE_n ?_
            refine awp_region ?_
            refine aops_v rfl rfl rfl (a_move rfl rfl ?_)
            refine aops_v rfl rfl rfl (a_move rfl rfl ?_)
            refine aops_call_res rfl rfl rfl rfl cf91 rfl (hN p id1 ver1 is1 z σ h0 hok1 hk0.1 hk0.2.1 hk0.2.2 (by omega)) (fun h9 => ?_) ?_
            · change Gst _ _ _ _
              exact absurd h9 (by simp)
            rintro ⟨⟩ ⟨id2, ver2⟩ _ hok2
            dsimp only
            refine aops_nil ?_
            refine blockE_n ?_
            refine thenE_n ?_
            refine awp_region ?_
            first | refine aops_v rfl rfl rfl (a_add rfl rfl rfl (by simp only [Go.AL.lo, Go.AL.hi]; omega) ?_) | refine aops_v rfl rfl rfl (a_int rfl rfl rfl rfl ?_)
            refine aops_v rfl rfl rfl (a_move rfl rfl ?_)
            refine aops_nil ?_
            refine thenE_n ?_
            exact .done ⟨(j + 1, nodeC l f z is1, id2, ver2), ⟨by dsimp only; omega, hok2, by dsimp only; rw [← hsq]; rfl, by dsimp only; rw [nodeC_len]; omega⟩, by dsimp only; omega, EL, rfl⟩
          · try simp only [zz1, zz2, ne_eq, zz4, zz5, zz6, gt_iff_lt, ge_iff_le, zz9, zz0] at h8
            obtain rfl : j = n.kids.length := by omega
            rw [List.drop_length] at hsq
            have hok2 := hok1
            refine awp_exit ?_
            refine thenE_x ?_
            refine thenE_x ?_
            refine blockE_x ?_
            refine blockE_n ?_
            change Gst _ _ _ _
            refine fin0 rfl ?_
            rw [nodeC_succ hn]
            unfold nodeK
            rw [if_neg hk2, if_neg hk6, if_neg hk7, if_pos hk3, ← hsq]
            show PrgR _ _ _ _ is1 _ _
            exact prgR_ok hok2
        · try simp only [zz1, zz2, ne_eq, zz4, zz5, zz6, gt_iff_lt, ge_iff_le, zz9, zz0] at h7
          have hk3 := h7
          rw [if_neg hk3] at hB
          refine awp_seq ?_
          refine awp_region ?_
          refine aops_v rfl rfl rfl (a_int rfl rfl rfl rfl ?_)
          refine aops_v rfl rfl rfl (a_assign rfl rfl ?_)
          refine aops_nil ?_
          refine thenE_n ?_
          refine awp_cond rfl (fun h10 => ?_) (fun h10 => ?_)
          · try simp only [zz1, zz2, ne_eq, zz4, zz5, zz6, gt_iff_lt, ge_iff_le, zz9, zz0] at h10
            have hk4 := h10
            rw [if_pos hk4] at hB
            refine awp_region ?_
            refine aops_v rfl rfl rfl (a_move rfl rfl ?_)
            first | refine aops_v rfl rfl rfl (a_fieldAddr rfl fk149_1 rfl rfl ?_) | refine aops_v rfl rfl rfl (a_fieldAddr_pin rfl fk149_1 rfl rfl ?_)
            first | refine aops_v rfl rfl rfl (a_load_pin rfl tk67 rfl rfl ?_) | refine aops_v rfl rfl rfl (a_load rfl tk67 rfl HP rfl ?_)
            refine aops_call_res rfl rfl rfl rfl cf120 rfl (altC_spec p id ver l is f n.kids hN hkids σ h0 hok (by omega) hno.klen) (fun h11 => ?_) ?_
            · change Gst _ _ _ _
              exact absurd h11 (by simp)
            rintro ⟨⟩ ⟨id2, ver2⟩ _ hok2
            dsimp only
            refine aops_nil ?_
            refine blockE_n ?_
            change Gst _ _ _ _
            refine fin0 rfl ?_
            rw [nodeC_succ hn]
            unfold nodeK
            rw [if_neg hk2, if_neg hk6, if_neg hk7, if_neg hk3, if_pos hk4]
            exact prgR_ok hok2
          · try simp only [zz1, zz2, ne_eq, zz4, zz5, zz6, gt_iff_lt, ge_iff_le, zz9, zz0] at h10
            have hk4 := h10
            rw [if_neg hk4] at hB
            refine awp_seq ?_
            refine awp_region ?_
            refine aops_v rfl rfl rfl (a_int rfl rfl rfl rfl ?_)
            refine aops_v rfl rfl rfl (a_assign rfl rfl ?_)
            refine aops_nil ?_
            refine thenE_n ?_
            refine awp_cond rfl (fun h12 => ?_) (fun h12 => ?_)
            · try simp only [zz1, zz2, ne_eq, zz4, zz5, zz6, gt_iff_lt, ge_iff_le, zz9, zz0] at h12
              have hk5 := h12
              rw [if_pos hk5] at hB
              refine awp_region ?_
              refine aops_v rfl rfl rfl (a_move rfl rfl ?_)
              first | refine aops_v rfl rfl rfl (a_load_pin rfl tk149 rfl rfl ?_) | refine aops_v rfl rfl rfl (a_load rfl tk149 rfl HP rfl ?_)
              refine aops_call_res rfl rfl rfl rfl cf121 rfl (repC_spec p id ver l is f n hN hkids k.toNat hno (hno.rep hk5) σ h0 hok (by omega)) (fun h13 => ?_) ?_
              · change Gst _ _ _ _
                exact absurd h13 (by simp)
              rintro ⟨⟩ ⟨id2, ver2⟩ _ hok2
              dsimp only
              refine aops_nil ?_
              refine blockE_n ?_
              change Gst _ _ _ _
              refine fin0 rfl ?_
              rw [nodeC_succ hn]
              unfold nodeK
              rw [if_neg hk2, if_neg hk6, if_neg hk7, if_neg hk3, if_neg hk4, if_pos hk5]
              exact prgR_ok hok2
            · try simp only [zz1, zz2, ne_eq, zz4, zz5, zz6, gt_iff_lt, ge_iff_le, zz9, zz0] at h12
              have hk5 := h12
              refine awp_skip ?_
              refine blockE_n ?_
              change Gst _ _ _ _
              refine fin0 rfl ?_
              rw [nodeC_succ hn]
              unfold nodeK
              rw [if_neg hk2, if_neg hk6, if_neg hk7, if_neg hk3, if_neg hk4, if_neg hk5]
              exact prgR_ok hok

theorem nodeC_ok {l : List Nd} (ht : TreeOk l) (hll : l.length ≤ 1000000) : ∀ f, NodeOk l f
  | 0 => fun p id ver is k σ h0 hok hk0 hk1 hk2 hB => absurd hk1 (by omega)
  | f + 1 => fun p id ver is k σ h0 hok hk0 hk1 hk2 hB => by
    have hn : l[k.toNat]? = some (l[k.toNat]'(by omega)) := List.getElem?_eq_getElem _
    have hno := ht _ _ hn
    exact nodeC_spec p id ver l is f k _ (nodeC_ok ht hll f) hn (fun z hz => by have := hno.kids z hz; omega) hno σ h0 hok hk0 hk2 hB hll

end Go.Proofs.YtnahdpjbddfhgaaGreatDoor
set_option linter.unusedVariables false
set_option linter.unusedSimpArgs false
namespace Go.Proofs.YtnahdpjbddfhgaaGreatDoor
open Go Go.AL
set_option maxRecDepth 100000
/-- a tree of modest size has few instructions -/
theorem acc_ge {szs : List Int} {t : Int} (ht : 1 ≤ t) (hz : ∀ k : Nat, 0 ≤ szs.getD k 0) : ∀ (ks : List Int) (a : Int), a ≤ 2000 → a ≤ sizeAcc szs t ks a
  | [], a, _ => by simp [sizeAcc]
  | k :: r, a, ha => by
    have h0 : 0 ≤ t * szs.getD k.toNat 0 := Int.mul_nonneg (by omega) (hz _)
    have h1 : a ≤ cap2 (a + t * szs.getD k.toNat 0) := by unfold cap2; split <;> omega
    have h2 : cap2 (a + t * szs.getD k.toNat 0) ≤ 2000 := by unfold cap2; split <;> omega
    have := acc_ge ht hz r _ h2
    show a ≤ sizeAcc szs t r (cap2 (a + t * szs.getD k.toNat 0))
    omega
theorem acc_lt {szs : List Int} {t : Int} (ht : 1 ≤ t) (hz : ∀ k : Nat, 0 ≤ szs.getD k 0) : ∀ (ks : List Int) (a : Int), 0 ≤ a → sizeAcc szs t ks a < 2000 →
    sizeAcc szs t ks a = a + (ks.map fun k => t * szs.getD k.toNat 0).sum ∧ ∀ k ∈ ks, szs.getD k.toNat 0 < 2000
  | [], a, _, _ => by simp [sizeAcc]
  | k :: r, a, ha, h => by
    have h0 : 0 ≤ t * szs.getD k.toNat 0 := Int.mul_nonneg (by omega) (hz _)
    have e : sizeAcc szs t (k :: r) a = sizeAcc szs t r (cap2 (a + t * szs.getD k.toNat 0)) := rfl
    have h2 : cap2 (a + t * szs.getD k.toNat 0) ≤ 2000 := by unfold cap2; split <;> omega
    have h3 := acc_ge ht hz r _ h2
    rw [← e] at h3
    have h4 : a + t * szs.getD k.toNat 0 < 2000 := by
      by_cases hc : a + t * szs.getD k.toNat 0 < 2000
      · exact hc
      · unfold cap2 at h3; rw [if_neg hc] at h3; omega
    have h5 : cap2 (a + t * szs.getD k.toNat 0) = a + t * szs.getD k.toNat 0 := by unfold cap2; rw [if_pos h4]
    rw [h5] at e
    obtain ⟨g1, g2⟩ := acc_lt ht hz r (a + t * szs.getD k.toNat 0) (by omega) (by rw [← e]; exact h)
    refine ⟨by rw [e, g1]; simp only [List.map_cons, List.sum_cons]; omega, fun z hz1 => ?_⟩
    rcases List.mem_cons.1 hz1 with rfl | hz1
    · have : szs.getD z.toNat 0 ≤ t * szs.getD z.toNat 0 := by
        have := Int.mul_le_mul_of_nonneg_right ht (hz z.toNat)
        omega
      omega
    · exact g2 z hz1
theorem sizesL_len : ∀ (l : List Nd) (szs : List Int), (sizesL szs l).length = szs.length + l.length
  | [], szs => by simp [sizesL]
  | n :: r, szs => by rw [sizesL, sizesL_len r]; simp; omega
theorem sizesL_pre : ∀ (l : List Nd) (szs : List Int) (k : Nat), k < szs.length → (sizesL szs l).getD k 0 = szs.getD k 0
  | [], szs, k, _ => rfl
  | n :: r, szs, k, h => by
    rw [sizesL, sizesL_pre r _ k (by simp; omega)]
    simp [List.getD_eq_getElem?_getD, List.getElem?_append, h]
theorem sizesL_at : ∀ (l : List Nd) (szs : List Int) (i : Nat) (n : Nd), l[i]? = some n → ∃ pre : List Int, pre.length = szs.length + i ∧ (∀ k, k < pre.length → pre.getD k 0 = (sizesL szs l).getD k 0) ∧
    (sizesL szs l).getD (szs.length + i) 0 = sizeAcc pre (timesOf n) n.kids 1
  | [], _, _, _, h => by simp at h
  | m :: r, szs, 0, n, h => by
    simp only [List.getElem?_cons_zero, Option.some.injEq] at h
    subst h
    refine ⟨szs, rfl, fun k hk => ?_, ?_⟩
    · rw [sizesL, sizesL_pre r _ k (by simp; omega)]
      simp [List.getD_eq_getElem?_getD, List.getElem?_append, hk]
    · rw [sizesL, sizesL_pre r _ _ (by simp)]
      simp [List.getD_eq_getElem?_getD]
  | m :: r, szs, i + 1, n, h => by
    simp only [List.getElem?_cons_succ] at h
    obtain ⟨pre, h1, h2, h3⟩ := sizesL_at r (szs ++ [sizeAcc szs (timesOf m) m.kids 1]) i n h
    refine ⟨pre, by rw [h1]; simp; omega, fun k hk => h2 k hk, ?_⟩
    rw [sizesL, ← h3]
    congr 1
    simp; omega
theorem sizesL_ok : ∀ (l : List Nd) (szs : List Int) (i0 : Nat), (∀ i n, l[i]? = some n → NdOk (i0 + i) n) → (∀ z ∈ szs, 0 ≤ z) → ∀ z ∈ sizesL szs l, 0 ≤ z
  | [], szs, _, _, h => h
  | n :: r, szs, i0, ht, h => by
    refine sizesL_ok r _ (i0 + 1) (fun i m hm => by have := ht (i + 1) m (by simpa using hm); rwa [show i0 + 1 + i = i0 + (i + 1) by omega]) (fun z hz => ?_)
    rcases List.mem_append.1 hz with hz | hz
    · exact h z hz
    · simp only [List.mem_singleton] at hz
      subst hz
      have hno := ht 0 n rfl
      have ht1 := (timesOf_ok hno).1
      have hg : ∀ k : Nat, 0 ≤ szs.getD k 0 := fun k => by
        rw [List.getD_eq_getElem?_getD]
        cases e : szs[k]? with
        | none => simp
        | some v => exact h v (List.mem_of_getElem? e)
      have hm := hno.min0
      have h1 : 1 ≤ timesOf n := by unfold timesOf; split; · split <;> omega
                                    · omega
      have := acc_ge h1 hg n.kids 1 (by omega)
      omega
theorem times1 {i : Nat} {n : Nd} (h : NdOk i n) : 1 ≤ timesOf n := by
  have := h.min0
  unfold timesOf
  split
  · split <;> omega
  · omega
theorem sum_le {ks : List Int} {c : Int → Nat} {s : Int → Int} (h : ∀ k ∈ ks, (c k : Int) + 2 ≤ 3 * s k) : (((ks.map c).sum : Nat) : Int) + 2 * ks.length ≤ 3 * (ks.map s).sum := by
  induction ks with
  | nil => simp
  | cons k r ih =>
    have h1 := h k List.mem_cons_self
    have h2 := ih fun z hz => h z (List.mem_cons_of_mem _ hz)
    simp only [List.map_cons, List.sum_cons, List.length_cons]
    omega
theorem rep_le {c : Nat} {s mn mx : Int} (h : (c : Int) + 2 ≤ 3 * s) (h0 : 0 ≤ mn) (h8 : mn ≤ 8) (hx8 : mx ≤ 8) (hm : 0 ≤ mx → mn ≤ mx) :
    ((mn.toNat * c + (if mx < 0 then c + 2 else (mx - mn).toNat * (c + 1)) : Nat) : Int) + 2 ≤ 3 * (1 + (if mx < 0 then mn + 1 else max mx 1) * s) := by
  have em : mn = 0 ∨ mn = 1 ∨ mn = 2 ∨ mn = 3 ∨ mn = 4 ∨ mn = 5 ∨ mn = 6 ∨ mn = 7 ∨ mn = 8 := by omega
  by_cases hx : mx < 0
  · rw [if_pos hx, if_pos hx]
    rcases em with rfl | rfl | rfl | rfl | rfl | rfl | rfl | rfl | rfl <;> simp only [Int.reduceToNat] <;> omega
  · rw [if_neg hx, if_neg hx]
    have := hm (by omega)
    rw [show max mx 1 = if mx < 1 then 1 else mx by split <;> omega]
    have ex : mx = 0 ∨ mx = 1 ∨ mx = 2 ∨ mx = 3 ∨ mx = 4 ∨ mx = 5 ∨ mx = 6 ∨ mx = 7 ∨ mx = 8 := by omega
    rcases em with rfl | rfl | rfl | rfl | rfl | rfl | rfl | rfl | rfl <;> rcases ex with rfl | rfl | rfl | rfl | rfl | rfl | rfl | rfl | rfl <;>
      first | (exfalso; omega; done) | (simp only [Int.reduceToNat, Int.reduceSub, Int.reduceNeg, Int.reduceLT, if_true, if_false]; omega)
theorem cnt_le {l : List Nd} (ht : TreeOk l) : ∀ (f : Nat) (k : Int), 0 ≤ k → k < f → k < l.length → (sizesL [] l).getD k.toNat 0 < 2000 → (cntC l f k : Int) + 2 ≤ 3 * (sizesL [] l).getD k.toNat 0
  | 0, k, h0, h1, _, _ => absurd h1 (by omega)
  | f + 1, k, h0, h1, h2, h3 => by
    have hn : l[k.toNat]? = some (l[k.toNat]'(by omega)) := List.getElem?_eq_getElem _
    generalize l[k.toNat]'(by omega) = n at hn
    have hno := ht _ _ hn
    obtain ⟨pre, p1, p2, p3⟩ := sizesL_at l [] k.toNat n hn
    simp only [List.length_nil, Nat.zero_add] at p1 p3
    rw [p3] at h3 ⊢
    have hg0 : ∀ z : Nat, 0 ≤ (sizesL [] l).getD z 0 := fun z => by
      rw [List.getD_eq_getElem?_getD]
      cases e : (sizesL [] l)[z]? with
      | none => simp
      | some v => exact sizesL_ok l [] 0 (fun i m hm => by rw [Nat.zero_add]; exact ht i m hm) (by simp) v (List.mem_of_getElem? e)
    have hg : ∀ z : Nat, 0 ≤ pre.getD z 0 := fun z => by
      by_cases hz : z < pre.length
      · rw [p2 z hz]; exact hg0 z
      · rw [List.getD_eq_getElem?_getD, List.getElem?_eq_none (by omega)]; simp
    obtain ⟨e1, e2⟩ := acc_lt (times1 hno) hg n.kids 1 (by omega) h3
    have hkid : ∀ z ∈ n.kids, (cntC l f z : Int) + 2 ≤ 3 * pre.getD z.toNat 0 := by
      intro z hz
      have hz1 := hno.kids z hz
      have hz2 := e2 z hz
      rw [p2 z.toNat (by omega)] at hz2 ⊢
      exact cnt_le ht f z hz1.1 (by omega) (by omega) hz2
    have hb1 := hno.min0; have hb2 := hno.min8; have hb3 := hno.max8; have hb4 := hno.mm
    rw [e1]
    have hs0 : ∀ t : Int, 0 ≤ t → 0 ≤ (n.kids.map fun k => t * pre.getD k.toNat 0).sum := fun t ht => by
      induction n.kids with
      | nil => simp
      | cons a r ih => simp only [List.map_cons, List.sum_cons]; have := Int.mul_nonneg ht (hg a.toNat); omega
    have hs := hs0 _ (timesOf_ok hno).1
    have hsum := sum_le hkid
    rw [cntC, hn]
    show ((cntK (cntC l f) n : Nat) : Int) + 2 ≤ _
    unfold cntK
    split
    · omega
    split
    · omega
    split
    · omega
    split
    · rename_i hk
      have : timesOf n = 1 := by unfold timesOf; rw [if_neg (by omega)]
      rw [this]; simp only [Int.one_mul]; omega
    split
    · rename_i hk
      have : timesOf n = 1 := by unfold timesOf; rw [if_neg (by omega)]
      rw [this]; simp only [Int.one_mul]; omega
    split
    · rename_i hk
      obtain ⟨k0, r, hkr⟩ := List.exists_cons_of_ne_nil (hno.rep hk)
      have h1 := hkid k0 (by rw [hkr]; exact List.mem_cons_self)
      have h2 := rep_le (mn := n.min) (mx := n.max) h1 hb1 hb2 hb3 hb4
      have e3 : kid0 n = k0 := by unfold kid0; rw [hkr]; rfl
      have e4 : timesOf n = if n.max < 0 then n.min + 1 else max n.max 1 := by unfold timesOf; rw [if_pos hk]
      rw [e3]
      rw [hkr, e4]
      simp only [List.map_cons, List.sum_cons]
      have h3 : 0 ≤ (r.map fun k => (if n.max < 0 then n.min + 1 else max n.max 1) * pre.getD k.toNat 0).sum := by
        have ht0 : (0 : Int) ≤ if n.max < 0 then n.min + 1 else max n.max 1 := by split <;> omega
        generalize (if n.max < 0 then n.min + 1 else max n.max 1) = t at ht0
        clear hkr
        induction r with
        | nil => simp
        | cons a r ih => simp only [List.map_cons, List.sum_cons]; have := Int.mul_nonneg ht0 (hg a.toNat); omega
      omega
    · omega
def compileP (l : List Nd) : List In := nodeC l l.length ((l.length : Int) - 1) [] ++ [⟨4, 0, 0, []⟩]
theorem gst_prg_frz {N : Nat} {Q : Env → AHeap → Prop} {env : Env} {σ : AHeap} {p id ver : Nat} {l : List Nd} {is : List In} (k : Nat) (hk : AL.look env k = some (.ref p 0 0)) (h0 : σ p = none) (hok : okP σ p (id, ver))
    (h : Gst N Q ((k, .pin [nodesA l, .lst (is.flatMap encI) is.length false] 0) :: env) σ) : Gst N Q env (prg σ p l id ver is) := by
  obtain ⟨h1, h2⟩ := hok
  refine gst_frzL (sz := 4) (n := is.length) (id := id) (ver := ver) (e := 157) (cs := is.flatMap encI) (flat_len encI_len is) ?_ [] (by simp) (upd σ p (.cells 0 154 [nodesA l, .lst (is.flatMap encI) is.length false])) ?_ ?_
  · intro hp
    unfold prg
    rw [slh_pos hp]; exact upd_same _ _ _
  · intro q o hq
    by_cases hqp : q = p
    · subst hqp
      rw [upd_same] at hq
      simp only [Option.some.injEq] at hq
      subst hq
      exact ⟨fun _ => h2, _, prg_at h2, .cells (.cons (.refl _) (.cons .sl .nil))⟩
    · rw [upd_ne _ _ hqp] at hq
      have hqi : q ≠ id := fun e => by rw [e] at hq; rw [h1] at hq; exact absurd hq (by simp)
      exact ⟨fun _ => hqi, o, prg_sub h0 h1 q o hq, .refl o⟩
  · refine gst_freeze (upd_same _ _ _) [(k, .pin [nodesA l, .lst (is.flatMap encI) is.length false] 0)] ?_ ?_
    · intro q hq
      simp only [List.mem_singleton] at hq
      subst hq
      exact ⟨_, hk, .ref⟩
    · rw [del_upd _ _ h0]; exact h

theorem compile_spec (l : List Nd) (σ : AHeap) (ht : TreeOk l) (hl : l.length ≤ 1000000) (h0 : 0 < l.length) (hc : cntC l l.length ((l.length : Int) - 1) ≤ 100000) : ASpec Tryz.prog 63 [nodesA l] σ fun r σ' => r = .ret (.pin [nodesA l, .lst ((compileP l).flatMap encI) (compileP l).length false] 0) ∧ σ' = σ := by
  refine aspec_enter (N := 16) (rs := [.tmp 2]) Tryz.func63 rfl rfl rfl rfl rfl rfl ?_
  refine awp_seq ?_
  refine awp_region ?_
  refine aops_v rfl rfl rfl (a_assign rfl rfl ?_)
  refine aops_nil ?_
  refine thenE_n ?_
  refine awp_seq ?_
  refine awp_region ?_
  refine aops_v rfl rfl rfl (a_move rfl rfl ?_)
  refine aops_v rfl rfl rfl (a_build (res := [_, _]) rfl bk154 rfl rfl ?_)
  refine aops_v rfl rfl rfl (a_box rfl rfl rfl ?_)
  intro id6 hid6
  refine aops_v rfl rfl rfl (a_assign rfl rfl ?_)
  refine aops_nil ?_
  refine thenE_n ?_
  refine awp_seq ?_
  refine awp_fresh fun f hf => ?_
  obtain ⟨hfp, hfn⟩ := ne_of_upd hf
  have hok : okP σ id6 (f, 0) := ⟨hfn, hfp⟩
  change AWp _ _ _ _ _ (prg σ id6 l f 0 [])
  refine awp_region ?_
  refine aops_v rfl rfl rfl (a_move rfl rfl ?_)
  refine aops_v rfl rfl rfl (a_move rfl rfl ?_)
  first | refine aops_v rfl rfl rfl (a_len_lst rfl isl68 rfl ?_) | refine aops_v rfl rfl rfl (a_len rfl isl68 rfl ?_) | refine aops_v rfl rfl rfl (a_len_slg rfl isl68 rfl ?_) | refine aops_v rfl rfl rfl (a_len_nil rfl isl68 rfl ?_)
  first | refine aops_v rfl rfl rfl (a_sub rfl rfl rfl (by simp only [Go.AL.lo, Go.AL.hi]; omega) ?_) | refine aops_v rfl rfl rfl (a_int rfl rfl rfl rfl ?_)
  refine aops_call_res rfl rfl rfl rfl cf91 rfl (nodeC_ok ht hl l.length id6 f 0 [] ((l.length : Int) - 1) σ hid6 hok (by omega) (by omega) (by omega) (by simpa using hc)) (fun h1 => ?_) ?_
  · change Gst _ _ _ _
    exact absurd h1 (by simp)
  rintro ⟨⟩ ⟨id1, ver1⟩ _ hok1
  dsimp only
  refine aops_nil ?_
  refine thenE_n ?_
  refine awp_seq ?_
  refine awp_region ?_
  refine aops_v rfl rfl rfl (a_move rfl rfl ?_)
  refine aops_v rfl rfl rfl (a_build (res := [_, _, _, _]) rfl bk157 rfl rfl ?_)
  refine aops_call_res rfl rfl rfl rfl cf92 rfl ((emit_spec id6 id1 ver1 l (nodeC l l.length ((l.length : Int) - 1) []) ⟨4, 0, 0, []⟩ σ hid6 hok1 (by rw [nodeC_len]; simp; omega)).wk (by refine .cons wk_refl (.cons (wk_agg ?_) .nil); repeat (first | exact .nil | refine .cons wk_refl ?_ | refine .cons wk_nil ?_ | refine .cons wk_ex ?_))) (fun h2 => ?_) ?_
  · change Gst _ _ _ _
    exact absurd h2 (by simp)
  rintro ⟨⟩ ⟨id2, ver2⟩ _ hok2
  dsimp only
  refine aops_nil ?_
  refine thenE_n ?_
  refine awp_seq ?_
  refine awp_region ?_
  refine aops_v rfl rfl rfl (a_move rfl rfl ?_)
  refine aops_v rfl rfl rfl (a_assign rfl rfl ?_)
  refine aops_nil ?_
  refine thenE_n ?_
  refine awp_ret ?_
  change Gst _ _ _ _
  refine gst_prg_frz 2 rfl hid6 hok2 ?_
  refine fin1 rfl ?_
  exact ⟨rfl, rfl⟩

end Go.Proofs.YtnahdpjbddfhgaaGreatDoor
set_option linter.unusedVariables false
set_option linter.unusedSimpArgs false
namespace Go.Proofs.YtnahdpjbddfhgaaGreatDoor
open Go Go.AL
set_option maxRecDepth 100000
/-- a program's run in plain words -/
def hasR : List Int → Int → Bool
  | a :: b :: t, r => (decide (a ≤ r) && decide (r ≤ b)) || hasR t r
  | _, _ => false
theorem hasR_drop {l : List Int} {i : Nat} {a b r : Int} (h : l.drop i = a :: b :: l.drop (i + 2)) : hasR (l.drop i) r = ((decide (a ≤ r) && decide (r ≤ b)) || hasR (l.drop (i + 2)) r) := by rw [h]; rfl
def stackOf (i : In) (first last : Bool) (pc : Int) : List Int × List Int :=
  if i.kind = 1 then ([i.x, i.y], [])
  else if (i.kind = 2 ∧ first = true) ∨ (i.kind = 3 ∧ last = true) then ([i.x], [])
  else if i.kind = 2 then ([], []) else ([], [pc])
def inAt (is : List In) (pc : Int) : In := is.getD pc.toNat ⟨4, 0, 0, []⟩
def closL (is : List In) (first last : Bool) : Nat → List Bool → List Int → List Int → List Int
  | 0, _, _, out => out
  | f + 1, seen, work, out => match work.getLast? with
    | none => out
    | some pc =>
      if seen.getD pc.toNat false then closL is first last f seen work.dropLast out
      else closL is first last f (seen.set pc.toNat true) (work.dropLast ++ (stackOf (inAt is pc) first last pc).1) (out ++ (stackOf (inAt is pc) first last pc).2)
def unseen (seen : List Bool) : Nat := seen.countP (fun b => !b)
def closFuel (is : List In) (work : List Int) : Nat := 3 * is.length + work.length
def closP (is : List In) (fr : List Int) (first last : Bool) : List Int := sortI (closL is first last (closFuel is fr) (List.replicate is.length false) fr [])
theorem unseen_set {seen : List Bool} {k : Nat} (h : k < seen.length) (h2 : seen.getD k false = false) : unseen (seen.set k true) + 1 = unseen seen := by
  unfold unseen
  rw [List.countP_set h]
  have e : seen[k] = false := by
    rw [List.getD_eq_getElem?_getD, List.getElem?_eq_getElem h] at h2; simpa using h2
  have hp : 0 < seen.countP (fun b => !b) := List.countP_pos_iff.2 ⟨seen[k], List.getElem_mem h, by simp [e]⟩
  simp [e]; omega
/-- jumps that may be -/
structure InOk (n : Nat) (i : In) : Prop where
  x : 0 ≤ i.x ∧ i.x < n
  y : 0 ≤ i.y ∧ i.y < n
  set : i.set.length % 2 = 0 ∧ i.set.length ≤ 1000000
def PgOk (is : List In) : Prop := ∀ i ∈ is, InOk is.length i
def PcOk (n : Nat) (l : List Int) : Prop := ∀ k ∈ l, 0 ≤ k ∧ k < n
theorem stack_ok {n : Nat} {i : In} {first last : Bool} {pc : Int} (h : InOk n i) (hp : 0 ≤ pc ∧ pc < n) : PcOk n (stackOf i first last pc).1 ∧ PcOk n (stackOf i first last pc).2 ∧ (stackOf i first last pc).1.length ≤ 2 ∧ (stackOf i first last pc).2.length ≤ 1 := by
  have hx := h.x; have hy := h.y
  unfold stackOf
  split
  · exact ⟨fun k hk => by simp at hk; rcases hk with rfl | rfl <;> assumption, by simp [PcOk], by simp, by simp⟩
  split
  · exact ⟨fun k hk => by simp at hk; subst hk; assumption, by simp [PcOk], by simp, by simp⟩
  split
  · exact ⟨by simp [PcOk], by simp [PcOk], by simp, by simp⟩
  · exact ⟨by simp [PcOk], fun k hk => by simp at hk; subst hk; assumption, by simp, by simp⟩
theorem inAt_get {is : List In} {pc : Int} (h : 0 ≤ pc ∧ pc < is.length) : is[pc.toNat]? = some (inAt is pc) := by
  unfold inAt; rw [List.getD_eq_getElem?_getD, List.getElem?_eq_getElem (by omega)]; rfl
theorem closL_nil {is : List In} {first last : Bool} {f : Nat} {seen : List Bool} {out : List Int} : closL is first last f seen [] out = out := by cases f <;> rfl
theorem closL_seen {is : List In} {first last : Bool} {f : Nat} {seen : List Bool} {w out : List Int} {pc : Int} (h : seen.getD pc.toNat false = true) : closL is first last (f + 1) seen (w ++ [pc]) out = closL is first last f seen w out := by
  rw [closL]; simp only [List.getLast?_append, List.getLast?_singleton, Option.some_or, List.dropLast_concat]; rw [if_pos h]
theorem closL_new {is : List In} {first last : Bool} {f : Nat} {seen : List Bool} {w out : List Int} {pc : Int} (h : seen.getD pc.toNat false = false) : closL is first last (f + 1) seen (w ++ [pc]) out =
    closL is first last f (seen.set pc.toNat true) (w ++ (stackOf (inAt is pc) first last pc).1) (out ++ (stackOf (inAt is pc) first last pc).2) := by
  rw [closL]; simp only [List.getLast?_append, List.getLast?_singleton, Option.some_or, List.dropLast_concat]; rw [if_neg (by rw [h]; simp)]
theorem snocI (l : List Int) (h : 0 < l.length) : ∃ w pc, l = w ++ [pc] := by
  have hne : l ≠ [] := by intro e; subst e; simp at h
  exact ⟨l.dropLast, l.getLast hne, (List.dropLast_concat_getLast hne).symm⟩
/-- the closure's memory: what was seen, what was found, what is to be done -/
def clh (σ : AHeap) (a : Nat) (seen : List Bool) (o vo : Nat) (out : List Int) (w vw : Nat) (ws : List AV) : AHeap :=
  upd (slh (upd σ a (.cells 0 4 (seen.map boo))) 3 (out.map int) out.length o vo) w (.cells vw 3 ws)
/-- the places: apart -/
structure ClOk (σ : AHeap) (a o n w : Nat) : Prop where
  ha : σ a = none
  hw : σ w = none
  aw : a ≠ w
  ho : σ o = none
  ao : n = 0 ∨ a ≠ o
  wo : n = 0 ∨ w ≠ o
theorem clh_a {σ : AHeap} {a o vo w vw : Nat} {seen : List Bool} {out : List Int} {ws : List AV} (h : ClOk σ a o out.length w) : clh σ a seen o vo out w vw ws a = some (.cells 0 4 (seen.map boo)) := by
  unfold clh
  rw [upd_ne _ _ h.aw]
  rcases h.ao with h0 | h0
  · rw [h0]; exact upd_same _ _ _
  · rw [slh_at _ _ _ _ h0]; exact upd_same _ _ _
theorem clh_w {σ : AHeap} {a o vo w vw : Nat} {seen : List Bool} {out : List Int} {ws : List AV} : clh σ a seen o vo out w vw ws w = some (.cells vw 3 ws) := upd_same _ _ _
theorem clh_set {σ : AHeap} {a o vo w vw : Nat} {seen seen' : List Bool} {out : List Int} {ws : List AV} (h : ClOk σ a o out.length w) : upd (clh σ a seen o vo out w vw ws) a (.cells 0 4 (seen'.map boo)) = clh σ a seen' o vo out w vw ws := by
  unfold clh
  rw [upd_comm _ _ _ h.aw.symm]
  congr 1
  rcases h.ao with h0 | h0
  · rw [h0]; simp only [slh]; exact upd_upd _ _ _ _
  · rw [slh_upd _ _ _ _ h0, upd_upd]
theorem clh_work {σ : AHeap} {a o vo w vw vw' : Nat} {seen : List Bool} {out : List Int} {ws ws' : List AV} : upd (clh σ a seen o vo out w vw ws) w (.cells vw' 3 ws') = clh σ a seen o vo out w vw' ws' := upd_upd _ _ _ _
theorem clh_out {σ : AHeap} {a o vo w vw : Nat} {seen : List Bool} {out : List Int} {ws : List AV} (h : out.length = 0 ∨ w ≠ o) : clh σ a seen o vo out w vw ws = slh (upd (upd σ a (.cells 0 4 (seen.map boo))) w (.cells vw 3 ws)) 3 (out.map int) out.length o vo := by
  unfold clh
  rcases h with h | h
  · rw [h]; rfl
  · rw [slh_upd _ _ _ _ h]
theorem clh_del {σ : AHeap} {a o vo w vw : Nat} {seen : List Bool} {out : List Int} {ws : List AV} (h : ClOk σ a o out.length w) : ∀ k q, slh σ 3 (out.map int) out.length o vo k = some q → clh σ a seen o vo out w vw ws k = some q := by
  intro k q hk
  have hw : k ≠ w := by
    intro e
    subst e
    rcases h.wo with h0 | h0
    · rw [h0] at hk; simp only [slh] at hk; rw [h.hw] at hk; exact absurd hk (by simp)
    · rw [slh_at _ _ _ _ h0, h.hw] at hk; exact absurd hk (by simp)
  have ha : k ≠ a := by
    intro e
    subst e
    rcases h.ao with h0 | h0
    · rw [h0] at hk; simp only [slh] at hk; rw [h.ha] at hk; exact absurd hk (by simp)
    · rw [slh_at _ _ _ _ h0, h.ha] at hk; exact absurd hk (by simp)
  unfold clh
  rw [upd_ne _ _ hw]
  cases hn : out.length with
  | zero => rw [hn] at hk; simp only [slh] at hk ⊢; rw [upd_ne _ _ ha]; exact hk
  | succ n =>
    rw [hn] at hk
    simp only [slh] at hk ⊢
    by_cases hko : k = o
    · subst hko; rw [upd_same] at hk ⊢; exact hk
    · rw [upd_ne _ _ hko] at hk ⊢; rw [upd_ne _ _ ha]; exact hk
theorem stv_seen {seen : List Bool} {k : Nat} (h : k < seen.length) : stv (k * 1) [boo true] (seen.map boo) = (seen.set k true).map boo := by
  unfold stv
  rw [List.set_eq_take_append_cons_drop, if_pos h]
  simp [List.map_take, List.map_drop]
theorem ldv_seen {seen : List Bool} {k : Nat} (h : k < seen.length) : ldv false 1 (k * 1) (seen.map boo) = some (boo (seen.getD k false)) := by
  simp [ldv, h, List.getD_eq_getElem?_getD]
abbrev prgA (l : List Nd) (is : List In) : AV := .pin [nodesA l, .lst (is.flatMap encI) is.length false] 0

theorem has_spec (l : List Int) (c : Int) (σ : AHeap) (h2 : l.length % 2 = 0) (hl : l.length ≤ 1000000) : ASpec Tryz.prog 102 [.lst (l.map rI) l.length false, rI c] σ fun r σ' => r = .ret (boo (hasR l c)) ∧ σ' = σ := by
  refine aspec_enter (N := 27) (rs := [.tmp 4]) Tryz.func102 rfl rfl rfl rfl rfl rfl ?_
  refine awp_seq ?_
  refine awp_region ?_
  refine aops_v rfl rfl rfl (a_assign rfl rfl ?_)
  refine aops_nil ?_
  refine thenE_n ?_
  refine awp_seq ?_
  refine awp_seq ?_
  refine awp_region ?_
  refine aops_v rfl rfl rfl (a_assign rfl rfl ?_)
  refine aops_nil ?_
  refine thenE_n ?_
  refine awp_block ?_
  refine awp_loop (S := Nat) (fun i => [(0, .lst (l.map rI) l.length false), (1, rI c), (5, int i)]) (fun _ => σ) (fun i => i ≤ l.length ∧ i % 2 = 0 ∧ hasR (l.drop i) c = hasR l c) (fun i => l.length - i) ⟨0, ⟨by simp, rfl, by simp⟩, EL, rfl⟩ ?_
  rintro i ⟨hi, hi2, hJ⟩
  refine awp_seq ?_
  refine awp_seq ?_
  refine awp_region ?_
  refine aops_v rfl rfl rfl (a_move rfl rfl ?_)
  refine aops_v rfl rfl rfl (a_move rfl rfl ?_)
  first | refine aops_v rfl rfl rfl (a_len_lst rfl isl59 rfl ?_) | refine aops_v rfl rfl rfl (a_len rfl isl59 rfl ?_) | refine aops_v rfl rfl rfl (a_len_slg rfl isl59 rfl ?_) | refine aops_v rfl rfl rfl (a_len_nil rfl isl59 rfl ?_)
  refine aops_v rfl rfl rfl (a_int rfl rfl rfl rfl ?_)
  refine aops_nil ?_
  refine thenE_n ?_
  refine awp_cond rfl (fun h1 => ?_) (fun h1 => ?_)
  · try simp only [zz1, zz2, ne_eq, zz4, zz5, zz6, gt_iff_lt, ge_iff_le, zz9, zz0] at h1
    obtain ⟨a, b, ha, hb, hdr⟩ := drop2 (l := l) (i := i) (by omega)
    refine awp_skip ?_
    refine thenE_n ?_
    refine awp_seq ?_
    refine awp_block ?_
    refine awp_seq ?_
    refine awp_region ?_
    refine aops_v rfl rfl rfl (a_move rfl rfl ?_)
    refine aops_v rfl rfl rfl (a_move rfl rfl ?_)
    refine aops_v rfl rfl rfl (a_move rfl rfl ?_)
    first | refine aops_v rfl rfl rfl (a_indexAddr_lst rfl ek59 rfl rfl NT (by omega) (by omega) ?_) | refine aops_v rfl rfl rfl (a_indexAddr rfl ek59 rfl rfl NT (by omega) (by omega) ?_)
    refine aops_v rfl rfl rfl (a_load_pin rfl tk21 rfl (ldv_map ha) ?_)
    refine aops_v rfl rfl rfl (a_int rfl rfl rfl rfl ?_)
    refine aops_v rfl rfl rfl (a_move rfl rfl ?_)
    refine aops_bool (fun h2 => ?_) (fun h2 => ?_)
    · try simp only [zz1, zz2, ne_eq, zz4, zz5, zz6, gt_iff_lt, ge_iff_le, zz9, zz0] at h2
      have h1c := h2
      refine aops_yes rfl rfl rfl rfl ?_
      refine aops_v rfl rfl rfl (a_move rfl rfl ?_)
      refine aops_yes rfl rfl rfl rfl ?_
      refine aops_v rfl rfl rfl (a_move rfl rfl ?_)
      refine aops_yes rfl rfl rfl rfl ?_
      refine aops_v rfl rfl rfl (a_move rfl rfl ?_)
      refine aops_yes rfl rfl rfl rfl ?_
      first | refine aops_v rfl rfl rfl (a_add rfl rfl rfl (by simp only [Go.AL.lo, Go.AL.hi]; omega) ?_) | refine aops_v rfl rfl rfl (a_int rfl rfl rfl rfl ?_)
      refine aops_yes rfl rfl rfl rfl ?_
      first | refine aops_v rfl rfl rfl (a_indexAddr_lst rfl ek59 rfl rfl NT (by omega) (by omega) ?_) | refine aops_v rfl rfl rfl (a_indexAddr rfl ek59 rfl rfl NT (by omega) (by omega) ?_)
      refine aops_yes rfl rfl rfl rfl ?_
      refine aops_v rfl rfl rfl (a_load_pin rfl tk21 rfl (ldv_map hb) ?_)
      refine aops_yes rfl rfl rfl rfl ?_
      refine aops_v rfl rfl rfl (a_int rfl rfl rfl rfl ?_)
      refine aops_v rfl rfl rfl (a_pick rfl rfl rfl ?_)
      refine aops_nil ?_
      refine thenE_n ?_
      refine awp_cond rfl (fun h3 => ?_) (fun h3 => ?_)
      · try simp only [zz1, zz2, ne_eq, zz4, zz5, zz6, gt_iff_lt, ge_iff_le, zz9, zz0] at h3
        have h2c := h3
        refine awp_seq ?_
        refine awp_region ?_
        refine aops_v rfl rfl rfl (a_assign rfl rfl ?_)
        refine aops_nil ?_
        refine thenE_n ?_
        refine awp_ret ?_
        change Gst _ _ _ _
        refine fin1 rfl ?_
        exact ⟨by rw [← hJ, hasR_drop hdr, show (decide (a ≤ c) && decide (c ≤ b)) = true by simp; omega]; rfl, rfl⟩
      · try simp only [zz1, zz2, ne_eq, zz4, zz5, zz6, gt_iff_lt, ge_iff_le, zz9, zz0] at h3
        have h2c := h3
        refine awp_skip ?_
        refine blockE_n ?_
        refine thenE_n ?_
        refine awp_region ?_
        refine aops_v rfl rfl rfl (a_move rfl rfl ?_)
        first | refine aops_v rfl rfl rfl (a_add rfl rfl rfl (by simp only [Go.AL.lo, Go.AL.hi]; omega) ?_) | refine aops_v rfl rfl rfl (a_int rfl rfl rfl rfl ?_)
        refine aops_v rfl rfl rfl (a_assign rfl rfl ?_)
        refine aops_nil ?_
        refine thenE_n ?_
        refine .done ⟨i + 2, ⟨by omega, by omega, ?_⟩, by omega, EL, rfl⟩
        rw [← hJ, hasR_drop hdr, show (decide (a ≤ c) && decide (c ≤ b)) = false by simp; omega]; rfl
    · try simp only [zz1, zz2, ne_eq, zz4, zz5, zz6, gt_iff_lt, ge_iff_le, zz9, zz0] at h2
      have h1c := h2
      refine aops_no rfl rfl rfl rfl rfl rfl ?_
      refine aops_no rfl rfl rfl rfl rfl rfl ?_
      refine aops_no rfl rfl rfl rfl rfl rfl ?_
      refine aops_no rfl rfl rfl rfl rfl rfl ?_
      refine aops_no rfl rfl rfl rfl rfl rfl ?_
      refine aops_no rfl rfl rfl rfl rfl rfl ?_
      refine aops_no rfl rfl rfl rfl rfl rfl ?_
      refine aops_v rfl rfl rfl (a_pick rfl rfl rfl ?_)
      refine aops_nil ?_
      refine thenE_n ?_
      refine awp_cond (b := false) rfl (fun h => Bool.noConfusion h) (fun _ => ?_)
      refine awp_skip ?_
      refine blockE_n ?_
      refine thenE_n ?_
      refine awp_region ?_
      refine aops_v rfl rfl rfl (a_move rfl rfl ?_)
      first | refine aops_v rfl rfl rfl (a_add rfl rfl rfl (by simp only [Go.AL.lo, Go.AL.hi]; omega) ?_) | refine aops_v rfl rfl rfl (a_int rfl rfl rfl rfl ?_)
      refine aops_v rfl rfl rfl (a_assign rfl rfl ?_)
      refine aops_nil ?_
      refine thenE_n ?_
      refine .done ⟨i + 2, ⟨by omega, by omega, ?_⟩, by omega, EL, rfl⟩
      rw [← hJ, hasR_drop hdr, show (decide (a ≤ c) && decide (c ≤ b)) = false by simp; omega]; rfl
  · try simp only [zz1, zz2, ne_eq, zz4, zz5, zz6, gt_iff_lt, ge_iff_le, zz9, zz0] at h1
    refine awp_exit ?_
    refine thenE_x ?_
    refine thenE_x ?_
    refine blockE_x ?_
    refine thenE_n ?_
    refine awp_seq ?_
    refine awp_region ?_
    refine aops_v rfl rfl rfl (a_assign rfl rfl ?_)
    refine aops_nil ?_
    refine thenE_n ?_
    refine awp_ret ?_
    change Gst _ _ _ _
    refine fin1 rfl ?_
    obtain rfl : i = l.length := by omega
    exact ⟨by rw [← hJ]; simp [hasR], rfl⟩

theorem len640_spec  (σ : AHeap)  : ASpec Tryz.prog 148 [u64 0] σ fun r σ' => r = .ret (int 0) ∧ σ' = σ := by
  refine aspec_enter (N := 25) (rs := [.tmp 2]) Tryz.func148 rfl rfl rfl rfl rfl rfl ?_
  refine awp_seq ?_
  refine awp_region ?_
  refine aops_v rfl rfl rfl (a_assign rfl rfl ?_)
  refine aops_nil ?_
  refine thenE_n ?_
  refine awp_seq ?_
  refine awp_seq ?_
  refine awp_region ?_
  refine aops_v rfl rfl rfl (a_move rfl rfl ?_)
  refine aops_v rfl rfl rfl (a_int rfl rfl rfl rfl ?_)
  refine aops_nil ?_
  refine thenE_n ?_
  refine awp_cond rfl (fun h1 => ?_) (fun h1 => ?_)
  · try simp only [zz1, zz2, ne_eq, zz4, zz5, zz6, gt_iff_lt, ge_iff_le, zz9, zz0] at h1
    omega
  · try simp only [zz1, zz2, ne_eq, zz4, zz5, zz6, gt_iff_lt, ge_iff_le, zz9, zz0] at h1
    refine awp_skip ?_
    refine thenE_n ?_
    refine awp_seq ?_
    refine awp_seq ?_
    refine awp_region ?_
    refine aops_v rfl rfl rfl (a_move rfl rfl ?_)
    refine aops_v rfl rfl rfl (a_int rfl rfl rfl rfl ?_)
    refine aops_nil ?_
    refine thenE_n ?_
    refine awp_cond rfl (fun h2 => ?_) (fun h2 => ?_)
    · try simp only [zz1, zz2, ne_eq, zz4, zz5, zz6, gt_iff_lt, ge_iff_le, zz9, zz0] at h2
      omega
    · try simp only [zz1, zz2, ne_eq, zz4, zz5, zz6, gt_iff_lt, ge_iff_le, zz9, zz0] at h2
      refine awp_skip ?_
      refine thenE_n ?_
      refine awp_seq ?_
      refine awp_seq ?_
      refine awp_region ?_
      refine aops_v rfl rfl rfl (a_move rfl rfl ?_)
      refine aops_v rfl rfl rfl (a_int rfl rfl rfl rfl ?_)
      refine aops_nil ?_
      refine thenE_n ?_
      refine awp_cond rfl (fun h3 => ?_) (fun h3 => ?_)
      · try simp only [zz1, zz2, ne_eq, zz4, zz5, zz6, gt_iff_lt, ge_iff_le, zz9, zz0] at h3
        omega
      · try simp only [zz1, zz2, ne_eq, zz4, zz5, zz6, gt_iff_lt, ge_iff_le, zz9, zz0] at h3
        refine awp_skip ?_
        refine thenE_n ?_
        refine awp_seq ?_
        refine awp_region ?_
        refine aops_v rfl rfl rfl (a_move rfl rfl ?_)
        refine aops_v rfl rfl rfl (a_move rfl rfl ?_)
        first | refine aops_v rfl rfl rfl (a_conv rfl hu41 ik5 rfl (by simp only [Go.AL.lo, Go.AL.hi]; omega) ?_) | refine aops_v rfl rfl rfl (a_conv_wrap rfl hu41 ik5 rfl ?_)
        refine aops_v rfl rfl rfl (a_index_str (l := [0, 1, 2, 2, 3, 3, 3, 3, 4, 4, 4, 4, 4, 4, 4, 4, 5, 5, 5, 5, 5, 5, 5, 5, 5, 5, 5, 5, 5, 5, 5, 5, 6, 6, 6, 6, 6, 6, 6, 6, 6, 6, 6, 6, 6, 6, 6, 6, 6, 6, 6, 6, 6, 6, 6, 6, 6, 6, 6, 6, 6, 6, 6, 6, 7, 7, 7, 7, 7, 7, 7, 7, 7, 7, 7, 7, 7, 7, 7, 7, 7, 7, 7, 7, 7, 7, 7, 7, 7, 7, 7, 7, 7, 7, 7, 7, 7, 7, 7, 7, 7, 7, 7, 7, 7, 7, 7, 7, 7, 7, 7, 7, 7, 7, 7, 7, 7, 7, 7, 7, 7, 7, 7, 7, 7, 7, 7, 7, 8, 8, 8, 8, 8, 8, 8, 8, 8, 8, 8, 8, 8, 8, 8, 8, 8, 8, 8, 8, 8, 8, 8, 8, 8, 8, 8, 8, 8, 8, 8, 8, 8, 8, 8, 8, 8, 8, 8, 8, 8, 8, 8, 8, 8, 8, 8, 8, 8, 8, 8, 8, 8, 8, 8, 8, 8, 8, 8, 8, 8, 8, 8, 8, 8, 8, 8, 8, 8, 8, 8, 8, 8, 8, 8, 8, 8, 8, 8, 8, 8, 8, 8, 8, 8, 8, 8, 8, 8, 8, 8, 8, 8, 8, 8, 8, 8, 8, 8, 8, 8, 8, 8, 8, 8, 8, 8, 8, 8, 8, 8, 8, 8, 8, 8, 8, 8, 8, 8, 8, 8, 8, 8, 8, 8, 8, 8, 8]) rfl ist9 rfl rfl rfl (by omega) rfl ?_)
        first | refine aops_v rfl rfl rfl (a_conv rfl hu5 ik3 rfl (by simp only [Go.AL.lo, Go.AL.hi]; omega) ?_) | refine aops_v rfl rfl rfl (a_conv_wrap rfl hu5 ik3 rfl ?_)
        first | refine aops_v rfl rfl rfl (a_add rfl rfl rfl (by simp only [Go.AL.lo, Go.AL.hi]; omega) ?_) | refine aops_v rfl rfl rfl (a_int rfl rfl rfl rfl ?_)
        refine aops_v rfl rfl rfl (a_assign rfl rfl ?_)
        refine aops_nil ?_
        refine thenE_n ?_
        refine awp_ret ?_
        change Gst _ _ _ _
        refine fin1 rfl ?_
        first | exact ⟨rfl, rfl⟩ | exact ⟨by simp [*], rfl⟩

theorem blen0_spec  (σ : AHeap)  : ASpec Tryz.prog 123 [u64 0] σ fun r σ' => r = .ret (int 0) ∧ σ' = σ := by
  refine aspec_enter (N := 8) (rs := [.tmp 2]) Tryz.func123 rfl rfl rfl rfl rfl rfl ?_
  refine awp_seq ?_
  refine awp_region ?_
  refine aops_v rfl rfl rfl (a_assign rfl rfl ?_)
  refine aops_nil ?_
  refine thenE_n ?_
  refine awp_seq ?_
  refine awp_cond (b := false) rfl (fun h => Bool.noConfusion h) (fun _ => ?_)
  refine awp_skip ?_
  refine thenE_n ?_
  refine awp_seq ?_
  refine awp_region ?_
  refine aops_v rfl rfl rfl (a_move rfl rfl ?_)
  refine aops_call_eq rfl rfl rfl rfl cf148 rfl (len640_spec _) ?_
  refine aops_v rfl rfl rfl (a_assign rfl rfl ?_)
  refine aops_nil ?_
  refine thenE_n ?_
  refine awp_ret ?_
  change Gst _ _ _ _
  refine fin1 rfl ?_
  first | exact ⟨rfl, rfl⟩ | exact ⟨by simp [*], rfl⟩

theorem ins0_spec (l : AV) (σ : AHeap)  : ASpec Tryz.prog 169 [l, int 0, int 0] σ fun r σ' => r = .ret (.tup []) ∧ σ' = σ := by
  refine aspec_enter (N := 49) (rs := []) Tryz.func169 rfl rfl rfl rfl rfl rfl ?_
  refine awp_seq ?_
  refine awp_region ?_
  refine aops_v rfl rfl rfl (a_move rfl rfl ?_)
  first | refine aops_v rfl rfl rfl (a_add rfl rfl rfl (by simp only [Go.AL.lo, Go.AL.hi]; omega) ?_) | refine aops_v rfl rfl rfl (a_int rfl rfl rfl rfl ?_)
  refine aops_v rfl rfl rfl (a_assign rfl rfl ?_)
  refine aops_nil ?_
  refine thenE_n ?_
  refine awp_block ?_
  refine awp_loop (S := Unit) (fun _ => [(2, int 0), (6, int 1)]) (fun _ => σ) (fun _ => True) (fun _ => 0) ⟨(), by simp, EL, rfl⟩ ?_
  rintro _ _
  refine awp_seq ?_
  refine awp_seq ?_
  refine awp_region ?_
  refine aops_v rfl rfl rfl (a_move rfl rfl ?_)
  refine aops_v rfl rfl rfl (a_move rfl rfl ?_)
  refine aops_v rfl rfl rfl (a_int rfl rfl rfl rfl ?_)
  refine aops_nil ?_
  refine thenE_n ?_
  refine awp_cond rfl (fun h1 => ?_) (fun h1 => ?_)
  · try simp only [zz1, zz2, ne_eq, zz4, zz5, zz6, gt_iff_lt, ge_iff_le, zz9, zz0] at h1
    omega
  · try simp only [zz1, zz2, ne_eq, zz4, zz5, zz6, gt_iff_lt, ge_iff_le, zz9, zz0] at h1
    refine awp_exit ?_
    refine thenE_x ?_
    refine thenE_x ?_
    refine blockE_x ?_
    change Gst _ _ _ _
    refine fin0 rfl ?_
    first | exact ⟨rfl, rfl⟩ | exact ⟨by simp [*], rfl⟩

theorem pdq0_spec (l : AV) (σ : AHeap)  : ASpec Tryz.prog 151 [l, int 0, int 0, int 0] σ fun r σ' => r = .ret (.tup []) ∧ σ' = σ := by
  refine aspec_enter (N := 134) (rs := []) Tryz.func151 rfl rfl rfl rfl rfl rfl ?_
  refine awp_seq ?_
  refine awp_region ?_
  refine aops_v rfl rfl rfl (a_assign rfl rfl ?_)
  refine aops_nil ?_
  refine thenE_n ?_
  refine awp_seq ?_
  refine awp_region ?_
  refine aops_v rfl rfl rfl (a_assign rfl rfl ?_)
  refine aops_nil ?_
  refine thenE_n ?_
  refine awp_block ?_
  refine awp_loop (S := Unit) (fun _ => [(0, l), (1, int 0), (2, int 0)]) (fun _ => σ) (fun _ => True) (fun _ => 0) ⟨(), by simp, EL, rfl⟩ ?_
  rintro _ _
  refine awp_block ?_
  refine awp_seq ?_
  refine awp_region ?_
  refine aops_v rfl rfl rfl (a_move rfl rfl ?_)
  refine aops_v rfl rfl rfl (a_move rfl rfl ?_)
  first | refine aops_v rfl rfl rfl (a_sub rfl rfl rfl (by simp only [Go.AL.lo, Go.AL.hi]; omega) ?_) | refine aops_v rfl rfl rfl (a_int rfl rfl rfl rfl ?_)
  refine aops_v rfl rfl rfl (a_assign rfl rfl ?_)
  refine aops_nil ?_
  refine thenE_n ?_
  refine awp_seq ?_
  refine awp_seq ?_
  refine awp_region ?_
  refine aops_v rfl rfl rfl (a_move rfl rfl ?_)
  refine aops_v rfl rfl rfl (a_int rfl rfl rfl rfl ?_)
  refine aops_nil ?_
  refine thenE_n ?_
  refine awp_cond rfl (fun h1 => ?_) (fun h1 => ?_)
  · try simp only [zz1, zz2, ne_eq, zz4, zz5, zz6, gt_iff_lt, ge_iff_le, zz9, zz0] at h1
    refine awp_seq ?_
    refine awp_region ?_
    refine aops_v rfl rfl rfl (a_move rfl rfl ?_)
    refine aops_v rfl rfl rfl (a_move rfl rfl ?_)
    refine aops_v rfl rfl rfl (a_move rfl rfl ?_)
    refine aops_call_eq rfl rfl rfl rfl cf169 rfl (ins0_spec l _) ?_
    refine aops_nil ?_
    refine thenE_n ?_
    refine awp_ret ?_
    change Gst _ _ _ _
    refine fin0 rfl ?_
    first | exact ⟨rfl, rfl⟩ | exact ⟨by simp [*], rfl⟩
  · try simp only [zz1, zz2, ne_eq, zz4, zz5, zz6, gt_iff_lt, ge_iff_le, zz9, zz0] at h1
    omega

theorem sort0_spec  (σ : AHeap)  : ASpec Tryz.prog 128 [nilS] σ fun r σ' => r = .ret (.tup []) ∧ σ' = σ := by
  refine aspec_enter (N := 11) (rs := []) Tryz.func128 rfl rfl rfl rfl rfl rfl ?_
  refine awp_seq ?_
  refine awp_region ?_
  refine aops_v rfl rfl rfl (a_move rfl rfl ?_)
  first | refine aops_v rfl rfl rfl (a_len_lst rfl isl67 rfl ?_) | refine aops_v rfl rfl rfl (a_len rfl isl67 rfl ?_) | refine aops_v rfl rfl rfl (a_len_slg rfl isl67 rfl ?_) | refine aops_v rfl rfl rfl (a_len_nil rfl isl67 rfl ?_)
  refine aops_v rfl rfl rfl (a_assign rfl rfl ?_)
  refine aops_nil ?_
  refine thenE_n ?_
  refine awp_region ?_
  refine aops_v rfl rfl rfl (a_move rfl rfl ?_)
  refine aops_v rfl rfl rfl (a_move rfl rfl ?_)
  refine aops_v rfl rfl rfl (a_move rfl rfl ?_)
  first | refine aops_v rfl rfl rfl (a_conv rfl hu3 ik137 rfl (by simp only [Go.AL.lo, Go.AL.hi]; omega) ?_) | refine aops_v rfl rfl rfl (a_conv_wrap rfl hu3 ik137 rfl ?_)
  refine aops_call_eq rfl rfl rfl rfl cf123 rfl (blen0_spec _) ?_
  refine aops_call_eq rfl rfl rfl rfl cf151 rfl (pdq0_spec _ _) ?_
  refine aops_nil ?_
  change Gst _ _ _ _
  refine fin0 rfl ?_
  first | exact ⟨rfl, rfl⟩ | exact ⟨by simp [*], rfl⟩

theorem cloneI_spec (zs : List Int) (ex : Bool) (σ : AHeap) (h0 : 0 < zs.length) (hl : zs.length ≤ 1000000) : ASpec Tryz.prog 127 [.lst (zs.map int) zs.length ex] σ fun r σ' => ∃ i, σ i = none ∧ r = .ret (.arr i 0 0 zs.length 1) ∧ σ' = upd σ i (.cells 0 3 (zs.map int)) := by
  refine aspec_enter (N := 8) (rs := [.tmp 2]) Tryz.func127 rfl rfl rfl rfl rfl rfl ?_
  refine awp_seq ?_
  refine awp_region ?_
  refine aops_v rfl rfl rfl (a_assign rfl rfl ?_)
  refine aops_nil ?_
  refine thenE_n ?_
  refine awp_seq ?_
  refine awp_seq ?_
  refine awp_region ?_
  refine aops_v rfl rfl rfl (a_move rfl rfl ?_)
  first | refine aops_v rfl rfl rfl (a_arr_nil rfl rfl isl67 rfl rfl ?_) | refine aops_v rfl rfl rfl (a_lst_nil rfl rfl isl67 rfl rfl ?_) | refine aops_v rfl rfl rfl (a_nilS_nil rfl rfl isl67 rfl rfl ?_) | refine aops_lst_nil rfl rfl rfl rfl rfl isl67 rfl rfl (fun b4 hb4 => ?_)
  refine aops_nil ?_
  refine thenE_n ?_
  refine awp_cond rfl (fun h1 => ?_) (fun h1 => ?_)
  · try simp only [zz1, zz2, ne_eq, zz4, zz5, zz6, gt_iff_lt, ge_iff_le, zz9, zz0] at h1
    obtain ⟨_, hl0⟩ := hb4 h1; omega
  · try simp only [zz1, zz2, ne_eq, zz4, zz5, zz6, gt_iff_lt, ge_iff_le, zz9, zz0] at h1
    refine awp_skip ?_
    refine thenE_n ?_
    refine awp_seq ?_
    refine awp_region ?_
    refine aops_v rfl rfl rfl (a_buildSlice (res := []) rfl sk67 rfl rfl rfl ?_)
    refine aops_v rfl rfl rfl (a_move rfl rfl ?_)
    refine aops_v rfl rfl rfl (a_append_ex (n := 0) (cs := []) rfl sk67 rfl rfl rfl (.lst (by simp)) (by simpa using int_ones zs) (by omega) (by simp only [maxLen]; omega) (fun h => by omega) (fun _ i hi => ?_))
    rw [Nat.zero_add, List.nil_append]
    refine aops_v rfl rfl rfl (a_assign rfl rfl ?_)
    refine aops_nil ?_
    refine thenE_n ?_
    refine awp_ret ?_
    change Gst _ _ _ _
    refine fin1 rfl ?_
    exact ⟨i, hi, rfl, rfl⟩

theorem cloneI0_spec (ex : Bool) (σ : AHeap)  : ASpec Tryz.prog 127 [.lst [] 0 ex] σ fun r σ' => r = .ret (.lst [] 0 false) ∧ σ' = σ := by
  refine aspec_enter (N := 8) (rs := [.tmp 2]) Tryz.func127 rfl rfl rfl rfl rfl rfl ?_
  refine awp_seq ?_
  refine awp_region ?_
  refine aops_v rfl rfl rfl (a_assign rfl rfl ?_)
  refine aops_nil ?_
  refine thenE_n ?_
  refine awp_seq ?_
  refine awp_seq ?_
  refine awp_region ?_
  refine aops_v rfl rfl rfl (a_move rfl rfl ?_)
  first | refine aops_v rfl rfl rfl (a_arr_nil rfl rfl isl67 rfl rfl ?_) | refine aops_v rfl rfl rfl (a_lst_nil rfl rfl isl67 rfl rfl ?_) | refine aops_v rfl rfl rfl (a_nilS_nil rfl rfl isl67 rfl rfl ?_) | refine aops_lst_nil rfl rfl rfl rfl rfl isl67 rfl rfl (fun b4 hb4 => ?_)
  refine aops_nil ?_
  refine thenE_n ?_
  refine awp_cond rfl (fun h1 => ?_) (fun h1 => ?_)
  · try simp only [zz1, zz2, ne_eq, zz4, zz5, zz6, gt_iff_lt, ge_iff_le, zz9, zz0] at h1
    refine awp_seq ?_
    refine awp_region ?_
    refine aops_v rfl rfl rfl (a_assign rfl rfl ?_)
    refine aops_nil ?_
    refine thenE_n ?_
    refine awp_ret ?_
    change Gst _ _ _ _
    refine gst_wk (k := 2) rfl wk_nil ?_
    refine fin1 rfl ?_
    exact ⟨rfl, rfl⟩
  · try simp only [zz1, zz2, ne_eq, zz4, zz5, zz6, gt_iff_lt, ge_iff_le, zz9, zz0] at h1
    refine awp_skip ?_
    refine thenE_n ?_
    refine awp_seq ?_
    refine awp_region ?_
    refine aops_v rfl rfl rfl (a_buildSlice (res := []) rfl sk67 rfl rfl rfl ?_)
    refine aops_v rfl rfl rfl (a_move rfl rfl ?_)
    refine aops_v rfl rfl rfl (a_append_ex (n := 0) (cs := []) rfl sk67 rfl rfl rfl (Src.lst (cs := []) (n := 0) rfl) rfl (by omega) (by simp only [maxLen]; omega) (fun h => ?_) (fun h => absurd h (by omega)))
    refine aops_v rfl rfl rfl (a_assign rfl rfl ?_)
    refine aops_nil ?_
    refine thenE_n ?_
    refine awp_ret ?_
    change Gst _ _ _ _
    refine gst_wk (k := 2) rfl wk_ex ?_
    refine fin1 rfl ?_
    exact ⟨rfl, rfl⟩

end Go.Proofs.YtnahdpjbddfhgaaGreatDoor
