/- A part of the proof: the program logic AL, the walks of the functions that the law calls, what they compute. No condition of its own. -/
import Derived.Test.YtnahdpjbddfhgaaGreatDoorL07
set_option linter.unusedVariables false
set_option linter.unusedSimpArgs false
set_option linter.unusedVariables false
set_option linter.unusedSimpArgs false
namespace Go.Proofs.YtnahdpjbddfhgaaGreatDoor
open Go Go.AL
set_option maxRecDepth 100000
theorem slv_any {sz n id ver : Nat} (cs cs' : List AV) : slv sz cs n id ver = slv sz cs' n id ver := by cases n <;> rfl
theorem sort_sl {σ : AHeap} {o vo : Nat} (out : List Int) (hl : out.length ≤ 1000000) (ho : 0 < out.length → σ o = none) :
    ASpec Tryz.prog 128 [slv 1 (out.map int) out.length o vo] (slh σ 3 (out.map int) out.length o vo) fun r σ' => r = .ret (.tup []) ∧ σ' = slh σ 3 ((sortI out).map int) out.length o vo := by
  cases h : out.length with
  | zero => exact sort0_spec _
  | succ n =>
    have e := aspec_sort (f := 128) sortI_ok (σ := upd σ o (.cells vo 3 (out.map int))) (id := o) (ver := vo) (ty := 3) (zs := out) (upd_same _ _ _) (by omega)
    rw [h, upd_upd] at e
    exact e
theorem cl_new {σ : AHeap} {a o o2 n m w : Nat} {A W : AObj} (h : ClOk σ a o n w) (h2 : upd (upd σ a A) w W o2 = none) : ClOk σ a o2 m w := by
  obtain ⟨h3, h4⟩ := ne_of_upd h2
  obtain ⟨h5, h6⟩ := ne_of_upd h4
  exact ⟨h.ha, h.hw, h.aw, h6, .inr h5, .inr h3⟩
theorem cl_out {σ : AHeap} {a o n w : Nat} {A W : AObj} (h : ClOk σ a o n w) (hn : 0 < n) : upd (upd σ a A) w W o = none := by
  rw [upd_ne _ _ (h.wo.resolve_left (by omega)).symm, upd_ne _ _ (h.ao.resolve_left (by omega)).symm]; exact h.ho
theorem PcOk.app {n : Nat} {a b : List Int} (h : PcOk n a) (k : PcOk n b) : PcOk n (a ++ b) := fun x hx => (List.mem_append.1 hx).elim (h x) (k x)

theorem closure0_spec (l : List Nd) (is : List In) (ex : Bool) (first last : Bool) (σ : AHeap) (hl : is.length ≤ 1000000) : ASpec Tryz.prog 101 [prgA l is, .lst [] 0 ex, boo first, boo last] σ fun r σ' => r = .ret (.lst [] 0 false) ∧ σ' = σ := by
  refine aspec_enter (N := 90) (rs := [.tmp 8]) Tryz.func101 rfl rfl rfl rfl rfl rfl ?_
  refine awp_seq ?_
  refine awp_region ?_
  refine aops_v rfl rfl rfl (a_assign rfl rfl ?_)
  refine aops_nil ?_
  refine thenE_n ?_
  refine awp_seq ?_
  refine awp_region ?_
  refine aops_v rfl rfl rfl (a_move rfl rfl ?_)
  first | refine aops_v rfl rfl rfl (a_nilCheck rfl rfl ?_) | refine aops_v rfl rfl rfl (a_nilCheck_pin rfl rfl ?_) | refine aops_v rfl rfl rfl (a_nilCheck_clo rfl rfl ?_)
  first | refine aops_v rfl rfl rfl (a_fieldAddr rfl fk154_1 rfl rfl ?_) | refine aops_v rfl rfl rfl (a_fieldAddr_pin rfl fk154_1 rfl rfl ?_)
  first | refine aops_v rfl rfl rfl (a_load_pin rfl tk152 rfl rfl ?_) | refine aops_v rfl rfl rfl (a_load rfl tk152 rfl HP rfl ?_)
  first | refine aops_v rfl rfl rfl (a_len_lst rfl isl152 rfl ?_) | refine aops_v rfl rfl rfl (a_len rfl isl152 rfl ?_) | refine aops_v rfl rfl rfl (a_len_slg rfl isl152 rfl ?_) | refine aops_v rfl rfl rfl (a_len_nil rfl isl152 rfl ?_)
  refine aops_v rfl rfl rfl (a_makeSlice rfl sk130 rfl rfl (by first | rfl | omega) (by omega) (by simp only [maxLen]; omega) ?_)
  intro id19 hid19
  refine aops_v rfl rfl rfl (a_assign rfl rfl ?_)
  refine aops_nil ?_
  refine thenE_n ?_
  refine awp_seq ?_
  refine awp_region ?_
  refine aops_v rfl rfl rfl (a_assign rfl rfl ?_)
  refine aops_nil ?_
  refine thenE_n ?_
  refine awp_seq ?_
  refine awp_seq ?_
  refine awp_region ?_
  refine aops_v rfl rfl rfl (a_move rfl rfl ?_)
  refine aops_call_eq rfl rfl rfl rfl cf127 rfl (cloneI0_spec ex _) ?_
  refine aops_v rfl rfl rfl (a_assign rfl rfl ?_)
  refine aops_nil ?_
  refine thenE_n ?_
  refine awp_block ?_
  refine awp_loop (S := Unit) (fun _ => [(10, nilS), (11, .lst [] 0 false)]) (fun _ => upd σ id19 (.cells 0 4 (List.replicate is.length (boo false)))) (fun _ => True) (fun _ => 0) ⟨(), by simp, EL, rfl⟩ ?_
  rintro _ _
  refine awp_seq ?_
  refine awp_seq ?_
  refine awp_region ?_
  refine aops_v rfl rfl rfl (a_move rfl rfl ?_)
  first | refine aops_v rfl rfl rfl (a_len_lst rfl isl67 rfl ?_) | refine aops_v rfl rfl rfl (a_len rfl isl67 rfl ?_) | refine aops_v rfl rfl rfl (a_len_slg rfl isl67 rfl ?_) | refine aops_v rfl rfl rfl (a_len_nil rfl isl67 rfl ?_)
  refine aops_v rfl rfl rfl (a_int rfl rfl rfl rfl ?_)
  refine aops_nil ?_
  refine thenE_n ?_
  refine awp_cond rfl (fun h1 => ?_) (fun h1 => ?_)
  · try simp only [zz1, zz2, ne_eq, zz4, zz5, zz6, gt_iff_lt, ge_iff_le, zz9, zz0] at h1
    omega
  · try simp only [zz1, zz2, ne_eq, zz4, zz5, zz6, gt_iff_lt, ge_iff_le, zz9, zz0] at h1
    refine awp_exit ?_
    refine thenE_x ?_
    refine thenE_x ?_
    refine blockE_x ?_
    refine thenE_n ?_
    refine awp_seq ?_
    refine awp_region ?_
    refine aops_v rfl rfl rfl (a_move rfl rfl ?_)
    refine aops_call_eq rfl rfl rfl rfl cf128 rfl (sort0_spec _) ?_
    refine aops_nil ?_
    refine thenE_n ?_
    refine awp_seq ?_
    refine awp_region ?_
    refine aops_v rfl rfl rfl (a_move rfl rfl ?_)
    refine aops_v rfl rfl rfl (a_assign rfl rfl ?_)
    refine aops_nil ?_
    refine thenE_n ?_
    refine awp_ret ?_
    change Gst _ _ _ _
    refine gst_del id19 ?_
    rw [del_upd _ _ hid19]
    refine gst_wk (k := 8) rfl wk_nil ?_
    refine fin1 rfl ?_
    exact ⟨rfl, rfl⟩

theorem closure1_spec (l : List Nd) (is : List In) (fr : List Int) (ex : Bool) (first last : Bool) (σ : AHeap) (hpg : PgOk is) (hfr : PcOk is.length fr) (h0 : 0 < fr.length) (hl : is.length ≤ 1000000) (hl2 : fr.length ≤ 1000000) : ASpec Tryz.prog 101 [prgA l is, .lst (fr.map int) fr.length ex, boo first, boo last] σ fun r σ' => r = .ret (.lst ((closP is fr first last).map int) (closP is fr first last).length false) ∧ σ' = σ := by
  refine aspec_enter (N := 90) (rs := [.tmp 8]) Tryz.func101 rfl rfl rfl rfl rfl rfl ?_
  refine awp_seq ?_
  refine awp_region ?_
  refine aops_v rfl rfl rfl (a_assign rfl rfl ?_)
  refine aops_nil ?_
  refine thenE_n ?_
  refine awp_seq ?_
  refine awp_region ?_
  refine aops_v rfl rfl rfl (a_move rfl rfl ?_)
  first | refine aops_v rfl rfl rfl (a_nilCheck rfl rfl ?_) | refine aops_v rfl rfl rfl (a_nilCheck_pin rfl rfl ?_) | refine aops_v rfl rfl rfl (a_nilCheck_clo rfl rfl ?_)
  first | refine aops_v rfl rfl rfl (a_fieldAddr rfl fk154_1 rfl rfl ?_) | refine aops_v rfl rfl rfl (a_fieldAddr_pin rfl fk154_1 rfl rfl ?_)
  first | refine aops_v rfl rfl rfl (a_load_pin rfl tk152 rfl rfl ?_) | refine aops_v rfl rfl rfl (a_load rfl tk152 rfl HP rfl ?_)
  first | refine aops_v rfl rfl rfl (a_len_lst rfl isl152 rfl ?_) | refine aops_v rfl rfl rfl (a_len rfl isl152 rfl ?_) | refine aops_v rfl rfl rfl (a_len_slg rfl isl152 rfl ?_) | refine aops_v rfl rfl rfl (a_len_nil rfl isl152 rfl ?_)
  refine aops_v rfl rfl rfl (a_makeSlice rfl sk130 rfl rfl (by first | rfl | omega) (by omega) (by simp only [maxLen]; omega) ?_)
  intro id19 hid19
  refine aops_v rfl rfl rfl (a_assign rfl rfl ?_)
  refine aops_nil ?_
  refine thenE_n ?_
  refine awp_seq ?_
  refine awp_region ?_
  refine aops_v rfl rfl rfl (a_assign rfl rfl ?_)
  refine aops_nil ?_
  refine thenE_n ?_
  refine awp_seq ?_
  refine awp_seq ?_
  refine awp_region ?_
  refine aops_v rfl rfl rfl (a_move rfl rfl ?_)
  refine aops_call_any rfl rfl rfl rfl cf127 rfl (cloneI_spec fr ex _ h0 (by omega)) ?_ ?_
  rotate_left
  · rintro c σ' ⟨i, _, h, _⟩
    exact absurd h (by simp)
  rintro a' σ' ⟨i, hi, h, rfl⟩
  simp only [AEnd.ret.injEq] at h
  subst h
  obtain ⟨hi19, hin⟩ := ne_of_upd hi
  refine aops_v rfl rfl rfl (a_assign rfl rfl ?_)
  refine aops_nil ?_
  refine thenE_n ?_
  refine awp_block ?_
  refine awp_fresh fun o0 ho0 => ?_
  obtain ⟨ho0i, ho0b⟩ := ne_of_upd ho0
  obtain ⟨ho0a, ho0n⟩ := ne_of_upd ho0b
  have hun : unseen (List.replicate is.length false) = is.length := by simp [unseen, List.countP_replicate]
  refine awp_loop (S := List Bool × List Int × List AV × Nat × List Int × (Nat × Nat) × Nat) (fun x => [(0, prgA l is), (2, boo first), (3, boo last), (9, .arr id19 0 0 is.length 1), (10, slv 1 (x.2.2.2.2.1.map int) x.2.2.2.2.1.length x.2.2.2.2.2.1.1 x.2.2.2.2.2.1.2), (11, .arr i x.2.2.2.1 0 x.2.1.length 1)]) (fun x => clh σ id19 x.1 x.2.2.2.2.2.1.1 x.2.2.2.2.2.1.2 x.2.2.2.2.1 i x.2.2.2.1 (x.2.1.map int ++ x.2.2.1)) (fun x => closL is first last x.2.2.2.2.2.2 x.1 x.2.1 x.2.2.2.2.1 = closL is first last (closFuel is fr) (List.replicate is.length false) fr [] ∧ 3 * unseen x.1 + x.2.1.length ≤ x.2.2.2.2.2.2 ∧ x.1.length = is.length ∧ PcOk is.length x.2.1 ∧ PcOk is.length x.2.2.2.2.1 ∧ ClOk σ id19 x.2.2.2.2.2.1.1 x.2.2.2.2.1.length i ∧ x.2.2.2.2.1.length + unseen x.1 ≤ is.length ∧ x.2.1.length + 2 * unseen x.1 ≤ fr.length + 2 * is.length) (fun x => 3 * unseen x.1 + x.2.1.length) ⟨(List.replicate is.length false, fr, [], 0, [], (o0, 0), closFuel is fr), ⟨rfl, by simp [closFuel, hun], by simp, hfr, by simp [PcOk], ⟨hid19, hin, hi19, ho0n, .inl rfl, .inl rfl⟩, by simp [hun], by dsimp only; rw [hun]; omega⟩, EL, by simp [clh, slh]⟩ ?_
  rintro ⟨seen, w, rest, vw, out, ⟨o, vo⟩, f⟩ ⟨hJ, hf, hsl, hwk, hok, hcl, hou, hwb⟩
  dsimp only at hJ hf hsl hwk hok hcl hou hwb
  dsimp only
  refine awp_seq ?_
  refine awp_seq ?_
  refine awp_region ?_
  refine aops_v rfl rfl rfl (a_move rfl rfl ?_)
  first | refine aops_v rfl rfl rfl (a_len_lst rfl isl67 rfl ?_) | refine aops_v rfl rfl rfl (a_len rfl isl67 rfl ?_) | refine aops_v rfl rfl rfl (a_len_slg rfl isl67 rfl ?_) | refine aops_v rfl rfl rfl (a_len_nil rfl isl67 rfl ?_)
  refine aops_v rfl rfl rfl (a_int rfl rfl rfl rfl ?_)
  refine aops_nil ?_
  refine thenE_n ?_
  refine awp_cond rfl (fun h1 => ?_) (fun h1 => ?_)
  · try simp only [zz1, zz2, ne_eq, zz4, zz5, zz6, gt_iff_lt, ge_iff_le, zz9, zz0] at h1
    obtain ⟨w', pc, rfl⟩ := snocI w (by omega)
    have hwl : (w' ++ [pc]).length = w'.length + 1 := by simp
    have hpc := hwk pc (by simp)
    have hwk' : PcOk is.length w' := fun k hk => hwk k (by simp [hk])
    rw [show (w' ++ [pc]).map int ++ rest = w'.map int ++ int pc :: rest by simp]
    obtain ⟨f, rfl⟩ : ∃ q, f = q + 1 := ⟨f - 1, by omega⟩
    refine awp_skip ?_
    refine thenE_n ?_
    refine awp_block ?_
    refine awp_seq ?_
    refine awp_region ?_
    refine aops_v rfl rfl rfl (a_move rfl rfl ?_)
    refine aops_v rfl rfl rfl (a_move rfl rfl ?_)
    first | refine aops_v rfl rfl rfl (a_len_lst rfl isl67 rfl ?_) | refine aops_v rfl rfl rfl (a_len rfl isl67 rfl ?_) | refine aops_v rfl rfl rfl (a_len_slg rfl isl67 rfl ?_) | refine aops_v rfl rfl rfl (a_len_nil rfl isl67 rfl ?_)
    first | refine aops_v rfl rfl rfl (a_sub rfl rfl rfl (by simp only [Go.AL.lo, Go.AL.hi]; omega) ?_) | refine aops_v rfl rfl rfl (a_int rfl rfl rfl rfl ?_)
    first | refine aops_v rfl rfl rfl (a_indexAddr_lst rfl ek67 rfl rfl NT (by omega) (by omega) ?_) | refine aops_v rfl rfl rfl (a_indexAddr rfl ek67 rfl rfl NT (by omega) (by omega) ?_)
    refine aops_v rfl rfl rfl (a_load rfl tk3 rfl clh_w (get_mid (by simp)) ?_)
    refine aops_v rfl rfl rfl (a_assign rfl rfl ?_)
    refine aops_nil ?_
    refine thenE_n ?_
    refine awp_seq ?_
    refine awp_region ?_
    refine aops_v rfl rfl rfl (a_move rfl rfl ?_)
    refine aops_v rfl rfl rfl (a_move rfl rfl ?_)
    first | refine aops_v rfl rfl rfl (a_len_lst rfl isl67 rfl ?_) | refine aops_v rfl rfl rfl (a_len rfl isl67 rfl ?_) | refine aops_v rfl rfl rfl (a_len_slg rfl isl67 rfl ?_) | refine aops_v rfl rfl rfl (a_len_nil rfl isl67 rfl ?_)
    first | refine aops_v rfl rfl rfl (a_sub rfl rfl rfl (by simp only [Go.AL.lo, Go.AL.hi]; omega) ?_) | refine aops_v rfl rfl rfl (a_int rfl rfl rfl rfl ?_)
    first | refine aops_v rfl rfl rfl (a_slice_lst rfl ek67 rfl rfl rfl (by omega) (by omega) (by omega) (by first | assumption | simp) ?_) | refine aops_v rfl rfl rfl (a_slice rfl ek67 (by decide) rfl rfl rfl (by omega) (by omega) (by omega) ?_)
    rw [show (0 + Int.toNat 0 * 1 : Nat) = 0 from rfl, show Int.toNat ((((w' ++ [pc]).length : Nat) : Int) - 1) - Int.toNat 0 = w'.length by simp]
    refine aops_v rfl rfl rfl (a_assign rfl rfl ?_)
    refine aops_nil ?_
    refine thenE_n ?_
    refine awp_seq ?_
    refine awp_seq ?_
    refine awp_region ?_
    refine aops_v rfl rfl rfl (a_move rfl rfl ?_)
    refine aops_v rfl rfl rfl (a_move rfl rfl ?_)
    first | refine aops_v rfl rfl rfl (a_indexAddr_lst rfl ek130 rfl rfl NT (by omega) (by omega) ?_) | refine aops_v rfl rfl rfl (a_indexAddr rfl ek130 rfl rfl NT (by omega) (by omega) ?_)
    refine aops_v rfl rfl rfl (a_load rfl tk4 rfl (clh_a hcl) (by rw [Nat.zero_add]; exact ldv_seen (by omega)) ?_)
    refine aops_nil ?_
    refine thenE_n ?_
    refine awp_cond rfl (fun h2 => ?_) (fun h2 => ?_)
    · try simp only [zz1, zz2, ne_eq, zz4, zz5, zz6, gt_iff_lt, ge_iff_le, zz9, zz0] at h2
      have hss := h2
      refine awp_exit ?_
      refine thenE_x ?_
      refine blockE_x ?_
      refine thenE_n ?_
      refine .done ⟨(seen, w', int pc :: rest, vw, out, (o, vo), f), ⟨by rw [← hJ, closL_seen hss], by dsimp only; simp at hf; omega, hsl, hwk', hok, hcl, hou, by dsimp only; simp at hwb; omega⟩, by simp, EL, rfl⟩
    · try simp only [zz1, zz2, ne_eq, zz4, zz5, zz6, gt_iff_lt, ge_iff_le, zz9, zz0] at h2
      have hsn := h2
      have hun := unseen_set (k := pc.toNat) (by omega) hsn
      have hin2 := inAt_get hpc
      have hio := hpg _ (List.mem_of_getElem? hin2)
      obtain ⟨hst1, hst2, hst3, hst4⟩ := stack_ok (first := first) (last := last) hio hpc
      refine awp_skip ?_
      refine thenE_n ?_
      refine awp_seq ?_
      refine awp_region ?_
      refine aops_v rfl rfl rfl (a_move rfl rfl ?_)
      refine aops_v rfl rfl rfl (a_move rfl rfl ?_)
      first | refine aops_v rfl rfl rfl (a_indexAddr_lst rfl ek130 rfl rfl NT (by omega) (by omega) ?_) | refine aops_v rfl rfl rfl (a_indexAddr rfl ek130 rfl rfl NT (by omega) (by omega) ?_)
      refine aops_s rfl rfl (a_store_n (cs2 := (seen.set pc.toNat true).map boo) rfl tk4 rfl rfl (clh_a hcl) rfl rfl (by simp; omega) (by rw [Nat.zero_add]; exact stv_seen (by omega)) ?_)
      rw [clh_set hcl]
      refine aops_nil ?_
      refine thenE_n ?_
      refine awp_seq ?_
      refine awp_region ?_
      refine aops_v rfl rfl rfl (a_move rfl rfl ?_)
      first | refine aops_v rfl rfl rfl (a_nilCheck rfl rfl ?_) | refine aops_v rfl rfl rfl (a_nilCheck_pin rfl rfl ?_) | refine aops_v rfl rfl rfl (a_nilCheck_clo rfl rfl ?_)
      first | refine aops_v rfl rfl rfl (a_fieldAddr rfl fk154_1 rfl rfl ?_) | refine aops_v rfl rfl rfl (a_fieldAddr_pin rfl fk154_1 rfl rfl ?_)
      first | refine aops_v rfl rfl rfl (a_load_pin rfl tk152 rfl rfl ?_) | refine aops_v rfl rfl rfl (a_load rfl tk152 rfl HP rfl ?_)
      refine aops_v rfl rfl rfl (a_move rfl rfl ?_)
      first | refine aops_v rfl rfl rfl (a_indexAddr_lst rfl ek152 rfl rfl NT (by omega) (by omega) ?_) | refine aops_v rfl rfl rfl (a_indexAddr rfl ek152 rfl rfl NT (by omega) (by omega) ?_)
      refine aops_v rfl rfl rfl (a_load_pin rfl tk157 rfl (by first | exact ldv_flat encI_len hin2 | (rw [Nat.zero_add]; exact ldv_flat encI_len hin2)) ?_)
      refine aops_var_frz rfl rfl rfl rfl rfl rfl rfl tk157 zk157 rfl rfl rfl rfl rfl ?_
      refine aops_nil ?_
      refine thenE_n ?_
      refine awp_block ?_
      refine awp_seq ?_
      refine awp_region ?_
      first | refine aops_v rfl rfl rfl (a_fieldAddr rfl fk157_0 rfl rfl ?_) | refine aops_v rfl rfl rfl (a_fieldAddr_pin rfl fk157_0 rfl rfl ?_)
      first | refine aops_v rfl rfl rfl (a_load_pin rfl tk3 rfl rfl ?_) | refine aops_v rfl rfl rfl (a_load rfl tk3 rfl HP rfl ?_)
      refine aops_v rfl rfl rfl (a_int rfl rfl rfl rfl ?_)
      refine aops_v rfl rfl rfl (a_assign rfl rfl ?_)
      refine aops_nil ?_
      refine thenE_n ?_
      refine awp_cond rfl (fun h3 => ?_) (fun h3 => ?_)
      · try simp only [zz1, zz2, ne_eq, zz4, zz5, zz6, gt_iff_lt, ge_iff_le, zz9, zz0] at h3
        have hst : stackOf (inAt is pc) first last pc = ([(inAt is pc).x, (inAt is pc).y], []) := if_pos h3
        refine awp_region ?_
        refine aops_v rfl rfl rfl (a_move rfl rfl ?_)
        first | refine aops_v rfl rfl rfl (a_fieldAddr rfl fk157_1 rfl rfl ?_) | refine aops_v rfl rfl rfl (a_fieldAddr_pin rfl fk157_1 rfl rfl ?_)
        first | refine aops_v rfl rfl rfl (a_load_pin rfl tk3 rfl rfl ?_) | refine aops_v rfl rfl rfl (a_load rfl tk3 rfl HP rfl ?_)
        first | refine aops_v rfl rfl rfl (a_fieldAddr rfl fk157_2 rfl rfl ?_) | refine aops_v rfl rfl rfl (a_fieldAddr_pin rfl fk157_2 rfl rfl ?_)
        first | refine aops_v rfl rfl rfl (a_load_pin rfl tk3 rfl rfl ?_) | refine aops_v rfl rfl rfl (a_load rfl tk3 rfl HP rfl ?_)
        refine aops_v rfl rfl rfl (a_buildSlice (res := [_, _]) rfl sk67 rfl rfl rfl ?_)
        refine aops_v rfl rfl rfl (a_append rfl sk67 rfl clh_w (by simp) rfl (.lst rfl) rfl (by omega) (by simp only [maxLen]; omega) (fun vw2 => ?_))
        rw [clh_work, show (w'.map int ++ int pc :: rest).take (w'.length * 1) ++ [int (inAt is pc).x, int (inAt is pc).y] = (w' ++ [(inAt is pc).x, (inAt is pc).y]).map int ++ [] by simp, show w'.length + 2 = (w' ++ [(inAt is pc).x, (inAt is pc).y]).length by simp]
        refine aops_v rfl rfl rfl (a_assign rfl rfl ?_)
        refine aops_nil ?_
        refine blockE_n ?_
        refine blockE_n ?_
        refine thenE_n ?_
        exact .done ⟨(seen.set pc.toNat true, w' ++ [(inAt is pc).x, (inAt is pc).y], [], vw2, out, (o, vo), f), ⟨by rw [← hJ, closL_new hsn, hst]; (try simp only [List.append_nil]), by dsimp only; (try simp only [List.length_append, List.length_cons, List.length_nil]); omega, by simp [hsl], (hwk'.app (by simpa only [hst] using hst1)), hok, hcl, by dsimp only; (try simp only [List.length_append, List.length_cons, List.length_nil]); omega, by dsimp only; (try simp only [List.length_append, List.length_cons, List.length_nil]); omega⟩, by dsimp only; (try simp only [List.length_append, List.length_cons, List.length_nil]); omega, EL, rfl⟩
      · try simp only [zz1, zz2, ne_eq, zz4, zz5, zz6, gt_iff_lt, ge_iff_le, zz9, zz0] at h3
        have n1 := h3
        refine awp_seq ?_
        refine awp_seq ?_
        refine awp_region ?_
        first | refine aops_v rfl rfl rfl (a_fieldAddr rfl fk157_0 rfl rfl ?_) | refine aops_v rfl rfl rfl (a_fieldAddr_pin rfl fk157_0 rfl rfl ?_)
        first | refine aops_v rfl rfl rfl (a_load_pin rfl tk3 rfl rfl ?_) | refine aops_v rfl rfl rfl (a_load rfl tk3 rfl HP rfl ?_)
        refine aops_v rfl rfl rfl (a_int rfl rfl rfl rfl ?_)
        refine aops_v rfl rfl rfl (a_move rfl rfl ?_)
        refine aops_bool (fun h4 => ?_) (fun h4 => ?_)
        · try simp only [zz1, zz2, ne_eq, zz4, zz5, zz6, gt_iff_lt, ge_iff_le, zz9, zz0] at h4
          have k2 := h4
          refine aops_yes rfl rfl rfl rfl ?_
          refine aops_v rfl rfl rfl (a_move rfl rfl ?_)
          refine aops_v rfl rfl rfl (a_pick rfl rfl rfl ?_)
          refine aops_v rfl rfl rfl (a_assign rfl rfl ?_)
          refine aops_nil ?_
          refine thenE_n ?_
          refine awp_cond rfl (fun h5 => ?_) (fun h5 => ?_)
          · try simp only [zz1, zz2, ne_eq, zz4, zz5, zz6, gt_iff_lt, ge_iff_le, zz9, zz0] at h5
            obtain rfl : first = true := h5
            have hst : stackOf (inAt is pc) true last pc = ([(inAt is pc).x], []) := by unfold stackOf; rw [if_neg n1, if_pos (.inl ⟨k2, rfl⟩)]
            refine awp_skip ?_
            refine thenE_n ?_
            refine awp_cond (b := true) rfl (fun _ => ?_) (fun h => Bool.noConfusion h)
            refine awp_region ?_
            refine aops_v rfl rfl rfl (a_move rfl rfl ?_)
            first | refine aops_v rfl rfl rfl (a_fieldAddr rfl fk157_1 rfl rfl ?_) | refine aops_v rfl rfl rfl (a_fieldAddr_pin rfl fk157_1 rfl rfl ?_)
            first | refine aops_v rfl rfl rfl (a_load_pin rfl tk3 rfl rfl ?_) | refine aops_v rfl rfl rfl (a_load rfl tk3 rfl HP rfl ?_)
            refine aops_v rfl rfl rfl (a_buildSlice (res := [_]) rfl sk67 rfl rfl rfl ?_)
            refine aops_v rfl rfl rfl (a_append rfl sk67 rfl clh_w (by simp) rfl (.lst rfl) rfl (by omega) (by simp only [maxLen]; omega) (fun vw2 => ?_))
            rw [clh_work, show (w'.map int ++ int pc :: rest).take (w'.length * 1) ++ [int (inAt is pc).x] = (w' ++ [(inAt is pc).x]).map int ++ [] by simp, show w'.length + 1 = (w' ++ [(inAt is pc).x]).length by simp]
            refine aops_v rfl rfl rfl (a_assign rfl rfl ?_)
            refine aops_nil ?_
            refine blockE_n ?_
            refine blockE_n ?_
            refine thenE_n ?_
            exact .done ⟨(seen.set pc.toNat true, w' ++ [(inAt is pc).x], [], vw2, out, (o, vo), f), ⟨by rw [← hJ, closL_new hsn, hst]; (try simp only [List.append_nil]), by dsimp only; (try simp only [List.length_append, List.length_cons, List.length_nil]); omega, by simp [hsl], (hwk'.app (by simpa only [hst] using hst1)), hok, hcl, by dsimp only; (try simp only [List.length_append, List.length_cons, List.length_nil]); omega, by dsimp only; (try simp only [List.length_append, List.length_cons, List.length_nil]); omega⟩, by dsimp only; (try simp only [List.length_append, List.length_cons, List.length_nil]); omega, EL, rfl⟩
          · try simp only [zz1, zz2, ne_eq, zz4, zz5, zz6, gt_iff_lt, ge_iff_le, zz9, zz0] at h5
            obtain rfl : first = false := h5
            have hst : stackOf (inAt is pc) false last pc = ([], []) := by unfold stackOf; rw [if_neg n1, if_neg (by simp; omega), if_pos k2]
            refine awp_region ?_
            first | refine aops_v rfl rfl rfl (a_fieldAddr rfl fk157_0 rfl rfl ?_) | refine aops_v rfl rfl rfl (a_fieldAddr_pin rfl fk157_0 rfl rfl ?_)
            first | refine aops_v rfl rfl rfl (a_load_pin rfl tk3 rfl rfl ?_) | refine aops_v rfl rfl rfl (a_load rfl tk3 rfl HP rfl ?_)
            refine aops_v rfl rfl rfl (a_int rfl rfl rfl rfl ?_)
            refine aops_v rfl rfl rfl (a_move rfl rfl ?_)
            refine aops_bool (fun h6 => ?_) (fun h6 => ?_)
            · try simp only [zz1, zz2, ne_eq, zz4, zz5, zz6, gt_iff_lt, ge_iff_le, zz9, zz0] at h6
              omega
            · try simp only [zz1, zz2, ne_eq, zz4, zz5, zz6, gt_iff_lt, ge_iff_le, zz9, zz0] at h6
              refine aops_no rfl rfl rfl rfl rfl rfl ?_
              refine aops_v rfl rfl rfl (a_pick rfl rfl rfl ?_)
              refine aops_v rfl rfl rfl (a_assign rfl rfl ?_)
              refine aops_nil ?_
              refine thenE_n ?_
              refine awp_cond (b := false) rfl (fun h => Bool.noConfusion h) (fun _ => ?_)
              refine awp_seq ?_
              refine awp_region ?_
              first | refine aops_v rfl rfl rfl (a_fieldAddr rfl fk157_0 rfl rfl ?_) | refine aops_v rfl rfl rfl (a_fieldAddr_pin rfl fk157_0 rfl rfl ?_)
              first | refine aops_v rfl rfl rfl (a_load_pin rfl tk3 rfl rfl ?_) | refine aops_v rfl rfl rfl (a_load rfl tk3 rfl HP rfl ?_)
              refine aops_v rfl rfl rfl (a_int rfl rfl rfl rfl ?_)
              refine aops_v rfl rfl rfl (a_assign rfl rfl ?_)
              refine aops_nil ?_
              refine thenE_n ?_
              refine awp_cond rfl (fun h7 => ?_) (fun h7 => ?_)
              · try simp only [zz1, zz2, ne_eq, zz4, zz5, zz6, gt_iff_lt, ge_iff_le, zz9, zz0] at h7
                omega
              · try simp only [zz1, zz2, ne_eq, zz4, zz5, zz6, gt_iff_lt, ge_iff_le, zz9, zz0] at h7
                refine awp_skip ?_
                refine blockE_n ?_
                refine blockE_n ?_
                refine thenE_n ?_
                exact .done ⟨(seen.set pc.toNat true, w', int pc :: rest, vw, out, (o, vo), f), ⟨by rw [← hJ, closL_new hsn, hst]; (try simp only [List.append_nil]), by dsimp only; (try simp only [List.length_append, List.length_cons, List.length_nil]); omega, by simp [hsl], hwk', hok, hcl, by dsimp only; (try simp only [List.length_append, List.length_cons, List.length_nil]); omega, by dsimp only; (try simp only [List.length_append, List.length_cons, List.length_nil]); omega⟩, by dsimp only; (try simp only [List.length_append, List.length_cons, List.length_nil]); omega, EL, rfl⟩
        · try simp only [zz1, zz2, ne_eq, zz4, zz5, zz6, gt_iff_lt, ge_iff_le, zz9, zz0] at h4
          have k2 := h4
          refine aops_no rfl rfl rfl rfl rfl rfl ?_
          refine aops_v rfl rfl rfl (a_pick rfl rfl rfl ?_)
          refine aops_v rfl rfl rfl (a_assign rfl rfl ?_)
          refine aops_nil ?_
          refine thenE_n ?_
          refine awp_cond (b := false) rfl (fun h => Bool.noConfusion h) (fun _ => ?_)
          refine awp_region ?_
          first | refine aops_v rfl rfl rfl (a_fieldAddr rfl fk157_0 rfl rfl ?_) | refine aops_v rfl rfl rfl (a_fieldAddr_pin rfl fk157_0 rfl rfl ?_)
          first | refine aops_v rfl rfl rfl (a_load_pin rfl tk3 rfl rfl ?_) | refine aops_v rfl rfl rfl (a_load rfl tk3 rfl HP rfl ?_)
          refine aops_v rfl rfl rfl (a_int rfl rfl rfl rfl ?_)
          refine aops_v rfl rfl rfl (a_move rfl rfl ?_)
          refine aops_bool (fun h8 => ?_) (fun h8 => ?_)
          · try simp only [zz1, zz2, ne_eq, zz4, zz5, zz6, gt_iff_lt, ge_iff_le, zz9, zz0] at h8
            have k3 := h8
            refine aops_yes rfl rfl rfl rfl ?_
            refine aops_v rfl rfl rfl (a_move rfl rfl ?_)
            refine aops_v rfl rfl rfl (a_pick rfl rfl rfl ?_)
            refine aops_v rfl rfl rfl (a_assign rfl rfl ?_)
            refine aops_nil ?_
            refine thenE_n ?_
            refine awp_cond rfl (fun h9 => ?_) (fun h9 => ?_)
            · try simp only [zz1, zz2, ne_eq, zz4, zz5, zz6, gt_iff_lt, ge_iff_le, zz9, zz0] at h9
              have hst : stackOf (inAt is pc) first last pc = ([(inAt is pc).x], []) := by unfold stackOf; rw [if_neg n1, if_pos (.inr ⟨k3, h9⟩)]
              refine awp_region ?_
              refine aops_v rfl rfl rfl (a_move rfl rfl ?_)
              first | refine aops_v rfl rfl rfl (a_fieldAddr rfl fk157_1 rfl rfl ?_) | refine aops_v rfl rfl rfl (a_fieldAddr_pin rfl fk157_1 rfl rfl ?_)
              first | refine aops_v rfl rfl rfl (a_load_pin rfl tk3 rfl rfl ?_) | refine aops_v rfl rfl rfl (a_load rfl tk3 rfl HP rfl ?_)
              refine aops_v rfl rfl rfl (a_buildSlice (res := [_]) rfl sk67 rfl rfl rfl ?_)
              refine aops_v rfl rfl rfl (a_append rfl sk67 rfl clh_w (by simp) rfl (.lst rfl) rfl (by omega) (by simp only [maxLen]; omega) (fun vw2 => ?_))
              rw [clh_work, show (w'.map int ++ int pc :: rest).take (w'.length * 1) ++ [int (inAt is pc).x] = (w' ++ [(inAt is pc).x]).map int ++ [] by simp, show w'.length + 1 = (w' ++ [(inAt is pc).x]).length by simp]
              refine aops_v rfl rfl rfl (a_assign rfl rfl ?_)
              refine aops_nil ?_
              refine blockE_n ?_
              refine blockE_n ?_
              refine thenE_n ?_
              exact .done ⟨(seen.set pc.toNat true, w' ++ [(inAt is pc).x], [], vw2, out, (o, vo), f), ⟨by rw [← hJ, closL_new hsn, hst]; (try simp only [List.append_nil]), by dsimp only; (try simp only [List.length_append, List.length_cons, List.length_nil]); omega, by simp [hsl], (hwk'.app (by simpa only [hst] using hst1)), hok, hcl, by dsimp only; (try simp only [List.length_append, List.length_cons, List.length_nil]); omega, by dsimp only; (try simp only [List.length_append, List.length_cons, List.length_nil]); omega⟩, by dsimp only; (try simp only [List.length_append, List.length_cons, List.length_nil]); omega, EL, rfl⟩
            · try simp only [zz1, zz2, ne_eq, zz4, zz5, zz6, gt_iff_lt, ge_iff_le, zz9, zz0] at h9
              have hf3 : ¬ ((inAt is pc).kind = 3 ∧ last = true) := fun e => by rw [h9] at e; exact absurd e.2 (by simp)
              refine awp_seq ?_
              refine awp_region ?_
              first | refine aops_v rfl rfl rfl (a_fieldAddr rfl fk157_0 rfl rfl ?_) | refine aops_v rfl rfl rfl (a_fieldAddr_pin rfl fk157_0 rfl rfl ?_)
              first | refine aops_v rfl rfl rfl (a_load_pin rfl tk3 rfl rfl ?_) | refine aops_v rfl rfl rfl (a_load rfl tk3 rfl HP rfl ?_)
              refine aops_v rfl rfl rfl (a_int rfl rfl rfl rfl ?_)
              refine aops_v rfl rfl rfl (a_assign rfl rfl ?_)
              refine aops_nil ?_
              refine thenE_n ?_
              refine awp_cond rfl (fun h10 => ?_) (fun h10 => ?_)
              · try simp only [zz1, zz2, ne_eq, zz4, zz5, zz6, gt_iff_lt, ge_iff_le, zz9, zz0] at h10
                have hst : stackOf (inAt is pc) first last pc = ([], [pc]) := by unfold stackOf; rw [if_neg n1, if_neg (fun e => e.elim (fun e => k2 e.1) hf3), if_neg k2]
                refine awp_region ?_
                refine aops_v rfl rfl rfl (a_move rfl rfl ?_)
                refine aops_v rfl rfl rfl (a_move rfl rfl ?_)
                refine aops_v rfl rfl rfl (a_buildSlice (res := [_]) rfl sk67 rfl rfl rfl ?_)
                rw [clh_out (hcl.wo)]
                refine aops_v rfl rfl rfl (a_append_slp rfl sk67 rfl (by simp) rfl (.lst rfl) rfl (by omega) (by simp only [maxLen]; omega) (by omega) (fun h => cl_out hcl h) ?_)
                intro o2 vo2 ho2
                rw [show out.map int ++ [int pc] = (out ++ [pc]).map int by simp, show out.length + 1 = (out ++ [pc]).length by simp, ← clh_out ((cl_new (m := (out ++ [pc]).length) hcl ho2).wo)]
                refine aops_v rfl rfl rfl (a_assign rfl rfl ?_)
                refine aops_nil ?_
                refine blockE_n ?_
                refine blockE_n ?_
                refine thenE_n ?_
                exact .done ⟨(seen.set pc.toNat true, w', int pc :: rest, vw, out ++ [pc], (o2, vo2), f), ⟨by rw [← hJ, closL_new hsn, hst]; (try simp only [List.append_nil]), by dsimp only; (try simp only [List.length_append, List.length_cons, List.length_nil]); omega, by simp [hsl], hwk', (hok.app (by simpa only [hst] using hst2)), (cl_new hcl ho2), by dsimp only; (try simp only [List.length_append, List.length_cons, List.length_nil]); omega, by dsimp only; (try simp only [List.length_append, List.length_cons, List.length_nil]); omega⟩, by dsimp only; (try simp only [List.length_append, List.length_cons, List.length_nil]); omega, EL, rfl⟩
              · try simp only [zz1, zz2, ne_eq, zz4, zz5, zz6, gt_iff_lt, ge_iff_le, zz9, zz0] at h10
                omega
          · try simp only [zz1, zz2, ne_eq, zz4, zz5, zz6, gt_iff_lt, ge_iff_le, zz9, zz0] at h8
            have hf3 : ¬ ((inAt is pc).kind = 3 ∧ last = true) := fun e => h8 e.1
            refine aops_no rfl rfl rfl rfl rfl rfl ?_
            refine aops_v rfl rfl rfl (a_pick rfl rfl rfl ?_)
            refine aops_v rfl rfl rfl (a_assign rfl rfl ?_)
            refine aops_nil ?_
            refine thenE_n ?_
            refine awp_cond (b := false) rfl (fun h => Bool.noConfusion h) (fun _ => ?_)
            refine awp_seq ?_
            refine awp_region ?_
            first | refine aops_v rfl rfl rfl (a_fieldAddr rfl fk157_0 rfl rfl ?_) | refine aops_v rfl rfl rfl (a_fieldAddr_pin rfl fk157_0 rfl rfl ?_)
            first | refine aops_v rfl rfl rfl (a_load_pin rfl tk3 rfl rfl ?_) | refine aops_v rfl rfl rfl (a_load rfl tk3 rfl HP rfl ?_)
            refine aops_v rfl rfl rfl (a_int rfl rfl rfl rfl ?_)
            refine aops_v rfl rfl rfl (a_assign rfl rfl ?_)
            refine aops_nil ?_
            refine thenE_n ?_
            refine awp_cond rfl (fun h11 => ?_) (fun h11 => ?_)
            · try simp only [zz1, zz2, ne_eq, zz4, zz5, zz6, gt_iff_lt, ge_iff_le, zz9, zz0] at h11
              have hst : stackOf (inAt is pc) first last pc = ([], [pc]) := by unfold stackOf; rw [if_neg n1, if_neg (fun e => e.elim (fun e => k2 e.1) hf3), if_neg k2]
              refine awp_region ?_
              refine aops_v rfl rfl rfl (a_move rfl rfl ?_)
              refine aops_v rfl rfl rfl (a_move rfl rfl ?_)
              refine aops_v rfl rfl rfl (a_buildSlice (res := [_]) rfl sk67 rfl rfl rfl ?_)
              rw [clh_out (hcl.wo)]
              refine aops_v rfl rfl rfl (a_append_slp rfl sk67 rfl (by simp) rfl (.lst rfl) rfl (by omega) (by simp only [maxLen]; omega) (by omega) (fun h => cl_out hcl h) ?_)
              intro o2 vo2 ho2
              rw [show out.map int ++ [int pc] = (out ++ [pc]).map int by simp, show out.length + 1 = (out ++ [pc]).length by simp, ← clh_out ((cl_new (m := (out ++ [pc]).length) hcl ho2).wo)]
              refine aops_v rfl rfl rfl (a_assign rfl rfl ?_)
              refine aops_nil ?_
              refine blockE_n ?_
              refine blockE_n ?_
              refine thenE_n ?_
              exact .done ⟨(seen.set pc.toNat true, w', int pc :: rest, vw, out ++ [pc], (o2, vo2), f), ⟨by rw [← hJ, closL_new hsn, hst]; (try simp only [List.append_nil]), by dsimp only; (try simp only [List.length_append, List.length_cons, List.length_nil]); omega, by simp [hsl], hwk', (hok.app (by simpa only [hst] using hst2)), (cl_new hcl ho2), by dsimp only; (try simp only [List.length_append, List.length_cons, List.length_nil]); omega, by dsimp only; (try simp only [List.length_append, List.length_cons, List.length_nil]); omega⟩, by dsimp only; (try simp only [List.length_append, List.length_cons, List.length_nil]); omega, EL, rfl⟩
            · try simp only [zz1, zz2, ne_eq, zz4, zz5, zz6, gt_iff_lt, ge_iff_le, zz9, zz0] at h11
              omega
  · try simp only [zz1, zz2, ne_eq, zz4, zz5, zz6, gt_iff_lt, ge_iff_le, zz9, zz0] at h1
    obtain rfl : w = [] := List.eq_nil_of_length_eq_zero (by omega)
    rw [closL_nil] at hJ
    refine awp_exit ?_
    refine thenE_x ?_
    refine thenE_x ?_
    refine blockE_x ?_
    refine thenE_n ?_
    refine awp_seq ?_
    refine AWp.ghost (gst_sub _ (clh_del hcl) (.done ?_))
    refine awp_region ?_
    refine aops_v rfl rfl rfl (a_move rfl rfl ?_)
    refine aops_call_eq rfl rfl rfl rfl cf128 rfl (sort_sl out (by omega) (fun _ => hcl.ho)) ?_
    refine aops_nil ?_
    refine thenE_n ?_
    refine awp_seq ?_
    refine awp_region ?_
    refine aops_v rfl rfl rfl (a_move rfl rfl ?_)
    refine aops_v rfl rfl rfl (a_assign rfl rfl ?_)
    refine aops_nil ?_
    refine thenE_n ?_
    refine awp_ret ?_
    change Gst _ _ _ _
    have hcp : closP is fr first last = sortI out := by unfold closP; rw [← hJ]
    refine gst_slp (cs := (sortI out).map int) 8 (by rw [slv_any _ (out.map int)]; rfl) (by simp [sortI_len]) (fun _ => hcl.ho) ?_
    refine fin1 rfl ?_
    exact ⟨by rw [hcp, sortI_len], rfl⟩

theorem closure_spec (l : List Nd) (is : List In) (fr : List Int) (ex : Bool) (first last : Bool) (σ : AHeap) (hpg : PgOk is) (hfr : PcOk is.length fr) (hl : is.length ≤ 1000000) (hl2 : fr.length ≤ 1000000) :
    ASpec Tryz.prog 101 [prgA l is, .lst (fr.map int) fr.length ex, boo first, boo last] σ fun r σ' => r = .ret (.lst ((closP is fr first last).map int) (closP is fr first last).length false) ∧ σ' = σ := by
  by_cases h : 0 < fr.length
  · exact closure1_spec l is fr ex first last σ hpg hfr h hl hl2
  · obtain rfl : fr = [] := List.eq_nil_of_length_eq_zero (by omega)
    have e : closP is [] first last = [] := by unfold closP; rw [closL_nil]; simp [sortI]
    rw [e]
    exact closure0_spec l is ex first last σ hl

end Go.Proofs.YtnahdpjbddfhgaaGreatDoor
set_option linter.unusedVariables false
set_option linter.unusedSimpArgs false
namespace Go.Proofs.YtnahdpjbddfhgaaGreatDoor
open Go Go.AL
set_option maxRecDepth 100000
/-- jumps lead to what there is -/
def Jm (is : List In) : Prop := ∀ i ∈ is, (0 ≤ i.x ∧ i.x ≤ is.length) ∧ (0 ≤ i.y ∧ i.y ≤ is.length) ∧ i.set.length % 2 = 0 ∧ i.set.length ≤ 1000000
theorem jm_push {is : List In} {i : In} (h : Jm is) (hi : (0 ≤ i.x ∧ i.x ≤ is.length + 1) ∧ (0 ≤ i.y ∧ i.y ≤ is.length + 1) ∧ i.set.length % 2 = 0 ∧ i.set.length ≤ 1000000) : Jm (is ++ [i]) := by
  intro j hj
  rcases List.mem_append.1 hj with hj | hj
  · have := h j hj; simp; omega
  · simp only [List.mem_singleton] at hj; subst hj; simp; omega
theorem jm_setY {is : List In} {k : Nat} {y : Int} (h : Jm is) (hy : 0 ≤ y ∧ y ≤ is.length) : Jm (setY is k y) := by
  intro j hj
  rw [setY_len]
  unfold setY at hj
  split at hj
  · rename_i i r e
    rcases List.mem_append.1 hj with hj | hj
    · exact h j (List.mem_of_mem_take hj)
    · rcases List.mem_cons.1 hj with rfl | hj
      · have := h i (List.mem_of_mem_drop (by rw [e]; exact List.mem_cons_self))
        exact ⟨this.1, hy, this.2.2⟩
      · exact h j (List.mem_of_mem_drop (by rw [e]; exact List.mem_cons_of_mem _ hj))
  · exact h j hj
theorem jm_setX {is : List In} {k : Nat} {y : Int} (h : Jm is) (hy : 0 ≤ y ∧ y ≤ is.length) : Jm (setX is k y) := by
  intro j hj
  rw [setX_len]
  unfold setX at hj
  split at hj
  · rename_i i r e
    rcases List.mem_append.1 hj with hj | hj
    · exact h j (List.mem_of_mem_take hj)
    · rcases List.mem_cons.1 hj with rfl | hj
      · have := h i (List.mem_of_mem_drop (by rw [e]; exact List.mem_cons_self))
        exact ⟨hy, this.2.1, this.2.2⟩
      · exact h j (List.mem_of_mem_drop (by rw [e]; exact List.mem_cons_of_mem _ hj))
  · exact h j hj
theorem jm_fixXY (l : List Int) : ∀ is, Jm is → Jm (l.foldl fixXY is) := by
  induction l with
  | nil => intro is h; exact h
  | cons x r ih => intro is h; exact ih _ (jm_setY (jm_setX h (by omega)) (by rw [setX_len]; omega))
theorem jm_fixY (l : List Int) : ∀ is, Jm is → Jm (l.foldl fixY is) := by
  induction l with
  | nil => intro is h; exact h
  | cons x r ih => intro is h; exact ih _ (jm_setY h (by omega))
theorem jm_split {is : List In} (h : Jm is) : Jm (splitI is) := jm_push h (by simp; omega)
def NdJ (node : Int → List In → List In) : Prop := ∀ k is, Jm is → Jm (node k is)
theorem jm_altC {node : Int → List In → List In} {c : Int → Nat} (hl : NdLen node c) (hn : NdJ node) : ∀ (ks : List Int) (is : List In) (outs : List Int), Jm is → Jm (altC node ks is outs).1
  | [], is, outs, h => h
  | [k], is, outs, h => hn k is h
  | k :: k2 :: r, is, outs, h => by
    simp only [altC]
    exact jm_altC hl hn (k2 :: r) _ _ (jm_setY (jm_push (hn k _ (jm_split h)) (by simp; omega)) (by omega))
theorem jm_repMin {node : Int → List In → List In} (hn : NdJ node) (k : Int) : ∀ (m : Nat) (is : List In), Jm is → Jm (repMin node k m is)
  | 0, is, h => h
  | m + 1, is, h => jm_repMin hn k m _ (hn k is h)
theorem jm_repMax {node : Int → List In → List In} (hn : NdJ node) (k : Int) : ∀ (m : Nat) (is : List In) (fs : List Int), Jm is → Jm (repMax node k m is fs).1
  | 0, is, _, h => h
  | m + 1, is, fs, h => jm_repMax hn k m _ _ (hn k _ (jm_split h))
theorem jm_seqN {node : Int → List In → List In} (hn : NdJ node) : ∀ (ks : List Int) (is : List In), Jm is → Jm (seqN node ks is)
  | [], is, h => h
  | k :: r, is, h => jm_seqN hn r _ (hn k is h)
theorem jm_star {node : Int → List In → List In} {c : Int → Nat} (hl : NdLen node c) (hn : NdJ node) (k : Int) (is : List In) (h : Jm is) : Jm (starN node k is) := by
  unfold starN
  have e : (node k (splitI is)).length = is.length + 1 + c k := by rw [hl, splitI_len]
  exact jm_setY (jm_push (hn k _ (jm_split h)) (by simp only; rw [e]; simp; omega)) (by omega)
theorem jm_nodeK {node : Int → List In → List In} {c : Int → Nat} (hl : NdLen node c) (hn : NdJ node) {i : Nat} {n : Nd} (hno : NdOk i n) (is : List In) (h : Jm is) : Jm (nodeK node n is) := by
  have hs := hno.set
  unfold nodeK
  split
  · exact jm_push h (by simp only; omega)
  split
  · exact jm_push h (by simp; omega)
  split
  · exact jm_push h (by simp; omega)
  split
  · exact jm_seqN hn _ _ h
  split
  · exact jm_fixXY _ _ (jm_altC hl hn _ _ _ h)
  split
  · unfold repN
    split
    · exact jm_star hl hn _ _ (jm_repMin hn _ _ _ h)
    · exact jm_fixY _ _ (jm_repMax hn _ _ _ _ (jm_repMin hn _ _ _ h))
  · exact h
theorem jm_nodeC {l : List Nd} (ht : TreeOk l) : ∀ f, NdJ (nodeC l f)
  | 0 => fun k is h => h
  | f + 1 => fun k is h => by
    simp only [nodeC]
    cases e : l[k.toNat]? with
    | none => exact h
    | some n => exact jm_nodeK (nodeC_len l f) (jm_nodeC ht f) (ht _ _ e) is h
theorem compile_ok {l : List Nd} (ht : TreeOk l) : PgOk (compileP l) := by
  have hj := jm_nodeC ht l.length ((l.length : Int) - 1) [] (by intro i hi; simp at hi)
  intro i hi
  unfold compileP at hi ⊢
  rcases List.mem_append.1 hi with hi | hi
  · have := hj i hi
    exact ⟨by simp only [List.length_append, List.length_cons, List.length_nil]; omega, by simp only [List.length_append, List.length_cons, List.length_nil]; omega, this.2.2⟩
  · simp only [List.mem_singleton] at hi
    subst hi
    exact ⟨by simp <;> omega, by simp <;> omega, by simp⟩
theorem compile_len {l : List Nd} : (compileP l).length = cntC l l.length ((l.length : Int) - 1) + 1 := by
  unfold compileP; rw [List.length_append, nodeC_len]; simp
/-- what a pattern that may be is -/
theorem rexp_ok {s : List UInt8} (h : (rexpP s).2 = 0) : TreeOk (rexpP s).1 ∧ 0 < (rexpP s).1.length ∧ (rexpP s).1.length ≤ 1000 ∧ cntC (rexpP s).1 (rexpP s).1.length (((rexpP s).1.length : Int) - 1) ≤ 3000 := by
  by_cases h1 : 128 < s.length
  · unfold rexpP at h; rw [if_pos h1] at h; simp at h
  by_cases h2 : Lib.validD s = false
  · unfold rexpP at h; rw [if_neg h1, if_pos h2] at h; simp at h
  have h2' : Lib.validD s = true := by simpa using h2
  cases hp : altP (fuelOf s) ⟨runesI s, [], 0, 0⟩ with
  | none => rw [rexpP_none h1 h2' hp] at h; simp at h
  | some x =>
    obtain ⟨k, st⟩ := x
    have hE := rexpP_some h1 h2' hp
    rw [hE] at h
    split at h
    · simp at h
    split at h
    · simp at h
    split at h
    · simp at h
    rename_i c1 c2 c3
    rw [if_neg c1, if_neg c2, if_neg c3] at hE
    have hrl := runesOf_len s
    have hrl2 := runesI_len s
    have hpc : PC 1 ⟨runesI s, [], 0, 0⟩ := ⟨runesI_valid s, by simp; omega, by simp, by simp; omega, by simp, by simp⟩
    have htk := altP_tk _ _ _ _ hpc (by intro i n hn; simp at hn) hp
    have hgo := altP_go _ _ _ _ hp
    have hph := hgo.phi
    simp only [List.length_nil] at hph
    have hout : 0 < st.out.length := by have := htk.2 k (by simp); omega
    rw [hE]
    refine ⟨htk.1, hout, by dsimp only; omega, ?_⟩
    have hsz : sizeP st.out = (sizesL [] st.out).getD ((st.out.length : Int) - 1).toNat 0 := by unfold sizeP; congr 1; omega
    have := cnt_le htk.1 st.out.length ((st.out.length : Int) - 1) (by omega) (by omega) (by omega) (by rw [← hsz]; omega)
    rw [← hsz] at this
    dsimp only
    omega
/-- states -/
structure Sta where
  pcs : List Int
  first : Bool
def encSt (s : Sta) : AV := .agg [.lst (s.pcs.map int) s.pcs.length false, boo s.first]
def startP (is : List In) : Sta := ⟨closP is [0] true false, true⟩
def stepL (is : List In) (c : Int) : List Int → List Int
  | [] => []
  | pc :: r => if (inAt is pc).kind = 0 ∧ hasR (inAt is pc).set c = true then (inAt is pc).x :: stepL is c r else stepL is c r
def stepP (is : List In) (s : Sta) (c : Int) (find : Bool) : Sta := ⟨closP is (stepL is c s.pcs ++ (if find then [0] else [])) false false, false⟩
def anyM (is : List In) (l : List Int) : Bool := l.any fun pc => decide ((inAt is pc).kind = 4)
def matchP (is : List In) (s : Sta) (last : Bool) : Bool := anyM is (if last then closP is s.pcs s.first true else s.pcs)
theorem stepL_ok {is : List In} {c : Int} (hpg : PgOk is) : ∀ (l : List Int), PcOk is.length l → PcOk is.length (stepL is c l) ∧ (stepL is c l).length ≤ l.length
  | [], _ => by simp [stepL, PcOk]
  | pc :: r, h => by
    obtain ⟨h1, h2⟩ := stepL_ok hpg r fun k hk => h k (List.mem_cons_of_mem _ hk)
    have hp := h pc List.mem_cons_self
    have hx := (hpg _ (List.mem_of_getElem? (inAt_get hp))).x
    unfold stepL
    split
    · exact ⟨fun k hk => by rcases List.mem_cons.1 hk with rfl | hk; exact hx; exact h1 k hk, by simp; omega⟩
    · exact ⟨h1, by simp; omega⟩
theorem closL_ok {is : List In} {first last : Bool} (hpg : PgOk is) : ∀ (f : Nat) (seen : List Bool) (w out : List Int), seen.length = is.length → PcOk is.length w → PcOk is.length out → out.length + unseen seen ≤ is.length →
    PcOk is.length (closL is first last f seen w out) ∧ (closL is first last f seen w out).length ≤ is.length
  | 0, seen, w, out, _, _, h, h2 => ⟨h, by unfold closL; omega⟩
  | f + 1, seen, w, out, hs, hw, ho, h2 => by
    rcases Nat.eq_zero_or_pos w.length with h0 | h0
    · obtain rfl : w = [] := List.eq_nil_of_length_eq_zero h0
      rw [closL_nil]; exact ⟨ho, by omega⟩
    · obtain ⟨w', pc, rfl⟩ := snocI w h0
      have hpc := hw pc (by simp)
      have hw' : PcOk is.length w' := fun k hk => hw k (by simp [hk])
      cases hsn : seen.getD pc.toNat false with
      | true => rw [closL_seen hsn]; exact closL_ok hpg f _ _ _ hs hw' ho h2
      | false =>
        rw [closL_new hsn]
        have hun := unseen_set (k := pc.toNat) (by omega) hsn
        obtain ⟨s1, s2, s3, s4⟩ := stack_ok (first := first) (last := last) (hpg _ (List.mem_of_getElem? (inAt_get hpc))) hpc
        exact closL_ok hpg f _ _ _ (by simpa using hs) (hw'.app s1) (ho.app s2) (by simp only [List.length_append]; omega)
theorem closP_ok {is : List In} {fr : List Int} {first last : Bool} (hpg : PgOk is) (hfr : PcOk is.length fr) : PcOk is.length (closP is fr first last) ∧ (closP is fr first last).length ≤ is.length := by
  obtain ⟨h1, h2⟩ := closL_ok hpg (closFuel is fr) (List.replicate is.length false) fr [] (by simp) hfr (by simp [PcOk]) (by simp [unseen, List.countP_replicate])
  unfold closP
  exact ⟨fun k hk => h1 k ((List.mergeSort_perm _ _).subset hk), by rw [sortI_len]; exact h2⟩
theorem flatMap_get4 : ∀ (is : List In) (k : Nat) (i : In), is[k]? = some i → (is.flatMap encI)[k * 4]? = some (int i.kind)
  | [], _, _, h => by simp at h
  | a :: r, 0, i, h => by simp at h; subst h; rfl
  | a :: r, k + 1, i, h => by
    rw [List.flatMap_cons, List.getElem?_append_right (by rw [encI_len]; omega), encI_len, show (k + 1) * 4 - 4 = k * 4 by omega]
    exact flatMap_get4 r k i (by simpa using h)

end Go.Proofs.YtnahdpjbddfhgaaGreatDoor
set_option linter.unusedVariables false
set_option linter.unusedSimpArgs false
namespace Go.Proofs.YtnahdpjbddfhgaaGreatDoor
open Go Go.AL
set_option maxRecDepth 100000
theorem ldI0 {is : List In} {k : Nat} {i : In} (h : is[k]? = some i) : ldv false 1 (k * 4 + 0) (is.flatMap encI) = some (int i.kind) := by
  have hk := (List.getElem?_eq_some_iff.1 h).1
  have := flatMap_get4 is k i h
  simp only [ldv, Nat.add_zero]; exact this

theorem start_spec (l : List Nd) (is : List In) (σ : AHeap) (hpg : PgOk is) (hl : is.length ≤ 1000000) (h0 : 0 < is.length) : ASpec Tryz.prog 69 [prgA l is] σ fun r σ' => r = .ret (encSt (startP is)) ∧ σ' = σ := by
  refine aspec_enter_c (N := 7) (rs := [.cell 2 126]) Tryz.func69 rfl rfl rfl rfl rfl ?_
  refine awp_seq ?_
  refine awp_region ?_
  refine aops_v rfl rfl rfl (a_alloc rfl zk126 ?_)
  intro id2 hid2
  refine aops_nil ?_
  refine thenE_n ?_
  refine awp_seq ?_
  refine awp_region ?_
  refine aops_v rfl rfl rfl (a_move rfl rfl ?_)
  refine aops_v rfl rfl rfl (a_buildSlice (res := [_]) rfl sk67 rfl rfl rfl ?_)
  refine aops_call_eq rfl rfl rfl rfl cf101 rfl (closure_spec l is [0] true true false _ hpg (by intro k hk; simp at hk; omega) hl (by simp)) ?_
  refine aops_v rfl rfl rfl (a_build (res := [_, _]) rfl bk126 rfl rfl ?_)
  first | refine aops_s rfl rfl (a_store_n (cs2 := [_, _]) rfl tk126 rfl rfl HP rfl rfl (by first | decide | (simp; done) | (simp; omega)) rfl ?_) | refine aops_s rfl rfl (a_store rfl tk126 rfl rfl HP rfl rfl (by first | decide | (simp [stv, AV.cells]; done) | (simp [stv, AV.cells]; omega)) ?_)
  rw [upd_upd]
  refine aops_nil ?_
  refine thenE_n ?_
  refine awp_ret ?_
  change Gst _ _ _ _
  refine gst_pin1 (ta := 2) rfl hid2 ?_
  refine finc1 rfl (.pin rfl tk126 rfl) ?_
  exact ⟨rfl, rfl⟩

theorem step_spec (l : List Nd) (is : List In) (s : Sta) (c : Int) (find : Bool) (σ : AHeap) (hpg : PgOk is) (hl : is.length ≤ 1000000) (h0 : 0 < is.length) (hpcs : PcOk is.length s.pcs) (hpl : s.pcs.length ≤ 900000) : ASpec Tryz.prog 70 [prgA l is, encSt s, rI c, boo find] σ fun r σ' => r = .ret (encSt (stepP is s c find)) ∧ σ' = σ := by
  unfold encSt
  refine aspec_enter_c (N := 50) (rs := [.cell 8 126]) Tryz.func70 rfl rfl rfl rfl rfl ?_
  refine awp_seq ?_
  refine awp_region ?_
  refine aops_v rfl rfl rfl (a_box_frz rfl rfl rfl ?_)
  refine aops_v rfl rfl rfl (a_alloc rfl zk126 ?_)
  intro id8 hid8
  change AOps _ _ _ _ _ _ (upd σ id8 (.cells 0 126 [nilS, boo false]))
  refine aops_nil ?_
  refine thenE_n ?_
  refine awp_seq ?_
  refine awp_region ?_
  refine aops_v rfl rfl rfl (a_assign rfl rfl ?_)
  refine aops_nil ?_
  refine thenE_n ?_
  refine awp_seq ?_
  refine awp_seq ?_
  refine awp_region ?_
  first | refine aops_v rfl rfl rfl (a_fieldAddr rfl fk126_0 rfl rfl ?_) | refine aops_v rfl rfl rfl (a_fieldAddr_pin rfl fk126_0 rfl rfl ?_)
  first | refine aops_v rfl rfl rfl (a_load_pin rfl tk67 rfl rfl ?_) | refine aops_v rfl rfl rfl (a_load rfl tk67 rfl HP rfl ?_)
  first | refine aops_v rfl rfl rfl (a_len_lst rfl isl67 rfl ?_) | refine aops_v rfl rfl rfl (a_len rfl isl67 rfl ?_) | refine aops_v rfl rfl rfl (a_len_slg rfl isl67 rfl ?_) | refine aops_v rfl rfl rfl (a_len_nil rfl isl67 rfl ?_)
  refine aops_v rfl rfl rfl (a_move rfl rfl ?_)
  refine aops_nil ?_
  refine thenE_n ?_
  refine awp_block ?_
  refine awp_fresh fun o0 ho0 => ?_
  refine awp_loop (S := Nat × List Int × Nat × Nat) (fun x => [(0, prgA l is), (2, rI c), (3, boo find), (8, .ref id8 0 0), (14, .lst (s.pcs.map int) s.pcs.length false), (15, int s.pcs.length), (16, int x.1), (9, slv 1 (x.2.1.map int) x.2.1.length x.2.2.1 x.2.2.2)]) (fun x => slh (upd σ id8 (.cells 0 126 [nilS, boo false])) 3 (x.2.1.map int) x.2.1.length x.2.2.1 x.2.2.2) (fun x => x.1 ≤ s.pcs.length ∧ x.2.1 ++ stepL is c (s.pcs.drop x.1) = stepL is c s.pcs ∧ x.2.1.length ≤ x.1 ∧ upd σ id8 (.cells 0 126 [nilS, boo false]) x.2.2.1 = none) (fun x => s.pcs.length - x.1) ⟨(0, [], o0, 0), ⟨by simp, by simp, by simp, ho0⟩, EL, rfl⟩ ?_
  rintro ⟨j, nx, o, v⟩ ⟨hj, hJ, hnl, hio⟩
  dsimp only at hj hJ hnl hio
  dsimp only
  refine awp_seq ?_
  refine awp_region ?_
  refine aops_v rfl rfl rfl (a_int rfl rfl rfl rfl ?_)
  refine aops_nil ?_
  refine thenE_n ?_
  refine awp_seq ?_
  refine awp_cond rfl (fun h1 => ?_) (fun h1 => ?_)
  · try simp only [zz1, zz2, ne_eq, zz4, zz5, zz6, gt_iff_lt, ge_iff_le, zz9, zz0] at h1
    obtain ⟨pc, hpc⟩ : ∃ k, s.pcs[j]? = some k := ⟨_, List.getElem?_eq_getElem (by omega)⟩
    have hd := drop_c hpc
    have hp := hpcs pc (List.mem_of_getElem? hpc)
    have hin2 := inAt_get hp
    have hio2 := hpg _ (List.mem_of_getElem? hin2)
    refine awp_skip ?_
    refine thenE_n ?_
    refine awp_seq ?_
    refine awp_block ?_
    refine awp_seq ?_
    refine awp_region ?_
    first | refine aops_v rfl rfl rfl (a_indexAddr_lst rfl ek67 rfl rfl NT (by omega) (by omega) ?_) | refine aops_v rfl rfl rfl (a_indexAddr rfl ek67 rfl rfl NT (by omega) (by omega) ?_)
    refine aops_v rfl rfl rfl (a_load_pin rfl tk3 rfl (ldv_map hpc) ?_)
    refine aops_v rfl rfl rfl (a_assign rfl rfl ?_)
    refine aops_nil ?_
    refine thenE_n ?_
    refine awp_seq ?_
    refine awp_region ?_
    refine aops_v rfl rfl rfl (a_move rfl rfl ?_)
    first | refine aops_v rfl rfl rfl (a_nilCheck rfl rfl ?_) | refine aops_v rfl rfl rfl (a_nilCheck_pin rfl rfl ?_) | refine aops_v rfl rfl rfl (a_nilCheck_clo rfl rfl ?_)
    first | refine aops_v rfl rfl rfl (a_fieldAddr rfl fk154_1 rfl rfl ?_) | refine aops_v rfl rfl rfl (a_fieldAddr_pin rfl fk154_1 rfl rfl ?_)
    first | refine aops_v rfl rfl rfl (a_load_pin rfl tk152 rfl rfl ?_) | refine aops_v rfl rfl rfl (a_load rfl tk152 rfl HP rfl ?_)
    refine aops_v rfl rfl rfl (a_move rfl rfl ?_)
    first | refine aops_v rfl rfl rfl (a_indexAddr_lst rfl ek152 rfl rfl NT (by omega) (by omega) ?_) | refine aops_v rfl rfl rfl (a_indexAddr rfl ek152 rfl rfl NT (by omega) (by omega) ?_)
    refine aops_v rfl rfl rfl (a_load_pin rfl tk157 rfl (by first | exact ldv_flat encI_len hin2 | (rw [Nat.zero_add]; exact ldv_flat encI_len hin2)) ?_)
    refine aops_var_frz rfl rfl rfl rfl rfl rfl rfl tk157 zk157 rfl rfl rfl rfl rfl ?_
    refine aops_nil ?_
    refine thenE_n ?_
    refine awp_seq ?_
    refine awp_region ?_
    first | refine aops_v rfl rfl rfl (a_fieldAddr rfl fk157_0 rfl rfl ?_) | refine aops_v rfl rfl rfl (a_fieldAddr_pin rfl fk157_0 rfl rfl ?_)
    first | refine aops_v rfl rfl rfl (a_load_pin rfl tk3 rfl rfl ?_) | refine aops_v rfl rfl rfl (a_load rfl tk3 rfl HP rfl ?_)
    refine aops_v rfl rfl rfl (a_int rfl rfl rfl rfl ?_)
    refine aops_v rfl rfl rfl (a_move rfl rfl ?_)
    refine aops_bool (fun h2 => ?_) (fun h2 => ?_)
    · try simp only [zz1, zz2, ne_eq, zz4, zz5, zz6, gt_iff_lt, ge_iff_le, zz9, zz0] at h2
      have hk := h2
      refine aops_yes rfl rfl rfl rfl ?_
      first | refine aops_v rfl rfl rfl (a_fieldAddr rfl fk157_3 rfl rfl ?_) | refine aops_v rfl rfl rfl (a_fieldAddr_pin rfl fk157_3 rfl rfl ?_)
      refine aops_yes rfl rfl rfl rfl ?_
      first | refine aops_v rfl rfl rfl (a_load_pin rfl tk59 rfl rfl ?_) | refine aops_v rfl rfl rfl (a_load rfl tk59 rfl HP rfl ?_)
      refine aops_yes rfl rfl rfl rfl ?_
      refine aops_v rfl rfl rfl (a_move rfl rfl ?_)
      refine aops_yes rfl rfl rfl rfl ?_
      refine aops_call_eq rfl rfl rfl rfl cf102 rfl (has_spec (inAt is pc).set c _ hio2.set.1 hio2.set.2) ?_
      refine aops_v rfl rfl rfl (a_pick rfl rfl rfl ?_)
      refine aops_nil ?_
      refine thenE_n ?_
      refine awp_cond rfl (fun h3 => ?_) (fun h3 => ?_)
      · try simp only [zz1, zz2, ne_eq, zz4, zz5, zz6, gt_iff_lt, ge_iff_le, zz9, zz0] at h3
        have hh := h3
        refine awp_region ?_
        refine aops_v rfl rfl rfl (a_move rfl rfl ?_)
        first | refine aops_v rfl rfl rfl (a_fieldAddr rfl fk157_1 rfl rfl ?_) | refine aops_v rfl rfl rfl (a_fieldAddr_pin rfl fk157_1 rfl rfl ?_)
        first | refine aops_v rfl rfl rfl (a_load_pin rfl tk3 rfl rfl ?_) | refine aops_v rfl rfl rfl (a_load rfl tk3 rfl HP rfl ?_)
        refine aops_v rfl rfl rfl (a_buildSlice (res := [_]) rfl sk67 rfl rfl rfl ?_)
        refine aops_v rfl rfl rfl (a_append_slp rfl sk67 rfl (by simp) rfl (.lst rfl) rfl (by omega) (by simp only [maxLen]; omega) (by omega) (fun _ => hio) ?_)
        intro o2 v2 ho2
        rw [show nx.map int ++ [int (inAt is pc).x] = (nx ++ [(inAt is pc).x]).map int by simp, show nx.length + 1 = (nx ++ [(inAt is pc).x]).length by simp]
        refine aops_v rfl rfl rfl (a_assign rfl rfl ?_)
        refine aops_nil ?_
        refine blockE_n ?_
        refine thenE_n ?_
        refine awp_region ?_
        first | refine aops_v rfl rfl rfl (a_add rfl rfl rfl (by simp only [Go.AL.lo, Go.AL.hi]; omega) ?_) | refine aops_v rfl rfl rfl (a_int rfl rfl rfl rfl ?_)
        refine aops_v rfl rfl rfl (a_move rfl rfl ?_)
        refine aops_nil ?_
        refine thenE_n ?_
        exact .done ⟨(j + 1, nx ++ [(inAt is pc).x], o2, v2), ⟨by dsimp only; omega, by dsimp only; rw [← hJ, hd, stepL, if_pos ⟨hk, hh⟩]; simp, by simp; omega, ho2⟩, by dsimp only; omega, EL, rfl⟩
      · try simp only [zz1, zz2, ne_eq, zz4, zz5, zz6, gt_iff_lt, ge_iff_le, zz9, zz0] at h3
        have hh : ¬ ((inAt is pc).kind = 0 ∧ hasR (inAt is pc).set c = true) := fun e => by rw [h3] at e; exact absurd e.2 (by simp)
        refine awp_skip ?_
        refine blockE_n ?_
        refine thenE_n ?_
        refine awp_region ?_
        first | refine aops_v rfl rfl rfl (a_add rfl rfl rfl (by simp only [Go.AL.lo, Go.AL.hi]; omega) ?_) | refine aops_v rfl rfl rfl (a_int rfl rfl rfl rfl ?_)
        refine aops_v rfl rfl rfl (a_move rfl rfl ?_)
        refine aops_nil ?_
        refine thenE_n ?_
        exact .done ⟨(j + 1, nx, o, v), ⟨by dsimp only; omega, by dsimp only; rw [← hJ, hd, stepL, if_neg hh], by dsimp only; omega, hio⟩, by dsimp only; omega, EL, rfl⟩
    · try simp only [zz1, zz2, ne_eq, zz4, zz5, zz6, gt_iff_lt, ge_iff_le, zz9, zz0] at h2
      have hh : ¬ ((inAt is pc).kind = 0 ∧ hasR (inAt is pc).set c = true) := fun e => h2 e.1
      refine aops_no rfl rfl rfl rfl rfl rfl ?_
      refine aops_no rfl rfl rfl rfl rfl rfl ?_
      refine aops_no rfl rfl rfl rfl rfl rfl ?_
      refine aops_no rfl rfl rfl rfl rfl rfl ?_
      refine aops_v rfl rfl rfl (a_pick rfl rfl rfl ?_)
      refine aops_nil ?_
      refine thenE_n ?_
      refine awp_cond (b := false) rfl (fun h => Bool.noConfusion h) (fun _ => ?_)
      refine awp_skip ?_
      refine blockE_n ?_
      refine thenE_n ?_
      refine awp_region ?_
      first | refine aops_v rfl rfl rfl (a_add rfl rfl rfl (by simp only [Go.AL.lo, Go.AL.hi]; omega) ?_) | refine aops_v rfl rfl rfl (a_int rfl rfl rfl rfl ?_)
      refine aops_v rfl rfl rfl (a_move rfl rfl ?_)
      refine aops_nil ?_
      refine thenE_n ?_
      exact .done ⟨(j + 1, nx, o, v), ⟨by dsimp only; omega, by dsimp only; rw [← hJ, hd, stepL, if_neg hh], by dsimp only; omega, hio⟩, by dsimp only; omega, EL, rfl⟩
  · try simp only [zz1, zz2, ne_eq, zz4, zz5, zz6, gt_iff_lt, ge_iff_le, zz9, zz0] at h1
    obtain rfl : j = s.pcs.length := by omega
    rw [List.drop_length, stepL, List.append_nil] at hJ
    subst hJ
    obtain ⟨hsk, hsl⟩ := stepL_ok (c := c) hpg s.pcs hpcs
    obtain ⟨nx, hnx⟩ : ∃ q, stepL is c s.pcs = q := ⟨_, rfl⟩
    rw [hnx] at hsk hsl ⊢
    refine awp_exit ?_
    refine thenE_x ?_
    refine thenE_x ?_
    refine blockE_x ?_
    refine thenE_n ?_
    refine awp_cut (S := List Int × Nat × Nat) (fun x => [(0, prgA l is), (8, .ref id8 0 0), (9, slv 1 (x.1.map int) x.1.length x.2.1 x.2.2)]) (fun x => slh (upd σ id8 (.cells 0 126 [nilS, boo false])) 3 (x.1.map int) x.1.length x.2.1 x.2.2) (fun x => x.1 = nx ++ (if find then [0] else []) ∧ upd σ id8 (.cells 0 126 [nilS, boo false]) x.2.1 = none) ?_ ?_
    · skip
      refine awp_seq ?_
      refine awp_region ?_
      refine aops_v rfl rfl rfl (a_move rfl rfl ?_)
      refine aops_nil ?_
      refine thenE_n ?_
      refine awp_cond rfl (fun h4 => ?_) (fun h4 => ?_)
      · try simp only [zz1, zz2, ne_eq, zz4, zz5, zz6, gt_iff_lt, ge_iff_le, zz9, zz0] at h4
        have hf := h4
        refine awp_region ?_
        refine aops_v rfl rfl rfl (a_move rfl rfl ?_)
        refine aops_v rfl rfl rfl (a_buildSlice (res := [_]) rfl sk67 rfl rfl rfl ?_)
        refine aops_v rfl rfl rfl (a_append_slp rfl sk67 rfl (by simp) rfl (.lst rfl) rfl (by omega) (by simp only [maxLen]; omega) (by omega) (fun _ => hio) ?_)
        intro o2 v2 ho2
        rw [show nx.map int ++ [int (0 : Int)] = (nx ++ [(0 : Int)]).map int by simp, show nx.length + 1 = (nx ++ [(0 : Int)]).length by simp]
        refine aops_v rfl rfl rfl (a_assign rfl rfl ?_)
        refine aops_nil ?_
        refine thenE_n ?_
        exact .done ⟨(nx ++ [0], o2, v2), ⟨by rw [if_pos hf], ho2⟩, EL, rfl⟩
      · try simp only [zz1, zz2, ne_eq, zz4, zz5, zz6, gt_iff_lt, ge_iff_le, zz9, zz0] at h4
        have hf := h4
        refine awp_skip ?_
        refine thenE_n ?_
        exact .done ⟨(nx, o, v), ⟨by rw [if_neg (by simp [hf])]; simp, hio⟩, EL, rfl⟩
    rintro ⟨nf, o, v⟩ ⟨hnf, hio⟩
    dsimp only at hnf hio
    dsimp only
    have hnfk : PcOk is.length nf := by rw [hnf]; refine hsk.app ?_; split <;> (intro k hk; simp at hk; try omega)
    have hnfl : nf.length ≤ s.pcs.length + 1 := by rw [hnf]; split <;> simp <;> omega
    refine awp_seq ?_
    refine AWp.ghost (gst_slp 9 rfl (by simp) (fun _ => hio) (.done ?_))
    refine awp_region ?_
    refine aops_v rfl rfl rfl (a_move rfl rfl ?_)
    refine aops_v rfl rfl rfl (a_move rfl rfl ?_)
    refine aops_call_eq rfl rfl rfl rfl cf101 rfl (closure_spec l is nf false false false _ hpg hnfk hl (by omega)) ?_
    refine aops_v rfl rfl rfl (a_build (res := [_, _]) rfl bk126 rfl rfl ?_)
    first | refine aops_s rfl rfl (a_store_n (cs2 := [_, _]) rfl tk126 rfl rfl HP rfl rfl (by first | decide | (simp; done) | (simp; omega)) rfl ?_) | refine aops_s rfl rfl (a_store rfl tk126 rfl rfl HP rfl rfl (by first | decide | (simp [stv, AV.cells]; done) | (simp [stv, AV.cells]; omega)) ?_)
    rw [upd_upd]
    refine aops_nil ?_
    refine thenE_n ?_
    refine awp_ret ?_
    change Gst _ _ _ _
    refine gst_pin1 (ta := 8) rfl hid8 ?_
    refine finc1 rfl (.pin rfl tk126 rfl) ?_
    exact ⟨by unfold stepP; rw [hnx, ← hnf]; rfl, rfl⟩

theorem clo104_spec (l : List Nd) (is : List In) (pc : Int) (i3 : Nat) (σ : AHeap) (h3 : σ i3 = some (.cells 0 111 [prgA l is])) (hp : 0 ≤ pc ∧ pc < is.length) (hl : is.length ≤ 1000000) : ASpec Tryz.prog 104 [int pc, .ref i3 0 0] σ fun r σ' => r = .ret (boo (decide ((inAt is pc).kind = 4))) ∧ σ' = σ := by
  refine aspec_enter (N := 13) (rs := [.tmp 3]) Tryz.func104 rfl rfl rfl rfl rfl rfl ?_
  refine awp_seq ?_
  refine awp_region ?_
  refine aops_v rfl rfl rfl (a_assign rfl rfl ?_)
  refine aops_nil ?_
  refine thenE_n ?_
  refine awp_seq ?_
  refine awp_region ?_
  refine aops_v rfl rfl rfl (a_load rfl tk111 rfl h3 rfl ?_)
  first | refine aops_v rfl rfl rfl (a_nilCheck rfl rfl ?_) | refine aops_v rfl rfl rfl (a_nilCheck_pin rfl rfl ?_) | refine aops_v rfl rfl rfl (a_nilCheck_clo rfl rfl ?_)
  first | refine aops_v rfl rfl rfl (a_fieldAddr rfl fk154_1 rfl rfl ?_) | refine aops_v rfl rfl rfl (a_fieldAddr_pin rfl fk154_1 rfl rfl ?_)
  first | refine aops_v rfl rfl rfl (a_load_pin rfl tk152 rfl rfl ?_) | refine aops_v rfl rfl rfl (a_load rfl tk152 rfl HP rfl ?_)
  refine aops_v rfl rfl rfl (a_move rfl rfl ?_)
  first | refine aops_v rfl rfl rfl (a_indexAddr_lst rfl ek152 rfl rfl NT (by omega) (by omega) ?_) | refine aops_v rfl rfl rfl (a_indexAddr rfl ek152 rfl rfl NT (by omega) (by omega) ?_)
  first | refine aops_v rfl rfl rfl (a_fieldAddr rfl fk157_0 rfl rfl ?_) | refine aops_v rfl rfl rfl (a_fieldAddr_pin rfl fk157_0 rfl rfl ?_)
  refine aops_v rfl rfl rfl (a_load_pin rfl tk3 rfl (ldI0 (inAt_get hp)) ?_)
  refine aops_v rfl rfl rfl (a_int rfl rfl rfl rfl ?_)
  refine aops_v rfl rfl rfl (a_assign rfl rfl ?_)
  refine aops_nil ?_
  refine thenE_n ?_
  refine awp_ret ?_
  change Gst _ _ _ _
  refine fin1 rfl ?_
  exact ⟨rfl, rfl⟩

theorem idxF_spec (l : List Nd) (is : List In) (zs : List Int) (i3 : Nat) (σ : AHeap) (h3 : σ i3 = some (.cells 0 111 [prgA l is])) (hz : PcOk is.length zs) (hl : is.length ≤ 1000000) (hl2 : zs.length ≤ 1000000) : ASpec Tryz.prog 129 [.lst (zs.map int) zs.length false, .clo 104 [.ref i3 0 0]] σ fun r σ' => (∃ i : Int, r = .ret (int i) ∧ decide (0 ≤ i) = anyM is zs) ∧ σ' = σ := by
  refine aspec_enter (N := 19) (rs := [.tmp 4]) Tryz.func129 rfl rfl rfl rfl rfl rfl ?_
  refine awp_seq ?_
  refine awp_region ?_
  refine aops_v rfl rfl rfl (a_assign rfl rfl ?_)
  refine aops_nil ?_
  refine thenE_n ?_
  refine awp_seq ?_
  refine awp_seq ?_
  refine awp_region ?_
  refine aops_v rfl rfl rfl (a_move rfl rfl ?_)
  first | refine aops_v rfl rfl rfl (a_len_lst rfl isl67 rfl ?_) | refine aops_v rfl rfl rfl (a_len rfl isl67 rfl ?_) | refine aops_v rfl rfl rfl (a_len_slg rfl isl67 rfl ?_) | refine aops_v rfl rfl rfl (a_len_nil rfl isl67 rfl ?_)
  refine aops_v rfl rfl rfl (a_move rfl rfl ?_)
  refine aops_nil ?_
  refine thenE_n ?_
  refine awp_block ?_
  refine awp_loop (S := Nat) (fun j => [(0, .lst (zs.map int) zs.length false), (1, .clo 104 [.ref i3 0 0]), (7, int zs.length), (8, int j)]) (fun _ => σ) (fun j => j ≤ zs.length ∧ anyM is (zs.drop j) = anyM is zs) (fun j => zs.length - j) ⟨0, ⟨by simp, by simp⟩, EL, rfl⟩ ?_
  rintro j ⟨hj, hJ⟩
  refine awp_seq ?_
  refine awp_region ?_
  refine aops_v rfl rfl rfl (a_int rfl rfl rfl rfl ?_)
  refine aops_nil ?_
  refine thenE_n ?_
  refine awp_seq ?_
  refine awp_cond rfl (fun h1 => ?_) (fun h1 => ?_)
  · try simp only [zz1, zz2, ne_eq, zz4, zz5, zz6, gt_iff_lt, ge_iff_le, zz9, zz0] at h1
    obtain ⟨pc, hpc⟩ : ∃ k, zs[j]? = some k := ⟨_, List.getElem?_eq_getElem (by omega)⟩
    have hd := drop_c hpc
    have hp := hz pc (List.mem_of_getElem? hpc)
    refine awp_skip ?_
    refine thenE_n ?_
    refine awp_seq ?_
    refine awp_block ?_
    refine awp_seq ?_
    refine awp_region ?_
    refine aops_v rfl rfl rfl (a_move rfl rfl ?_)
    refine aops_v rfl rfl rfl (a_assign rfl rfl ?_)
    refine aops_nil ?_
    refine thenE_n ?_
    refine awp_seq ?_
    refine awp_region ?_
    refine aops_v rfl rfl rfl (a_move rfl rfl ?_)
    refine aops_v rfl rfl rfl (a_move rfl rfl ?_)
    refine aops_v rfl rfl rfl (a_move rfl rfl ?_)
    first | refine aops_v rfl rfl rfl (a_indexAddr_lst rfl ek67 rfl rfl NT (by omega) (by omega) ?_) | refine aops_v rfl rfl rfl (a_indexAddr rfl ek67 rfl rfl NT (by omega) (by omega) ?_)
    refine aops_v rfl rfl rfl (a_load_pin rfl tk3 rfl (ldv_map hpc) ?_)
    refine aops_call_clo_eq rfl rfl rfl rfl rfl cf104 rfl (clo104_spec l is pc i3 σ h3 hp hl) ?_
    refine aops_nil ?_
    refine thenE_n ?_
    refine awp_cond rfl (fun h2 => ?_) (fun h2 => ?_)
    · try simp only [zz1, zz2, ne_eq, zz4, zz5, zz6, gt_iff_lt, ge_iff_le, zz9, zz0] at h2
      have hyes := h2
      refine awp_seq ?_
      refine awp_region ?_
      refine aops_v rfl rfl rfl (a_move rfl rfl ?_)
      refine aops_v rfl rfl rfl (a_assign rfl rfl ?_)
      refine aops_nil ?_
      refine thenE_n ?_
      refine awp_ret ?_
      change Gst _ _ _ _
      refine fin1 rfl ?_
      exact ⟨⟨_, rfl, by rw [← hJ, hd]; simp [anyM, hyes]⟩, rfl⟩
    · try simp only [zz1, zz2, ne_eq, zz4, zz5, zz6, gt_iff_lt, ge_iff_le, zz9, zz0] at h2
      have hno := h2
      refine awp_skip ?_
      refine blockE_n ?_
      refine thenE_n ?_
      refine awp_region ?_
      first | refine aops_v rfl rfl rfl (a_add rfl rfl rfl (by simp only [Go.AL.lo, Go.AL.hi]; omega) ?_) | refine aops_v rfl rfl rfl (a_int rfl rfl rfl rfl ?_)
      refine aops_v rfl rfl rfl (a_move rfl rfl ?_)
      refine aops_nil ?_
      refine thenE_n ?_
      exact .done ⟨j + 1, ⟨by omega, by rw [← hJ, hd]; simp [anyM, hno]⟩, by omega, EL, rfl⟩
  · try simp only [zz1, zz2, ne_eq, zz4, zz5, zz6, gt_iff_lt, ge_iff_le, zz9, zz0] at h1
    refine awp_exit ?_
    refine thenE_x ?_
    refine thenE_x ?_
    refine blockE_x ?_
    refine thenE_n ?_
    refine awp_seq ?_
    refine awp_region ?_
    refine aops_v rfl rfl rfl (a_assign rfl rfl ?_)
    refine aops_nil ?_
    refine thenE_n ?_
    refine awp_ret ?_
    change Gst _ _ _ _
    refine fin1 rfl ?_
    obtain rfl : j = zs.length := by omega
    exact ⟨⟨_, rfl, by rw [← hJ]; simp [anyM]⟩, rfl⟩

theorem conF_spec (l : List Nd) (is : List In) (zs : List Int) (i3 : Nat) (σ : AHeap) (h3 : σ i3 = some (.cells 0 111 [prgA l is])) (hz : PcOk is.length zs) (hl : is.length ≤ 1000000) (hl2 : zs.length ≤ 1000000) : ASpec Tryz.prog 103 [.lst (zs.map int) zs.length false, .clo 104 [.ref i3 0 0]] σ fun r σ' => r = .ret (boo (anyM is zs)) ∧ σ' = σ := by
  refine aspec_enter (N := 9) (rs := [.tmp 4]) Tryz.func103 rfl rfl rfl rfl rfl rfl ?_
  refine awp_seq ?_
  refine awp_region ?_
  refine aops_v rfl rfl rfl (a_assign rfl rfl ?_)
  refine aops_nil ?_
  refine thenE_n ?_
  refine awp_seq ?_
  refine awp_region ?_
  refine aops_v rfl rfl rfl (a_move rfl rfl ?_)
  refine aops_v rfl rfl rfl (a_move rfl rfl ?_)
  refine aops_call_any rfl rfl rfl rfl cf129 rfl (idxF_spec l is zs i3 _ h3 hz hl hl2) ?_ ?_
  rotate_left
  · rintro c σ' ⟨⟨i, h, _⟩, _⟩
    exact absurd h (by simp)
  rintro a' σ' ⟨⟨i, h, hi⟩, rfl⟩
  simp only [AEnd.ret.injEq] at h
  subst h
  refine aops_v rfl rfl rfl (a_int rfl rfl rfl rfl ?_)
  refine aops_v rfl rfl rfl (a_assign rfl rfl ?_)
  refine aops_nil ?_
  refine thenE_n ?_
  refine awp_ret ?_
  change Gst _ _ _ _
  refine fin1 rfl ?_
  exact ⟨by rw [← hi], rfl⟩

theorem matches_spec (l : List Nd) (is : List In) (s : Sta) (last : Bool) (σ : AHeap) (hpg : PgOk is) (hl : is.length ≤ 1000000) (hpcs : PcOk is.length s.pcs) (hpl : s.pcs.length ≤ 900000) : ASpec Tryz.prog 71 [prgA l is, encSt s, boo last] σ fun r σ' => r = .ret (boo (matchP is s last)) ∧ σ' = σ := by
  unfold encSt
  refine aspec_enter (N := 19) (rs := [.tmp 6]) Tryz.func71 rfl rfl rfl rfl rfl rfl ?_
  refine awp_seq ?_
  refine awp_region ?_
  refine aops_v rfl rfl rfl (a_box rfl rfl rfl ?_)
  intro id3 hid3
  refine aops_v rfl rfl rfl (a_box_frz rfl rfl rfl ?_)
  refine aops_v rfl rfl rfl (a_assign rfl rfl ?_)
  refine aops_nil ?_
  refine thenE_n ?_
  refine awp_seq ?_
  refine awp_region ?_
  first | refine aops_v rfl rfl rfl (a_fieldAddr rfl fk126_0 rfl rfl ?_) | refine aops_v rfl rfl rfl (a_fieldAddr_pin rfl fk126_0 rfl rfl ?_)
  first | refine aops_v rfl rfl rfl (a_load_pin rfl tk67 rfl rfl ?_) | refine aops_v rfl rfl rfl (a_load rfl tk67 rfl HP rfl ?_)
  refine aops_v rfl rfl rfl (a_assign rfl rfl ?_)
  refine aops_nil ?_
  refine thenE_n ?_
  refine awp_seq ?_
  refine awp_seq ?_
  refine awp_region ?_
  refine aops_v rfl rfl rfl (a_move rfl rfl ?_)
  refine aops_nil ?_
  refine thenE_n ?_
  refine awp_cond rfl (fun h1 => ?_) (fun h1 => ?_)
  · try simp only [zz1, zz2, ne_eq, zz4, zz5, zz6, gt_iff_lt, ge_iff_le, zz9, zz0] at h1
    have hl4 := h1
    obtain ⟨hc1, hc2⟩ := closP_ok (first := s.first) (last := true) hpg hpcs
    refine awp_region ?_
    first | refine aops_v rfl rfl rfl (a_load_pin rfl tk111 rfl rfl ?_) | refine aops_v rfl rfl rfl (a_load rfl tk111 rfl HP rfl ?_)
    refine aops_v rfl rfl rfl (a_move rfl rfl ?_)
    first | refine aops_v rfl rfl rfl (a_fieldAddr rfl fk126_1 rfl rfl ?_) | refine aops_v rfl rfl rfl (a_fieldAddr_pin rfl fk126_1 rfl rfl ?_)
    first | refine aops_v rfl rfl rfl (a_load_pin rfl tk4 rfl rfl ?_) | refine aops_v rfl rfl rfl (a_load rfl tk4 rfl HP rfl ?_)
    refine aops_call_eq rfl rfl rfl rfl cf101 rfl (closure_spec l is s.pcs false s.first true _ hpg hpcs hl (by omega)) ?_
    refine aops_v rfl rfl rfl (a_assign rfl rfl ?_)
    refine aops_nil ?_
    refine thenE_n ?_
    refine awp_seq ?_
    refine awp_region ?_
    refine aops_v rfl rfl rfl (a_move rfl rfl ?_)
    refine aops_v rfl rfl rfl (a_makeFunc rfl rfl ?_)
    refine aops_call_eq rfl rfl rfl rfl cf103 rfl (conF_spec l is (closP is s.pcs s.first true) id3 _ (upd_same _ _ _) hc1 hl (by omega)) ?_
    refine aops_v rfl rfl rfl (a_assign rfl rfl ?_)
    refine aops_nil ?_
    refine thenE_n ?_
    refine awp_ret ?_
    change Gst _ _ _ _
    refine gst_del id3 ?_
    rw [del_upd _ _ hid3]
    refine fin1 rfl ?_
    exact ⟨by unfold matchP; rw [if_pos hl4], rfl⟩
  · try simp only [zz1, zz2, ne_eq, zz4, zz5, zz6, gt_iff_lt, ge_iff_le, zz9, zz0] at h1
    have hl4 := h1
    refine awp_skip ?_
    refine thenE_n ?_
    refine awp_seq ?_
    refine awp_region ?_
    refine aops_v rfl rfl rfl (a_move rfl rfl ?_)
    refine aops_v rfl rfl rfl (a_makeFunc rfl rfl ?_)
    refine aops_call_eq rfl rfl rfl rfl cf103 rfl (conF_spec l is s.pcs id3 _ (upd_same _ _ _) hpcs hl (by omega)) ?_
    refine aops_v rfl rfl rfl (a_assign rfl rfl ?_)
    refine aops_nil ?_
    refine thenE_n ?_
    refine awp_ret ?_
    change Gst _ _ _ _
    refine gst_del id3 ?_
    rw [del_upd _ _ hid3]
    refine fin1 rfl ?_
    exact ⟨by unfold matchP; rw [if_neg (by simp [hl4])], rfl⟩

end Go.Proofs.YtnahdpjbddfhgaaGreatDoor
set_option linter.unusedVariables false
set_option linter.unusedSimpArgs false
namespace Go.Proofs.YtnahdpjbddfhgaaGreatDoor
open Go Go.AL
set_option maxRecDepth 100000
def encStC (s : Sta) : List AV := [.lst (s.pcs.map int) s.pcs.length false, boo s.first]
structure StaOk (is : List In) (s : Sta) : Prop where
  pcs : PcOk is.length s.pcs
  len : s.pcs.length ≤ is.length
theorem start_ok {is : List In} (hpg : PgOk is) (h0 : 0 < is.length) : StaOk is (startP is) := by
  obtain ⟨h1, h2⟩ := closP_ok (fr := [0]) (first := true) (last := false) hpg (by intro k hk; simp at hk; omega)
  exact ⟨h1, h2⟩
theorem step_ok {is : List In} (hpg : PgOk is) (h0 : 0 < is.length) {s : Sta} (hs : StaOk is s) (c : Int) (find : Bool) : StaOk is (stepP is s c find) := by
  obtain ⟨h1, h2⟩ := closP_ok (fr := stepL is c s.pcs ++ (if find then [0] else [])) (first := false) (last := false) hpg
    ((stepL_ok hpg s.pcs hs.pcs).1.app (by split <;> (intro k hk; simp at hk; try omega)))
  exact ⟨h1, h2⟩
def wholeL (is : List In) : Sta → List Int → Bool
  | s, [] => matchP is s true
  | s, c :: r => wholeL is (stepP is s c false) r
def partL (is : List In) : Sta → List Int → Bool
  | s, [] => matchP is s true
  | s, c :: r => if matchP is s false then true else partL is (stepP is s c true) r
def wholeP (is : List In) (s : List UInt8) : Bool := wholeL is (startP is) (runesI s)
def partP (is : List In) (s : List UInt8) : Bool := partL is (startP is) (runesI s)
theorem runesI_drop {l : List UInt8} {i : Nat} (h : i < l.length) : runesI (l.drop i) = ((decR (l.drop i)).1 : Int) :: runesI (l.drop (i + (decR (l.drop i)).2)) := by
  unfold runesI; rw [runesOf_drop h]; rfl
theorem runesI_end {l : List UInt8} {i : Nat} (h : l.length ≤ i) : runesI (l.drop i) = [] := by
  rw [List.drop_of_length_le h]; rfl
def matA (s : List UInt8) : AV := if (rexpP s).2 = 0 then .pin [prgA (rexpP s).1 (compileP (rexpP s).1)] 0 else .v (.pointer none)

theorem nfaNew_spec (s : List UInt8) (σ : AHeap) (hl : s.length ≤ 1000000000) : ASpec Tryz.prog 35 [str s] σ fun r σ' => r = .ret (.tup [matA s, int (rexpP s).2]) ∧ σ' = σ := by
  refine aspec_enter (N := 18) (rs := [.tmp 2, .tmp 3]) Tryz.func35 rfl rfl rfl rfl rfl rfl ?_
  refine awp_seq ?_
  refine awp_region ?_
  refine aops_v rfl rfl rfl (a_assign rfl rfl ?_)
  refine aops_v rfl rfl rfl (a_assign rfl rfl ?_)
  refine aops_nil ?_
  refine thenE_n ?_
  refine awp_seq ?_
  refine awp_region ?_
  refine aops_v rfl rfl rfl (a_move rfl rfl ?_)
  refine aops_call_eq rfl rfl rfl rfl cf37 rfl (rexpParse_spec s _ hl) ?_
  refine aops_v rfl rfl rfl (a_move rfl rfl ?_)
  refine aops_v rfl rfl rfl (a_extract rfl rfl rfl ?_)
  refine aops_v rfl rfl rfl (a_extract rfl rfl rfl ?_)
  refine aops_v rfl rfl rfl (a_assign rfl rfl ?_)
  refine aops_v rfl rfl rfl (a_assign rfl rfl ?_)
  refine aops_nil ?_
  refine thenE_n ?_
  refine awp_seq ?_
  refine awp_seq ?_
  refine awp_region ?_
  refine aops_v rfl rfl rfl (a_move rfl rfl ?_)
  refine aops_v rfl rfl rfl (a_int rfl rfl rfl rfl ?_)
  refine aops_nil ?_
  refine thenE_n ?_
  refine awp_cond rfl (fun h1 => ?_) (fun h1 => ?_)
  · try simp only [zz1, zz2, ne_eq, zz4, zz5, zz6, gt_iff_lt, ge_iff_le, zz9, zz0] at h1
    have he := h1
    refine awp_seq ?_
    refine awp_region ?_
    refine aops_v rfl rfl rfl (a_move rfl rfl ?_)
    refine aops_v rfl rfl rfl (a_assign rfl rfl ?_)
    refine aops_v rfl rfl rfl (a_assign rfl rfl ?_)
    refine aops_nil ?_
    refine thenE_n ?_
    refine awp_ret ?_
    change Gst _ _ _ _
    refine fin2 rfl ?_
    exact ⟨by unfold matA; rw [if_neg he], rfl⟩
  · try simp only [zz1, zz2, ne_eq, zz4, zz5, zz6, gt_iff_lt, ge_iff_le, zz9, zz0] at h1
    have he := h1
    obtain ⟨ht, h0, hll, hc⟩ := rexp_ok he
    refine awp_skip ?_
    refine thenE_n ?_
    refine awp_seq ?_
    refine awp_region ?_
    refine aops_v rfl rfl rfl (a_move rfl rfl ?_)
    refine aops_call_eq rfl rfl rfl rfl cf63 rfl (compile_spec (rexpP s).1 _ ht (by omega) h0 (by omega)) ?_
    refine aops_v rfl rfl rfl (a_build (res := [_]) rfl bk114 rfl rfl ?_)
    refine aops_v rfl rfl rfl (a_box_frz rfl rfl rfl ?_)
    refine aops_v rfl rfl rfl (a_assign rfl rfl ?_)
    refine aops_v rfl rfl rfl (a_assign rfl rfl ?_)
    refine aops_nil ?_
    refine thenE_n ?_
    refine awp_ret ?_
    change Gst _ _ _ _
    refine fin2 rfl ?_
    exact ⟨by unfold matA; rw [if_pos he, he]; rfl, rfl⟩

theorem whole_spec (l : List Nd) (is : List In) (s : List UInt8) (σ : AHeap) (hpg : PgOk is) (hil : is.length ≤ 100000) (h0 : 0 < is.length) (hl : s.length ≤ 9223372036854775807) : ASpec Tryz.prog 40 [.pin [prgA l is] 0, str s] σ fun r σ' => r = .ret (boo (wholeP is s)) ∧ σ' = σ := by
  refine aspec_enter (N := 33) (rs := [.tmp 4]) Tryz.func40 rfl rfl rfl rfl rfl rfl ?_
  refine awp_seq ?_
  refine awp_region ?_
  refine aops_v rfl rfl rfl (a_assign rfl rfl ?_)
  refine aops_nil ?_
  refine thenE_n ?_
  refine awp_seq ?_
  refine awp_seq ?_
  refine awp_region ?_
  refine aops_v rfl rfl rfl (a_move rfl rfl ?_)
  first | refine aops_v rfl rfl rfl (a_ref_nil rfl rfl ipt80 rfl rfl ?_) | refine aops_v rfl rfl rfl (a_pin_nil rfl rfl ipt80 rfl rfl ?_) | refine aops_v rfl rfl rfl (a_nil_nil rfl rfl ipt80 rfl rfl ?_)
  refine aops_nil ?_
  refine thenE_n ?_
  refine awp_cond rfl (fun h1 => ?_) (fun h1 => ?_)
  · try simp only [zz1, zz2, ne_eq, zz4, zz5, zz6, gt_iff_lt, ge_iff_le, zz9, zz0] at h1
    all_goals exact absurd h1 (by simp)
  · try simp only [zz1, zz2, ne_eq, zz4, zz5, zz6, gt_iff_lt, ge_iff_le, zz9, zz0] at h1
    refine awp_skip ?_
    refine thenE_n ?_
    refine awp_seq ?_
    refine awp_region ?_
    refine aops_v rfl rfl rfl (a_move rfl rfl ?_)
    first | refine aops_v rfl rfl rfl (a_nilCheck rfl rfl ?_) | refine aops_v rfl rfl rfl (a_nilCheck_pin rfl rfl ?_) | refine aops_v rfl rfl rfl (a_nilCheck_clo rfl rfl ?_)
    first | refine aops_v rfl rfl rfl (a_fieldAddr rfl fk114_0 rfl rfl ?_) | refine aops_v rfl rfl rfl (a_fieldAddr_pin rfl fk114_0 rfl rfl ?_)
    first | refine aops_v rfl rfl rfl (a_load_pin rfl tk111 rfl rfl ?_) | refine aops_v rfl rfl rfl (a_load rfl tk111 rfl HP rfl ?_)
    refine aops_call_eq rfl rfl rfl rfl cf69 rfl (start_spec l is _ hpg (by omega) h0) ?_
    refine aops_var rfl rfl rfl rfl rfl rfl rfl tk126 zk126 rfl rfl rfl rfl rfl ?_
    intro id5 hid5
    refine aops_nil ?_
    refine thenE_n ?_
    refine awp_seq ?_
    refine awp_seq ?_
    change AWp _ _ _ _ _ (upd σ id5 (.cells 0 126 (encStC (startP is))))
    refine awp_region ?_
    refine aops_v rfl rfl rfl (a_move rfl rfl ?_)
    refine aops_v rfl rfl rfl (a_range_str rfl ist9 rfl ?_)
    intro id16 hid16
    obtain ⟨hne, hidn⟩ := ne_of_upd hid16
    refine aops_nil ?_
    refine thenE_n ?_
    refine awp_block ?_
    refine awp_loop (S := Nat × Sta) (fun x => [(0, .pin [prgA l is] 0), (5, .ref id5 0 0), (16, .itr id16)]) (fun x => upd (upd σ id5 (.cells 0 126 (encStC x.2))) id16 (.siter ⟨s.toArray⟩ x.1)) (fun x => wholeL is x.2 (runesI (s.drop x.1)) = wholeL is (startP is) (runesI s) ∧ StaOk is x.2) (fun x => s.length - x.1) ⟨(0, startP is), ⟨by simp, start_ok hpg h0⟩, EL, rfl⟩ ?_
    rintro ⟨pos, st⟩ ⟨hJ, hst⟩
    dsimp only at hJ hst
    dsimp only
    refine awp_seq ?_
    refine awp_region ?_
    refine aops_next rfl rfl rfl rfl rfl HP (fun h2 => ?_) (fun h2 => ?_)
    · try simp only [zz1, zz2, ne_eq, zz4, zz5, zz6, gt_iff_lt, ge_iff_le, zz9, zz0] at h2
      have hp := h2
      have hdr := runesI_drop hp
      obtain ⟨c, hc⟩ : ∃ c : Int, ((decR (s.drop pos)).1 : Int) = c := ⟨_, rfl⟩
      obtain ⟨wd, hw⟩ : ∃ wd, (decR (s.drop pos)).2 = wd := ⟨_, rfl⟩
      have hw1 := decR_width (s.drop pos)
      rw [hc, hw] at hdr
      rw [hw] at hw1
      rw [hc, hw]
      try simp only [upd_upd]
      refine aops_v rfl rfl rfl (a_extract rfl rfl rfl ?_)
      refine aops_nil ?_
      refine thenE_n ?_
      refine awp_seq ?_
      refine awp_cond (b := true) rfl (fun _ => ?_) (fun h => Bool.noConfusion h)
      refine awp_skip ?_
      refine thenE_n ?_
      refine awp_block ?_
      refine awp_seq ?_
      refine awp_region ?_
      refine aops_v rfl rfl rfl (a_extract rfl rfl rfl ?_)
      refine aops_v rfl rfl rfl (a_assign rfl rfl ?_)
      refine aops_nil ?_
      refine thenE_n ?_
      refine awp_draw [0, 1, 3, 7, 0, 0, 63, 127] 7 rfl (by decide +kernel) (by decide +kernel) (by decide +kernel) rfl ?_
      simp only [List.take_succ_cons, List.take_zero, List.take_nil, List.drop_succ_cons, List.drop_zero, List.drop_nil]
      refine dp_val rfl (apure_val (a_move rfl rfl pure_done)) rfl ?_
      first | refine dp_val rfl (apure_val (a_nilCheck rfl rfl pure_done)) rfl ?_ | refine dp_val rfl (apure_val (a_nilCheck_pin rfl rfl pure_done)) rfl ?_ | refine dp_val rfl (apure_val (a_nilCheck_clo rfl rfl pure_done)) rfl ?_
      first | refine dp_val rfl (apure_val (a_fieldAddr rfl fk114_0 rfl rfl pure_done)) rfl ?_ | refine dp_val rfl (apure_val (a_fieldAddr_pin rfl fk114_0 rfl rfl pure_done)) rfl ?_
      first | refine dp_val rfl (apure_val (a_load_pin rfl tk111 rfl rfl pure_done)) rfl ?_ | refine dp_val rfl (apure_val (a_load rfl tk111 rfl HP rfl pure_done)) rfl ?_
      first | refine dp_val rfl (apure_val (a_load_pin rfl tk126 rfl rfl pure_done)) rfl ?_ | refine dp_val rfl (apure_val (a_load rfl tk126 rfl HP rfl pure_done)) rfl ?_
      refine dp_val rfl (apure_val (a_move rfl rfl pure_done)) rfl ?_
      refine dp_val rfl (apure_call rfl cf70 rfl (step_spec l is st c false _ hpg (by omega) h0 hst.pcs (by have := hst.len; omega))) rfl ?_
      change AOps _ _ _ _ _ _ _
      refine aops_s rfl rfl (a_store_n (cs2 := encStC (stepP is st c false)) rfl tk126 rfl rfl (by rw [upd_ne _ _ hne]; exact upd_same _ _ _) rfl rfl (by simp [encStC]) rfl ?_)
      rw [upd_in hne]
      refine aops_nil ?_
      refine blockE_n ?_
      refine thenE_n ?_
      exact .done ⟨(pos + wd, stepP is st c false), ⟨by dsimp only; rw [← hJ, hdr]; rfl, step_ok hpg h0 hst c false⟩, by dsimp only; omega, EL, rfl⟩
    · try simp only [zz1, zz2, ne_eq, zz4, zz5, zz6, gt_iff_lt, ge_iff_le, zz9, zz0] at h2
      have hp := h2
      rw [runesI_end (by omega)] at hJ
      refine aops_v rfl rfl rfl (a_extract rfl rfl rfl ?_)
      refine aops_nil ?_
      refine thenE_n ?_
      refine awp_seq ?_
      refine awp_cond (b := false) rfl (fun h => Bool.noConfusion h) (fun _ => ?_)
      refine awp_exit ?_
      refine thenE_x ?_
      refine thenE_x ?_
      refine blockE_x ?_
      refine thenE_n ?_
      refine awp_seq ?_
      refine awp_draw [0, 1, 3, 7, 0, 31, 63] 7 rfl (by decide +kernel) (by decide +kernel) (by decide +kernel) rfl ?_
      simp only [List.take_succ_cons, List.take_zero, List.take_nil, List.drop_succ_cons, List.drop_zero, List.drop_nil]
      refine dp_val rfl (apure_val (a_move rfl rfl pure_done)) rfl ?_
      first | refine dp_val rfl (apure_val (a_nilCheck rfl rfl pure_done)) rfl ?_ | refine dp_val rfl (apure_val (a_nilCheck_pin rfl rfl pure_done)) rfl ?_ | refine dp_val rfl (apure_val (a_nilCheck_clo rfl rfl pure_done)) rfl ?_
      first | refine dp_val rfl (apure_val (a_fieldAddr rfl fk114_0 rfl rfl pure_done)) rfl ?_ | refine dp_val rfl (apure_val (a_fieldAddr_pin rfl fk114_0 rfl rfl pure_done)) rfl ?_
      first | refine dp_val rfl (apure_val (a_load_pin rfl tk111 rfl rfl pure_done)) rfl ?_ | refine dp_val rfl (apure_val (a_load rfl tk111 rfl HP rfl pure_done)) rfl ?_
      first | refine dp_val rfl (apure_val (a_load_pin rfl tk126 rfl rfl pure_done)) rfl ?_ | refine dp_val rfl (apure_val (a_load rfl tk126 rfl HP rfl pure_done)) rfl ?_
      refine dp_val rfl (apure_call rfl cf71 rfl (matches_spec l is st true _ hpg (by omega) hst.pcs (by have := hst.len; omega))) rfl ?_
      refine dp_val rfl (apure_val (a_assign rfl rfl pure_done)) rfl ?_
      change AOps _ _ _ _ _ _ _
      refine aops_nil ?_
      refine thenE_n ?_
      refine awp_ret ?_
      change Gst _ _ _ _
      refine gst_sub σ (fun k o hk => ?_) ?_
      · rw [upd_ne _ _ (fun e => by rw [e, hidn] at hk; exact absurd hk (by simp)), upd_ne _ _ (fun e => by rw [e, hid5] at hk; exact absurd hk (by simp))]; exact hk
      refine fin1 rfl ?_
      exact ⟨by rw [wholeP, ← hJ]; rfl, rfl⟩

theorem part_spec (l : List Nd) (is : List In) (s : List UInt8) (σ : AHeap) (hpg : PgOk is) (hil : is.length ≤ 100000) (h0 : 0 < is.length) (hl : s.length ≤ 9223372036854775807) : ASpec Tryz.prog 42 [.pin [prgA l is] 0, str s] σ fun r σ' => r = .ret (boo (partP is s)) ∧ σ' = σ := by
  refine aspec_enter (N := 39) (rs := [.tmp 4]) Tryz.func42 rfl rfl rfl rfl rfl rfl ?_
  refine awp_seq ?_
  refine awp_region ?_
  refine aops_v rfl rfl rfl (a_assign rfl rfl ?_)
  refine aops_nil ?_
  refine thenE_n ?_
  refine awp_seq ?_
  refine awp_seq ?_
  refine awp_region ?_
  refine aops_v rfl rfl rfl (a_move rfl rfl ?_)
  first | refine aops_v rfl rfl rfl (a_ref_nil rfl rfl ipt80 rfl rfl ?_) | refine aops_v rfl rfl rfl (a_pin_nil rfl rfl ipt80 rfl rfl ?_) | refine aops_v rfl rfl rfl (a_nil_nil rfl rfl ipt80 rfl rfl ?_)
  refine aops_nil ?_
  refine thenE_n ?_
  refine awp_cond rfl (fun h1 => ?_) (fun h1 => ?_)
  · try simp only [zz1, zz2, ne_eq, zz4, zz5, zz6, gt_iff_lt, ge_iff_le, zz9, zz0] at h1
    all_goals exact absurd h1 (by simp)
  · try simp only [zz1, zz2, ne_eq, zz4, zz5, zz6, gt_iff_lt, ge_iff_le, zz9, zz0] at h1
    refine awp_skip ?_
    refine thenE_n ?_
    refine awp_seq ?_
    refine awp_region ?_
    refine aops_v rfl rfl rfl (a_move rfl rfl ?_)
    first | refine aops_v rfl rfl rfl (a_nilCheck rfl rfl ?_) | refine aops_v rfl rfl rfl (a_nilCheck_pin rfl rfl ?_) | refine aops_v rfl rfl rfl (a_nilCheck_clo rfl rfl ?_)
    first | refine aops_v rfl rfl rfl (a_fieldAddr rfl fk114_0 rfl rfl ?_) | refine aops_v rfl rfl rfl (a_fieldAddr_pin rfl fk114_0 rfl rfl ?_)
    first | refine aops_v rfl rfl rfl (a_load_pin rfl tk111 rfl rfl ?_) | refine aops_v rfl rfl rfl (a_load rfl tk111 rfl HP rfl ?_)
    refine aops_call_eq rfl rfl rfl rfl cf69 rfl (start_spec l is _ hpg (by omega) h0) ?_
    refine aops_var rfl rfl rfl rfl rfl rfl rfl tk126 zk126 rfl rfl rfl rfl rfl ?_
    intro id5 hid5
    refine aops_nil ?_
    refine thenE_n ?_
    refine awp_seq ?_
    refine awp_seq ?_
    change AWp _ _ _ _ _ (upd σ id5 (.cells 0 126 (encStC (startP is))))
    refine awp_region ?_
    refine aops_v rfl rfl rfl (a_move rfl rfl ?_)
    refine aops_v rfl rfl rfl (a_range_str rfl ist9 rfl ?_)
    intro id16 hid16
    obtain ⟨hne, hidn⟩ := ne_of_upd hid16
    refine aops_nil ?_
    refine thenE_n ?_
    refine awp_block ?_
    refine awp_loop (S := Nat × Sta) (fun x => [(0, .pin [prgA l is] 0), (5, .ref id5 0 0), (16, .itr id16)]) (fun x => upd (upd σ id5 (.cells 0 126 (encStC x.2))) id16 (.siter ⟨s.toArray⟩ x.1)) (fun x => partL is x.2 (runesI (s.drop x.1)) = partL is (startP is) (runesI s) ∧ StaOk is x.2) (fun x => s.length - x.1) ⟨(0, startP is), ⟨by simp, start_ok hpg h0⟩, EL, rfl⟩ ?_
    rintro ⟨pos, st⟩ ⟨hJ, hst⟩
    dsimp only at hJ hst
    dsimp only
    refine awp_seq ?_
    refine awp_region ?_
    refine aops_next rfl rfl rfl rfl rfl HP (fun h2 => ?_) (fun h2 => ?_)
    · try simp only [zz1, zz2, ne_eq, zz4, zz5, zz6, gt_iff_lt, ge_iff_le, zz9, zz0] at h2
      have hp := h2
      have hdr := runesI_drop hp
      obtain ⟨c, hc⟩ : ∃ c : Int, ((decR (s.drop pos)).1 : Int) = c := ⟨_, rfl⟩
      obtain ⟨wd, hw⟩ : ∃ wd, (decR (s.drop pos)).2 = wd := ⟨_, rfl⟩
      have hw1 := decR_width (s.drop pos)
      rw [hc, hw] at hdr
      rw [hw] at hw1
      rw [hc, hw]
      try simp only [upd_upd]
      refine aops_v rfl rfl rfl (a_extract rfl rfl rfl ?_)
      refine aops_nil ?_
      refine thenE_n ?_
      refine awp_seq ?_
      refine awp_cond (b := true) rfl (fun _ => ?_) (fun h => Bool.noConfusion h)
      refine awp_skip ?_
      refine thenE_n ?_
      refine awp_block ?_
      refine awp_seq ?_
      refine awp_region ?_
      refine aops_v rfl rfl rfl (a_extract rfl rfl rfl ?_)
      refine aops_v rfl rfl rfl (a_assign rfl rfl ?_)
      refine aops_nil ?_
      refine thenE_n ?_
      refine awp_seq ?_
      refine awp_seq ?_
      refine awp_draw [0, 1, 3, 7, 0, 31] 6 rfl (by decide +kernel) (by decide +kernel) (by decide +kernel) rfl ?_
      simp only [List.take_succ_cons, List.take_zero, List.take_nil, List.drop_succ_cons, List.drop_zero, List.drop_nil]
      refine dp_val rfl (apure_val (a_move rfl rfl pure_done)) rfl ?_
      first | refine dp_val rfl (apure_val (a_nilCheck rfl rfl pure_done)) rfl ?_ | refine dp_val rfl (apure_val (a_nilCheck_pin rfl rfl pure_done)) rfl ?_ | refine dp_val rfl (apure_val (a_nilCheck_clo rfl rfl pure_done)) rfl ?_
      first | refine dp_val rfl (apure_val (a_fieldAddr rfl fk114_0 rfl rfl pure_done)) rfl ?_ | refine dp_val rfl (apure_val (a_fieldAddr_pin rfl fk114_0 rfl rfl pure_done)) rfl ?_
      first | refine dp_val rfl (apure_val (a_load_pin rfl tk111 rfl rfl pure_done)) rfl ?_ | refine dp_val rfl (apure_val (a_load rfl tk111 rfl HP rfl pure_done)) rfl ?_
      first | refine dp_val rfl (apure_val (a_load_pin rfl tk126 rfl rfl pure_done)) rfl ?_ | refine dp_val rfl (apure_val (a_load rfl tk126 rfl HP rfl pure_done)) rfl ?_
      refine dp_val rfl (apure_call rfl cf71 rfl (matches_spec l is st false _ hpg (by omega) hst.pcs (by have := hst.len; omega))) rfl ?_
      change AOps _ _ _ _ _ _ _
      refine aops_nil ?_
      refine thenE_n ?_
      refine awp_cond rfl (fun h3 => ?_) (fun h3 => ?_)
      · try simp only [zz1, zz2, ne_eq, zz4, zz5, zz6, gt_iff_lt, ge_iff_le, zz9, zz0] at h3
        have hno := h3
        refine awp_seq ?_
        refine awp_region ?_
        refine aops_v rfl rfl rfl (a_assign rfl rfl ?_)
        refine aops_nil ?_
        refine thenE_n ?_
        refine awp_ret ?_
        change Gst _ _ _ _
        refine gst_sub σ (fun k o hk => ?_) ?_
        · rw [upd_ne _ _ (fun e => by rw [e, hidn] at hk; exact absurd hk (by simp)), upd_ne _ _ (fun e => by rw [e, hid5] at hk; exact absurd hk (by simp))]; exact hk
        refine fin1 rfl ?_
        exact ⟨by rw [partP, ← hJ, hdr]; simp only [partL, hno]; rfl, rfl⟩
      · try simp only [zz1, zz2, ne_eq, zz4, zz5, zz6, gt_iff_lt, ge_iff_le, zz9, zz0] at h3
        have hno := h3
        refine awp_skip ?_
        refine thenE_n ?_
        refine awp_draw [0, 1, 3, 7, 0, 0, 63, 127] 7 rfl (by decide +kernel) (by decide +kernel) (by decide +kernel) rfl ?_
        simp only [List.take_succ_cons, List.take_zero, List.take_nil, List.drop_succ_cons, List.drop_zero, List.drop_nil]
        refine dp_val rfl (apure_val (a_move rfl rfl pure_done)) rfl ?_
        first | refine dp_val rfl (apure_val (a_nilCheck rfl rfl pure_done)) rfl ?_ | refine dp_val rfl (apure_val (a_nilCheck_pin rfl rfl pure_done)) rfl ?_ | refine dp_val rfl (apure_val (a_nilCheck_clo rfl rfl pure_done)) rfl ?_
        first | refine dp_val rfl (apure_val (a_fieldAddr rfl fk114_0 rfl rfl pure_done)) rfl ?_ | refine dp_val rfl (apure_val (a_fieldAddr_pin rfl fk114_0 rfl rfl pure_done)) rfl ?_
        first | refine dp_val rfl (apure_val (a_load_pin rfl tk111 rfl rfl pure_done)) rfl ?_ | refine dp_val rfl (apure_val (a_load rfl tk111 rfl HP rfl pure_done)) rfl ?_
        first | refine dp_val rfl (apure_val (a_load_pin rfl tk126 rfl rfl pure_done)) rfl ?_ | refine dp_val rfl (apure_val (a_load rfl tk126 rfl HP rfl pure_done)) rfl ?_
        refine dp_val rfl (apure_val (a_move rfl rfl pure_done)) rfl ?_
        refine dp_val rfl (apure_call rfl cf70 rfl (step_spec l is st c true _ hpg (by omega) h0 hst.pcs (by have := hst.len; omega))) rfl ?_
        change AOps _ _ _ _ _ _ _
        refine aops_s rfl rfl (a_store_n (cs2 := encStC (stepP is st c true)) rfl tk126 rfl rfl (by rw [upd_ne _ _ hne]; exact upd_same _ _ _) rfl rfl (by simp [encStC]) rfl ?_)
        rw [upd_in hne]
        refine aops_nil ?_
        refine blockE_n ?_
        refine thenE_n ?_
        exact .done ⟨(pos + wd, stepP is st c true), ⟨by dsimp only; rw [← hJ, hdr]; simp only [partL, hno]; rfl, step_ok hpg h0 hst c true⟩, by dsimp only; omega, EL, rfl⟩
    · try simp only [zz1, zz2, ne_eq, zz4, zz5, zz6, gt_iff_lt, ge_iff_le, zz9, zz0] at h2
      have hp := h2
      rw [runesI_end (by omega)] at hJ
      refine aops_v rfl rfl rfl (a_extract rfl rfl rfl ?_)
      refine aops_nil ?_
      refine thenE_n ?_
      refine awp_seq ?_
      refine awp_cond (b := false) rfl (fun h => Bool.noConfusion h) (fun _ => ?_)
      refine awp_exit ?_
      refine thenE_x ?_
      refine thenE_x ?_
      refine blockE_x ?_
      refine thenE_n ?_
      refine awp_seq ?_
      refine awp_draw [0, 1, 3, 7, 0, 31, 63] 7 rfl (by decide +kernel) (by decide +kernel) (by decide +kernel) rfl ?_
      simp only [List.take_succ_cons, List.take_zero, List.take_nil, List.drop_succ_cons, List.drop_zero, List.drop_nil]
      refine dp_val rfl (apure_val (a_move rfl rfl pure_done)) rfl ?_
      first | refine dp_val rfl (apure_val (a_nilCheck rfl rfl pure_done)) rfl ?_ | refine dp_val rfl (apure_val (a_nilCheck_pin rfl rfl pure_done)) rfl ?_ | refine dp_val rfl (apure_val (a_nilCheck_clo rfl rfl pure_done)) rfl ?_
      first | refine dp_val rfl (apure_val (a_fieldAddr rfl fk114_0 rfl rfl pure_done)) rfl ?_ | refine dp_val rfl (apure_val (a_fieldAddr_pin rfl fk114_0 rfl rfl pure_done)) rfl ?_
      first | refine dp_val rfl (apure_val (a_load_pin rfl tk111 rfl rfl pure_done)) rfl ?_ | refine dp_val rfl (apure_val (a_load rfl tk111 rfl HP rfl pure_done)) rfl ?_
      first | refine dp_val rfl (apure_val (a_load_pin rfl tk126 rfl rfl pure_done)) rfl ?_ | refine dp_val rfl (apure_val (a_load rfl tk126 rfl HP rfl pure_done)) rfl ?_
      refine dp_val rfl (apure_call rfl cf71 rfl (matches_spec l is st true _ hpg (by omega) hst.pcs (by have := hst.len; omega))) rfl ?_
      refine dp_val rfl (apure_val (a_assign rfl rfl pure_done)) rfl ?_
      change AOps _ _ _ _ _ _ _
      refine aops_nil ?_
      refine thenE_n ?_
      refine awp_ret ?_
      change Gst _ _ _ _
      refine gst_sub σ (fun k o hk => ?_) ?_
      · rw [upd_ne _ _ (fun e => by rw [e, hidn] at hk; exact absurd hk (by simp)), upd_ne _ _ (fun e => by rw [e, hid5] at hk; exact absurd hk (by simp))]; exact hk
      refine fin1 rfl ?_
      exact ⟨by rw [partP, ← hJ]; rfl, rfl⟩

end Go.Proofs.YtnahdpjbddfhgaaGreatDoor
namespace Go.Proofs.YtnahdpjbddfhgaaGreatDoor
open Go Go.AL Go.RowKit
set_option maxRecDepth 100000
theorem slice_cells {G : Ghost} {σ : AHeap} {w : World} (hst : St G σ w) {x : Value} {l : List (List UInt8)} (h : VRel G x (.lst (l.map str) l.length false)) :
    (l = [] ∧ ∃ a c, x = .slice a 0 c) ∨ ∃ b o c, x = .slice (some ⟨b, o, none⟩) l.length c ∧ l.length ≤ c ∧ b < w.heap.size ∧ ∀ (j : Nat) (y : List UInt8), l[j]? = some y → w.cell? ⟨b, o + j, none⟩ = some (.string ⟨y.toArray⟩) := by
  rcases h.lst_inv with ⟨a, cap, h1, h2, h4, h5, h6⟩ | ⟨b, o, cap, cs, h1, h2, h3, h4, h5, h7⟩
  · have : l = [] := by simpa using h1
    subst this
    exact .inl ⟨rfl, a, cap, h4⟩
  · refine .inr ⟨b, o, cap, h7, h3, hst.fz_lt h1, fun j y hy => ?_⟩
    obtain ⟨e, fr, hb⟩ := hst.fz b cs h1
    have hj : j < l.length := (List.getElem?_eq_some_iff.1 hy).1
    have e1 := (h2.2 j (str y) (by rw [List.getElem?_map, hy]; rfl)).v_eq
    have hlt : o + j < cs.size := by have := h2.1; simp at this; omega
    rw [cell_of_heap hb hlt, e1]
theorem join_spec (l : List (List UInt8)) (sep : List UInt8) (hl : l.length ≤ 1000) (hlen : (Lib.join l sep).length ≤ 140737488355328) (σ : AHeap) :
    ASpec Tryz.prog 30 [.lst (l.map str) l.length false, str sep] σ fun r σ' => r = .ret (str (Lib.join l sep)) ∧ σ' = σ := by
  intro G w vs hst hv
  have hx := hv.2 0 _ rfl
  have hy := (hv.2 1 _ rfl).v_eq
  have hvs : vs = #[vs.getD 0 undef, vs.getD 1 undef] := by
    apply Array.ext
    · simpa using hv.1
    · intro i h1 h2
      have hi : i = 0 ∨ i = 1 := by simp at h2; omega
      rcases hi with rfl | rfl <;> simp [Array.getD, h1]
  have hmap : (l.map fun y => (⟨y.toArray⟩ : ByteArray)).map (·.data.toList) = l := by rw [List.map_map]; simp [Function.comp_def]
  rcases slice_cells hst hx with ⟨rfl, a, c, e⟩ | ⟨b, o, c, e, hc, hb, hcell⟩
  · rw [hvs, e, hy]
    refine (Any.strings_Join_none Tryz.join Tryz.joinX a c _ w).mono fun e w' ⟨he, hw⟩ => ⟨G, σ, _, .refl G, by rw [hw]; exact hst, ?_, rfl, rfl⟩
    subst he; exact .v _
  · match l, hl, hlen, hmap, hcell, hc, e with
    | [], _, _, _, _, _, e =>
      rw [hvs, e, hy]
      refine (Any.strings_Join_none Tryz.join Tryz.joinX _ c _ w).mono fun e w' ⟨he, hw⟩ => ⟨G, σ, _, .refl G, by rw [hw]; exact hst, ?_, rfl, rfl⟩
      subst he; exact .v _
    | [y], _, _, _, hcell, _, e =>
      rw [hvs, e, hy]
      refine (Any.strings_Join_one Tryz.join Tryz.joinX b o c ⟨y.toArray⟩ _ w (by simpa using hcell 0 y rfl)).mono fun e w' ⟨he, hw⟩ => ⟨G, σ, _, .refl G, by rw [hw]; exact hst, ?_, rfl, rfl⟩
      subst he
      have : Lib.join [y] sep = y := by simp [Lib.join]
      rw [this]; exact .v _
    | y :: z :: r, hl, hlen, hmap, hcell, hc, e =>
      rw [hvs, e, hy]
      have hh := Any.strings_Join_many Tryz.join Tryz.joinX b o c ((y :: z :: r).map fun y => (⟨y.toArray⟩ : ByteArray)) ⟨sep.toArray⟩ w (fun j x hj => by
        rw [List.getElem?_map] at hj
        simp only [Option.map_eq_some_iff] at hj
        obtain ⟨q, hq, rfl⟩ := hj
        exact hcell j q hq) hb (by simp) (by simp only [List.length_map]; omega) (by simp only [List.length_map]; omega) (by rw [hmap]; simpa using hlen)
      rw [hmap] at hh
      simp only [List.length_map] at hh
      refine hh.mono fun e w' ⟨he, hw⟩ => ⟨G, σ, _, .refl G, hst.grow hw, ?_, rfl, rfl⟩
      subst he; exact .v _
end Go.Proofs.YtnahdpjbddfhgaaGreatDoor
set_option linter.unusedVariables false
set_option linter.unusedSimpArgs false
namespace Go.Proofs.YtnahdpjbddfhgaaGreatDoor
open Go Go.AL
set_option maxRecDepth 100000
/-- one byte replaced everywhere -/
def repl (c : UInt8) (new s : List UInt8) : List UInt8 := s.flatMap fun x => if x = c then new else [x]
theorem index_ne {b c : UInt8} {l : List UInt8} (h : b ≠ c) : Lib.index (b :: l) [c] = if Lib.index l [c] == -1 then -1 else Lib.index l [c] + 1 := by
  have hp : ([c] : List UInt8).isPrefixOf (b :: l) = false := by simp [List.isPrefixOf, Ne.symm h]
  rw [Lib.index, hp]; simp
theorem index_eq {c : UInt8} {l : List UInt8} : Lib.index (c :: l) [c] = 0 := by rw [Lib.index]; simp [List.isPrefixOf]
theorem replaceK_ne {b c : UInt8} {new l : List UInt8} (h : b ≠ c) : ∀ k, Lib.replaceK [c] new k (b :: l) = b :: Lib.replaceK [c] new k l
  | 0 => rfl
  | k + 1 => by
    by_cases hm : Lib.index l [c] = -1
    · rw [Lib.replaceK, Lib.replaceK, index_ne h, hm]; rfl
    · have hge := Lib.index_ge l [c]
      have h1 : (Lib.index l [c] == -1) = false := by simpa using hm
      have h2 : (Lib.index l [c] + 1 == -1) = false := by simp; omega
      have e : (Lib.index l [c] + 1).toNat = (Lib.index l [c]).toNat + 1 := by omega
      rw [Lib.replaceK, Lib.replaceK, index_ne h, h1]
      simp only [Bool.false_eq_true, if_false, h2, e, List.take_succ_cons, List.length_cons, List.length_nil, List.cons_append]
      rw [show (Lib.index l [c]).toNat + 1 + (0 + 1) = ((Lib.index l [c]).toNat + (0 + 1)) + 1 by omega, List.drop_succ_cons]
theorem replaceK_all {c : UInt8} {new : List UInt8} : ∀ s : List UInt8, Lib.replaceK [c] new (s.count c) s = repl c new s
  | [] => rfl
  | b :: l => by
    have ih := replaceK_all (c := c) (new := new) l
    by_cases h : b = c
    · subst h
      rw [List.count_cons_self, Lib.replaceK, index_eq]
      simp only [repl, List.flatMap_cons, if_true] at ih ⊢
      rw [← ih]; rfl
    · rw [List.count_cons_of_ne h, replaceK_ne h, ih]
      simp only [repl, List.flatMap_cons, if_neg h]; rfl
theorem replaceAll_one {c : UInt8} {new s : List UInt8} (hn : new ≠ [c]) : Lib.replaceAll s [c] new = repl c new s := by
  unfold Lib.replaceAll Lib.replace Lib.replaceNum
  have h1 : ([c] == new) = false := by simpa using fun e => hn e.symm
  rw [h1]
  simp only [Bool.false_eq_true, if_false]
  rw [if_pos (.inl (by decide)), Lib.count_one, replaceK_all]
theorem repl_len {c : UInt8} {new s : List UInt8} (hn : new.length = 2) : (repl c new s).length ≤ 2 * s.length := by
  induction s with
  | nil => simp [repl]
  | cons b l ih =>
    simp only [repl, List.flatMap_cons, List.length_append, List.length_cons] at ih ⊢
    split
    · omega
    · simp only [List.length_cons, List.length_nil]; omega
def quotedP (s : List UInt8) : List UInt8 := [34] ++ repl 10 [92, 110] (repl 34 [92, 34] (repl 92 [92, 92] s)) ++ [34]
theorem quoted_len (s : List UInt8) : (quotedP s).length ≤ 8 * s.length + 2 := by
  have h1 := repl_len (c := 92) (new := [92, 92]) (s := s) rfl
  have h2 := repl_len (c := 34) (new := [92, 34]) (s := repl 92 [92, 92] s) rfl
  have h3 := repl_len (c := 10) (new := [92, 110]) (s := repl 34 [92, 34] (repl 92 [92, 92] s)) rfl
  unfold quotedP; simp; omega
theorem repl_spec (c : UInt8) (new s : List UInt8) (hn : new.length = 2) (hs : s.length ≤ 1000000000) (σ : AHeap) : ASpec Tryz.prog 59 [str s, str [c], str new] σ fun r σ' => r = .ret (str (repl c new s)) ∧ σ' = σ := by
  have h := replaceAll_spec s [c] new (by omega) (by simp) (by
    have := Lib.countB_le ⟨[c].toArray⟩ (by simp [ByteArray.size]) s.length ⟨s.toArray⟩ (by simp [ByteArray.size])
    rw [hn]
    have e : (⟨s.toArray⟩ : ByteArray).size = s.length := by simp [ByteArray.size]
    omega) σ
  rw [replaceAll_one (by intro e; rw [e] at hn; simp at hn)] at h
  exact h
/-- records -/
structure Lb where
  name : List UInt8
  val : List UInt8
structure Rc where
  time : Int
  seq : Int
  labels : List Lb
  line : List UInt8
def encL (l : Lb) : List AV := [str l.name, str l.val]
theorem encL_len (l : Lb) : (encL l).length = 2 := rfl
def encR (r : Rc) (ex : Bool) : List AV := [.v (.int .i64 r.time), .v (.int .u64 r.seq), .lst (r.labels.flatMap encL) r.labels.length ex, str r.line]
def findP : List Lb → List UInt8 → List UInt8 × Bool
  | [], _ => ([], false)
  | x :: r, nm => if x.name = nm then (x.val, true) else findP r nm
/-- a query's check -/
def likeB (op : Int) : Bool := decide (op = 3) || decide (op = 4)
def notB (op : Int) : Bool := decide (op = 2) || decide (op = 4)
def opB (op : Int) : Bool := decide (1 ≤ op) && decide (op ≤ 4)
def rexB (f : Fl) : Bool := !likeB f.op || decide ((rexpP f.txt).2 = 0)
def checkP (q : Qr) : Int :=
  if 16 < q.ms.length ∨ 16 < q.fs.length then 3
  else if (q.ms.all fun m => nameP m.name && opB m.op) = false then 50
  else if (q.fs.all fun f => opB f.op) = false then 50
  else if ((allP q).all fun f => Lib.validD f.txt) = false then 8
  else if ((allP q).all rexB) = false then 40
  else 0
theorem all_drop {α : Type} {p : α → Bool} {l : List α} {j : Nat} {x : α} (h : l[j]? = some x) : (l.drop j).all p = (p x && (l.drop (j + 1)).all p) := by
  rw [List.drop_eq_getElem_cons (List.getElem?_eq_some_iff.1 h).1, (List.getElem?_eq_some_iff.1 h).2]; rfl
/-- texts of modest length -/
structure QrOk (q : Qr) : Prop where
  ms : q.ms.length ≤ 1000000
  fs : q.fs.length ≤ 1000000
  mv : ∀ m ∈ q.ms, m.val.length ≤ 10000000
  fv : ∀ f ∈ q.fs, f.txt.length ≤ 10000000
theorem allP_ok {q : Qr} (h : QrOk q) : (allP q).length ≤ 2000000 ∧ ∀ f ∈ allP q, f.txt.length ≤ 10000000 := by
  have h1 := h.ms; have h2 := h.fs
  refine ⟨by simp [allP]; omega, fun f hf => ?_⟩
  unfold allP at hf
  rcases List.mem_append.1 hf with hf | hf
  · simp only [List.mem_map] at hf
    obtain ⟨m, hm, rfl⟩ := hf
    exact h.mv m hm
  · exact h.fv f hf

theorem quoted_spec (s : List UInt8) (σ : AHeap) (hl : s.length ≤ 100000000) : ASpec Tryz.prog 29 [str s] σ fun r σ' => r = .ret (str (quotedP s)) ∧ σ' = σ := by
  refine aspec_enter (N := 11) (rs := [.tmp 2]) Tryz.func29 rfl rfl rfl rfl rfl rfl ?_
  refine awp_seq ?_
  refine awp_region ?_
  refine aops_v rfl rfl rfl (a_assign rfl rfl ?_)
  refine aops_nil ?_
  refine thenE_n ?_
  refine awp_seq ?_
  refine awp_region ?_
  refine aops_v rfl rfl rfl (a_move rfl rfl ?_)
  refine aops_call_eq rfl rfl rfl rfl cf59 rfl (repl_spec 92 [92, 92] s rfl (by omega) _) ?_
  have hl1 := repl_len (c := 92) (new := [92, 92]) (s := s) rfl
  refine aops_v rfl rfl rfl (a_assign rfl rfl ?_)
  refine aops_nil ?_
  refine thenE_n ?_
  refine awp_seq ?_
  refine awp_region ?_
  refine aops_v rfl rfl rfl (a_move rfl rfl ?_)
  refine aops_call_eq rfl rfl rfl rfl cf59 rfl (repl_spec 34 [92, 34] _ rfl (by omega) _) ?_
  have hl2 := repl_len (c := 34) (new := [92, 34]) (s := repl 92 [92, 92] s) rfl
  refine aops_v rfl rfl rfl (a_assign rfl rfl ?_)
  refine aops_nil ?_
  refine thenE_n ?_
  refine awp_seq ?_
  refine awp_region ?_
  refine aops_v rfl rfl rfl (a_move rfl rfl ?_)
  refine aops_call_eq rfl rfl rfl rfl cf59 rfl (repl_spec 10 [92, 110] _ rfl (by omega) _) ?_
  have hl3 := repl_len (c := 10) (new := [92, 110]) (s := repl 34 [92, 34] (repl 92 [92, 92] s)) rfl
  refine aops_v rfl rfl rfl (a_concat rfl rfl rfl (by first | omega | (simp; omega)) ?_)
  refine aops_v rfl rfl rfl (a_concat rfl rfl rfl (by first | omega | (simp; omega)) ?_)
  refine aops_v rfl rfl rfl (a_assign rfl rfl ?_)
  refine aops_nil ?_
  refine thenE_n ?_
  refine awp_ret ?_
  change Gst _ _ _ _
  refine fin1 rfl ?_
  first | exact ⟨rfl, rfl⟩ | exact ⟨by simp [*], rfl⟩

theorem trim_spec (s : List UInt8) (σ : AHeap) (hl : s.length ≤ 1000000000) : ASpec Tryz.prog 54 [str s, str [32]] σ fun r σ' => r = .ret (str (trimL 32 (trimR 32 s))) ∧ σ' = σ := by
  refine aspec_enter (N := 43) (rs := [.tmp 4]) Tryz.func54 rfl rfl rfl rfl rfl rfl ?_
  refine awp_seq ?_
  refine awp_region ?_
  refine aops_v rfl rfl rfl (a_assign rfl rfl ?_)
  refine aops_nil ?_
  refine thenE_n ?_
  refine awp_seq ?_
  refine awp_seq ?_
  refine awp_region ?_
  refine aops_v rfl rfl rfl (a_move rfl rfl ?_)
  refine aops_v rfl rfl rfl (a_str rfl rfl rfl rfl ?_)
  refine aops_v rfl rfl rfl (a_move rfl rfl ?_)
  refine aops_bool (fun h1 => ?_) (fun h1 => ?_)
  · try simp only [zz1, zz2, ne_eq, zz4, zz5, zz6, gt_iff_lt, ge_iff_le, zz9, zz0] at h1
    refine aops_no rfl rfl rfl rfl rfl rfl ?_
    refine aops_no rfl rfl rfl rfl rfl rfl ?_
    refine aops_v rfl rfl rfl (a_pick rfl rfl rfl ?_)
    refine aops_nil ?_
    refine thenE_n ?_
    refine awp_cond (b := true) rfl (fun _ => ?_) (fun h => Bool.noConfusion h)
    refine awp_seq ?_
    refine awp_region ?_
    refine aops_v rfl rfl rfl (a_move rfl rfl ?_)
    refine aops_v rfl rfl rfl (a_assign rfl rfl ?_)
    refine aops_nil ?_
    refine thenE_n ?_
    refine awp_ret ?_
    change Gst _ _ _ _
    refine fin1 rfl ?_
    exact ⟨by first | rfl | simp_all [trimL, trimR], rfl⟩
  · try simp only [zz1, zz2, ne_eq, zz4, zz5, zz6, gt_iff_lt, ge_iff_le, zz9, zz0] at h1
    refine aops_yes rfl rfl rfl rfl ?_
    refine aops_v rfl rfl rfl (a_move rfl rfl ?_)
    refine aops_yes rfl rfl rfl rfl ?_
    refine aops_v rfl rfl rfl (a_str rfl rfl rfl rfl ?_)
    refine aops_v rfl rfl rfl (a_pick rfl rfl rfl ?_)
    refine aops_nil ?_
    refine thenE_n ?_
    refine awp_cond rfl (fun h2 => ?_) (fun h2 => ?_)
    · try simp only [zz1, zz2, ne_eq, zz4, zz5, zz6, gt_iff_lt, ge_iff_le, zz9, zz0] at h2
      simp at h2
    · try simp only [zz1, zz2, ne_eq, zz4, zz5, zz6, gt_iff_lt, ge_iff_le, zz9, zz0] at h2
      refine awp_skip ?_
      refine thenE_n ?_
      refine awp_seq ?_
      refine awp_seq ?_
      refine awp_region ?_
      refine aops_v rfl rfl rfl (a_move rfl rfl ?_)
      refine aops_v rfl rfl rfl (a_len_str rfl ist9 rfl ?_)
      refine aops_v rfl rfl rfl (a_int rfl rfl rfl rfl ?_)
      refine aops_v rfl rfl rfl (a_move rfl rfl ?_)
      refine aops_bool (fun h3 => ?_) (fun h3 => ?_)
      · try simp only [zz1, zz2, ne_eq, zz4, zz5, zz6, gt_iff_lt, ge_iff_le, zz9, zz0] at h3
        refine aops_yes rfl rfl rfl rfl ?_
        refine aops_v rfl rfl rfl (a_move rfl rfl ?_)
        refine aops_yes rfl rfl rfl rfl ?_
        refine aops_v rfl rfl rfl (a_index_str rfl ist9 rfl rfl NT (by omega) (by first | assumption | rfl) ?_)
        refine aops_yes rfl rfl rfl rfl ?_
        refine aops_v rfl rfl rfl (a_int rfl rfl rfl rfl ?_)
        refine aops_v rfl rfl rfl (a_pick rfl rfl rfl ?_)
        refine aops_nil ?_
        refine thenE_n ?_
        refine awp_cond rfl (fun h4 => ?_) (fun h4 => ?_)
        · try simp only [zz1, zz2, ne_eq, zz4, zz5, zz6, gt_iff_lt, ge_iff_le, zz9, zz0] at h4
          refine awp_seq ?_
          refine awp_draw [0, 0, 2, 7, 0, 16, 63, 127] 8 rfl (by decide +kernel) (by decide +kernel) (by decide +kernel) rfl ?_
          simp only [List.take_succ_cons, List.take_zero, List.take_nil, List.drop_succ_cons, List.drop_zero, List.drop_nil]
          refine dp_val rfl (apure_val (a_move rfl rfl pure_done)) rfl ?_
          refine dp_val rfl (apure_val (a_move rfl rfl pure_done)) rfl ?_
          refine dp_val rfl (apure_val (a_index_str rfl ist9 rfl rfl NT (by omega) (by first | assumption | rfl) pure_done)) rfl ?_
          refine dp_val rfl (apure_call rfl cf79 rfl (trimRB_spec _ 32 (by omega) _)) rfl ?_
          refine dp_val rfl (apure_val (a_move rfl rfl pure_done)) rfl ?_
          refine dp_val rfl (apure_val (a_index_str rfl ist9 rfl rfl NT (by omega) (by first | assumption | rfl) pure_done)) rfl ?_
          refine dp_val rfl (apure_call rfl cf78 rfl (trimLB_spec _ 32 _)) rfl ?_
          refine dp_val rfl (apure_val (a_assign rfl rfl pure_done)) rfl ?_
          change AOps _ _ _ _ _ _ _
          refine aops_nil ?_
          refine thenE_n ?_
          refine awp_ret ?_
          change Gst _ _ _ _
          refine fin1 rfl ?_
          first | exact ⟨rfl, rfl⟩ | exact ⟨by simp [*], rfl⟩
        · try simp only [zz1, zz2, ne_eq, zz4, zz5, zz6, gt_iff_lt, ge_iff_le, zz9, zz0] at h4
          simp at h4
      · try simp only [zz1, zz2, ne_eq, zz4, zz5, zz6, gt_iff_lt, ge_iff_le, zz9, zz0] at h3
        simp at h3

theorem has2_spec (s p : List UInt8) (σ : AHeap) (hl : s.length < 4294967281) : ASpec Tryz.prog 43 [str s, str p] σ fun r σ' => r = .ret (boo (Lib.contains s p)) ∧ σ' = σ := by
  refine aspec_enter (N := 8) (rs := [.tmp 4]) Tryz.func43 rfl rfl rfl rfl rfl rfl ?_
  refine awp_seq ?_
  refine awp_region ?_
  refine aops_v rfl rfl rfl (a_assign rfl rfl ?_)
  refine aops_nil ?_
  refine thenE_n ?_
  refine awp_seq ?_
  refine awp_region ?_
  refine aops_v rfl rfl rfl (a_move rfl rfl ?_)
  refine aops_v rfl rfl rfl (a_move rfl rfl ?_)
  refine aops_call_eq rfl rfl rfl rfl cf72 rfl (contains_spec _ _ hl _) ?_
  refine aops_v rfl rfl rfl (a_assign rfl rfl ?_)
  refine aops_nil ?_
  refine thenE_n ?_
  refine awp_ret ?_
  change Gst _ _ _ _
  refine fin1 rfl ?_
  first | exact ⟨rfl, rfl⟩ | exact ⟨by simp [*], rfl⟩

theorem find_spec (l : List Lb) (nm : List UInt8) (ex : Bool) (σ : AHeap) (hl : l.length ≤ 1000000) : ASpec Tryz.prog 39 [.lst (l.flatMap encL) l.length ex, str nm] σ fun r σ' => r = .ret (.tup [str (findP l nm).1, boo (findP l nm).2]) ∧ σ' = σ := by
  refine aspec_enter (N := 21) (rs := [.tmp 4, .tmp 5]) Tryz.func39 rfl rfl rfl rfl rfl rfl ?_
  refine awp_seq ?_
  refine awp_region ?_
  refine aops_v rfl rfl rfl (a_assign rfl rfl ?_)
  refine aops_v rfl rfl rfl (a_assign rfl rfl ?_)
  refine aops_nil ?_
  refine thenE_n ?_
  refine awp_seq ?_
  refine awp_seq ?_
  refine awp_region ?_
  refine aops_v rfl rfl rfl (a_move rfl rfl ?_)
  first | refine aops_v rfl rfl rfl (a_len_lst rfl isl42 rfl ?_) | refine aops_v rfl rfl rfl (a_len rfl isl42 rfl ?_) | refine aops_v rfl rfl rfl (a_len_slg rfl isl42 rfl ?_) | refine aops_v rfl rfl rfl (a_len_nil rfl isl42 rfl ?_)
  refine aops_v rfl rfl rfl (a_move rfl rfl ?_)
  refine aops_nil ?_
  refine thenE_n ?_
  refine awp_block ?_
  refine awp_loop (S := Nat) (fun j => [(1, str nm), (8, .lst (l.flatMap encL) l.length ex), (9, int l.length), (10, int j)]) (fun _ => σ) (fun j => j ≤ l.length ∧ findP (l.drop j) nm = findP l nm) (fun j => l.length - j) ⟨0, ⟨by simp, by simp⟩, EL, rfl⟩ ?_
  rintro j ⟨hj, hJ⟩
  refine awp_seq ?_
  refine awp_region ?_
  refine aops_v rfl rfl rfl (a_int rfl rfl rfl rfl ?_)
  refine aops_nil ?_
  refine thenE_n ?_
  refine awp_seq ?_
  refine awp_cond rfl (fun h1 => ?_) (fun h1 => ?_)
  · try simp only [zz1, zz2, ne_eq, zz4, zz5, zz6, gt_iff_lt, ge_iff_le, zz9, zz0] at h1
    obtain ⟨x, hx⟩ : ∃ k, l[j]? = some k := ⟨_, List.getElem?_eq_getElem (by omega)⟩
    have hd : l.drop j = x :: l.drop (j + 1) := by rw [List.drop_eq_getElem_cons (by omega), (List.getElem?_eq_some_iff.1 hx).2]
    refine awp_skip ?_
    refine thenE_n ?_
    refine awp_seq ?_
    refine awp_block ?_
    refine awp_seq ?_
    refine awp_region ?_
    first | refine aops_v rfl rfl rfl (a_indexAddr_lst rfl ek42 rfl rfl NT (by omega) (by omega) ?_) | refine aops_v rfl rfl rfl (a_indexAddr rfl ek42 rfl rfl NT (by omega) (by omega) ?_)
    refine aops_v rfl rfl rfl (a_load_pin rfl tk54 rfl (ldv_flat encL_len hx) ?_)
    refine aops_var_frz rfl rfl rfl rfl rfl rfl rfl tk54 zk54 rfl rfl rfl rfl rfl ?_
    refine aops_nil ?_
    refine thenE_n ?_
    refine awp_seq ?_
    refine awp_region ?_
    first | refine aops_v rfl rfl rfl (a_fieldAddr rfl fk54_0 rfl rfl ?_) | refine aops_v rfl rfl rfl (a_fieldAddr_pin rfl fk54_0 rfl rfl ?_)
    first | refine aops_v rfl rfl rfl (a_load_pin rfl tk9 rfl rfl ?_) | refine aops_v rfl rfl rfl (a_load rfl tk9 rfl HP rfl ?_)
    refine aops_v rfl rfl rfl (a_move rfl rfl ?_)
    refine aops_v rfl rfl rfl (a_str rfl rfl rfl rfl ?_)
    refine aops_nil ?_
    refine thenE_n ?_
    refine awp_cond rfl (fun h2 => ?_) (fun h2 => ?_)
    · try simp only [zz1, zz2, ne_eq, zz4, zz5, zz6, gt_iff_lt, ge_iff_le, zz9, zz0] at h2
      have heq := h2
      refine awp_seq ?_
      refine awp_region ?_
      first | refine aops_v rfl rfl rfl (a_fieldAddr rfl fk54_1 rfl rfl ?_) | refine aops_v rfl rfl rfl (a_fieldAddr_pin rfl fk54_1 rfl rfl ?_)
      first | refine aops_v rfl rfl rfl (a_load_pin rfl tk9 rfl rfl ?_) | refine aops_v rfl rfl rfl (a_load rfl tk9 rfl HP rfl ?_)
      refine aops_v rfl rfl rfl (a_assign rfl rfl ?_)
      refine aops_v rfl rfl rfl (a_assign rfl rfl ?_)
      refine aops_nil ?_
      refine thenE_n ?_
      refine awp_ret ?_
      change Gst _ _ _ _
      refine fin2 rfl ?_
      exact ⟨by rw [← hJ, hd, findP, if_pos (by simpa using heq)], rfl⟩
    · try simp only [zz1, zz2, ne_eq, zz4, zz5, zz6, gt_iff_lt, ge_iff_le, zz9, zz0] at h2
      have hne := h2
      refine awp_skip ?_
      refine blockE_n ?_
      refine thenE_n ?_
      refine awp_region ?_
      first | refine aops_v rfl rfl rfl (a_add rfl rfl rfl (by simp only [Go.AL.lo, Go.AL.hi]; omega) ?_) | refine aops_v rfl rfl rfl (a_int rfl rfl rfl rfl ?_)
      refine aops_v rfl rfl rfl (a_move rfl rfl ?_)
      refine aops_nil ?_
      refine thenE_n ?_
      exact .done ⟨j + 1, ⟨by omega, by rw [← hJ, hd, findP, if_neg hne]⟩, by omega, EL, rfl⟩
  · try simp only [zz1, zz2, ne_eq, zz4, zz5, zz6, gt_iff_lt, ge_iff_le, zz9, zz0] at h1
    refine awp_exit ?_
    refine thenE_x ?_
    refine thenE_x ?_
    refine blockE_x ?_
    refine thenE_n ?_
    refine awp_seq ?_
    refine awp_region ?_
    refine aops_v rfl rfl rfl (a_assign rfl rfl ?_)
    refine aops_v rfl rfl rfl (a_assign rfl rfl ?_)
    refine aops_nil ?_
    refine thenE_n ?_
    refine awp_ret ?_
    change Gst _ _ _ _
    refine fin2 rfl ?_
    obtain rfl : j = l.length := by omega
    exact ⟨by rw [← hJ]; simp [findP], rfl⟩

end Go.Proofs.YtnahdpjbddfhgaaGreatDoor
set_option linter.unusedVariables false
set_option linter.unusedSimpArgs false
namespace Go.Proofs.YtnahdpjbddfhgaaGreatDoor
open Go Go.AL
set_option maxRecDepth 100000
def mOk (m : Mt) : Bool := nameP m.name && opB m.op
theorem checkP_eq (q : Qr) : checkP q = if 16 < q.ms.length ∨ 16 < q.fs.length then 3 else if q.ms.all mOk = false then 50 else if (q.fs.all fun f => opB f.op) = false then 50
    else if ((allP q).all fun f => Lib.validD f.txt) = false then 8 else if ((allP q).all rexB) = false then 40 else 0 := rfl

theorem check_spec (q : Qr) (ex ex' : Bool) (σ : AHeap) (hq : QrOk q) : ASpec Tryz.prog 15 [.agg (encQ q ex ex')] σ fun r σ' => r = .ret (int (checkP q)) ∧ σ' = σ := by
  have hqa := allP_ok hq; have hqm := hq.ms; have hqf := hq.fs; have hqal := hqa.1
  unfold encQ
  refine aspec_enter (N := 93) (rs := [.tmp 2]) Tryz.func15 rfl rfl rfl rfl rfl rfl ?_
  refine awp_seq ?_
  refine awp_region ?_
  refine aops_v rfl rfl rfl (a_box_frz rfl rfl rfl ?_)
  refine aops_v rfl rfl rfl (a_assign rfl rfl ?_)
  refine aops_nil ?_
  refine thenE_n ?_
  refine awp_seq ?_
  refine awp_seq ?_
  refine awp_region ?_
  first | refine aops_v rfl rfl rfl (a_fieldAddr rfl fk26_0 rfl rfl ?_) | refine aops_v rfl rfl rfl (a_fieldAddr_pin rfl fk26_0 rfl rfl ?_)
  first | refine aops_v rfl rfl rfl (a_load_pin rfl tk23 rfl rfl ?_) | refine aops_v rfl rfl rfl (a_load rfl tk23 rfl HP rfl ?_)
  first | refine aops_v rfl rfl rfl (a_len_lst rfl isl23 rfl ?_) | refine aops_v rfl rfl rfl (a_len rfl isl23 rfl ?_) | refine aops_v rfl rfl rfl (a_len_slg rfl isl23 rfl ?_) | refine aops_v rfl rfl rfl (a_len_nil rfl isl23 rfl ?_)
  refine aops_v rfl rfl rfl (a_int rfl rfl rfl rfl ?_)
  refine aops_v rfl rfl rfl (a_move rfl rfl ?_)
  refine aops_bool (fun h1 => ?_) (fun h1 => ?_)
  · try simp only [zz1, zz2, ne_eq, zz4, zz5, zz6, gt_iff_lt, ge_iff_le, zz9, zz0] at h1
    have hb1 := h1
    refine aops_no rfl rfl rfl rfl rfl rfl ?_
    refine aops_no rfl rfl rfl rfl rfl rfl ?_
    refine aops_no rfl rfl rfl rfl rfl rfl ?_
    refine aops_no rfl rfl rfl rfl rfl rfl ?_
    refine aops_v rfl rfl rfl (a_pick rfl rfl rfl ?_)
    refine aops_nil ?_
    refine thenE_n ?_
    refine awp_cond (b := true) rfl (fun _ => ?_) (fun h => Bool.noConfusion h)
    refine awp_seq ?_
    refine awp_region ?_
    refine aops_v rfl rfl rfl (a_assign rfl rfl ?_)
    refine aops_nil ?_
    refine thenE_n ?_
    refine awp_ret ?_
    change Gst _ _ _ _
    refine fin1 rfl ?_
    exact ⟨by rw [checkP_eq, if_pos (by omega)], rfl⟩
  · try simp only [zz1, zz2, ne_eq, zz4, zz5, zz6, gt_iff_lt, ge_iff_le, zz9, zz0] at h1
    have hb1 := h1
    refine aops_yes rfl rfl rfl rfl ?_
    first | refine aops_v rfl rfl rfl (a_fieldAddr rfl fk26_1 rfl rfl ?_) | refine aops_v rfl rfl rfl (a_fieldAddr_pin rfl fk26_1 rfl rfl ?_)
    refine aops_yes rfl rfl rfl rfl ?_
    first | refine aops_v rfl rfl rfl (a_load_pin rfl tk24 rfl rfl ?_) | refine aops_v rfl rfl rfl (a_load rfl tk24 rfl HP rfl ?_)
    refine aops_yes rfl rfl rfl rfl ?_
    first | refine aops_v rfl rfl rfl (a_len_lst rfl isl24 rfl ?_) | refine aops_v rfl rfl rfl (a_len rfl isl24 rfl ?_) | refine aops_v rfl rfl rfl (a_len_slg rfl isl24 rfl ?_) | refine aops_v rfl rfl rfl (a_len_nil rfl isl24 rfl ?_)
    refine aops_yes rfl rfl rfl rfl ?_
    refine aops_v rfl rfl rfl (a_int rfl rfl rfl rfl ?_)
    refine aops_v rfl rfl rfl (a_pick rfl rfl rfl ?_)
    refine aops_nil ?_
    refine thenE_n ?_
    refine awp_cond rfl (fun h2 => ?_) (fun h2 => ?_)
    · try simp only [zz1, zz2, ne_eq, zz4, zz5, zz6, gt_iff_lt, ge_iff_le, zz9, zz0] at h2
      have hb2 := h2
      refine awp_seq ?_
      refine awp_region ?_
      refine aops_v rfl rfl rfl (a_assign rfl rfl ?_)
      refine aops_nil ?_
      refine thenE_n ?_
      refine awp_ret ?_
      change Gst _ _ _ _
      refine fin1 rfl ?_
      exact ⟨by rw [checkP_eq, if_pos (by omega)], rfl⟩
    · try simp only [zz1, zz2, ne_eq, zz4, zz5, zz6, gt_iff_lt, ge_iff_le, zz9, zz0] at h2
      have hb2 := h2
      have h16 : ¬ (16 < q.ms.length ∨ 16 < q.fs.length) := by omega
      refine awp_skip ?_
      refine thenE_n ?_
      refine awp_seq ?_
      refine awp_seq ?_
      refine awp_region ?_
      first | refine aops_v rfl rfl rfl (a_fieldAddr rfl fk26_0 rfl rfl ?_) | refine aops_v rfl rfl rfl (a_fieldAddr_pin rfl fk26_0 rfl rfl ?_)
      first | refine aops_v rfl rfl rfl (a_load_pin rfl tk23 rfl rfl ?_) | refine aops_v rfl rfl rfl (a_load rfl tk23 rfl HP rfl ?_)
      first | refine aops_v rfl rfl rfl (a_len_lst rfl isl23 rfl ?_) | refine aops_v rfl rfl rfl (a_len rfl isl23 rfl ?_) | refine aops_v rfl rfl rfl (a_len_slg rfl isl23 rfl ?_) | refine aops_v rfl rfl rfl (a_len_nil rfl isl23 rfl ?_)
      refine aops_v rfl rfl rfl (a_move rfl rfl ?_)
      refine aops_nil ?_
      refine thenE_n ?_
      refine awp_block ?_
      refine awp_loop (S := Nat) (fun j => [(1, .pin (encQ q ex ex') 0), (25, .lst (q.ms.flatMap encM) q.ms.length ex), (26, int q.ms.length), (27, int j)]) (fun _ => σ) (fun j => j ≤ q.ms.length ∧ (q.ms.drop j).all mOk = q.ms.all mOk) (fun j => q.ms.length - j) ⟨0, ⟨by simp, by simp⟩, EL, rfl⟩ ?_
      rintro j ⟨hj, hJ⟩
      refine awp_seq ?_
      refine awp_region ?_
      refine aops_v rfl rfl rfl (a_int rfl rfl rfl rfl ?_)
      refine aops_nil ?_
      refine thenE_n ?_
      refine awp_seq ?_
      refine awp_cond rfl (fun h3 => ?_) (fun h3 => ?_)
      · try simp only [zz1, zz2, ne_eq, zz4, zz5, zz6, gt_iff_lt, ge_iff_le, zz9, zz0] at h3
        obtain ⟨x, hx⟩ : ∃ k, q.ms[j]? = some k := ⟨_, List.getElem?_eq_getElem (by omega)⟩
        refine awp_skip ?_
        refine thenE_n ?_
        refine awp_seq ?_
        refine awp_block ?_
        refine awp_seq ?_
        refine awp_region ?_
        first | refine aops_v rfl rfl rfl (a_indexAddr_lst rfl ek23 rfl rfl NT (by omega) (by omega) ?_) | refine aops_v rfl rfl rfl (a_indexAddr rfl ek23 rfl rfl NT (by omega) (by omega) ?_)
        refine aops_v rfl rfl rfl (a_load_pin rfl tk48 rfl (ldv_flat encM_len hx) ?_)
        refine aops_var_frz rfl rfl rfl rfl rfl rfl rfl tk48 zk48 rfl rfl rfl rfl rfl ?_
        refine aops_nil ?_
        refine thenE_n ?_
        refine awp_seq ?_
        refine awp_region ?_
        first | refine aops_v rfl rfl rfl (a_fieldAddr rfl fk48_0 rfl rfl ?_) | refine aops_v rfl rfl rfl (a_fieldAddr_pin rfl fk48_0 rfl rfl ?_)
        first | refine aops_v rfl rfl rfl (a_load_pin rfl tk9 rfl rfl ?_) | refine aops_v rfl rfl rfl (a_load rfl tk9 rfl HP rfl ?_)
        refine aops_call_eq rfl rfl rfl rfl cf36 rfl (named_spec _ _) ?_
        refine aops_v rfl rfl rfl (a_not rfl rfl ?_)
        refine aops_v rfl rfl rfl (a_move rfl rfl ?_)
        refine aops_bool (fun h4 => ?_) (fun h4 => ?_)
        · try simp only [zz1, zz2, ne_eq, zz4, zz5, zz6, gt_iff_lt, ge_iff_le, zz9, zz0] at h4
          have hbad : mOk x = false := by simp [mOk, h4]
          have hM : q.ms.all mOk = false := by rw [← hJ, all_drop hx, hbad]; rfl
          refine aops_no rfl rfl rfl rfl rfl rfl ?_
          refine aops_no rfl rfl rfl rfl rfl rfl ?_
          refine aops_no rfl rfl rfl rfl rfl rfl ?_
          refine aops_v rfl rfl rfl (a_pick rfl rfl rfl ?_)
          refine aops_v rfl rfl rfl (a_move rfl rfl ?_)
          refine aops_no rfl rfl rfl rfl rfl rfl ?_
          refine aops_no rfl rfl rfl rfl rfl rfl ?_
          refine aops_no rfl rfl rfl rfl rfl rfl ?_
          refine aops_v rfl rfl rfl (a_pick rfl rfl rfl ?_)
          refine aops_nil ?_
          refine thenE_n ?_
          refine awp_cond (b := true) rfl (fun _ => ?_) (fun h => Bool.noConfusion h)
          refine awp_seq ?_
          refine awp_region ?_
          refine aops_v rfl rfl rfl (a_assign rfl rfl ?_)
          refine aops_nil ?_
          refine thenE_n ?_
          refine awp_ret ?_
          change Gst _ _ _ _
          refine fin1 rfl ?_
          exact ⟨by rw [checkP_eq, if_neg h16, if_pos hM], rfl⟩
        · try simp only [zz1, zz2, ne_eq, zz4, zz5, zz6, gt_iff_lt, ge_iff_le, zz9, zz0] at h4
          have hnm := h4
          refine aops_yes rfl rfl rfl rfl ?_
          first | refine aops_v rfl rfl rfl (a_fieldAddr rfl fk48_1 rfl rfl ?_) | refine aops_v rfl rfl rfl (a_fieldAddr_pin rfl fk48_1 rfl rfl ?_)
          refine aops_yes rfl rfl rfl rfl ?_
          first | refine aops_v rfl rfl rfl (a_load_pin rfl tk3 rfl rfl ?_) | refine aops_v rfl rfl rfl (a_load rfl tk3 rfl HP rfl ?_)
          refine aops_yes rfl rfl rfl rfl ?_
          refine aops_v rfl rfl rfl (a_int rfl rfl rfl rfl ?_)
          refine aops_v rfl rfl rfl (a_pick rfl rfl rfl ?_)
          refine aops_v rfl rfl rfl (a_move rfl rfl ?_)
          refine aops_bool (fun h5 => ?_) (fun h5 => ?_)
          · try simp only [zz1, zz2, ne_eq, zz4, zz5, zz6, gt_iff_lt, ge_iff_le, zz9, zz0] at h5
            have hbad : mOk x = false := by simp [mOk, opB]; omega
            have hM : q.ms.all mOk = false := by rw [← hJ, all_drop hx, hbad]; rfl
            refine aops_no rfl rfl rfl rfl rfl rfl ?_
            refine aops_no rfl rfl rfl rfl rfl rfl ?_
            refine aops_no rfl rfl rfl rfl rfl rfl ?_
            refine aops_v rfl rfl rfl (a_pick rfl rfl rfl ?_)
            refine aops_nil ?_
            refine thenE_n ?_
            refine awp_cond (b := true) rfl (fun _ => ?_) (fun h => Bool.noConfusion h)
            refine awp_seq ?_
            refine awp_region ?_
            refine aops_v rfl rfl rfl (a_assign rfl rfl ?_)
            refine aops_nil ?_
            refine thenE_n ?_
            refine awp_ret ?_
            change Gst _ _ _ _
            refine fin1 rfl ?_
            exact ⟨by rw [checkP_eq, if_neg h16, if_pos hM], rfl⟩
          · try simp only [zz1, zz2, ne_eq, zz4, zz5, zz6, gt_iff_lt, ge_iff_le, zz9, zz0] at h5
            have ho1 := h5
            refine aops_yes rfl rfl rfl rfl ?_
            first | refine aops_v rfl rfl rfl (a_fieldAddr rfl fk48_1 rfl rfl ?_) | refine aops_v rfl rfl rfl (a_fieldAddr_pin rfl fk48_1 rfl rfl ?_)
            refine aops_yes rfl rfl rfl rfl ?_
            first | refine aops_v rfl rfl rfl (a_load_pin rfl tk3 rfl rfl ?_) | refine aops_v rfl rfl rfl (a_load rfl tk3 rfl HP rfl ?_)
            refine aops_yes rfl rfl rfl rfl ?_
            refine aops_v rfl rfl rfl (a_int rfl rfl rfl rfl ?_)
            refine aops_v rfl rfl rfl (a_pick rfl rfl rfl ?_)
            refine aops_nil ?_
            refine thenE_n ?_
            refine awp_cond rfl (fun h6 => ?_) (fun h6 => ?_)
            · try simp only [zz1, zz2, ne_eq, zz4, zz5, zz6, gt_iff_lt, ge_iff_le, zz9, zz0] at h6
              have hbad : mOk x = false := by simp [mOk, opB]; omega
              have hM : q.ms.all mOk = false := by rw [← hJ, all_drop hx, hbad]; rfl
              refine awp_seq ?_
              refine awp_region ?_
              refine aops_v rfl rfl rfl (a_assign rfl rfl ?_)
              refine aops_nil ?_
              refine thenE_n ?_
              refine awp_ret ?_
              change Gst _ _ _ _
              refine fin1 rfl ?_
              exact ⟨by rw [checkP_eq, if_neg h16, if_pos hM], rfl⟩
            · try simp only [zz1, zz2, ne_eq, zz4, zz5, zz6, gt_iff_lt, ge_iff_le, zz9, zz0] at h6
              have hok : mOk x = true := by simp [mOk, opB, hnm]; omega
              refine awp_skip ?_
              refine blockE_n ?_
              refine thenE_n ?_
              refine awp_region ?_
              first | refine aops_v rfl rfl rfl (a_add rfl rfl rfl (by simp only [Go.AL.lo, Go.AL.hi]; omega) ?_) | refine aops_v rfl rfl rfl (a_int rfl rfl rfl rfl ?_)
              refine aops_v rfl rfl rfl (a_move rfl rfl ?_)
              refine aops_nil ?_
              refine thenE_n ?_
              exact .done ⟨j + 1, ⟨by omega, by rw [← hJ, all_drop hx, hok]; simp⟩, by omega, EL, rfl⟩
      · try simp only [zz1, zz2, ne_eq, zz4, zz5, zz6, gt_iff_lt, ge_iff_le, zz9, zz0] at h3
        obtain rfl : j = q.ms.length := by omega
        rw [List.drop_length] at hJ
        have hM := hJ.symm
        simp only [List.all_nil] at hM
        refine awp_exit ?_
        refine thenE_x ?_
        refine thenE_x ?_
        refine blockE_x ?_
        refine thenE_n ?_
        refine awp_seq ?_
        refine awp_seq ?_
        refine awp_region ?_
        first | refine aops_v rfl rfl rfl (a_fieldAddr rfl fk26_1 rfl rfl ?_) | refine aops_v rfl rfl rfl (a_fieldAddr_pin rfl fk26_1 rfl rfl ?_)
        first | refine aops_v rfl rfl rfl (a_load_pin rfl tk24 rfl rfl ?_) | refine aops_v rfl rfl rfl (a_load rfl tk24 rfl HP rfl ?_)
        first | refine aops_v rfl rfl rfl (a_len_lst rfl isl24 rfl ?_) | refine aops_v rfl rfl rfl (a_len rfl isl24 rfl ?_) | refine aops_v rfl rfl rfl (a_len_slg rfl isl24 rfl ?_) | refine aops_v rfl rfl rfl (a_len_nil rfl isl24 rfl ?_)
        refine aops_v rfl rfl rfl (a_move rfl rfl ?_)
        refine aops_nil ?_
        refine thenE_n ?_
        refine awp_block ?_
        refine awp_loop (S := Nat) (fun j => [(1, .pin (encQ q ex ex') 0), (47, .lst (q.fs.flatMap encF) q.fs.length ex'), (48, int q.fs.length), (49, int j)]) (fun _ => σ) (fun j => j ≤ q.fs.length ∧ (q.fs.drop j).all (fun f => opB f.op) = q.fs.all (fun f => opB f.op)) (fun j => q.fs.length - j) ⟨0, ⟨by simp, by simp⟩, EL, rfl⟩ ?_
        rintro j ⟨hj, hJ⟩
        refine awp_seq ?_
        refine awp_region ?_
        refine aops_v rfl rfl rfl (a_int rfl rfl rfl rfl ?_)
        refine aops_nil ?_
        refine thenE_n ?_
        refine awp_seq ?_
        refine awp_cond rfl (fun h7 => ?_) (fun h7 => ?_)
        · try simp only [zz1, zz2, ne_eq, zz4, zz5, zz6, gt_iff_lt, ge_iff_le, zz9, zz0] at h7
          obtain ⟨x, hx⟩ : ∃ k, q.fs[j]? = some k := ⟨_, List.getElem?_eq_getElem (by omega)⟩
          refine awp_skip ?_
          refine thenE_n ?_
          refine awp_seq ?_
          refine awp_block ?_
          refine awp_seq ?_
          refine awp_region ?_
          first | refine aops_v rfl rfl rfl (a_indexAddr_lst rfl ek24 rfl rfl NT (by omega) (by omega) ?_) | refine aops_v rfl rfl rfl (a_indexAddr rfl ek24 rfl rfl NT (by omega) (by omega) ?_)
          refine aops_v rfl rfl rfl (a_load_pin rfl tk50 rfl (ldv_flat encF_len hx) ?_)
          refine aops_var_frz rfl rfl rfl rfl rfl rfl rfl tk50 zk50 rfl rfl rfl rfl rfl ?_
          refine aops_nil ?_
          refine thenE_n ?_
          refine awp_seq ?_
          refine awp_region ?_
          first | refine aops_v rfl rfl rfl (a_fieldAddr rfl fk50_0 rfl rfl ?_) | refine aops_v rfl rfl rfl (a_fieldAddr_pin rfl fk50_0 rfl rfl ?_)
          first | refine aops_v rfl rfl rfl (a_load_pin rfl tk3 rfl rfl ?_) | refine aops_v rfl rfl rfl (a_load rfl tk3 rfl HP rfl ?_)
          refine aops_v rfl rfl rfl (a_int rfl rfl rfl rfl ?_)
          refine aops_v rfl rfl rfl (a_move rfl rfl ?_)
          refine aops_bool (fun h8 => ?_) (fun h8 => ?_)
          · try simp only [zz1, zz2, ne_eq, zz4, zz5, zz6, gt_iff_lt, ge_iff_le, zz9, zz0] at h8
            have hbad : opB x.op = false := by simp [opB]; omega
            have hF : (q.fs.all fun f => opB f.op) = false := by rw [← hJ, all_drop hx, hbad]; rfl
            refine aops_no rfl rfl rfl rfl rfl rfl ?_
            refine aops_no rfl rfl rfl rfl rfl rfl ?_
            refine aops_no rfl rfl rfl rfl rfl rfl ?_
            refine aops_v rfl rfl rfl (a_pick rfl rfl rfl ?_)
            refine aops_nil ?_
            refine thenE_n ?_
            refine awp_cond (b := true) rfl (fun _ => ?_) (fun h => Bool.noConfusion h)
            refine awp_seq ?_
            refine awp_region ?_
            refine aops_v rfl rfl rfl (a_assign rfl rfl ?_)
            refine aops_nil ?_
            refine thenE_n ?_
            refine awp_ret ?_
            change Gst _ _ _ _
            refine fin1 rfl ?_
            exact ⟨by rw [checkP_eq, if_neg h16, if_neg (by rw [hM]; simp), if_pos hF], rfl⟩
          · try simp only [zz1, zz2, ne_eq, zz4, zz5, zz6, gt_iff_lt, ge_iff_le, zz9, zz0] at h8
            have ho1 := h8
            refine aops_yes rfl rfl rfl rfl ?_
            first | refine aops_v rfl rfl rfl (a_fieldAddr rfl fk50_0 rfl rfl ?_) | refine aops_v rfl rfl rfl (a_fieldAddr_pin rfl fk50_0 rfl rfl ?_)
            refine aops_yes rfl rfl rfl rfl ?_
            first | refine aops_v rfl rfl rfl (a_load_pin rfl tk3 rfl rfl ?_) | refine aops_v rfl rfl rfl (a_load rfl tk3 rfl HP rfl ?_)
            refine aops_yes rfl rfl rfl rfl ?_
            refine aops_v rfl rfl rfl (a_int rfl rfl rfl rfl ?_)
            refine aops_v rfl rfl rfl (a_pick rfl rfl rfl ?_)
            refine aops_nil ?_
            refine thenE_n ?_
            refine awp_cond rfl (fun h9 => ?_) (fun h9 => ?_)
            · try simp only [zz1, zz2, ne_eq, zz4, zz5, zz6, gt_iff_lt, ge_iff_le, zz9, zz0] at h9
              have hbad : opB x.op = false := by simp [opB]; omega
              have hF : (q.fs.all fun f => opB f.op) = false := by rw [← hJ, all_drop hx, hbad]; rfl
              refine awp_seq ?_
              refine awp_region ?_
              refine aops_v rfl rfl rfl (a_assign rfl rfl ?_)
              refine aops_nil ?_
              refine thenE_n ?_
              refine awp_ret ?_
              change Gst _ _ _ _
              refine fin1 rfl ?_
              exact ⟨by rw [checkP_eq, if_neg h16, if_neg (by rw [hM]; simp), if_pos hF], rfl⟩
            · try simp only [zz1, zz2, ne_eq, zz4, zz5, zz6, gt_iff_lt, ge_iff_le, zz9, zz0] at h9
              have hok : opB x.op = true := by simp [opB]; omega
              refine awp_skip ?_
              refine blockE_n ?_
              refine thenE_n ?_
              refine awp_region ?_
              first | refine aops_v rfl rfl rfl (a_add rfl rfl rfl (by simp only [Go.AL.lo, Go.AL.hi]; omega) ?_) | refine aops_v rfl rfl rfl (a_int rfl rfl rfl rfl ?_)
              refine aops_v rfl rfl rfl (a_move rfl rfl ?_)
              refine aops_nil ?_
              refine thenE_n ?_
              exact .done ⟨j + 1, ⟨by omega, by rw [← hJ, all_drop hx, hok]; simp⟩, by omega, EL, rfl⟩
        · try simp only [zz1, zz2, ne_eq, zz4, zz5, zz6, gt_iff_lt, ge_iff_le, zz9, zz0] at h7
          obtain rfl : j = q.fs.length := by omega
          rw [List.drop_length] at hJ
          have hF := hJ.symm
          simp only [List.all_nil] at hF
          refine awp_exit ?_
          refine thenE_x ?_
          refine thenE_x ?_
          refine blockE_x ?_
          refine thenE_n ?_
          refine awp_seq ?_
          refine awp_region ?_
          first | refine aops_v rfl rfl rfl (a_load_pin rfl tk26 rfl rfl ?_) | refine aops_v rfl rfl rfl (a_load rfl tk26 rfl HP rfl ?_)
          refine aops_call_eq rfl rfl rfl rfl cf33 rfl (all_spec q ex ex' _ (by omega) (by omega)) ?_
          refine aops_v rfl rfl rfl (a_assign rfl rfl ?_)
          refine aops_nil ?_
          refine thenE_n ?_
          refine awp_seq ?_
          refine awp_seq ?_
          refine awp_region ?_
          refine aops_v rfl rfl rfl (a_move rfl rfl ?_)
          first | refine aops_v rfl rfl rfl (a_len_lst rfl isl24 rfl ?_) | refine aops_v rfl rfl rfl (a_len rfl isl24 rfl ?_) | refine aops_v rfl rfl rfl (a_len_slg rfl isl24 rfl ?_) | refine aops_v rfl rfl rfl (a_len_nil rfl isl24 rfl ?_)
          refine aops_v rfl rfl rfl (a_move rfl rfl ?_)
          refine aops_nil ?_
          refine thenE_n ?_
          refine awp_block ?_
          refine awp_loop (S := Nat) (fun j => [(1, .pin (encQ q ex ex') 0), (64, .lst ((allP q).flatMap encF) (allP q).length false), (65, int (allP q).length), (66, int j), (7, .lst ((allP q).flatMap encF) (allP q).length false)]) (fun _ => σ) (fun j => j ≤ (allP q).length ∧ ((allP q).drop j).all (fun f => Lib.validD f.txt) = (allP q).all (fun f => Lib.validD f.txt)) (fun j => (allP q).length - j) ⟨0, ⟨by simp, by simp⟩, EL, rfl⟩ ?_
          rintro j ⟨hj, hJ⟩
          refine awp_seq ?_
          refine awp_region ?_
          refine aops_v rfl rfl rfl (a_int rfl rfl rfl rfl ?_)
          refine aops_nil ?_
          refine thenE_n ?_
          refine awp_seq ?_
          refine awp_cond rfl (fun h10 => ?_) (fun h10 => ?_)
          · try simp only [zz1, zz2, ne_eq, zz4, zz5, zz6, gt_iff_lt, ge_iff_le, zz9, zz0] at h10
            obtain ⟨x, hx⟩ : ∃ k, (allP q)[j]? = some k := ⟨_, List.getElem?_eq_getElem (by omega)⟩
            refine awp_skip ?_
            refine thenE_n ?_
            refine awp_seq ?_
            refine awp_block ?_
            refine awp_seq ?_
            refine awp_region ?_
            first | refine aops_v rfl rfl rfl (a_indexAddr_lst rfl ek24 rfl rfl NT (by omega) (by omega) ?_) | refine aops_v rfl rfl rfl (a_indexAddr rfl ek24 rfl rfl NT (by omega) (by omega) ?_)
            refine aops_v rfl rfl rfl (a_load_pin rfl tk50 rfl (ldv_flat encF_len hx) ?_)
            refine aops_var_frz rfl rfl rfl rfl rfl rfl rfl tk50 zk50 rfl rfl rfl rfl rfl ?_
            refine aops_nil ?_
            refine thenE_n ?_
            refine awp_seq ?_
            refine awp_region ?_
            first | refine aops_v rfl rfl rfl (a_fieldAddr rfl fk50_1 rfl rfl ?_) | refine aops_v rfl rfl rfl (a_fieldAddr_pin rfl fk50_1 rfl rfl ?_)
            first | refine aops_v rfl rfl rfl (a_load_pin rfl tk9 rfl rfl ?_) | refine aops_v rfl rfl rfl (a_load rfl tk9 rfl HP rfl ?_)
            refine aops_call_eq rfl rfl rfl rfl cf19 rfl (valid_spec _ _ (by have := hqa.2 x (List.mem_of_getElem? hx); omega)) ?_
            refine aops_v rfl rfl rfl (a_not rfl rfl ?_)
            refine aops_nil ?_
            refine thenE_n ?_
            refine awp_cond rfl (fun h11 => ?_) (fun h11 => ?_)
            · try simp only [zz1, zz2, ne_eq, zz4, zz5, zz6, gt_iff_lt, ge_iff_le, zz9, zz0] at h11
              have hbad := h11
              have hU : ((allP q).all fun f => Lib.validD f.txt) = false := by rw [← hJ, all_drop hx, hbad]; rfl
              refine awp_seq ?_
              refine awp_region ?_
              refine aops_v rfl rfl rfl (a_assign rfl rfl ?_)
              refine aops_nil ?_
              refine thenE_n ?_
              refine awp_ret ?_
              change Gst _ _ _ _
              refine fin1 rfl ?_
              exact ⟨by rw [checkP_eq, if_neg h16, if_neg (by rw [hM]; simp), if_neg (by rw [hF]; simp), if_pos hU], rfl⟩
            · try simp only [zz1, zz2, ne_eq, zz4, zz5, zz6, gt_iff_lt, ge_iff_le, zz9, zz0] at h11
              have hok := h11
              refine awp_skip ?_
              refine blockE_n ?_
              refine thenE_n ?_
              refine awp_region ?_
              first | refine aops_v rfl rfl rfl (a_add rfl rfl rfl (by simp only [Go.AL.lo, Go.AL.hi]; omega) ?_) | refine aops_v rfl rfl rfl (a_int rfl rfl rfl rfl ?_)
              refine aops_v rfl rfl rfl (a_move rfl rfl ?_)
              refine aops_nil ?_
              refine thenE_n ?_
              exact .done ⟨j + 1, ⟨by omega, by rw [← hJ, all_drop hx, hok]; simp⟩, by omega, EL, rfl⟩
          · try simp only [zz1, zz2, ne_eq, zz4, zz5, zz6, gt_iff_lt, ge_iff_le, zz9, zz0] at h10
            obtain rfl : j = (allP q).length := by omega
            rw [List.drop_length] at hJ
            have hU := hJ.symm
            simp only [List.all_nil] at hU
            refine awp_exit ?_
            refine thenE_x ?_
            refine thenE_x ?_
            refine blockE_x ?_
            refine thenE_n ?_
            refine awp_seq ?_
            refine awp_seq ?_
            refine awp_region ?_
            refine aops_v rfl rfl rfl (a_move rfl rfl ?_)
            first | refine aops_v rfl rfl rfl (a_len_lst rfl isl24 rfl ?_) | refine aops_v rfl rfl rfl (a_len rfl isl24 rfl ?_) | refine aops_v rfl rfl rfl (a_len_slg rfl isl24 rfl ?_) | refine aops_v rfl rfl rfl (a_len_nil rfl isl24 rfl ?_)
            refine aops_v rfl rfl rfl (a_move rfl rfl ?_)
            refine aops_nil ?_
            refine thenE_n ?_
            refine awp_block ?_
            refine awp_loop (S := Nat) (fun j => [(1, .pin (encQ q ex ex') 0), (75, .lst ((allP q).flatMap encF) (allP q).length false), (76, int (allP q).length), (77, int j)]) (fun _ => σ) (fun j => j ≤ (allP q).length ∧ ((allP q).drop j).all rexB = (allP q).all rexB) (fun j => (allP q).length - j) ⟨0, ⟨by simp, by simp⟩, EL, rfl⟩ ?_
            rintro j ⟨hj, hJ⟩
            refine awp_seq ?_
            refine awp_region ?_
            refine aops_v rfl rfl rfl (a_int rfl rfl rfl rfl ?_)
            refine aops_nil ?_
            refine thenE_n ?_
            refine awp_seq ?_
            refine awp_cond rfl (fun h12 => ?_) (fun h12 => ?_)
            · try simp only [zz1, zz2, ne_eq, zz4, zz5, zz6, gt_iff_lt, ge_iff_le, zz9, zz0] at h12
              obtain ⟨x, hx⟩ : ∃ k, (allP q)[j]? = some k := ⟨_, List.getElem?_eq_getElem (by omega)⟩
              refine awp_skip ?_
              refine thenE_n ?_
              refine awp_seq ?_
              refine awp_block ?_
              refine awp_seq ?_
              refine awp_region ?_
              first | refine aops_v rfl rfl rfl (a_indexAddr_lst rfl ek24 rfl rfl NT (by omega) (by omega) ?_) | refine aops_v rfl rfl rfl (a_indexAddr rfl ek24 rfl rfl NT (by omega) (by omega) ?_)
              refine aops_v rfl rfl rfl (a_load_pin rfl tk50 rfl (ldv_flat encF_len hx) ?_)
              refine aops_var_frz rfl rfl rfl rfl rfl rfl rfl tk50 zk50 rfl rfl rfl rfl rfl ?_
              refine aops_nil ?_
              refine thenE_n ?_
              refine awp_seq ?_
              refine awp_region ?_
              first | refine aops_v rfl rfl rfl (a_fieldAddr rfl fk50_0 rfl rfl ?_) | refine aops_v rfl rfl rfl (a_fieldAddr_pin rfl fk50_0 rfl rfl ?_)
              first | refine aops_v rfl rfl rfl (a_load_pin rfl tk3 rfl rfl ?_) | refine aops_v rfl rfl rfl (a_load rfl tk3 rfl HP rfl ?_)
              refine aops_call_eq rfl rfl rfl rfl cf34 rfl (like_spec _ _) ?_
              refine aops_nil ?_
              refine thenE_n ?_
              refine awp_cond rfl (fun h13 => ?_) (fun h13 => ?_)
              · try simp only [zz1, zz2, ne_eq, zz4, zz5, zz6, gt_iff_lt, ge_iff_le, zz9, zz0] at h13
                have hlk : likeB x.op = true := h13
                refine awp_seq ?_
                refine awp_region ?_
                first | refine aops_v rfl rfl rfl (a_fieldAddr rfl fk50_1 rfl rfl ?_) | refine aops_v rfl rfl rfl (a_fieldAddr_pin rfl fk50_1 rfl rfl ?_)
                first | refine aops_v rfl rfl rfl (a_load_pin rfl tk9 rfl rfl ?_) | refine aops_v rfl rfl rfl (a_load rfl tk9 rfl HP rfl ?_)
                refine aops_call_eq rfl rfl rfl rfl cf37 rfl (rexpParse_spec _ _ (by have := hqa.2 x (List.mem_of_getElem? hx); omega)) ?_
                refine aops_v rfl rfl rfl (a_move rfl rfl ?_)
                refine aops_v rfl rfl rfl (a_extract rfl rfl rfl ?_)
                refine aops_v rfl rfl rfl (a_extract rfl rfl rfl ?_)
                refine aops_v rfl rfl rfl (a_assign rfl rfl ?_)
                refine aops_v rfl rfl rfl (a_assign rfl rfl ?_)
                refine aops_nil ?_
                refine thenE_n ?_
                refine awp_seq ?_
                refine awp_region ?_
                refine aops_v rfl rfl rfl (a_move rfl rfl ?_)
                refine aops_v rfl rfl rfl (a_int rfl rfl rfl rfl ?_)
                refine aops_nil ?_
                refine thenE_n ?_
                refine awp_cond rfl (fun h14 => ?_) (fun h14 => ?_)
                · try simp only [zz1, zz2, ne_eq, zz4, zz5, zz6, gt_iff_lt, ge_iff_le, zz9, zz0] at h14
                  have hbad : rexB x = false := by simp [rexB, hlk, h14]
                  have hR : ((allP q).all rexB) = false := by rw [← hJ, all_drop hx, hbad]; rfl
                  refine awp_seq ?_
                  refine awp_region ?_
                  refine aops_v rfl rfl rfl (a_assign rfl rfl ?_)
                  refine aops_nil ?_
                  refine thenE_n ?_
                  refine awp_ret ?_
                  change Gst _ _ _ _
                  refine fin1 rfl ?_
                  exact ⟨by rw [checkP_eq, if_neg h16, if_neg (by rw [hM]; simp), if_neg (by rw [hF]; simp), if_neg (by rw [hU]; simp), if_pos hR], rfl⟩
                · try simp only [zz1, zz2, ne_eq, zz4, zz5, zz6, gt_iff_lt, ge_iff_le, zz9, zz0] at h14
                  have hok : rexB x = true := by simp [rexB, h14]
                  refine awp_skip ?_
                  refine blockE_n ?_
                  refine thenE_n ?_
                  refine awp_region ?_
                  first | refine aops_v rfl rfl rfl (a_add rfl rfl rfl (by simp only [Go.AL.lo, Go.AL.hi]; omega) ?_) | refine aops_v rfl rfl rfl (a_int rfl rfl rfl rfl ?_)
                  refine aops_v rfl rfl rfl (a_move rfl rfl ?_)
                  refine aops_nil ?_
                  refine thenE_n ?_
                  exact .done ⟨j + 1, ⟨by omega, by rw [← hJ, all_drop hx, hok]; simp⟩, by omega, EL, rfl⟩
              · try simp only [zz1, zz2, ne_eq, zz4, zz5, zz6, gt_iff_lt, ge_iff_le, zz9, zz0] at h13
                have hlk : likeB x.op = false := h13
                have hok : rexB x = true := by simp [rexB, hlk]
                refine awp_skip ?_
                refine blockE_n ?_
                refine thenE_n ?_
                refine awp_region ?_
                first | refine aops_v rfl rfl rfl (a_add rfl rfl rfl (by simp only [Go.AL.lo, Go.AL.hi]; omega) ?_) | refine aops_v rfl rfl rfl (a_int rfl rfl rfl rfl ?_)
                refine aops_v rfl rfl rfl (a_move rfl rfl ?_)
                refine aops_nil ?_
                refine thenE_n ?_
                exact .done ⟨j + 1, ⟨by omega, by rw [← hJ, all_drop hx, hok]; simp⟩, by omega, EL, rfl⟩
            · try simp only [zz1, zz2, ne_eq, zz4, zz5, zz6, gt_iff_lt, ge_iff_le, zz9, zz0] at h12
              obtain rfl : j = (allP q).length := by omega
              rw [List.drop_length] at hJ
              have hR := hJ.symm
              simp only [List.all_nil] at hR
              refine awp_exit ?_
              refine thenE_x ?_
              refine thenE_x ?_
              refine blockE_x ?_
              refine thenE_n ?_
              refine awp_seq ?_
              refine awp_region ?_
              refine aops_v rfl rfl rfl (a_assign rfl rfl ?_)
              refine aops_nil ?_
              refine thenE_n ?_
              refine awp_ret ?_
              change Gst _ _ _ _
              refine fin1 rfl ?_
              exact ⟨by rw [checkP_eq, if_neg h16, if_neg (by rw [hM]; simp), if_neg (by rw [hF]; simp), if_neg (by rw [hU]; simp), if_neg (by rw [hR]; simp)], rfl⟩

end Go.Proofs.YtnahdpjbddfhgaaGreatDoor
