/- A part of the proof: the program logic AL, the walks of the functions that the law calls, what they compute. No condition of its own. -/
import Derived.Test.YtnahdpjbddfhgaaGreatDoorL05
import Derived.Lib.QuoteLoop
set_option linter.unusedVariables false
set_option linter.unusedSimpArgs false
set_option linter.unusedVariables false
set_option linter.unusedSimpArgs false
namespace Go.Proofs.YtnahdpjbddfhgaaGreatDoor
open Go Go.AL
set_option maxRecDepth 100000
theorem classL_none1 {m : Nat} {st : PS} {set : List Int} {b : Bool} (h1 : (b && nextB 93 st) = false) (h2 : memberP st = none) : classL (m + 1) st set b = none := by
  unfold classL; rw [h1, h2]; rfl
theorem classL_one {m : Nat} {st st1 : PS} {set m1 : List Int} {b : Bool} (h1 : (b && nextB 93 st) = false) (h2 : memberP st = some (m1, st1)) (h3 : nextB 45 st1 = false) : classL (m + 1) st set b = classL m st1 (set ++ m1) true := by
  rw [classL, h1, h2]; simp [h3]
theorem classL_none2 {m : Nat} {st st1 : PS} {set m1 : List Int} {b : Bool} (h1 : (b && nextB 93 st) = false) (h2 : memberP st = some (m1, st1)) (h3 : nextB 45 st1 = true) (h4 : memberP (nextS 45 st1) = none) : classL (m + 1) st set b = none := by
  rw [classL, h1, h2]; simp [h3, h4]
def classT (m : Nat) (st2 : PS) (set m1 m2 : List Int) : Option (List Int × PS) := match isOne m1 with
  | none => none
  | some x => match isOne m2 with
    | none => none
    | some y => if x ≤ y then classL m st2 (set ++ [x, y]) true else none
theorem classL_two {m : Nat} {st st1 st2 : PS} {set m1 m2 : List Int} {b : Bool} (h1 : (b && nextB 93 st) = false) (h2 : memberP st = some (m1, st1)) (h3 : nextB 45 st1 = true) (h4 : memberP (nextS 45 st1) = some (m2, st2)) :
    classL (m + 1) st set b = classT m st2 set m1 m2 := by
  rw [classL, h1, h2]; simp only [h3, h4, if_true, Bool.false_eq_true, if_false]
  unfold classT
  cases isOne m1 <;> cases isOne m2 <;> rfl
theorem bad1 {m : Nat} {st2 : PS} {set m1 m2 : List Int} (h : isOne m1 = none) : classT m st2 set m1 m2 = none := by unfold classT; rw [h]
theorem bad2 {m : Nat} {st2 : PS} {set m1 m2 : List Int} (h : isOne m2 = none) : classT m st2 set m1 m2 = none := by unfold classT; rw [h]; cases isOne m1 <;> rfl
theorem isOne_two (a : Int) : isOne [a, a] = some a := if_pos rfl
theorem bad3 {m : Nat} {st2 : PS} {set : List Int} {a c : Int} (h : ¬ a ≤ c) : classT m st2 set [a, a] [c, c] = none := by simp only [classT, isOne_two]; exact if_neg h
theorem good3 {m : Nat} {st2 : PS} {set : List Int} {a c : Int} (h : a ≤ c) : classT m st2 set [a, a] [c, c] = classL m st2 (set ++ [a, c]) true := by simp only [classT, isOne_two]; exact if_pos h
theorem classL_end {m : Nat} {st : PS} {set : List Int} (h : nextB 93 st = true) : classL (m + 1) st set true = some (set, nextS 93 st) := by
  unfold classL; simp [h]
theorem isOne_len {l : List Int} (h : ¬ l.length = 2) : isOne l = none := by
  unfold isOne; split
  · simp at h
  · rfl
theorem len2 {l : List Int} (h : ((l.length : Nat) : Int) = 2) : ∃ a b, l = [a, b] := by
  match l, h with
  | [a, b], _ => exact ⟨a, b, rfl⟩
  | [], h => simp at h
  | [_], h => simp at h
  | _ :: _ :: _ :: _, h => simp at h; omega
theorem pairsOf_app : ∀ (l m : List Int), l.length % 2 = 0 → pairsOf (l ++ m) = pairsOf l ++ pairsOf m
  | [], _, _ => rfl
  | [_], _, h => by simp at h
  | a :: b :: r, m, h => by
    have := pairsOf_app r m (by simp at h; omega)
    simp only [List.cons_append, pairsOf, this]
theorem SetV.app {l m : List Int} (h : SetV l) (k : SetV m) : SetV (l ++ m) := by
  refine ⟨by have := h.1; have := k.1; simp; omega, fun x hx => ?_, fun x hx => ?_⟩
  · rcases List.mem_append.1 hx with e | e
    · exact h.2.1 x e
    · exact k.2.1 x e
  · rw [pairsOf_app _ _ h.1] at hx
    rcases List.mem_append.1 hx with e | e
    · exact h.2.2 x e
    · exact k.2.2 x e
theorem SetV.nil : SetV [] := ⟨rfl, by intro x hx; simp at hx, by intro x hx; simp [pairsOf] at hx⟩
theorem SetV.two {a b : Int} (ha : 0 ≤ a ∧ a ≤ 1114111) (hb : 0 ≤ b ∧ b ≤ 1114111) (h : a ≤ b) : SetV [a, b] :=
  ⟨by simp, by intro x hx; simp at hx; omega, by intro x hx; simp [pairsOf] at hx; subst hx; exact h⟩
theorem pi_fold : ∀ (l out : List (Int × Int)), PI out → PI l → PI (l.foldl mergeStep out)
  | [], _, h, _ => h
  | x :: l, out, h, k => pi_fold l _ (pi_step h (k x List.mem_cons_self)) (fun z hz => k z (List.mem_cons_of_mem _ hz))
theorem fold_len : ∀ (l out : List (Int × Int)), (l.foldl mergeStep out).length ≤ out.length + l.length
  | [], _ => by simp
  | x :: l, out => by have := fold_len l (mergeStep out x); have := mergeStep_len out x; simp only [List.foldl_cons, List.length_cons]; omega
theorem pairsOf_len : ∀ (l : List Int), (pairsOf l).length ≤ l.length
  | [] => by simp [pairsOf]
  | [_] => by simp [pairsOf]
  | _ :: _ :: r => by have := pairsOf_len r; simp only [pairsOf, List.length_cons]; omega
theorem flatP_rn {l : List (Int × Int)} (h : PI l) : RnI (flatP l) := by
  intro x hx
  simp only [flatP, List.mem_flatMap] at hx
  obtain ⟨y, hy, hx⟩ := hx
  have := h y hy
  simp at hx
  rcases hx with rfl | rfl <;> omega
theorem mergedL_ok {l : List Int} (h : SetV l) : RnI (mergedL l) ∧ (mergedL l).length % 2 = 0 ∧ (mergedL l).length ≤ 2 * l.length := by
  unfold mergedL
  refine ⟨flatP_rn (pi_fold _ _ (by simp [PI]) fun x hx => pi_pairs h.2.1 x ((List.mergeSort_perm _ _).subset hx)), by rw [flatP_len]; omega, ?_⟩
  rw [flatP_len]
  have := fold_len ((pairsOf l).mergeSort lexLe) []
  have := pairsOf_len l
  simp at *; omega
theorem rI_ones (l : List Int) : (l.map rI).all AV.one = true := by
  induction l with
  | nil => rfl
  | cons x r ih => simp only [List.map_cons, List.all_cons, ih]; rfl
theorem int_ones (l : List Int) : (l.map int).all AV.one = true := by
  induction l with
  | nil => rfl
  | cons x r ih => simp only [List.map_cons, List.all_cons, ih]; rfl
theorem slh_sub {σ : AHeap} {ty : TypeId} {cs : List AV} {n i v : Nat} (h : σ i = none) : ∀ k o, σ k = some o → slh σ ty cs n i v k = some o := by
  intro k o hk
  have : k ≠ i := fun e => by rw [e, h] at hk; exact absurd hk (by simp)
  rw [slh_at _ _ _ _ this]; exact hk
theorem PC.push {c : Nat} {st st' : PS} (h : PC c st) (g : Gn 0 0 st st') : PC c st' := h.go g (by omega)
theorem flt_none {α : Type} {σ : AHeap} {p : Nat} {res : Option (α × PS)} {enc : α → AV} (h : res = none) : ParR σ p res enc (.pan flt) σ := by subst h; exact ⟨rfl, rfl⟩
theorem prs_norm {σ : AHeap} {p id ver f : Nat} {st : PS} (hf : prs σ p id ver st f = none) (h : st.out = [] ∨ okP σ p (id, ver)) : ∃ a b, okP σ p (a, b) ∧ prs σ p id ver st = prs σ p a b st := by
  rcases h with h | h
  · obtain ⟨h1, h2, _⟩ := prs_none hf
    refine ⟨f, 0, ⟨h2, fun e => h1 e.symm⟩, ?_⟩
    obtain ⟨s, out, dp, mo⟩ := st
    simp only at h
    subst h
    rfl
  · exact ⟨id, ver, h, rfl⟩
theorem okP_new {σ : AHeap} {p id ver i v n : Nat} {ty : TypeId} {cs : List AV} {out : List Nd} (h : okP σ p (id, ver)) (h2 : out = [] ∨ i ≠ id) : out = [] ∨ okP (slh σ ty cs n i v) p (id, ver) :=
  h2.imp (fun h => h) fun k => okP_up h (.inr k)

theorem classP_spec (p id ver : Nat) (st : PS) (σ : AHeap) (h0 : σ p = none) (hok : okP σ p (id, ver)) (hpc : PC 0 st) : ASpec Tryz.prog 167 [.ref p 0 0] (prs σ p id ver st) fun r σ' => ParR σ p (classP st) int r σ' := by
  refine aspec_enter (N := 79) (rs := [.tmp 2]) Tryz.func167 rfl rfl rfl rfl rfl rfl ?_
  refine awp_seq ?_
  refine awp_region ?_
  refine aops_v rfl rfl rfl (a_assign rfl rfl ?_)
  refine aops_nil ?_
  refine thenE_n ?_
  refine awp_seq ?_
  refine awp_region ?_
  refine aops_v rfl rfl rfl (a_move rfl rfl ?_)
  refine aops_call_eq rfl rfl rfl rfl cf99 rfl (nextP_spec p id ver st 94 _ h0 hok) ?_
  refine aops_v rfl rfl rfl (a_assign rfl rfl ?_)
  refine aops_nil ?_
  refine thenE_n ?_
  refine awp_seq ?_
  refine awp_region ?_
  refine aops_v rfl rfl rfl (a_assign rfl rfl ?_)
  refine aops_nil ?_
  refine thenE_n ?_
  refine awp_seq ?_
  refine awp_seq ?_
  refine awp_region ?_
  refine aops_v rfl rfl rfl (a_assign rfl rfl ?_)
  refine aops_nil ?_
  refine thenE_n ?_
  refine awp_block ?_
  refine awp_fresh fun i0 hi0 => ?_
  obtain ⟨hi0p, hi0n, _⟩ := prs_none hi0
  have hpc1 : PC 0 (nextS 94 st) := by
    cases hb : nextB 94 st with
    | true => exact hpc.go (next_go hb) (by omega)
    | false => rw [nextS_no hb]; exact hpc
  have hpl := hpc1.d1; have hpd := hpc1.d0
  refine awp_loop (S := PS × List Int × Bool × (Nat × Nat) × (Nat × Nat) × Nat) (fun x => [(0, .ref p 0 0), (3, boo (nextB 94 st)), (4, slv 1 (x.2.1.map rI) x.2.1.length x.2.2.2.1.1 x.2.2.2.1.2), (5, boo x.2.2.1)]) (fun x => prs (slh σ 21 (x.2.1.map rI) x.2.1.length x.2.2.2.1.1 x.2.2.2.1.2) p x.2.2.2.2.1.1 x.2.2.2.2.1.2 x.1) (fun x => classL (x.2.2.2.2.2 + 1) x.1 x.2.1 x.2.2.1 = classL ((nextS 94 st).s.length + 1) (nextS 94 st) [] false ∧ x.1.s.length ≤ x.2.2.2.2.2 ∧ PC 0 x.1 ∧ (x.1.out = [] ∨ okP (slh σ 21 (x.2.1.map rI) x.2.1.length x.2.2.2.1.1 x.2.2.2.1.2) p x.2.2.2.2.1) ∧ σ x.2.2.2.1.1 = none ∧ x.2.2.2.1.1 ≠ p ∧ SetV x.2.1 ∧ x.2.1.length + 8 * x.1.s.length ≤ 100000 ∧ (x.2.2.1 = true → 2 ≤ x.2.1.length)) (fun x => x.1.s.length + (if x.2.2.1 then 0 else 1)) ⟨(nextS 94 st, [], false, (i0, 0), (id, ver), (nextS 94 st).s.length), ⟨rfl, Nat.le_refl _, hpc1, .inr hok, hi0n, hi0p, SetV.nil, by simp; omega, by simp⟩, EL, rfl⟩ ?_
  rintro ⟨st', set, b, ⟨i, v⟩, ⟨id1', ver1'⟩, m⟩ ⟨hJ, hm, hpc', hok1', hin, hip, hsv, hsl, hb2⟩
  dsimp only at hJ hm hpc' hok1' hin hip hsv hsl hb2
  dsimp only
  refine awp_fresh fun f hf => ?_
  obtain ⟨id1, ver1, hok1, he1⟩ := prs_norm hf hok1'
  rw [he1]
  obtain ⟨hok2, hor⟩ := okP_slh hok1
  have h0' : (slh σ 21 (set.map rI) set.length i v) p = none := slh_p h0 hip
  have hsub := slh_sub (ty := 21) (cs := set.map rI) (n := set.length) (v := v) hin
  refine awp_seq ?_
  refine awp_seq ?_
  refine awp_region ?_
  refine aops_v rfl rfl rfl (a_move rfl rfl ?_)
  refine aops_v rfl rfl rfl (a_not rfl rfl ?_)
  refine aops_v rfl rfl rfl (a_move rfl rfl ?_)
  refine aops_bool (fun h1 => ?_) (fun h1 => ?_)
  · try simp only [zz1, zz2, ne_eq, zz4, zz5, zz6, gt_iff_lt, ge_iff_le, zz9, zz0] at h1
    obtain rfl : b = false := by simpa using h1
    have hbn : (false && nextB 93 st') = false := rfl
    refine aops_no rfl rfl rfl rfl rfl rfl ?_
    refine aops_no rfl rfl rfl rfl rfl rfl ?_
    refine aops_no rfl rfl rfl rfl rfl rfl ?_
    refine aops_v rfl rfl rfl (a_pick rfl rfl rfl ?_)
    refine aops_nil ?_
    refine thenE_n ?_
    refine awp_cond (b := true) rfl (fun _ => ?_) (fun h => Bool.noConfusion h)
    refine awp_skip ?_
    refine thenE_n ?_
    refine awp_seq ?_
    refine awp_block ?_
    refine awp_seq ?_
    refine awp_region ?_
    refine aops_v rfl rfl rfl (a_move rfl rfl ?_)
    refine aops_call_res rfl rfl rfl rfl cf183 rfl (memberP_spec p id1 ver1 st' _ h0' hok1 hpc'.rn) (fun h2 => ?_) ?_
    · change Gst _ _ _ _
      refine gst_sub σ hsub ?_
      refine .done (flt_none (by unfold classP; rw [← hJ, classL_none1 hbn h2]))
    rintro ⟨m1, st1⟩ ⟨id2, ver2⟩ hr1 hokc
    dsimp only
    have g1 := member_go hr1
    have hm1 := member_set hr1 hpc'.rn
    obtain ⟨hmA, hmB, hmC⟩ := hm1
    have hm1 := member_set hr1 hpc'.rn
    have hg1 := g1.less (by omega)
    obtain ⟨m, rfl⟩ : ∃ q, m = q + 1 := ⟨m - 1, by omega⟩
    have hpc2 : PC 0 st1 := hpc'.go g1 (by omega)
    refine aops_v rfl rfl rfl (a_assign rfl rfl ?_)
    refine aops_nil ?_
    refine thenE_n ?_
    refine awp_seq ?_
    refine awp_seq ?_
    refine awp_region ?_
    refine aops_v rfl rfl rfl (a_move rfl rfl ?_)
    refine aops_call_eq rfl rfl rfl rfl cf99 rfl (nextP_spec p id2 ver2 st1 45 _ h0' hokc) ?_
    refine aops_nil ?_
    refine thenE_n ?_
    refine awp_cond rfl (fun h3 => ?_) (fun h3 => ?_)
    · try simp only [zz1, zz2, ne_eq, zz4, zz5, zz6, gt_iff_lt, ge_iff_le, zz9, zz0] at h3
      have n45 := h3
      have g2 := next_go n45
      have hpc3 : PC 0 (nextS 45 st1) := hpc2.go g2 (by omega)
      have hg2 := g2.less (by omega)
      refine awp_seq ?_
      refine awp_region ?_
      refine aops_v rfl rfl rfl (a_move rfl rfl ?_)
      refine aops_call_res rfl rfl rfl rfl cf183 rfl (memberP_spec p id2 ver2 (nextS 45 st1) _ h0' hokc hpc3.rn) (fun h4 => ?_) ?_
      · change Gst _ _ _ _
        refine gst_sub σ hsub ?_
        refine .done (flt_none (by unfold classP; rw [← hJ, classL_none2 hbn hr1 n45 h4]))
      rintro ⟨m2, st2⟩ ⟨id2, ver2⟩ hr2 hokd
      dsimp only
      have g3 := member_go hr2
      have hm2 := member_set hr2 hpc3.rn
      have hg3 := g3.less (by omega)
      have hpc2 : PC 0 st2 := hpc3.go g3 (by omega)
      obtain ⟨hokb, horb⟩ := okP_slh hokd
      refine aops_v rfl rfl rfl (a_assign rfl rfl ?_)
      refine aops_nil ?_
      refine thenE_n ?_
      refine awp_seq ?_
      refine awp_draw [0, 0, 2, 6, 14, 30, 62, 126, 254, 510, 1022, 2046, 4094, 1022, 9214, 25598, 65534, 131070, 262142, 524286, 1048574, 2097150, 524286, 4718590, 13107198, 33554430, 67108862, 134217726, 268435454, 536870910, 1073741822, 268435454, 2415919102, 6710886398, 17179869182, 34359738366, 68719476735] 36 rfl (by decide +kernel) (by decide +kernel) (by decide +kernel) rfl ?_
      simp only [List.take_succ_cons, List.take_zero, List.take_nil, List.drop_succ_cons, List.drop_zero, List.drop_nil]
      refine dp_val rfl (apure_val (a_move rfl rfl pure_done)) rfl ?_
      refine dp_val rfl (apure_val (a_move rfl rfl pure_done)) rfl ?_
      first | refine dp_val rfl (apure_val (a_len_lst rfl isl59 rfl pure_done)) rfl ?_ | refine dp_val rfl (apure_val (a_len rfl isl59 rfl pure_done)) rfl ?_ | refine dp_val rfl (apure_val (a_len_slg rfl isl59 rfl pure_done)) rfl ?_ | refine dp_val rfl (apure_val (a_len_nil rfl isl59 rfl pure_done)) rfl ?_
      refine dp_val rfl (apure_val (a_int rfl rfl rfl rfl pure_done)) rfl ?_
      refine dp_val rfl (apure_val (a_move rfl rfl pure_done)) rfl ?_
      refine dp_bool (fun h5 => ?_) (fun h5 => ?_)
      · try simp only [zz1, zz2, ne_eq, zz4, zz5, zz6, gt_iff_lt, ge_iff_le, zz9, zz0] at h5
        obtain ⟨a0, a1, rfl⟩ := len2 h5
        refine dp_yes rfl rfl rfl rfl (apure_val (a_move rfl rfl pure_done)) rfl ?_
        first | refine dp_yes rfl rfl rfl rfl (apure_val (a_len_lst rfl isl59 rfl pure_done)) rfl ?_ | refine dp_yes rfl rfl rfl rfl (apure_val (a_len rfl isl59 rfl pure_done)) rfl ?_ | refine dp_yes rfl rfl rfl rfl (apure_val (a_len_slg rfl isl59 rfl pure_done)) rfl ?_ | refine dp_yes rfl rfl rfl rfl (apure_val (a_len_nil rfl isl59 rfl pure_done)) rfl ?_
        refine dp_yes rfl rfl rfl rfl (apure_val (a_int rfl rfl rfl rfl pure_done)) rfl ?_
        refine dp_val rfl (apure_val (a_pick rfl rfl rfl pure_done)) rfl ?_
        refine dp_val rfl (apure_val (a_move rfl rfl pure_done)) rfl ?_
        refine dp_bool (fun h6 => ?_) (fun h6 => ?_)
        · try simp only [zz1, zz2, ne_eq, zz4, zz5, zz6, gt_iff_lt, ge_iff_le, zz9, zz0] at h6
          obtain ⟨c0, c1, rfl⟩ := len2 h6
          refine dp_yes rfl rfl rfl rfl (apure_val (a_move rfl rfl pure_done)) rfl ?_
          first | refine dp_yes rfl rfl rfl rfl (apure_val (a_indexAddr_lst rfl ek59 rfl rfl NT (by omega) (by omega) pure_done)) rfl ?_ | refine dp_yes rfl rfl rfl rfl (apure_val (a_indexAddr rfl ek59 rfl rfl NT (by omega) (by omega) pure_done)) rfl ?_
          first | refine dp_yes rfl rfl rfl rfl (apure_val (a_load_pin rfl tk21 rfl rfl pure_done)) rfl ?_ | refine dp_yes rfl rfl rfl rfl (apure_val (a_load rfl tk21 rfl HP rfl pure_done)) rfl ?_
          refine dp_yes rfl rfl rfl rfl (apure_val (a_move rfl rfl pure_done)) rfl ?_
          first | refine dp_yes rfl rfl rfl rfl (apure_val (a_indexAddr_lst rfl ek59 rfl rfl NT (by omega) (by omega) pure_done)) rfl ?_ | refine dp_yes rfl rfl rfl rfl (apure_val (a_indexAddr rfl ek59 rfl rfl NT (by omega) (by omega) pure_done)) rfl ?_
          first | refine dp_yes rfl rfl rfl rfl (apure_val (a_load_pin rfl tk21 rfl rfl pure_done)) rfl ?_ | refine dp_yes rfl rfl rfl rfl (apure_val (a_load rfl tk21 rfl HP rfl pure_done)) rfl ?_
          refine dp_yes rfl rfl rfl rfl (apure_val (a_int rfl rfl rfl rfl pure_done)) rfl ?_
          refine dp_val rfl (apure_val (a_pick rfl rfl rfl pure_done)) rfl ?_
          refine dp_val rfl (apure_val (a_move rfl rfl pure_done)) rfl ?_
          refine dp_bool (fun h7 => ?_) (fun h7 => ?_)
          · try simp only [zz1, zz2, ne_eq, zz4, zz5, zz6, gt_iff_lt, ge_iff_le, zz9, zz0] at h7
            obtain rfl : a0 = a1 := h7
            refine dp_yes rfl rfl rfl rfl (apure_val (a_move rfl rfl pure_done)) rfl ?_
            first | refine dp_yes rfl rfl rfl rfl (apure_val (a_indexAddr_lst rfl ek59 rfl rfl NT (by omega) (by omega) pure_done)) rfl ?_ | refine dp_yes rfl rfl rfl rfl (apure_val (a_indexAddr rfl ek59 rfl rfl NT (by omega) (by omega) pure_done)) rfl ?_
            first | refine dp_yes rfl rfl rfl rfl (apure_val (a_load_pin rfl tk21 rfl rfl pure_done)) rfl ?_ | refine dp_yes rfl rfl rfl rfl (apure_val (a_load rfl tk21 rfl HP rfl pure_done)) rfl ?_
            refine dp_yes rfl rfl rfl rfl (apure_val (a_move rfl rfl pure_done)) rfl ?_
            first | refine dp_yes rfl rfl rfl rfl (apure_val (a_indexAddr_lst rfl ek59 rfl rfl NT (by omega) (by omega) pure_done)) rfl ?_ | refine dp_yes rfl rfl rfl rfl (apure_val (a_indexAddr rfl ek59 rfl rfl NT (by omega) (by omega) pure_done)) rfl ?_
            first | refine dp_yes rfl rfl rfl rfl (apure_val (a_load_pin rfl tk21 rfl rfl pure_done)) rfl ?_ | refine dp_yes rfl rfl rfl rfl (apure_val (a_load rfl tk21 rfl HP rfl pure_done)) rfl ?_
            refine dp_yes rfl rfl rfl rfl (apure_val (a_int rfl rfl rfl rfl pure_done)) rfl ?_
            refine dp_val rfl (apure_val (a_pick rfl rfl rfl pure_done)) rfl ?_
            refine dp_val rfl (apure_val (a_move rfl rfl pure_done)) rfl ?_
            refine dp_bool (fun h8 => ?_) (fun h8 => ?_)
            · try simp only [zz1, zz2, ne_eq, zz4, zz5, zz6, gt_iff_lt, ge_iff_le, zz9, zz0] at h8
              obtain rfl : c0 = c1 := h8
              refine dp_yes rfl rfl rfl rfl (apure_val (a_move rfl rfl pure_done)) rfl ?_
              first | refine dp_yes rfl rfl rfl rfl (apure_val (a_indexAddr_lst rfl ek59 rfl rfl NT (by omega) (by omega) pure_done)) rfl ?_ | refine dp_yes rfl rfl rfl rfl (apure_val (a_indexAddr rfl ek59 rfl rfl NT (by omega) (by omega) pure_done)) rfl ?_
              first | refine dp_yes rfl rfl rfl rfl (apure_val (a_load_pin rfl tk21 rfl rfl pure_done)) rfl ?_ | refine dp_yes rfl rfl rfl rfl (apure_val (a_load rfl tk21 rfl HP rfl pure_done)) rfl ?_
              refine dp_yes rfl rfl rfl rfl (apure_val (a_move rfl rfl pure_done)) rfl ?_
              first | refine dp_yes rfl rfl rfl rfl (apure_val (a_indexAddr_lst rfl ek59 rfl rfl NT (by omega) (by omega) pure_done)) rfl ?_ | refine dp_yes rfl rfl rfl rfl (apure_val (a_indexAddr rfl ek59 rfl rfl NT (by omega) (by omega) pure_done)) rfl ?_
              first | refine dp_yes rfl rfl rfl rfl (apure_val (a_load_pin rfl tk21 rfl rfl pure_done)) rfl ?_ | refine dp_yes rfl rfl rfl rfl (apure_val (a_load rfl tk21 rfl HP rfl pure_done)) rfl ?_
              refine dp_yes rfl rfl rfl rfl (apure_val (a_int rfl rfl rfl rfl pure_done)) rfl ?_
              refine dp_val rfl (apure_val (a_pick rfl rfl rfl pure_done)) rfl ?_
              change AOps _ _ _ _ _ _ _
              refine aops_call_res rfl rfl rfl rfl cf67 rfl (must_spec _ _ _) (fun h9 => ?_) ?_
              · change Gst _ _ _ _
                refine gst_sub σ (fun k o hk => prs_sub h0' hokd.1 k o (hsub k o hk)) ?_
                refine .done (flt_none (by unfold classP; rw [← hJ, classL_two hbn hr1 n45 hr2]; first | rw [bad1 hA] | rw [bad2 hB] | rw [bad3 (by simpa using h9)]))
              rintro ⟨⟩ ⟨⟩ hmu _
              try dsimp only
              have hle : a0 ≤ c0 := by simpa using hmu
              refine aops_nil ?_
              refine thenE_n ?_
              refine awp_draw [0, 1, 3, 0, 8, 24, 63, 127] 8 rfl (by decide +kernel) (by decide +kernel) (by decide +kernel) rfl ?_
              simp only [List.take_succ_cons, List.take_zero, List.take_nil, List.drop_succ_cons, List.drop_zero, List.drop_nil]
              refine dp_val rfl (apure_val (a_move rfl rfl pure_done)) rfl ?_
              first | refine dp_val rfl (apure_val (a_indexAddr_lst rfl ek59 rfl rfl NT (by omega) (by omega) pure_done)) rfl ?_ | refine dp_val rfl (apure_val (a_indexAddr rfl ek59 rfl rfl NT (by omega) (by omega) pure_done)) rfl ?_
              first | refine dp_val rfl (apure_val (a_load_pin rfl tk21 rfl rfl pure_done)) rfl ?_ | refine dp_val rfl (apure_val (a_load rfl tk21 rfl HP rfl pure_done)) rfl ?_
              refine dp_val rfl (apure_val (a_move rfl rfl pure_done)) rfl ?_
              first | refine dp_val rfl (apure_val (a_indexAddr_lst rfl ek59 rfl rfl NT (by omega) (by omega) pure_done)) rfl ?_ | refine dp_val rfl (apure_val (a_indexAddr rfl ek59 rfl rfl NT (by omega) (by omega) pure_done)) rfl ?_
              first | refine dp_val rfl (apure_val (a_load_pin rfl tk21 rfl rfl pure_done)) rfl ?_ | refine dp_val rfl (apure_val (a_load rfl tk21 rfl HP rfl pure_done)) rfl ?_
              refine dp_val rfl (apure_val (a_buildSlice (res := [_, _]) rfl sk59 rfl rfl rfl pure_done)) rfl ?_
              refine dp_val rfl (apure_val (a_assign rfl rfl pure_done)) rfl ?_
              change AOps _ _ _ _ _ _ _
              refine aops_nil ?_
              refine thenE_n ?_
              rw [prs_slh hip (horb.imp (fun h => h) .inr)]
              refine awp_region ?_
              refine aops_v rfl rfl rfl (a_move rfl rfl ?_)
              refine aops_v rfl rfl rfl (a_move rfl rfl ?_)
              refine aops_v rfl rfl rfl (a_append_slp rfl sk59 rfl (by simp) rfl (.lst (by simp)) rfl (by first | omega | (simp; omega)) (by simp only [maxLen]; omega) (by omega) (fun h => prs_is hip hin (.inr (horb.resolve_left (by omega)))) ?_)
              intro i2 v2 hi2
              obtain ⟨hi2p, hi2n, hi2o⟩ := prs_none hi2
              rw [show set.map rI ++ [rI a0, rI c0] = (set ++ [a0, c0]).map rI by simp, show set.length + 2 = (set ++ [a0, c0]).length by simp, ← prs_slh hi2p (.inr hi2o)]
              refine aops_v rfl rfl rfl (a_assign rfl rfl ?_)
              refine aops_nil ?_
              refine blockE_n ?_
              refine thenE_n ?_
              refine awp_region ?_
              refine aops_v rfl rfl rfl (a_assign rfl rfl ?_)
              refine aops_nil ?_
              refine thenE_n ?_
              refine .done ⟨(st2, set ++ [a0, c0], true, (i2, v2), (id2, ver2), m), ⟨by rw [← hJ, classL_two hbn hr1 n45 hr2, good3 hle], by dsimp only; omega, hpc2, okP_new hokb hi2o, hi2n, hi2p, hsv.app (SetV.two (hm1.1.2.1 a0 (by simp)) (hm2.1.2.1 c0 (by simp)) hle), by simp; omega, by intro _; simp <;> omega⟩, by simp <;> omega, EL, rfl⟩
            · try simp only [zz1, zz2, ne_eq, zz4, zz5, zz6, gt_iff_lt, ge_iff_le, zz9, zz0] at h8
              have hB : isOne [c0, c1] = none := if_neg h8
              refine dp_no rfl rfl rfl rfl rfl ?_
              refine dp_no rfl rfl rfl rfl rfl ?_
              refine dp_no rfl rfl rfl rfl rfl ?_
              refine dp_no rfl rfl rfl rfl rfl ?_
              refine dp_no rfl rfl rfl rfl rfl ?_
              refine dp_no rfl rfl rfl rfl rfl ?_
              refine dp_no rfl rfl rfl rfl rfl ?_
              refine dp_val rfl (apure_val (a_pick rfl rfl rfl pure_done)) rfl ?_
              change AOps _ _ _ _ _ _ _
              refine aops_call_res rfl rfl rfl rfl cf67 rfl (must_spec _ _ _) (fun h10 => ?_) ?_
              · change Gst _ _ _ _
                refine gst_sub σ (fun k o hk => prs_sub h0' hokd.1 k o (hsub k o hk)) ?_
                refine .done (flt_none (by unfold classP; rw [← hJ, classL_two hbn hr1 n45 hr2]; first | rw [bad1 hA] | rw [bad2 hB] | rw [bad3 (by simpa using h10)]))
              
              exact fun _ _ hmu _ => absurd hmu (by simp)
          · try simp only [zz1, zz2, ne_eq, zz4, zz5, zz6, gt_iff_lt, ge_iff_le, zz9, zz0] at h7
            have hA : isOne [a0, a1] = none := if_neg h7
            refine dp_no rfl rfl rfl rfl rfl ?_
            refine dp_no rfl rfl rfl rfl rfl ?_
            refine dp_no rfl rfl rfl rfl rfl ?_
            refine dp_no rfl rfl rfl rfl rfl ?_
            refine dp_no rfl rfl rfl rfl rfl ?_
            refine dp_no rfl rfl rfl rfl rfl ?_
            refine dp_no rfl rfl rfl rfl rfl ?_
            refine dp_val rfl (apure_val (a_pick rfl rfl rfl pure_done)) rfl ?_
            refine dp_val rfl (apure_val (a_move rfl rfl pure_done)) rfl ?_
            refine dp_no rfl rfl rfl rfl rfl ?_
            refine dp_no rfl rfl rfl rfl rfl ?_
            refine dp_no rfl rfl rfl rfl rfl ?_
            refine dp_no rfl rfl rfl rfl rfl ?_
            refine dp_no rfl rfl rfl rfl rfl ?_
            refine dp_no rfl rfl rfl rfl rfl ?_
            refine dp_no rfl rfl rfl rfl rfl ?_
            refine dp_val rfl (apure_val (a_pick rfl rfl rfl pure_done)) rfl ?_
            change AOps _ _ _ _ _ _ _
            refine aops_call_res rfl rfl rfl rfl cf67 rfl (must_spec _ _ _) (fun h11 => ?_) ?_
            · change Gst _ _ _ _
              refine gst_sub σ (fun k o hk => prs_sub h0' hokd.1 k o (hsub k o hk)) ?_
              refine .done (flt_none (by unfold classP; rw [← hJ, classL_two hbn hr1 n45 hr2]; first | rw [bad1 hA] | rw [bad2 hB] | rw [bad3 (by simpa using h11)]))
            
            exact fun _ _ hmu _ => absurd hmu (by simp)
        · try simp only [zz1, zz2, ne_eq, zz4, zz5, zz6, gt_iff_lt, ge_iff_le, zz9, zz0] at h6
          have hB := isOne_len (l := m2) (by omega)
          refine dp_no rfl rfl rfl rfl rfl ?_
          refine dp_no rfl rfl rfl rfl rfl ?_
          refine dp_no rfl rfl rfl rfl rfl ?_
          refine dp_no rfl rfl rfl rfl rfl ?_
          refine dp_no rfl rfl rfl rfl rfl ?_
          refine dp_no rfl rfl rfl rfl rfl ?_
          refine dp_no rfl rfl rfl rfl rfl ?_
          refine dp_val rfl (apure_val (a_pick rfl rfl rfl pure_done)) rfl ?_
          refine dp_val rfl (apure_val (a_move rfl rfl pure_done)) rfl ?_
          refine dp_no rfl rfl rfl rfl rfl ?_
          refine dp_no rfl rfl rfl rfl rfl ?_
          refine dp_no rfl rfl rfl rfl rfl ?_
          refine dp_no rfl rfl rfl rfl rfl ?_
          refine dp_no rfl rfl rfl rfl rfl ?_
          refine dp_no rfl rfl rfl rfl rfl ?_
          refine dp_no rfl rfl rfl rfl rfl ?_
          refine dp_val rfl (apure_val (a_pick rfl rfl rfl pure_done)) rfl ?_
          refine dp_val rfl (apure_val (a_move rfl rfl pure_done)) rfl ?_
          refine dp_no rfl rfl rfl rfl rfl ?_
          refine dp_no rfl rfl rfl rfl rfl ?_
          refine dp_no rfl rfl rfl rfl rfl ?_
          refine dp_no rfl rfl rfl rfl rfl ?_
          refine dp_no rfl rfl rfl rfl rfl ?_
          refine dp_no rfl rfl rfl rfl rfl ?_
          refine dp_no rfl rfl rfl rfl rfl ?_
          refine dp_val rfl (apure_val (a_pick rfl rfl rfl pure_done)) rfl ?_
          change AOps _ _ _ _ _ _ _
          refine aops_call_res rfl rfl rfl rfl cf67 rfl (must_spec _ _ _) (fun h12 => ?_) ?_
          · change Gst _ _ _ _
            refine gst_sub σ (fun k o hk => prs_sub h0' hokd.1 k o (hsub k o hk)) ?_
            refine .done (flt_none (by unfold classP; rw [← hJ, classL_two hbn hr1 n45 hr2]; first | rw [bad1 hA] | rw [bad2 hB] | rw [bad3 (by simpa using h12)]))
          
          exact fun _ _ hmu _ => absurd hmu (by simp)
      · try simp only [zz1, zz2, ne_eq, zz4, zz5, zz6, gt_iff_lt, ge_iff_le, zz9, zz0] at h5
        have hA := isOne_len (l := m1) (by omega)
        refine dp_no rfl rfl rfl rfl rfl ?_
        refine dp_no rfl rfl rfl rfl rfl ?_
        refine dp_no rfl rfl rfl rfl rfl ?_
        refine dp_val rfl (apure_val (a_pick rfl rfl rfl pure_done)) rfl ?_
        refine dp_val rfl (apure_val (a_move rfl rfl pure_done)) rfl ?_
        refine dp_no rfl rfl rfl rfl rfl ?_
        refine dp_no rfl rfl rfl rfl rfl ?_
        refine dp_no rfl rfl rfl rfl rfl ?_
        refine dp_no rfl rfl rfl rfl rfl ?_
        refine dp_no rfl rfl rfl rfl rfl ?_
        refine dp_no rfl rfl rfl rfl rfl ?_
        refine dp_no rfl rfl rfl rfl rfl ?_
        refine dp_val rfl (apure_val (a_pick rfl rfl rfl pure_done)) rfl ?_
        refine dp_val rfl (apure_val (a_move rfl rfl pure_done)) rfl ?_
        refine dp_no rfl rfl rfl rfl rfl ?_
        refine dp_no rfl rfl rfl rfl rfl ?_
        refine dp_no rfl rfl rfl rfl rfl ?_
        refine dp_no rfl rfl rfl rfl rfl ?_
        refine dp_no rfl rfl rfl rfl rfl ?_
        refine dp_no rfl rfl rfl rfl rfl ?_
        refine dp_no rfl rfl rfl rfl rfl ?_
        refine dp_val rfl (apure_val (a_pick rfl rfl rfl pure_done)) rfl ?_
        refine dp_val rfl (apure_val (a_move rfl rfl pure_done)) rfl ?_
        refine dp_no rfl rfl rfl rfl rfl ?_
        refine dp_no rfl rfl rfl rfl rfl ?_
        refine dp_no rfl rfl rfl rfl rfl ?_
        refine dp_no rfl rfl rfl rfl rfl ?_
        refine dp_no rfl rfl rfl rfl rfl ?_
        refine dp_no rfl rfl rfl rfl rfl ?_
        refine dp_no rfl rfl rfl rfl rfl ?_
        refine dp_val rfl (apure_val (a_pick rfl rfl rfl pure_done)) rfl ?_
        change AOps _ _ _ _ _ _ _
        refine aops_call_res rfl rfl rfl rfl cf67 rfl (must_spec _ _ _) (fun h13 => ?_) ?_
        · change Gst _ _ _ _
          refine gst_sub σ (fun k o hk => prs_sub h0' hokd.1 k o (hsub k o hk)) ?_
          refine .done (flt_none (by unfold classP; rw [← hJ, classL_two hbn hr1 n45 hr2]; first | rw [bad1 hA] | rw [bad2 hB] | rw [bad3 (by simpa using h13)]))
        
        exact fun _ _ hmu _ => absurd hmu (by simp)
    · try simp only [zz1, zz2, ne_eq, zz4, zz5, zz6, gt_iff_lt, ge_iff_le, zz9, zz0] at h3
      have n45 := h3
      rw [nextS_no n45]
      obtain ⟨hokb, horb⟩ := okP_slh hokc
      refine awp_skip ?_
      refine thenE_n ?_
      rw [prs_slh hip (horb.imp (fun h => h) .inr)]
      refine awp_region ?_
      refine aops_v rfl rfl rfl (a_move rfl rfl ?_)
      refine aops_v rfl rfl rfl (a_move rfl rfl ?_)
      refine aops_v rfl rfl rfl (a_append_slp rfl sk59 rfl (by simp) rfl (.lst (by simp)) (rI_ones _) (by first | omega | (simp; omega)) (by simp only [maxLen]; omega) (by omega) (fun h => prs_is hip hin (.inr (horb.resolve_left (by omega)))) ?_)
      intro i2 v2 hi2
      obtain ⟨hi2p, hi2n, hi2o⟩ := prs_none hi2
      rw [show set.map rI ++ m1.map rI = (set ++ m1).map rI by simp, show set.length + m1.length = (set ++ m1).length by simp, ← prs_slh hi2p (.inr hi2o)]
      refine aops_v rfl rfl rfl (a_assign rfl rfl ?_)
      refine aops_nil ?_
      refine blockE_n ?_
      refine thenE_n ?_
      refine awp_region ?_
      refine aops_v rfl rfl rfl (a_assign rfl rfl ?_)
      refine aops_nil ?_
      refine thenE_n ?_
      refine .done ⟨(st1, set ++ m1, true, (i2, v2), (id2, ver2), m), ⟨by rw [← hJ, classL_one hbn hr1 n45], by dsimp only; omega, hpc2, okP_new hokb hi2o, hi2n, hi2p, hsv.app hm1.1, by simp; omega, by intro _; simp <;> omega⟩, by simp <;> omega, EL, rfl⟩
  · try simp only [zz1, zz2, ne_eq, zz4, zz5, zz6, gt_iff_lt, ge_iff_le, zz9, zz0] at h1
    obtain rfl : b = true := by simpa using h1
    refine aops_yes rfl rfl rfl rfl ?_
    refine aops_v rfl rfl rfl (a_move rfl rfl ?_)
    refine aops_yes rfl rfl rfl rfl ?_
    refine aops_call_eq rfl rfl rfl rfl cf99 rfl (nextP_spec p id1 ver1 st' 93 _ h0' hok1) ?_
    refine aops_yes rfl rfl rfl rfl ?_
    refine aops_v rfl rfl rfl (a_not rfl rfl ?_)
    refine aops_v rfl rfl rfl (a_pick rfl rfl rfl ?_)
    refine aops_nil ?_
    refine thenE_n ?_
    refine awp_cond rfl (fun h14 => ?_) (fun h14 => ?_)
    · try simp only [zz1, zz2, ne_eq, zz4, zz5, zz6, gt_iff_lt, ge_iff_le, zz9, zz0] at h14
      have n93 := h14
      have hbn : (true && nextB 93 st') = false := by rw [n93]; rfl
      rw [nextS_no n93]
      refine awp_skip ?_
      refine thenE_n ?_
      refine awp_seq ?_
      refine awp_block ?_
      refine awp_seq ?_
      refine awp_region ?_
      refine aops_v rfl rfl rfl (a_move rfl rfl ?_)
      refine aops_call_res rfl rfl rfl rfl cf183 rfl (memberP_spec p id1 ver1 st' _ h0' hok1 hpc'.rn) (fun h15 => ?_) ?_
      · change Gst _ _ _ _
        refine gst_sub σ hsub ?_
        refine .done (flt_none (by unfold classP; rw [← hJ, classL_none1 hbn h15]))
      rintro ⟨m1, st1⟩ ⟨id2, ver2⟩ hr1 hokc
      dsimp only
      have g1 := member_go hr1
      have hm1 := member_set hr1 hpc'.rn
      obtain ⟨hmA, hmB, hmC⟩ := hm1
      have hm1 := member_set hr1 hpc'.rn
      have hg1 := g1.less (by omega)
      obtain ⟨m, rfl⟩ : ∃ q, m = q + 1 := ⟨m - 1, by omega⟩
      have hpc2 : PC 0 st1 := hpc'.go g1 (by omega)
      refine aops_v rfl rfl rfl (a_assign rfl rfl ?_)
      refine aops_nil ?_
      refine thenE_n ?_
      refine awp_seq ?_
      refine awp_seq ?_
      refine awp_region ?_
      refine aops_v rfl rfl rfl (a_move rfl rfl ?_)
      refine aops_call_eq rfl rfl rfl rfl cf99 rfl (nextP_spec p id2 ver2 st1 45 _ h0' hokc) ?_
      refine aops_nil ?_
      refine thenE_n ?_
      refine awp_cond rfl (fun h16 => ?_) (fun h16 => ?_)
      · try simp only [zz1, zz2, ne_eq, zz4, zz5, zz6, gt_iff_lt, ge_iff_le, zz9, zz0] at h16
        have n45 := h16
        have g2 := next_go n45
        have hpc3 : PC 0 (nextS 45 st1) := hpc2.go g2 (by omega)
        have hg2 := g2.less (by omega)
        refine awp_seq ?_
        refine awp_region ?_
        refine aops_v rfl rfl rfl (a_move rfl rfl ?_)
        refine aops_call_res rfl rfl rfl rfl cf183 rfl (memberP_spec p id2 ver2 (nextS 45 st1) _ h0' hokc hpc3.rn) (fun h17 => ?_) ?_
        · change Gst _ _ _ _
          refine gst_sub σ hsub ?_
          refine .done (flt_none (by unfold classP; rw [← hJ, classL_none2 hbn hr1 n45 h17]))
        rintro ⟨m2, st2⟩ ⟨id2, ver2⟩ hr2 hokd
        dsimp only
        have g3 := member_go hr2
        have hm2 := member_set hr2 hpc3.rn
        have hg3 := g3.less (by omega)
        have hpc2 : PC 0 st2 := hpc3.go g3 (by omega)
        obtain ⟨hokb, horb⟩ := okP_slh hokd
        refine aops_v rfl rfl rfl (a_assign rfl rfl ?_)
        refine aops_nil ?_
        refine thenE_n ?_
        refine awp_seq ?_
        refine awp_draw [0, 0, 2, 6, 14, 30, 62, 126, 254, 510, 1022, 2046, 4094, 1022, 9214, 25598, 65534, 131070, 262142, 524286, 1048574, 2097150, 524286, 4718590, 13107198, 33554430, 67108862, 134217726, 268435454, 536870910, 1073741822, 268435454, 2415919102, 6710886398, 17179869182, 34359738366, 68719476735] 36 rfl (by decide +kernel) (by decide +kernel) (by decide +kernel) rfl ?_
        simp only [List.take_succ_cons, List.take_zero, List.take_nil, List.drop_succ_cons, List.drop_zero, List.drop_nil]
        refine dp_val rfl (apure_val (a_move rfl rfl pure_done)) rfl ?_
        refine dp_val rfl (apure_val (a_move rfl rfl pure_done)) rfl ?_
        first | refine dp_val rfl (apure_val (a_len_lst rfl isl59 rfl pure_done)) rfl ?_ | refine dp_val rfl (apure_val (a_len rfl isl59 rfl pure_done)) rfl ?_ | refine dp_val rfl (apure_val (a_len_slg rfl isl59 rfl pure_done)) rfl ?_ | refine dp_val rfl (apure_val (a_len_nil rfl isl59 rfl pure_done)) rfl ?_
        refine dp_val rfl (apure_val (a_int rfl rfl rfl rfl pure_done)) rfl ?_
        refine dp_val rfl (apure_val (a_move rfl rfl pure_done)) rfl ?_
        refine dp_bool (fun h18 => ?_) (fun h18 => ?_)
        · try simp only [zz1, zz2, ne_eq, zz4, zz5, zz6, gt_iff_lt, ge_iff_le, zz9, zz0] at h18
          obtain ⟨a0, a1, rfl⟩ := len2 h18
          refine dp_yes rfl rfl rfl rfl (apure_val (a_move rfl rfl pure_done)) rfl ?_
          first | refine dp_yes rfl rfl rfl rfl (apure_val (a_len_lst rfl isl59 rfl pure_done)) rfl ?_ | refine dp_yes rfl rfl rfl rfl (apure_val (a_len rfl isl59 rfl pure_done)) rfl ?_ | refine dp_yes rfl rfl rfl rfl (apure_val (a_len_slg rfl isl59 rfl pure_done)) rfl ?_ | refine dp_yes rfl rfl rfl rfl (apure_val (a_len_nil rfl isl59 rfl pure_done)) rfl ?_
          refine dp_yes rfl rfl rfl rfl (apure_val (a_int rfl rfl rfl rfl pure_done)) rfl ?_
          refine dp_val rfl (apure_val (a_pick rfl rfl rfl pure_done)) rfl ?_
          refine dp_val rfl (apure_val (a_move rfl rfl pure_done)) rfl ?_
          refine dp_bool (fun h19 => ?_) (fun h19 => ?_)
          · try simp only [zz1, zz2, ne_eq, zz4, zz5, zz6, gt_iff_lt, ge_iff_le, zz9, zz0] at h19
            obtain ⟨c0, c1, rfl⟩ := len2 h19
            refine dp_yes rfl rfl rfl rfl (apure_val (a_move rfl rfl pure_done)) rfl ?_
            first | refine dp_yes rfl rfl rfl rfl (apure_val (a_indexAddr_lst rfl ek59 rfl rfl NT (by omega) (by omega) pure_done)) rfl ?_ | refine dp_yes rfl rfl rfl rfl (apure_val (a_indexAddr rfl ek59 rfl rfl NT (by omega) (by omega) pure_done)) rfl ?_
            first | refine dp_yes rfl rfl rfl rfl (apure_val (a_load_pin rfl tk21 rfl rfl pure_done)) rfl ?_ | refine dp_yes rfl rfl rfl rfl (apure_val (a_load rfl tk21 rfl HP rfl pure_done)) rfl ?_
            refine dp_yes rfl rfl rfl rfl (apure_val (a_move rfl rfl pure_done)) rfl ?_
            first | refine dp_yes rfl rfl rfl rfl (apure_val (a_indexAddr_lst rfl ek59 rfl rfl NT (by omega) (by omega) pure_done)) rfl ?_ | refine dp_yes rfl rfl rfl rfl (apure_val (a_indexAddr rfl ek59 rfl rfl NT (by omega) (by omega) pure_done)) rfl ?_
            first | refine dp_yes rfl rfl rfl rfl (apure_val (a_load_pin rfl tk21 rfl rfl pure_done)) rfl ?_ | refine dp_yes rfl rfl rfl rfl (apure_val (a_load rfl tk21 rfl HP rfl pure_done)) rfl ?_
            refine dp_yes rfl rfl rfl rfl (apure_val (a_int rfl rfl rfl rfl pure_done)) rfl ?_
            refine dp_val rfl (apure_val (a_pick rfl rfl rfl pure_done)) rfl ?_
            refine dp_val rfl (apure_val (a_move rfl rfl pure_done)) rfl ?_
            refine dp_bool (fun h20 => ?_) (fun h20 => ?_)
            · try simp only [zz1, zz2, ne_eq, zz4, zz5, zz6, gt_iff_lt, ge_iff_le, zz9, zz0] at h20
              obtain rfl : a0 = a1 := h20
              refine dp_yes rfl rfl rfl rfl (apure_val (a_move rfl rfl pure_done)) rfl ?_
              first | refine dp_yes rfl rfl rfl rfl (apure_val (a_indexAddr_lst rfl ek59 rfl rfl NT (by omega) (by omega) pure_done)) rfl ?_ | refine dp_yes rfl rfl rfl rfl (apure_val (a_indexAddr rfl ek59 rfl rfl NT (by omega) (by omega) pure_done)) rfl ?_
              first | refine dp_yes rfl rfl rfl rfl (apure_val (a_load_pin rfl tk21 rfl rfl pure_done)) rfl ?_ | refine dp_yes rfl rfl rfl rfl (apure_val (a_load rfl tk21 rfl HP rfl pure_done)) rfl ?_
              refine dp_yes rfl rfl rfl rfl (apure_val (a_move rfl rfl pure_done)) rfl ?_
              first | refine dp_yes rfl rfl rfl rfl (apure_val (a_indexAddr_lst rfl ek59 rfl rfl NT (by omega) (by omega) pure_done)) rfl ?_ | refine dp_yes rfl rfl rfl rfl (apure_val (a_indexAddr rfl ek59 rfl rfl NT (by omega) (by omega) pure_done)) rfl ?_
              first | refine dp_yes rfl rfl rfl rfl (apure_val (a_load_pin rfl tk21 rfl rfl pure_done)) rfl ?_ | refine dp_yes rfl rfl rfl rfl (apure_val (a_load rfl tk21 rfl HP rfl pure_done)) rfl ?_
              refine dp_yes rfl rfl rfl rfl (apure_val (a_int rfl rfl rfl rfl pure_done)) rfl ?_
              refine dp_val rfl (apure_val (a_pick rfl rfl rfl pure_done)) rfl ?_
              refine dp_val rfl (apure_val (a_move rfl rfl pure_done)) rfl ?_
              refine dp_bool (fun h21 => ?_) (fun h21 => ?_)
              · try simp only [zz1, zz2, ne_eq, zz4, zz5, zz6, gt_iff_lt, ge_iff_le, zz9, zz0] at h21
                obtain rfl : c0 = c1 := h21
                refine dp_yes rfl rfl rfl rfl (apure_val (a_move rfl rfl pure_done)) rfl ?_
                first | refine dp_yes rfl rfl rfl rfl (apure_val (a_indexAddr_lst rfl ek59 rfl rfl NT (by omega) (by omega) pure_done)) rfl ?_ | refine dp_yes rfl rfl rfl rfl (apure_val (a_indexAddr rfl ek59 rfl rfl NT (by omega) (by omega) pure_done)) rfl ?_
                first | refine dp_yes rfl rfl rfl rfl (apure_val (a_load_pin rfl tk21 rfl rfl pure_done)) rfl ?_ | refine dp_yes rfl rfl rfl rfl (apure_val (a_load rfl tk21 rfl HP rfl pure_done)) rfl ?_
                refine dp_yes rfl rfl rfl rfl (apure_val (a_move rfl rfl pure_done)) rfl ?_
                first | refine dp_yes rfl rfl rfl rfl (apure_val (a_indexAddr_lst rfl ek59 rfl rfl NT (by omega) (by omega) pure_done)) rfl ?_ | refine dp_yes rfl rfl rfl rfl (apure_val (a_indexAddr rfl ek59 rfl rfl NT (by omega) (by omega) pure_done)) rfl ?_
                first | refine dp_yes rfl rfl rfl rfl (apure_val (a_load_pin rfl tk21 rfl rfl pure_done)) rfl ?_ | refine dp_yes rfl rfl rfl rfl (apure_val (a_load rfl tk21 rfl HP rfl pure_done)) rfl ?_
                refine dp_yes rfl rfl rfl rfl (apure_val (a_int rfl rfl rfl rfl pure_done)) rfl ?_
                refine dp_val rfl (apure_val (a_pick rfl rfl rfl pure_done)) rfl ?_
                change AOps _ _ _ _ _ _ _
                refine aops_call_res rfl rfl rfl rfl cf67 rfl (must_spec _ _ _) (fun h22 => ?_) ?_
                · change Gst _ _ _ _
                  refine gst_sub σ (fun k o hk => prs_sub h0' hokd.1 k o (hsub k o hk)) ?_
                  refine .done (flt_none (by unfold classP; rw [← hJ, classL_two hbn hr1 n45 hr2]; first | rw [bad1 hA] | rw [bad2 hB] | rw [bad3 (by simpa using h22)]))
                rintro ⟨⟩ ⟨⟩ hmu _
                try dsimp only
                have hle : a0 ≤ c0 := by simpa using hmu
                refine aops_nil ?_
                refine thenE_n ?_
                refine awp_draw [0, 1, 3, 0, 8, 24, 63, 127] 8 rfl (by decide +kernel) (by decide +kernel) (by decide +kernel) rfl ?_
                simp only [List.take_succ_cons, List.take_zero, List.take_nil, List.drop_succ_cons, List.drop_zero, List.drop_nil]
                refine dp_val rfl (apure_val (a_move rfl rfl pure_done)) rfl ?_
                first | refine dp_val rfl (apure_val (a_indexAddr_lst rfl ek59 rfl rfl NT (by omega) (by omega) pure_done)) rfl ?_ | refine dp_val rfl (apure_val (a_indexAddr rfl ek59 rfl rfl NT (by omega) (by omega) pure_done)) rfl ?_
                first | refine dp_val rfl (apure_val (a_load_pin rfl tk21 rfl rfl pure_done)) rfl ?_ | refine dp_val rfl (apure_val (a_load rfl tk21 rfl HP rfl pure_done)) rfl ?_
                refine dp_val rfl (apure_val (a_move rfl rfl pure_done)) rfl ?_
                first | refine dp_val rfl (apure_val (a_indexAddr_lst rfl ek59 rfl rfl NT (by omega) (by omega) pure_done)) rfl ?_ | refine dp_val rfl (apure_val (a_indexAddr rfl ek59 rfl rfl NT (by omega) (by omega) pure_done)) rfl ?_
                first | refine dp_val rfl (apure_val (a_load_pin rfl tk21 rfl rfl pure_done)) rfl ?_ | refine dp_val rfl (apure_val (a_load rfl tk21 rfl HP rfl pure_done)) rfl ?_
                refine dp_val rfl (apure_val (a_buildSlice (res := [_, _]) rfl sk59 rfl rfl rfl pure_done)) rfl ?_
                refine dp_val rfl (apure_val (a_assign rfl rfl pure_done)) rfl ?_
                change AOps _ _ _ _ _ _ _
                refine aops_nil ?_
                refine thenE_n ?_
                rw [prs_slh hip (horb.imp (fun h => h) .inr)]
                refine awp_region ?_
                refine aops_v rfl rfl rfl (a_move rfl rfl ?_)
                refine aops_v rfl rfl rfl (a_move rfl rfl ?_)
                refine aops_v rfl rfl rfl (a_append_slp rfl sk59 rfl (by simp) rfl (.lst (by simp)) rfl (by first | omega | (simp; omega)) (by simp only [maxLen]; omega) (by omega) (fun h => prs_is hip hin (.inr (horb.resolve_left (by omega)))) ?_)
                intro i2 v2 hi2
                obtain ⟨hi2p, hi2n, hi2o⟩ := prs_none hi2
                rw [show set.map rI ++ [rI a0, rI c0] = (set ++ [a0, c0]).map rI by simp, show set.length + 2 = (set ++ [a0, c0]).length by simp, ← prs_slh hi2p (.inr hi2o)]
                refine aops_v rfl rfl rfl (a_assign rfl rfl ?_)
                refine aops_nil ?_
                refine blockE_n ?_
                refine thenE_n ?_
                refine awp_region ?_
                refine aops_v rfl rfl rfl (a_assign rfl rfl ?_)
                refine aops_nil ?_
                refine thenE_n ?_
                refine .done ⟨(st2, set ++ [a0, c0], true, (i2, v2), (id2, ver2), m), ⟨by rw [← hJ, classL_two hbn hr1 n45 hr2, good3 hle], by dsimp only; omega, hpc2, okP_new hokb hi2o, hi2n, hi2p, hsv.app (SetV.two (hm1.1.2.1 a0 (by simp)) (hm2.1.2.1 c0 (by simp)) hle), by simp; omega, by intro _; simp <;> omega⟩, by simp <;> omega, EL, rfl⟩
              · try simp only [zz1, zz2, ne_eq, zz4, zz5, zz6, gt_iff_lt, ge_iff_le, zz9, zz0] at h21
                have hB : isOne [c0, c1] = none := if_neg h21
                refine dp_no rfl rfl rfl rfl rfl ?_
                refine dp_no rfl rfl rfl rfl rfl ?_
                refine dp_no rfl rfl rfl rfl rfl ?_
                refine dp_no rfl rfl rfl rfl rfl ?_
                refine dp_no rfl rfl rfl rfl rfl ?_
                refine dp_no rfl rfl rfl rfl rfl ?_
                refine dp_no rfl rfl rfl rfl rfl ?_
                refine dp_val rfl (apure_val (a_pick rfl rfl rfl pure_done)) rfl ?_
                change AOps _ _ _ _ _ _ _
                refine aops_call_res rfl rfl rfl rfl cf67 rfl (must_spec _ _ _) (fun h23 => ?_) ?_
                · change Gst _ _ _ _
                  refine gst_sub σ (fun k o hk => prs_sub h0' hokd.1 k o (hsub k o hk)) ?_
                  refine .done (flt_none (by unfold classP; rw [← hJ, classL_two hbn hr1 n45 hr2]; first | rw [bad1 hA] | rw [bad2 hB] | rw [bad3 (by simpa using h23)]))
                
                exact fun _ _ hmu _ => absurd hmu (by simp)
            · try simp only [zz1, zz2, ne_eq, zz4, zz5, zz6, gt_iff_lt, ge_iff_le, zz9, zz0] at h20
              have hA : isOne [a0, a1] = none := if_neg h20
              refine dp_no rfl rfl rfl rfl rfl ?_
              refine dp_no rfl rfl rfl rfl rfl ?_
              refine dp_no rfl rfl rfl rfl rfl ?_
              refine dp_no rfl rfl rfl rfl rfl ?_
              refine dp_no rfl rfl rfl rfl rfl ?_
              refine dp_no rfl rfl rfl rfl rfl ?_
              refine dp_no rfl rfl rfl rfl rfl ?_
              refine dp_val rfl (apure_val (a_pick rfl rfl rfl pure_done)) rfl ?_
              refine dp_val rfl (apure_val (a_move rfl rfl pure_done)) rfl ?_
              refine dp_no rfl rfl rfl rfl rfl ?_
              refine dp_no rfl rfl rfl rfl rfl ?_
              refine dp_no rfl rfl rfl rfl rfl ?_
              refine dp_no rfl rfl rfl rfl rfl ?_
              refine dp_no rfl rfl rfl rfl rfl ?_
              refine dp_no rfl rfl rfl rfl rfl ?_
              refine dp_no rfl rfl rfl rfl rfl ?_
              refine dp_val rfl (apure_val (a_pick rfl rfl rfl pure_done)) rfl ?_
              change AOps _ _ _ _ _ _ _
              refine aops_call_res rfl rfl rfl rfl cf67 rfl (must_spec _ _ _) (fun h24 => ?_) ?_
              · change Gst _ _ _ _
                refine gst_sub σ (fun k o hk => prs_sub h0' hokd.1 k o (hsub k o hk)) ?_
                refine .done (flt_none (by unfold classP; rw [← hJ, classL_two hbn hr1 n45 hr2]; first | rw [bad1 hA] | rw [bad2 hB] | rw [bad3 (by simpa using h24)]))
              
              exact fun _ _ hmu _ => absurd hmu (by simp)
          · try simp only [zz1, zz2, ne_eq, zz4, zz5, zz6, gt_iff_lt, ge_iff_le, zz9, zz0] at h19
            have hB := isOne_len (l := m2) (by omega)
            refine dp_no rfl rfl rfl rfl rfl ?_
            refine dp_no rfl rfl rfl rfl rfl ?_
            refine dp_no rfl rfl rfl rfl rfl ?_
            refine dp_no rfl rfl rfl rfl rfl ?_
            refine dp_no rfl rfl rfl rfl rfl ?_
            refine dp_no rfl rfl rfl rfl rfl ?_
            refine dp_no rfl rfl rfl rfl rfl ?_
            refine dp_val rfl (apure_val (a_pick rfl rfl rfl pure_done)) rfl ?_
            refine dp_val rfl (apure_val (a_move rfl rfl pure_done)) rfl ?_
            refine dp_no rfl rfl rfl rfl rfl ?_
            refine dp_no rfl rfl rfl rfl rfl ?_
            refine dp_no rfl rfl rfl rfl rfl ?_
            refine dp_no rfl rfl rfl rfl rfl ?_
            refine dp_no rfl rfl rfl rfl rfl ?_
            refine dp_no rfl rfl rfl rfl rfl ?_
            refine dp_no rfl rfl rfl rfl rfl ?_
            refine dp_val rfl (apure_val (a_pick rfl rfl rfl pure_done)) rfl ?_
            refine dp_val rfl (apure_val (a_move rfl rfl pure_done)) rfl ?_
            refine dp_no rfl rfl rfl rfl rfl ?_
            refine dp_no rfl rfl rfl rfl rfl ?_
            refine dp_no rfl rfl rfl rfl rfl ?_
            refine dp_no rfl rfl rfl rfl rfl ?_
            refine dp_no rfl rfl rfl rfl rfl ?_
            refine dp_no rfl rfl rfl rfl rfl ?_
            refine dp_no rfl rfl rfl rfl rfl ?_
            refine dp_val rfl (apure_val (a_pick rfl rfl rfl pure_done)) rfl ?_
            change AOps _ _ _ _ _ _ _
            refine aops_call_res rfl rfl rfl rfl cf67 rfl (must_spec _ _ _) (fun h25 => ?_) ?_
            · change Gst _ _ _ _
              refine gst_sub σ (fun k o hk => prs_sub h0' hokd.1 k o (hsub k o hk)) ?_
              refine .done (flt_none (by unfold classP; rw [← hJ, classL_two hbn hr1 n45 hr2]; first | rw [bad1 hA] | rw [bad2 hB] | rw [bad3 (by simpa using h25)]))
            
            exact fun _ _ hmu _ => absurd hmu (by simp)
        · try simp only [zz1, zz2, ne_eq, zz4, zz5, zz6, gt_iff_lt, ge_iff_le, zz9, zz0] at h18
          have hA := isOne_len (l := m1) (by omega)
          refine dp_no rfl rfl rfl rfl rfl ?_
          refine dp_no rfl rfl rfl rfl rfl ?_
          refine dp_no rfl rfl rfl rfl rfl ?_
          refine dp_val rfl (apure_val (a_pick rfl rfl rfl pure_done)) rfl ?_
          refine dp_val rfl (apure_val (a_move rfl rfl pure_done)) rfl ?_
          refine dp_no rfl rfl rfl rfl rfl ?_
          refine dp_no rfl rfl rfl rfl rfl ?_
          refine dp_no rfl rfl rfl rfl rfl ?_
          refine dp_no rfl rfl rfl rfl rfl ?_
          refine dp_no rfl rfl rfl rfl rfl ?_
          refine dp_no rfl rfl rfl rfl rfl ?_
          refine dp_no rfl rfl rfl rfl rfl ?_
          refine dp_val rfl (apure_val (a_pick rfl rfl rfl pure_done)) rfl ?_
          refine dp_val rfl (apure_val (a_move rfl rfl pure_done)) rfl ?_
          refine dp_no rfl rfl rfl rfl rfl ?_
          refine dp_no rfl rfl rfl rfl rfl ?_
          refine dp_no rfl rfl rfl rfl rfl ?_
          refine dp_no rfl rfl rfl rfl rfl ?_
          refine dp_no rfl rfl rfl rfl rfl ?_
          refine dp_no rfl rfl rfl rfl rfl ?_
          refine dp_no rfl rfl rfl rfl rfl ?_
          refine dp_val rfl (apure_val (a_pick rfl rfl rfl pure_done)) rfl ?_
          refine dp_val rfl (apure_val (a_move rfl rfl pure_done)) rfl ?_
          refine dp_no rfl rfl rfl rfl rfl ?_
          refine dp_no rfl rfl rfl rfl rfl ?_
          refine dp_no rfl rfl rfl rfl rfl ?_
          refine dp_no rfl rfl rfl rfl rfl ?_
          refine dp_no rfl rfl rfl rfl rfl ?_
          refine dp_no rfl rfl rfl rfl rfl ?_
          refine dp_no rfl rfl rfl rfl rfl ?_
          refine dp_val rfl (apure_val (a_pick rfl rfl rfl pure_done)) rfl ?_
          change AOps _ _ _ _ _ _ _
          refine aops_call_res rfl rfl rfl rfl cf67 rfl (must_spec _ _ _) (fun h26 => ?_) ?_
          · change Gst _ _ _ _
            refine gst_sub σ (fun k o hk => prs_sub h0' hokd.1 k o (hsub k o hk)) ?_
            refine .done (flt_none (by unfold classP; rw [← hJ, classL_two hbn hr1 n45 hr2]; first | rw [bad1 hA] | rw [bad2 hB] | rw [bad3 (by simpa using h26)]))
          
          exact fun _ _ hmu _ => absurd hmu (by simp)
      · try simp only [zz1, zz2, ne_eq, zz4, zz5, zz6, gt_iff_lt, ge_iff_le, zz9, zz0] at h16
        have n45 := h16
        rw [nextS_no n45]
        obtain ⟨hokb, horb⟩ := okP_slh hokc
        refine awp_skip ?_
        refine thenE_n ?_
        rw [prs_slh hip (horb.imp (fun h => h) .inr)]
        refine awp_region ?_
        refine aops_v rfl rfl rfl (a_move rfl rfl ?_)
        refine aops_v rfl rfl rfl (a_move rfl rfl ?_)
        refine aops_v rfl rfl rfl (a_append_slp rfl sk59 rfl (by simp) rfl (.lst (by simp)) (rI_ones _) (by first | omega | (simp; omega)) (by simp only [maxLen]; omega) (by omega) (fun h => prs_is hip hin (.inr (horb.resolve_left (by omega)))) ?_)
        intro i2 v2 hi2
        obtain ⟨hi2p, hi2n, hi2o⟩ := prs_none hi2
        rw [show set.map rI ++ m1.map rI = (set ++ m1).map rI by simp, show set.length + m1.length = (set ++ m1).length by simp, ← prs_slh hi2p (.inr hi2o)]
        refine aops_v rfl rfl rfl (a_assign rfl rfl ?_)
        refine aops_nil ?_
        refine blockE_n ?_
        refine thenE_n ?_
        refine awp_region ?_
        refine aops_v rfl rfl rfl (a_assign rfl rfl ?_)
        refine aops_nil ?_
        refine thenE_n ?_
        refine .done ⟨(st1, set ++ m1, true, (i2, v2), (id2, ver2), m), ⟨by rw [← hJ, classL_one hbn hr1 n45], by dsimp only; omega, hpc2, okP_new hokb hi2o, hi2n, hi2p, hsv.app hm1.1, by simp; omega, by intro _; simp <;> omega⟩, by simp <;> omega, EL, rfl⟩
    · try simp only [zz1, zz2, ne_eq, zz4, zz5, zz6, gt_iff_lt, ge_iff_le, zz9, zz0] at h14
      have n93 := h14
      refine awp_exit ?_
      refine thenE_x ?_
      refine thenE_x ?_
      refine blockE_x ?_
      refine thenE_n ?_
      refine awp_seq ?_
      rw [prs_slh hip (hor.imp (fun h => h) .inr)]
      have hb3 := hb2 rfl
      have hP : classP st = some ((nextS 93 st').push ⟨2, [], 0, 0, if nextB 94 st then othersL 0 (mergedL set) else mergedL set⟩) := by unfold classP; rw [← hJ, classL_end n93]
      refine AWp.ghost (gst_sl 4 rfl (by simp) (prs_is hip hin (.inr (hor.resolve_left (by omega)))) (.done ?_))
      have hmo := mergedL_ok hsv
      have hmo3 := hmo.2.2
      refine awp_region ?_
      refine aops_v rfl rfl rfl (a_move rfl rfl ?_)
      refine aops_call_eq rfl rfl rfl rfl cf184 rfl (merged_spec set _ hsv (by omega) (by omega)) ?_
      refine aops_v rfl rfl rfl (a_assign rfl rfl ?_)
      refine aops_nil ?_
      refine thenE_n ?_
      refine awp_cut (S := List Int) (fun res => [(0, .ref p 0 0), (4, setA res)]) (fun _ => prs σ p id1 ver1 (nextS 93 st')) (fun res => res = if nextB 94 st then othersL 0 (mergedL set) else mergedL set) ?_ ?_
      · skip
        refine awp_seq ?_
        refine awp_region ?_
        refine aops_v rfl rfl rfl (a_move rfl rfl ?_)
        refine aops_nil ?_
        refine thenE_n ?_
        refine awp_cond rfl (fun h27 => ?_) (fun h27 => ?_)
        · try simp only [zz1, zz2, ne_eq, zz4, zz5, zz6, gt_iff_lt, ge_iff_le, zz9, zz0] at h27
          have hb94 := h27
          refine awp_region ?_
          refine aops_v rfl rfl rfl (a_move rfl rfl ?_)
          refine aops_call_eq rfl rfl rfl rfl cf185 rfl (others_spec (mergedL set) _ hmo.1 hmo.2.1 (by omega)) ?_
          refine aops_v rfl rfl rfl (a_assign rfl rfl ?_)
          refine aops_nil ?_
          refine thenE_n ?_
          first | exact .done ⟨othersL 0 (mergedL set), (if_pos hb94).symm, EL, rfl⟩ | exact .done ⟨mergedL set, (if_neg (by simp [hb94])).symm, EL, rfl⟩
        · try simp only [zz1, zz2, ne_eq, zz4, zz5, zz6, gt_iff_lt, ge_iff_le, zz9, zz0] at h27
          have hb94 := h27
          refine awp_skip ?_
          refine thenE_n ?_
          first | exact .done ⟨othersL 0 (mergedL set), (if_pos hb94).symm, EL, rfl⟩ | exact .done ⟨mergedL set, (if_neg (by simp [hb94])).symm, EL, rfl⟩
      intro res hres
      refine awp_seq ?_
      refine awp_region ?_
      refine aops_v rfl rfl rfl (a_move rfl rfl ?_)
      refine aops_v rfl rfl rfl (a_move rfl rfl ?_)
      refine aops_v rfl rfl rfl (a_build (res := [_, _, _, _, _]) rfl bk149 rfl rfl ?_)
      refine aops_call_res rfl rfl rfl rfl cf126 rfl ((node_spec p id1 ver1 (nextS 93 st') ⟨2, [], 0, 0, res⟩ _ h0 hok2 (by have := (hpc'.go (next_go n93) (d := 0) (by omega)).phi; omega)).wk (by refine .cons wk_refl (.cons (wk_agg ?_) .nil); repeat (first | exact .nil | refine .cons wk_refl ?_ | refine .cons wk_nil ?_ | refine .cons wk_ex ?_))) (fun h28 => ?_) ?_
      · change Gst _ _ _ _
        exact absurd h28 (by simp)
      rintro ⟨k9, st9⟩ ⟨id9, ver9⟩ hr9 hok9
      simp only [Option.some.injEq] at hr9
      dsimp only
      refine aops_v rfl rfl rfl (a_assign rfl rfl ?_)
      refine aops_nil ?_
      refine thenE_n ?_
      refine awp_ret ?_
      change Gst _ _ _ _
      refine fin1 rfl ?_
      exact parR_ok (by rw [hP, ← hres, hr9]) hok9

end Go.Proofs.YtnahdpjbddfhgaaGreatDoor
set_option linter.unusedVariables false
set_option linter.unusedSimpArgs false
namespace Go.Proofs.YtnahdpjbddfhgaaGreatDoor
open Go Go.AL
set_option maxRecDepth 100000

theorem atomP_spec (p id ver : Nat) (st : PS) (m : Nat) (alt : PS → Option (Int × PS)) (halt : ParOk 66 alt 1 m) (σ : AHeap) (h0 : σ p = none) (hok : okP σ p (id, ver)) (hgo : ∀ k st st', alt st = some (k, st') → Gn 0 1 st st') (hpc : PC 0 st) (hm : st.s.length < m + 1) : ASpec Tryz.prog 149 [.ref p 0 0] (prs σ p id ver st) fun r σ' => ParR σ p (atomOf alt st) int r σ' := by
  refine aspec_enter (N := 81) (rs := [.tmp 2]) Tryz.func149 rfl rfl rfl rfl rfl rfl ?_
  refine awp_seq ?_
  refine awp_region ?_
  refine aops_v rfl rfl rfl (a_assign rfl rfl ?_)
  refine aops_nil ?_
  refine thenE_n ?_
  refine awp_seq ?_
  refine awp_region ?_
  refine aops_v rfl rfl rfl (a_move rfl rfl ?_)
  refine aops_call_res rfl rfl rfl rfl cf166 rfl (takeP_spec p id ver st _ h0 hok) (fun h1 => ?_) ?_
  · change Gst _ _ _ _
    refine .done (flt_none (by simp [atomOf, h1]))
  rintro ⟨r, st1⟩ ⟨id2, ver2⟩ hr hok2
  dsimp only
  have g1 := take_go hr
  have hpc1 : PC 4 st1 := hpc.go g1 (by omega)
  have hl1 := g1.less (by omega)
  have hph := hpc1.phi
  have hdD := hpc.d1; have hdE := g1.deep
  obtain ⟨hv1, hv2, hv3⟩ : 0 ≤ r ∧ r ≤ 1114111 ∧ (r < 55296 ∨ 57343 < r) := by
    obtain ⟨s, out, dp, mo⟩ := st
    obtain ⟨s1, out1, dp1, mo1⟩ := st1
    obtain ⟨rfl, _⟩ := takeP_inv hr
    exact hpc.rn r List.mem_cons_self
  refine aops_v rfl rfl rfl (a_assign rfl rfl ?_)
  refine aops_nil ?_
  refine thenE_n ?_
  refine awp_seq ?_
  refine awp_region ?_
  refine aops_v rfl rfl rfl (a_move rfl rfl ?_)
  refine aops_nil ?_
  refine thenE_n ?_
  refine awp_block ?_
  refine awp_seq ?_
  refine awp_region ?_
  refine aops_v rfl rfl rfl (a_int rfl rfl rfl rfl ?_)
  refine aops_v rfl rfl rfl (a_assign rfl rfl ?_)
  refine aops_nil ?_
  refine thenE_n ?_
  refine awp_cond rfl (fun h2 => ?_) (fun h2 => ?_)
  · try simp only [zz1, zz2, ne_eq, zz4, zz5, zz6, gt_iff_lt, ge_iff_le, zz9, zz0] at h2
    have e := h2
    subst e
    obtain ⟨s1, out1, dp1, mo1⟩ := st1
    obtain ⟨_, hne2⟩ := hok2
    have hok2 : okP σ p (id2, ver2) := ⟨‹_›, hne2⟩
    have hd0 := hpc1.d0; have hd1 := hpc1.d1; have hm0 := hpc1.m0; have hm1 := hpc1.m1
    dsimp only at hd0 hd1 hm0 hm1 hne2 hl1 hph hdE
    refine awp_seq ?_
    refine awp_region ?_
    refine aops_v rfl rfl rfl (a_move rfl rfl ?_)
    first | refine aops_v rfl rfl rfl (a_nilCheck rfl rfl ?_) | refine aops_v rfl rfl rfl (a_nilCheck_pin rfl rfl ?_) | refine aops_v rfl rfl rfl (a_nilCheck_clo rfl rfl ?_)
    first | refine aops_v rfl rfl rfl (a_fieldAddr rfl fk119_2 rfl rfl ?_) | refine aops_v rfl rfl rfl (a_fieldAddr_pin rfl fk119_2 rfl rfl ?_)
    first | refine aops_v rfl rfl rfl (a_load_pin rfl tk3 rfl rfl ?_) | refine aops_v rfl rfl rfl (a_load rfl tk3 rfl HP rfl ?_)
    first | refine aops_v rfl rfl rfl (a_add rfl rfl rfl (by simp only [Go.AL.lo, Go.AL.hi]; omega) ?_) | refine aops_v rfl rfl rfl (a_int rfl rfl rfl rfl ?_)
    first | refine aops_v rfl rfl rfl (a_nilCheck rfl rfl ?_) | refine aops_v rfl rfl rfl (a_nilCheck_pin rfl rfl ?_) | refine aops_v rfl rfl rfl (a_nilCheck_clo rfl rfl ?_)
    first | refine aops_v rfl rfl rfl (a_fieldAddr rfl fk119_2 rfl rfl ?_) | refine aops_v rfl rfl rfl (a_fieldAddr_pin rfl fk119_2 rfl rfl ?_)
    first | refine aops_s rfl rfl (a_store_n (cs2 := [_, _, _, _]) rfl tk3 rfl rfl HP rfl rfl (by first | decide | (simp; done) | (simp; omega)) rfl ?_) | refine aops_s rfl rfl (a_store rfl tk3 rfl rfl HP rfl rfl (by first | decide | (simp [stv, AV.cells]; done) | (simp [stv, AV.cells]; omega)) ?_)
    rw [prs_set hne2]
    refine aops_nil ?_
    refine thenE_n ?_
    refine awp_seq ?_
    refine awp_draw [0, 0, 2, 6, 14, 0, 32, 96, 224, 510, 1023, 2047, 4095] 12 rfl (by decide +kernel) (by decide +kernel) (by decide +kernel) rfl ?_
    simp only [List.take_succ_cons, List.take_zero, List.take_nil, List.drop_succ_cons, List.drop_zero, List.drop_nil]
    refine dp_val rfl (apure_val (a_move rfl rfl pure_done)) rfl ?_
    refine dp_val rfl (apure_val (a_move rfl rfl pure_done)) rfl ?_
    first | refine dp_val rfl (apure_val (a_nilCheck rfl rfl pure_done)) rfl ?_ | refine dp_val rfl (apure_val (a_nilCheck_pin rfl rfl pure_done)) rfl ?_ | refine dp_val rfl (apure_val (a_nilCheck_clo rfl rfl pure_done)) rfl ?_
    first | refine dp_val rfl (apure_val (a_fieldAddr rfl fk119_3 rfl rfl pure_done)) rfl ?_ | refine dp_val rfl (apure_val (a_fieldAddr_pin rfl fk119_3 rfl rfl pure_done)) rfl ?_
    first | refine dp_val rfl (apure_val (a_load_pin rfl tk3 rfl rfl pure_done)) rfl ?_ | refine dp_val rfl (apure_val (a_load rfl tk3 rfl HP rfl pure_done)) rfl ?_
    refine dp_val rfl (apure_val (a_move rfl rfl pure_done)) rfl ?_
    first | refine dp_val rfl (apure_val (a_nilCheck rfl rfl pure_done)) rfl ?_ | refine dp_val rfl (apure_val (a_nilCheck_pin rfl rfl pure_done)) rfl ?_ | refine dp_val rfl (apure_val (a_nilCheck_clo rfl rfl pure_done)) rfl ?_
    first | refine dp_val rfl (apure_val (a_fieldAddr rfl fk119_2 rfl rfl pure_done)) rfl ?_ | refine dp_val rfl (apure_val (a_fieldAddr_pin rfl fk119_2 rfl rfl pure_done)) rfl ?_
    first | refine dp_val rfl (apure_val (a_load_pin rfl tk3 rfl rfl pure_done)) rfl ?_ | refine dp_val rfl (apure_val (a_load rfl tk3 rfl HP rfl pure_done)) rfl ?_
    refine dp_val rfl (apure_val (a_max rfl rfl rfl pure_done)) rfl ?_
    rw [imax_gt]
    first | refine dp_val rfl (apure_val (a_nilCheck rfl rfl pure_done)) rfl ?_ | refine dp_val rfl (apure_val (a_nilCheck_pin rfl rfl pure_done)) rfl ?_ | refine dp_val rfl (apure_val (a_nilCheck_clo rfl rfl pure_done)) rfl ?_
    first | refine dp_val rfl (apure_val (a_fieldAddr rfl fk119_3 rfl rfl pure_done)) rfl ?_ | refine dp_val rfl (apure_val (a_fieldAddr_pin rfl fk119_3 rfl rfl pure_done)) rfl ?_
    change AOps _ _ _ _ _ _ _
    first | refine aops_s rfl rfl (a_store_n (cs2 := [_, _, _, _]) rfl tk3 rfl rfl HP rfl rfl (by first | decide | (simp; done) | (simp; omega)) rfl ?_) | refine aops_s rfl rfl (a_store rfl tk3 rfl rfl HP rfl rfl (by first | decide | (simp [stv, AV.cells]; done) | (simp [stv, AV.cells]; omega)) ?_)
    rw [prs_set hne2]
    refine aops_nil ?_
    refine thenE_n ?_
    refine awp_seq ?_
    refine awp_region ?_
    refine aops_v rfl rfl rfl (a_move rfl rfl ?_)
    refine aops_call_res rfl rfl rfl rfl cf66 rfl (halt p id2 ver2 (deeper ⟨s1, out1, dp1, mo1⟩) σ h0 hok2 ⟨hpc1.rn, by simp only [deeper]; omega, by simp only [deeper]; omega, by simp only [deeper]; omega, by simp only [deeper]; omega, by simp only [deeper]; omega⟩ (by simp only [deeper]; omega)) (fun h3 => ?_) ?_
    · change Gst _ _ _ _
      refine .done (flt_none (by simp [atomOf, hr, h3]))
    rintro ⟨k, st2⟩ ⟨id3, ver3⟩ hr2 hok3
    dsimp only
    have g2 := hgo _ _ _ hr2
    have hdp := g2.deep
    simp only [deeper] at hdp
    refine aops_v rfl rfl rfl (a_assign rfl rfl ?_)
    refine aops_nil ?_
    refine thenE_n ?_
    refine awp_seq ?_
    refine awp_region ?_
    refine aops_v rfl rfl rfl (a_move rfl rfl ?_)
    refine aops_v rfl rfl rfl (a_move rfl rfl ?_)
    refine aops_call_eq rfl rfl rfl rfl cf99 rfl (nextP_spec p id3 ver3 st2 41 _ h0 hok3) ?_
    refine aops_call_res rfl rfl rfl rfl cf67 rfl (must_spec _ _ _) (fun h4 => ?_) ?_
    · change Gst _ _ _ _
      refine gst_sub σ (prs_sub h0 hok3.1) ?_
      refine .done (flt_none (by simp [atomOf, hr, hr2] at h4 ⊢; exact h4))
    rintro ⟨⟩ ⟨⟩ hmu _
    try dsimp only
    have n41 : nextB 41 st2 = true := by simpa using hmu
    obtain ⟨q1, q2, q3, q4⟩ := nextS_yes n41
    obtain ⟨st3, hst3⟩ : ∃ q, nextS 41 st2 = q := ⟨_, rfl⟩
    rw [hst3] at q1 q2 q3 q4 ⊢
    obtain ⟨s3, out3, dp3, mo3⟩ := st3
    obtain ⟨_, hne3⟩ := hok3
    have hok3 : okP σ p (id3, ver3) := ⟨‹_›, hne3⟩
    dsimp only at hne3 q3
    refine aops_nil ?_
    refine thenE_n ?_
    refine awp_seq ?_
    refine awp_region ?_
    refine aops_v rfl rfl rfl (a_move rfl rfl ?_)
    first | refine aops_v rfl rfl rfl (a_nilCheck rfl rfl ?_) | refine aops_v rfl rfl rfl (a_nilCheck_pin rfl rfl ?_) | refine aops_v rfl rfl rfl (a_nilCheck_clo rfl rfl ?_)
    first | refine aops_v rfl rfl rfl (a_fieldAddr rfl fk119_2 rfl rfl ?_) | refine aops_v rfl rfl rfl (a_fieldAddr_pin rfl fk119_2 rfl rfl ?_)
    first | refine aops_v rfl rfl rfl (a_load_pin rfl tk3 rfl rfl ?_) | refine aops_v rfl rfl rfl (a_load rfl tk3 rfl HP rfl ?_)
    first | refine aops_v rfl rfl rfl (a_sub rfl rfl rfl (by simp only [Go.AL.lo, Go.AL.hi]; omega) ?_) | refine aops_v rfl rfl rfl (a_int rfl rfl rfl rfl ?_)
    first | refine aops_v rfl rfl rfl (a_nilCheck rfl rfl ?_) | refine aops_v rfl rfl rfl (a_nilCheck_pin rfl rfl ?_) | refine aops_v rfl rfl rfl (a_nilCheck_clo rfl rfl ?_)
    first | refine aops_v rfl rfl rfl (a_fieldAddr rfl fk119_2 rfl rfl ?_) | refine aops_v rfl rfl rfl (a_fieldAddr_pin rfl fk119_2 rfl rfl ?_)
    first | refine aops_s rfl rfl (a_store_n (cs2 := [_, _, _, _]) rfl tk3 rfl rfl HP rfl rfl (by first | decide | (simp; done) | (simp; omega)) rfl ?_) | refine aops_s rfl rfl (a_store rfl tk3 rfl rfl HP rfl rfl (by first | decide | (simp [stv, AV.cells]; done) | (simp [stv, AV.cells]; omega)) ?_)
    rw [prs_set hne3]
    refine aops_nil ?_
    refine thenE_n ?_
    refine awp_seq ?_
    refine awp_region ?_
    refine aops_v rfl rfl rfl (a_move rfl rfl ?_)
    refine aops_v rfl rfl rfl (a_assign rfl rfl ?_)
    refine aops_nil ?_
    refine thenE_n ?_
    refine awp_ret ?_
    change Gst _ _ _ _
    refine fin1 rfl ?_
    exact parR_ok (by simp [atomOf, hr, hr2, n41, hst3, upper]) hok3
  · try simp only [zz1, zz2, ne_eq, zz4, zz5, zz6, gt_iff_lt, ge_iff_le, zz9, zz0] at h2
    have n40 := h2
    refine awp_seq ?_
    refine awp_region ?_
    refine aops_v rfl rfl rfl (a_int rfl rfl rfl rfl ?_)
    refine aops_v rfl rfl rfl (a_assign rfl rfl ?_)
    refine aops_nil ?_
    refine thenE_n ?_
    refine awp_cond rfl (fun h5 => ?_) (fun h5 => ?_)
    · try simp only [zz1, zz2, ne_eq, zz4, zz5, zz6, gt_iff_lt, ge_iff_le, zz9, zz0] at h5
      have e := h5
      subst e
      refine awp_seq ?_
      refine awp_region ?_
      refine aops_v rfl rfl rfl (a_move rfl rfl ?_)
      refine aops_call_res rfl rfl rfl rfl cf167 rfl (classP_spec p id2 ver2 st1 σ h0 hok2 (hpc1.go (Gn.refl _) (by omega))) (fun h6 => ?_) ?_
      · change Gst _ _ _ _
        refine .done (flt_none (by simp [atomOf, hr, h6]))
      rintro ⟨k9, st9⟩ ⟨id9, ver9⟩ hr9 hok9
      dsimp only
      refine aops_v rfl rfl rfl (a_assign rfl rfl ?_)
      refine aops_nil ?_
      refine thenE_n ?_
      refine awp_ret ?_
      change Gst _ _ _ _
      refine fin1 rfl ?_
      exact parR_ok (by simp [atomOf, hr, hr9]) hok9
    · try simp only [zz1, zz2, ne_eq, zz4, zz5, zz6, gt_iff_lt, ge_iff_le, zz9, zz0] at h5
      have n91 := h5
      refine awp_seq ?_
      refine awp_region ?_
      refine aops_v rfl rfl rfl (a_int rfl rfl rfl rfl ?_)
      refine aops_v rfl rfl rfl (a_assign rfl rfl ?_)
      refine aops_nil ?_
      refine thenE_n ?_
      refine awp_cond rfl (fun h7 => ?_) (fun h7 => ?_)
      · try simp only [zz1, zz2, ne_eq, zz4, zz5, zz6, gt_iff_lt, ge_iff_le, zz9, zz0] at h7
        have e := h7
        subst e
        refine awp_seq ?_
        refine awp_region ?_
        refine aops_v rfl rfl rfl (a_move rfl rfl ?_)
        refine aops_v rfl rfl rfl (a_buildSlice (res := [_, _, _, _]) rfl sk59 rfl rfl rfl ?_)
        refine aops_v rfl rfl rfl (a_build (res := [_, _, _, _, _]) rfl bk149 rfl rfl ?_)
        refine aops_call_res rfl rfl rfl rfl cf126 rfl ((node_spec p id2 ver2 st1 ⟨2, [], 0, 0, [0, 9, 11, 1114111]⟩ σ h0 hok2 (by omega)).wk (by refine .cons wk_refl (.cons (wk_agg ?_) .nil); repeat (first | exact .nil | refine .cons wk_refl ?_ | refine .cons wk_nil ?_ | refine .cons wk_ex ?_))) (fun h8 => ?_) ?_
        · change Gst _ _ _ _
          exact absurd h8 (by simp)
        rintro ⟨k9, st9⟩ ⟨id9, ver9⟩ hr9 hok9
        simp only [Option.some.injEq] at hr9
        dsimp only
        refine aops_v rfl rfl rfl (a_assign rfl rfl ?_)
        refine aops_nil ?_
        refine thenE_n ?_
        refine awp_ret ?_
        change Gst _ _ _ _
        refine fin1 rfl ?_
        exact parR_ok (by simp [atomOf, hr, hr9]) hok9
      · try simp only [zz1, zz2, ne_eq, zz4, zz5, zz6, gt_iff_lt, ge_iff_le, zz9, zz0] at h7
        have n46 := h7
        refine awp_seq ?_
        refine awp_region ?_
        refine aops_v rfl rfl rfl (a_int rfl rfl rfl rfl ?_)
        refine aops_v rfl rfl rfl (a_assign rfl rfl ?_)
        refine aops_nil ?_
        refine thenE_n ?_
        refine awp_cond rfl (fun h9 => ?_) (fun h9 => ?_)
        · try simp only [zz1, zz2, ne_eq, zz4, zz5, zz6, gt_iff_lt, ge_iff_le, zz9, zz0] at h9
          have e := h9
          subst e
          refine awp_seq ?_
          refine awp_region ?_
          refine aops_v rfl rfl rfl (a_move rfl rfl ?_)
          refine aops_v rfl rfl rfl (a_build (res := [_, _, _, _, _]) rfl bk149 rfl rfl ?_)
          refine aops_call_res rfl rfl rfl rfl cf126 rfl ((node_spec p id2 ver2 st1 ⟨6, [], 0, 0, []⟩ σ h0 hok2 (by omega)).wk (by refine .cons wk_refl (.cons (wk_agg ?_) .nil); repeat (first | exact .nil | refine .cons wk_refl ?_ | refine .cons wk_nil ?_ | refine .cons wk_ex ?_))) (fun h10 => ?_) ?_
          · change Gst _ _ _ _
            exact absurd h10 (by simp)
          rintro ⟨k9, st9⟩ ⟨id9, ver9⟩ hr9 hok9
          simp only [Option.some.injEq] at hr9
          dsimp only
          refine aops_v rfl rfl rfl (a_assign rfl rfl ?_)
          refine aops_nil ?_
          refine thenE_n ?_
          refine awp_ret ?_
          change Gst _ _ _ _
          refine fin1 rfl ?_
          exact parR_ok (by simp [atomOf, hr, hr9]) hok9
        · try simp only [zz1, zz2, ne_eq, zz4, zz5, zz6, gt_iff_lt, ge_iff_le, zz9, zz0] at h9
          have n94 := h9
          refine awp_seq ?_
          refine awp_region ?_
          refine aops_v rfl rfl rfl (a_int rfl rfl rfl rfl ?_)
          refine aops_v rfl rfl rfl (a_assign rfl rfl ?_)
          refine aops_nil ?_
          refine thenE_n ?_
          refine awp_cond rfl (fun h11 => ?_) (fun h11 => ?_)
          · try simp only [zz1, zz2, ne_eq, zz4, zz5, zz6, gt_iff_lt, ge_iff_le, zz9, zz0] at h11
            have e := h11
            subst e
            refine awp_seq ?_
            refine awp_region ?_
            refine aops_v rfl rfl rfl (a_move rfl rfl ?_)
            refine aops_v rfl rfl rfl (a_build (res := [_, _, _, _, _]) rfl bk149 rfl rfl ?_)
            refine aops_call_res rfl rfl rfl rfl cf126 rfl ((node_spec p id2 ver2 st1 ⟨7, [], 0, 0, []⟩ σ h0 hok2 (by omega)).wk (by refine .cons wk_refl (.cons (wk_agg ?_) .nil); repeat (first | exact .nil | refine .cons wk_refl ?_ | refine .cons wk_nil ?_ | refine .cons wk_ex ?_))) (fun h12 => ?_) ?_
            · change Gst _ _ _ _
              exact absurd h12 (by simp)
            rintro ⟨k9, st9⟩ ⟨id9, ver9⟩ hr9 hok9
            simp only [Option.some.injEq] at hr9
            dsimp only
            refine aops_v rfl rfl rfl (a_assign rfl rfl ?_)
            refine aops_nil ?_
            refine thenE_n ?_
            refine awp_ret ?_
            change Gst _ _ _ _
            refine fin1 rfl ?_
            exact parR_ok (by simp [atomOf, hr, hr9]) hok9
          · try simp only [zz1, zz2, ne_eq, zz4, zz5, zz6, gt_iff_lt, ge_iff_le, zz9, zz0] at h11
            have n36 := h11
            refine awp_seq ?_
            refine awp_region ?_
            refine aops_v rfl rfl rfl (a_int rfl rfl rfl rfl ?_)
            refine aops_v rfl rfl rfl (a_assign rfl rfl ?_)
            refine aops_nil ?_
            refine thenE_n ?_
            refine awp_cond rfl (fun h13 => ?_) (fun h13 => ?_)
            · try simp only [zz1, zz2, ne_eq, zz4, zz5, zz6, gt_iff_lt, ge_iff_le, zz9, zz0] at h13
              have e := h13
              subst e
              refine awp_seq ?_
              refine awp_region ?_
              refine aops_v rfl rfl rfl (a_move rfl rfl ?_)
              refine aops_v rfl rfl rfl (a_move rfl rfl ?_)
              refine aops_call_res rfl rfl rfl rfl cf168 rfl (escapeP_spec p id2 ver2 st1 σ h0 hok2 hpc1.rn) (fun h14 => ?_) ?_
              · change Gst _ _ _ _
                refine .done (flt_none (by simp [atomOf, hr, h14]))
              rintro ⟨set, st2⟩ ⟨id3, ver3⟩ hr2 hok3
              dsimp only
              have hph2 := (hpc1.go (escape_go hr2) (d := 0) (by omega)).phi
              refine aops_v rfl rfl rfl (a_build (res := [_, _, _, _, _]) rfl bk149 rfl rfl ?_)
              refine aops_call_res rfl rfl rfl rfl cf126 rfl ((node_spec p id3 ver3 st2 ⟨2, [], 0, 0, set⟩ σ h0 hok3 (by omega)).wk (by refine .cons wk_refl (.cons (wk_agg ?_) .nil); repeat (first | exact .nil | refine .cons wk_refl ?_ | refine .cons wk_nil ?_ | refine .cons wk_ex ?_))) (fun h15 => ?_) ?_
              · change Gst _ _ _ _
                exact absurd h15 (by simp)
              rintro ⟨k9, st9⟩ ⟨id9, ver9⟩ hr9 hok9
              simp only [Option.some.injEq] at hr9
              dsimp only
              refine aops_v rfl rfl rfl (a_assign rfl rfl ?_)
              refine aops_nil ?_
              refine thenE_n ?_
              refine awp_ret ?_
              change Gst _ _ _ _
              refine fin1 rfl ?_
              exact parR_ok (by simp [atomOf, hr, hr2, hr9]) hok9
            · try simp only [zz1, zz2, ne_eq, zz4, zz5, zz6, gt_iff_lt, ge_iff_le, zz9, zz0] at h13
              have n92 := h13
              refine awp_seq ?_
              refine awp_region ?_
              refine aops_v rfl rfl rfl (a_move rfl rfl ?_)
              refine aops_v rfl rfl rfl (a_move rfl rfl ?_)
              refine aops_call_eq rfl rfl rfl rfl cf112 rfl (containsRune_spec _ _ _ hv1 hv2 hv3 (by decide) (by decide) (by decide)) ?_
              refine aops_v rfl rfl rfl (a_not rfl rfl ?_)
              refine aops_call_res rfl rfl rfl rfl cf67 rfl (must_spec _ _ _) (fun h16 => ?_) ?_
              · change Gst _ _ _ _
                refine gst_sub σ (prs_sub h0 hok2.1) ?_
                refine .done (flt_none (by simp [atomOf, hr, n40, n91, n46, n94, n36, n92]; simpa [asI, special] using h16))
              rintro ⟨⟩ ⟨⟩ hmu _
              try dsimp only
              have hsp : oneOf special r = false := by simpa [asI, special] using hmu
              refine aops_nil ?_
              refine thenE_n ?_
              refine awp_seq ?_
              refine awp_region ?_
              refine aops_v rfl rfl rfl (a_move rfl rfl ?_)
              refine aops_v rfl rfl rfl (a_move rfl rfl ?_)
              refine aops_v rfl rfl rfl (a_move rfl rfl ?_)
              refine aops_v rfl rfl rfl (a_buildSlice (res := [_, _]) rfl sk59 rfl rfl rfl ?_)
              refine aops_v rfl rfl rfl (a_build (res := [_, _, _, _, _]) rfl bk149 rfl rfl ?_)
              refine aops_call_res rfl rfl rfl rfl cf126 rfl ((node_spec p id2 ver2 st1 ⟨2, [], 0, 0, [r, r]⟩ σ h0 hok2 (by omega)).wk (by refine .cons wk_refl (.cons (wk_agg ?_) .nil); repeat (first | exact .nil | refine .cons wk_refl ?_ | refine .cons wk_nil ?_ | refine .cons wk_ex ?_))) (fun h17 => ?_) ?_
              · change Gst _ _ _ _
                exact absurd h17 (by simp)
              rintro ⟨k9, st9⟩ ⟨id9, ver9⟩ hr9 hok9
              simp only [Option.some.injEq] at hr9
              dsimp only
              refine aops_v rfl rfl rfl (a_assign rfl rfl ?_)
              refine aops_nil ?_
              refine thenE_n ?_
              refine awp_ret ?_
              change Gst _ _ _ _
              refine fin1 rfl ?_
              exact parR_ok (by simp [atomOf, hr, n40, n91, n46, n94, n36, n92, hsp, hr9]) hok9

end Go.Proofs.YtnahdpjbddfhgaaGreatDoor
set_option linter.unusedVariables false
set_option linter.unusedSimpArgs false
namespace Go.Proofs.YtnahdpjbddfhgaaGreatDoor
open Go Go.AL
set_option maxRecDepth 100000
theorem pc_next {c : Nat} {st : PS} (h : PC c st) (x : Int) : PC c (nextS x st) := by
  cases hb : nextB x st with
  | true => exact h.go (next_go hb) (by omega)
  | false => rw [nextS_no hb]; exact h

theorem itemP_spec (p id ver : Nat) (st : PS) (m : Nat) (alt : PS → Option (Int × PS)) (halt : ParOk 66 alt 1 m) (σ : AHeap) (h0 : σ p = none) (hok : okP σ p (id, ver)) (hgo : ∀ k st st', alt st = some (k, st') → Gn 0 1 st st') (hpc : PC 0 st) (hm : st.s.length < m + 1) : ASpec Tryz.prog 125 [.ref p 0 0] (prs σ p id ver st) fun r σ' => ParR σ p (itemOf alt st) int r σ' := by
  refine aspec_enter (N := 44) (rs := [.tmp 2]) Tryz.func125 rfl rfl rfl rfl rfl rfl ?_
  refine awp_seq ?_
  refine awp_region ?_
  refine aops_v rfl rfl rfl (a_assign rfl rfl ?_)
  refine aops_nil ?_
  refine thenE_n ?_
  refine awp_seq ?_
  refine awp_region ?_
  refine aops_v rfl rfl rfl (a_move rfl rfl ?_)
  refine aops_call_res rfl rfl rfl rfl cf149 rfl (atomP_spec p id ver st m alt halt σ h0 hok hgo hpc hm) (fun h1 => ?_) ?_
  · change Gst _ _ _ _
    refine .done (flt_none (by simp [itemOf, h1]))
  rintro ⟨kid, st1⟩ ⟨id2, ver2⟩ hr hok2
  dsimp only
  have g1 := atom_go hgo hr
  have hpc1 : PC 0 st1 := hpc.go g1 (by omega)
  refine aops_v rfl rfl rfl (a_assign rfl rfl ?_)
  refine aops_nil ?_
  refine thenE_n ?_
  refine awp_seq ?_
  refine awp_region ?_
  refine aops_v rfl rfl rfl (a_assign rfl rfl ?_)
  refine aops_v rfl rfl rfl (a_assign rfl rfl ?_)
  refine aops_nil ?_
  refine thenE_n ?_
  refine awp_cut (S := Int × Int × PS × Nat × Nat) (fun x => [(0, .ref p 0 0), (3, int kid), (4, int x.1), (5, int x.2.1)]) (fun x => prs σ p x.2.2.2.1 x.2.2.2.2 x.2.2.1) (fun x => okP σ p x.2.2.2 ∧ itemOf alt st = repOf kid x.1 x.2.1 x.2.2.1 ∧ PC 0 x.2.2.1) ?_ ?_
  · skip
    refine awp_block ?_
    refine awp_seq ?_
    refine awp_region ?_
    refine aops_v rfl rfl rfl (a_move rfl rfl ?_)
    refine aops_call_eq rfl rfl rfl rfl cf99 rfl (nextP_spec p id2 ver2 st1 42 _ h0 hok2) ?_
    refine aops_v rfl rfl rfl (a_assign rfl rfl ?_)
    refine aops_nil ?_
    refine thenE_n ?_
    refine awp_cond rfl (fun h2 => ?_) (fun h2 => ?_)
    · try simp only [zz1, zz2, ne_eq, zz4, zz5, zz6, gt_iff_lt, ge_iff_le, zz9, zz0] at h2
      have n42 := h2
      refine awp_skip ?_
      refine blockE_n ?_
      refine thenE_n ?_
      exact .done ⟨(0, -1, nextS 42 st1, id2, ver2), ⟨hok2, by simp [itemOf, hr, n42], pc_next hpc1 _⟩, EL, rfl⟩
    · try simp only [zz1, zz2, ne_eq, zz4, zz5, zz6, gt_iff_lt, ge_iff_le, zz9, zz0] at h2
      have n42 := h2
      rw [nextS_no n42]
      refine awp_seq ?_
      refine awp_region ?_
      refine aops_v rfl rfl rfl (a_move rfl rfl ?_)
      refine aops_call_eq rfl rfl rfl rfl cf99 rfl (nextP_spec p id2 ver2 st1 43 _ h0 hok2) ?_
      refine aops_v rfl rfl rfl (a_assign rfl rfl ?_)
      refine aops_nil ?_
      refine thenE_n ?_
      refine awp_cond rfl (fun h3 => ?_) (fun h3 => ?_)
      · try simp only [zz1, zz2, ne_eq, zz4, zz5, zz6, gt_iff_lt, ge_iff_le, zz9, zz0] at h3
        have n43 := h3
        refine awp_region ?_
        refine aops_v rfl rfl rfl (a_assign rfl rfl ?_)
        refine aops_nil ?_
        refine blockE_n ?_
        refine thenE_n ?_
        exact .done ⟨(1, -1, nextS 43 st1, id2, ver2), ⟨hok2, by simp [itemOf, hr, n42, n43], pc_next hpc1 _⟩, EL, rfl⟩
      · try simp only [zz1, zz2, ne_eq, zz4, zz5, zz6, gt_iff_lt, ge_iff_le, zz9, zz0] at h3
        have n43 := h3
        rw [nextS_no n43]
        refine awp_seq ?_
        refine awp_region ?_
        refine aops_v rfl rfl rfl (a_move rfl rfl ?_)
        refine aops_call_eq rfl rfl rfl rfl cf99 rfl (nextP_spec p id2 ver2 st1 63 _ h0 hok2) ?_
        refine aops_v rfl rfl rfl (a_assign rfl rfl ?_)
        refine aops_nil ?_
        refine thenE_n ?_
        refine awp_cond rfl (fun h4 => ?_) (fun h4 => ?_)
        · try simp only [zz1, zz2, ne_eq, zz4, zz5, zz6, gt_iff_lt, ge_iff_le, zz9, zz0] at h4
          have n63 := h4
          refine awp_region ?_
          refine aops_v rfl rfl rfl (a_assign rfl rfl ?_)
          refine aops_nil ?_
          refine blockE_n ?_
          refine thenE_n ?_
          exact .done ⟨(0, 1, nextS 63 st1, id2, ver2), ⟨hok2, by simp [itemOf, hr, n42, n43, n63], pc_next hpc1 _⟩, EL, rfl⟩
        · try simp only [zz1, zz2, ne_eq, zz4, zz5, zz6, gt_iff_lt, ge_iff_le, zz9, zz0] at h4
          have n63 := h4
          rw [nextS_no n63]
          refine awp_seq ?_
          refine awp_region ?_
          refine aops_v rfl rfl rfl (a_move rfl rfl ?_)
          refine aops_call_eq rfl rfl rfl rfl cf99 rfl (nextP_spec p id2 ver2 st1 123 _ h0 hok2) ?_
          refine aops_v rfl rfl rfl (a_assign rfl rfl ?_)
          refine aops_nil ?_
          refine thenE_n ?_
          refine awp_cond rfl (fun h5 => ?_) (fun h5 => ?_)
          · try simp only [zz1, zz2, ne_eq, zz4, zz5, zz6, gt_iff_lt, ge_iff_le, zz9, zz0] at h5
            have n123 := h5
            have hpc2 := pc_next hpc1 123
            refine awp_seq ?_
            refine awp_region ?_
            refine aops_v rfl rfl rfl (a_move rfl rfl ?_)
            refine aops_call_res rfl rfl rfl rfl cf150 rfl (digitP_spec p id2 ver2 (nextS 123 st1) _ h0 hok2) (fun h6 => ?_) ?_
            · change Gst _ _ _ _
              refine .done (flt_none (by simp [itemOf, hr, n42, n43, n63, n123, countP, h6]))
            rintro ⟨lo, st2⟩ ⟨id3, ver3⟩ hr2 hok3
            dsimp only
            obtain ⟨g2, hlo0, hlo8⟩ := digit_go hr2
            have hpc3 : PC 0 st2 := hpc2.go g2 (by omega)
            refine aops_v rfl rfl rfl (a_assign rfl rfl ?_)
            refine aops_nil ?_
            refine thenE_n ?_
            refine awp_seq ?_
            refine awp_region ?_
            refine aops_v rfl rfl rfl (a_move rfl rfl ?_)
            refine aops_v rfl rfl rfl (a_assign rfl rfl ?_)
            refine aops_nil ?_
            refine thenE_n ?_
            refine awp_seq ?_
            refine awp_seq ?_
            refine awp_region ?_
            refine aops_v rfl rfl rfl (a_move rfl rfl ?_)
            refine aops_call_eq rfl rfl rfl rfl cf99 rfl (nextP_spec p id3 ver3 st2 44 _ h0 hok3) ?_
            refine aops_nil ?_
            refine thenE_n ?_
            refine awp_cond rfl (fun h7 => ?_) (fun h7 => ?_)
            · try simp only [zz1, zz2, ne_eq, zz4, zz5, zz6, gt_iff_lt, ge_iff_le, zz9, zz0] at h7
              have n44 := h7
              have hpc4 := pc_next hpc3 44
              refine awp_region ?_
              refine aops_v rfl rfl rfl (a_move rfl rfl ?_)
              refine aops_call_res rfl rfl rfl rfl cf150 rfl (digitP_spec p id3 ver3 (nextS 44 st2) _ h0 hok3) (fun h8 => ?_) ?_
              · change Gst _ _ _ _
                refine .done (flt_none (by simp [itemOf, hr, n42, n43, n63, n123, countP, hr2, n44, h8]))
              rintro ⟨hi, st3⟩ ⟨id4, ver4⟩ hr3 hok4
              dsimp only
              obtain ⟨g3, hhi0, hhi8⟩ := digit_go hr3
              have hpc5 : PC 0 st3 := hpc4.go g3 (by omega)
              refine aops_v rfl rfl rfl (a_assign rfl rfl ?_)
              refine aops_nil ?_
              refine thenE_n ?_
              refine awp_region ?_
              refine aops_v rfl rfl rfl (a_move rfl rfl ?_)
              refine aops_v rfl rfl rfl (a_move rfl rfl ?_)
              refine aops_v rfl rfl rfl (a_move rfl rfl ?_)
              refine aops_v rfl rfl rfl (a_int rfl rfl rfl rfl ?_)
              refine aops_v rfl rfl rfl (a_move rfl rfl ?_)
              refine aops_bool (fun h9 => ?_) (fun h9 => ?_)
              · try simp only [zz1, zz2, ne_eq, zz4, zz5, zz6, gt_iff_lt, ge_iff_le, zz9, zz0] at h9
                have hle := h9
                refine aops_yes rfl rfl rfl rfl ?_
                refine aops_v rfl rfl rfl (a_move rfl rfl ?_)
                refine aops_yes rfl rfl rfl rfl ?_
                refine aops_call_eq rfl rfl rfl rfl cf99 rfl (nextP_spec p id4 ver4 st3 125 _ h0 hok4) ?_
                refine aops_v rfl rfl rfl (a_pick rfl rfl rfl ?_)
                refine aops_call_res rfl rfl rfl rfl cf67 rfl (must_spec _ _ _) (fun h10 => ?_) ?_
                · change Gst _ _ _ _
                  refine gst_sub σ (prs_sub h0 (by first | exact hok4.1 | exact hok3.1)) ?_
                  refine .done (flt_none (by simp [itemOf, hr, n42, n43, n63, n123, countP, hr2, n44]; first | (simp [hr3]; simp at h10; omega) | (simp at h10; simp [h10]) | (simp [hr3]; simp at h10; simp [h10]) | omega))
                rintro ⟨⟩ ⟨⟩ hmu _
                try dsimp only
                simp at hmu
                refine aops_nil ?_
                refine blockE_n ?_
                refine thenE_n ?_
                exact .done ⟨(lo, hi, nextS 125 st3, id4, ver4), ⟨hok4, by simp [itemOf, hr, n42, n43, n63, n123, countP, hr2, n44, hr3, hle, hmu], pc_next hpc5 _⟩, EL, rfl⟩
              · try simp only [zz1, zz2, ne_eq, zz4, zz5, zz6, gt_iff_lt, ge_iff_le, zz9, zz0] at h9
                have hle := h9
                refine aops_no rfl rfl rfl rfl rfl rfl ?_
                refine aops_no rfl rfl rfl rfl rfl rfl ?_
                refine aops_v rfl rfl rfl (a_pick rfl rfl rfl ?_)
                refine aops_call_res rfl rfl rfl rfl cf67 rfl (must_spec _ _ _) (fun h11 => ?_) ?_
                · change Gst _ _ _ _
                  refine gst_sub σ (prs_sub h0 (by first | exact hok4.1 | exact hok3.1)) ?_
                  refine .done (flt_none (by simp [itemOf, hr, n42, n43, n63, n123, countP, hr2, n44]; first | (simp [hr3]; simp at h11; omega) | (simp at h11; simp [h11]) | (simp [hr3]; simp at h11; simp [h11]) | omega))
                
                exact fun _ _ hmu _ => absurd hmu (by simp)
            · try simp only [zz1, zz2, ne_eq, zz4, zz5, zz6, gt_iff_lt, ge_iff_le, zz9, zz0] at h7
              have n44 := h7
              rw [nextS_no n44]
              refine awp_skip ?_
              refine thenE_n ?_
              refine awp_region ?_
              refine aops_v rfl rfl rfl (a_move rfl rfl ?_)
              refine aops_v rfl rfl rfl (a_move rfl rfl ?_)
              refine aops_v rfl rfl rfl (a_move rfl rfl ?_)
              refine aops_v rfl rfl rfl (a_int rfl rfl rfl rfl ?_)
              refine aops_v rfl rfl rfl (a_move rfl rfl ?_)
              refine aops_bool (fun h12 => ?_) (fun h12 => ?_)
              · try simp only [zz1, zz2, ne_eq, zz4, zz5, zz6, gt_iff_lt, ge_iff_le, zz9, zz0] at h12
                have hle := h12
                refine aops_yes rfl rfl rfl rfl ?_
                refine aops_v rfl rfl rfl (a_move rfl rfl ?_)
                refine aops_yes rfl rfl rfl rfl ?_
                refine aops_call_eq rfl rfl rfl rfl cf99 rfl (nextP_spec p id3 ver3 st2 125 _ h0 hok3) ?_
                refine aops_v rfl rfl rfl (a_pick rfl rfl rfl ?_)
                refine aops_call_res rfl rfl rfl rfl cf67 rfl (must_spec _ _ _) (fun h13 => ?_) ?_
                · change Gst _ _ _ _
                  refine gst_sub σ (prs_sub h0 (by first | exact hok4.1 | exact hok3.1)) ?_
                  refine .done (flt_none (by simp [itemOf, hr, n42, n43, n63, n123, countP, hr2, n44]; first | (simp [hr3]; simp at h13; omega) | (simp at h13; simp [h13]) | (simp [hr3]; simp at h13; simp [h13]) | omega))
                rintro ⟨⟩ ⟨⟩ hmu _
                try dsimp only
                simp at hmu
                refine aops_nil ?_
                refine blockE_n ?_
                refine thenE_n ?_
                exact .done ⟨(lo, lo, nextS 125 st2, id3, ver3), ⟨hok3, by simp [itemOf, hr, n42, n43, n63, n123, countP, hr2, n44, hmu], pc_next hpc3 _⟩, EL, rfl⟩
              · try simp only [zz1, zz2, ne_eq, zz4, zz5, zz6, gt_iff_lt, ge_iff_le, zz9, zz0] at h12
                have hle := h12
                refine aops_no rfl rfl rfl rfl rfl rfl ?_
                refine aops_no rfl rfl rfl rfl rfl rfl ?_
                refine aops_v rfl rfl rfl (a_pick rfl rfl rfl ?_)
                refine aops_call_res rfl rfl rfl rfl cf67 rfl (must_spec _ _ _) (fun h14 => ?_) ?_
                · change Gst _ _ _ _
                  refine gst_sub σ (prs_sub h0 (by first | exact hok4.1 | exact hok3.1)) ?_
                  refine .done (flt_none (by simp [itemOf, hr, n42, n43, n63, n123, countP, hr2, n44]; first | (simp [hr3]; simp at h14; omega) | (simp at h14; simp [h14]) | (simp [hr3]; simp at h14; simp [h14]) | omega))
                
                exact fun _ _ hmu _ => absurd hmu (by simp)
          · try simp only [zz1, zz2, ne_eq, zz4, zz5, zz6, gt_iff_lt, ge_iff_le, zz9, zz0] at h5
            have n123 := h5
            rw [nextS_no n123]
            refine awp_seq ?_
            refine awp_region ?_
            refine aops_v rfl rfl rfl (a_move rfl rfl ?_)
            refine aops_v rfl rfl rfl (a_assign rfl rfl ?_)
            refine aops_nil ?_
            refine thenE_n ?_
            refine awp_ret ?_
            change Gst _ _ _ _
            refine fin1 rfl ?_
            exact parR_ok (by simp [itemOf, hr, n42, n43, n63, n123]) hok2
  rintro ⟨lo, hi, st2, id3, ver3⟩ ⟨hok3, hI, hpc3⟩
  dsimp only at hok3 hI hpc3
  dsimp only
  refine awp_seq ?_
  refine awp_region ?_
  refine aops_v rfl rfl rfl (a_move rfl rfl ?_)
  refine aops_v rfl rfl rfl (a_move rfl rfl ?_)
  refine aops_v rfl rfl rfl (a_buildSlice (res := [_]) rfl sk67 rfl rfl rfl ?_)
  refine aops_v rfl rfl rfl (a_move rfl rfl ?_)
  refine aops_v rfl rfl rfl (a_move rfl rfl ?_)
  refine aops_v rfl rfl rfl (a_build (res := [_, _, _, _, _]) rfl bk149 rfl rfl ?_)
  refine aops_call_res rfl rfl rfl rfl cf126 rfl ((node_spec p id3 ver3 st2 ⟨5, [kid], lo, hi, []⟩ σ h0 hok3 (by have := hpc3.phi; omega)).wk (by refine .cons wk_refl (.cons (wk_agg ?_) .nil); repeat (first | exact .nil | refine .cons wk_refl ?_ | refine .cons wk_nil ?_ | refine .cons wk_ex ?_))) (fun h15 => ?_) ?_
  · change Gst _ _ _ _
    exact absurd h15 (by simp)
  rintro ⟨k9, st9⟩ ⟨id9, ver9⟩ hr9 hok9
  simp only [Option.some.injEq] at hr9
  dsimp only
  refine aops_v rfl rfl rfl (a_assign rfl rfl ?_)
  refine aops_nil ?_
  refine thenE_n ?_
  refine awp_ret ?_
  change Gst _ _ _ _
  refine fin1 rfl ?_
  exact parR_ok (by rw [hI, repOf, hr9]) hok9

end Go.Proofs.YtnahdpjbddfhgaaGreatDoor
set_option linter.unusedVariables false
set_option linter.unusedSimpArgs false
namespace Go.Proofs.YtnahdpjbddfhgaaGreatDoor
open Go Go.AL
set_option maxRecDepth 100000
theorem rowL_nil {item : PS → Option (Int × PS)} {m : Nat} {out : List Nd} {dp mo : Int} {ks : List Int} : rowL item (m + 1) ⟨[], out, dp, mo⟩ ks = some (ks, ⟨[], out, dp, mo⟩) := rfl
theorem rowL_stop {item : PS → Option (Int × PS)} {m : Nat} {c : Int} {s : List Int} {out : List Nd} {dp mo : Int} {ks : List Int} (h : c = 124 ∨ c = 41) : rowL item (m + 1) ⟨c :: s, out, dp, mo⟩ ks = some (ks, ⟨c :: s, out, dp, mo⟩) := by
  unfold rowL; simp [h]
theorem rowL_none {item : PS → Option (Int × PS)} {m : Nat} {c : Int} {s : List Int} {out : List Nd} {dp mo : Int} {ks : List Int} (h : ¬ c = 124) (h2 : ¬ c = 41) (h3 : item ⟨c :: s, out, dp, mo⟩ = none) : rowL item (m + 1) ⟨c :: s, out, dp, mo⟩ ks = none := by
  unfold rowL; simp [h, h2, h3]
theorem rowL_more {item : PS → Option (Int × PS)} {m : Nat} {c : Int} {s : List Int} {out : List Nd} {dp mo : Int} {ks : List Int} {k : Int} {st1 : PS} (h : ¬ c = 124) (h2 : ¬ c = 41) (h3 : item ⟨c :: s, out, dp, mo⟩ = some (k, st1)) :
    rowL item (m + 1) ⟨c :: s, out, dp, mo⟩ ks = rowL item m st1 (ks ++ [k]) := by
  rw [rowL]; simp [h, h2, h3]
theorem rowP_none {item : PS → Option (Int × PS)} {st : PS} (h : rowL item (st.s.length + 1) st [] = none) : rowP item st = none := by unfold rowP; rw [h]
theorem rowP_one {item : PS → Option (Int × PS)} {st st' : PS} (h : rowL item (st.s.length + 1) st [] = some ([], st')) : rowP item st = some (st'.push ⟨1, [], 0, 0, []⟩) := by unfold rowP; rw [h]
theorem rowP_many {item : PS → Option (Int × PS)} {st st' : PS} {ks : List Int} (h : rowL item (st.s.length + 1) st [] = some (ks, st')) (h0 : ks ≠ []) : rowP item st = some (manyP 3 ks st') := by
  unfold rowP; rw [h]; cases ks with
  | nil => exact absurd rfl h0
  | cons a r => rfl
theorem altL_none {row : PS → Option (Int × PS)} {m : Nat} {st : PS} {ks : List Int} (h : nextB 124 st = true) (h2 : row (nextS 124 st) = none) : altL row (m + 1) st ks = none := by rw [altL]; simp [h, h2]
theorem altL_more {row : PS → Option (Int × PS)} {m : Nat} {st st1 : PS} {ks : List Int} {k : Int} (h : nextB 124 st = true) (h2 : row (nextS 124 st) = some (k, st1)) : altL row (m + 1) st ks = altL row m st1 (ks ++ [k]) := by rw [altL]; simp [h, h2]
theorem altL_end {row : PS → Option (Int × PS)} {m : Nat} {st : PS} {ks : List Int} (h : nextB 124 st = false) : altL row (m + 1) st ks = some (ks, st) := by rw [altL]; simp [h]

theorem rowP_spec (p id ver : Nat) (st : PS) (m : Nat) (item : PS → Option (Int × PS)) (hitem : ParOk 125 item 0 m) (hgi : ∀ k st st', item st = some (k, st') → Gn 3 0 st st') (σ : AHeap) (h0 : σ p = none) (hok : okP σ p (id, ver)) (hpc : PC 0 st) (hm : st.s.length < m) : ASpec Tryz.prog 98 [.ref p 0 0] (prs σ p id ver st) fun r σ' => ParR σ p (rowP item st) int r σ' := by
  refine aspec_enter (N := 42) (rs := [.tmp 2]) Tryz.func98 rfl rfl rfl rfl rfl rfl ?_
  refine awp_seq ?_
  refine awp_region ?_
  refine aops_v rfl rfl rfl (a_assign rfl rfl ?_)
  refine aops_nil ?_
  refine thenE_n ?_
  refine awp_seq ?_
  refine awp_region ?_
  refine aops_v rfl rfl rfl (a_assign rfl rfl ?_)
  refine aops_nil ?_
  refine thenE_n ?_
  refine awp_cut (S := PS × List Int × (Nat × Nat) × (Nat × Nat)) (fun x => [(0, .ref p 0 0), (3, slv 1 (x.2.1.map int) x.2.1.length x.2.2.1.1 x.2.2.1.2)]) (fun x => prs (slh σ 3 (x.2.1.map int) x.2.1.length x.2.2.1.1 x.2.2.1.2) p x.2.2.2.1 x.2.2.2.2 x.1) (fun x => rowL item (st.s.length + 1) st [] = some (x.2.1, x.1) ∧ PC 0 x.1 ∧ okP (slh σ 3 (x.2.1.map int) x.2.1.length x.2.2.1.1 x.2.2.1.2) p x.2.2.2 ∧ σ x.2.2.1.1 = none ∧ x.2.2.1.1 ≠ p ∧ x.2.1.length ≤ 2000) ?_ ?_
  · skip
    refine awp_block ?_
    refine awp_fresh fun i0 hi0 => ?_
    obtain ⟨hi0p, hi0n, _⟩ := prs_none hi0
    have hpl := hpc.phi
    refine awp_loop (S := PS × List Int × (Nat × Nat) × (Nat × Nat) × Nat) (fun x => [(0, .ref p 0 0), (3, slv 1 (x.2.1.map int) x.2.1.length x.2.2.1.1 x.2.2.1.2)]) (fun x => prs (slh σ 3 (x.2.1.map int) x.2.1.length x.2.2.1.1 x.2.2.1.2) p x.2.2.2.1.1 x.2.2.2.1.2 x.1) (fun x => rowL item (x.2.2.2.2 + 1) x.1 x.2.1 = rowL item (st.s.length + 1) st [] ∧ x.1.s.length ≤ x.2.2.2.2 ∧ PC 0 x.1 ∧ (x.1.out = [] ∨ okP (slh σ 3 (x.2.1.map int) x.2.1.length x.2.2.1.1 x.2.2.1.2) p x.2.2.2.1) ∧ σ x.2.2.1.1 = none ∧ x.2.2.1.1 ≠ p ∧ x.2.1.length + x.1.s.length ≤ 2000 ∧ x.1.s.length < m) (fun x => x.1.s.length) ⟨(st, [], (i0, 0), (id, ver), st.s.length), ⟨rfl, Nat.le_refl _, hpc, .inr hok, hi0n, hi0p, by simp; omega, hm⟩, EL, rfl⟩ ?_
    rintro ⟨st', ks, ⟨i, v⟩, ⟨id1', ver1'⟩, fu⟩ ⟨hJ, hfu, hpc', hok1', hin, hip, hkl, hlm⟩
    dsimp only at hJ hfu hpc' hok1' hin hip hkl hlm
    dsimp only
    refine awp_fresh fun f hf => ?_
    obtain ⟨id1, ver1, hok1, he1⟩ := prs_norm hf hok1'
    rw [he1]
    obtain ⟨hok2, hor⟩ := okP_slh hok1
    have h0' : (slh σ 3 (ks.map int) ks.length i v) p = none := slh_p h0 hip
    have hsub := slh_sub (ty := 3) (cs := ks.map int) (n := ks.length) (v := v) hin
    obtain ⟨s0, out0, dp0, mo0⟩ := st'
    obtain ⟨_, hne1⟩ := hok1
    have hok1 : okP _ p (id1, ver1) := ⟨‹_›, hne1⟩
    dsimp only at hne1 hfu hkl hlm
    refine awp_seq ?_
    refine awp_seq ?_
    refine awp_region ?_
    refine aops_v rfl rfl rfl (a_move rfl rfl ?_)
    first | refine aops_v rfl rfl rfl (a_nilCheck rfl rfl ?_) | refine aops_v rfl rfl rfl (a_nilCheck_pin rfl rfl ?_) | refine aops_v rfl rfl rfl (a_nilCheck_clo rfl rfl ?_)
    first | refine aops_v rfl rfl rfl (a_fieldAddr rfl fk119_0 rfl rfl ?_) | refine aops_v rfl rfl rfl (a_fieldAddr_pin rfl fk119_0 rfl rfl ?_)
    first | refine aops_v rfl rfl rfl (a_load_pin rfl tk59 rfl rfl ?_) | refine aops_v rfl rfl rfl (a_load rfl tk59 rfl HP rfl ?_)
    first | refine aops_v rfl rfl rfl (a_len_lst rfl isl59 rfl ?_) | refine aops_v rfl rfl rfl (a_len rfl isl59 rfl ?_) | refine aops_v rfl rfl rfl (a_len_slg rfl isl59 rfl ?_) | refine aops_v rfl rfl rfl (a_len_nil rfl isl59 rfl ?_)
    refine aops_v rfl rfl rfl (a_int rfl rfl rfl rfl ?_)
    refine aops_v rfl rfl rfl (a_move rfl rfl ?_)
    refine aops_bool (fun h1 => ?_) (fun h1 => ?_)
    · try simp only [zz1, zz2, ne_eq, zz4, zz5, zz6, gt_iff_lt, ge_iff_le, zz9, zz0] at h1
      obtain ⟨c, s, rfl⟩ : ∃ c s, s0 = c :: s := by cases s0 with | nil => simp at h1 | cons c s => exact ⟨c, s, rfl⟩
      have hcl : (c :: s).length = s.length + 1 := rfl
      refine aops_yes rfl rfl rfl rfl ?_
      refine aops_v rfl rfl rfl (a_move rfl rfl ?_)
      refine aops_yes rfl rfl rfl rfl ?_
      first | refine aops_v rfl rfl rfl (a_nilCheck rfl rfl ?_) | refine aops_v rfl rfl rfl (a_nilCheck_pin rfl rfl ?_) | refine aops_v rfl rfl rfl (a_nilCheck_clo rfl rfl ?_)
      refine aops_yes rfl rfl rfl rfl ?_
      first | refine aops_v rfl rfl rfl (a_fieldAddr rfl fk119_0 rfl rfl ?_) | refine aops_v rfl rfl rfl (a_fieldAddr_pin rfl fk119_0 rfl rfl ?_)
      refine aops_yes rfl rfl rfl rfl ?_
      first | refine aops_v rfl rfl rfl (a_load_pin rfl tk59 rfl rfl ?_) | refine aops_v rfl rfl rfl (a_load rfl tk59 rfl HP rfl ?_)
      refine aops_yes rfl rfl rfl rfl ?_
      first | refine aops_v rfl rfl rfl (a_indexAddr_lst rfl ek59 rfl rfl NT (by omega) (by omega) ?_) | refine aops_v rfl rfl rfl (a_indexAddr rfl ek59 rfl rfl NT (by omega) (by omega) ?_)
      refine aops_yes rfl rfl rfl rfl ?_
      first | refine aops_v rfl rfl rfl (a_load_pin rfl tk21 rfl rfl ?_) | refine aops_v rfl rfl rfl (a_load rfl tk21 rfl HP rfl ?_)
      refine aops_yes rfl rfl rfl rfl ?_
      refine aops_v rfl rfl rfl (a_int rfl rfl rfl rfl ?_)
      refine aops_v rfl rfl rfl (a_pick rfl rfl rfl ?_)
      refine aops_v rfl rfl rfl (a_move rfl rfl ?_)
      refine aops_bool (fun h2 => ?_) (fun h2 => ?_)
      · try simp only [zz1, zz2, ne_eq, zz4, zz5, zz6, gt_iff_lt, ge_iff_le, zz9, zz0] at h2
        have n124 := h2
        refine aops_yes rfl rfl rfl rfl ?_
        refine aops_v rfl rfl rfl (a_move rfl rfl ?_)
        refine aops_yes rfl rfl rfl rfl ?_
        first | refine aops_v rfl rfl rfl (a_nilCheck rfl rfl ?_) | refine aops_v rfl rfl rfl (a_nilCheck_pin rfl rfl ?_) | refine aops_v rfl rfl rfl (a_nilCheck_clo rfl rfl ?_)
        refine aops_yes rfl rfl rfl rfl ?_
        first | refine aops_v rfl rfl rfl (a_fieldAddr rfl fk119_0 rfl rfl ?_) | refine aops_v rfl rfl rfl (a_fieldAddr_pin rfl fk119_0 rfl rfl ?_)
        refine aops_yes rfl rfl rfl rfl ?_
        first | refine aops_v rfl rfl rfl (a_load_pin rfl tk59 rfl rfl ?_) | refine aops_v rfl rfl rfl (a_load rfl tk59 rfl HP rfl ?_)
        refine aops_yes rfl rfl rfl rfl ?_
        first | refine aops_v rfl rfl rfl (a_indexAddr_lst rfl ek59 rfl rfl NT (by omega) (by omega) ?_) | refine aops_v rfl rfl rfl (a_indexAddr rfl ek59 rfl rfl NT (by omega) (by omega) ?_)
        refine aops_yes rfl rfl rfl rfl ?_
        first | refine aops_v rfl rfl rfl (a_load_pin rfl tk21 rfl rfl ?_) | refine aops_v rfl rfl rfl (a_load rfl tk21 rfl HP rfl ?_)
        refine aops_yes rfl rfl rfl rfl ?_
        refine aops_v rfl rfl rfl (a_int rfl rfl rfl rfl ?_)
        refine aops_v rfl rfl rfl (a_pick rfl rfl rfl ?_)
        refine aops_nil ?_
        refine thenE_n ?_
        refine awp_cond rfl (fun h3 => ?_) (fun h3 => ?_)
        · try simp only [zz1, zz2, ne_eq, zz4, zz5, zz6, gt_iff_lt, ge_iff_le, zz9, zz0] at h3
          have n41 := h3
          refine awp_skip ?_
          refine thenE_n ?_
          refine awp_block ?_
          refine awp_region ?_
          refine aops_v rfl rfl rfl (a_move rfl rfl ?_)
          refine aops_v rfl rfl rfl (a_move rfl rfl ?_)
          refine aops_call_res rfl rfl rfl rfl cf125 rfl (hitem p id1 ver1 ⟨c :: s, out0, dp0, mo0⟩ _ h0' hok1 hpc' hlm) (fun h4 => ?_) ?_
          · change Gst _ _ _ _
            refine gst_sub σ hsub ?_
            refine .done (flt_none (by apply rowP_none; rw [← hJ, rowL_none n124 n41 h4]))
          rintro ⟨k, st1⟩ ⟨id2, ver2⟩ hr1 hokc
          dsimp only
          have g1 := hgi _ _ _ hr1
          have hg1 := g1.less (by omega)
          dsimp only at hg1
          have hpc2 : PC 0 st1 := hpc'.go g1 (by omega)
          obtain ⟨hokb, horb⟩ := okP_slh hokc
          obtain ⟨fu, rfl⟩ : ∃ q, fu = q + 1 := ⟨fu - 1, by omega⟩
          refine aops_v rfl rfl rfl (a_buildSlice (res := [_]) rfl sk67 rfl rfl rfl ?_)
          rw [prs_slh hip (horb.imp (fun h => h) .inr)]
          refine aops_v rfl rfl rfl (a_append_slp rfl sk67 rfl (by simp) rfl (.lst rfl) rfl (by omega) (by simp only [maxLen]; omega) (by omega) (fun h => prs_is hip hin (.inr (horb.resolve_left (by omega)))) ?_)
          intro i2 v2 hi2
          obtain ⟨hi2p, hi2n, hi2o⟩ := prs_none hi2
          rw [show ks.map int ++ [int k] = (ks ++ [k]).map int by simp, show ks.length + 1 = (ks ++ [k]).length by simp, ← prs_slh hi2p (.inr hi2o)]
          refine aops_v rfl rfl rfl (a_assign rfl rfl ?_)
          refine aops_nil ?_
          refine blockE_n ?_
          refine thenE_n ?_
          exact .done ⟨(st1, ks ++ [k], (i2, v2), (id2, ver2), fu), ⟨by rw [← hJ, rowL_more n124 n41 hr1], by dsimp only; omega, hpc2, okP_new hokb hi2o, hi2n, hi2p, by simp; omega, by dsimp only; omega⟩, by dsimp only; omega, EL, rfl⟩
        · try simp only [zz1, zz2, ne_eq, zz4, zz5, zz6, gt_iff_lt, ge_iff_le, zz9, zz0] at h3
          have hstop : ∀ f, rowL item (f + 1) ⟨c :: s, out0, dp0, mo0⟩ ks = some (ks, ⟨c :: s, out0, dp0, mo0⟩) := fun f => rowL_stop (.inr h3)
          refine awp_exit ?_
          refine thenE_x ?_
          refine thenE_x ?_
          refine blockE_x ?_
          refine thenE_n ?_
          exact .done ⟨(_, ks, (i, v), (id1, ver1)), ⟨by rw [← hJ, hstop], hpc', hok1, hin, hip, by dsimp only; omega⟩, EL, rfl⟩
      · try simp only [zz1, zz2, ne_eq, zz4, zz5, zz6, gt_iff_lt, ge_iff_le, zz9, zz0] at h2
        have hstop : ∀ f, rowL item (f + 1) ⟨c :: s, out0, dp0, mo0⟩ ks = some (ks, ⟨c :: s, out0, dp0, mo0⟩) := fun f => rowL_stop (.inl h2)
        refine aops_no rfl rfl rfl rfl rfl rfl ?_
        refine aops_no rfl rfl rfl rfl rfl rfl ?_
        refine aops_no rfl rfl rfl rfl rfl rfl ?_
        refine aops_no rfl rfl rfl rfl rfl rfl ?_
        refine aops_no rfl rfl rfl rfl rfl rfl ?_
        refine aops_no rfl rfl rfl rfl rfl rfl ?_
        refine aops_no rfl rfl rfl rfl rfl rfl ?_
        refine aops_v rfl rfl rfl (a_pick rfl rfl rfl ?_)
        refine aops_nil ?_
        refine thenE_n ?_
        refine awp_cond (b := false) rfl (fun h => Bool.noConfusion h) (fun _ => ?_)
        refine awp_exit ?_
        refine thenE_x ?_
        refine thenE_x ?_
        refine blockE_x ?_
        refine thenE_n ?_
        exact .done ⟨(_, ks, (i, v), (id1, ver1)), ⟨by rw [← hJ, hstop], hpc', hok1, hin, hip, by dsimp only; omega⟩, EL, rfl⟩
    · try simp only [zz1, zz2, ne_eq, zz4, zz5, zz6, gt_iff_lt, ge_iff_le, zz9, zz0] at h1
      obtain rfl : s0 = [] := List.eq_nil_of_length_eq_zero (by omega)
      have hstop : ∀ f, rowL item (f + 1) ⟨[], out0, dp0, mo0⟩ ks = some (ks, ⟨[], out0, dp0, mo0⟩) := fun _ => rfl
      refine aops_no rfl rfl rfl rfl rfl rfl ?_
      refine aops_no rfl rfl rfl rfl rfl rfl ?_
      refine aops_no rfl rfl rfl rfl rfl rfl ?_
      refine aops_no rfl rfl rfl rfl rfl rfl ?_
      refine aops_no rfl rfl rfl rfl rfl rfl ?_
      refine aops_no rfl rfl rfl rfl rfl rfl ?_
      refine aops_no rfl rfl rfl rfl rfl rfl ?_
      refine aops_v rfl rfl rfl (a_pick rfl rfl rfl ?_)
      refine aops_v rfl rfl rfl (a_move rfl rfl ?_)
      refine aops_no rfl rfl rfl rfl rfl rfl ?_
      refine aops_no rfl rfl rfl rfl rfl rfl ?_
      refine aops_no rfl rfl rfl rfl rfl rfl ?_
      refine aops_no rfl rfl rfl rfl rfl rfl ?_
      refine aops_no rfl rfl rfl rfl rfl rfl ?_
      refine aops_no rfl rfl rfl rfl rfl rfl ?_
      refine aops_no rfl rfl rfl rfl rfl rfl ?_
      refine aops_v rfl rfl rfl (a_pick rfl rfl rfl ?_)
      refine aops_nil ?_
      refine thenE_n ?_
      refine awp_cond (b := false) rfl (fun h => Bool.noConfusion h) (fun _ => ?_)
      refine awp_exit ?_
      refine thenE_x ?_
      refine thenE_x ?_
      refine blockE_x ?_
      refine thenE_n ?_
      exact .done ⟨(_, ks, (i, v), (id1, ver1)), ⟨by rw [← hJ, hstop], hpc', hok1, hin, hip, by dsimp only; omega⟩, EL, rfl⟩
  rintro ⟨st', ks, ⟨i, v⟩, ⟨id1, ver1⟩⟩ ⟨hJ, hpc', hok1, hin, hip, hkl⟩
  dsimp only at hJ hpc' hok1 hin hip hkl
  dsimp only
  obtain ⟨hok2, hor⟩ := okP_slh hok1
  have hph := hpc'.phi
  refine awp_seq ?_
  refine awp_seq ?_
  refine awp_region ?_
  refine aops_v rfl rfl rfl (a_move rfl rfl ?_)
  first | refine aops_v rfl rfl rfl (a_len_lst rfl isl67 rfl ?_) | refine aops_v rfl rfl rfl (a_len rfl isl67 rfl ?_) | refine aops_v rfl rfl rfl (a_len_slg rfl isl67 rfl ?_) | refine aops_v rfl rfl rfl (a_len_nil rfl isl67 rfl ?_)
  refine aops_v rfl rfl rfl (a_int rfl rfl rfl rfl ?_)
  refine aops_nil ?_
  refine thenE_n ?_
  refine awp_cond rfl (fun h5 => ?_) (fun h5 => ?_)
  · try simp only [zz1, zz2, ne_eq, zz4, zz5, zz6, gt_iff_lt, ge_iff_le, zz9, zz0] at h5
    obtain rfl : ks = [] := List.eq_nil_of_length_eq_zero (by omega)
    simp only [List.map_nil, List.length_nil, slh_zero]
    refine awp_seq ?_
    refine awp_region ?_
    refine aops_v rfl rfl rfl (a_move rfl rfl ?_)
    refine aops_v rfl rfl rfl (a_build (res := [_, _, _, _, _]) rfl bk149 rfl rfl ?_)
    refine aops_call_res rfl rfl rfl rfl cf126 rfl ((node_spec p id1 ver1 st' ⟨1, [], 0, 0, []⟩ σ h0 hok2 (by omega)).wk (by refine .cons wk_refl (.cons (wk_agg ?_) .nil); repeat (first | exact .nil | refine .cons wk_refl ?_ | refine .cons wk_nil ?_ | refine .cons wk_ex ?_))) (fun h6 => ?_) ?_
    · change Gst _ _ _ _
      exact absurd h6 (by simp)
    rintro ⟨k9, st9⟩ ⟨id9, ver9⟩ hr9 hok9
    simp only [Option.some.injEq] at hr9
    dsimp only
    refine aops_v rfl rfl rfl (a_assign rfl rfl ?_)
    refine aops_nil ?_
    refine thenE_n ?_
    refine awp_ret ?_
    change Gst _ _ _ _
    refine fin1 rfl ?_
    exact parR_ok (by rw [rowP_one hJ, hr9]) hok9
  · try simp only [zz1, zz2, ne_eq, zz4, zz5, zz6, gt_iff_lt, ge_iff_le, zz9, zz0] at h5
    have hks : ks ≠ [] := by intro e; subst e; simp at h5
    have hkp : 0 < ks.length := List.length_pos_iff.2 hks
    refine awp_skip ?_
    refine thenE_n ?_
    refine awp_seq ?_
    rw [prs_slh hip (hor.imp (fun h => h) .inr)]
    refine AWp.ghost (gst_sl 3 rfl (by simp) (prs_is hip hin (.inr (hor.resolve_left (by omega)))) (.done ?_))
    refine awp_region ?_
    refine aops_v rfl rfl rfl (a_move rfl rfl ?_)
    refine aops_v rfl rfl rfl (a_move rfl rfl ?_)
    refine aops_call_res rfl rfl rfl rfl cf100 rfl (many_spec p id1 ver1 st' 3 ks σ h0 hok2 (by omega)) (fun h7 => ?_) ?_
    · change Gst _ _ _ _
      exact absurd h7 (by simp)
    rintro ⟨k9, st9⟩ ⟨id9, ver9⟩ hr9 hok9
    simp only [Option.some.injEq] at hr9
    dsimp only
    refine aops_v rfl rfl rfl (a_assign rfl rfl ?_)
    refine aops_nil ?_
    refine thenE_n ?_
    refine awp_ret ?_
    change Gst _ _ _ _
    refine fin1 rfl ?_
    exact parR_ok (by rw [rowP_many hJ hks, hr9]) hok9

theorem altP_spec (p id ver : Nat) (st : PS) (m : Nat) (row : PS → Option (Int × PS)) (hrow : ParOk 98 row 0 m) (hgr : ∀ k st st', row st = some (k, st') → Gn 0 1 st st') (σ : AHeap) (h0 : σ p = none) (hok : okP σ p (id, ver)) (hpc : PC 1 st) (hm : st.s.length < m) : ASpec Tryz.prog 66 [.ref p 0 0] (prs σ p id ver st) fun r σ' => ParR σ p (altOf row st) int r σ' := by
  refine aspec_enter (N := 17) (rs := [.tmp 2]) Tryz.func66 rfl rfl rfl rfl rfl rfl ?_
  refine awp_seq ?_
  refine awp_region ?_
  refine aops_v rfl rfl rfl (a_assign rfl rfl ?_)
  refine aops_nil ?_
  refine thenE_n ?_
  refine awp_seq ?_
  refine awp_region ?_
  refine aops_v rfl rfl rfl (a_move rfl rfl ?_)
  refine aops_call_res rfl rfl rfl rfl cf98 rfl (hrow p id ver st σ h0 hok (hpc.go (Gn.refl _) (by omega)) hm) (fun h1 => ?_) ?_
  · change Gst _ _ _ _
    refine .done (flt_none (by simp [altOf, h1]))
  rintro ⟨k0, st0⟩ ⟨id0, ver0⟩ hr0 hok0
  dsimp only
  have g0 := hgr _ _ _ hr0
  have hpc0 : PC 0 st0 := hpc.go g0 (by omega)
  have hpl := hpc0.phi
  have hg0 := g0.len
  refine aops_v rfl rfl rfl (a_buildSlice_own (res := [_]) rfl sk67 rfl rfl rfl ?_)
  intro i0 hi0
  obtain ⟨hi0p, hi0n, hi0o⟩ := prs_none hi0
  change AOps _ _ _ _ _ _ (slh (prs σ p id0 ver0 st0) 3 ([k0].map int) [k0].length i0 0)
  rw [← prs_slh hi0p (.inr hi0o)]
  refine aops_v rfl rfl rfl (a_assign rfl rfl ?_)
  refine aops_nil ?_
  refine thenE_n ?_
  refine awp_seq ?_
  refine awp_block ?_
  refine awp_loop (S := PS × List Int × (Nat × Nat) × (Nat × Nat) × Nat) (fun x => [(0, .ref p 0 0), (3, slv 1 (x.2.1.map int) x.2.1.length x.2.2.1.1 x.2.2.1.2)]) (fun x => prs (slh σ 3 (x.2.1.map int) x.2.1.length x.2.2.1.1 x.2.2.1.2) p x.2.2.2.1.1 x.2.2.2.1.2 x.1) (fun x => altL row (x.2.2.2.2 + 1) x.1 x.2.1 = altL row (st0.s.length + 1) st0 [k0] ∧ x.1.s.length ≤ x.2.2.2.2 ∧ PC 0 x.1 ∧ (x.1.out = [] ∨ okP (slh σ 3 (x.2.1.map int) x.2.1.length x.2.2.1.1 x.2.2.1.2) p x.2.2.2.1) ∧ σ x.2.2.1.1 = none ∧ x.2.2.1.1 ≠ p ∧ x.2.1.length + x.1.s.length ≤ 2000 ∧ x.1.s.length < m ∧ 0 < x.2.1.length) (fun x => x.1.s.length) ⟨(st0, [k0], (i0, 0), (id0, ver0), st0.s.length), ⟨rfl, Nat.le_refl _, hpc0, okP_new hok0 hi0o, hi0n, hi0p, by simp; omega, by dsimp only; omega, by simp⟩, EL, rfl⟩ ?_
  rintro ⟨st', ks, ⟨i, v⟩, ⟨id1', ver1'⟩, fu⟩ ⟨hJ, hfu, hpc', hok1', hin, hip, hkl, hlm, hkp⟩
  dsimp only at hJ hfu hpc' hok1' hin hip hkl hlm hkp
  dsimp only
  refine awp_fresh fun f hf => ?_
  obtain ⟨id1, ver1, hok1, he1⟩ := prs_norm hf hok1'
  rw [he1]
  obtain ⟨hok2, hor⟩ := okP_slh hok1
  have h0' : (slh σ 3 (ks.map int) ks.length i v) p = none := slh_p h0 hip
  have hsub := slh_sub (ty := 3) (cs := ks.map int) (n := ks.length) (v := v) hin
  refine awp_seq ?_
  refine awp_seq ?_
  refine awp_region ?_
  refine aops_v rfl rfl rfl (a_move rfl rfl ?_)
  refine aops_call_eq rfl rfl rfl rfl cf99 rfl (nextP_spec p id1 ver1 st' 124 _ h0' hok1) ?_
  refine aops_nil ?_
  refine thenE_n ?_
  refine awp_cond rfl (fun h2 => ?_) (fun h2 => ?_)
  · try simp only [zz1, zz2, ne_eq, zz4, zz5, zz6, gt_iff_lt, ge_iff_le, zz9, zz0] at h2
    have n124 := h2
    have g2 := next_go n124
    have hg2 := g2.less (by omega)
    have hpc1 : PC 4 (nextS 124 st') := hpc'.go g2 (by omega)
    refine awp_skip ?_
    refine thenE_n ?_
    refine awp_block ?_
    refine awp_region ?_
    refine aops_v rfl rfl rfl (a_move rfl rfl ?_)
    refine aops_v rfl rfl rfl (a_move rfl rfl ?_)
    refine aops_call_res rfl rfl rfl rfl cf98 rfl (hrow p id1 ver1 (nextS 124 st') _ h0' hok1 (hpc1.go (Gn.refl _) (by omega)) (by omega)) (fun h3 => ?_) ?_
    · change Gst _ _ _ _
      refine gst_sub σ hsub ?_
      refine .done (flt_none (by simp only [altOf, hr0]; rw [← hJ, altL_none n124 h3]))
    rintro ⟨k, st1⟩ ⟨id2, ver2⟩ hr1 hokc
    dsimp only
    have g1 := hgr _ _ _ hr1
    have hg1 := g1.len
    have hpc2 : PC 0 st1 := hpc1.go g1 (by omega)
    obtain ⟨hokb, horb⟩ := okP_slh hokc
    obtain ⟨fu, rfl⟩ : ∃ q, fu = q + 1 := ⟨fu - 1, by omega⟩
    refine aops_v rfl rfl rfl (a_buildSlice (res := [_]) rfl sk67 rfl rfl rfl ?_)
    rw [prs_slh hip (horb.imp (fun h => h) .inr)]
    refine aops_v rfl rfl rfl (a_append_slp rfl sk67 rfl (by simp) rfl (.lst rfl) rfl (by omega) (by simp only [maxLen]; omega) (by omega) (fun h => prs_is hip hin (.inr (horb.resolve_left (by omega)))) ?_)
    intro i2 v2 hi2
    obtain ⟨hi2p, hi2n, hi2o⟩ := prs_none hi2
    rw [show ks.map int ++ [int k] = (ks ++ [k]).map int by simp, show ks.length + 1 = (ks ++ [k]).length by simp, ← prs_slh hi2p (.inr hi2o)]
    refine aops_v rfl rfl rfl (a_assign rfl rfl ?_)
    refine aops_nil ?_
    refine blockE_n ?_
    refine thenE_n ?_
    exact .done ⟨(st1, ks ++ [k], (i2, v2), (id2, ver2), fu), ⟨by rw [← hJ, altL_more n124 hr1], by dsimp only; omega, hpc2, okP_new hokb hi2o, hi2n, hi2p, by simp; omega, by dsimp only; omega, by simp⟩, by dsimp only; omega, EL, rfl⟩
  · try simp only [zz1, zz2, ne_eq, zz4, zz5, zz6, gt_iff_lt, ge_iff_le, zz9, zz0] at h2
    have n124 := h2
    rw [nextS_no n124]
    have hJ2 : altL row (st0.s.length + 1) st0 [k0] = some (ks, st') := by rw [← hJ, altL_end n124]
    have hph := hpc'.phi
    refine awp_exit ?_
    refine thenE_x ?_
    refine thenE_x ?_
    refine blockE_x ?_
    refine thenE_n ?_
    refine awp_seq ?_
    rw [prs_slh hip (hor.imp (fun h => h) .inr)]
    refine AWp.ghost (gst_sl 3 rfl (by simp) (prs_is hip hin (.inr (hor.resolve_left (by omega)))) (.done ?_))
    refine awp_region ?_
    refine aops_v rfl rfl rfl (a_move rfl rfl ?_)
    refine aops_v rfl rfl rfl (a_move rfl rfl ?_)
    refine aops_call_res rfl rfl rfl rfl cf100 rfl (many_spec p id1 ver1 st' 4 ks σ h0 hok2 (by omega)) (fun h4 => ?_) ?_
    · change Gst _ _ _ _
      exact absurd h4 (by simp)
    rintro ⟨k9, st9⟩ ⟨id9, ver9⟩ hr9 hok9
    simp only [Option.some.injEq] at hr9
    dsimp only
    refine aops_v rfl rfl rfl (a_assign rfl rfl ?_)
    refine aops_nil ?_
    refine thenE_n ?_
    refine awp_ret ?_
    change Gst _ _ _ _
    refine fin1 rfl ?_
    exact parR_ok (by simp only [altOf, hr0, hJ2]; rw [hr9]) hok9

theorem altP_ok : ∀ n, ParOk 66 (altP n) 1 n
  | 0 => fun p id ver st σ h0 hok hpc hm => absurd hm (by omega)
  | n + 1 => fun p id ver st σ h0 hok hpc hm => altP_spec p id ver st (n + 1) (rowP (itemOf (altP n)))
      (fun p id ver st σ h0 hok hpc hm => rowP_spec p id ver st (n + 1) (itemOf (altP n))
        (fun p id ver st σ h0 hok hpc hm => itemP_spec p id ver st n (altP n) (altP_ok n) σ h0 hok (altP_go n) hpc hm)
        (fun k st st' => item_go (altP_go n)) σ h0 hok hpc hm)
      (fun k st st' => row_go fun k st st' => item_go (altP_go n)) σ h0 hok hpc hm

end Go.Proofs.YtnahdpjbddfhgaaGreatDoor
set_option linter.unusedVariables false
set_option linter.unusedSimpArgs false
namespace Go.Proofs.YtnahdpjbddfhgaaGreatDoor
open Go Go.AL
set_option maxRecDepth 100000
/-- a text's runes -/
def runesI (s : List UInt8) : List Int := (runesOf s).map fun r : Nat => (r : Int)
theorem runesI_len (s : List UInt8) : (runesI s).length = (runesOf s).length := by simp [runesI]
theorem runesI_rI (s : List UInt8) : (runesI s).map rI = (runesOf s).map runeA := by simp [runesI]
theorem decR_valid (l : List UInt8) : (decR l).1 ≤ 1114111 ∧ ((decR l).1 < 55296 ∨ 57343 < (decR l).1) := by
  have h := Go.Lib.rune_valid ⟨l.toArray⟩
  simp only [Go.Lib.validRune, decide_eq_true_eq] at h
  unfold decR; omega
theorem runesF_valid : ∀ (n : Nat) (l : List UInt8), ∀ x ∈ runesF n l, x ≤ 1114111 ∧ (x < 55296 ∨ 57343 < x)
  | 0, l, x, h => by cases l <;> simp [runesF] at h
  | n + 1, [], x, h => by simp [runesF] at h
  | n + 1, c :: r, x, h => by
    simp only [runesF, List.mem_cons] at h
    rcases h with rfl | h
    · exact decR_valid _
    · exact runesF_valid n _ x h
theorem runesI_valid (s : List UInt8) : RnV (runesI s) := by
  intro x hx
  simp only [runesI, List.mem_map] at hx
  obtain ⟨y, hy, rfl⟩ := hx
  have := runesF_valid _ _ y hy
  omega
def fuelOf (s : List UInt8) : Nat := (runesI s).length + 1
def rexpP (s : List UInt8) : List Nd × Int :=
  if 128 < s.length then ([], 4)
  else if Lib.validD s = false then ([], 8)
  else match altP (fuelOf s) ⟨runesI s, [], 0, 0⟩ with
    | none => ([], 40)
    | some (_, st) => if st.s ≠ [] then ([], 40) else if 16 < st.most then ([], 9) else if 1000 < sizeP st.out then ([], 3) else (st.out, 0)
/-- kids that may be -/
def Tk (ks : List Int) (st : PS) : Prop := TreeOk st.out ∧ ∀ k ∈ ks, 0 ≤ k ∧ k < st.out.length
theorem Tk.mono {ks : List Int} {st st' : PS} (h : Tk ks st) (ht : TreeOk st'.out) (hp : st.out <+: st'.out) : Tk ks st' :=
  ⟨ht, fun k hk => by have := h.2 k hk; have := hp.length_le; omega⟩
theorem push_tk {st : PS} {n : Nd} (h : TreeOk st.out) (hn : NdOk st.out.length n) : Tk [(st.push n).1] (st.push n).2 := by
  refine ⟨fun i m hm => ?_, fun k hk => ?_⟩
  · simp only [PS.push] at hm
    rw [List.getElem?_append] at hm
    split at hm
    · exact h i m hm
    · rename_i hi
      have : i = st.out.length := by
        rcases Nat.lt_or_ge (i - st.out.length) 1 with h1 | h1
        · omega
        · rw [List.getElem?_eq_none (by simpa using h1)] at hm; exact absurd hm (by simp)
      subst this
      simp at hm; subst hm; exact hn
  · simp only [PS.push, List.mem_singleton] at hk ⊢
    subst hk
    simp; omega
theorem leaf_ok (i : Nat) {kind : Int} (set : List Int) (hk : kind ≠ 5) (hs : set.length % 2 = 0 ∧ set.length ≤ 1000000) : NdOk i ⟨kind, [], 0, 0, set⟩ := ⟨by simp, by simp, by simp, by simp, by simp, fun h => absurd h hk, by simp, hs⟩
theorem many_tk {kind : Int} {ks : List Int} {st : PS} (h : Tk ks st) (hk : kind ≠ 5) (hl : ks.length ≤ 1000000) : Tk [(manyP kind ks st).1] (manyP kind ks st).2 := by
  unfold manyP
  split
  · exact h
  · exact push_tk h.1 ⟨h.2, by simp, by simp, by simp, hl, fun h => absurd h hk, by simp, by simp⟩
theorem escape_out {m : List Int} {st st' : PS} (h : escapeP st = some (m, st')) : st'.out = st.out := by
  unfold escapeP at h
  split at h
  · exact absurd h (by simp)
  · rename_i r st1 h1
    have e : st1.out = st.out := by
      obtain ⟨s, out, dp, mo⟩ := st; obtain ⟨s1, out1, dp1, mo1⟩ := st1
      obtain ⟨_, rfl, _, _⟩ := takeP_inv h1; rfl
    repeat' split at h
    all_goals first | (simp at h; done) | (simp only [Option.some.injEq, Prod.mk.injEq] at h; obtain ⟨_, rfl⟩ := h; exact e)
theorem take_out {c : Int} {st st' : PS} (h : takeP st = some (c, st')) : st'.out = st.out := by
  obtain ⟨s, out, dp, mo⟩ := st; obtain ⟨s1, out1, dp1, mo1⟩ := st'
  obtain ⟨_, rfl, _, _⟩ := takeP_inv h; rfl
theorem nextS_out (c : Int) (st : PS) : (nextS c st).out = st.out := by unfold nextS; split <;> (try split) <;> rfl
theorem member_out {m : List Int} {st st' : PS} (h : memberP st = some (m, st')) : st'.out = st.out := by
  unfold memberP at h
  split at h
  · exact absurd h (by simp)
  · rename_i r st1 h1
    split at h
    · exact (escape_out h).trans (take_out h1)
    · split at h
      · exact absurd h (by simp)
      · simp only [Option.some.injEq, Prod.mk.injEq] at h; obtain ⟨_, rfl⟩ := h; exact take_out h1
theorem digit_out {c : Int} {st st' : PS} (h : digitP st = some (c, st')) : st'.out = st.out := by
  unfold digitP at h
  split at h
  · exact absurd h (by simp)
  · rename_i r st1 h1
    split at h
    · simp only [Option.some.injEq, Prod.mk.injEq] at h; obtain ⟨_, rfl⟩ := h; exact take_out h1
    · exact absurd h (by simp)
theorem class_out : ∀ (m : Nat) (st st' : PS) (set set' : List Int) (b : Bool), classL m st set b = some (set', st') → st'.out = st.out
  | 0, _, _, _, _, _, h => by simp [classL] at h
  | m + 1, st, st', set, set', b, h => by
    unfold classL at h
    split at h
    · simp only [Option.some.injEq, Prod.mk.injEq] at h; obtain ⟨_, rfl⟩ := h; exact nextS_out _ _
    · split at h
      · exact absurd h (by simp)
      · rename_i m1 st1 h1
        split at h
        · split at h
          · exact absurd h (by simp)
          · rename_i m2 st2 h3
            split at h
            · split at h
              · exact (class_out m _ _ _ _ _ h).trans ((member_out h3).trans ((nextS_out _ _).trans (member_out h1)))
              · exact absurd h (by simp)
            · exact absurd h (by simp)
        · exact (class_out m _ _ _ _ _ h).trans (member_out h1)
theorem othersL_len : ∀ (l : List Int) (fr : Int), (othersL fr l).length % 2 = 0 ∧ (othersL fr l).length ≤ l.length + 2
  | [], fr => by unfold othersL; split <;> simp
  | [_], fr => by unfold othersL; split <;> simp
  | a :: b :: r, fr => by
    have := othersL_len r (b + 1)
    unfold othersL
    split
    · simp only [List.length_append, List.length_cons, List.length_nil]; omega
    · simp only [List.nil_append, List.length_cons]; omega
theorem class_set : ∀ (m : Nat) (st st' : PS) (set set' : List Int) (b : Bool), classL m st set b = some (set', st') → RnV st.s → SetV set → SetV set' ∧ set'.length + 8 * st'.s.length ≤ set.length + 8 * st.s.length
  | 0, _, _, _, _, _, h, _, _ => by simp [classL] at h
  | m + 1, st, st', set, set', b, h, hr, hs => by
    unfold classL at h
    split at h
    · rename_i hb
      simp only [Bool.and_eq_true] at hb
      have hl := (next_go hb.2).len
      simp only [Option.some.injEq, Prod.mk.injEq] at h; obtain ⟨rfl, rfl⟩ := h; exact ⟨hs, by omega⟩
    · split at h
      · exact absurd h (by simp)
      · rename_i m1 st1 h1
        obtain ⟨q1, q2, q3⟩ := member_set h1 hr
        have g1 := member_go h1
        have hr1 : RnV st1.s := fun x hx => hr x (g1.sub x hx)
        have l1 := g1.less (by omega)
        split at h
        · rename_i hn
          have g2 := next_go hn
          have hr2 : RnV (nextS 45 st1).s := fun x hx => hr1 x (g2.sub x hx)
          split at h
          · exact absurd h (by simp)
          · rename_i m2 st2 h3
            have g3 := member_go h3
            obtain ⟨p1, p2, p3⟩ := member_set h3 hr2
            have hr3 : RnV st2.s := fun x hx => hr2 x (g3.sub x hx)
            have l2 := g2.len; have l3 := g3.len
            split at h
            · rename_i x y hx hy
              split at h
              · rename_i hxy
                have ex := isOne_eq hx; have ey := isOne_eq hy
                have sx := q1.2.1 x (by rw [ex]; simp); have sy := p1.2.1 y (by rw [ey]; simp)
                obtain ⟨r1, r2⟩ := class_set m _ _ _ _ _ h hr3 (hs.app (SetV.two sx sy hxy))
                exact ⟨r1, by simp at r2; omega⟩
              · exact absurd h (by simp)
            · exact absurd h (by simp)
        · obtain ⟨r1, r2⟩ := class_set m _ _ _ _ _ h hr1 (hs.app q1)
          exact ⟨r1, by simp at r2; omega⟩
theorem classP_tk {k : Int} {st st' : PS} (hpc : PC 0 st) (ht : TreeOk st.out) (h : classP st = some (k, st')) : Tk [k] st' := by
  unfold classP at h
  split at h
  · exact absurd h (by simp)
  · rename_i set st2 h1
    have e : st2.out = st.out := (class_out _ _ _ _ _ _ h1).trans (nextS_out _ _)
    have hp := pc_next hpc 94
    obtain ⟨s1, s2⟩ := class_set _ _ _ _ _ _ h1 hp.rn SetV.nil
    have hd := hp.d1; have hd0 := hp.d0
    obtain ⟨m1, m2, m3⟩ := mergedL_ok s1
    have o1 := othersL_len (mergedL set) 0
    simp only [List.length_nil] at s2
    simp only [Option.some.injEq] at h
    have := push_tk (st := st2) (n := ⟨2, [], 0, 0, if nextB 94 st then othersL 0 (mergedL set) else mergedL set⟩) (by rw [e]; exact ht) (leaf_ok _ _ (by decide) (by split <;> omega))
    rw [h] at this; exact this
theorem atom_tk {alt : PS → Option (Int × PS)} (ha : ∀ k st st', PC 1 st → TreeOk st.out → alt st = some (k, st') → Tk [k] st') {k : Int} {st st' : PS} (hpc : PC 0 st) (ht : TreeOk st.out) (h : atomOf alt st = some (k, st')) : Tk [k] st' := by
  unfold atomOf at h
  split at h
  · exact absurd h (by simp)
  · rename_i r st1 h1
    have g1 := take_go h1
    have ht1 : TreeOk st1.out := by rw [take_out h1]; exact ht
    have hp : ∀ (st2 : PS) (kind : Int) (set : List Int), kind ≠ 5 → set.length % 2 = 0 ∧ set.length ≤ 1000000 → st2.push ⟨kind, [], 0, 0, set⟩ = (k, st') → TreeOk st2.out → Tk [k] st' := fun st2 kind set hk hs e g => by
      have := push_tk (n := ⟨kind, [], 0, 0, set⟩) g (leaf_ok _ _ hk hs)
      rw [e] at this; exact this
    split at h
    · split at h
      · exact absurd h (by simp)
      · rename_i k2 st2 h2
        split at h
        · simp only [Option.some.injEq, Prod.mk.injEq] at h
          obtain ⟨rfl, rfl⟩ := h
          have hl := g1.less (by omega)
          have q1 := hpc.phi; have q2 := hpc.d0; have q3 := hpc.d1; have q4 := hpc.m0; have q5 := hpc.m1; have q6 := g1.phi; have q7 := g1.deep; have q8 := g1.most0; have q9 := g1.most1
          have := ha k2 (deeper st1) st2 ⟨(hpc.go g1 (d := 4) (by omega)).rn, by simp only [deeper]; omega, by simp only [deeper]; omega, by simp only [deeper]; omega, by simp only [deeper]; omega, by simp only [deeper]; omega⟩ (by simpa [deeper] using ht1) h2
          refine ⟨?_, ?_⟩
          · simp only [upper, nextS_out]; exact this.1
          · simp only [upper, nextS_out]; exact this.2
        · exact absurd h (by simp)
    · split at h
      · exact classP_tk (hpc.go g1 (by omega)) ht1 h
      · repeat' split at h
        all_goals first
          | (simp at h; done)
          | (simp only [Option.some.injEq] at h; exact hp _ _ _ (by decide) (by simp) h ht1)
          | (rename_i set st2 h2; simp only [Option.some.injEq] at h; exact hp _ _ _ (by decide) (by have := escape_set h2 (hpc.go g1 (d := 4) (by omega)).rn; exact ⟨this.1.1, by omega⟩) h (by rw [escape_out h2]; exact ht1))
theorem item_tk {alt : PS → Option (Int × PS)} (ha : ∀ k st st', PC 1 st → TreeOk st.out → alt st = some (k, st') → Tk [k] st') {k : Int} {st st' : PS} (hpc : PC 0 st) (ht : TreeOk st.out) (h : itemOf alt st = some (k, st')) : Tk [k] st' := by
  unfold itemOf at h
  split at h
  · exact absurd h (by simp)
  · rename_i kid st1 h1
    have g1 := atom_tk ha hpc ht h1
    have hp : ∀ (st2 : PS) (lo hi : Int), repOf kid lo hi st2 = some (k, st') → st2.out = st1.out → 0 ≤ lo → lo ≤ 8 → hi ≤ 8 → (0 ≤ hi → lo ≤ hi) → Tk [k] st' := fun st2 lo hi e g a b c d => by
      have := push_tk (st := st2) (n := ⟨5, [kid], lo, hi, []⟩) (by rw [g]; exact g1.1) ⟨by rw [g]; exact g1.2, a, b, c, by simp, by simp, d, by simp⟩
      simp only [repOf, Option.some.injEq] at e
      rw [e] at this; exact this
    split at h
    · exact hp _ _ _ h (nextS_out _ _) (by omega) (by omega) (by omega) (by omega)
    split at h
    · exact hp _ _ _ h (nextS_out _ _) (by omega) (by omega) (by omega) (by omega)
    split at h
    · exact hp _ _ _ h (nextS_out _ _) (by omega) (by omega) (by omega) (by omega)
    split at h
    · unfold countP at h
      split at h
      · exact absurd h (by simp)
      · rename_i lo st2 h2
        have o2 := (digit_out h2).trans (nextS_out _ _)
        obtain ⟨_, b1, b2⟩ := digit_go h2
        split at h
        · split at h
          · exact absurd h (by simp)
          · rename_i hi st3 h4
            have o3 := (digit_out h4).trans ((nextS_out _ _).trans o2)
            obtain ⟨_, c1, c2⟩ := digit_go h4
            split at h
            · rename_i hlh; exact hp _ _ _ h ((nextS_out _ _).trans o3) b1 b2 c2 (fun _ => hlh.1)
            · exact absurd h (by simp)
        · split at h
          · exact hp _ _ _ h ((nextS_out _ _).trans o2) b1 b2 b2 (fun _ => Int.le_refl _)
          · exact absurd h (by simp)
    · simp only [Option.some.injEq, Prod.mk.injEq] at h; obtain ⟨rfl, rfl⟩ := h; exact g1
theorem rowL_tk {item : PS → Option (Int × PS)} (hg : ∀ k st st', item st = some (k, st') → Gn 3 0 st st') (ha : ∀ k st st', PC 0 st → TreeOk st.out → item st = some (k, st') → Tk [k] st') :
    ∀ (m : Nat) (st st' : PS) (ks ks' : List Int), PC 0 st → Tk ks st → rowL item m st ks = some (ks', st') → Tk ks' st'
  | 0, _, _, _, _, _, _, h => by simp [rowL] at h
  | m + 1, st, st', ks, ks', hpc, ht, h => by
    unfold rowL at h
    split at h
    · simp only [Option.some.injEq, Prod.mk.injEq] at h; obtain ⟨rfl, rfl⟩ := h; exact ht
    · split at h
      · simp only [Option.some.injEq, Prod.mk.injEq] at h; obtain ⟨rfl, rfl⟩ := h; exact ht
      · split at h
        · exact absurd h (by simp)
        · rename_i k st1 h1
          have g := hg _ _ _ h1
          have t1 := ha _ _ _ hpc ht.1 h1
          refine rowL_tk hg ha m _ _ _ _ (hpc.go g (by omega)) ⟨t1.1, fun x hx => ?_⟩ h
          rcases List.mem_append.1 hx with hx | hx
          · have := ht.2 x hx; have := g.pre.length_le; omega
          · exact t1.2 x hx
theorem row_tk {item : PS → Option (Int × PS)} (hg : ∀ k st st', item st = some (k, st') → Gn 3 0 st st') (ha : ∀ k st st', PC 0 st → TreeOk st.out → item st = some (k, st') → Tk [k] st')
    {k : Int} {st st' : PS} (hpc : PC 0 st) (ht : TreeOk st.out) (h : rowP item st = some (k, st')) : Tk [k] st' := by
  unfold rowP at h
  split at h
  · exact absurd h (by simp)
  · rename_i ks st1 h1
    have t1 := rowL_tk hg ha _ _ _ _ _ hpc ⟨ht, by simp⟩ h1
    obtain ⟨d, e, g⟩ := rowL_go hg _ _ _ _ _ h1
    have hph := hpc.phi; have hg2 := g.phi
    split at h
    · simp only [Option.some.injEq] at h
      have := push_tk (n := ⟨1, [], 0, 0, []⟩) t1.1 (leaf_ok _ _ (by decide) (by simp))
      rw [h] at this; exact this
    · simp only [Option.some.injEq] at h
      have := many_tk (kind := 3) t1 (by decide) (by simp at e; omega)
      rw [h] at this; exact this
theorem altL_tk {row : PS → Option (Int × PS)} (hg : ∀ k st st', row st = some (k, st') → Gn 0 1 st st') (ha : ∀ k st st', PC 0 st → TreeOk st.out → row st = some (k, st') → Tk [k] st') :
    ∀ (m : Nat) (st st' : PS) (ks ks' : List Int), PC 0 st → Tk ks st → altL row m st ks = some (ks', st') → Tk ks' st'
  | 0, _, _, _, _, _, _, h => by simp [altL] at h
  | m + 1, st, st', ks, ks', hpc, ht, h => by
    unfold altL at h
    split at h
    · rename_i hn
      split at h
      · exact absurd h (by simp)
      · rename_i k st1 h1
        have g0 := next_go hn
        have g := hg _ _ _ h1
        have t1 := ha _ _ _ (hpc.go g0 (by omega)) (by rw [nextS_out]; exact ht.1) h1
        refine altL_tk hg ha m _ _ _ _ (hpc.go (g0.trans g) (by omega)) ⟨t1.1, fun x hx => ?_⟩ h
        rcases List.mem_append.1 hx with hx | hx
        · have := ht.2 x hx; have := (g0.trans g).pre.length_le; omega
        · exact t1.2 x hx
    · simp only [Option.some.injEq, Prod.mk.injEq] at h; obtain ⟨rfl, rfl⟩ := h; exact ht
theorem altOf_tk {row : PS → Option (Int × PS)} (hg : ∀ k st st', row st = some (k, st') → Gn 0 1 st st') (ha : ∀ k st st', PC 0 st → TreeOk st.out → row st = some (k, st') → Tk [k] st')
    {k : Int} {st st' : PS} (hpc : PC 1 st) (ht : TreeOk st.out) (h : altOf row st = some (k, st')) : Tk [k] st' := by
  unfold altOf at h
  split at h
  · exact absurd h (by simp)
  · rename_i k1 st1 h1
    have g1 := hg _ _ _ h1
    have t1 := ha _ _ _ (hpc.go (Gn.refl _) (by omega)) ht h1
    have hpc1 : PC 0 st1 := hpc.go g1 (by omega)
    split at h
    · exact absurd h (by simp)
    · rename_i ks st2 h2
      obtain ⟨d, e, g⟩ := altL_go hg _ _ _ _ _ h2
      have t2 := altL_tk hg ha _ _ _ _ _ hpc1 t1 h2
      have hph := hpc1.phi; have hg2 := g.phi
      simp only [Option.some.injEq] at h
      have := many_tk (kind := 4) t2 (by decide) (by simp at e; omega)
      rw [h] at this; exact this
theorem altP_tk : ∀ (n : Nat) (k : Int) (st st' : PS), PC 1 st → TreeOk st.out → altP n st = some (k, st') → Tk [k] st'
  | 0, _, _, _, _, _, h => by simp [altP] at h
  | n + 1, k, st, st', hpc, ht, h => by
    unfold altP at h
    exact altOf_tk (fun k st st' => row_go fun k st st' => item_go (altP_go n)) (fun k st st' hp ht => row_tk (fun k st st' => item_go (altP_go n)) (fun k st st' hp ht => item_tk (altP_tk n) hp ht) hp ht) hpc ht h
/-- the parser's memory: its nodes frozen -/
theorem gst_prs_frz {N : Nat} {Q : Env → AHeap → Prop} {env : Env} {σ : AHeap} {p id ver : Nat} {s : List Int} {out : List Nd} {dp mo : Int} (h0 : σ p = none) (hok : okP σ p (id, ver))
    (h : Gst N Q env (upd σ p (.cells 0 119 [setA s, .lst (out.flatMap encN) out.length false, int dp, int mo]))) : Gst N Q env (prs σ p id ver ⟨s, out, dp, mo⟩) := by
  obtain ⟨h1, h2⟩ := hok
  refine gst_frzL (sz := 5) (n := out.length) (id := id) (ver := ver) (e := 149) (cs := out.flatMap encN) (flat_len encN_len out) ?_ [] (by simp) _ ?_ h
  · intro hp
    unfold prs
    rw [slh_pos hp]; exact upd_same _ _ _
  · intro k o hk
    by_cases hkp : k = p
    · subst hkp
      rw [upd_same] at hk
      simp only [Option.some.injEq] at hk
      subst hk
      refine ⟨fun _ => h2, _, prs_at h2, .cells (.cons (.refl _) (.cons .sl (.cons (.refl _) (.cons (.refl _) .nil))))⟩
    · rw [upd_ne _ _ hkp] at hk
      have hki : k ≠ id := fun e => by rw [e] at hk; rw [h1] at hk; exact absurd hk (by simp)
      exact ⟨fun _ => hki, o, prs_sub h0 h1 k o hk, .refl o⟩

end Go.Proofs.YtnahdpjbddfhgaaGreatDoor
set_option linter.unusedVariables false
set_option linter.unusedSimpArgs false
namespace Go.Proofs.YtnahdpjbddfhgaaGreatDoor
open Go Go.AL
set_option maxRecDepth 100000
theorem prs_mk {σ : AHeap} {p id ver : Nat} {s : List Int} : upd σ p (.cells 0 119 [setA s, nilS, int 0, int 0]) = prs σ p id ver ⟨s, [], 0, 0⟩ := rfl
theorem z121 : zero1 Tryz.prog 121 = some (.int .i64 0) := by kernel_rfl

theorem def65_ret (a b : Nat) (σ : AHeap) : ADef Tryz.prog 65 [.ref a 0 0, .ref b 0 0] σ .returning .returning (fun σ' => σ' = σ) := by
  refine adef_rec (N := 12) (d := 5) (v := .nilIface) Tryz.func65 rfl rfl rfl rfl rfl rfl rfl rfl rfl (rec_none rfl) ?_
  refine aops_v rfl rfl rfl (a_typeAssert_nil rfl ic121 z121 rfl ?_)
  refine aops_v rfl rfl rfl (a_move rfl rfl ?_)
  refine aops_v rfl rfl rfl (a_extract rfl rfl rfl ?_)
  refine aops_v rfl rfl rfl (a_extract rfl rfl rfl ?_)
  refine aops_var_frz rfl rfl rfl rfl rfl rfl rfl tk121 zk121 rfl rfl rfl rfl rfl ?_
  refine aops_v rfl rfl rfl (a_assign rfl rfl ?_)
  refine aops_nil ?_
  refine thenE_n ?_
  refine awp_seq ?_
  refine awp_region ?_
  refine aops_v rfl rfl rfl (a_move rfl rfl ?_)
  refine aops_nil ?_
  refine thenE_n ?_
  refine awp_cond rfl (fun h1 => ?_) (fun h1 => ?_)
  · try simp only [zz1, zz2, ne_eq, zz4, zz5, zz6, gt_iff_lt, ge_iff_le, zz9, zz0] at h1
    all_goals exact absurd h1 (by simp)
  · try simp only [zz1, zz2, ne_eq, zz4, zz5, zz6, gt_iff_lt, ge_iff_le, zz9, zz0] at h1
    refine awp_skip ?_
    change Gst _ _ _ _
    exact .done rfl

theorem def65_pan (a b : Nat) (σ : AHeap) (ha : σ a = some (.cells 0 68 [nilS])) (hb : σ b = some (.cells 0 27 [int 0])) (hab : a ≠ b) : ADef Tryz.prog 65 [.ref a 0 0, .ref b 0 0] σ (.panicking flt) (.panicking [{ v := .iface 121 (.agg #[.int .i64 40]), recovered := true }]) (fun σ' => σ' = upd (upd σ a (.cells 0 68 [nilS])) b (.cells 0 27 [int 40])) := by
  refine adef_rec (N := 12) (d := 5) (v := .iface 121 (.agg #[.int .i64 40])) Tryz.func65 rfl rfl rfl rfl rfl rfl rfl rfl rfl rec_some ?_
  refine aops_v rfl rfl rfl (a_typeAssert_yes rfl ic121 rfl ?_)
  refine aops_v rfl rfl rfl (a_move rfl rfl ?_)
  refine aops_v rfl rfl rfl (a_extract rfl rfl rfl ?_)
  refine aops_v rfl rfl rfl (a_extract rfl rfl rfl ?_)
  refine aops_var_frz rfl rfl rfl rfl rfl rfl rfl tk121 zk121 rfl rfl rfl rfl rfl ?_
  refine aops_v rfl rfl rfl (a_assign rfl rfl ?_)
  refine aops_nil ?_
  refine thenE_n ?_
  refine awp_seq ?_
  refine awp_region ?_
  refine aops_v rfl rfl rfl (a_move rfl rfl ?_)
  refine aops_nil ?_
  refine thenE_n ?_
  refine awp_cond rfl (fun h1 => ?_) (fun h1 => ?_)
  · try simp only [zz1, zz2, ne_eq, zz4, zz5, zz6, gt_iff_lt, ge_iff_le, zz9, zz0] at h1
    refine awp_draw_all [[0, 1, 2, 3], [0, 2, 1, 3], [2, 0, 1, 3]] (by decide +kernel) ?_
    intro l hl
    simp only [List.mem_cons, List.not_mem_nil, or_false] at hl
    rcases hl with rfl | rfl | rfl
    · change AOps _ _ _ _ (_ :: _) _ _
      first | refine aops_v rfl rfl rfl (a_fieldAddr rfl fk121_0 rfl rfl ?_) | refine aops_v rfl rfl rfl (a_fieldAddr_pin rfl fk121_0 rfl rfl ?_)
      first | refine aops_v rfl rfl rfl (a_load_pin rfl tk27 rfl rfl ?_) | refine aops_v rfl rfl rfl (a_load rfl tk27 rfl HP rfl ?_)
      refine aops_s rfl rfl (a_store_n (cs2 := [nilS]) rfl tk68 rfl rfl ha rfl rfl (by first | decide | (simp; done)) rfl ?_)
      refine aops_s rfl rfl (a_store_n (cs2 := [int 40]) rfl tk27 rfl rfl (by rw [upd_ne _ _ (fun e => hab e.symm)]; exact hb) rfl rfl (by first | decide | (simp; done)) rfl ?_)
      refine aops_nil ?_
      change Gst _ _ _ _
      exact .done rfl
    · change AOps _ _ _ _ (_ :: _) _ _
      first | refine aops_v rfl rfl rfl (a_fieldAddr rfl fk121_0 rfl rfl ?_) | refine aops_v rfl rfl rfl (a_fieldAddr_pin rfl fk121_0 rfl rfl ?_)
      refine aops_s rfl rfl (a_store_n (cs2 := [nilS]) rfl tk68 rfl rfl ha rfl rfl (by first | decide | (simp; done)) rfl ?_)
      first | refine aops_v rfl rfl rfl (a_load_pin rfl tk27 rfl rfl ?_) | refine aops_v rfl rfl rfl (a_load rfl tk27 rfl HP rfl ?_)
      refine aops_s rfl rfl (a_store_n (cs2 := [int 40]) rfl tk27 rfl rfl (by rw [upd_ne _ _ (fun e => hab e.symm)]; exact hb) rfl rfl (by first | decide | (simp; done)) rfl ?_)
      refine aops_nil ?_
      change Gst _ _ _ _
      exact .done rfl
    · change AOps _ _ _ _ (_ :: _) _ _
      refine aops_s rfl rfl (a_store_n (cs2 := [nilS]) rfl tk68 rfl rfl ha rfl rfl (by first | decide | (simp; done)) rfl ?_)
      first | refine aops_v rfl rfl rfl (a_fieldAddr rfl fk121_0 rfl rfl ?_) | refine aops_v rfl rfl rfl (a_fieldAddr_pin rfl fk121_0 rfl rfl ?_)
      first | refine aops_v rfl rfl rfl (a_load_pin rfl tk27 rfl rfl ?_) | refine aops_v rfl rfl rfl (a_load rfl tk27 rfl HP rfl ?_)
      refine aops_s rfl rfl (a_store_n (cs2 := [int 40]) rfl tk27 rfl rfl (by rw [upd_ne _ _ (fun e => hab e.symm)]; exact hb) rfl rfl (by first | decide | (simp; done)) rfl ?_)
      refine aops_nil ?_
      change Gst _ _ _ _
      exact .done rfl
  · try simp only [zz1, zz2, ne_eq, zz4, zz5, zz6, gt_iff_lt, ge_iff_le, zz9, zz0] at h1
    all_goals exact absurd h1 (by simp)

end Go.Proofs.YtnahdpjbddfhgaaGreatDoor
