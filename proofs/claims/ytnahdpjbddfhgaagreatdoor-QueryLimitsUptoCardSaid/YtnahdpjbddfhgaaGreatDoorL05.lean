/- A part of the proof: the program logic AL, the walks of the functions that the law calls, what they compute. No condition of its own. -/
import Derived.Test.YtnahdpjbddfhgaaGreatDoorL04
import Derived.ProofKit
import Derived.WalkKit
set_option linter.unusedVariables false
set_option linter.unusedSimpArgs false
set_option linter.unusedVariables false
set_option linter.unusedSimpArgs false
namespace Go.Proofs.YtnahdpjbddfhgaaGreatDoor
open Go Go.AL
set_option maxRecDepth 100000
/-- a rune, a node, the parser -/
abbrev rI (x : Int) : AV := .v (.int .i32 x)
structure Nd where
  kind : Int
  kids : List Int
  min : Int
  max : Int
  set : List Int
structure PS where
  s : List Int
  out : List Nd
  deep : Int
  most : Int
def encN (n : Nd) : List AV := [int n.kind, .lst (n.kids.map int) n.kids.length false, int n.min, int n.max, .lst (n.set.map rI) n.set.length false]
theorem encN_len (n : Nd) : (encN n).length = 5 := rfl
theorem encN_ones (n : Nd) : (encN n).all AV.one = true := rfl
def parC (st : PS) (id ver : Nat) : AObj := .cells 0 119 [.lst (st.s.map rI) st.s.length false, slv 5 (st.out.flatMap encN) st.out.length id ver, int st.deep, int st.most]
def prs (σ0 : AHeap) (p id ver : Nat) (st : PS) : AHeap := slh (upd σ0 p (parC st id ver)) 149 (st.out.flatMap encN) st.out.length id ver
def flt : List PanicEntry := panE 121 (.int .i64 40)
/-- the places of the nodes -/
def okP (σ0 : AHeap) (p : Nat) (i : Nat × Nat) : Prop := σ0 i.1 = none ∧ p ≠ i.1
theorem prs_sub {σ0 : AHeap} {p id ver : Nat} {st : PS} (h0 : σ0 p = none) (hi : σ0 id = none) : ∀ k o, σ0 k = some o → prs σ0 p id ver st k = some o := by
  intro k o hk
  have h1 : k ≠ p := fun e => by rw [e, h0] at hk; exact absurd hk (by simp)
  have h2 : k ≠ id := fun e => by rw [e, hi] at hk; exact absurd hk (by simp)
  unfold prs
  rw [slh_at _ _ _ _ h2, upd_ne _ _ h1]; exact hk
/-- what a call of the parser's that may give up says -/
abbrev ParR {α : Type} (σ0 : AHeap) (p : Nat) (res : Option (α × PS)) (enc : α → AV) : AEnd → AHeap → Prop :=
  ResP (ι := Nat × Nat) flt σ0 res (fun _ i => okP σ0 p i) (fun x _ => enc x.1) (fun x i => prs σ0 p i.1 i.2 x.2)

def PS.push (st : PS) (n : Nd) : Int × PS := (st.out.length, { st with out := st.out ++ [n] })
def nextB (r : Int) (st : PS) : Bool := match st.s with | c :: _ => decide (c = r) | [] => false
def nextS (r : Int) (st : PS) : PS := match st.s with | c :: s => if c = r then { st with s := s } else st | [] => st
def takeP (st : PS) : Option (Int × PS) := match st.s with | [] => none | c :: s => some (c, { st with s := s })
def manyP (kind : Int) (kids : List Int) (st : PS) : Int × PS := match kids with | [k] => (k, st) | _ => st.push ⟨kind, kids, 0, 0, []⟩
def digitP (st : PS) : Option (Int × PS) := match takeP st with
  | none => none
  | some (r, st) => if 48 ≤ r ∧ r ≤ 56 then some (r - 48, st) else none
def special : List Int := [92, 40, 41, 91, 93, 123, 125, 42, 43, 63, 124, 46, 94, 36]
def escapeP (st : PS) : Option (List Int × PS) := match takeP st with
  | none => none
  | some (r, st) =>
    if r = 110 then some ([10, 10], st) else if r = 116 then some ([9, 9], st) else if r = 100 then some ([48, 57], st)
    else if r = 119 then some ([48, 57, 65, 90, 95, 95, 97, 122], st) else if r = 115 then some ([9, 10, 13, 13, 32, 32], st)
    else if oneOf (special ++ [45]) r then some ([r, r], st) else none
def memberP (st : PS) : Option (List Int × PS) := match takeP st with
  | none => none
  | some (r, st) => if r = 92 then escapeP st else if oneOf [91, 93, 94, 45] r then none else some ([r, r], st)

theorem prs_at {σ0 : AHeap} {p id ver : Nat} {s : List Int} {out : List Nd} {dp mo : Int} (hne : p ≠ id) :
    prs σ0 p id ver ⟨s, out, dp, mo⟩ p = some (.cells 0 119 [.lst (s.map rI) s.length false, slv 5 (out.flatMap encN) out.length id ver, int dp, int mo]) := by
  unfold prs; rw [slh_at _ _ _ _ hne]; exact upd_same _ _ _
theorem prs_set {σ0 : AHeap} {p id ver : Nat} {s s' : List Int} {out : List Nd} {dp mo dp' mo' : Int} (hne : p ≠ id) :
    upd (prs σ0 p id ver ⟨s, out, dp, mo⟩) p (.cells 0 119 [.lst (s'.map rI) s'.length false, slv 5 (out.flatMap encN) out.length id ver, int dp', int mo']) = prs σ0 p id ver ⟨s', out, dp', mo'⟩ := by
  unfold prs; rw [slh_upd _ _ _ _ hne, upd_upd]; rfl
theorem prs_push {σ0 : AHeap} {p id ver : Nat} {s : List Int} {out : List Nd} {dp mo : Int} {o : AObj} {cs : List AV} {n : Nat} (hne : p ≠ id) (hc : cs = out.flatMap encN) (hn : n = out.length) :
    upd (slh (upd σ0 p o) 149 cs n id ver) p (.cells 0 119 [.lst (s.map rI) s.length false, slv 5 cs n id ver, int dp, int mo]) = prs σ0 p id ver ⟨s, out, dp, mo⟩ := by
  unfold prs; rw [slh_upd _ _ _ _ hne, upd_upd, hc, hn]; rfl
theorem tail_lst {c : Int} {s : List Int} : AV.lst ((((c :: s).map rI).drop (Int.toNat 1 * 1)).take (((((c :: s).length : Nat) : Int).toNat - Int.toNat 1) * 1)) ((((c :: s).length : Nat) : Int).toNat - Int.toNat 1) false = .lst (s.map rI) s.length false := by
  have e1 : ((((c :: s).length : Nat) : Int).toNat - Int.toNat 1) = s.length := by simp
  have e2 : Int.toNat 1 * 1 = 1 := rfl
  rw [e1, e2]
  simp [List.take_of_length_le]
theorem prs_eq {σ0 : AHeap} {p id ver : Nat} {s : List Int} {out : List Nd} {dp mo : Int} : prs σ0 p id ver ⟨s, out, dp, mo⟩ =
    slh (upd σ0 p (.cells 0 119 [.lst (s.map rI) s.length false, slv 5 (out.flatMap encN) out.length id ver, int dp, int mo])) 149 (out.flatMap encN) out.length id ver := rfl
theorem parR_ok {α : Type} {σ0 : AHeap} {p : Nat} {res : Option (α × PS)} {enc : α → AV} {a : α} {st' : PS} {id ver : Nat} (h : res = some (a, st')) (hok : okP σ0 p (id, ver)) :
    ParR σ0 p res enc (.ret (enc a)) (prs σ0 p id ver st') := by
  subst h; exact ⟨(id, ver), hok, rfl, rfl⟩
abbrev setA (l : List Int) : AV := .lst (l.map rI) l.length false
/-- runes that may be -/
def RnV (l : List Int) : Prop := ∀ x ∈ l, 0 ≤ x ∧ x ≤ 1114111 ∧ (x < 55296 ∨ 57343 < x)
theorem takeP_inv {s s1 : List Int} {out out1 : List Nd} {dp mo dp1 mo1 c : Int} (h : takeP ⟨s, out, dp, mo⟩ = some (c, ⟨s1, out1, dp1, mo1⟩)) : s = c :: s1 ∧ out1 = out ∧ dp1 = dp ∧ mo1 = mo := by
  unfold takeP at h
  cases s with
  | nil => simp at h
  | cons x s => simp at h; obtain ⟨rfl, rfl, rfl, rfl, rfl⟩ := h; simp

theorem must_spec (x : AV) (b : Bool) (σ : AHeap)  : ASpec Tryz.prog 67 [x, boo b] σ fun r σ' => ResP flt σ (if b = true then some () else none) (fun _ (_ : Unit) => True) (fun _ _ => .tup []) (fun _ _ => σ) r σ' := by
  refine aspec_enter (N := 8) (rs := []) Tryz.func67 rfl rfl rfl rfl rfl rfl ?_
  refine awp_seq ?_
  refine awp_region ?_
  refine aops_v rfl rfl rfl (a_move rfl rfl ?_)
  refine aops_v rfl rfl rfl (a_not rfl rfl ?_)
  refine aops_nil ?_
  refine thenE_n ?_
  refine awp_cond rfl (fun h1 => ?_) (fun h1 => ?_)
  · try simp only [zz1, zz2, ne_eq, zz4, zz5, zz6, gt_iff_lt, ge_iff_le, zz9, zz0] at h1
    refine awp_region ?_
    refine aops_v rfl rfl rfl (a_build (res := [_]) rfl bk121 rfl rfl ?_)
    refine aops_v rfl rfl rfl (a_makeInterface rfl ic121 rfl ?_)
    refine aops_panic rfl rfl rfl ?_
    change Gst _ _ _ _
    exact .done (by simp_all [ResP, flt, panE])
  · try simp only [zz1, zz2, ne_eq, zz4, zz5, zz6, gt_iff_lt, ge_iff_le, zz9, zz0] at h1
    refine awp_skip ?_
    change Gst _ _ _ _
    refine fin0 rfl ?_
    simp_all [ResP]

theorem nextP_spec (p id ver : Nat) (st : PS) (c0 : Int) (σ : AHeap) (h0 : σ p = none) (hok : okP σ p (id, ver)) : ASpec Tryz.prog 99 [.ref p 0 0, rI c0] (prs σ p id ver st) fun r σ' => r = .ret (boo (nextB c0 st)) ∧ σ' = prs σ p id ver (nextS c0 st) := by
  obtain ⟨hid, hne⟩ := hok
  have hok : okP σ p (id, ver) := ⟨hid, hne⟩
  dsimp only at hid hne
  obtain ⟨s0, out, dp, mo⟩ := st
  try dsimp only at hl
  refine aspec_enter (N := 29) (rs := [.tmp 4]) Tryz.func99 rfl rfl rfl rfl rfl rfl ?_
  refine awp_seq ?_
  refine awp_region ?_
  refine aops_v rfl rfl rfl (a_assign rfl rfl ?_)
  refine aops_nil ?_
  refine thenE_n ?_
  refine awp_seq ?_
  refine awp_seq ?_
  refine awp_region ?_
  refine aops_v rfl rfl rfl (a_move rfl rfl ?_)
  first | refine aops_v rfl rfl rfl (a_nilCheck rfl rfl ?_) | refine aops_v rfl rfl rfl (a_nilCheck_pin rfl rfl ?_) | refine aops_v rfl rfl rfl (a_nilCheck_clo rfl rfl ?_)
  first | refine aops_v rfl rfl rfl (a_fieldAddr rfl fk119_0 rfl rfl ?_) | refine aops_v rfl rfl rfl (a_fieldAddr_pin rfl fk119_0 rfl rfl ?_)
  first | refine aops_v rfl rfl rfl (a_load_pin rfl tk59 rfl rfl ?_) | refine aops_v rfl rfl rfl (a_load rfl tk59 rfl HP rfl ?_)
  first | refine aops_v rfl rfl rfl (a_len_lst rfl isl59 rfl ?_) | refine aops_v rfl rfl rfl (a_len rfl isl59 rfl ?_) | refine aops_v rfl rfl rfl (a_len_slg rfl isl59 rfl ?_) | refine aops_v rfl rfl rfl (a_len_nil rfl isl59 rfl ?_)
  refine aops_v rfl rfl rfl (a_int rfl rfl rfl rfl ?_)
  refine aops_v rfl rfl rfl (a_move rfl rfl ?_)
  refine aops_bool (fun h1 => ?_) (fun h1 => ?_)
  · try simp only [zz1, zz2, ne_eq, zz4, zz5, zz6, gt_iff_lt, ge_iff_le, zz9, zz0] at h1
    obtain rfl : s0 = [] := List.eq_nil_of_length_eq_zero (by omega)
    refine aops_no rfl rfl rfl rfl rfl rfl ?_
    refine aops_no rfl rfl rfl rfl rfl rfl ?_
    refine aops_no rfl rfl rfl rfl rfl rfl ?_
    refine aops_no rfl rfl rfl rfl rfl rfl ?_
    refine aops_no rfl rfl rfl rfl rfl rfl ?_
    refine aops_no rfl rfl rfl rfl rfl rfl ?_
    refine aops_no rfl rfl rfl rfl rfl rfl ?_
    refine aops_no rfl rfl rfl rfl rfl rfl ?_
    refine aops_v rfl rfl rfl (a_pick rfl rfl rfl ?_)
    refine aops_nil ?_
    refine thenE_n ?_
    refine awp_cond (b := true) rfl (fun _ => ?_) (fun h => Bool.noConfusion h)
    refine awp_seq ?_
    refine awp_region ?_
    refine aops_v rfl rfl rfl (a_assign rfl rfl ?_)
    refine aops_nil ?_
    refine thenE_n ?_
    refine awp_ret ?_
    change Gst _ _ _ _
    refine fin1 rfl ?_
    exact ⟨rfl, rfl⟩
  · try simp only [zz1, zz2, ne_eq, zz4, zz5, zz6, gt_iff_lt, ge_iff_le, zz9, zz0] at h1
    obtain ⟨c, s, rfl⟩ : ∃ c s, s0 = c :: s := by cases s0 with | nil => simp at h1 | cons c s => exact ⟨c, s, rfl⟩
    refine aops_yes rfl rfl rfl rfl ?_
    refine aops_v rfl rfl rfl (a_move rfl rfl ?_)
    refine aops_yes rfl rfl rfl rfl ?_
    first | refine aops_v rfl rfl rfl (a_nilCheck rfl rfl ?_) | refine aops_v rfl rfl rfl (a_nilCheck_pin rfl rfl ?_) | refine aops_v rfl rfl rfl (a_nilCheck_clo rfl rfl ?_)
    refine aops_yes rfl rfl rfl rfl ?_
    first | refine aops_v rfl rfl rfl (a_fieldAddr rfl fk119_0 rfl rfl ?_) | refine aops_v rfl rfl rfl (a_fieldAddr_pin rfl fk119_0 rfl rfl ?_)
    refine aops_yes rfl rfl rfl rfl ?_
    first | refine aops_v rfl rfl rfl (a_load_pin rfl tk59 rfl rfl ?_) | refine aops_v rfl rfl rfl (a_load rfl tk59 rfl HP rfl ?_)
    refine aops_yes rfl rfl rfl rfl ?_
    first | refine aops_v rfl rfl rfl (a_indexAddr_lst rfl ek59 rfl rfl NT (by omega) (by omega) ?_) | refine aops_v rfl rfl rfl (a_indexAddr rfl ek59 rfl rfl NT (by omega) (by omega) ?_)
    refine aops_yes rfl rfl rfl rfl ?_
    first | refine aops_v rfl rfl rfl (a_load_pin rfl tk21 rfl rfl ?_) | refine aops_v rfl rfl rfl (a_load rfl tk21 rfl HP rfl ?_)
    refine aops_yes rfl rfl rfl rfl ?_
    refine aops_v rfl rfl rfl (a_move rfl rfl ?_)
    refine aops_yes rfl rfl rfl rfl ?_
    refine aops_v rfl rfl rfl (a_int rfl rfl rfl rfl ?_)
    refine aops_v rfl rfl rfl (a_pick rfl rfl rfl ?_)
    refine aops_nil ?_
    refine thenE_n ?_
    refine awp_cond rfl (fun h2 => ?_) (fun h2 => ?_)
    · try simp only [zz1, zz2, ne_eq, zz4, zz5, zz6, gt_iff_lt, ge_iff_le, zz9, zz0] at h2
      have hc := h2
      refine awp_seq ?_
      refine awp_region ?_
      refine aops_v rfl rfl rfl (a_assign rfl rfl ?_)
      refine aops_nil ?_
      refine thenE_n ?_
      refine awp_ret ?_
      change Gst _ _ _ _
      refine fin1 rfl ?_
      exact ⟨by simp [nextB, hc], by simp [nextS, hc]⟩
    · try simp only [zz1, zz2, ne_eq, zz4, zz5, zz6, gt_iff_lt, ge_iff_le, zz9, zz0] at h2
      have hc := h2
      refine awp_skip ?_
      refine thenE_n ?_
      refine awp_seq ?_
      refine awp_region ?_
      refine aops_v rfl rfl rfl (a_move rfl rfl ?_)
      refine aops_v rfl rfl rfl (a_move rfl rfl ?_)
      first | refine aops_v rfl rfl rfl (a_nilCheck rfl rfl ?_) | refine aops_v rfl rfl rfl (a_nilCheck_pin rfl rfl ?_) | refine aops_v rfl rfl rfl (a_nilCheck_clo rfl rfl ?_)
      first | refine aops_v rfl rfl rfl (a_fieldAddr rfl fk119_0 rfl rfl ?_) | refine aops_v rfl rfl rfl (a_fieldAddr_pin rfl fk119_0 rfl rfl ?_)
      first | refine aops_v rfl rfl rfl (a_load_pin rfl tk59 rfl rfl ?_) | refine aops_v rfl rfl rfl (a_load rfl tk59 rfl HP rfl ?_)
      first | refine aops_v rfl rfl rfl (a_slice_lst rfl ek59 rfl rfl rfl (by omega) (by omega) (by omega) (by first | assumption | simp) ?_) | refine aops_v rfl rfl rfl (a_slice rfl ek59 (by decide) rfl rfl rfl (by omega) (by omega) (by omega) ?_)
      rw [tail_lst]
      first | refine aops_v rfl rfl rfl (a_nilCheck rfl rfl ?_) | refine aops_v rfl rfl rfl (a_nilCheck_pin rfl rfl ?_) | refine aops_v rfl rfl rfl (a_nilCheck_clo rfl rfl ?_)
      first | refine aops_v rfl rfl rfl (a_fieldAddr rfl fk119_0 rfl rfl ?_) | refine aops_v rfl rfl rfl (a_fieldAddr_pin rfl fk119_0 rfl rfl ?_)
      first | refine aops_s rfl rfl (a_store_n (cs2 := [_, _, _, _]) rfl tk59 rfl rfl HP rfl rfl (by first | decide | (simp; done) | (simp; omega)) rfl ?_) | refine aops_s rfl rfl (a_store rfl tk59 rfl rfl HP rfl rfl (by first | decide | (simp [stv, AV.cells]; done) | (simp [stv, AV.cells]; omega)) ?_)
      rw [prs_set hne]
      refine aops_nil ?_
      refine thenE_n ?_
      refine awp_seq ?_
      refine awp_region ?_
      refine aops_v rfl rfl rfl (a_assign rfl rfl ?_)
      refine aops_nil ?_
      refine thenE_n ?_
      refine awp_ret ?_
      change Gst _ _ _ _
      refine fin1 rfl ?_
      exact ⟨by simp [nextB, hc], by simp [nextS, hc]⟩

theorem takeP_spec (p id ver : Nat) (st : PS) (σ : AHeap) (h0 : σ p = none) (hok : okP σ p (id, ver)) : ASpec Tryz.prog 166 [.ref p 0 0] (prs σ p id ver st) fun r σ' => ParR σ p (takeP st) rI r σ' := by
  obtain ⟨hid, hne⟩ := hok
  have hok : okP σ p (id, ver) := ⟨hid, hne⟩
  dsimp only at hid hne
  obtain ⟨s0, out, dp, mo⟩ := st
  try dsimp only at hl
  refine aspec_enter (N := 27) (rs := [.tmp 2]) Tryz.func166 rfl rfl rfl rfl rfl rfl ?_
  refine awp_seq ?_
  refine awp_region ?_
  refine aops_v rfl rfl rfl (a_assign rfl rfl ?_)
  refine aops_nil ?_
  refine thenE_n ?_
  refine awp_seq ?_
  refine awp_region ?_
  refine aops_v rfl rfl rfl (a_move rfl rfl ?_)
  refine aops_v rfl rfl rfl (a_move rfl rfl ?_)
  first | refine aops_v rfl rfl rfl (a_nilCheck rfl rfl ?_) | refine aops_v rfl rfl rfl (a_nilCheck_pin rfl rfl ?_) | refine aops_v rfl rfl rfl (a_nilCheck_clo rfl rfl ?_)
  first | refine aops_v rfl rfl rfl (a_fieldAddr rfl fk119_0 rfl rfl ?_) | refine aops_v rfl rfl rfl (a_fieldAddr_pin rfl fk119_0 rfl rfl ?_)
  first | refine aops_v rfl rfl rfl (a_load_pin rfl tk59 rfl rfl ?_) | refine aops_v rfl rfl rfl (a_load rfl tk59 rfl HP rfl ?_)
  first | refine aops_v rfl rfl rfl (a_len_lst rfl isl59 rfl ?_) | refine aops_v rfl rfl rfl (a_len rfl isl59 rfl ?_) | refine aops_v rfl rfl rfl (a_len_slg rfl isl59 rfl ?_) | refine aops_v rfl rfl rfl (a_len_nil rfl isl59 rfl ?_)
  refine aops_v rfl rfl rfl (a_int rfl rfl rfl rfl ?_)
  rw [show (decide ((0 : Int) < ((s0.length : Nat) : Int))) = !s0.isEmpty by cases s0 <;> simp <;> omega]
  cases s0 with
  | nil =>
    refine aops_call_res rfl rfl rfl rfl cf67 rfl (must_spec _ false _) (fun hz => ?_) (fun _ _ hz => absurd hz (by simp))
    change Gst _ _ _ _
    refine gst_sub σ (prs_sub h0 hid) ?_
    exact .done (by simp [ResP, takeP])
  | cons c s =>
  refine aops_call_res rfl rfl rfl rfl cf67 rfl (must_spec _ true _) (fun hz => absurd hz (by simp)) (fun _ _ _ _ => ?_)
  have hlen : (c :: s).length = s.length + 1 := rfl
  refine aops_nil ?_
  refine thenE_n ?_
  refine awp_seq ?_
  refine awp_region ?_
  refine aops_v rfl rfl rfl (a_move rfl rfl ?_)
  first | refine aops_v rfl rfl rfl (a_nilCheck rfl rfl ?_) | refine aops_v rfl rfl rfl (a_nilCheck_pin rfl rfl ?_) | refine aops_v rfl rfl rfl (a_nilCheck_clo rfl rfl ?_)
  first | refine aops_v rfl rfl rfl (a_fieldAddr rfl fk119_0 rfl rfl ?_) | refine aops_v rfl rfl rfl (a_fieldAddr_pin rfl fk119_0 rfl rfl ?_)
  first | refine aops_v rfl rfl rfl (a_load_pin rfl tk59 rfl rfl ?_) | refine aops_v rfl rfl rfl (a_load rfl tk59 rfl HP rfl ?_)
  first | refine aops_v rfl rfl rfl (a_indexAddr_lst rfl ek59 rfl rfl NT (by omega) (by omega) ?_) | refine aops_v rfl rfl rfl (a_indexAddr rfl ek59 rfl rfl NT (by omega) (by omega) ?_)
  first | refine aops_v rfl rfl rfl (a_load_pin rfl tk21 rfl rfl ?_) | refine aops_v rfl rfl rfl (a_load rfl tk21 rfl HP rfl ?_)
  refine aops_v rfl rfl rfl (a_assign rfl rfl ?_)
  refine aops_nil ?_
  refine thenE_n ?_
  refine awp_seq ?_
  refine awp_region ?_
  refine aops_v rfl rfl rfl (a_move rfl rfl ?_)
  refine aops_v rfl rfl rfl (a_move rfl rfl ?_)
  first | refine aops_v rfl rfl rfl (a_nilCheck rfl rfl ?_) | refine aops_v rfl rfl rfl (a_nilCheck_pin rfl rfl ?_) | refine aops_v rfl rfl rfl (a_nilCheck_clo rfl rfl ?_)
  first | refine aops_v rfl rfl rfl (a_fieldAddr rfl fk119_0 rfl rfl ?_) | refine aops_v rfl rfl rfl (a_fieldAddr_pin rfl fk119_0 rfl rfl ?_)
  first | refine aops_v rfl rfl rfl (a_load_pin rfl tk59 rfl rfl ?_) | refine aops_v rfl rfl rfl (a_load rfl tk59 rfl HP rfl ?_)
  first | refine aops_v rfl rfl rfl (a_slice_lst rfl ek59 rfl rfl rfl (by omega) (by omega) (by omega) (by first | assumption | simp) ?_) | refine aops_v rfl rfl rfl (a_slice rfl ek59 (by decide) rfl rfl rfl (by omega) (by omega) (by omega) ?_)
  rw [tail_lst]
  first | refine aops_v rfl rfl rfl (a_nilCheck rfl rfl ?_) | refine aops_v rfl rfl rfl (a_nilCheck_pin rfl rfl ?_) | refine aops_v rfl rfl rfl (a_nilCheck_clo rfl rfl ?_)
  first | refine aops_v rfl rfl rfl (a_fieldAddr rfl fk119_0 rfl rfl ?_) | refine aops_v rfl rfl rfl (a_fieldAddr_pin rfl fk119_0 rfl rfl ?_)
  first | refine aops_s rfl rfl (a_store_n (cs2 := [_, _, _, _]) rfl tk59 rfl rfl HP rfl rfl (by first | decide | (simp; done) | (simp; omega)) rfl ?_) | refine aops_s rfl rfl (a_store rfl tk59 rfl rfl HP rfl rfl (by first | decide | (simp [stv, AV.cells]; done) | (simp [stv, AV.cells]; omega)) ?_)
  rw [prs_set hne]
  refine aops_nil ?_
  refine thenE_n ?_
  refine awp_seq ?_
  refine awp_region ?_
  refine aops_v rfl rfl rfl (a_move rfl rfl ?_)
  refine aops_v rfl rfl rfl (a_assign rfl rfl ?_)
  refine aops_nil ?_
  refine thenE_n ?_
  refine awp_ret ?_
  change Gst _ _ _ _
  refine fin1 rfl ?_
  exact ⟨(id, ver), hok, rfl, rfl⟩

theorem node_spec (p id ver : Nat) (st : PS) (n : Nd) (σ : AHeap) (h0 : σ p = none) (hok : okP σ p (id, ver)) (hl : st.out.length ≤ 1000000) : ASpec Tryz.prog 126 [.ref p 0 0, .agg (encN n)] (prs σ p id ver st) fun r σ' => ParR σ p (some (st.push n)) int r σ' := by
  obtain ⟨hid, hne⟩ := hok
  have hok : okP σ p (id, ver) := ⟨hid, hne⟩
  dsimp only at hid hne
  obtain ⟨s0, out, dp, mo⟩ := st
  try dsimp only at hl
  unfold encN
  refine aspec_enter (N := 21) (rs := [.tmp 4]) Tryz.func126 rfl rfl rfl rfl rfl rfl ?_
  refine awp_seq ?_
  refine awp_region ?_
  refine aops_v rfl rfl rfl (a_box_frz rfl rfl rfl ?_)
  refine aops_v rfl rfl rfl (a_assign rfl rfl ?_)
  refine aops_nil ?_
  refine thenE_n ?_
  refine awp_seq ?_
  refine awp_drawH [0, 0, 2, 6, 14, 0, 32, 126, 255, 511, 1023] 7 126 rfl (by decide +kernel) (by decide +kernel) (by decide +kernel) rfl rfl rfl rfl ?_
  simp only [List.take_succ_cons, List.take_zero, List.take_nil, List.drop_succ_cons, List.drop_zero, List.drop_nil]
  refine dph_light rfl (fun _ => apure_val (a_move rfl rfl pure_done)) rfl ?_
  refine dph_val rfl (apure_val (a_move rfl rfl pure_done)) rfl rfl ?_
  first | refine dph_val rfl (apure_val (a_nilCheck rfl rfl pure_done)) rfl rfl ?_ | refine dph_val rfl (apure_val (a_nilCheck_pin rfl rfl pure_done)) rfl rfl ?_ | refine dph_val rfl (apure_val (a_nilCheck_clo rfl rfl pure_done)) rfl rfl ?_
  first | refine dph_val rfl (apure_val (a_fieldAddr rfl fk119_1 rfl rfl pure_done)) rfl rfl ?_ | refine dph_val rfl (apure_val (a_fieldAddr_pin rfl fk119_1 rfl rfl pure_done)) rfl rfl ?_
  first | refine dph_val rfl (apure_val (a_load_pin rfl tk68 rfl rfl pure_done)) rfl rfl ?_ | refine dph_val rfl (apure_val (a_load rfl tk68 rfl HP rfl pure_done)) rfl rfl ?_
  first | refine dph_val rfl (apure_val (a_load_pin rfl tk149 rfl rfl pure_done)) rfl rfl ?_ | refine dph_val rfl (apure_val (a_load rfl tk149 rfl HP rfl pure_done)) rfl rfl ?_
  refine dph_val rfl (apure_val (a_buildSlice (res := [_, _, _, _, _]) rfl sk68 rfl rfl rfl pure_done)) rfl rfl ?_
  have hlen : (out.flatMap encN).length = out.length * 5 := flat_len encN_len out
  rw [prs_eq]
  refine aheavy_val (a_append_sl rfl sk68 rfl hlen rfl (.lst rfl) rfl (by omega) (by simp only [maxLen]; omega) (by rw [upd_ne _ _ (Ne.symm hne)]; exact hid) ?_)
  intro id12 ver12 hid12
  change AOps _ _ _ _ _ _ _
  obtain ⟨hne12, hid12b⟩ := ne_of_upd hid12
  rw [show out.flatMap encN ++ [int n.kind, .lst (n.kids.map int) n.kids.length false, int n.min, int n.max, .lst (n.set.map rI) n.set.length false] = (out ++ [n]).flatMap encN by simp [encN], show out.length + 1 = (out ++ [n]).length by simp]
  have hl2 : (out ++ [n]).length = out.length + 1 := by simp
  first | refine aops_v rfl rfl rfl (a_nilCheck rfl rfl ?_) | refine aops_v rfl rfl rfl (a_nilCheck_pin rfl rfl ?_) | refine aops_v rfl rfl rfl (a_nilCheck_clo rfl rfl ?_)
  first | refine aops_v rfl rfl rfl (a_fieldAddr rfl fk119_1 rfl rfl ?_) | refine aops_v rfl rfl rfl (a_fieldAddr_pin rfl fk119_1 rfl rfl ?_)
  refine aops_s rfl rfl (a_store_slv (cs2 := [_, _, _, _]) rfl tk68 rfl rfl (by rw [slh_at _ _ _ _ hne12]; exact upd_same _ _ _) (by simp) rfl ?_)
  rw [prs_push hne12 rfl rfl]
  refine aops_nil ?_
  refine thenE_n ?_
  refine awp_seq ?_
  refine awp_region ?_
  refine aops_v rfl rfl rfl (a_move rfl rfl ?_)
  first | refine aops_v rfl rfl rfl (a_nilCheck rfl rfl ?_) | refine aops_v rfl rfl rfl (a_nilCheck_pin rfl rfl ?_) | refine aops_v rfl rfl rfl (a_nilCheck_clo rfl rfl ?_)
  first | refine aops_v rfl rfl rfl (a_fieldAddr rfl fk119_1 rfl rfl ?_) | refine aops_v rfl rfl rfl (a_fieldAddr_pin rfl fk119_1 rfl rfl ?_)
  first | refine aops_v rfl rfl rfl (a_load_pin rfl tk68 rfl rfl ?_) | refine aops_v rfl rfl rfl (a_load rfl tk68 rfl HP rfl ?_)
  first | refine aops_v rfl rfl rfl (a_len_lst rfl isl68 rfl ?_) | refine aops_v rfl rfl rfl (a_len rfl isl68 rfl ?_) | refine aops_v rfl rfl rfl (a_len_slg rfl isl68 rfl ?_) | refine aops_v rfl rfl rfl (a_len_nil rfl isl68 rfl ?_)
  first | refine aops_v rfl rfl rfl (a_sub rfl rfl rfl (by simp only [Go.AL.lo, Go.AL.hi]; omega) ?_) | refine aops_v rfl rfl rfl (a_int rfl rfl rfl rfl ?_)
  refine aops_v rfl rfl rfl (a_assign rfl rfl ?_)
  refine aops_nil ?_
  refine thenE_n ?_
  refine awp_ret ?_
  change Gst _ _ _ _
  refine fin1 rfl ?_
  exact ⟨(id12, ver12), ⟨hid12b, hne12⟩, by simp [PS.push], rfl⟩

theorem many_spec (p id ver : Nat) (st : PS) (k : Int) (kids : List Int) (σ : AHeap) (h0 : σ p = none) (hok : okP σ p (id, ver)) (hl : st.out.length ≤ 1000000) : ASpec Tryz.prog 100 [.ref p 0 0, int k, .lst (kids.map int) kids.length false] (prs σ p id ver st) fun r σ' => ParR σ p (some (manyP k kids st)) int r σ' := by
  obtain ⟨hid, hne⟩ := hok
  have hok : okP σ p (id, ver) := ⟨hid, hne⟩
  dsimp only at hid hne
  obtain ⟨s0, out, dp, mo⟩ := st
  try dsimp only at hl
  refine aspec_enter (N := 18) (rs := [.tmp 6]) Tryz.func100 rfl rfl rfl rfl rfl rfl ?_
  refine awp_seq ?_
  refine awp_region ?_
  refine aops_v rfl rfl rfl (a_assign rfl rfl ?_)
  refine aops_nil ?_
  refine thenE_n ?_
  refine awp_seq ?_
  refine awp_seq ?_
  refine awp_region ?_
  refine aops_v rfl rfl rfl (a_move rfl rfl ?_)
  first | refine aops_v rfl rfl rfl (a_len_lst rfl isl67 rfl ?_) | refine aops_v rfl rfl rfl (a_len rfl isl67 rfl ?_) | refine aops_v rfl rfl rfl (a_len_slg rfl isl67 rfl ?_) | refine aops_v rfl rfl rfl (a_len_nil rfl isl67 rfl ?_)
  refine aops_v rfl rfl rfl (a_int rfl rfl rfl rfl ?_)
  refine aops_nil ?_
  refine thenE_n ?_
  refine awp_cond rfl (fun h1 => ?_) (fun h1 => ?_)
  · try simp only [zz1, zz2, ne_eq, zz4, zz5, zz6, gt_iff_lt, ge_iff_le, zz9, zz0] at h1
    obtain ⟨x, rfl⟩ : ∃ x, kids = [x] := by match kids, h1 with | [x], _ => exact ⟨x, rfl⟩ | [], h => simp at h | _ :: _ :: _, h => simp at h; omega
    refine awp_seq ?_
    refine awp_region ?_
    refine aops_v rfl rfl rfl (a_move rfl rfl ?_)
    first | refine aops_v rfl rfl rfl (a_indexAddr_lst rfl ek67 rfl rfl NT (by omega) (by omega) ?_) | refine aops_v rfl rfl rfl (a_indexAddr rfl ek67 rfl rfl NT (by omega) (by omega) ?_)
    first | refine aops_v rfl rfl rfl (a_load_pin rfl tk3 rfl rfl ?_) | refine aops_v rfl rfl rfl (a_load rfl tk3 rfl HP rfl ?_)
    refine aops_v rfl rfl rfl (a_assign rfl rfl ?_)
    refine aops_nil ?_
    refine thenE_n ?_
    refine awp_ret ?_
    change Gst _ _ _ _
    refine fin1 rfl ?_
    exact ⟨(id, ver), hok, rfl, rfl⟩
  · try simp only [zz1, zz2, ne_eq, zz4, zz5, zz6, gt_iff_lt, ge_iff_le, zz9, zz0] at h1
    refine awp_skip ?_
    refine thenE_n ?_
    refine awp_seq ?_
    refine awp_region ?_
    refine aops_v rfl rfl rfl (a_move rfl rfl ?_)
    refine aops_v rfl rfl rfl (a_move rfl rfl ?_)
    refine aops_v rfl rfl rfl (a_move rfl rfl ?_)
    refine aops_v rfl rfl rfl (a_build (res := [_, _, _, _, _]) rfl bk149 rfl rfl ?_)
    refine aops_call_res rfl rfl rfl rfl cf126 rfl ((node_spec p id ver ⟨s0, out, dp, mo⟩ ⟨k, kids, 0, 0, []⟩ _ h0 hok hl).wk (by refine .cons wk_refl (.cons (wk_agg ?_) .nil); repeat (first | exact .nil | refine .cons wk_refl ?_ | refine .cons wk_nil ?_ | refine .cons wk_ex ?_))) (fun h2 => ?_) ?_
    · change Gst _ _ _ _
      exact absurd h2 (by simp)
    rintro ⟨k2, st2⟩ ⟨id2, ver2⟩ hr hok2
    simp only [Option.some.injEq] at hr
    dsimp only
    refine aops_v rfl rfl rfl (a_assign rfl rfl ?_)
    refine aops_nil ?_
    refine thenE_n ?_
    refine awp_ret ?_
    change Gst _ _ _ _
    refine fin1 rfl ?_
    refine ⟨(id2, ver2), hok2, ?_, ?_⟩ <;> (have e : manyP k kids ⟨s0, out, dp, mo⟩ = (k2, st2) := by rw [← hr]; unfold manyP; split <;> first | rfl | (exfalso; simp_all)) <;> rw [e]

theorem digitP_spec (p id ver : Nat) (st : PS) (σ : AHeap) (h0 : σ p = none) (hok : okP σ p (id, ver)) : ASpec Tryz.prog 150 [.ref p 0 0] (prs σ p id ver st) fun r σ' => ParR σ p (digitP st) int r σ' := by
  obtain ⟨hid, hne⟩ := hok
  have hok : okP σ p (id, ver) := ⟨hid, hne⟩
  dsimp only at hid hne
  obtain ⟨s0, out, dp, mo⟩ := st
  try dsimp only at hl
  refine aspec_enter (N := 17) (rs := [.tmp 2]) Tryz.func150 rfl rfl rfl rfl rfl rfl ?_
  refine awp_seq ?_
  refine awp_region ?_
  refine aops_v rfl rfl rfl (a_assign rfl rfl ?_)
  refine aops_nil ?_
  refine thenE_n ?_
  refine awp_seq ?_
  refine awp_region ?_
  refine aops_v rfl rfl rfl (a_move rfl rfl ?_)
  refine aops_call_res rfl rfl rfl rfl cf166 rfl (takeP_spec p id ver ⟨s0, out, dp, mo⟩ _ h0 hok) (fun h1 => ?_) ?_
  · change Gst _ _ _ _
    refine .done ?_
    show ParR σ p _ _ (.pan flt) σ
    rw [show digitP ⟨s0, out, dp, mo⟩ = none by simp [digitP, h1]]
    simp [ResP]
  rintro ⟨c, s1, out1, dp1, mo1⟩ ⟨id2, ver2⟩ hr hok2
  obtain ⟨hid2, hne2⟩ := hok2
  have hok2 : okP σ p (id2, ver2) := ⟨hid2, hne2⟩
  dsimp only at hid2 hne2
  try dsimp only
  refine aops_v rfl rfl rfl (a_assign rfl rfl ?_)
  refine aops_nil ?_
  refine thenE_n ?_
  refine awp_seq ?_
  refine awp_region ?_
  refine aops_v rfl rfl rfl (a_move rfl rfl ?_)
  refine aops_v rfl rfl rfl (a_move rfl rfl ?_)
  refine aops_v rfl rfl rfl (a_int rfl rfl rfl rfl ?_)
  refine aops_v rfl rfl rfl (a_move rfl rfl ?_)
  refine aops_bool (fun h2 => ?_) (fun h2 => ?_)
  · try simp only [zz1, zz2, ne_eq, zz4, zz5, zz6, gt_iff_lt, ge_iff_le, zz9, zz0] at h2
    refine aops_yes rfl rfl rfl rfl ?_
    refine aops_v rfl rfl rfl (a_move rfl rfl ?_)
    refine aops_yes rfl rfl rfl rfl ?_
    refine aops_v rfl rfl rfl (a_int rfl rfl rfl rfl ?_)
    refine aops_v rfl rfl rfl (a_pick rfl rfl rfl ?_)
    refine aops_call_res rfl rfl rfl rfl cf67 rfl (must_spec _ _ _) (fun h3 => ?_) ?_
    · change Gst _ _ _ _
      refine gst_sub σ (prs_sub h0 hid2) ?_
      refine .done ?_
      show ParR σ p _ _ (.pan flt) σ
      rw [show digitP ⟨s0, out, dp, mo⟩ = none by simp only [digitP, hr]; rw [if_neg]; simp_all <;> omega]
      simp [ResP]
    rintro ⟨⟩ ⟨⟩ hm _
    try dsimp only
    refine aops_nil ?_
    refine thenE_n ?_
    refine awp_seq ?_
    refine awp_region ?_
    refine aops_v rfl rfl rfl (a_move rfl rfl ?_)
    obtain ⟨hc1, hc2⟩ : 48 ≤ c ∧ c ≤ 56 := by simp_all
    first | refine aops_v rfl rfl rfl (a_sub rfl rfl rfl (by simp only [Go.AL.lo, Go.AL.hi]; omega) ?_) | refine aops_v rfl rfl rfl (a_int rfl rfl rfl rfl ?_)
    first | refine aops_v rfl rfl rfl (a_conv rfl hu21 ik3 rfl (by simp only [Go.AL.lo, Go.AL.hi]; omega) ?_) | refine aops_v rfl rfl rfl (a_conv_wrap rfl hu21 ik3 rfl ?_)
    refine aops_v rfl rfl rfl (a_assign rfl rfl ?_)
    refine aops_nil ?_
    refine thenE_n ?_
    refine awp_ret ?_
    change Gst _ _ _ _
    refine fin1 rfl ?_
    exact parR_ok (by simp [digitP, hr, hc1, hc2]) hok2
  · try simp only [zz1, zz2, ne_eq, zz4, zz5, zz6, gt_iff_lt, ge_iff_le, zz9, zz0] at h2
    refine aops_no rfl rfl rfl rfl rfl rfl ?_
    refine aops_no rfl rfl rfl rfl rfl rfl ?_
    refine aops_v rfl rfl rfl (a_pick rfl rfl rfl ?_)
    refine aops_call_res rfl rfl rfl rfl cf67 rfl (must_spec _ _ _) (fun h4 => ?_) ?_
    · change Gst _ _ _ _
      refine gst_sub σ (prs_sub h0 hid2) ?_
      refine .done ?_
      show ParR σ p _ _ (.pan flt) σ
      rw [show digitP ⟨s0, out, dp, mo⟩ = none by simp only [digitP, hr]; rw [if_neg]; simp_all <;> omega]
      simp [ResP]
    rintro ⟨⟩ ⟨⟩ hm _
    try dsimp only
    refine aops_nil ?_
    refine thenE_n ?_
    refine awp_seq ?_
    refine awp_region ?_
    refine aops_v rfl rfl rfl (a_move rfl rfl ?_)
    obtain ⟨hc1, hc2⟩ : 48 ≤ c ∧ c ≤ 56 := by simp_all
    first | refine aops_v rfl rfl rfl (a_sub rfl rfl rfl (by simp only [Go.AL.lo, Go.AL.hi]; omega) ?_) | refine aops_v rfl rfl rfl (a_int rfl rfl rfl rfl ?_)
    first | refine aops_v rfl rfl rfl (a_conv rfl hu21 ik3 rfl (by simp only [Go.AL.lo, Go.AL.hi]; omega) ?_) | refine aops_v rfl rfl rfl (a_conv_wrap rfl hu21 ik3 rfl ?_)
    refine aops_v rfl rfl rfl (a_assign rfl rfl ?_)
    refine aops_nil ?_
    refine thenE_n ?_
    refine awp_ret ?_
    change Gst _ _ _ _
    refine fin1 rfl ?_
    exact parR_ok (by simp [digitP, hr, hc1, hc2]) hok2

theorem escapeP_spec (p id ver : Nat) (st : PS) (σ : AHeap) (h0 : σ p = none) (hok : okP σ p (id, ver)) (hw : RnV st.s) : ASpec Tryz.prog 168 [.ref p 0 0] (prs σ p id ver st) fun r σ' => ParR σ p (escapeP st) setA r σ' := by
  obtain ⟨hid, hne⟩ := hok
  have hok : okP σ p (id, ver) := ⟨hid, hne⟩
  dsimp only at hid hne
  obtain ⟨s0, out, dp, mo⟩ := st
  try dsimp only at hl
  refine aspec_enter (N := 29) (rs := [.tmp 2]) Tryz.func168 rfl rfl rfl rfl rfl rfl ?_
  refine awp_seq ?_
  refine awp_region ?_
  refine aops_v rfl rfl rfl (a_assign rfl rfl ?_)
  refine aops_nil ?_
  refine thenE_n ?_
  refine awp_seq ?_
  refine awp_region ?_
  refine aops_v rfl rfl rfl (a_move rfl rfl ?_)
  refine aops_call_res rfl rfl rfl rfl cf166 rfl (takeP_spec p id ver ⟨s0, out, dp, mo⟩ _ h0 hok) (fun h1 => ?_) ?_
  · change Gst _ _ _ _
    refine .done ?_
    show ParR σ p _ _ (.pan flt) σ
    rw [show escapeP ⟨s0, out, dp, mo⟩ = none by simp [escapeP, h1]]
    simp [ResP]
  rintro ⟨c, s1, out1, dp1, mo1⟩ ⟨id2, ver2⟩ hr hok2
  obtain ⟨hid2, hne2⟩ := hok2
  have hok2 : okP σ p (id2, ver2) := ⟨hid2, hne2⟩
  dsimp only at hid2 hne2
  try dsimp only
  obtain ⟨rfl, rfl, rfl, rfl⟩ := takeP_inv hr
  obtain ⟨hv1, hv2, hv3⟩ := hw c List.mem_cons_self
  refine aops_v rfl rfl rfl (a_assign rfl rfl ?_)
  refine aops_nil ?_
  refine thenE_n ?_
  refine awp_seq ?_
  refine awp_region ?_
  refine aops_v rfl rfl rfl (a_move rfl rfl ?_)
  refine aops_nil ?_
  refine thenE_n ?_
  refine awp_block ?_
  refine awp_seq ?_
  refine awp_region ?_
  refine aops_v rfl rfl rfl (a_int rfl rfl rfl rfl ?_)
  refine aops_v rfl rfl rfl (a_assign rfl rfl ?_)
  refine aops_nil ?_
  refine thenE_n ?_
  refine awp_cond rfl (fun h2 => ?_) (fun h2 => ?_)
  · try simp only [zz1, zz2, ne_eq, zz4, zz5, zz6, gt_iff_lt, ge_iff_le, zz9, zz0] at h2
    refine awp_seq ?_
    refine awp_region ?_
    refine aops_v rfl rfl rfl (a_buildSlice (res := [_, _]) rfl sk59 rfl rfl rfl ?_)
    refine aops_v rfl rfl rfl (a_assign rfl rfl ?_)
    refine aops_nil ?_
    refine thenE_n ?_
    refine awp_ret ?_
    change Gst _ _ _ _
    refine gst_wk (k := 2) rfl wk_ex ?_
    refine fin1 rfl ?_
    exact parR_ok (a := [10, 10]) (by simp only [escapeP, hr]; simp_all [asI, special]) hok2
  · try simp only [zz1, zz2, ne_eq, zz4, zz5, zz6, gt_iff_lt, ge_iff_le, zz9, zz0] at h2
    refine awp_seq ?_
    refine awp_region ?_
    refine aops_v rfl rfl rfl (a_int rfl rfl rfl rfl ?_)
    refine aops_v rfl rfl rfl (a_assign rfl rfl ?_)
    refine aops_nil ?_
    refine thenE_n ?_
    refine awp_cond rfl (fun h3 => ?_) (fun h3 => ?_)
    · try simp only [zz1, zz2, ne_eq, zz4, zz5, zz6, gt_iff_lt, ge_iff_le, zz9, zz0] at h3
      refine awp_seq ?_
      refine awp_region ?_
      refine aops_v rfl rfl rfl (a_buildSlice (res := [_, _]) rfl sk59 rfl rfl rfl ?_)
      refine aops_v rfl rfl rfl (a_assign rfl rfl ?_)
      refine aops_nil ?_
      refine thenE_n ?_
      refine awp_ret ?_
      change Gst _ _ _ _
      refine gst_wk (k := 2) rfl wk_ex ?_
      refine fin1 rfl ?_
      exact parR_ok (a := [9, 9]) (by simp only [escapeP, hr]; simp_all [asI, special]) hok2
    · try simp only [zz1, zz2, ne_eq, zz4, zz5, zz6, gt_iff_lt, ge_iff_le, zz9, zz0] at h3
      refine awp_seq ?_
      refine awp_region ?_
      refine aops_v rfl rfl rfl (a_int rfl rfl rfl rfl ?_)
      refine aops_v rfl rfl rfl (a_assign rfl rfl ?_)
      refine aops_nil ?_
      refine thenE_n ?_
      refine awp_cond rfl (fun h4 => ?_) (fun h4 => ?_)
      · try simp only [zz1, zz2, ne_eq, zz4, zz5, zz6, gt_iff_lt, ge_iff_le, zz9, zz0] at h4
        refine awp_seq ?_
        refine awp_region ?_
        refine aops_v rfl rfl rfl (a_buildSlice (res := [_, _]) rfl sk59 rfl rfl rfl ?_)
        refine aops_v rfl rfl rfl (a_assign rfl rfl ?_)
        refine aops_nil ?_
        refine thenE_n ?_
        refine awp_ret ?_
        change Gst _ _ _ _
        refine gst_wk (k := 2) rfl wk_ex ?_
        refine fin1 rfl ?_
        exact parR_ok (a := [48, 57]) (by simp only [escapeP, hr]; simp_all [asI, special]) hok2
      · try simp only [zz1, zz2, ne_eq, zz4, zz5, zz6, gt_iff_lt, ge_iff_le, zz9, zz0] at h4
        refine awp_seq ?_
        refine awp_region ?_
        refine aops_v rfl rfl rfl (a_int rfl rfl rfl rfl ?_)
        refine aops_v rfl rfl rfl (a_assign rfl rfl ?_)
        refine aops_nil ?_
        refine thenE_n ?_
        refine awp_cond rfl (fun h5 => ?_) (fun h5 => ?_)
        · try simp only [zz1, zz2, ne_eq, zz4, zz5, zz6, gt_iff_lt, ge_iff_le, zz9, zz0] at h5
          refine awp_seq ?_
          refine awp_region ?_
          refine aops_v rfl rfl rfl (a_buildSlice (res := [_, _, _, _, _, _, _, _]) rfl sk59 rfl rfl rfl ?_)
          refine aops_v rfl rfl rfl (a_assign rfl rfl ?_)
          refine aops_nil ?_
          refine thenE_n ?_
          refine awp_ret ?_
          change Gst _ _ _ _
          refine gst_wk (k := 2) rfl wk_ex ?_
          refine fin1 rfl ?_
          exact parR_ok (a := [48, 57, 65, 90, 95, 95, 97, 122]) (by simp only [escapeP, hr]; simp_all [asI, special]) hok2
        · try simp only [zz1, zz2, ne_eq, zz4, zz5, zz6, gt_iff_lt, ge_iff_le, zz9, zz0] at h5
          refine awp_seq ?_
          refine awp_region ?_
          refine aops_v rfl rfl rfl (a_int rfl rfl rfl rfl ?_)
          refine aops_v rfl rfl rfl (a_assign rfl rfl ?_)
          refine aops_nil ?_
          refine thenE_n ?_
          refine awp_cond rfl (fun h6 => ?_) (fun h6 => ?_)
          · try simp only [zz1, zz2, ne_eq, zz4, zz5, zz6, gt_iff_lt, ge_iff_le, zz9, zz0] at h6
            refine awp_seq ?_
            refine awp_region ?_
            refine aops_v rfl rfl rfl (a_buildSlice (res := [_, _, _, _, _, _]) rfl sk59 rfl rfl rfl ?_)
            refine aops_v rfl rfl rfl (a_assign rfl rfl ?_)
            refine aops_nil ?_
            refine thenE_n ?_
            refine awp_ret ?_
            change Gst _ _ _ _
            refine gst_wk (k := 2) rfl wk_ex ?_
            refine fin1 rfl ?_
            exact parR_ok (a := [9, 10, 13, 13, 32, 32]) (by simp only [escapeP, hr]; simp_all [asI, special]) hok2
          · try simp only [zz1, zz2, ne_eq, zz4, zz5, zz6, gt_iff_lt, ge_iff_le, zz9, zz0] at h6
            refine awp_seq ?_
            refine awp_region ?_
            refine aops_v rfl rfl rfl (a_move rfl rfl ?_)
            refine aops_v rfl rfl rfl (a_move rfl rfl ?_)
            refine aops_call_eq rfl rfl rfl rfl cf112 rfl (containsRune_spec _ _ _ hv1 hv2 hv3 (by decide) (by decide) (by decide)) ?_
            refine aops_call_res rfl rfl rfl rfl cf67 rfl (must_spec _ _ _) (fun h7 => ?_) ?_
            · change Gst _ _ _ _
              refine gst_sub σ (prs_sub h0 hid2) ?_
              refine .done ?_
              show ParR σ p _ _ (.pan flt) σ
              rw [show escapeP ⟨c :: s1, out1, dp1, mo1⟩ = none by simp only [escapeP, hr]; simp_all [asI, special]]
              simp [ResP]
            rintro ⟨⟩ ⟨⟩ hm _
            try dsimp only
            refine aops_nil ?_
            refine thenE_n ?_
            refine awp_seq ?_
            refine awp_region ?_
            refine aops_v rfl rfl rfl (a_move rfl rfl ?_)
            refine aops_v rfl rfl rfl (a_move rfl rfl ?_)
            refine aops_v rfl rfl rfl (a_buildSlice (res := [_, _]) rfl sk59 rfl rfl rfl ?_)
            refine aops_v rfl rfl rfl (a_assign rfl rfl ?_)
            refine aops_nil ?_
            refine thenE_n ?_
            refine awp_ret ?_
            change Gst _ _ _ _
            refine gst_wk (k := 2) rfl wk_ex ?_
            refine fin1 rfl ?_
            exact parR_ok (a := [c, c]) (by simp only [escapeP, hr]; simp_all [asI, special]) hok2

theorem memberP_spec (p id ver : Nat) (st : PS) (σ : AHeap) (h0 : σ p = none) (hok : okP σ p (id, ver)) (hw : RnV st.s) : ASpec Tryz.prog 183 [.ref p 0 0] (prs σ p id ver st) fun r σ' => ParR σ p (memberP st) setA r σ' := by
  obtain ⟨hid, hne⟩ := hok
  have hok : okP σ p (id, ver) := ⟨hid, hne⟩
  dsimp only at hid hne
  obtain ⟨s0, out, dp, mo⟩ := st
  try dsimp only at hl
  refine aspec_enter (N := 18) (rs := [.tmp 2]) Tryz.func183 rfl rfl rfl rfl rfl rfl ?_
  refine awp_seq ?_
  refine awp_region ?_
  refine aops_v rfl rfl rfl (a_assign rfl rfl ?_)
  refine aops_nil ?_
  refine thenE_n ?_
  refine awp_seq ?_
  refine awp_region ?_
  refine aops_v rfl rfl rfl (a_move rfl rfl ?_)
  refine aops_call_res rfl rfl rfl rfl cf166 rfl (takeP_spec p id ver ⟨s0, out, dp, mo⟩ _ h0 hok) (fun h1 => ?_) ?_
  · change Gst _ _ _ _
    refine .done ?_
    show ParR σ p _ _ (.pan flt) σ
    rw [show memberP ⟨s0, out, dp, mo⟩ = none by simp [memberP, h1]]
    simp [ResP]
  rintro ⟨c, s1, out1, dp1, mo1⟩ ⟨id2, ver2⟩ hr hok2
  obtain ⟨hid2, hne2⟩ := hok2
  have hok2 : okP σ p (id2, ver2) := ⟨hid2, hne2⟩
  dsimp only at hid2 hne2
  try dsimp only
  obtain ⟨rfl, rfl, rfl, rfl⟩ := takeP_inv hr
  obtain ⟨hv1, hv2, hv3⟩ := hw c List.mem_cons_self
  refine aops_v rfl rfl rfl (a_assign rfl rfl ?_)
  refine aops_nil ?_
  refine thenE_n ?_
  refine awp_seq ?_
  refine awp_seq ?_
  refine awp_region ?_
  refine aops_v rfl rfl rfl (a_move rfl rfl ?_)
  refine aops_v rfl rfl rfl (a_int rfl rfl rfl rfl ?_)
  refine aops_nil ?_
  refine thenE_n ?_
  refine awp_cond rfl (fun h2 => ?_) (fun h2 => ?_)
  · try simp only [zz1, zz2, ne_eq, zz4, zz5, zz6, gt_iff_lt, ge_iff_le, zz9, zz0] at h2
    refine awp_seq ?_
    refine awp_region ?_
    refine aops_v rfl rfl rfl (a_move rfl rfl ?_)
    refine aops_call_res rfl rfl rfl rfl cf168 rfl (escapeP_spec p id2 ver2 ⟨s1, out1, dp1, mo1⟩ _ h0 hok2 (fun x hx => hw x (List.mem_cons_of_mem _ hx))) (fun h3 => ?_) ?_
    · change Gst _ _ _ _
      refine .done ?_
      show ParR σ p _ _ (.pan flt) σ
      rw [show memberP ⟨c :: s1, out1, dp1, mo1⟩ = none by simp only [memberP, hr]; simp_all]
      simp [ResP]
    rintro ⟨m, s2, out2, dp2, mo2⟩ ⟨id3, ver3⟩ hr3 hok3
    obtain ⟨hid3, hne3⟩ := hok3
    have hok3 : okP σ p (id3, ver3) := ⟨hid3, hne3⟩
    dsimp only at hid3 hne3
    try dsimp only
    refine aops_v rfl rfl rfl (a_assign rfl rfl ?_)
    refine aops_nil ?_
    refine thenE_n ?_
    refine awp_ret ?_
    change Gst _ _ _ _
    refine fin1 rfl ?_
    exact parR_ok (a := m) (by simp only [memberP, hr]; simp_all) hok3
  · try simp only [zz1, zz2, ne_eq, zz4, zz5, zz6, gt_iff_lt, ge_iff_le, zz9, zz0] at h2
    refine awp_skip ?_
    refine thenE_n ?_
    refine awp_seq ?_
    refine awp_region ?_
    refine aops_v rfl rfl rfl (a_move rfl rfl ?_)
    refine aops_v rfl rfl rfl (a_move rfl rfl ?_)
    refine aops_call_eq rfl rfl rfl rfl cf112 rfl (containsRune_spec _ _ _ hv1 hv2 hv3 (by decide) (by decide) (by decide)) ?_
    refine aops_v rfl rfl rfl (a_not rfl rfl ?_)
    refine aops_call_res rfl rfl rfl rfl cf67 rfl (must_spec _ _ _) (fun h4 => ?_) ?_
    · change Gst _ _ _ _
      refine gst_sub σ (prs_sub h0 hid2) ?_
      refine .done ?_
      show ParR σ p _ _ (.pan flt) σ
      rw [show memberP ⟨c :: s1, out1, dp1, mo1⟩ = none by simp only [memberP, hr]; simp_all [asI]]
      simp [ResP]
    rintro ⟨⟩ ⟨⟩ hm _
    try dsimp only
    refine aops_nil ?_
    refine thenE_n ?_
    refine awp_seq ?_
    refine awp_region ?_
    refine aops_v rfl rfl rfl (a_move rfl rfl ?_)
    refine aops_v rfl rfl rfl (a_move rfl rfl ?_)
    refine aops_v rfl rfl rfl (a_buildSlice (res := [_, _]) rfl sk59 rfl rfl rfl ?_)
    refine aops_v rfl rfl rfl (a_assign rfl rfl ?_)
    refine aops_nil ?_
    refine thenE_n ?_
    refine awp_ret ?_
    change Gst _ _ _ _
    refine gst_wk (k := 2) rfl wk_ex ?_
    refine fin1 rfl ?_
    exact parR_ok (a := [c, c]) (by simp only [memberP, hr]; simp_all [asI]) hok2

end Go.Proofs.YtnahdpjbddfhgaaGreatDoor
set_option linter.unusedVariables false
set_option linter.unusedSimpArgs false
namespace Go.Proofs.YtnahdpjbddfhgaaGreatDoor
open Go Go.AL
set_option maxRecDepth 100000
/-- the runes that aren't in a set -/
def othersL : Int → List Int → List Int
  | fr, a :: b :: r => (if a > fr then [fr, a - 1] else []) ++ othersL (b + 1) r
  | fr, [] => if fr ≤ 1114111 then [fr, 1114111] else []
  | fr, [_] => if fr ≤ 1114111 then [fr, 1114111] else []
def RnI (l : List Int) : Prop := ∀ x ∈ l, 0 ≤ x ∧ x ≤ 1114111
theorem drop2 {l : List Int} {i : Nat} (h : i + 1 < l.length) : ∃ a b, l[i]? = some a ∧ l[i + 1]? = some b ∧ l.drop i = a :: b :: l.drop (i + 2) := by
  refine ⟨l[i], l[i + 1], List.getElem?_eq_getElem (by omega), List.getElem?_eq_getElem h, ?_⟩
  rw [List.drop_eq_getElem_cons (by omega), List.drop_eq_getElem_cons h]

theorem others_spec (l : List Int) (σ : AHeap) (hl : RnI l) (h2 : l.length % 2 = 0) (hl2 : l.length ≤ 1000000) : ASpec Tryz.prog 185 [.lst (l.map rI) l.length false] σ fun r σ' => r = .ret (setA (othersL 0 l)) ∧ σ' = σ := by
  refine aspec_enter (N := 40) (rs := [.tmp 2]) Tryz.func185 rfl rfl rfl rfl rfl rfl ?_
  refine awp_seq ?_
  refine awp_region ?_
  refine aops_v rfl rfl rfl (a_assign rfl rfl ?_)
  refine aops_nil ?_
  refine thenE_n ?_
  refine awp_seq ?_
  refine awp_region ?_
  refine aops_v rfl rfl rfl (a_assign rfl rfl ?_)
  refine aops_nil ?_
  refine thenE_n ?_
  refine awp_seq ?_
  refine awp_region ?_
  refine aops_v rfl rfl rfl (a_assign rfl rfl ?_)
  refine aops_nil ?_
  refine thenE_n ?_
  refine awp_seq ?_
  refine awp_seq ?_
  refine awp_region ?_
  refine aops_v rfl rfl rfl (a_assign rfl rfl ?_)
  refine aops_nil ?_
  refine thenE_n ?_
  refine awp_block ?_
  refine awp_fresh fun id0 hid0 => ?_
  refine awp_loop (S := Nat × Int × List Int × Nat × Nat) (fun x => [(0, .lst (l.map rI) l.length false), (3, slv 1 (x.2.2.1.map rI) x.2.2.1.length x.2.2.2.1 x.2.2.2.2), (4, rI x.2.1), (5, int x.1)]) (fun x => slh σ 21 (x.2.2.1.map rI) x.2.2.1.length x.2.2.2.1 x.2.2.2.2) (fun x => x.1 ≤ l.length ∧ x.1 % 2 = 0 ∧ 0 ≤ x.2.1 ∧ x.2.1 ≤ 1114112 ∧ x.2.2.1 ++ othersL x.2.1 (l.drop x.1) = othersL 0 l ∧ x.2.2.1.length ≤ x.1 ∧ σ x.2.2.2.1 = none) (fun x => l.length - x.1) ⟨(0, 0, [], id0, 0), ⟨by simp, rfl, by simp, by simp, by simp, by simp, hid0⟩, EL, rfl⟩ ?_
  rintro ⟨i, fr, out, id, ver⟩ ⟨hi, hi2, hf0, hf1, hJ, hol, hid⟩
  dsimp only at hi hi2 hf0 hf1 hJ hol hid
  dsimp only
  refine awp_seq ?_
  refine awp_seq ?_
  refine awp_region ?_
  refine aops_v rfl rfl rfl (a_move rfl rfl ?_)
  refine aops_v rfl rfl rfl (a_move rfl rfl ?_)
  first | refine aops_v rfl rfl rfl (a_len_lst rfl isl59 rfl ?_) | refine aops_v rfl rfl rfl (a_len rfl isl59 rfl ?_) | refine aops_v rfl rfl rfl (a_len_slg rfl isl59 rfl ?_) | refine aops_v rfl rfl rfl (a_len_nil rfl isl59 rfl ?_)
  refine aops_v rfl rfl rfl (a_int rfl rfl rfl rfl ?_)
  refine aops_nil ?_
  refine thenE_n ?_
  refine awp_cond rfl (fun h1 => ?_) (fun h1 => ?_)
  · try simp only [zz1, zz2, ne_eq, zz4, zz5, zz6, gt_iff_lt, ge_iff_le, zz9, zz0] at h1
    obtain ⟨a, b, ha, hb, hdr⟩ := drop2 (l := l) (i := i) (by omega)
    obtain ⟨ha1, ha2⟩ := hl a (List.mem_of_getElem? ha)
    obtain ⟨hb1, hb2⟩ := hl b (List.mem_of_getElem? hb)
    refine awp_skip ?_
    refine thenE_n ?_
    refine awp_seq ?_
    refine awp_block ?_
    refine awp_seq ?_
    refine awp_seq ?_
    refine awp_region ?_
    refine aops_v rfl rfl rfl (a_move rfl rfl ?_)
    refine aops_v rfl rfl rfl (a_move rfl rfl ?_)
    first | refine aops_v rfl rfl rfl (a_indexAddr_lst rfl ek59 rfl rfl NT (by omega) (by omega) ?_) | refine aops_v rfl rfl rfl (a_indexAddr rfl ek59 rfl rfl NT (by omega) (by omega) ?_)
    refine aops_v rfl rfl rfl (a_load_pin rfl tk21 rfl (ldv_map ha) ?_)
    refine aops_v rfl rfl rfl (a_move rfl rfl ?_)
    refine aops_v rfl rfl rfl (a_int rfl rfl rfl rfl ?_)
    refine aops_nil ?_
    refine thenE_n ?_
    refine awp_cond rfl (fun h2 => ?_) (fun h2 => ?_)
    · try simp only [zz1, zz2, ne_eq, zz4, zz5, zz6, gt_iff_lt, ge_iff_le, zz9, zz0] at h2
      have hgt := h2
      refine awp_region ?_
      refine aops_v rfl rfl rfl (a_move rfl rfl ?_)
      refine aops_v rfl rfl rfl (a_move rfl rfl ?_)
      refine aops_v rfl rfl rfl (a_move rfl rfl ?_)
      refine aops_v rfl rfl rfl (a_move rfl rfl ?_)
      first | refine aops_v rfl rfl rfl (a_indexAddr_lst rfl ek59 rfl rfl NT (by omega) (by omega) ?_) | refine aops_v rfl rfl rfl (a_indexAddr rfl ek59 rfl rfl NT (by omega) (by omega) ?_)
      refine aops_v rfl rfl rfl (a_load_pin rfl tk21 rfl (ldv_map ha) ?_)
      first | refine aops_v rfl rfl rfl (a_sub rfl rfl rfl (by simp only [Go.AL.lo, Go.AL.hi]; omega) ?_) | refine aops_v rfl rfl rfl (a_int rfl rfl rfl rfl ?_)
      refine aops_v rfl rfl rfl (a_buildSlice (res := [_, _]) rfl sk59 rfl rfl rfl ?_)
      refine aops_v rfl rfl rfl (a_append_sl rfl sk59 rfl (by simp) rfl (.lst rfl) rfl (by omega) (by simp only [maxLen]; omega) hid ?_)
      intro id26 ver26 hid26
      rw [show out.map rI ++ [rI fr, rI (a - 1)] = (out ++ [fr, a - 1]).map rI by simp, show out.length + 2 = (out ++ [fr, a - 1]).length by simp]
      refine aops_v rfl rfl rfl (a_assign rfl rfl ?_)
      refine aops_nil ?_
      refine thenE_n ?_
      refine awp_region ?_
      refine aops_v rfl rfl rfl (a_move rfl rfl ?_)
      refine aops_v rfl rfl rfl (a_move rfl rfl ?_)
      first | refine aops_v rfl rfl rfl (a_add rfl rfl rfl (by simp only [Go.AL.lo, Go.AL.hi]; omega) ?_) | refine aops_v rfl rfl rfl (a_int rfl rfl rfl rfl ?_)
      first | refine aops_v rfl rfl rfl (a_indexAddr_lst rfl ek59 rfl rfl NT (by omega) (by omega) ?_) | refine aops_v rfl rfl rfl (a_indexAddr rfl ek59 rfl rfl NT (by omega) (by omega) ?_)
      refine aops_v rfl rfl rfl (a_load_pin rfl tk21 rfl (ldv_map hb) ?_)
      first | refine aops_v rfl rfl rfl (a_add rfl rfl rfl (by simp only [Go.AL.lo, Go.AL.hi]; omega) ?_) | refine aops_v rfl rfl rfl (a_int rfl rfl rfl rfl ?_)
      refine aops_v rfl rfl rfl (a_assign rfl rfl ?_)
      refine aops_nil ?_
      refine blockE_n ?_
      refine thenE_n ?_
      refine awp_region ?_
      refine aops_v rfl rfl rfl (a_move rfl rfl ?_)
      first | refine aops_v rfl rfl rfl (a_add rfl rfl rfl (by simp only [Go.AL.lo, Go.AL.hi]; omega) ?_) | refine aops_v rfl rfl rfl (a_int rfl rfl rfl rfl ?_)
      refine aops_v rfl rfl rfl (a_assign rfl rfl ?_)
      refine aops_nil ?_
      refine thenE_n ?_
      exact .done ⟨(i + 2, b + 1, out ++ [fr, a - 1], id26, ver26), ⟨by dsimp only; omega, by dsimp only; omega, by dsimp only; omega, by dsimp only; omega, by rw [← hJ, hdr, othersL, if_pos hgt]; simp, by simp; omega, hid26⟩, by dsimp only; omega, EL, rfl⟩
    · try simp only [zz1, zz2, ne_eq, zz4, zz5, zz6, gt_iff_lt, ge_iff_le, zz9, zz0] at h2
      have hgt := h2
      refine awp_skip ?_
      refine thenE_n ?_
      refine awp_region ?_
      refine aops_v rfl rfl rfl (a_move rfl rfl ?_)
      refine aops_v rfl rfl rfl (a_move rfl rfl ?_)
      first | refine aops_v rfl rfl rfl (a_add rfl rfl rfl (by simp only [Go.AL.lo, Go.AL.hi]; omega) ?_) | refine aops_v rfl rfl rfl (a_int rfl rfl rfl rfl ?_)
      first | refine aops_v rfl rfl rfl (a_indexAddr_lst rfl ek59 rfl rfl NT (by omega) (by omega) ?_) | refine aops_v rfl rfl rfl (a_indexAddr rfl ek59 rfl rfl NT (by omega) (by omega) ?_)
      refine aops_v rfl rfl rfl (a_load_pin rfl tk21 rfl (ldv_map hb) ?_)
      first | refine aops_v rfl rfl rfl (a_add rfl rfl rfl (by simp only [Go.AL.lo, Go.AL.hi]; omega) ?_) | refine aops_v rfl rfl rfl (a_int rfl rfl rfl rfl ?_)
      refine aops_v rfl rfl rfl (a_assign rfl rfl ?_)
      refine aops_nil ?_
      refine blockE_n ?_
      refine thenE_n ?_
      refine awp_region ?_
      refine aops_v rfl rfl rfl (a_move rfl rfl ?_)
      first | refine aops_v rfl rfl rfl (a_add rfl rfl rfl (by simp only [Go.AL.lo, Go.AL.hi]; omega) ?_) | refine aops_v rfl rfl rfl (a_int rfl rfl rfl rfl ?_)
      refine aops_v rfl rfl rfl (a_assign rfl rfl ?_)
      refine aops_nil ?_
      refine thenE_n ?_
      exact .done ⟨(i + 2, b + 1, out, id, ver), ⟨by dsimp only; omega, by dsimp only; omega, by dsimp only; omega, by dsimp only; omega, by rw [← hJ, hdr, othersL, if_neg (by omega)]; simp, by dsimp only; omega, hid⟩, by dsimp only; omega, EL, rfl⟩
  · try simp only [zz1, zz2, ne_eq, zz4, zz5, zz6, gt_iff_lt, ge_iff_le, zz9, zz0] at h1
    obtain rfl : i = l.length := by omega
    refine awp_exit ?_
    refine thenE_x ?_
    refine thenE_x ?_
    refine blockE_x ?_
    refine thenE_n ?_
    refine awp_seq ?_
    refine awp_seq ?_
    refine awp_region ?_
    refine aops_v rfl rfl rfl (a_move rfl rfl ?_)
    refine aops_v rfl rfl rfl (a_int rfl rfl rfl rfl ?_)
    refine aops_nil ?_
    refine thenE_n ?_
    refine awp_cond rfl (fun h3 => ?_) (fun h3 => ?_)
    · try simp only [zz1, zz2, ne_eq, zz4, zz5, zz6, gt_iff_lt, ge_iff_le, zz9, zz0] at h3
      have hle := h3
      refine awp_region ?_
      refine aops_v rfl rfl rfl (a_move rfl rfl ?_)
      refine aops_v rfl rfl rfl (a_move rfl rfl ?_)
      refine aops_v rfl rfl rfl (a_buildSlice (res := [_, _]) rfl sk59 rfl rfl rfl ?_)
      refine aops_v rfl rfl rfl (a_append_sl rfl sk59 rfl (by simp) rfl (.lst rfl) rfl (by omega) (by simp only [maxLen]; omega) hid ?_)
      intro id38 ver38 hid38
      rw [show out.map rI ++ [rI fr, rI 1114111] = (out ++ [fr, 1114111]).map rI by simp, show out.length + 2 = (out ++ [fr, 1114111]).length by simp]
      refine aops_v rfl rfl rfl (a_assign rfl rfl ?_)
      refine aops_nil ?_
      refine thenE_n ?_
      refine awp_seq ?_
      refine awp_region ?_
      refine aops_v rfl rfl rfl (a_move rfl rfl ?_)
      refine aops_v rfl rfl rfl (a_assign rfl rfl ?_)
      refine aops_nil ?_
      refine thenE_n ?_
      refine awp_ret ?_
      change Gst _ _ _ _
      refine gst_sl 2 rfl (by simp) hid38 ?_
      refine fin1 rfl ?_
      exact ⟨by rw [← hJ]; simp [othersL, hle], rfl⟩
    · try simp only [zz1, zz2, ne_eq, zz4, zz5, zz6, gt_iff_lt, ge_iff_le, zz9, zz0] at h3
      have hle := h3
      refine awp_skip ?_
      refine thenE_n ?_
      refine awp_seq ?_
      refine awp_region ?_
      refine aops_v rfl rfl rfl (a_move rfl rfl ?_)
      refine aops_v rfl rfl rfl (a_assign rfl rfl ?_)
      refine aops_nil ?_
      refine thenE_n ?_
      refine awp_ret ?_
      change Gst _ _ _ _
      refine gst_sl 2 rfl (by simp) hid ?_
      refine fin1 rfl ?_
      exact ⟨by rw [← hJ]; simp [othersL]; omega, rfl⟩

end Go.Proofs.YtnahdpjbddfhgaaGreatDoor
set_option linter.unusedVariables false
set_option linter.unusedSimpArgs false
namespace Go.Proofs.YtnahdpjbddfhgaaGreatDoor
open Go Go.AL
set_option maxRecDepth 100000
/-- a tree's size -/
def timesOf (n : Nd) : Int := if n.kind = 5 then (if n.max < 0 then n.min + 1 else max n.max 1) else 1
def cap2 (x : Int) : Int := if x < 2000 then x else 2000
theorem cap2_ok {x : Int} (h : 0 ≤ x) : 0 ≤ cap2 x ∧ cap2 x ≤ 2000 := by unfold cap2; split <;> omega
def sizeAcc (szs : List Int) (t : Int) (ks : List Int) (a : Int) : Int := ks.foldl (fun a k => cap2 (a + t * szs.getD k.toNat 0)) a
def sizesL (szs : List Int) : List Nd → List Int
  | [] => szs
  | n :: r => sizesL (szs ++ [sizeAcc szs (timesOf n) n.kids 1]) r
def sizeP (l : List Nd) : Int := (sizesL [] l).getD (l.length - 1) 0
/-- a node that may stand at a place -/
structure NdOk (i : Nat) (n : Nd) : Prop where
  kids : ∀ k ∈ n.kids, 0 ≤ k ∧ k < i
  min0 : 0 ≤ n.min
  min8 : n.min ≤ 8
  max8 : n.max ≤ 8
  klen : n.kids.length ≤ 1000000
  rep : n.kind = 5 → n.kids ≠ []
  mm : 0 ≤ n.max → n.min ≤ n.max
  set : n.set.length % 2 = 0 ∧ n.set.length ≤ 1000000
def TreeOk (l : List Nd) : Prop := ∀ i n, l[i]? = some n → NdOk i n
theorem timesOf_ok {i : Nat} {n : Nd} (h : NdOk i n) : 0 ≤ timesOf n ∧ timesOf n ≤ 9 := by
  have h1 := h.min0; have h2 := h.min8; have h3 := h.max8
  unfold timesOf; split
  · split <;> omega
  · omega
theorem get_pre {k o : Nat} {l1 : List Int} {l2 : List AV} (ho : o = k) (hk : k < l1.length) : ldv false 1 o (l1.map int ++ l2) = some (int (l1.getD k 0)) := by
  subst ho
  simp [ldv, List.getElem?_append, hk, List.getD_eq_getElem?_getD]
theorem sizeAcc_step {szs : List Int} {t a k : Int} {ks : List Int} {j : Nat} (h : ks[j]? = some k) : sizeAcc szs t (ks.drop (j + 1)) (cap2 (a + t * szs.getD k.toNat 0)) = sizeAcc szs t (ks.drop j) a := by
  rw [List.drop_eq_getElem_cons (List.getElem?_eq_some_iff.1 h).1, (List.getElem?_eq_some_iff.1 h).2]; rfl
theorem sizesL_step {szs : List Int} {l : List Nd} {i : Nat} {n : Nd} (h : l[i]? = some n) : sizesL (szs ++ [sizeAcc szs (timesOf n) n.kids 1]) (l.drop (i + 1)) = sizesL szs (l.drop i) := by
  rw [List.drop_eq_getElem_cons (List.getElem?_eq_some_iff.1 h).1, (List.getElem?_eq_some_iff.1 h).2]; rfl
theorem mul_ok {t s : Int} (h1 : 0 ≤ t) (h2 : t ≤ 9) (h3 : 0 ≤ s) (h4 : s ≤ 2000) : 0 ≤ t * s ∧ t * s ≤ 18000 := by
  constructor
  · exact Int.mul_nonneg h1 h3
  · exact Int.le_trans (Int.mul_le_mul h2 h4 h3 (by omega)) (by decide)
theorem getD_ok {l : List Int} {P : Int → Prop} (h : ∀ x ∈ l, P x) {k : Nat} (hk : k < l.length) : P (l.getD k 0) := by
  rw [List.getD_eq_getElem?_getD, List.getElem?_eq_getElem hk]; exact h _ (List.getElem_mem hk)

theorem size_spec (l : List Nd) (σ : AHeap) (ht : TreeOk l) (hl : l.length ≤ 1000000) (h0 : 0 < l.length) : ASpec Tryz.prog 68 [.lst (l.flatMap encN) l.length false] σ fun r σ' => r = .ret (int (sizeP l)) ∧ σ' = σ := by
  refine aspec_enter (N := 64) (rs := [.tmp 2]) Tryz.func68 rfl rfl rfl rfl rfl rfl ?_
  refine awp_seq ?_
  refine awp_region ?_
  refine aops_v rfl rfl rfl (a_assign rfl rfl ?_)
  refine aops_nil ?_
  refine thenE_n ?_
  refine awp_seq ?_
  refine awp_region ?_
  refine aops_v rfl rfl rfl (a_move rfl rfl ?_)
  first | refine aops_v rfl rfl rfl (a_len_lst rfl isl68 rfl ?_) | refine aops_v rfl rfl rfl (a_len rfl isl68 rfl ?_) | refine aops_v rfl rfl rfl (a_len_slg rfl isl68 rfl ?_) | refine aops_v rfl rfl rfl (a_len_nil rfl isl68 rfl ?_)
  refine aops_v rfl rfl rfl (a_makeSlice rfl sk67 rfl rfl (by first | rfl | omega) (by omega) (by simp only [maxLen]; omega) ?_)
  intro id11 hid11
  refine aops_v rfl rfl rfl (a_assign rfl rfl ?_)
  refine aops_nil ?_
  refine thenE_n ?_
  refine awp_seq ?_
  refine awp_seq ?_
  change AWp _ _ _ _ _ (upd σ id11 (.cells 0 3 (rep0 l.length)))
  refine awp_region ?_
  refine aops_v rfl rfl rfl (a_move rfl rfl ?_)
  first | refine aops_v rfl rfl rfl (a_len_lst rfl isl68 rfl ?_) | refine aops_v rfl rfl rfl (a_len rfl isl68 rfl ?_) | refine aops_v rfl rfl rfl (a_len_slg rfl isl68 rfl ?_) | refine aops_v rfl rfl rfl (a_len_nil rfl isl68 rfl ?_)
  refine aops_v rfl rfl rfl (a_move rfl rfl ?_)
  refine aops_nil ?_
  refine thenE_n ?_
  refine awp_block ?_
  refine awp_loop (S := Nat × List Int) (fun x => [(0, .lst (l.flatMap encN) l.length false), (12, .lst (l.flatMap encN) l.length false), (13, int l.length), (14, int x.1), (3, .arr id11 0 0 l.length 1)]) (fun x => upd σ id11 (.cells 0 3 (x.2.map int ++ rep0 (l.length - x.1)))) (fun x => x.1 ≤ l.length ∧ x.2.length = x.1 ∧ sizesL x.2 (l.drop x.1) = sizesL [] l ∧ (∀ z ∈ x.2, 0 ≤ z ∧ z ≤ 2000)) (fun x => l.length - x.1) ⟨(0, []), ⟨by simp, rfl, by simp, by simp⟩, EL, by simp⟩ ?_
  rintro ⟨i, szs⟩ ⟨hi, hsl, hJ, hz⟩
  dsimp only at hi hsl hJ hz
  dsimp only
  refine awp_seq ?_
  refine awp_region ?_
  refine aops_v rfl rfl rfl (a_int rfl rfl rfl rfl ?_)
  refine aops_nil ?_
  refine thenE_n ?_
  refine awp_seq ?_
  refine awp_cond rfl (fun h1 => ?_) (fun h1 => ?_)
  · try simp only [zz1, zz2, ne_eq, zz4, zz5, zz6, gt_iff_lt, ge_iff_le, zz9, zz0] at h1
    obtain ⟨n, hn⟩ : ∃ n, l[i]? = some n := ⟨_, List.getElem?_eq_getElem (by omega)⟩
    have hno := ht i n hn
    obtain ⟨ht0, ht9⟩ := timesOf_ok hno
    have hk1 := hno.min0; have hk2 := hno.min8; have hk3 := hno.max8; have hk4 := hno.klen
    rw [show l.length - i = (l.length - (i + 1)) + 1 by omega, rep0_succ]
    have hsm : (szs.map int).length = i := by simp [hsl]
    refine awp_skip ?_
    refine thenE_n ?_
    refine awp_seq ?_
    refine awp_block ?_
    refine awp_seq ?_
    refine awp_region ?_
    refine aops_v rfl rfl rfl (a_move rfl rfl ?_)
    first | refine aops_v rfl rfl rfl (a_indexAddr_lst rfl ek68 rfl rfl NT (by omega) (by omega) ?_) | refine aops_v rfl rfl rfl (a_indexAddr rfl ek68 rfl rfl NT (by omega) (by omega) ?_)
    refine aops_v rfl rfl rfl (a_load_pin rfl tk149 rfl (ldv_flat encN_len hn) ?_)
    refine aops_v rfl rfl rfl (a_alloc rfl zk149 ?_)
    intro id5 hid5
    refine aops_v rfl rfl rfl (a_assign rfl rfl ?_)
    first | refine aops_s rfl rfl (a_store_n (cs2 := [_, _, _, _, _]) rfl tk149 rfl rfl HP rfl rfl (by first | decide | (simp; done) | (simp; omega)) rfl ?_) | refine aops_s rfl rfl (a_store rfl tk149 rfl rfl HP rfl rfl (by first | decide | (simp [stv, AV.cells]; done) | (simp [stv, AV.cells]; omega)) ?_)
    refine aops_frz2 (d := 5) rfl hid5 ?_
    refine aops_nil ?_
    refine thenE_n ?_
    refine awp_seq ?_
    refine awp_region ?_
    refine aops_v rfl rfl rfl (a_assign rfl rfl ?_)
    refine aops_nil ?_
    refine thenE_n ?_
    refine awp_cut (S := Unit) (fun _ => [(0, .lst (l.flatMap encN) l.length false), (12, .lst (l.flatMap encN) l.length false), (13, int l.length), (14, int i), (3, .arr id11 0 0 l.length 1), (4, int i), (5, .pin (encN n) 0), (6, int (timesOf n))]) (fun _ => upd σ id11 (.cells 0 3 (szs.map int ++ int 0 :: rep0 (l.length - (i + 1))))) (fun _ => True) ?_ ?_
    · skip
      refine awp_seq ?_
      refine awp_region ?_
      first | refine aops_v rfl rfl rfl (a_fieldAddr rfl fk149_0 rfl rfl ?_) | refine aops_v rfl rfl rfl (a_fieldAddr_pin rfl fk149_0 rfl rfl ?_)
      first | refine aops_v rfl rfl rfl (a_load_pin rfl tk3 rfl rfl ?_) | refine aops_v rfl rfl rfl (a_load rfl tk3 rfl HP rfl ?_)
      refine aops_v rfl rfl rfl (a_int rfl rfl rfl rfl ?_)
      refine aops_nil ?_
      refine thenE_n ?_
      refine awp_cond rfl (fun h2 => ?_) (fun h2 => ?_)
      · try simp only [zz1, zz2, ne_eq, zz4, zz5, zz6, gt_iff_lt, ge_iff_le, zz9, zz0] at h2
        refine awp_seq ?_
        refine awp_region ?_
        first | refine aops_v rfl rfl rfl (a_fieldAddr rfl fk149_3 rfl rfl ?_) | refine aops_v rfl rfl rfl (a_fieldAddr_pin rfl fk149_3 rfl rfl ?_)
        first | refine aops_v rfl rfl rfl (a_load_pin rfl tk3 rfl rfl ?_) | refine aops_v rfl rfl rfl (a_load rfl tk3 rfl HP rfl ?_)
        refine aops_v rfl rfl rfl (a_max rfl rfl rfl ?_)
        refine aops_v rfl rfl rfl (a_assign rfl rfl ?_)
        refine aops_nil ?_
        refine thenE_n ?_
        refine awp_seq ?_
        refine awp_region ?_
        first | refine aops_v rfl rfl rfl (a_fieldAddr rfl fk149_3 rfl rfl ?_) | refine aops_v rfl rfl rfl (a_fieldAddr_pin rfl fk149_3 rfl rfl ?_)
        first | refine aops_v rfl rfl rfl (a_load_pin rfl tk3 rfl rfl ?_) | refine aops_v rfl rfl rfl (a_load rfl tk3 rfl HP rfl ?_)
        refine aops_v rfl rfl rfl (a_int rfl rfl rfl rfl ?_)
        refine aops_nil ?_
        refine thenE_n ?_
        refine awp_cond rfl (fun h3 => ?_) (fun h3 => ?_)
        · try simp only [zz1, zz2, ne_eq, zz4, zz5, zz6, gt_iff_lt, ge_iff_le, zz9, zz0] at h3
          refine awp_region ?_
          first | refine aops_v rfl rfl rfl (a_fieldAddr rfl fk149_2 rfl rfl ?_) | refine aops_v rfl rfl rfl (a_fieldAddr_pin rfl fk149_2 rfl rfl ?_)
          first | refine aops_v rfl rfl rfl (a_load_pin rfl tk3 rfl rfl ?_) | refine aops_v rfl rfl rfl (a_load rfl tk3 rfl HP rfl ?_)
          first | refine aops_v rfl rfl rfl (a_add rfl rfl rfl (by simp only [Go.AL.lo, Go.AL.hi]; omega) ?_) | refine aops_v rfl rfl rfl (a_int rfl rfl rfl rfl ?_)
          refine aops_v rfl rfl rfl (a_assign rfl rfl ?_)
          refine aops_nil ?_
          refine thenE_n ?_
          exact .done ⟨(), trivial, by repeat (first | exact Env.le_nil _ | refine Env.le_cons rfl ?_ | refine Env.le_cons (le_int rfl (by first | omega | (simp only [timesOf]; split <;> (try split) <;> omega))) ?_), rfl⟩
        · try simp only [zz1, zz2, ne_eq, zz4, zz5, zz6, gt_iff_lt, ge_iff_le, zz9, zz0] at h3
          refine awp_skip ?_
          refine thenE_n ?_
          exact .done ⟨(), trivial, by repeat (first | exact Env.le_nil _ | refine Env.le_cons rfl ?_ | refine Env.le_cons (le_int rfl (by first | omega | (simp only [timesOf]; split <;> (try split) <;> omega))) ?_), rfl⟩
      · try simp only [zz1, zz2, ne_eq, zz4, zz5, zz6, gt_iff_lt, ge_iff_le, zz9, zz0] at h2
        refine awp_skip ?_
        refine thenE_n ?_
        exact .done ⟨(), trivial, by repeat (first | exact Env.le_nil _ | refine Env.le_cons rfl ?_ | refine Env.le_cons (le_int rfl (by first | omega | (simp only [timesOf]; split <;> (try split) <;> omega))) ?_), rfl⟩
    intro _ _
    refine awp_seq ?_
    refine awp_region ?_
    refine aops_v rfl rfl rfl (a_move rfl rfl ?_)
    refine aops_v rfl rfl rfl (a_move rfl rfl ?_)
    first | refine aops_v rfl rfl rfl (a_indexAddr_lst rfl ek67 rfl rfl NT (by omega) (by omega) ?_) | refine aops_v rfl rfl rfl (a_indexAddr rfl ek67 rfl rfl NT (by omega) (by omega) ?_)
    refine aops_s rfl rfl (a_store_n (cs2 := szs.map int ++ int 1 :: rep0 (l.length - (i + 1))) rfl tk3 rfl rfl (upd_same _ _ _) rfl rfl (by first | (simp; omega) | omega) (stv_mid (by first | (simp; omega) | omega)) ?_)
    rw [upd_upd]
    refine aops_nil ?_
    refine thenE_n ?_
    refine awp_seq ?_
    refine awp_region ?_
    first | refine aops_v rfl rfl rfl (a_fieldAddr rfl fk149_1 rfl rfl ?_) | refine aops_v rfl rfl rfl (a_fieldAddr_pin rfl fk149_1 rfl rfl ?_)
    first | refine aops_v rfl rfl rfl (a_load_pin rfl tk67 rfl rfl ?_) | refine aops_v rfl rfl rfl (a_load rfl tk67 rfl HP rfl ?_)
    first | refine aops_v rfl rfl rfl (a_len_lst rfl isl67 rfl ?_) | refine aops_v rfl rfl rfl (a_len rfl isl67 rfl ?_) | refine aops_v rfl rfl rfl (a_len_slg rfl isl67 rfl ?_) | refine aops_v rfl rfl rfl (a_len_nil rfl isl67 rfl ?_)
    refine aops_v rfl rfl rfl (a_move rfl rfl ?_)
    refine aops_nil ?_
    refine thenE_n ?_
    refine awp_block ?_
    refine awp_loop (S := Nat × Int) (fun y => [(0, .lst (l.flatMap encN) l.length false), (12, .lst (l.flatMap encN) l.length false), (13, int l.length), (14, int i), (3, .arr id11 0 0 l.length 1), (4, int i), (5, .pin (encN n) 0), (6, int (timesOf n)), (35, .lst (n.kids.map int) n.kids.length false), (36, int n.kids.length), (37, int y.1)]) (fun y => upd σ id11 (.cells 0 3 (szs.map int ++ int y.2 :: rep0 (l.length - (i + 1))))) (fun y => y.1 ≤ n.kids.length ∧ sizeAcc szs (timesOf n) (n.kids.drop y.1) y.2 = sizeAcc szs (timesOf n) n.kids 1 ∧ 0 ≤ y.2 ∧ y.2 ≤ 2000) (fun y => n.kids.length - y.1) ⟨(0, 1), ⟨by simp, by simp, by simp, by simp⟩, EL, rfl⟩ ?_
    rintro ⟨j, acc⟩ ⟨hj, hacc, ha0, ha1⟩
    dsimp only at hj hacc ha0 ha1
    dsimp only
    refine awp_seq ?_
    refine awp_region ?_
    refine aops_v rfl rfl rfl (a_int rfl rfl rfl rfl ?_)
    refine aops_nil ?_
    refine thenE_n ?_
    refine awp_seq ?_
    refine awp_cond rfl (fun h4 => ?_) (fun h4 => ?_)
    · try simp only [zz1, zz2, ne_eq, zz4, zz5, zz6, gt_iff_lt, ge_iff_le, zz9, zz0] at h4
      obtain ⟨k, hk⟩ : ∃ k, n.kids[j]? = some k := ⟨_, List.getElem?_eq_getElem (by omega)⟩
      obtain ⟨hkk1, hkk2⟩ := hno.kids k (List.mem_of_getElem? hk)
      obtain ⟨hs0, hs1⟩ := getD_ok hz (k := k.toNat) (by omega)
      obtain ⟨hm0, hm1⟩ := mul_ok ht0 ht9 hs0 hs1
      refine awp_skip ?_
      refine thenE_n ?_
      refine awp_seq ?_
      refine awp_block ?_
      refine awp_seq ?_
      refine awp_region ?_
      first | refine aops_v rfl rfl rfl (a_indexAddr_lst rfl ek67 rfl rfl NT (by omega) (by omega) ?_) | refine aops_v rfl rfl rfl (a_indexAddr rfl ek67 rfl rfl NT (by omega) (by omega) ?_)
      refine aops_v rfl rfl rfl (a_load_pin rfl tk3 rfl (ldv_map hk) ?_)
      refine aops_v rfl rfl rfl (a_assign rfl rfl ?_)
      refine aops_nil ?_
      refine thenE_n ?_
      refine awp_draw [0, 0, 0, 0, 12, 28, 0, 0, 0, 384, 896, 1984, 4092, 8188, 16383, 32767] 15 rfl (by decide +kernel) (by decide +kernel) (by decide +kernel) rfl ?_
      simp only [List.take_succ_cons, List.take_zero, List.take_nil, List.drop_succ_cons, List.drop_zero, List.drop_nil]
      refine dp_val rfl (apure_val (a_move rfl rfl pure_done)) rfl ?_
      refine dp_val rfl (apure_val (a_move rfl rfl pure_done)) rfl ?_
      refine dp_val rfl (apure_val (a_move rfl rfl pure_done)) rfl ?_
      refine dp_val rfl (apure_val (a_move rfl rfl pure_done)) rfl ?_
      first | refine dp_val rfl (apure_val (a_indexAddr_lst rfl ek67 rfl rfl NT (by omega) (by omega) pure_done)) rfl ?_ | refine dp_val rfl (apure_val (a_indexAddr rfl ek67 rfl rfl NT (by omega) (by omega) pure_done)) rfl ?_
      refine dp_val rfl (apure_val (a_load rfl tk3 rfl (upd_same _ _ _) (get_mid (by simp; omega)) pure_done)) rfl ?_
      refine dp_val rfl (apure_val (a_move rfl rfl pure_done)) rfl ?_
      refine dp_val rfl (apure_val (a_move rfl rfl pure_done)) rfl ?_
      refine dp_val rfl (apure_val (a_move rfl rfl pure_done)) rfl ?_
      first | refine dp_val rfl (apure_val (a_indexAddr_lst rfl ek67 rfl rfl NT (by omega) (by omega) pure_done)) rfl ?_ | refine dp_val rfl (apure_val (a_indexAddr rfl ek67 rfl rfl NT (by omega) (by omega) pure_done)) rfl ?_
      refine dp_val rfl (apure_val (a_load rfl tk3 rfl (upd_same _ _ _) (get_pre (k := k.toNat) (by simp) (by omega)) pure_done)) rfl ?_
      first | refine dp_val rfl (apure_val (a_mul rfl rfl rfl (by simp only [Go.AL.lo, Go.AL.hi]; omega) pure_done)) rfl ?_ | refine dp_val rfl (apure_val (a_int rfl rfl rfl rfl pure_done)) rfl ?_
      first | refine dp_val rfl (apure_val (a_add rfl rfl rfl (by simp only [Go.AL.lo, Go.AL.hi]; omega) pure_done)) rfl ?_ | refine dp_val rfl (apure_val (a_int rfl rfl rfl rfl pure_done)) rfl ?_
      refine dp_val rfl (apure_val (a_min rfl rfl rfl pure_done)) rfl ?_
      first | refine dp_val rfl (apure_val (a_indexAddr_lst rfl ek67 rfl rfl NT (by omega) (by omega) pure_done)) rfl ?_ | refine dp_val rfl (apure_val (a_indexAddr rfl ek67 rfl rfl NT (by omega) (by omega) pure_done)) rfl ?_
      change AOps _ _ _ _ _ _ _
      refine aops_s rfl rfl (a_store_n (cs2 := szs.map int ++ int (cap2 (acc + timesOf n * szs.getD k.toNat 0)) :: rep0 (l.length - (i + 1))) rfl tk3 rfl rfl (upd_same _ _ _) rfl rfl (by first | (simp; omega) | omega) (stv_mid (by first | (simp; omega) | omega)) ?_)
      rw [upd_upd]
      refine aops_nil ?_
      refine blockE_n ?_
      refine thenE_n ?_
      refine awp_region ?_
      first | refine aops_v rfl rfl rfl (a_add rfl rfl rfl (by simp only [Go.AL.lo, Go.AL.hi]; omega) ?_) | refine aops_v rfl rfl rfl (a_int rfl rfl rfl rfl ?_)
      refine aops_v rfl rfl rfl (a_move rfl rfl ?_)
      refine aops_nil ?_
      refine thenE_n ?_
      exact .done ⟨(j + 1, cap2 (acc + timesOf n * szs.getD k.toNat 0)), ⟨by dsimp only; omega, by rw [← hacc, ← sizeAcc_step hk], (cap2_ok (by omega)).1, (cap2_ok (by omega)).2⟩, by dsimp only; omega, EL, rfl⟩
    · try simp only [zz1, zz2, ne_eq, zz4, zz5, zz6, gt_iff_lt, ge_iff_le, zz9, zz0] at h4
      obtain rfl : j = n.kids.length := by omega
      have hacc : acc = sizeAcc szs (timesOf n) n.kids 1 := by rw [← hacc]; simp [sizeAcc]
      refine awp_exit ?_
      refine thenE_x ?_
      refine thenE_x ?_
      refine blockE_x ?_
      refine blockE_n ?_
      refine thenE_n ?_
      refine awp_region ?_
      first | refine aops_v rfl rfl rfl (a_add rfl rfl rfl (by simp only [Go.AL.lo, Go.AL.hi]; omega) ?_) | refine aops_v rfl rfl rfl (a_int rfl rfl rfl rfl ?_)
      refine aops_v rfl rfl rfl (a_move rfl rfl ?_)
      refine aops_nil ?_
      refine thenE_n ?_
      refine .done ⟨(i + 1, szs ++ [acc]), ⟨by dsimp only; omega, by simp [hsl], ?_, ?_⟩, by dsimp only; omega, EL, ?_⟩
      · rw [← hJ, ← sizesL_step hn, ← hacc]
      · intro z hz1
        rcases List.mem_append.1 hz1 with hz2 | hz2
        · exact hz z hz2
        · simp at hz2; omega
      · simp
  · try simp only [zz1, zz2, ne_eq, zz4, zz5, zz6, gt_iff_lt, ge_iff_le, zz9, zz0] at h1
    obtain rfl : i = l.length := by omega
    refine awp_exit ?_
    refine thenE_x ?_
    refine thenE_x ?_
    refine blockE_x ?_
    refine thenE_n ?_
    refine awp_seq ?_
    refine awp_region ?_
    refine aops_v rfl rfl rfl (a_move rfl rfl ?_)
    refine aops_v rfl rfl rfl (a_move rfl rfl ?_)
    first | refine aops_v rfl rfl rfl (a_len_lst rfl isl68 rfl ?_) | refine aops_v rfl rfl rfl (a_len rfl isl68 rfl ?_) | refine aops_v rfl rfl rfl (a_len_slg rfl isl68 rfl ?_) | refine aops_v rfl rfl rfl (a_len_nil rfl isl68 rfl ?_)
    first | refine aops_v rfl rfl rfl (a_sub rfl rfl rfl (by simp only [Go.AL.lo, Go.AL.hi]; omega) ?_) | refine aops_v rfl rfl rfl (a_int rfl rfl rfl rfl ?_)
    first | refine aops_v rfl rfl rfl (a_indexAddr_lst rfl ek67 rfl rfl NT (by omega) (by omega) ?_) | refine aops_v rfl rfl rfl (a_indexAddr rfl ek67 rfl rfl NT (by omega) (by omega) ?_)
    refine aops_v rfl rfl rfl (a_load rfl tk3 rfl (upd_same _ _ _) (get_pre (k := l.length - 1) (by simp) (by omega)) ?_)
    refine aops_v rfl rfl rfl (a_assign rfl rfl ?_)
    refine aops_nil ?_
    refine thenE_n ?_
    refine awp_ret ?_
    change Gst _ _ _ _
    refine gst_del id11 ?_
    rw [del_upd _ _ hid11]
    refine fin1 rfl ?_
    exact ⟨by rw [sizeP, ← hJ]; simp [sizesL], rfl⟩

end Go.Proofs.YtnahdpjbddfhgaaGreatDoor
set_option linter.unusedVariables false
set_option linter.unusedSimpArgs false
namespace Go.Proofs.YtnahdpjbddfhgaaGreatDoor
open Go Go.AL
set_option maxRecDepth 100000
/-- the parser in plain words -/
def lexLe (a b : Int × Int) : Bool := decide (a.1 < b.1) || (decide (a.1 = b.1) && decide (a.2 ≤ b.2))
def mergeStep (out : List (Int × Int)) (x : Int × Int) : List (Int × Int) := match out.getLast? with
  | some y => if x.1 ≤ y.2 + 1 then out.dropLast ++ [(y.1, max y.2 x.2)] else out ++ [x]
  | none => [x]
def pairsOf : List Int → List (Int × Int)
  | a :: b :: r => (a, b) :: pairsOf r
  | _ => []
def flatP (l : List (Int × Int)) : List Int := l.flatMap fun x => [x.1, x.2]
def mergedL (set : List Int) : List Int := flatP (((pairsOf set).mergeSort lexLe).foldl mergeStep [])
def isOne (l : List Int) : Option Int := match l with | [a, b] => if a = b then some a else none | _ => none
def classL : Nat → PS → List Int → Bool → Option (List Int × PS)
  | 0, _, _, _ => none
  | m + 1, st, set, some? =>
    if some? && nextB 93 st then some (set, nextS 93 st)
    else match memberP st with
      | none => none
      | some (m1, st1) =>
        if nextB 45 st1 then
          match memberP (nextS 45 st1) with
          | none => none
          | some (m2, st2) =>
            match isOne m1, isOne m2 with
            | some a, some b => if a ≤ b then classL m st2 (set ++ [a, b]) true else none
            | _, _ => none
        else classL m st1 (set ++ m1) true
def classP (st : PS) : Option (Int × PS) :=
  match classL ((nextS 94 st).s.length + 1) (nextS 94 st) [] false with
  | none => none
  | some (set, st2) => some (st2.push ⟨2, [], 0, 0, if nextB 94 st then othersL 0 (mergedL set) else mergedL set⟩)
def rowL (item : PS → Option (Int × PS)) : Nat → PS → List Int → Option (List Int × PS)
  | 0, _, _ => none
  | m + 1, st, ks => match st.s with
    | [] => some (ks, st)
    | c :: _ => if c = 124 ∨ c = 41 then some (ks, st) else match item st with
      | none => none
      | some (k, st') => rowL item m st' (ks ++ [k])
def rowP (item : PS → Option (Int × PS)) (st : PS) : Option (Int × PS) := match rowL item (st.s.length + 1) st [] with
  | none => none
  | some (ks, st') => match ks with | [] => some (st'.push ⟨1, [], 0, 0, []⟩) | _ => some (manyP 3 ks st')
def altL (row : PS → Option (Int × PS)) : Nat → PS → List Int → Option (List Int × PS)
  | 0, _, _ => none
  | m + 1, st, ks => if nextB 124 st then (match row (nextS 124 st) with
      | none => none
      | some (k, st') => altL row m st' (ks ++ [k])) else some (ks, st)
def altOf (row : PS → Option (Int × PS)) (st : PS) : Option (Int × PS) := match row st with
  | none => none
  | some (k, st1) => match altL row (st1.s.length + 1) st1 [k] with
    | none => none
    | some (ks, st2) => some (manyP 4 ks st2)
def deeper (st : PS) : PS := { st with deep := st.deep + 1, most := max st.most (st.deep + 1) }
def upper (st : PS) : PS := { st with deep := st.deep - 1 }
def atomOf (alt : PS → Option (Int × PS)) (st : PS) : Option (Int × PS) := match takeP st with
  | none => none
  | some (r, st1) =>
    if r = 40 then (match alt (deeper st1) with
      | none => none
      | some (k, st2) => if nextB 41 st2 then some (k, upper (nextS 41 st2)) else none)
    else if r = 91 then classP st1
    else if r = 46 then some (st1.push ⟨2, [], 0, 0, [0, 9, 11, 1114111]⟩)
    else if r = 94 then some (st1.push ⟨6, [], 0, 0, []⟩)
    else if r = 36 then some (st1.push ⟨7, [], 0, 0, []⟩)
    else if r = 92 then (match escapeP st1 with
      | none => none
      | some (set, st2) => some (st2.push ⟨2, [], 0, 0, set⟩))
    else if oneOf special r then none
    else some (st1.push ⟨2, [], 0, 0, [r, r]⟩)
def repOf (kid lo hi : Int) (st : PS) : Option (Int × PS) := some (st.push ⟨5, [kid], lo, hi, []⟩)
def countP (kid : Int) (st1 : PS) : Option (Int × PS) := match digitP st1 with
  | none => none
  | some (lo, st2) =>
    if nextB 44 st2 then (match digitP (nextS 44 st2) with
      | none => none
      | some (hi, st3) => if lo ≤ hi ∧ nextB 125 st3 = true then repOf kid lo hi (nextS 125 st3) else none)
    else if nextB 125 st2 then repOf kid lo lo (nextS 125 st2) else none
def itemOf (alt : PS → Option (Int × PS)) (st : PS) : Option (Int × PS) := match atomOf alt st with
  | none => none
  | some (kid, st1) =>
    if nextB 42 st1 then repOf kid 0 (-1) (nextS 42 st1)
    else if nextB 43 st1 then repOf kid 1 (-1) (nextS 43 st1)
    else if nextB 63 st1 then repOf kid 0 1 (nextS 63 st1)
    else if nextB 123 st1 then countP kid (nextS 123 st1)
    else some (kid, st1)
def altP : Nat → PS → Option (Int × PS)
  | 0, _ => none
  | n + 1, st => altOf (rowP (itemOf (altP n))) st

/-- how a state comes of another -/
structure Gn (a b : Nat) (st st' : PS) : Prop where
  sub : ∀ x ∈ st'.s, x ∈ st.s
  phi : st'.out.length + 4 * st'.s.length + a ≤ st.out.length + 4 * st.s.length + b
  len : st'.s.length ≤ st.s.length
  deep : st'.deep = st.deep
  most0 : st.most ≤ st'.most
  most1 : st'.most ≤ st.most ∨ st'.most ≤ st.deep + st.s.length
  pre : st.out <+: st'.out
theorem Gn.refl (st : PS) : Gn 0 0 st st := ⟨fun _ h => h, by omega, by omega, rfl, by omega, by omega, List.prefix_rfl⟩
theorem Gn.trans {a b c d : Nat} {x y z : PS} (h : Gn a b x y) (k : Gn c d y z) : Gn (a + c) (b + d) x z :=
  ⟨fun _ hx => h.sub _ (k.sub _ hx), by have := h.phi; have := k.phi; omega, by have := h.len; have := k.len; omega, k.deep.trans h.deep,
   by have := h.most0; have := k.most0; omega, by have := h.most1; have := k.most1; have := h.deep; have := h.len; omega, h.pre.trans k.pre⟩
theorem Gn.weak {a b a' b' : Nat} {x y : PS} (h : Gn a b x y) (e : b + a' ≤ b' + a) : Gn a' b' x y :=
  ⟨h.sub, by have := h.phi; omega, h.len, h.deep, h.most0, h.most1, h.pre⟩
theorem Gn.less {a b : Nat} {x y : PS} (h : Gn a b x y) (e : b < a) : y.s.length < x.s.length := by
  have := h.phi; have := h.pre.length_le; omega
/-- a state that may be -/
structure PC (c : Nat) (st : PS) : Prop where
  rn : RnV st.s
  phi : st.out.length + 4 * st.s.length + c ≤ 2000
  d0 : 0 ≤ st.deep
  d1 : st.deep + st.s.length ≤ 1000
  m0 : 0 ≤ st.most
  m1 : st.most ≤ 1000
theorem PC.go {a b c d : Nat} {x y : PS} (h : PC c x) (k : Gn a b x y) (e : b + d ≤ c + a) : PC d y :=
  ⟨fun z hz => h.rn z (k.sub z hz), by have := h.phi; have := k.phi; omega, by have := h.d0; have := k.deep; omega, by have := h.d1; have := k.deep; have := k.len; omega,
   by have := h.m0; have := k.most0; omega, by have := h.m1; have := k.most1; have := h.d1; omega⟩
theorem nextS_no {c : Int} {st : PS} (h : nextB c st = false) : nextS c st = st := by
  unfold nextB at h; unfold nextS; split <;> simp_all
theorem nextS_yes {c : Int} {st : PS} (h : nextB c st = true) : st.s = c :: (nextS c st).s ∧ (nextS c st).out = st.out ∧ (nextS c st).deep = st.deep ∧ (nextS c st).most = st.most := by
  unfold nextB at h; unfold nextS; split <;> simp_all
theorem next_go {c : Int} {st : PS} (h : nextB c st = true) : Gn 4 0 st (nextS c st) := by
  obtain ⟨h1, h2, h3, h4⟩ := nextS_yes h
  exact ⟨fun x hx => by rw [h1]; exact List.mem_cons_of_mem _ hx, by rw [h1, h2]; simp; omega, by rw [h1]; simp, h3, by omega, by omega, by rw [h2]; exact List.prefix_rfl⟩
theorem push_go (st : PS) (n : Nd) : Gn 0 1 st (st.push n).2 :=
  ⟨fun _ h => h, by simp [PS.push]; omega, by simp [PS.push], rfl, by simp [PS.push], by simp [PS.push], by simp [PS.push]⟩
theorem take_go {c : Int} {st st' : PS} (h : takeP st = some (c, st')) : Gn 4 0 st st' := by
  obtain ⟨s, out, dp, mo⟩ := st
  obtain ⟨s', out', dp', mo'⟩ := st'
  obtain ⟨rfl, rfl, rfl, rfl⟩ := takeP_inv h
  exact ⟨fun x hx => List.mem_cons_of_mem _ hx, by simp; omega, by simp, rfl, by simp, by simp, List.prefix_rfl⟩
theorem digit_go {c : Int} {st st' : PS} (h : digitP st = some (c, st')) : Gn 4 0 st st' ∧ 0 ≤ c ∧ c ≤ 8 := by
  unfold digitP at h
  split at h
  · exact absurd h (by simp)
  · rename_i r st1 h1
    split at h
    · simp only [Option.some.injEq, Prod.mk.injEq] at h
      obtain ⟨rfl, rfl⟩ := h
      exact ⟨take_go h1, by omega, by omega⟩
    · exact absurd h (by simp)
theorem escape_go {m : List Int} {st st' : PS} (h : escapeP st = some (m, st')) : Gn 4 0 st st' := by
  unfold escapeP at h
  split at h
  · exact absurd h (by simp)
  · rename_i r st1 h1
    have := take_go h1
    repeat' split at h
    all_goals first | (simp at h; done) | (simp only [Option.some.injEq, Prod.mk.injEq] at h; obtain ⟨_, rfl⟩ := h; exact this)
theorem member_go {m : List Int} {st st' : PS} (h : memberP st = some (m, st')) : Gn 4 0 st st' := by
  unfold memberP at h
  split at h
  · exact absurd h (by simp)
  · rename_i r st1 h1
    have := take_go h1
    split at h
    · exact (this.trans (escape_go h)).weak (by omega)
    · split at h
      · exact absurd h (by simp)
      · simp only [Option.some.injEq, Prod.mk.injEq] at h; obtain ⟨_, rfl⟩ := h; exact this
/-- a set of runes -/
def SetV (l : List Int) : Prop := l.length % 2 = 0 ∧ RnI l ∧ ∀ x ∈ pairsOf l, x.1 ≤ x.2
theorem escape_set {m : List Int} {st st' : PS} (h : escapeP st = some (m, st')) (hr : RnV st.s) : SetV m ∧ m.length ≤ 8 ∧ 2 ≤ m.length := by
  unfold escapeP at h
  split at h
  · exact absurd h (by simp)
  · rename_i r st1 h1
    obtain ⟨s, out, dp, mo⟩ := st
    obtain ⟨s', out', dp', mo'⟩ := st1
    obtain ⟨rfl, rfl, rfl, rfl⟩ := takeP_inv h1
    have h0 := hr r List.mem_cons_self
    repeat' split at h
    all_goals first | (simp at h; done) | (simp only [Option.some.injEq, Prod.mk.injEq] at h; obtain ⟨rfl, _⟩ := h; refine ⟨⟨by simp, ?_, by simp [pairsOf]⟩, by simp, by simp⟩; intro x hx; simp at hx; omega)
theorem member_set {m : List Int} {st st' : PS} (h : memberP st = some (m, st')) (hr : RnV st.s) : SetV m ∧ m.length ≤ 8 ∧ 2 ≤ m.length := by
  unfold memberP at h
  split at h
  · exact absurd h (by simp)
  · rename_i r st1 h1
    obtain ⟨s, out, dp, mo⟩ := st
    obtain ⟨s', out', dp', mo'⟩ := st1
    obtain ⟨rfl, rfl, rfl, rfl⟩ := takeP_inv h1
    have h0 := hr r List.mem_cons_self
    split at h
    · exact escape_set h (fun x hx => hr x (List.mem_cons_of_mem _ hx))
    · split at h
      · exact absurd h (by simp)
      · simp only [Option.some.injEq, Prod.mk.injEq] at h; obtain ⟨rfl, _⟩ := h
        exact ⟨⟨by simp, by intro x hx; simp at hx; omega, by simp [pairsOf]⟩, by simp, by simp⟩
theorem isOne_eq {l : List Int} {a : Int} (h : isOne l = some a) : l = [a, a] := by
  unfold isOne at h
  split at h
  · split at h
    · simp at h; simp_all
    · exact absurd h (by simp)
  · exact absurd h (by simp)
theorem class_go : ∀ (m : Nat) (st st' : PS) (set set' : List Int) (b : Bool), classL m st set b = some (set', st') → Gn (if b then 4 else 8) 0 st st'
  | 0, _, _, _, _, _, h => by simp [classL] at h
  | m + 1, st, st', set, set', b, h => by
    unfold classL at h
    split at h
    · rename_i hb
      simp only [Bool.and_eq_true] at hb
      simp only [Option.some.injEq, Prod.mk.injEq] at h
      obtain ⟨_, rfl⟩ := h
      rw [hb.1]; exact next_go hb.2
    · split at h
      · exact absurd h (by simp)
      · rename_i m1 st1 h1
        have g1 := member_go h1
        split at h
        · rename_i h2
          split at h
          · exact absurd h (by simp)
          · rename_i m2 st2 h3
            have g3 := member_go h3
            split at h
            · split at h
              · have := class_go m _ _ _ _ _ h
                exact (((g1.trans (next_go h2)).trans g3).trans this).weak (by split <;> simp)
              · exact absurd h (by simp)
            · exact absurd h (by simp)
        · have := class_go m _ _ _ _ _ h
          exact (g1.trans this).weak (by split <;> simp)
theorem classP_go {k : Int} {st st' : PS} (h : classP st = some (k, st')) : Gn 7 0 st st' := by
  unfold classP at h
  split at h
  · exact absurd h (by simp)
  · rename_i set st2 h1
    have g := class_go _ _ _ _ _ _ h1
    simp only [Option.some.injEq] at h
    have e : st' = (st2.push ⟨2, [], 0, 0, if nextB 94 st then othersL 0 (mergedL set) else mergedL set⟩).2 := by rw [h]
    rw [e]
    refine Gn.weak (a := 8) (b := 1) ?_ (by omega)
    cases hb : nextB 94 st with
    | true => exact (((next_go hb).trans g).trans (push_go st2 _)).weak (by simp)
    | false => rw [nextS_no hb] at g; exact (g.trans (push_go st2 _)).weak (by simp)
theorem many_go (kind : Int) (ks : List Int) (st : PS) : Gn 0 1 st (manyP kind ks st).2 := by
  unfold manyP; split
  · exact (Gn.refl st).weak (by omega)
  · exact push_go st _
theorem many_go1 (kind k : Int) (st : PS) : Gn 0 0 st (manyP kind [k] st).2 := Gn.refl st
theorem atom_go {alt : PS → Option (Int × PS)} (ha : ∀ k st st', alt st = some (k, st') → Gn 0 1 st st') {k : Int} {st st' : PS} (h : atomOf alt st = some (k, st')) : Gn 3 0 st st' := by
  unfold atomOf at h
  split at h
  · exact absurd h (by simp)
  · rename_i r st1 h1
    have g1 := take_go h1
    have hp : ∀ (st2 : PS) (n : Nd) , st2.push n = (k, st') → Gn 4 0 st st2 → Gn 3 0 st st' := fun st2 n e g => by
      have e2 : st' = (st2.push n).2 := by rw [e]
      rw [e2]; exact (g.trans (push_go st2 n)).weak (by omega)
    split at h
    · split at h
      · exact absurd h (by simp)
      · rename_i k2 st2 h2
        split at h
        · rename_i h3
          simp only [Option.some.injEq, Prod.mk.injEq] at h
          obtain ⟨_, rfl⟩ := h
          have g2 := ha _ _ _ h2
          obtain ⟨a1, a2, a3, a4, a5, a6, a7⟩ := g2.trans (next_go h3)
          obtain ⟨b1, b2, b3, b4, b5, b6, b7⟩ := g1
          simp only [deeper] at a1 a2 a3 a4 a5 a6 a7
          refine ⟨fun x hx => b1 x (a1 x hx), ?_, ?_, ?_, ?_, ?_, b7.trans a7⟩
          · simp only [upper]; omega
          · simp only [upper]; omega
          · simp only [upper]; omega
          · simp only [upper]; omega
          · simp only [upper]; have hl : st1.s.length + 1 ≤ st.s.length := by have := Gn.less ⟨b1, b2, b3, b4, b5, b6, b7⟩ (by omega); omega
            omega
        · exact absurd h (by simp)
    · split at h
      · exact (g1.trans (classP_go h)).weak (by omega)
      · repeat' split at h
        all_goals first
          | (simp at h; done)
          | (simp only [Option.some.injEq] at h; exact hp _ _ h g1)
          | (rename_i set st2 h2; simp only [Option.some.injEq] at h; exact hp _ _ h ((g1.trans (escape_go h2)).weak (by omega)))
theorem item_go {alt : PS → Option (Int × PS)} (ha : ∀ k st st', alt st = some (k, st') → Gn 0 1 st st') {k : Int} {st st' : PS} (h : itemOf alt st = some (k, st')) : Gn 3 0 st st' := by
  unfold itemOf at h
  split at h
  · exact absurd h (by simp)
  · rename_i kid st1 h1
    have g1 := atom_go ha h1
    have hp : ∀ (st2 : PS) (lo hi : Int), repOf kid lo hi st2 = some (k, st') → Gn 4 0 st1 st2 → Gn 3 0 st st' := fun st2 lo hi e g => by
      have e2 : st' = (st2.push ⟨5, [kid], lo, hi, []⟩).2 := by simp only [repOf, Option.some.injEq] at e; rw [e]
      rw [e2]; exact ((g1.trans g).trans (push_go st2 _)).weak (by omega)
    split at h
    · rename_i hn; exact hp _ _ _ h (next_go hn)
    split at h
    · rename_i hn; exact hp _ _ _ h (next_go hn)
    split at h
    · rename_i hn; exact hp _ _ _ h (next_go hn)
    split at h
    · rename_i hn
      have gn := next_go hn
      unfold countP at h
      split at h
      · exact absurd h (by simp)
      · rename_i lo st2 h2
        have g2 := (digit_go h2).1
        split at h
        · rename_i h3
          split at h
          · exact absurd h (by simp)
          · rename_i hi st3 h4
            have g4 := (digit_go h4).1
            split at h
            · rename_i h5
              exact hp _ _ _ h (((((gn.trans g2).trans (next_go h3)).trans g4).trans (next_go h5.2)).weak (by omega))
            · exact absurd h (by simp)
        · split at h
          · rename_i h5; exact hp _ _ _ h (((gn.trans g2).trans (next_go h5)).weak (by omega))
          · exact absurd h (by simp)
    · simp only [Option.some.injEq, Prod.mk.injEq] at h; obtain ⟨_, rfl⟩ := h; exact g1
theorem rowL_go {item : PS → Option (Int × PS)} (hi : ∀ k st st', item st = some (k, st') → Gn 3 0 st st') : ∀ (m : Nat) (st st' : PS) (ks ks' : List Int), rowL item m st ks = some (ks', st') →
    ∃ d, ks'.length = ks.length + d ∧ Gn (3 * d) 0 st st'
  | 0, _, _, _, _, h => by simp [rowL] at h
  | m + 1, st, st', ks, ks', h => by
    unfold rowL at h
    split at h
    · simp only [Option.some.injEq, Prod.mk.injEq] at h; obtain ⟨rfl, rfl⟩ := h; exact ⟨0, rfl, Gn.refl _⟩
    · split at h
      · simp only [Option.some.injEq, Prod.mk.injEq] at h; obtain ⟨rfl, rfl⟩ := h; exact ⟨0, rfl, Gn.refl _⟩
      · split at h
        · exact absurd h (by simp)
        · rename_i k st1 h1
          obtain ⟨d, e1, e2⟩ := rowL_go hi m _ _ _ _ h
          exact ⟨d + 1, by rw [e1]; simp; omega, ((hi _ _ _ h1).trans e2).weak (by omega)⟩
theorem row_go {item : PS → Option (Int × PS)} (hi : ∀ k st st', item st = some (k, st') → Gn 3 0 st st') {k : Int} {st st' : PS} (h : rowP item st = some (k, st')) : Gn 0 1 st st' := by
  unfold rowP at h
  split at h
  · exact absurd h (by simp)
  · rename_i ks st1 h1
    obtain ⟨d, _, g⟩ := rowL_go hi _ _ _ _ _ h1
    split at h
    · simp only [Option.some.injEq] at h
      have e : st' = (st1.push ⟨1, [], 0, 0, []⟩).2 := by rw [h]
      rw [e]; exact (g.trans (push_go st1 _)).weak (by omega)
    · simp only [Option.some.injEq] at h
      have e := congrArg Prod.snd h
      simp only at e
      rw [← e]; exact (g.trans (many_go 3 _ st1)).weak (by omega)
theorem altL_go {row : PS → Option (Int × PS)} (hr : ∀ k st st', row st = some (k, st') → Gn 0 1 st st') : ∀ (m : Nat) (st st' : PS) (ks ks' : List Int), altL row m st ks = some (ks', st') →
    ∃ d, ks'.length = ks.length + d ∧ Gn (3 * d) 0 st st'
  | 0, _, _, _, _, h => by simp [altL] at h
  | m + 1, st, st', ks, ks', h => by
    unfold altL at h
    split at h
    · rename_i hn
      split at h
      · exact absurd h (by simp)
      · rename_i k st1 h1
        obtain ⟨d, e1, e2⟩ := altL_go hr m _ _ _ _ h
        exact ⟨d + 1, by rw [e1]; simp; omega, (((next_go hn).trans (hr _ _ _ h1)).trans e2).weak (by omega)⟩
    · simp only [Option.some.injEq, Prod.mk.injEq] at h; obtain ⟨rfl, rfl⟩ := h; exact ⟨0, rfl, Gn.refl _⟩
theorem altOf_go {row : PS → Option (Int × PS)} (hr : ∀ k st st', row st = some (k, st') → Gn 0 1 st st') {k : Int} {st st' : PS} (h : altOf row st = some (k, st')) : Gn 0 1 st st' := by
  unfold altOf at h
  split at h
  · exact absurd h (by simp)
  · rename_i k1 st1 h1
    have g1 := hr _ _ _ h1
    split at h
    · exact absurd h (by simp)
    · rename_i ks st2 h2
      obtain ⟨d, e1, g2⟩ := altL_go hr _ _ _ _ _ h2
      simp only [Option.some.injEq] at h
      have e : st' = (manyP 4 ks st2).2 := by rw [h]
      rw [e]
      cases d with
      | zero =>
        obtain ⟨k', rfl⟩ : ∃ k', ks = [k'] := by match ks, e1 with | [k'], _ => exact ⟨k', rfl⟩ | [], e => simp at e | _ :: _ :: _, e => simp at e
        exact ((g1.trans g2).trans (many_go1 4 k' st2)).weak (by omega)
      | succ d => exact ((g1.trans g2).trans (many_go 4 ks st2)).weak (by omega)
theorem altP_go : ∀ (n : Nat) (k : Int) (st st' : PS), altP n st = some (k, st') → Gn 0 1 st st'
  | 0, _, _, _, h => by simp [altP] at h
  | n + 1, k, st, st', h => by
    unfold altP at h
    exact altOf_go (fun k st st' => row_go fun k st st' => item_go (altP_go n)) h
/-- a list of the call's own beside the parser's memory -/
theorem prs_none {σ : AHeap} {p id ver i : Nat} {st : PS} (h : prs σ p id ver st i = none) : i ≠ p ∧ σ i = none ∧ (st.out = [] ∨ i ≠ id) := by
  unfold prs at h
  cases ho : st.out with
  | nil =>
    rw [ho] at h
    simp only [List.length_nil, slh] at h
    obtain ⟨h1, h2⟩ := ne_of_upd h
    exact ⟨fun e => h1 e.symm, h2, .inl rfl⟩
  | cons x r =>
    rw [ho] at h
    simp only [List.length_cons, slh] at h
    obtain ⟨h1, h2⟩ := ne_of_upd h
    obtain ⟨h3, h4⟩ := ne_of_upd h2
    exact ⟨fun e => h3 e.symm, h4, .inr fun e => h1 e.symm⟩
theorem prs_is {σ : AHeap} {p id ver i : Nat} {st : PS} (h1 : i ≠ p) (h2 : σ i = none) (h3 : st.out = [] ∨ i ≠ id) : prs σ p id ver st i = none := by
  unfold prs
  rcases h3 with h | h
  · rw [h]; simp only [List.length_nil, slh]; rw [upd_ne _ _ h1]; exact h2
  · rw [slh_at _ _ _ _ h, upd_ne _ _ h1]; exact h2
theorem prs_slh {σ : AHeap} {p id ver i v n : Nat} {st : PS} {ty : TypeId} {cs : List AV} (h1 : i ≠ p) (h3 : n = 0 ∨ st.out = [] ∨ i ≠ id) : prs (slh σ ty cs n i v) p id ver st = slh (prs σ p id ver st) ty cs n i v := by
  cases n with
  | zero => rfl
  | succ n =>
    unfold prs
    simp only [slh]
    rcases h3 with h | h | h
    · exact absurd h (by simp)
    · rw [h]; simp only [List.length_nil, slh]; exact upd_comm σ _ _ h1
    · cases ho : st.out with
      | nil => simp only [List.length_nil, slh]; exact upd_comm σ _ _ h1
      | cons x r => simp only [List.length_cons, slh]; rw [upd_comm σ _ _ h1, upd_comm _ _ _ h]
/-- the places of a list that grows beside the parser's memory -/
def okL (σ : AHeap) (p id i n : Nat) (out : List Nd) : Prop := σ i = none ∧ i ≠ p ∧ (n = 0 ∨ out = [] ∨ i ≠ id)
theorem okP_slh {σ : AHeap} {p id ver i v n : Nat} {ty : TypeId} {cs : List AV} (h : okP (slh σ ty cs n i v) p (id, ver)) : okP σ p (id, ver) ∧ (n = 0 ∨ i ≠ id) := by
  obtain ⟨h1, h2⟩ := h
  cases n with
  | zero => exact ⟨⟨h1, h2⟩, .inl rfl⟩
  | succ n => obtain ⟨k1, k2⟩ := ne_of_upd h1; exact ⟨⟨k2, h2⟩, .inr k1⟩
theorem okP_up {σ : AHeap} {p id ver i v n : Nat} {ty : TypeId} {cs : List AV} (h : okP σ p (id, ver)) (h2 : n = 0 ∨ i ≠ id) : okP (slh σ ty cs n i v) p (id, ver) := by
  obtain ⟨h1, h3⟩ := h
  rcases h2 with rfl | h2
  · exact ⟨h1, h3⟩
  · exact ⟨by show slh σ ty cs n i v id = none; rw [slh_at _ _ _ _ (fun e => h2 e.symm)]; exact h1, h3⟩
theorem slh_p {σ : AHeap} {p i v n : Nat} {ty : TypeId} {cs : List AV} (h : σ p = none) (h1 : i ≠ p) : slh σ ty cs n i v p = none := by
  rw [slh_at _ _ _ _ (fun e => h1 e.symm)]; exact h
/-- what a recursive function of the parser's says -/
def ParOk (f : FuncId) (F : PS → Option (Int × PS)) (c m : Nat) : Prop := ∀ (p id ver : Nat) (st : PS) (σ : AHeap), σ p = none → okP σ p (id, ver) → PC c st → st.s.length < m →
  ASpec Tryz.prog f [.ref p 0 0] (prs σ p id ver st) fun r σ' => ParR σ p (F st) int r σ'

end Go.Proofs.YtnahdpjbddfhgaaGreatDoor
namespace Go.Proofs.YtnahdpjbddfhgaaGreatDoor
open Go Go.AL
set_option maxRecDepth 100000
theorem sortI_ok : SortI Tryz.prog 128 := fun blk off cap zs w hH hblk hsz => Go.Proofs.Any.slices_Sort_int Tryz.sortI blk off cap zs w hH hblk hsz

/-- a pair whose first is a rune -/
abbrev RP := { p : Int × Int // 0 ≤ p.1 ∧ p.1 ≤ 1114111 }
instance : Inhabited RP := ⟨⟨(0, 0), by simp⟩⟩
def encP (x : RP) : List Value := [.int .i32 x.1.1, .int .i32 x.1.2]
def cmpP (x y : RP) : Int := x.1.1 - y.1.1
theorem ltP (x y : RP) : Go.Proofs.ltOf cmpP x y = decide (x.1.1 < y.1.1) := by
  unfold Go.Proofs.ltOf cmpP
  by_cases h : x.1.1 < y.1.1
  · simp [h]; omega
  · simp [h]; omega
theorem swoP : Go.Sort.SWO (Go.Proofs.ltOf cmpP) where
  irrefl x := by rw [ltP]; simp
  trans x y z h1 h2 := by rw [ltP] at *; simp at *; omega
  ntrans x y z h1 h2 := by rw [ltP] at *; simp at *; omega
end Go.Proofs.YtnahdpjbddfhgaaGreatDoor
namespace Go.Proofs.YtnahdpjbddfhgaaGreatDoor
open Go Go.RowKit Go.Lib Go.Sort Go.Proofs
set_option maxHeartbeats 1000000 in
theorem clo191 (a b c d : Int) (ha : 0 ≤ a ∧ a ≤ 1114111) (hc : 0 ≤ c ∧ c ≤ 1114111) (W : World) : Calls Tryz.prog 191 #[.agg #[.int .i32 a, .int .i32 b], .agg #[.int .i32 c, .int .i32 d]] W fun e w' => e = .returned (.int .i64 (a - c)) ∧ ∃ q os', w' = grow (W.drewN q) os' := by
  have h1 : IntKind.i32.wrap (a - c) = a - c := by simp [IntKind.wrap, IntKind.bits, IntKind.signed]; omega
  have h2 : IntKind.i64.wrap (a - c) = a - c := by simp [IntKind.wrap, IntKind.bits, IntKind.signed]; omega
  clear h1 h2
  go_enter Tryz.func191, Tryz.ntmps191
  go_wp2
  go_ret
  exact ⟨rfl, 0, _, by rw [alloc_eq_grow, alloc_eq_grow, grow_grow]; rfl⟩
theorem cmpLaysP (blk off size : Nat) (w : World) : CmpLays Tryz.prog 191 #[] encP 2 cmpP blk off size w := fun _ _ _ _ x y => clo191 x.1.1 x.1.2 y.1.1 y.1.2 x.2 y.2 _
theorem sortR_ok : AL.SortK Tryz.prog 190 191 encP 2 (ltOf cmpP) := fun blk off cap d w hH hblk hsz =>
  AnyQ.slices_SortFunc Tryz.sortR 2 (fun w => (AL.tyK_run tk222 w).1) (fun w => (AL.tyK_run tk222 w).2) encP (fun _ => rfl) (fun x v hv => by simp [encP] at hv; rcases hv with rfl | rfl <;> rfl) cmpP swoP 191 #[] blk off cap d w
    cf191 (cmpLaysP blk off d.size w) hH hblk hsz
end Go.Proofs.YtnahdpjbddfhgaaGreatDoor
set_option linter.unusedVariables false
set_option linter.unusedSimpArgs false
namespace Go.Proofs.YtnahdpjbddfhgaaGreatDoor
open Go Go.AL
set_option maxRecDepth 100000
def encPA (x : RP) : List AV := [rI x.1.1, rI x.1.2]
theorem encPA_len (x : RP) : (encPA x).length = 2 := rfl
theorem encPA_eq (l : List RP) : l.flatMap encPA = (l.flatMap encP).map AV.v := by
  induction l with
  | nil => rfl
  | cons x r ih => simp only [List.flatMap_cons, List.map_append, ih]; rfl
theorem flatP_snoc (l : List (Int × Int)) (x : Int × Int) : flatP (l ++ [x]) = flatP l ++ [x.1, x.2] := by simp [flatP]
theorem flatP_len (l : List (Int × Int)) : (flatP l).length = 2 * l.length := by
  induction l with
  | nil => rfl
  | cons x r ih => simp only [flatP, List.flatMap_cons, List.length_append, List.length_cons, List.length_nil] at ih ⊢; omega
theorem pairsOf_drop {l : List Int} {i : Nat} {a b : Int} (h : l.drop i = a :: b :: l.drop (i + 2)) : pairsOf (l.drop i) = (a, b) :: pairsOf (l.drop (i + 2)) := by rw [h]; rfl
theorem pairsOf_end {l : List Int} {i : Nat} (h : l.length ≤ i + 1) : pairsOf (l.drop i) = [] := by
  rcases e : l.drop i with _ | ⟨a, _ | ⟨b, r⟩⟩
  · rfl
  · rfl
  · have := congrArg List.length e; simp at this; omega
theorem mergeStep_snoc (o : List (Int × Int)) (y x : Int × Int) : mergeStep (o ++ [y]) x = if x.1 ≤ y.2 + 1 then o ++ [(y.1, max y.2 x.2)] else o ++ [y] ++ [x] := by
  simp [mergeStep]
theorem mergeStep_nil (x : Int × Int) : mergeStep [] x = [x] := rfl
theorem snocP (l : List (Int × Int)) : l = [] ∨ ∃ o y, l = o ++ [y] := by
  rcases List.eq_nil_or_concat l with h | ⟨o, y, h⟩
  · exact .inl h
  · exact .inr ⟨o, y, by simpa using h⟩
theorem merge_swap {out : List (Int × Int)} {x y : Int × Int} (e : x.1 = y.1) (hx : x.1 ≤ x.2) (hy : y.1 ≤ y.2) : mergeStep (mergeStep out x) y = mergeStep (mergeStep out y) x := by
  obtain ⟨x1, x2⟩ := x
  obtain ⟨y1, y2⟩ := y
  simp only at e hx hy
  subst e
  rcases snocP out with rfl | ⟨o, z, rfl⟩
  · have h1 := mergeStep_snoc [] (x1, x2) (x1, y2)
    have h2 := mergeStep_snoc [] (x1, y2) (x1, x2)
    simp only [List.nil_append] at h1 h2
    rw [mergeStep_nil, mergeStep_nil, h1, h2, if_pos (by first | omega | (simp; omega)), if_pos (by first | omega | (simp; omega))]
    simp [Int.max_comm]
  · obtain ⟨z1, z2⟩ := z
    rw [mergeStep_snoc, mergeStep_snoc]
    by_cases h : x1 ≤ z2 + 1
    · rw [if_pos h, if_pos h, mergeStep_snoc, mergeStep_snoc, if_pos (by first | omega | (simp; omega)), if_pos (by first | omega | (simp; omega))]
      simp only [Int.max_assoc, Int.max_comm x2 y2]
    · rw [if_neg h, if_neg h, mergeStep_snoc, mergeStep_snoc, if_pos (by first | omega | (simp; omega)), if_pos (by first | omega | (simp; omega))]
      simp [Int.max_comm]
theorem merge_front {x : Int × Int} (hx : x.1 ≤ x.2) : ∀ (b1 : List (Int × Int)) (out : List (Int × Int)) (b2 : List (Int × Int)), (∀ z ∈ b1, z.1 = x.1 ∧ z.1 ≤ z.2) → (b1 ++ x :: b2).foldl mergeStep out = (b1 ++ b2).foldl mergeStep (mergeStep out x)
  | [], _, _, _ => rfl
  | z :: b1, out, b2, h => by
    obtain ⟨h1, h2⟩ := h z List.mem_cons_self
    show (b1 ++ x :: b2).foldl mergeStep (mergeStep out z) = (b1 ++ b2).foldl mergeStep (mergeStep (mergeStep out x) z)
    rw [merge_front hx b1 _ b2 (fun w hw => h w (List.mem_cons_of_mem _ hw)), merge_swap h1 h2 hx]
/-- the order among pairs that begin alike is of no account -/
theorem merge_perm : ∀ (a b out : List (Int × Int)), a.Perm b → a.Pairwise (fun x y => x.1 ≤ y.1) → b.Pairwise (fun x y => x.1 ≤ y.1) → (∀ x ∈ a, x.1 ≤ x.2) → a.foldl mergeStep out = b.foldl mergeStep out
  | [], b, out, hp, _, _, _ => by rw [List.nil_perm.1 hp]
  | x :: a, b, out, hp, ha, hb, hv => by
    have hx : x ∈ b := hp.subset List.mem_cons_self
    obtain ⟨b1, b2, rfl⟩ := List.append_of_mem hx
    have hxv := hv x List.mem_cons_self
    have hb' := List.pairwise_append.1 hb
    have key : ∀ z ∈ b1, z.1 = x.1 ∧ z.1 ≤ z.2 := by
      intro z hz
      have h1 : z.1 ≤ x.1 := hb'.2.2 z hz x List.mem_cons_self
      have hm : z ∈ x :: a := hp.symm.subset (List.mem_append_left _ hz)
      have h2 : x.1 ≤ z.1 := by
        rcases List.mem_cons.1 hm with e | hm
        · rw [e]; omega
        · exact (List.pairwise_cons.1 ha).1 z hm
      exact ⟨by omega, hv z hm⟩
    rw [merge_front hxv b1 out b2 key]
    show a.foldl mergeStep (mergeStep out x) = _
    refine merge_perm a (b1 ++ b2) _ ?_ (List.pairwise_cons.1 ha).2 ?_ (fun z hz => hv z (List.mem_cons_of_mem _ hz))
    · exact List.Perm.cons_inv (hp.trans List.perm_middle)
    · exact List.pairwise_append.2 ⟨hb'.1, (List.pairwise_cons.1 hb'.2.1).2, fun u hu w hw => hb'.2.2 u hu w (List.mem_cons_of_mem _ hw)⟩
theorem lexLe_total (a b : Int × Int) : (lexLe a b || lexLe b a) = true := by
  unfold lexLe; simp only [Bool.or_eq_true, Bool.and_eq_true, decide_eq_true_eq]; omega
theorem lexLe_trans (a b c : Int × Int) (h : lexLe a b = true) (k : lexLe b c = true) : lexLe a c = true := by
  unfold lexLe at *; simp only [Bool.or_eq_true, Bool.and_eq_true, decide_eq_true_eq] at *; omega
theorem merged_any {l : List Int} (hv : ∀ x ∈ pairsOf l, x.1 ≤ x.2) {b : List (Int × Int)} (hp : b.Perm (pairsOf l)) (hs : b.Pairwise (fun x y => x.1 ≤ y.1)) : flatP (b.foldl mergeStep []) = mergedL l := by
  unfold mergedL
  congr 1
  have h1 := List.mergeSort_perm (pairsOf l) lexLe
  have h2 := List.pairwise_mergeSort (le := lexLe) lexLe_trans lexLe_total (pairsOf l)
  refine merge_perm _ _ _ (hp.trans h1.symm) hs (h2.imp fun {x y} h => ?_) (fun x hx => hv x (hp.subset hx))
  unfold lexLe at h; simp only [Bool.or_eq_true, Bool.and_eq_true, decide_eq_true_eq] at h; omega
theorem sorted_pw {l : List RP} (h : ∀ i j, i < j → j < l.length → Go.Proofs.ltOf cmpP (l.getD j default) (l.getD i default) = false) : (l.map Subtype.val).Pairwise (fun x y => x.1 ≤ y.1) := by
  rw [List.pairwise_iff_getElem]
  intro i j hi hj hij
  simp only [List.length_map] at hi hj
  have := h i j hij hj
  rw [ltP] at this
  simp only [List.getD_eq_getElem?_getD, List.getElem?_eq_getElem hi, List.getElem?_eq_getElem hj, Option.getD_some, decide_eq_false_iff_not] at this
  simp only [List.getElem_map]
  omega
/-- pairs of runes -/
def PI (l : List (Int × Int)) : Prop := ∀ x ∈ l, (0 ≤ x.1 ∧ x.1 ≤ 1114111) ∧ 0 ≤ x.2 ∧ x.2 ≤ 1114111
theorem pi_step {out : List (Int × Int)} {x : Int × Int} (h : PI out) (hx : (0 ≤ x.1 ∧ x.1 ≤ 1114111) ∧ 0 ≤ x.2 ∧ x.2 ≤ 1114111) : PI (mergeStep out x) := by
  rcases snocP out with rfl | ⟨o, y, rfl⟩
  · intro z hz; rw [mergeStep_nil] at hz; simp at hz; subst hz; exact hx
  · have hy := h y (by simp)
    rw [mergeStep_snoc]
    split
    · intro z hz
      rcases List.mem_append.1 hz with hz | hz
      · exact h z (by simp [hz])
      · simp only [List.mem_singleton] at hz; subst hz; simp only; omega
    · intro z hz
      rcases List.mem_append.1 hz with hz | hz
      · exact h z hz
      · simp only [List.mem_singleton] at hz; subst hz; exact hx
theorem mergeStep_len (out : List (Int × Int)) (x : Int × Int) : (mergeStep out x).length ≤ out.length + 1 := by
  rcases snocP out with rfl | ⟨o, y, rfl⟩
  · simp [mergeStep_nil]
  · rw [mergeStep_snoc]; split <;> simp
theorem pi_pairs : ∀ {l : List Int}, RnI l → PI (pairsOf l)
  | [], _ => by simp [PI, pairsOf]
  | [_], _ => by simp [PI, pairsOf]
  | a :: b :: r, h => by
    intro x hx
    simp only [pairsOf, List.mem_cons] at hx
    rcases hx with rfl | hx
    · exact ⟨h a (by simp), h b (by simp)⟩
    · exact pi_pairs (l := r) (fun z hz => h z (by simp [hz])) x hx
theorem snoc_pos {out : List (Int × Int)} (h : 0 < ((flatP out).length : Int)) : ∃ o y, out = o ++ [y] := by
  rcases snocP out with rfl | h1
  · simp [flatP] at h
  · exact h1
theorem snoc_zero {out : List (Int × Int)} (h : ((flatP out).length : Int) ≤ 0) : out = [] := by
  rcases snocP out with rfl | ⟨o, y, rfl⟩
  · rfl
  · rw [flatP_snoc] at h; simp at h; omega

theorem merged_spec (l : List Int) (σ : AHeap) (hl : SetV l) (h2 : 2 ≤ l.length) (hl2 : l.length ≤ 1000000) : ASpec Tryz.prog 184 [.lst (l.map rI) l.length false] σ fun r σ' => r = .ret (setA (mergedL l)) ∧ σ' = σ := by
  refine aspec_enter (N := 72) (rs := [.tmp 2]) Tryz.func184 rfl rfl rfl rfl rfl rfl ?_
  refine awp_seq ?_
  refine awp_region ?_
  refine aops_v rfl rfl rfl (a_assign rfl rfl ?_)
  refine aops_nil ?_
  refine thenE_n ?_
  refine awp_seq ?_
  refine awp_region ?_
  refine aops_v rfl rfl rfl (a_assign rfl rfl ?_)
  refine aops_nil ?_
  refine thenE_n ?_
  refine awp_seq ?_
  refine awp_seq ?_
  refine awp_region ?_
  refine aops_v rfl rfl rfl (a_assign rfl rfl ?_)
  refine aops_nil ?_
  refine thenE_n ?_
  refine awp_block ?_
  refine awp_fresh fun id0 hid0 => ?_
  refine awp_loop (S := Nat × List RP × Nat × Nat) (fun x => [(0, .lst (l.map rI) l.length false), (3, slv 2 (x.2.1.flatMap encPA) x.2.1.length x.2.2.1 x.2.2.2), (4, int x.1)]) (fun x => slh σ 222 (x.2.1.flatMap encPA) x.2.1.length x.2.2.1 x.2.2.2) (fun x => x.1 ≤ l.length ∧ x.1 % 2 = 0 ∧ 2 * x.2.1.length = x.1 ∧ x.2.1.map Subtype.val ++ pairsOf (l.drop x.1) = pairsOf l ∧ σ x.2.2.1 = none) (fun x => l.length - x.1) ⟨(0, [], id0, 0), ⟨by simp, rfl, by simp, by simp, hid0⟩, EL, rfl⟩ ?_
  rintro ⟨i, ps, id, ver⟩ ⟨hi, hi2, hpl, hJ, hid⟩
  dsimp only at hi hi2 hpl hJ hid
  dsimp only
  have hl20 := hl.1
  refine awp_seq ?_
  refine awp_seq ?_
  refine awp_region ?_
  refine aops_v rfl rfl rfl (a_move rfl rfl ?_)
  refine aops_v rfl rfl rfl (a_move rfl rfl ?_)
  first | refine aops_v rfl rfl rfl (a_len_lst rfl isl59 rfl ?_) | refine aops_v rfl rfl rfl (a_len rfl isl59 rfl ?_) | refine aops_v rfl rfl rfl (a_len_slg rfl isl59 rfl ?_) | refine aops_v rfl rfl rfl (a_len_nil rfl isl59 rfl ?_)
  refine aops_v rfl rfl rfl (a_int rfl rfl rfl rfl ?_)
  refine aops_nil ?_
  refine thenE_n ?_
  refine awp_cond rfl (fun h1 => ?_) (fun h1 => ?_)
  · try simp only [zz1, zz2, ne_eq, zz4, zz5, zz6, gt_iff_lt, ge_iff_le, zz9, zz0] at h1
    obtain ⟨a, b, ha, hb, hdr⟩ := drop2 (l := l) (i := i) (by omega)
    have ha1 := hl.2.1 a (List.mem_of_getElem? ha)
    have hpl2 : (ps.flatMap encPA).length = ps.length * 2 := flat_len encPA_len ps
    refine awp_skip ?_
    refine thenE_n ?_
    refine awp_seq ?_
    refine awp_block ?_
    refine awp_draw [0, 0, 0, 6, 14, 0, 0, 64, 224, 480, 1022, 2046, 4095, 8191] 12 rfl (by decide +kernel) (by decide +kernel) (by decide +kernel) rfl ?_
    simp only [List.take_succ_cons, List.take_zero, List.take_nil, List.drop_succ_cons, List.drop_zero, List.drop_nil]
    refine dp_val rfl (apure_val (a_move rfl rfl pure_done)) rfl ?_
    refine dp_val rfl (apure_val (a_move rfl rfl pure_done)) rfl ?_
    refine dp_val rfl (apure_val (a_move rfl rfl pure_done)) rfl ?_
    first | refine dp_val rfl (apure_val (a_indexAddr_lst rfl ek59 rfl rfl NT (by omega) (by omega) pure_done)) rfl ?_ | refine dp_val rfl (apure_val (a_indexAddr rfl ek59 rfl rfl NT (by omega) (by omega) pure_done)) rfl ?_
    refine dp_val rfl (apure_val (a_load_pin rfl tk21 rfl (ldv_map ha) pure_done)) rfl ?_
    refine dp_val rfl (apure_val (a_move rfl rfl pure_done)) rfl ?_
    refine dp_val rfl (apure_val (a_move rfl rfl pure_done)) rfl ?_
    first | refine dp_val rfl (apure_val (a_add rfl rfl rfl (by simp only [Go.AL.lo, Go.AL.hi]; omega) pure_done)) rfl ?_ | refine dp_val rfl (apure_val (a_int rfl rfl rfl rfl pure_done)) rfl ?_
    first | refine dp_val rfl (apure_val (a_indexAddr_lst rfl ek59 rfl rfl NT (by omega) (by omega) pure_done)) rfl ?_ | refine dp_val rfl (apure_val (a_indexAddr rfl ek59 rfl rfl NT (by omega) (by omega) pure_done)) rfl ?_
    refine dp_val rfl (apure_val (a_load_pin rfl tk21 rfl (ldv_map hb) pure_done)) rfl ?_
    refine dp_val rfl (apure_val (a_build (res := [_, _]) rfl bk222 rfl rfl pure_done)) rfl ?_
    refine dp_val rfl (apure_val (a_buildSlice (res := [_, _]) rfl sk221 rfl rfl rfl pure_done)) rfl ?_
    change AOps _ _ _ _ _ _ _
    refine aops_v rfl rfl rfl (a_append_sl rfl sk221 rfl hpl2 rfl (.lst rfl) rfl (by omega) (by simp only [maxLen]; omega) hid ?_)
    intro id27 ver27 hid27
    rw [show ps.flatMap encPA ++ [rI a, rI b] = (ps ++ [(⟨(a, b), ha1⟩ : RP)]).flatMap encPA by simp [encPA], show ps.length + 1 = (ps ++ [(⟨(a, b), ha1⟩ : RP)]).length by simp]
    refine aops_v rfl rfl rfl (a_assign rfl rfl ?_)
    refine aops_nil ?_
    refine blockE_n ?_
    refine thenE_n ?_
    refine awp_region ?_
    refine aops_v rfl rfl rfl (a_move rfl rfl ?_)
    first | refine aops_v rfl rfl rfl (a_add rfl rfl rfl (by simp only [Go.AL.lo, Go.AL.hi]; omega) ?_) | refine aops_v rfl rfl rfl (a_int rfl rfl rfl rfl ?_)
    refine aops_v rfl rfl rfl (a_assign rfl rfl ?_)
    refine aops_nil ?_
    refine thenE_n ?_
    exact .done ⟨(i + 2, ps ++ [⟨(a, b), ha1⟩], id27, ver27), ⟨by dsimp only; omega, by dsimp only; omega, by simp; omega, by rw [← hJ, pairsOf_drop hdr]; simp, hid27⟩, by dsimp only; omega, EL, rfl⟩
  · try simp only [zz1, zz2, ne_eq, zz4, zz5, zz6, gt_iff_lt, ge_iff_le, zz9, zz0] at h1
    obtain rfl : i = l.length := by omega
    rw [pairsOf_end (by omega), List.append_nil] at hJ
    have hps : 0 < ps.length := by omega
    rw [slv_pos hps, slh_pos hps, encPA_eq]
    refine awp_exit ?_
    refine thenE_x ?_
    refine thenE_x ?_
    refine blockE_x ?_
    refine thenE_n ?_
    refine awp_seq ?_
    refine awp_region ?_
    refine aops_v rfl rfl rfl (a_move rfl rfl ?_)
    refine aops_call_any rfl rfl rfl rfl cf190 rfl (aspec_sortK (l := ps) (enc := encP) (k := 2) (fun _ => rfl) sortR_ok (upd_same _ _ _) (by omega)) ?_ ?_
    rotate_left
    · rintro c σ' ⟨h, _⟩
      exact absurd h (by simp)
    rintro a' σ' ⟨h, l', hperm, hsort, rfl⟩
    simp only [AEnd.ret.injEq] at h
    subst h
    have hl' : l'.length = ps.length := hperm.length_eq
    rw [upd_upd, ← encPA_eq, ← hl']
    refine aops_nil ?_
    refine thenE_n ?_
    refine awp_seq ?_
    refine AWp.ghost (gst_arr 3 rfl (flat_len encPA_len _) hid (.done ?_))
    have hJ2 : flatP ((l'.map Subtype.val).foldl mergeStep []) = mergedL l := merged_any hl.2.2 (by rw [← hJ]; exact hperm.map _) (sorted_pw hsort)
    have hpi : PI (l'.map Subtype.val) := fun x hx => pi_pairs hl.2.1 x (by rw [← hJ]; exact (hperm.map _).subset hx)
    refine awp_region ?_
    refine aops_v rfl rfl rfl (a_assign rfl rfl ?_)
    refine aops_nil ?_
    refine thenE_n ?_
    refine awp_seq ?_
    refine awp_seq ?_
    refine awp_region ?_
    refine aops_v rfl rfl rfl (a_move rfl rfl ?_)
    first | refine aops_v rfl rfl rfl (a_len_lst rfl isl221 rfl ?_) | refine aops_v rfl rfl rfl (a_len rfl isl221 rfl ?_) | refine aops_v rfl rfl rfl (a_len_slg rfl isl221 rfl ?_) | refine aops_v rfl rfl rfl (a_len_nil rfl isl221 rfl ?_)
    refine aops_v rfl rfl rfl (a_move rfl rfl ?_)
    refine aops_nil ?_
    refine thenE_n ?_
    refine awp_block ?_
    refine awp_fresh fun id1 hid1 => ?_
    refine awp_loop (S := Nat × List (Int × Int) × Nat × Nat) (fun x => [(30, .lst (l'.flatMap encPA) l'.length false), (31, int l'.length), (32, int x.1), (5, slv 1 ((flatP x.2.1).map rI) (flatP x.2.1).length x.2.2.1 x.2.2.2)]) (fun x => slh σ 21 ((flatP x.2.1).map rI) (flatP x.2.1).length x.2.2.1 x.2.2.2) (fun x => x.1 ≤ l'.length ∧ ((l'.map Subtype.val).drop x.1).foldl mergeStep x.2.1 = (l'.map Subtype.val).foldl mergeStep [] ∧ PI x.2.1 ∧ x.2.1.length ≤ x.1 ∧ σ x.2.2.1 = none) (fun x => l'.length - x.1) ⟨(0, [], id1, 0), ⟨by simp, by simp, by simp [PI], by simp, hid1⟩, EL, rfl⟩ ?_
    rintro ⟨j, out, id2, ver2⟩ ⟨hj, hout, hpo, hol, hid2⟩
    dsimp only at hj hout hpo hol hid2
    dsimp only
    refine awp_seq ?_
    refine awp_region ?_
    refine aops_v rfl rfl rfl (a_int rfl rfl rfl rfl ?_)
    refine aops_nil ?_
    refine thenE_n ?_
    refine awp_seq ?_
    refine awp_cond rfl (fun h2 => ?_) (fun h2 => ?_)
    · try simp only [zz1, zz2, ne_eq, zz4, zz5, zz6, gt_iff_lt, ge_iff_le, zz9, zz0] at h2
      obtain ⟨x, hx⟩ : ∃ x, l'[j]? = some x := ⟨_, List.getElem?_eq_getElem (by omega)⟩
      have hdrop : (l'.map Subtype.val).drop j = x.1 :: (l'.map Subtype.val).drop (j + 1) := by rw [List.drop_eq_getElem_cons (by simp; omega)]; simp only [List.getElem_map]; rw [(List.getElem?_eq_some_iff.1 hx).2]
      have hxi := hpi x.1 (List.mem_map_of_mem (List.mem_of_getElem? hx))
      have hfl := flatP_len out
      refine awp_skip ?_
      refine thenE_n ?_
      refine awp_seq ?_
      refine awp_block ?_
      refine awp_seq ?_
      refine awp_region ?_
      first | refine aops_v rfl rfl rfl (a_indexAddr_lst rfl ek221 rfl rfl NT (by omega) (by omega) ?_) | refine aops_v rfl rfl rfl (a_indexAddr rfl ek221 rfl rfl NT (by omega) (by omega) ?_)
      refine aops_v rfl rfl rfl (a_load_pin rfl tk222 rfl (ldv_flat encPA_len hx) ?_)
      refine aops_var_frz rfl rfl rfl rfl rfl rfl rfl tk222 zk222 rfl rfl rfl rfl rfl ?_
      refine aops_nil ?_
      refine thenE_n ?_
      refine awp_seq ?_
      refine awp_seq ?_
      refine awp_region ?_
      refine aops_v rfl rfl rfl (a_move rfl rfl ?_)
      first | refine aops_v rfl rfl rfl (a_len_lst rfl isl59 rfl ?_) | refine aops_v rfl rfl rfl (a_len rfl isl59 rfl ?_) | refine aops_v rfl rfl rfl (a_len_slg rfl isl59 rfl ?_) | refine aops_v rfl rfl rfl (a_len_nil rfl isl59 rfl ?_)
      refine aops_v rfl rfl rfl (a_assign rfl rfl ?_)
      refine aops_nil ?_
      refine thenE_n ?_
      refine awp_seq ?_
      refine awp_draw [0, 1, 3, 7, 15, 7, 7, 71, 231, 487, 999, 2047, 4095] 13 rfl (by decide +kernel) (by decide +kernel) (by decide +kernel) rfl ?_
      simp only [List.take_succ_cons, List.take_zero, List.take_nil, List.drop_succ_cons, List.drop_zero, List.drop_nil]
      refine dp_val rfl (apure_val (a_move rfl rfl pure_done)) rfl ?_
      refine dp_val rfl (apure_val (a_int rfl rfl rfl rfl pure_done)) rfl ?_
      refine dp_val rfl (apure_val (a_move rfl rfl pure_done)) rfl ?_
      refine dp_bool (fun h3 => ?_) (fun h3 => ?_)
      · try simp only [zz1, zz2, ne_eq, zz4, zz5, zz6, gt_iff_lt, ge_iff_le, zz9, zz0] at h3
        obtain ⟨o, y, ho⟩ := snoc_pos h3
        have hfo := flatP_len o
        have hyi := hpo y (by simp [ho])
        have hg2 : (flatP out).map rI = ((flatP o ++ [y.1]).map rI) ++ rI y.2 :: [] := by rw [ho, flatP_snoc]; simp
        have hlen1 : (flatP out).length = (flatP o).length + 2 := by rw [ho, flatP_snoc]; simp
        have hpos : 0 < (flatP out).length := by omega
        rw [slv_pos hpos, slh_pos hpos, hg2]
        first | refine dp_yes rfl rfl rfl rfl (apure_val (a_indexAddr_array rfl ak222 rfl rfl NT (by omega) (by omega) pure_done)) rfl ?_ | refine dp_yes rfl rfl rfl rfl (apure_val (a_indexAddr_array_pin rfl ak222 rfl rfl NT (by omega) (by omega) pure_done)) rfl ?_
        first | refine dp_yes rfl rfl rfl rfl (apure_val (a_load_pin rfl tk21 rfl rfl pure_done)) rfl ?_ | refine dp_yes rfl rfl rfl rfl (apure_val (a_load rfl tk21 rfl HP rfl pure_done)) rfl ?_
        refine dp_yes rfl rfl rfl rfl (apure_val (a_move rfl rfl pure_done)) rfl ?_
        refine dp_yes rfl rfl rfl rfl (apure_val (a_move rfl rfl pure_done)) rfl ?_
        first | refine dp_yes rfl rfl rfl rfl (apure_val (a_sub rfl rfl rfl (by simp only [Go.AL.lo, Go.AL.hi]; omega) pure_done)) rfl ?_ | refine dp_yes rfl rfl rfl rfl (apure_val (a_int rfl rfl rfl rfl pure_done)) rfl ?_
        first | refine dp_yes rfl rfl rfl rfl (apure_val (a_indexAddr_lst rfl ek59 rfl rfl NT (by omega) (by omega) pure_done)) rfl ?_ | refine dp_yes rfl rfl rfl rfl (apure_val (a_indexAddr rfl ek59 rfl rfl NT (by omega) (by omega) pure_done)) rfl ?_
        refine dp_yes rfl rfl rfl rfl (apure_val (a_load rfl tk21 rfl (upd_same _ _ _) (get_mid (by simp; omega)) pure_done)) rfl ?_
        first | refine dp_yes rfl rfl rfl rfl (apure_val (a_add rfl rfl rfl (by simp only [Go.AL.lo, Go.AL.hi]; omega) pure_done)) rfl ?_ | refine dp_yes rfl rfl rfl rfl (apure_val (a_int rfl rfl rfl rfl pure_done)) rfl ?_
        refine dp_yes rfl rfl rfl rfl (apure_val (a_int rfl rfl rfl rfl pure_done)) rfl ?_
        refine dp_val rfl (apure_val (a_pick rfl rfl rfl pure_done)) rfl ?_
        change AOps _ _ _ _ _ _ _
        refine aops_nil ?_
        refine thenE_n ?_
        refine awp_cond rfl (fun h4 => ?_) (fun h4 => ?_)
        · try simp only [zz1, zz2, ne_eq, zz4, zz5, zz6, gt_iff_lt, ge_iff_le, zz9, zz0] at h4
          have hle := h4
          obtain ⟨nw, hnw⟩ : ∃ nw, nw = o ++ [(y.1, max y.2 x.1.2)] := ⟨_, rfl⟩
          have hms : mergeStep out x.1 = nw := by rw [ho, mergeStep_snoc, if_pos hle, hnw]
          have hnl : (flatP nw).length = (flatP out).length := by rw [hnw, hlen1, flatP_snoc]; simp
          have hng : (flatP nw).map rI = ((flatP o ++ [y.1]).map rI) ++ rI (max y.2 x.1.2) :: [] := by rw [hnw, flatP_snoc]; simp
          refine awp_seq ?_
          refine awp_draw [0, 0, 2, 0, 0, 16, 56, 120, 0, 256, 1016, 2047, 4095] 12 rfl (by decide +kernel) (by decide +kernel) (by decide +kernel) rfl ?_
          simp only [List.take_succ_cons, List.take_zero, List.take_nil, List.drop_succ_cons, List.drop_zero, List.drop_nil]
          refine dp_val rfl (apure_val (a_move rfl rfl pure_done)) rfl ?_
          refine dp_val rfl (apure_val (a_move rfl rfl pure_done)) rfl ?_
          first | refine dp_val rfl (apure_val (a_sub rfl rfl rfl (by simp only [Go.AL.lo, Go.AL.hi]; omega) pure_done)) rfl ?_ | refine dp_val rfl (apure_val (a_int rfl rfl rfl rfl pure_done)) rfl ?_
          refine dp_val rfl (apure_val (a_move rfl rfl pure_done)) rfl ?_
          refine dp_val rfl (apure_val (a_move rfl rfl pure_done)) rfl ?_
          first | refine dp_val rfl (apure_val (a_sub rfl rfl rfl (by simp only [Go.AL.lo, Go.AL.hi]; omega) pure_done)) rfl ?_ | refine dp_val rfl (apure_val (a_int rfl rfl rfl rfl pure_done)) rfl ?_
          first | refine dp_val rfl (apure_val (a_indexAddr_lst rfl ek59 rfl rfl NT (by omega) (by omega) pure_done)) rfl ?_ | refine dp_val rfl (apure_val (a_indexAddr rfl ek59 rfl rfl NT (by omega) (by omega) pure_done)) rfl ?_
          refine dp_val rfl (apure_val (a_load rfl tk21 rfl (upd_same _ _ _) (get_mid (by simp; omega)) pure_done)) rfl ?_
          first | refine dp_val rfl (apure_val (a_indexAddr_array rfl ak222 rfl rfl NT (by omega) (by omega) pure_done)) rfl ?_ | refine dp_val rfl (apure_val (a_indexAddr_array_pin rfl ak222 rfl rfl NT (by omega) (by omega) pure_done)) rfl ?_
          first | refine dp_val rfl (apure_val (a_load_pin rfl tk21 rfl rfl pure_done)) rfl ?_ | refine dp_val rfl (apure_val (a_load rfl tk21 rfl HP rfl pure_done)) rfl ?_
          refine dp_val rfl (apure_val (a_max rfl rfl rfl pure_done)) rfl ?_
          rw [imax_gt]
          first | refine dp_val rfl (apure_val (a_indexAddr_lst rfl ek59 rfl rfl NT (by omega) (by omega) pure_done)) rfl ?_ | refine dp_val rfl (apure_val (a_indexAddr rfl ek59 rfl rfl NT (by omega) (by omega) pure_done)) rfl ?_
          change AOps _ _ _ _ _ _ _
          refine aops_s rfl rfl (a_store_n (cs2 := (flatP nw).map rI) rfl tk21 rfl rfl (upd_same _ _ _) rfl rfl (by simp; omega) (by rw [hng]; exact stv_mid (by simp; omega)) ?_)
          rw [upd_upd]
          refine aops_nil ?_
          refine thenE_n ?_
          refine awp_exit ?_
          refine thenE_x ?_
          refine blockE_x ?_
          refine thenE_n ?_
          refine awp_region ?_
          first | refine aops_v rfl rfl rfl (a_add rfl rfl rfl (by simp only [Go.AL.lo, Go.AL.hi]; omega) ?_) | refine aops_v rfl rfl rfl (a_int rfl rfl rfl rfl ?_)
          refine aops_v rfl rfl rfl (a_move rfl rfl ?_)
          refine aops_nil ?_
          refine thenE_n ?_
          refine .done ⟨(j + 1, nw, id2, ver2), ⟨by dsimp only; omega, by rw [← hout, hdrop, List.foldl_cons, hms], by have := pi_step hpo hxi; rwa [hms] at this, by have := mergeStep_len out x.1; rw [hms] at this; dsimp only; omega, hid2⟩, by dsimp only; omega, ?_, ?_⟩
          · dsimp only
            rw [slv_pos (by omega), hnl]
            repeat (first | exact Env.le_nil _ | refine Env.le_cons rfl ?_ | refine Env.le_cons (le_int rfl (by omega)) ?_)
          · dsimp only
            rw [slh_pos (by omega)]
        · try simp only [zz1, zz2, ne_eq, zz4, zz5, zz6, gt_iff_lt, ge_iff_le, zz9, zz0] at h4
          have hle := h4
          have hms : mergeStep out x.1 = out ++ [x.1] := by rw [ho, mergeStep_snoc, if_neg (by omega)]
          rw [← hg2, ← slv_pos (sz := 1) (cs := (flatP out).map rI) (id := id2) (ver := ver2) hpos, ← slh_pos (σ := σ) (ty := 21) (cs := (flatP out).map rI) (id := id2) (ver := ver2) hpos]
          refine awp_skip ?_
          refine thenE_n ?_
          refine awp_region ?_
          refine aops_v rfl rfl rfl (a_move rfl rfl ?_)
          first | refine aops_v rfl rfl rfl (a_indexAddr_array rfl ak222 rfl rfl NT (by omega) (by omega) ?_) | refine aops_v rfl rfl rfl (a_indexAddr_array_pin rfl ak222 rfl rfl NT (by omega) (by omega) ?_)
          first | refine aops_v rfl rfl rfl (a_load_pin rfl tk21 rfl rfl ?_) | refine aops_v rfl rfl rfl (a_load rfl tk21 rfl HP rfl ?_)
          first | refine aops_v rfl rfl rfl (a_indexAddr_array rfl ak222 rfl rfl NT (by omega) (by omega) ?_) | refine aops_v rfl rfl rfl (a_indexAddr_array_pin rfl ak222 rfl rfl NT (by omega) (by omega) ?_)
          first | refine aops_v rfl rfl rfl (a_load_pin rfl tk21 rfl rfl ?_) | refine aops_v rfl rfl rfl (a_load rfl tk21 rfl HP rfl ?_)
          refine aops_v rfl rfl rfl (a_buildSlice (res := [_, _]) rfl sk59 rfl rfl rfl ?_)
          refine aops_v rfl rfl rfl (a_append_sl rfl sk59 rfl (by simp) rfl (.lst rfl) rfl (by omega) (by simp only [maxLen]; omega) hid2 ?_)
          intro id69 ver69 hid69
          rw [show (flatP out).map rI ++ [rI x.1.1, rI x.1.2] = (flatP (mergeStep out x.1)).map rI by rw [hms, flatP_snoc]; simp, show (flatP out).length + 2 = (flatP (mergeStep out x.1)).length by rw [hms, flatP_snoc]; simp]
          refine aops_v rfl rfl rfl (a_assign rfl rfl ?_)
          refine aops_nil ?_
          refine blockE_n ?_
          refine thenE_n ?_
          refine awp_region ?_
          first | refine aops_v rfl rfl rfl (a_add rfl rfl rfl (by simp only [Go.AL.lo, Go.AL.hi]; omega) ?_) | refine aops_v rfl rfl rfl (a_int rfl rfl rfl rfl ?_)
          refine aops_v rfl rfl rfl (a_move rfl rfl ?_)
          refine aops_nil ?_
          refine thenE_n ?_
          exact .done ⟨(j + 1, mergeStep out x.1, id69, ver69), ⟨by dsimp only; omega, by rw [← hout, hdrop, List.foldl_cons], pi_step hpo hxi, by have := mergeStep_len out x.1; dsimp only; omega, hid69⟩, by dsimp only; omega, EL, rfl⟩
      · try simp only [zz1, zz2, ne_eq, zz4, zz5, zz6, gt_iff_lt, ge_iff_le, zz9, zz0] at h3
        have hout0 := snoc_zero h3
        have hms : mergeStep out x.1 = out ++ [x.1] := by rw [hout0]; rfl
        refine dp_no rfl rfl rfl rfl rfl ?_
        refine dp_no rfl rfl rfl rfl rfl ?_
        refine dp_no rfl rfl rfl rfl rfl ?_
        refine dp_no rfl rfl rfl rfl rfl ?_
        refine dp_no rfl rfl rfl rfl rfl ?_
        refine dp_no rfl rfl rfl rfl rfl ?_
        refine dp_no rfl rfl rfl rfl rfl ?_
        refine dp_no rfl rfl rfl rfl rfl ?_
        refine dp_no rfl rfl rfl rfl rfl ?_
        refine dp_val rfl (apure_val (a_pick rfl rfl rfl pure_done)) rfl ?_
        change AOps _ _ _ _ _ _ _
        refine aops_nil ?_
        refine thenE_n ?_
        refine awp_cond (b := false) rfl (fun h => Bool.noConfusion h) (fun _ => ?_)
        refine awp_skip ?_
        refine thenE_n ?_
        refine awp_region ?_
        refine aops_v rfl rfl rfl (a_move rfl rfl ?_)
        first | refine aops_v rfl rfl rfl (a_indexAddr_array rfl ak222 rfl rfl NT (by omega) (by omega) ?_) | refine aops_v rfl rfl rfl (a_indexAddr_array_pin rfl ak222 rfl rfl NT (by omega) (by omega) ?_)
        first | refine aops_v rfl rfl rfl (a_load_pin rfl tk21 rfl rfl ?_) | refine aops_v rfl rfl rfl (a_load rfl tk21 rfl HP rfl ?_)
        first | refine aops_v rfl rfl rfl (a_indexAddr_array rfl ak222 rfl rfl NT (by omega) (by omega) ?_) | refine aops_v rfl rfl rfl (a_indexAddr_array_pin rfl ak222 rfl rfl NT (by omega) (by omega) ?_)
        first | refine aops_v rfl rfl rfl (a_load_pin rfl tk21 rfl rfl ?_) | refine aops_v rfl rfl rfl (a_load rfl tk21 rfl HP rfl ?_)
        refine aops_v rfl rfl rfl (a_buildSlice (res := [_, _]) rfl sk59 rfl rfl rfl ?_)
        refine aops_v rfl rfl rfl (a_append_sl rfl sk59 rfl (by simp) rfl (.lst rfl) rfl (by omega) (by simp only [maxLen]; omega) hid2 ?_)
        intro id69 ver69 hid69
        rw [show (flatP out).map rI ++ [rI x.1.1, rI x.1.2] = (flatP (mergeStep out x.1)).map rI by rw [hms, flatP_snoc]; simp, show (flatP out).length + 2 = (flatP (mergeStep out x.1)).length by rw [hms, flatP_snoc]; simp]
        refine aops_v rfl rfl rfl (a_assign rfl rfl ?_)
        refine aops_nil ?_
        refine blockE_n ?_
        refine thenE_n ?_
        refine awp_region ?_
        first | refine aops_v rfl rfl rfl (a_add rfl rfl rfl (by simp only [Go.AL.lo, Go.AL.hi]; omega) ?_) | refine aops_v rfl rfl rfl (a_int rfl rfl rfl rfl ?_)
        refine aops_v rfl rfl rfl (a_move rfl rfl ?_)
        refine aops_nil ?_
        refine thenE_n ?_
        exact .done ⟨(j + 1, mergeStep out x.1, id69, ver69), ⟨by dsimp only; omega, by rw [← hout, hdrop, List.foldl_cons], pi_step hpo hxi, by have := mergeStep_len out x.1; dsimp only; omega, hid69⟩, by dsimp only; omega, EL, rfl⟩
    · try simp only [zz1, zz2, ne_eq, zz4, zz5, zz6, gt_iff_lt, ge_iff_le, zz9, zz0] at h2
      refine awp_exit ?_
      refine thenE_x ?_
      refine thenE_x ?_
      refine blockE_x ?_
      refine thenE_n ?_
      refine awp_seq ?_
      refine awp_region ?_
      refine aops_v rfl rfl rfl (a_move rfl rfl ?_)
      refine aops_v rfl rfl rfl (a_assign rfl rfl ?_)
      refine aops_nil ?_
      refine thenE_n ?_
      refine awp_ret ?_
      change Gst _ _ _ _
      refine gst_sl 2 rfl (by simp) hid2 ?_
      refine fin1 rfl ?_
      obtain rfl : j = l'.length := by omega
      exact ⟨by rw [← hJ2, ← hout, List.drop_of_length_le (by simp)]; rfl, rfl⟩

end Go.Proofs.YtnahdpjbddfhgaaGreatDoor
