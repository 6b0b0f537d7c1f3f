/- PROVED: garnerlaw24.QueryLimits answers true for every two bytes (the second form: together of bulk at most 1,048,576, which two bytes always are), and both arguments read afterwards as they read before. CONDITIONS: the row's own: that bound, and the two listed tables of unicode/utf8 hold what the program's text lays (the card ties them, the tie is given). -/
import Derived.Test.YtnahdpjbddfhgaaGreatDoorL09
import Derived.Test.YtnahdpjbddfhgaaGreatDoorRows
import Derived.Test.YtnahdpjbddfhgaaGreatDoorCards
import Derived.Test.YtnahdpjbddfhgaaGreatDoorTie
import Derived.Deep.DeepHandedRow
import Derived.Lib.LaidU8T
import Derived.Shelf.Vars
import Derived.WalkKit
import Derived.ProofKit
import Derived.Laws.StructEq
set_option linter.unusedVariables false
set_option linter.unusedSimpArgs false
namespace Go.Proofs.YtnahdpjbddfhgaaGreatDoor
set_option maxRecDepth 100000
open Go Go.AL Go.ChangeShapes Go.WideShapes Go.ChangeAt Go.RowKit Go.Lib

/-! ### the seat's bulk, types and tables -/
theorem bulkAll_sum {H : Type} : ∀ l : List (DataW H), Rows.uptoBulkAll l = (l.map Rows.uptoBulk).sum
  | [] => by simp [Rows.uptoBulkAll]
  | d :: r => by simp only [Rows.uptoBulkAll, List.map_cons, List.sum_cons, bulkAll_sum r]
theorem bulkOk {H : Type} : BulkOk (H := H) Rows.uptoBulk where
  str b := by simp [Rows.uptoBulk]
  lit l := by cases l <;> simp [Rows.uptoBulk]
  nil := by simp [Rows.uptoBulk]
  sl a b := by simp only [Rows.uptoBulk, bulkAll_sum]; omega
  ag a := by simp only [Rows.uptoBulk, bulkAll_sum]; exact Nat.le_refl _

section
variable {H : Type} {enc : TypeId × Value → H} {W : World} {hg : GoodW W.heap.size W}
abbrev D (enc : TypeId × Value → H) (W : World) (hg : GoodW W.heap.size W) (t : TypeId) {α : Type} (en : α → List AV) (sz : α → Nat) : Prop := Dec enc Tryz.prog W hg Rows.uptoBulk t en sz
theorem d9 : D enc W hg 9 (fun s : List UInt8 => [str s]) (fun s => s.length + 1) := dec_str bulkOk Tryz.underlying9
theorem d3 : D enc W hg 3 (fun n : Int => [.v (.int .i64 n)]) (fun _ => 1) := dec_int bulkOk Tryz.underlying3
theorem d48 : D enc W hg 48 encM (fun m => m.name.length + m.val.length + 3) := by
  refine Dec.map (dec_st bulkOk (k := 3) Tryz.underlying48 (by kernel_rfl) (fun _ => rfl) (decF_cons (k := 1) d9 rfl (by kernel_rfl) (fun _ => rfl) (decF_cons (k := 1) d3 rfl (by kernel_rfl) (fun _ => rfl) (decF_cons (k := 1) d9 rfl (by kernel_rfl) (fun _ => rfl) decF_nil)))) (fun p => ⟨p.1, p.2.1, p.2.2.1⟩) (fun _ => rfl) (fun p => by dsimp only; omega)
theorem d50 : D enc W hg 50 encF (fun m => m.txt.length + 2) := by
  refine Dec.map (dec_st bulkOk (k := 2) Tryz.underlying50 (by kernel_rfl) (fun _ => rfl) (decF_cons (k := 1) d3 rfl (by kernel_rfl) (fun _ => rfl) (decF_cons (k := 1) d9 rfl (by kernel_rfl) (fun _ => rfl) decF_nil))) (fun p => ⟨p.1, p.2.1⟩) (fun _ => rfl) (fun p => by dsimp only; omega)
theorem d23 : D enc W hg 23 (fun l : List Mt => [.lst (l.flatMap encM) l.length false]) (fun l => (l.map fun m => m.name.length + m.val.length + 3).sum + 1) := dec_sl bulkOk Tryz.underlying23 (by kernel_rfl) (by decide) encM_len d48
theorem d24 : D enc W hg 24 (fun l : List Fl => [.lst (l.flatMap encF) l.length false]) (fun l => (l.map fun m => m.txt.length + 2).sum + 1) := dec_sl bulkOk Tryz.underlying24 (by kernel_rfl) (by decide) encF_len d50
def szQ (q : Qr) : Nat := (q.ms.map fun m => m.name.length + m.val.length + 3).sum + (q.fs.map fun m => m.txt.length + 2).sum
theorem d26 : D enc W hg 26 (fun q : Qr => encQ q false false) szQ := by
  refine Dec.map (dec_st bulkOk (k := 2) Tryz.underlying26 (by kernel_rfl) (fun _ => rfl) (decF_cons (k := 1) d23 rfl (by kernel_rfl) (fun _ => rfl) (decF_cons (k := 1) d24 rfl (by kernel_rfl) (fun _ => rfl) decF_nil))) (fun p => ⟨p.1, p.2.1⟩) (fun _ => rfl) (fun p => by unfold szQ; dsimp only; omega)
theorem d54 : D enc W hg 54 encL (fun l => l.name.length + l.val.length + 2) := by
  refine Dec.map (dec_st bulkOk (k := 2) Tryz.underlying54 (by kernel_rfl) (fun _ => rfl) (decF_cons (k := 1) d9 rfl (by kernel_rfl) (fun _ => rfl) (decF_cons (k := 1) d9 rfl (by kernel_rfl) (fun _ => rfl) decF_nil))) (fun p => ⟨p.1, p.2.1⟩) (fun _ => rfl) (fun p => by dsimp only; omega)
theorem d42 : D enc W hg 42 (fun l : List Lb => [.lst (l.flatMap encL) l.length false]) (fun l => (l.map fun m => m.name.length + m.val.length + 2).sum + 1) := dec_sl bulkOk Tryz.underlying42 (by kernel_rfl) (by decide) encL_len d54
theorem d2 : D enc W hg 2 (fun n : Int => [.v (.int .i64 n)]) (fun _ => 1) := dec_int bulkOk Tryz.underlying2
theorem d41 : D enc W hg 41 (fun n : Int => [.v (.int .u64 n)]) (fun _ => 1) := dec_int bulkOk Tryz.underlying41
def szR (r : Rc) : Nat := (r.labels.map fun m => m.name.length + m.val.length + 2).sum + r.line.length
theorem d44 : D enc W hg 44 (fun r : Rc => encR r false) szR := by
  refine Dec.map (dec_st bulkOk (k := 4) Tryz.underlying44 (by kernel_rfl) (fun _ => rfl) (decF_cons (k := 1) d2 rfl (by kernel_rfl) (fun _ => rfl) (decF_cons (k := 1) d41 rfl (by kernel_rfl) (fun _ => rfl)
    (decF_cons (k := 1) d42 rfl (by kernel_rfl) (fun _ => rfl) (decF_cons (k := 1) d9 rfl (by kernel_rfl) (fun _ => rfl) decF_nil))))) (fun p => ⟨p.1, p.2.1, p.2.2.1, p.2.2.2.1⟩) (fun _ => rfl) (fun p => by unfold szR; dsimp only; omega)
end
theorem sum_mem {α : Type} (f : α → Nat) : ∀ (l : List α) (x : α), x ∈ l → f x ≤ (l.map f).sum
  | y :: l, x, h => by
    simp only [List.map_cons, List.sum_cons]
    rcases List.mem_cons.1 h with rfl | h
    · omega
    · have := sum_mem f l x h; omega
theorem sum_len {α : Type} (f : α → Nat) (k : Nat) (hf : ∀ x, k ≤ f x) : ∀ l : List α, k * l.length ≤ (l.map f).sum
  | [] => by simp
  | y :: l => by
    have h1 := sum_len f k hf l; have h2 := hf y
    simp only [List.map_cons, List.sum_cons, List.length_cons, Nat.mul_succ]; omega
theorem qr_of {q : Qr} (h : szQ q ≤ 1048576) : QrOk q ∧ ∀ m ∈ q.ms, m.name.length ≤ 10000000 := by
  unfold szQ at h
  have h1 := sum_len (fun m : Mt => m.name.length + m.val.length + 3) 3 (fun _ => by omega) q.ms
  have h2 := sum_len (fun m : Fl => m.txt.length + 2) 2 (fun _ => by omega) q.fs
  refine ⟨⟨by omega, by omega, fun m hm => ?_, fun m hm => ?_⟩, fun m hm => ?_⟩
  · have := sum_mem (fun m : Mt => m.name.length + m.val.length + 3) q.ms m hm; omega
  · have := sum_mem (fun m : Fl => m.txt.length + 2) q.fs m hm; omega
  · have := sum_mem (fun m : Mt => m.name.length + m.val.length + 3) q.ms m hm; omega
theorem rc_of {r : Rc} (h : szR r ≤ 1048576) : RcOk r := by
  unfold szR at h
  have h1 := sum_len (fun m : Lb => m.name.length + m.val.length + 2) 2 (fun _ => by omega) r.labels
  refine ⟨by omega, fun m hm => ?_, by omega⟩
  have := sum_mem (fun m : Lb => m.name.length + m.val.length + 2) r.labels m hm; omega

/-! ### the tables -/
theorem own : ownKnob Tryz.prog.godebug = none := by kernel_rfl
abbrev laidL : List (String × DataW Unit) := [("unicode/utf8.acceptRanges", Rows.laid_unicode_utf8_acceptRanges), ("unicode/utf8.first", Rows.laid_unicode_utf8_first)]
theorem first_eq : Rows.laid_unicode_utf8_first = Lib.firstData := by kernel_rfl
theorem accept_eq : (Rows.laid_unicode_utf8_acceptRanges : DataW Unit) = Lib.acceptData := by kernel_rfl
theorem good_of {W : World} (hL : laidMetH Tryz.prog laidL W) (hsh : W.ShapedOpen Tryz.prog) : GoodW W.heap.size W := by
  have hm : ∃ m, W.cell? ⟨2, 0, none⟩ = some (.int .i64 m) := cell_of_shapedOpen_int (g := 2) (t := 3) (zero := #[.int .i64 0]) hsh (by decide +kernel) (by kernel_rfl) rfl (by kernel_rfl) (by kernel_rfl) Tryz.underlying3
  have hT : Lib.Utf8Tabs 0 1 W := utf8Tabs_of_readsT (ρ := Tryz.lays196_ren) (U8Types.of196 Tryz.lays196) ⟨by kernel_rfl, by kernel_rfl, by kernel_rfl, by kernel_rfl, by kernel_rfl, by kernel_rfl, by kernel_rfl⟩
    (first_eq ▸ Lib.laidMet.reads hL (.tail _ (.head _))) (accept_eq ▸ Lib.laidMet.reads hL (.head _))
  refine ⟨?_, hm, hT⟩
  obtain ⟨m, hm⟩ := hm
  unfold World.cell? at hm
  split at hm
  · rename_i hh; exact (Array.getElem?_eq_some_iff.1 hh).1
  · exact absurd hm (by simp)

/-- a world for the witness -/
noncomputable def laidWorld (os : Os) : World :=
  let put (h : Array Obj) (g : Nat) (cs : Array Value) : Array Obj := h.modify g fun
    | .cells _ t frozen => .cells cs t frozen
    | o => o
  let w0 := World.holding Tryz.prog os ⟨#[], #[], []⟩
  { w0 with heap := put (put w0.heap 0 (Lib.firstTab.map fun z => Value.int .u8 z).toArray) 1 ((List.range 16).flatMap fun i => [Value.int .u8 (Lib.accLo i), Value.int .u8 (Lib.accHi i)]).toArray }
theorem laid_met (os : Os) (args : Array Value) : laidMet Tryz.prog laidL ((laidWorld os).forCall (fun _ _ => 0) ⟨#[], args, []⟩).memory :=
  laidMet_of_run' 8 (by kernel_rfl) (by kernel_rfl)

/-- what a contract that ends in 'true' says of a call -/
theorem law_calls {H : Type} {enc : TypeId × Value → H} {fid : FuncId} {f : Func} {s : ChangeSpec} {apart fresh handsOn again : Bool} {W : World} {args : Array Value} {ds gs : List (DataW H)} {before : List MemPlace} (hg : GoodW W.heap.size W) {avs : List AV}
    (hspec : ASpec Tryz.prog fid avs (fun _ => none) fun r _ => r = .ret (boo true)) (hrel : VRels (G0 W hg) args avs)
    (hW : DataW.Whole enc Tryz.prog f.params.toList s.vars apart W args.toList ds gs before) (hvs : s.vars = []) (hfn : s.fn H (ds ++ gs) = { results := [.lit (.bool true)], args := ds }) (hrt : f.resultTypes = #[4])
    (hre : ∀ (W' : World) (sp : Nat → Bool), Below W.heap.size W W' → (∀ b, b < W.heap.size → sp b = true) → DataW.TrodAll enc Tryz.prog W' 0 sp true f.params.toList args.toList ds before) :
    Calls Tryz.prog fid args W fun e W' => ∃ v, e = .returned v ∧ s.post enc Tryz.prog f apart fresh handsOn again W args v W' := by
  refine (hspec (G0 W hg) W args (G0_st W hg) hrel).mono fun e W' ⟨G', σ', r, h1, h2, h3, h4⟩ => ?_
  subst h4
  cases e with
  | returned x =>
    have hx : x = .bool true := (show VRel G' x (.v (.bool true)) from h3).v_eq
    subst hx
    have hb : Below W.heap.size W W' := by have := h2.old; rw [h1.w0, h1.B] at this; exact this
    exact ⟨_, rfl, law_post hW hvs hfn hrt Tryz.underlying4 hb (fun sp hsp => hre W' sp hb hsp)⟩
  | _ => exact h3.elim

end Go.Proofs.YtnahdpjbddfhgaaGreatDoor
namespace Go.Proofs.YtnahdpjbddfhgaaGreatDoor
open Go Go.AL Go.RowKit
set_option maxRecDepth 100000
theorem VRel.agg_v {G : Ghost} {x : Value} {l : List Value} (h : VRel G x (.agg (l.map .v))) : x = .agg l.toArray := by
  cases h with
  | agg hl hc =>
    rename_i cs
    congr 1
    apply Array.ext
    · simpa using hl
    · intro i h1 h2
      have h3 : i < l.length := by simpa using h2
      have := hc i (.v l[i]) (by simp [h3])
      have e := this.v_eq
      rw [Array.getD_eq_getD_getElem?, Array.getElem?_eq_getElem h1] at e
      simpa using e
theorem a_eq_agg {P : Program} {o : Oper} {env : Env} {σ : AHeap} {K : AV → AHeap → Prop} {op : BinOp} {T U : TypeId} {x y : Operand} {xs ys : List Value} {b : Bool} (ho : o.op = .binOp op T x y U) (hop : isEqOp op = true)
    (hx : opnd env x = some (.agg (xs.map .v))) (hy : opnd env y = some (.agg (ys.map .v))) (hg : P.eqGuardType P.depth T = false) (hr : ∀ w, (Op.equalIn 10000 T (.agg xs.toArray) (.agg ys.toArray)).run P w = .ok b w)
    (h : K (eqR op b) σ) : AVal P o env σ K := by
  refine a_pure (fun G w ρ hρ => ?_) h
  have hxv := VRel.agg_v (hρ x _ hx)
  have hyv := VRel.agg_v (hρ y _ hy)
  have hgd : (eqGuard op T x y (.agg xs.toArray) (.agg ys.toArray)).run P w = .ok () w := by cases op <;> simp [eqGuard, hg]
  cases op with
  | eql => exact ⟨_, by simp [execOp, ho, hxv, hyv, hgd, run_eql_struct, hr], .v _⟩
  | neq => exact ⟨_, by simp [execOp, ho, hxv, hyv, hgd, run_neq_struct, hr], .v _⟩
  | _ => simp [isEqOp] at hop
theorem eq48 (x y : Mt) (w : World) : (Op.equalIn 10000 48 (.agg #[.string ⟨x.name.toArray⟩, .int .i64 x.op, .string ⟨x.val.toArray⟩]) (.agg #[.string ⟨y.name.toArray⟩, .int .i64 y.op, .string ⟨y.val.toArray⟩])).run Tryz.prog w = .ok (decide (x.name = y.name) && decide (x.op = y.op) && decide (x.val = y.val)) w := by
  have u3 := Tryz.underlying3
  have u9 := Tryz.underlying9
  have a3 := Tryz.isAgg3
  have z3 := Tryz.sizeOf3
  have a9 := Tryz.isAgg9
  have z9 := Tryz.sizeOf9
  have hS : Tryz.prog.underlying 48 = some (.struct (Tryz.prog.fieldsOf 48)) := by kernel_rfl
  have hp : Tryz.prog.stoodInHeld 48 = false := by kernel_rfl
  rw [show (10000 : Nat) = 9999 + 1 from rfl, run_equalIn_agg w 9999 48 _ _ hS hp]
  simp only [Program.fieldsOf, Tryz.underlying48]
  go_simp
  by_cases h1 : x.name = y.name <;> by_cases h2 : x.op = y.op <;> by_cases h3 : x.val = y.val <;> simp [h1, h2, h3]
theorem eq50 (x y : Fl) (w : World) : (Op.equalIn 10000 50 (.agg #[.int .i64 x.op, .string ⟨x.txt.toArray⟩]) (.agg #[.int .i64 y.op, .string ⟨y.txt.toArray⟩])).run Tryz.prog w = .ok (decide (x.op = y.op) && decide (x.txt = y.txt)) w := by
  have u3 := Tryz.underlying3
  have u9 := Tryz.underlying9
  have a3 := Tryz.isAgg3
  have z3 := Tryz.sizeOf3
  have a9 := Tryz.isAgg9
  have z9 := Tryz.sizeOf9
  have hS : Tryz.prog.underlying 50 = some (.struct (Tryz.prog.fieldsOf 50)) := by kernel_rfl
  have hp : Tryz.prog.stoodInHeld 50 = false := by kernel_rfl
  rw [show (10000 : Nat) = 9999 + 1 from rfl, run_equalIn_agg w 9999 50 _ _ hS hp]
  simp only [Program.fieldsOf, Tryz.underlying50]
  go_simp
  by_cases h2 : x.op = y.op <;> by_cases h3 : x.txt = y.txt <;> simp [h2, h3]
instance instDecMt : DecidableEq Mt := fun a b => decidable_of_iff (a.name = b.name ∧ a.op = b.op ∧ a.val = b.val) (by cases a; cases b; simp)
instance instDecFl : DecidableEq Fl := fun a b => decidable_of_iff (a.op = b.op ∧ a.txt = b.txt) (by cases a; cases b; simp)
theorem mt_dec (x y : Mt) : (decide (x.name = y.name) && decide (x.op = y.op) && decide (x.val = y.val)) = decide (x = y) := by
  cases x; cases y; simp [Bool.and_assoc]
theorem fl_dec (x y : Fl) : (decide (x.op = y.op) && decide (x.txt = y.txt)) = decide (x = y) := by
  cases x; cases y; simp
theorem g48 : Tryz.prog.eqGuardType Tryz.prog.depth 48 = false := by kernel_rfl
theorem g50 : Tryz.prog.eqGuardType Tryz.prog.depth 50 = false := by kernel_rfl
theorem a_neq48 {o : Oper} {env : Env} {σ : AHeap} {K : AV → AHeap → Prop} {U : TypeId} {x y : Operand} {a b : Mt} (ho : o.op = .binOp .neq 48 x y U) (hx : opnd env x = some (.agg (encM a))) (hy : opnd env y = some (.agg (encM b)))
    (h : K (.v (.bool (!decide (a = b)))) σ) : AVal Tryz.prog o env σ K :=
  a_eq_agg (xs := [.string ⟨a.name.toArray⟩, .int .i64 a.op, .string ⟨a.val.toArray⟩]) (ys := [.string ⟨b.name.toArray⟩, .int .i64 b.op, .string ⟨b.val.toArray⟩]) ho rfl hx hy g48 (fun w => by rw [← mt_dec]; exact eq48 a b w) h
theorem a_neq50 {o : Oper} {env : Env} {σ : AHeap} {K : AV → AHeap → Prop} {U : TypeId} {x y : Operand} {a b : Fl} (ho : o.op = .binOp .neq 50 x y U) (hx : opnd env x = some (.agg (encF a))) (hy : opnd env y = some (.agg (encF b)))
    (h : K (.v (.bool (!decide (a = b)))) σ) : AVal Tryz.prog o env σ K :=
  a_eq_agg (xs := [.int .i64 a.op, .string ⟨a.txt.toArray⟩]) (ys := [.int .i64 b.op, .string ⟨b.txt.toArray⟩]) ho rfl hx hy g50 (fun w => by rw [← fl_dec]; exact eq50 a b w) h
end Go.Proofs.YtnahdpjbddfhgaaGreatDoor
set_option linter.unusedVariables false
set_option linter.unusedSimpArgs false
namespace Go.Proofs.YtnahdpjbddfhgaaGreatDoor
open Go Go.AL
set_option maxRecDepth 100000
/-- ref.Same -/
def sameP (a b : Qr) : Bool := decide (a.ms = b.ms) && decide (a.fs = b.fs)
theorem take_ext {α : Type} {l m : List α} {j : Nat} {x y : α} (h : l.take j = m.take j) (hx : l[j]? = some x) (hy : m[j]? = some y) (e : x = y) : l.take (j + 1) = m.take (j + 1) := by rw [take_succ' hx, take_succ' hy, h, e]
theorem take_all {α : Type} {l m : List α} (hl : l.length = m.length) (h : l.take l.length = m.take l.length) : l = m := by
  rw [List.take_length] at h; rw [h, hl, List.take_length]

theorem same_spec (a b : Qr) (ea ea' eb eb' : Bool) (σ : AHeap) (ha : a.ms.length ≤ 1000000) (ha2 : a.fs.length ≤ 1000000) : ASpec Tryz.prog 11 [.agg (encQ a ea ea'), .agg (encQ b eb eb')] σ fun r σ' => r = .ret (boo (sameP a b)) ∧ σ' = σ := by
  unfold encQ
  refine aspec_enter (N := 59) (rs := [.tmp 4]) Tryz.func11 rfl rfl rfl rfl rfl rfl ?_
  refine awp_seq ?_
  refine awp_region ?_
  refine aops_v rfl rfl rfl (a_box_frz rfl rfl rfl ?_)
  refine aops_v rfl rfl rfl (a_box_frz rfl rfl rfl ?_)
  refine aops_v rfl rfl rfl (a_assign rfl rfl ?_)
  refine aops_nil ?_
  refine thenE_n ?_
  refine awp_seq ?_
  refine awp_seq ?_
  refine awp_region ?_
  first | refine aops_v rfl rfl rfl (a_fieldAddr rfl fk26_0 rfl rfl ?_) | refine aops_v rfl rfl rfl (a_fieldAddr_pin rfl fk26_0 rfl rfl ?_)
  first | refine aops_v rfl rfl rfl (a_load_pin rfl tk23 rfl rfl ?_) | refine aops_v rfl rfl rfl (a_load rfl tk23 rfl HP rfl ?_)
  first | refine aops_v rfl rfl rfl (a_len_lst rfl isl23 rfl ?_) | refine aops_v rfl rfl rfl (a_len rfl isl23 rfl ?_) | refine aops_v rfl rfl rfl (a_len_slg rfl isl23 rfl ?_) | refine aops_v rfl rfl rfl (a_len_nil rfl isl23 rfl ?_)
  first | refine aops_v rfl rfl rfl (a_fieldAddr rfl fk26_0 rfl rfl ?_) | refine aops_v rfl rfl rfl (a_fieldAddr_pin rfl fk26_0 rfl rfl ?_)
  first | refine aops_v rfl rfl rfl (a_load_pin rfl tk23 rfl rfl ?_) | refine aops_v rfl rfl rfl (a_load rfl tk23 rfl HP rfl ?_)
  first | refine aops_v rfl rfl rfl (a_len_lst rfl isl23 rfl ?_) | refine aops_v rfl rfl rfl (a_len rfl isl23 rfl ?_) | refine aops_v rfl rfl rfl (a_len_slg rfl isl23 rfl ?_) | refine aops_v rfl rfl rfl (a_len_nil rfl isl23 rfl ?_)
  refine aops_v rfl rfl rfl (a_int rfl rfl rfl rfl ?_)
  refine aops_v rfl rfl rfl (a_move rfl rfl ?_)
  refine aops_bool (fun h1 => ?_) (fun h1 => ?_)
  · try simp only [zz1, zz2, ne_eq, zz4, zz5, zz6, gt_iff_lt, ge_iff_le, zz9, zz0] at h1
    have hne : ¬ a.ms.length = b.ms.length := by have := h1; omega
    have hno : sameP a b = false := by simp [sameP]; intro e; rw [e] at hne; exact absurd rfl hne
    refine aops_no rfl rfl rfl rfl rfl rfl ?_
    refine aops_no rfl rfl rfl rfl rfl rfl ?_
    refine aops_no rfl rfl rfl rfl rfl rfl ?_
    refine aops_no rfl rfl rfl rfl rfl rfl ?_
    refine aops_no rfl rfl rfl rfl rfl rfl ?_
    refine aops_no rfl rfl rfl rfl rfl rfl ?_
    refine aops_no rfl rfl rfl rfl rfl rfl ?_
    refine aops_v rfl rfl rfl (a_pick rfl rfl rfl ?_)
    refine aops_nil ?_
    refine thenE_n ?_
    refine awp_cond (b := true) rfl (fun _ => ?_) (fun h => Bool.noConfusion h)
    refine awp_seq ?_
    refine awp_region ?_
    refine aops_v rfl rfl rfl (a_assign rfl rfl ?_)
    refine aops_nil ?_
    refine thenE_n ?_
    refine awp_ret ?_
    change Gst _ _ _ _
    refine fin1 rfl ?_
    exact ⟨by rw [hno], rfl⟩
  · try simp only [zz1, zz2, ne_eq, zz4, zz5, zz6, gt_iff_lt, ge_iff_le, zz9, zz0] at h1
    have hel : a.ms.length = b.ms.length := by have := h1; omega
    refine aops_yes rfl rfl rfl rfl ?_
    first | refine aops_v rfl rfl rfl (a_fieldAddr rfl fk26_1 rfl rfl ?_) | refine aops_v rfl rfl rfl (a_fieldAddr_pin rfl fk26_1 rfl rfl ?_)
    refine aops_yes rfl rfl rfl rfl ?_
    first | refine aops_v rfl rfl rfl (a_load_pin rfl tk24 rfl rfl ?_) | refine aops_v rfl rfl rfl (a_load rfl tk24 rfl HP rfl ?_)
    refine aops_yes rfl rfl rfl rfl ?_
    first | refine aops_v rfl rfl rfl (a_len_lst rfl isl24 rfl ?_) | refine aops_v rfl rfl rfl (a_len rfl isl24 rfl ?_) | refine aops_v rfl rfl rfl (a_len_slg rfl isl24 rfl ?_) | refine aops_v rfl rfl rfl (a_len_nil rfl isl24 rfl ?_)
    refine aops_yes rfl rfl rfl rfl ?_
    first | refine aops_v rfl rfl rfl (a_fieldAddr rfl fk26_1 rfl rfl ?_) | refine aops_v rfl rfl rfl (a_fieldAddr_pin rfl fk26_1 rfl rfl ?_)
    refine aops_yes rfl rfl rfl rfl ?_
    first | refine aops_v rfl rfl rfl (a_load_pin rfl tk24 rfl rfl ?_) | refine aops_v rfl rfl rfl (a_load rfl tk24 rfl HP rfl ?_)
    refine aops_yes rfl rfl rfl rfl ?_
    first | refine aops_v rfl rfl rfl (a_len_lst rfl isl24 rfl ?_) | refine aops_v rfl rfl rfl (a_len rfl isl24 rfl ?_) | refine aops_v rfl rfl rfl (a_len_slg rfl isl24 rfl ?_) | refine aops_v rfl rfl rfl (a_len_nil rfl isl24 rfl ?_)
    refine aops_yes rfl rfl rfl rfl ?_
    refine aops_v rfl rfl rfl (a_int rfl rfl rfl rfl ?_)
    refine aops_v rfl rfl rfl (a_pick rfl rfl rfl ?_)
    refine aops_nil ?_
    refine thenE_n ?_
    refine awp_cond rfl (fun h2 => ?_) (fun h2 => ?_)
    · try simp only [zz1, zz2, ne_eq, zz4, zz5, zz6, gt_iff_lt, ge_iff_le, zz9, zz0] at h2
      try (have hno : sameP a b = false := by have := h2; simp [sameP]; intro _ e; rw [e] at this; exact absurd rfl this)
      refine awp_seq ?_
      refine awp_region ?_
      refine aops_v rfl rfl rfl (a_assign rfl rfl ?_)
      refine aops_nil ?_
      refine thenE_n ?_
      refine awp_ret ?_
      change Gst _ _ _ _
      refine fin1 rfl ?_
      exact ⟨by rw [hno], rfl⟩
    · try simp only [zz1, zz2, ne_eq, zz4, zz5, zz6, gt_iff_lt, ge_iff_le, zz9, zz0] at h2
      have hel2 : a.fs.length = b.fs.length := by have := h2; omega
      refine awp_skip ?_
      refine thenE_n ?_
      refine awp_seq ?_
      refine awp_seq ?_
      refine awp_region ?_
      refine aops_v rfl rfl rfl (a_assign rfl rfl ?_)
      refine aops_nil ?_
      refine thenE_n ?_
      refine awp_block ?_
      refine awp_loop (S := Nat) (fun j => [(2, .pin (encQ a ea ea') 0), (3, .pin (encQ b eb eb') 0), (5, int j)]) (fun _ => σ) (fun j => j ≤ a.ms.length ∧ a.ms.take j = b.ms.take j) (fun j => a.ms.length - j) ⟨0, ⟨by simp, by simp⟩, EL, rfl⟩ ?_
      rintro j ⟨hj, hJ⟩
      refine awp_seq ?_
      refine awp_seq ?_
      refine awp_region ?_
      refine aops_v rfl rfl rfl (a_move rfl rfl ?_)
      first | refine aops_v rfl rfl rfl (a_fieldAddr rfl fk26_0 rfl rfl ?_) | refine aops_v rfl rfl rfl (a_fieldAddr_pin rfl fk26_0 rfl rfl ?_)
      first | refine aops_v rfl rfl rfl (a_load_pin rfl tk23 rfl rfl ?_) | refine aops_v rfl rfl rfl (a_load rfl tk23 rfl HP rfl ?_)
      first | refine aops_v rfl rfl rfl (a_len_lst rfl isl23 rfl ?_) | refine aops_v rfl rfl rfl (a_len rfl isl23 rfl ?_) | refine aops_v rfl rfl rfl (a_len_slg rfl isl23 rfl ?_) | refine aops_v rfl rfl rfl (a_len_nil rfl isl23 rfl ?_)
      refine aops_v rfl rfl rfl (a_int rfl rfl rfl rfl ?_)
      refine aops_nil ?_
      refine thenE_n ?_
      refine awp_cond rfl (fun h3 => ?_) (fun h3 => ?_)
      · try simp only [zz1, zz2, ne_eq, zz4, zz5, zz6, gt_iff_lt, ge_iff_le, zz9, zz0] at h3
        obtain ⟨x, hx⟩ : ∃ k, a.ms[j]? = some k := ⟨_, List.getElem?_eq_getElem (by omega)⟩
        obtain ⟨y, hy⟩ : ∃ k, b.ms[j]? = some k := ⟨_, List.getElem?_eq_getElem (by omega)⟩
        refine awp_skip ?_
        refine thenE_n ?_
        refine awp_seq ?_
        refine awp_block ?_
        refine awp_seq ?_
        refine awp_draw [0, 1, 0, 7, 15, 0, 32, 0, 224, 480, 1023] 11 rfl (by decide +kernel) (by decide +kernel) (by decide +kernel) rfl ?_
        simp only [List.take_succ_cons, List.take_zero, List.take_nil, List.drop_succ_cons, List.drop_zero, List.drop_nil]
        first | refine dp_val rfl (apure_val (a_fieldAddr rfl fk26_0 rfl rfl pure_done)) rfl ?_ | refine dp_val rfl (apure_val (a_fieldAddr_pin rfl fk26_0 rfl rfl pure_done)) rfl ?_
        first | refine dp_val rfl (apure_val (a_load_pin rfl tk23 rfl rfl pure_done)) rfl ?_ | refine dp_val rfl (apure_val (a_load rfl tk23 rfl HP rfl pure_done)) rfl ?_
        refine dp_val rfl (apure_val (a_move rfl rfl pure_done)) rfl ?_
        first | refine dp_val rfl (apure_val (a_indexAddr_lst rfl ek23 rfl rfl NT (by omega) (by omega) pure_done)) rfl ?_ | refine dp_val rfl (apure_val (a_indexAddr rfl ek23 rfl rfl NT (by omega) (by omega) pure_done)) rfl ?_
        refine dp_val rfl (apure_val (a_load_pin rfl tk48 rfl (ldv_flat encM_len hx) pure_done)) rfl ?_
        first | refine dp_val rfl (apure_val (a_fieldAddr rfl fk26_0 rfl rfl pure_done)) rfl ?_ | refine dp_val rfl (apure_val (a_fieldAddr_pin rfl fk26_0 rfl rfl pure_done)) rfl ?_
        first | refine dp_val rfl (apure_val (a_load_pin rfl tk23 rfl rfl pure_done)) rfl ?_ | refine dp_val rfl (apure_val (a_load rfl tk23 rfl HP rfl pure_done)) rfl ?_
        refine dp_val rfl (apure_val (a_move rfl rfl pure_done)) rfl ?_
        first | refine dp_val rfl (apure_val (a_indexAddr_lst rfl ek23 rfl rfl NT (by omega) (by omega) pure_done)) rfl ?_ | refine dp_val rfl (apure_val (a_indexAddr rfl ek23 rfl rfl NT (by omega) (by omega) pure_done)) rfl ?_
        refine dp_val rfl (apure_val (a_load_pin rfl tk48 rfl (ldv_flat encM_len hy) pure_done)) rfl ?_
        refine dp_val rfl (apure_val (a_neq48 rfl rfl rfl pure_done)) rfl ?_
        change AOps _ _ _ _ _ _ _
        refine aops_nil ?_
        refine thenE_n ?_
        refine awp_cond rfl (fun h4 => ?_) (fun h4 => ?_)
        · try simp only [zz1, zz2, ne_eq, zz4, zz5, zz6, gt_iff_lt, ge_iff_le, zz9, zz0] at h4
          have hno : sameP a b = false := by have := h4; simp [sameP]; intro e; rw [e, hy] at hx; exact absurd (Option.some.inj hx).symm this
          refine awp_seq ?_
          refine awp_region ?_
          refine aops_v rfl rfl rfl (a_assign rfl rfl ?_)
          refine aops_nil ?_
          refine thenE_n ?_
          refine awp_ret ?_
          change Gst _ _ _ _
          refine fin1 rfl ?_
          exact ⟨by rw [hno], rfl⟩
        · try simp only [zz1, zz2, ne_eq, zz4, zz5, zz6, gt_iff_lt, ge_iff_le, zz9, zz0] at h4
          have heq : x = y := by simpa using h4
          refine awp_skip ?_
          refine blockE_n ?_
          refine thenE_n ?_
          refine awp_region ?_
          refine aops_v rfl rfl rfl (a_move rfl rfl ?_)
          first | refine aops_v rfl rfl rfl (a_add rfl rfl rfl (by simp only [Go.AL.lo, Go.AL.hi]; omega) ?_) | refine aops_v rfl rfl rfl (a_int rfl rfl rfl rfl ?_)
          refine aops_v rfl rfl rfl (a_assign rfl rfl ?_)
          refine aops_nil ?_
          refine thenE_n ?_
          exact .done ⟨j + 1, ⟨by omega, take_ext hJ hx hy heq⟩, by omega, EL, rfl⟩
      · try simp only [zz1, zz2, ne_eq, zz4, zz5, zz6, gt_iff_lt, ge_iff_le, zz9, zz0] at h3
        obtain rfl : j = a.ms.length := by omega
        have hms := take_all hel hJ
        refine awp_exit ?_
        refine thenE_x ?_
        refine thenE_x ?_
        refine blockE_x ?_
        refine thenE_n ?_
        refine awp_seq ?_
        refine awp_seq ?_
        refine awp_region ?_
        refine aops_v rfl rfl rfl (a_assign rfl rfl ?_)
        refine aops_nil ?_
        refine thenE_n ?_
        refine awp_block ?_
        refine awp_loop (S := Nat) (fun j => [(2, .pin (encQ a ea ea') 0), (3, .pin (encQ b eb eb') 0), (6, int j)]) (fun _ => σ) (fun j => j ≤ a.fs.length ∧ a.fs.take j = b.fs.take j) (fun j => a.fs.length - j) ⟨0, ⟨by simp, by simp⟩, EL, rfl⟩ ?_
        rintro j ⟨hj, hJ2⟩
        refine awp_seq ?_
        refine awp_seq ?_
        refine awp_region ?_
        refine aops_v rfl rfl rfl (a_move rfl rfl ?_)
        first | refine aops_v rfl rfl rfl (a_fieldAddr rfl fk26_1 rfl rfl ?_) | refine aops_v rfl rfl rfl (a_fieldAddr_pin rfl fk26_1 rfl rfl ?_)
        first | refine aops_v rfl rfl rfl (a_load_pin rfl tk24 rfl rfl ?_) | refine aops_v rfl rfl rfl (a_load rfl tk24 rfl HP rfl ?_)
        first | refine aops_v rfl rfl rfl (a_len_lst rfl isl24 rfl ?_) | refine aops_v rfl rfl rfl (a_len rfl isl24 rfl ?_) | refine aops_v rfl rfl rfl (a_len_slg rfl isl24 rfl ?_) | refine aops_v rfl rfl rfl (a_len_nil rfl isl24 rfl ?_)
        refine aops_v rfl rfl rfl (a_int rfl rfl rfl rfl ?_)
        refine aops_nil ?_
        refine thenE_n ?_
        refine awp_cond rfl (fun h5 => ?_) (fun h5 => ?_)
        · try simp only [zz1, zz2, ne_eq, zz4, zz5, zz6, gt_iff_lt, ge_iff_le, zz9, zz0] at h5
          obtain ⟨x, hx⟩ : ∃ k, a.fs[j]? = some k := ⟨_, List.getElem?_eq_getElem (by omega)⟩
          obtain ⟨y, hy⟩ : ∃ k, b.fs[j]? = some k := ⟨_, List.getElem?_eq_getElem (by omega)⟩
          refine awp_skip ?_
          refine thenE_n ?_
          refine awp_seq ?_
          refine awp_block ?_
          refine awp_seq ?_
          refine awp_draw [0, 1, 0, 7, 15, 0, 32, 0, 224, 480, 1023] 11 rfl (by decide +kernel) (by decide +kernel) (by decide +kernel) rfl ?_
          simp only [List.take_succ_cons, List.take_zero, List.take_nil, List.drop_succ_cons, List.drop_zero, List.drop_nil]
          first | refine dp_val rfl (apure_val (a_fieldAddr rfl fk26_1 rfl rfl pure_done)) rfl ?_ | refine dp_val rfl (apure_val (a_fieldAddr_pin rfl fk26_1 rfl rfl pure_done)) rfl ?_
          first | refine dp_val rfl (apure_val (a_load_pin rfl tk24 rfl rfl pure_done)) rfl ?_ | refine dp_val rfl (apure_val (a_load rfl tk24 rfl HP rfl pure_done)) rfl ?_
          refine dp_val rfl (apure_val (a_move rfl rfl pure_done)) rfl ?_
          first | refine dp_val rfl (apure_val (a_indexAddr_lst rfl ek24 rfl rfl NT (by omega) (by omega) pure_done)) rfl ?_ | refine dp_val rfl (apure_val (a_indexAddr rfl ek24 rfl rfl NT (by omega) (by omega) pure_done)) rfl ?_
          refine dp_val rfl (apure_val (a_load_pin rfl tk50 rfl (ldv_flat encF_len hx) pure_done)) rfl ?_
          first | refine dp_val rfl (apure_val (a_fieldAddr rfl fk26_1 rfl rfl pure_done)) rfl ?_ | refine dp_val rfl (apure_val (a_fieldAddr_pin rfl fk26_1 rfl rfl pure_done)) rfl ?_
          first | refine dp_val rfl (apure_val (a_load_pin rfl tk24 rfl rfl pure_done)) rfl ?_ | refine dp_val rfl (apure_val (a_load rfl tk24 rfl HP rfl pure_done)) rfl ?_
          refine dp_val rfl (apure_val (a_move rfl rfl pure_done)) rfl ?_
          first | refine dp_val rfl (apure_val (a_indexAddr_lst rfl ek24 rfl rfl NT (by omega) (by omega) pure_done)) rfl ?_ | refine dp_val rfl (apure_val (a_indexAddr rfl ek24 rfl rfl NT (by omega) (by omega) pure_done)) rfl ?_
          refine dp_val rfl (apure_val (a_load_pin rfl tk50 rfl (ldv_flat encF_len hy) pure_done)) rfl ?_
          refine dp_val rfl (apure_val (a_neq50 rfl rfl rfl pure_done)) rfl ?_
          change AOps _ _ _ _ _ _ _
          refine aops_nil ?_
          refine thenE_n ?_
          refine awp_cond rfl (fun h6 => ?_) (fun h6 => ?_)
          · try simp only [zz1, zz2, ne_eq, zz4, zz5, zz6, gt_iff_lt, ge_iff_le, zz9, zz0] at h6
            have hno : sameP a b = false := by have := h6; simp [sameP]; intro _ e; rw [e, hy] at hx; exact absurd (Option.some.inj hx).symm this
            refine awp_seq ?_
            refine awp_region ?_
            refine aops_v rfl rfl rfl (a_assign rfl rfl ?_)
            refine aops_nil ?_
            refine thenE_n ?_
            refine awp_ret ?_
            change Gst _ _ _ _
            refine fin1 rfl ?_
            exact ⟨by rw [hno], rfl⟩
          · try simp only [zz1, zz2, ne_eq, zz4, zz5, zz6, gt_iff_lt, ge_iff_le, zz9, zz0] at h6
            have heq : x = y := by simpa using h6
            refine awp_skip ?_
            refine blockE_n ?_
            refine thenE_n ?_
            refine awp_region ?_
            refine aops_v rfl rfl rfl (a_move rfl rfl ?_)
            first | refine aops_v rfl rfl rfl (a_add rfl rfl rfl (by simp only [Go.AL.lo, Go.AL.hi]; omega) ?_) | refine aops_v rfl rfl rfl (a_int rfl rfl rfl rfl ?_)
            refine aops_v rfl rfl rfl (a_assign rfl rfl ?_)
            refine aops_nil ?_
            refine thenE_n ?_
            exact .done ⟨j + 1, ⟨by omega, take_ext hJ2 hx hy heq⟩, by omega, EL, rfl⟩
        · try simp only [zz1, zz2, ne_eq, zz4, zz5, zz6, gt_iff_lt, ge_iff_le, zz9, zz0] at h5
          obtain rfl : j = a.fs.length := by omega
          have hfs := take_all hel2 hJ2
          refine awp_exit ?_
          refine thenE_x ?_
          refine thenE_x ?_
          refine blockE_x ?_
          refine thenE_n ?_
          refine awp_seq ?_
          refine awp_region ?_
          refine aops_v rfl rfl rfl (a_assign rfl rfl ?_)
          refine aops_nil ?_
          refine thenE_n ?_
          refine awp_ret ?_
          change Gst _ _ _ _
          refine fin1 rfl ?_
          exact ⟨by simp [sameP, hms, hfs], rfl⟩

end Go.Proofs.YtnahdpjbddfhgaaGreatDoor
set_option linter.unusedVariables false
set_option linter.unusedSimpArgs false
namespace Go.Proofs.YtnahdpjbddfhgaaGreatDoor
open Go Go.AL
set_option maxRecDepth 100000
/-- a contract's result, of which less is said -/
theorem aspec_wkr {P : Program} {f : FuncId} {args : List AV} {σ τ : AHeap} {a a' : AV} (hw : Wk a a') (h : ASpec P f args σ fun r σ' => r = .ret a ∧ σ' = τ) : ASpec P f args σ fun r σ' => r = .ret a' ∧ σ' = τ := by
  intro G w vs hst hv
  refine (h G w vs hst hv).mono fun e w' ⟨G', σ', r, h1, h2, h3, h4⟩ => ?_
  obtain ⟨rfl, rfl⟩ := h4
  refine ⟨G', _, .ret a', h1, h2, ?_, rfl, rfl⟩
  cases e with
  | returned x => exact hw G' x h3
  | _ => exact h3.elim
theorem parse_no1 {s : List UInt8} (h : ¬ (parseP s).2 = 0) : (parseP s).1 = ⟨[], []⟩ := by
  unfold parseP at h ⊢
  split
  · rfl
  rename_i h1
  rw [if_neg h1] at h
  split
  · rfl
  rename_i h2
  rw [if_neg h2] at h
  split
  · rfl
  rename_i h3
  rw [if_neg h3] at h
  split
  · rfl
  rename_i h4
  rw [if_neg h4] at h
  exact absurd rfl h
theorem parseA_wk (s : List UInt8) : Wk (parseA s) (.agg (encQ (parseP s).1 false false)) := by
  unfold parseA
  split
  · exact wk_refl
  · rename_i h
    rw [parse_no1 h]
    exact wk_agg (.cons wk_nil (.cons wk_nil .nil))
theorem parse_spec2 (s : List UInt8) (σ : AHeap) : ASpec Tryz.prog 9 [str s] σ fun r σ' => r = .ret (.tup [.agg (encQ (parseP s).1 false false), int (parseP s).2]) ∧ σ' = σ :=
  aspec_wkr (wk_tup (.cons (parseA_wk s) (.cons wk_refl .nil))) (parse_spec s σ)
/-- a list grown in an object is frozen with it -/
theorem l_pin {N : Nat} {Q : Env → AHeap → Prop} {env : Env} {σ : AHeap} {p n i v sz : Nat} {e ty : TypeId} {L X Y : List AV} (k : Nat) (hk : AL.look env k = some (.ref p 0 0)) (hl : L.length = n * sz) (hp : σ p = none) (hi : σ i = none) (hpi : p ≠ i)
    (hxy : Cellwise (FrzL sz L n i v) X Y) (g : Gst N Q ((k, .pin Y 0) :: env) σ) : Gst N Q env (slh (upd σ p (.cells 0 ty X)) e L n i v) := by
  refine gst_frzL (sz := sz) (n := n) (id := i) (ver := v) (e := e) (cs := L) hl ?_ [] (by simp) (upd σ p (.cells 0 ty Y)) ?_ (gst_pin1 hk hp g)
  · intro h0; rw [slh_pos h0]; exact upd_same _ _ _
  · intro j o hj
    by_cases hjp : j = p
    · subst hjp
      rw [upd_same] at hj
      simp only [Option.some.injEq] at hj
      subst hj
      exact ⟨fun _ => hpi, _, by rw [slh_at _ _ _ _ hpi]; exact upd_same _ _ _, .cells hxy⟩
    · rw [upd_ne _ _ hjp] at hj
      have hji : j ≠ i := fun e => by rw [e, hi] at hj; exact absurd hj (by simp)
      exact ⟨fun _ => hji, o, by rw [slh_at _ _ _ _ hji, upd_ne _ _ hjp]; exact hj, .refl o⟩
/-- QueryLimits -/
def tA : Nat → List UInt8
  | 0 => [123]
  | k + 1 => (if 0 < k then tA k ++ [44] else tA k) ++ [97, 61, 34, 34]
def tB : Nat → List UInt8
  | 0 => [123, 125]
  | k + 1 => tB k ++ [124, 61, 34, 120, 34]
def mA0 : Mt := ⟨[97], 1, []⟩
def fB0 : Fl := ⟨1, [120]⟩
def qA (k : Nat) : Qr := ⟨List.replicate k mA0, []⟩
def qB (k : Nat) : Qr := ⟨[], List.replicate k fB0⟩
def padA (n k : Nat) : List UInt8 := tA n ++ [125] ++ List.replicate k 32
theorem lim_ok {n : Nat} (h : 14 ≤ n ∧ n ≤ 16) : parseP (tA n ++ [125]) = (qA n, 0) ∧ parseP (tB n) = (qB n, 0) := by
  rcases (show n = 14 ∨ n = 15 ∨ n = 16 by omega) with rfl | rfl | rfl <;> exact ⟨by kernel_rfl, by kernel_rfl⟩
theorem lim_no : (parseP (tA 17 ++ [125])).2 = 3 ∧ (parseP (tB 17)).2 = 3 ∧ checkP (qA 17) = 3 ∧ checkP (qB 17) = 3 := ⟨by kernel_rfl, by kernel_rfl, by kernel_rfl, by kernel_rfl⟩
theorem tA_len : ∀ k, (tA k).length ≤ 5 * k + 1
  | 0 => by simp [tA]
  | k + 1 => by have := tA_len k; unfold tA; split <;> simp <;> omega
theorem tB_len : ∀ k, (tB k).length ≤ 5 * k + 2
  | 0 => by simp [tB]
  | k + 1 => by have := tB_len k; unfold tB; simp; omega
theorem pd_14_440 : parseP (padA 14 440) = (qA 14, 0) := by kernel_rfl
theorem pd_14_441 : parseP (padA 14 441) = (qA 14, 0) := by kernel_rfl
theorem pd_15_435 : parseP (padA 15 435) = (qA 15, 0) := by kernel_rfl
theorem pd_15_436 : parseP (padA 15 436) = (qA 15, 0) := by kernel_rfl
theorem pd_16_430 : parseP (padA 16 430) = (qA 16, 0) := by kernel_rfl
theorem pd_16_431 : parseP (padA 16 431) = (qA 16, 0) := by kernel_rfl
theorem lim_pad {n k : Nat} (h : 14 ≤ n ∧ n ≤ 16) (hk : (padA n k).length = 511 ∨ (padA n k).length = 512) : parseP (padA n k) = (qA n, 0) := by
  rcases (show n = 14 ∨ n = 15 ∨ n = 16 by omega) with rfl | rfl | rfl
  · have e : (padA 14 k).length = 71 + k := by simp [padA, tA]; omega
    rcases hk with hk | hk
    · obtain rfl : k = 440 := by omega
      exact pd_14_440
    · obtain rfl : k = 441 := by omega
      exact pd_14_441
  · have e : (padA 15 k).length = 76 + k := by simp [padA, tA]; omega
    rcases hk with hk | hk
    · obtain rfl : k = 435 := by omega
      exact pd_15_435
    · obtain rfl : k = 436 := by omega
      exact pd_15_436
  · have e : (padA 16 k).length = 81 + k := by simp [padA, tA]; omega
    rcases hk with hk | hk
    · obtain rfl : k = 430 := by omega
      exact pd_16_430
    · obtain rfl : k = 431 := by omega
      exact pd_16_431
def LA (k : Nat) : List AV := (List.replicate k mA0).flatMap encM
def LB (k : Nat) : List AV := (List.replicate k fB0).flatMap encF
theorem LA_len (k : Nat) : (LA k).length = k * 3 := by unfold LA; rw [flat_len encM_len]; simp
theorem LB_len (k : Nat) : (LB k).length = k * 2 := by unfold LB; rw [flat_len encF_len]; simp
theorem LA_succ (k : Nat) : LA k ++ encM mA0 = LA (k + 1) := by unfold LA; rw [List.replicate_succ']; simp
theorem LB_succ (k : Nat) : LB k ++ encF fB0 = LB (k + 1) := by unfold LB; rw [List.replicate_succ']; simp
theorem qA_enc (k : Nat) : [AV.lst (LA k) k false, .lst [] 0 false] = encQ (qA k) false false := by simp [encQ, qA, LA]
theorem qB_enc (k : Nat) : [AV.lst [] 0 false, .lst (LB k) k false] = encQ (qB k) false false := by simp [encQ, qB, LB]
theorem qA_ok {k : Nat} (h : k ≤ 1000000) : QrOk (qA k) := ⟨by simp [qA]; exact h, by simp [qA], fun m hm => by simp [qA] at hm; rw [hm.2]; decide, by simp [qA]⟩
theorem qB_ok {k : Nat} (h : k ≤ 1000000) : QrOk (qB k) := ⟨by simp [qB], by simp [qB]; exact h, by simp [qB], fun m hm => by simp [qB] at hm; rw [hm.2]; decide⟩
theorem same_self (a : Qr) : sameP a a = true := by simp [sameP]
theorem pad_len (n k : Nat) : (padA n k).length = (tA n).length + 1 + k := by simp [padA]; omega
theorem pad_succ (n k : Nat) : padA n k ++ [32] = padA n (k + 1) := by simp [padA, List.replicate_succ']
theorem parse_long {s : List UInt8} (h : 512 < s.length) : parseP s = (⟨[], []⟩, 4) := by unfold parseP; rw [if_pos h]

theorem limits_spec (a b : Int) (σ : AHeap) (ha : 0 ≤ a ∧ a ≤ 255) (hb : 0 ≤ b ∧ b ≤ 255) : ASpec Tryz.prog 7 [.v (.int .u8 a), .v (.int .u8 b)] σ fun r σ' => r = .ret (boo true) ∧ σ' = σ := by
  refine aspec_enter (N := 133) (rs := [.tmp 4]) Tryz.func7 rfl rfl rfl rfl rfl rfl ?_
  refine awp_seq ?_
  refine awp_region ?_
  refine aops_v rfl rfl rfl (a_assign rfl rfl ?_)
  refine aops_nil ?_
  refine thenE_n ?_
  refine awp_seq ?_
  refine awp_seq ?_
  refine awp_region ?_
  refine aops_call_eq rfl rfl rfl rfl cf8 rfl (awake_spec _) ?_
  refine aops_v rfl rfl rfl (a_not rfl rfl ?_)
  refine aops_nil ?_
  refine thenE_n ?_
  refine awp_cond rfl (fun h1 => ?_) (fun h1 => ?_)
  · try simp only [zz1, zz2, ne_eq, zz4, zz5, zz6, gt_iff_lt, ge_iff_le, zz9, zz0] at h1
    simp at h1
  · try simp only [zz1, zz2, ne_eq, zz4, zz5, zz6, gt_iff_lt, ge_iff_le, zz9, zz0] at h1
    refine awp_skip ?_
    refine thenE_n ?_
    refine awp_seq ?_
    refine awp_region ?_
    refine aops_v rfl rfl rfl (a_move rfl rfl ?_)
    refine aops_v rfl rfl rfl (a_rem rfl rfl rfl (by omega) (by omega) ?_)
    first | refine aops_v rfl rfl rfl (a_conv rfl hu5 ik3 rfl (by simp only [Go.AL.lo, Go.AL.hi]; omega) ?_) | refine aops_v rfl rfl rfl (a_conv_wrap rfl hu5 ik3 rfl ?_)
    first | refine aops_v rfl rfl rfl (a_add rfl rfl rfl (by simp only [Go.AL.lo, Go.AL.hi]; omega) ?_) | refine aops_v rfl rfl rfl (a_int rfl rfl rfl rfl ?_)
    refine aops_v rfl rfl rfl (a_assign rfl rfl ?_)
    refine aops_nil ?_
    refine thenE_n ?_
    refine awp_seq ?_
    obtain ⟨n, hn⟩ : ∃ n : Nat, (14 + a % 4 : Int) = n := ⟨(14 + a % 4).toNat, by omega⟩
    rw [hn]
    have h14 : 14 ≤ n ∧ n ≤ 17 := by omega
    refine awp_region ?_
    refine aops_v rfl rfl rfl (a_assign rfl rfl ?_)
    refine aops_nil ?_
    refine thenE_n ?_
    refine awp_seq ?_
    refine awp_region ?_
    refine aops_v rfl rfl rfl (a_build (res := [_, _]) rfl bk26 rfl rfl ?_)
    refine aops_var rfl rfl rfl rfl rfl rfl rfl tk26 zk26 rfl rfl rfl rfl rfl ?_
    intro id7 hid7
    refine aops_nil ?_
    refine thenE_n ?_
    refine awp_seq ?_
    refine awp_seq ?_
    refine awp_region ?_
    refine aops_v rfl rfl rfl (a_assign rfl rfl ?_)
    refine aops_nil ?_
    refine thenE_n ?_
    refine awp_block ?_
    refine awp_fresh fun o0 ho0 => ?_
    obtain ⟨ho1, ho2⟩ := ne_of_upd ho0
    refine awp_loop (S := Nat × (Nat × Nat)) (fun x => [(1, .v (.int .u8 b)), (5, int n), (6, str (tA x.1)), (7, .ref id7 0 0), (8, int x.1)]) (fun x => slh (upd σ id7 (.cells 0 26 [slv 3 (LA x.1) x.1 x.2.1 x.2.2, nilS])) 48 (LA x.1) x.1 x.2.1 x.2.2) (fun x => x.1 ≤ n ∧ σ x.2.1 = none ∧ id7 ≠ x.2.1) (fun x => n - x.1) ⟨(0, (o0, 0)), ⟨by simp, ho2, ho1⟩, EL, rfl⟩ ?_
    rintro ⟨k, ⟨i, v⟩⟩ ⟨hk, hi, hpi⟩
    dsimp only at hk hi hpi
    dsimp only
    have hlA := tA_len k
    have hif : (if 0 < k then tA k ++ [44] else tA k).length ≤ 5 * k + 2 := by split <;> (try simp) <;> omega
    refine awp_seq ?_
    refine awp_seq ?_
    refine awp_region ?_
    refine aops_v rfl rfl rfl (a_move rfl rfl ?_)
    refine aops_v rfl rfl rfl (a_move rfl rfl ?_)
    refine aops_v rfl rfl rfl (a_int rfl rfl rfl rfl ?_)
    refine aops_nil ?_
    refine thenE_n ?_
    refine awp_cond rfl (fun h2 => ?_) (fun h2 => ?_)
    · try simp only [zz1, zz2, ne_eq, zz4, zz5, zz6, gt_iff_lt, ge_iff_le, zz9, zz0] at h2
      refine awp_skip ?_
      refine thenE_n ?_
      refine awp_seq ?_
      refine awp_block ?_
      refine awp_cut (S := Unit) (fun _ => [(1, .v (.int .u8 b)), (5, int n), (6, str (if 0 < k then tA k ++ [44] else tA k)), (7, .ref id7 0 0), (8, int k)]) (fun _ => slh (upd σ id7 (.cells 0 26 [slv 3 (LA k) k i v, nilS])) 48 (LA k) k i v) (fun _ => True) ?_ ?_
      · skip
        refine awp_seq ?_
        refine awp_region ?_
        refine aops_v rfl rfl rfl (a_move rfl rfl ?_)
        refine aops_v rfl rfl rfl (a_int rfl rfl rfl rfl ?_)
        refine aops_nil ?_
        refine thenE_n ?_
        refine awp_cond rfl (fun h3 => ?_) (fun h3 => ?_)
        · try simp only [zz1, zz2, ne_eq, zz4, zz5, zz6, gt_iff_lt, ge_iff_le, zz9, zz0] at h3
          have hk0 : 0 < k := by have := h3; omega
          refine awp_region ?_
          refine aops_v rfl rfl rfl (a_move rfl rfl ?_)
          refine aops_v rfl rfl rfl (a_concat rfl rfl rfl (by first | omega | (simp; omega)) ?_)
          refine aops_v rfl rfl rfl (a_assign rfl rfl ?_)
          refine aops_nil ?_
          refine thenE_n ?_
          exact .done ⟨(), trivial, (by simp only [hk0, if_true, if_false]; repeat (first | exact Env.le_nil _ | refine Env.le_cons rfl ?_ | refine Env.le_cons (le_int rfl (by omega)) ?_)), rfl⟩
        · try simp only [zz1, zz2, ne_eq, zz4, zz5, zz6, gt_iff_lt, ge_iff_le, zz9, zz0] at h3
          have hk0 : ¬ 0 < k := by have := h3; omega
          refine awp_skip ?_
          refine thenE_n ?_
          exact .done ⟨(), trivial, (by simp only [hk0, if_true, if_false]; repeat (first | exact Env.le_nil _ | refine Env.le_cons rfl ?_ | refine Env.le_cons (le_int rfl (by omega)) ?_)), rfl⟩
      intro _ _
      refine awp_seq ?_
      refine awp_region ?_
      refine aops_v rfl rfl rfl (a_move rfl rfl ?_)
      refine aops_v rfl rfl rfl (a_concat rfl rfl rfl (by first | omega | (simp; omega)) ?_)
      refine aops_v rfl rfl rfl (a_assign rfl rfl ?_)
      refine aops_nil ?_
      refine thenE_n ?_
      refine awp_region ?_
      first | refine aops_v rfl rfl rfl (a_fieldAddr rfl fk26_0 rfl rfl ?_) | refine aops_v rfl rfl rfl (a_fieldAddr_pin rfl fk26_0 rfl rfl ?_)
      refine aops_v rfl rfl rfl (a_load rfl tk23 rfl (by rw [slh_at _ _ _ _ hpi]; exact upd_same _ _ _) rfl ?_)
      refine aops_v rfl rfl rfl (a_build (res := [_, _, _]) rfl bk48 rfl rfl ?_)
      refine aops_v rfl rfl rfl (a_buildSlice (res := [_, _, _]) rfl sk23 rfl rfl rfl ?_)
      refine aops_v rfl rfl rfl (a_append_slp (acs := encM mA0) rfl sk23 rfl (LA_len k) rfl (.lst rfl) rfl (by omega) (by simp only [maxLen]; omega) (by omega) (fun _ => by rw [upd_ne _ _ hpi.symm]; exact hi) ?_)
      intro i2 v2 hi2
      obtain ⟨hi2p, hi2n⟩ := ne_of_upd hi2
      rw [LA_succ]
      first | refine aops_v rfl rfl rfl (a_fieldAddr rfl fk26_0 rfl rfl ?_) | refine aops_v rfl rfl rfl (a_fieldAddr_pin rfl fk26_0 rfl rfl ?_)
      refine aops_s rfl rfl (a_store_slv (cs2 := [slv 3 (LA (k + 1)) (k + 1) i2 v2, nilS]) rfl tk23 rfl rfl (by rw [slh_at _ _ _ _ hi2p]; exact upd_same _ _ _) (by simp) rfl ?_)
      rw [slh_upd _ _ _ _ hi2p, upd_upd]
      refine aops_nil ?_
      refine blockE_n ?_
      refine thenE_n ?_
      refine awp_region ?_
      refine aops_v rfl rfl rfl (a_move rfl rfl ?_)
      first | refine aops_v rfl rfl rfl (a_add rfl rfl rfl (by simp only [Go.AL.lo, Go.AL.hi]; omega) ?_) | refine aops_v rfl rfl rfl (a_int rfl rfl rfl rfl ?_)
      refine aops_v rfl rfl rfl (a_assign rfl rfl ?_)
      refine aops_nil ?_
      refine thenE_n ?_
      exact .done ⟨(k + 1, (i2, v2)), ⟨by dsimp only; omega, hi2n, hi2p⟩, by dsimp only; omega, EL, rfl⟩
    · try simp only [zz1, zz2, ne_eq, zz4, zz5, zz6, gt_iff_lt, ge_iff_le, zz9, zz0] at h2
      obtain rfl : k = n := by omega
      refine AWp.ghost (l_pin (Y := [.lst (LA k) k false, .lst [] 0 false]) 7 rfl (LA_len k) hid7 hi hpi (.cons .sl (.cons .nil .nil)) (.done ?_))
      rw [qA_enc]
      refine awp_exit ?_
      refine thenE_x ?_
      refine thenE_x ?_
      refine blockE_x ?_
      refine thenE_n ?_
      refine awp_seq ?_
      refine awp_region ?_
      refine aops_v rfl rfl rfl (a_move rfl rfl ?_)
      refine aops_v rfl rfl rfl (a_concat rfl rfl rfl (by first | omega | (simp; omega)) ?_)
      refine aops_v rfl rfl rfl (a_assign rfl rfl ?_)
      refine aops_nil ?_
      refine thenE_n ?_
      refine awp_seq ?_
      refine awp_region ?_
      refine aops_v rfl rfl rfl (a_assign rfl rfl ?_)
      refine aops_nil ?_
      refine thenE_n ?_
      refine awp_seq ?_
      refine awp_region ?_
      refine aops_v rfl rfl rfl (a_build (res := [_, _]) rfl bk26 rfl rfl ?_)
      refine aops_var rfl rfl rfl rfl rfl rfl rfl tk26 zk26 rfl rfl rfl rfl rfl ?_
      intro id10 hid10
      refine aops_nil ?_
      refine thenE_n ?_
      refine awp_seq ?_
      refine awp_seq ?_
      refine awp_region ?_
      refine aops_v rfl rfl rfl (a_assign rfl rfl ?_)
      refine aops_nil ?_
      refine thenE_n ?_
      refine awp_block ?_
      refine awp_fresh fun o0 ho0 => ?_
      obtain ⟨ho1, ho2⟩ := ne_of_upd ho0
      refine awp_loop (S := Nat × (Nat × Nat)) (fun x => [(1, .v (.int .u8 b)), (5, int k), (6, str (tA k ++ [125])), (7, .pin (encQ (qA k) false false) 0), (9, str (tB x.1)), (10, .ref id10 0 0), (11, int x.1)]) (fun x => slh (upd σ id10 (.cells 0 26 [nilS, slv 2 (LB x.1) x.1 x.2.1 x.2.2])) 50 (LB x.1) x.1 x.2.1 x.2.2) (fun x => x.1 ≤ k ∧ σ x.2.1 = none ∧ id10 ≠ x.2.1) (fun x => k - x.1) ⟨(0, (o0, 0)), ⟨by simp, ho2, ho1⟩, EL, rfl⟩ ?_
      clear hif
      obtain ⟨n, hnk⟩ : ∃ n, n = k := ⟨k, rfl⟩
      rw [← hnk] at h14 hn ⊢
      clear hi hpi hlA hk
      subst hnk
      clear h14
      have h14 : 14 ≤ n ∧ n ≤ 17 := by omega
      rintro ⟨k, ⟨i, v⟩⟩ ⟨hk, hi, hpi⟩
      dsimp only at hk hi hpi
      dsimp only
      have hlA := tB_len k
      refine awp_seq ?_
      refine awp_seq ?_
      refine awp_region ?_
      refine aops_v rfl rfl rfl (a_move rfl rfl ?_)
      refine aops_v rfl rfl rfl (a_move rfl rfl ?_)
      refine aops_v rfl rfl rfl (a_int rfl rfl rfl rfl ?_)
      refine aops_nil ?_
      refine thenE_n ?_
      refine awp_cond rfl (fun h4 => ?_) (fun h4 => ?_)
      · try simp only [zz1, zz2, ne_eq, zz4, zz5, zz6, gt_iff_lt, ge_iff_le, zz9, zz0] at h4
        refine awp_skip ?_
        refine thenE_n ?_
        refine awp_seq ?_
        refine awp_block ?_
        refine awp_seq ?_
        refine awp_region ?_
        refine aops_v rfl rfl rfl (a_move rfl rfl ?_)
        refine aops_v rfl rfl rfl (a_concat rfl rfl rfl (by first | omega | (simp; omega)) ?_)
        refine aops_v rfl rfl rfl (a_assign rfl rfl ?_)
        refine aops_nil ?_
        refine thenE_n ?_
        refine awp_region ?_
        first | refine aops_v rfl rfl rfl (a_fieldAddr rfl fk26_1 rfl rfl ?_) | refine aops_v rfl rfl rfl (a_fieldAddr_pin rfl fk26_1 rfl rfl ?_)
        refine aops_v rfl rfl rfl (a_load rfl tk24 rfl (by rw [slh_at _ _ _ _ hpi]; exact upd_same _ _ _) rfl ?_)
        refine aops_v rfl rfl rfl (a_build (res := [_, _]) rfl bk50 rfl rfl ?_)
        refine aops_v rfl rfl rfl (a_buildSlice (res := [_, _]) rfl sk24 rfl rfl rfl ?_)
        refine aops_v rfl rfl rfl (a_append_slp (acs := encF fB0) rfl sk24 rfl (LB_len k) rfl (.lst rfl) rfl (by omega) (by simp only [maxLen]; omega) (by omega) (fun _ => by rw [upd_ne _ _ hpi.symm]; exact hi) ?_)
        intro i2 v2 hi2
        obtain ⟨hi2p, hi2n⟩ := ne_of_upd hi2
        rw [LB_succ]
        first | refine aops_v rfl rfl rfl (a_fieldAddr rfl fk26_1 rfl rfl ?_) | refine aops_v rfl rfl rfl (a_fieldAddr_pin rfl fk26_1 rfl rfl ?_)
        refine aops_s rfl rfl (a_store_slv (cs2 := [nilS, slv 2 (LB (k + 1)) (k + 1) i2 v2]) rfl tk24 rfl rfl (by rw [slh_at _ _ _ _ hi2p]; exact upd_same _ _ _) (by simp) rfl ?_)
        rw [slh_upd _ _ _ _ hi2p, upd_upd]
        refine aops_nil ?_
        refine blockE_n ?_
        refine thenE_n ?_
        refine awp_region ?_
        refine aops_v rfl rfl rfl (a_move rfl rfl ?_)
        first | refine aops_v rfl rfl rfl (a_add rfl rfl rfl (by simp only [Go.AL.lo, Go.AL.hi]; omega) ?_) | refine aops_v rfl rfl rfl (a_int rfl rfl rfl rfl ?_)
        refine aops_v rfl rfl rfl (a_assign rfl rfl ?_)
        refine aops_nil ?_
        refine thenE_n ?_
        exact .done ⟨(k + 1, (i2, v2)), ⟨by dsimp only; omega, hi2n, hi2p⟩, by dsimp only; omega, EL, rfl⟩
      · try simp only [zz1, zz2, ne_eq, zz4, zz5, zz6, gt_iff_lt, ge_iff_le, zz9, zz0] at h4
        obtain rfl : k = n := by omega
        refine AWp.ghost (l_pin (Y := [.lst [] 0 false, .lst (LB k) k false]) 10 rfl (LB_len k) hid10 hi hpi (.cons .nil (.cons .sl .nil)) (.done ?_))
        rw [qB_enc]
        refine awp_exit ?_
        refine thenE_x ?_
        refine thenE_x ?_
        refine blockE_x ?_
        refine thenE_n ?_
        refine awp_seq ?_
        refine awp_region ?_
        refine aops_v rfl rfl rfl (a_move rfl rfl ?_)
        refine aops_call_eq rfl rfl rfl rfl cf9 rfl (parse_spec2 (tA k ++ [125]) _) ?_
        refine aops_v rfl rfl rfl (a_move rfl rfl ?_)
        refine aops_v rfl rfl rfl (a_extract rfl rfl rfl ?_)
        refine aops_v rfl rfl rfl (a_extract rfl rfl rfl ?_)
        refine aops_var rfl rfl rfl rfl rfl rfl rfl tk26 zk26 rfl rfl rfl rfl rfl ?_
        intro id12 hid12
        refine aops_v rfl rfl rfl (a_assign rfl rfl ?_)
        refine aops_nil ?_
        refine thenE_n ?_
        refine awp_seq ?_
        refine awp_region ?_
        refine aops_v rfl rfl rfl (a_move rfl rfl ?_)
        refine aops_call_eq rfl rfl rfl rfl cf9 rfl (parse_spec2 (tB k) _) ?_
        refine aops_v rfl rfl rfl (a_move rfl rfl ?_)
        refine aops_v rfl rfl rfl (a_extract rfl rfl rfl ?_)
        refine aops_v rfl rfl rfl (a_extract rfl rfl rfl ?_)
        refine aops_var_frz rfl rfl rfl rfl rfl rfl rfl tk26 zk26 rfl rfl rfl rfl rfl ?_
        refine aops_v rfl rfl rfl (a_assign rfl rfl ?_)
        refine aops_nil ?_
        refine thenE_n ?_
        refine awp_seq ?_
        refine awp_seq ?_
        refine awp_region ?_
        refine aops_v rfl rfl rfl (a_move rfl rfl ?_)
        refine aops_v rfl rfl rfl (a_int rfl rfl rfl rfl ?_)
        refine aops_nil ?_
        refine thenE_n ?_
        refine awp_cond rfl (fun h5 => ?_) (fun h5 => ?_)
        · try simp only [zz1, zz2, ne_eq, zz4, zz5, zz6, gt_iff_lt, ge_iff_le, zz9, zz0] at h5
          obtain rfl : k = 17 := by omega
          obtain ⟨e1, e2, e3, e4⟩ := lim_no
          rw [e1, e2]
          refine awp_seq ?_
          refine awp_region ?_
          refine aops_v rfl rfl rfl (a_move rfl rfl ?_)
          refine aops_v rfl rfl rfl (a_int rfl rfl rfl rfl ?_)
          refine aops_v rfl rfl rfl (a_move rfl rfl ?_)
          refine aops_bool (fun h6 => ?_) (fun h6 => ?_)
          · try simp only [zz1, zz2, ne_eq, zz4, zz5, zz6, gt_iff_lt, ge_iff_le, zz9, zz0] at h6
            refine aops_yes rfl rfl rfl rfl ?_
            refine aops_v rfl rfl rfl (a_move rfl rfl ?_)
            refine aops_yes rfl rfl rfl rfl ?_
            refine aops_v rfl rfl rfl (a_int rfl rfl rfl rfl ?_)
            refine aops_v rfl rfl rfl (a_pick rfl rfl rfl ?_)
            refine aops_v rfl rfl rfl (a_move rfl rfl ?_)
            refine aops_bool (fun h7 => ?_) (fun h7 => ?_)
            · try simp only [zz1, zz2, ne_eq, zz4, zz5, zz6, gt_iff_lt, ge_iff_le, zz9, zz0] at h7
              refine aops_yes rfl rfl rfl rfl ?_
              first | refine aops_v rfl rfl rfl (a_load_pin rfl tk26 rfl rfl ?_) | refine aops_v rfl rfl rfl (a_load rfl tk26 rfl HP rfl ?_)
              refine aops_yes rfl rfl rfl rfl ?_
              refine aops_call_eq rfl rfl rfl rfl cf15 rfl (check_spec (qA 17) false false _ (qA_ok (by omega))) ?_
              rw [e3]
              refine aops_yes rfl rfl rfl rfl ?_
              refine aops_v rfl rfl rfl (a_int rfl rfl rfl rfl ?_)
              refine aops_v rfl rfl rfl (a_pick rfl rfl rfl ?_)
              refine aops_v rfl rfl rfl (a_move rfl rfl ?_)
              refine aops_bool (fun h8 => ?_) (fun h8 => ?_)
              · try simp only [zz1, zz2, ne_eq, zz4, zz5, zz6, gt_iff_lt, ge_iff_le, zz9, zz0] at h8
                refine aops_yes rfl rfl rfl rfl ?_
                first | refine aops_v rfl rfl rfl (a_load_pin rfl tk26 rfl rfl ?_) | refine aops_v rfl rfl rfl (a_load rfl tk26 rfl HP rfl ?_)
                refine aops_yes rfl rfl rfl rfl ?_
                refine aops_call_eq rfl rfl rfl rfl cf15 rfl (check_spec (qB 17) false false _ (qB_ok (by omega))) ?_
                rw [e4]
                refine aops_yes rfl rfl rfl rfl ?_
                refine aops_v rfl rfl rfl (a_int rfl rfl rfl rfl ?_)
                refine aops_v rfl rfl rfl (a_pick rfl rfl rfl ?_)
                refine aops_v rfl rfl rfl (a_assign rfl rfl ?_)
                refine aops_nil ?_
                refine thenE_n ?_
                refine awp_ret ?_
                change Gst _ _ _ _
                refine gst_sub σ (fun k o hk => by rw [upd_ne _ _ (fun e => by rw [e, hid12] at hk; exact absurd hk (by simp))]; exact hk) ?_
                refine fin1 rfl ?_
                exact ⟨rfl, rfl⟩
              · try simp only [zz1, zz2, ne_eq, zz4, zz5, zz6, gt_iff_lt, ge_iff_le, zz9, zz0] at h8
                first | exact absurd rfl h8 | exact absurd trivial h8 | simp at h8
            · try simp only [zz1, zz2, ne_eq, zz4, zz5, zz6, gt_iff_lt, ge_iff_le, zz9, zz0] at h7
              first | exact absurd rfl h7 | exact absurd trivial h7 | simp at h7
          · try simp only [zz1, zz2, ne_eq, zz4, zz5, zz6, gt_iff_lt, ge_iff_le, zz9, zz0] at h6
            first | exact absurd rfl h6 | exact absurd trivial h6 | simp at h6
        · try simp only [zz1, zz2, ne_eq, zz4, zz5, zz6, gt_iff_lt, ge_iff_le, zz9, zz0] at h5
          have h16 : 14 ≤ k ∧ k ≤ 16 := by omega
          obtain ⟨e1, e2⟩ := lim_ok h16
          rw [e1, e2]
          refine awp_skip ?_
          refine thenE_n ?_
          refine awp_seq ?_
          refine awp_seq ?_
          refine awp_region ?_
          refine aops_v rfl rfl rfl (a_move rfl rfl ?_)
          refine aops_v rfl rfl rfl (a_int rfl rfl rfl rfl ?_)
          refine aops_v rfl rfl rfl (a_move rfl rfl ?_)
          refine aops_bool (fun h9 => ?_) (fun h9 => ?_)
          · try simp only [zz1, zz2, ne_eq, zz4, zz5, zz6, gt_iff_lt, ge_iff_le, zz9, zz0] at h9
            first | exact absurd rfl h9 | exact absurd trivial h9 | simp at h9
          · try simp only [zz1, zz2, ne_eq, zz4, zz5, zz6, gt_iff_lt, ge_iff_le, zz9, zz0] at h9
            refine aops_yes rfl rfl rfl rfl ?_
            refine aops_v rfl rfl rfl (a_move rfl rfl ?_)
            refine aops_yes rfl rfl rfl rfl ?_
            refine aops_v rfl rfl rfl (a_int rfl rfl rfl rfl ?_)
            refine aops_v rfl rfl rfl (a_pick rfl rfl rfl ?_)
            refine aops_v rfl rfl rfl (a_move rfl rfl ?_)
            refine aops_bool (fun h10 => ?_) (fun h10 => ?_)
            · try simp only [zz1, zz2, ne_eq, zz4, zz5, zz6, gt_iff_lt, ge_iff_le, zz9, zz0] at h10
              first | exact absurd rfl h10 | exact absurd trivial h10 | simp at h10
            · try simp only [zz1, zz2, ne_eq, zz4, zz5, zz6, gt_iff_lt, ge_iff_le, zz9, zz0] at h10
              refine aops_yes rfl rfl rfl rfl ?_
              first | refine aops_v rfl rfl rfl (a_load_pin rfl tk26 rfl rfl ?_) | refine aops_v rfl rfl rfl (a_load rfl tk26 rfl HP rfl ?_)
              refine aops_yes rfl rfl rfl rfl ?_
              first | refine aops_v rfl rfl rfl (a_load_pin rfl tk26 rfl rfl ?_) | refine aops_v rfl rfl rfl (a_load rfl tk26 rfl HP rfl ?_)
              refine aops_yes rfl rfl rfl rfl ?_
              refine aops_call_eq rfl rfl rfl rfl cf11 rfl (same_spec (qA k) (qA k) false false false false _ (qA_ok (by omega)).ms (qA_ok (by omega)).fs) ?_
              rw [same_self]
              refine aops_yes rfl rfl rfl rfl ?_
              refine aops_v rfl rfl rfl (a_not rfl rfl ?_)
              refine aops_v rfl rfl rfl (a_pick rfl rfl rfl ?_)
              refine aops_v rfl rfl rfl (a_move rfl rfl ?_)
              refine aops_bool (fun h11 => ?_) (fun h11 => ?_)
              · try simp only [zz1, zz2, ne_eq, zz4, zz5, zz6, gt_iff_lt, ge_iff_le, zz9, zz0] at h11
                first | exact absurd rfl h11 | exact absurd trivial h11 | simp at h11
              · try simp only [zz1, zz2, ne_eq, zz4, zz5, zz6, gt_iff_lt, ge_iff_le, zz9, zz0] at h11
                refine aops_yes rfl rfl rfl rfl ?_
                first | refine aops_v rfl rfl rfl (a_load_pin rfl tk26 rfl rfl ?_) | refine aops_v rfl rfl rfl (a_load rfl tk26 rfl HP rfl ?_)
                refine aops_yes rfl rfl rfl rfl ?_
                first | refine aops_v rfl rfl rfl (a_load_pin rfl tk26 rfl rfl ?_) | refine aops_v rfl rfl rfl (a_load rfl tk26 rfl HP rfl ?_)
                refine aops_yes rfl rfl rfl rfl ?_
                refine aops_call_eq rfl rfl rfl rfl cf11 rfl (same_spec (qB k) (qB k) false false false false _ (qB_ok (by omega)).ms (qB_ok (by omega)).fs) ?_
                rw [same_self]
                refine aops_yes rfl rfl rfl rfl ?_
                refine aops_v rfl rfl rfl (a_not rfl rfl ?_)
                refine aops_v rfl rfl rfl (a_pick rfl rfl rfl ?_)
                refine aops_nil ?_
                refine thenE_n ?_
                refine awp_cond rfl (fun h12 => ?_) (fun h12 => ?_)
                · try simp only [zz1, zz2, ne_eq, zz4, zz5, zz6, gt_iff_lt, ge_iff_le, zz9, zz0] at h12
                  first | exact absurd rfl h12 | exact absurd trivial h12 | simp at h12
                · try simp only [zz1, zz2, ne_eq, zz4, zz5, zz6, gt_iff_lt, ge_iff_le, zz9, zz0] at h12
                  rw [show tA k ++ [125] = padA k 0 by simp [padA]]
                  refine awp_skip ?_
                  refine thenE_n ?_
                  refine awp_seq ?_
                  refine awp_block ?_
                  refine awp_loop (S := Nat) (fun j => [(1, .v (.int .u8 b)), (5, int k), (6, str (padA k j)), (7, .pin (encQ (qA k) false false) 0), (12, .ref id12 0 0)]) (fun _ => upd σ id12 (.cells 0 26 (encQ (qA k) false false))) (fun j => ((padA k j).length : Int) ≤ 511 + b % 3) (fun j => 520 - (padA k j).length) ⟨0, by have := tA_len k; have := pad_len k 0; omega, EL, rfl⟩ ?_
                  rintro j hj
                  have hpl := pad_len k j; have hpl2 := pad_len k (j + 1)
                  refine awp_seq ?_
                  refine awp_seq ?_
                  refine awp_region ?_
                  refine aops_v rfl rfl rfl (a_move rfl rfl ?_)
                  refine aops_v rfl rfl rfl (a_len_str rfl ist9 rfl ?_)
                  refine aops_v rfl rfl rfl (a_move rfl rfl ?_)
                  refine aops_v rfl rfl rfl (a_rem rfl rfl rfl (by omega) (by omega) ?_)
                  first | refine aops_v rfl rfl rfl (a_conv rfl hu5 ik3 rfl (by simp only [Go.AL.lo, Go.AL.hi]; omega) ?_) | refine aops_v rfl rfl rfl (a_conv_wrap rfl hu5 ik3 rfl ?_)
                  first | refine aops_v rfl rfl rfl (a_add rfl rfl rfl (by simp only [Go.AL.lo, Go.AL.hi]; omega) ?_) | refine aops_v rfl rfl rfl (a_int rfl rfl rfl rfl ?_)
                  refine aops_v rfl rfl rfl (a_int rfl rfl rfl rfl ?_)
                  refine aops_nil ?_
                  refine thenE_n ?_
                  refine awp_cond rfl (fun h13 => ?_) (fun h13 => ?_)
                  · try simp only [zz1, zz2, ne_eq, zz4, zz5, zz6, gt_iff_lt, ge_iff_le, zz9, zz0] at h13
                    refine awp_skip ?_
                    refine thenE_n ?_
                    refine awp_block ?_
                    refine awp_region ?_
                    refine aops_v rfl rfl rfl (a_move rfl rfl ?_)
                    refine aops_v rfl rfl rfl (a_concat rfl rfl rfl (by first | omega | (simp; omega)) ?_)
                    rw [pad_succ]
                    refine aops_v rfl rfl rfl (a_assign rfl rfl ?_)
                    refine aops_nil ?_
                    refine blockE_n ?_
                    refine thenE_n ?_
                    exact .done ⟨j + 1, by omega, by omega, EL, rfl⟩
                  · try simp only [zz1, zz2, ne_eq, zz4, zz5, zz6, gt_iff_lt, ge_iff_le, zz9, zz0] at h13
                    refine awp_exit ?_
                    refine thenE_x ?_
                    refine thenE_x ?_
                    refine blockE_x ?_
                    refine thenE_n ?_
                    refine awp_seq ?_
                    refine awp_region ?_
                    refine aops_v rfl rfl rfl (a_move rfl rfl ?_)
                    refine aops_call_eq rfl rfl rfl rfl cf9 rfl (parse_spec2 (padA k j) _) ?_
                    refine aops_v rfl rfl rfl (a_move rfl rfl ?_)
                    refine aops_v rfl rfl rfl (a_extract rfl rfl rfl ?_)
                    refine aops_v rfl rfl rfl (a_extract rfl rfl rfl ?_)
                    refine aops_s rfl rfl (a_store rfl tk26 rfl rfl (upd_same _ _ _) rfl rfl (by first | decide | (simp [stv, AV.cells, encQ]; done)) ?_)
                    rw [upd_upd]
                    refine aops_v rfl rfl rfl (a_assign rfl rfl ?_)
                    refine aops_nil ?_
                    refine thenE_n ?_
                    refine awp_seq ?_
                    refine awp_seq ?_
                    refine awp_region ?_
                    refine aops_v rfl rfl rfl (a_move rfl rfl ?_)
                    refine aops_v rfl rfl rfl (a_len_str rfl ist9 rfl ?_)
                    refine aops_v rfl rfl rfl (a_int rfl rfl rfl rfl ?_)
                    refine aops_nil ?_
                    refine thenE_n ?_
                    refine awp_cond rfl (fun h14 => ?_) (fun h14 => ?_)
                    · try simp only [zz1, zz2, ne_eq, zz4, zz5, zz6, gt_iff_lt, ge_iff_le, zz9, zz0] at h14
                      have e5 := parse_long (s := padA k j) (by have := h14; omega)
                      rw [e5]
                      refine awp_seq ?_
                      refine awp_region ?_
                      refine aops_v rfl rfl rfl (a_move rfl rfl ?_)
                      refine aops_v rfl rfl rfl (a_int rfl rfl rfl rfl ?_)
                      refine aops_v rfl rfl rfl (a_move rfl rfl ?_)
                      refine aops_bool (fun h15 => ?_) (fun h15 => ?_)
                      · try simp only [zz1, zz2, ne_eq, zz4, zz5, zz6, gt_iff_lt, ge_iff_le, zz9, zz0] at h15
                        refine aops_yes rfl rfl rfl rfl ?_
                        first | refine aops_v rfl rfl rfl (a_load_pin rfl tk26 rfl rfl ?_) | refine aops_v rfl rfl rfl (a_load rfl tk26 rfl HP rfl ?_)
                        refine aops_yes rfl rfl rfl rfl ?_
                        refine aops_v rfl rfl rfl (a_build (res := [_, _]) rfl bk26 rfl rfl ?_)
                        refine aops_yes rfl rfl rfl rfl ?_
                        refine aops_call_eq rfl rfl rfl rfl cf11 rfl ((ASpec.wk (.cons wk_refl (.cons (wk_agg (.cons wk_nil (.cons wk_nil .nil))) .nil)) (same_spec ⟨[], []⟩ ⟨[], []⟩ false false false false _ (by simp) (by simp)))) ?_
                        rw [same_self]
                        refine aops_v rfl rfl rfl (a_pick rfl rfl rfl ?_)
                        refine aops_v rfl rfl rfl (a_assign rfl rfl ?_)
                        refine aops_nil ?_
                        refine thenE_n ?_
                        refine awp_ret ?_
                        change Gst _ _ _ _
                        refine gst_sub σ (fun k o hk => by rw [upd_ne _ _ (fun e => by rw [e, hid12] at hk; exact absurd hk (by simp))]; exact hk) ?_
                        refine fin1 rfl ?_
                        exact ⟨rfl, rfl⟩
                      · try simp only [zz1, zz2, ne_eq, zz4, zz5, zz6, gt_iff_lt, ge_iff_le, zz9, zz0] at h15
                        first | exact absurd rfl h15 | exact absurd trivial h15 | simp at h15
                    · try simp only [zz1, zz2, ne_eq, zz4, zz5, zz6, gt_iff_lt, ge_iff_le, zz9, zz0] at h14
                      have e5 := lim_pad (n := k) (k := j) h16 (by have := h14; omega)
                      rw [e5]
                      refine awp_skip ?_
                      refine thenE_n ?_
                      refine awp_seq ?_
                      refine awp_region ?_
                      refine aops_v rfl rfl rfl (a_move rfl rfl ?_)
                      refine aops_v rfl rfl rfl (a_int rfl rfl rfl rfl ?_)
                      refine aops_v rfl rfl rfl (a_move rfl rfl ?_)
                      refine aops_bool (fun h16 => ?_) (fun h16 => ?_)
                      · try simp only [zz1, zz2, ne_eq, zz4, zz5, zz6, gt_iff_lt, ge_iff_le, zz9, zz0] at h16
                        refine aops_yes rfl rfl rfl rfl ?_
                        first | refine aops_v rfl rfl rfl (a_load_pin rfl tk26 rfl rfl ?_) | refine aops_v rfl rfl rfl (a_load rfl tk26 rfl HP rfl ?_)
                        refine aops_yes rfl rfl rfl rfl ?_
                        first | refine aops_v rfl rfl rfl (a_load_pin rfl tk26 rfl rfl ?_) | refine aops_v rfl rfl rfl (a_load rfl tk26 rfl HP rfl ?_)
                        refine aops_yes rfl rfl rfl rfl ?_
                        refine aops_call_eq rfl rfl rfl rfl cf11 rfl (same_spec (qA k) (qA k) false false false false _ (qA_ok (by omega)).ms (qA_ok (by omega)).fs) ?_
                        rw [same_self]
                        refine aops_v rfl rfl rfl (a_pick rfl rfl rfl ?_)
                        refine aops_v rfl rfl rfl (a_assign rfl rfl ?_)
                        refine aops_nil ?_
                        refine thenE_n ?_
                        refine awp_ret ?_
                        change Gst _ _ _ _
                        refine gst_sub σ (fun k o hk => by rw [upd_ne _ _ (fun e => by rw [e, hid12] at hk; exact absurd hk (by simp))]; exact hk) ?_
                        refine fin1 rfl ?_
                        exact ⟨rfl, rfl⟩
                      · try simp only [zz1, zz2, ne_eq, zz4, zz5, zz6, gt_iff_lt, ge_iff_le, zz9, zz0] at h16
                        first | exact absurd rfl h16 | exact absurd trivial h16 | simp at h16

end Go.Proofs.YtnahdpjbddfhgaaGreatDoor
namespace Go.Proofs.YtnahdpjbddfhgaaGreatDoor
set_option maxRecDepth 100000
open Go Go.AL Go.ChangeShapes Go.WideShapes Go.ChangeAt Go.RowKit Go.Lib
/-! ### QueryLimits -/
theorem limits_contract (H : Type) (enc : TypeId × Value → H) (W : World) (base : Nat) (args : Array Value) (ds gs : List (DataW H)) (before : List MemPlace)
    (hval : ∀ (j : Nat) t v, Tryz.f7.params[j]? = some t → args[j]? = some v → Value.okWide Tryz.prog W .any base t v)
    (hW : DataW.Whole enc Tryz.prog Tryz.f7.params.toList Rows.queryLimitsSpec.vars false W args.toList ds gs before) (hk : Rows.uptoSmall H (ds ++ gs) = true) (hg : GoodW W.heap.size W) :
    Calls Tryz.prog 7 args W fun e W' => ∃ v, e = .returned v ∧ Rows.queryLimitsSpec.post enc Tryz.prog Tryz.f7 false true false false W args v W' := by
  have hW' := hW
  obtain ⟨p, q, hA0, hV, rfl, hfz, hnd⟩ := hW
  have hA : DataW.TrodAll enc Tryz.prog W 0 (fun _ => true) true Tryz.f7.params.toList args.toList ds p := hA0
  rw [Tryz.params7] at hA hval
  obtain ⟨v0, vs0, d0, ds0, p0, q0, hargs, rfl, rfl, h0, r0⟩ := trodAll_cons hA
  obtain ⟨v1, vs1, d1, ds1, p1, q1, rfl, rfl, rfl, h1, r1⟩ := trodAll_cons r0
  obtain ⟨rfl, rfl, rfl⟩ := trodAll_nil r1
  obtain rfl : args = #[v0, v1] := by cases args; simp_all
  obtain ⟨rfl, rfl⟩ := trodVars_none hV
  obtain ⟨x, rfl, rfl, rfl, wx⟩ := open_int Tryz.underlying5 (hval 0 5 v0 rfl rfl) h0
  obtain ⟨y, rfl, rfl, rfl, wy⟩ := open_int Tryz.underlying5 (hval 1 5 v1 rfl rfl) h1
  have hx : 0 ≤ x ∧ x ≤ 255 := by simpa [Lit.wf, IntKind.min, IntKind.max, IntKind.signed, IntKind.bits] using wx
  have hy : 0 ≤ y ∧ y ≤ 255 := by simpa [Lit.wf, IntKind.min, IntKind.max, IntKind.signed, IntKind.bits] using wy
  refine law_calls hg (avs := [.v (.int .u8 x), .v (.int .u8 y)]) ((limits_spec x y _ hx hy).mono fun _ _ h => h.1) ⟨rfl, fun i a hi => ?_⟩ hW' rfl rfl rfl fun W' sp hb hsp => ?_
  · match i, hi with
    | 0, hi => simp only [List.getElem?_cons_zero, Option.some.injEq] at hi; subst hi; exact .v _
    | 1, hi => simp only [List.getElem?_cons_succ, List.getElem?_cons_zero, Option.some.injEq] at hi; subst hi; exact .v _
    | n + 2, hi => simp at hi
  · rw [List.append_nil]
    exact trodAll_cons_mk (shut_int Tryz.underlying5 wx) (trodAll_cons_mk (shut_int Tryz.underlying5 wy) trodAll_mk0)

def wargsL : Array Value := #[.int .u8 0, .int .u8 0]
theorem limits_reads (os : Os) {H : Type} (enc : TypeId × Value → H) : ∃ places, DataW.whole enc Tryz.prog ((laidWorld os).forCall (fun _ _ => 0) ⟨#[], wargsL, []⟩).memory Tryz.f7.params.toList Rows.queryLimitsSpec.vars false wargsL.toList 8 =
    some ([.lit (.int .u8 0), .lit (.int .u8 0)], [], places) :=
  ⟨[], by kernel_rfl⟩
theorem limits_lifted (os : Os) (started : os.Started) (H : Type) (enc : TypeId × Value → H) (F : Stop.Interp) :
    ReturnsInHanded {} Tryz.checked os 7 .any ((Rows.OpenSpec.upto Rows.queryLimitsSpec).preRow enc Tryz.prog Tryz.f7 Rows.queryLimitsUptoRow.domain false Rows.queryLimitsUptoRow.laid) (((Rows.OpenSpec.upto Rows.queryLimitsSpec).at F).post enc Tryz.prog Tryz.f7 false true false false) := by
  obtain ⟨places, hx⟩ := limits_reads os enc
  refine returnsInHanded_of_row (C := Tryz.checked) (s := Rows.OpenSpec.upto Rows.queryLimitsSpec) own started (by kernel_rfl) Tryz.func7
    (witness_row_at (enc := enc) (C := Tryz.checked) false (laidWorld os) wargsL rfl (by kernel_rfl) (by kernel_rfl) (by kernel_rfl)
      (OpenSpec.preRow_of_cond 8 hx (by kernel_rfl) (fun k hk => by cases hk; kernel_rfl) (by kernel_rfl) (laid_met os _))) ?_
  intro W base args ds gs before hval hW _ hcond _ hL hsh _
  exact limits_contract H enc W base args ds gs before hval hW (hcond _ rfl) (good_of hL hsh)
theorem limits_upto : Rows.QueryLimitsUptoSaid :=
  OpenClaim.holds_of_cond 7 Tryz.f7 rfl rfl rfl rfl rfl rfl rfl ⟨rfl, rfl, rfl, rfl, rfl⟩ rfl rfl rfl rfl rfl (by kernel_rfl) Tryz.func7 (by kernel_rfl)
    (of_decide_eq_true (by kernel_rfl)) (by unfold Func.isWrapper; first | (rw [if_pos (by decide +kernel)]; kernel_rfl) | (rw [if_neg (by decide +kernel)]; exact ⟨rfl, rfl⟩))
    (fun os started H enc _ F => by rw [OpenClaim.pre_eq_preRow]; exact limits_lifted os started H enc F)
theorem limits_plain (f : FuncId) (fn : Func) (hf : Tryz.pinned.checked.prog.funcNamed "garner/garnerlaw24.QueryLimits" = some f) (hfn : Tryz.pinned.checked.prog.funcs[f]? = some fn) :
    true = Tryz.pinned.checked.prog.looks [] ∧ ∀ (j : Nat) t, fn.params[j]? = some t → Tryz.pinned.checked.prog.wantsStandIn t = false := by
  obtain rfl : f = 7 := Option.some.inj ((show Tryz.prog.funcNamed "garner/garnerlaw24.QueryLimits" = some 7 by kernel_rfl).symm.trans hf) |>.symm
  obtain rfl : fn = Tryz.f7 := (Option.some.inj (Tryz.func7.symm.trans hfn)).symm
  refine ⟨by kernel_rfl, fun j t ht => ?_⟩
  rw [Tryz.params7] at ht
  obtain rfl : t = 5 := by simpa using Array.mem_of_getElem? ht
  exact (show Tryz.prog.wantsStandIn 5 = false by kernel_rfl)
theorem limits_card : Rows.QueryLimitsUptoCardSaid :=
  Claim7.holds_tied_plain_at .later [] _ _ _ _ limits_upto (fun _ h => by cases h) (by kernel_rfl) (fun _ h => by cases h) queryLimitsUpto_row_tie rfl ⟨rfl, rfl⟩ (by kernel_rfl) rfl limits_plain (by kernel_rfl)
end Go.Proofs.YtnahdpjbddfhgaaGreatDoor
