/- A part of the proof: the program logic AL, the walks of the functions that the law calls, what they compute. No condition of its own. -/
import Derived.Test.YtnahdpjbddfhgaaGreatDoorL00
import Derived.Orders
import Derived.Laws.IdiomStrings
import Derived.Laws.MakeOwn
set_option linter.unusedVariables false
set_option linter.unusedSimpArgs false
/- AL, part I: a statement that leaves its order open: operations that leave the symbolic heap avs it is may come in whatever order; a tail that waits for all of them comes behind. -/
namespace Go.AL
open Go Go.RowKit

variable {P : Program} {N : Nat}

/-- an operation that leaves the symbolic heap avs it is and gives this -/
def APure (P : Program) (N : Nat) (o : Oper) (env : Env) (σ : AHeap) (av : AV) : Prop :=
  ∀ (G : Ghost) (w : World) (act : Act), St G σ w → (∀ x a, opnd env x = some a → VRel G (act.eval x) a) → ∀ (K : Act → World → Prop) (Q : Exit → Act → World → Prop),
    (∀ v w' G', G.le G' → St G' σ w' → VRel G' v av → K (act.put o.dst v) w') → o.wp P act w K Q

theorem apure_val {o : Oper} {env : Env} {σ : AHeap} {av : AV} (h : AVal P o env σ fun a σ' => a = av ∧ σ' = σ) : APure P N o env σ av := by
  intro G w act hst he K Q hk
  obtain ⟨v, w', G', av', σ', hr, hG, hst', hv, rfl, rfl⟩ := h G w act.eval hst he
  unfold Oper.wp
  rw [hr]
  exact hk v w' G' hG hst' hv

theorem apure_call {o : Oper} {env : Env} {σ : AHeap} {av : AV} {f : FuncId} {args : List Operand} {ts : Array TypeId} {avs : List AV} (ho : o.op = .call { callee := .value (.func f), args := args.toArray, argTypes := ts })
    (hc : Callable P f) (hargs : opnds env args = some avs) (hspec : ASpec P f avs σ fun r σ' => r = .ret av ∧ σ' = σ) : APure P N o env σ av := by
  intro G w act hst he K Q hk
  have hv := opnds_vrels he hargs
  unfold Oper.wp
  have hr : (execOp act.eval o).run P w = .ok (.enter f (args.toArray.map act.eval)) w := by
    have := hc (args.toArray.map act.eval) w
    simp only [List.map_toArray] at this
    simp [execOp, ho, resolve, Deferred.ofValue, Act.eval, invoke]
    exact this
  rw [hr, Oper.upon_enter]
  refine (hspec G w _ hst hv).mono fun e w' ⟨G', σ', r, hG, hst', hr', e1, e2⟩ => ?_
  subst e1 e2
  cases e with
  | returned v => exact hk v w' G' hG hst' hr'
  | panicked c => exact hr'.elim
  | outgrown => exact hr'.elim

def lookT (o : Oper) : List Tmp := o.op.operands.toList.filterMap fun | .tmp t => some t | _ => none
def preOf (o : Oper) : List Nat := o.after.toList.filterMap fun e => bif Region.binds .any e then some e.on else none

/-- which operation writes a temporary -/
def isDst (t : Tmp) (o : Oper) : Bool := match o.dst with | some d => Nat.beq d t | none => false
def writer (ops : List Oper) (t : Tmp) : Option Nat := ops.findIdx? (isDst t)

/-- the temporaries that an operation looks at, its guard's among them -/
def looksL (ops : List Oper) (o : Oper) : List Tmp := lookT o ++ (match o.guard with | some (g, _) => (match ops[g]? with | some og => og.dst.toList | none => []) | none => [])

/-- who writes what an operation looks at is ordered against it -/
def lookOk (ops : List Oper) (j : Nat) (o : Oper) (t : Tmp) : Bool :=
  match writer ops t with
  | none => true
  | some i => bif Nat.blt i j then (preOf o).any (Nat.beq i) else (bif Nat.blt j i then (match ops[i]? with | some oi => (preOf oi).any (Nat.beq j) | none => false) else false)

def opOk (ops : List Oper) (j : Nat) (o : Oper) : Bool :=
  (preOf o).all (fun e => Nat.blt e j) && ((looksL ops o).all (lookOk ops j o)) && (match o.dst with | some d => (match writer ops d with | some i => Nat.beq i j | none => false) | none => true)

def allIdx (p : Nat → Oper → Bool) : List Oper → Nat → Bool
  | [], _ => true
  | o :: r, j => p j o && allIdx p r (j + 1)

theorem allIdx_spec {p : Nat → Oper → Bool} : ∀ (l : List Oper) (k : Nat), allIdx p l k = true → ∀ (j : Nat) (o : Oper), l[j]? = some o → p (k + j) o = true
  | [], _, _, j, o, h => by simp at h
  | x :: r, k, h, j, o, ho => by
    simp only [allIdx, Bool.and_eq_true] at h
    cases j with
    | zero => simp only [List.getElem?_cons_zero, Option.some.injEq] at ho; subst ho; simpa using h.1
    | succ j =>
      have := allIdx_spec r (k + 1) h.2 j o (by simpa using ho)
      rwa [Nat.add_assoc, Nat.add_comm 1 j] at this

/-- the certificate of what stands ahead of each operation -/
def cloOk (ops : List Oper) (B : List Nat) (m : Nat) : Bool :=
  allIdx (fun k o => ((List.range k).all fun i => !(B.getD k 0).testBit i || (preOf o).any fun e => Nat.blt e k && (Nat.beq e i || (Nat.blt i e && (B.getD e 0).testBit i))) &&
    (Nat.blt k m || (List.range k).all fun i => (B.getD k 0).testBit i)) ops 0

def expect (ops : List Oper) (vals : Nat → AV) (listed : Array Bool) (env : Env) (t : Tmp) : Option AV :=
  match writer ops t with
  | some j => bif listed.getD j true then some (vals j) else look env t
  | none => look env t

structure DInv (ops : List Oper) (m : Nat) (vals : Nat → AV) (env : Env) (σ : AHeap) (G : Ghost) (N : Nat) (ds : List Deferred) (listed : Array Bool) (act : Act) (w : World) : Prop where
  st : St G σ w
  size : act.tmps.size = N
  defers : act.defers = ds
  tmps : ∀ t a, expect ops vals listed env t = some a → VRel G (act.tmps.getD t undef) a
  lsize : listed.size = ops.length
  closed : ∀ (j : Nat) (o : Oper), ops[j]? = some o → listed.getD j true = true → ∀ e ∈ preOf o, e < ops.length → listed.getD e true = true
  tail : ∀ j, m ≤ j → j < ops.length → listed.getD j true = false

theorem mem_ready {ops : List Oper} {listed : Array Bool} {i : Nat} (h : i ∈ Region.ready .any ops.toArray listed) :
    ∃ o, ops[i]? = some o ∧ listed.getD i true = false ∧ ∀ e ∈ preOf o, listed.getD e false = true := by
  simp only [Region.ready, List.mem_filter, List.mem_range, Bool.and_eq_true, Bool.not_eq_true'] at h
  obtain ⟨h1, h2, h3⟩ := h
  cases ho : ops[i]? with
  | none => simp [ho] at h3
  | some o =>
    refine ⟨o, rfl, h2, fun e he => ?_⟩
    simp only [List.getElem?_toArray, ho, Option.map_some, Option.getD_some, Array.all_eq_true_iff_forall_mem, Bool.or_eq_true, Bool.not_eq_true'] at h3
    simp only [preOf, List.mem_filterMap, Array.mem_toList_iff] at he
    obtain ⟨ed, hed, he2⟩ := he
    cases hb : Region.binds .any ed with
    | false => simp [hb] at he2
    | true =>
      simp only [hb, cond_true, Option.some.injEq] at he2
      subst he2
      rcases h3 ed hed with h | h
      · rw [hb] at h; exact absurd h (by simp)
      · exact h

def restr (ts : List Tmp) (env : Env) : Env := ts.filterMap fun t => match look env t with | some a => some (t, a) | none => none

theorem look_restr {env : Env} : ∀ {ts : List Tmp} {t : Tmp} {a : AV}, look (restr ts env) t = some a → t ∈ ts ∧ look env t = some a
  | [], t, a, h => by simp [restr, look] at h
  | u :: r, t, a, h => by
    simp only [restr, List.filterMap_cons] at h
    split at h
    · have := look_restr (ts := r) h; exact ⟨List.mem_cons_of_mem _ this.1, this.2⟩
    · rename_i b hb
      split at hb
      · rename_i a' ha'
        simp only [Option.some.injEq] at hb
        subst hb
        rw [look_cons] at h
        split at h
        · rename_i e; simp only [Option.some.injEq] at h; subst h e; exact ⟨List.mem_cons_self, ha'⟩
        · have := look_restr (ts := r) h; exact ⟨List.mem_cons_of_mem _ this.1, this.2⟩
      · exact absurd hb (by simp)

/-- one operation of the first part, in the text's order -/
def stepP (P : Program) (N : Nat) (ops : List Oper) (σ : AHeap) (o : Oper) (env : Env) (av : AV) : Prop :=
  match o.guard with
  | none => APure P N o (restr (lookT o) env) σ av
  | some (g, b) => match ops[g]? with
    | some og => match og.dst with
      | some d => ∃ bv, look env d = some (.v (.bool bv)) ∧ (bv = b → APure P N o (restr (lookT o) env) σ av) ∧ (bv ≠ b → av = .v undef)
      | none => False
    | none => False

/-- the first part, walked in the text's order -/
def DP (P : Program) (N : Nat) (ops : List Oper) (σ : AHeap) (K : Env → Prop) : List Oper → Env → Prop
  | [], env => K env
  | o :: r, env => ∃ av, stepP P N ops σ o env av ∧ DP P N ops σ K r (puts env o.dst av)

def envs : List Oper → List AV → Env → Env
  | o :: r, v :: vs, env => envs r vs (puts env o.dst v)
  | _, _, env => env

theorem DP.vals {ops : List Oper} {σ : AHeap} {K : Env → Prop} : ∀ {l : List Oper} {env : Env}, DP P N ops σ K l env →
    ∃ vs : List AV, vs.length = l.length ∧ (∀ (j : Nat) (o : Oper), l[j]? = some o → ∃ av, vs[j]? = some av ∧ stepP P N ops σ o (envs (l.take j) (vs.take j) env) av) ∧ K (envs l vs env)
  | [], env, h => ⟨[], rfl, by simp, h⟩
  | o :: r, env, h => by
    obtain ⟨av, h1, h2⟩ := h
    obtain ⟨vs, k1, k2, k3⟩ := DP.vals h2
    refine ⟨av :: vs, by simp [k1], fun j o' ho => ?_, k3⟩
    cases j with
    | zero => simp only [List.getElem?_cons_zero, Option.some.injEq] at ho; subst ho; exact ⟨av, rfl, h1⟩
    | succ j =>
      obtain ⟨a', g1, g2⟩ := k2 j o' (by simpa using ho)
      exact ⟨a', by simpa using g1, by simpa [envs] using g2⟩

theorem envs_snoc : ∀ (l : List Oper) (vs : List AV) (env : Env) (j : Nat) (o : Oper) (v : AV), l[j]? = some o → vs[j]? = some v →
    envs (l.take (j + 1)) (vs.take (j + 1)) env = puts (envs (l.take j) (vs.take j) env) o.dst v
  | [], vs, env, j, o, v, h, k => by simp at h
  | x :: r, [], env, j, o, v, h, k => by simp at k
  | x :: r, y :: ys, env, 0, o, v, h, k => by
    simp only [List.getElem?_cons_zero, Option.some.injEq] at h k
    subst h k
    simp [envs]
  | x :: r, y :: ys, env, j + 1, o, v, h, k => by
    have := envs_snoc r ys (puts env x.dst y) j o v (by simpa using h) (by simpa using k)
    simpa [envs] using this

/-- what the text's order leaves in a temporary -/
theorem look_envs {ops : List Oper} {vs : List AV} {env : Env} {m : Nat} (hlen : vs.length = m) (hm : m ≤ ops.length)
    (hw : ∀ (j : Nat) (o : Oper) (d : Tmp), ops[j]? = some o → o.dst = some d → writer ops d = some j) (t : Tmp) : ∀ j, j ≤ m →
    look (envs ((ops.take m).take j) (vs.take j) env) t = match writer ops t with
      | some i => if i < j then vs[i]? else look env t
      | none => look env t := by
  intro j
  induction j with
  | zero => intro _; simp [envs]; split <;> rfl
  | succ j ih =>
    intro hj
    have hjl : j < ops.length := by omega
    have ho : (ops.take m)[j]? = some ops[j] := by rw [List.getElem?_take, if_pos (by omega)]; exact List.getElem?_eq_getElem hjl
    have ho' : ops[j]? = some ops[j] := List.getElem?_eq_getElem hjl
    have hv : vs[j]? = some vs[j] := List.getElem?_eq_getElem (by omega)
    rw [envs_snoc _ _ _ _ _ _ ho hv]
    have ih' := ih (by omega)
    cases hd : ops[j].dst with
    | none =>
      simp only [puts]
      rw [ih']
      cases hwt : writer ops t with
      | none => rfl
      | some i =>
        simp only
        by_cases hi : i = j
        · subst hi
          -- the writer of t has no place to write to
          have := List.findIdx?_eq_some_iff_getElem.1 hwt
          obtain ⟨h1, h2, _⟩ := this
          simp [isDst, hd] at h2
        · by_cases h1 : i < j
          · rw [if_pos h1, if_pos (by omega)]
          · rw [if_neg h1, if_neg (by omega)]
    | some d =>
      have hwd := hw j _ d ho' hd
      simp only [puts, look_cons]
      by_cases hdt : d = t
      · subst hdt
        rw [if_pos rfl, hwd]
        simp only
        rw [if_pos (by omega), hv]
      · rw [if_neg hdt, ih']
        cases hwt : writer ops t with
        | none => rfl
        | some i =>
          simp only
          by_cases hi : i = j
          · subst hi
            have := List.findIdx?_eq_some_iff_getElem.1 hwt
            obtain ⟨h1, h2, _⟩ := this
            simp only [isDst, hd] at h2
            exact absurd (Nat.eq_of_beq_eq_true h2) hdt
          · by_cases h1 : i < j
            · rw [if_pos h1, if_pos (by omega)]
            · rw [if_neg h1, if_neg (by omega)]

/-- the certificate's word -/
theorem clo_listed {ops : List Oper} {B : List Nat} {m : Nat} (h : cloOk ops B m = true) {listed : Array Bool} (hls : listed.size = ops.length)
    (hcl : ∀ (j : Nat) (o : Oper), ops[j]? = some o → listed.getD j true = true → ∀ e ∈ preOf o, e < ops.length → listed.getD e true = true) :
    ∀ (k : Nat) (o : Oper), ops[k]? = some o → (∀ e ∈ preOf o, e < ops.length → listed.getD e true = true) → ∀ i, i < k → (B.getD k 0).testBit i = true → listed.getD i true = true := by
  intro k
  induction k using Nat.strongRecOn with
  | _ k ih =>
    intro o ho hp i hi hb
    have hs := allIdx_spec _ _ h k o ho
    simp only [Nat.zero_add, Bool.and_eq_true, List.all_eq_true, List.mem_range, Bool.or_eq_true, Bool.not_eq_true', List.any_eq_true] at hs
    have hk : k < ops.length := (List.getElem?_eq_some_iff.1 ho).1
    rcases hs.1 i hi with h1 | ⟨e, he, h2, h3⟩
    · rw [hb] at h1; exact absurd h1 (by simp)
    · have hek : e < k := by simpa [Nat.blt_eq] using h2
      have hle := hp e he (by omega)
      rcases h3 with h3 | ⟨h3, h4⟩
      · rw [← Nat.eq_of_beq_eq_true h3]; exact hle
      · have hie : i < e := by simpa [Nat.blt_eq] using h3
        have hoe : ops[e]? = some ops[e] := List.getElem?_eq_getElem (by omega)
        exact ih e hek _ hoe (hcl e _ hoe hle) i hie h4

theorem getD_set {l : Array Bool} {i j : Nat} {n : Nat} (hs : l.size = n) (hi : i < n) (hj : j < n) (d : Bool) : (l.setIfInBounds i true).getD j d = if j = i then true else l.getD j d := by
  by_cases h : j = i
  · subst h; simp [Array.getD_eq_getD_getElem?, hs, hi]
  · rw [if_neg h]
    simp [Array.getD_eq_getD_getElem?, Array.getElem?_setIfInBounds, show ¬ i = j from fun e => h e.symm]

theorem getD_any {l : Array Bool} {j n : Nat} (hs : l.size = n) (hj : j < n) (d d' : Bool) : l.getD j d = l.getD j d' := by
  simp [Array.getD_eq_getD_getElem?, hs, hj]

/-- an operation all of whose edges are behind it and listed may come -/
theorem ready_of {ops : List Oper} {listed : Array Bool} {k : Nat} (hk : k < ops.length) (hl : listed.getD k true = false) (hp : ∀ e ∈ preOf ops[k], listed.getD e false = true) :
    k ∈ Region.ready .any ops.toArray listed := by
  simp only [Region.ready, List.mem_filter, List.mem_range, Bool.and_eq_true, Bool.not_eq_true', List.size_toArray]
  refine ⟨hk, hl, ?_⟩
  simp only [List.getElem?_toArray, List.getElem?_eq_getElem hk, Option.map_some, Option.getD_some, Array.all_eq_true_iff_forall_mem, Bool.or_eq_true, Bool.not_eq_true']
  intro e he
  cases hb : Region.binds .any e with
  | false => exact .inl rfl
  | true => exact .inr (hp e.on (by simp only [preOf, List.mem_filterMap, Array.mem_toList_iff]; exact ⟨e, he, by simp [hb]⟩))

theorem opOk_spec {ops : List Oper} (h : allIdx (opOk ops) ops 0 = true) {j : Nat} {o : Oper} (ho : ops[j]? = some o) :
    (∀ e ∈ preOf o, e < j) ∧ (∀ t ∈ looksL ops o, lookOk ops j o t = true) ∧ ∀ d, o.dst = some d → writer ops d = some j := by
  have := allIdx_spec _ _ h j o ho
  simp only [Nat.zero_add, opOk, Bool.and_eq_true, List.all_eq_true] at this
  refine ⟨fun e he => by simpa [Nat.blt_eq] using this.1.1 e he, this.1.2, fun d hd => ?_⟩
  have h2 := this.2
  rw [hd] at h2
  simp only at h2
  split at h2
  · rename_i i hi; rw [hi, Nat.eq_of_beq_eq_true h2]
  · exact absurd h2 (by simp)

/-- some operation may come avs long avs not all have come -/
theorem some_ready {ops : List Oper} (h : allIdx (opOk ops) ops 0 = true) {listed : Array Bool} (hls : listed.size = ops.length) {k : Nat} (hk : k < ops.length) (hl : listed.getD k true = false) :
    ∃ j, j ∈ Region.ready .any ops.toArray listed := by
  induction k using Nat.strongRecOn with
  | _ k ih =>
    by_cases hp : ∀ e ∈ preOf ops[k], listed.getD e false = true
    · exact ⟨k, ready_of hk hl hp⟩
    · have : ∃ e ∈ preOf ops[k], listed.getD e false = false := by
        apply Classical.byContradiction
        intro hn
        apply hp
        intro e he
        cases hc : listed.getD e false with
        | true => rfl
        | false => exact absurd ⟨e, he, hc⟩ hn
      obtain ⟨e, he, hc⟩ := this
      have hek := (opOk_spec h (List.getElem?_eq_getElem hk)).1 e he
      exact ih e hek (by omega) (by rw [getD_any hls (by omega) true false]; exact hc)

theorem any_tail {ops : List Oper} {B : List Nat} {m : Nat} (h1 : allIdx (opOk ops) ops 0 = true) (h2 : cloOk ops B m = true) {Q : Exit → Act → World → Prop} : ∀ (fuel k : Nat) (listed : Array Bool) (act : Act) (w : World),
    k ≤ ops.length → m ≤ k → ops.length - k ≤ fuel → listed.size = ops.length → (∀ i, i < ops.length → listed.getD i true = decide (i < k)) → wpList P ops.toArray Q (ops.drop k) act w →
    wpAny P .any ops.toArray Q fuel listed act w := by
  have ready_eq : ∀ (k : Nat) (listed : Array Bool), m ≤ k → listed.size = ops.length → (∀ i, i < ops.length → listed.getD i true = decide (i < k)) → ∀ i ∈ Region.ready .any ops.toArray listed, i = k := by
    intro k listed hmk hls hl i hi
    obtain ⟨o, ho, g1, g2⟩ := mem_ready hi
    have hil := (List.getElem?_eq_some_iff.1 ho).1
    have : ¬ i < k := by intro hc; rw [hl i hil] at g1; simp [hc] at g1
    apply Classical.byContradiction
    intro hne
    have hki : k < i := by omega
    have hs := allIdx_spec _ _ h2 i o ho
    simp only [Nat.zero_add, Bool.and_eq_true, List.all_eq_true, List.mem_range, Bool.or_eq_true] at hs
    have hb : (B.getD i 0).testBit k = true := by
      rcases hs.2 with hc | hc
      · have : i < m := by simpa [Nat.blt_eq] using hc
        omega
      · exact hc k hki
    have hcl : ∀ (j : Nat) (o : Oper), ops[j]? = some o → listed.getD j true = true → ∀ e ∈ preOf o, e < ops.length → listed.getD e true = true := by
      intro j o' ho' hj e he hel
      have hjl := (List.getElem?_eq_some_iff.1 ho').1
      have hjk : j < k := by rw [hl j hjl] at hj; simpa using hj
      have := (opOk_spec h1 ho').1 e he
      rw [hl e hel]; simp; omega
    have := clo_listed h2 hls hcl i o ho (fun e he hel => by rw [getD_any hls hel true false]; exact g2 e he) k hki hb
    rw [hl k (by omega)] at this
    simp at this
  intro fuel
  induction fuel with
  | zero =>
    intro k listed act w hk hmk hf hls hl hw
    have : k = ops.length := by omega
    subst this
    rw [List.drop_length] at hw
    refine ⟨?_, hw⟩
    cases hr : Region.ready .any ops.toArray listed with
    | nil => rfl
    | cons i r =>
      have := ready_eq _ listed hmk hls hl i (by rw [hr]; exact List.mem_cons_self)
      obtain ⟨o, ho, _, _⟩ := mem_ready (by rw [hr]; exact List.mem_cons_self : i ∈ Region.ready .any ops.toArray listed)
      have := (List.getElem?_eq_some_iff.1 ho).1
      omega
  | succ fuel ih =>
    intro k listed act w hk hmk hf hls hl hw
    refine ⟨fun hr => ?_, fun i hi => ?_⟩
    · by_cases hke : k = ops.length
      · subst hke; rw [List.drop_length] at hw; exact hw
      · obtain ⟨j, hj⟩ := some_ready h1 hls (k := k) (by omega) (by rw [hl k (by omega)]; simp)
        rw [hr] at hj
        exact absurd hj (by simp)
    · have hik := ready_eq k listed hmk hls hl i hi
      subst hik
      obtain ⟨o, ho, _, _⟩ := mem_ready hi
      have hil := (List.getElem?_eq_some_iff.1 ho).1
      have hd : ops.drop i = o :: ops.drop (i + 1) := by
        rw [List.drop_eq_getElem_cons hil]
        have : ops[i] = o := by simpa [List.getElem?_eq_getElem hil] using ho
        rw [this]
      rw [hd] at hw
      unfold wpOp
      simp only [List.getElem?_toArray, ho]
      unfold wpList at hw
      have hl' : ∀ j, j < ops.length → (listed.setIfInBounds i true).getD j true = decide (j < i + 1) := by
        intro j hj
        rw [getD_set hls hil hj]
        by_cases hji : j = i
        · subst hji; simp
        · rw [if_neg hji, hl j hj]
          by_cases hc : j < i <;> simp [hc] <;> omega
      have step : ∀ act w, wpList P ops.toArray Q (ops.drop (i + 1)) act w → wpAny P .any ops.toArray Q fuel (listed.setIfInBounds i true) act w :=
        fun act w hw => ih (i + 1) _ act w (by omega) (by omega) (by omega) (by simp [hls]) hl' hw
      split
      · rename_i hwt
        rw [if_pos hwt] at hw
        rcases hw with hw | hw
        · exact .inl (Oper.wp_mono step hw)
        · exact .inr hw
      · rename_i hwt
        rw [if_neg hwt] at hw
        exact step _ _ hw

theorem any_pre {ops : List Oper} {B : List Nat} {m : Nat} (hm : m ≤ ops.length) (h1 : allIdx (opOk ops) ops 0 = true) (h2 : cloOk ops B m = true) {σ : AHeap} {env : Env} {vs : List AV} (hlen : vs.length = m)
    (hstep : ∀ (j : Nat) (o : Oper), (ops.take m)[j]? = some o → ∃ av, vs[j]? = some av ∧ stepP P N ops σ o (envs ((ops.take m).take j) (vs.take j) env) av)
    {Q : Exit → Env → AHeap → Prop} (hfin : AOps P N ops.toArray Q (ops.drop m) (envs (ops.take m) vs env) σ) (hd : (ops.all fun o => dstOk N o.dst) = true) (G0 : Ghost) (ds : List Deferred) :
    ∀ (fuel : Nat) (listed : Array Bool) (act : Act) (w : World) (G : Ghost), ((List.range ops.length).filter fun i => !listed.getD i true).length ≤ fuel → G0.le G →
      DInv ops m (fun j => vs.getD j (.v undef)) env σ G N ds listed act w → wpAny P .any ops.toArray (Lift G0 N ds Q) fuel listed act w := by
  have hw : ∀ (j : Nat) (o : Oper) (d : Tmp), ops[j]? = some o → o.dst = some d → writer ops d = some j := fun j o d ho hd => (opOk_spec h1 ho).2.2 d hd
  -- when the whole first part has come, the rest comes in the text's order
  have finish : ∀ (fuel : Nat) (listed : Array Bool) (act : Act) (w : World) (G : Ghost), ops.length - m ≤ fuel → G0.le G →
      DInv ops m (fun j => vs.getD j (.v undef)) env σ G N ds listed act w → (∀ i, i < m → listed.getD i true = true) → wpAny P .any ops.toArray (Lift G0 N ds Q) fuel listed act w := by
    intro fuel listed act w G hf hG hi hall
    refine any_tail h1 h2 fuel m listed act w hm (Nat.le_refl _) hf hi.lsize (fun i hil => ?_) ?_
    · by_cases hc : i < m
      · rw [hall i hc]; simp [hc]
      · rw [hi.tail i (by omega) hil]; simp [hc]
    · have he : ERel G N act (envs (ops.take m) vs env) := by
        refine ⟨hi.size, fun t a ha => hi.tmps t a ?_⟩
        have := look_envs (env := env) hlen hm hw t m (Nat.le_refl _)
        rw [List.take_of_length_le (l := vs) (by omega), List.take_of_length_le (l := ops.take m) (by simp; omega)] at this
        rw [this] at ha
        unfold expect
        split
        · rename_i i hwi
          rw [hwi] at ha
          simp only at ha
          have hil : i < ops.length := by have := List.findIdx?_eq_some_iff_getElem.1 hwi; exact this.1
          by_cases hc : i < m
          · rw [if_pos hc] at ha
            rw [hall i hc]
            simp [ha]
          · rw [if_neg hc] at ha
            rw [hi.tail i (by omega) hil]
            simpa using ha
        · rename_i hwn
          rw [hwn] at ha
          exact ha
      have := hfin G w act hi.st he
      rw [hi.defers] at this
      exact wpList_mono' (fun _ _ _ hq => hq.mono hG fun _ _ _ q => q) _ _ _ this
  have unl : ∀ (listed : Array Bool), ops.length ≤ ops.length → (∀ i, i < m → listed.getD i true = true) → True := fun _ _ _ => trivial
  intro fuel
  induction fuel with
  | zero =>
    intro listed act w G hf hG hi
    have hnil : (List.range ops.length).filter (fun i => !listed.getD i true) = [] := List.eq_nil_of_length_eq_zero (by omega)
    have hall : ∀ i, i < ops.length → listed.getD i true = true := by
      intro i hil
      cases hc : listed.getD i true with
      | true => rfl
      | false =>
        have : i ∈ (List.range ops.length).filter (fun i => !listed.getD i true) := by simp [hil]; simpa using hc
        rw [hnil] at this
        exact absurd this (by simp)
    refine finish 0 listed act w G ?_ hG hi (fun i hi' => hall i (by omega))
    by_cases hme : m = ops.length
    · omega
    · have := hi.tail m (Nat.le_refl _) (by omega)
      rw [hall m (by omega)] at this
      exact absurd this (by simp)
  | succ fuel ih =>
    intro listed act w G hf hG hi
    by_cases hall : ∀ i, i < m → listed.getD i true = true
    · refine finish (fuel + 1) listed act w G ?_ hG hi hall
      refine Nat.le_trans ?_ hf
      have : ((List.range ops.length).filter fun i => !decide (i < m)).length ≤ ((List.range ops.length).filter fun i => !listed.getD i true).length := by
        rw [List.filter_congr (q := fun i => !listed.getD i true)]
        · exact Nat.le_refl _
        · intro i hir
          have hil : i < ops.length := by simpa using hir
          by_cases hc : i < m
          · rw [hall i hc]; simp [hc]
          · rw [hi.tail i (by omega) hil]; simp [hc]
      refine Nat.le_trans ?_ this
      have e : ops.length = m + (ops.length - m) := by omega
      rw [e, List.range_add]
      simp only [List.filter_append, List.length_append, List.filter_map, List.length_map]
      have : ((List.range (ops.length - m)).filter ((fun i => !decide (i < m)) ∘ fun x => m + x)).length = ops.length - m := by
        rw [List.filter_eq_self.2]
        · simp
        · intro x _; simp
      omega
    · -- something of the first part is still to come
      obtain ⟨k, hkm, hkl⟩ : ∃ k, k < m ∧ listed.getD k true = false := by
        apply Classical.byContradiction
        intro hn
        apply hall
        intro i hi'
        cases hc : listed.getD i true with
        | true => rfl
        | false => exact absurd ⟨i, hi', hc⟩ hn
      refine ⟨fun hr => ?_, fun i hir => ?_⟩
      · obtain ⟨j, hj⟩ := some_ready h1 hi.lsize (k := k) (by omega) hkl
        rw [hr] at hj
        exact absurd hj (by simp)
      · obtain ⟨o, ho, g1, g2⟩ := mem_ready hir
        have hil := (List.getElem?_eq_some_iff.1 ho).1
        have him : i < m := by
          apply Classical.byContradiction
          intro hc
          have hs := allIdx_spec _ _ h2 i o ho
          simp only [Nat.zero_add, Bool.and_eq_true, List.all_eq_true, List.mem_range, Bool.or_eq_true] at hs
          have hb : (B.getD i 0).testBit k = true := by
            rcases hs.2 with hc' | hc'
            · have : i < m := by simpa [Nat.blt_eq] using hc'
              omega
            · exact hc' k (by omega)
          have := clo_listed h2 hi.lsize hi.closed i o ho (fun e he hel => by rw [getD_any hi.lsize hel true false]; exact g2 e he) k (by omega) hb
          rw [hkl] at this
          exact absurd this (by simp)
        have hotake : (ops.take m)[i]? = some o := by rw [List.getElem?_take, if_pos him]; exact ho
        obtain ⟨av, hav, hsp⟩ := hstep i o hotake
        obtain ⟨q1, q2, q3⟩ := opOk_spec h1 ho
        -- what the operation looks at is avs the text's order leaves it
        have hlook : ∀ t ∈ looksL ops o, ∀ a, look (envs ((ops.take m).take i) (vs.take i) env) t = some a → VRel G (act.tmps.getD t undef) a := by
          intro t ht a ha
          refine hi.tmps t a ?_
          rw [look_envs hlen hm hw t i (by omega)] at ha
          have hok := q2 t ht
          unfold lookOk at hok
          unfold expect
          split
          · rename_i j hwj
            rw [hwj] at hok ha
            simp only at hok ha
            have hjl : j < ops.length := (List.findIdx?_eq_some_iff_getElem.1 hwj).1
            by_cases hji : j < i
            · rw [if_pos hji] at ha
              have : Nat.blt j i = true := by simpa [Nat.blt_eq] using hji
              rw [this] at hok
              simp only [cond_true, List.any_eq_true] at hok
              obtain ⟨e, he, hee⟩ := hok
              have := Nat.eq_of_beq_eq_true hee
              subst this
              have hle := g2 _ he
              rw [getD_any hi.lsize hjl true false, hle]
              simp [ha]
            · rw [if_neg hji] at ha
              have hnb : Nat.blt j i = false := by
                cases hc : Nat.blt j i with
                | false => rfl
                | true => exact absurd (by simpa [Nat.blt_eq] using hc) hji
              rw [hnb] at hok
              simp only [cond_false] at hok
              cases hb2 : Nat.blt i j with
              | false => rw [hb2] at hok; exact absurd hok (by simp)
              | true =>
                rw [hb2] at hok
                simp only [cond_true] at hok
                have hoj : ops[j]? = some ops[j] := List.getElem?_eq_getElem hjl
                rw [hoj] at hok
                simp only [List.any_eq_true] at hok
                obtain ⟨e, he, hee⟩ := hok
                have := Nat.eq_of_beq_eq_true hee
                subst this
                have hjf : listed.getD j true = false := by
                  cases hc : listed.getD j true with
                  | false => rfl
                  | true =>
                    have := hi.closed j _ hoj hc _ he hil
                    rw [this] at g1
                    exact absurd g1 (by simp)
                rw [hjf]
                simpa using ha
          · rename_i hwn
            rw [hwn] at ha
            exact ha
        have hlk : ∀ x a, opnd (restr (lookT o) (envs ((ops.take m).take i) (vs.take i) env)) x = some a → VRel G (act.eval x) a := by
          intro x a hx
          cases x with
          | tmp t =>
            obtain ⟨k1, k2⟩ := look_restr (show look _ t = some a from hx)
            exact hlook t (by simp [looksL, k1]) a k2
          | const x => simp only [opnd, Option.some.injEq] at hx; subst hx; exact .v _
          | global g => simp only [opnd, Option.some.injEq] at hx; subst hx; exact .v _
          | func f => simp only [opnd, Option.some.injEq] at hx; subst hx; exact .v _
        -- and behind it the relation holds with it listed
        have next : ∀ (v : Value) (w' : World) (G' : Ghost), G.le G' → St G' σ w' → VRel G' v av → wpAny P .any ops.toArray (Lift G0 N ds Q) fuel (listed.setIfInBounds i true) (act.put o.dst v) w' := by
          intro v w' G' hG' hst' hv
          have hdo : dstOk N o.dst = true := by
            simp only [List.all_eq_true] at hd
            exact hd o (List.mem_of_getElem? ho)
          refine ih _ _ _ G' ?_ (hG.trans hG') ⟨hst', ?_, ?_, ?_, ?_, ?_, ?_⟩
          · have hlt : ((List.range ops.length).filter fun j => !(listed.setIfInBounds i true).getD j true).length < ((List.range ops.length).filter fun j => !listed.getD j true).length := by
              have hsub : (List.range ops.length).filter (fun j => !(listed.setIfInBounds i true).getD j true) = ((List.range ops.length).filter fun j => !listed.getD j true).filter fun j => decide (j ≠ i) := by
                rw [List.filter_filter]
                apply List.filter_congr
                intro j hj
                have hjl : j < ops.length := by simpa using hj
                rw [getD_set hi.lsize hil hjl]
                by_cases e : j = i <;> simp [e]
              rw [hsub]
              refine List.length_filter_lt_length_iff_exists.2 ⟨i, ?_, by simp⟩
              simp [hil]
              simpa using g1
            omega
          · cases o.dst <;> simp [Act.put, hi.size]
          · rw [Act.put_defers]; exact hi.defers
          · intro t a ha
            have hwr : ∀ j, writer ops t = some j → j < ops.length := fun j hj => (List.findIdx?_eq_some_iff_getElem.1 hj).1
            by_cases hdt : o.dst = some t
            · have hwt := q3 t hdt
              unfold expect at ha
              rw [hwt] at ha
              simp only [getD_set hi.lsize hil hil, if_true, cond_true, Option.some.injEq] at ha
              rw [hdt] at hdo ⊢
              have htN : t < act.tmps.size := by rw [hi.size]; simpa [dstOk, Nat.blt_eq] using hdo
              have : (act.put (some t) v).tmps.getD t undef = v := by simp [Act.put, Array.getD, htN]
              rw [this]
              have e : vs.getD i (.v undef) = av := by simp [List.getD, hav]
              rw [e] at ha
              rw [← ha]; exact hv
            · have hsame : (act.put o.dst v).tmps.getD t undef = act.tmps.getD t undef := by
                cases hd' : o.dst with
                | none => rfl
                | some d =>
                  have : d ≠ t := fun e => hdt (by rw [hd', e])
                  simp [Act.put, Array.getD_eq_getD_getElem?, Array.getElem?_setIfInBounds, this]
              rw [hsame]
              refine (hi.tmps t a ?_).mono hG'
              unfold expect at ha ⊢
              split at ha
              · rename_i j hwj
                have hji : j ≠ i := by
                  intro e
                  subst e
                  obtain ⟨_, h5, _⟩ := List.findIdx?_eq_some_iff_getElem.1 hwj
                  have : ops[j] = o := by simpa [List.getElem?_eq_getElem hil] using ho
                  rw [this] at h5
                  unfold isDst at h5
                  split at h5
                  · rename_i d hd'; exact hdt (by rw [hd', Nat.eq_of_beq_eq_true h5])
                  · exact absurd h5 (by simp)
                rw [getD_set hi.lsize hil (hwr j hwj), if_neg hji] at ha
                exact ha
              · exact ha
          · simp [hi.lsize]
          · intro j o' ho' hj e he hel
            have hjl := (List.getElem?_eq_some_iff.1 ho').1
            rw [getD_set hi.lsize hil hjl] at hj
            rw [getD_set hi.lsize hil hel]
            split
            · rfl
            · split at hj
              · rename_i hji
                subst hji
                rw [ho] at ho'
                simp only [Option.some.injEq] at ho'
                subst ho'
                rw [getD_any hi.lsize hel true false]; exact g2 e he
              · exact hi.closed j o' ho' hj e he hel
          · intro j hmj hjl
            rw [getD_set hi.lsize hil hjl, if_neg (by omega)]
            exact hi.tail j hmj hjl
        unfold wpOp
        simp only [List.getElem?_toArray, ho]
        unfold stepP at hsp
        split at hsp
        · rename_i hgd
          rw [if_pos (by simp [Region.wanted, hgd])]
          exact .inl (hsp G w act hi.st hlk _ _ next)
        · rename_i g b hgd
          split at hsp
          · rename_i og hog
            split at hsp
            · rename_i d hdg
              obtain ⟨bv, hbv, hyes, hno⟩ := hsp
              have hgv : act.tmps.getD d undef = .bool bv := by
                have : d ∈ looksL ops o := by simp [looksL, hgd, hog, hdg]
                exact (hlook d this _ hbv).v_eq
              have hy : yielded ops.toArray act.tmps g = some bv := by
                have hlt : act.tmps[d]? = some (.bool bv) := by
                  cases hc : act.tmps[d]? with
                  | none => simp [Array.getD_eq_getD_getElem?, hc, undef] at hgv
                  | some x => simp [Array.getD_eq_getD_getElem?, hc] at hgv; rw [hgv]
                simp [yielded, hog, hdg, hlt]
              by_cases hbb : bv = b
              · rw [if_pos (by simp [Region.wanted, hgd, hy, hbb])]
                exact .inl (hyes hbb G w act hi.st hlk _ _ next)
              · rw [if_neg (by simp [Region.wanted, hgd, hy, hbb])]
                exact next undef w G (.refl G) hi.st (by rw [hno hbb]; exact .v _)
            · exact hsp.elim
          · exact hsp.elim

/-- A statement that leaves its order open: the first m operations leave the symbolic heap avs it is; the others wait for all ahead of them. -/
theorem awp_draw {id : Nat} {ops : List Oper} {Q : Exit → Env → AHeap → Prop} {env : Env} {σ : AHeap} (B : List Nat) (m : Nat) (hm : Nat.ble m ops.length = true) (hmix : Region.departs ops.toArray = false)
    (h1 : allIdx (opOk ops) ops 0 = true) (h2 : cloOk ops B m = true) (hd : (ops.all fun o => dstOk N o.dst) = true)
    (h : DP P N ops σ (fun env' => AOps P N ops.toArray Q (ops.drop m) env' σ) (ops.take m) env) : AWp P N (.region id ops.toArray true) Q env σ := by
  intro G w act hst he
  have hm' := Nat.le_of_ble_eq_true hm
  obtain ⟨vs, k1, k2, k3⟩ := h.vals
  have hlen : vs.length = m := by rw [k1]; simp; omega
  refine wp_region_draw fun t => ?_
  have hsch : Region.schedule (P.follows .mixedOrders) ops.toArray t = Region.linearise .any ops.toArray t := by simp [Region.schedule, hmix]
  rw [hsch]
  refine wpAny_sound ops.toArray.size t _ act _ ?_
  have hlf : ∀ i, i < ops.length → (Array.replicate ops.length false).getD i true = false := fun i hi => by simp [Array.getD_eq_getD_getElem?, hi]
  refine any_pre hm' h1 h2 hlen k2 k3 hd G act.defers _ _ act _ G ?_ (.refl G) ⟨hst.drew, he.size, rfl, ?_, by simp, ?_, fun j _ hj => by simpa using hlf j hj⟩
  · refine Nat.le_trans (List.length_filter_le _ _) ?_
    simp
  · intro t' a ha
    refine he.tmps t' a ?_
    unfold expect at ha
    split at ha
    · rename_i j hj
      have hjl := (List.findIdx?_eq_some_iff_getElem.1 hj).1
      simp only [List.size_toArray] at ha
      rw [hlf j hjl] at ha
      exact ha
    · exact ha
  · intro j o ho hj
    have hjl := (List.getElem?_eq_some_iff.1 ho).1
    simp only [List.size_toArray] at hj
    rw [hlf j hjl] at hj
    exact absurd hj (by simp)

end Go.AL
/- AL, part J: ghost steps: freezing, letting go, knowing less. -/
namespace Go.AL
open Go Go.RowKit

variable {P : Program} {N : Nat}

/-- a value in which an object's slices and pointers may have become frozen memory -/
inductive Frz (id ver : Nat) (cs : List AV) : AV → AV → Prop where
  | refl (a : AV) : Frz id ver cs a a
  | arr {off n sz : Nat} (h : off + n * sz ≤ cs.length) : Frz id ver cs (.arr id ver off n sz) (.lst ((cs.drop off).take (n * sz)) n false)
  | ref {off : Nat} : Frz id ver cs (.ref id ver off) (.pin cs off)
  | agg {l l' : List AV} (hl : l.length = l'.length) (h : ∀ (i : Nat) (a a' : AV), l[i]? = some a → l'[i]? = some a' → Frz id ver cs a a') : Frz id ver cs (.agg l) (.agg l')
  | tup {l l' : List AV} (hl : l.length = l'.length) (h : ∀ (i : Nat) (a a' : AV), l[i]? = some a → l'[i]? = some a' → Frz id ver cs a a') : Frz id ver cs (.tup l) (.tup l')
  | nil : Frz id ver cs nilS (.lst [] 0 false)
  | ex {l : List AV} {n : Nat} {ex : Bool} : Frz id ver cs (.lst l n ex) (.lst l n false)

theorem Frz.rel {G : Ghost} {id ver b : Nat} {cs : List AV} {row : Array Value} (hloc : G.loc id ver = some (b, row.size)) (hfz : G.fz b = none) (hc : CellsRel G row 0 cs) {a a' : AV} (h : Frz id ver cs a a') :
    ∀ {x : Value}, VRel G x a → VRel (G.frz b row) x a' := by
  have hle := Ghost.frz_le (cs := row) hfz
  have hc' := hc.mono hle
  have hf : (G.frz b row).fz b = some row := by simp [Ghost.frz]
  induction h with
  | refl a => exact fun hx => hx.mono hle
  | @arr off n sz h =>
    intro x hx
    rcases hx.arr_inv with ⟨rfl, _, b', o, N', h1, rfl⟩ | ⟨b', N', cap, h1, h2, h3, h4, rfl⟩
    · simpa using VRel.lst0 (G := G.frz b row) (ex := false) (by simp) (Nat.zero_le _)
    · rw [hloc] at h1
      simp only [Option.some.injEq, Prod.mk.injEq] at h1
      obtain ⟨rfl, rfl⟩ := h1
      have := hc'.sub off (n * sz) (by omega)
      rw [Nat.zero_add] at this
      exact .lst hf h3 h4 (by simp) this.1 this.2
  | @ref off =>
    intro x hx
    obtain ⟨b', N', h1, rfl⟩ := hx.ref_inv
    rw [hloc] at h1
    simp only [Option.some.injEq, Prod.mk.injEq] at h1
    obtain ⟨rfl, rfl⟩ := h1
    have := VRel.pin (G := G.frz b row) (off := off) hf hc'.1 hc'.2
    simpa using this
  | @agg l l' hl h ih =>
    intro x hx
    cases hx with
    | @agg cs' acs hl' hc'' =>
      refine .agg (by omega) fun i a' ha' => ?_
      have hi : i < l.length := by have := (List.getElem?_eq_some_iff.1 ha').1; omega
      exact ih i _ a' (List.getElem?_eq_getElem hi) ha' (hc'' i _ (List.getElem?_eq_getElem hi))
  | @tup l l' hl h ih =>
    intro x hx
    cases hx with
    | @tup cs' acs hl' hc'' =>
      refine .tup (by omega) fun i a' ha' => ?_
      have hi : i < l.length := by have := (List.getElem?_eq_some_iff.1 ha').1; omega
      exact ih i _ a' (List.getElem?_eq_getElem hi) ha' (hc'' i _ (List.getElem?_eq_getElem hi))
  | nil =>
    intro x hx
    rw [hx.v_eq]
    exact .lst0 (by simp) (Nat.zero_le _)
  | ex =>
    intro x hx
    cases hx.mono hle with
    | lst h1 h2 h3 h4 h5 h6 => exact .lst h1 h2 h3 (by simp) h5 h6
    | lst0 h1 h2 => exact .lst0 (by simp) h2

/-- an object is frozen; some slots are read anew -/
theorem gst_freeze {Q : Env → AHeap → Prop} {env : Env} {σ : AHeap} {id ver : Nat} {ty : TypeId} {cs : List AV} (hid : σ id = some (.cells ver ty cs)) (ups : List (Nat × AV))
    (hu : ∀ p ∈ ups, ∃ a, look env p.1 = some a ∧ Frz id ver cs a p.2) (h : Gst N Q (ups ++ env) (del σ id)) : Gst N Q env σ := by
  intro G w act hst he
  obtain ⟨b, N', l1, l2, l3, l4⟩ := hst.live id _ hid
  have l1' : G.loc id ver = some (b, N') := l1
  obtain ⟨row, e1, e2, e3, e4⟩ := hst.freeze hid l1'
  subst e1
  have he' : ERel (G.frz b row) N act (ups ++ env) := by
    refine ⟨he.size, fun t a ha => ?_⟩
    have key : ∀ (l : List (Nat × AV)), (∀ p ∈ l, ∃ a, look env p.1 = some a ∧ Frz id ver cs a p.2) → look (l ++ env) t = some a → VRel (G.frz b row) (act.tmps.getD t undef) a := by
      intro l
      induction l with
      | nil => intro _ ha; exact (he.tmps t a (by simpa using ha)).mono e3
      | cons p r ih =>
        intro hl ha
        rw [List.cons_append, look_cons] at ha
        split at ha
        · rename_i hk
          simp only [Option.some.injEq] at ha
          obtain ⟨a0, h1, h2⟩ := hl p List.mem_cons_self
          rw [← ha]
          rw [hk] at h1
          exact h2.rel l1' l3 e2 (he.tmps t a0 h1)
        · exact ih (fun p hp => hl p (List.mem_cons_of_mem _ hp)) ha
    exact key ups hu ha
  obtain ⟨G', env', σ', k1, k2, k3, k4⟩ := h (G.frz b row) w act e4 he'
  exact ⟨G', env', σ', e3.trans k1, k2, k3, k4⟩

theorem gst_del {Q : Env → AHeap → Prop} {env : Env} {σ : AHeap} (id : Nat) (h : Gst N Q env (del σ id)) : Gst N Q env σ :=
  fun G w act hst he => h G w act (hst.kill id) he

/-- some slots are known less of -/
theorem gst_weak {Q : Env → AHeap → Prop} {env : Env} {σ : AHeap} (ups : List (Nat × AV)) (hu : ∀ p ∈ ups, ∃ a, look env p.1 = some a ∧ ∀ (G : Ghost) (x : Value), VRel G x a → VRel G x p.2)
    (h : Gst N Q (ups ++ env) σ) : Gst N Q env σ := by
  intro G w act hst he
  refine h G w act hst ⟨he.size, fun t a ha => ?_⟩
  have key : ∀ (l : List (Nat × AV)), (∀ p ∈ l, ∃ a, look env p.1 = some a ∧ ∀ (G : Ghost) (x : Value), VRel G x a → VRel G x p.2) → look (l ++ env) t = some a → VRel G (act.tmps.getD t undef) a := by
    intro l
    induction l with
    | nil => intro _ ha; exact he.tmps t a (by simpa using ha)
    | cons p r ih =>
      intro hl ha
      rw [List.cons_append, look_cons] at ha
      split at ha
      · rename_i hk
        simp only [Option.some.injEq] at ha
        obtain ⟨a0, h1, h2⟩ := hl p List.mem_cons_self
        rw [← ha]
        rw [hk] at h1
        exact h2 _ _ (he.tmps t a0 h1)
      · exact ih (fun p hp => hl p (List.mem_cons_of_mem _ hp)) ha
  exact key ups hu ha

theorem weak_nil {G : Ghost} {x : Value} (h : VRel G x nilS) : VRel G x (.lst [] 0 false) := by rw [h.v_eq]; exact .lst0 (by simp) (Nat.zero_le _)
theorem weak_ex {G : Ghost} {x : Value} {l : List AV} {n : Nat} {ex : Bool} (h : VRel G x (.lst l n ex)) : VRel G x (.lst l n false) := by
  cases h with
  | lst h1 h2 h3 h4 h5 h6 => exact .lst h1 h2 h3 (by simp) h5 h6
  | lst0 h1 h2 => exact .lst0 (by simp) h2

/-- a contract at arguments of which less is known -/
theorem ASpec.weak {f : FuncId} {args args' : List AV} {σ : AHeap} {R : AEnd → AHeap → Prop} (hl : args.length = args'.length)
    (hw : ∀ (i : Nat) (a a' : AV), args[i]? = some a → args'[i]? = some a' → ∀ (G : Ghost) (x : Value), VRel G x a → VRel G x a') (h : ASpec P f args' σ R) : ASpec P f args σ R := by
  intro G w vs hst hv
  refine h G w vs hst ⟨by rw [hv.1]; exact hl, fun i a' ha' => ?_⟩
  have hi : i < args.length := by have := (List.getElem?_eq_some_iff.1 ha').1; omega
  exact hw i _ a' (List.getElem?_eq_getElem hi) ha' G _ (hv.2 i _ (List.getElem?_eq_getElem hi))

/-- a contract at arguments of which some are frozen before -/
theorem ASpec.freeze {f : FuncId} {args args' : List AV} {σ : AHeap} {R : AEnd → AHeap → Prop} {id ver : Nat} {ty : TypeId} {cs : List AV} (hid : σ id = some (.cells ver ty cs)) (hl : args.length = args'.length)
    (hw : ∀ (i : Nat) (a a' : AV), args[i]? = some a → args'[i]? = some a' → Frz id ver cs a a') (h : ASpec P f args' (del σ id) R) : ASpec P f args σ R := by
  intro G w vs hst hv
  obtain ⟨b, N', l1, l2, l3, l4⟩ := hst.live id _ hid
  have l1' : G.loc id ver = some (b, N') := l1
  obtain ⟨row, e1, e2, e3, e4⟩ := hst.freeze hid l1'
  subst e1
  refine (h (G.frz b row) w vs e4 ⟨by rw [hv.1]; exact hl, fun i a' ha' => ?_⟩).mono fun e w' ⟨G', σ', r, k1, k2, k3, k4⟩ => ⟨G', σ', r, e3.trans k1, k2, k3, k4⟩
  have hi : i < args.length := by have := (List.getElem?_eq_some_iff.1 ha').1; omega
  exact (hw i _ a' (List.getElem?_eq_getElem hi) ha').rel l1' l3 e2 (hv.2 i _ (List.getElem?_eq_getElem hi))

/-- a contract whose result is frozen behind it -/
theorem ASpec.post {f : FuncId} {args : List AV} {σ : AHeap} {R R' : AEnd → AHeap → Prop} (h : ASpec P f args σ R)
    (hp : ∀ r σ', R r σ' → ∀ (G : Ghost) (w : World) (e : Ending), St G σ' w → EndRel G e r → ∃ G' σ'' r', G.le G' ∧ St G' σ'' w ∧ EndRel G' e r' ∧ R' r' σ'') : ASpec P f args σ R' := by
  intro G w vs hst hv
  refine (h G w vs hst hv).mono fun e w' ⟨G', σ', r, k1, k2, k3, k4⟩ => ?_
  obtain ⟨G'', σ'', r', g1, g2, g3, g4⟩ := hp r σ' k4 G' w' e k2 k3
  exact ⟨G'', σ'', r', k1.trans g1, g2, g3, g4⟩

/-- the closing of a body: what the slots say, behind ghost steps -/
theorem eret {fn : Func} {R : AEnd → AHeap → Prop} {env : Env} {σ : AHeap} {avs : List AV} (h1 : retOf env fn.results.toList = some avs) (h2 : R (.ret (tupOf avs)) σ) :
    Gst fn.ntmps (fun env σ => ∃ avs, retOf env fn.results.toList = some avs ∧ R (.ret (tupOf avs)) σ) env σ := .done ⟨avs, h1, h2⟩

end Go.AL
/- AL, part K: the rules avs the printed walks use them. -/
namespace Go.AL
open Go Go.RowKit

variable {P : Program} {N : Nat}

def argEnv : Nat → List AV → Env
  | _, [] => []
  | k, a :: r => (k, a) :: argEnv (k + 1) r

theorem look_argEnv : ∀ (args : List AV) (k t : Nat) (a : AV), look (argEnv k args) t = some a → k ≤ t ∧ args[t - k]? = some a
  | [], k, t, a, h => by simp [argEnv, look] at h
  | x :: r, k, t, a, h => by
    simp only [argEnv, look_cons] at h
    split at h
    · rename_i e; simp only [Option.some.injEq] at h; subst h e; simp
    · obtain ⟨h1, h2⟩ := look_argEnv r (k + 1) t a h
      refine ⟨by omega, ?_⟩
      have : t - k = (t - (k + 1)) + 1 := by omega
      rw [this]; simpa using h2

/-- what the slots say at a return -/
def RetOk (rs : List ResultVar) (R : AEnd → AHeap → Prop) (env : Env) (σ : AHeap) : Prop := ∃ avs, retOf env rs = some avs ∧ R (.ret (tupOf avs)) σ

/-- where a body ends -/
def ERetN (N : Nat) (rs : List ResultVar) (R : AEnd → AHeap → Prop) : Exit → Env → AHeap → Prop
  | .normal, env, σ | .ret, env, σ => Gst N (RetOk rs R) env σ
  | .panic c, env, σ => Gst N (fun _ σ => R (.pan c) σ) env σ
  | _, _, _ => False

theorem aspec_enter {f : FuncId} {fn : Func} {c : Code} {args : List AV} {env : Env} {σ : AHeap} {R : AEnd → AHeap → Prop} {rs : List ResultVar} (hf : P.funcs[f]? = some fn) (hb : fn.body = some c)
    (hN : fn.ntmps = N) (hrs : fn.results = rs.toArray) (hn : Nat.ble args.length N = true) (hr : Nat.ble rs.length 4 = true) (henv : argEnv 0 args = env)
    (h : AWp P N c (ERetN N rs R) env σ) : ASpec P f args σ R := by
  subst hN
  refine aspec_of_awp hf hb (Nat.le_of_ble_eq_true hn) (by rw [hrs]; simpa using Nat.le_of_ble_eq_true hr) (fun t a e => ?_) (h.post fun e env σ hq => ?_)
  · subst henv
    have := (look_argEnv args 0 t a e).2
    simpa using this
  · cases e with
    | normal => refine .done ?_; simp only [ERet, hrs]; exact hq
    | ret => refine .done ?_; simp only [ERet, hrs]; exact hq
    | panic c => exact .done hq
    | exit id => exact hq.elim
    | goto l => exact hq.elim
    | outgrown => exact hq.elim

theorem fin_ret' {rs : List ResultVar} {R : AEnd → AHeap → Prop} {env : Env} {σ : AHeap} {avs : List AV} {a : AV} (h1 : retOf env rs = some avs) (ha : tupOf avs = a) (h2 : R (.ret a) σ) :
    Gst N (RetOk rs R) env σ := .done ⟨avs, h1, ha ▸ h2⟩

theorem fin0 {rs : List ResultVar} {R : AEnd → AHeap → Prop} {env : Env} {σ : AHeap} (h1 : retOf env rs = some []) (h2 : R (.ret (.tup [])) σ) : Gst N (RetOk rs R) env σ := .done ⟨_, h1, h2⟩
theorem fin1 {rs : List ResultVar} {R : AEnd → AHeap → Prop} {env : Env} {σ : AHeap} {a : AV} (h1 : retOf env rs = some [a]) (h2 : R (.ret a) σ) : Gst N (RetOk rs R) env σ := .done ⟨_, h1, h2⟩
theorem fin2 {rs : List ResultVar} {R : AEnd → AHeap → Prop} {env : Env} {σ : AHeap} {a b : AV} (h1 : retOf env rs = some [a, b]) (h2 : R (.ret (.tup [a, b])) σ) : Gst N (RetOk rs R) env σ := .done ⟨_, h1, h2⟩
theorem fin3 {rs : List ResultVar} {R : AEnd → AHeap → Prop} {env : Env} {σ : AHeap} {a b c : AV} (h1 : retOf env rs = some [a, b, c]) (h2 : R (.ret (.tup [a, b, c])) σ) : Gst N (RetOk rs R) env σ := .done ⟨_, h1, h2⟩

/-- the operations' rules with the slot written out -/
theorem aops_v {ops : Array Oper} {Q : Exit → Env → AHeap → Prop} {o : Oper} {rest : List Oper} {env : Env} {σ : AHeap} {d : Tmp} (hg : o.guard = none) (hd : o.dst = some d) (hN : Nat.blt d N = true)
    (h : AVal P o env σ fun a σ' => AOps P N ops Q rest ((d, a) :: env) σ') : AOps P N ops Q (o :: rest) env σ := by
  refine aops_val hg (by rw [hd]; exact hN) ?_
  rw [hd]; exact h
theorem aops_s {ops : Array Oper} {Q : Exit → Env → AHeap → Prop} {o : Oper} {rest : List Oper} {env : Env} {σ : AHeap} (hg : o.guard = none) (hd : o.dst = none)
    (h : ASkip P o env σ fun σ' => AOps P N ops Q rest env σ') : AOps P N ops Q (o :: rest) env σ := by
  refine aops_skip hg (by rw [hd]; rfl) ?_
  rw [hd]; exact h

/-- a bool is decided -/
theorem aops_bool {ops : Array Oper} {Q : Exit → Env → AHeap → Prop} {l : List Oper} {d : Nat} {b : Bool} {env : Env} {σ : AHeap} (ht : b = true → AOps P N ops Q l ((d, .v (.bool true)) :: env) σ)
    (hf : b = false → AOps P N ops Q l ((d, .v (.bool false)) :: env) σ) : AOps P N ops Q l ((d, .v (.bool b)) :: env) σ := by
  cases b
  · exact hf rfl
  · exact ht rfl

/-- a guarded operation that is wanted, one that is not -/
theorem yielded_of {ops : Array Oper} {env : Env} {G : Ghost} {act : Act} (he : ERel G N act env) {g : Nat} {og : Oper} {d : Tmp} {b : Bool} (hg : ops[g]? = some og) (hd : og.dst = some d)
    (hb : look env d = some (.v (.bool b))) : yielded ops act.tmps g = some b := by
  have hv := (he.tmps d _ hb).v_eq
  have hlt : act.tmps[d]? = some (.bool b) := by
    cases hc : act.tmps[d]? with
    | none => simp [Array.getD_eq_getD_getElem?, hc, undef] at hv
    | some x => simp [Array.getD_eq_getD_getElem?, hc] at hv; rw [hv]
  simp [yielded, hg, hd, hlt]

theorem aops_no {ops : List Oper} {Q : Exit → Env → AHeap → Prop} {o : Oper} {rest : List Oper} {env : Env} {σ : AHeap} {g : Nat} {og : Oper} {d : Tmp} {b : Bool} (hgd : o.guard = some (g, b))
    (hg : ops[g]? = some og) (hd : og.dst = some d) (hb : look env d = some (.v (.bool (!b)))) {d' : Tmp} (hd' : o.dst = some d') (hdo' : Nat.blt d' N = true)
    (h : AOps P N ops.toArray Q rest ((d', .v undef) :: env) σ) : AOps P N ops.toArray Q (o :: rest) env σ := by
  intro G w act hst he
  have hdo : dstOk N o.dst = true := by rw [hd']; exact hdo'
  have hy := yielded_of (ops := ops.toArray) he (by simpa using hg) hd hb
  unfold wpList
  rw [if_neg (by simp [Region.wanted, hgd, hy])]
  have hp := he.put hdo (.v undef)
  rw [hd'] at hp
  have := h G w (act.put (some d') undef) hst hp
  rw [Act.put_defers] at this
  rw [hd']
  exact this

theorem aops_nou {ops : List Oper} {Q : Exit → Env → AHeap → Prop} {o : Oper} {rest : List Oper} {env : Env} {σ : AHeap} {g : Nat} {og : Oper} {d : Tmp} {b : Bool} (hgd : o.guard = some (g, b))
    (hg : ops[g]? = some og) (hd : og.dst = some d) (hb : look env d = some (.v undef)) {d' : Tmp} (hd' : o.dst = some d') (hdo' : Nat.blt d' N = true)
    (h : AOps P N ops.toArray Q rest ((d', .v undef) :: env) σ) : AOps P N ops.toArray Q (o :: rest) env σ := by
  intro G w act hst he
  have hdo : dstOk N o.dst = true := by rw [hd']; exact hdo'
  have hv := (he.tmps d _ hb).v_eq
  have hy : yielded ops.toArray act.tmps g = none := by
    unfold yielded
    simp only [List.getElem?_toArray, hg, Option.bind_some, hd]
    cases hc : act.tmps[d]? with
    | none => rfl
    | some x =>
      have : x = undef := by simpa [Array.getD_eq_getD_getElem?, hc] using hv
      subst this
      rfl
  unfold wpList
  rw [if_neg (by simp [Region.wanted, hgd, hy])]
  have hp := he.put hdo (.v undef)
  rw [hd'] at hp
  have := h G w (act.put (some d') undef) hst hp
  rw [Act.put_defers] at this
  rw [hd']
  exact this

theorem aops_yes {ops : List Oper} {Q : Exit → Env → AHeap → Prop} {o : Oper} {rest : List Oper} {env : Env} {σ : AHeap} {g : Nat} {og : Oper} {d : Tmp} {b : Bool} (hgd : o.guard = some (g, b))
    (hg : ops[g]? = some og) (hd : og.dst = some d) (hb : look env d = some (.v (.bool b)))
    (h : AOps P N ops.toArray Q ({ o with guard := none } :: rest) env σ) : AOps P N ops.toArray Q (o :: rest) env σ := by
  intro G w act hst he
  have hy := yielded_of (ops := ops.toArray) he (by simpa using hg) hd hb
  have := h G w act hst he
  unfold wpList at this ⊢
  rw [if_pos (by simp [Region.wanted])] at this
  rw [if_pos (by simp [Region.wanted, hgd, hy])]
  exact this

def neD (d : Tmp) : Operand → Bool
  | .tmp k => !(Nat.beq k d)
  | _ => true

theorem opnd_put {env : Env} {d : Tmp} {y : Operand} (h : neD d y = true) (a : AV) : opnd ((d, a) :: env) y = opnd env y := by
  cases y with
  | tmp k =>
    have : d ≠ k := by
      intro e
      subst e
      simp [neD] at h
    simp [opnd, look_cons, this]
  | _ => rfl

/-- a variable that is made and set -/
theorem aops_var {ops : Array Oper} {Q : Exit → Env → AHeap → Prop} {o1 o2 : Oper} {rest : List Oper} {env : Env} {σ : AHeap} {t : TypeId} {d : Tmp} {y : Operand} {ag : Bool} {n : Nat} {zs : List Value} {av : AV}
    (hg1 : o1.guard = none) (hg2 : o2.guard = none) (ho1 : o1.op = .alloc t) (hd1 : o1.dst = some d) (ho2 : o2.op = .store t (.tmp d) y) (hd2 : o2.dst = none) (hdN : Nat.blt d N = true)
    (ht : tyK P t = some (ag, n)) (hz : zeroK P t = some zs) (hzl : Nat.beq zs.length n = true) (hne : neD d y = true) (hy : opnd env y = some av) (hone : av.ones = true) (hn : av.cells.length = n)
    (h : ∀ id, σ id = none → AOps P N ops Q rest ((d, .ref id 0 0) :: env) (upd σ id (.cells 0 t av.cells))) : AOps P N ops Q (o1 :: o2 :: rest) env σ := by
  have hzl' := Nat.eq_of_beq_eq_true hzl
  refine aops_val hg1 (by rw [hd1]; exact hdN) (a_alloc ho1 hz fun id hid => ?_)
  rw [hd1]
  have hy' : opnd (puts env (some d) (.ref id 0 0)) y = some av := by rw [← hy]; exact opnd_put hne _
  refine aops_skip hg2 (by rw [hd2]; rfl) (a_store ho2 ht (show opnd _ (.tmp d) = some (.ref id 0 0) by simp [opnd, puts, look_cons]) hy' (upd_same _ _ _) hone hn (by simp [hzl']) ?_)
  rw [hd2, upd_upd]
  have e : stv 0 av.cells (zs.map .v) = av.cells := by simp [stv, List.drop_of_length_le, hn, hzl']
  rw [e]
  exact h id hid

/-- a variable that is made and set; it is only read from then on -/
theorem aops_var_frz {ops : Array Oper} {Q : Exit → Env → AHeap → Prop} {o1 o2 : Oper} {rest : List Oper} {env : Env} {σ : AHeap} {t : TypeId} {d : Tmp} {y : Operand} {ag : Bool} {n : Nat} {zs : List Value} {av : AV}
    (hg1 : o1.guard = none) (hg2 : o2.guard = none) (ho1 : o1.op = .alloc t) (hd1 : o1.dst = some d) (ho2 : o2.op = .store t (.tmp d) y) (hd2 : o2.dst = none) (hdN : Nat.blt d N = true)
    (ht : tyK P t = some (ag, n)) (hz : zeroK P t = some zs) (hzl : Nat.beq zs.length n = true) (hne : neD d y = true) (hy : opnd env y = some av) (hone : av.ones = true) (hn : av.cells.length = n)
    (h : AOps P N ops Q rest ((d, .pin av.cells 0) :: env) σ) : AOps P N ops Q (o1 :: o2 :: rest) env σ := by
  refine aops_var hg1 hg2 ho1 hd1 ho2 hd2 hdN ht hz hzl hne hy hone hn fun id hid => ?_
  refine AOps.ghost (gst_freeze (upd_same _ _ _) [(d, .pin av.cells 0)] ?_ (.done ?_))
  · intro p hp
    simp only [List.mem_singleton] at hp
    subst hp
    exact ⟨_, by simp [look_cons], .ref⟩
  · rw [del_upd _ _ hid]
    intro G w act hst he
    refine h G w act hst (he.weaken fun t' a ha => ?_)
    simp only [look_cons] at ha
    simp only [List.singleton_append, look_cons]
    split
    · rename_i e; rw [if_pos e] at ha; exact ha
    · rename_i e; rw [if_neg e] at ha; exact ha

theorem thenE_n {K : Env → AHeap → Prop} {Q : Exit → Env → AHeap → Prop} {env : Env} {σ : AHeap} (h : K env σ) : thenE K Q .normal env σ := h
theorem thenE_x {K : Env → AHeap → Prop} {Q : Exit → Env → AHeap → Prop} {id : Nat} {env : Env} {σ : AHeap} (h : Q (.exit id) env σ) : thenE K Q (.exit id) env σ := h
theorem blockE_n {id : Nat} {Q : Exit → Env → AHeap → Prop} {env : Env} {σ : AHeap} (h : Q .normal env σ) : blockE id Q .normal env σ := h
theorem blockE_x {id : Nat} {Q : Exit → Env → AHeap → Prop} {env : Env} {σ : AHeap} (h : Q .normal env σ) : blockE id Q (.exit id) env σ := by simpa [blockE] using h
theorem blockE_o {id id' : Nat} {Q : Exit → Env → AHeap → Prop} {env : Env} {σ : AHeap} (hne : id' ≠ id) (h : Q (.exit id') env σ) : blockE id Q (.exit id') env σ := by simpa [blockE, hne] using h

/-- a call whose contract says what comes back and what the heap is then -/
theorem aops_call_eq {ops : Array Oper} {Q : Exit → Env → AHeap → Prop} {o : Oper} {rest : List Oper} {env : Env} {σ σ1 : AHeap} {f : FuncId} {args : List Operand} {ts : Array TypeId} {avs : List AV} {a : AV} {d : Tmp}
    (hg : o.guard = none) (hd : o.dst = some d) (hN : Nat.blt d N = true) (ho : o.op = .call { callee := .value (.func f), args := args.toArray, argTypes := ts }) (hc : Callable P f)
    (hargs : opnds env args = some avs) (hspec : ASpec P f avs σ fun r σ' => r = .ret a ∧ σ' = σ1) (h : AOps P N ops Q rest ((d, a) :: env) σ1) : AOps P N ops Q (o :: rest) env σ :=
  aops_call hg (by rw [hd]; exact hN) ho hc hargs hspec (fun a' σ' hr => by obtain ⟨e1, e2⟩ := hr; simp only [AEnd.ret.injEq] at e1; subst e1 e2; rw [hd]; exact h) (fun c σ' hr => by exact absurd hr.1 (by simp))

/-- a call that may end in several ways -/
theorem aops_call_any {ops : Array Oper} {Q : Exit → Env → AHeap → Prop} {o : Oper} {rest : List Oper} {env : Env} {σ : AHeap} {f : FuncId} {args : List Operand} {ts : Array TypeId} {avs : List AV} {d : Tmp}
    {R : AEnd → AHeap → Prop} (hg : o.guard = none) (hd : o.dst = some d) (hN : Nat.blt d N = true) (ho : o.op = .call { callee := .value (.func f), args := args.toArray, argTypes := ts }) (hc : Callable P f)
    (hargs : opnds env args = some avs) (hspec : ASpec P f avs σ R) (hret : ∀ a σ', R (.ret a) σ' → AOps P N ops Q rest ((d, a) :: env) σ')
    (hpan : ∀ c σ', R (.pan c) σ' → Q (.panic c) env σ') : AOps P N ops Q (o :: rest) env σ :=
  aops_call hg (by rw [hd]; exact hN) ho hc hargs hspec (fun a' σ' hr => by rw [hd]; exact hret a' σ' hr) hpan

theorem pure_done {av : AV} {σ : AHeap} : av = av ∧ σ = σ := ⟨rfl, rfl⟩

theorem dp_val {ops : List Oper} {σ : AHeap} {K : Env → Prop} {o : Oper} {r : List Oper} {env : Env} {av : AV} (hg : o.guard = none) (h : APure P N o (restr (lookT o) env) σ av) {d : Tmp} (hd : o.dst = some d) (hr : DP P N ops σ K r ((d, av) :: env)) :
    DP P N ops σ K (o :: r) env := ⟨av, by unfold stepP; rw [hg]; exact h, by rw [hd]; exact hr⟩
theorem dp_yes {ops : List Oper} {σ : AHeap} {K : Env → Prop} {o : Oper} {r : List Oper} {env : Env} {av : AV} {g : Nat} {b : Bool} {og : Oper} {d : Tmp} (hgd : o.guard = some (g, b)) (hg : ops[g]? = some og) (hd : og.dst = some d)
    (hb : look env d = some (.v (.bool b))) (h : APure P N o (restr (lookT o) env) σ av) {d' : Tmp} (hd' : o.dst = some d') (hr : DP P N ops σ K r ((d', av) :: env)) : DP P N ops σ K (o :: r) env :=
  ⟨av, by unfold stepP; rw [hgd]; simp only [hg, hd]; exact ⟨b, hb, fun _ => h, fun e => absurd rfl e⟩, by rw [hd']; exact hr⟩
theorem dp_no {ops : List Oper} {σ : AHeap} {K : Env → Prop} {o : Oper} {r : List Oper} {env : Env} {g : Nat} {b : Bool} {og : Oper} {d : Tmp} (hgd : o.guard = some (g, b)) (hg : ops[g]? = some og) (hd : og.dst = some d)
    (hb : look env d = some (.v (.bool (!b)))) {d' : Tmp} (hd' : o.dst = some d') (hr : DP P N ops σ K r ((d', .v undef) :: env)) : DP P N ops σ K (o :: r) env :=
  ⟨.v undef, by unfold stepP; rw [hgd]; simp only [hg, hd]; exact ⟨!b, hb, fun e => absurd e (by simp), by simp⟩, by rw [hd']; exact hr⟩
theorem dp_bool {ops : List Oper} {σ : AHeap} {K : Env → Prop} {r : List Oper} {d : Nat} {b : Bool} {env : Env} (ht : b = true → DP P N ops σ K r ((d, .v (.bool true)) :: env))
    (hf : b = false → DP P N ops σ K r ((d, .v (.bool false)) :: env)) : DP P N ops σ K r ((d, .v (.bool b)) :: env) := by
  cases b
  · exact hf rfl
  · exact ht rfl

/-- an element of a row of structs -/
theorem take_flatMap {α : Type} {enc : α → List AV} {n : Nat} (hn : ∀ x, (enc x).length = n) : ∀ (l : List α) (i : Nat) (x : α), l[i]? = some x → ((l.flatMap enc).drop (i * n)).take n = enc x
  | [], i, x, h => by simp at h
  | y :: r, 0, x, h => by
    simp only [List.getElem?_cons_zero, Option.some.injEq] at h
    subst h
    simp [List.flatMap_cons, List.take_append, hn]
  | y :: r, i + 1, x, h => by
    have := take_flatMap hn r i x (by simpa using h)
    rw [List.flatMap_cons, Nat.add_mul, Nat.one_mul, List.drop_append, List.drop_of_length_le (by rw [hn]; omega), hn]
    simpa using this

theorem length_flatMap' {α : Type} {enc : α → List AV} {n : Nat} (hn : ∀ x, (enc x).length = n) (l : List α) : (l.flatMap enc).length = l.length * n := by
  induction l with
  | nil => simp
  | cons y r ih => rw [List.flatMap_cons, List.length_append, ih, hn, List.length_cons, Nat.add_mul, Nat.one_mul, Nat.add_comm]

theorem ldv_flat {α : Type} {enc : α → List AV} {n : Nat} (hn : ∀ x, (enc x).length = n) {l : List α} {i : Nat} {x : α} (h : l[i]? = some x) : ldv true n (i * n) (l.flatMap enc) = some (.agg (enc x)) := by
  have hi := (List.getElem?_eq_some_iff.1 h).1
  have hb : Nat.ble (i * n + n) (l.flatMap enc).length = true := by
    rw [length_flatMap' hn]
    have : (i + 1) * n ≤ l.length * n := Nat.mul_le_mul_right _ hi
    rw [Nat.add_mul, Nat.one_mul] at this
    exact Nat.ble_eq_true_of_le this
  simp only [ldv, hb, take_flatMap hn l i x h]

theorem ldv_map {α : Type} {enc : α → AV} {l : List α} {i : Nat} {x : α} (h : l[i]? = some x) : ldv false 1 (i * 1) (l.map enc) = some (enc x) := by
  simp [ldv, h]

theorem le_int {env : Env} {k : Nat} {kd : IntKind} {z z' : Int} (h : look env k = some (.v (.int kd z))) (e : z = z') : look env k = some (.v (.int kd z')) := by rw [h, e]
theorem le_str {env : Env} {k : Nat} {z z' : List UInt8} (h : look env k = some (str z)) (e : z = z') : look env k = some (str z') := by rw [h, e]
theorem le_eq {env : Env} {k : Nat} {z z' : AV} (h : look env k = some z) (e : z = z') : look env k = some z' := by rw [h, e]

theorem tn0 : Int.toNat 0 = 0 := rfl
theorem tn1 : Int.toNat 1 = 1 := rfl
theorem tn2 : Int.toNat 2 = 2 := rfl
theorem tn3 : Int.toNat 3 = 3 := rfl
theorem tn4 : Int.toNat 4 = 4 := rfl
theorem tnA1 (k : Nat) : Int.toNat ((k : Int) + 1) = k + 1 := by omega
theorem tnA2 (k : Nat) : Int.toNat ((k : Int) + 2) = k + 2 := by omega
theorem tnA3 (k : Nat) : Int.toNat ((k : Int) + 3) = k + 3 := by omega
theorem tnM1 (k : Nat) : Int.toNat ((k : Int) - 1) = k - 1 := by omega
theorem tnA (a b : Nat) : Int.toNat ((a : Int) + (b : Int)) = a + b := by omega

/-- s[a:], s[:b], s[a:b] -/
theorem a_slice_drop {o : Oper} {env : Env} {σ : AHeap} {K : AV → AHeap → Prop} {t : TypeId} {x lo : Operand} {l : List UInt8} {k : IntKind} {li : Int} {a : Nat} (ho : o.op = .slice t x (some lo) none none)
    (ht : isStr P t = true) (hx : opnd env x = some (str l)) (hlo : opnd env lo = some (.v (.int k li))) (ha : li.toNat = a) (h0 : 0 ≤ li) (h1 : li ≤ l.length)
    (h : K (str (l.drop a)) σ) : AVal P o env σ K := by
  refine a_slice_str ho ht hx (li := li) (hi' := l.length) (by simp [optI, hlo]) rfl h0 h1 (by omega) ?_
  rw [ha, Int.toNat_natCast, List.take_of_length_le (by simp)]
  exact h
theorem a_slice_take {o : Oper} {env : Env} {σ : AHeap} {K : AV → AHeap → Prop} {t : TypeId} {x hi : Operand} {l : List UInt8} {k : IntKind} {hi' : Int} {b : Nat} (ho : o.op = .slice t x none (some hi) none)
    (ht : isStr P t = true) (hx : opnd env x = some (str l)) (hhi : opnd env hi = some (.v (.int k hi'))) (hb : hi'.toNat = b) (h0 : 0 ≤ hi') (h1 : hi' ≤ l.length)
    (h : K (str (l.take b)) σ) : AVal P o env σ K := by
  refine a_slice_str ho ht hx (li := 0) (hi' := hi') rfl (by simp [optI, hhi]) (by omega) h0 h1 ?_
  rw [hb]
  simpa using h
theorem a_slice_mid {o : Oper} {env : Env} {σ : AHeap} {K : AV → AHeap → Prop} {t : TypeId} {x lo hi : Operand} {l : List UInt8} {k k' : IntKind} {li hi' : Int} {a b : Nat} (ho : o.op = .slice t x (some lo) (some hi) none)
    (ht : isStr P t = true) (hx : opnd env x = some (str l)) (hlo : opnd env lo = some (.v (.int k li))) (ha : li.toNat = a) (hhi : opnd env hi = some (.v (.int k' hi'))) (hb : hi'.toNat = b) (h0 : 0 ≤ li) (h1 : li ≤ hi') (h2 : hi' ≤ l.length)
    (h : K (str ((l.drop a).take (b - a))) σ) : AVal P o env σ K := by
  refine a_slice_str ho ht hx (li := li) (hi' := hi') (by simp [optI, hlo]) (by simp [optI, hhi]) h0 h1 h2 ?_
  rw [ha, hb]
  exact h

theorem a_store_n {o : Oper} {env : Env} {σ : AHeap} {K : AHeap → Prop} {t : TypeId} {x y : Operand} {ag : Bool} {n id ver off : Nat} {ty : TypeId} {cs cs2 : List AV} {av : AV}
    (ho : o.op = .store t x y) (ht : tyK P t = some (ag, n)) (hx : opnd env x = some (.ref id ver off)) (hy : opnd env y = some av) (hid : σ id = some (.cells ver ty cs))
    (hone : av.ones = true) (hn : av.cells.length = n) (hfit : off + n ≤ cs.length) (hst : stv off av.cells cs = cs2) (h : K (upd σ id (.cells ver ty cs2))) : ASkip P o env σ K :=
  a_store ho ht hx hy hid hone hn hfit (hst ▸ h)
theorem awp_fresh {c : Code} {Q : Exit → Env → AHeap → Prop} {env : Env} {σ : AHeap} (h : ∀ id, σ id = none → AWp P N c Q env σ) : AWp P N c Q env σ := by
  intro G w act hst he
  obtain ⟨id, h1, _⟩ := hst.fresh
  exact h id h1 G w act hst he
theorem ne_of_upd {σ : AHeap} {p id : Nat} {o : AObj} (h : upd σ p o id = none) : p ≠ id ∧ σ id = none := by
  by_cases e : id = p
  · subst e; rw [upd_same] at h; exact absurd h (by simp)
  · exact ⟨fun e' => e e'.symm, by rwa [upd_ne _ _ e] at h⟩
theorem awp_heap {c : Code} {Q : Exit → Env → AHeap → Prop} {env : Env} {σ σ' : AHeap} (e : σ' = σ) (h : AWp P N c Q env σ) : AWp P N c Q env σ' := e ▸ h
theorem aops_heap {ops : Array Oper} {l : List Oper} {Q : Exit → Env → AHeap → Prop} {env : Env} {σ σ' : AHeap} (e : σ' = σ) (h : AOps P N ops Q l env σ) : AOps P N ops Q l env σ' := e ▸ h
theorem gst_heap {Q : Env → AHeap → Prop} {env : Env} {σ σ' : AHeap} (e : σ' = σ) (h : Gst N Q env σ) : Gst N Q env σ' := e ▸ h

end Go.AL
/- AL, part L: contracts of the library, proved in the kit, as contracts of AL. -/
namespace Go.AL
open Go Go.RowKit

variable {P : Program}

theorem VRels.flat {G : Ghost} {vs : Array Value} {xs : List Value} (h : VRels G vs (xs.map .v)) : vs = xs.toArray := by
  obtain ⟨h1, h2⟩ := h
  simp only [List.length_map] at h1
  apply Array.ext
  · simpa using h1
  · intro i hi hi'
    have : i < xs.length := by simpa using hi'
    have := (h2 i (.v xs[i]) (by simp [List.getElem?_eq_getElem this])).v_eq
    simpa [Array.getD, hi] using this

theorem St.goodW {G : Ghost} {σ : AHeap} {w : World} (h : St G σ w) : GoodW G.B w ∧ G.B ≤ w.heap.size := ⟨G.good.below h.old, Nat.le_trans h.hB h.old.size⟩

/-- a contract over plain values that makes memory at most -/
theorem aspec_below {f : FuncId} (xs : List Value) {σ : AHeap} {r : Value} (h : ∀ (w : World) (B : Nat), GoodW B w → B ≤ w.heap.size → Calls P f xs.toArray w fun e w' => e = .returned r ∧ Below w.heap.size w w') :
    ASpec P f (xs.map .v) σ fun r' σ' => r' = .ret (.v r) ∧ σ' = σ := by
  intro G w vs hst hv
  rw [hv.flat]
  refine (h w G.B hst.goodW.1 hst.goodW.2).mono fun e w' ⟨he, hb⟩ => ?_
  subst he
  exact ⟨G, σ, .ret (.v r), .refl G, hst.grow hb, .v r, rfl, rfl⟩

theorem aspec_below2 {f : FuncId} (xs : List Value) {σ : AHeap} {r1 r2 : Value} (h : ∀ (w : World) (B : Nat), GoodW B w → B ≤ w.heap.size → Calls P f xs.toArray w fun e w' => e = .returned (.tuple #[r1, r2]) ∧ Below w.heap.size w w') :
    ASpec P f (xs.map .v) σ fun r' σ' => r' = .ret (.tup [.v r1, .v r2]) ∧ σ' = σ := by
  intro G w vs hst hv
  rw [hv.flat]
  refine (h w G.B hst.goodW.1 hst.goodW.2).mono fun e w' ⟨he, hb⟩ => ?_
  subst he
  refine ⟨G, σ, .ret (.tup [.v r1, .v r2]), .refl G, hst.grow hb, .tup rfl fun i a ha => ?_, rfl, rfl⟩
  match i, ha with
  | 0, ha => simp at ha; subst ha; exact .v _
  | 1, ha => simp at ha; subst ha; exact .v _

end Go.AL
/- AL, part M: a list that grows in memory of the call's own; bytes as a text; results that lie in memory. -/
namespace Go.AL
open Go Go.RowKit

variable {P : Program} {N : Nat}

/-- a list's slice: nil as long as it has no cell -/
def slv (sz : Nat) (cs : List AV) (n id ver : Nat) : AV := match n with | 0 => nilS | n + 1 => .arr id ver 0 (n + 1) sz
/-- the heap with a list's row -/
def slh (σ : AHeap) (ty : TypeId) (cs : List AV) (n id ver : Nat) : AHeap := match n with | 0 => σ | _ + 1 => upd σ id (.cells ver ty cs)

theorem slv_zero (sz : Nat) (cs : List AV) (id ver : Nat) : slv sz cs 0 id ver = nilS := rfl
theorem slh_zero (σ : AHeap) (ty : TypeId) (cs : List AV) (id ver : Nat) : slh σ ty cs 0 id ver = σ := rfl
theorem slh_at (σ : AHeap) (ty : TypeId) (cs : List AV) (n : Nat) {id ver k : Nat} (h : k ≠ id) : slh σ ty cs n id ver k = σ k := by cases n <;> simp [slh, upd, h]
theorem slh_upd (σ : AHeap) (ty : TypeId) (cs : List AV) (n : Nat) {id ver k : Nat} (h : k ≠ id) (o : AObj) : upd (slh σ ty cs n id ver) k o = slh (upd σ k o) ty cs n id ver := by
  cases n
  · rfl
  · simp only [slh]; exact upd_comm σ _ _ h.symm

/-- append onto it -/
theorem a_append_sl {o : Oper} {env : Env} {σ : AHeap} {K : AV → AHeap → Prop} {t e : TypeId} {s x : Operand} {id ver n m sz by_ : Nat} {zs : List Value} {cs acs : List AV} {av : AV}
    (ho : o.op = .call { callee := .builtin .append, args := #[s, x], argTypes := #[t, t] }) (ht : slcK P t = some (e, sz, by_, zs)) (hs : opnd env s = some (slv sz cs n id ver))
    (hn : cs.length = n * sz) (hx : opnd env x = some av) (hsrc : Src (slh σ e cs n id ver) sz av acs m) (hone : acs.all AV.one = true)
    (hb : (n + m) * by_ ≤ 140737488355328) (hm : n + m ≤ maxLen) (hid : σ id = none)
    (h : ∀ id' ver', σ id' = none → K (slv sz (cs ++ acs) (n + m) id' ver') (slh σ e (cs ++ acs) (n + m) id' ver')) : AVal P o env (slh σ e cs n id ver) K := by
  cases n with
  | zero =>
    obtain rfl : cs = [] := List.eq_nil_of_length_eq_zero (by simpa using hn)
    refine a_append_nil ho ht hs hx hsrc hone (by simpa using hb) (by simpa using hm) (fun h0 => ?_) (fun h0 id' hid' => ?_)
    · subst h0
      exact h id ver hid
    · obtain ⟨m, rfl⟩ : ∃ k, m = k + 1 := ⟨m - 1, by omega⟩
      have := h id' 0 hid'
      simp only [Nat.zero_add, List.nil_append] at this
      exact this
  | succ n =>
    refine a_append ho ht hs (upd_same _ _ _) (by omega) hx hsrc hone hb hm (fun ver' => ?_)
    have := h id ver' hid
    simp only [slh, upd_upd]
    rw [List.take_of_length_le (by omega)]
    have e : n + 1 + m = (n + m) + 1 := by omega
    simp only [e, slv, slh] at this ⊢
    exact this

/-- its end: frozen -/
theorem gst_sl {Q : Env → AHeap → Prop} {env : Env} {σ : AHeap} {ty : TypeId} {cs : List AV} {sz n id ver : Nat} (k : Nat) (hk : look env k = some (slv sz cs n id ver)) (hn : cs.length = n * sz) (hid : σ id = none)
    (h : Gst N Q ((k, .lst cs n false) :: env) σ) : Gst N Q env (slh σ ty cs n id ver) := by
  cases n with
  | zero =>
    obtain rfl : cs = [] := List.eq_nil_of_length_eq_zero (by simpa using hn)
    refine gst_weak [(k, .lst [] 0 false)] ?_ h
    intro p hp
    simp only [List.mem_singleton] at hp
    subst hp
    exact ⟨nilS, hk, fun G x => weak_nil⟩
  | succ n =>
    refine gst_freeze (upd_same _ _ _) [(k, .lst cs (n + 1) false)] ?_ ?_
    · intro p hp
      simp only [List.mem_singleton] at hp
      subst hp
      refine ⟨_, hk, ?_⟩
      have := Frz.arr (id := id) (ver := ver) (cs := cs) (off := 0) (n := n + 1) (sz := sz) (by omega)
      rw [List.drop_zero, List.take_of_length_le (by omega)] at this
      exact this
    · simp only [slh]; rw [del_upd _ _ hid]; exact h

/-- its end: let go -/
theorem gst_sl_del {Q : Env → AHeap → Prop} {env : Env} {σ : AHeap} {ty : TypeId} {cs : List AV} {n id ver : Nat} (hid : σ id = none) (h : Gst N Q env σ) : Gst N Q env (slh σ ty cs n id ver) := by
  cases n with
  | zero => exact h
  | succ n => refine gst_del id ?_; simp only [slh]; rw [del_upd _ _ hid]; exact h

theorem a_len_sl {o : Oper} {env : Env} {σ : AHeap} {K : AV → AHeap → Prop} {t : TypeId} {x : Operand} {sz n id ver : Nat} {cs : List AV} (ho : o.op = .call { callee := .builtin .len, args := #[x], argTypes := #[t] })
    (ht : isSl P t = true) (hx : opnd env x = some (slv sz cs n id ver)) (h : K (int (n : Int)) σ) : AVal P o env σ K := by
  cases n with
  | zero => exact a_len_nil ho ht hx h
  | succ n => exact a_len ho ht hx h

def isBytes (P : Program) (t : TypeId) : Bool := match P.underlying t with | some (.slice e) => (match P.underlying e with | some (.int .u8) => true | _ => false) | _ => false
theorem isBytes_inv {t : TypeId} (h : isBytes P t = true) : ∃ e, P.underlying t = some (.slice e) ∧ P.underlying e = some (.int .u8) := by
  unfold isBytes at h
  split at h
  · rename_i e hu
    split at h
    · rename_i he; exact ⟨e, hu, he⟩
    · exact absurd h (by simp)
  · exact absurd h (by simp)

/-- a byte's cell -/
abbrev byteA (c : UInt8) : AV := .v (.int .u8 (c.toNat : Int))

/-- string(b) -/
theorem a_bytes_str {o : Oper} {env : Env} {σ : AHeap} {K : AV → AHeap → Prop} {T U : TypeId} {x : Operand} {av : AV} {l : List UInt8} {m : Nat} (ho : o.op = .convert T U x) (hT : isBytes P T = true) (hU : isStr P U = true)
    (hx : opnd env x = some av) (hsrc : Src σ 1 av (l.map byteA) m) (h : K (str l) σ) : AVal P o env σ K := by
  intro G w ρ hst hρ
  obtain ⟨e, hu, he⟩ := isBytes_inv hT
  have hd := isStr_inv hU
  have hlen : l.length = m := by have := hsrc.length; simpa using this
  have key : (convert T U (ρ x)).run P w = .ok (.string ⟨l.toArray⟩) w := by
    rcases hsrc.rel hst (hρ x _ hx) with ⟨hm0, hl, a, c, e1, e2⟩ | ⟨a, c, news, e1, e2, e3, e4⟩
    · have : l = [] := by simpa using hl
      subst this
      rw [e1]
      cases a with
      | none => exact run_convert_bytes_nil w T e hu he 0 c U hd
      | some a => exact run_convert_bytes_back w T U e a c [] hu he hd (by simp)
    · rw [e1, ← hlen]
      refine run_convert_bytes_back w T U e a c l hu he hd fun j hj => ?_
      have hnl : news.length = l.length := by simpa using e2
      have h1 := e4.2 j (byteA l[j]) (by simp [List.getElem?_eq_getElem hj])
      have h2 := h1.v_eq
      simp only [Nat.zero_add, Array.getD_eq_getD_getElem?, List.getElem?_toArray, List.getElem?_eq_getElem (show j < news.length by omega), Option.getD_some] at h2
      rw [e3 j news[j] (List.getElem?_eq_getElem (by omega)), h2]
  exact ⟨_, w, G, str l, σ, by simp [execOp, ho, key], .refl G, hst, .v _, h⟩

theorem Src.sl {σ : AHeap} {ty : TypeId} {cs : List AV} {sz n id ver : Nat} (hn : cs.length = n * sz) : Src (slh σ ty cs n id ver) sz (slv sz cs n id ver) cs n := by
  cases n with
  | zero =>
    obtain rfl : cs = [] := List.eq_nil_of_length_eq_zero (by simpa using hn)
    exact .nil
  | succ n =>
    have := Src.arr (σ := upd σ id (.cells ver ty cs)) (id := id) (ver := ver) (ty := ty) (cs := cs) (off := 0) (n := n + 1) (sz := sz) (upd_same _ _ _) (by omega)
    rw [List.drop_zero, List.take_of_length_le (by omega)] at this
    exact this

end Go.AL
/- AL, part N: ranging over a text; results that lie in memory. -/
namespace Go.AL
open Go Go.RowKit

variable {P : Program} {N : Nat}

/-- the rune with which a text begins, and how many bytes it takes -/
def decR (l : List UInt8) : Nat × Nat := Utf8.decode ⟨l.toArray⟩ 0

theorem get!_drop (l : List UInt8) (i k : Nat) : (⟨l.toArray⟩ : ByteArray).get! (i + k) = (⟨(l.drop i).toArray⟩ : ByteArray).get! (0 + k) := by
  simp only [ByteArray.get!, List.getElem!_toArray, Nat.zero_add]
  by_cases h : i + k < l.length
  · rw [getElem!_pos l (i + k) h, getElem!_pos (l.drop i) k (by simp; omega)]
    simp
  · rw [getElem!_neg l (i + k) h, getElem!_neg (l.drop i) k (by simp; omega)]

theorem decode_drop (l : List UInt8) (i : Nat) : Utf8.decode ⟨l.toArray⟩ i = decR (l.drop i) := by
  have hs : ∀ l : List UInt8, (⟨l.toArray⟩ : ByteArray).size = l.length := fun l => by simp [ByteArray.size]
  have hc : ∀ k, decide (i + k < (⟨l.toArray⟩ : ByteArray).size) = decide (0 + k < (⟨(l.drop i).toArray⟩ : ByteArray).size) := by
    intro k
    rw [hs, hs]
    simp
    omega
  unfold decR Utf8.decode
  simp only [get!_drop l i, hc]

theorem decR_width (l : List UInt8) : 1 ≤ (decR l).2 := by
  unfold decR Utf8.decode
  simp only []
  repeat' split
  all_goals simp

theorem a_range_str {o : Oper} {env : Env} {σ : AHeap} {K : AV → AHeap → Prop} {t : TypeId} {x : Operand} {l : List UInt8} (ho : o.op = .range t x) (ht : isStr P t = true) (hx : opnd env x = some (str l))
    (h : ∀ id, σ id = none → K (.itr id) (upd σ id (.siter ⟨l.toArray⟩ 0))) : AVal P o env σ K := by
  intro G w ρ hst hρ
  obtain ⟨id, h1, h2⟩ := hst.fresh
  have hxv := (hρ x _ hx).v_eq
  obtain ⟨k1, k2⟩ := hst.newObj (o := .siter ⟨l.toArray⟩ 0) (N := 0) h1 h2 (below_alloc w (.stringIter ⟨l.toArray⟩ 0)) (Nat.le_refl _) (alloc_at w _)
  refine ⟨_, _, _, _, _, ?_, k1, k2, .itr (b := w.heap.size) (N := 0) (by simp [Ghost.place, AObj.ver]), h id h1⟩
  simp [execOp, ho, hxv, Instr.range, run_underlying (isStr_inv ht), newObj]
  rfl

theorem VRel.itr_inv {G : Ghost} {x : Value} {id : Nat} (h : VRel G x (.itr id)) : ∃ b N, G.loc id 0 = some (b, N) ∧ x = .pointer (some ⟨b, 0, none⟩) := by
  cases h with | itr h => exact ⟨_, _, h, rfl⟩

theorem tup_rel {G : Ghost} (vs : List Value) : VRel G (.tuple vs.toArray) (.tup (vs.map .v)) := by
  refine .tup (by simp) fun i a ha => ?_
  rw [List.getElem?_map] at ha
  cases e : vs[i]? with
  | none => simp [e] at ha
  | some u =>
    simp [e] at ha
    subst ha
    have : vs.toArray.getD i undef = u := by simp [Array.getD_eq_getD_getElem?, e]
    rw [this]; exact .v u

theorem a_next_more {o : Oper} {env : Env} {σ : AHeap} {K : AV → AHeap → Prop} {x : Operand} {id pos : Nat} {l : List UInt8} (ho : o.op = .next x true) (hx : opnd env x = some (.itr id)) (hid : σ id = some (.siter ⟨l.toArray⟩ pos))
    (hp : pos < l.length) (h : K (.tup [boo true, int (pos : Int), .v (.int .i32 ((decR (l.drop pos)).1 : Int))]) (upd σ id (.siter ⟨l.toArray⟩ (pos + (decR (l.drop pos)).2)))) : AVal P o env σ K := by
  intro G w ρ hst hρ
  obtain ⟨b, N', hl, hxe⟩ := (hρ x _ hx).itr_inv
  obtain ⟨b', N'', l1, l2, l3, l4⟩ := hst.live id _ hid
  have l1' : G.loc id 0 = some (b', N'') := l1
  rw [hl] at l1'
  simp only [Option.some.injEq, Prod.mk.injEq] at l1'
  obtain ⟨rfl, rfl⟩ := l1'
  have hb : w.heap[b]? = some (.stringIter ⟨l.toArray⟩ pos) := l4
  have hlt : b < w.heap.size := l4.lt
  have hs : (⟨l.toArray⟩ : ByteArray).size = l.length := by simp [ByteArray.size]
  have hgr : w.grownBy { w with heap := w.heap.setIfInBounds b (.stringIter ⟨l.toArray⟩ (pos + (decR (l.drop pos)).2)) } (some b) :=
    ⟨rfl, rfl, rfl, by simp, fun k _ hk => by
      have : k ≠ b := fun e => hk (by rw [e])
      simp [Array.getElem?_setIfInBounds, show ¬ b = k from fun e => this e.symm]⟩
  refine ⟨_, { w with heap := w.heap.setIfInBounds b (.stringIter ⟨l.toArray⟩ (pos + (decR (l.drop pos)).2)) }, G, _, _, ?_, .refl G, hst.turn_same (o' := .siter ⟨l.toArray⟩ (pos + (decR (l.drop pos)).2)) hid rfl hl hgr ?_,
    tup_rel [.bool true, .int .i64 (pos : Int), .int .i32 ((decR (l.drop pos)).1 : Int)], h⟩
  · simp [execOp, ho, hxe, Instr.next, getObj, setObj, Sem.run, hb, hs, hp, decode_drop, goInt, bind, Sem.bind]
    rfl
  · simp [Live, hlt]

theorem a_next_end {o : Oper} {env : Env} {σ : AHeap} {K : AV → AHeap → Prop} {x : Operand} {id pos : Nat} {l : List UInt8} (ho : o.op = .next x true) (hx : opnd env x = some (.itr id)) (hid : σ id = some (.siter ⟨l.toArray⟩ pos))
    (hp : ¬ pos < l.length) (h : K (.tup [boo false]) σ) : AVal P o env σ K := by
  intro G w ρ hst hρ
  obtain ⟨b, N', hl, hxe⟩ := (hρ x _ hx).itr_inv
  obtain ⟨b', N'', l1, l2, l3, l4⟩ := hst.live id _ hid
  have l1' : G.loc id 0 = some (b', N'') := l1
  rw [hl] at l1'
  simp only [Option.some.injEq, Prod.mk.injEq] at l1'
  obtain ⟨rfl, rfl⟩ := l1'
  have hb : w.heap[b]? = some (.stringIter ⟨l.toArray⟩ pos) := l4
  have hs : (⟨l.toArray⟩ : ByteArray).size = l.length := by simp [ByteArray.size]
  refine ⟨_, w, G, _, _, ?_, .refl G, hst, tup_rel [.bool false], h⟩
  simp [execOp, ho, hxe, Instr.next, getObj, Sem.run, hb, hs, hp, bind, Sem.bind]
  rfl

end Go.AL
/- AL, part O: results that lie in memory (a named result whose address is taken). -/
namespace Go.AL
open Go Go.RowKit

variable {P : Program} {N : Nat}

inductive F2 {α β : Type} (R : α → β → Prop) : List α → List β → Prop where
  | nil : F2 R [] []
  | cons {a : α} {b : β} {l : List α} {m : List β} (h : R a b) (t : F2 R l m) : F2 R (a :: l) (b :: m)

def oneOr (vs : List Value) : Value := match vs with | [v] => v | _ => .tuple vs.toArray

/-- what a result says -/
inductive ResA (P : Program) (env : Env) (σ : AHeap) : ResultVar → AV → Prop where
  | tmp {t : Tmp} {a : AV} (h : look env t = some a) : ResA P env σ (.tmp t) a
  | cell {t : Tmp} {ty : TypeId} {ag : Bool} {n id ver off : Nat} {ty' : TypeId} {cs : List AV} {a : AV} (h : look env t = some (.ref id ver off)) (ht : tyK P ty = some (ag, n))
      (hid : σ id = some (.cells ver ty' cs)) (hv : ldv ag n off cs = some a) : ResA P env σ (.cell t ty) a
  | pin {t : Tmp} {ty : TypeId} {ag : Bool} {n off : Nat} {cs : List AV} {a : AV} (h : look env t = some (.pin cs off)) (ht : tyK P ty = some (ag, n))
      (hv : ldv ag n off cs = some a) : ResA P env σ (.cell t ty) a

/-- one result is read -/
theorem ResA.run {G : Ghost} {env : Env} {σ : AHeap} {w : World} {act : Act} (hst : St G σ w) (he : ERel G N act env) {r : ResultVar} {a : AV} (h : ResA P env σ r a) :
    ∃ v, ((match r with | .tmp t => pure (act.tmps.getD t undef) | .cell t ty => do loadVar ty (← asAddr (act.tmps.getD t undef)) : Sem Value)).run P w = .ok v w ∧ VRel G v a := by
  cases h with
  | tmp h => exact ⟨_, rfl, he.tmps _ _ h⟩
  | @cell t ty ag n id ver off ty' cs a h ht hid hv =>
    obtain ⟨b, N', hl, hx⟩ := (he.tmps _ _ h).ref_inv
    obtain ⟨cs', _, hb, hc, _⟩ := hst.row hid hl
    obtain ⟨k1, k2⟩ := ldv_rel hc hv
    refine ⟨_, ?_, k2⟩
    simp only [Nat.zero_add] at k1 ⊢
    simp only [hx]
    exact run_loadVar ht hb k1
  | @pin t ty ag n off cs a h ht hv =>
    obtain ⟨b, o, cs', hz, hc, hx⟩ := (he.tmps _ _ h).pin_inv
    obtain ⟨e, fr, hb⟩ := hst.fz b cs' hz
    obtain ⟨k1, k2⟩ := ldv_rel hc hv
    refine ⟨_, ?_, k2⟩
    simp only [hx]
    exact run_loadVar ht hb k1

def RetOkC (P : Program) (rs : List ResultVar) (R : AEnd → AHeap → Prop) (env : Env) (σ : AHeap) : Prop :=
  ∃ avs, F2 (ResA P env σ) rs avs ∧ R (.ret (tupOf avs)) σ

def ERetC (P : Program) (N : Nat) (rs : List ResultVar) (R : AEnd → AHeap → Prop) : Exit → Env → AHeap → Prop
  | .normal, env, σ | .ret, env, σ => Gst N (RetOkC P rs R) env σ
  | .panic c, env, σ => Gst N (fun _ σ => R (.pan c) σ) env σ
  | _, _, _ => False

theorem mapM_ok {α : Type} {f : α → Sem Value} {w : World} : ∀ (rs : List α) (vs : List Value), F2 (fun r v => (f r).run P w = .ok v w) rs vs → (rs.mapM f).run P w = .ok vs w
  | [], _, h => by cases h; rfl
  | r :: rs, _, h => by
    cases h with
    | cons h1 h2 =>
      have := mapM_ok rs _ h2
      simp only [List.mapM_cons]
      simp [h1, this]

theorem results_ok {fn : Func} {rs : List ResultVar} (h : fn.results = rs.toArray) {tmps : Array Value} {w : World} {vs : List Value}
    (hv : F2 (fun r v => ((match r with | .tmp t => pure (tmps.getD t undef) | .cell t ty => do loadVar ty (← asAddr (tmps.getD t undef)) : Sem Value)).run P w = .ok v w) rs vs) :
    (results fn tmps).run P w = .ok (oneOr vs) w := by
  have h1 := mapM_ok rs vs hv
  have h2 : (rs.toArray.mapM (fun r => ((match r with | .tmp t => pure (tmps.getD t undef) | .cell t ty => do loadVar ty (← asAddr (tmps.getD t undef)) : Sem Value)))).run P w = .ok vs.toArray w := by
    rw [List.mapM_toArray]
    rw [Sem.run_map] 
    rw [h1]
    rfl
  unfold results
  rw [h]
  rw [Sem.run_bind]
  refine Eq.trans (congrArg (fun x => Result.andThen x _) h2) ?_
  match vs with
  | [] => rfl
  | [v] => rfl
  | a :: b :: r => rfl

theorem forall2_run {G : Ghost} {env : Env} {σ : AHeap} {w : World} {act : Act} (hst : St G σ w) (he : ERel G N act env) : ∀ {rs : List ResultVar} {avs : List AV}, F2 (ResA P env σ) rs avs →
    ∃ vs, F2 (fun r v => ((match r with | .tmp t => pure (act.tmps.getD t undef) | .cell t ty => do loadVar ty (← asAddr (act.tmps.getD t undef)) : Sem Value)).run P w = .ok v w) rs vs ∧ F2 (VRel G) vs avs
  | _, _, .nil => ⟨[], .nil, .nil⟩
  | _, _, .cons h1 h2 => by
    obtain ⟨v, k1, k2⟩ := h1.run hst he
    obtain ⟨vs, k3, k4⟩ := forall2_run hst he h2
    exact ⟨v :: vs, .cons k1 k3, .cons k2 k4⟩

theorem forall2_len {α β : Type} {R : α → β → Prop} : ∀ {l : List α} {m : List β}, F2 R l m → l.length = m.length ∧ ∀ (i : Nat) (b : β), m[i]? = some b → ∃ a : α, l[i]? = some a ∧ R a b
  | _, _, .nil => by simp
  | _, _, .cons h1 h2 => by
    obtain ⟨k1, k2⟩ := forall2_len h2
    refine ⟨by simp [k1], fun i b hb => ?_⟩
    cases i with
    | zero => simp at hb; subst hb; exact ⟨_, rfl, h1⟩
    | succ i => simp at hb; simpa using k2 i b hb

theorem tup_of_rel {G : Ghost} {vs : List Value} {avs : List AV} (h : F2 (VRel G) vs avs) : VRel G (oneOr vs) (tupOf avs) := by
  obtain ⟨k1, k2⟩ := forall2_len h
  have gen : VRel G (.tuple vs.toArray) (.tup avs) := by
    refine .tup (by simp [k1]) fun i a ha => ?_
    obtain ⟨v, hv, hr⟩ := k2 i a ha
    simpa [Array.getD_eq_getD_getElem?, hv] using hr
  match vs, avs, h with
  | [], [], _ => exact gen
  | [v], [a], .cons h1 .nil => exact h1
  | v :: u :: r, a :: b :: r', _ => exact gen

theorem aspec_enter_c {f : FuncId} {fn : Func} {c : Code} {args : List AV} {env : Env} {σ : AHeap} {R : AEnd → AHeap → Prop} {rs : List ResultVar} (hf : P.funcs[f]? = some fn) (hb : fn.body = some c)
    (hN : fn.ntmps = N) (hrs : fn.results = rs.toArray) (hn : Nat.ble args.length N = true) (henv : argEnv 0 args = env)
    (h : AWp P N c (ERetC P N rs R) env σ) : ASpec P f args σ R := by
  subst hN
  intro G w vs hst hv
  refine calls_of_wp hf hb (wp_mono (h G w { tmps := vs ++ Array.replicate (fn.ntmps - vs.size) undef, defers := [] } hst ⟨?_, ?_⟩) ?_)
  · have := hv.1; have := Nat.le_of_ble_eq_true hn; simp; omega
  · intro t a e
    subst henv
    have ha : args[t]? = some a := by simpa using (look_argEnv args 0 t a e).2
    have h1 := hv.2 t a ha
    have hlt : t < vs.size := by rw [hv.1]; exact (List.getElem?_eq_some_iff.1 ha).1
    have : (vs ++ Array.replicate (fn.ntmps - vs.size) undef).getD t undef = vs.getD t undef := by
      simp [Array.getD_eq_getD_getElem?, Array.getElem?_append, hlt]
    rw [this]
    exact h1
  · rintro e act w' ⟨G', env', σ', h1, h2, h3, h4, h5⟩
    have ret : Gst fn.ntmps (RetOkC P rs R) env' σ' →
        act.defers = [] ∧ ∃ v, (results fn act.tmps).run P w' = .ok v w' ∧ ∃ G' σ' r, G.le G' ∧ St G' σ' w' ∧ EndRel G' (.returned v) r ∧ R r σ' := by
      intro h5
      obtain ⟨G2, env2, σ2, k1, k2, k3, avs, k4, k5⟩ := h5 G' w' act h2 h3
      obtain ⟨vs, e1, e2⟩ := forall2_run k2 k3 k4
      exact ⟨h4, _, results_ok hrs e1, G2, σ2, .ret (tupOf avs), h1.trans k1, k2, tup_of_rel e2, k5⟩
    cases e with
    | normal => exact ret h5
    | ret => exact ret h5
    | panic c =>
      obtain ⟨G2, env2, σ2, k1, k2, k3, k4⟩ := h5 G' w' act h2 h3
      exact ⟨h4, G2, σ2, .pan c, h1.trans k1, k2, rfl, k4⟩
    | exit id => exact h5.elim
    | goto l => exact h5.elim
    | outgrown => exact h5.elim

theorem finc1 {rs : List ResultVar} {r : ResultVar} {R : AEnd → AHeap → Prop} {env : Env} {σ : AHeap} {a : AV} (hrs : rs = [r]) (h1 : ResA P env σ r a) (h2 : R (.ret a) σ) : Gst N (RetOkC P rs R) env σ :=
  .done ⟨[a], hrs ▸ .cons h1 .nil, h2⟩
theorem finc2 {rs : List ResultVar} {r s : ResultVar} {R : AEnd → AHeap → Prop} {env : Env} {σ : AHeap} {a b : AV} (hrs : rs = [r, s]) (h1 : ResA P env σ r a) (h1' : ResA P env σ s b) (h2 : R (.ret (.tup [a, b])) σ) :
    Gst N (RetOkC P rs R) env σ := .done ⟨[a, b], hrs ▸ .cons h1 (.cons h1' .nil), h2⟩

end Go.AL
/- AL, part P: next decided in place; runes of a text; max, min; make; closures and their calls. -/
namespace Go.AL
open Go Go.RowKit

variable {P : Program} {N : Nat}

theorem aops_next {ops : Array Oper} {Q : Exit → Env → AHeap → Prop} {o : Oper} {rest : List Oper} {env : Env} {σ : AHeap} {d : Tmp} {x : Operand} {id pos : Nat} {l : List UInt8} (hg : o.guard = none)
    (hd : o.dst = some d) (hN : Nat.blt d N = true) (ho : o.op = .next x true) (hx : opnd env x = some (.itr id)) (hid : σ id = some (.siter ⟨l.toArray⟩ pos))
    (h1 : pos < l.length → AOps P N ops Q rest ((d, .tup [boo true, int (pos : Int), .v (.int .i32 ((decR (l.drop pos)).1 : Int))]) :: env) (upd σ id (.siter ⟨l.toArray⟩ (pos + (decR (l.drop pos)).2))))
    (h2 : ¬ pos < l.length → AOps P N ops Q rest ((d, .tup [boo false]) :: env) σ) : AOps P N ops Q (o :: rest) env σ := by
  by_cases h : pos < l.length
  · exact aops_v hg hd hN (a_next_more ho hx hid h (h1 h))
  · exact aops_v hg hd hN (a_next_end ho hx hid h (h2 h))

/-- the runes of a text -/
def runesF : Nat → List UInt8 → List Nat
  | 0, _ => []
  | n + 1, l => match l with
    | [] => []
    | c :: r => (decR (c :: r)).1 :: runesF n ((c :: r).drop (decR (c :: r)).2)
def runesOf (l : List UInt8) : List Nat := runesF l.length l
abbrev runeA (r : Nat) : AV := .v (.int .i32 (r : Int))

theorem runesF_nil : ∀ n, runesF n [] = [] | 0 => rfl | _ + 1 => rfl

theorem runesF_fuel : ∀ (n m : Nat) (l : List UInt8), l.length ≤ n → l.length ≤ m → runesF n l = runesF m l
  | 0, m, l, h, _ => by
    obtain rfl := List.eq_nil_of_length_eq_zero (Nat.le_zero.1 h)
    rw [runesF_nil, runesF_nil]
  | n + 1, 0, l, _, h => by
    obtain rfl := List.eq_nil_of_length_eq_zero (Nat.le_zero.1 h)
    rw [runesF_nil, runesF_nil]
  | n + 1, m + 1, [], _, _ => rfl
  | n + 1, m + 1, c :: r, h1, h2 => by
    have hw := decR_width (c :: r)
    simp only [List.length_cons] at h1 h2
    simp only [runesF]
    rw [runesF_fuel n m _ (by rw [List.length_drop, List.length_cons]; omega) (by rw [List.length_drop, List.length_cons]; omega)]

theorem runesOf_nil : runesOf [] = [] := rfl
theorem runesOf_cons (c : UInt8) (r : List UInt8) : runesOf (c :: r) = (decR (c :: r)).1 :: runesOf ((c :: r).drop (decR (c :: r)).2) := by
  have hw := decR_width (c :: r)
  unfold runesOf
  rw [List.length_cons, runesF]
  rw [runesF_fuel r.length ((c :: r).drop (decR (c :: r)).2).length _ (by rw [List.length_drop, List.length_cons]; omega) (Nat.le_refl _)]
theorem runesOf_drop {l : List UInt8} {i : Nat} (h : i < l.length) : runesOf (l.drop i) = (decR (l.drop i)).1 :: runesOf (l.drop (i + (decR (l.drop i)).2)) := by
  cases e : l.drop i with
  | nil => have := congrArg List.length e; simp at this; omega
  | cons c r => rw [runesOf_cons, ← List.drop_drop, e]

theorem runesF_len : ∀ (n : Nat) (l : List UInt8), (runesF n l).length ≤ l.length
  | 0, l => by simp [runesF]
  | n + 1, [] => by simp [runesF]
  | n + 1, c :: r => by
    have hw := decR_width (c :: r)
    have := runesF_len n ((c :: r).drop (decR (c :: r)).2)
    simp only [runesF, List.length_cons]
    rw [List.length_drop, List.length_cons] at this
    omega
theorem runesOf_len (l : List UInt8) : (runesOf l).length ≤ l.length := runesF_len _ _

theorem conv_runes (l : List UInt8) : ∀ (n i : Nat) (acc : Array Value), Conv.runesFrom ⟨l.toArray⟩ n i acc = acc ++ ((runesF n (l.drop i)).map fun r : Nat => Value.int .i32 (r : Int)).toArray
  | 0, i, acc => by simp [Conv.runesFrom, runesF]
  | n + 1, i, acc => by
    have hs : (⟨l.toArray⟩ : ByteArray).size = l.length := by simp [ByteArray.size]
    unfold Conv.runesFrom
    rw [hs]
    split
    · rename_i h
      show Conv.runesFrom ⟨l.toArray⟩ n (i + (Utf8.decode ⟨l.toArray⟩ i).2) (acc.push (.int .i32 (Int.ofNat (Utf8.decode ⟨l.toArray⟩ i).1))) = _
      rw [conv_runes l n]
      cases e : l.drop i with
      | nil => have := congrArg List.length e; simp at this; omega
      | cons c r =>
        rw [decode_drop, e]
        simp only [runesF, List.map_cons]
        rw [← e, List.drop_drop]
        apply Array.ext'
        simp
    · rename_i h
      rw [show l.drop i = [] from List.drop_eq_nil_of_le (by omega), runesF_nil]
      simp

def isRunes (P : Program) (t : TypeId) : Option TypeId := match P.underlying t with | some (.slice e) => (match P.underlying e with | some (.int .i32) => some e | _ => none) | _ => none
theorem isRunes_inv {t e : TypeId} (h : isRunes P t = some e) : P.underlying t = some (.slice e) ∧ P.underlying e = some (.int .i32) := by
  unfold isRunes at h
  split at h
  · split at h
    · simp only [Option.some.injEq] at h; subst h; exact ⟨by assumption, by assumption⟩
    · exact absurd h (by simp)
  · exact absurd h (by simp)

theorem below_drew (w : World) : Below w.heap.size w w.drew := (Below.refl _ _).drew

/-- []rune(s) -/
theorem a_str_runes {o : Oper} {env : Env} {σ : AHeap} {K : AV → AHeap → Prop} {T U e : TypeId} {x : Operand} {l : List UInt8} (ho : o.op = .convert T U x) (hT : isStr P T = true) (hU : isRunes P U = some e)
    (hx : opnd env x = some (str l)) (hl : l.length ≤ 70368744177664) (h : K (.lst ((runesOf l).map runeA) (runesOf l).length false) σ) : AVal P o env σ K := by
  intro G w ρ hst hρ
  have hxv := (hρ x _ hx).v_eq
  obtain ⟨hu, he⟩ := isRunes_inv hU
  have hs : (⟨l.toArray⟩ : ByteArray).size = l.length := by simp [ByteArray.size]
  have hc : Conv.runesFrom ⟨l.toArray⟩ (⟨l.toArray⟩ : ByteArray).size 0 #[] = ((runesOf l).map fun r : Nat => Value.int .i32 (r : Int)).toArray := by
    rw [conv_runes, hs]; simp [runesOf]
  have hlen := runesOf_len l
  have hrun := run_runes_of_string (P := P) w T U e ⟨l.toArray⟩ (isStr_inv hT) hu he (by rw [hc]; simp; omega)
  rw [hc] at hrun
  simp only [List.size_toArray, List.length_map] at hrun
  have hge := grownCap_ge w (runesOf l).length 0 e
  have hle := grownCap_le_maxLen w (runesOf l).length 0 e (by simp [maxLen]; omega)
  obtain ⟨k1, k2⟩ := hst.newFrz (w' := w.drew.alloc (.cells (((runesOf l).map fun r : Nat => Value.int .i32 (r : Int)).toArray ++ Array.replicate (grownCap w (runesOf l).length 0 e - (runesOf l).length) (.int .i32 0)) e))
    ((below_drew w).trans (below_alloc w.drew _)) (b := w.heap.size) (Nat.le_refl _) (alloc_at w.drew _)
  refine ⟨.slice (some ⟨w.heap.size, 0, none⟩) (runesOf l).length (grownCap w (runesOf l).length 0 e), _, _, _, _, ?_, k1, k2, ?_, h⟩
  · simp only [execOp, ho, hxv]
    simp [hrun]
  · refine .lst (by simp [Ghost.frz]; rfl) hge hle (by simp) (by simp) fun i a ha => ?_
    rw [List.getElem?_map] at ha
    cases e' : (runesOf l)[i]? with
    | none => simp [e'] at ha
    | some r =>
      simp [e'] at ha
      subst ha
      have hi : i < (runesOf l).length := (List.getElem?_eq_some_iff.1 e').1
      have : ((((runesOf l).map fun r : Nat => Value.int .i32 (r : Int)).toArray ++ Array.replicate (grownCap w (runesOf l).length 0 e - (runesOf l).length) (Value.int .i32 0))).getD (0 + i) undef = Value.int .i32 (r : Int) := by
        rw [Nat.zero_add, Array.getD_eq_getD_getElem?, Array.getElem?_append_left (by simpa using hi)]
        simp [List.getElem?_map, e']
      rw [this]
      exact .v _

theorem a_max {o : Oper} {env : Env} {σ : AHeap} {K : AV → AHeap → Prop} {x y : Operand} {ts : Array TypeId} {k k' : IntKind} {a b : Int} (ho : o.op = .call { callee := .builtin .max, args := #[x, y], argTypes := ts })
    (hx : opnd env x = some (.v (.int k a))) (hy : opnd env y = some (.v (.int k' b))) (h : K (.v (.int k (if b > a then b else a))) σ) : AVal P o env σ K :=
  a_pure (fun G w ρ hρ => ⟨.int k (if b > a then b else a), by
    have h1 := (hρ x _ hx).v_eq
    have h2 := (hρ y _ hy).v_eq
    simp [execOp, ho, resolve, invoke, builtin, Builtin.max_, Builtin.max2, h1, h2], .v _⟩) h
theorem a_min {o : Oper} {env : Env} {σ : AHeap} {K : AV → AHeap → Prop} {x y : Operand} {ts : Array TypeId} {k k' : IntKind} {a b : Int} (ho : o.op = .call { callee := .builtin .min, args := #[x, y], argTypes := ts })
    (hx : opnd env x = some (.v (.int k a))) (hy : opnd env y = some (.v (.int k' b))) (h : K (.v (.int k (if b < a then b else a))) σ) : AVal P o env σ K :=
  a_pure (fun G w ρ hρ => ⟨.int k (if b < a then b else a), by
    have h1 := (hρ x _ hx).v_eq
    have h2 := (hρ y _ hy).v_eq
    simp [execOp, ho, resolve, invoke, builtin, Builtin.min_, Builtin.min2, h1, h2], .v _⟩) h

/-- make, of elements of one cell -/
theorem a_makeSlice {o : Oper} {env : Env} {σ : AHeap} {K : AV → AHeap → Prop} {t e : TypeId} {by_ : Nat} {z : Value} {x y : Operand} {k k' : IntKind} {n : Int} {m : Nat}
    (ho : o.op = .makeSlice t x y) (ht : slcK P t = some (e, 1, by_, [z])) (hx : opnd env x = some (.v (.int k n))) (hy : opnd env y = some (.v (.int k' n))) (hm : n = (m : Int)) (hb : by_ * m ≤ 281474976710656) (hl : m ≤ maxLen)
    (h : ∀ id, σ id = none → K (.arr id 0 0 m 1) (upd σ id (.cells 0 e (List.replicate m (.v z))))) : AVal P o env σ K := by
  intro G w ρ hst hρ
  obtain ⟨i, z', hu, hi, hz, h1, rfl, hzc, hzs, hpos⟩ := slcK_inv ht
  subst hm
  have hxv := (hρ x _ hx).v_eq
  have hyv := (hρ y _ hy).v_eq
  obtain ⟨id, f1, f2⟩ := hst.fresh
  have hb' : (i.bytes : Int) * (m : Int) ≤ 281474976710656 := by
    have h : ((i.bytes * m : Nat) : Int) ≤ 281474976710656 := by omega
    rwa [Int.natCast_mul] at h
  have hl' : (m : Int) ≤ 9223372036854775807 := by simp [maxLen] at hl; omega
  have hr := run_make (P := P) w t e i z' hu hi hz k k' m m (by omega) (Int.le_refl _) hb' hl'
  simp only [Int.toNat_natCast, h1, Nat.mul_one] at hr
  have hmc : madeCells z'.cells m = (List.replicate m z).toArray := by
    have hz2 : z'.cells = #[z] := by apply Array.ext'; simpa using hzc
    unfold madeCells
    rw [hz2]
    apply Array.ext
    · simp
    · intro j h1 h2
      simp
      have : j % 1 = 0 := Nat.mod_one j
      simp [this]
  rw [hmc] at hr
  obtain ⟨k1, k2⟩ := hst.allocObj (ty := e) (cs := (List.replicate m z).toArray) (acs := List.replicate m (.v z)) f1 f2 ⟨by simp, fun j a ha => by
    rw [List.getElem?_replicate] at ha
    split at ha
    · rename_i hj
      simp at ha; subst ha
      simp [Array.getD_eq_getD_getElem?, hj]
      exact .v z
    · exact absurd ha (by simp)⟩
  refine ⟨_, _, _, _, _, ?_, k1, k2, .arr (b := w.heap.size) (N := m) (by simp [Ghost.place]) (by simp) (Nat.le_refl _) hl, h id f1⟩
  simp [execOp, ho, hxv, hyv, hr]

theorem a_makeFunc {o : Oper} {env : Env} {σ : AHeap} {K : AV → AHeap → Prop} {f : FuncId} {caps : List Operand} {avs : List AV} (ho : o.op = .makeFunc (.func f) #[] caps.toArray) (hx : opnds env caps = some avs)
    (h : K (.clo f avs) σ) : AVal P o env σ K :=
  a_pure (fun G w ρ hρ => by
    have hv := opnds_vrels hρ hx
    refine ⟨_, ?_, .clo hv.1 hv.2⟩
    simp [execOp, ho, Instr.makeFunc]) h

theorem VRels.append {G : Ghost} {vs us : Array Value} {avs bs : List AV} (h : VRels G vs avs) (k : VRels G us bs) : VRels G (vs ++ us) (avs ++ bs) := by
  refine ⟨by simp [h.1, k.1], fun i a ha => ?_⟩
  rw [List.getElem?_append] at ha
  split at ha
  · rename_i hi
    have := h.2 i a ha
    simpa [Array.getD_eq_getD_getElem?, Array.getElem?_append, h.1, hi] using this
  · rename_i hi
    have := k.2 _ a ha
    simpa [Array.getD_eq_getD_getElem?, Array.getElem?_append, h.1, hi] using this

theorem aops_call_clo {ops : Array Oper} {Q : Exit → Env → AHeap → Prop} {o : Oper} {rest : List Oper} {env : Env} {σ : AHeap} {f : FuncId} {t : Tmp} {caps : List AV} {args : List Operand} {ts : Array TypeId} {avs : List AV} {d : Tmp}
    {R : AEnd → AHeap → Prop} (hg : o.guard = none) (hd : o.dst = some d) (hN : Nat.blt d N = true) (ho : o.op = .call { callee := .value (.tmp t), args := args.toArray, argTypes := ts }) (hf : look env t = some (.clo f caps)) (hc : Callable P f)
    (hargs : opnds env args = some avs) (hspec : ASpec P f (avs ++ caps) σ R) (hret : ∀ a σ', R (.ret a) σ' → AOps P N ops Q rest ((d, a) :: env) σ')
    (hpan : ∀ c σ', R (.pan c) σ' → Q (.panic c) env σ') : AOps P N ops Q (o :: rest) env σ := by
  intro G w act hst he
  have hv := opnds_vrels (fun x a e => he.opnd e) hargs
  have hcl := he.tmps _ _ hf
  generalize hfe : act.tmps.getD t undef = fv at hcl
  cases hcl with
  | @clo _ cs _ hl hcs =>
  have hv' : VRels G (args.toArray.map act.eval ++ cs) (avs ++ caps) := hv.append ⟨hl, hcs⟩
  refine wpList_plain hg fun K hK => ?_
  unfold Oper.wp
  have hr : (execOp act.eval o).run P w = .ok (.enter f (args.toArray.map act.eval ++ cs)) w := by
    have := hc (args.toArray.map act.eval ++ cs) w
    simp only [List.map_toArray] at this
    have he' : act.eval (.tmp t) = .func (.func f) #[] cs := hfe
    simp [execOp, ho, resolve, Deferred.ofValue, he', invoke]
    exact this
  rw [hr, Oper.upon_enter]
  refine (hspec G w _ hst hv').mono fun e w' ⟨G', σ', r, hG, hst', hr', hR⟩ => ?_
  cases e with
  | returned v =>
    cases r with
    | pan c => exact hr'.elim
    | ret a =>
      have hk' := hret a σ' hR G' w' (act.put o.dst v) hst' (by rw [hd]; exact (he.mono hG).put (d := some d) hN hr')
      rw [Act.put_defers] at hk'
      exact hK _ _ (wpList_mono' (fun _ _ _ hq => hq.mono hG fun _ _ _ q => q) _ _ _ hk')
  | panicked c =>
    cases r with
    | ret a => exact hr'.elim
    | pan c' =>
      have : c = c' := hr'
      subst this
      exact ⟨G', env, σ', hG, hst', he.mono hG, rfl, hpan c σ' hR⟩
  | outgrown => cases r <;> exact hr'.elim

theorem aops_call_clo_eq {ops : Array Oper} {Q : Exit → Env → AHeap → Prop} {o : Oper} {rest : List Oper} {env : Env} {σ σ1 : AHeap} {f : FuncId} {t : Tmp} {caps : List AV} {args : List Operand} {ts : Array TypeId} {avs : List AV} {d : Tmp} {a : AV}
    (hg : o.guard = none) (hd : o.dst = some d) (hN : Nat.blt d N = true) (ho : o.op = .call { callee := .value (.tmp t), args := args.toArray, argTypes := ts }) (hf : look env t = some (.clo f caps)) (hc : Callable P f)
    (hargs : opnds env args = some avs) (hspec : ASpec P f (avs ++ caps) σ fun r σ' => r = .ret a ∧ σ' = σ1) (h : AOps P N ops Q rest ((d, a) :: env) σ1) : AOps P N ops Q (o :: rest) env σ :=
  aops_call_clo hg hd hN ho hf hc hargs hspec (fun a' σ' hr => by obtain ⟨e1, e2⟩ := hr; simp only [AEnd.ret.injEq] at e1; subst e1 e2; exact h) (fun c σ' hr => by exact absurd hr.1 (by simp))

end Go.AL
/- AL, part Q: growing lists whose slices lie in memory; freezing them there; smaller heaps. -/
namespace Go.AL
open Go Go.RowKit

variable {P : Program} {N : Nat}

/-- a value in which a growing list's slice has become frozen memory -/
inductive FrzL (sz : Nat) (cs : List AV) (n id ver : Nat) : AV → AV → Prop where
  | refl (a : AV) : FrzL sz cs n id ver a a
  | sl : FrzL sz cs n id ver (slv sz cs n id ver) (.lst cs n false)
  | agg {l l' : List AV} (hl : l.length = l'.length) (h : ∀ (i : Nat) (a a' : AV), l[i]? = some a → l'[i]? = some a' → FrzL sz cs n id ver a a') : FrzL sz cs n id ver (.agg l) (.agg l')
  | tup {l l' : List AV} (hl : l.length = l'.length) (h : ∀ (i : Nat) (a a' : AV), l[i]? = some a → l'[i]? = some a' → FrzL sz cs n id ver a a') : FrzL sz cs n id ver (.tup l) (.tup l')
  | nil : FrzL sz cs n id ver nilS (.lst [] 0 false)
  | ex {l : List AV} {n' : Nat} {ex : Bool} : FrzL sz cs n id ver (.lst l n' ex) (.lst l n' false)

theorem FrzL.rel {G : Ghost} {sz n id ver : Nat} {cs : List AV} (hn : cs.length = n * sz) (hf : 0 < n → ∃ b row, G.loc id ver = some (b, row.size) ∧ G.fz b = some row ∧ CellsRel G row 0 cs) {a a' : AV}
    (h : FrzL sz cs n id ver a a') : ∀ {x : Value}, VRel G x a → VRel G x a' := by
  induction h with
  | refl a => exact fun hx => hx
  | sl =>
    intro x hx
    cases n with
    | zero =>
      obtain rfl : cs = [] := List.eq_nil_of_length_eq_zero (by simpa using hn)
      exact weak_nil hx
    | succ n =>
      obtain ⟨b, row, h1, h2, h3⟩ := hf (by omega)
      simp only [slv] at hx
      rcases hx.arr_inv with ⟨h0, _⟩ | ⟨b', N', cap, k1, k2, k3, k4, rfl⟩
      · omega
      · rw [h1] at k1
        simp only [Option.some.injEq, Prod.mk.injEq] at k1
        obtain ⟨rfl, rfl⟩ := k1
        exact .lst h2 k3 k4 (by simp) h3.1 h3.2
  | @agg l l' hl h ih =>
    intro x hx
    cases hx with
    | @agg cs' acs hl' hc'' =>
      refine .agg (by omega) fun i a' ha' => ?_
      have hi : i < l.length := by have := (List.getElem?_eq_some_iff.1 ha').1; omega
      exact ih i _ a' (List.getElem?_eq_getElem hi) ha' (hc'' i _ (List.getElem?_eq_getElem hi))
  | @tup l l' hl h ih =>
    intro x hx
    cases hx with
    | @tup cs' acs hl' hc'' =>
      refine .tup (by omega) fun i a' ha' => ?_
      have hi : i < l.length := by have := (List.getElem?_eq_some_iff.1 ha').1; omega
      exact ih i _ a' (List.getElem?_eq_getElem hi) ha' (hc'' i _ (List.getElem?_eq_getElem hi))
  | nil => exact fun hx => weak_nil hx
  | ex => exact fun hx => weak_ex hx

/-- two lists cell by cell -/
inductive Cellwise (R : AV → AV → Prop) : List AV → List AV → Prop where
  | nil : Cellwise R [] []
  | cons {a b : AV} {l m : List AV} (h : R a b) (t : Cellwise R l m) : Cellwise R (a :: l) (b :: m)

theorem Cellwise.len {R : AV → AV → Prop} {l m : List AV} (h : Cellwise R l m) : l.length = m.length := by
  induction h with
  | nil => rfl
  | cons _ _ ih => simp [ih]
theorem Cellwise.get {R : AV → AV → Prop} {l m : List AV} (h : Cellwise R l m) : ∀ (i : Nat) (b : AV), m[i]? = some b → ∃ a, l[i]? = some a ∧ R a b := by
  induction h with
  | nil => simp
  | cons h _ ih =>
    intro i b hb
    cases i with
    | zero => simp at hb; subst hb; exact ⟨_, rfl, h⟩
    | succ i => simp at hb; simpa using ih i b hb

/-- an object of which less is known -/
inductive ObjL (R : AV → AV → Prop) : AObj → AObj → Prop where
  | refl (o : AObj) : ObjL R o o
  | cells {ver : Nat} {ty : TypeId} {l m : List AV} (h : Cellwise R l m) : ObjL R (.cells ver ty l) (.cells ver ty m)

theorem ObjL.live {G : Ghost} {w : World} {R : AV → AV → Prop} (hR : ∀ a b, R a b → ∀ x, VRel G x a → VRel G x b) {o o' : AObj} (h : ObjL R o o') : o'.ver = o.ver ∧ ∀ {b N : Nat}, Live G w b N o → Live G w b N o' := by
  cases h with
  | refl o => exact ⟨rfl, id⟩
  | cells h =>
    refine ⟨rfl, fun ⟨cs, h1, h2, h3⟩ => ⟨cs, h1, h2, by rw [← h.len]; exact h3.1, fun i b hb => ?_⟩⟩
    obtain ⟨a, ha, hr⟩ := h.get i b hb
    exact hR _ _ hr _ (h3.2 i a ha)

theorem St.less {G : Ghost} {σ σ' : AHeap} {w : World} {R : AV → AV → Prop} (hR : ∀ a b, R a b → ∀ x, VRel G x a → VRel G x b) (h : St G σ w)
    (hs : ∀ k o, σ' k = some o → ∃ o0, σ k = some o0 ∧ ObjL R o0 o) : St G σ' w where
  old := h.old
  hB := h.hB
  fz := h.fz
  live k o e := by
    obtain ⟨o0, e0, hl⟩ := hs k o e
    obtain ⟨b, N, l1, l2, l3, l4⟩ := h.live k o0 e0
    obtain ⟨v1, v2⟩ := hl.live (w := w) hR
    exact ⟨b, N, by rw [v1]; exact l1, l2, l3, v2 l4⟩
  inj k k' o o' b M M' e e' l l' := by
    obtain ⟨o0, e0, hl⟩ := hs k o e
    obtain ⟨o0', e0', hl'⟩ := hs k' o' e'
    rw [(hl.live (w := w) hR).1] at l
    rw [(hl'.live (w := w) hR).1] at l'
    exact h.inj k k' o0 o0' b M M' e0 e0' l l'
  fin := by
    obtain ⟨M, m1, m2⟩ := h.fin
    refine ⟨M, fun k hk => ?_, m2⟩
    cases e : σ' k with
    | none => rfl
    | some o => obtain ⟨o0, e0, _⟩ := hs k o e; rw [m1 k hk] at e0; exact absurd e0 (by simp)

/-- some objects are let go -/
theorem gst_sub {Q : Env → AHeap → Prop} {env : Env} {σ : AHeap} (σ' : AHeap) (hs : ∀ k o, σ' k = some o → σ k = some o) (h : Gst N Q env σ') : Gst N Q env σ :=
  fun G w act hst he => h G w act (hst.less (R := fun a b => a = b) (fun a b e x hx => e ▸ hx) (fun k o e => ⟨o, hs k o e, .refl o⟩)) he

/-- a growing list is frozen, in slots and in memory -/
theorem gst_frzL {Q : Env → AHeap → Prop} {env : Env} {σ : AHeap} {sz n id ver : Nat} {e : TypeId} {cs : List AV} (hn : cs.length = n * sz) (hid : 0 < n → σ id = some (.cells ver e cs)) (ups : List (Nat × AV))
    (hu : ∀ p ∈ ups, ∃ a, look env p.1 = some a ∧ FrzL sz cs n id ver a p.2) (σ' : AHeap) (hs : ∀ k o, σ' k = some o → (0 < n → k ≠ id) ∧ ∃ o0, σ k = some o0 ∧ ObjL (FrzL sz cs n id ver) o0 o)
    (h : Gst N Q (ups ++ env) σ') : Gst N Q env σ := by
  have key : ∀ (G : Ghost) (w : World) (act : Act), (0 < n → ∃ b row, G.loc id ver = some (b, row.size) ∧ G.fz b = some row ∧ CellsRel G row 0 cs) → St G (if 0 < n then del σ id else σ) w → ERel G N act env →
      ∃ G' env' σ', G.le G' ∧ St G' σ' w ∧ ERel G' N act env' ∧ Q env' σ' := by
    intro G w act hf hst he
    have hR : ∀ a b, FrzL sz cs n id ver a b → ∀ x, VRel G x a → VRel G x b := fun a b hab x hx => hab.rel hn hf hx
    have he' : ERel G N act (ups ++ env) := by
      refine ⟨he.size, fun t a ha => ?_⟩
      have key : ∀ (l : List (Nat × AV)), (∀ p ∈ l, ∃ a, look env p.1 = some a ∧ FrzL sz cs n id ver a p.2) → look (l ++ env) t = some a → VRel G (act.tmps.getD t undef) a := by
        intro l
        induction l with
        | nil => intro _ ha; exact he.tmps t a (by simpa using ha)
        | cons p r ih =>
          intro hl ha
          rw [List.cons_append, look_cons] at ha
          split at ha
          · rename_i hk
            simp only [Option.some.injEq] at ha
            obtain ⟨a0, h1, h2⟩ := hl p List.mem_cons_self
            rw [← ha]
            rw [hk] at h1
            exact hR _ _ h2 _ (he.tmps t a0 h1)
          · exact ih (fun p hp => hl p (List.mem_cons_of_mem _ hp)) ha
      exact key ups hu ha
    refine h G w act (hst.less hR fun k o ek => ?_) he'
    obtain ⟨k1, o0, k2, k3⟩ := hs k o ek
    refine ⟨o0, ?_, k3⟩
    split
    · rename_i h0; rw [del_ne _ (k1 h0)]; exact k2
    · exact k2
  intro G w act hst he
  by_cases h0 : 0 < n
  · have hid' := hid h0
    obtain ⟨b, N', l1, l2, l3, l4⟩ := hst.live id _ hid'
    have l1' : G.loc id ver = some (b, N') := l1
    obtain ⟨row, e1, e2, e3, e4⟩ := hst.freeze hid' l1'
    subst e1
    obtain ⟨G', env', σ', k1, k2, k3, k4⟩ := key (G.frz b row) w act (fun _ => ⟨b, row, by simpa [Ghost.frz] using l1', by simp [Ghost.frz], e2.mono e3⟩) (by rw [if_pos h0]; exact e4) (he.mono e3)
    exact ⟨G', env', σ', e3.trans k1, k2, k3, k4⟩
  · exact key G w act (fun h => absurd h h0) (by rw [if_neg h0]; exact hst) he

/-- append onto a growing list, wherever it lies -/
theorem a_append_g {o : Oper} {env : Env} {σ : AHeap} {K : AV → AHeap → Prop} {t e : TypeId} {s x : Operand} {id ver n m sz by_ : Nat} {zs : List Value} {cs acs : List AV} {av : AV}
    (ho : o.op = .call { callee := .builtin .append, args := #[s, x], argTypes := #[t, t] }) (ht : slcK P t = some (e, sz, by_, zs)) (hs : opnd env s = some (slv sz cs n id ver))
    (hid : 0 < n → σ id = some (.cells ver e cs)) (hn : cs.length = n * sz) (hx : opnd env x = some av) (hsrc : Src σ sz av acs m) (hone : acs.all AV.one = true)
    (hb : (n + m) * by_ ≤ 140737488355328) (hm : n + m ≤ maxLen)
    (h0 : n + m = 0 → K nilS σ)
    (h : 0 < n + m → ∀ id' ver', (0 < n → id' = id) → (n = 0 → σ id' = none) → K (slv sz (cs ++ acs) (n + m) id' ver') (upd σ id' (.cells ver' e (cs ++ acs)))) : AVal P o env σ K := by
  cases n with
  | zero =>
    obtain rfl : cs = [] := List.eq_nil_of_length_eq_zero (by simpa using hn)
    refine a_append_nil ho ht hs hx hsrc hone (by simpa using hb) (by simpa using hm) (fun h0' => ?_) (fun h0' id' hid' => ?_)
    · exact h0 (by omega)
    · obtain ⟨m, rfl⟩ : ∃ k, m = k + 1 := ⟨m - 1, by omega⟩
      have := h (by omega) id' 0 (by omega) (fun _ => hid')
      simp only [Nat.zero_add, List.nil_append] at this
      exact this
  | succ n =>
    refine a_append ho ht hs (hid (by omega)) (by omega) hx hsrc hone hb hm (fun ver' => ?_)
    have := h (by omega) id ver' (fun _ => rfl) (by omega)
    rw [List.take_of_length_le (by omega)]
    have e : n + 1 + m = (n + m) + 1 := by omega
    simp only [e, slv] at this ⊢
    exact this

theorem Src.slg {σ : AHeap} {ty : TypeId} {cs : List AV} {sz n id ver : Nat} (hn : cs.length = n * sz) (hid : 0 < n → σ id = some (.cells ver ty cs)) : Src σ sz (slv sz cs n id ver) cs n := by
  cases n with
  | zero =>
    obtain rfl : cs = [] := List.eq_nil_of_length_eq_zero (by simpa using hn)
    exact .nil
  | succ n =>
    have := Src.arr (sz := sz) (off := 0) (n := n + 1) (hid (by omega)) (by omega)
    rw [List.drop_zero, List.take_of_length_le (by omega)] at this
    exact this

theorem a_len_slg {o : Oper} {env : Env} {σ : AHeap} {K : AV → AHeap → Prop} {t : TypeId} {x : Operand} {sz n id ver : Nat} {cs : List AV} (ho : o.op = .call { callee := .builtin .len, args := #[x], argTypes := #[t] })
    (ht : isSl P t = true) (hx : opnd env x = some (slv sz cs n id ver)) (h : K (int (n : Int)) σ) : AVal P o env σ K := by
  cases n with
  | zero => exact a_len_nil ho ht hx h
  | succ n => exact a_len ho ht hx h

/-- append onto nothing, of what may be nothing: a growing list -/
theorem a_append_nilg {o : Oper} {env : Env} {σ : AHeap} {K : AV → AHeap → Prop} {t e : TypeId} {s x : Operand} {m sz by_ : Nat} {zs : List Value} {acs : List AV} {av : AV}
    (ho : o.op = .call { callee := .builtin .append, args := #[s, x], argTypes := #[t, t] }) (ht : slcK P t = some (e, sz, by_, zs)) (hs : opnd env s = some nilS)
    (hx : opnd env x = some av) (hsrc : Src σ sz av acs m) (hone : acs.all AV.one = true) (hb : m * by_ ≤ 140737488355328) (hm : m ≤ maxLen)
    (h : ∀ id, σ id = none → K (slv sz acs m id 0) (slh σ e acs m id 0)) (hfree : ∃ id, σ id = none) : AVal P o env σ K := by
  have hl := hsrc.length
  obtain ⟨id, hid⟩ := hfree
  refine a_append_nil ho ht hs hx hsrc hone hb hm (fun h0 => ?_) (fun h0 id' hid' => ?_)
  · subst h0
    have := h id hid
    simpa [slv, slh] using this
  · obtain ⟨m, rfl⟩ : ∃ k, m = k + 1 := ⟨m - 1, by omega⟩
    exact h id' hid'

end Go.AL
/- AL, part R: made and frozen at once. -/
namespace Go.AL
open Go Go.RowKit

variable {P : Program} {N : Nat}

/-- what an operation made is frozen at once -/
theorem AVal.frz {o : Oper} {env : Env} {σ : AHeap} {K : AV → AHeap → Prop} {e : TypeId} {acs : List AV} {m sz : Nat} (hm : acs.length = m * sz)
    (h : AVal P o env σ fun a σ' => (m = 0 ∧ (a = nilS ∨ ∃ ex, a = .lst [] 0 ex) ∧ σ' = σ) ∨ ∃ id ver, σ id = none ∧ a = .arr id ver 0 m sz ∧ σ' = upd σ id (.cells ver e acs)) (hk : K (.lst acs m false) σ) : AVal P o env σ K := by
  intro G w ρ hst hρ
  obtain ⟨v, w', G', av, σ', h1, h2, h3, h4, h5⟩ := h G w ρ hst hρ
  rcases h5 with ⟨rfl, ha, rfl⟩ | ⟨id, ver, k1, rfl, rfl⟩
  · obtain rfl : acs = [] := List.eq_nil_of_length_eq_zero (by simpa using hm)
    refine ⟨v, w', G', _, _, h1, h2, h3, ?_, hk⟩
    rcases ha with rfl | ⟨ex, rfl⟩
    · exact weak_nil h4
    · exact weak_ex h4
  · obtain ⟨b, N', l1, l2, l3, l4⟩ := h3.live id _ (upd_same _ _ _)
    have l1' : G'.loc id ver = some (b, N') := l1
    obtain ⟨row, e1, e2, e3, e4⟩ := h3.freeze (upd_same _ _ _) l1'
    subst e1
    rw [del_upd _ _ k1] at e4
    refine ⟨v, w', _, _, _, h1, h2.trans e3, e4, ?_, hk⟩
    have := Frz.arr (id := id) (ver := ver) (cs := acs) (off := 0) (n := m) (sz := sz) (by omega)
    rw [List.drop_zero, List.take_of_length_le (by omega)] at this
    exact this.rel l1' l3 e2 h4

/-- append onto an empty literal -/
theorem a_append_lit {o : Oper} {env : Env} {σ : AHeap} {K : AV → AHeap → Prop} {t e : TypeId} {s x : Operand} {m sz by_ : Nat} {zs : List Value} {acs : List AV} {av : AV}
    (ho : o.op = .call { callee := .builtin .append, args := #[s, x], argTypes := #[t, t] }) (ht : slcK P t = some (e, sz, by_, zs)) (hs : opnd env s = some (.lst [] 0 true))
    (hx : opnd env x = some av) (hsrc : Src σ sz av acs m) (hone : acs.all AV.one = true) (hb : m * by_ ≤ 140737488355328) (hm : m ≤ maxLen) (h : K (.lst acs m false) σ) : AVal P o env σ K := by
  refine AVal.frz (e := e) hsrc.length ?_ h
  refine a_append_ex ho ht hs (by simp) hx hsrc (by simpa using hone) (by simpa using hb) (by simpa using hm) (fun h0 => .inl ⟨h0, .inr ⟨true, rfl⟩, rfl⟩) (fun h0 id hid => .inr ⟨id, 0, hid, by simp, by simp⟩)

/-- append onto nil, frozen -/
theorem a_append_nil_frz {o : Oper} {env : Env} {σ : AHeap} {K : AV → AHeap → Prop} {t e : TypeId} {s x : Operand} {m sz by_ : Nat} {zs : List Value} {acs : List AV} {av : AV}
    (ho : o.op = .call { callee := .builtin .append, args := #[s, x], argTypes := #[t, t] }) (ht : slcK P t = some (e, sz, by_, zs)) (hs : opnd env s = some nilS)
    (hx : opnd env x = some av) (hsrc : Src σ sz av acs m) (hone : acs.all AV.one = true) (hb : m * by_ ≤ 140737488355328) (hm : m ≤ maxLen) (h : K (.lst acs m false) σ) : AVal P o env σ K := by
  refine AVal.frz (e := e) hsrc.length ?_ h
  exact a_append_nil ho ht hs hx hsrc hone hb hm (fun h0 => .inl ⟨h0, .inl rfl, rfl⟩) (fun h0 id hid => .inr ⟨id, 0, hid, rfl, rfl⟩)

/-- a variable that is only read from here on -/
theorem aops_frz2 {ops : Array Oper} {l : List Oper} {Q : Exit → Env → AHeap → Prop} {env : Env} {σ : AHeap} {d id ver : Nat} {ty : TypeId} {cs : List AV} {z : AObj} (hd : look env d = some (.ref id ver 0)) (hid : σ id = none)
    (h : AOps P N ops Q l ((d, .pin cs 0) :: env) σ) : AOps P N ops Q l env (upd (upd σ id z) id (.cells ver ty cs)) := by
  rw [upd_upd]
  refine AOps.ghost (gst_freeze (upd_same _ _ _) [(d, .pin cs 0)] ?_ (.done ?_))
  · intro p hp
    simp only [List.mem_singleton] at hp
    subst hp
    exact ⟨_, hd, .ref⟩
  · rw [del_upd _ _ hid]; exact h

theorem aops_frz1 {ops : Array Oper} {l : List Oper} {Q : Exit → Env → AHeap → Prop} {env : Env} {σ : AHeap} {d id ver : Nat} {ty : TypeId} {cs : List AV} (hd : look env d = some (.ref id ver 0)) (hid : σ id = none)
    (h : AOps P N ops Q l ((d, .pin cs 0) :: env) σ) : AOps P N ops Q l env (upd σ id (.cells ver ty cs)) := by
  refine AOps.ghost (gst_freeze (upd_same _ _ _) [(d, .pin cs 0)] ?_ (.done ?_))
  · intro p hp
    simp only [List.mem_singleton] at hp
    subst hp
    exact ⟨_, hd, .ref⟩
  · rw [del_upd _ _ hid]; exact h

/-- a slice compared with nil: nothing is known -/
theorem aops_lst_nil {ops : Array Oper} {Q : Exit → Env → AHeap → Prop} {o : Oper} {rest : List Oper} {env : Env} {σ : AHeap} {d : Tmp} {op : BinOp} {T U : TypeId} {x y : Operand} {cs : List AV} {n : Nat} {ex : Bool}
    (hg : o.guard = none) (hd : o.dst = some d) (hN : Nat.blt d N = true) (ho : o.op = .binOp op T x y U)
    (hop : isEqOp op = true) (hu : isSl P T = true) (hx : opnd env x = some (.lst cs n ex)) (hy : opnd env y = some nilS)
    (h : ∀ b, (b = true → cs = [] ∧ n = 0) → AOps P N ops Q rest ((d, eqR op b) :: env) σ) : AOps P N ops Q (o :: rest) env σ := by
  refine aops_v hg hd hN ?_
  intro G w ρ hst hρ
  obtain ⟨e, hu⟩ := isSl_inv hu
  have hyv := (hρ y _ hy).v_eq
  have key : ∀ (a : Option Addr) (n' c : Nat), ρ x = .slice a n' c → (a.isNone = true → cs = [] ∧ n = 0) → ∃ v w' G' av σ', (execOp ρ o).run P w = .ok (.value v) w' ∧ G.le G' ∧ St G' σ' w' ∧ VRel G' v av ∧ AOps P N ops Q rest ((d, av) :: env) σ' := by
    intro a n' c hxv ha
    obtain ⟨h4, h5⟩ := run_eql_of (P := P) (T := T) (x := ρ x) (y := ρ y) (b := a.isNone) (w := w) (.inr ⟨_, _, _, hxv⟩) (.inr ⟨_, _, _, hyv⟩) (fun d => by rw [hxv, hyv]; cases a <;> simp [Op.equalIn, run_underlying hu])
    have hg' : (eqGuard op T x y (ρ x) (ρ y)).run P w = .ok () w := by rw [hxv, hyv]; cases op <;> simp [eqGuard]
    cases op with
    | eql => exact ⟨_, w, G, _, σ, by simp [execOp, ho, hg', h4], .refl G, hst, .v _, h _ ha⟩
    | neq => exact ⟨_, w, G, _, σ, by simp [execOp, ho, hg', h5], .refl G, hst, .v _, h _ ha⟩
    | _ => simp [isEqOp] at hop
  rcases (hρ x _ hx).lst_inv with ⟨a, cap, rfl, rfl, h4, _⟩ | ⟨b, o', cap, cs', _, _, _, _, _, h7⟩
  · exact key a _ _ h4 (fun _ => ⟨rfl, rfl⟩)
  · exact key _ _ _ h7 (by simp)

end Go.AL
/- AL, part S: panics of the program's own; calls that give up or answer; bools compared. -/
namespace Go.AL
open Go Go.RowKit

variable {P : Program} {N : Nat}

def isConcrete (P : Program) (t : TypeId) : Bool := match P.underlying t with | some (.interface _) => false | some _ => true | none => false
theorem a_makeInterface {o : Oper} {env : Env} {σ : AHeap} {K : AV → AHeap → Prop} {t : TypeId} {x : Operand} {av : AV} (ho : o.op = .makeInterface t x) (ht : isConcrete P t = true) (hx : opnd env x = some av)
    (h : K (.ifc t av) σ) : AVal P o env σ K := by
  unfold isConcrete at ht
  refine a_pure (fun G w ρ hρ => ⟨.iface t (ρ x), ?_, .ifc (hρ x _ hx)⟩) h
  split at ht
  · exact absurd ht (by simp)
  · rename_i d hne hd
    have : (Instr.makeInterface t (ρ x)).run P w = .ok (.iface t (ρ x)) w := by
      unfold Instr.makeInterface
      simp only [Sem.run_bind, run_underlying hd, Result.andThen]
      cases d <;> first | rfl | (exfalso; exact hne _ hd)
    simp [execOp, ho, this]
  · exact absurd ht (by simp)

def panE (t : TypeId) (y : Value) : List PanicEntry := [{ v := .iface t (.agg #[y]), recovered := false }]

theorem aops_panic {ops : Array Oper} {Q : Exit → Env → AHeap → Prop} {o : Oper} {rest : List Oper} {env : Env} {σ : AHeap} {t : TypeId} {x : Operand} {y : Value} (hg : o.guard = none) (ho : o.op = .panic x)
    (hx : opnd env x = some (.ifc t (.agg [.v y]))) (h : Q (.panic (panE t y)) env σ) : AOps P N ops Q (o :: rest) env σ := by
  intro G w act hst he
  have hxr := he.opnd hx
  have hxv : act.eval x = .iface t (.agg #[y]) := by
    generalize act.eval x = v at hxr
    cases hxr with
    | ifc h =>
      cases h with
      | @agg cs acs hl hc =>
        have h0 := hc 0 (.v y) rfl
        have : cs = #[y] := by
          apply Array.ext
          · simpa using hl
          · intro i h1 h2
            have hi : i = 0 := by simp at h2; omega
            subst hi
            have := h0.v_eq
            simp [Array.getD, h1] at this
            simpa using this
        rw [this]
  refine wpList_plain hg fun K hK => ?_
  unfold Oper.wp
  have hr : (execOp act.eval o).run P w = .halt (.panic (.iface t (.agg #[y]))) w := by
    simp [execOp, ho, hxv, Instr.panic]
  rw [hr, Oper.upon_panic]
  exact ⟨G, env, σ, .refl G, hst, he, rfl, h⟩

/-- a function that gives up, or answers -/
def ResP {α ι : Type} (ch : List PanicEntry) (σn : AHeap) (res : Option α) (A : α → ι → Prop) (F : α → ι → AV) (H : α → ι → AHeap) (r : AEnd) (σ' : AHeap) : Prop :=
  match res with
  | none => r = .pan ch ∧ σ' = σn
  | some x => ∃ i, A x i ∧ r = .ret (F x i) ∧ σ' = H x i

theorem aops_call_res {α ι : Type} {ch : List PanicEntry} {σn : AHeap} {res : Option α} {A : α → ι → Prop} {F : α → ι → AV} {H : α → ι → AHeap}
    {ops : Array Oper} {Q : Exit → Env → AHeap → Prop} {o : Oper} {rest : List Oper} {env : Env} {σ : AHeap} {f : FuncId} {args : List Operand} {ts : Array TypeId} {avs : List AV} {d : Tmp}
    (hg : o.guard = none) (hd : o.dst = some d) (hN : Nat.blt d N = true) (ho : o.op = .call { callee := .value (.func f), args := args.toArray, argTypes := ts }) (hc : Callable P f)
    (hargs : opnds env args = some avs) (hspec : ASpec P f avs σ (ResP ch σn res A F H))
    (hn : res = none → Q (.panic ch) env σn) (hs : ∀ x i, res = some x → A x i → AOps P N ops Q rest ((d, F x i) :: env) (H x i)) : AOps P N ops Q (o :: rest) env σ := by
  refine aops_call_any hg hd hN ho hc hargs hspec (fun a σ' hr => ?_) (fun c σ' hr => ?_)
  · cases res with
    | none => exact absurd hr.1 (by simp)
    | some x =>
      obtain ⟨i, h1, h2, h3⟩ := hr
      simp only [AEnd.ret.injEq] at h2
      subst h2 h3
      exact hs x i rfl h1
  · cases res with
    | none =>
      obtain ⟨h2, h3⟩ := hr
      simp only [AEnd.pan.injEq] at h2
      subst h2 h3
      exact hn rfl
    | some x => obtain ⟨i, h1, h2, h3⟩ := hr; exact absurd h2 (by simp)

def isBool (P : Program) (t : TypeId) : Bool := match P.underlying t with | some .bool => true | _ => false
theorem isBool_inv {t : TypeId} (h : isBool P t = true) : P.underlying t = some .bool := by
  unfold isBool at h; split at h <;> first | assumption | exact absurd h (by simp)

def binB : BinOp → Bool → Bool → Option Bool
  | .eql, a, b => some (a == b)
  | .neq, a, b => some (a != b)
  | _, _, _ => none
theorem a_bool {o : Oper} {env : Env} {σ : AHeap} {K : AV → AHeap → Prop} {op : BinOp} {T U : TypeId} {x y : Operand} {a b c : Bool} (ho : o.op = .binOp op T x y U) (hu : isBool P T = true)
    (hx : opnd env x = some (boo a)) (hy : opnd env y = some (boo b)) (hc : binB op a b = some c) (h : K (boo c) σ) : AVal P o env σ K := by
  have hT := isBool_inv hu
  refine a_pure (fun G w ρ hρ => ⟨.bool c, ?_, .v _⟩) h
  have h1 := (hρ x _ hx).v_eq
  have h2 := (hρ y _ hy).v_eq
  have he := run_eq_of (P := P) (T := T) (x := .bool a) (y := .bool b) (b := a == b) (w := w) (fun d => by simp [Op.equalIn, run_underlying hT])
  cases op <;> simp [binB] at hc <;> subst hc <;> simp [execOp, ho, h1, h2, eqGuard, binOp, he] <;> cases a <;> cases b <;> rfl

end Go.AL
