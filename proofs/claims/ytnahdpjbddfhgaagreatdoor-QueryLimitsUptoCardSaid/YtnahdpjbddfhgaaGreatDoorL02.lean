/- A part of the proof: the program logic AL, the walks of the functions that the law calls, what they compute. No condition of its own. -/
import Derived.Test.YtnahdpjbddfhgaaGreatDoorL01
import Derived.Scope
import Derived.Sort.Grow
import Derived.Sort.Statements
import Derived.Shelf.GgSortFunc.RowK
import Derived.Recover
import Derived.ChangeSame
import Derived.ChangeReads
import Derived.ChangeArms
import Derived.ChangeOld
import Derived.DataShut
import Derived.OpenShut
import Derived.RowKit
import Derived.Shelf.Strings.OnBuilder
import Derived.Ground.NamesProg
import Derived.Test.YtnahdpjbddfhgaaGreatDoorProg
import Derived.Shelf.Sort.Plain
import Derived.Shelf.SlSortCmp.WholeK
import Derived.Ground.SlsfProg
set_option linter.unusedVariables false
set_option linter.unusedSimpArgs false
/- AL, part T: a statement that leaves its order open, with one operation of weight. -/
namespace Go.AL
open Go Go.RowKit

variable {P : Program} {N : Nat}

/-- an operation of weight: it answers, and the heap turns -/
def AHeavy (P : Program) (o : Oper) (env : Env) (σ : AHeap) (X : AV → AHeap → Prop) : Prop :=
  ∀ (G : Ghost) (w : World) (act : Act), St G σ w → (∀ x a, opnd env x = some a → VRel G (act.eval x) a) → ∀ (K : Act → World → Prop) (Q : Exit → Act → World → Prop),
    (∀ v w' G' av σ', G.le G' → St G' σ' w' → VRel G' v av → X av σ' → K (act.put o.dst v) w') → o.wp P act w K Q

theorem aheavy_val {o : Oper} {env : Env} {σ : AHeap} {X : AV → AHeap → Prop} (h : AVal P o env σ X) : AHeavy P o env σ X := by
  intro G w act hst he K Q hk
  obtain ⟨v, w', G', av, σ', hr, hG, hst', hv, hX⟩ := h G w act.eval hst he
  unfold Oper.wp
  rw [hr]
  exact hk v w' G' av σ' hG hst' hv hX

theorem aheavy_call {o : Oper} {env : Env} {σ : AHeap} {X : AV → AHeap → Prop} {f : FuncId} {args : List Operand} {ts : Array TypeId} {avs : List AV} {R : AEnd → AHeap → Prop}
    (ho : o.op = .call { callee := .value (.func f), args := args.toArray, argTypes := ts }) (hc : Callable P f) (hargs : opnds env args = some avs) (hspec : ASpec P f avs σ R)
    (hpan : ∀ c σ', ¬ R (.pan c) σ') (hret : ∀ a σ', R (.ret a) σ' → X a σ') : AHeavy P o env σ X := by
  intro G w act hst he K Q hk
  have hv := opnds_vrels he hargs
  unfold Oper.wp
  have hr : (execOp act.eval o).run P w = .ok (.enter f (args.toArray.map act.eval)) w := by
    have := hc (args.toArray.map act.eval) w
    simp only [List.map_toArray] at this
    simp [execOp, ho, resolve, Deferred.ofValue, Act.eval, invoke]
    exact this
  rw [hr, Oper.upon_enter]
  refine (hspec G w _ hst hv).mono fun e w' ⟨G', σ', r, hG, hst', hr', hR⟩ => ?_
  cases e with
  | returned v =>
    cases r with
    | pan c => exact hr'.elim
    | ret a => exact hk v w' G' a σ' hG hst' hr' (hret a σ' hR)
  | panicked c =>
    cases r with
    | ret a => exact hr'.elim
    | pan c' => exact absurd hR (hpan c' σ')
  | outgrown => cases r <;> exact hr'.elim

theorem envs_snoc2 : ∀ (l : List Oper) (vs : List AV) (o : Oper) (v : AV), l.length = vs.length → ∀ env : Env, envs (l ++ [o]) (vs ++ [v]) env = puts (envs l vs env) o.dst v
  | [], [], o, v, _, env => rfl
  | x :: l, u :: vs, o, v, h, env => by
    simp only [List.cons_append, envs]
    exact envs_snoc2 l vs o v (by simpa using h) _
  | [], _ :: _, _, _, h, _ => by simp at h
  | _ :: _, [], _, _, h, _ => by simp at h

theorem any_preL {ops : List Oper} {B : List Nat} {m : Nat} (hm : m ≤ ops.length) (h1 : allIdx (opOk ops) ops 0 = true) (h2 : cloOk ops B m = true) {σ : AHeap} {env : Env} {vs : List AV} (hlen : vs.length = m)
    (L : Nat → Bool) (hstep : ∀ (j : Nat) (o : Oper), (ops.take m)[j]? = some o → L j = true → ∃ av, vs[j]? = some av ∧ stepP P N ops σ o (envs ((ops.take m).take j) (vs.take j) env) av)
    {Q : Exit → Env → AHeap → Prop} (hfin : AOps P N ops.toArray Q (ops.drop m) (envs (ops.take m) vs env) σ) (hd : (ops.all fun o => dstOk N o.dst) = true) (G0 : Ghost) (ds : List Deferred) :
    ∀ (fuel : Nat) (listed : Array Bool) (act : Act) (w : World) (G : Ghost), ((List.range ops.length).filter fun i => !listed.getD i true).length ≤ fuel → G0.le G →
      (∀ j, j < m → L j = false → listed.getD j true = true) → DInv ops m (fun j => vs.getD j (.v undef)) env σ G N ds listed act w → wpAny P .any ops.toArray (Lift G0 N ds Q) fuel listed act w := by
  have hw : ∀ (j : Nat) (o : Oper) (d : Tmp), ops[j]? = some o → o.dst = some d → writer ops d = some j := fun j o d ho hd => (opOk_spec h1 ho).2.2 d hd
  -- when the whole first part has come, the rest comes in the text's order
  have finish : ∀ (fuel : Nat) (listed : Array Bool) (act : Act) (w : World) (G : Ghost), ops.length - m ≤ fuel → G0.le G →
      DInv ops m (fun j => vs.getD j (.v undef)) env σ G N ds listed act w → (∀ i, i < m → listed.getD i true = true) → wpAny P .any ops.toArray (Lift G0 N ds Q) fuel listed act w := by
    intro fuel listed act w G hf hG hi hall
    refine any_tail h1 h2 fuel m listed act w hm (Nat.le_refl _) hf hi.lsize (fun i hil => ?_) ?_
    · by_cases hc : i < m
      · rw [hall i hc]; simp [hc]
      · rw [hi.tail i (by omega) hil]; simp [hc]
    · have he : ERel G N act (envs (ops.take m) vs env) := by
        refine ⟨hi.size, fun t a ha => hi.tmps t a ?_⟩
        have := look_envs (env := env) hlen hm hw t m (Nat.le_refl _)
        rw [List.take_of_length_le (l := vs) (by omega), List.take_of_length_le (l := ops.take m) (by simp; omega)] at this
        rw [this] at ha
        unfold expect
        split
        · rename_i i hwi
          rw [hwi] at ha
          simp only at ha
          have hil : i < ops.length := by have := List.findIdx?_eq_some_iff_getElem.1 hwi; exact this.1
          by_cases hc : i < m
          · rw [if_pos hc] at ha
            rw [hall i hc]
            simp [ha]
          · rw [if_neg hc] at ha
            rw [hi.tail i (by omega) hil]
            simpa using ha
        · rename_i hwn
          rw [hwn] at ha
          exact ha
      have := hfin G w act hi.st he
      rw [hi.defers] at this
      exact wpList_mono' (fun _ _ _ hq => hq.mono hG fun _ _ _ q => q) _ _ _ this
  have unl : ∀ (listed : Array Bool), ops.length ≤ ops.length → (∀ i, i < m → listed.getD i true = true) → True := fun _ _ _ => trivial
  intro fuel
  induction fuel with
  | zero =>
    intro listed act w G hf hG hLl hi
    have hnil : (List.range ops.length).filter (fun i => !listed.getD i true) = [] := List.eq_nil_of_length_eq_zero (by omega)
    have hall : ∀ i, i < ops.length → listed.getD i true = true := by
      intro i hil
      cases hc : listed.getD i true with
      | true => rfl
      | false =>
        have : i ∈ (List.range ops.length).filter (fun i => !listed.getD i true) := by simp [hil]; simpa using hc
        rw [hnil] at this
        exact absurd this (by simp)
    refine finish 0 listed act w G ?_ hG hi (fun i hi' => hall i (by omega))
    by_cases hme : m = ops.length
    · omega
    · have := hi.tail m (Nat.le_refl _) (by omega)
      rw [hall m (by omega)] at this
      exact absurd this (by simp)
  | succ fuel ih =>
    intro listed act w G hf hG hLl hi
    by_cases hall : ∀ i, i < m → listed.getD i true = true
    · refine finish (fuel + 1) listed act w G ?_ hG hi hall
      refine Nat.le_trans ?_ hf
      have : ((List.range ops.length).filter fun i => !decide (i < m)).length ≤ ((List.range ops.length).filter fun i => !listed.getD i true).length := by
        rw [List.filter_congr (q := fun i => !listed.getD i true)]
        · exact Nat.le_refl _
        · intro i hir
          have hil : i < ops.length := by simpa using hir
          by_cases hc : i < m
          · rw [hall i hc]; simp [hc]
          · rw [hi.tail i (by omega) hil]; simp [hc]
      refine Nat.le_trans ?_ this
      have e : ops.length = m + (ops.length - m) := by omega
      rw [e, List.range_add]
      simp only [List.filter_append, List.length_append, List.filter_map, List.length_map]
      have : ((List.range (ops.length - m)).filter ((fun i => !decide (i < m)) ∘ fun x => m + x)).length = ops.length - m := by
        rw [List.filter_eq_self.2]
        · simp
        · intro x _; simp
      omega
    · -- something of the first part is still to come
      obtain ⟨k, hkm, hkl⟩ : ∃ k, k < m ∧ listed.getD k true = false := by
        apply Classical.byContradiction
        intro hn
        apply hall
        intro i hi'
        cases hc : listed.getD i true with
        | true => rfl
        | false => exact absurd ⟨i, hi', hc⟩ hn
      refine ⟨fun hr => ?_, fun i hir => ?_⟩
      · obtain ⟨j, hj⟩ := some_ready h1 hi.lsize (k := k) (by omega) hkl
        rw [hr] at hj
        exact absurd hj (by simp)
      · obtain ⟨o, ho, g1, g2⟩ := mem_ready hir
        have hil := (List.getElem?_eq_some_iff.1 ho).1
        have him : i < m := by
          apply Classical.byContradiction
          intro hc
          have hs := allIdx_spec _ _ h2 i o ho
          simp only [Nat.zero_add, Bool.and_eq_true, List.all_eq_true, List.mem_range, Bool.or_eq_true] at hs
          have hb : (B.getD i 0).testBit k = true := by
            rcases hs.2 with hc' | hc'
            · have : i < m := by simpa [Nat.blt_eq] using hc'
              omega
            · exact hc' k (by omega)
          have := clo_listed h2 hi.lsize hi.closed i o ho (fun e he hel => by rw [getD_any hi.lsize hel true false]; exact g2 e he) k (by omega) hb
          rw [hkl] at this
          exact absurd this (by simp)
        have hotake : (ops.take m)[i]? = some o := by rw [List.getElem?_take, if_pos him]; exact ho
        have hLi : L i = true := by
          cases e : L i with
          | true => rfl
          | false => exact absurd (hLl i him e) (by rw [getD_any hi.lsize hil true false, getD_any hi.lsize hil false true, g1]; simp)
        obtain ⟨av, hav, hsp⟩ := hstep i o hotake hLi
        obtain ⟨q1, q2, q3⟩ := opOk_spec h1 ho
        -- what the operation looks at is avs the text's order leaves it
        have hlook : ∀ t ∈ looksL ops o, ∀ a, look (envs ((ops.take m).take i) (vs.take i) env) t = some a → VRel G (act.tmps.getD t undef) a := by
          intro t ht a ha
          refine hi.tmps t a ?_
          rw [look_envs hlen hm hw t i (by omega)] at ha
          have hok := q2 t ht
          unfold lookOk at hok
          unfold expect
          split
          · rename_i j hwj
            rw [hwj] at hok ha
            simp only at hok ha
            have hjl : j < ops.length := (List.findIdx?_eq_some_iff_getElem.1 hwj).1
            by_cases hji : j < i
            · rw [if_pos hji] at ha
              have : Nat.blt j i = true := by simpa [Nat.blt_eq] using hji
              rw [this] at hok
              simp only [cond_true, List.any_eq_true] at hok
              obtain ⟨e, he, hee⟩ := hok
              have := Nat.eq_of_beq_eq_true hee
              subst this
              have hle := g2 _ he
              rw [getD_any hi.lsize hjl true false, hle]
              simp [ha]
            · rw [if_neg hji] at ha
              have hnb : Nat.blt j i = false := by
                cases hc : Nat.blt j i with
                | false => rfl
                | true => exact absurd (by simpa [Nat.blt_eq] using hc) hji
              rw [hnb] at hok
              simp only [cond_false] at hok
              cases hb2 : Nat.blt i j with
              | false => rw [hb2] at hok; exact absurd hok (by simp)
              | true =>
                rw [hb2] at hok
                simp only [cond_true] at hok
                have hoj : ops[j]? = some ops[j] := List.getElem?_eq_getElem hjl
                rw [hoj] at hok
                simp only [List.any_eq_true] at hok
                obtain ⟨e, he, hee⟩ := hok
                have := Nat.eq_of_beq_eq_true hee
                subst this
                have hjf : listed.getD j true = false := by
                  cases hc : listed.getD j true with
                  | false => rfl
                  | true =>
                    have := hi.closed j _ hoj hc _ he hil
                    rw [this] at g1
                    exact absurd g1 (by simp)
                rw [hjf]
                simpa using ha
          · rename_i hwn
            rw [hwn] at ha
            exact ha
        have hlk : ∀ x a, opnd (restr (lookT o) (envs ((ops.take m).take i) (vs.take i) env)) x = some a → VRel G (act.eval x) a := by
          intro x a hx
          cases x with
          | tmp t =>
            obtain ⟨k1, k2⟩ := look_restr (show look _ t = some a from hx)
            exact hlook t (by simp [looksL, k1]) a k2
          | const x => simp only [opnd, Option.some.injEq] at hx; subst hx; exact .v _
          | global g => simp only [opnd, Option.some.injEq] at hx; subst hx; exact .v _
          | func f => simp only [opnd, Option.some.injEq] at hx; subst hx; exact .v _
        -- and behind it the relation holds with it listed
        have next : ∀ (v : Value) (w' : World) (G' : Ghost), G.le G' → St G' σ w' → VRel G' v av → wpAny P .any ops.toArray (Lift G0 N ds Q) fuel (listed.setIfInBounds i true) (act.put o.dst v) w' := by
          intro v w' G' hG' hst' hv
          have hdo : dstOk N o.dst = true := by
            simp only [List.all_eq_true] at hd
            exact hd o (List.mem_of_getElem? ho)
          refine ih _ _ _ G' ?_ (hG.trans hG') (fun j hjm hjL => ?_) ⟨hst', ?_, ?_, ?_, ?_, ?_, ?_⟩
          · have hlt : ((List.range ops.length).filter fun j => !(listed.setIfInBounds i true).getD j true).length < ((List.range ops.length).filter fun j => !listed.getD j true).length := by
              have hsub : (List.range ops.length).filter (fun j => !(listed.setIfInBounds i true).getD j true) = ((List.range ops.length).filter fun j => !listed.getD j true).filter fun j => decide (j ≠ i) := by
                rw [List.filter_filter]
                apply List.filter_congr
                intro j hj
                have hjl : j < ops.length := by simpa using hj
                rw [getD_set hi.lsize hil hjl]
                by_cases e : j = i <;> simp [e]
              rw [hsub]
              refine List.length_filter_lt_length_iff_exists.2 ⟨i, ?_, by simp⟩
              simp [hil]
              simpa using g1
            omega
          · have hjl : j < ops.length := by omega
            rw [getD_set hi.lsize hil hjl]
            split
            · rfl
            · exact hLl j hjm hjL
          · cases o.dst <;> simp [Act.put, hi.size]
          · rw [Act.put_defers]; exact hi.defers
          · intro t a ha
            have hwr : ∀ j, writer ops t = some j → j < ops.length := fun j hj => (List.findIdx?_eq_some_iff_getElem.1 hj).1
            by_cases hdt : o.dst = some t
            · have hwt := q3 t hdt
              unfold expect at ha
              rw [hwt] at ha
              simp only [getD_set hi.lsize hil hil, if_true, cond_true, Option.some.injEq] at ha
              rw [hdt] at hdo ⊢
              have htN : t < act.tmps.size := by rw [hi.size]; simpa [dstOk, Nat.blt_eq] using hdo
              have : (act.put (some t) v).tmps.getD t undef = v := by simp [Act.put, Array.getD, htN]
              rw [this]
              have e : vs.getD i (.v undef) = av := by simp [List.getD, hav]
              rw [e] at ha
              rw [← ha]; exact hv
            · have hsame : (act.put o.dst v).tmps.getD t undef = act.tmps.getD t undef := by
                cases hd' : o.dst with
                | none => rfl
                | some d =>
                  have : d ≠ t := fun e => hdt (by rw [hd', e])
                  simp [Act.put, Array.getD_eq_getD_getElem?, Array.getElem?_setIfInBounds, this]
              rw [hsame]
              refine (hi.tmps t a ?_).mono hG'
              unfold expect at ha ⊢
              split at ha
              · rename_i j hwj
                have hji : j ≠ i := by
                  intro e
                  subst e
                  obtain ⟨_, h5, _⟩ := List.findIdx?_eq_some_iff_getElem.1 hwj
                  have : ops[j] = o := by simpa [List.getElem?_eq_getElem hil] using ho
                  rw [this] at h5
                  unfold isDst at h5
                  split at h5
                  · rename_i d hd'; exact hdt (by rw [hd', Nat.eq_of_beq_eq_true h5])
                  · exact absurd h5 (by simp)
                rw [getD_set hi.lsize hil (hwr j hwj), if_neg hji] at ha
                exact ha
              · exact ha
          · simp [hi.lsize]
          · intro j o' ho' hj e he hel
            have hjl := (List.getElem?_eq_some_iff.1 ho').1
            rw [getD_set hi.lsize hil hjl] at hj
            rw [getD_set hi.lsize hil hel]
            split
            · rfl
            · split at hj
              · rename_i hji
                subst hji
                rw [ho] at ho'
                simp only [Option.some.injEq] at ho'
                subst ho'
                rw [getD_any hi.lsize hel true false]; exact g2 e he
              · exact hi.closed j o' ho' hj e he hel
          · intro j hmj hjl
            rw [getD_set hi.lsize hil hjl, if_neg (by omega)]
            exact hi.tail j hmj hjl
        unfold wpOp
        simp only [List.getElem?_toArray, ho]
        unfold stepP at hsp
        split at hsp
        · rename_i hgd
          rw [if_pos (by simp [Region.wanted, hgd])]
          exact .inl (hsp G w act hi.st hlk _ _ next)
        · rename_i g b hgd
          split at hsp
          · rename_i og hog
            split at hsp
            · rename_i d hdg
              obtain ⟨bv, hbv, hyes, hno⟩ := hsp
              have hgv : act.tmps.getD d undef = .bool bv := by
                have : d ∈ looksL ops o := by simp [looksL, hgd, hog, hdg]
                exact (hlook d this _ hbv).v_eq
              have hy : yielded ops.toArray act.tmps g = some bv := by
                have hlt : act.tmps[d]? = some (.bool bv) := by
                  cases hc : act.tmps[d]? with
                  | none => simp [Array.getD_eq_getD_getElem?, hc, undef] at hgv
                  | some x => simp [Array.getD_eq_getD_getElem?, hc] at hgv; rw [hgv]
                simp [yielded, hog, hdg, hlt]
              by_cases hbb : bv = b
              · rw [if_pos (by simp [Region.wanted, hgd, hy, hbb])]
                exact .inl (hyes hbb G w act hi.st hlk _ _ next)
              · rw [if_neg (by simp [Region.wanted, hgd, hy, hbb])]
                exact next undef w G (.refl G) hi.st (by rw [hno hbb]; exact .v _)
            · exact hsp.elim
          · exact hsp.elim


theorem any_preH {ops : List Oper} {B : List Nat} {m : Nat} (hm : m < ops.length) (h1 : allIdx (opOk ops) ops 0 = true) (h2 : cloOk ops B (m + 1) = true) {σ : AHeap} {env : Env} {vs : List AV} (hlen : vs.length = m)
    (hstep : ∀ (j : Nat) (o : Oper), (ops.take m)[j]? = some o → ∃ av, vs[j]? = some av ∧ stepP P N ops σ o (envs ((ops.take m).take j) (vs.take j) env) av)
    {Q : Exit → Env → AHeap → Prop} {oh : Oper} (hoh : ops[m]? = some oh) (hgh : oh.guard = none)
    (hlight : ∀ (j : Nat) (o : Oper), (ops.take m)[j]? = some o → (B.getD m 0).testBit j = false → ∀ av, vs[j]? = some av → ∀ σ', stepP P N ops σ' o (envs ((ops.take m).take j) (vs.take j) env) av)
    (hfin : AHeavy P oh (restr (lookT oh) (envs (ops.take m) vs env)) σ fun a σ' => AOps P N ops.toArray Q (ops.drop (m + 1)) (puts (envs (ops.take m) vs env) oh.dst a) σ')
    (hd : (ops.all fun o => dstOk N o.dst) = true) (G0 : Ghost) (ds : List Deferred) :
    ∀ (fuel : Nat) (listed : Array Bool) (act : Act) (w : World) (G : Ghost), ((List.range ops.length).filter fun i => !listed.getD i true).length ≤ fuel → G0.le G →
      DInv ops m (fun j => vs.getD j (.v undef)) env σ G N ds listed act w → wpAny P .any ops.toArray (Lift G0 N ds Q) fuel listed act w := by
  have hw : ∀ (j : Nat) (o : Oper) (d : Tmp), ops[j]? = some o → o.dst = some d → writer ops d = some j := fun j o d ho hd => (opOk_spec h1 ho).2.2 d hd
  intro fuel
  induction fuel with
  | zero =>
    intro listed act w G hf hG hi
    have hnil : (List.range ops.length).filter (fun i => !listed.getD i true) = [] := List.eq_nil_of_length_eq_zero (by omega)
    have hall : ∀ i, i < ops.length → listed.getD i true = true := by
      intro i hil
      cases hc : listed.getD i true with
      | true => rfl
      | false =>
        have : i ∈ (List.range ops.length).filter (fun i => !listed.getD i true) := by simp [hil]; simpa using hc
        rw [hnil] at this
        exact absurd this (by simp)
    have := hi.tail m (Nat.le_refl _) hm
    rw [hall m hm] at this
    exact absurd this (by simp)
  | succ fuel ih =>
    intro listed act w G hf hG hi
    have hkl := hi.tail m (Nat.le_refl _) hm
    have hm1 : m < m + 1 := Nat.lt_succ_self m
    have hmm : m ≤ ops.length := by omega
    · -- the heavy one is still to come
      refine ⟨fun hr => ?_, fun i hir => ?_⟩
      · obtain ⟨j, hj⟩ := some_ready h1 hi.lsize (k := m) (by omega) hkl
        rw [hr] at hj
        exact absurd hj (by simp)
      · obtain ⟨o, ho, g1, g2⟩ := mem_ready hir
        have hil := (List.getElem?_eq_some_iff.1 ho).1
        have him : i < m + 1 := by
          apply Classical.byContradiction
          intro hc
          have hs := allIdx_spec _ _ h2 i o ho
          simp only [Nat.zero_add, Bool.and_eq_true, List.all_eq_true, List.mem_range, Bool.or_eq_true] at hs
          have hb : (B.getD i 0).testBit m = true := by
            rcases hs.2 with hc' | hc'
            · have : i < m + 1 := by simpa [Nat.blt_eq] using hc'
              omega
            · exact hc' m (by omega)
          have := clo_listed h2 hi.lsize hi.closed i o ho (fun e he hel => by rw [getD_any hi.lsize hel true false]; exact g2 e he) m (by omega) hb
          rw [hkl] at this
          exact absurd this (by simp)
        obtain ⟨q1, q2, q3⟩ := opOk_spec h1 ho
        -- what the operation looks at is as the text's order leaves it
        -- what the operation looks at is avs the text's order leaves it
        have hlook : ∀ t ∈ looksL ops o, ∀ a, look (envs ((ops.take m).take i) (vs.take i) env) t = some a → VRel G (act.tmps.getD t undef) a := by
          intro t ht a ha
          refine hi.tmps t a ?_
          rw [look_envs hlen hmm hw t i (by omega)] at ha
          have hok := q2 t ht
          unfold lookOk at hok
          unfold expect
          split
          · rename_i j hwj
            rw [hwj] at hok ha
            simp only at hok ha
            have hjl : j < ops.length := (List.findIdx?_eq_some_iff_getElem.1 hwj).1
            by_cases hji : j < i
            · rw [if_pos hji] at ha
              have : Nat.blt j i = true := by simpa [Nat.blt_eq] using hji
              rw [this] at hok
              simp only [cond_true, List.any_eq_true] at hok
              obtain ⟨e, he, hee⟩ := hok
              have := Nat.eq_of_beq_eq_true hee
              subst this
              have hle := g2 _ he
              rw [getD_any hi.lsize hjl true false, hle]
              simp [ha]
            · rw [if_neg hji] at ha
              have hnb : Nat.blt j i = false := by
                cases hc : Nat.blt j i with
                | false => rfl
                | true => exact absurd (by simpa [Nat.blt_eq] using hc) hji
              rw [hnb] at hok
              simp only [cond_false] at hok
              cases hb2 : Nat.blt i j with
              | false => rw [hb2] at hok; exact absurd hok (by simp)
              | true =>
                rw [hb2] at hok
                simp only [cond_true] at hok
                have hoj : ops[j]? = some ops[j] := List.getElem?_eq_getElem hjl
                rw [hoj] at hok
                simp only [List.any_eq_true] at hok
                obtain ⟨e, he, hee⟩ := hok
                have := Nat.eq_of_beq_eq_true hee
                subst this
                have hjf : listed.getD j true = false := by
                  cases hc : listed.getD j true with
                  | false => rfl
                  | true =>
                    have := hi.closed j _ hoj hc _ he hil
                    rw [this] at g1
                    exact absurd g1 (by simp)
                rw [hjf]
                simpa using ha
          · rename_i hwn
            rw [hwn] at ha
            exact ha
        have hlk : ∀ x a, opnd (restr (lookT o) (envs ((ops.take m).take i) (vs.take i) env)) x = some a → VRel G (act.eval x) a := by
          intro x a hx
          cases x with
          | tmp t =>
            obtain ⟨k1, k2⟩ := look_restr (show look _ t = some a from hx)
            exact hlook t (by simp [looksL, k1]) a k2
          | const x => simp only [opnd, Option.some.injEq] at hx; subst hx; exact .v _
          | global g => simp only [opnd, Option.some.injEq] at hx; subst hx; exact .v _
          | func f => simp only [opnd, Option.some.injEq] at hx; subst hx; exact .v _
        by_cases hih : i = m
        · subst hih
          rw [hoh] at ho
          simp only [Option.some.injEq] at ho
          subst ho
          have e1 : (ops.take i).take i = ops.take i := by rw [List.take_take, Nat.min_self]
          have e2 : vs.take i = vs := List.take_of_length_le (by omega)
          rw [e1, e2] at hlk
          unfold wpOp
          simp only [List.getElem?_toArray, hoh]
          rw [if_pos (by simp [Region.wanted, hgh])]
          refine .inl (hfin G w act hi.st hlk _ _ fun v w' G' av σ' hG' hst' hv hX => ?_)
          show wpAny P .any ops.toArray (Lift G0 N ds Q) fuel (listed.setIfInBounds i true) (act.put oh.dst v) w'
          have hvl : (vs ++ [av]).length = i + 1 := by simp [hlen]
          have hdo : dstOk N oh.dst = true := by
            simp only [List.all_eq_true] at hd
            exact hd oh (List.mem_of_getElem? hoh)
          have etk : ops.take (i + 1) = ops.take i ++ [oh] := by
            rw [List.take_succ_eq_append_getElem hil]
            have : ops[i] = oh := by simpa [List.getElem?_eq_getElem hil] using hoh
            rw [this]
          have eenv : envs (ops.take (i + 1)) (vs ++ [av]) env = puts (envs (ops.take i) vs env) oh.dst av := by
            rw [etk]
            exact envs_snoc2 _ _ _ _ (by rw [List.length_take]; omega) _
          refine any_preL (env := env) (σ := σ') (by omega) h1 h2 hvl (fun j => decide (j < i) && !(B.getD i 0).testBit j) ?_ ?_ hd G0 ds fuel _ _ _ G' ?_ (hG.trans hG') (fun j hjm hjL => ?_) ⟨hst', ?_, ?_, ?_, ?_, ?_, ?_⟩
          · intro j o ho hL
            simp only [Bool.and_eq_true, decide_eq_true_eq, Bool.not_eq_true'] at hL
            have hoj : (ops.take i)[j]? = some o := by
              rw [List.getElem?_take, if_pos (by omega)] at ho
              rw [List.getElem?_take, if_pos hL.1]; exact ho
            obtain ⟨av', h3, _⟩ := hstep j o hoj
            refine ⟨av', by rw [List.getElem?_append_left (by omega)]; exact h3, ?_⟩
            have := hlight j o hoj hL.2 av' h3 σ'
            rw [List.take_append_of_le_length (by omega)]
            have e3 : (ops.take (i + 1)).take j = (ops.take i).take j := by rw [List.take_take, List.take_take]; congr 1; omega
            rw [e3]; exact this
          · rw [eenv]; exact hX
          · have hlt : ((List.range ops.length).filter fun j => !(listed.setIfInBounds i true).getD j true).length < ((List.range ops.length).filter fun j => !listed.getD j true).length := by
              have hsub : (List.range ops.length).filter (fun j => !(listed.setIfInBounds i true).getD j true) = ((List.range ops.length).filter fun j => !listed.getD j true).filter fun j => decide (j ≠ i) := by
                rw [List.filter_filter]
                apply List.filter_congr
                intro j hj
                have hjl : j < ops.length := by simpa using hj
                rw [getD_set hi.lsize hil hjl]
                by_cases e : j = i <;> simp [e]
              rw [hsub]
              refine List.length_filter_lt_length_iff_exists.2 ⟨i, ?_, by simp⟩
              simp [hil]
              simpa using g1
            omega
          · have hjl : j < ops.length := by omega
            rw [getD_set hi.lsize hil hjl]
            split
            · rfl
            · rename_i hne
              simp only [Bool.and_eq_false_iff, decide_eq_false_iff_not, Bool.not_eq_false'] at hjL
              rcases hjL with hjL | hjL
              · omega
              · exact clo_listed h2 hi.lsize hi.closed i oh hoh (fun e he hel => by rw [getD_any hi.lsize hel true false]; exact g2 e he) j (by omega) hjL
          · cases oh.dst <;> simp [Act.put, hi.size]
          · rw [Act.put_defers]; exact hi.defers
          · intro t a ha
            have hwr : ∀ j, writer ops t = some j → j < ops.length := fun j hj => (List.findIdx?_eq_some_iff_getElem.1 hj).1
            by_cases hdt : oh.dst = some t
            · have hwt := q3 t hdt
              unfold expect at ha
              rw [hwt] at ha
              simp only [getD_set hi.lsize hil hil, if_true, cond_true, Option.some.injEq] at ha
              rw [hdt] at hdo ⊢
              have htN : t < act.tmps.size := by rw [hi.size]; simpa [dstOk, Nat.blt_eq] using hdo
              have : (act.put (some t) v).tmps.getD t undef = v := by simp [Act.put, Array.getD, htN]
              rw [this]
              have e : (vs ++ [av]).getD i (.v undef) = av := by simp [List.getD, ← hlen]
              rw [e] at ha
              rw [← ha]; exact hv
            · have hsame : (act.put oh.dst v).tmps.getD t undef = act.tmps.getD t undef := by
                cases hd' : oh.dst with
                | none => rfl
                | some d =>
                  have : d ≠ t := fun e => hdt (by rw [hd', e])
                  simp [Act.put, Array.getD_eq_getD_getElem?, Array.getElem?_setIfInBounds, this]
              rw [hsame]
              refine (hi.tmps t a ?_).mono hG'
              unfold expect at ha ⊢
              split at ha
              · rename_i j hwj
                have hji : j ≠ i := by
                  intro e
                  subst e
                  obtain ⟨_, h5, _⟩ := List.findIdx?_eq_some_iff_getElem.1 hwj
                  have : ops[j] = oh := by simpa [List.getElem?_eq_getElem hil] using hoh
                  rw [this] at h5
                  unfold isDst at h5
                  split at h5
                  · rename_i d hd'; exact hdt (by rw [hd', Nat.eq_of_beq_eq_true h5])
                  · exact absurd h5 (by simp)
                rw [getD_set hi.lsize hil (hwr j hwj), if_neg hji] at ha
                cases hcl : listed.getD j true with
                | false => rw [hcl] at ha; exact ha
                | true =>
                  rw [hcl] at ha
                  have hjl' : j < i := by
                    apply Classical.byContradiction
                    intro hc
                    have := hi.tail j (by omega) (hwr j hwj)
                    rw [hcl] at this
                    exact absurd this (by simp)
                  have e9 : (vs ++ [av]).getD j (.v undef) = vs.getD j (.v undef) := by simp [List.getD, List.getElem?_append, hlen, hjl']
                  simp only [cond_true, Option.some.injEq] at ha ⊢
                  rw [e9] at ha
                  exact ha
              · exact ha
          · simp [hi.lsize]
          · intro j o' ho' hj e he hel
            have hjl := (List.getElem?_eq_some_iff.1 ho').1
            rw [getD_set hi.lsize hil hjl] at hj
            rw [getD_set hi.lsize hil hel]
            split
            · rfl
            · split at hj
              · rename_i hji
                subst hji
                rw [hoh] at ho'
                simp only [Option.some.injEq] at ho'
                subst ho'
                rw [getD_any hi.lsize hel true false]; exact g2 e he
              · exact hi.closed j o' ho' hj e he hel
          · intro j hmj hjl
            rw [getD_set hi.lsize hil hjl, if_neg (by omega)]
            exact hi.tail j (by omega) hjl
        have him : i < m := by omega
        have hotake : (ops.take m)[i]? = some o := by rw [List.getElem?_take, if_pos him]; exact ho
        obtain ⟨av, hav, hsp⟩ := hstep i o hotake
        -- and behind it the relation holds with it listed
        have next : ∀ (v : Value) (w' : World) (G' : Ghost), G.le G' → St G' σ w' → VRel G' v av → wpAny P .any ops.toArray (Lift G0 N ds Q) fuel (listed.setIfInBounds i true) (act.put o.dst v) w' := by
          intro v w' G' hG' hst' hv
          have hdo : dstOk N o.dst = true := by
            simp only [List.all_eq_true] at hd
            exact hd o (List.mem_of_getElem? ho)
          refine ih _ _ _ G' ?_ (hG.trans hG') ⟨hst', ?_, ?_, ?_, ?_, ?_, ?_⟩
          · have hlt : ((List.range ops.length).filter fun j => !(listed.setIfInBounds i true).getD j true).length < ((List.range ops.length).filter fun j => !listed.getD j true).length := by
              have hsub : (List.range ops.length).filter (fun j => !(listed.setIfInBounds i true).getD j true) = ((List.range ops.length).filter fun j => !listed.getD j true).filter fun j => decide (j ≠ i) := by
                rw [List.filter_filter]
                apply List.filter_congr
                intro j hj
                have hjl : j < ops.length := by simpa using hj
                rw [getD_set hi.lsize hil hjl]
                by_cases e : j = i <;> simp [e]
              rw [hsub]
              refine List.length_filter_lt_length_iff_exists.2 ⟨i, ?_, by simp⟩
              simp [hil]
              simpa using g1
            omega
          · cases o.dst <;> simp [Act.put, hi.size]
          · rw [Act.put_defers]; exact hi.defers
          · intro t a ha
            have hwr : ∀ j, writer ops t = some j → j < ops.length := fun j hj => (List.findIdx?_eq_some_iff_getElem.1 hj).1
            by_cases hdt : o.dst = some t
            · have hwt := q3 t hdt
              unfold expect at ha
              rw [hwt] at ha
              simp only [getD_set hi.lsize hil hil, if_true, cond_true, Option.some.injEq] at ha
              rw [hdt] at hdo ⊢
              have htN : t < act.tmps.size := by rw [hi.size]; simpa [dstOk, Nat.blt_eq] using hdo
              have : (act.put (some t) v).tmps.getD t undef = v := by simp [Act.put, Array.getD, htN]
              rw [this]
              have e : vs.getD i (.v undef) = av := by simp [List.getD, hav]
              rw [e] at ha
              rw [← ha]; exact hv
            · have hsame : (act.put o.dst v).tmps.getD t undef = act.tmps.getD t undef := by
                cases hd' : o.dst with
                | none => rfl
                | some d =>
                  have : d ≠ t := fun e => hdt (by rw [hd', e])
                  simp [Act.put, Array.getD_eq_getD_getElem?, Array.getElem?_setIfInBounds, this]
              rw [hsame]
              refine (hi.tmps t a ?_).mono hG'
              unfold expect at ha ⊢
              split at ha
              · rename_i j hwj
                have hji : j ≠ i := by
                  intro e
                  subst e
                  obtain ⟨_, h5, _⟩ := List.findIdx?_eq_some_iff_getElem.1 hwj
                  have : ops[j] = o := by simpa [List.getElem?_eq_getElem hil] using ho
                  rw [this] at h5
                  unfold isDst at h5
                  split at h5
                  · rename_i d hd'; exact hdt (by rw [hd', Nat.eq_of_beq_eq_true h5])
                  · exact absurd h5 (by simp)
                rw [getD_set hi.lsize hil (hwr j hwj), if_neg hji] at ha
                exact ha
              · exact ha
          · simp [hi.lsize]
          · intro j o' ho' hj e he hel
            have hjl := (List.getElem?_eq_some_iff.1 ho').1
            rw [getD_set hi.lsize hil hjl] at hj
            rw [getD_set hi.lsize hil hel]
            split
            · rfl
            · split at hj
              · rename_i hji
                subst hji
                rw [ho] at ho'
                simp only [Option.some.injEq] at ho'
                subst ho'
                rw [getD_any hi.lsize hel true false]; exact g2 e he
              · exact hi.closed j o' ho' hj e he hel
          · intro j hmj hjl
            rw [getD_set hi.lsize hil hjl, if_neg (by omega)]
            exact hi.tail j hmj hjl
        unfold wpOp
        simp only [List.getElem?_toArray, ho]
        unfold stepP at hsp
        split at hsp
        · rename_i hgd
          rw [if_pos (by simp [Region.wanted, hgd])]
          exact .inl (hsp G w act hi.st hlk _ _ next)
        · rename_i g b hgd
          split at hsp
          · rename_i og hog
            split at hsp
            · rename_i d hdg
              obtain ⟨bv, hbv, hyes, hno⟩ := hsp
              have hgv : act.tmps.getD d undef = .bool bv := by
                have : d ∈ looksL ops o := by simp [looksL, hgd, hog, hdg]
                exact (hlook d this _ hbv).v_eq
              have hy : yielded ops.toArray act.tmps g = some bv := by
                have hlt : act.tmps[d]? = some (.bool bv) := by
                  cases hc : act.tmps[d]? with
                  | none => simp [Array.getD_eq_getD_getElem?, hc, undef] at hgv
                  | some x => simp [Array.getD_eq_getD_getElem?, hc] at hgv; rw [hgv]
                simp [yielded, hog, hdg, hlt]
              by_cases hbb : bv = b
              · rw [if_pos (by simp [Region.wanted, hgd, hy, hbb])]
                exact .inl (hyes hbb G w act hi.st hlk _ _ next)
              · rw [if_neg (by simp [Region.wanted, hgd, hy, hbb])]
                exact next undef w G (.refl G) hi.st (by rw [hno hbb]; exact .v _)
            · exact hsp.elim
          · exact hsp.elim


/-- the steps ahead of the heavy one; those that it doesn't wait for hang on no heap -/
def DPh (P : Program) (N : Nat) (ops : List Oper) (σ : AHeap) (b : Nat) (K : Env → Prop) : Nat → List Oper → Env → Prop
  | _, [], env => K env
  | k, o :: r, env => ∃ av, stepP P N ops σ o env av ∧ (b.testBit k = false → ∀ σ', stepP P N ops σ' o env av) ∧ DPh P N ops σ b K (k + 1) r (puts env o.dst av)

theorem DPh.vals {ops : List Oper} {σ : AHeap} {b : Nat} {K : Env → Prop} : ∀ {l : List Oper} {k : Nat} {env : Env}, DPh P N ops σ b K k l env →
    ∃ vs : List AV, vs.length = l.length ∧ (∀ (j : Nat) (o : Oper), l[j]? = some o → ∃ av, vs[j]? = some av ∧ stepP P N ops σ o (envs (l.take j) (vs.take j) env) av ∧
      (b.testBit (k + j) = false → ∀ σ', stepP P N ops σ' o (envs (l.take j) (vs.take j) env) av)) ∧ K (envs l vs env)
  | [], k, env, h => ⟨[], rfl, by simp, h⟩
  | o :: r, k, env, h => by
    obtain ⟨av, h1, h1', h2⟩ := h
    obtain ⟨vs, k1, k2, k3⟩ := DPh.vals h2
    refine ⟨av :: vs, by simp [k1], fun j o' ho => ?_, k3⟩
    cases j with
    | zero =>
      simp only [List.getElem?_cons_zero, Option.some.injEq] at ho
      subst ho
      exact ⟨av, rfl, h1, h1'⟩
    | succ j =>
      simp only [List.getElem?_cons_succ] at ho
      obtain ⟨av', e1, e2, e3⟩ := k2 j o' ho
      refine ⟨av', by simpa using e1, e2, fun hb => e3 (by rw [← hb]; congr 1; omega)⟩

theorem awp_drawH {id : Nat} {ops : List Oper} {Q : Exit → Env → AHeap → Prop} {env : Env} {σ : AHeap} (B : List Nat) (m b : Nat) {oh : Oper} (hm : Nat.blt m ops.length = true) (hmix : Region.departs ops.toArray = false)
    (h1 : allIdx (opOk ops) ops 0 = true) (h2 : cloOk ops B (m + 1) = true) (hd : (ops.all fun o => dstOk N o.dst) = true) (hb : B.getD m 0 = b) (hoh : ops[m]? = some oh) (hgh : oh.guard = none)
    (h : DPh P N ops σ b (fun env' => AHeavy P oh (restr (lookT oh) env') σ fun a σ' => AOps P N ops.toArray Q (ops.drop (m + 1)) (puts env' oh.dst a) σ') 0 (ops.take m) env) : AWp P N (.region id ops.toArray true) Q env σ := by
  intro G w act hst he
  have hm' : m < ops.length := by simpa [Nat.blt_eq] using hm
  obtain ⟨vs, k1, k2, k3⟩ := h.vals
  have hlen : vs.length = m := by rw [k1]; simp; omega
  refine wp_region_draw fun t => ?_
  have hsch : Region.schedule (P.follows .mixedOrders) ops.toArray t = Region.linearise .any ops.toArray t := by simp [Region.schedule, hmix]
  rw [hsch]
  refine wpAny_sound ops.toArray.size t _ act _ ?_
  have hlf : ∀ i, i < ops.length → (Array.replicate ops.length false).getD i true = false := fun i hi => by simp [Array.getD_eq_getD_getElem?, hi]
  refine any_preH hm' h1 h2 hlen (fun j o ho => by obtain ⟨av, e1, e2, _⟩ := k2 j o ho; exact ⟨av, e1, e2⟩) hoh hgh (fun j o ho hbit av hav σ' => by
    obtain ⟨av', e1, e2, e3⟩ := k2 j o ho
    rw [e1] at hav
    simp only [Option.some.injEq] at hav
    subst hav
    exact e3 (by rw [← hb, Nat.zero_add]; exact hbit) σ') k3 hd G act.defers _ _ act _ G ?_ (.refl G) ⟨hst.drew, he.size, rfl, ?_, by simp, ?_, fun j _ hj => by simpa using hlf j hj⟩
  · refine Nat.le_trans (List.length_filter_le _ _) ?_
    simp
  · intro t' a ha
    refine he.tmps t' a ?_
    unfold expect at ha
    split at ha
    · rename_i j hj
      have hjl := (List.findIdx?_eq_some_iff_getElem.1 hj).1
      simp only [List.size_toArray] at ha
      rw [hlf j hjl] at ha
      exact ha
    · exact ha
  · intro j o ho hj
    have hjl := (List.getElem?_eq_some_iff.1 ho).1
    simp only [List.size_toArray] at hj
    rw [hlf j hjl] at hj
    exact absurd hj (by simp)

theorem dph_val {ops : List Oper} {σ : AHeap} {K : Env → Prop} {b k : Nat} {o : Oper} {r : List Oper} {env : Env} {av : AV} (hg : o.guard = none) (h : APure P N o (restr (lookT o) env) σ av) (hb : b.testBit k = true) {d : Tmp} (hd : o.dst = some d)
    (hr : DPh P N ops σ b K (k + 1) r ((d, av) :: env)) : DPh P N ops σ b K k (o :: r) env :=
  ⟨av, by unfold stepP; rw [hg]; exact h, fun e => by rw [hb] at e; exact absurd e (by simp), by rw [hd]; exact hr⟩
theorem dph_light {ops : List Oper} {σ : AHeap} {K : Env → Prop} {b k : Nat} {o : Oper} {r : List Oper} {env : Env} {av : AV} (hg : o.guard = none) (h : ∀ σ', APure P N o (restr (lookT o) env) σ' av) {d : Tmp} (hd : o.dst = some d)
    (hr : DPh P N ops σ b K (k + 1) r ((d, av) :: env)) : DPh P N ops σ b K k (o :: r) env :=
  ⟨av, by unfold stepP; rw [hg]; exact h σ, fun _ σ' => by unfold stepP; rw [hg]; exact h σ', by rw [hd]; exact hr⟩

end Go.AL
/- AL, part U: a growing list's slice stored. -/
namespace Go.AL
open Go Go.RowKit

variable {P : Program} {N : Nat}

theorem slv_cells (sz : Nat) (cs : List AV) (n id ver : Nat) : (slv sz cs n id ver).cells = [slv sz cs n id ver] := by cases n <;> rfl
theorem slv_one (sz : Nat) (cs : List AV) (n id ver : Nat) : (slv sz cs n id ver).one = true := by cases n <;> rfl
theorem slv_ones (sz : Nat) (cs : List AV) (n id ver : Nat) : (slv sz cs n id ver).ones = true := by unfold AV.ones; rw [slv_cells]; simp [slv_one]

theorem a_store_slv {o : Oper} {env : Env} {σ : AHeap} {K : AHeap → Prop} {t : TypeId} {x y : Operand} {ag : Bool} {id ver off : Nat} {ty : TypeId} {cs cs2 : List AV} {sz m id' ver' : Nat} {xs : List AV}
    (ho : o.op = .store t x y) (ht : tyK P t = some (ag, 1)) (hx : opnd env x = some (.ref id ver off)) (hy : opnd env y = some (slv sz xs m id' ver')) (hid : σ id = some (.cells ver ty cs))
    (hfit : off + 1 ≤ cs.length) (hst : stv off [slv sz xs m id' ver'] cs = cs2) (h : K (upd σ id (.cells ver ty cs2))) : ASkip P o env σ K := by
  refine a_store ho ht hx hy hid (slv_ones _ _ _ _ _) (by rw [slv_cells]; rfl) hfit ?_
  rw [slv_cells, hst]; exact h

/-- knowing less of a value -/
def Wk (a b : AV) : Prop := ∀ (G : Ghost) (x : Value), VRel G x a → VRel G x b
theorem wk_refl {a : AV} : Wk a a := fun _ _ h => h
theorem wk_nil : Wk nilS (.lst [] 0 false) := fun _ _ h => weak_nil h
theorem wk_ex {l : List AV} {n : Nat} {ex : Bool} : Wk (.lst l n ex) (.lst l n false) := fun _ _ h => weak_ex h
theorem wk_agg {l m : List AV} (h : Cellwise Wk l m) : Wk (.agg l) (.agg m) := by
  intro G x hx
  cases hx with
  | @agg cs acs hl hc =>
    refine .agg (by rw [hl, h.len]) fun i b hb => ?_
    obtain ⟨a, ha, hr⟩ := h.get i b hb
    exact hr _ _ (hc i a ha)
theorem wk_tup {l m : List AV} (h : Cellwise Wk l m) : Wk (.tup l) (.tup m) := by
  intro G x hx
  cases hx with
  | @tup cs acs hl hc =>
    refine .tup (by rw [hl, h.len]) fun i b hb => ?_
    obtain ⟨a, ha, hr⟩ := h.get i b hb
    exact hr _ _ (hc i a ha)
theorem wk_pin {l m : List AV} {off : Nat} (h : Cellwise Wk l m) : Wk (.pin l off) (.pin m off) := by
  intro G x hx
  obtain ⟨b, o, cs, hz, hc, rfl⟩ := hx.pin_inv
  refine .pin hz (by rw [← h.len]; exact hc.1) fun i b hb => ?_
  obtain ⟨a, ha, hr⟩ := h.get i b hb
  exact hr _ _ (hc.2 i a ha)
theorem ASpec.wk {f : FuncId} {args args' : List AV} {σ : AHeap} {R : AEnd → AHeap → Prop} (hw : Cellwise Wk args args') (h : ASpec P f args' σ R) : ASpec P f args σ R :=
  h.weak (by rw [hw.len]) fun i a a' ha ha' G x hx => by
    obtain ⟨a0, h0, hr⟩ := hw.get i a' ha'
    rw [ha] at h0
    simp only [Option.some.injEq] at h0
    subst h0
    exact hr G x hx
/-- a slot is known less of -/
theorem gst_wk {Q : Env → AHeap → Prop} {env : Env} {σ : AHeap} {k : Nat} {a b : AV} (hk : look env k = some a) (hw : Wk a b) (h : Gst N Q ((k, b) :: env) σ) : Gst N Q env σ :=
  gst_weak [(k, b)] (fun p hp => by simp only [List.mem_singleton] at hp; subst hp; exact ⟨a, hk, hw⟩) h
theorem aops_wk {ops : Array Oper} {l : List Oper} {Q : Exit → Env → AHeap → Prop} {env : Env} {σ : AHeap} {k : Nat} {a b : AV} (hk : look env k = some a) (hw : Wk a b) (h : AOps P N ops Q l ((k, b) :: env) σ) : AOps P N ops Q l env σ :=
  AOps.ghost (gst_wk hk hw (.done h))
theorem awp_wk {c : Code} {Q : Exit → Env → AHeap → Prop} {env : Env} {σ : AHeap} {k : Nat} {a b : AV} (hk : look env k = some a) (hw : Wk a b) (h : AWp P N c Q ((k, b) :: env) σ) : AWp P N c Q env σ :=
  AWp.ghost (gst_wk hk hw (.done h))

end Go.AL
/- AL, part V: scopes without jumps; a rune as a text. -/
namespace Go.AL
open Go Go.RowKit

variable {P : Program} {N : Nat}

def scopeE (Q : Exit → Env → AHeap → Prop) : Exit → Env → AHeap → Prop
  | .goto _, _, _ => False
  | e, env, σ => Q e env σ

theorem awp_scope {c : Code} {Q : Exit → Env → AHeap → Prop} {env : Env} {σ : AHeap} (h : AWp P N c (scopeE Q) env σ) : AWp P N (.scope c) Q env σ := by
  intro G w act hst he
  refine wp_scope_straight (wp_mono (h G w act hst he) fun e act' w' hq => ?_)
  obtain ⟨G', env', σ', h1, h2, h3, h4, h5⟩ := hq
  cases e with
  | goto l => exact h5.elim
  | normal => exact ⟨G', env', σ', h1, h2, h3, h4, h5⟩
  | exit id => exact ⟨G', env', σ', h1, h2, h3, h4, h5⟩
  | ret => exact ⟨G', env', σ', h1, h2, h3, h4, h5⟩
  | panic c => exact ⟨G', env', σ', h1, h2, h3, h4, h5⟩
  | outgrown => exact ⟨G', env', σ', h1, h2, h3, h4, h5⟩

theorem scopeE_n {Q : Exit → Env → AHeap → Prop} {env : Env} {σ : AHeap} (h : Q .normal env σ) : scopeE Q .normal env σ := h
theorem scopeE_x {Q : Exit → Env → AHeap → Prop} {id : Nat} {env : Env} {σ : AHeap} (h : Q (.exit id) env σ) : scopeE Q (.exit id) env σ := h

/-- string(r) -/
def runeS (r : Int) : List UInt8 := (Utf8.encode r).data.toList
theorem a_rune_str {o : Oper} {env : Env} {σ : AHeap} {K : AV → AHeap → Prop} {T U : TypeId} {x : Operand} {k : IntKind} {r : Int} (ho : o.op = .convert T U x) (hT : intK P T = some k) (hU : isStr P U = true)
    (hx : opnd env x = some (.v (.int k r))) (h : K (str (runeS r)) σ) : AVal P o env σ K := by
  refine a_pure (fun G w ρ hρ => ⟨.string (Utf8.encode r), ?_, ?_⟩) h
  · have hxv := (hρ x _ hx).v_eq
    simp [execOp, ho, hxv, convert, run_underlying (intK_inv hT), run_underlying (isStr_inv hU), Conv.intToString]
  · have : (⟨(runeS r).toArray⟩ : ByteArray) = Utf8.encode r := by apply ByteArray.ext; simp [runeS]
    show VRel G _ (.v (.string ⟨(runeS r).toArray⟩))
    rw [this]; exact .v _

end Go.AL
/- AL, part W: the library's sorts over an object of the call's own. -/
namespace Go.AL
open Go Go.RowKit

variable {P : Program} {N : Nat}

theorem grow_at (w : World) (os : Array Obj) {k : Nat} (h : k < w.heap.size) : (Sort.grow w os).heap[k]? = w.heap[k]? := by
  simp [Sort.grow, Array.getElem?_append, h]

theorem mapBlock_at (w : World) (b : Nat) (f : Array Value → Array Value) (k : Nat) : (Sort.mapBlock w b f).heap[k]? = if b = k then w.heap[k]?.map (Sort.onCells f) else w.heap[k]? := by
  simp [Sort.mapBlock, Array.getElem?_modify]

/-- the sort's world: one row turned, blocks laid behind -/
theorem St.sorted {G : Ghost} {σ : AHeap} {w : World} (h : St G σ w) {id ver : Nat} {ty : TypeId} {acs acs' : List AV} (hid : σ id = some (.cells ver ty acs)) {b N : Nat} (hl : G.loc id ver = some (b, N))
    (n : Nat) (f : Array Value → Array Value) (os : Array Obj) (hf : ∀ cs : Array Value, w.heap[b]? = some (.cells cs ty (0, 0)) → cs.size = N → (f cs).size = N ∧ CellsRel G (f cs) 0 acs') :
    St G (upd σ id (.cells ver ty acs')) (Sort.grow (Sort.mapBlock (Sort.ahead w n) b f) os) := by
  obtain ⟨cs, hN, hb, hc, _⟩ := h.row hid hl
  obtain ⟨f1, f2⟩ := hf cs hb hN.symm
  have hlt : b < w.heap.size := (Array.getElem?_eq_some_iff.1 hb).1
  have hsz : (Sort.mapBlock (Sort.ahead w n) b f).heap.size = w.heap.size := by simp [Sort.mapBlock, Sort.ahead]
  refine h.turn_same (o := .cells ver ty acs) (o' := .cells ver ty acs') hid rfl hl ⟨rfl, rfl, rfl, ?_, fun k hk hne => ?_⟩ ⟨f cs, f1.symm, ?_, f2⟩
  · simp [Sort.grow, hsz]
  · have hne' : b ≠ k := fun e => hne (by rw [e])
    rw [grow_at _ _ (by rw [hsz]; exact hk), mapBlock_at, if_neg hne']
    rfl
  · rw [grow_at _ _ (by rw [hsz]; exact hlt), mapBlock_at, if_pos rfl]
    show (w.heap[b]?).map _ = _
    rw [hb]; rfl

/-- the contract that the shelf gives of slices.Sort at ints -/
def SortI (P : Program) (f : FuncId) : Prop := ∀ (blk off cap : Nat) (zs : List Int) (w : World), Sort.Holds (Value.int .i64) w blk off zs.toArray → blk < w.heap.size → zs.length < 4611686018427387904 →
    Calls P f #[.slice (some ⟨blk, off, none⟩) zs.length cap] w fun e w' =>
      e = .returned (.tuple #[]) ∧ ∃ n os, w' = Sort.grow (Sort.putRow (Value.int .i64) (Sort.ahead w n) blk off (zs.mergeSort fun x y => decide (x ≤ y)).toArray) os

def sortI (zs : List Int) : List Int := zs.mergeSort fun x y => decide (x ≤ y)
theorem sortI_len (zs : List Int) : (sortI zs).length = zs.length := by simp [sortI]

theorem putCells_rel {G : Ghost} {α : Type} [Inhabited α] (enc : α → Value) (d : List α) (cs : Array Value) (h : d.length ≤ cs.size) :
    CellsRel G (Sort.putCells enc 0 d.toArray cs) 0 (d.map fun x => .v (enc x)) := by
  refine ⟨by simpa [Sort.putCells] using h, fun i a ha => ?_⟩
  simp only [List.getElem?_map, Option.map_eq_some_iff] at ha
  obtain ⟨x, hx, rfl⟩ := ha
  have hi := (List.getElem?_eq_some_iff.1 hx)
  have hi1 : i < d.length := hi.1
  have : (Sort.putCells enc 0 d.toArray cs).getD (0 + i) undef = enc x := by
    simp [Sort.putCells, Array.getD_eq_getD_getElem?, Array.getElem?_mapIdx, Array.getElem?_eq_getElem (show i < cs.size by omega), hi1, hi.2]
  rw [this]; exact .v _

theorem aspec_sort {f : FuncId} (hc : SortI P f) {σ : AHeap} {id ver : Nat} {ty : TypeId} {zs : List Int} (hid : σ id = some (.cells ver ty (zs.map int))) (hl : zs.length < 4611686018427387904) :
    ASpec P f [.arr id ver 0 zs.length 1] σ fun r σ' => r = .ret (.tup []) ∧ σ' = upd σ id (.cells ver ty ((sortI zs).map int)) := by
  intro G w vs hst hv
  have hx := hv.2 0 _ rfl
  have hvs : vs = #[vs.getD 0 undef] := by
    apply Array.ext
    · simpa using hv.1
    · intro i h1 h2
      have hi : i = 0 := by simp at h2; omega
      subst hi; simp [Array.getD, h1]
  rcases hx.arr_inv with ⟨_, hoff, _⟩ | ⟨b, M, cap, h3, h4, h5, h6, h7⟩
  · omega
  obtain ⟨cs, hN, hb, hcr, hB⟩ := hst.row hid h3
  have hlen : zs.length ≤ cs.size := by have := hcr.1; simpa using this
  have hblt : b < w.heap.size := (Array.getElem?_eq_some_iff.1 hb).1
  have hH : Sort.Holds (Value.int .i64) w b 0 zs.toArray := by
    intro j hj
    have hj' : j < zs.length := by simpa using hj
    have e := (hcr.2 j (int zs[j]) (by simp [List.getElem?_eq_getElem hj'])).v_eq
    rw [Nat.zero_add] at e
    constructor
    · rw [cell_of_heap hb (by omega), Nat.zero_add, e]; simp [hj']
    · simp [World.frozen?, hb]
  rw [hvs, h7]
  refine (hc b 0 cap zs w hH hblt hl).mono fun e w' ⟨he, n, os, hw⟩ => ⟨G, _, .ret (.tup []), .refl G, ?_, ?_, rfl, rfl⟩
  · rw [hw]
    refine hst.sorted hid h3 n _ os fun cs' hb' hs' => ⟨by simp [Sort.putCells, hs'], ?_⟩
    rw [hb] at hb'
    simp only [Option.some.injEq, Obj.cells.injEq] at hb'
    obtain ⟨rfl, _⟩ := hb'
    exact putCells_rel (Value.int .i64) (sortI zs) cs (by rw [sortI_len]; exact hlen)
  · subst he; exact .tup rfl (by simp)

/-- the contract that the shelf gives of slices.SortFunc at elements of k cells, the comparison being one that is known -/
def SortK (P : Program) (f g : FuncId) {α : Type} [Inhabited α] (enc : α → List Value) (k : Nat) (lt : α → α → Bool) : Prop := ∀ (blk off cap : Nat) (d : Array α) (w : World),
    Sort.HoldsK enc k w blk off d → blk < w.heap.size → d.size < 4611686018427387904 →
    Calls P f #[.slice (some ⟨blk, off, none⟩) d.size cap, .func (.func g) #[] #[]] w fun e w' =>
      e = .returned (.tuple #[]) ∧ ∃ d' n os, Sort.PermIn 0 d.size d d' ∧ Sort.SortedIn lt 0 d.size d' ∧ w' = Sort.grow (Sort.putRowK enc k (Sort.ahead w n) blk off d') os

theorem Al_lenF {α β : Type} {enc : α → List β} {k : Nat} (hk : ∀ x, (enc x).length = k) : ∀ (l : List α), (l.flatMap enc).length = l.length * k
  | [] => by simp
  | x :: r => by rw [List.flatMap_cons, List.length_append, hk, Al_lenF hk r, List.length_cons, Nat.add_mul]; omega

theorem flatMap_get {α : Type} [Inhabited α] {β : Type} {enc : α → List β} {k : Nat} (hk : ∀ x, (enc x).length = k) : ∀ (l : List α) (t : Nat), t < l.length * k → (l.flatMap enc)[t]? = (enc (l.getD (t / k) default))[t % k]?
  | [], t, h => by simp at h
  | x :: r, t, h => by
    have hk0 : 0 < k := by rcases Nat.eq_zero_or_pos k with e | e; · subst e; simp at h
                           · exact e
    rw [List.flatMap_cons, List.getElem?_append]
    by_cases ht : t < k
    · rw [hk, if_pos ht, Nat.div_eq_of_lt ht, Nat.mod_eq_of_lt ht]; rfl
    · rw [hk, if_neg ht, flatMap_get hk r (t - k) (by simp [Nat.add_mul] at h; omega)]
      have e1 : t / k = (t - k) / k + 1 := by rw [Nat.div_eq_sub_div hk0 (by omega)]
      have e2 : t % k = (t - k) % k := by rw [Nat.mod_eq_sub_mod (by omega)]
      rw [e1, e2]; rfl

theorem flatK_get {α : Type} [Inhabited α] {enc : α → List Value} {k : Nat} (hk : ∀ x, (enc x).length = k) (d : Array α) {t : Nat} (h : t < d.size * k) : (d.toList.flatMap enc)[t]? = some (Sort.flatK enc k d)[t]! := by
  have hk0 : 0 < k := by rcases Nat.eq_zero_or_pos k with e | e; · subst e; simp at h
                         · exact e
  have h1 : t / k < d.size := Nat.div_lt_of_lt_mul (by rw [Nat.mul_comm]; exact h)
  rw [flatMap_get hk _ _ (by simpa using h), Sort.get_flatK _ _ _ _ h]
  have e : d.toList.getD (t / k) default = d[t / k]! := by
    rw [getElem!_pos d _ h1]; simp [List.getD_eq_getElem?_getD, h1]
  rw [e]
  have h2 : t % k < (enc d[t / k]!).length := by rw [hk]; exact Nat.mod_lt _ hk0
  rw [List.getElem?_eq_getElem h2, getElem!_pos (enc d[t / k]!) (t % k) h2]

theorem aspec_sortK {f g : FuncId} {α : Type} [Inhabited α] {enc : α → List Value} {k : Nat} {lt : α → α → Bool} (hk : ∀ x, (enc x).length = k) (hc : SortK P f g enc k lt) {σ : AHeap} {id ver : Nat} {ty : TypeId} {l : List α}
    (hid : σ id = some (.cells ver ty ((l.flatMap enc).map .v))) (hl : l.length < 4611686018427387904) :
    ASpec P f [.arr id ver 0 l.length k, .v (.func (.func g) #[] #[])] σ fun r σ' => r = .ret (.tup []) ∧ ∃ l' : List α, l'.Perm l ∧ (∀ i j, i < j → j < l'.length → lt (l'.getD j default) (l'.getD i default) = false) ∧ σ' = upd σ id (.cells ver ty ((l'.flatMap enc).map .v)) := by
  intro G w vs hst hv
  have hx := hv.2 0 _ rfl
  have hy := (hv.2 1 _ rfl).v_eq
  have hvs : vs = #[vs.getD 0 undef, vs.getD 1 undef] := by
    apply Array.ext
    · simpa using hv.1
    · intro i h1 h2
      have hi : i = 0 ∨ i = 1 := by simp at h2; omega
      rcases hi with rfl | rfl <;> simp [Array.getD, h1]
  rcases hx.arr_inv with ⟨_, hoff, _⟩ | ⟨b, M, cap, h3, h4, h5, h6, h7⟩
  · omega
  obtain ⟨cs, hN, hb, hcr, hB⟩ := hst.row hid h3
  have hfl : (l.flatMap enc).length = l.length * k := Al_lenF hk l
  have hlen : l.length * k ≤ cs.size := by have := hcr.1; simp only [List.length_map, hfl] at this; omega
  have hblt : b < w.heap.size := (Array.getElem?_eq_some_iff.1 hb).1
  have hH : Sort.HoldsK enc k w b 0 l.toArray := by
    intro j hj
    have hj' : j < l.length * k := by simpa using hj
    have g1 := flatK_get hk l.toArray (t := j) (by simpa using hj')
    have e := (hcr.2 j (.v (Sort.flatK enc k l.toArray)[j]!) (by rw [List.getElem?_map]; simp only [List.toList_toArray] at g1; rw [g1]; rfl)).v_eq
    rw [Nat.zero_add] at e
    constructor
    · rw [cell_of_heap hb (by omega), Nat.zero_add, e]; rfl
    · simp [World.frozen?, hb]
  rw [hvs, h7, hy]
  have hcall := hc b 0 cap l.toArray w hH hblt (by simpa using hl)
  simp only [List.size_toArray] at hcall
  refine hcall.mono fun e w' ⟨he, d', n, os, hp, hs, hw⟩ => ⟨G, _, .ret (.tup []), .refl G, ?_, ?_, rfl, d'.toList, ?_, ?_, rfl⟩
  · rw [hw]
    have hd' : d'.size = l.length := by have := hp.1; simpa using this
    refine hst.sorted hid h3 n _ os fun cs' hb' hs' => ⟨by simp [Sort.putCells, hs'], ?_⟩
    rw [hb] at hb'
    simp only [Option.some.injEq, Obj.cells.injEq] at hb'
    obtain ⟨rfl, _⟩ := hb'
    have hfd : (d'.toList.flatMap enc).length = d'.size * k := by rw [Al_lenF hk]; simp
    refine ⟨by simp only [List.length_map, hfd, Sort.putCells, Array.size_mapIdx, hd']; omega, fun i a ha => ?_⟩
    simp only [List.getElem?_map, Option.map_eq_some_iff] at ha
    obtain ⟨x, hx, rfl⟩ := ha
    have hi : i < d'.size * k := by have := (List.getElem?_eq_some_iff.1 hx).1; omega
    have g1 := flatK_get hk d' hi
    rw [hx] at g1
    have hic : i < cs.size := by rw [hd'] at hi; omega
    have : (Sort.putCells (_root_.id : Value → Value) 0 (Sort.flatK enc k d') cs).getD (0 + i) undef = x := by
      simp only [Option.some.injEq] at g1
      simp [Sort.putCells, Array.getD_eq_getD_getElem?, Array.getElem?_mapIdx, Array.getElem?_eq_getElem hic, hi, g1]
    rw [this]; exact .v _
  · subst he; exact .tup rfl (by simp)
  · have h1 := hp.2.2
    have hd' : d'.size = l.length := by have := hp.1; simpa using this
    have e1 : d'.extract 0 l.length = d' := by rw [← hd']; simp
    simpa [e1] using h1
  · intro i j hij hj
    have hd' : d'.size = l.length := by have := hp.1; simpa using this
    have := hs i j (Nat.zero_le _) hij (by simp at hj; omega)
    have ei : d'.toList.getD i default = d'[i]! := by
      have : i < d'.size := by simp at hj; omega
      rw [getElem!_pos d' i this]; simp [List.getD_eq_getElem?_getD, this]
    have ej : d'.toList.getD j default = d'[j]! := by
      have : j < d'.size := by simpa using hj
      rw [getElem!_pos d' j this]; simp [List.getD_eq_getElem?_getD, this]
    rw [ei, ej]; exact this

end Go.AL
/- AL, part X: a deferred closure that recovers. -/
namespace Go.AL
open Go Go.RowKit

variable {P : Program} {N : Nat}

theorem upon_mono {o : Oper} {a : Act} {n1 n2 : Act → World → Prop} {Q1 Q2 : Exit → Act → World → Prop} (hn : ∀ a w, n1 a w → n2 a w) (hq : ∀ e a w, Q1 e a w → Q2 e a w) (hl : ∀ a w, ¬ Q1 .outgrown a w)
    {r : Result Next} (h : o.upon P a n1 Q1 r) : o.upon P a n2 Q2 r := by
  cases r with
  | ok x w =>
    cases x with
    | value v => exact hn _ _ h
    | skip => exact hn _ _ h
    | defer d => exact hn _ _ h
    | enter f args =>
      rw [Oper.upon_enter] at h ⊢
      refine Calls.mono h fun e w' h' => ?_
      cases e with
      | returned v => exact hn _ _ h'
      | panicked c => exact hq _ _ _ h'
      | outgrown => obtain ⟨a, w, h'⟩ := h'; exact absurd h' (hl _ _)
    | row row args =>
      rw [Oper.upon_row] at h ⊢
      exact Rows.mono h fun v w' h' => hn _ _ h'
    | _ => exact h.elim
  | halt x w =>
    cases x with
    | panic v => exact hq _ _ _ h
    | _ => exact h.elim

theorem wpOpsS_of_wpOps {ops : Array Oper} {Q : Exit → Act → World → Prop} {cs : List Frame} (hl : ∀ a w, ¬ Q .outgrown a w) : ∀ (l : List Nat) (a : Act) (w : World), wpOps P ops Q l a w →
    wpOpsS P ops (fun e a cs' w => cs' = cs ∧ Q e a w) l a cs w
  | [], a, w, h => ⟨rfl, h⟩
  | i :: rest, a, w, h => by
    simp only [wpOps] at h
    simp only [wpOpsS]
    split at h
    · rename_i e; simp only [e]; exact wpOpsS_of_wpOps hl rest a w h
    · rename_i o e
      simp only [e]
      split at h
      · rename_i hw
        rw [if_pos hw]
        rcases h with h | ⟨_, a', w', h⟩
        · unfold Oper.wp at h
          split
          · rename_i w' hr
            rw [hr] at h; exact h.elim
          · exact upon_mono (fun a w h => wpOpsS_of_wpOps (cs := cs) hl rest a w h) (fun e a w h => ⟨trivial, h⟩) hl h
        · exact absurd h (hl _ _)
      · rename_i hw
        rw [if_neg hw]
        exact wpOpsS_of_wpOps hl rest _ w h

theorem upon_mono3 {o : Oper} {a : Act} {n1 n2 : Act → World → Prop} {Q1 Q2 : Exit → Act → World → Prop} (hn : ∀ a w, n1 a w → n2 a w) (hq : ∀ e a w, Q1 e a w → Q2 e a w)
    {r : Result Next} (h : o.upon P a n1 Q1 r) : o.upon P a n2 Q2 r := by
  cases r with
  | ok x w =>
    cases x with
    | value v => exact hn _ _ h
    | skip => exact hn _ _ h
    | defer d => exact hn _ _ h
    | enter f args =>
      rw [Oper.upon_enter] at h ⊢
      refine Calls.mono h fun e w' h' => ?_
      cases e with
      | returned v => exact hn _ _ h'
      | panicked c => exact hq _ _ _ h'
      | outgrown => obtain ⟨a, w, h'⟩ := h'; exact ⟨a, w, hq _ _ _ h'⟩
    | row row args =>
      rw [Oper.upon_row] at h ⊢
      exact Rows.mono h fun v w' h' => hn _ _ h'
    | _ => exact h.elim
  | halt x w =>
    cases x with
    | panic v => exact hq _ _ _ h
    | _ => exact h.elim

theorem wpOpsS_mono {ops : Array Oper} {Q Q' : Exit → Act → List Frame → World → Prop} (hq : ∀ e a cs w, Q e a cs w → Q' e a cs w) : ∀ (l : List Nat) (a : Act) (cs : List Frame) (w : World), wpOpsS P ops Q l a cs w → wpOpsS P ops Q' l a cs w
  | [], a, cs, w, h => hq _ _ _ _ h
  | i :: rest, a, cs, w, h => by
    simp only [wpOpsS] at h ⊢
    split at h
    · exact wpOpsS_mono hq rest a cs w h
    · split at h
      · rename_i hw
        rw [if_pos hw]
        split at h
        · split at h
          · exact wpOpsS_mono hq rest _ _ _ h
          · exact wpOpsS_mono hq rest _ _ _ h
        · exact upon_mono3 (fun a w h => wpOpsS_mono hq rest a cs w h) (fun e a w h => hq _ _ _ _ h) h
      · rename_i hw
        rw [if_neg hw]
        exact wpOpsS_mono hq rest _ _ _ h

/-- where a deferred closure without results ends -/
def DEnd (N : Nat) (R : AHeap → Prop) : Exit → Env → AHeap → Prop
  | .normal, env, σ | .ret, env, σ => Gst N (fun _ σ => R σ) env σ
  | _, _, _ => False

/-- what a deferred closure does under a caller's mode -/
def ADef (P : Program) (f : FuncId) (caps : List AV) (σ : AHeap) (u u' : FrameMode) (K : AHeap → Prop) : Prop :=
  ∀ (G : Ghost) (w : World) (vs : Array Value), St G σ w → VRels G vs caps → CallsD P f vs u w fun e u1 w' => e = .returned (.tuple #[]) ∧ u1 = u' ∧ ∃ G' σ', G.le G' ∧ St G' σ' w' ∧ K σ'

theorem adef_rec {f : FuncId} {fn : Func} {id : Nat} {o : Oper} {ops : List Oper} {rest : Code} (hf : P.funcs[f]? = some fn) (hb : fn.body = some (.seq (.region id (o :: ops).toArray false) rest)) (hN : fn.ntmps = N)
    (hres : fn.results = #[]) (ho : o.op = .call { callee := .builtin .recover, args := #[], argTypes := #[] }) (hg : o.guard = none) {d : Tmp} (hd : o.dst = some d) (hdN : Nat.blt d N = true)
    {args : List AV} (hn : Nat.ble args.length N = true) {env : Env} (henv : argEnv 0 args = env) {σ : AHeap} {R : AHeap → Prop} {u u' : FrameMode} {v : Value}
    (hrec : ∀ (c : Frame) (cs : List Frame), c.mode = u → (recoverD (c :: cs) = some (v, { c with mode := u' } :: cs)) ∨ (recoverD (c :: cs) = none ∧ v = .nilIface ∧ u' = u))
    (h : AOps P N (o :: ops).toArray (thenE (AWp P N rest (DEnd N R)) (DEnd N R)) ops ((d, .v v) :: env) σ) : ADef P f args σ u u' R := by
  subst hN
  intro G w vs hst hv
  refine callsD_of_wpS hf hb fun c₀ cs hu => ?_
  refine wpS_seq (wpS_region ?_)
  have he : ERel G fn.ntmps { tmps := vs ++ Array.replicate (fn.ntmps - vs.size) undef, defers := [] } env := by
    refine ⟨by have := hv.1; have := Nat.le_of_ble_eq_true hn; simp; omega, fun t a e => ?_⟩
    subst henv
    have ha : args[t]? = some a := by simpa using (look_argEnv args 0 t a e).2
    have h1 := hv.2 t a ha
    have hlt : t < vs.size := by rw [hv.1]; exact (List.getElem?_eq_some_iff.1 ha).1
    have : (vs ++ Array.replicate (fn.ntmps - vs.size) undef).getD t undef = vs.getD t undef := by
      simp [Array.getD_eq_getD_getElem?, Array.getElem?_append, hlt]
    rw [this]
    exact h1
  have hdok : dstOk fn.ntmps o.dst = true := by rw [hd]; exact hdN
  have he' := he.put hdok (.v v)
  rw [hd] at he'
  have hrun : ∀ (act : Act) (w : World), (execOp act.eval o).run P w = .ok .recover w := by
    intro act w; simp [execOp, ho, resolve, invoke, builtin]
  -- what comes behind
  have key : ∀ (a : Act), a.defers = [] → ERel G fn.ntmps a ((d, .v v) :: env) → wpOpsS P (o :: ops).toArray (Exit.thenS (rest.wpS P (bodyPostS P fn c₀ cs fun e u1 w' => e = .returned (.tuple #[]) ∧ u1 = u' ∧ ∃ G' σ', G.le G' ∧ St G' σ' w' ∧ R σ'))
      (bodyPostS P fn c₀ cs fun e u1 w' => e = .returned (.tuple #[]) ∧ u1 = u' ∧ ∃ G' σ', G.le G' ∧ St G' σ' w' ∧ R σ')) (List.range' 1 ops.length) a ({ c₀ with mode := u' } :: cs) w := by
    intro a hda hea
    have hw := h G w a hst hea
    rw [← wpOps_eq_wpList (P := P) ops 1 (fun j => by simp [Nat.add_comm 1 j])] at hw
    have fin : ∀ (a' : Act) (w' : World), a'.defers = [] → (∃ G' env' σ', G.le G' ∧ St G' σ' w' ∧ ERel G' fn.ntmps a' env' ∧ Gst fn.ntmps (fun _ σ => R σ) env' σ') →
        a'.defers = [] ∧ ∃ u1, ({ c₀ with mode := u' } :: cs : List Frame) = { c₀ with mode := u1 } :: cs ∧ ∃ v, (results fn a'.tmps).run P w' = .ok v w' ∧ (Ending.returned v = .returned (.tuple #[]) ∧ u1 = u' ∧ ∃ G' σ', G.le G' ∧ St G' σ' w' ∧ R σ') := by
      rintro a' w' hd' ⟨G', env', σ', g1, g2, g3, g4⟩
      obtain ⟨G2, env2, σ2, k1, k2, k3, k4⟩ := g4 G' w' a' g2 g3
      exact ⟨hd', u', rfl, .tuple #[], by simp [results, hres], rfl, rfl, G2, σ2, g1.trans k1, k2, k4⟩
    have hno : ∀ a1 w1, ¬ Lift G fn.ntmps a.defers (thenE (AWp P fn.ntmps rest (DEnd fn.ntmps R)) (DEnd fn.ntmps R)) .outgrown a1 w1 := by
      rintro a1 w1 ⟨_, _, _, _, _, _, _, h⟩; exact h
    have hs := wpOpsS_of_wpOps (cs := { c₀ with mode := u' } :: cs) hno _ _ _ hw
    refine wpOpsS_mono ?_ _ _ _ _ hs
    rintro e a' cs' w' ⟨rfl, G', env', σ', g1, g2, g3, g4, g5⟩
    cases e with
    | normal =>
      have hr := g5 G' w' a' g2 g3
      refine wpS_of_wp (wp_mono hr ?_)
      rintro e a2 w2 ⟨G2, env2, σ2, k1, k2, k3, k4, k5⟩
      cases e with
      | normal => exact fin a2 w2 (by rw [k4, g4, hda]) ⟨G2, env2, σ2, g1.trans k1, k2, k3, k5⟩
      | ret => exact fin a2 w2 (by rw [k4, g4, hda]) ⟨G2, env2, σ2, g1.trans k1, k2, k3, k5⟩
      | panic c => exact k5.elim
      | exit i => exact k5.elim
      | goto l => exact k5.elim
      | outgrown => exact k5.elim
    | ret => exact fin a' w' (by rw [g4, hda]) ⟨G', env', σ', g1, g2, g3, g5⟩
    | panic c => exact g5.elim
    | exit i => exact g5.elim
    | goto l => exact g5.elim
    | outgrown => exact g5.elim
  have e0 : List.range (o :: ops).toArray.size = 0 :: List.range' 1 ops.length := by simp [List.range_eq_range', List.range'_succ]
  rw [e0]
  simp only [wpOpsS]
  have hw : Region.wanted o (yielded (o :: ops).toArray (vs ++ Array.replicate (fn.ntmps - vs.size) undef)) = true := by simp [Region.wanted, hg]
  simp only [List.getElem?_toArray, List.getElem?_cons_zero, hw, if_true, hrun]
  rcases hrec c₀ cs hu with e | ⟨e, rfl, rfl⟩
  · split
    · rename_i v1 cs1 e1
      rw [e] at e1
      cases e1
      exact key _ (by rw [Act.put_defers]) (by rw [hd]; exact he')
    · rename_i e1
      rw [e] at e1
      cases e1
  · split
    · rename_i v1 cs1 e1
      rw [e] at e1
      cases e1
    · have : ({ c₀ with mode := u' } : Frame) = c₀ := by subst hu; rfl
      have k := key (Act.put { tmps := vs ++ Array.replicate (fn.ntmps - vs.size) undef, defers := [] } o.dst Value.nilIface) (by rw [Act.put_defers]) (by rw [hd]; exact he')
      rw [this] at k
      exact k

/-- the deferred calls: none, or one closure's -/
def DOk (G : Ghost) (ds : List Deferred) : Option (FuncId × List AV) → Prop
  | none => ds = []
  | some (f, caps) => ∃ cs, ds = [{ target := .fn (.func f) cs, args := #[] }] ∧ VRels G cs caps

theorem VRels.mono' {G G' : Ghost} (hG : G.le G') {vs : Array Value} {avs : List AV} (h : VRels G vs avs) : VRels G' vs avs := ⟨h.1, fun i a e => (h.2 i a e).mono hG⟩
theorem DOk.mono {G G' : Ghost} (hG : G.le G') {ds : List Deferred} {od : Option (FuncId × List AV)} (h : DOk G ds od) : DOk G' ds od := by
  cases od with
  | none => exact h
  | some p => obtain ⟨cs, e, hv⟩ := h; exact ⟨cs, e, hv.mono' hG⟩

def LiftD (G : Ghost) (N : Nat) (Q : Exit → Option (FuncId × List AV) → Env → AHeap → Prop) : Exit → Act → World → Prop :=
  fun e act w => ∃ G' env σ od, G.le G' ∧ St G' σ w ∧ ERel G' N act env ∧ DOk G' act.defers od ∧ Q e od env σ
/-- the code's judgement where calls may be deferred -/
def AWpD (P : Program) (N : Nat) (c : Code) (Q : Exit → Option (FuncId × List AV) → Env → AHeap → Prop) (od : Option (FuncId × List AV)) (env : Env) (σ : AHeap) : Prop :=
  ∀ (G : Ghost) (w : World) (act : Act), St G σ w → ERel G N act env → DOk G act.defers od → c.wp P (LiftD G N Q) act w

theorem awpd_of {c : Code} {Q : Exit → Option (FuncId × List AV) → Env → AHeap → Prop} {od : Option (FuncId × List AV)} {env : Env} {σ : AHeap} (h : AWp P N c (fun e env σ => Q e od env σ) env σ) : AWpD P N c Q od env σ := by
  intro G w act hst he hd
  refine wp_mono (h G w act hst he) fun e act' w' ⟨G', env', σ', h1, h2, h3, h4, h5⟩ => ⟨G', env', σ', od, h1, h2, h3, ?_, h5⟩
  rw [h4]; exact hd.mono h1

def thenD (K : Option (FuncId × List AV) → Env → AHeap → Prop) (Q : Exit → Option (FuncId × List AV) → Env → AHeap → Prop) : Exit → Option (FuncId × List AV) → Env → AHeap → Prop
  | .normal, od, env, σ => K od env σ
  | e, od, env, σ => Q e od env σ

theorem awpd_seq {x y : Code} {Q : Exit → Option (FuncId × List AV) → Env → AHeap → Prop} {od : Option (FuncId × List AV)} {env : Env} {σ : AHeap} (h : AWpD P N x (thenD (AWpD P N y Q) Q) od env σ) : AWpD P N (.seq x y) Q od env σ := by
  intro G w act hst he hd
  refine wp_seq (wp_mono (h G w act hst he hd) fun e act' w' ⟨G', env', σ', od', h1, h2, h3, h4, h5⟩ => ?_)
  cases e with
  | normal =>
    refine wp_mono (h5 G' w' act' h2 h3 h4) fun e a'' w'' ⟨G2, env2, σ2, od2, k1, k2, k3, k4, k5⟩ => ⟨G2, env2, σ2, od2, h1.trans k1, k2, k3, k4, k5⟩
  | exit id => exact ⟨G', env', σ', od', h1, h2, h3, h4, h5⟩
  | goto l => exact ⟨G', env', σ', od', h1, h2, h3, h4, h5⟩
  | ret => exact ⟨G', env', σ', od', h1, h2, h3, h4, h5⟩
  | panic c => exact ⟨G', env', σ', od', h1, h2, h3, h4, h5⟩
  | outgrown => exact ⟨G', env', σ', od', h1, h2, h3, h4, h5⟩

theorem awpd_defer {id : Nat} {o1 o2 : Oper} {Q : Exit → Option (FuncId × List AV) → Env → AHeap → Prop} {env : Env} {σ : AHeap} {f : FuncId} {caps : List Operand} {avs : List AV} {d : Tmp}
    (ho1 : o1.op = .makeFunc (.func f) #[] caps.toArray) (hx : opnds env caps = some avs) (hg1 : o1.guard = none) (hd1 : o1.dst = some d) (hN : Nat.blt d N = true)
    (ho2 : o2.op = .defer { callee := .value (.tmp d), args := #[], argTypes := #[] }) (hg2 : o2.guard = none) (hd2 : o2.dst = none)
    (h : Q .normal (some (f, avs)) ((d, .clo f avs) :: env) σ) : AWpD P N (.region id [o1, o2].toArray false) Q none env σ := by
  intro G w act hst he hd
  have hv := opnds_vrels (fun x a e => he.opnd e) hx
  refine wp_region_lit ?_
  refine wpList_plain hg1 fun K hK => ?_
  unfold Oper.wp
  have hr1 : (execOp act.eval o1).run P w = .ok (.value (.func (.func f) #[] (caps.toArray.map act.eval))) w := by
    have : (fun x => act.eval x) = act.eval := rfl
    simp [execOp, ho1, Act.eval, this, Instr.makeFunc]
  rw [hr1, Oper.upon_value]
  refine hK _ _ ?_
  refine wpList_plain hg2 fun K hK => ?_
  unfold Oper.wp
  have hlt : d < act.tmps.size := by rw [he.size]; exact Nat.le_of_ble_eq_true hN
  have hev : (act.put o1.dst (.func (.func f) #[] (caps.toArray.map act.eval))).eval (.tmp d) = .func (.func f) #[] (caps.toArray.map act.eval) := by
    rw [hd1]; simp [Act.put, Act.eval, Array.getD, hlt]
  have hr2 : (execOp (act.put o1.dst (.func (.func f) #[] (caps.toArray.map act.eval))).eval o2).run P w = .ok (.defer { target := .fn (.func f) (caps.toArray.map act.eval), args := #[] }) w := by
    simp only [List.map_toArray] at hev
    simp [execOp, ho2, resolve, hev, Deferred.ofValue]
  rw [hr2, Oper.upon_defer]
  refine hK _ _ ?_
  have he1 := he.put (d := o1.dst) (by rw [hd1]; exact hN) (.clo hv.1 hv.2 : VRel G (.func (.func f) #[] (caps.toArray.map act.eval)) (.clo f avs))
  rw [hd1] at he1
  refine wpList_nil ⟨G, _, σ, some (f, avs), .refl G, hst, ?_, ?_, h⟩
  · rw [hd2]
    refine ⟨?_, ?_⟩
    · have := he1.size; rw [hd1]; exact this
    · have := he1.tmps; rw [hd1]; exact this
  · rw [hd2]
    refine ⟨_, ?_, hv⟩
    show _ :: (act.put o1.dst _).defers = _
    rw [Act.put_defers]
    have : act.defers = [] := hd
    rw [this]

/-- where a body with a deferred closure ends -/
def ERetD (P : Program) (N : Nat) (rs : List ResultVar) (R : AEnd → AHeap → Prop) : Exit → Option (FuncId × List AV) → Env → AHeap → Prop
  | .normal, none, env, σ | .ret, none, env, σ => Gst N (RetOkC P rs R) env σ
  | .normal, some (f, caps), env, σ | .ret, some (f, caps), env, σ => Callable P f ∧ Gst N (fun env σ => ADef P f caps σ .returning .returning fun σ' => Gst N (RetOkC P rs R) env σ') env σ
  | .panic c, none, env, σ => Gst N (fun _ σ => R (.pan c) σ) env σ
  | .panic c, some (f, caps), env, σ => Callable P f ∧ ∃ u', settle u' = .returning ∧ Gst N (fun env σ => ADef P f caps σ (.panicking c) u' fun σ' => Gst N (RetOkC P rs R) env σ') env σ
  | _, _, _, _ => False

theorem aspec_enter_d {f : FuncId} {fn : Func} {c : Code} {args : List AV} {env : Env} {σ : AHeap} {R : AEnd → AHeap → Prop} {rs : List ResultVar} (hf : P.funcs[f]? = some fn) (hb : fn.body = some c)
    (hN : fn.ntmps = N) (hrs : fn.results = rs.toArray) (hn : Nat.ble args.length N = true) (henv : argEnv 0 args = env)
    (h : AWpD P N c (ERetD P N rs R) none env σ) : ASpec P f args σ R := by
  subst hN
  intro G w vs hst hv
  refine calls_of_wp_defers hf hb (wp_mono (h G w { tmps := vs ++ Array.replicate (fn.ntmps - vs.size) undef, defers := [] } hst ⟨?_, ?_⟩ rfl) ?_)
  · have := hv.1; have := Nat.le_of_ble_eq_true hn; simp; omega
  · intro t a e
    subst henv
    have ha : args[t]? = some a := by simpa using (look_argEnv args 0 t a e).2
    have h1 := hv.2 t a ha
    have hlt : t < vs.size := by rw [hv.1]; exact (List.getElem?_eq_some_iff.1 ha).1
    have : (vs ++ Array.replicate (fn.ntmps - vs.size) undef).getD t undef = vs.getD t undef := by
      simp [Array.getD_eq_getD_getElem?, Array.getElem?_append, hlt]
    rw [this]
    exact h1
  · rintro e act w' ⟨G', env', σ', od, h1, h2, h3, h4, h5⟩
    -- a return without more
    have ret : ∀ (G1 : Ghost) (σ1 : AHeap) (w1 : World) (env1 : Env), G.le G1 → St G1 σ1 w1 → ERel G1 fn.ntmps act env1 → Gst fn.ntmps (RetOkC P rs R) env1 σ1 →
        Leaves P fn act.tmps (fun e w' => ∃ G' σ' r, G.le G' ∧ St G' σ' w' ∧ EndRel G' e r ∧ R r σ') [] .returning w1 := by
      intro G1 σ1 w1 env1 g1 g2 g3 g4
      obtain ⟨G2, env2, σ2, k1, k2, k3, avs, k4, k5⟩ := g4 G1 w1 act g2 g3
      obtain ⟨us, e1, e2⟩ := forall2_run k2 k3 k4
      exact ⟨_, results_ok hrs e1, G2, σ2, .ret (tupOf avs), g1.trans k1, k2, tup_of_rel e2, k5⟩
    have def_ : ∀ (g : FuncId) (caps : List AV) (u u' : FrameMode), Callable P g → u ≠ .run → settle u' = .returning → DOk G' act.defers (some (g, caps)) → Gst fn.ntmps (fun env σ => ADef P g caps σ u u' fun σ' => Gst fn.ntmps (RetOkC P rs R) env σ') env' σ' →
        Leaves P fn act.tmps (fun e w' => ∃ G' σ' r, G.le G' ∧ St G' σ' w' ∧ EndRel G' e r ∧ R r σ') act.defers u w' := by
      intro g caps u u' hcal hu hu' hd hg
      obtain ⟨G2, env2, σ2, k1, k2, k3, k4⟩ := hg G' w' act h2 h3
      obtain ⟨cs, e1, e2⟩ := hd
      rw [e1]
      have hc := hcal cs w'
      refine leaves_cons (f := g) (args := cs) hu ?_ ((k4 G2 w' cs k2 (e2.mono' k1)).mono fun e u1 w1 ⟨q1, q2, G3, σ3, q3, q4, q5⟩ => ?_)
      · simp only [invoke, Array.empty_append] ; exact hc
      · subst q1 q2
        show Leaves _ _ _ _ [] (settle u1) w1
        rw [hu']
        exact ret G3 σ3 w1 env2 (h1.trans (k1.trans q3)) q4 (k3.mono q3) q5
    cases e with
    | normal =>
      cases od with
      | none => have : act.defers = [] := h4; simp only [bodyPostD, this]; exact ret G' σ' w' env' h1 h2 h3 h5
      | some p => exact def_ p.1 p.2 .returning .returning h5.1 (by simp) rfl h4 h5.2
    | ret =>
      cases od with
      | none => have : act.defers = [] := h4; simp only [bodyPostD, this]; exact ret G' σ' w' env' h1 h2 h3 h5
      | some p => exact def_ p.1 p.2 .returning .returning h5.1 (by simp) rfl h4 h5.2
    | panic c =>
      cases od with
      | none =>
        have : act.defers = [] := h4
        simp only [bodyPostD, this]
        obtain ⟨G2, env2, σ2, k1, k2, k3, k4⟩ := h5 G' w' act h2 h3
        exact ⟨G2, σ2, .pan c, h1.trans k1, k2, rfl, k4⟩
      | some p =>
        obtain ⟨hc, u', k4, k5⟩ := h5
        exact def_ p.1 p.2 (.panicking c) u' hc (by simp) k4 h4 k5
    | exit id => exact h5.elim
    | goto l => exact h5.elim
    | outgrown => exact h5.elim

/-- a type assertion, with the comma: that type's value; nil -/
def zero1 (P : Program) (t : TypeId) : Option Value := match P.info? t with
  | some i => match i.zero with | some (.agg cs) => (match cs.toList with | [z] => some z | _ => none) | _ => none
  | none => none
theorem agg1_rel {G : Ghost} (y : Value) : VRel G (.agg #[y]) (.agg [.v y]) := by
  refine .agg rfl fun i a ha => ?_
  cases i with
  | zero => simp only [List.getElem?_cons_zero, Option.some.injEq] at ha; subst ha; exact .v _
  | succ i => simp at ha
theorem tup2_rel {G : Ghost} {x y : Value} {a b : AV} (h : VRel G x a) (k : VRel G y b) : VRel G (.tuple #[x, y]) (.tup [a, b]) := by
  refine .tup rfl fun i c hc => ?_
  match i with
  | 0 => simp only [List.getElem?_cons_zero, Option.some.injEq] at hc; subst hc; exact h
  | 1 => simp only [List.getElem?_cons_succ, List.getElem?_cons_zero, Option.some.injEq] at hc; subst hc; exact k
  | i + 2 => simp at hc
theorem a_typeAssert_yes {o : Oper} {env : Env} {σ : AHeap} {K : AV → AHeap → Prop} {t t0 : TypeId} {x : Operand} {y : Value} (ho : o.op = .typeAssert x t0 t true) (ht : isConcrete P t = true)
    (hx : opnd env x = some (.v (.iface t (.agg #[y])))) (h : K (.tup [.agg [.v y], boo true]) σ) : AVal P o env σ K := by
  unfold isConcrete at ht
  refine a_pure (fun G w ρ hρ => ⟨.tuple #[.agg #[y], .bool true], ?_, ?_⟩) h
  · have hxv := (hρ x _ hx).v_eq
    split at ht
    · exact absurd ht (by simp)
    · rename_i d hne hd
      have : (Instr.typeAssert (ρ x) t0 t true).run P w = .ok (.tuple #[.agg #[y], .bool true]) w := by
        unfold Instr.typeAssert
        simp only [Sem.run_bind, run_underlying hd, Result.andThen, hxv]
        cases d <;> first | simp | (exfalso; exact hne _ hd)
      simp [execOp, ho, this]
    · exact absurd ht (by simp)
  · exact tup2_rel (agg1_rel _) (.v _)
theorem a_typeAssert_nil {o : Oper} {env : Env} {σ : AHeap} {K : AV → AHeap → Prop} {t t0 : TypeId} {x : Operand} {z : Value} (ho : o.op = .typeAssert x t0 t true) (ht : isConcrete P t = true) (hz : zero1 P t = some z)
    (hx : opnd env x = some (.v .nilIface)) (h : K (.tup [.agg [.v z], boo false]) σ) : AVal P o env σ K := by
  unfold isConcrete at ht
  unfold zero1 at hz
  refine a_pure (fun G w ρ hρ => ⟨.tuple #[.agg #[z], .bool false], ?_, ?_⟩) h
  · have hxv := (hρ x _ hx).v_eq
    split at hz
    · rename_i i hi
      split at hz
      · rename_i cs hcs
        split at hz
        · rename_i z' hz'
          simp only [Option.some.injEq] at hz
          subst hz
          have hcz : cs = #[z'] := by apply Array.toList_inj.1; simpa using hz'
          subst hcz
          have hzv : (zeroValue t).run P w = .ok (.agg #[z']) w := by simp [zeroValue, typeInfo, hi, hcs]
          split at ht
          · exact absurd ht (by simp)
          · rename_i d hne hd
            have : (Instr.typeAssert (ρ x) t0 t true).run P w = .ok (.tuple #[.agg #[z'], .bool false]) w := by
              unfold Instr.typeAssert
              simp only [Sem.run_bind, run_underlying hd, Result.andThen, hxv]
              cases d <;> first | simp [hzv] | (exfalso; exact hne _ hd)
            simp [execOp, ho, this]
          · exact absurd ht (by simp)
        · exact absurd hz (by simp)
      · exact absurd hz (by simp)
    · exact absurd hz (by simp)
  · exact tup2_rel (agg1_rel _) (.v _)

/-- ways that meet again -/
theorem awp_cut {S : Type} (E : S → Env) (H : S → AHeap) (J : S → Prop) {x y : Code} {Q : Exit → Env → AHeap → Prop} {env : Env} {σ : AHeap}
    (hx : AWp P N x (thenE (Gst N fun env σ => ∃ s, J s ∧ Env.le (E s) env ∧ σ = H s) Q) env σ) (hy : ∀ s, J s → AWp P N y Q (E s) (H s)) : AWp P N (.seq x y) Q env σ := by
  refine awp_seq (hx.post fun e env' σ' hq => ?_)
  cases e with
  | normal =>
    refine .done ?_
    show AWp P N y Q env' σ'
    refine AWp.ghost (hq.bind fun env1 σ1 ⟨s, hj, hl, hs⟩ => ?_)
    subst hs
    exact Gst.weaken hl (.done (hy s hj))
  | exit id => exact .done hq
  | goto l => exact .done hq
  | ret => exact .done hq
  | panic c => exact .done hq
  | outgrown => exact .done hq

/-- a list's cells, one written or read -/
def rep0 (n : Nat) : List AV := List.replicate n (int 0)
theorem rep0_succ (n : Nat) : rep0 (n + 1) = int 0 :: rep0 n := rfl
theorem stv_mid {j : Nat} {l1 l2 : List AV} {x y : AV} (h : l1.length = j) : stv j [x] (l1 ++ y :: l2) = l1 ++ x :: l2 := by
  subst h; simp [stv]
theorem get_mid {j : Nat} {l1 l2 : List AV} {y : AV} (h : l1.length = j) : ldv false 1 j (l1 ++ y :: l2) = some y := by
  subst h; simp [ldv]

/-- a slice of the call's own is frozen -/
theorem gst_arr {Q : Env → AHeap → Prop} {env : Env} {σ : AHeap} {id ver : Nat} {ty : TypeId} {cs : List AV} {n sz : Nat} (k : Nat) (hk : look env k = some (.arr id ver 0 n sz)) (hn : cs.length = n * sz) (hid : σ id = none)
    (h : Gst N Q ((k, .lst cs n false) :: env) σ) : Gst N Q env (upd σ id (.cells ver ty cs)) := by
  refine gst_freeze (upd_same _ _ _) [(k, .lst cs n false)] ?_ ?_
  · intro p hp
    simp only [List.mem_singleton] at hp
    subst hp
    refine ⟨_, hk, ?_⟩
    have := Frz.arr (id := id) (ver := ver) (cs := cs) (off := 0) (n := n) (sz := sz) (by omega)
    rw [List.drop_zero, List.take_of_length_le (by omega)] at this
    exact this
  · rw [del_upd _ _ hid]; exact h
theorem slv_pos {sz : Nat} {cs : List AV} {n id ver : Nat} (h : 0 < n) : slv sz cs n id ver = .arr id ver 0 n sz := by
  cases n with
  | zero => omega
  | succ n => rfl
theorem slh_pos {σ : AHeap} {ty : TypeId} {cs : List AV} {n id ver : Nat} (h : 0 < n) : slh σ ty cs n id ver = upd σ id (.cells ver ty cs) := by
  cases n with
  | zero => omega
  | succ n => rfl
theorem imax_if (a b : Int) : (if a < b then b else a) = max a b := by split <;> omega
theorem imax_gt (a b : Int) : (if b > a then b else a) = max a b := by split <;> omega
theorem imax_if2 (a b : Int) : (if b < a then a else b) = max a b := by split <;> omega
theorem imin_if (a b : Int) : (if a < b then a else b) = min a b := by split <;> omega
theorem a_indexAddr_array_pin {o : Oper} {env : Env} {σ : AHeap} {K : AV → AHeap → Prop} {t : TypeId} {x y : Operand} {off n sz j : Nat} {ag : Bool} {k : IntKind} {i : Int} {cs : List AV} (ho : o.op = .indexAddr t x y)
    (ht : arrK P t = some (n, ag, sz)) (hx : opnd env x = some (.pin cs off)) (hy : opnd env y = some (.v (.int k i))) (hj : i.toNat = j) (h0 : 0 ≤ i) (hlt : i < n)
    (h : K (.pin cs (off + j * sz)) σ) : AVal P o env σ K := by
  refine a_pure (fun G w ρ hρ => ?_) h
  have hyv := (hρ y _ hy).v_eq
  obtain ⟨b, o', cs', hf, hc, hxe⟩ := (hρ x _ hx).pin_inv
  obtain ⟨e, hu, hs⟩ := arrK_inv ht
  have h1 : (0 ≤ i ∧ i < (n : Int)) := ⟨h0, hlt⟩
  refine ⟨.pointer (some ⟨b, o' + (off + j * sz), none⟩), by simp [execOp, ho, hxe, hyv, Instr.indexAt, asIntOf, run_underlying hu, Instr.sureAddr, h1, (tyK_run hs w).2, add_none, hj, Nat.add_assoc], .pin hf hc.1 hc.2⟩

/-- append of something onto a list: where it lies is of account only if it has a cell -/
theorem a_append_slp {o : Oper} {env : Env} {σ : AHeap} {K : AV → AHeap → Prop} {t e : TypeId} {s x : Operand} {id ver n m sz by_ : Nat} {zs : List Value} {cs acs : List AV} {av : AV}
    (ho : o.op = .call { callee := .builtin .append, args := #[s, x], argTypes := #[t, t] }) (ht : slcK P t = some (e, sz, by_, zs)) (hs : opnd env s = some (slv sz cs n id ver))
    (hn : cs.length = n * sz) (hx : opnd env x = some av) (hsrc : Src (slh σ e cs n id ver) sz av acs m) (hone : acs.all AV.one = true)
    (hb : (n + m) * by_ ≤ 140737488355328) (hm : n + m ≤ maxLen) (h0 : 0 < m) (hid : 0 < n → σ id = none)
    (h : ∀ id' ver', σ id' = none → K (slv sz (cs ++ acs) (n + m) id' ver') (slh σ e (cs ++ acs) (n + m) id' ver')) : AVal P o env (slh σ e cs n id ver) K := by
  cases n with
  | zero =>
    obtain rfl : cs = [] := List.eq_nil_of_length_eq_zero (by simpa using hn)
    refine a_append_nil ho ht hs hx hsrc hone (by simpa using hb) (by simpa using hm) (fun h1 => by omega) (fun h0 id' hid' => ?_)
    obtain ⟨m, rfl⟩ : ∃ k, m = k + 1 := ⟨m - 1, by omega⟩
    have := h id' 0 hid'
    simp only [Nat.zero_add, List.nil_append] at this
    exact this
  | succ n => exact a_append_sl ho ht hs hn hx hsrc hone hb hm (hid (by omega)) h

theorem ADef.mono {f : FuncId} {caps : List AV} {σ : AHeap} {u u' : FrameMode} {K K' : AHeap → Prop} (h : ADef P f caps σ u u' K) (hk : ∀ σ, K σ → K' σ) : ADef P f caps σ u u' K' :=
  fun G w vs hst hv => (h G w vs hst hv).mono fun e u1 w' ⟨h1, h2, G', σ', h3, h4, h5⟩ => ⟨h1, h2, G', σ', h3, h4, hk _ h5⟩
theorem rec_none {v : Value} (hv : v = .nilIface) (c : Frame) (cs : List Frame) (h : c.mode = .returning) : (recoverD (c :: cs) = some (v, { c with mode := .returning } :: cs)) ∨ (recoverD (c :: cs) = none ∧ v = .nilIface ∧ FrameMode.returning = FrameMode.returning) :=
  .inr ⟨by simp [recoverD, h], hv, rfl⟩
theorem rec_some {v : Value} (c : Frame) (cs : List Frame) (h : c.mode = .panicking [{ v := v, recovered := false }]) :
    (recoverD (c :: cs) = some (v, { c with mode := .panicking [{ v := v, recovered := true }] } :: cs)) ∨ (recoverD (c :: cs) = none ∧ v = .nilIface ∧ FrameMode.panicking [{ v := v, recovered := true }] = .panicking [{ v := v, recovered := false }]) :=
  .inl (by simp [recoverD, h])

/-- all orders of a statement that leaves its order open -/
def allGo (m : Region.Mode) (ops : Array Oper) : Nat → Array Bool → List Nat → List (List Nat)
  | 0, _, acc => [acc.reverse]
  | fuel + 1, listed, acc =>
    match (List.range ops.size).filter fun i => !listed.getD i true && ((ops[i]?).map (·.after.all fun e => !Region.binds m e || listed.getD e.on false)).getD false with
    | [] => [acc.reverse]
    | rs => rs.flatMap fun i => allGo m ops fuel (listed.setIfInBounds i true) (i :: acc)
def allLin (m : Region.Mode) (ops : Array Oper) : List (List Nat) := allGo m ops ops.size (Array.replicate ops.size false) []
theorem go_mem (m : Region.Mode) (ops : Array Oper) : ∀ (fuel t : Nat) (listed : Array Bool) (acc : List Nat), Region.linearise.go m ops fuel t listed acc ∈ allGo m ops fuel listed acc
  | 0, t, listed, acc => by simp [Region.linearise.go, allGo]
  | fuel + 1, t, listed, acc => by
    simp only [Region.linearise.go, allGo]
    generalize hrs : ((List.range ops.size).filter fun i => !listed.getD i true && ((ops[i]?).map (·.after.all fun e => !Region.binds m e || listed.getD e.on false)).getD false) = rs
    cases rs with
    | nil => simp
    | cons a r =>
      have hlt : t % (a :: r).length < (a :: r).length := Nat.mod_lt _ (by simp)
      rw [List.getElem?_eq_getElem hlt]
      simp only [List.mem_flatMap]
      exact ⟨_, List.getElem_mem hlt, go_mem m ops fuel _ _ _⟩
theorem linearise_mem (m : Region.Mode) (ops : Array Oper) (t : Nat) : Region.linearise m ops t ∈ allLin m ops := go_mem m ops _ _ _ _

theorem wpOps_fm {ops : Array Oper} {Q : Exit → Act → World → Prop} : ∀ (l : List Nat), wpOps P ops Q l = wpList P ops Q (l.filterMap fun i => ops[i]?)
  | [] => rfl
  | i :: rest => by
    funext a w
    rw [wpOps, List.filterMap_cons]
    cases e : ops[i]? with
    | none => simp only; rw [wpOps_fm rest]
    | some o => simp only [wpList]; rw [wpOps_fm rest]

def ordersOk (ops : Array Oper) (L : List (List Nat)) : Bool :=
  (allLin .any ops).all (fun l => L.contains l) && (!Region.departs ops || ((allLin .text ops).all (fun l => L.contains l) && (allLin .gc ops).all fun l => L.contains l))
/-- a statement that leaves its order open: each order is walked -/
theorem awp_draw_all {id : Nat} {ops : List Oper} {Q : Exit → Env → AHeap → Prop} {env : Env} {σ : AHeap} (L : List (List Nat)) (hL : ordersOk ops.toArray L = true)
    (h : ∀ l ∈ L, AOps P N ops.toArray Q (l.filterMap fun i => ops[i]?) env σ) : AWp P N (.region id ops.toArray true) Q env σ := by
  intro G w act hst he
  refine wp_region_draw fun t => ?_
  have key : ∀ l, l ∈ L → wpOps P ops.toArray (Lift G N act.defers Q) l act w.drew := by
    intro l hl
    rw [wpOps_fm]
    have := h l hl G w.drew act hst.drew he
    simpa using this
  simp only [ordersOk, Bool.and_eq_true, Bool.or_eq_true, List.all_eq_true, List.contains_iff_mem, Bool.not_eq_true'] at hL
  refine key _ ?_
  unfold Region.schedule
  split
  · exact hL.1 _ (linearise_mem _ _ _)
  · rename_i hm
    simp only [Bool.or_eq_true, Bool.not_eq_true', not_or, Bool.not_eq_false] at hm
    rcases hL.2 with h2 | h2
    · rw [h2] at hm; exact absurd hm.2 (by simp)
    · split
      · exact h2.1 _ (linearise_mem _ _ _)
      · exact h2.2 _ (linearise_mem _ _ _)

theorem upd_in {σ : AHeap} {a b : Nat} {A B A' : AObj} (h : a ≠ b) : upd (upd (upd σ a A) b B) a A' = upd (upd σ a A') b B := by
  rw [upd_comm (upd σ a A) B A' (fun e => h e.symm), upd_upd]
/-- two variables that hold results are frozen -/
theorem gst_pins {Q : Env → AHeap → Prop} {env : Env} {σ : AHeap} {ta tb a b : Nat} {ty1 ty2 : TypeId} {ca cb : List AV} (h1 : look env ta = some (.ref a 0 0)) (h2 : look env tb = some (.ref b 0 0)) (hne : ta ≠ tb) (hab : a ≠ b) (ha : σ a = none) (hb : σ b = none)
    (h : Gst N Q ((ta, .pin ca 0) :: (tb, .pin cb 0) :: env) σ) : Gst N Q env (upd (upd σ a (.cells 0 ty1 ca)) b (.cells 0 ty2 cb)) := by
  refine gst_freeze (upd_same _ _ _) [(tb, .pin cb 0)] ?_ ?_
  · intro p hp
    simp only [List.mem_singleton] at hp
    subst hp
    exact ⟨_, h2, .ref⟩
  · rw [del_upd _ _ (by rw [upd_ne _ _ (fun e => hab e.symm)]; exact hb)]
    refine gst_freeze (upd_same _ _ _) [(ta, .pin ca 0)] ?_ ?_
    · intro p hp
      simp only [List.mem_singleton] at hp
      subst hp
      refine ⟨_, ?_, .ref⟩
      show look ((tb, _) :: env) ta = _
      rw [look_cons, if_neg (fun e => hne e.symm)]; exact h1
    · rw [del_upd _ _ ha]; exact h

theorem aheavy_skip {o : Oper} {env : Env} {σ : AHeap} {X : AV → AHeap → Prop} (h : ASkip P o env σ fun σ' => X (.v undef) σ') : AHeavy P o env σ X := by
  intro G w act hst he K Q hk
  obtain ⟨w', G', σ', hr, hG, hst', hX⟩ := h G w act.eval hst he
  unfold Oper.wp
  rw [hr]
  exact hk undef w' G' _ σ' hG hst' (.v _) hX

/-- a list's end: frozen; where it lies is of account only if it has a cell -/
theorem gst_slp {Q : Env → AHeap → Prop} {env : Env} {σ : AHeap} {ty : TypeId} {cs : List AV} {sz n id ver : Nat} (k : Nat) (hk : look env k = some (slv sz cs n id ver)) (hn : cs.length = n * sz) (hid : 0 < n → σ id = none)
    (h : Gst N Q ((k, .lst cs n false) :: env) σ) : Gst N Q env (slh σ ty cs n id ver) := by
  cases n with
  | zero =>
    obtain rfl : cs = [] := List.eq_nil_of_length_eq_zero (by simpa using hn)
    refine gst_weak [(k, .lst [] 0 false)] ?_ h
    intro p hp
    simp only [List.mem_singleton] at hp
    subst hp
    exact ⟨nilS, hk, fun G x => weak_nil⟩
  | succ n => exact gst_sl k hk hn (hid (by omega)) h

/-- orders that gc's edges or the text's make are among the open ones -/
def DrawOk (ops : Array Oper) : Prop := ∀ (b : Bool) (t : Nat), ∃ t', Region.schedule b ops t = Region.linearise .any ops t'
theorem drawOk_mix {ops : Array Oper} (h : Region.departs ops = false) : DrawOk ops := fun b t => ⟨t, by simp [Region.schedule, h]⟩
def topChk (m : Region.Mode) (ops : Array Oper) : List Nat → List Nat → Bool
  | _, [] => true
  | seen, i :: r => (match ops[i]? with | some o => o.after.all (fun e => !Region.binds m e || (seen.contains e.on && decide (e.on < ops.size))) | none => true) && topChk m ops (i :: seen) r
def topOk (m : Region.Mode) (ops : Array Oper) (ord : List Nat) : Bool := topChk m ops [] ord && (List.range ops.size).all fun i => ord.contains i
def readyL (m : Region.Mode) (ops : Array Oper) (listed : Array Bool) : List Nat :=
  (List.range ops.size).filter fun i => !listed.getD i true && ((ops[i]?).map (·.after.all fun e => !Region.binds m e || listed.getD e.on false)).getD false
theorem readyL_of {m : Region.Mode} {ops : Array Oper} {listed : Array Bool} (hsz : listed.size = ops.size) : ∀ (ord seen : List Nat), topChk m ops seen ord = true → (∀ j ∈ seen, j < ops.size → listed.getD j false = true) →
    (∃ i ∈ ord, i < ops.size ∧ listed.getD i true = false) → readyL m ops listed ≠ []
  | [], _, _, _, h => by obtain ⟨i, hi, _⟩ := h; simp at hi
  | i :: r, seen, hc, hs, h => by
    simp only [topChk, Bool.and_eq_true] at hc
    by_cases hi : i < ops.size ∧ listed.getD i true = false
    · intro e
      have : i ∈ readyL m ops listed := by
        unfold readyL
        simp only [List.mem_filter, List.mem_range, Bool.and_eq_true, Bool.not_eq_true']
        refine ⟨hi.1, hi.2, ?_⟩
        have ho : ops[i]? = some ops[i] := Array.getElem?_eq_getElem hi.1
        rw [ho] at hc ⊢
        simp only [Option.map_some, Option.getD_some]
        have h1 := hc.1
        rw [Array.all_eq_true] at h1 ⊢
        intro k hk
        have := h1 k hk
        simp only [Bool.or_eq_true, Bool.not_eq_true', Bool.and_eq_true, decide_eq_true_eq, List.contains_iff_mem] at this ⊢
        rcases this with h2 | ⟨h2, h3⟩
        · exact .inl h2
        · exact .inr (hs _ h2 h3)
      rw [e] at this; simp at this
    · refine readyL_of hsz r (i :: seen) hc.2 ?_ ?_
      · intro j hj hjs
        rcases List.mem_cons.1 hj with rfl | hj
        · have h3 : ¬ listed.getD j true = false := fun e => hi ⟨hjs, e⟩
          have h4 : listed.getD j true = listed.getD j false := by simp [Array.getD, hsz, hjs]
          rw [← h4]; simpa using h3
        · exact hs j hj hjs
      · obtain ⟨k, hk, hk1, hk2⟩ := h
        rcases List.mem_cons.1 hk with rfl | hk
        · exact absurd ⟨hk1, hk2⟩ hi
        · exact ⟨k, hk, hk1, hk2⟩
theorem go_any {m : Region.Mode} {ops : Array Oper} {ord : List Nat} (ho : topOk m ops ord = true) : ∀ (fuel t : Nat) (listed : Array Bool) (acc : List Nat), listed.size = ops.size →
    ∃ t', Region.linearise.go m ops fuel t listed acc = Region.linearise.go .any ops fuel t' listed acc
  | 0, t, listed, acc, _ => ⟨0, rfl⟩
  | fuel + 1, t, listed, acc, hsz => by
    simp only [topOk, Bool.and_eq_true, List.all_eq_true, List.mem_range, List.contains_iff_mem] at ho
    have hsub : ∀ i ∈ readyL m ops listed, i ∈ readyL .any ops listed := by
      intro i hi
      unfold readyL at hi ⊢
      simp only [List.mem_filter, List.mem_range, Bool.and_eq_true, Bool.not_eq_true'] at hi ⊢
      refine ⟨hi.1, hi.2.1, ?_⟩
      have hoi : ops[i]? = some ops[i] := Array.getElem?_eq_getElem hi.1
      have h1 := hi.2.2
      rw [hoi] at h1 ⊢
      simp only [Option.map_some, Option.getD_some] at h1 ⊢
      rw [Array.all_eq_true] at h1 ⊢
      intro k hk
      have := h1 k hk
      simp only [Bool.or_eq_true, Bool.not_eq_true'] at this ⊢
      rcases this with h2 | h2
      · left; unfold Region.binds at h2 ⊢; split at h2 <;> simp_all
      · exact .inr h2
    have e1 : ∀ (md : Region.Mode) (t : Nat), Region.linearise.go md ops (fuel + 1) t listed acc = (match (readyL md ops listed)[t % (readyL md ops listed).length]? with
      | some i => Region.linearise.go md ops fuel (t / (readyL md ops listed).length) (listed.setIfInBounds i true) (i :: acc) | none => acc.reverse) := fun md t => rfl
    rw [e1]
    cases hr : (readyL m ops listed)[t % (readyL m ops listed).length]? with
    | none =>
      have hnil : readyL m ops listed = [] := by
        rcases e : readyL m ops listed with _ | ⟨a, r⟩
        · rfl
        · rw [e] at hr
          have : t % (a :: r).length < (a :: r).length := Nat.mod_lt _ (by simp)
          rw [List.getElem?_eq_getElem this] at hr
          exact absurd hr (by simp)
      have hnil2 : readyL .any ops listed = [] := by
        rcases e : readyL .any ops listed with _ | ⟨a, r⟩
        · rfl
        · exfalso
          have ha : a ∈ readyL .any ops listed := by rw [e]; simp
          unfold readyL at ha
          simp only [List.mem_filter, List.mem_range, Bool.and_eq_true, Bool.not_eq_true'] at ha
          exact readyL_of hsz ord [] ho.1 (by simp) ⟨a, ho.2 a ha.1, ha.1, ha.2.1⟩ hnil
      exact ⟨0, by rw [e1, hnil2]; rfl⟩
    | some i =>
      have him : i ∈ readyL m ops listed := List.mem_of_getElem? hr
      obtain ⟨q, hq, hqe⟩ := List.mem_iff_getElem.1 (hsub i him)
      obtain ⟨t2, ht2⟩ := go_any (by simp only [topOk, Bool.and_eq_true, List.all_eq_true, List.mem_range, List.contains_iff_mem]; exact ho) fuel (t / (readyL m ops listed).length) (listed.setIfInBounds i true) (i :: acc) (by simpa using hsz)
      refine ⟨q + (readyL .any ops listed).length * t2, ?_⟩
      rw [e1]
      have hpos : 0 < (readyL .any ops listed).length := by omega
      rw [Nat.add_mul_mod_self_left, Nat.mod_eq_of_lt hq, List.getElem?_eq_getElem hq, hqe, Nat.add_mul_div_left _ _ hpos, Nat.div_eq_of_lt hq, Nat.zero_add]
      exact ht2
theorem drawOk_top {ops : Array Oper} {o1 o2 : List Nat} (h1 : topOk .text ops o1 = true) (h2 : topOk .gc ops o2 = true) : DrawOk ops := by
  intro b t
  unfold Region.schedule
  split
  · exact ⟨t, rfl⟩
  · split
    · exact go_any h1 _ _ _ _ (by simp)
    · exact go_any h2 _ _ _ _ (by simp)

theorem awp_drawD {id : Nat} {ops : List Oper} {Q : Exit → Env → AHeap → Prop} {env : Env} {σ : AHeap} (B : List Nat) (m : Nat) (hm : Nat.ble m ops.length = true) (hs : DrawOk ops.toArray)
    (h1 : allIdx (opOk ops) ops 0 = true) (h2 : cloOk ops B m = true) (hd : (ops.all fun o => dstOk N o.dst) = true)
    (h : DP P N ops σ (fun env' => AOps P N ops.toArray Q (ops.drop m) env' σ) (ops.take m) env) : AWp P N (.region id ops.toArray true) Q env σ := by
  intro G w act hst he
  have hm' := Nat.le_of_ble_eq_true hm
  obtain ⟨vs, k1, k2, k3⟩ := h.vals
  have hlen : vs.length = m := by rw [k1]; simp; omega
  refine wp_region_draw fun t => ?_
  obtain ⟨t2, hsch⟩ := hs (P.follows .mixedOrders) t
  rw [hsch]
  refine wpAny_sound ops.toArray.size t2 _ act _ ?_
  have hlf : ∀ i, i < ops.length → (Array.replicate ops.length false).getD i true = false := fun i hi => by simp [Array.getD_eq_getD_getElem?, hi]
  refine any_pre hm' h1 h2 hlen k2 k3 hd G act.defers _ _ act _ G ?_ (.refl G) ⟨hst.drew, he.size, rfl, ?_, by simp, ?_, fun j _ hj => by simpa using hlf j hj⟩
  · refine Nat.le_trans (List.length_filter_le _ _) ?_
    simp
  · intro t' a ha
    refine he.tmps t' a ?_
    unfold expect at ha
    split at ha
    · rename_i j hj
      have hjl := (List.findIdx?_eq_some_iff_getElem.1 hj).1
      simp only [List.size_toArray] at ha
      rw [hlf j hjl] at ha
      exact ha
    · exact ha
  · intro j o ho hj
    have hjl := (List.getElem?_eq_some_iff.1 ho).1
    simp only [List.size_toArray] at hj
    rw [hlf j hjl] at hj
    exact absurd hj (by simp)

theorem awp_drawHD {id : Nat} {ops : List Oper} {Q : Exit → Env → AHeap → Prop} {env : Env} {σ : AHeap} (B : List Nat) (m b : Nat) {oh : Oper} (hm : Nat.blt m ops.length = true) (hs : DrawOk ops.toArray)
    (h1 : allIdx (opOk ops) ops 0 = true) (h2 : cloOk ops B (m + 1) = true) (hd : (ops.all fun o => dstOk N o.dst) = true) (hb : B.getD m 0 = b) (hoh : ops[m]? = some oh) (hgh : oh.guard = none)
    (h : DPh P N ops σ b (fun env' => AHeavy P oh (restr (lookT oh) env') σ fun a σ' => AOps P N ops.toArray Q (ops.drop (m + 1)) (puts env' oh.dst a) σ') 0 (ops.take m) env) : AWp P N (.region id ops.toArray true) Q env σ := by
  intro G w act hst he
  have hm' : m < ops.length := by simpa [Nat.blt_eq] using hm
  obtain ⟨vs, k1, k2, k3⟩ := h.vals
  have hlen : vs.length = m := by rw [k1]; simp; omega
  refine wp_region_draw fun t => ?_
  obtain ⟨t2, hsch⟩ := hs (P.follows .mixedOrders) t
  rw [hsch]
  refine wpAny_sound ops.toArray.size t2 _ act _ ?_
  have hlf : ∀ i, i < ops.length → (Array.replicate ops.length false).getD i true = false := fun i hi => by simp [Array.getD_eq_getD_getElem?, hi]
  refine any_preH hm' h1 h2 hlen (fun j o ho => by obtain ⟨av, e1, e2, _⟩ := k2 j o ho; exact ⟨av, e1, e2⟩) hoh hgh (fun j o ho hbit av hav σ' => by
    obtain ⟨av', e1, e2, e3⟩ := k2 j o ho
    rw [e1] at hav
    simp only [Option.some.injEq] at hav
    subst hav
    exact e3 (by rw [← hb, Nat.zero_add]; exact hbit) σ') k3 hd G act.defers _ _ act _ G ?_ (.refl G) ⟨hst.drew, he.size, rfl, ?_, by simp, ?_, fun j _ hj => by simpa using hlf j hj⟩
  · refine Nat.le_trans (List.length_filter_le _ _) ?_
    simp
  · intro t' a ha
    refine he.tmps t' a ?_
    unfold expect at ha
    split at ha
    · rename_i j hj
      have hjl := (List.findIdx?_eq_some_iff_getElem.1 hj).1
      simp only [List.size_toArray] at ha
      rw [hlf j hjl] at ha
      exact ha
    · exact ha
  · intro j o ho hj
    have hjl := (List.getElem?_eq_some_iff.1 ho).1
    simp only [List.size_toArray] at hj
    rw [hlf j hjl] at hj
    exact absurd hj (by simp)

theorem gst_pin1 {Q : Env → AHeap → Prop} {env : Env} {σ : AHeap} {ta a ver : Nat} {ty : TypeId} {ca : List AV} (h1 : look env ta = some (.ref a ver 0)) (ha : σ a = none) (h : Gst N Q ((ta, .pin ca 0) :: env) σ) :
    Gst N Q env (upd σ a (.cells ver ty ca)) := by
  refine gst_freeze (upd_same _ _ _) [(ta, .pin ca 0)] ?_ ?_
  · intro p hp
    simp only [List.mem_singleton] at hp
    subst hp
    exact ⟨_, h1, .ref⟩
  · rw [del_upd _ _ ha]; exact h

theorem slh_fresh {σ : AHeap} {p i v n j : Nat} {o : AObj} {ty : TypeId} {cs : List AV} (h : slh (upd σ p o) ty cs n i v j = none) : p ≠ j ∧ σ j = none ∧ (n = 0 ∨ i ≠ j) := by
  cases n with
  | zero => obtain ⟨h1, h2⟩ := ne_of_upd h; exact ⟨h1, h2, .inl rfl⟩
  | succ n => obtain ⟨h1, h2⟩ := ne_of_upd h; obtain ⟨h3, h4⟩ := ne_of_upd h2; exact ⟨h3, h4, .inr h1⟩

end Go.AL
/- AL: short names for what the printed walks say over and over (each is a tactic as a default of an argument). -/
namespace Go.AL
open Go Go.RowKit
theorem HP {σ : AHeap} {id : Nat} {o : AObj} (h : σ id = some o := by first | exact upd_same _ _ _ | assumption | exact prs_at (by assumption) | exact prg_at (by assumption) | (rw [slh_at _ _ _ _ (by assumption)]; first | exact upd_same _ _ _ | assumption) | (rw [upd_ne _ _ (by assumption)]; first | exact upd_same _ _ _ | assumption) | (simp only [upd, *, if_true, if_false, reduceCtorEq, not_false_eq_true, ne_eq]; rfl)) : σ id = some o := h
theorem NT {i : Int} {n : Nat} (h : i.toNat = n := by first | with_reducible exact Int.toNat_natCast _ | with_reducible exact tn0 | with_reducible exact tn1 | with_reducible exact tn2 | with_reducible exact tn3 | with_reducible exact tn4 | with_reducible exact tnA1 _ | with_reducible exact tnA2 _ | with_reducible exact tnA3 _ | with_reducible exact tnM1 _ | with_reducible exact tnA _ _ | rfl) : i.toNat = n := h
theorem EL {a b : Env} (h : Env.le a b := by repeat (first | exact Env.le_nil _ | refine Env.le_cons rfl ?_ | refine Env.le_cons (le_int rfl (by omega)) ?_)) : Env.le a b := h
theorem zz1 {p : Prop} [Decidable p] : (decide p = true) = p := decide_eq_true_eq
theorem zz2 {p : Prop} [Decidable p] : (decide p = false) ↔ ¬p := decide_eq_false_iff_not
theorem zz4 {p : Prop} [Decidable p] : ¬¬p ↔ p := Decidable.not_not
theorem zz5 (b : Bool) : ((!b) = true) = (b = false) := Bool.not_eq_true' b
theorem zz6 (b : Bool) : ((!b) = false) = (b = true) := Bool.not_eq_false' b
theorem zz9 {a b : Int} : ¬a < b ↔ b ≤ a := Int.not_lt
theorem zz0 {a b : Int} : ¬a ≤ b ↔ b < a := Int.not_le
end Go.AL
/- AL, part Y: from a contract to a law's statement: what the arguments read as, the first ghost, the law's own 'post'. -/
namespace Go.AL
open Go Go.RowKit Go.ChangeShapes Go.WideShapes

def G0 (W : World) (hg : GoodW W.heap.size W) : Ghost := ⟨W, W.heap.size, hg, fun b => match W.heap[b]? with | some (.cells cs _ _) => some cs | _ => none, fun _ _ => none⟩

theorem G0_fz {W : World} {hg : GoodW W.heap.size W} {b : Nat} {cs : Array Value} {e : TypeId} {fr : Nat × Nat} (h : W.heap[b]? = some (.cells cs e fr)) : (G0 W hg).fz b = some cs := by simp [G0, h]

theorem G0_st (W : World) (hg : GoodW W.heap.size W) : St (G0 W hg) (fun _ => none) W where
  old := Below.refl _ _
  hB := Nat.le_refl _
  fz b cs e := by
    simp only [G0] at e
    split at e
    · rename_i cs' t fr hh
      simp only [Option.some.injEq] at e
      subst e
      exact ⟨t, fr, hh⟩
    · exact absurd e (by simp)
  live id o e := by simp at e
  inj _ _ _ _ _ _ _ e := by simp at e
  fin := ⟨0, fun _ _ => rfl, fun _ _ _ => rfl⟩

section
variable {H : Type} (enc : TypeId × Value → H) (P : Program) (W : World) (hg : GoodW W.heap.size W) (bulk : DataW H → Nat)

/-- a reading that stands in every world that has grown, whatever is asked of spare places of older blocks -/
def Rd (fuel : Nat) (t : TypeId) (cs : List Value) (x : DataW H × List MemPlace) : Prop :=
  ∀ (W' : World) (sp : Nat → Bool), Below W.heap.size W W' → (∀ b, b < W.heap.size → sp b = true) → DataW.trod enc P W' 0 sp true fuel t cs = some x

/-- cells of a type read as an 'α' -/
def Dec (t : TypeId) {α : Type} (en : α → List AV) (sz : α → Nat) : Prop :=
  ∀ (fuel : Nat) (cs : List Value) (d : DataW H) (ps : List MemPlace), DataW.trod enc P W 0 (fun _ => true) true fuel t cs = some (d, ps) →
    ∃ x : α, cs.length = (en x).length ∧ (∀ i a, (en x)[i]? = some a → VRel (G0 W hg) (cs.getD i undef) a) ∧ sz x ≤ bulk d ∧ Rd enc P W fuel t cs (d, ps)

structure BulkOk : Prop where
  str : ∀ b : List UInt8, bulk (.lit (.string b)) = b.length + 1
  lit : ∀ l, 1 ≤ bulk (.lit l)
  nil : 1 ≤ bulk .nil
  sl : ∀ a b, (a.map bulk).sum + 1 ≤ bulk (.slice a b)
  ag : ∀ a, (a.map bulk).sum + 1 ≤ bulk (.agg a)

variable {enc P W hg bulk}
theorem Dec.map {t : TypeId} {α β : Type} {en : α → List AV} {sz : α → Nat} (h : Dec enc P W hg bulk t en sz) (f : α → β) {en' : β → List AV} {sz' : β → Nat} (he : ∀ x, en x = en' (f x)) (hs : ∀ x, sz' (f x) ≤ sz x) : Dec enc P W hg bulk t en' sz' := by
  intro fuel cs d ps hd
  obtain ⟨x, h1, h2, h3, h4⟩ := h fuel cs d ps hd
  exact ⟨f x, by rw [h1, he], by rw [← he]; exact h2, Nat.le_trans (hs x) h3, h4⟩

theorem dec_int (hb : BulkOk bulk) {t : TypeId} {k : IntKind} (ht : P.underlying t = some (.int k)) : Dec enc P W hg bulk t (fun n : Int => [.v (.int k n)]) (fun _ => 1) := by
  intro fuel cs d ps h
  obtain ⟨n, rfl, hx, hw⟩ := DataW.trod_int ht h
  simp only [Prod.mk.injEq] at hx
  obtain ⟨rfl, rfl⟩ := hx
  refine ⟨n, rfl, fun i a hi => ?_, hb.lit _, fun W' sp _ _ => ?_⟩
  · cases i with
    | zero => simp at hi; subst hi; exact .v _
    | succ i => simp at hi
  · cases fuel with
    | zero => simp [DataW.trod] at h
    | succ m => exact trod_int_mk m ht hw

theorem dec_str (hb : BulkOk bulk) {t : TypeId} (ht : P.underlying t = some .string) : Dec enc P W hg bulk t (fun s : List UInt8 => [str s]) (fun s => s.length + 1) := by
  intro fuel cs d ps h
  obtain ⟨s, rfl, hx, hw⟩ := DataW.trod_string ht h
  simp only [Prod.mk.injEq] at hx
  obtain ⟨rfl, rfl⟩ := hx
  refine ⟨s.data.toList, rfl, fun i a hi => ?_, by rw [hb.str]; exact Nat.le_refl _, fun W' sp _ _ => ?_⟩
  · cases i with
    | zero => simp at hi; subst hi; exact .v _
    | succ i => simp at hi
  · cases fuel with
    | zero => simp [DataW.trod] at h
    | succ m => unfold DataW.trod; simp [ht, hw]

theorem ex_list {β α : Type} : ∀ (ys : List β) (R : Nat → β → α → Prop), (∀ i y, ys[i]? = some y → ∃ x, R i y x) → ∃ l : List α, l.length = ys.length ∧ ∀ i y x, ys[i]? = some y → l[i]? = some x → R i y x
  | [], R, _ => ⟨[], rfl, fun i y x h => by simp at h⟩
  | y :: ys, R, h => by
    obtain ⟨x, hx⟩ := h 0 y rfl
    obtain ⟨l, h1, h2⟩ := ex_list ys (fun i => R (i + 1)) fun i y hy => h (i + 1) y (by simpa using hy)
    refine ⟨x :: l, by simp [h1], fun i y' x' hy hx' => ?_⟩
    cases i with
    | zero => simp at hy hx'; subst hy; subst hx'; exact hx
    | succ i => exact h2 i y' x' (by simpa using hy) (by simpa using hx')

theorem sum_le {β α : Type} (f : α → Nat) (g : β → Nat) : ∀ (l : List α) (ys : List β), l.length = ys.length → (∀ (i : Nat) (y : β) (x : α), ys[i]? = some y → l[i]? = some x → f x ≤ g y) → (l.map f).sum ≤ (ys.map g).sum
  | [], [], _, _ => Nat.le_refl _
  | x :: l, y :: ys, hl, h => by
    have h1 := h 0 y x rfl rfl
    have h2 := sum_le f g l ys (by simpa using hl) fun i y x hy hx => h (i + 1) y x (by simpa using hy) (by simpa using hx)
    simp only [List.map_cons, List.sum_cons]; omega
  | [], _ :: _, hl, _ => by simp at hl
  | _ :: _, [], hl, _ => by simp at hl

theorem cells_get {base : Nat} {a : Addr} {n : Nat} {cs : List Value} (h : W.cells? base a n = some cs) : cs.length = n ∧ ∀ i, i < n → W.cell? (a.add i) = cs[i]? := by
  unfold World.cells? at h
  split at h
  · exact ⟨by simpa using mapM_some_length h, fun i hi => mapM_some_get h i i (by simp [hi])⟩
  · exact absurd h (by simp)

theorem cell_inv {a : Addr} {v : Value} (h : W.cell? a = some v) : a.spot = none ∧ ∃ cs e fr, W.heap[a.block]? = some (.cells cs e fr) ∧ cs[a.off]? = some v := by
  unfold World.cell? at h
  split at h
  · rename_i cs e fr hh
    split at h
    · exact absurd h (by simp)
    · rename_i hs
      exact ⟨by simpa using hs, cs, e, fr, hh, h⟩
  · exact absurd h (by simp)

theorem add_spot {a : Addr} (h : a.spot = none) (i : Nat) : a.add i = ⟨a.block, a.off + i, none⟩ := by
  unfold Addr.add
  split
  · rename_i h0; subst h0; cases a; simp_all
  · rfl

theorem flat_index {α : Type} {en : α → List AV} {k : Nat} (hk : ∀ x, (en x).length = k) (h0 : 0 < k) : ∀ (l : List α) (i : Nat) (a : AV), (l.flatMap en)[i]? = some a → ∃ x, l[i / k]? = some x ∧ (en x)[i % k]? = some a
  | [], i, a, h => by simp at h
  | x :: l, i, a, h => by
    rw [List.flatMap_cons] at h
    by_cases hi : i < k
    · rw [List.getElem?_append_left (by rw [hk]; exact hi)] at h
      exact ⟨x, by rw [Nat.div_eq_of_lt hi]; rfl, by rw [Nat.mod_eq_of_lt hi]; exact h⟩
    · rw [List.getElem?_append_right (by rw [hk]; omega), hk] at h
      obtain ⟨y, h1, h2⟩ := flat_index hk h0 l (i - k) a h
      have e1 : i / k = (i - k) / k + 1 := by rw [← Nat.add_div_right _ h0, Nat.sub_add_cancel (by omega)]
      have e2 : i % k = (i - k) % k := by rw [← Nat.add_mod_right (i - k) k, Nat.sub_add_cancel (by omega)]
      exact ⟨y, by rw [e1]; simpa using h1, by rw [e2]; exact h2⟩

theorem dec_sl (hb : BulkOk bulk) {t e : TypeId} {α : Type} {en : α → List AV} {sz : α → Nat} {k : Nat} (ht : P.underlying t = some (.slice e)) (hk : P.cellsOf e = k) (h0 : 0 < k) (hl : ∀ x, (en x).length = k) (hd : Dec enc P W hg bulk e en sz) :
    Dec enc P W hg bulk t (fun l : List α => [.lst (l.flatMap en) l.length false]) (fun l => (l.map sz).sum + 1) := by
  intro fuel cs d ps h
  rcases DataW.trod_slice ht h with ⟨rfl, hx⟩ | ⟨a, len, cap, elems, rest, n, rfl, rfl, hx, hbase, hlc, hcm, hel, hget, hsp, _⟩
  · simp only [Prod.mk.injEq] at hx
    obtain ⟨rfl, rfl⟩ := hx
    refine ⟨[], rfl, fun i a hi => ?_, hb.nil, fun W' sp _ _ => ?_⟩
    · cases i with
      | zero => simp at hi; subst hi; exact .lst0 (by simp) (Nat.zero_le _)
      | succ i => simp at hi
    · cases fuel with
      | zero => simp [DataW.trod] at h
      | succ m => unfold DataW.trod; simp [ht]
  · simp only [Prod.mk.injEq] at hx
    obtain ⟨rfl, rfl⟩ := hx
    rw [hk] at hget hsp ⊢
    obtain ⟨hrl, hrest⟩ := hsp rfl
    -- one element
    have one : ∀ (i : Nat) (y : DataW H × List MemPlace), (W.cells? 0 (a.add (i * k)) k).bind (DataW.trod enc P W 0 (fun _ => true) true n e) = some y →
        (i = 0 → a.spot = none) ∧ a.block < W.heap.size ∧ (∀ (W' : World) (sp : Nat → Bool), Below W.heap.size W W' → (∀ b, b < W.heap.size → sp b = true) → (W'.cells? 0 (a.add (i * k)) k).bind (DataW.trod enc P W' 0 sp true n e) = some y) ∧
        ∃ ci : List Value, W.cells? 0 (a.add (i * k)) k = some ci ∧ ∃ x : α, ci.length = (en x).length ∧ (∀ j b, (en x)[j]? = some b → VRel (G0 W hg) (ci.getD j undef) b) ∧ sz x ≤ bulk y.1 := by
      intro i y hy
      simp only [Option.bind_eq_some_iff] at hy
      obtain ⟨ci, hci, hy⟩ := hy
      obtain ⟨x, x1, x2, x3, x4⟩ := hd n ci y.1 y.2 hy
      have hblk := World.cells?_block hci h0
      have hbk : (a.add (i * k)).block = a.block := by unfold Addr.add; split <;> rfl
      obtain ⟨c1, c2⟩ := cells_get hci
      have c0 := c2 0 h0
      have hc0 : ci[0]? = some ci[0] := List.getElem?_eq_getElem (by omega)
      rw [hc0] at c0
      have hs0 : i = 0 → a.spot = none := by
        intro hi0
        have h1 := (cell_inv c0).1
        have h2 : ((a.add (i * k)).add 0).spot = (a.add (i * k)).spot := by simp [Addr.add]
        rw [h2, hi0] at h1
        unfold Addr.add at h1
        rw [if_pos (by simp)] at h1
        exact h1
      refine ⟨hs0, by rw [← hbk]; exact hblk, fun W' sp hW' hsp => ?_, ci, hci, x, x1, x2, x3⟩
      simp only [Option.bind_eq_some_iff]
      refine ⟨ci, World.cells?_carry hci (fun p hp => hW'.same ?_), x4 W' sp hW' hsp⟩
      obtain ⟨j, _, rfl⟩ := MemPlace.mem_row.1 hp
      exact hblk
    obtain ⟨l, l1, l2⟩ := ex_list elems (fun i y (x : α) => sz x ≤ bulk y.1 ∧ ∃ ci : List Value, W.cells? 0 (a.add (i * k)) k = some ci ∧ ci.length = (en x).length ∧ ∀ j b, (en x)[j]? = some b → VRel (G0 W hg) (ci.getD j undef) b) (fun i y hy => by
      have hi : i < len := by have := (List.getElem?_eq_some_iff.1 hy).1; omega
      obtain ⟨_, _, _, ci, hci, x, x1, x2, x3⟩ := one i y (by rw [hget i hi, hy])
      exact ⟨x, x3, ci, hci, x1, x2⟩)
    refine ⟨l, rfl, fun i b hi => ?_, ?_, fun W' sp hW' hsp2 => ?_⟩
    · cases i with
      | succ i => simp at hi
      | zero =>
        simp only [List.getElem?_cons_zero, Option.some.injEq] at hi
        subst hi
        show VRel _ (.slice (some a) len cap) _
        have hll : l.length = len := by omega
        rcases Nat.eq_zero_or_pos len with h00 | hpos
        · have : l = [] := List.eq_nil_of_length_eq_zero (by omega)
          subst this
          subst h00
          exact .lst0 (by simp) hcm
        · have he0 : elems[0]? = some (elems[0]'(by omega)) := List.getElem?_eq_getElem (by omega)
          obtain ⟨hs', hblk, _, ci0, hci0, _⟩ := one 0 _ (by rw [hget 0 hpos, he0])
          have hs := hs' rfl
          obtain ⟨hh1, hh2⟩ := cells_get hci0
          have hc := hh2 0 h0
          rw [List.getElem?_eq_getElem (show 0 < ci0.length by omega), show (0 : Nat) * k = 0 by simp, add_spot hs, add_spot (by rfl)] at hc
          obtain ⟨_, row, ty, fr, hrow, _⟩ := cell_inv hc
          have rd : ∀ (i : Nat) (y : AV), (l.flatMap en)[i]? = some y → VRel (G0 W hg) (row.getD (a.off + i) undef) y ∧ a.off + i < row.size := by
            intro i y hy
            obtain ⟨x, hx1, hx2⟩ := flat_index hl h0 l i y hy
            have hlt := (List.getElem?_eq_some_iff.1 hx1).1
            have hey : elems[i / k]? = some (elems[i / k]'(by omega)) := List.getElem?_eq_getElem (by omega)
            obtain ⟨_, ci, hci, q1, q2⟩ := l2 _ _ x hey hx1
            have hmod : i % k < k := Nat.mod_lt _ h0
            obtain ⟨g1, g2⟩ := cells_get hci
            have g3 := g2 (i % k) hmod
            rw [List.getElem?_eq_getElem (by omega), add_spot hs, add_spot (by rfl)] at g3
            obtain ⟨_, row', _, _, hrow', hcell⟩ := cell_inv g3
            dsimp only at hrow hrow'
            rw [hrow] at hrow'
            simp only [Option.some.injEq, Obj.cells.injEq] at hrow'
            obtain ⟨rfl, _, _⟩ := hrow'
            have hoff : a.off + i / k * k + i % k = a.off + i := by have := Nat.div_add_mod i k; rw [Nat.mul_comm] at this; omega
            dsimp only at hcell
            rw [hoff] at hcell
            have q3 := q2 (i % k) y hx2
            have e1 : ci.getD (i % k) undef = ci[i % k]'(by omega) := by rw [List.getD_eq_getElem?_getD, List.getElem?_eq_getElem (by omega)]; rfl
            rw [e1] at q3
            refine ⟨?_, (Array.getElem?_eq_some_iff.1 hcell).1⟩
            rw [show row.getD (a.off + i) undef = ci[i % k]'(by omega) by rw [Array.getD_eq_getD_getElem?, hcell]; rfl]
            exact q3
          have ha : a = ⟨a.block, a.off, none⟩ := by cases a; simp_all
          rw [ha, ← hll]
          refine .lst (G0_fz hrow) (by omega) hcm (by simp) ?_ fun i y hy => (rd i y hy).1
          have hfl : (l.flatMap en).length = l.length * k := length_flatMap' hl l
          rcases Nat.eq_zero_or_pos (l.flatMap en).length with hz | hp
          · have : 0 < l.length * k := Nat.mul_pos (by omega) h0
            omega
          · have := (rd ((l.flatMap en).length - 1) _ (List.getElem?_eq_getElem (by omega))).2
            omega
    · have := sum_le sz (fun y : DataW H × List MemPlace => bulk y.1) l elems l1 (fun i y x hy hx => (l2 i y x hy hx).1)
      have h2 := hb.sl (elems.map (·.1)) (rest.map (·.1))
      rw [List.map_map] at h2
      exact Nat.le_trans (Nat.succ_le_succ this) h2
    · unfold DataW.trod
      simp only [ht]
      rw [if_pos ⟨hbase, hlc, hcm⟩, hk]
      have m1 : (List.range len).mapM (fun i => (W'.cells? 0 (a.add (i * k)) k).bind (DataW.trod enc P W' 0 sp true n e)) = some elems :=
        mapM_some_of_get _ _ (by simp [hel]) fun i x hx => by
          have hxi : x = i ∧ i < len := by
            have := List.getElem?_eq_some_iff.1 hx
            obtain ⟨h1, h2⟩ := this
            simp at h1 h2
            exact ⟨h2.symm, h1⟩
          obtain ⟨rfl, hi⟩ := hxi
          have hey : elems[x]? = some (elems[x]'(by omega)) := List.getElem?_eq_getElem (by omega)
          rw [hey]
          exact (one x _ (by rw [hget x hi, hey])).2.2.1 W' sp hW' hsp2
      rw [m1]
      simp only [Option.bind_some]
      have m2 : (if sp a.block = true then (List.range (cap - len)).mapM (fun j => (W'.cells? 0 (a.add ((len + j) * k)) k).bind (DataW.trod enc P W' 0 sp true n e)) else some []) = some rest := by
        rcases Nat.eq_zero_or_pos (cap - len) with hz | hp
        · have hr0 : rest = [] := List.eq_nil_of_length_eq_zero (by omega)
          subst hr0
          rw [hz]
          split <;> simp
        · have hr0 : rest[0]? = some (rest[0]'(by omega)) := List.getElem?_eq_getElem (by omega)
          have hblk := (one (len + 0) _ (by rw [hrest 0 hp, hr0])).2.1
          rw [if_pos (hsp2 _ hblk)]
          refine mapM_some_of_get _ _ (by simp [hrl]) fun i x hx => ?_
          have hxi : x = i ∧ i < cap - len := by
            have := List.getElem?_eq_some_iff.1 hx
            obtain ⟨h1, h2⟩ := this
            simp at h1 h2
            exact ⟨h2.symm, h1⟩
          obtain ⟨rfl, hi⟩ := hxi
          have hey : rest[x]? = some (rest[x]'(by omega)) := List.getElem?_eq_getElem (by omega)
          rw [hey]
          exact (one (len + x) _ (by rw [hrest x hi, hey])).2.2.1 W' sp hW' hsp2
      rw [m2]
      rfl

/-- a structure's fields, from a place on -/
def DecF (enc : TypeId × Value → H) (P : Program) (W : World) (hg : GoodW W.heap.size W) (bulk : DataW H → Nat) (fs : List Field) (off : Nat) {α : Type} (en : α → List AV) (sz : α → Nat) : Prop :=
  ∀ (fuel : Nat) (cs : List Value) (xs : List (DataW H × List MemPlace)), xs.length = fs.length →
    (∀ (i : Nat) (f : Field), fs[i]? = some f → DataW.trod enc P W 0 (fun _ => true) true fuel f.type ((cs.drop f.offset).take (P.cellsOf f.type)) = xs[i]?) →
    ∃ x : α, (∀ i a, (en x)[i]? = some a → VRel (G0 W hg) (cs.getD (off + i) undef) a) ∧ sz x ≤ (xs.map (fun y => bulk y.1)).sum ∧
      ∀ (W' : World) (sp : Nat → Bool), Below W.heap.size W W' → (∀ b, b < W.heap.size → sp b = true) →
        ∀ (i : Nat) (f : Field), fs[i]? = some f → DataW.trod enc P W' 0 sp true fuel f.type ((cs.drop f.offset).take (P.cellsOf f.type)) = xs[i]?

theorem decF_nil {off : Nat} : DecF enc P W hg bulk [] off (fun _ : Unit => []) (fun _ => 0) := by
  intro fuel cs xs hl h
  exact ⟨(), fun i a hi => by simp at hi, Nat.zero_le _, fun W' sp _ _ i f hf => by simp at hf⟩

theorem decF_cons {f : Field} {fs : List Field} {off k : Nat} {α β : Type} {en : α → List AV} {sz : α → Nat} {en' : β → List AV} {sz' : β → Nat} (hd : Dec enc P W hg bulk f.type en sz) (ho : f.offset = off) (hk : P.cellsOf f.type = k)
    (hl : ∀ x, (en x).length = k) (hr : DecF enc P W hg bulk fs (off + k) en' sz') : DecF enc P W hg bulk (f :: fs) off (fun p : α × β => en p.1 ++ en' p.2) (fun p => sz p.1 + sz' p.2) := by
  intro fuel cs xs hxs h
  cases xs with
  | nil => simp at hxs
  | cons y ys =>
    have h0 := h 0 f rfl
    rw [List.getElem?_cons_zero, ho, hk] at h0
    obtain ⟨x, x1, x2, x3, x4⟩ := hd fuel _ y.1 y.2 h0
    obtain ⟨z, z1, z2, z3⟩ := hr fuel cs ys (by simpa using hxs) fun i g hg => by
      have := h (i + 1) g (by simpa using hg)
      simpa using this
    rw [hl] at x1
    have hlen : off + k ≤ cs.length ∨ k = 0 := by simp at x1; omega
    refine ⟨(x, z), fun i a hi => ?_, by simp only [List.map_cons, List.sum_cons]; omega, fun W' sp hW' hsp i g hg => ?_⟩
    · by_cases hik : i < k
      · rw [List.getElem?_append_left (by rw [hl]; exact hik)] at hi
        have := x2 i a hi
        rwa [List.getD_eq_getElem?_getD, List.getElem?_take_of_lt hik, List.getElem?_drop, ← List.getD_eq_getElem?_getD] at this
      · rw [List.getElem?_append_right (by rw [hl]; omega), hl] at hi
        have := z1 (i - k) a hi
        rwa [show off + k + (i - k) = off + i by omega] at this
    · cases i with
      | zero =>
        simp only [List.getElem?_cons_zero, Option.some.injEq] at hg
        subst hg
        rw [ho, hk]
        exact x4 W' sp hW' hsp
      | succ i => exact z3 W' sp hW' hsp i g (by simpa using hg)

theorem dec_st (hb : BulkOk bulk) {t : TypeId} {fs : Array Field} {k : Nat} {α : Type} {en : α → List AV} {sz : α → Nat} (ht : P.underlying t = some (.struct fs)) (hk : P.cellsOf t = k) (hl : ∀ x, (en x).length = k)
    (hd : DecF enc P W hg bulk fs.toList 0 en sz) : Dec enc P W hg bulk t en (fun x => sz x + 1) := by
  intro fuel cs d ps h
  obtain ⟨xs, n, rfl, hx, hcs, hxs, hf⟩ := DataW.trod_struct ht h
  simp only [Prod.mk.injEq] at hx
  obtain ⟨rfl, rfl⟩ := hx
  obtain ⟨x, x1, x2, x3⟩ := hd n cs xs (by simpa using hxs) fun i f hi => hf i f (by simpa using hi)
  refine ⟨x, by rw [hl, hcs, hk], fun i a hi => by have := x1 i a hi; rwa [Nat.zero_add] at this, ?_, fun W' sp hW' hsp => ?_⟩
  · have := hb.ag (xs.map (·.1))
    rw [List.map_map] at this
    exact Nat.le_trans (Nat.succ_le_succ x2) this
  · refine trod_struct_mk ht hcs (mapM_some_of_get _ _ (by simpa using hxs) fun i f hi => ?_)
    exact x3 W' sp hW' hsp i f hi

/-- an argument reads again in every world that has grown -/
def Again (enc : TypeId × Value → H) (P : Program) (W : World) (t : TypeId) (v : Value) (d : DataW H) (p : List MemPlace) : Prop :=
  ∀ (W' : World) (sp : Nat → Bool), Below W.heap.size W W' → (∀ b, b < W.heap.size → sp b = true) → DataW.Trod enc P W' 0 sp true t v d p

theorem arg_st {t : TypeId} {fs : Array Field} {α : Type} {en : α → List AV} {sz : α → Nat} {v : Value} {d : DataW H} {p : List MemPlace} (hd : Dec enc P W hg bulk t en sz) (ht : P.underlying t = some (.struct fs))
    (hv : Value.okWide P W .any 0 t v) (h : DataW.Trod enc P W 0 (fun _ => true) true t v d p) : ∃ x, VRel (G0 W hg) v (.agg (en x)) ∧ sz x ≤ bulk d ∧ Again enc P W t v d p := by
  obtain ⟨fuel, hf⟩ := h
  obtain ⟨x, x1, x2, x3, x4⟩ := hd _ _ _ _ hf
  simp only [Value.okWide, ht] at hv
  obtain ⟨cs, rfl, _, _⟩ := hv
  refine ⟨x, .agg (by simpa [Value.cells] using x1) fun i a hi => ?_, x3, fun W' sp hW' hsp => ⟨fuel, x4 W' sp hW' hsp⟩⟩
  have := x2 i a hi
  rw [List.getD_eq_getElem?_getD] at this
  rw [Array.getD_eq_getD_getElem?]
  simpa [Value.cells] using this

theorem arg_one {t : TypeId} {α : Type} {an : α → AV} {sz : α → Nat} {v : Value} {d : DataW H} {p : List MemPlace} (hd : Dec enc P W hg bulk t (fun x => [an x]) sz) (hv : v.cells = #[v])
    (h : DataW.Trod enc P W 0 (fun _ => true) true t v d p) : ∃ x, VRel (G0 W hg) v (an x) ∧ sz x ≤ bulk d ∧ Again enc P W t v d p := by
  obtain ⟨fuel, hf⟩ := h
  obtain ⟨x, x1, x2, x3, x4⟩ := hd _ _ _ _ hf
  refine ⟨x, ?_, x3, fun W' sp hW' hsp => ⟨fuel, x4 W' sp hW' hsp⟩⟩
  have := x2 0 _ rfl
  rw [hv] at this
  simpa using this

/-- the law's 'post': true, and every argument reads as it read -/
theorem law_post {f : Func} {s : ChangeSpec} {apart fresh handsOn again : Bool} {W' : World} {args : Array Value} {ds gs : List (DataW H)} {before : List MemPlace} {tb : TypeId} (hW : DataW.Whole enc P f.params.toList s.vars apart W args.toList ds gs before)
    (hvs : s.vars = []) (hfn : s.fn H (ds ++ gs) = { results := [.lit (.bool true)], args := ds }) (hrt : f.resultTypes = #[tb]) (htb : P.underlying tb = some .bool) (hbl : Below W.heap.size W W')
    (hre : ∀ sp : Nat → Bool, (∀ b, b < W.heap.size → sp b = true) → DataW.TrodAll enc P W' 0 sp true f.params.toList args.toList ds before) : s.post enc P f apart fresh handsOn again W args (.bool true) W' := by
  have hres : ∀ (b : Nat) (sp : Nat → Bool) (hd : Bool), DataW.TrodAll enc P W' b sp hd f.resultTypes.toList ((Value.bool true).resultList f.resultTypes.size) (s.fn H (ds ++ gs)).results [] := fun b sp hd => by
    rw [hfn, hrt]; exact trodAll_cons_mk (shut_bool htb true) trodAll_mk0
  have hvars : ∀ sp : Nat → Bool, DataW.TrodVars enc P W' sp s.vars (s.fn H (ds ++ gs)).vars [] := fun sp => by rw [hfn, hvs]; rfl
  have hargs : ∀ sp : Nat → Bool, (∀ b, b < W.heap.size → sp b = true) → DataW.TrodAll enc P W' 0 sp true f.params.toList args.toList (s.fn H (ds ++ gs)).args before := fun sp hsp => by rw [hfn]; exact hre sp hsp
  refine ⟨ds, gs, before, [], before, [], hW, hres _ _ _, hargs _ (fun b hb => by simpa using hb), hvars _, hbl.frame _, fun _ => ?_⟩
  have hlt := hW.lt
  obtain ⟨_, _, _, _, _, hz, hn⟩ := hW
  refine ⟨?_, _, _, ([] ++ before) ++ [], ⟨[] ++ before, [], trodAll_append (hargs _ (fun _ _ => rfl)) (hres _ _ _), hvars _, rfl, ?_, ?_⟩, ?_⟩
  · exact ok_one hrt rfl (okWide_bool_mk htb true)
  · intro b off hp
    have hp' : MemPlace.cell b off ∈ before := by simpa using hp
    rw [hbl.frozen (p := ⟨b, off, none⟩) (hlt _ hp')]
    exact hz b off hp'
  · intro ha
    simpa using hn ha
  · intro p hp _
    simpa using hp
end
end Go.AL
/-
  DERIVED: THE SHELF's CONTRACTS AT THIS DUMP, IN PLAIN WORDS (tools/lay-plain.mjs out of 'TryzShelfJ.lean', which tools/lay-shelf.mjs wrote): THE SAME DECLARATIONS UNDER THE SAME NAMES: 'import', 'namespace', 'open', 'def', 'theorem' AND NOTHING ELSE: no command of the shelf's: FOR A HAND-IN. Each laying: the table of numbers ('.._ren') and one theorem, a field a fact of the dump's own or the kernel's comparison; each contract: ONE APPLICATION.
-/
namespace Go.Proofs
open Go.Shelf
def Tryz.join_ren : Go.Shelf.Ren := ⟨fun | 156 => 30 | 165 => 60 | 166 => 61 | 169 => 62 | 240 => 89 | 241 => 90 | 276 => 117 | 277 => 118 | n => n, fun | 31 => 62 | 9 => 9 | 3 => 3 | 4 => 4 | 0 => 0 | 20 => 20 | 72 => 105 | 76 => 109 | 70 => 102 | 37 => 103 | 75 => 108 | 127 => 151 | 164 => 172 | 5 => 5 | 80 => 89 | n => n, fun | n => n⟩
theorem Tryz.join : Go.Proofs.Lays.n156 Tryz.prog Tryz.join_ren := {
  mixed := by kernel_rfl
  f156 := Tryz.func30.trans (congrArg some (by kernel_rfl))
  f165 := Tryz.func60.trans (congrArg some (by kernel_rfl))
  f166 := Tryz.func61.trans (congrArg some (by kernel_rfl))
  f169 := Tryz.func62.trans (congrArg some (by kernel_rfl))
  f240 := Tryz.func89.trans (congrArg some (by kernel_rfl))
  f241 := Tryz.func90.trans (congrArg some (by kernel_rfl))
  f276 := Tryz.func117.trans (congrArg some (by kernel_rfl))
  f277 := Tryz.func118.trans (congrArg some (by kernel_rfl))
  t0 := Tryz.underlying0
  a0 := Tryz.isAgg0
  z0 := Tryz.sizeOf0
  v0 := Tryz.zeroValue0
  t3 := Tryz.underlying3
  a3 := Tryz.isAgg3
  z3 := Tryz.sizeOf3
  v3 := Tryz.zeroValue3
  t4 := Tryz.underlying4
  a4 := Tryz.isAgg4
  z4 := Tryz.sizeOf4
  v4 := Tryz.zeroValue4
  t9 := Tryz.underlying9
  a9 := Tryz.isAgg9
  z9 := Tryz.sizeOf9
  v9 := Tryz.zeroValue9
  t20 := Tryz.underlying20
  a20 := Tryz.isAgg20
  z20 := Tryz.sizeOf20
  v20 := Tryz.zeroValue20
  t31 := Tryz.underlying62
  a31 := Tryz.isAgg62
  z31 := Tryz.sizeOf62
  v31 := Tryz.zeroValue62
  t37 := Tryz.underlying103
  a37 := Tryz.isAgg103
  z37 := Tryz.sizeOf103
  v37 := Tryz.zeroValue103
  t70 := Tryz.underlying102
  a70 := Tryz.isAgg102
  z70 := Tryz.sizeOf102
  v70 := Tryz.zeroValue102
  t72 := Tryz.underlying105
  a72 := Tryz.isAgg105
  z72 := Tryz.sizeOf105
  v72 := Tryz.zeroValue105
  t75 := Tryz.underlying108
  a75 := Tryz.isAgg108
  z75 := Tryz.sizeOf108
  v75 := Tryz.zeroValue108
  t76 := Tryz.underlying109
  a76 := Tryz.isAgg109
  z76 := Tryz.sizeOf109
  v76 := Tryz.zeroValue109
  t127 := Tryz.underlying151
  a127 := Tryz.isAgg151
  z127 := Tryz.sizeOf151
  v127 := Tryz.zeroValue151
  t164 := Tryz.underlying172
  a164 := Tryz.isAgg172
  z164 := Tryz.sizeOf172
  v164 := Tryz.zeroValue172 }
theorem Tryz.joinX : Builder.Extra Tryz.prog Tryz.join_ren := {
  sizeBuilder := by kernel_rfl
  liesBuilder := by kernel_rfl
  t5 := Tryz.underlying5
  a5 := Tryz.isAgg5
  z5 := Tryz.sizeOf5
  v5 := Tryz.zeroValue5
  infoByte := by kernel_rfl
  cellsByte := by kernel_rfl
  sizeByte := by kernel_rfl
  neB5 := by decide }
end Go.Proofs
/-
  DERIVED: THE SHELF's CONTRACTS AT THIS DUMP, IN PLAIN WORDS (tools/lay-plain.mjs out of 'TryzShelfR.lean', which tools/lay-shelf.mjs wrote): THE SAME DECLARATIONS UNDER THE SAME NAMES: 'import', 'namespace', 'open', 'def', 'theorem' AND NOTHING ELSE: no command of the shelf's: FOR A HAND-IN. Each laying: the table of numbers ('.._ren') and one theorem, a field a fact of the dump's own or the kernel's comparison; each contract: ONE APPLICATION.
-/
namespace Go.Proofs
open Go.Shelf
def Tryz.sortI_ren : Go.Shelf.Ren := ⟨fun | 189 => 128 | 125 => 123 | 257 => 151 | 128 => 147 | 129 => 148 | 294 => 169 | 295 => 170 | 296 => 171 | 297 => 172 | 298 => 173 | 299 => 174 | 216 => 175 | 300 => 176 | 301 => 177 | 328 => 186 | 329 => 162 | 330 => 163 | 331 => 187 | 332 => 188 | 215 => 189 | 343 => 192 | n => n, fun | 28 => 67 | 3 => 3 | 46 => 137 | 0 => 0 | 51 => 194 | 53 => 41 | 4 => 4 | 183 => 187 | 182 => 186 | 131 => 191 | 5 => 5 | 9 => 9 | 218 => 200 | 222 => 204 | 228 => 215 | 229 => 216 | n => n, fun | n => n⟩
theorem Tryz.sortI : Go.Proofs.Lays.n189 Tryz.prog Tryz.sortI_ren := {
  mixed := by kernel_rfl
  f125 := Tryz.func123.trans (congrArg some (by kernel_rfl))
  f128 := Tryz.func147.trans (congrArg some (by kernel_rfl))
  f129 := Tryz.func148.trans (congrArg some (by kernel_rfl))
  f189 := Tryz.func128.trans (congrArg some (by kernel_rfl))
  f215 := Tryz.func189.trans (congrArg some (by kernel_rfl))
  f216 := Tryz.func175.trans (congrArg some (by kernel_rfl))
  f257 := Tryz.func151.trans (congrArg some (by kernel_rfl))
  f294 := Tryz.func169.trans (congrArg some (by kernel_rfl))
  f295 := Tryz.func170.trans (congrArg some (by kernel_rfl))
  f296 := Tryz.func171.trans (congrArg some (by kernel_rfl))
  f297 := Tryz.func172.trans (congrArg some (by kernel_rfl))
  f298 := Tryz.func173.trans (congrArg some (by kernel_rfl))
  f299 := Tryz.func174.trans (congrArg some (by kernel_rfl))
  f300 := Tryz.func176.trans (congrArg some (by kernel_rfl))
  f301 := Tryz.func177.trans (congrArg some (by kernel_rfl))
  f328 := Tryz.func186.trans (congrArg some (by kernel_rfl))
  f329 := Tryz.func162.trans (congrArg some (by kernel_rfl))
  f330 := Tryz.func163.trans (congrArg some (by kernel_rfl))
  f331 := Tryz.func187.trans (congrArg some (by kernel_rfl))
  f332 := Tryz.func188.trans (congrArg some (by kernel_rfl))
  f343 := Tryz.func192.trans (congrArg some (by kernel_rfl))
  t0 := Tryz.underlying0
  a0 := Tryz.isAgg0
  z0 := Tryz.sizeOf0
  v0 := Tryz.zeroValue0
  t3 := Tryz.underlying3
  a3 := Tryz.isAgg3
  z3 := Tryz.sizeOf3
  v3 := Tryz.zeroValue3
  t4 := Tryz.underlying4
  a4 := Tryz.isAgg4
  z4 := Tryz.sizeOf4
  v4 := Tryz.zeroValue4
  t5 := Tryz.underlying5
  a5 := Tryz.isAgg5
  z5 := Tryz.sizeOf5
  v5 := Tryz.zeroValue5
  t9 := Tryz.underlying9
  a9 := Tryz.isAgg9
  z9 := Tryz.sizeOf9
  v9 := Tryz.zeroValue9
  t28 := Tryz.underlying67
  a28 := Tryz.isAgg67
  z28 := Tryz.sizeOf67
  v28 := Tryz.zeroValue67
  t46 := Tryz.underlying137
  a46 := Tryz.isAgg137
  z46 := Tryz.sizeOf137
  v46 := Tryz.zeroValue137
  t51 := Tryz.underlying194
  a51 := Tryz.isAgg194
  z51 := Tryz.sizeOf194
  v51 := Tryz.zeroValue194
  t53 := Tryz.underlying41
  a53 := Tryz.isAgg41
  z53 := Tryz.sizeOf41
  v53 := Tryz.zeroValue41
  t131 := Tryz.underlying191
  a131 := Tryz.isAgg191
  z131 := Tryz.sizeOf191
  v131 := Tryz.zeroValue191
  t182 := Tryz.underlying186
  a182 := Tryz.isAgg186
  z182 := Tryz.sizeOf186
  v182 := Tryz.zeroValue186
  t183 := Tryz.underlying187
  a183 := Tryz.isAgg187
  z183 := Tryz.sizeOf187
  v183 := Tryz.zeroValue187
  t218 := Tryz.underlying200
  a218 := Tryz.isAgg200
  z218 := Tryz.sizeOf200
  v218 := Tryz.zeroValue200
  t222 := Tryz.underlying204
  a222 := Tryz.isAgg204
  z222 := Tryz.sizeOf204
  v222 := Tryz.zeroValue204
  t228 := Tryz.underlying215
  a228 := Tryz.isAgg215
  z228 := Tryz.sizeOf215
  v228 := Tryz.zeroValue215
  t229 := Tryz.underlying216
  a229 := Tryz.isAgg216
  z229 := Tryz.sizeOf216
  v229 := Tryz.zeroValue216 }
def Tryz.sortR_ren : Go.Shelf.Ren := ⟨fun | 6 => 190 | 15 => 123 | 14 => 193 | 28 => 147 | 29 => 148 | 20 => 194 | 21 => 195 | 22 => 196 | 23 => 197 | 24 => 198 | 25 => 199 | 26 => 200 | 27 => 201 | 46 => 202 | 47 => 162 | 48 => 163 | 49 => 203 | 50 => 204 | 57 => 205 | n => n, fun | 22 => 221 | 24 => 222 | 25 => 224 | 3 => 3 | 39 => 137 | 0 => 0 | 53 => 194 | 55 => 41 | 4 => 4 | 46 => 187 | 45 => 186 | 50 => 191 | 5 => 5 | 9 => 9 | 66 => 200 | 70 => 204 | 76 => 215 | 77 => 216 | n => n, fun | n => n⟩
theorem Tryz.sortR : Go.Proofs.SlLaysF0.n6 Tryz.prog Tryz.sortR_ren := {
  mixed := by kernel_rfl
  f6 := ⟨Tryz.f190.name, by decide, Tryz.func190.trans (congrArg some (by kernel_rfl))⟩
  f14 := ⟨Tryz.f193.name, by decide, Tryz.func193.trans (congrArg some (by kernel_rfl))⟩
  f15 := Tryz.func123.trans (congrArg some (by kernel_rfl))
  f20 := ⟨Tryz.f194.name, by decide, Tryz.func194.trans (congrArg some (by kernel_rfl))⟩
  f21 := ⟨Tryz.f195.name, by decide, Tryz.func195.trans (congrArg some (by kernel_rfl))⟩
  f22 := ⟨Tryz.f196.name, by decide, Tryz.func196.trans (congrArg some (by kernel_rfl))⟩
  f23 := ⟨Tryz.f197.name, by decide, Tryz.func197.trans (congrArg some (by kernel_rfl))⟩
  f24 := ⟨Tryz.f198.name, by decide, Tryz.func198.trans (congrArg some (by kernel_rfl))⟩
  f25 := ⟨Tryz.f199.name, by decide, Tryz.func199.trans (congrArg some (by kernel_rfl))⟩
  f26 := ⟨Tryz.f200.name, by decide, Tryz.func200.trans (congrArg some (by kernel_rfl))⟩
  f27 := ⟨Tryz.f201.name, by decide, Tryz.func201.trans (congrArg some (by kernel_rfl))⟩
  f28 := Tryz.func147.trans (congrArg some (by kernel_rfl))
  f29 := Tryz.func148.trans (congrArg some (by kernel_rfl))
  f46 := ⟨Tryz.f202.name, by decide, Tryz.func202.trans (congrArg some (by kernel_rfl))⟩
  f47 := Tryz.func162.trans (congrArg some (by kernel_rfl))
  f48 := Tryz.func163.trans (congrArg some (by kernel_rfl))
  f49 := ⟨Tryz.f203.name, by decide, Tryz.func203.trans (congrArg some (by kernel_rfl))⟩
  f50 := ⟨Tryz.f204.name, by decide, Tryz.func204.trans (congrArg some (by kernel_rfl))⟩
  f57 := ⟨Tryz.f205.name, by decide, Tryz.func205.trans (congrArg some (by kernel_rfl))⟩
  t0 := Tryz.underlying0
  a0 := Tryz.isAgg0
  z0 := Tryz.sizeOf0
  v0 := Tryz.zeroValue0
  t3 := Tryz.underlying3
  a3 := Tryz.isAgg3
  z3 := Tryz.sizeOf3
  v3 := Tryz.zeroValue3
  t4 := Tryz.underlying4
  a4 := Tryz.isAgg4
  z4 := Tryz.sizeOf4
  v4 := Tryz.zeroValue4
  t5 := Tryz.underlying5
  a5 := Tryz.isAgg5
  z5 := Tryz.sizeOf5
  v5 := Tryz.zeroValue5
  t9 := Tryz.underlying9
  a9 := Tryz.isAgg9
  z9 := Tryz.sizeOf9
  v9 := Tryz.zeroValue9
  t22 := Tryz.underlying221
  a22 := Tryz.isAgg221
  z22 := Tryz.sizeOf221
  v22 := Tryz.zeroValue221
  t25 := Tryz.underlying224
  a25 := Tryz.isAgg224
  z25 := Tryz.sizeOf224
  v25 := Tryz.zeroValue224
  t39 := Tryz.underlying137
  a39 := Tryz.isAgg137
  z39 := Tryz.sizeOf137
  v39 := Tryz.zeroValue137
  t45 := Tryz.underlying186
  a45 := Tryz.isAgg186
  z45 := Tryz.sizeOf186
  v45 := Tryz.zeroValue186
  t46 := Tryz.underlying187
  a46 := Tryz.isAgg187
  z46 := Tryz.sizeOf187
  v46 := Tryz.zeroValue187
  t50 := Tryz.underlying191
  a50 := Tryz.isAgg191
  z50 := Tryz.sizeOf191
  v50 := Tryz.zeroValue191
  t53 := Tryz.underlying194
  a53 := Tryz.isAgg194
  z53 := Tryz.sizeOf194
  v53 := Tryz.zeroValue194
  t55 := Tryz.underlying41
  a55 := Tryz.isAgg41
  z55 := Tryz.sizeOf41
  v55 := Tryz.zeroValue41
  t66 := Tryz.underlying200
  a66 := Tryz.isAgg200
  z66 := Tryz.sizeOf200
  v66 := Tryz.zeroValue200
  t70 := Tryz.underlying204
  a70 := Tryz.isAgg204
  z70 := Tryz.sizeOf204
  v70 := Tryz.zeroValue204
  t76 := Tryz.underlying215
  a76 := Tryz.isAgg215
  z76 := Tryz.sizeOf215
  v76 := Tryz.zeroValue215
  t77 := Tryz.underlying216
  a77 := Tryz.isAgg216
  z77 := Tryz.sizeOf216
  v77 := Tryz.zeroValue216 }
end Go.Proofs
