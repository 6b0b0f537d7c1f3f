/- A part of the proof: the program logic AL, the walks of the functions that the law calls, what they compute. No condition of its own. -/
import Derived.Below
import Derived.Shelf.Unicode.DecodeSlow
import Derived.WalkKit
import Derived.Laws.AppendOwn
import Derived.Laws.OwnMore
import Derived.LoopN
import Derived.Maps.AppendAt
import Derived.ArgAppend
import Derived.Laws.CopyOwn
import Derived.Lib.Strings
set_option linter.unusedVariables false
set_option linter.unusedSimpArgs false
/- AL: what is known of the library's variables for the whole of a call. -/
namespace Go.AL
open Go Go.RowKit

/-- the tables of unicode/utf8 (blocks 0 and 1), the number MaxLen (block 2) -/
structure GoodW (B : Nat) (w : World) : Prop where
  lt : 2 < B
  maxLen : ∃ m, w.cell? ⟨2, 0, none⟩ = some (.int .i64 m)
  tabs : Lib.Utf8Tabs 0 1 w

theorem GoodW.below {B : Nat} {w w' : World} (h : GoodW B w) (hb : Below B w w') : GoodW B w' where
  lt := h.lt
  maxLen := by obtain ⟨m, hm⟩ := h.maxLen; exact ⟨m, by rw [hb.cell (p := ⟨2, 0, none⟩) h.lt]; exact hm⟩
  tabs := by
    have hlt := h.lt
    obtain ⟨h1, h2⟩ := h.tabs
    refine ⟨fun c hc => ?_, fun i hi => ?_⟩
    · rw [hb.cell (p := ⟨0, c, none⟩) (by show 0 < B; omega)]; exact h1 c hc
    · rw [hb.cell (p := ⟨1, 2 * i, none⟩) (by show 1 < B; omega), hb.cell (p := ⟨1, 2 * i + 1, none⟩) (by show 1 < B; omega)]; exact h2 i hi

end Go.AL
/- The program logic AL, part A: values by value over frozen memory, objects of the call's own in a symbolic heap; the relation to the model's world. -/
namespace Go.AL
open Go Go.RowKit

/-- What a value is good for: itself; a slice of frozen cells; a slice, a pointer into an object of the symbolic heap; a pointer into frozen cells. -/
inductive AV where
  | v (x : Value)
  | lst (cs : List AV) (n : Nat) (ex : Bool)
  | arr (id ver off n sz : Nat)
  | ref (id ver off : Nat)
  | pin (cs : List AV) (off : Nat)
  | agg (cs : List AV)
  | tup (vs : List AV)
  | clo (f : FuncId) (cap : List AV)
  | ifc (t : TypeId) (x : AV)
  | itr (id : Nat)

inductive AObj where
  | cells (ver : Nat) (ty : TypeId) (cs : List AV)
  | siter (s : ByteArray) (pos : Nat)

abbrev AHeap := Nat → Option AObj
def upd (σ : AHeap) (id : Nat) (o : AObj) : AHeap := fun k => if k = id then some o else σ k
def del (σ : AHeap) (id : Nat) : AHeap := fun k => if k = id then none else σ k

theorem upd_same (σ : AHeap) (id : Nat) (o : AObj) : upd σ id o id = some o := by simp [upd]
theorem upd_ne (σ : AHeap) {id k : Nat} (o : AObj) (h : k ≠ id) : upd σ id o k = σ k := by simp [upd, h]
theorem upd_upd (σ : AHeap) (id : Nat) (o o' : AObj) : upd (upd σ id o) id o' = upd σ id o' := by funext k; simp only [upd]; split <;> rfl
theorem upd_comm (σ : AHeap) {a b : Nat} (o o' : AObj) (h : a ≠ b) : upd (upd σ a o) b o' = upd (upd σ b o') a o := by
  funext k; simp only [upd]; split <;> split <;> simp_all
theorem upd_self (σ : AHeap) {id : Nat} {o : AObj} (h : σ id = some o) : upd σ id o = σ := by funext k; simp only [upd]; split <;> simp_all
theorem del_upd (σ : AHeap) {id : Nat} (o : AObj) (h : σ id = none) : del (upd σ id o) id = σ := by funext k; simp only [upd, del]; split <;> simp_all
theorem del_upd_ne (σ : AHeap) {a b : Nat} (o : AObj) (h : a ≠ b) : del (upd σ a o) b = upd (del σ b) a o := by
  funext k; simp only [upd, del]; split <;> split <;> simp_all
theorem del_same (σ : AHeap) (id : Nat) : del σ id id = none := by simp [del]
theorem del_ne (σ : AHeap) {id k : Nat} (h : k ≠ id) : del σ id k = σ k := by simp [del, h]
theorem del_none (σ : AHeap) {id : Nat} (h : σ id = none) : del σ id = σ := by funext k; simp only [del]; split <;> simp_all

structure Ghost where
  w0 : World
  B : Nat
  good : GoodW B w0
  fz : Nat → Option (Array Value)
  loc : Nat → Nat → Option (Nat × Nat)

structure Ghost.le (G G' : Ghost) : Prop where
  w0 : G'.w0 = G.w0
  B : G'.B = G.B
  fz : ∀ b cs, G.fz b = some cs → G'.fz b = some cs
  loc : ∀ i v p, G.loc i v = some p → G'.loc i v = some p

theorem Ghost.le.refl (G : Ghost) : G.le G := ⟨rfl, rfl, fun _ _ h => h, fun _ _ _ h => h⟩
theorem Ghost.le.trans {a b c : Ghost} (h : a.le b) (k : b.le c) : a.le c :=
  ⟨k.w0.trans h.w0, k.B.trans h.B, fun i cs e => k.fz i cs (h.fz i cs e), fun i v p e => k.loc i v p (h.loc i v p e)⟩

inductive VRel (G : Ghost) : Value → AV → Prop where
  | v (x : Value) : VRel G x (.v x)
  | lst {b o n cap : Nat} {ex : Bool} {cs : Array Value} {acs : List AV} (hfz : G.fz b = some cs) (hn : n ≤ cap) (hcap : cap ≤ maxLen) (hex : ex = true → cap = n)
      (hfit : o + acs.length ≤ cs.size) (hc : ∀ i a, acs[i]? = some a → VRel G (cs.getD (o + i) undef) a) : VRel G (.slice (some ⟨b, o, none⟩) n cap) (.lst acs n ex)
  | arr {id ver off n sz cap b N : Nat} (h : G.loc id ver = some (b, N)) (hN : off + cap * sz = N) (hn : n ≤ cap) (hcap : cap ≤ maxLen) :
      VRel G (.slice (some ⟨b, off, none⟩) n cap) (.arr id ver off n sz)
  | arr0 {id ver off sz o b N : Nat} (h : G.loc id ver = some (b, N)) (ho : 0 < off) : VRel G (.slice (some ⟨b, o, none⟩) 0 0) (.arr id ver off 0 sz)
  | lst0 {a : Option Addr} {cap : Nat} {ex : Bool} (hex : ex = true → cap = 0) (hcap : cap ≤ maxLen) : VRel G (.slice a 0 cap) (.lst [] 0 ex)
  | ref {id ver off b N : Nat} (h : G.loc id ver = some (b, N)) : VRel G (.pointer (some ⟨b, off, none⟩)) (.ref id ver off)
  | pin {b o off : Nat} {cs : Array Value} {acs : List AV} (hfz : G.fz b = some cs) (hfit : o + acs.length ≤ cs.size)
      (hc : ∀ i a, acs[i]? = some a → VRel G (cs.getD (o + i) undef) a) : VRel G (.pointer (some ⟨b, o + off, none⟩)) (.pin acs off)
  | agg {cs : Array Value} {acs : List AV} (hl : cs.size = acs.length) (hc : ∀ i a, acs[i]? = some a → VRel G (cs.getD i undef) a) : VRel G (.agg cs) (.agg acs)
  | tup {cs : Array Value} {acs : List AV} (hl : cs.size = acs.length) (hc : ∀ i a, acs[i]? = some a → VRel G (cs.getD i undef) a) : VRel G (.tuple cs) (.tup acs)
  | clo {f : FuncId} {cs : Array Value} {acs : List AV} (hl : cs.size = acs.length) (hc : ∀ i a, acs[i]? = some a → VRel G (cs.getD i undef) a) :
      VRel G (.func (.func f) #[] cs) (.clo f acs)
  | ifc {t : TypeId} {x : Value} {a : AV} (h : VRel G x a) : VRel G (.iface t x) (.ifc t a)
  | itr {id b N : Nat} (h : G.loc id 0 = some (b, N)) : VRel G (.pointer (some ⟨b, 0, none⟩)) (.itr id)

theorem VRel.mono {G G' : Ghost} (hG : G.le G') {x : Value} {a : AV} (h : VRel G x a) : VRel G' x a := by
  induction h with
  | v x => exact .v x
  | lst hfz hn hcap hex hfit _ ih => exact .lst (hG.fz _ _ hfz) hn hcap hex hfit ih
  | arr h hN hn hcap => exact .arr (hG.loc _ _ _ h) hN hn hcap
  | arr0 h ho => exact .arr0 (hG.loc _ _ _ h) ho
  | lst0 hex hcap => exact .lst0 hex hcap
  | ref h => exact .ref (hG.loc _ _ _ h)
  | pin hfz hfit _ ih => exact .pin (hG.fz _ _ hfz) hfit ih
  | agg hl _ ih => exact .agg hl ih
  | tup hl _ ih => exact .tup hl ih
  | clo hl _ ih => exact .clo hl ih
  | ifc _ ih => exact .ifc ih
  | itr h => exact .itr (hG.loc _ _ _ h)

/-- cells of a row read avs abstract cells, from a place on -/
def CellsRel (G : Ghost) (cs : Array Value) (o : Nat) (acs : List AV) : Prop :=
  o + acs.length ≤ cs.size ∧ ∀ i a, acs[i]? = some a → VRel G (cs.getD (o + i) undef) a

theorem CellsRel.mono {G G' : Ghost} (hG : G.le G') {cs : Array Value} {o : Nat} {acs : List AV} (h : CellsRel G cs o acs) : CellsRel G' cs o acs :=
  ⟨h.1, fun i a e => (h.2 i a e).mono hG⟩

def AObj.ver : AObj → Nat
  | .cells ver _ _ => ver
  | .siter _ _ => 0

def Live (G : Ghost) (w : World) (b N : Nat) : AObj → Prop
  | .cells _ ty acs => ∃ cs, N = cs.size ∧ w.heap[b]? = some (.cells cs ty (0, 0)) ∧ CellsRel G cs 0 acs
  | .siter s pos => w.heap[b]? = some (.stringIter s pos)

structure St (G : Ghost) (σ : AHeap) (w : World) : Prop where
  old : Below G.B G.w0 w
  hB : G.B ≤ G.w0.heap.size
  fz : ∀ b cs, G.fz b = some cs → ∃ e fr, w.heap[b]? = some (.cells cs e fr)
  live : ∀ id o, σ id = some o → ∃ b N, G.loc id o.ver = some (b, N) ∧ G.B ≤ b ∧ G.fz b = none ∧ Live G w b N o
  inj : ∀ id id' o o' b N N', σ id = some o → σ id' = some o' → G.loc id o.ver = some (b, N) → G.loc id' o'.ver = some (b, N') → id = id'
  fin : ∃ N, (∀ id, N ≤ id → σ id = none) ∧ ∀ id ver, (N ≤ id ∨ N ≤ ver) → G.loc id ver = none

theorem Live.lt {G : Ghost} {w : World} {b N : Nat} {o : AObj} (h : Live G w b N o) : b < w.heap.size := by
  cases o with
  | cells ver ty acs => obtain ⟨cs, _, hb, _⟩ := h; exact (Array.getElem?_eq_some_iff.1 hb).1
  | siter s pos => exact (Array.getElem?_eq_some_iff.1 h).1

theorem Live.mono {G G' : Ghost} (hG : G.le G') {w : World} {b N : Nat} {o : AObj} (h : Live G w b N o) : Live G' w b N o := by
  cases o with
  | cells ver ty acs => obtain ⟨cs, hN, hb, hc⟩ := h; exact ⟨cs, hN, hb, hc.mono hG⟩
  | siter s pos => exact h

theorem Live.of_block {G : Ghost} {w w' : World} {b N : Nat} {o : AObj} (h : Live G w b N o) (e : w'.heap[b]? = w.heap[b]?) : Live G w' b N o := by
  cases o with
  | cells ver ty acs => obtain ⟨cs, hN, hb, hc⟩ := h; exact ⟨cs, hN, e.trans hb, hc⟩
  | siter s pos => exact e.trans h

/-- the temporaries' environment: the newest entry counts -/
abbrev Env := List (Nat × AV)
def look : Env → Nat → Option AV
  | [], _ => none
  | (k, a) :: r, t => match Nat.beq k t with | true => some a | false => look r t

theorem look_cons (k : Nat) (a : AV) (r : Env) (t : Nat) : look ((k, a) :: r) t = if k = t then some a else look r t := by
  simp only [look]
  cases h : Nat.beq k t with
  | true => have := Nat.eq_of_beq_eq_true h; simp [this]
  | false => have := Nat.ne_of_beq_eq_false h; simp [this]

def opnd (env : Env) : Operand → Option AV
  | .tmp t => look env t
  | .const x => some (.v x)
  | .global g => some (.v (.pointer (some ⟨g, 0, none⟩)))
  | .func f => some (.v (.func (.func f) #[] #[]))

structure ERel (G : Ghost) (N : Nat) (act : Act) (env : Env) : Prop where
  size : act.tmps.size = N
  tmps : ∀ t a, look env t = some a → VRel G (act.tmps.getD t undef) a

theorem ERel.mono {G G' : Ghost} (hG : G.le G') {N : Nat} {act : Act} {env : Env} (h : ERel G N act env) : ERel G' N act env :=
  ⟨h.size, fun t a e => (h.tmps t a e).mono hG⟩

theorem ERel.opnd {G : Ghost} {N : Nat} {act : Act} {env : Env} (h : ERel G N act env) {x : Operand} {a : AV} (e : opnd env x = some a) : VRel G (act.eval x) a := by
  cases x with
  | tmp t => exact h.tmps t a e
  | const x => simp only [AL.opnd, Option.some.injEq] at e; subst e; exact .v _
  | global g => simp only [AL.opnd, Option.some.injEq] at e; subst e; exact .v _
  | func f => simp only [AL.opnd, Option.some.injEq] at e; subst e; exact .v _

def puts (env : Env) (d : Option Tmp) (a : AV) : Env := match d with | some d => (d, a) :: env | none => env

def dstOk (N : Nat) : Option Tmp → Bool
  | some d => Nat.blt d N
  | none => true

theorem ERel.put {G : Ghost} {N : Nat} {act : Act} {env : Env} (h : ERel G N act env) {d : Option Tmp} (hd : dstOk N d = true) {x : Value} {a : AV} (hx : VRel G x a) :
    ERel G N (act.put d x) (puts env d a) := by
  cases d with
  | none => exact h
  | some d =>
    have hlt : d < N := by simpa [dstOk, Nat.blt_eq] using hd
    refine ⟨by simp [Act.put, h.size], fun t a' e => ?_⟩
    simp only [puts, look_cons] at e
    by_cases hk : d = t
    · subst hk
      simp only [if_pos, Option.some.injEq] at e
      subst e
      have : d < act.tmps.size := by rw [h.size]; exact hlt
      simpa [Act.put, Array.getD, this] using hx
    · rw [if_neg hk] at e
      have := h.tmps t a' e
      simpa [Act.put, Array.getD_eq_getD_getElem?, Array.getElem?_setIfInBounds, hk] using this

/-- a smaller environment -/
def Env.le (env env' : Env) : Prop := ∀ t a, look env t = some a → look env' t = some a
theorem ERel.weaken {G : Ghost} {N : Nat} {act : Act} {env env' : Env} (h : ERel G N act env') (hl : Env.le env env') : ERel G N act env :=
  ⟨h.size, fun t a e => h.tmps t a (hl t a e)⟩
theorem Env.le_nil (env : Env) : Env.le [] env := fun t a e => by simp [look] at e
theorem Env.le_cons {k : Nat} {a : AV} {env env' : Env} (h : look env' k = some a) (r : Env.le env env') : Env.le ((k, a) :: env) env' := by
  intro t b e
  rw [look_cons] at e
  by_cases hk : k = t
  · subst hk; simpa [h] using e
  · rw [if_neg hk] at e; exact r t b e

/-- What the judgements say at their end: the relation holds again, over a greater ghost. -/
def Lift (G : Ghost) (N : Nat) (ds : List Deferred) (Q : Exit → Env → AHeap → Prop) : Exit → Act → World → Prop :=
  fun e act w => ∃ G' env σ, G.le G' ∧ St G' σ w ∧ ERel G' N act env ∧ act.defers = ds ∧ Q e env σ

theorem Lift.mono {G G' : Ghost} {N : Nat} {ds : List Deferred} {Q Q' : Exit → Env → AHeap → Prop} (hG : G.le G') (hq : ∀ e env σ, Q e env σ → Q' e env σ) {e : Exit} {act : Act} {w : World}
    (h : Lift G' N ds Q e act w) : Lift G N ds Q' e act w := by
  obtain ⟨G'', env, σ, h1, h2, h3, h4, h5⟩ := h
  exact ⟨G'', env, σ, hG.trans h1, h2, h3, h4, hq _ _ _ h5⟩

/-- the code's judgement -/
def AWp (P : Program) (N : Nat) (c : Code) (Q : Exit → Env → AHeap → Prop) (env : Env) (σ : AHeap) : Prop :=
  ∀ (G : Ghost) (w : World) (act : Act), St G σ w → ERel G N act env → c.wp P (Lift G N act.defers Q) act w

/-- the operations' judgement, in the text's order -/
def AOps (P : Program) (N : Nat) (ops : Array Oper) (Q : Exit → Env → AHeap → Prop) (l : List Oper) (env : Env) (σ : AHeap) : Prop :=
  ∀ (G : Ghost) (w : World) (act : Act), St G σ w → ERel G N act env → wpList P ops (Lift G N act.defers Q) l act w

inductive AEnd where
  | ret (a : AV)
  | pan (chain : List PanicEntry)

def EndRel (G : Ghost) : Ending → AEnd → Prop
  | .returned x, .ret a => VRel G x a
  | .panicked c, .pan c' => c = c'
  | _, _ => False

def VRels (G : Ghost) (vs : Array Value) (avs : List AV) : Prop := vs.size = avs.length ∧ ∀ i a, avs[i]? = some a → VRel G (vs.getD i undef) a

/-- a function's contract -/
def ASpec (P : Program) (f : FuncId) (args : List AV) (σ : AHeap) (R : AEnd → AHeap → Prop) : Prop :=
  ∀ (G : Ghost) (w : World) (vs : Array Value), St G σ w → VRels G vs args →
    Calls P f vs w fun e w' => ∃ G' σ' r, G.le G' ∧ St G' σ' w' ∧ EndRel G' e r ∧ R r σ'

theorem ASpec.mono {P : Program} {f : FuncId} {args : List AV} {σ : AHeap} {R R' : AEnd → AHeap → Prop} (h : ASpec P f args σ R) (hr : ∀ r σ', R r σ' → R' r σ') : ASpec P f args σ R' :=
  fun G w vs hst hv => (h G w vs hst hv).mono fun _ _ ⟨G', σ', r, h1, h2, h3, h4⟩ => ⟨G', σ', r, h1, h2, h3, hr _ _ h4⟩

/-- a ghost step: the world and the temporaries stay, what is known of them turns -/
def Gst (N : Nat) (Q : Env → AHeap → Prop) (env : Env) (σ : AHeap) : Prop :=
  ∀ (G : Ghost) (w : World) (act : Act), St G σ w → ERel G N act env → ∃ G' env' σ', G.le G' ∧ St G' σ' w ∧ ERel G' N act env' ∧ Q env' σ'

theorem Gst.done {N : Nat} {Q : Env → AHeap → Prop} {env : Env} {σ : AHeap} (h : Q env σ) : Gst N Q env σ :=
  fun G w act hst he => ⟨G, env, σ, .refl G, hst, he, h⟩

theorem Gst.weaken {N : Nat} {Q : Env → AHeap → Prop} {env env' : Env} {σ : AHeap} (hl : Env.le env' env) (h : Gst N Q env' σ) : Gst N Q env σ :=
  fun G w act hst he => h G w act hst (he.weaken hl)

theorem Gst.bind {N : Nat} {Q Q' : Env → AHeap → Prop} {env : Env} {σ : AHeap} (h : Gst N Q env σ) (hq : ∀ env σ, Q env σ → Gst N Q' env σ) : Gst N Q' env σ := by
  intro G w act hst he
  obtain ⟨G', env', σ', h1, h2, h3, h4⟩ := h G w act hst he
  obtain ⟨G'', env'', σ'', k1, k2, k3, k4⟩ := hq env' σ' h4 G' w act h2 h3
  exact ⟨G'', env'', σ'', h1.trans k1, k2, k3, k4⟩

theorem AWp.ghost {P : Program} {N : Nat} {c : Code} {Q : Exit → Env → AHeap → Prop} {env : Env} {σ : AHeap} (h : Gst N (AWp P N c Q) env σ) : AWp P N c Q env σ := by
  intro G w act hst he
  obtain ⟨G', env', σ', h1, h2, h3, h4⟩ := h G w act hst he
  exact wp_mono (h4 G' w act h2 h3) fun _ _ _ hq => hq.mono h1 fun _ _ _ q => q

theorem AWp.post {P : Program} {N : Nat} {c : Code} {Q Q' : Exit → Env → AHeap → Prop} {env : Env} {σ : AHeap} (h : AWp P N c Q' env σ) (hq : ∀ e env σ, Q' e env σ → Gst N (Q e) env σ) : AWp P N c Q env σ := by
  intro G w act hst he
  refine wp_mono (h G w act hst he) fun e act' w' ⟨G', env', σ', h1, h2, h3, h4, h5⟩ => ?_
  obtain ⟨G'', env'', σ'', k1, k2, k3, k4⟩ := hq e env' σ' h5 G' w' act' h2 h3
  exact ⟨G'', env'', σ'', h1.trans k1, k2, k3, h4, k4⟩

theorem upon_mono2 {P : Program} {o : Oper} {a : Act} {K K' : Act → World → Prop} {Q Q' : Exit → Act → World → Prop} (hk : ∀ a w, K a w → K' a w) (hq : ∀ e a w, Q e a w → Q' e a w)
    (r : Result Next) (h : o.upon P a K Q r) : o.upon P a K' Q' r := by
  unfold Oper.upon at h ⊢
  split at h
  · exact hk _ _ h
  · exact hk _ _ h
  · exact hk _ _ h
  · refine h.mono fun e w' he => ?_
    cases e with
    | returned v => exact hk _ _ he
    | panicked c => exact hq _ _ _ he
    | outgrown => obtain ⟨a0, w0, h0⟩ := he; exact ⟨a0, w0, hq _ _ _ h0⟩
  · exact h.mono fun v w' he => hk _ _ he
  · exact hq _ _ _ h
  · exact h.elim

theorem wpList_mono' {P : Program} {ops : Array Oper} {Q Q' : Exit → Act → World → Prop} (hq : ∀ e a w, Q e a w → Q' e a w) :
    ∀ (l : List Oper) (a : Act) (w : World), wpList P ops Q l a w → wpList P ops Q' l a w
  | [], a, w, h => hq _ _ _ h
  | o :: rest, a, w, h => by
    unfold wpList at h ⊢
    split
    · rename_i hw
      rw [if_pos hw] at h
      rcases h with h | ⟨h, a0, w0, h0⟩
      · exact .inl (upon_mono2 (fun a w => wpList_mono' hq rest a w) hq _ h)
      · exact .inr ⟨h, a0, w0, hq _ _ _ h0⟩
    · rename_i hw
      rw [if_neg hw] at h
      exact wpList_mono' hq rest _ _ h

theorem AOps.ghost {P : Program} {N : Nat} {ops : Array Oper} {l : List Oper} {Q : Exit → Env → AHeap → Prop} {env : Env} {σ : AHeap} (h : Gst N (AOps P N ops Q l) env σ) : AOps P N ops Q l env σ := by
  intro G w act hst he
  obtain ⟨G', env', σ', h1, h2, h3, h4⟩ := h G w act hst he
  have := h4 G' w act h2 h3
  exact wpList_mono' (fun _ _ _ hq => hq.mono h1 fun _ _ _ q => q) _ _ _ this

end Go.AL
/- AL, part B: the rules for code, for loops, for calls; a function's contract out of its body. -/
namespace Go.AL
open Go Go.RowKit

variable {P : Program} {N : Nat}

def thenE (K : Env → AHeap → Prop) (Q : Exit → Env → AHeap → Prop) : Exit → Env → AHeap → Prop
  | .normal, env, σ => K env σ
  | e, env, σ => Q e env σ
def blockE (id : Nat) (Q : Exit → Env → AHeap → Prop) : Exit → Env → AHeap → Prop
  | .exit id', env, σ => if id' = id then Q .normal env σ else Q (.exit id') env σ
  | e, env, σ => Q e env σ

theorem awp_seq {x y : Code} {Q : Exit → Env → AHeap → Prop} {env : Env} {σ : AHeap} (h : AWp P N x (thenE (AWp P N y Q) Q) env σ) : AWp P N (.seq x y) Q env σ := by
  intro G w act hst he
  refine wp_seq (wp_mono (h G w act hst he) fun e act' w' ⟨G', env', σ', h1, h2, h3, h4, h5⟩ => ?_)
  cases e with
  | normal =>
    refine wp_mono (h5 G' w' act' h2 h3) fun e a'' w'' hq => ?_
    rw [h4] at hq
    exact hq.mono h1 fun _ _ _ q => q
  | exit id => exact ⟨G', env', σ', h1, h2, h3, h4, h5⟩
  | goto l => exact ⟨G', env', σ', h1, h2, h3, h4, h5⟩
  | ret => exact ⟨G', env', σ', h1, h2, h3, h4, h5⟩
  | panic c => exact ⟨G', env', σ', h1, h2, h3, h4, h5⟩
  | outgrown => exact ⟨G', env', σ', h1, h2, h3, h4, h5⟩

theorem awp_skip {Q : Exit → Env → AHeap → Prop} {env : Env} {σ : AHeap} (h : Q .normal env σ) : AWp P N .skip Q env σ :=
  fun G _ _ hst he => wp_skip ⟨G, env, σ, .refl G, hst, he, rfl, h⟩
theorem awp_label {l : Nat} {Q : Exit → Env → AHeap → Prop} {env : Env} {σ : AHeap} (h : Q .normal env σ) : AWp P N (.label l) Q env σ :=
  fun G _ _ hst he => wp_label ⟨G, env, σ, .refl G, hst, he, rfl, h⟩
theorem awp_exit {id : Nat} {Q : Exit → Env → AHeap → Prop} {env : Env} {σ : AHeap} (h : Q (.exit id) env σ) : AWp P N (.exit id) Q env σ :=
  fun G _ _ hst he => wp_exit ⟨G, env, σ, .refl G, hst, he, rfl, h⟩
theorem awp_ret {Q : Exit → Env → AHeap → Prop} {env : Env} {σ : AHeap} (h : Q .ret env σ) : AWp P N .ret Q env σ :=
  fun G _ _ hst he => wp_ret ⟨G, env, σ, .refl G, hst, he, rfl, h⟩

theorem VRel.v_eq {G : Ghost} {x y : Value} (h : VRel G x (.v y)) : x = y := by cases h; rfl

theorem awp_cond {c : Operand} {x y : Code} {Q : Exit → Env → AHeap → Prop} {env : Env} {σ : AHeap} {b : Bool} (hc : opnd env c = some (.v (.bool b)))
    (ht : b = true → AWp P N x Q env σ) (hf : b = false → AWp P N y Q env σ) : AWp P N (.cond c x y) Q env σ := by
  intro G w act hst he
  exact wp_cond_split (t := b) (he.opnd hc).v_eq (fun e => ht e G w act hst he) (fun e => hf e G w act hst he)

theorem awp_block {id : Nat} {c : Code} {Q : Exit → Env → AHeap → Prop} {env : Env} {σ : AHeap} (h : AWp P N c (blockE id Q) env σ) : AWp P N (.block id c) Q env σ := by
  intro G w act hst he
  refine wp_block (wp_mono (h G w act hst he) fun e act' w' ⟨G', env', σ', h1, h2, h3, h4, h5⟩ => ?_)
  cases e with
  | exit id' =>
    simp only [blockE] at h5
    simp only [Exit.inBlock]
    split <;> rename_i hi
    · rw [if_pos hi] at h5; exact ⟨G', env', σ', h1, h2, h3, h4, h5⟩
    · rw [if_neg hi] at h5; exact ⟨G', env', σ', h1, h2, h3, h4, h5⟩
  | normal => exact ⟨G', env', σ', h1, h2, h3, h4, h5⟩
  | goto l => exact ⟨G', env', σ', h1, h2, h3, h4, h5⟩
  | ret => exact ⟨G', env', σ', h1, h2, h3, h4, h5⟩
  | panic c => exact ⟨G', env', σ', h1, h2, h3, h4, h5⟩
  | outgrown => exact ⟨G', env', σ', h1, h2, h3, h4, h5⟩

/-- A loop: the states are told by s, of some type; what is known of the temporaries (E) and of the heap (H) at a round's head. -/
theorem awp_loop {S : Type} (E : S → Env) (H : S → AHeap) (J : S → Prop) (μ : S → Nat) {c : Code} {Q : Exit → Env → AHeap → Prop} {env : Env} {σ : AHeap}
    (h0 : ∃ s, J s ∧ Env.le (E s) env ∧ σ = H s)
    (round : ∀ s, J s → AWp P N c (thenE (Gst N fun env σ => ∃ s', J s' ∧ μ s' < μ s ∧ Env.le (E s') env ∧ σ = H s') Q) (E s) (H s)) : AWp P N (.loop c) Q env σ := by
  intro G w act hst he b k cs
  obtain ⟨s0, hj, hle, rfl⟩ := h0
  have key : ∀ n s, μ s = n → J s → ∀ G' w' act', G.le G' → St G' (H s) w' → ERel G' N act' (E s) → act'.defers = act.defers →
      ∃ e a' w'', Lift G N act.defers Q e a' w'' ∧ Arrives P (lone (b.at act' (.code c :: .inLoop c :: k)) cs w') b k cs e a' w'' := by
    intro n
    induction n using Nat.strongRecOn with
    | _ n ih =>
      intro s hn hj G1 w1 act1 hG1 hst1 he1 hd1
      obtain ⟨e, a1, w2, hq, harr⟩ := round s hj G1 w1 act1 hst1 he1 b (.inLoop c :: k) cs
      obtain ⟨G2, env2, σ2, g1, g2, g3, g4, g5⟩ := hq
      cases e with
      | normal =>
        obtain ⟨G3, env3, σ3, k1, k2, k3, s', hj', hlt, hle', rfl⟩ := g5 G2 w2 a1 g2 g3
        obtain ⟨e3, a3, w3, hq3, harr3⟩ := ih (μ s') (hn ▸ hlt) s' rfl hj' G3 w2 a1 (hG1.trans (g1.trans k1)) k2 (k3.weaken hle') (g4.trans hd1)
        exact ⟨e3, a3, w3, hq3, .of_steps (Steps.trans harr (.one step_inLoop)) harr3⟩
      | exit id => exact ⟨_, a1, w2, ⟨G2, env2, σ2, hG1.trans g1, g2, g3, g4.trans hd1, g5⟩, .pass (x := .inLoop c) rfl (fun _ _ => .inl (by simp)) harr⟩
      | goto l => exact ⟨_, a1, w2, ⟨G2, env2, σ2, hG1.trans g1, g2, g3, g4.trans hd1, g5⟩, .pass (x := .inLoop c) rfl (fun _ _ => .inl (by simp)) harr⟩
      | ret => exact ⟨_, a1, w2, ⟨G2, env2, σ2, hG1.trans g1, g2, g3, g4.trans hd1, g5⟩, .pass (x := .inLoop c) rfl (fun _ _ => .inl (by simp)) harr⟩
      | panic ch => exact ⟨_, a1, w2, ⟨G2, env2, σ2, hG1.trans g1, g2, g3, g4.trans hd1, g5⟩, .pass (x := .inLoop c) rfl (fun _ _ => .inl (by simp)) harr⟩
      | outgrown => exact ⟨_, a1, w2, ⟨G2, env2, σ2, hG1.trans g1, g2, g3, g4.trans hd1, g5⟩, .pass (x := .inLoop c) rfl (fun _ _ => .inl (by simp)) harr⟩
  obtain ⟨e, a', w', hq, harr⟩ := key _ s0 rfl hj G w act (.refl G) hst (he.weaken hle) rfl
  exact ⟨e, a', w', hq, .of_steps (.one step_loop) harr⟩

theorem awp_region {id : Nat} {ops : List Oper} {Q : Exit → Env → AHeap → Prop} {env : Env} {σ : AHeap} (h : AOps P N ops.toArray Q ops env σ) : AWp P N (.region id ops.toArray false) Q env σ :=
  fun G w act hst he => wp_region_lit (h G w act hst he)

theorem aops_nil {ops : Array Oper} {Q : Exit → Env → AHeap → Prop} {env : Env} {σ : AHeap} (h : Q .normal env σ) : AOps P N ops Q [] env σ :=
  fun G _ _ hst he => wpList_nil ⟨G, env, σ, .refl G, hst, he, rfl, h⟩

/-- an operation that gives a value -/
def AVal (P : Program) (o : Oper) (env : Env) (σ : AHeap) (K : AV → AHeap → Prop) : Prop :=
  ∀ (G : Ghost) (w : World) (ρ : Operand → Value), St G σ w → (∀ x a, opnd env x = some a → VRel G (ρ x) a) →
    ∃ v w' G' av σ', (execOp ρ o).run P w = .ok (.value v) w' ∧ G.le G' ∧ St G' σ' w' ∧ VRel G' v av ∧ K av σ'

/-- an operation that gives none -/
def ASkip (P : Program) (o : Oper) (env : Env) (σ : AHeap) (K : AHeap → Prop) : Prop :=
  ∀ (G : Ghost) (w : World) (ρ : Operand → Value), St G σ w → (∀ x a, opnd env x = some a → VRel G (ρ x) a) →
    ∃ w' G' σ', (execOp ρ o).run P w = .ok .skip w' ∧ G.le G' ∧ St G' σ' w' ∧ K σ'

theorem Act.put_defers (a : Act) (d : Option Tmp) (x : Value) : (a.put d x).defers = a.defers := by cases d <;> rfl

theorem aops_val {ops : Array Oper} {Q : Exit → Env → AHeap → Prop} {o : Oper} {rest : List Oper} {env : Env} {σ : AHeap} (hg : o.guard = none) (hd : dstOk N o.dst = true)
    (h : AVal P o env σ fun a σ' => AOps P N ops Q rest (puts env o.dst a) σ') : AOps P N ops Q (o :: rest) env σ := by
  intro G w act hst he
  obtain ⟨v, w', G', av, σ', hr, hG, hst', hv, hk⟩ := h G w act.eval hst fun x a e => he.opnd e
  refine wpList_plain hg fun K hK => ?_
  have hk' := hk G' w' (act.put o.dst v) hst' ((he.mono hG).put hd hv)
  rw [Act.put_defers] at hk'
  unfold Oper.wp
  rw [hr]
  exact hK _ _ (wpList_mono' (fun _ _ _ hq => hq.mono hG fun _ _ _ q => q) _ _ _ hk')

theorem aops_skip {ops : Array Oper} {Q : Exit → Env → AHeap → Prop} {o : Oper} {rest : List Oper} {env : Env} {σ : AHeap} (hg : o.guard = none) (hd : dstOk N o.dst = true)
    (h : ASkip P o env σ fun σ' => AOps P N ops Q rest (puts env o.dst (.v undef)) σ') : AOps P N ops Q (o :: rest) env σ := by
  intro G w act hst he
  obtain ⟨w', G', σ', hr, hG, hst', hk⟩ := h G w act.eval hst fun x a e => he.opnd e
  refine wpList_plain hg fun K hK => ?_
  have hk' := hk G' w' (act.put o.dst undef) hst' ((he.mono hG).put hd (.v _))
  rw [Act.put_defers] at hk'
  unfold Oper.wp
  rw [hr]
  exact hK _ _ (wpList_mono' (fun _ _ _ hq => hq.mono hG fun _ _ _ q => q) _ _ _ hk')

/-- a function that is entered by a plain call -/
def Callable (P : Program) (f : FuncId) : Prop := ∀ (args : Array Value) (w : World), (callFunc f args).run P w = .ok (.enter f args) w

theorem callable_of {f : FuncId} {fn : Func} (hf : P.funcs[f]? = some fn) (hn : (fn.name == "runtime.NumGoroutine") = false) (hb : fn.body.isNone = false) : Callable P f := by
  intro args w
  have hn' : fn.name ≠ "runtime.NumGoroutine" := by simpa using hn
  have hb' : fn.body ≠ none := by intro e; simp [e] at hb
  simp [callFunc, hf, hn', hb']

def opnds (env : Env) : List Operand → Option (List AV)
  | [] => some []
  | x :: r => match opnd env x with
    | some a => match opnds env r with
      | some avs => some (a :: avs)
      | none => none
    | none => none

theorem opnds_rel {G : Ghost} {env : Env} {ρ : Operand → Value} (h : ∀ x a, opnd env x = some a → VRel G (ρ x) a) :
    ∀ (l : List Operand) (avs : List AV), opnds env l = some avs → l.length = avs.length ∧ ∀ (i : Nat) (a : AV), avs[i]? = some a → ∃ x : Operand, l[i]? = some x ∧ VRel G (ρ x) a
  | [], avs, e => by simp only [opnds, Option.some.injEq] at e; subst e; simp
  | x :: r, avs, e => by
    simp only [opnds] at e
    split at e
    · rename_i a ha
      split at e
      · rename_i avs' hr
        simp only [Option.some.injEq] at e
        subst e
        obtain ⟨h1, h2⟩ := opnds_rel h r avs' hr
        refine ⟨by simp [h1], fun i b hb => ?_⟩
        cases i with
        | zero => simp only [List.getElem?_cons_zero, Option.some.injEq] at hb; subst hb; exact ⟨x, rfl, h x _ ha⟩
        | succ i => simpa using h2 i b (by simpa using hb)
      · exact absurd e (by simp)
    · exact absurd e (by simp)

theorem opnds_vrels {G : Ghost} {env : Env} {ρ : Operand → Value} (h : ∀ x a, opnd env x = some a → VRel G (ρ x) a) {l : List Operand} {avs : List AV} (e : opnds env l = some avs) :
    VRels G (l.toArray.map ρ) avs := by
  obtain ⟨h1, h2⟩ := opnds_rel h l avs e
  refine ⟨by simp [h1], fun i a ha => ?_⟩
  obtain ⟨x, hx, hv⟩ := h2 i a ha
  simpa [Array.getD_eq_getD_getElem?, hx] using hv

/-- a call of a function by its number -/
theorem aops_call {ops : Array Oper} {Q : Exit → Env → AHeap → Prop} {o : Oper} {rest : List Oper} {env : Env} {σ : AHeap} {f : FuncId} {args : List Operand} {ts : Array TypeId} {avs : List AV}
    {R : AEnd → AHeap → Prop} (hg : o.guard = none) (hd : dstOk N o.dst = true) (ho : o.op = .call { callee := .value (.func f), args := args.toArray, argTypes := ts }) (hc : Callable P f)
    (hargs : opnds env args = some avs) (hspec : ASpec P f avs σ R) (hret : ∀ a σ', R (.ret a) σ' → AOps P N ops Q rest (puts env o.dst a) σ')
    (hpan : ∀ c σ', R (.pan c) σ' → Q (.panic c) env σ') : AOps P N ops Q (o :: rest) env σ := by
  intro G w act hst he
  have hv := opnds_vrels (fun x a e => he.opnd e) hargs
  refine wpList_plain hg fun K hK => ?_
  unfold Oper.wp
  have hr : (execOp act.eval o).run P w = .ok (.enter f (args.toArray.map act.eval)) w := by
    have := hc (args.toArray.map act.eval) w
    simp only [List.map_toArray] at this
    simp [execOp, ho, resolve, Deferred.ofValue, Act.eval, invoke]
    exact this
  rw [hr, Oper.upon_enter]
  refine (hspec G w _ hst hv).mono fun e w' ⟨G', σ', r, hG, hst', hr', hR⟩ => ?_
  cases e with
  | returned v =>
    cases r with
    | pan c => exact hr'.elim
    | ret a =>
      have hk' := hret a σ' hR G' w' (act.put o.dst v) hst' ((he.mono hG).put hd hr')
      rw [Act.put_defers] at hk'
      exact hK _ _ (wpList_mono' (fun _ _ _ hq => hq.mono hG fun _ _ _ q => q) _ _ _ hk')
  | panicked c =>
    cases r with
    | ret a => exact hr'.elim
    | pan c' =>
      have : c = c' := hr'
      subst this
      exact ⟨G', env, σ', hG, hst', he.mono hG, rfl, hpan c σ' hR⟩
  | outgrown => cases r <;> exact hr'.elim

/-- what a function's slots say of its results -/
def retOf (env : Env) : List ResultVar → Option (List AV)
  | [] => some []
  | .tmp t :: r => match look env t with
    | some a => match retOf env r with
      | some avs => some (a :: avs)
      | none => none
    | none => none
  | .cell _ _ :: _ => none

def tupOf : List AV → AV
  | [a] => a
  | avs => .tup avs

theorem retOf_rel {G : Ghost} {act : Act} {env : Env} (he : ERel G N act env) : ∀ (l : List ResultVar) (avs : List AV), retOf env l = some avs →
    ∃ ts : List Nat, l = ts.map .tmp ∧ ts.length = avs.length ∧ ∀ (i : Nat) (a : AV), avs[i]? = some a → ∃ t : Nat, ts[i]? = some t ∧ VRel G (act.tmps.getD t undef) a
  | [], avs, e => by simp only [retOf, Option.some.injEq] at e; subst e; exact ⟨[], by simp⟩
  | .cell _ _ :: _, avs, e => by simp [retOf] at e
  | .tmp t :: r, avs, e => by
    simp only [retOf] at e
    split at e
    · rename_i a ha
      split at e
      · rename_i avs' hr
        simp only [Option.some.injEq] at e
        subst e
        obtain ⟨ts, h1, h2, h3⟩ := retOf_rel he r avs' hr
        refine ⟨t :: ts, by simp [h1], by simp [h2], fun i b hb => ?_⟩
        cases i with
        | zero => simp only [List.getElem?_cons_zero, Option.some.injEq] at hb; subst hb; exact ⟨t, rfl, he.tmps t _ ha⟩
        | succ i => simpa using h3 i b (by simpa using hb)
      · exact absurd e (by simp)
    · exact absurd e (by simp)

def ERet (fn : Func) (R : AEnd → AHeap → Prop) : Exit → Env → AHeap → Prop
  | .normal, env, σ | .ret, env, σ => Gst fn.ntmps (fun env σ => ∃ avs, retOf env fn.results.toList = some avs ∧ R (.ret (tupOf avs)) σ) env σ
  | .panic c, env, σ => Gst fn.ntmps (fun _ σ => R (.pan c) σ) env σ
  | _, _, _ => False

def retV (tmps : Array Value) : List Nat → Value
  | [t] => tmps.getD t undef
  | ts => .tuple (ts.map fun t => tmps.getD t undef).toArray

theorem results_of {fn : Func} {ts : List Nat} (h : fn.results.toList = ts.map .tmp) (hs : ts.length ≤ 4) (tmps : Array Value) (P : Program) (w : World) :
    (results fn tmps).run P w = .ok (retV tmps ts) w := by
  have h' : fn.results = (ts.map ResultVar.tmp).toArray := by rw [← h]
  match ts, hs with
  | [], _ => simp [results, h', retV]
  | [a], _ => simp [results, h', retV]
  | [a, b], _ => simp [results, h', retV]
  | [a, b, c], _ => simp [results, h', retV]
  | [a, b, c, d], _ => simp [results, h', retV]

theorem tupOf_rel {G : Ghost} {act : Act} {ts : List Nat} {avs : List AV} (hl : ts.length = avs.length)
    (h : ∀ (i : Nat) (a : AV), avs[i]? = some a → ∃ t : Nat, ts[i]? = some t ∧ VRel G (act.tmps.getD t undef) a) :
    VRel G (retV act.tmps ts) (tupOf avs) := by
  have gen : VRel G (.tuple (ts.map fun t => act.tmps.getD t undef).toArray) (.tup avs) := by
    refine .tup (by simp [hl]) fun i a ha => ?_
    obtain ⟨t, ht, hv⟩ := h i a ha
    simpa [Array.getD_eq_getD_getElem?, ht] using hv
  match ts, avs, hl with
  | [], [], _ => exact gen
  | [t], [a], _ =>
    obtain ⟨t', ht, hv⟩ := h 0 a rfl
    simp only [List.getElem?_cons_zero, Option.some.injEq] at ht
    subst ht
    exact hv
  | t :: u :: r, a :: b :: r', _ => exact gen

theorem aspec_of_awp {f : FuncId} {fn : Func} {c : Code} {args : List AV} {env : Env} {σ : AHeap} {R : AEnd → AHeap → Prop} (hf : P.funcs[f]? = some fn) (hb : fn.body = some c)
    (hn : args.length ≤ fn.ntmps) (hr : fn.results.size ≤ 4) (henv : ∀ t a, look env t = some a → args[t]? = some a) (h : AWp P fn.ntmps c (ERet fn R) env σ) : ASpec P f args σ R := by
  intro G w vs hst hv
  refine calls_of_wp hf hb (wp_mono (h G w { tmps := vs ++ Array.replicate (fn.ntmps - vs.size) undef, defers := [] } hst ⟨?_, ?_⟩) ?_)
  · have := hv.1; simp; omega
  · intro t a e
    have ha := henv t a e
    have h1 := hv.2 t a ha
    have hlt : t < vs.size := by rw [hv.1]; exact (List.getElem?_eq_some_iff.1 ha).1
    have : (vs ++ Array.replicate (fn.ntmps - vs.size) undef).getD t undef = vs.getD t undef := by
      simp [Array.getD_eq_getD_getElem?, Array.getElem?_append, hlt]
    rw [this]
    exact h1
  · rintro e act w' ⟨G', env', σ', h1, h2, h3, h4, h5⟩
    have ret : Gst fn.ntmps (fun env σ => ∃ avs, retOf env fn.results.toList = some avs ∧ R (.ret (tupOf avs)) σ) env' σ' →
        act.defers = [] ∧ ∃ v, (results fn act.tmps).run P w' = .ok v w' ∧ ∃ G' σ' r, G.le G' ∧ St G' σ' w' ∧ EndRel G' (.returned v) r ∧ R r σ' := by
      intro h5
      obtain ⟨G2, env2, σ2, k1, k2, k3, avs, k4, k5⟩ := h5 G' w' act h2 h3
      obtain ⟨ts, e1, e2, e3⟩ := retOf_rel k3 _ _ k4
      refine ⟨h4, _, results_of e1 (by rw [← List.length_map (f := ResultVar.tmp), ← e1]; simpa using hr) _ _ _, G2, σ2, _, h1.trans k1, k2, ?_, k5⟩
      exact tupOf_rel e2 e3
    cases e with
    | normal => exact ret h5
    | ret => exact ret h5
    | panic c =>
      obtain ⟨G2, env2, σ2, k1, k2, k3, k4⟩ := h5 G' w' act h2 h3
      exact ⟨h4, G2, σ2, .pan c, h1.trans k1, k2, rfl, k4⟩
    | exit id => exact h5.elim
    | goto l => exact h5.elim
    | outgrown => exact h5.elim

end Go.AL
/- AL, part C: how the relation goes on where memory is made and written. -/
namespace Go.AL
open Go Go.RowKit

theorem St.lt {G : Ghost} {σ : AHeap} {w : World} (h : St G σ w) {id : Nat} {o : AObj} (e : σ id = some o) {b N : Nat} (hl : G.loc id o.ver = some (b, N)) : b < w.heap.size := by
  obtain ⟨b', N', h1, _, _, h4⟩ := h.live id o e
  rw [hl] at h1
  simp only [Option.some.injEq, Prod.mk.injEq] at h1
  rw [h1.1]
  exact h4.lt

theorem St.fz_lt {G : Ghost} {σ : AHeap} {w : World} (h : St G σ w) {b : Nat} {cs : Array Value} (e : G.fz b = some cs) : b < w.heap.size := by
  obtain ⟨_, _, hb⟩ := h.fz b cs e
  exact (Array.getElem?_eq_some_iff.1 hb).1

/-- the world has grown, what was there stands -/
theorem St.grow {G : Ghost} {σ : AHeap} {w w' : World} (h : St G σ w) (hb : Below w.heap.size w w') : St G σ w' where
  old := h.old.trans (hb.mono (Nat.le_trans h.hB h.old.size))
  hB := h.hB
  fz b cs e := by obtain ⟨ty, fr, hh⟩ := h.fz b cs e; exact ⟨ty, fr, (hb.block b (h.fz_lt e)).trans hh⟩
  live id o e := by
    obtain ⟨b, N, h1, h2, h3, h4⟩ := h.live id o e
    exact ⟨b, N, h1, h2, h3, h4.of_block (hb.block b h4.lt)⟩
  inj := h.inj
  fin := h.fin

theorem St.drew {G : Ghost} {σ : AHeap} {w : World} (h : St G σ w) : St G σ w.drew := h.grow (Below.refl _ _).drew

theorem St.fresh {G : Ghost} {σ : AHeap} {w : World} (h : St G σ w) : ∃ id, σ id = none ∧ ∀ v, G.loc id v = none := by
  obtain ⟨N, h1, h2⟩ := h.fin
  exact ⟨N, h1 N (Nat.le_refl _), fun v => h2 N v (.inl (Nat.le_refl _))⟩

theorem St.freshVer {G : Ghost} {σ : AHeap} {w : World} (h : St G σ w) (id : Nat) : ∃ v, G.loc id v = none := by
  obtain ⟨N, _, h2⟩ := h.fin
  exact ⟨N, h2 id N (.inr (Nat.le_refl _))⟩

def Ghost.place (G : Ghost) (id ver b N : Nat) : Ghost := { G with loc := fun i v => if i = id ∧ v = ver then some (b, N) else G.loc i v }
def Ghost.frz (G : Ghost) (b : Nat) (cs : Array Value) : Ghost := { G with fz := fun k => if k = b then some cs else G.fz k }

theorem Ghost.place_le {G : Ghost} {id ver b N : Nat} (h : G.loc id ver = none) : G.le (G.place id ver b N) :=
  ⟨rfl, rfl, fun _ _ e => e, fun i v p e => by
    simp only [Ghost.place]
    split
    · rename_i hc; rw [hc.1, hc.2, h] at e; exact absurd e (by simp)
    · exact e⟩
theorem Ghost.frz_le {G : Ghost} {b : Nat} {cs : Array Value} (h : G.fz b = none) : G.le (G.frz b cs) :=
  ⟨rfl, rfl, fun k c e => by
    simp only [Ghost.frz]
    split
    · rename_i hc; rw [hc, h] at e; exact absurd e (by simp)
    · exact e, fun _ _ _ e => e⟩

/-- a new object of the call's own -/
theorem St.newObj {G : Ghost} {σ : AHeap} {w w' : World} (h : St G σ w) {id : Nat} (hid : σ id = none) (hl : ∀ v, G.loc id v = none) (hb : Below w.heap.size w w') {b : Nat} (hge : w.heap.size ≤ b)
    {o : AObj} {N : Nat} (hlive : Live (G.place id o.ver b N) w' b N o) : G.le (G.place id o.ver b N) ∧ St (G.place id o.ver b N) (upd σ id o) w' := by
  have hle : G.le (G.place id o.ver b N) := Ghost.place_le (hl _)
  have h' := h.grow hb
  have hB : G.B ≤ b := Nat.le_trans (Nat.le_trans h.hB h.old.size) hge
  have hfz : G.fz b = none := by
    cases e : G.fz b with
    | none => rfl
    | some cs => have := h.fz_lt e; omega
  refine ⟨hle, ⟨h'.old, h'.hB, h'.fz, ?_, ?_, ?_⟩⟩
  · intro k o' e
    simp only [upd] at e
    split at e
    · rename_i hk
      simp only [Option.some.injEq] at e
      subst e hk
      exact ⟨b, N, by simp [Ghost.place], hB, hfz, hlive⟩
    · obtain ⟨b', N', h1, h2, h3, h4⟩ := h'.live k o' e
      exact ⟨b', N', hle.loc _ _ _ h1, h2, h3, h4.mono hle⟩
  · intro k k' o1 o2 b' N1 N2 e1 e2 l1 l2
    have key : ∀ k o' b' N', σ k = some o' → (G.place id o.ver b N).loc k o'.ver = some (b', N') → G.loc k o'.ver = some (b', N') ∧ b' < w.heap.size := by
      intro k o' b' N' e l
      have hk : k ≠ id := by intro hk; rw [hk, hid] at e; exact absurd e (by simp)
      have : G.loc k o'.ver = some (b', N') := by simpa [Ghost.place, hk] using l
      exact ⟨this, h.lt e this⟩
    simp only [upd] at e1 e2
    split at e1 <;> split at e2
    · rename_i a1 a2; rw [a1, a2]
    · rename_i a1 a2
      simp only [Option.some.injEq] at e1
      subst e1 a1
      have : b' = b := by simp [Ghost.place] at l1; exact l1.1.symm
      have := (key _ _ _ _ e2 l2).2
      omega
    · rename_i a1 a2
      simp only [Option.some.injEq] at e2
      subst e2 a2
      have : b' = b := by simp [Ghost.place] at l2; exact l2.1.symm
      have := (key _ _ _ _ e1 l1).2
      omega
    · exact h.inj _ _ _ _ _ _ _ e1 e2 (key _ _ _ _ e1 l1).1 (key _ _ _ _ e2 l2).1
  · obtain ⟨M, m1, m2⟩ := h.fin
    refine ⟨max M (max (id + 1) (o.ver + 1)), fun k hk => ?_, fun k v hk => ?_⟩
    · have : k ≠ id := by omega
      rw [upd_ne _ _ this]; exact m1 k (by omega)
    · have : ¬ (k = id ∧ v = o.ver) := by omega
      simp only [Ghost.place, if_neg this]; exact m2 k v (by omega)

/-- new frozen memory -/
theorem St.newFrz {G : Ghost} {σ : AHeap} {w w' : World} (h : St G σ w) (hb : Below w.heap.size w w') {b : Nat} (hge : w.heap.size ≤ b) {cs : Array Value} {e : TypeId} {fr : Nat × Nat}
    (hc : w'.heap[b]? = some (.cells cs e fr)) : G.le (G.frz b cs) ∧ St (G.frz b cs) σ w' := by
  have h' := h.grow hb
  have hfz : G.fz b = none := by
    cases e : G.fz b with
    | none => rfl
    | some cs => have := h.fz_lt e; omega
  have hle : G.le (G.frz b cs) := Ghost.frz_le hfz
  refine ⟨hle, ⟨h'.old, h'.hB, ?_, ?_, h'.inj, h'.fin⟩⟩
  · intro k c ek
    simp only [Ghost.frz] at ek
    split at ek
    · rename_i hk; simp only [Option.some.injEq] at ek; subst ek hk; exact ⟨e, fr, hc⟩
    · exact h'.fz k c ek
  · intro k o ek
    obtain ⟨b', N', h1, h2, h3, h4⟩ := h'.live k o ek
    refine ⟨b', N', h1, h2, ?_, h4.mono hle⟩
    have : b' < w.heap.size := h.lt ek h1
    simp only [Ghost.frz]
    rw [if_neg (by omega)]
    exact h3

/-- an object is written, or moved to a new place: its version may turn -/
theorem St.turn {G : Ghost} {σ : AHeap} {w w' : World} (h : St G σ w) {id : Nat} {o o' : AObj} (hid : σ id = some o) {b N : Nat} (hloc : G.loc id o.ver = some (b, N)) (hgr : w.grownBy w' (some b))
    {G' : Ghost} (hle : G.le G') (hfz : G'.fz = G.fz) {b' N' : Nat} (hb' : b' = b ∨ w.heap.size ≤ b') (hloc' : G'.loc id o'.ver = some (b', N'))
    (hother : ∀ k v, k ≠ id → G'.loc k v = G.loc k v) (hfin : ∃ M, ∀ v, M ≤ v → G'.loc id v = none) (hlive : Live G' w' b' N' o') : St G' (upd σ id o') w' := by
  obtain ⟨b0, N0, l1, l2, l3, l4⟩ := h.live id o hid
  rw [hloc] at l1
  simp only [Option.some.injEq, Prod.mk.injEq] at l1
  obtain ⟨rfl, rfl⟩ := l1
  have hblk : ∀ k, k < w.heap.size → k ≠ b → w'.heap[k]? = w.heap[k]? := fun k hk hne => hgr.block k hk (by simpa using hne)
  have hB : G.B ≤ w.heap.size := Nat.le_trans h.hB h.old.size
  have hold : Below G.B w w' := ⟨hgr.os, hgr.tape, hgr.output, hgr.size, fun k hk => hblk k (by omega) (by omega)⟩
  refine ⟨?_, ?_, ?_, ?_, ?_, ?_⟩
  · rw [hle.B, hle.w0]; exact h.old.trans hold
  · rw [hle.B, hle.w0]; exact h.hB
  · intro k c ek
    rw [hfz] at ek
    obtain ⟨ty, fr, hh⟩ := h.fz k c ek
    have hlt := h.fz_lt ek
    have : k ≠ b := by intro e; rw [e, l3] at ek; exact absurd ek (by simp)
    exact ⟨ty, fr, (hblk k hlt this).trans hh⟩
  · intro k o1 ek
    simp only [upd] at ek
    split at ek
    · rename_i hk
      simp only [Option.some.injEq] at ek
      subst ek hk
      refine ⟨b', N', hloc', ?_, ?_, hlive⟩
      · rw [hle.B]; rcases hb' with e | e <;> omega
      · rw [hfz]
        rcases hb' with e | e
        · rw [e]; exact l3
        · cases e' : G.fz b' with
          | none => rfl
          | some cs => have := h.fz_lt e'; omega
    · rename_i hk
      obtain ⟨b1, N1, m1, m2, m3, m4⟩ := h.live k o1 ek
      have hne : b1 ≠ b := by intro e; subst e; exact hk (h.inj _ _ _ _ _ _ _ ek hid m1 hloc)
      exact ⟨b1, N1, hle.loc _ _ _ m1, by rw [hle.B]; exact m2, by rw [hfz]; exact m3, (m4.of_block (hblk b1 m4.lt hne)).mono hle⟩
  · intro k k' o1 o2 bb N1 N2 e1 e2 g1 g2
    have key : ∀ k o1 bb N1, k ≠ id → σ k = some o1 → G'.loc k o1.ver = some (bb, N1) → G.loc k o1.ver = some (bb, N1) ∧ bb < w.heap.size ∧ bb ≠ b := by
      intro k o1 bb N1 hk e1 g1
      rw [hother k _ hk] at g1
      exact ⟨g1, h.lt e1 g1, fun e => by subst e; exact hk (h.inj _ _ _ _ _ _ _ e1 hid g1 hloc)⟩
    simp only [upd] at e1 e2
    split at e1 <;> split at e2
    · rename_i a1 a2; rw [a1, a2]
    · rename_i a1 a2
      simp only [Option.some.injEq] at e1
      subst e1 a1
      rw [hloc'] at g1
      simp only [Option.some.injEq, Prod.mk.injEq] at g1
      obtain ⟨_, q1, q2⟩ := key _ _ _ _ a2 e2 g2
      omega
    · rename_i a1 a2
      simp only [Option.some.injEq] at e2
      subst e2 a2
      rw [hloc'] at g2
      simp only [Option.some.injEq, Prod.mk.injEq] at g2
      obtain ⟨_, q1, q2⟩ := key _ _ _ _ a1 e1 g1
      omega
    · rename_i a1 a2
      exact h.inj _ _ _ _ _ _ _ e1 e2 (key _ _ _ _ a1 e1 g1).1 (key _ _ _ _ a2 e2 g2).1
  · obtain ⟨M, m1, m2⟩ := h.fin
    obtain ⟨M', hM'⟩ := hfin
    refine ⟨max (max M M') (id + 1), fun k hk => ?_, fun k v hk => ?_⟩
    · rw [upd_ne _ _ (by omega)]; exact m1 k (by omega)
    · by_cases hki : k = id
      · subst hki
        exact hM' v (by omega)
      · rw [hother k v hki]; exact m2 k v (by omega)

theorem St.turn_same {G : Ghost} {σ : AHeap} {w w' : World} (h : St G σ w) {id : Nat} {o o' : AObj} (hid : σ id = some o) (hv : o'.ver = o.ver) {b N : Nat} (hloc : G.loc id o.ver = some (b, N))
    (hgr : w.grownBy w' (some b)) (hlive : Live G w' b N o') : St G (upd σ id o') w' := by
  obtain ⟨M, _, m2⟩ := h.fin
  exact h.turn hid hloc hgr (.refl G) rfl (.inl rfl) (by rw [hv]; exact hloc) (fun _ _ _ => rfl) ⟨M, fun v hv => m2 id v (.inr hv)⟩ hlive

theorem St.turn_new {G : Ghost} {σ : AHeap} {w w' : World} (h : St G σ w) {id : Nat} {o o' : AObj} (hid : σ id = some o) (hv : G.loc id o'.ver = none) {b N : Nat} (hloc : G.loc id o.ver = some (b, N))
    (hgr : w.grownBy w' (some b)) {b' N' : Nat} (hb' : b' = b ∨ w.heap.size ≤ b') (hlive : Live (G.place id o'.ver b' N') w' b' N' o') : St (G.place id o'.ver b' N') (upd σ id o') w' := by
  obtain ⟨M, _, m2⟩ := h.fin
  refine h.turn hid hloc hgr (Ghost.place_le hv) rfl hb' (by simp [Ghost.place]) (fun k v hk => by simp [Ghost.place, hk]) ⟨max M (o'.ver + 1), fun v hv' => ?_⟩ hlive
  simp only [Ghost.place]
  rw [if_neg (by omega)]
  exact m2 id v (.inr (by omega))

/-- an object is let go -/
theorem St.kill {G : Ghost} {σ : AHeap} {w : World} (h : St G σ w) (id : Nat) : St G (del σ id) w where
  old := h.old
  hB := h.hB
  fz := h.fz
  live k o e := by
    simp only [del] at e
    split at e
    · exact absurd e (by simp)
    · exact h.live k o e
  inj k k' o o' b N N' e1 e2 := by
    simp only [del] at e1 e2
    split at e1
    · exact absurd e1 (by simp)
    · split at e2
      · exact absurd e2 (by simp)
      · exact h.inj k k' o o' b N N' e1 e2
  fin := by
    obtain ⟨M, m1, m2⟩ := h.fin
    refine ⟨M, fun k hk => ?_, m2⟩
    simp only [del]
    split
    · rfl
    · exact m1 k hk

/-- an object is frozen -/
theorem St.freeze {G : Ghost} {σ : AHeap} {w : World} (h : St G σ w) {id ver : Nat} {ty : TypeId} {acs : List AV} (hid : σ id = some (.cells ver ty acs)) {b N : Nat} (hloc : G.loc id ver = some (b, N)) :
    ∃ cs, N = cs.size ∧ CellsRel G cs 0 acs ∧ G.le (G.frz b cs) ∧ St (G.frz b cs) (del σ id) w := by
  obtain ⟨b0, N0, l1, l2, l3, cs, hN, hb, hc⟩ := h.live id _ hid
  have l1' : G.loc id ver = some (b0, N0) := l1
  rw [hloc] at l1'
  simp only [Option.some.injEq, Prod.mk.injEq] at l1'
  obtain ⟨rfl, rfl⟩ := l1'
  have hle : G.le (G.frz b cs) := Ghost.frz_le l3
  have hk := h.kill id
  refine ⟨cs, hN, hc, hle, ⟨hk.old, hk.hB, ?_, ?_, hk.inj, hk.fin⟩⟩
  · intro k c ek
    simp only [Ghost.frz] at ek
    split at ek
    · rename_i e; simp only [Option.some.injEq] at ek; subst ek e; exact ⟨_, _, hb⟩
    · exact h.fz k c ek
  · intro k o ek
    obtain ⟨b', N', h1, h2, h3, h4⟩ := hk.live k o ek
    refine ⟨b', N', h1, h2, ?_, h4.mono hle⟩
    have hk' : k ≠ id := by intro e; rw [e, del_same] at ek; exact absurd ek (by simp)
    have ek' : σ k = some o := by rw [del_ne _ hk'] at ek; exact ek
    have : b' ≠ b := by intro e; subst e; exact hk' (h.inj _ _ _ _ _ _ _ ek' hid h1 hloc)
    simp only [Ghost.frz]
    rw [if_neg this]
    exact h3

end Go.AL
/- AL, part D: the rules for operations that read and write memory. -/
namespace Go.AL
open Go Go.RowKit

variable {P : Program}

def aggD : TypeDesc → Bool
  | .struct _ | .array _ _ => true
  | _ => false
/-- is a type one of several cells; how many cells -/
def tyK (P : Program) (t : TypeId) : Option (Bool × Nat) :=
  match P.underlying t, P.info? t with
  | some d, some i => some (aggD d, i.size)
  | _, _ => none

theorem tyK_run {t : TypeId} {ag : Bool} {n : Nat} (h : tyK P t = some (ag, n)) (w : World) : (isAgg t).run P w = .ok ag w ∧ (sizeOf t).run P w = .ok n w := by
  unfold tyK at h
  split at h
  · rename_i d i hd hi
    simp only [Option.some.injEq, Prod.mk.injEq] at h
    obtain ⟨rfl, rfl⟩ := h
    constructor
    · cases d <;> simp [isAgg, run_underlying hd, aggD]
    · simp [sizeOf, typeInfo, hi]
  · exact absurd h (by simp)

theorem tyK_info {t : TypeId} {ag : Bool} {n : Nat} (h : tyK P t = some (ag, n)) : ∃ i, P.info? t = some i ∧ i.size = n := by
  unfold tyK at h
  split at h
  · rename_i d i hd hi
    simp only [Option.some.injEq, Prod.mk.injEq] at h
    exact ⟨i, hi, h.2⟩
  · exact absurd h (by simp)

/-- the cells of a value -/
def AV.cells : AV → List AV
  | .agg cs => cs
  | a => [a]

/-- may it lie in one cell? -/
def AV.one : AV → Bool
  | .v x => x.oneCell'
  | .agg _ | .tup _ => false
  | _ => true

theorem oneCell_of {G : Ghost} {x : Value} {a : AV} (h : VRel G x a) (ho : a.one = true) : x.oneCell' = true := by
  cases h <;> first | exact ho | rfl | exact absurd ho (by simp [AV.one])

/-- what is read out of cells -/
def ldv (ag : Bool) (n off : Nat) (cs : List AV) : Option AV :=
  match ag with
  | true => match Nat.ble (off + n) cs.length with
    | true => some (.agg ((cs.drop off).take n))
    | false => none
  | false => cs[off]?

theorem cell_of_heap {w : World} {b : Nat} {cs : Array Value} {ty : TypeId} {fr : Nat × Nat} (h : w.heap[b]? = some (.cells cs ty fr)) {o : Nat} (ho : o < cs.size) :
    w.cell? ⟨b, o, none⟩ = some (cs.getD o undef) := by
  simp [World.cell?, h, ho]

theorem add_none (b o j : Nat) : (⟨b, o, none⟩ : Addr).add j = ⟨b, o + j, none⟩ := by unfold Addr.add; split <;> simp_all

theorem run_loadVar {t : TypeId} {ag : Bool} {n : Nat} (h : tyK P t = some (ag, n)) {w : World} {b : Nat} {cs : Array Value} {ty : TypeId} {fr : Nat × Nat} (hb : w.heap[b]? = some (.cells cs ty fr))
    {o : Nat} (ho : if ag = true then o + n ≤ cs.size else o < cs.size) :
    (loadVar t ⟨b, o, none⟩).run P w = .ok (if ag = true then .agg ((List.range n).map fun j => cs.getD (o + j) undef).toArray else cs.getD o undef) w := by
  obtain ⟨h1, h2⟩ := tyK_run h w
  cases ag with
  | false =>
    simp only [Bool.false_eq_true, if_false] at ho
    have hc := cell_of_heap hb ho
    simp [loadVar, h1, load, Sem.run, hc]
  | true =>
    simp only [if_true] at ho
    have hl := run_loadCells (P := P) w ⟨b, o, none⟩ n (fun j => cs.getD (o + j) undef) (fun j hj => by rw [add_none]; exact cell_of_heap hb (by omega))
    simp [loadVar, h1, h2, hl]

theorem ldv_rel {G : Ghost} {cs : Array Value} {o : Nat} {acs : List AV} (hc : CellsRel G cs o acs) {ag : Bool} {n off : Nat} {av : AV} (h : ldv ag n off acs = some av) :
    (if ag = true then o + off + n ≤ cs.size else o + off < cs.size) ∧
      VRel G (if ag = true then .agg ((List.range n).map fun j => cs.getD (o + off + j) undef).toArray else cs.getD (o + off) undef) av := by
  cases ag with
  | false =>
    simp only [ldv] at h
    have hlt := (List.getElem?_eq_some_iff.1 h).1
    have := hc.1
    refine ⟨by simp; omega, ?_⟩
    simpa using hc.2 off av h
  | true =>
    simp only [ldv] at h
    split at h
    · rename_i hb
      simp only [Option.some.injEq] at h
      subst h
      have hb' : off + n ≤ acs.length := Nat.le_of_ble_eq_true hb
      have := hc.1
      refine ⟨by simp; omega, ?_⟩
      simp only [if_true]
      refine .agg (by simp; omega) fun i a ha => ?_
      have hi : i < n := by have := (List.getElem?_eq_some_iff.1 ha).1; simp at this; omega
      rw [List.getElem?_take, if_pos hi, List.getElem?_drop] at ha
      have := hc.2 _ _ ha
      simpa [Array.getD_eq_getD_getElem?, hi, Nat.add_assoc] using this
    · exact absurd h (by simp)

theorem VRel.ref_inv {G : Ghost} {x : Value} {id ver off : Nat} (h : VRel G x (.ref id ver off)) : ∃ b N, G.loc id ver = some (b, N) ∧ x = .pointer (some ⟨b, off, none⟩) := by
  cases h with | ref h => exact ⟨_, _, h, rfl⟩
theorem VRel.pin_inv {G : Ghost} {x : Value} {acs : List AV} {off : Nat} (h : VRel G x (.pin acs off)) :
    ∃ b o cs, G.fz b = some cs ∧ CellsRel G cs o acs ∧ x = .pointer (some ⟨b, o + off, none⟩) := by
  cases h with | pin h1 h2 h3 => exact ⟨_, _, _, h1, ⟨h2, h3⟩, rfl⟩

theorem St.row {G : Ghost} {σ : AHeap} {w : World} (h : St G σ w) {id ver : Nat} {ty : TypeId} {acs : List AV} (hid : σ id = some (.cells ver ty acs)) {b N : Nat} (hl : G.loc id ver = some (b, N)) :
    ∃ cs, N = cs.size ∧ w.heap[b]? = some (.cells cs ty (0, 0)) ∧ CellsRel G cs 0 acs ∧ G.B ≤ b := by
  obtain ⟨b', N', l1, l2, l3, cs, hN, hb, hc⟩ := h.live id _ hid
  have l1' : G.loc id ver = some (b', N') := l1
  rw [hl] at l1'
  simp only [Option.some.injEq, Prod.mk.injEq] at l1'
  obtain ⟨rfl, rfl⟩ := l1'
  exact ⟨cs, hN, hb, hc, l2⟩

theorem a_load {o : Oper} {env : Env} {σ : AHeap} {K : AV → AHeap → Prop} {t : TypeId} {x : Operand} {ag : Bool} {n id ver off : Nat} {ty : TypeId} {cs : List AV} {av : AV}
    (ho : o.op = .load t x) (ht : tyK P t = some (ag, n)) (hx : opnd env x = some (.ref id ver off)) (hid : σ id = some (.cells ver ty cs)) (hv : ldv ag n off cs = some av) (h : K av σ) : AVal P o env σ K := by
  intro G w ρ hst hρ
  obtain ⟨b, N, hl, hxe⟩ := (hρ x _ hx).ref_inv
  obtain ⟨cs', _, hb, hc, _⟩ := hst.row hid hl
  obtain ⟨h1, h2⟩ := ldv_rel hc hv
  simp only [Nat.zero_add] at h1 h2
  have hr := run_loadVar ht hb h1
  exact ⟨_, w, G, av, σ, by simp [execOp, ho, Instr.loadAt, hxe, Instr.sureAddr, hr], .refl G, hst, h2, h⟩

theorem a_load_pin {o : Oper} {env : Env} {σ : AHeap} {K : AV → AHeap → Prop} {t : TypeId} {x : Operand} {ag : Bool} {n off : Nat} {cs : List AV} {av : AV}
    (ho : o.op = .load t x) (ht : tyK P t = some (ag, n)) (hx : opnd env x = some (.pin cs off)) (hv : ldv ag n off cs = some av) (h : K av σ) : AVal P o env σ K := by
  intro G w ρ hst hρ
  obtain ⟨b, o', cs', hf, hc, hxe⟩ := (hρ x _ hx).pin_inv
  obtain ⟨ty, fr, hb⟩ := hst.fz _ _ hf
  obtain ⟨h1, h2⟩ := ldv_rel hc hv
  have hr := run_loadVar ht hb h1
  exact ⟨_, w, G, av, σ, by simp [execOp, ho, Instr.loadAt, hxe, Instr.sureAddr, hr], .refl G, hst, h2, h⟩

/-- cells written over -/
def stv (off : Nat) (new cs : List AV) : List AV := cs.take off ++ new ++ cs.drop (off + new.length)

theorem cells_rel {G : Ghost} {x : Value} {a : AV} (h : VRel G x a) (hv : ∀ y, a = .v y → y.cells = #[y]) : CellsRel G x.cells 0 a.cells := by
  have one : ∀ x : Value, x.cells = #[x] → ∀ a : AV, a.cells = [a] → VRel G x a → CellsRel G x.cells 0 a.cells := by
    intro x hx a ha h
    rw [hx, ha]
    refine ⟨by simp, fun i b hb => ?_⟩
    cases i with
    | zero => simp only [List.getElem?_cons_zero, Option.some.injEq] at hb; subst hb; simpa using h
    | succ i => simp at hb
  cases h with
  | agg hl hc => exact ⟨by simp [Value.cells, AV.cells, hl], fun i a ha => by simpa [Value.cells] using hc i a ha⟩
  | v x => exact one _ (hv x rfl) _ rfl (.v x)
  | lst h1 h2 h3 h4 h5 h6 => exact one _ rfl _ rfl (.lst h1 h2 h3 h4 h5 h6)
  | arr h1 h2 h3 h4 => exact one _ rfl _ rfl (.arr h1 h2 h3 h4)
  | arr0 h1 h2 => exact one _ rfl _ rfl (.arr0 h1 h2)
  | lst0 h1 h2 => exact one _ rfl _ rfl (.lst0 h1 h2)
  | ref h1 => exact one _ rfl _ rfl (.ref h1)
  | pin h1 h2 h3 => exact one _ rfl _ rfl (.pin h1 h2 h3)
  | tup h1 h2 => exact one _ rfl _ rfl (.tup h1 h2)
  | clo h1 h2 => exact one _ rfl _ rfl (.clo h1 h2)
  | ifc h1 => exact one _ rfl _ rfl (.ifc h1)
  | itr h1 => exact one _ rfl _ rfl (.itr h1)

theorem cells_of_one {x : Value} (h : x.oneCell' = true) : x.cells = #[x] := by cases x <;> first | rfl | simp [Value.oneCell'] at h

/-- all cells of a value may lie in cells -/
def AV.ones (a : AV) : Bool := a.cells.all AV.one

theorem cells_rel1 {G : Ghost} {x : Value} {a : AV} (h : VRel G x a) (ho : a.ones = true) : CellsRel G x.cells 0 a.cells ∧ x.cells.size = a.cells.length ∧ ∀ u ∈ x.cells.toList, u.oneCell' = true := by
  have hr : CellsRel G x.cells 0 a.cells := cells_rel h fun y e => by
    subst e
    have : y.oneCell' = true := by simpa [AV.ones, AV.cells, AV.one] using ho
    exact cells_of_one this
  have hsz : x.cells.size = a.cells.length := by
    cases h with
    | agg hl hc => simpa [Value.cells, AV.cells] using hl
    | v x =>
      have : x.oneCell' = true := by simpa [AV.ones, AV.cells, AV.one] using ho
      rw [cells_of_one this]; rfl
    | _ => rfl
  refine ⟨hr, hsz, fun u hu => ?_⟩
  obtain ⟨i, hi⟩ := List.mem_iff_getElem?.1 hu
  have hlt : i < a.cells.length := by have := (List.getElem?_eq_some_iff.1 hi).1; simp at this; omega
  have ha : a.cells[i]? = some a.cells[i] := List.getElem?_eq_getElem hlt
  have hv := hr.2 i _ ha
  simp only [Nat.zero_add] at hv
  have : x.cells.getD i undef = u := by simp only [Array.getElem?_toList] at hi; simp [Array.getD_eq_getD_getElem?, hi]
  rw [this] at hv
  exact oneCell_of hv (by simp only [AV.ones, List.all_eq_true] at ho; exact ho _ (List.getElem_mem hlt))

theorem stv_rel {G : Ghost} {cs new : Array Value} {acs anew : List AV} {off : Nat} (hc : CellsRel G cs 0 acs) (hn : CellsRel G new 0 anew) (hs : new.size = anew.length) (hf : off + anew.length ≤ acs.length) :
    CellsRel G (cs.toList.take off ++ new.toList ++ cs.toList.drop (off + new.size)).toArray 0 (stv off anew acs) := by
  have h1 := hc.1
  have h2 := hn.1
  refine ⟨by simp [stv]; omega, fun i a ha => ?_⟩
  simp only [stv] at ha
  simp only [Nat.zero_add]
  have hlen : (acs.take off).length = off := by simp; omega
  have hlen' : (cs.toList.take off).length = off := by simp; omega
  rw [List.append_assoc] at ha
  rw [List.append_assoc]
  by_cases h : i < off
  · rw [List.getElem?_append_left (by omega), List.getElem?_take, if_pos h] at ha
    have := hc.2 i a ha
    simpa [Array.getD_eq_getD_getElem?, List.getElem?_append, h, hlen', show i < cs.size by omega] using this
  · rw [List.getElem?_append_right (by omega), hlen] at ha
    by_cases h' : i - off < anew.length
    · rw [List.getElem?_append_left h'] at ha
      have := hn.2 _ a ha
      have hh : ¬ (i < off) := h
      simp only [Nat.zero_add] at this
      simpa [Array.getD_eq_getD_getElem?, List.getElem?_append, hlen', h, hs, h', show min off cs.size = off by omega] using this
    · rw [List.getElem?_append_right (by omega), List.getElem?_drop] at ha
      have := hc.2 _ a ha
      have e : off + anew.length + (i - off - anew.length) = i := by omega
      rw [e] at this
      simp only [Nat.zero_add] at this
      simpa [Array.getD_eq_getD_getElem?, List.getElem?_append, hlen', h, hs, h', show min off cs.size = off by omega, e] using this

theorem setRow_grown (w : World) (b : Nat) (cs : Array Value) : w.grownBy (w.setRow b cs) (some b) :=
  ⟨rfl, rfl, rfl, by simp, fun k _ hk => setRow_other w b k _ (fun e => hk (by simp [e]))⟩

theorem a_store {o : Oper} {env : Env} {σ : AHeap} {K : AHeap → Prop} {t : TypeId} {x y : Operand} {ag : Bool} {n id ver off : Nat} {ty : TypeId} {cs : List AV} {av : AV}
    (ho : o.op = .store t x y) (ht : tyK P t = some (ag, n)) (hx : opnd env x = some (.ref id ver off)) (hy : opnd env y = some av) (hid : σ id = some (.cells ver ty cs))
    (hone : av.ones = true) (hn : av.cells.length = n) (hfit : off + n ≤ cs.length) (h : K (upd σ id (.cells ver ty (stv off av.cells cs)))) : ASkip P o env σ K := by
  intro G w ρ hst hρ
  obtain ⟨b, N, hl, hxe⟩ := (hρ x _ hx).ref_inv
  obtain ⟨cs', hN, hb, hc, _⟩ := hst.row hid hl
  obtain ⟨hr, hsz, h1⟩ := cells_rel1 (hρ y _ hy) hone
  have hfit' := hc.1
  have hrow := run_storeCells_at (P := P) b off ty (ρ y).cells.toList 0 cs' w hb (by simp; omega) h1
  simp only [Nat.add_zero, Array.length_toList] at hrow
  refine ⟨w.setRow b (cs'.toList.take off ++ (ρ y).cells.toList ++ cs'.toList.drop (off + (ρ y).cells.size)).toArray, G, _, ?_, .refl G, ?_, h⟩
  · have h2 := (tyK_run ht w).2
    have h3 : (ρ y).cells.size = n := by omega
    simp [execOp, ho, Instr.storeAt, hxe, Instr.sureAddr, storeVar, h2, h3]
    rw [h3] at hrow
    rw [hrow, List.append_assoc]
    rfl
  · refine hst.turn_same hid rfl hl (setRow_grown _ _ _) ?_
    refine ⟨_, ?_, setRow_heap w b cs' _ ty _ hb, stv_rel hc hr hsz (by omega)⟩
    simp
    omega

end Go.AL
/- AL, part E: the rules for operations that only compute; memory made; parts of structs, slices, strings. -/
namespace Go.AL
open Go Go.RowKit

variable {P : Program}

/-- a string, by its bytes -/
abbrev str (l : List UInt8) : AV := .v (.string ⟨l.toArray⟩)
abbrev int (n : Int) : AV := .v (.int .i64 n)
abbrev boo (b : Bool) : AV := .v (.bool b)

theorem a_pure {o : Oper} {env : Env} {σ : AHeap} {K : AV → AHeap → Prop} {av : AV} (hr : ∀ (G : Ghost) (w : World) (ρ : Operand → Value), (∀ x a, opnd env x = some a → VRel G (ρ x) a) →
    ∃ v, (execOp ρ o).run P w = .ok (.value v) w ∧ VRel G v av) (h : K av σ) : AVal P o env σ K := by
  intro G w ρ hst hρ
  obtain ⟨v, h1, h2⟩ := hr G w ρ hρ
  exact ⟨v, w, G, av, σ, h1, .refl G, hst, h2, h⟩

theorem a_move {o : Oper} {env : Env} {σ : AHeap} {K : AV → AHeap → Prop} {x : Operand} {av : AV} (ho : o.op = .move x) (hx : opnd env x = some av) (h : K av σ) : AVal P o env σ K :=
  a_pure (fun G w ρ hρ => ⟨ρ x, by simp [execOp, ho], hρ x _ hx⟩) h
theorem a_assign {o : Oper} {env : Env} {σ : AHeap} {K : AV → AHeap → Prop} {x : Operand} {av : AV} (ho : o.op = .assign x) (hx : opnd env x = some av) (h : K av σ) : AVal P o env σ K :=
  a_pure (fun G w ρ hρ => ⟨ρ x, by simp [execOp, ho], hρ x _ hx⟩) h

theorem a_pick {o : Oper} {env : Env} {σ : AHeap} {K : AV → AHeap → Prop} {c x y : Operand} {b : Bool} {av : AV} (ho : o.op = .pick c x y) (hc : opnd env c = some (.v (.bool b)))
    (hx : (match b with | true => opnd env x | false => opnd env y) = some av) (h : K av σ) : AVal P o env σ K :=
  a_pure (fun G w ρ hρ => ⟨if b = true then ρ x else ρ y, by
    have := (hρ c _ hc).v_eq
    cases b <;> simp [execOp, ho, this, asBool], by
    cases b
    · simpa using hρ y _ hx
    · simpa using hρ x _ hx⟩) h

/-- both ways of a pick give a bool -/
theorem a_pick_bool {o : Oper} {env : Env} {σ : AHeap} {K : AV → AHeap → Prop} {c x y : Operand} {b b1 b2 : Bool} (ho : o.op = .pick c x y) (hc : opnd env c = some (.v (.bool b)))
    (hx : opnd env x = some (.v (.bool b1))) (hy : opnd env y = some (.v (.bool b2))) (h : K (.v (.bool (if b = true then b1 else b2))) σ) : AVal P o env σ K :=
  a_pure (fun G w ρ hρ => ⟨if b = true then ρ x else ρ y, by
    have := (hρ c _ hc).v_eq
    cases b <;> simp [execOp, ho, this, asBool], by
    have h1 := (hρ x _ hx).v_eq
    have h2 := (hρ y _ hy).v_eq
    cases b
    · simp only [Bool.false_eq_true, if_false]; rw [h2]; exact .v _
    · simp only [if_true]; rw [h1]; exact .v _⟩) h

theorem a_extract {o : Oper} {env : Env} {σ : AHeap} {K : AV → AHeap → Prop} {x : Operand} {ix : Nat} {avs : List AV} {av : AV} (ho : o.op = .extract x ix) (hx : opnd env x = some (.tup avs))
    (hi : avs[ix]? = some av) (h : K av σ) : AVal P o env σ K := by
  refine a_pure (fun G w ρ hρ => ?_) h
  have hv := hρ x _ hx
  generalize hxe : ρ x = v at hv
  cases hv with
  | @tup cs acs hl hc =>
    have hlt : ix < cs.size := by rw [hl]; exact (List.getElem?_eq_some_iff.1 hi).1
    exact ⟨cs.getD ix undef, by simp [execOp, ho, hxe, Instr.extract, hlt], hc ix av hi⟩

/-- a field: where it lies, whether it has several cells, how many -/
def fldK (P : Program) (s : TypeId) (f : Nat) : Option (Nat × Bool × Nat) :=
  match P.underlying s with
  | some (.struct fs) => match fs[f]? with
    | some fl => match tyK P fl.type with
      | some (ag, n) => some (fl.offset, ag, n)
      | none => none
    | none => none
  | _ => none

theorem fldK_inv {s : TypeId} {f off n : Nat} {ag : Bool} (h : fldK P s f = some (off, ag, n)) :
    ∃ fs fl, P.underlying s = some (.struct fs) ∧ fs[f]? = some fl ∧ tyK P fl.type = some (ag, n) ∧ fl.offset = off := by
  unfold fldK at h
  split at h
  · rename_i fs hs
    split at h
    · rename_i fl hf
      split at h
      · rename_i ag' n' ht
        simp only [Option.some.injEq, Prod.mk.injEq] at h
        obtain ⟨rfl, rfl, rfl⟩ := h
        exact ⟨fs, fl, hs, hf, ht, rfl⟩
      · exact absurd h (by simp)
    · exact absurd h (by simp)
  · exact absurd h (by simp)

theorem run_fieldAt {s : TypeId} {f off n : Nat} {ag : Bool} (h : fldK P s f = some (off, ag, n)) (hn : 0 < n) (w : World) (b o : Nat) :
    (Instr.fieldAt s (.pointer (some ⟨b, o, none⟩)) f).run P w = .ok (.pointer (some ⟨b, o + off, none⟩)) w := by
  obtain ⟨fs, fl, hs, hf, ht, rfl⟩ := fldK_inv h
  have h2 := (tyK_run ht w).2
  have : n ≠ 0 := by omega
  simp [Instr.fieldAt, run_underlying hs, hf, Instr.sureAddr, fieldPlace, h2, this, add_none]

theorem a_fieldAddr {o : Oper} {env : Env} {σ : AHeap} {K : AV → AHeap → Prop} {s : TypeId} {x : Operand} {f off n id ver off0 : Nat} {ag : Bool} (ho : o.op = .fieldAddr s x f)
    (ht : fldK P s f = some (off, ag, n)) (hn : Nat.blt 0 n = true) (hx : opnd env x = some (.ref id ver off0)) (h : K (.ref id ver (off0 + off)) σ) : AVal P o env σ K := by
  refine a_pure (fun G w ρ hρ => ?_) h
  obtain ⟨b, N, hl, hxe⟩ := (hρ x _ hx).ref_inv
  exact ⟨_, by simp [execOp, ho, hxe, run_fieldAt ht (by simpa [Nat.blt_eq] using hn)], .ref hl⟩

theorem a_fieldAddr_pin {o : Oper} {env : Env} {σ : AHeap} {K : AV → AHeap → Prop} {s : TypeId} {x : Operand} {f off n off0 : Nat} {ag : Bool} {cs : List AV} (ho : o.op = .fieldAddr s x f)
    (ht : fldK P s f = some (off, ag, n)) (hn : Nat.blt 0 n = true) (hx : opnd env x = some (.pin cs off0)) (h : K (.pin cs (off0 + off)) σ) : AVal P o env σ K := by
  refine a_pure (fun G w ρ hρ => ?_) h
  obtain ⟨b, o', cs', hf, hc, hxe⟩ := (hρ x _ hx).pin_inv
  refine ⟨_, by simp only [execOp, ho, hxe]; simp [run_fieldAt ht (by simpa [Nat.blt_eq] using hn)]; rfl, ?_⟩
  rw [Nat.add_assoc]
  exact .pin hf hc.1 hc.2

theorem part_rel {G : Ghost} {t : TypeId} {ag : Bool} {n : Nat} (ht : tyK P t = some (ag, n)) {cs : Array Value} {acs : List AV} (hl : cs.size = acs.length)
    (hc : ∀ i a, acs[i]? = some a → VRel G (cs.getD i undef) a) {off : Nat} {av : AV} (hv : ldv ag n off acs = some av) (w : World) :
    ∃ v, (part t cs off).run P w = .ok v w ∧ VRel G v av := by
  obtain ⟨h1, h2⟩ := tyK_run ht w
  have hcr : CellsRel G cs 0 acs := ⟨by omega, by simpa using hc⟩
  obtain ⟨k1, k2⟩ := ldv_rel hcr hv
  simp only [Nat.zero_add] at k1 k2
  cases ag with
  | false =>
    simp only [Bool.false_eq_true, if_false] at k1 k2
    refine ⟨cs.getD off undef, ?_, k2⟩
    simp [part, h1, k1]
  | true =>
    simp only [if_true] at k1 k2
    refine ⟨.agg (cs.extract off (off + n)), by simp [part, h1, h2], ?_⟩
    have e : cs.extract off (off + n) = ((List.range n).map fun j => cs.getD (off + j) undef).toArray := by
      apply Array.ext
      · simp; omega
      · intro i h3 h4
        simp at h3 h4
        simp [Array.getD_eq_getD_getElem?, show off + i < cs.size by omega]
    rw [e]; exact k2

theorem a_field {o : Oper} {env : Env} {σ : AHeap} {K : AV → AHeap → Prop} {s : TypeId} {x : Operand} {f off n : Nat} {ag : Bool} {cs : List AV} {av : AV} (ho : o.op = .field s x f)
    (ht : fldK P s f = some (off, ag, n)) (hx : opnd env x = some (.agg cs)) (hv : ldv ag n off cs = some av) (h : K av σ) : AVal P o env σ K := by
  refine a_pure (fun G w ρ hρ => ?_) h
  obtain ⟨fs, fl, hs, hf, ht', rfl⟩ := fldK_inv ht
  have hv' := hρ x _ hx
  generalize hxe : ρ x = v at hv'
  cases hv' with
  | agg hl hc =>
    obtain ⟨u, k1, k2⟩ := part_rel (P := P) ht' hl hc hv w
    exact ⟨u, by simp [execOp, ho, hxe, Instr.field, run_underlying hs, hf, asAgg, k1], k2⟩

/-- a pointer, an interface value that is not nil -/
theorem a_nilCheck {o : Oper} {env : Env} {σ : AHeap} {K : AV → AHeap → Prop} {x : Operand} {id ver off : Nat} (ho : o.op = .nilCheck x) (hx : opnd env x = some (.ref id ver off))
    (h : K (.ref id ver off) σ) : AVal P o env σ K := by
  refine a_pure (fun G w ρ hρ => ?_) h
  have hv := hρ x _ hx
  obtain ⟨b, N, hl, hxe⟩ := hv.ref_inv
  exact ⟨_, by simp [execOp, ho, hxe], hxe ▸ hv⟩
theorem a_nilCheck_pin {o : Oper} {env : Env} {σ : AHeap} {K : AV → AHeap → Prop} {x : Operand} {cs : List AV} {off : Nat} (ho : o.op = .nilCheck x) (hx : opnd env x = some (.pin cs off))
    (h : K (.pin cs off) σ) : AVal P o env σ K := by
  refine a_pure (fun G w ρ hρ => ?_) h
  have hv := hρ x _ hx
  obtain ⟨b, o', cs', hf, hc, hxe⟩ := hv.pin_inv
  exact ⟨_, by simp [execOp, ho, hxe], hxe ▸ hv⟩
theorem a_nilCheck_clo {o : Oper} {env : Env} {σ : AHeap} {K : AV → AHeap → Prop} {x : Operand} {f : FuncId} {cs : List AV} (ho : o.op = .nilCheck x) (hx : opnd env x = some (.clo f cs))
    (h : K (.clo f cs) σ) : AVal P o env σ K := by
  refine a_pure (fun G w ρ hρ => ?_) h
  have hv := hρ x _ hx
  generalize hxe : ρ x = v at hv
  cases hv with
  | clo hl hc => exact ⟨_, by simp [execOp, ho, hxe], .clo hl hc⟩

/-- what a type's zero value is made of -/
def zeroK (P : Program) (t : TypeId) : Option (List Value) :=
  match P.info? t with
  | some i => match i.zero with
    | some z => some z.cells.toList
    | none => none
  | none => none

theorem zeroK_run {t : TypeId} {zs : List Value} (h : zeroK P t = some zs) (w : World) : ∃ z, (zeroValue t).run P w = .ok z w ∧ z.cells.toList = zs := by
  unfold zeroK at h
  split at h
  · rename_i i hi
    split at h
    · rename_i z hz
      simp only [Option.some.injEq] at h
      exact ⟨z, by simp [zeroValue, typeInfo, hi, hz], h⟩
    · exact absurd h (by simp)
  · exact absurd h (by simp)

theorem vcells_rel (G : Ghost) (cs : Array Value) (o : Nat) (ho : o ≤ cs.size) : CellsRel G cs o ((cs.toList.drop o).map .v) := by
  refine ⟨by simp; omega, fun i a ha => ?_⟩
  simp only [List.getElem?_map, List.getElem?_drop] at ha
  cases e : cs.toList[o + i]? with
  | none => simp [e] at ha
  | some u =>
    simp only [e, Option.map_some, Option.some.injEq] at ha
    subst ha
    have : cs.getD (o + i) undef = u := by simp only [Array.getElem?_toList] at e; simp [Array.getD_eq_getD_getElem?, e]
    rw [this]; exact .v u

theorem run_newRow' (e : TypeId) (cs : Array Value) (w : World) : (newRow e cs).run P w = .ok ⟨w.heap.size, 0, none⟩ (w.alloc (.cells cs e (0, 0))) := rfl

theorem below_alloc (w : World) (o : Obj) : Below w.heap.size w (w.alloc o) := (Below.refl _ _).alloc (Nat.le_refl _) o
theorem alloc_at (w : World) (o : Obj) : (w.alloc o).heap[w.heap.size]? = some o := heap_alloc_new w o

/-- an object made of cells -/
theorem St.allocObj {G : Ghost} {σ : AHeap} {w : World} (h : St G σ w) {id : Nat} (hid : σ id = none) (hl : ∀ v, G.loc id v = none) {cs : Array Value} {ty : TypeId} {acs : List AV} (hc : CellsRel G cs 0 acs) :
    G.le (G.place id 0 w.heap.size cs.size) ∧ St (G.place id 0 w.heap.size cs.size) (upd σ id (.cells 0 ty acs)) (w.alloc (.cells cs ty (0, 0))) :=
  h.newObj (o := .cells 0 ty acs) hid hl (below_alloc w _) (Nat.le_refl _) ⟨cs, rfl, alloc_at w _, hc.mono (Ghost.place_le (hl 0))⟩

theorem a_alloc {o : Oper} {env : Env} {σ : AHeap} {K : AV → AHeap → Prop} {t : TypeId} {zs : List Value} (ho : o.op = .alloc t) (hz : zeroK P t = some zs)
    (h : ∀ id, σ id = none → K (.ref id 0 0) (upd σ id (.cells 0 t (zs.map .v)))) : AVal P o env σ K := by
  intro G w ρ hst hρ
  obtain ⟨id, h1, h2⟩ := hst.fresh
  obtain ⟨z, hz1, hz2⟩ := zeroK_run hz w
  have hc : CellsRel G z.cells 0 (zs.map .v) := by rw [← hz2]; simpa using vcells_rel G z.cells 0 (Nat.zero_le _)
  obtain ⟨k1, k2⟩ := hst.allocObj (ty := t) h1 h2 hc
  refine ⟨_, _, _, _, _, ?_, k1, k2, .ref (b := w.heap.size) (N := z.cells.size) (by simp [Ghost.place]), h id h1⟩
  simp [execOp, ho, Instr.alloc, hz1, newVar, run_newRow']

theorem a_box {o : Oper} {env : Env} {σ : AHeap} {K : AV → AHeap → Prop} {t : TypeId} {x : Operand} {av : AV} (ho : o.op = .box t x) (hx : opnd env x = some av) (hone : av.ones = true)
    (h : ∀ id, σ id = none → K (.ref id 0 0) (upd σ id (.cells 0 t av.cells))) : AVal P o env σ K := by
  intro G w ρ hst hρ
  obtain ⟨id, h1, h2⟩ := hst.fresh
  obtain ⟨hr, hsz, _⟩ := cells_rel1 (hρ x _ hx) hone
  obtain ⟨k1, k2⟩ := hst.allocObj (ty := t) h1 h2 hr
  refine ⟨_, _, _, _, _, ?_, k1, k2, .ref (b := w.heap.size) (N := (ρ x).cells.size) (by simp [Ghost.place]), h id h1⟩
  simp [execOp, ho, Instr.box, newVar, run_newRow']

/-- boxed, and only read from then on -/
theorem a_box_frz {o : Oper} {env : Env} {σ : AHeap} {K : AV → AHeap → Prop} {t : TypeId} {x : Operand} {av : AV} (ho : o.op = .box t x) (hx : opnd env x = some av) (hone : av.ones = true)
    (h : K (.pin av.cells 0) σ) : AVal P o env σ K := by
  intro G w ρ hst hρ
  obtain ⟨hr, hsz, _⟩ := cells_rel1 (hρ x _ hx) hone
  obtain ⟨k1, k2⟩ := hst.newFrz (below_alloc w (.cells (ρ x).cells t)) (Nat.le_refl _) (alloc_at w _)
  have hr' := hr.mono k1
  refine ⟨_, _, _, _, _, ?_, k1, k2, .pin (b := w.heap.size) (o := 0) (cs := (ρ x).cells) (by simp [Ghost.frz]) hr'.1 hr'.2, h⟩
  simp [execOp, ho, Instr.box, newVar, run_newRow']

/-- fill, over abstract cells -/
def fillA (place : Nat → Option (Nat × Nat)) (cells : List AV) : List (Nat × AV) → Option (List AV)
  | [] => some cells
  | (i, a) :: rest => match place i with
    | none => none
    | some (off, size) => match Nat.beq a.cells.length size && Nat.ble (off + size) cells.length && a.ones with
      | true => fillA place (stv off a.cells cells) rest
      | false => none

theorem foldl_set_aux : ∀ (new : List Value) (k off : Nat) (cs : Array Value), off + k + new.length ≤ cs.size →
    ((new.zipIdx k).foldl (fun cs (x : Value × Nat) => cs.setIfInBounds (off + x.2) x.1) cs) = (cs.toList.take (off + k) ++ new ++ cs.toList.drop (off + k + new.length)).toArray
  | [], k, off, cs, h => by simp
  | u :: r, k, off, cs, h => by
    simp only [List.zipIdx_cons, List.foldl_cons]
    simp only [List.length_cons] at h
    rw [foldl_set_aux r (k + 1) off _ (by simp; omega)]
    congr 1
    apply List.ext_getElem?
    intro j
    have e1 : off + (k + 1) = off + k + 1 := by omega
    simp only [Array.toList_setIfInBounds, e1, List.length_cons]
    simp only [List.append_assoc, List.getElem?_append, List.length_take, List.length_set, Array.length_toList, List.getElem?_take, List.getElem?_set, List.getElem?_drop, List.length_append, List.length_cons, List.cons_append, List.length_drop]
    have m1 : min (off + k + 1) cs.size = off + k + 1 := by omega
    have m2 : min (off + k) cs.size = off + k := by omega
    rw [m1, m2]
    by_cases h1 : j < off + k
    · rw [if_pos (by omega), if_pos (by omega), if_pos h1, if_pos h1, if_neg (by omega)]
    · by_cases h2 : j = off + k
      · subst h2
        have h5 : off + k < cs.size := by omega
        simp [h5]
      · rw [if_neg (by omega), if_neg h1]
        obtain ⟨i, rfl⟩ : ∃ i, j = off + k + 1 + i := ⟨j - (off + k + 1), by omega⟩
        have a1 : off + k + 1 + i - (off + k + 1) = i := by omega
        have a2 : off + k + 1 + i - (off + k) = i + 1 := by omega
        rw [a1, a2, List.getElem?_cons_succ, List.getElem?_append]
        by_cases h3 : i < r.length
        · rw [if_pos h3, if_pos h3]
        · rw [if_neg h3, if_neg h3, if_neg (by omega)]
          rw [List.getElem?_drop]
          congr 1
          omega

theorem foldl_set (cs new : Array Value) (off : Nat) (h : off + new.size ≤ cs.size) :
    (new.zipIdx.foldl (fun cs (x : Value × Nat) => cs.setIfInBounds (off + x.2) x.1) cs) = (cs.toList.take off ++ new.toList ++ cs.toList.drop (off + new.size)).toArray := by
  have := foldl_set_aux new.toList 0 off cs (by simpa using h)
  rw [← Array.foldl_toList]
  simpa using this

theorem fillA_rel {G : Ghost} {place : Nat → Option (Nat × Nat)} : ∀ (parts : List (Nat × Value)) (aparts : List (Nat × AV)) (cs : Array Value) (acs res : List AV),
    parts.length = aparts.length → (∀ (i : Nat) (p : Nat × AV), aparts[i]? = some p → ∃ q : Nat × Value, parts[i]? = some q ∧ q.1 = p.1 ∧ VRel G q.2 p.2) → CellsRel G cs 0 acs → cs.size = acs.length →
    fillA place acs aparts = some res → ∃ cs', Instr.fill place cs parts = some cs' ∧ CellsRel G cs' 0 res ∧ cs'.size = res.length
  | [], aparts, cs, acs, res, hl, hp, hc, hs, h => by
    have : aparts = [] := List.eq_nil_of_length_eq_zero (by simpa using hl.symm)
    subst this
    simp only [fillA, Option.some.injEq] at h
    subst h
    exact ⟨cs, rfl, hc, hs⟩
  | (j, x) :: r, [], cs, acs, res, hl, hp, hc, hs, h => by simp at hl
  | (j, x) :: r, (i, a) :: ar, cs, acs, res, hl, hp, hc, hs, h => by
    obtain ⟨q, hq, h1, h2⟩ := hp 0 _ rfl
    simp only [List.getElem?_cons_zero, Option.some.injEq] at hq
    subst hq
    simp only at h1 h2
    subst h1
    simp only [fillA] at h
    split at h
    · exact absurd h (by simp)
    · rename_i off size hpl
      split at h
      · rename_i hb
        simp only [Bool.and_eq_true] at hb
        obtain ⟨⟨hb1, hb2⟩, hb3⟩ := hb
        have hb1 := Nat.eq_of_beq_eq_true hb1
        have hb2 := Nat.le_of_ble_eq_true hb2
        obtain ⟨k1, k2, k3⟩ := cells_rel1 h2 hb3
        have hst := stv_rel (off := off) hc k1 k2 (by omega)
        have hsz : (cs.toList.take off ++ x.cells.toList ++ cs.toList.drop (off + x.cells.size)).toArray.size = (stv off a.cells acs).length := by
          simp [stv]; omega
        obtain ⟨cs', g1, g2, g3⟩ := fillA_rel r ar _ _ res (by simpa using hl) (fun i p hp' => hp (i + 1) p (by simpa using hp')) hst hsz h
        refine ⟨cs', ?_, g2, g3⟩
        have e : ¬ ((decide (x.cells.size ≠ size) || decide (off + x.cells.size > cs.size)) = true) := by simp; omega
        simp only [Instr.fill, hpl]
        have e2 := foldl_set cs x.cells off (by omega)
        rw [if_neg e]
        exact e2 ▸ g1
      · exact absurd h (by simp)

def opndps (env : Env) : List (Nat × Operand) → Option (List (Nat × AV))
  | [] => some []
  | (i, x) :: r => match opnd env x with
    | some a => match opndps env r with
      | some avs => some ((i, a) :: avs)
      | none => none
    | none => none

theorem opndps_rel {G : Ghost} {env : Env} {ρ : Operand → Value} (h : ∀ x a, opnd env x = some a → VRel G (ρ x) a) :
    ∀ (l : List (Nat × Operand)) (avs : List (Nat × AV)), opndps env l = some avs → (l.map fun (i, x) => (i, ρ x)).length = avs.length ∧
      ∀ (i : Nat) (p : Nat × AV), avs[i]? = some p → ∃ q : Nat × Value, (l.map fun (i, x) => (i, ρ x))[i]? = some q ∧ q.1 = p.1 ∧ VRel G q.2 p.2
  | [], avs, e => by simp only [opndps, Option.some.injEq] at e; subst e; simp
  | (j, x) :: r, avs, e => by
    simp only [opndps] at e
    split at e
    · rename_i a ha
      split at e
      · rename_i avs' hr
        simp only [Option.some.injEq] at e
        subst e
        obtain ⟨h1, h2⟩ := opndps_rel h r avs' hr
        refine ⟨by simpa using h1, fun i b hb => ?_⟩
        cases i with
        | zero => simp only [List.getElem?_cons_zero, Option.some.injEq] at hb; subst hb; exact ⟨(j, ρ x), rfl, rfl, h x _ ha⟩
        | succ i => simpa using h2 i b (by simpa using hb)
      · exact absurd e (by simp)
    · exact absurd e (by simp)

/-- what a struct's or an array's value is filled by: where the parts lie, the zero cells -/
def bldK (P : Program) (t : TypeId) : Option (List (Nat × Nat) × List Value) :=
  match P.info? t, P.underlying t with
  | some it, some (.array n e) => match it.zero, P.info? e with
    | some z, some ie => some ((List.range n).map fun i => (i * ie.size, ie.size), z.cells.toList)
    | _, _ => none
  | some it, some (.struct fields) => match it.zero, fields.toList.mapM (fun f => (P.info? f.type).map fun i => (f.offset, i.size)) with
    | some z, some ps => some (ps, z.cells.toList)
    | _, _ => none
  | _, _ => none

theorem fill_more {p1 p2 : Nat → Option (Nat × Nat)} (hp : ∀ i q, p1 i = some q → p2 i = some q) : ∀ (l : List (Nat × Value)) (cs res : Array Value), Instr.fill p1 cs l = some res → Instr.fill p2 cs l = some res
  | [], cs, res, h => h
  | (i, x) :: r, cs, res, h => by
    unfold Instr.fill at h ⊢
    cases e : p1 i with
    | none => rw [e] at h; exact absurd h (by simp)
    | some q =>
      rw [e] at h
      rw [hp i q e]
      dsimp only at h ⊢
      split at h
      · exact absurd h (by simp)
      · rename_i hc
        rw [if_neg hc]
        exact fill_more hp r _ _ h

theorem built_of {t : TypeId} {ps : List (Nat × Nat)} {zs : List Value} (h : bldK P t = some (ps, zs)) {parts : List (Nat × Value)} {cs : Array Value}
    (hf : Instr.fill (fun i => ps[i]?) zs.toArray parts = some cs) : P.built t parts = some cs := by
  unfold bldK at h
  split at h
  · rename_i it n e h1 h2
    split at h
    · rename_i z ie h3 h4
      simp only [Option.some.injEq, Prod.mk.injEq] at h
      obtain ⟨rfl, rfl⟩ := h
      simp only [Program.built, h1, h2, h3, h4]
      refine fill_more (fun i q hq => ?_) _ _ _ (by simpa using hf)
      cases e5 : (List.range n)[i]? with
      | none => simp [e5] at hq
      | some j =>
        have : j = i := by
          have := List.getElem?_eq_some_iff.1 e5
          obtain ⟨_, h5⟩ := this
          simpa using h5.symm
        subst this
        simpa [e5] using hq
    · exact absurd h (by simp)
  · rename_i it fields h1 h2
    split at h
    · rename_i z ps' h3 h4
      simp only [Option.some.injEq, Prod.mk.injEq] at h
      obtain ⟨rfl, rfl⟩ := h
      simp only [Program.built, h1, h2, h3, h4]
      simpa using hf
    · exact absurd h (by simp)
  · exact absurd h (by simp)

theorem CellsRel.agg {G : Ghost} {cs : Array Value} {acs : List AV} (h : CellsRel G cs 0 acs) (hs : cs.size = acs.length) : VRel G (.agg cs) (.agg acs) :=
  .agg hs (by simpa using h.2)

theorem a_build {o : Oper} {env : Env} {σ : AHeap} {K : AV → AHeap → Prop} {t : TypeId} {parts : List (Nat × Operand)} {ps : List (Nat × Nat)} {zs : List Value} {aps : List (Nat × AV)} {res : List AV}
    (ho : o.op = .build t parts.toArray) (ht : bldK P t = some (ps, zs)) (ha : opndps env parts = some aps) (hf : fillA (fun i => ps[i]?) (zs.map .v) aps = some res) (h : K (.agg res) σ) : AVal P o env σ K := by
  refine a_pure (fun G w ρ hρ => ?_) h
  obtain ⟨h1, h2⟩ := opndps_rel hρ parts aps ha
  have hz : CellsRel G zs.toArray 0 (zs.map .v) := by simpa using vcells_rel G zs.toArray 0 (Nat.zero_le _)
  obtain ⟨cs, k1, k2, k3⟩ := fillA_rel _ _ _ _ _ h1 h2 hz (by simp) hf
  have hb := built_of ht k1
  have hr := run_build (P := P) w t (parts.toArray.map fun (i, x) => (i, ρ x)) cs (by simpa using hb)
  refine ⟨.agg cs, ?_, k2.agg k3⟩
  simp only [List.map_toArray] at hr
  simp [execOp, ho, hr]

/-- a slice type's element, its size, its zero -/
def slcK (P : Program) (t : TypeId) : Option (TypeId × Nat × Nat × List Value) :=
  match P.underlying t with
  | some (.slice e) => match P.info? e with
    | some i => match i.zero with
      | some z => match Nat.beq z.cells.size i.size && Nat.blt 0 i.size with
        | true => some (e, i.size, i.bytes, z.cells.toList)
        | false => none
      | none => none
    | none => none
  | _ => none

theorem slcK_inv {t e : TypeId} {sz by_ : Nat} {zs : List Value} (h : slcK P t = some (e, sz, by_, zs)) :
    ∃ i z, P.underlying t = some (.slice e) ∧ P.info? e = some i ∧ i.zero = some z ∧ i.size = sz ∧ i.bytes = by_ ∧ z.cells.toList = zs ∧ z.cells.size = sz ∧ 0 < sz := by
  unfold slcK at h
  split at h
  · rename_i e' hu
    split at h
    · rename_i i hi
      split at h
      · rename_i z hz
        split at h
        · rename_i hb
          simp only [Bool.and_eq_true] at hb
          simp only [Option.some.injEq, Prod.mk.injEq] at h
          obtain ⟨rfl, rfl, rfl, rfl⟩ := h
          exact ⟨i, z, hu, hi, hz, rfl, rfl, rfl, Nat.eq_of_beq_eq_true hb.1, by simpa [Nat.blt_eq] using hb.2⟩
        · exact absurd h (by simp)
      · exact absurd h (by simp)
    · exact absurd h (by simp)
  · exact absurd h (by simp)

/-- the row that a slice's literal fills -/
def repZ (zs : List Value) (m : Nat) : List Value := (List.range m).map fun k => zs.getD (k % zs.length) undef

theorem run_buildSlice {t e : TypeId} {sz by_ : Nat} {zs : List Value} (h : slcK P t = some (e, sz, by_, zs)) (w : World) (len : Nat) (parts : Array (Nat × Value)) {cs : Array Value} (hlen : len * sz ≤ 16777216)
    (hf : Instr.fill (fun i => some (i * sz, sz)) (repZ zs (len * sz)).toArray parts.toList = some cs) :
    (Instr.buildSlice t len parts).run P w = .ok (.slice (some ⟨w.heap.size, 0, none⟩) len len) (w.alloc (.cells cs e (0, 0))) := by
  obtain ⟨i, z, hu, hi, hz, rfl, rfl, rfl, hs, hpos⟩ := slcK_inv h
  have e1 : ¬ (len * i.size > 2 ^ 24) := by omega
  have e3 : ∀ z' : Array Value, z' = (if len * i.size = 0 then #[] else z.cells) → ((Array.range (len * i.size)).map (z'[· % z'.size]!)) = (repZ z.cells.toList (len * i.size)).toArray := by
    intro z' hz'
    apply Array.ext
    · simp [repZ]
    · intro k h1 h2
      simp at h1
      have h0 : ¬ (len * i.size = 0) := by omega
      rw [if_neg h0] at hz'
      subst hz'
      have hlt : k % z.cells.size < z.cells.size := Nat.mod_lt _ (by omega)
      simp [repZ, hlt]
  have e2 : (if len * i.size = 0 then pure #[] else do pure (← zeroValue e).cells : Sem (Array Value)).run P w = .ok (if len * i.size = 0 then #[] else z.cells) w := by
    by_cases h0 : len * i.size = 0
    · simp [h0]
    · simp [h0, zeroValue, typeInfo, hi, hz]
  have e4 := e3 _ rfl
  have e5 : (sizeOf e).run P w = .ok i.size w := by simp [sizeOf, typeInfo, hi]
  have h2 : ¬ (2 ^ 24 < len * i.size) := by omega
  by_cases h0 : len * i.size = 0
  · have e6 : Instr.fill (fun j => some (j * i.size, i.size)) #[] parts.toList = some cs := by rw [h0] at hf; exact hf
    have e7 : ∀ f : Nat → Value, Array.map f (Array.range 0) = #[] := fun f => by simp [Array.range]
    simp [Instr.buildSlice, run_underlying hu, e5, h0]
    rw [e7, e6]
    simp [run_newRow']
  · have hzv : (zeroValue e).run P w = .ok z w := by simp [zeroValue, typeInfo, hi, hz]
    rw [if_neg h0] at e4
    rw [← e4] at hf
    simp [Instr.buildSlice, run_underlying hu, e5, h2, h0, hzv, hf, run_newRow']

theorem slice_lit_rel {G : Ghost} {t e : TypeId} {sz by_ : Nat} {zs : List Value} (ht : slcK P t = some (e, sz, by_, zs)) {len : Nat} (hlen : len * sz ≤ 16777216) {env : Env} {ρ : Operand → Value}
    (hρ : ∀ x a, opnd env x = some a → VRel G (ρ x) a) {parts : List (Nat × Operand)} {aps : List (Nat × AV)} {res : List AV} (ha : opndps env parts = some aps)
    (hf : fillA (fun i => some (i * sz, sz)) ((repZ zs (len * sz)).map .v) aps = some res) (w : World) :
    ∃ cs, (Instr.buildSlice t len (parts.toArray.map fun (i, x) => (i, ρ x))).run P w = .ok (.slice (some ⟨w.heap.size, 0, none⟩) len len) (w.alloc (.cells cs e (0, 0))) ∧
      CellsRel G cs 0 res ∧ cs.size = res.length ∧ res.length = len * sz := by
  obtain ⟨h1, h2⟩ := opndps_rel hρ parts aps ha
  have hz : CellsRel G (repZ zs (len * sz)).toArray 0 ((repZ zs (len * sz)).map .v) := by simpa using vcells_rel G (repZ zs (len * sz)).toArray 0 (Nat.zero_le _)
  obtain ⟨cs, k1, k2, k3⟩ := fillA_rel _ _ _ _ _ h1 h2 hz (by simp) hf
  refine ⟨cs, run_buildSlice (P := P) ht w len _ hlen (by simpa using k1), k2, k3, ?_⟩
  have : ∀ (aps : List (Nat × AV)) (acs res : List AV), fillA (fun i => some (i * sz, sz)) acs aps = some res → res.length = acs.length := by
    intro aps
    induction aps with
    | nil => intro acs res h; simp only [fillA, Option.some.injEq] at h; rw [h]
    | cons p r ih =>
      intro acs res h
      simp only [fillA] at h
      split at h
      · rename_i hb
        simp only [Bool.and_eq_true] at hb
        have hb1 := Nat.eq_of_beq_eq_true hb.1.1
        have hb2 := Nat.le_of_ble_eq_true hb.1.2
        rw [ih _ _ h]
        simp [stv]; omega
      · exact absurd h (by simp)
  rw [this _ _ _ hf]
  simp [repZ]

/-- a slice's literal, frozen from its making on -/
theorem a_buildSlice {o : Oper} {env : Env} {σ : AHeap} {K : AV → AHeap → Prop} {t e : TypeId} {len sz by_ : Nat} {zs : List Value} {parts : List (Nat × Operand)} {aps : List (Nat × AV)} {res : List AV}
    (ho : o.op = .buildSlice t len parts.toArray) (ht : slcK P t = some (e, sz, by_, zs)) (hlen : Nat.ble (len * sz) 16777216 = true) (ha : opndps env parts = some aps)
    (hf : fillA (fun i => some (i * sz, sz)) ((repZ zs (len * sz)).map .v) aps = some res) (h : K (.lst res len true) σ) : AVal P o env σ K := by
  intro G w ρ hst hρ
  have hlen' := Nat.le_of_ble_eq_true hlen
  obtain ⟨cs, k1, k2, k3, k4⟩ := slice_lit_rel ht hlen' hρ ha hf w
  obtain ⟨g1, g2⟩ := hst.newFrz (below_alloc w (.cells cs e)) (Nat.le_refl _) (alloc_at w _)
  have k2' := k2.mono g1
  have hpos := (slcK_inv ht).choose_spec.choose_spec.2.2.2.2.2.2.2
  have hl : len ≤ maxLen := by
    have : len ≤ len * sz := Nat.le_mul_of_pos_right _ hpos
    simp only [maxLen]; omega
  refine ⟨_, _, _, _, _, ?_, g1, g2, .lst (b := w.heap.size) (o := 0) (cap := len) (by simp [Ghost.frz]) (Nat.le_refl _) hl (fun _ => rfl) k2'.1 k2'.2, h⟩
  simp only [List.map_toArray] at k1
  simp [execOp, ho, k1]

/-- a slice's literal that is the call's own -/
theorem a_buildSlice_own {o : Oper} {env : Env} {σ : AHeap} {K : AV → AHeap → Prop} {t e : TypeId} {len sz by_ : Nat} {zs : List Value} {parts : List (Nat × Operand)} {aps : List (Nat × AV)} {res : List AV}
    (ho : o.op = .buildSlice t len parts.toArray) (ht : slcK P t = some (e, sz, by_, zs)) (hlen : Nat.ble (len * sz) 16777216 = true) (ha : opndps env parts = some aps)
    (hf : fillA (fun i => some (i * sz, sz)) ((repZ zs (len * sz)).map .v) aps = some res) (h : ∀ id, σ id = none → K (.arr id 0 0 len sz) (upd σ id (.cells 0 e res))) : AVal P o env σ K := by
  intro G w ρ hst hρ
  have hlen' := Nat.le_of_ble_eq_true hlen
  obtain ⟨cs, k1, k2, k3, k4⟩ := slice_lit_rel ht hlen' hρ ha hf w
  obtain ⟨id, h1, h2⟩ := hst.fresh
  obtain ⟨g1, g2⟩ := hst.allocObj (ty := e) h1 h2 k2
  have hpos := (slcK_inv ht).choose_spec.choose_spec.2.2.2.2.2.2.2
  have hl : len ≤ maxLen := by
    have : len ≤ len * sz := Nat.le_mul_of_pos_right _ hpos
    simp only [maxLen]; omega
  refine ⟨_, _, _, _, _, ?_, g1, g2, .arr (b := w.heap.size) (N := cs.size) (cap := len) (by simp [Ghost.place]) (by omega) (Nat.le_refl _) hl, h id h1⟩
  simp only [List.map_toArray] at k1
  simp [execOp, ho, k1]

end Go.AL
/- AL, part F: indexes, slices, lengths, append, copy. -/
namespace Go.AL
open Go Go.RowKit

variable {P : Program}

abbrev nilS : AV := .v (.slice none 0 0)

theorem VRel.lst_inv {G : Ghost} {x : Value} {acs : List AV} {n : Nat} {ex : Bool} (h : VRel G x (.lst acs n ex)) :
    (∃ a cap, acs = [] ∧ n = 0 ∧ x = .slice a 0 cap ∧ cap ≤ maxLen ∧ (ex = true → cap = 0)) ∨
    ∃ b o cap cs, G.fz b = some cs ∧ CellsRel G cs o acs ∧ n ≤ cap ∧ cap ≤ maxLen ∧ (ex = true → cap = n) ∧ x = .slice (some ⟨b, o, none⟩) n cap := by
  cases h with
  | lst h1 h2 h3 h4 h5 h6 => exact .inr ⟨_, _, _, _, h1, ⟨h5, h6⟩, h2, h3, h4, rfl⟩
  | lst0 h1 h2 => exact .inl ⟨_, _, rfl, rfl, rfl, h2, h1⟩

theorem VRel.arr_inv {G : Ghost} {x : Value} {id ver off n sz : Nat} (h : VRel G x (.arr id ver off n sz)) :
    (n = 0 ∧ 0 < off ∧ ∃ b o N, G.loc id ver = some (b, N) ∧ x = .slice (some ⟨b, o, none⟩) 0 0) ∨
    ∃ b N cap, G.loc id ver = some (b, N) ∧ off + cap * sz = N ∧ n ≤ cap ∧ cap ≤ maxLen ∧ x = .slice (some ⟨b, off, none⟩) n cap := by
  cases h with
  | arr h1 h2 h3 h4 => exact .inr ⟨_, _, _, h1, h2, h3, h4, rfl⟩
  | arr0 h1 h2 => exact .inl ⟨rfl, h2, _, _, _, h1, rfl⟩

/-- the size of a slice's element -/
def eszK (P : Program) (t : TypeId) : Option Nat :=
  match P.underlying t with
  | some (.slice e) => match P.info? e with
    | some i => some i.size
    | none => none
  | _ => none
theorem eszK_inv {t : TypeId} {sz : Nat} (h : eszK P t = some sz) : ∃ e i, P.underlying t = some (.slice e) ∧ P.info? e = some i ∧ i.size = sz := by
  unfold eszK at h
  split at h
  · rename_i e hu
    split at h
    · rename_i i hi; simp only [Option.some.injEq] at h; exact ⟨e, i, hu, hi, h⟩
    · exact absurd h (by simp)
  · exact absurd h (by simp)

theorem run_indexAt {t : TypeId} {sz : Nat} (h : eszK P t = some sz) (w : World) (b o n cap : Nat) (k : IntKind) {i : Int} {j : Nat} (hj : i.toNat = j) (h0 : 0 ≤ i) (hlt : i < n) :
    (Instr.indexAt t (.slice (some ⟨b, o, none⟩) n cap) (.int k i)).run P w = .ok (.pointer (some ⟨b, o + j * sz, none⟩)) w := by
  obtain ⟨e, it, hu, hi, rfl⟩ := eszK_inv h
  have h1 : (0 ≤ i ∧ i < (n : Int)) := ⟨h0, hlt⟩
  simp [Instr.indexAt, asIntOf, run_underlying hu, h1, sizeOf, typeInfo, hi, add_none, hj]

theorem a_indexAddr {o : Oper} {env : Env} {σ : AHeap} {K : AV → AHeap → Prop} {t : TypeId} {x y : Operand} {id ver off n sz sz' j : Nat} {k : IntKind} {i : Int} (ho : o.op = .indexAddr t x y)
    (ht : eszK P t = some sz') (hx : opnd env x = some (.arr id ver off n sz)) (hy : opnd env y = some (.v (.int k i))) (hj : i.toNat = j) (h0 : 0 ≤ i) (hlt : i < n)
    (h : K (.ref id ver (off + j * sz')) σ) : AVal P o env σ K := by
  refine a_pure (fun G w ρ hρ => ?_) h
  have hyv := (hρ y _ hy).v_eq
  rcases (hρ x _ hx).arr_inv with ⟨rfl, _⟩ | ⟨b, N, cap, h1, h2, h3, h4, h5⟩
  · omega
  · exact ⟨_, by simp [execOp, ho, h5, hyv, run_indexAt ht w b off n cap k hj h0 hlt], .ref h1⟩

theorem a_indexAddr_lst {o : Oper} {env : Env} {σ : AHeap} {K : AV → AHeap → Prop} {t : TypeId} {x y : Operand} {n sz' j : Nat} {cs : List AV} {ex : Bool} {k : IntKind} {i : Int} (ho : o.op = .indexAddr t x y)
    (ht : eszK P t = some sz') (hx : opnd env x = some (.lst cs n ex)) (hy : opnd env y = some (.v (.int k i))) (hj : i.toNat = j) (h0 : 0 ≤ i) (hlt : i < n)
    (h : K (.pin cs (j * sz')) σ) : AVal P o env σ K := by
  refine a_pure (fun G w ρ hρ => ?_) h
  have hyv := (hρ y _ hy).v_eq
  rcases (hρ x _ hx).lst_inv with ⟨_, _, _, rfl, _⟩ | ⟨b, o', cap, cs', h1, h2, h3, h4, h5, h6⟩
  · omega
  · exact ⟨_, by simp only [execOp, ho, h6, hyv]; simp [run_indexAt ht w b o' n cap k hj h0 hlt], .pin h1 h2.1 h2.2⟩

/-- an array's element size and length -/
def arrK (P : Program) (t : TypeId) : Option (Nat × Bool × Nat) :=
  match P.underlying t with
  | some (.array n e) => match tyK P e with
    | some (ag, sz) => some (n, ag, sz)
    | none => none
  | _ => none
theorem arrK_inv {t : TypeId} {n sz : Nat} {ag : Bool} (h : arrK P t = some (n, ag, sz)) : ∃ e, P.underlying t = some (.array n e) ∧ tyK P e = some (ag, sz) := by
  unfold arrK at h
  split at h
  · rename_i n' e hu
    split at h
    · rename_i ag' sz' hi; simp only [Option.some.injEq, Prod.mk.injEq] at h; obtain ⟨rfl, rfl, rfl⟩ := h; exact ⟨e, hu, hi⟩
    · exact absurd h (by simp)
  · exact absurd h (by simp)

/-- an element of an array's variable -/
theorem a_indexAddr_array {o : Oper} {env : Env} {σ : AHeap} {K : AV → AHeap → Prop} {t : TypeId} {x y : Operand} {id ver off n sz j : Nat} {ag : Bool} {k : IntKind} {i : Int} (ho : o.op = .indexAddr t x y)
    (ht : arrK P t = some (n, ag, sz)) (hx : opnd env x = some (.ref id ver off)) (hy : opnd env y = some (.v (.int k i))) (hj : i.toNat = j) (h0 : 0 ≤ i) (hlt : i < n)
    (h : K (.ref id ver (off + j * sz)) σ) : AVal P o env σ K := by
  refine a_pure (fun G w ρ hρ => ?_) h
  have hyv := (hρ y _ hy).v_eq
  obtain ⟨b, N, hl, hxe⟩ := (hρ x _ hx).ref_inv
  obtain ⟨e, hu, hs⟩ := arrK_inv ht
  have h1 : (0 ≤ i ∧ i < (n : Int)) := ⟨h0, hlt⟩
  exact ⟨_, by simp [execOp, ho, hxe, hyv, Instr.indexAt, asIntOf, run_underlying hu, Instr.sureAddr, h1, (tyK_run hs w).2, add_none, hj], .ref hl⟩

/-- an element of an array's value -/
theorem a_index_array {o : Oper} {env : Env} {σ : AHeap} {K : AV → AHeap → Prop} {t : TypeId} {x y : Operand} {n sz j : Nat} {ag : Bool} {k : IntKind} {i : Int} {cs : List AV} {av : AV} (ho : o.op = .index t x y)
    (ht : arrK P t = some (n, ag, sz)) (hx : opnd env x = some (.agg cs)) (hy : opnd env y = some (.v (.int k i))) (hj : i.toNat = j) (h0 : 0 ≤ i) (hlt : i < n)
    (hv : ldv ag sz (j * sz) cs = some av) (h : K av σ) : AVal P o env σ K := by
  refine a_pure (fun G w ρ hρ => ?_) h
  have hyv := (hρ y _ hy).v_eq
  obtain ⟨e, hu, hs⟩ := arrK_inv ht
  have h1 : (0 ≤ i ∧ i < (n : Int)) := ⟨h0, hlt⟩
  have hv' := hρ x _ hx
  generalize hxe : ρ x = v at hv'
  cases hv' with
  | agg hl hc =>
    obtain ⟨u, k1, k2⟩ := part_rel (P := P) hs hl hc hv w
    exact ⟨u, by simp [execOp, ho, hxe, hyv, Instr.index, asIntOf, run_underlying hu, h1, (tyK_run hs w).2, hj, k1], k2⟩

def isStr (P : Program) (t : TypeId) : Bool := match P.underlying t with | some .string => true | _ => false
theorem isStr_inv {t : TypeId} (h : isStr P t = true) : P.underlying t = some .string := by
  unfold isStr at h; split at h <;> first | assumption | exact absurd h (by simp)

/-- a string's byte -/
theorem a_index_str {o : Oper} {env : Env} {σ : AHeap} {K : AV → AHeap → Prop} {t : TypeId} {x y : Operand} {j : Nat} {k : IntKind} {i : Int} {l : List UInt8} {c : UInt8} (ho : o.op = .index t x y)
    (ht : isStr P t = true) (hx : opnd env x = some (str l)) (hy : opnd env y = some (.v (.int k i))) (hj : i.toNat = j) (h0 : 0 ≤ i)
    (hv : l[j]? = some c) (h : K (.v (.int .u8 (c.toNat : Int))) σ) : AVal P o env σ K := by
  refine a_pure (fun G w ρ hρ => ?_) h
  have hyv := (hρ y _ hy).v_eq
  have hxv := (hρ x _ hx).v_eq
  have hu := isStr_inv ht
  have hlt : j < l.length := (List.getElem?_eq_some_iff.1 hv).1
  have hg : (⟨l.toArray⟩ : ByteArray)[i.toNat]? = some c := by
    rw [hj, getElem?_pos (⟨l.toArray⟩ : ByteArray) j (by simpa [ByteArray.size] using hlt)]
    have : l[j] = c := by simpa [List.getElem?_eq_getElem hlt] using hv
    simpa [ByteArray.getElem_eq_getElem_data] using this
  exact ⟨_, by simp [execOp, ho, hxv, hyv, Instr.index, asIntOf, run_underlying hu, h0, hg], .v _⟩

/-- a bound of a slice: what is written, or what stands for nothing -/
def optI (env : Env) (d : Int) : Option Operand → Option Int
  | none => some d
  | some x => match opnd env x with
    | some (.v (.int _ i)) => some i
    | _ => none

theorem optI_run {G : Ghost} {env : Env} {ρ : Operand → Value} (hρ : ∀ x a, opnd env x = some a → VRel G (ρ x) a) {d : Int} {x : Option Operand} {i : Int} (h : optI env d x = some i) :
    (x = none ∧ i = d) ∨ ∃ y k, x = some y ∧ ρ y = .int k i := by
  cases x with
  | none => simp only [optI, Option.some.injEq] at h; exact .inl ⟨rfl, h.symm⟩
  | some y =>
    simp only [optI] at h
    split at h
    · rename_i k i' hy
      simp only [Option.some.injEq] at h
      subst h
      exact .inr ⟨y, k, rfl, (hρ y _ hy).v_eq⟩
    · exact absurd h (by simp)

theorem extract_list (l : List UInt8) (a b : Nat) : (⟨l.toArray⟩ : ByteArray).extract a b = ⟨((l.drop a).take (b - a)).toArray⟩ := by
  apply ByteArray.ext
  simp [ByteArray.data_extract]

theorem run_sliceBounds {G : Ghost} {env : Env} {ρ : Operand → Value} (hρ : ∀ x a, opnd env x = some a → VRel G (ρ x) a) {isS : Bool} {len cap : Nat} {lo hi : Option Operand} {li hi' : Int}
    (hlo : optI env 0 lo = some li) (hhi : optI env len hi = some hi') (h0 : 0 ≤ li) (h1 : li ≤ hi') (h2 : hi' ≤ cap) (w : World) :
    (Instr.sliceBounds isS len cap (lo.map ρ) (hi.map ρ) none).run P w = .ok (li.toNat, hi'.toNat, cap) w := by
  have hh0 : 0 ≤ hi' := by omega
  rcases optI_run hρ hlo with ⟨rfl, rfl⟩ | ⟨y, k, rfl, hy⟩ <;> rcases optI_run hρ hhi with ⟨rfl, rfl⟩ | ⟨y', k', rfl, hy'⟩
  · simp [Instr.sliceBounds]
  · simp [Instr.sliceBounds, Instr.sliceBound, hy', asIntOf, hh0, h2]
  · simp [Instr.sliceBounds, Instr.sliceBound, hy, asIntOf, h0, h1]
  · have : li ≤ (hi'.toNat : Int) := by omega
    simp [Instr.sliceBounds, Instr.sliceBound, hy, hy', asIntOf, h0, h2, hh0]
    intro hc
    exfalso
    omega

theorem a_slice_str {o : Oper} {env : Env} {σ : AHeap} {K : AV → AHeap → Prop} {t : TypeId} {x : Operand} {lo hi : Option Operand} {l : List UInt8} {li hi' : Int} (ho : o.op = .slice t x lo hi none)
    (ht : isStr P t = true) (hx : opnd env x = some (str l)) (hlo : optI env 0 lo = some li) (hhi : optI env l.length hi = some hi') (h0 : 0 ≤ li) (h1 : li ≤ hi') (h2 : hi' ≤ l.length)
    (h : K (str ((l.drop li.toNat).take (hi'.toNat - li.toNat))) σ) : AVal P o env σ K := by
  refine a_pure (fun G w ρ hρ => ?_) h
  have hxv := (hρ x _ hx).v_eq
  have hu := isStr_inv ht
  have hs : (⟨l.toArray⟩ : ByteArray).size = l.length := by simp [ByteArray.size]
  have hb := run_sliceBounds (P := P) (isS := false) (len := l.length) (cap := l.length) hρ hlo hhi h0 h1 h2 w
  exact ⟨_, by simp [execOp, ho, hxv, Instr.sliceAt, Instr.slice, run_underlying hu, hs, hb, extract_list], .v _⟩

theorem a_slice {o : Oper} {env : Env} {σ : AHeap} {K : AV → AHeap → Prop} {t : TypeId} {x : Operand} {lo hi : Option Operand} {id ver off n sz : Nat} {li hi' : Int} (ho : o.op = .slice t x lo hi none)
    (ht : eszK P t = some sz) (hp : 0 < sz) (hx : opnd env x = some (.arr id ver off n sz)) (hlo : optI env 0 lo = some li) (hhi : optI env n hi = some hi') (h0 : 0 ≤ li) (h1 : li ≤ hi') (h2 : hi' ≤ n)
    (h : K (.arr id ver (off + li.toNat * sz) (hi'.toNat - li.toNat) sz) σ) : AVal P o env σ K := by
  refine a_pure (fun G w ρ hρ => ?_) h
  obtain ⟨e, it, hu, hi0, rfl⟩ := eszK_inv ht
  have hs : (sizeOf e).run P w = .ok it.size w := by simp [sizeOf, typeInfo, hi0]
  rcases (hρ x _ hx).arr_inv with ⟨rfl, hoff, b, o', N, h3, h4⟩ | ⟨b, N, cap, h3, h4, h5, h6, h7⟩
  · have hb := run_sliceBounds (P := P) (isS := true) (len := 0) (cap := 0) hρ hlo hhi h0 h1 h2 w
    have e1 : li.toNat = 0 := by omega
    have e2 : hi'.toNat = 0 := by omega
    rw [e1, e2] at hb
    refine ⟨.slice (some ⟨b, o', none⟩) 0 0, by simp [execOp, ho, h4, Instr.sliceAt, Instr.slice, run_underlying hu, hb, hs], ?_⟩
    rw [e1, e2]
    exact .arr0 h3 (by omega)
  · have hb := run_sliceBounds (P := P) (isS := true) (len := n) (cap := cap) hρ hlo hhi h0 h1 (by omega) w
    refine ⟨.slice (some (if cap = li.toNat then ⟨b, off, none⟩ else ⟨b, off + li.toNat * it.size, none⟩)) (hi'.toNat - li.toNat) (cap - li.toNat), ?_, ?_⟩
    · simp only [execOp, ho, h7]
      simp [Instr.sliceAt, Instr.slice, run_underlying hu, hb, hs]
      split <;> simp [add_none]
    · split
      · rename_i hc
        have e1 : hi'.toNat - li.toNat = 0 := by omega
        have e2 : cap - li.toNat = 0 := by omega
        rw [e1, e2]
        by_cases hz : li.toNat = 0
        · rw [hz]
          have : cap = 0 := by omega
          subst this
          simp only [Nat.zero_mul, Nat.add_zero] at h4 ⊢
          exact .arr h3 (by omega) (Nat.le_refl _) (Nat.zero_le _)
        · refine .arr0 h3 ?_
          have : 0 < li.toNat * it.size := Nat.mul_pos (by omega) hp
          omega
      · refine .arr h3 ?_ (by omega) (by omega)
        rw [← h4, Nat.sub_mul]
        have : li.toNat * it.size ≤ cap * it.size := Nat.mul_le_mul_right _ (by omega)
        omega

theorem CellsRel.sub {G : Ghost} {cs : Array Value} {o : Nat} {acs : List AV} (h : CellsRel G cs o acs) (a m : Nat) (ha : a ≤ acs.length) : CellsRel G cs (o + a) ((acs.drop a).take m) := by
  have := h.1
  refine ⟨by simp; omega, fun i x hx => ?_⟩
  rw [List.getElem?_take] at hx
  split at hx
  · rw [List.getElem?_drop] at hx
    have := h.2 _ x hx
    rwa [Nat.add_assoc]
  · exact absurd hx (by simp)

theorem a_slice_lst {o : Oper} {env : Env} {σ : AHeap} {K : AV → AHeap → Prop} {t : TypeId} {x : Operand} {lo hi : Option Operand} {cs : List AV} {n sz : Nat} {ex : Bool} {li hi' : Int} (ho : o.op = .slice t x lo hi none)
    (ht : eszK P t = some sz) (hx : opnd env x = some (.lst cs n ex)) (hlo : optI env 0 lo = some li) (hhi : optI env n hi = some hi') (h0 : 0 ≤ li) (h1 : li ≤ hi') (h2 : hi' ≤ n) (hn : n * sz = cs.length)
    (h : K (.lst ((cs.drop (li.toNat * sz)).take ((hi'.toNat - li.toNat) * sz)) (hi'.toNat - li.toNat) false) σ) : AVal P o env σ K := by
  refine a_pure (fun G w ρ hρ => ?_) h
  obtain ⟨e, it, hu, hi0, rfl⟩ := eszK_inv ht
  have hs : (sizeOf e).run P w = .ok it.size w := by simp [sizeOf, typeInfo, hi0]
  rcases (hρ x _ hx).lst_inv with ⟨a, cap, rfl, rfl, h4, h5, h6⟩ | ⟨b, o', cap, cs', h3, h4, h5, h6, _, h7⟩
  · have hb := run_sliceBounds (P := P) (isS := true) (len := 0) (cap := cap) hρ hlo hhi h0 h1 (by omega) w
    have e1 : li.toNat = 0 := by omega
    have e2 : hi'.toNat = 0 := by omega
    rw [e1, e2] at hb
    refine ⟨.slice a 0 cap, ?_, ?_⟩
    · simp [execOp, ho, h4, Instr.sliceAt, Instr.slice, run_underlying hu, hb, hs]
      cases a <;> simp [Addr.add]
    · rw [e1, e2]; simpa using VRel.lst0 (G := G) (a := a) (ex := false) (by simp) h5
  · have hb := run_sliceBounds (P := P) (isS := true) (len := n) (cap := cap) hρ hlo hhi h0 h1 (by omega) w
    refine ⟨.slice (some (if cap = li.toNat then ⟨b, o', none⟩ else ⟨b, o' + li.toNat * it.size, none⟩)) (hi'.toNat - li.toNat) (cap - li.toNat), ?_, ?_⟩
    · simp only [execOp, ho, h7]
      simp [Instr.sliceAt, Instr.slice, run_underlying hu, hb, hs]
      split <;> simp [add_none]
    · split
      · rename_i hc
        have e1 : hi'.toNat - li.toNat = 0 := by omega
        have e2 : cap - li.toNat = 0 := by omega
        rw [e1, e2]
        simpa using VRel.lst0 (G := G) (cap := 0) (ex := false) (by simp) (Nat.zero_le _)
      · have hle : li.toNat * it.size ≤ cs.length := by rw [← hn]; exact Nat.mul_le_mul_right _ (by omega)
        have hc := h4.sub (li.toNat * it.size) ((hi'.toNat - li.toNat) * it.size) hle
        exact .lst h3 (by omega) (by omega) (by simp) hc.1 hc.2

/-- a length -/
def lenA : AV → Option Int
  | .v (.string s) => some s.size
  | .v (.slice _ n _) => some n
  | .lst _ n _ => some n
  | .arr _ _ _ n _ => some n
  | _ => none

end Go.AL
/- AL, part G: lengths, append. -/
namespace Go.AL
open Go Go.RowKit

variable {P : Program}

def isSl (P : Program) (t : TypeId) : Bool := match P.underlying t with | some (.slice _) => true | _ => false
theorem isSl_inv {t : TypeId} (h : isSl P t = true) : ∃ e, P.underlying t = some (.slice e) := by
  unfold isSl at h; split at h <;> first | exact ⟨_, by assumption⟩ | exact absurd h (by simp)

theorem a_len_str {o : Oper} {env : Env} {σ : AHeap} {K : AV → AHeap → Prop} {t : TypeId} {x : Operand} {l : List UInt8} (ho : o.op = .call { callee := .builtin .len, args := #[x], argTypes := #[t] })
    (ht : isStr P t = true) (hx : opnd env x = some (str l)) (h : K (int (l.length : Int)) σ) : AVal P o env σ K := by
  refine a_pure (fun G w ρ hρ => ?_) h
  have hxv := (hρ x _ hx).v_eq
  have hs : (⟨l.toArray⟩ : ByteArray).size = l.length := by simp [ByteArray.size]
  exact ⟨_, by simp [execOp, ho, resolve, invoke, builtin, Builtin.len_, hxv, run_underlying (isStr_inv ht), goInt, hs], .v _⟩

theorem a_len {o : Oper} {env : Env} {σ : AHeap} {K : AV → AHeap → Prop} {t : TypeId} {x : Operand} {id ver off n sz : Nat} (ho : o.op = .call { callee := .builtin .len, args := #[x], argTypes := #[t] })
    (ht : isSl P t = true) (hx : opnd env x = some (.arr id ver off n sz)) (h : K (int (n : Int)) σ) : AVal P o env σ K := by
  refine a_pure (fun G w ρ hρ => ?_) h
  obtain ⟨e, hu⟩ := isSl_inv ht
  have : ∃ a cap, ρ x = .slice a n cap := by
    rcases (hρ x _ hx).arr_inv with ⟨rfl, _, b, o', N, _, h4⟩ | ⟨b, N, cap, _, _, _, _, h7⟩
    · exact ⟨_, _, h4⟩
    · exact ⟨_, _, h7⟩
  obtain ⟨a, cap, hxv⟩ := this
  exact ⟨_, by simp [execOp, ho, resolve, invoke, builtin, Builtin.len_, hxv, run_underlying hu, goInt], .v _⟩

theorem a_len_lst {o : Oper} {env : Env} {σ : AHeap} {K : AV → AHeap → Prop} {t : TypeId} {x : Operand} {cs : List AV} {n : Nat} {ex : Bool} (ho : o.op = .call { callee := .builtin .len, args := #[x], argTypes := #[t] })
    (ht : isSl P t = true) (hx : opnd env x = some (.lst cs n ex)) (h : K (int (n : Int)) σ) : AVal P o env σ K := by
  refine a_pure (fun G w ρ hρ => ?_) h
  obtain ⟨e, hu⟩ := isSl_inv ht
  have : ∃ a cap, ρ x = .slice a n cap := by
    rcases (hρ x _ hx).lst_inv with ⟨a, cap, _, rfl, h4, _⟩ | ⟨b, o', cap, cs', _, _, _, _, _, h7⟩
    · exact ⟨_, _, h4⟩
    · exact ⟨_, _, h7⟩
  obtain ⟨a, cap, hxv⟩ := this
  exact ⟨_, by simp [execOp, ho, resolve, invoke, builtin, Builtin.len_, hxv, run_underlying hu, goInt], .v _⟩

theorem a_len_nil {o : Oper} {env : Env} {σ : AHeap} {K : AV → AHeap → Prop} {t : TypeId} {x : Operand} (ho : o.op = .call { callee := .builtin .len, args := #[x], argTypes := #[t] })
    (ht : isSl P t = true) (hx : opnd env x = some nilS) (h : K (int 0) σ) : AVal P o env σ K := by
  refine a_pure (fun G w ρ hρ => ?_) h
  obtain ⟨e, hu⟩ := isSl_inv ht
  have hxv := (hρ x _ hx).v_eq
  exact ⟨_, by simp [execOp, ho, resolve, invoke, builtin, Builtin.len_, hxv, run_underlying hu, goInt], .v _⟩

/-- what is appended, copied: its cells, its length -/
inductive Src (σ : AHeap) (sz : Nat) : AV → List AV → Nat → Prop where
  | lst {cs : List AV} {n : Nat} {ex : Bool} (h : n * sz = cs.length) : Src σ sz (.lst cs n ex) cs n
  | nil : Src σ sz nilS [] 0
  | arr {id ver off n : Nat} {ty : TypeId} {cs : List AV} (h : σ id = some (.cells ver ty cs)) (hf : off + n * sz ≤ cs.length) : Src σ sz (.arr id ver off n sz) ((cs.drop off).take (n * sz)) n

theorem Src.length {σ : AHeap} {sz : Nat} {av : AV} {acs : List AV} {m : Nat} (h : Src σ sz av acs m) : acs.length = m * sz := by
  cases h with
  | lst h => exact h.symm
  | nil => simp
  | arr h hf => simp; omega

/-- cells of a row avs a list -/
theorem CellsRel.news {G : Ghost} {w : World} {b : Nat} {cs : Array Value} {ty : TypeId} {fr : Nat × Nat} (hb : w.heap[b]? = some (.cells cs ty fr)) {o : Nat} {acs : List AV} (h : CellsRel G cs o acs) :
    ∃ news : List Value, news.length = acs.length ∧ (∀ j u, news[j]? = some u → w.cell? ((⟨b, o, none⟩ : Addr).add j) = some u) ∧ CellsRel G news.toArray 0 acs := by
  have h1 := h.1
  refine ⟨(cs.toList.drop o).take acs.length, by simp; omega, fun j u hj => ?_, ?_⟩
  · rw [List.getElem?_take] at hj
    split at hj
    · rw [List.getElem?_drop] at hj
      rw [add_none, cell_of_heap hb (by omega)]
      simp only [Array.getElem?_toList] at hj
      simp [Array.getD_eq_getD_getElem?, hj]
    · exact absurd hj (by simp)
  · refine ⟨by simp; omega, fun i a ha => ?_⟩
    have hi := (List.getElem?_eq_some_iff.1 ha).1
    have := h.2 i a ha
    simpa [Array.getD_eq_getD_getElem?, List.getElem?_take, hi] using this

theorem Src.rel {G : Ghost} {σ : AHeap} {w : World} (hst : St G σ w) {sz : Nat} {av : AV} {acs : List AV} {m : Nat} (h : Src σ sz av acs m) {x : Value} (hx : VRel G x av) :
    (m = 0 ∧ acs = [] ∧ ∃ a c, x = .slice a 0 c ∧ (a = none → x = .slice none 0 0 ∨ ∃ c, x = .slice none 0 c)) ∨
    ∃ a c, ∃ news : List Value, x = .slice (some a) m c ∧ news.length = acs.length ∧ (∀ j u, news[j]? = some u → w.cell? (a.add j) = some u) ∧ CellsRel G news.toArray 0 acs := by
  cases h with
  | nil =>
    have := hx.v_eq
    exact .inl ⟨rfl, rfl, none, 0, this, fun _ => .inl this⟩
  | lst h =>
    rcases hx.lst_inv with ⟨a, cap, rfl, rfl, h4, _⟩ | ⟨b, o', cap, cs', h1, h2, _, _, _, h7⟩
    · exact .inl ⟨rfl, rfl, a, cap, h4, fun e => .inr ⟨cap, by rw [h4, e]⟩⟩
    · obtain ⟨ty, fr, hb⟩ := hst.fz _ _ h1
      obtain ⟨news, k1, k2, k3⟩ := h2.news hb
      exact .inr ⟨_, _, news, h7, k1, k2, k3⟩
  | arr h hf =>
    rcases hx.arr_inv with ⟨rfl, _, b, o', N, _, h4⟩ | ⟨b, N, cap, h1, h2, h3, h4, h7⟩
    · exact .inl ⟨rfl, by simp, _, _, h4, fun e => by simp at e⟩
    · obtain ⟨cs', hN, hb, hc, _⟩ := hst.row h h1
      have hc' := hc.sub _ (m * sz) (Nat.le_trans (Nat.le_add_right _ _) hf)
      rw [Nat.zero_add] at hc'
      obtain ⟨news, k1, k2, k3⟩ := hc'.news hb
      exact .inr ⟨_, _, news, h7, k1, k2, k3⟩

theorem ones_news {G : Ghost} {news : List Value} {acs : List AV} (hl : news.length = acs.length) (hc : CellsRel G news.toArray 0 acs) (ho : acs.all AV.one = true) : ∀ u ∈ news, u.oneCell' = true := by
  intro u hu
  obtain ⟨i, hi⟩ := List.mem_iff_getElem?.1 hu
  have hlt : i < acs.length := by have := (List.getElem?_eq_some_iff.1 hi).1; omega
  have := hc.2 i _ (List.getElem?_eq_getElem hlt)
  simp only [Nat.zero_add] at this
  have e : news.toArray.getD i undef = u := by simp [Array.getD_eq_getD_getElem?, hi]
  rw [e] at this
  exact oneCell_of this (by simp only [List.all_eq_true] at ho; exact ho _ (List.getElem_mem hlt))

/-- two lists one behind the other -/
theorem CellsRel.append {G : Ghost} {xs ys : List Value} {avs bs : List AV} (hl : xs.length = avs.length) (h : CellsRel G xs.toArray 0 avs) (k : CellsRel G ys.toArray 0 bs) : CellsRel G (xs ++ ys).toArray 0 (avs ++ bs) := by
  have h1 := h.1
  have k1 := k.1
  simp at h1 k1
  refine ⟨by simp; omega, fun i a ha => ?_⟩
  rw [List.getElem?_append] at ha
  split at ha
  · rename_i hi
    have := h.2 i a ha
    simpa [Array.getD_eq_getD_getElem?, List.getElem?_append, hl, hi] using this
  · rename_i hi
    have := k.2 _ a ha
    simpa [Array.getD_eq_getD_getElem?, List.getElem?_append, hl, hi] using this

/-- a longer row that begins so -/
theorem CellsRel.of_take {G : Ghost} {xs : List Value} {acs : List AV} (h : CellsRel G xs.toArray 0 acs) {cur : Array Value} (e : cur.toList.take xs.length = xs) : CellsRel G cur 0 acs := by
  have h1 := h.1
  simp at h1
  have hl : xs.length ≤ cur.size := by have := congrArg List.length e; simp at this; omega
  refine ⟨by omega, fun i a ha => ?_⟩
  have hi : i < xs.length := by have := (List.getElem?_eq_some_iff.1 ha).1; omega
  have := h.2 i a ha
  have e2 : xs[i]? = cur[i]? := by
    rw [← e, List.getElem?_take, if_pos hi]
    simp
  simp only [Nat.zero_add, Array.getD_eq_getD_getElem?, List.getElem?_toArray] at this ⊢
  rwa [e2] at this

theorem exec_append {o : Oper} {ρ : Operand → Value} {s x : Operand} {t : TypeId} (ho : o.op = .call { callee := .builtin .append, args := #[s, x], argTypes := #[t, t] }) (w : World) {v : Value} {w' : World}
    (h : (Builtin.append_ #[t, t] o.type #[ρ s, ρ x]).run P w = .ok v w') : (execOp ρ o).run P w = .ok (.value v) w' := by
  simp [execOp, ho, resolve, invoke, builtin, h]

theorem ownsRow_split {w : World} {base : Nat} {e : TypeId} {sz : Nat} {v : Value} {n : Nat} {xs : List Value} (h : w.ownsRow base e sz v n xs) (hv : v ≠ .slice none 0 0) :
    ∃ g cap cur, v = .slice (some ⟨g, 0, none⟩) n cap ∧ base ≤ g ∧ w.heap[g]? = some (.cells cur e (0, 0)) ∧ n ≤ cap ∧ cap ≤ maxLen ∧ cur.size = cap * sz ∧ cur.toList.take xs.length = xs := by
  rcases h.2 with ⟨e, _⟩ | ⟨g, cap, cur, h1, h2, h3, h4, h5, h6, h7⟩
  · exact absurd e hv
  · exact ⟨g, cap, cur, h1, h2, h3, h4, h5, h6, by rw [h.1]; exact h7⟩

/-- append onto a slice of the call's own -/
theorem a_append {o : Oper} {env : Env} {σ : AHeap} {K : AV → AHeap → Prop} {t e : TypeId} {s x : Operand} {id ver n m sz by_ : Nat} {zs : List Value} {cs acs : List AV} {av : AV}
    (ho : o.op = .call { callee := .builtin .append, args := #[s, x], argTypes := #[t, t] }) (ht : slcK P t = some (e, sz, by_, zs)) (hs : opnd env s = some (.arr id ver 0 n sz))
    (hid : σ id = some (.cells ver e cs)) (hn : n * sz ≤ cs.length) (hx : opnd env x = some av) (hsrc : Src σ sz av acs m) (hone : acs.all AV.one = true)
    (hb : (n + m) * by_ ≤ 140737488355328) (hm : n + m ≤ maxLen)
    (h : ∀ ver', K (.arr id ver' 0 (n + m) sz) (upd σ id (.cells ver' e (cs.take (n * sz) ++ acs)))) : AVal P o env σ K := by
  intro G w ρ hst hρ
  obtain ⟨i, z, hu, hi, hz, rfl, rfl, rfl, hzs, hpos⟩ := slcK_inv ht
  have hsv := hρ s _ hs
  rcases hsv.arr_inv with ⟨_, h0, _⟩ | ⟨b, N, cap, l1, l2, l3, l4, l5⟩
  · omega
  obtain ⟨cs', hN, hb', hc, hB⟩ := hst.row hid l1
  have hc' := (hc.sub 0 (n * i.size) (Nat.zero_le _))
  simp only [Nat.zero_add, List.drop_zero] at hc'
  -- the row that the call owns
  have hown : w.ownsRow G.B e i.size (.slice (some ⟨b, 0, none⟩) n cap) n (cs'.toList.take (n * i.size)) := by
    have := hc.1
    refine ⟨by simp; omega, .inr ⟨b, cap, cs', rfl, hB, hb', l3, l4, by omega, rfl⟩⟩
  have hBw : G.B ≤ w.heap.size := Nat.le_trans hst.hB hst.old.size
  obtain ⟨ver', hver⟩ := hst.freshVer id
  have hx' := hρ x _ hx
  have hlen := hsrc.length
  -- what comes of it, whichever source it was
  have fin : ∀ (news : List Value) (v' : Value) (w' : World), news.length = acs.length → CellsRel G news.toArray 0 acs → (Builtin.append_ #[t, t] o.type #[ρ s, ρ x]).run P w = .ok v' w' →
      w'.ownsRow G.B e i.size v' (n + m) (cs'.toList.take (n * i.size) ++ news) → w.grownBy w' (some b) → v' ≠ .slice none 0 0 → (v'.ownBlock = some b ∨ v'.ownBlock = some w.heap.size) →
      ∃ v w' G' av σ', (execOp ρ o).run P w = .ok (.value v) w' ∧ G.le G' ∧ St G' σ' w' ∧ VRel G' v av ∧ K av σ' := by
    intro news v' w' hnl hnc hr how hgr hne hblk
    obtain ⟨g, cap', cur, k1, k2, k3, k4, k5, k6, k7⟩ := ownsRow_split how hne
    subst k1
    have hrel : CellsRel G cur 0 (cs.take (n * i.size) ++ acs) := by
      refine CellsRel.of_take (xs := cs'.toList.take (n * i.size) ++ news) (CellsRel.append ?_ ?_ hnc) k7
      · have := hc.1; simp; omega
      · refine ⟨by have := hc.1; simp; omega, fun j a ha => ?_⟩
        have hj : j < n * i.size := by have := (List.getElem?_eq_some_iff.1 ha).1; simp at this; omega
        have := hc'.2 j a ha
        simpa [Array.getD_eq_getD_getElem?, List.getElem?_take, hj] using this
    have hg : g = b ∨ w.heap.size ≤ g := by
      rcases hblk with e | e <;> simp [Value.ownBlock] at e
      · exact .inl e
      · exact .inr (by omega)
    have hle := Ghost.place_le (G := G) (id := id) (ver := ver') (b := g) (N := cur.size) hver
    refine ⟨_, w', G.place id ver' g cur.size, .arr id ver' 0 (n + m) i.size, _, exec_append ho w hr, hle, ?_, ?_, h ver'⟩
    · exact hst.turn_new (o' := .cells ver' e (cs.take (n * i.size) ++ acs)) hid hver l1 hgr hg ⟨cur, rfl, k3, hrel.mono hle⟩
    · exact .arr (b := g) (N := cur.size) (by simp [Ghost.place]) (by omega) k4 k5
  rcases hsrc.rel hst hx' with ⟨rfl, rfl, a, c, q1, q2⟩ | ⟨a, c, news, q1, q2, q3, q4⟩
  · have hnil : (Builtin.append_ #[t, t] o.type #[ρ s, ρ x]).run P w = .ok (ρ s) w := by
      rw [q1, l5]
      have := l3
      cases a <;> simp [Builtin.append_, run_underlying hu, sizeOf, typeInfo, hi, Builtin.lenOf, Builtin.firstCells, this, storeCells, loadCells, loadCellsFrom]
    refine fin [] (ρ s) w (by simp) ⟨by simp, by simp⟩ hnil ?_ ⟨rfl, rfl, rfl, Nat.le_refl _, fun _ _ _ => rfl⟩ (by rw [l5]; simp) (by rw [l5]; exact .inl rfl)
    rw [l5]; simpa using hown
  · obtain ⟨v', w', r1, r2, r3, r4, r5⟩ := run_append_own_at (P := P) w G.B t o.type e i z i.size i.bytes hu hi hz rfl rfl hzs hpos _ n _ hown a m c news (by omega) q3 (ones_news q2 q4 hone) hm hb hBw
    refine fin news v' w' q2 q4 (by rw [q1, l5]; exact r1) r2 r3 ?_ r5
    intro e
    have := (r4.1 e).1
    simp at this

/-- append onto nil -/
theorem a_append_nil {o : Oper} {env : Env} {σ : AHeap} {K : AV → AHeap → Prop} {t e : TypeId} {s x : Operand} {m sz by_ : Nat} {zs : List Value} {acs : List AV} {av : AV}
    (ho : o.op = .call { callee := .builtin .append, args := #[s, x], argTypes := #[t, t] }) (ht : slcK P t = some (e, sz, by_, zs)) (hs : opnd env s = some nilS)
    (hx : opnd env x = some av) (hsrc : Src σ sz av acs m) (hone : acs.all AV.one = true) (hb : m * by_ ≤ 140737488355328) (hm : m ≤ maxLen)
    (h0 : m = 0 → K nilS σ) (h : 0 < m → ∀ id, σ id = none → K (.arr id 0 0 m sz) (upd σ id (.cells 0 e acs))) : AVal P o env σ K := by
  intro G w ρ hst hρ
  obtain ⟨i, z, hu, hi, hz, rfl, rfl, rfl, hzs, hpos⟩ := slcK_inv ht
  have hsv := (hρ s _ hs).v_eq
  have hBw : G.B ≤ w.heap.size := Nat.le_trans hst.hB hst.old.size
  have hx' := hρ x _ hx
  have hlen := hsrc.length
  by_cases hm0 : m = 0
  · subst hm0
    have hnil : (Builtin.append_ #[t, t] o.type #[ρ s, ρ x]).run P w = .ok (.slice none 0 0) w := by
      rw [hsv]
      rcases hsrc.rel hst hx' with ⟨_, _, a, c, q1, q2⟩ | ⟨a, c, news, q1, q2, q3, q4⟩
      · rw [q1]; cases a <;> simp [Builtin.append_, run_underlying hu, sizeOf, typeInfo, hi, Builtin.lenOf, Builtin.firstCells, loadCells, loadCellsFrom]
      · rw [q1]; simp [Builtin.append_, run_underlying hu, sizeOf, typeInfo, hi, Builtin.lenOf, Builtin.firstCells, loadCells, loadCellsFrom]
    exact ⟨_, w, G, nilS, σ, exec_append ho w hnil, .refl G, hst, .v _, h0 rfl⟩
  · rcases hsrc.rel hst hx' with ⟨e, _⟩ | ⟨a, c, news, q1, q2, q3, q4⟩
    · exact absurd e hm0
    obtain ⟨v', w', r1, r2, r3, r4, r5⟩ := run_append_own_at (P := P) w w.heap.size t o.type e i z i.size i.bytes hu hi hz rfl rfl hzs hpos (.slice none 0 0) 0 [] (World.ownsRow_nil _ _ _ _) a m c news (by omega) q3
      (ones_news q2 q4 hone) (by simpa using hm) (by simpa using hb) (Nat.le_refl _)
    simp only [Nat.zero_add, List.nil_append] at r2
    obtain ⟨g, cap', cur, k1, k2, k3, k4, k5, k6, k7⟩ := ownsRow_split r2 (fun e => by have := (r4.1 e).2; omega)
    subst k1
    obtain ⟨id, f1, f2⟩ := hst.fresh
    have hrel := q4.of_take k7
    have hbel : Below w.heap.size w w' := ⟨r3.os, r3.tape, r3.output, r3.size, fun k hk => r3.block k hk (by simp [Value.ownBlock])⟩
    obtain ⟨g1, g2⟩ := hst.newObj (o := .cells 0 e acs) (b := g) (N := cur.size) f1 f2 hbel k2 ⟨cur, rfl, k3, hrel.mono (Ghost.place_le (f2 0))⟩
    refine ⟨_, w', _, .arr id 0 0 m i.size, _, exec_append ho w (by rw [hsv, q1]; exact r1), g1, g2, ?_, h (by omega) id f1⟩
    exact .arr (b := g) (N := cur.size) (by simp [Ghost.place, AObj.ver]) (by omega) k4 k5

/-- append onto a slice that is full: it is made anew -/
theorem a_append_ex {o : Oper} {env : Env} {σ : AHeap} {K : AV → AHeap → Prop} {t e : TypeId} {s x : Operand} {n m sz by_ : Nat} {zs : List Value} {cs acs : List AV} {av : AV}
    (ho : o.op = .call { callee := .builtin .append, args := #[s, x], argTypes := #[t, t] }) (ht : slcK P t = some (e, sz, by_, zs)) (hs : opnd env s = some (.lst cs n true)) (hn : n * sz = cs.length)
    (hx : opnd env x = some av) (hsrc : Src σ sz av acs m) (hone : (cs ++ acs).all AV.one = true) (hb : (n + m) * by_ ≤ 140737488355328) (hm : n + m ≤ maxLen)
    (h0 : m = 0 → K (.lst cs n true) σ) (h : 0 < m → ∀ id, σ id = none → K (.arr id 0 0 (n + m) sz) (upd σ id (.cells 0 e (cs ++ acs)))) : AVal P o env σ K := by
  intro G w ρ hst hρ
  have ht' := ht
  obtain ⟨i, z, hu, hi, hz, rfl, rfl, rfl, hzs, hpos⟩ := slcK_inv ht
  have hsv := hρ s _ hs
  have hx' := hρ x _ hx
  have hlen := hsrc.length
  have hsl : ∃ a cap, ρ s = .slice a n cap ∧ n ≤ cap := by
    rcases hsv.lst_inv with ⟨a, cap, rfl, rfl, h4, _⟩ | ⟨b, o', cap, cs', h1, h2, h3, _, _, h7⟩
    · exact ⟨a, cap, h4, Nat.zero_le _⟩
    · exact ⟨_, _, h7, h3⟩
  by_cases hm0 : m = 0
  · subst hm0
    have hnil : (Builtin.append_ #[t, t] o.type #[ρ s, ρ x]).run P w = .ok (ρ s) w := by
      obtain ⟨a', cap, e1, e2⟩ := hsl
      rw [e1]
      rcases hsrc.rel hst hx' with ⟨_, _, a, c, q1, q2⟩ | ⟨a, c, news, q1, q2, q3, q4⟩
      · rw [q1]; cases a <;> cases a' <;> simp [Builtin.append_, run_underlying hu, sizeOf, typeInfo, hi, Builtin.lenOf, Builtin.firstCells, loadCells, loadCellsFrom, e2, storeCells]
      · rw [q1]; cases a' <;> simp [Builtin.append_, run_underlying hu, sizeOf, typeInfo, hi, Builtin.lenOf, Builtin.firstCells, loadCells, loadCellsFrom, e2, storeCells]
    exact ⟨_, w, G, _, σ, exec_append ho w hnil, .refl G, hst, hsv, h0 rfl⟩
  · rcases hsrc.rel hst hx' with ⟨e, _⟩ | ⟨a, c, news, q1, q2, q3, q4⟩
    · exact absurd e hm0
    simp only [List.all_append, Bool.and_eq_true] at hone
    -- the new row, from wherever the old cells came
    have fin : ∀ (olds : List Value) (v' : Value) (w' : World), olds.length = cs.length → CellsRel G olds.toArray 0 cs → (Builtin.append_ #[t, t] o.type #[ρ s, ρ x]).run P w = .ok v' w' →
        w'.ownsRow w.heap.size e i.size v' (n + m) (olds ++ news) → w.grownBy w' none → v' ≠ .slice none 0 0 →
        ∃ v w' G' av σ', (execOp ρ o).run P w = .ok (.value v) w' ∧ G.le G' ∧ St G' σ' w' ∧ VRel G' v av ∧ K av σ' := by
      intro olds v' w' ol oc hr r2 r3 hne
      obtain ⟨g, cap', cur, k1, k2, k3, k4, k5, k6, k7⟩ := ownsRow_split r2 hne
      subst k1
      obtain ⟨id, f1, f2⟩ := hst.fresh
      have hrel := (CellsRel.append ol oc q4).of_take k7
      have hbel : Below w.heap.size w w' := ⟨r3.os, r3.tape, r3.output, r3.size, fun k hk => r3.block k hk (by simp)⟩
      obtain ⟨g1, g2⟩ := hst.newObj (o := .cells 0 e (cs ++ acs)) (b := g) (N := cur.size) f1 f2 hbel k2 ⟨cur, rfl, k3, hrel.mono (Ghost.place_le (f2 0))⟩
      refine ⟨_, w', _, .arr id 0 0 (n + m) i.size, _, exec_append ho w hr, g1, g2, ?_, h (by omega) id f1⟩
      exact .arr (b := g) (N := cur.size) (by simp [Ghost.place, AObj.ver]) (by omega) k4 k5
    rcases hsv.lst_inv with ⟨a', cap, rfl, rfl, h4, h5, h6⟩ | ⟨b, o', cap, cs', h1, h2, h3, h4, h5, h7⟩
    · have hcap : cap = 0 := h6 rfl
      subst hcap
      cases a' with
      | none =>
        obtain ⟨v', w', r1, r2, r3, r4, r5⟩ := run_append_own_at (P := P) w w.heap.size t o.type e i z i.size i.bytes hu hi hz rfl rfl hzs hpos (.slice none 0 0) 0 [] (World.ownsRow_nil _ _ _ _) a m c news (by omega) q3
          (ones_news q2 q4 hone.2) hm hb (Nat.le_refl _)
        exact fin [] v' w' rfl ⟨by simp, by simp⟩ (by rw [h4, q1]; exact r1) (by simpa using r2) ⟨r3.os, r3.tape, r3.output, r3.size, fun k hk _ => r3.block k hk (by simp [Value.ownBlock])⟩
          (fun e => by have := (r4.1 e).2; omega)
      | some a' =>
        obtain ⟨v', w', r1, r2, r3⟩ := run_append_arg_grows (P := P) w t o.type e i z i.size i.bytes hu hi hz rfl rfl hzs hpos a' 0 0 [] (by simp) (by simp) a m c news (by omega) q3 (by omega) hm hb
        refine fin [] v' w' rfl ⟨by simp, by simp⟩ (by rw [h4, q1]; exact r1) (by simpa using r2) r3 ?_
        intro e
        subst e
        have := r2.1
        rcases r2.2 with ⟨_, hz0⟩ | ⟨g, cap, cur, hv, _⟩
        · omega
        · simp at hv
    · have hcap : cap = n := h5 rfl
      subst hcap
      obtain ⟨ty, fr, hb'⟩ := hst.fz _ _ h1
      obtain ⟨olds, o1, o2, o3⟩ := h2.news hb'
      obtain ⟨v', w', r1, r2, r3⟩ := run_append_arg_grows (P := P) w t o.type e i z i.size i.bytes hu hi hz rfl rfl hzs hpos ⟨b, o', none⟩ cap cap olds (by omega) o2 a m c news (by omega) q3 (by omega) hm hb
      refine fin olds v' w' o1 o3 (by rw [h7, q1]; exact r1) r2 r3 ?_
      intro e
      subst e
      rcases r2.2 with ⟨_, hz0⟩ | ⟨g, cap, cur, hv, _⟩
      · omega
      · simp at hv

end Go.AL
/- AL, part H: arithmetic, comparisons, conversions, strings, nil. -/
namespace Go.AL
open Go Go.RowKit

variable {P : Program}

def lo : IntKind → Int
  | .i8 => -128 | .i16 => -32768 | .i32 => -2147483648 | .i64 => -9223372036854775808 | _ => 0
def hi : IntKind → Int
  | .i8 => 127 | .i16 => 32767 | .i32 => 2147483647 | .i64 => 9223372036854775807 | .u8 => 255 | .u16 => 65535 | .u32 => 4294967295 | .u64 => 18446744073709551615

theorem wrap_in {k : IntKind} {n : Int} (h : lo k ≤ n ∧ n ≤ hi k) : k.wrap n = n := by
  cases k <;> simp only [lo, hi] at h
  · exact IntWalk.i8_in n h
  · exact IntWalk.i16_in n h
  · exact IntWalk.i32_in n h
  · exact IntWalk.i64_in n h
  · exact IntWalk.u8_in n h
  · exact IntWalk.u16_in n h
  · exact IntWalk.u32_in n h
  · exact IntWalk.u64_in n h

/-- an operation on two whole numbers of one kind -/
def binI (op : BinOp) (k : IntKind) (a b : Int) : Option Value :=
  match op with
  | .add => some (.int k (k.wrap (a + b)))
  | .sub => some (.int k (k.wrap (a - b)))
  | .mul => some (.int k (k.wrap (a * b)))
  | .eql => some (.bool (decide (a = b)))
  | .neq => some (.bool (decide (a ≠ b)))
  | .lss => some (.bool (decide (a < b)))
  | .leq => some (.bool (decide (a ≤ b)))
  | .gtr => some (.bool (decide (a > b)))
  | .geq => some (.bool (decide (a ≥ b)))
  | .and => some (.int k (k.wrap ((BitVec.ofInt k.bits a &&& BitVec.ofInt k.bits b).toNat)))
  | .or => some (.int k (k.wrap ((BitVec.ofInt k.bits a ||| BitVec.ofInt k.bits b).toNat)))
  | .xor => some (.int k (k.wrap ((BitVec.ofInt k.bits a ^^^ BitVec.ofInt k.bits b).toNat)))
  | _ => none

theorem run_binI {op : BinOp} {k : IntKind} {a b : Int} {v : Value} (h : binI op k a b = some v) (T : TypeId) (w : World) : (binOp op T (.int k a) (.int k b)).run P w = .ok v w := by
  cases op <;> simp only [binI, Option.some.injEq] at h <;> first | (subst h; simp [binOp, Op.intArith, Op.intBits, Op.intCmp]) | exact absurd h (by simp)
  all_goals (first | rfl | (by_cases hab : a = b <;> simp [hab]))

theorem a_bin_run {o : Oper} {env : Env} {σ : AHeap} {K : AV → AHeap → Prop} {op : BinOp} {T U : TypeId} {x y : Operand} {a b v : Value} (ho : o.op = .binOp op T x y U)
    (hx : opnd env x = some (.v a)) (hy : opnd env y = some (.v b)) (hg : ∀ w, (eqGuard op T x y a b).run P w = .ok () w) (hr : ∀ w, (binOp op T a b).run P w = .ok v w) (h : K (.v v) σ) : AVal P o env σ K := by
  refine a_pure (fun G w ρ hρ => ?_) h
  have hxv := (hρ x _ hx).v_eq
  have hyv := (hρ y _ hy).v_eq
  exact ⟨v, by simp [execOp, ho, hxv, hyv, hg, hr], .v _⟩

theorem eqGuard_int {op : BinOp} {T : TypeId} {x y : Operand} {k k' : IntKind} {a b : Int} (w : World) : (eqGuard op T x y (.int k a) (.int k' b)).run P w = .ok () w := by
  cases op <;> simp [eqGuard]

theorem a_int {o : Oper} {env : Env} {σ : AHeap} {K : AV → AHeap → Prop} {op : BinOp} {T U : TypeId} {x y : Operand} {k : IntKind} {a b : Int} {v : Value} (ho : o.op = .binOp op T x y U)
    (hx : opnd env x = some (.v (.int k a))) (hy : opnd env y = some (.v (.int k b))) (hv : binI op k a b = some v) (h : K (.v v) σ) : AVal P o env σ K :=
  a_bin_run ho hx hy (eqGuard_int) (run_binI hv T) h

theorem a_add {o : Oper} {env : Env} {σ : AHeap} {K : AV → AHeap → Prop} {T U : TypeId} {x y : Operand} {k : IntKind} {a b : Int} (ho : o.op = .binOp .add T x y U)
    (hx : opnd env x = some (.v (.int k a))) (hy : opnd env y = some (.v (.int k b))) (hi : lo k ≤ a + b ∧ a + b ≤ hi k) (h : K (.v (.int k (a + b))) σ) : AVal P o env σ K :=
  a_int ho hx hy (by simp only [binI, wrap_in hi]) h
theorem a_sub {o : Oper} {env : Env} {σ : AHeap} {K : AV → AHeap → Prop} {T U : TypeId} {x y : Operand} {k : IntKind} {a b : Int} (ho : o.op = .binOp .sub T x y U)
    (hx : opnd env x = some (.v (.int k a))) (hy : opnd env y = some (.v (.int k b))) (hi : lo k ≤ a - b ∧ a - b ≤ hi k) (h : K (.v (.int k (a - b))) σ) : AVal P o env σ K :=
  a_int ho hx hy (by simp only [binI, wrap_in hi]) h
theorem a_mul {o : Oper} {env : Env} {σ : AHeap} {K : AV → AHeap → Prop} {T U : TypeId} {x y : Operand} {k : IntKind} {a b : Int} (ho : o.op = .binOp .mul T x y U)
    (hx : opnd env x = some (.v (.int k a))) (hy : opnd env y = some (.v (.int k b))) (hi : lo k ≤ a * b ∧ a * b ≤ hi k) (h : K (.v (.int k (a * b))) σ) : AVal P o env σ K :=
  a_int ho hx hy (by simp only [binI, wrap_in hi]) h
theorem a_quo {o : Oper} {env : Env} {σ : AHeap} {K : AV → AHeap → Prop} {T U : TypeId} {x y : Operand} {k : IntKind} {a b : Int} (ho : o.op = .binOp .quo T x y U)
    (hx : opnd env x = some (.v (.int k a))) (hy : opnd env y = some (.v (.int k b))) (h0 : 0 ≤ a) (h1 : 0 < b) (hi : a ≤ hi k) (h : K (.v (.int k (a / b))) σ) : AVal P o env σ K := by
  refine a_bin_run ho hx hy eqGuard_int (v := .int k (a / b)) (fun w => ?_) h
  have hb : b ≠ 0 := by omega
  have e : a.tdiv b = a / b := Int.tdiv_eq_ediv_of_nonneg h0
  have h2 : 0 ≤ a / b := Int.ediv_nonneg h0 (by omega)
  have h3 : a / b ≤ a := Int.ediv_le_self _ h0
  have hw : k.wrap (a / b) = a / b := wrap_in ⟨by cases k <;> simp only [lo] <;> omega, by omega⟩
  simp [binOp, Op.intDiv, hb, e, hw]
theorem a_rem {o : Oper} {env : Env} {σ : AHeap} {K : AV → AHeap → Prop} {T U : TypeId} {x y : Operand} {k : IntKind} {a b : Int} (ho : o.op = .binOp .rem T x y U)
    (hx : opnd env x = some (.v (.int k a))) (hy : opnd env y = some (.v (.int k b))) (h0 : 0 ≤ a) (h1 : 0 < b) (h : K (.v (.int k (a % b))) σ) : AVal P o env σ K := by
  refine a_bin_run ho hx hy eqGuard_int (v := .int k (a % b)) (fun w => ?_) h
  have hb : b ≠ 0 := by omega
  have e : a.tmod b = a % b := Int.tmod_eq_emod_of_nonneg h0
  simp [binOp, Op.intDiv, hb, e]
/-- with whatever sign -/
theorem a_rem_any {o : Oper} {env : Env} {σ : AHeap} {K : AV → AHeap → Prop} {T U : TypeId} {x y : Operand} {k : IntKind} {a b : Int} (ho : o.op = .binOp .rem T x y U)
    (hx : opnd env x = some (.v (.int k a))) (hy : opnd env y = some (.v (.int k b))) (h1 : b ≠ 0) (h : K (.v (.int k (a.tmod b))) σ) : AVal P o env σ K := by
  refine a_bin_run ho hx hy eqGuard_int (v := .int k (a.tmod b)) (fun w => ?_) h
  simp [binOp, Op.intDiv, h1]
theorem a_shl {o : Oper} {env : Env} {σ : AHeap} {K : AV → AHeap → Prop} {T U : TypeId} {x y : Operand} {k k' : IntKind} {a b : Int} (ho : o.op = .binOp .shl T x y U)
    (hx : opnd env x = some (.v (.int k a))) (hy : opnd env y = some (.v (.int k' b))) (h1 : 0 ≤ b) (h : K (.v (.int k (k.wrap (a * 2 ^ (min b.toNat k.bits))))) σ) : AVal P o env σ K := by
  refine a_bin_run ho hx hy eqGuard_int (v := .int k (k.wrap (a * 2 ^ (min b.toNat k.bits)))) (fun w => ?_) h
  have : ¬ b < 0 := by omega
  simp [binOp, Op.shift, this]
theorem a_shr {o : Oper} {env : Env} {σ : AHeap} {K : AV → AHeap → Prop} {T U : TypeId} {x y : Operand} {k k' : IntKind} {a b : Int} (ho : o.op = .binOp .shr T x y U)
    (hx : opnd env x = some (.v (.int k a))) (hy : opnd env y = some (.v (.int k' b))) (h1 : 0 ≤ b) (h : K (.v (.int k (a.fdiv (2 ^ (min b.toNat k.bits))))) σ) : AVal P o env σ K := by
  refine a_bin_run ho hx hy eqGuard_int (v := .int k (a.fdiv (2 ^ (min b.toNat k.bits)))) (fun w => ?_) h
  have : ¬ b < 0 := by omega
  simp [binOp, Op.shift, this]

/-- an operation on two strings -/
def binS (op : BinOp) (a b : List UInt8) : Option AV :=
  match op with
  | .eql => some (.v (.bool (decide (a = b))))
  | .neq => some (.v (.bool (decide (a ≠ b))))
  | .lss => some (.v (.bool (Op.bytesLess a b)))
  | .leq => some (.v (.bool (Op.bytesLess a b || decide (a = b))))
  | .gtr => some (.v (.bool (!(Op.bytesLess a b || decide (a = b)))))
  | .geq => some (.v (.bool (!Op.bytesLess a b)))
  | _ => none

theorem a_str {o : Oper} {env : Env} {σ : AHeap} {K : AV → AHeap → Prop} {op : BinOp} {T U : TypeId} {x y : Operand} {a b : List UInt8} {av : AV} (ho : o.op = .binOp op T x y U)
    (hx : opnd env x = some (str a)) (hy : opnd env y = some (str b)) (hv : binS op a b = some av) (h : K av σ) : AVal P o env σ K := by
  have hg : ∀ w, (eqGuard op T x y (.string ⟨a.toArray⟩) (.string ⟨b.toArray⟩)).run P w = .ok () w := fun w => by cases op <;> simp [eqGuard]
  have hbeq : (a == b) = decide (a = b) := by by_cases e : a = b <;> simp [e]
  cases op <;> simp only [binS, Option.some.injEq] at hv <;> first | subst hv | exact absurd hv (by simp)
  all_goals refine a_bin_run ho hx hy hg (fun w => ?_) h
  all_goals simp [binOp, Op.stringOp, ByteArray.toList_mk]
  all_goals first | done | (by_cases e : a = b <;> simp [e])

theorem a_concat {o : Oper} {env : Env} {σ : AHeap} {K : AV → AHeap → Prop} {T U : TypeId} {x y : Operand} {a b : List UInt8} (ho : o.op = .binOp .add T x y U)
    (hx : opnd env x = some (str a)) (hy : opnd env y = some (str b)) (hl : a.length + b.length ≤ 9223372036854775807) (h : K (str (a ++ b)) σ) : AVal P o env σ K := by
  have hs : ∀ l : List UInt8, (⟨l.toArray⟩ : ByteArray).size = l.length := fun l => by simp [ByteArray.size]
  refine a_bin_run ho hx hy (fun w => by simp [eqGuard]) (fun w => ?_) h
  have e : (⟨a.toArray⟩ ++ ⟨b.toArray⟩ : ByteArray) = ⟨(a ++ b).toArray⟩ := by apply ByteArray.ext; simp
  have h2 : ¬ (((⟨a.toArray⟩ : ByteArray).size + (⟨b.toArray⟩ : ByteArray).size : Nat) : Int) > IntKind.i64.max := by
    rw [hs, hs]; simp [IntKind.max, IntKind.signed, IntKind.bits]; omega
  simp only [binOp, Op.stringOp, if_neg h2, e]
  rfl

theorem a_not {o : Oper} {env : Env} {σ : AHeap} {K : AV → AHeap → Prop} {T : TypeId} {x : Operand} {b : Bool} (ho : o.op = .unOp .not T x) (hx : opnd env x = some (.v (.bool b)))
    (h : K (.v (.bool (!b))) σ) : AVal P o env σ K := by
  refine a_pure (fun G w ρ hρ => ?_) h
  have hxv := (hρ x _ hx).v_eq
  exact ⟨_, by simp [execOp, ho, hxv, Op.unary], .v _⟩
theorem a_neg {o : Oper} {env : Env} {σ : AHeap} {K : AV → AHeap → Prop} {T : TypeId} {x : Operand} {k : IntKind} {a : Int} (ho : o.op = .unOp .neg T x) (hx : opnd env x = some (.v (.int k a)))
    (hi : lo k ≤ -a ∧ -a ≤ hi k) (h : K (.v (.int k (-a))) σ) : AVal P o env σ K := by
  refine a_pure (fun G w ρ hρ => ?_) h
  have hxv := (hρ x _ hx).v_eq
  have hw : k.wrap (0 - a) = -a := by rw [Int.zero_sub]; exact wrap_in hi
  exact ⟨_, by simp only [execOp, ho, hxv, Op.unary, Op.intArith, hw]; rfl, .v _⟩

def intK (P : Program) (t : TypeId) : Option IntKind := match P.underlying t with | some (.int k) => some k | _ => none
theorem intK_inv {t : TypeId} {k : IntKind} (h : intK P t = some k) : P.underlying t = some (.int k) := by
  unfold intK at h; split at h
  · simp only [Option.some.injEq] at h; subst h; assumption
  · exact absurd h (by simp)
def hasU (P : Program) (t : TypeId) : Bool := (P.underlying t).isSome
theorem hasU_inv {t : TypeId} (h : hasU P t = true) : ∃ d, P.underlying t = some d := Option.isSome_iff_exists.1 h

/-- one whole number's kind for another -/
theorem a_conv_wrap {o : Oper} {env : Env} {σ : AHeap} {K : AV → AHeap → Prop} {T U : TypeId} {x : Operand} {k k' : IntKind} {a : Int} (ho : o.op = .convert T U x) (hT : hasU P T = true) (hU : intK P U = some k')
    (hx : opnd env x = some (.v (.int k a))) (h : K (.v (.int k' (k'.wrap a))) σ) : AVal P o env σ K := by
  refine a_pure (fun G w ρ hρ => ?_) h
  have hxv := (hρ x _ hx).v_eq
  obtain ⟨d, hd⟩ := hasU_inv hT
  exact ⟨_, by simp [execOp, ho, hxv, convert, run_underlying hd, run_underlying (intK_inv hU), Conv.intToInt], .v _⟩
theorem a_conv {o : Oper} {env : Env} {σ : AHeap} {K : AV → AHeap → Prop} {T U : TypeId} {x : Operand} {k k' : IntKind} {a : Int} (ho : o.op = .convert T U x) (hT : hasU P T = true) (hU : intK P U = some k')
    (hx : opnd env x = some (.v (.int k a))) (hi : lo k' ≤ a ∧ a ≤ hi k') (h : K (.v (.int k' a)) σ) : AVal P o env σ K := by
  refine a_conv_wrap ho hT hU hx ?_
  rw [wrap_in hi]; exact h

theorem maxD : Op.maxDepth = 9999 + 1 := rfl

theorem run_eq_of {T : TypeId} {x y : Value} {b : Bool} {w : World} (h : ∀ d, (Op.equalIn (d + 1) T x y).run P w = .ok b w) : (Op.equal T x y).run P w = .ok b w := by
  rw [Op.equal, maxD]; exact h _

theorem run_eql_of {T : TypeId} {x y : Value} {b : Bool} {w : World} (hx : (∃ a, x = .pointer a) ∨ (∃ a n c, x = .slice a n c)) (hy : (∃ a, y = .pointer a) ∨ (∃ a n c, y = .slice a n c))
    (h : ∀ d, (Op.equalIn (d + 1) T x y).run P w = .ok b w) : (binOp .eql T x y).run P w = .ok (.bool b) w ∧ (binOp .neq T x y).run P w = .ok (.bool (!b)) w := by
  have := run_eq_of h
  rcases hx with ⟨a, rfl⟩ | ⟨a, n, c, rfl⟩ <;> rcases hy with ⟨a', rfl⟩ | ⟨a', n', c', rfl⟩ <;> constructor <;> simp [binOp, this]

def isEqOp : BinOp → Bool
  | .eql | .neq => true
  | _ => false

/-- '==', '!=' -/
def eqR (op : BinOp) (b : Bool) : AV := .v (.bool (match op with | .eql => b | _ => !b))

theorem a_eq_of {o : Oper} {env : Env} {σ : AHeap} {K : AV → AHeap → Prop} {op : BinOp} {T U : TypeId} {x y : Operand} {b : Bool} (ho : o.op = .binOp op T x y U) (hop : isEqOp op = true)
    (hr : ∀ (G : Ghost) (w : World) (ρ : Operand → Value), (∀ x a, opnd env x = some a → VRel G (ρ x) a) → ((∃ a, ρ x = .pointer a) ∨ (∃ a n c, ρ x = .slice a n c)) ∧ ((∃ a, ρ y = .pointer a) ∨ (∃ a n c, ρ y = .slice a n c)) ∧
      ∀ d, (Op.equalIn (d + 1) T (ρ x) (ρ y)).run P w = .ok b w) (h : K (eqR op b) σ) : AVal P o env σ K := by
  refine a_pure (fun G w ρ hρ => ?_) h
  obtain ⟨h1, h2, h3⟩ := hr G w ρ hρ
  obtain ⟨h4, h5⟩ := run_eql_of h1 h2 h3
  have hg : (eqGuard op T x y (ρ x) (ρ y)).run P w = .ok () w := by
    rcases h1 with ⟨a, e1⟩ | ⟨a, n, c, e1⟩ <;> rcases h2 with ⟨a', e2⟩ | ⟨a', n', c', e2⟩ <;> rw [e1, e2] <;> cases op <;> simp [eqGuard]
  cases op with
  | eql => exact ⟨_, by simp [execOp, ho, hg, h4], .v _⟩
  | neq => exact ⟨_, by simp [execOp, ho, hg, h5], .v _⟩
  | _ => simp [isEqOp] at hop

def isPtr (P : Program) (t : TypeId) : Bool := match P.underlying t with | some (.pointer _) => true | _ => false
theorem isPtr_inv {t : TypeId} (h : isPtr P t = true) : ∃ e, P.underlying t = some (.pointer e) := by
  unfold isPtr at h; split at h <;> first | exact ⟨_, by assumption⟩ | exact absurd h (by simp)

/-- a pointer against nil -/
theorem a_ref_nil {o : Oper} {env : Env} {σ : AHeap} {K : AV → AHeap → Prop} {op : BinOp} {T U : TypeId} {x y : Operand} {id ver off : Nat} (ho : o.op = .binOp op T x y U)
    (hop : isEqOp op = true) (hu : isPtr P T = true) (hx : opnd env x = some (.ref id ver off)) (hy : opnd env y = some (.v (.pointer none)))
    (h : K (eqR op false) σ) : AVal P o env σ K := by
  obtain ⟨e, hu⟩ := isPtr_inv hu
  refine a_eq_of ho hop (fun G w ρ hρ => ?_) h
  have hyv := (hρ y _ hy).v_eq
  obtain ⟨b, N, _, hxv⟩ := (hρ x _ hx).ref_inv
  exact ⟨.inl ⟨_, hxv⟩, .inl ⟨_, hyv⟩, fun d => by rw [hxv, hyv]; simp [Op.equalIn, run_underlying hu]⟩
theorem a_pin_nil {o : Oper} {env : Env} {σ : AHeap} {K : AV → AHeap → Prop} {op : BinOp} {T U : TypeId} {x y : Operand} {cs : List AV} {off : Nat} (ho : o.op = .binOp op T x y U)
    (hop : isEqOp op = true) (hu : isPtr P T = true) (hx : opnd env x = some (.pin cs off)) (hy : opnd env y = some (.v (.pointer none)))
    (h : K (eqR op false) σ) : AVal P o env σ K := by
  obtain ⟨e, hu⟩ := isPtr_inv hu
  refine a_eq_of ho hop (fun G w ρ hρ => ?_) h
  have hyv := (hρ y _ hy).v_eq
  obtain ⟨b, o', cs', _, _, hxv⟩ := (hρ x _ hx).pin_inv
  exact ⟨.inl ⟨_, hxv⟩, .inl ⟨_, hyv⟩, fun d => by rw [hxv, hyv]; simp [Op.equalIn, run_underlying hu]⟩
theorem a_nil_nil {o : Oper} {env : Env} {σ : AHeap} {K : AV → AHeap → Prop} {op : BinOp} {T U : TypeId} {x y : Operand} (ho : o.op = .binOp op T x y U)
    (hop : isEqOp op = true) (hu : isPtr P T = true) (hx : opnd env x = some (.v (.pointer none))) (hy : opnd env y = some (.v (.pointer none)))
    (h : K (eqR op true) σ) : AVal P o env σ K := by
  obtain ⟨e, hu⟩ := isPtr_inv hu
  refine a_eq_of ho hop (fun G w ρ hρ => ?_) h
  have hyv := (hρ y _ hy).v_eq
  have hxv := (hρ x _ hx).v_eq
  exact ⟨.inl ⟨_, hxv⟩, .inl ⟨_, hyv⟩, fun d => by rw [hxv, hyv]; simp [Op.equalIn, run_underlying hu]⟩

/-- a slice against nil -/
theorem a_arr_nil {o : Oper} {env : Env} {σ : AHeap} {K : AV → AHeap → Prop} {op : BinOp} {T U : TypeId} {x y : Operand} {id ver off n sz : Nat} (ho : o.op = .binOp op T x y U)
    (hop : isEqOp op = true) (hu : isSl P T = true) (hx : opnd env x = some (.arr id ver off n sz)) (hy : opnd env y = some nilS)
    (h : K (eqR op false) σ) : AVal P o env σ K := by
  obtain ⟨e, hu⟩ := isSl_inv hu
  refine a_eq_of ho hop (fun G w ρ hρ => ?_) h
  have hyv := (hρ y _ hy).v_eq
  have : ∃ a n c, ρ x = .slice (some a) n c := by
    rcases (hρ x _ hx).arr_inv with ⟨_, _, b, o', N, _, e⟩ | ⟨b, N, cap, _, _, _, _, e⟩ <;> exact ⟨_, _, _, e⟩
  obtain ⟨a, n, c, hxv⟩ := this
  exact ⟨.inr ⟨_, _, _, hxv⟩, .inr ⟨_, _, _, hyv⟩, fun d => by rw [hxv, hyv]; simp [Op.equalIn, run_underlying hu]⟩
theorem a_lst_nil {o : Oper} {env : Env} {σ : AHeap} {K : AV → AHeap → Prop} {op : BinOp} {T U : TypeId} {x y : Operand} {c : AV} {cs : List AV} {n : Nat} {ex : Bool} (ho : o.op = .binOp op T x y U)
    (hop : isEqOp op = true) (hu : isSl P T = true) (hx : opnd env x = some (.lst (c :: cs) n ex)) (hy : opnd env y = some nilS)
    (h : K (eqR op false) σ) : AVal P o env σ K := by
  obtain ⟨e, hu⟩ := isSl_inv hu
  refine a_eq_of ho hop (fun G w ρ hρ => ?_) h
  have hyv := (hρ y _ hy).v_eq
  have : ∃ a n c, ρ x = .slice (some a) n c := by
    rcases (hρ x _ hx).lst_inv with ⟨_, _, e, _⟩ | ⟨b, o', cap, cs', _, _, _, _, _, e⟩
    · exact absurd e (by simp)
    · exact ⟨_, _, _, e⟩
  obtain ⟨a, n, c, hxv⟩ := this
  exact ⟨.inr ⟨_, _, _, hxv⟩, .inr ⟨_, _, _, hyv⟩, fun d => by rw [hxv, hyv]; simp [Op.equalIn, run_underlying hu]⟩
theorem a_nilS_nil {o : Oper} {env : Env} {σ : AHeap} {K : AV → AHeap → Prop} {op : BinOp} {T U : TypeId} {x y : Operand} (ho : o.op = .binOp op T x y U)
    (hop : isEqOp op = true) (hu : isSl P T = true) (hx : opnd env x = some nilS) (hy : opnd env y = some nilS) (h : K (eqR op true) σ) : AVal P o env σ K := by
  obtain ⟨e, hu⟩ := isSl_inv hu
  refine a_eq_of ho hop (fun G w ρ hρ => ?_) h
  have hyv := (hρ y _ hy).v_eq
  have hxv := (hρ x _ hx).v_eq
  exact ⟨.inr ⟨_, _, _, hxv⟩, .inr ⟨_, _, _, hyv⟩, fun d => by rw [hxv, hyv]; simp [Op.equalIn, run_underlying hu]⟩

end Go.AL
