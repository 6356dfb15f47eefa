/-
  A part of a proof: StoreJournals answers true for all codes, bytes and numbers, without conditions.
-/
import Derived.WalkKit
import Derived.Deep.MidRow
import Derived.Deep.AppendSrc
import Derived.Orders
import Derived.Deep.Draws
import Derived.Deep.Upon
import Derived.Room.Entries
import Derived.Laws.AppendOwn
import Derived.Laws.MakeOwn
import Derived.Laws.Small
import Derived.Laws.BytesString
import Derived.Laws.StructEq
import Derived.Laws.Cover3
section
set_option linter.all false
/-
  The lifted layer, part 0: values without addresses, the store of blocks, and their relation to the model's world.
-/
namespace Go.Lift
open Go.RowKit

inductive LV where
  | any
  | int (k : IntKind) (n : Int)
  | bool (b : Bool)
  | anyb
  | str (s : ByteArray)
  | nilp
  | ptr (id i off : Nat)
  | eptr (cells : List LV) (off : Nat)
  | sl (full : Bool) (elems : List (List LV))
  | ref (id off len : Nat)
  | func (fn : Fn) (first caps : List LV)
  | nilf
  | iface (t : TypeId) (v : LV)
  | nili
  | agg (cells : List LV)
  | tup (vs : List LV)
  deriving Inhabited

abbrev Know := Nat → Nat → Option Value

structure Pl where
  b : Nat
  s : Nat
  sz : Nat
  size : Nat
  virt : Bool

mutual
inductive Rel (K : Know) (φ : List Pl) : Value → LV → Prop
  | any (v : Value) : Rel K φ v .any
  | int (k : IntKind) (n : Int) : Rel K φ (.int k n) (.int k n)
  | bool (b : Bool) : Rel K φ (.bool b) (.bool b)
  | anyb (b : Bool) : Rel K φ (.bool b) .anyb
  | str (s : ByteArray) : Rel K φ (.string s) (.str s)
  | nilp : Rel K φ (.pointer none) .nilp
  | ptr {id i off : Nat} {p : Pl} (h : φ[id]? = some p) : Rel K φ (.pointer (some ⟨p.b, p.s + i * p.sz + off, none⟩)) (.ptr id i off)
  | eptr {b o off : Nat} {cells : List LV} {vs : List Value} (hk : ∀ j v, vs[j]? = some v → K b (o + j) = some v)
      (h1 : ∀ v ∈ vs, v.oneCell' = true) (hr : RelL K φ vs cells) : Rel K φ (.pointer (some ⟨b, o + off, none⟩)) (.eptr cells off)
  | slnil (full : Bool) : Rel K φ (.slice none 0 0) (.sl full [])
  | sl {b o cap n : Nat} {full : Bool} {elems : List (List LV)} {vs : List Value} {sz : Nat} (hk : ∀ j v, vs[j]? = some v → K b (o + j) = some v)
      (h1 : ∀ v ∈ vs, v.oneCell' = true) (hr : RelL K φ vs elems.flatten) (hsz : ∀ e ∈ elems, e.length = sz) (hn : n = elems.length) (hc : n ≤ cap)
      (hf : full = true → cap = n) : Rel K φ (.slice (some ⟨b, o, none⟩) n cap) (.sl full elems)
  | ref {b o id off len cap : Nat} {p : Pl} (h : φ[id]? = some p) (hl : len ≤ cap)
      (hc : cap ≠ 0 → p.virt = false ∧ b = p.b ∧ o = p.s + off * p.sz ∧ p.s + (off + cap) * p.sz ≤ p.size) : Rel K φ (.slice (some ⟨b, o, none⟩) len cap) (.ref id off len)
  | refnil {id off : Nat} {p : Pl} (h : φ[id]? = some p) : Rel K φ (.slice none 0 0) (.ref id off 0)
  | func {fn : Fn} {first caps : Array Value} {f c : List LV} (hf : RelL K φ first.toList f) (hc : RelL K φ caps.toList c) : Rel K φ (.func fn first caps) (.func fn f c)
  | nilf : Rel K φ .nilFunc .nilf
  | iface {t : TypeId} {v : Value} {u : LV} (h : Rel K φ v u) : Rel K φ (.iface t v) (.iface t u)
  | nili : Rel K φ .nilIface .nili
  | agg {cs : Array Value} {us : List LV} (h1 : ∀ v ∈ cs.toList, v.oneCell' = true) (h : RelL K φ cs.toList us) : Rel K φ (.agg cs) (.agg us)
  | tup {cs : Array Value} {us : List LV} (h : RelL K φ cs.toList us) : Rel K φ (.tuple cs) (.tup us)
inductive RelL (K : Know) (φ : List Pl) : List Value → List LV → Prop
  | nil : RelL K φ [] []
  | cons {v : Value} {u : LV} {vs : List Value} {us : List LV} (h : Rel K φ v u) (hs : RelL K φ vs us) : RelL K φ (v :: vs) (u :: us)
end

def Know.le (K K' : Know) : Prop := ∀ b o v, K b o = some v → K' b o = some v
theorem Know.le_refl (K : Know) : K.le K := fun _ _ _ h => h
theorem Know.le_trans {a b c : Know} (h : a.le b) (k : b.le c) : a.le c := fun x y z e => k x y z (h x y z e)

theorem get_prefix {α : Type} {l m : List α} (h : l <+: m) {i : Nat} {x : α} (hx : l[i]? = some x) : m[i]? = some x := by
  obtain ⟨t, rfl⟩ := h
  rw [List.getElem?_append_left (List.getElem?_eq_some_iff.1 hx).1]; exact hx

section
variable {K K' : Know} {φ φ' : List Pl}

theorem Rel.mono (hK : K.le K') (hφ : φ <+: φ') {v : Value} {u : LV} (h : Rel K φ v u) : Rel K' φ' v u := by
  refine Rel.rec (motive_1 := fun v u _ => Rel K' φ' v u) (motive_2 := fun vs us _ => RelL K' φ' vs us) ?_ ?_ ?_ ?_ ?_ ?_ ?_ ?_ ?_ ?_ ?_ ?_ ?_ ?_ ?_ ?_ ?_ ?_ ?_ ?_ h
  · exact .any
  · exact .int
  · exact .bool
  · exact .anyb
  · exact .str
  · exact .nilp
  · intro id i off p h; exact .ptr (get_prefix hφ h)
  · intro b o off cells vs hk h1 _ ih; exact .eptr (fun j v hv => hK _ _ _ (hk j v hv)) h1 ih
  · exact .slnil
  · intro b o cap n full elems vs sz hk h1 _ hsz hn hc hf ih; exact .sl (fun j v hv => hK _ _ _ (hk j v hv)) h1 ih hsz hn hc hf
  · intro b o id off len cap p h hl hc; exact .ref (get_prefix hφ h) hl hc
  · intro id off p h; exact .refnil (get_prefix hφ h)
  · intro fn first caps f c _ _ ih1 ih2; exact .func ih1 ih2
  · exact .nilf
  · intro t v u _ ih; exact .iface ih
  · exact .nili
  · intro cs us h1 _ ih; exact .agg h1 ih
  · intro cs us _ ih; exact .tup ih
  · exact .nil
  · intro v u vs us _ _ ih1 ih2; exact .cons ih1 ih2

theorem RelL.mono (hK : K.le K') (hφ : φ <+: φ') {vs : List Value} {us : List LV} (h : RelL K φ vs us) : RelL K' φ' vs us := by
  induction us generalizing vs with
  | nil => cases h; exact .nil
  | cons u us ih => cases h with | cons h hs => exact .cons (h.mono hK hφ) (ih hs)

theorem RelL.length {vs : List Value} {us : List LV} (h : RelL K φ vs us) : vs.length = us.length := by
  induction us generalizing vs with
  | nil => cases h; rfl
  | cons u us ih => cases h with | cons h hs => simp [ih hs]

theorem RelL.append {vs vs' : List Value} {us us' : List LV} (h : RelL K φ vs us) (h' : RelL K φ vs' us') : RelL K φ (vs ++ vs') (us ++ us') := by
  induction us generalizing vs with
  | nil => cases h; exact h'
  | cons u us ih => cases h with | cons h hs => exact .cons h (ih hs)

theorem RelL.get {vs : List Value} {us : List LV} (h : RelL K φ vs us) {j : Nat} {u : LV} (hu : us[j]? = some u) : ∃ v, vs[j]? = some v ∧ Rel K φ v u := by
  induction us generalizing vs j with
  | nil => simp at hu
  | cons x us ih =>
    cases h with
    | cons h hs =>
      cases j with
      | zero => simp at hu; subst hu; exact ⟨_, by simp, h⟩
      | succ j => simp at hu; obtain ⟨v, hv, hr⟩ := ih hs hu; exact ⟨v, by simpa using hv, hr⟩

theorem RelL.getV {vs : List Value} {us : List LV} (h : RelL K φ vs us) {j : Nat} {v : Value} (hv : vs[j]? = some v) : ∃ u, us[j]? = some u ∧ Rel K φ v u := by
  have hj : j < us.length := by rw [← h.length]; exact (List.getElem?_eq_some_iff.1 hv).1
  obtain ⟨v', hv', hr⟩ := h.get (List.getElem?_eq_getElem hj)
  rw [hv] at hv'; cases hv'
  exact ⟨_, List.getElem?_eq_getElem hj, hr⟩

theorem RelL.of_get {vs : List Value} {us : List LV} (hl : vs.length = us.length) (h : ∀ (j : Nat) (v : Value) (u : LV), vs[j]? = some v → us[j]? = some u → Rel K φ v u) : RelL K φ vs us := by
  induction us generalizing vs with
  | nil => cases vs with | nil => exact .nil | cons => simp at hl
  | cons x us ih =>
    cases vs with
    | nil => simp at hl
    | cons v vs =>
      refine .cons (h 0 v x (by simp) (by simp)) (ih (by simpa using hl) fun j v u hv hu => h (j + 1) v u (by simpa using hv) (by simpa using hu))

theorem RelL.take {vs : List Value} {us : List LV} (h : RelL K φ vs us) (n : Nat) : RelL K φ (vs.take n) (us.take n) := by
  induction us generalizing vs n with
  | nil => cases h; simp; exact .nil
  | cons x us ih =>
    cases h with
    | cons h hs => cases n with
      | zero => simp; exact .nil
      | succ n => simp; exact .cons h (ih hs n)

theorem RelL.drop {vs : List Value} {us : List LV} (h : RelL K φ vs us) (n : Nat) : RelL K φ (vs.drop n) (us.drop n) := by
  induction us generalizing vs n with
  | nil => cases h; simp; exact .nil
  | cons x us ih =>
    cases h with
    | cons h hs => cases n with
      | zero => simp; exact .cons h hs
      | succ n => simp; exact ih hs n
end

/-! ### Constants -/
def ofVal1 : Value → LV
  | .int k n => .int k n
  | .bool b => .bool b
  | .string s => .str s
  | .pointer none => .nilp
  | .slice none 0 0 => .sl true []
  | .func fn first caps => if first.size = 0 ∧ caps.size = 0 then .func fn [] [] else .any
  | .nilFunc => .nilf
  | .nilIface => .nili
  | _ => .any

def ofVal : Value → LV
  | .agg cs => if cs.all (·.oneCell') then .agg (cs.toList.map ofVal1) else .any
  | v => ofVal1 v

theorem rel_ofVal1 (K : Know) (φ : List Pl) (v : Value) : Rel K φ v (ofVal1 v) := by
  unfold ofVal1
  split
  case h_6 fn first caps =>
    split
    · rename_i h
      obtain ⟨h1, h2⟩ := h
      have e1 : first = #[] := Array.eq_empty_of_size_eq_zero h1
      have e2 : caps = #[] := Array.eq_empty_of_size_eq_zero h2
      subst e1; subst e2
      exact .func .nil .nil
    · exact .any _
  all_goals first | exact .int _ _ | exact .bool _ | exact .str _ | exact .nilp | exact .slnil _ | exact .nilf | exact .nili | exact .any _

theorem relL_map_ofVal1 (K : Know) (φ : List Pl) (vs : List Value) : RelL K φ vs (vs.map ofVal1) := by
  induction vs with
  | nil => exact .nil
  | cons v vs ih => exact .cons (rel_ofVal1 K φ v) ih

theorem rel_ofVal (K : Know) (φ : List Pl) (v : Value) : Rel K φ v (ofVal v) := by
  unfold ofVal
  split
  · split
    · rename_i cs h
      exact .agg (fun v hv => (Array.all_eq_true_iff_forall_mem.1 h) v (by simpa using hv)) (relL_map_ofVal1 K φ _)
    · exact .any _
  · exact rel_ofVal1 K φ _

/-! ### Cells of a value -/
/-- the cells of a lifted value: none where it is not known how many there are. -/
def LV.cells? : LV → Option (List LV)
  | .agg us => some us
  | .any | .tup _ => none
  | u => some [u]

theorem Rel.cells {K : Know} {φ : List Pl} {v : Value} {u : LV} {us : List LV} (h : Rel K φ v u) (hu : u.cells? = some us) :
    RelL K φ v.cells.toList us ∧ ∀ x ∈ v.cells.toList, x.oneCell' = true := by
  cases h <;> simp [LV.cells?] at hu
  case agg cs us' h1 h => subst hu; exact ⟨h, h1⟩
  all_goals
    subst hu
    refine ⟨.cons ?_ .nil, by simp [Value.cells, Value.oneCell']⟩
    first
    | exact .int _ _ | exact .bool _ | exact .anyb _ | exact .str _ | exact .nilp | exact .slnil _ | exact .nilf | exact .nili
    | exact .ptr ‹_› | exact .eptr ‹_› ‹_› ‹_› | (exact .sl ‹_› ‹_› ‹_› ‹_› ‹_› ‹_› ‹_›) | exact .ref ‹_› ‹_› ‹_› | exact .refnil ‹_› | exact .func ‹_› ‹_› | exact .iface ‹_›

/-! ### The store, and the relation to a world -/
/-- a block: the cells of an element, and the elements. -/
abbrev Blk := Nat × List (List LV)
abbrev LS := List (Option Blk)

structure SimS (B : Nat) (w0 : World) (K : Know) (φ : List Pl) (S : LS) (w : World) : Prop where
  below : Below B w0 w
  base : B ≤ w.heap.size
  know : ∀ b o v, K b o = some v → w.cell? ⟨b, o, none⟩ = some v
  len : φ.length = S.length
  sz : ∀ (id n : Nat) (es : List (List LV)) (p : Pl), S[id]? = some (some (n, es)) → φ[id]? = some p → p.sz = n
  virt : ∀ (id n : Nat) (es : List (List LV)) (p : Pl), S[id]? = some (some (n, es)) → φ[id]? = some p → p.virt = true → es = []
  blk : ∀ (id n : Nat) (es : List (List LV)) (p : Pl), S[id]? = some (some (n, es)) → φ[id]? = some p → p.virt = false → ∃ (vals : Array Value) (T : TypeId) (vs : List Value), B ≤ p.b ∧
    w.heap[p.b]? = some (.cells vals T (0, 0)) ∧ vals.size = p.size ∧ (∀ e ∈ es, e.length = p.sz) ∧ RelL K φ vs es.flatten ∧
    (∀ v ∈ vs, v.oneCell' = true) ∧ (∀ j v, vs[j]? = some v → vals[p.s + j]? = some v) ∧ (∀ o, K p.b o = none)
  inj : ∀ (i j : Nat) (es fs : Blk) (p q : Pl), S[i]? = some (some es) → S[j]? = some (some fs) → φ[i]? = some p → φ[j]? = some q → p.virt = false → q.virt = false → p.b = q.b → i = j

abbrev Env := Nat → Option LV

def Env.put (env : Env) (t : Nat) (u : LV) : Env := fun x => if x = t then some u else env x

structure SimE (N : Nat) (K : Know) (φ : List Pl) (env : Env) (a : Act) : Prop where
  size : a.tmps.size = N
  defers : a.defers = []
  rel : ∀ t u, env t = some u → t < N ∧ Rel K φ (a.tmps.getD t undef) u

theorem SimE.mono {N : Nat} {K K' : Know} {φ φ' : List Pl} {env : Env} {a : Act} (h : SimE N K φ env a) (hK : K.le K') (hφ : φ <+: φ') : SimE N K' φ' env a :=
  ⟨h.size, h.defers, fun t u hu => ⟨(h.rel t u hu).1, (h.rel t u hu).2.mono hK hφ⟩⟩

theorem SimE.put {N : Nat} {K : Know} {φ : List Pl} {env : Env} {a : Act} (h : SimE N K φ env a) {t : Nat} (ht : t < N) {v : Value} {u : LV} (hr : Rel K φ v u) :
    SimE N K φ (env.put t u) (a.put (some t) v) := by
  refine ⟨by simp [Act.put, h.size], h.defers, fun x y hx => ?_⟩
  unfold Env.put at hx
  split at hx
  · rename_i e
    subst e
    cases hx
    refine ⟨ht, ?_⟩
    have : x < a.tmps.size := by rw [h.size]; exact ht
    simpa [Act.put, this] using hr
  · rename_i e
    obtain ⟨h1, h2⟩ := h.rel x y hx
    refine ⟨h1, ?_⟩
    have : t ≠ x := fun e' => e e'.symm
    simpa [Act.put, Array.getElem?_setIfInBounds_ne this] using h2

def evalL (env : Env) : Operand → LV
  | .tmp t => (env t).getD .any
  | .const v => ofVal v
  | .global _ => .any
  | .func f => .func (.func f) [] []

theorem SimE.eval {N : Nat} {K : Know} {φ : List Pl} {env : Env} {a : Act} (h : SimE N K φ env a) (x : Operand) : Rel K φ (a.eval x) (evalL env x) := by
  cases x with
  | tmp t =>
    simp only [Act.eval, evalL]
    cases he : env t with
    | none => exact .any _
    | some u => exact (h.rel t u he).2
  | const v => exact rel_ofVal K φ v
  | global g => exact .any _
  | func f => exact .func .nil .nil

end Go.Lift
end
section
set_option linter.all false
/-
  The lifted layer, part 1: how the store changes with the world: a new block, a written block, a forgotten block, a block that is frozen.
-/
namespace Go.Lift
open Go.RowKit

theorem flat_get {α : Type} {sz : Nat} : ∀ {es : List (List α)} (_ : ∀ e ∈ es, e.length = sz) {i : Nat} {e : List α} (_ : es[i]? = some e) {k : Nat} {x : α} (_ : e[k]? = some x),
    es.flatten[i * sz + k]? = some x
  | [], _, _, _, hi, _, _, _ => by simp at hi
  | a :: es, hs, 0, e, hi, k, x, hk => by
    simp at hi; subst hi
    simp only [List.flatten_cons, Nat.zero_mul, Nat.zero_add]
    rw [List.getElem?_append_left (List.getElem?_eq_some_iff.1 hk).1]; exact hk
  | a :: es, hs, i + 1, e, hi, k, x, hk => by
    have ha : a.length = sz := hs a (by simp)
    have hadd : (i + 1) * sz + k = a.length + (i * sz + k) := by rw [ha, Nat.succ_mul]; omega
    simp only [List.flatten_cons]
    rw [hadd, List.getElem?_append_right (by omega), Nat.add_sub_cancel_left]
    exact flat_get (fun e he => hs e (by simp [he])) (by simpa using hi) hk

theorem flat_length {α : Type} {sz : Nat} : ∀ {es : List (List α)} (_ : ∀ e ∈ es, e.length = sz), es.flatten.length = es.length * sz
  | [], _ => by simp
  | a :: es, hs => by
    have := flat_length (es := es) (fun e he => hs e (by simp [he]))
    have ha : a.length = sz := hs a (by simp)
    simp only [List.flatten_cons, List.length_append, List.length_cons, this, ha, Nat.succ_mul]; omega

theorem flat_drop {α : Type} {sz : Nat} : ∀ {es : List (List α)} (_ : ∀ e ∈ es, e.length = sz) (i : Nat), (es.drop i).flatten = es.flatten.drop (i * sz)
  | [], _, i => by simp
  | a :: es, hs, 0 => by simp
  | a :: es, hs, i + 1 => by
    have ha : a.length = sz := hs a (by simp)
    simp only [List.drop_succ_cons, List.flatten_cons]
    rw [flat_drop (fun e he => hs e (by simp [he])) i, List.drop_append, ha, Nat.succ_mul]
    rw [show a.drop (i * sz + sz) = [] from List.drop_eq_nil_of_le (by omega)]
    simp

theorem flat_take {α : Type} {sz : Nat} : ∀ {es : List (List α)} (_ : ∀ e ∈ es, e.length = sz) (i : Nat), (es.take i).flatten = es.flatten.take (i * sz)
  | [], _, i => by simp
  | a :: es, hs, 0 => by simp
  | a :: es, hs, i + 1 => by
    have ha : a.length = sz := hs a (by simp)
    simp only [List.take_succ_cons, List.flatten_cons]
    rw [flat_take (fun e he => hs e (by simp [he])) i, List.take_append, ha, Nat.succ_mul]
    rw [show a.take (i * sz + sz) = a from List.take_of_length_le (by omega)]
    simp

/-- where a cell of an element lies. -/
theorem flat_elem {α : Type} {sz : Nat} {es : List (List α)} (hs : ∀ e ∈ es, e.length = sz) {i : Nat} {e : List α} (hi : es[i]? = some e) :
    (es.flatten.drop (i * sz)).take sz = e := by
  have h1 := flat_drop hs i
  rw [← h1]
  obtain ⟨hlt, he⟩ := List.getElem?_eq_some_iff.1 hi
  have h2 : es.drop i = e :: es.drop (i + 1) := by rw [← he]; exact List.drop_eq_getElem_cons hlt
  have h3 : e.length = sz := hs e (List.mem_of_getElem? hi)
  rw [h2, List.flatten_cons, List.take_append, ← h3]
  simp

section
variable {B : Nat} {w0 w : World} {K : Know} {φ : List Pl} {S : LS}

theorem SimS.drew (h : SimS B w0 K φ S w) : SimS B w0 K φ S w.drew :=
  ⟨h.below.drew, h.base, fun b o v hv => by rw [World.cell?_drew]; exact h.know b o v hv, h.len, h.sz, h.virt, h.blk, h.inj⟩

theorem SimS.drawn (h : SimS B w0 K φ S w) : SimS B w0 K φ S { w with drawn := w.drawn + 1 } := h.drew

/-- what is known lies in blocks that are there. -/
theorem SimS.know_lt (h : SimS B w0 K φ S w) {b o : Nat} {v : Value} (hv : K b o = some v) : b < w.heap.size :=
  World.block_lt_of_cell? w _ (h.know b o v hv)

theorem SimS.pl (h : SimS B w0 K φ S w) {id : Nat} {x : Option Blk} (hid : S[id]? = some x) : ∃ p, φ[id]? = some p := by
  have : id < φ.length := by rw [h.len]; exact (List.getElem?_eq_some_iff.1 hid).1
  exact ⟨_, List.getElem?_eq_getElem this⟩

/-- a block with an element has memory behind it. -/
theorem SimS.real (h : SimS B w0 K φ S w) {id i : Nat} {es : List (List LV)} {cells : List LV} {p : Pl} (hid : S[id]? = some (some (p.sz, es))) (hi : es[i]? = some cells) (hp : φ[id]? = some p) : p.virt = false := by
  cases hv : p.virt with
  | false => rfl
  | true => have := h.virt id _ es p hid hp hv; subst this; simp at hi

/-- THE RANGE OF CELLS of an element. -/
theorem SimS.range (h : SimS B w0 K φ S w) {id i : Nat} {es : List (List LV)} {cells : List LV} {p : Pl} (hid : S[id]? = some (some (p.sz, es))) (hi : es[i]? = some cells) (hp : φ[id]? = some p) :
    ∃ cs : List Value, w.rangeAt p.b (p.s + i * p.sz) cs ∧ RelL K φ cs cells ∧ (∀ v ∈ cs, v.oneCell' = true) ∧ (∀ j, j < cs.length → w.frozen? ⟨p.b, p.s + i * p.sz + j, none⟩ = false) ∧ cells.length = p.sz := by
  obtain ⟨vals, T, vs, hB, hb, hsz, hes, hr, h1, hv, hK⟩ := h.blk id _ es p hid hp (h.real hid hi hp)
  refine ⟨(vs.drop (i * p.sz)).take p.sz, ?_, ?_, ?_, ?_, hes _ (List.mem_of_getElem? hi)⟩
  · intro j v hj
    rw [cell_of_row w p.b _ vals T (0, 0) hb]
    rw [List.getElem?_take] at hj
    split at hj
    · rw [List.getElem?_drop] at hj
      have := hv _ _ hj
      rwa [← Nat.add_assoc] at this
    · cases hj
  · have := (hr.drop (i * p.sz)).take p.sz
    rwa [flat_elem hes hi] at this
  · intro v hv'; exact h1 v (List.mem_of_mem_drop (List.mem_of_mem_take hv'))
  · intro j _
    simp [World.frozen?, hb]

/-- THE RANGE OF CELLS of a window of elements. -/
theorem SimS.window (h : SimS B w0 K φ S w) {id off n : Nat} {es : List (List LV)} {p : Pl} (hid : S[id]? = some (some (p.sz, es))) (hp : φ[id]? = some p) (hv : p.virt = false) (hn : off + n ≤ es.length) :
    ∃ cs : List Value, w.rangeAt p.b (p.s + off * p.sz) cs ∧ RelL K φ cs ((es.drop off).take n).flatten ∧ (∀ v ∈ cs, v.oneCell' = true) ∧ (∀ j, w.frozen? ⟨p.b, j, none⟩ = false) ∧ cs.length = n * p.sz ∧
      (∀ e ∈ es, e.length = p.sz) := by
  obtain ⟨vals, T, vs, hB, hb, hsz, hes, hr, h1, hv, hK⟩ := h.blk id _ es p hid hp hv
  have hfl : ((es.drop off).take n).flatten = (es.flatten.drop (off * p.sz)).take (n * p.sz) := by
    rw [flat_take (sz := p.sz) (fun e he => hes e (List.mem_of_mem_drop he)), flat_drop hes]
  have hwl : vs.length = es.length * p.sz := by rw [hr.length, flat_length hes]
  refine ⟨(vs.drop (off * p.sz)).take (n * p.sz), ?_, ?_, ?_, ?_, ?_, hes⟩
  · intro j v hj
    rw [cell_of_row w p.b _ vals T (0, 0) hb]
    rw [List.getElem?_take] at hj
    split at hj
    · rw [List.getElem?_drop] at hj
      have := hv _ _ hj
      rwa [← Nat.add_assoc] at this
    · cases hj
  · rw [hfl]; exact (hr.drop _).take _
  · intro v hv'; exact h1 v (List.mem_of_mem_drop (List.mem_of_mem_take hv'))
  · intro j
    simp [World.frozen?, hb]
  · have e3 : (off + n) * p.sz ≤ vs.length := by rw [hwl]; exact Nat.mul_le_mul_right _ hn
    rw [Nat.add_mul] at e3
    rw [List.length_take, List.length_drop]; omega

theorem last_case {S : LS} {x : Option Blk} {id : Nat} {fs : Blk} (hh : (S ++ [x])[id]? = some (some fs)) : (id < S.length ∧ S[id]? = some (some fs)) ∨ (id = S.length ∧ x = some fs) := by
  rcases Nat.lt_or_ge id S.length with hlt | hge
  · exact .inl ⟨hlt, by rwa [List.getElem?_append_left hlt] at hh⟩
  · rw [List.getElem?_append_right hge] at hh
    have : id - S.length = 0 := by
      by_cases e : id - S.length = 0
      · exact e
      · obtain ⟨m, hm⟩ : ∃ m, id - S.length = m + 1 := ⟨id - S.length - 1, by omega⟩
        rw [hm] at hh; simp at hh
    rw [this] at hh; simp at hh
    exact .inr ⟨by omega, hh⟩

/-- A block that is neither live nor known comes (back) into the store. -/
theorem SimS.add (h : SimS B w0 K φ S w) {c s sz : Nat} {vals : Array Value} {T : TypeId} {es : List (List LV)} {vs : List Value} (hB : B ≤ c) (hb : w.heap[c]? = some (.cells vals T (0, 0)))
    (hl : ∀ (id : Nat) (fs : Blk) (p : Pl), S[id]? = some (some fs) → φ[id]? = some p → p.virt = false → p.b ≠ c) (hk : ∀ o, K c o = none)
    (hes : ∀ e ∈ es, e.length = sz) (hr : RelL K φ vs es.flatten) (h1 : ∀ v ∈ vs, v.oneCell' = true) (hv : ∀ (j : Nat) (v : Value), vs[j]? = some v → vals[s + j]? = some v) :
    SimS B w0 K (φ ++ [⟨c, s, sz, vals.size, false⟩]) (S ++ [some (sz, es)]) w := by
  have hpre : φ <+: φ ++ [⟨c, s, sz, vals.size, false⟩] := List.prefix_append _ _
  have hφold : ∀ (id : Nat) (p : Pl), id < S.length → (φ ++ [(⟨c, s, sz, vals.size, false⟩ : Pl)])[id]? = some p → φ[id]? = some p := fun id p hlt hh => by
    rwa [List.getElem?_append_left (by rw [h.len]; exact hlt)] at hh
  have hlast : (φ ++ [(⟨c, s, sz, vals.size, false⟩ : Pl)])[S.length]? = some ⟨c, s, sz, vals.size, false⟩ := by
    rw [← h.len]; simp
  refine ⟨h.below, h.base, h.know, by simp [h.len], ?_, ?_, ?_, ?_⟩
  · intro id n fs p hh hp
    rcases last_case hh with ⟨hlt, hh'⟩ | ⟨rfl, hx⟩
    · exact h.sz id n fs p hh' (hφold _ _ hlt hp)
    · rw [hlast] at hp; cases hp; cases hx; rfl
  · intro id n fs p hh hp hvp
    rcases last_case hh with ⟨hlt, hh'⟩ | ⟨rfl, hx⟩
    · exact h.virt id n fs p hh' (hφold _ _ hlt hp) hvp
    · rw [hlast] at hp; cases hp; cases hvp
  · intro id n fs p hh hp hvp
    rcases last_case hh with ⟨hlt, hh'⟩ | ⟨rfl, hx⟩
    · obtain ⟨vals', T', vs', hB, hb, hsz, hes', hr', h1', hv', hK⟩ := h.blk id n fs p hh' (hφold _ _ hlt hp) hvp
      exact ⟨vals', T', vs', hB, hb, hsz, hes', hr'.mono (Know.le_refl K) hpre, h1', hv', hK⟩
    · rw [hlast] at hp; cases hp; cases hx
      exact ⟨vals, T, vs, hB, hb, rfl, hes, hr.mono (Know.le_refl K) hpre, h1, hv, hk⟩
  · intro i j es1 es2 p q hi hj hp hq hvp hvq hb
    rcases last_case hi with ⟨hi', hi2⟩ | ⟨rfl, hx⟩ <;> rcases last_case hj with ⟨hj', hj2⟩ | ⟨rfl, hy⟩
    · exact h.inj i j es1 es2 p q hi2 hj2 (hφold _ _ hi' hp) (hφold _ _ hj' hq) hvp hvq hb
    · rw [hlast] at hq; cases hq
      exact absurd hb (hl i es1 p hi2 (hφold _ _ hi' hp) hvp)
    · rw [hlast] at hp; cases hp
      exact absurd hb.symm (hl j es2 q hj2 (hφold _ _ hj' hq) hvq)
    · rfl

/-- A row without elements and without memory. -/
theorem SimS.addVirt (h : SimS B w0 K φ S w) (n : Nat) : SimS B w0 K (φ ++ [⟨0, 0, n, 0, true⟩]) (S ++ [some (n, [])]) w := by
  have hpre : φ <+: φ ++ [⟨0, 0, n, 0, true⟩] := List.prefix_append _ _
  have hφold : ∀ (id : Nat) (p : Pl), id < S.length → (φ ++ [(⟨0, 0, n, 0, true⟩ : Pl)])[id]? = some p → φ[id]? = some p := fun id p hlt hh => by
    rwa [List.getElem?_append_left (by rw [h.len]; exact hlt)] at hh
  have hlast : (φ ++ [(⟨0, 0, n, 0, true⟩ : Pl)])[S.length]? = some ⟨0, 0, n, 0, true⟩ := by
    rw [← h.len]; simp
  refine ⟨h.below, h.base, h.know, by simp [h.len], ?_, ?_, ?_, ?_⟩
  · intro id m fs p hh hp
    rcases last_case hh with ⟨hlt, hh'⟩ | ⟨rfl, hx⟩
    · exact h.sz id m fs p hh' (hφold _ _ hlt hp)
    · rw [hlast] at hp; cases hp; cases hx; rfl
  · intro id m fs p hh hp hvp
    rcases last_case hh with ⟨hlt, hh'⟩ | ⟨rfl, hx⟩
    · exact h.virt id m fs p hh' (hφold _ _ hlt hp) hvp
    · cases hx; rfl
  · intro id m fs p hh hp hvp
    rcases last_case hh with ⟨hlt, hh'⟩ | ⟨rfl, hx⟩
    · obtain ⟨vals', T', vs', hB, hb, hsz, hes', hr', h1', hv', hK⟩ := h.blk id m fs p hh' (hφold _ _ hlt hp) hvp
      exact ⟨vals', T', vs', hB, hb, hsz, hes', hr'.mono (Know.le_refl K) hpre, h1', hv', hK⟩
    · rw [hlast] at hp; cases hp; cases hvp
  · intro i j es1 es2 p q hi hj hp hq hvp hvq hb
    rcases last_case hi with ⟨hi', hi2⟩ | ⟨rfl, hx⟩ <;> rcases last_case hj with ⟨hj', hj2⟩ | ⟨rfl, hy⟩
    · exact h.inj i j es1 es2 p q hi2 hj2 (hφold _ _ hi' hp) (hφold _ _ hj' hq) hvp hvq hb
    · rw [hlast] at hq; cases hq; cases hvq
    · rw [hlast] at hp; cases hp; cases hvp
    · rfl

/-- another block is made, of which the store knows nothing. -/
theorem SimS.alloc (h : SimS B w0 K φ S w) (o : Obj) : SimS B w0 K φ S (w.alloc o) := by
  refine ⟨h.below.alloc h.base _, by show B ≤ (w.heap.push _).size; have := h.base; simp; omega, ?_, h.len, h.sz, h.virt, ?_, h.inj⟩
  · intro b o v hk
    rw [World.cell?_alloc_lt _ _ _ (h.know_lt hk)]; exact h.know b o v hk
  · intro id n fs p hh hp hv
    obtain ⟨vals', T', vs', hB, hb, rest⟩ := h.blk id n fs p hh hp hv
    have hlt' : p.b < w.heap.size := (Array.getElem?_eq_some_iff.1 hb).1
    exact ⟨vals', T', vs', hB, by rw [Below.heap_alloc _ _ _ hlt']; exact hb, rest⟩

/-- the next block is not known, and not live. -/
theorem SimS.next_free (h : SimS B w0 K φ S w) (o : Nat) : K w.heap.size o = none := by
  cases hko : K w.heap.size o with
  | none => rfl
  | some v => exact absurd (h.know_lt hko) (Nat.lt_irrefl _)
theorem SimS.next_dead (h : SimS B w0 K φ S w) (id : Nat) (fs : Blk) (p : Pl) (hid : S[id]? = some (some fs)) (hp : φ[id]? = some p) (hv : p.virt = false) : p.b ≠ w.heap.size := by
  obtain ⟨vals', T', vs', hB, hb, rest⟩ := h.blk id fs.1 fs.2 p hid hp hv
  have := (Array.getElem?_eq_some_iff.1 hb).1
  omega

/-- A NEW BLOCK. -/
theorem SimS.new (h : SimS B w0 K φ S w) {vals : Array Value} {T : TypeId} {es : List (List LV)} {vs : List Value} {sz : Nat} (hes : ∀ e ∈ es, e.length = sz) (hr : RelL K φ vs es.flatten)
    (h1 : ∀ v ∈ vs, v.oneCell' = true) (hv : ∀ (j : Nat) (v : Value), vs[j]? = some v → vals[j]? = some v) :
    SimS B w0 K (φ ++ [⟨w.heap.size, 0, sz, vals.size, false⟩]) (S ++ [some (sz, es)]) (w.alloc (.cells vals T)) :=
  (h.alloc (.cells vals T)).add (T := T) (c := w.heap.size) (s := 0) h.base (by show (w.heap.push _)[w.heap.size]? = _; simp) (h.next_dead) h.next_free hes hr h1 (fun j v hj => by simpa using hv j v hj)

theorem heap_setCells {b : Nat} {T : TypeId} {fr : Nat × Nat} : ∀ (vs : List Value) (o : Nat) (w : World) (vals : Array Value), w.heap[b]? = some (.cells vals T fr) →
    ∃ vals' : Array Value, (w.setCells b o vs).heap[b]? = some (.cells vals' T fr) ∧ vals'.size = vals.size ∧
      (∀ j v, vs[j]? = some v → o + j < vals.size → vals'[o + j]? = some v) ∧ (∀ k, k < o ∨ o + vs.length ≤ k → vals'[k]? = vals[k]?)
  | [], o, w, vals, h => ⟨vals, h, rfl, fun j v hj => by simp at hj, fun _ _ => rfl⟩
  | v :: vs, o, w, vals, h => by
    have h1 : (w.setCell ⟨b, o, none⟩ v).heap[b]? = some (.cells (vals.setIfInBounds o v) T fr) := by
      simp [World.setCell, Array.getElem?_modify, h]
    obtain ⟨vals', h2, h3, h4, h5⟩ := heap_setCells vs (o + 1) _ _ h1
    refine ⟨vals', h2, by simpa using h3, ?_, ?_⟩
    · intro j x hj hlt
      cases j with
      | zero =>
        simp at hj; subst hj
        have := h5 o (by omega)
        simp at hlt
        simpa [hlt] using this
      | succ j =>
        have := h4 j x (by simpa using hj) (by simp; omega)
        rwa [show o + (j + 1) = o + 1 + j by omega]
    · intro k hk
      rw [h5 k (by simp at hk; omega)]
      have : o ≠ k := by simp at hk; omega
      simp [Array.getElem?_setIfInBounds_ne this]

theorem heap_setCells_ne {b c : Nat} (hne : c ≠ b) : ∀ (vs : List Value) (o : Nat) (w : World), (w.setCells b o vs).heap[c]? = w.heap[c]?
  | [], _, _ => rfl
  | v :: vs, o, w => by
    rw [World.setCells, heap_setCells_ne hne vs (o + 1), Below.heap_setCell _ _ _ _ (by simpa using hne)]

theorem heap_setCells_size (b : Nat) : ∀ (vs : List Value) (o : Nat) (w : World), (w.setCells b o vs).heap.size = w.heap.size
  | [], _, _ => rfl
  | v :: vs, o, w => by rw [World.setCells, heap_setCells_size b vs (o + 1)]; simp [World.setCell]

theorem below_setCells {b : Nat} (hb : B ≤ b) : ∀ (vs : List Value) (o : Nat) {w : World}, Below B w0 w → Below B w0 (w.setCells b o vs)
  | [], _, _, h => h
  | v :: vs, o, _, h => below_setCells hb vs (o + 1) (h.setCell (p := ⟨b, o, none⟩) hb v)

/-- what is known is not in a block of the store. -/
theorem SimS.know_ne (h : SimS B w0 K φ S w) {id : Nat} {es : List (List LV)} {p : Pl} (hid : S[id]? = some (some (p.sz, es))) (hp : φ[id]? = some p) (hv : p.virt = false) {b o : Nat} {v : Value} (hk : K b o = some v) : b ≠ p.b := by
  obtain ⟨vals, T, vs, _, _, _, _, _, _, _, hK⟩ := h.blk id _ es p hid hp hv
  intro e
  subst e
  rw [hK o] at hk; cases hk

/-- A WRITTEN RANGE OF A BLOCK. -/
theorem SimS.writeFlat (h : SimS B w0 K φ S w) {id a : Nat} {es es' : List (List LV)} {us : List LV} {p : Pl} {vs : List Value} (hid : S[id]? = some (some (p.sz, es))) (hp : φ[id]? = some p) (hvp : p.virt = false)
    (ha : a + us.length ≤ es.flatten.length) (hr : RelL K φ vs us) (h1 : ∀ v ∈ vs, v.oneCell' = true) (hes' : ∀ e ∈ es', e.length = p.sz) (hfl : es'.flatten = es.flatten.take a ++ us ++ es.flatten.drop (a + us.length)) :
    SimS B w0 K φ (S.set id (some (p.sz, es'))) (w.setCells p.b (p.s + a) vs) := by
  obtain ⟨vals, T, ws, hB, hb, hsz, hes, hws, h1', hv, hK⟩ := h.blk id _ es p hid hp hvp
  have hlt : id < S.length := (List.getElem?_eq_some_iff.1 hid).1
  have hvl : vs.length = us.length := hr.length
  have hwl : ws.length = es.flatten.length := hws.length
  obtain ⟨vals', g1, g2, g3, g4⟩ := heap_setCells (b := p.b) vs (p.s + a) w vals hb
  have back : ∀ (x : Nat) (fs : Blk), (S.set id (some (p.sz, es')))[x]? = some (some fs) → ∃ gs, S[x]? = some (some gs) := fun x fs hx => by
    by_cases e : id = x
    · subst e; exact ⟨_, hid⟩
    · rw [List.getElem?_set_ne e] at hx; exact ⟨fs, hx⟩
  refine ⟨below_setCells hB vs _ h.below, by rw [heap_setCells_size]; exact h.base, ?_, by simp [h.len], ?_, ?_, ?_, ?_⟩
  · intro b o v hk
    have hne := h.know_ne hid hp hvp hk
    rw [World.cell?_setCells_out p.b vs _ w ⟨b, o, none⟩ (fun e _ => absurd e hne)]
    exact h.know b o v hk
  · intro jd n fs q hj hq
    by_cases e : id = jd
    · subst e; rw [hp] at hq; cases hq; rw [List.getElem?_set_self hlt] at hj; cases hj; rfl
    · rw [List.getElem?_set_ne e] at hj; exact h.sz jd n fs q hj hq
  · intro jd n fs q hj hq hvq
    by_cases e : id = jd
    · subst e; rw [hp] at hq; cases hq; rw [hvp] at hvq; cases hvq
    · rw [List.getElem?_set_ne e] at hj; exact h.virt jd n fs q hj hq hvq
  · intro jd n fs q hj hq hvq
    by_cases e : id = jd
    · subst e
      rw [hp] at hq; cases hq
      rw [List.getElem?_set_self hlt] at hj
      cases hj
      refine ⟨vals', T, ws.take a ++ vs ++ ws.drop (a + us.length), hB, g1, by rw [g2, hsz], hes', ?_, ?_, ?_, hK⟩
      · rw [hfl]
        exact ((hws.take _).append hr).append (hws.drop _)
      · intro v hv'
        simp only [List.mem_append] at hv'
        rcases hv' with (hv' | hv') | hv'
        · exact h1' v (List.mem_of_mem_take hv')
        · exact h1 v hv'
        · exact h1' v (List.mem_of_mem_drop hv')
      · intro j v hj
        have htl : (ws.take a).length = a := by rw [List.length_take, Nat.min_eq_left (by omega)]
        rw [List.append_assoc, List.getElem?_append, htl] at hj
        split at hj
        · rename_i hjl
          rw [List.getElem?_take_of_lt hjl] at hj
          rw [g4 _ (by omega)]; exact hv j v hj
        · rename_i hjl
          rw [List.getElem?_append] at hj
          split at hj
          · rename_i hj2
            have hjw : j < ws.length := by omega
            have hin : p.s + j < vals.size := (Array.getElem?_eq_some_iff.1 (hv j _ (List.getElem?_eq_getElem hjw))).1
            have := g3 (j - a) v hj (by omega)
            rwa [show p.s + a + (j - a) = p.s + j by omega] at this
          · rename_i hj2
            rw [List.getElem?_drop] at hj
            rw [show a + us.length + (j - a - vs.length) = j by omega] at hj
            rw [g4 _ (by omega)]; exact hv j v hj
    · rw [List.getElem?_set_ne e] at hj
      obtain ⟨valsq, Tq, wq, hBq, hbq, rest⟩ := h.blk jd n fs q hj hq hvq
      refine ⟨valsq, Tq, wq, hBq, ?_, rest⟩
      have hne : q.b ≠ p.b := fun eb => e (h.inj id jd _ _ p q hid hj hp hq hvp hvq eb.symm)
      rw [heap_setCells_ne hne]; exact hbq
  · intro a' c es1 es2 p' q' ha' hc hpa hqc hv1 hv2 hbb
    obtain ⟨g1, hg1⟩ := back a' es1 ha'
    obtain ⟨g2, hg2⟩ := back c es2 hc
    exact h.inj a' c g1 g2 p' q' hg1 hg2 hpa hqc hv1 hv2 hbb

/-- A WRITTEN ELEMENT. -/
theorem SimS.write (h : SimS B w0 K φ S w) {id i off : Nat} {es : List (List LV)} {cells us : List LV} {p : Pl} {vs : List Value} (hid : S[id]? = some (some (p.sz, es))) (hi : es[i]? = some cells) (hp : φ[id]? = some p)
    (hoff : off + us.length ≤ cells.length) (hr : RelL K φ vs us) (h1 : ∀ v ∈ vs, v.oneCell' = true) :
    SimS B w0 K φ (S.set id (some (p.sz, es.set i (cells.take off ++ us ++ cells.drop (off + us.length))))) (w.setCells p.b (p.s + i * p.sz + off) vs) := by
  have hvp := h.real hid hi hp
  obtain ⟨vals, T, ws, hB, hb, hsz, hes, hws, h1', hv, hK⟩ := h.blk id _ es p hid hp hvp
  have hcl : cells.length = p.sz := hes cells (List.mem_of_getElem? hi)
  have hilt : i < es.length := (List.getElem?_eq_some_iff.1 hi).1
  have hwl : es.flatten.length = es.length * p.sz := flat_length hes
  have hiw : i * p.sz + p.sz ≤ es.flatten.length := by
    rw [hwl, ← Nat.succ_mul]; exact Nat.mul_le_mul_right _ hilt
  rw [Nat.add_assoc]
  refine h.writeFlat hid hp hvp (by omega) hr h1 ?_ ?_
  · intro e he
    rcases List.mem_or_eq_of_mem_set he with he | he
    · exact hes e he
    · subst he; simp; omega
  · have a1 : es = es.take i ++ cells :: es.drop (i + 1) := by
      conv => lhs; rw [← List.take_append_drop i es]
      rw [List.drop_eq_getElem_cons hilt, (List.getElem?_eq_some_iff.1 hi).2]
    have a2 : (es.take i).flatten.length = i * p.sz := by
      rw [flat_length (sz := p.sz) (fun e he => hes e (List.mem_of_mem_take he)), List.length_take]
      rw [Nat.min_eq_left (by omega)]
    have a3 : es.set i (cells.take off ++ us ++ cells.drop (off + us.length)) = es.take i ++ (cells.take off ++ us ++ cells.drop (off + us.length)) :: es.drop (i + 1) := by
      rw [List.set_eq_take_append_cons_drop]; simp [hilt]
    have a4 : es.flatten = (es.take i).flatten ++ (cells ++ (es.drop (i + 1)).flatten) := by
      conv => lhs; rw [a1]
      simp
    rw [a3, a4]
    simp only [List.flatten_append, List.flatten_cons]
    rw [List.take_append, a2, List.drop_append, a2]
    rw [show (es.take i).flatten.take (i * p.sz + off) = (es.take i).flatten from List.take_of_length_le (by rw [a2]; omega)]
    rw [show (es.take i).flatten.drop (i * p.sz + off + us.length) = [] from List.drop_eq_nil_of_le (by rw [a2]; omega)]
    rw [show i * p.sz + off - i * p.sz = off by omega, show i * p.sz + off + us.length - i * p.sz = off + us.length by omega]
    rw [List.take_append, List.drop_append]
    rw [show off - cells.length = 0 by omega, show off + us.length - cells.length = 0 by omega]
    simp

/-- WRITTEN ELEMENTS, whole. -/
theorem SimS.writeMany (h : SimS B w0 K φ S w) {id off : Nat} {es fs : List (List LV)} {p : Pl} {vs : List Value} (hid : S[id]? = some (some (p.sz, es))) (hp : φ[id]? = some p) (hvp : p.virt = false)
    (hoff : off + fs.length ≤ es.length) (hfs : ∀ e ∈ fs, e.length = p.sz) (hr : RelL K φ vs fs.flatten) (h1 : ∀ v ∈ vs, v.oneCell' = true) :
    SimS B w0 K φ (S.set id (some (p.sz, es.take off ++ fs ++ es.drop (off + fs.length)))) (w.setCells p.b (p.s + off * p.sz) vs) := by
  obtain ⟨vals, T, ws, hB, hb, hsz, hes, hws, h1', hv, hK⟩ := h.blk id _ es p hid hp hvp
  have hfl := flat_length hfs
  have hel := flat_length hes
  have e3 : (off + fs.length) * p.sz ≤ es.flatten.length := by rw [hel]; exact Nat.mul_le_mul_right _ hoff
  rw [Nat.add_mul] at e3
  refine h.writeFlat hid hp hvp (by omega) hr h1 ?_ ?_
  · intro e he
    simp only [List.mem_append] at he
    rcases he with (he | he) | he
    · exact hes e (List.mem_of_mem_take he)
    · exact hfs e he
    · exact hes e (List.mem_of_mem_drop he)
  · simp only [List.flatten_append]
    rw [flat_take hes, flat_drop hes, hfl, Nat.add_mul]

/-- A FORGOTTEN BLOCK. -/
theorem SimS.kill (h : SimS B w0 K φ S w) (id : Nat) : SimS B w0 K φ (S.set id none) w := by
  have back : ∀ (x : Nat) (fs : Blk), (S.set id none)[x]? = some (some fs) → S[x]? = some (some fs) := fun x fs hx => by
    by_cases e : id = x
    · subst e
      rcases Nat.lt_or_ge id S.length with hlt | hge
      · rw [List.getElem?_set_self hlt] at hx; cases hx
      · rw [List.getElem?_eq_none (by simpa using hge)] at hx; cases hx
    · rwa [List.getElem?_set_ne e] at hx
  exact ⟨h.below, h.base, h.know, by simp [h.len], fun x n fs p hx => h.sz x n fs p (back x _ hx), fun x n fs p hx => h.virt x n fs p (back x _ hx), fun x n fs p hx => h.blk x n fs p (back x _ hx), fun i j es fs p q hi hj => h.inj i j es fs p q (back _ _ hi) (back _ _ hj)⟩

theorem SimS.kill_dead (h : SimS B w0 K φ S w) {id : Nat} {es : List (List LV)} {p : Pl} (hid : S[id]? = some (some (p.sz, es))) (hp : φ[id]? = some p) (hvp : p.virt = false) (jd : Nat) (gs : Blk) (q : Pl)
    (hj : (S.set id none)[jd]? = some (some gs)) (hq : φ[jd]? = some q) (hvq : q.virt = false) : q.b ≠ p.b := fun e => by
  have hlt : id < S.length := (List.getElem?_eq_some_iff.1 hid).1
  by_cases ej : id = jd
  · subst ej; rw [List.getElem?_set_self hlt] at hj; cases hj
  · rw [List.getElem?_set_ne ej] at hj
    exact ej (h.inj id jd _ gs p q hid hj hp hq hvp hvq e.symm)

/-- A write into a block that is neither live nor known. -/
theorem SimS.setFree (h : SimS B w0 K φ S w) {c : Nat} (hB : B ≤ c) (hl : ∀ (id : Nat) (es : Blk) (p : Pl), S[id]? = some (some es) → φ[id]? = some p → p.virt = false → p.b ≠ c) (hk : ∀ o, K c o = none) (o : Nat) (vs : List Value) :
    SimS B w0 K φ S (w.setCells c o vs) := by
  refine ⟨below_setCells hB vs _ h.below, by rw [heap_setCells_size]; exact h.base, ?_, h.len, h.sz, h.virt, ?_, h.inj⟩
  · intro b o' v hv
    have hne : b ≠ c := fun e => by subst e; rw [hk] at hv; cases hv
    rw [World.cell?_setCells_out c vs _ w ⟨b, o', none⟩ (fun e _ => absurd e hne)]
    exact h.know b o' v hv
  · intro id n es p hid hp hvp
    obtain ⟨valsq, Tq, wq, hBq, hbq, rest⟩ := h.blk id n es p hid hp hvp
    exact ⟨valsq, Tq, wq, hBq, by rw [heap_setCells_ne (hl id _ p hid hp hvp)]; exact hbq, rest⟩

/-- APPEND IN PLACE: the window [off, off + len) of a live block and the new elements behind it become a block of the store; the old one is forgotten. -/
theorem SimS.regrow (h : SimS B w0 K φ S w) {id off len cap : Nat} {es fs : List (List LV)} {p : Pl} {news : List Value} (hid : S[id]? = some (some (p.sz, es))) (hp : φ[id]? = some p) (hvp : p.virt = false)
    (hw : off + len ≤ es.length) (hcap : p.s + (off + cap) * p.sz ≤ p.size) (hroom : len + fs.length ≤ cap) (hfs : ∀ e ∈ fs, e.length = p.sz) (hr : RelL K φ news fs.flatten) (h1 : ∀ v ∈ news, v.oneCell' = true) :
    SimS B w0 K (φ ++ [⟨p.b, p.s + off * p.sz, p.sz, p.size, false⟩]) ((S.set id none) ++ [some (p.sz, (es.drop off).take len ++ fs)]) (w.setCells p.b (p.s + off * p.sz + len * p.sz) news) := by
  obtain ⟨vals, T, ws, hB, hb, hsz, hes, hws, h1', hv, hK⟩ := h.blk id _ es p hid hp hvp
  have hlt : id < S.length := (List.getElem?_eq_some_iff.1 hid).1
  have hl := h.kill_dead hid hp hvp
  have hk2 := (h.kill id).setFree hB hl hK (p.s + off * p.sz + len * p.sz) news
  obtain ⟨vals', g1, g2, g3, g4⟩ := heap_setCells (b := p.b) news (p.s + off * p.sz + len * p.sz) w vals hb
  have hnl : news.length = fs.length * p.sz := by rw [hr.length, flat_length hfs]
  have hwl : ws.length = es.length * p.sz := by rw [hws.length, flat_length hes]
  have e3 : (off + len) * p.sz ≤ ws.length := by rw [hwl]; exact Nat.mul_le_mul_right _ hw
  rw [Nat.add_mul] at e3
  have e4 : (len + fs.length) * p.sz ≤ cap * p.sz := Nat.mul_le_mul_right _ hroom
  rw [Nat.add_mul] at e4
  rw [Nat.add_mul] at hcap
  have := hk2.add (s := p.s + off * p.sz) (sz := p.sz) (es := (es.drop off).take len ++ fs) (vs := (ws.drop (off * p.sz)).take (len * p.sz) ++ news) hB g1 hl hK ?_ ?_ ?_ ?_
  · rwa [g2, hsz] at this
  · intro e he
    simp only [List.mem_append] at he
    rcases he with he | he
    · exact hes e (List.mem_of_mem_drop (List.mem_of_mem_take he))
    · exact hfs e he
  · rw [List.flatten_append]
    refine RelL.append ?_ hr
    rw [flat_take (sz := p.sz) (fun e he => hes e (List.mem_of_mem_drop he)), flat_drop hes]
    exact (hws.drop _).take _
  · intro v hv'
    simp only [List.mem_append] at hv'
    rcases hv' with hv' | hv'
    · exact h1' v (List.mem_of_mem_drop (List.mem_of_mem_take hv'))
    · exact h1 v hv'
  · intro j v hj
    have htl : ((ws.drop (off * p.sz)).take (len * p.sz)).length = len * p.sz := by rw [List.length_take, List.length_drop]; omega
    rw [List.getElem?_append, htl] at hj
    split at hj
    · rename_i hjl
      rw [List.getElem?_take_of_lt hjl, List.getElem?_drop] at hj
      rw [g4 _ (by omega), Nat.add_assoc]; exact hv _ v hj
    · rename_i hjl
      have hjn : j - len * p.sz < news.length := (List.getElem?_eq_some_iff.1 hj).1
      have := g3 (j - len * p.sz) v hj (by omega)
      rwa [show p.s + off * p.sz + len * p.sz + (j - len * p.sz) = p.s + off * p.sz + j by omega] at this

/-! ### Freezing -/
/-- what is known, and the cells 'vs' of block 'c' from 's' on. -/
def Know.with_ (K : Know) (c s : Nat) (vs : List Value) : Know := fun b o => if b = c ∧ s ≤ o ∧ o - s < vs.length then vs[o - s]? else K b o

theorem Know.le_with {K : Know} {c s : Nat} {vs : List Value} (h : ∀ o, K c o = none) : K.le (K.with_ c s vs) := by
  intro b o v hv
  unfold Know.with_
  rw [if_neg]
  · exact hv
  · rintro ⟨rfl, _⟩; rw [h] at hv; cases hv

theorem Know.with_get {K : Know} {c s j : Nat} {vs : List Value} {v : Value} (h : vs[j]? = some v) : (K.with_ c s vs) c (s + j) = some v := by
  have hj := (List.getElem?_eq_some_iff.1 h).1
  unfold Know.with_
  rw [if_pos ⟨rfl, by omega, by omega⟩, Nat.add_sub_cancel_left]; exact h

/-- cells of a block that is not live become known. -/
theorem SimS.learn (h : SimS B w0 K φ S w) {c s : Nat} {vals : Array Value} {T : TypeId} {fr : Nat × Nat} {vs : List Value} (hb : w.heap[c]? = some (.cells vals T fr))
    (hl : ∀ (id : Nat) (es : Blk) (p : Pl), S[id]? = some (some es) → φ[id]? = some p → p.virt = false → p.b ≠ c) (hk : ∀ o, K c o = none) (hv : ∀ (j : Nat) (v : Value), vs[j]? = some v → vals[s + j]? = some v) :
    SimS B w0 (K.with_ c s vs) φ S w := by
  have hle : K.le (K.with_ c s vs) := Know.le_with hk
  refine ⟨h.below, h.base, ?_, h.len, h.sz, h.virt, ?_, h.inj⟩
  · intro b o v hv'
    unfold Know.with_ at hv'
    split at hv'
    · rename_i hc
      obtain ⟨rfl, hso, _⟩ := hc
      rw [cell_of_row w b _ vals T fr hb]
      have := hv _ _ hv'
      rwa [show s + (o - s) = o by omega] at this
    · exact h.know b o v hv'
  · intro jd n gs q hj hq hvq
    obtain ⟨valsq, Tq, wq, hBq, hbq, hsq, heq, hrq, h1q, hvq', hKq⟩ := h.blk jd n gs q hj hq hvq
    refine ⟨valsq, Tq, wq, hBq, hbq, hsq, heq, hrq.mono hle (List.prefix_refl _), h1q, hvq', fun o => ?_⟩
    unfold Know.with_
    rw [if_neg]
    · exact hKq o
    · rintro ⟨e, _⟩; exact hl jd _ q hj hq hvq e

theorem SimS.freeze1 (h : SimS B w0 K φ S w) {id : Nat} {es : List (List LV)} {p : Pl} (hid : S[id]? = some (some (p.sz, es))) (hp : φ[id]? = some p) :
    ∃ (K' : Know) (vs : List Value), K.le K' ∧ SimS B w0 K' φ (S.set id none) w ∧ RelL K' φ vs es.flatten ∧ (∀ v ∈ vs, v.oneCell' = true) ∧ (p.virt = false → ∀ e ∈ es, e.length = p.sz) ∧
      (∀ j v, vs[j]? = some v → K' p.b (p.s + j) = some v) := by
  cases hvp : p.virt with
  | true =>
    have := h.virt id _ es p hid hp hvp
    subst this
    exact ⟨K, [], Know.le_refl K, h.kill id, .nil, by simp, by simp, by simp⟩
  | false =>
    obtain ⟨vals, T, ws, hB, hb, hsz, hes, hws, h1', hv, hK⟩ := h.blk id _ es p hid hp hvp
    have hle : K.le (K.with_ p.b p.s ws) := Know.le_with hK
    exact ⟨K.with_ p.b p.s ws, ws, hle, (h.kill id).learn hb (h.kill_dead hid hp hvp) hK hv, hws.mono hle (List.prefix_refl _), h1', fun _ => hes, fun j v hj => Know.with_get hj⟩

end
end Go.Lift
end
section
set_option linter.all false
/-
  The lifted layer, part 2: loads, stores, new variables, addresses.
-/
namespace Go.Lift
open Go.RowKit

/-- What is asked of the world behind an operation or a call. -/
def Good (B : Nat) (w0 : World) (K : Know) (φ : List Pl) (k : LV → LS → Prop) (v : Value) (w' : World) : Prop :=
  ∃ u S' K' φ', k u S' ∧ K.le K' ∧ φ <+: φ' ∧ SimS B w0 K' φ' S' w' ∧ Rel K' φ' v u

def Lsem (P : Program) (r : Result Next) (G : Value → World → Prop) : Prop :=
  match r with
  | .ok (.value v) w' => G v w'
  | .ok .skip w' => G undef w'
  | .ok (.enter f args) w' => Calls P f args w' (fun e w'' => ∃ v, e = .returned v ∧ G v w'')
  | _ => False

theorem Good.mk {B : Nat} {w0 w : World} {K K' : Know} {φ φ' : List Pl} {S' : LS} {k : LV → LS → Prop} {v : Value} {u : LV} (hk : k u S') (hK : K.le K') (hφ : φ <+: φ') (hS : SimS B w0 K' φ' S' w) (hr : Rel K' φ' v u) :
    Good B w0 K φ k v w := ⟨u, S', K', φ', hk, hK, hφ, hS, hr⟩
theorem Good.same {B : Nat} {w0 w : World} {K : Know} {φ : List Pl} {S : LS} {k : LV → LS → Prop} {v : Value} {u : LV} (hk : k u S) (hS : SimS B w0 K φ S w) (hr : Rel K φ v u) :
    Good B w0 K φ k v w := ⟨u, S, K, φ, hk, Know.le_refl K, List.prefix_refl _, hS, hr⟩

def rowT (P : Program) (t : TypeId) : Option Bool := (P.underlying t).map TypeDesc.isRow
def sizeT (P : Program) (t : TypeId) : Option Nat := (P.info? t).map (·.size)

def ld (P : Program) (t : TypeId) (cells : List LV) (off : Nat) : Option LV :=
  match rowT P t with
  | some true => match sizeT P t with
    | some n => if off + n ≤ cells.length then some (.agg ((cells.drop off).take n)) else none
    | none => none
  | some false => cells[off]?
  | none => none

def LS.at (S : LS) : LV → Option (List LV × Nat)
  | .ptr id i off => match S[id]? with
    | some (some (_, es)) => match es[i]? with
      | some cells => some (cells, off)
      | none => none
    | _ => none
  | .eptr cells off => some (cells, off)
  | _ => none

section
variable {P : Program} {B : Nat} {w0 w : World} {K : Know} {φ : List Pl} {S : LS}

theorem SimS.at (h : SimS B w0 K φ S w) {u : LV} {v : Value} {cells : List LV} {off : Nat} (hr : Rel K φ v u) (hu : S.at u = some (cells, off)) :
    ∃ b o cs, v = .pointer (some ⟨b, o + off, none⟩) ∧ w.rangeAt b o cs ∧ RelL K φ cs cells ∧ ∀ x ∈ cs, x.oneCell' = true := by
  cases u <;> simp only [LS.at] at hu <;> try (cases hu; done)
  case ptr id i off' =>
    split at hu
    · rename_i n es he
      split at hu
      · rename_i cells' hi
        cases hu
        cases hr with
        | ptr hp =>
          have := h.sz _ _ _ _ he hp
          subst this
          obtain ⟨cs, h1, h2, h3, _, _⟩ := h.range he hi hp
          exact ⟨_, _, cs, rfl, h1, h2, h3⟩
      · cases hu
    · cases hu
  case eptr cells' off' =>
    cases hu
    cases hr with
    | eptr hk h1 hl => exact ⟨_, _, _, rfl, fun j v hv => h.know _ _ _ (hk j v hv), hl, h1⟩

theorem rangeAt_drop {w : World} {b o : Nat} {cs : List Value} (h : w.rangeAt b o cs) (n : Nat) : w.rangeAt b (o + n) (cs.drop n) := fun j v hv => by
  rw [List.getElem?_drop] at hv
  rw [Nat.add_assoc]; exact h _ _ hv
theorem rangeAt_take {w : World} {b o : Nat} {cs : List Value} (h : w.rangeAt b o cs) (n : Nat) : w.rangeAt b o (cs.take n) := fun j v hv => by
  rw [List.getElem?_take] at hv
  split at hv
  · exact h _ _ hv
  · cases hv

theorem run_isAgg {t : TypeId} {d : TypeDesc} (h : P.underlying t = some d) (w : World) : (isAgg t).run P w = .ok d.isRow w := by
  unfold isAgg
  rw [Sem.run_bind, run_underlying h w]
  cases d <;> rfl

/-- a load through an address whose cells are known. -/
theorem run_loadVar_lift {t : TypeId} {b o off : Nat} {cs : List Value} {cells : List LV} {r : LV} (hc : w.rangeAt b o cs) (hl : RelL K φ cs cells) (h1 : ∀ x ∈ cs, x.oneCell' = true) (hr : ld P t cells off = some r) :
    ∃ v, (loadVar t ⟨b, o + off, none⟩).run P w = .ok v w ∧ Rel K φ v r := by
  unfold ld rowT at hr
  cases hu : P.underlying t with
  | none => simp [hu] at hr
  | some d =>
    simp only [hu, Option.map_some] at hr
    cases hd : d.isRow with
    | true =>
      simp only [hd] at hr
      cases hs : sizeT P t with
      | none => simp [hs] at hr
      | some n =>
        simp only [hs] at hr
        split at hr
        · rename_i hn
          cases hr
          have hcl := hl.length
          refine ⟨.agg ((cs.drop off).take n).toArray, ?_, ?_⟩
          · refine run_loadVar_mid w b (o + off) t _ d (rangeAt_take (rangeAt_drop hc off) n) hu hd ?_
            have : ((cs.drop off).take n).length = n := by rw [List.length_take, List.length_drop]; omega
            rw [this]; exact hs
          · exact .agg (fun v hv => h1 v (List.mem_of_mem_drop (List.mem_of_mem_take (by simpa using hv)))) (by simpa using (hl.drop off).take n)
        · cases hr
    | false =>
      simp only [hd] at hr
      obtain ⟨v, hv, hrel⟩ := hl.get hr
      refine ⟨v, ?_, hrel⟩
      have := hc off v hv
      simp [loadVar, Sem.run_bind, run_isAgg hu w, hd, this]

/-- a store of a value of known cells. -/
theorem run_storeVar_lift {t : TypeId} {b o : Nat} {v : Value} (hsz : sizeT P t = some v.cells.size) (ht : w.there b o v.cells.size) (h1 : ∀ x ∈ v.cells.toList, x.oneCell' = true) :
    (storeVar t ⟨b, o, none⟩ v).run P w = .ok () (w.setCells b o v.cells.toList) := by
  have := run_storeCells_cells (P := P) b o v.cells.toList 0 w (fun j hj => by simpa using (ht j (by simpa using hj)).1) (fun j hj => by simpa using (ht j (by simpa using hj)).2) h1
  unfold sizeT at hsz
  cases hq : P.info? t with
  | none => simp [hq] at hsz
  | some i =>
    have hs : v.cells.size = i.size := by simp [hq] at hsz; omega
    simp only [Nat.add_zero] at this
    simp [storeVar, sizeOf, typeInfo, hq, hs, this]

/-- LOAD. -/
theorem sound_load {t : TypeId} {v : Value} {u r : LV} {cells : List LV} {off : Nat} {k : LV → LS → Prop} (hS : SimS B w0 K φ S w) (hr : Rel K φ v u) (hu : S.at u = some (cells, off)) (hl : ld P t cells off = some r) (hk : k r S) :
    ∃ x, (Instr.loadAt t v).run P w = .ok x w ∧ Good B w0 K φ k x w := by
  obtain ⟨b, o, cs, rfl, h1, h2, h3⟩ := hS.at hr hu
  obtain ⟨x, hx, hrel⟩ := run_loadVar_lift (P := P) h1 h2 h3 hl
  exact ⟨x, by simp only [Instr.loadAt, Instr.sureAddr, Sem.run_bind, Sem.run_pure, Result.andThen_ok, hx], .same hk hS hrel⟩

/-- STORE. -/
theorem sound_store {t : TypeId} {va vx : Value} {x : LV} {id i off n : Nat} {es : List (List LV)} {cells us : List LV} {k : LV → LS → Prop} (hS : SimS B w0 K φ S w) (ha : Rel K φ va (.ptr id i off)) (hx : Rel K φ vx x)
    (hid : S[id]? = some (some (n, es))) (hi : es[i]? = some cells) (hus : x.cells? = some us) (hsz : sizeT P t = some us.length) (hoff : off + us.length ≤ cells.length)
    (hk : k .any (S.set id (some (n, es.set i (cells.take off ++ us ++ cells.drop (off + us.length)))))) :
    ∃ w', (Instr.storeAt t va vx).run P w = .ok () w' ∧ Good B w0 K φ k undef w' := by
  cases ha with
  | ptr hp =>
    rename_i p
    have := hS.sz _ _ _ _ hid hp
    subst this
    obtain ⟨hcr, hc1⟩ := hx.cells hus
    obtain ⟨cs, h1, h2, h3, h4, _⟩ := hS.range hid hi hp
    have hn' : vx.cells.size = us.length := by have := hcr.length; simpa using this
    have hthere : w.there p.b (p.s + i * p.sz + off) vx.cells.size := by
      intro j hj
      have hlt : off + j < cs.length := by rw [h2.length]; omega
      have := h1 (off + j) _ (List.getElem?_eq_getElem hlt)
      rw [← Nat.add_assoc] at this
      refine ⟨by rw [this]; rfl, ?_⟩
      have := h4 (off + j) hlt
      rwa [← Nat.add_assoc] at this
    refine ⟨w.setCells p.b (p.s + i * p.sz + off) vx.cells.toList, ?_, ?_⟩
    · simp only [Instr.storeAt, Instr.sureAddr, Sem.run_bind, Sem.run_pure, Result.andThen_ok]
      exact run_storeVar_lift (by rw [hn']; exact hsz) hthere hc1
    · exact .mk hk (Know.le_refl K) (List.prefix_refl _) (hS.write hid hi hp hoff hcr hc1) (.any _)

/-- A NEW VARIABLE. -/
theorem sound_newVar {t : TypeId} {v : Value} {u : LV} {us : List LV} {k : LV → LS → Prop} (hS : SimS B w0 K φ S w) (hr : Rel K φ v u) (hus : u.cells? = some us) (hk : k (.ptr S.length 0 0) (S ++ [some (us.length, [us])])) :
    ∃ x w', (do pure (Value.pointer (some (← newVar t v))) : Sem Value).run P w = .ok x w' ∧ Good B w0 K φ k x w' := by
  obtain ⟨hcr, hc1⟩ := hr.cells hus
  refine ⟨.pointer (some ⟨w.heap.size, 0, none⟩), w.alloc (.cells v.cells t), by simp [newVar, newRow], ?_⟩
  have h := hS.new (vals := v.cells) (T := t) (es := [us]) (vs := v.cells.toList) (sz := us.length) (by simp) (by simpa using hcr) hc1 (fun j x hj => by simpa using hj)
  refine .mk hk (Know.le_refl K) (List.prefix_append _ _) h ?_
  have hlen : (φ ++ [(⟨w.heap.size, 0, us.length, v.cells.size, false⟩ : Pl)])[S.length]? = some ⟨w.heap.size, 0, us.length, v.cells.size, false⟩ := by rw [← hS.len]; simp
  have := Rel.ptr (K := K) (i := 0) (off := 0) hlen
  simpa using this

end
end Go.Lift
end
section
set_option linter.all false
/-
  The lifted layer, part 3: addresses of fields and elements, slices of slices and strings, parts of values, lengths.
-/
namespace Go.Lift
open Go.RowKit

section
variable {P : Program} {B : Nat} {w0 w : World} {K : Know} {φ : List Pl} {S : LS}

theorem run_sizeT {t : TypeId} {n : Nat} (h : sizeT P t = some n) (w : World) : (sizeOf t).run P w = .ok n w := by
  unfold sizeT at h
  cases hq : P.info? t with
  | none => simp [hq] at h
  | some i => simp [hq] at h; simp [sizeOf, typeInfo, hq, h]

/-- the offset of a field (that is not empty), in cells. -/
def fldT (P : Program) (s : TypeId) (i : Nat) : Option Nat :=
  match P.underlying s with
  | some (.struct fs) => match fs[i]? with
    | some f => match sizeT P f.type with
      | some (_ + 1) => some f.offset
      | _ => none
    | none => none
  | _ => none

def LV.addOff : LV → Nat → Option LV
  | .ptr id i off, n => some (.ptr id i (off + n))
  | .eptr cells off, n => some (.eptr cells (off + n))
  | _, _ => none

theorem Rel.addOff {v : Value} {u r : LV} {n : Nat} (h : Rel K φ v u) (hu : u.addOff n = some r) : ∃ b o, v = .pointer (some ⟨b, o, none⟩) ∧ Rel K φ (.pointer (some ⟨b, o + n, none⟩)) r := by
  cases h <;> simp only [LV.addOff, Option.some.injEq, reduceCtorEq] at hu
  case ptr id i off p hp =>
    subst hu
    exact ⟨_, _, rfl, by have := Rel.ptr (K := K) (i := i) (off := off + n) hp; rwa [← Nat.add_assoc] at this⟩
  case eptr b o off cells vs hk h1 hr =>
    subst hu
    exact ⟨_, _, rfl, by have := Rel.eptr (φ := φ) (off := off + n) hk h1 hr; rwa [← Nat.add_assoc] at this⟩

theorem sound_fieldAddr {s : TypeId} {f n : Nat} {v : Value} {u r : LV} {k : LV → LS → Prop} (hS : SimS B w0 K φ S w) (hr : Rel K φ v u) (hf : fldT P s f = some n) (hu : u.addOff n = some r) (hk : k r S) :
    ∃ x, (Instr.fieldAt s v f).run P w = .ok x w ∧ Good B w0 K φ k x w := by
  obtain ⟨b, o, rfl, hrel⟩ := hr.addOff hu
  refine ⟨.pointer (some ⟨b, o + n, none⟩), ?_, .same hk hS hrel⟩
  unfold fldT at hf
  split at hf
  · rename_i fs hfs
    split at hf
    · rename_i fl hfl
      split at hf
      · rename_i m hm
        cases hf
        have hsz := run_sizeT hm w
        simp [Instr.fieldAt, run_underlying hfs, hfl, Instr.sureAddr, fieldPlace, hsz, Addr.add_mid]
      · cases hf
    · cases hf
  · cases hf

def elemT (P : Program) (t : TypeId) : Option TypeId :=
  match P.underlying t with
  | some (.slice e) => some e
  | _ => none

theorem elemT_spec {t e : TypeId} (h : elemT P t = some e) : P.underlying t = some (.slice e) := by
  unfold elemT at h
  split at h
  · cases h; assumption
  · cases h

/-- the address of an element of a slice. -/
def ixA (S : LS) : LV → Int → Option (LV × Nat)
  | .sl _ elems, i => if 0 ≤ i then (elems[i.toNat]?).map fun c => (.eptr c 0, c.length) else none
  | .ref id off len, i => if 0 ≤ i ∧ i < (len : Int) then match S[id]? with
      | some (some (_, es)) => (es[off + i.toNat]?).map fun c => (.ptr id (off + i.toNat) 0, c.length)
      | _ => none
    else none
  | _, _ => none

theorem sound_indexAddr {t e : TypeId} {i : Int} {kd : IntKind} {n : Nat} {v : Value} {u r : LV} {k : LV → LS → Prop} (hS : SimS B w0 K φ S w) (hr : Rel K φ v u) (ht : elemT P t = some e) (hn : sizeT P e = some n)
    (hu : ixA S u i = some (r, n)) (hk : k r S) : ∃ x, (Instr.indexAt t v (.int kd i)).run P w = .ok x w ∧ Good B w0 K φ k x w := by
  have hu' := elemT_spec ht
  have hsz := run_sizeT hn w
  cases u <;> simp only [ixA, reduceCtorEq] at hu
  case sl full elems =>
    split at hu
    · rename_i h0
      simp only [Option.map_eq_some_iff, Prod.mk.injEq] at hu
      obtain ⟨c, hc, rfl, hcl⟩ := hu
      have hlt := (List.getElem?_eq_some_iff.1 hc).1
      cases hr with
      | slnil => simp at hc
      | sl hk' h1 hrl hes hn' hcap hf =>
        rename_i b o cap m vs sz
        subst hn'
        have hsz' : sz = n := by rw [← hcl]; exact (hes c (List.mem_of_getElem? hc)).symm
        subst hsz'
        have hi : i < (elems.length : Int) := by omega
        refine ⟨.pointer (some ⟨b, o + i.toNat * sz, none⟩), ?_, .same hk hS ?_⟩
        · simp [Instr.indexAt, asIntOf, run_underlying hu', h0, hi, hsz, Addr.add_mid]
        · have hrc := (hrl.drop (i.toNat * sz)).take sz
          rw [flat_elem hes hc] at hrc
          refine Rel.eptr (b := b) (o := o + i.toNat * sz) (off := 0) (fun j x hj => ?_) (fun x hx => h1 x (List.mem_of_mem_drop (List.mem_of_mem_take hx))) hrc
          rw [List.getElem?_take] at hj
          split at hj
          · rw [List.getElem?_drop] at hj
            rw [Nat.add_assoc]; exact hk' _ _ hj
          · cases hj
    · cases hu
  case ref id off len =>
    split at hu
    · rename_i h0
      split at hu
      · rename_i m es he
        simp only [Option.map_eq_some_iff, Prod.mk.injEq] at hu
        obtain ⟨c, hc, rfl, hcl⟩ := hu
        cases hr with
        | refnil => omega
        | ref hp hl hcap =>
          rename_i b o cap p
          have := hS.sz _ _ _ _ he hp
          subst this
          obtain ⟨hvp, rfl, rfl, _⟩ := hcap (by omega)
          obtain ⟨cs, _, _, _, _, hsz'⟩ := hS.range he hc hp
          rw [hcl] at hsz'
          subst hsz'
          refine ⟨.pointer (some ⟨p.b, p.s + off * p.sz + i.toNat * p.sz, none⟩), ?_, .same hk hS ?_⟩
          · simp [Instr.indexAt, asIntOf, run_underlying hu', h0.1, h0.2, hsz, Addr.add_mid]
          · have := Rel.ptr (K := K) (i := off + i.toNat) (off := 0) hp
            rwa [Nat.add_mul, Nat.add_zero, ← Nat.add_assoc] at this
      · cases hu
    · cases hu

def arrT (P : Program) (t : TypeId) : Option (Nat × TypeId) :=
  match P.underlying t with
  | some (.array n e) => some (n, e)
  | _ => none

theorem arrT_spec {t e : TypeId} {n : Nat} (h : arrT P t = some (n, e)) : P.underlying t = some (.array n e) := by
  unfold arrT at h
  split at h
  · cases h; assumption
  · cases h

theorem sound_indexAddrArr {t e : TypeId} {i : Int} {kd : IntKind} {n len : Nat} {v : Value} {u r : LV} {k : LV → LS → Prop} (hS : SimS B w0 K φ S w) (hr : Rel K φ v u) (ht : arrT P t = some (len, e)) (hn : sizeT P e = some n)
    (h0 : 0 ≤ i) (hi : i < (len : Int)) (hu : u.addOff (i.toNat * n) = some r) (hk : k r S) : ∃ x, (Instr.indexAt t v (.int kd i)).run P w = .ok x w ∧ Good B w0 K φ k x w := by
  have hu' := arrT_spec ht
  have hsz := run_sizeT hn w
  obtain ⟨b, o, rfl, hrel⟩ := hr.addOff hu
  refine ⟨_, ?_, .same hk hS hrel⟩
  simp [Instr.indexAt, asIntOf, run_underlying hu', h0, hi, hsz, Addr.add_mid, Instr.sureAddr]

/-- x[:h:h]. -/
def cutL (h : Nat) : LV → LV
  | .sl _ es => .sl true (es.take h)
  | .ref id off _ => .ref id off h
  | _ => .any

def lenL : LV → Option Int
  | .sl _ es => some es.length
  | .ref _ _ len => some len
  | .str s => some s.size
  | _ => none

/-- bounds of a slice expression. -/
def bnd (d : Int) : Option LV → Option Int
  | none => some d
  | some (.int _ n) => some n
  | some _ => none

def sliceL (S : LS) (n : Nat) : LV → Int → Int → Option LV
  | .sl full elems, l, h => if 0 ≤ l ∧ l ≤ h ∧ h ≤ (elems.length : Int) ∧ (∀ e ∈ elems.head?, e.length = n) then some (.sl (full && h == (elems.length : Int)) ((elems.drop l.toNat).take (h.toNat - l.toNat))) else none
  | .ref id off len, l, h => if 0 ≤ l ∧ l ≤ h ∧ h ≤ (len : Int) then
      if l = 0 then some (.ref id off h.toNat) else
        match S[id]? with
        | some (some (m, _)) => if m = n then some (.ref id (off + l.toNat) (h.toNat - l.toNat)) else none
        | _ => none
    else none
  | _, _, _ => none

theorem head_uniform {α : Type} {es : List (List α)} {sz n : Nat} (h : ∀ e ∈ es, e.length = sz) (h' : ∀ e ∈ es.head?, e.length = n) (hne : es ≠ []) : sz = n := by
  cases es with
  | nil => exact absurd rfl hne
  | cons a es => rw [← h' a (by simp), h a (by simp)]

theorem run_sliceBounds {len cap : Nat} {lo hi : Option Value} {l h : Nat} (hlo : lo = none ∧ l = 0 ∨ ∃ k, lo = some (.int k (l : Int))) (hhi : hi = none ∧ h = len ∨ ∃ k, hi = some (.int k (h : Int))) (hlh : l ≤ h) (hc : h ≤ cap) (b : Bool) :
    (Instr.sliceBounds b len cap lo hi none).run P w = .ok (l, h, cap) w := by
  rcases hlo with ⟨rfl, rfl⟩ | ⟨k1, rfl⟩ <;> rcases hhi with ⟨rfl, rfl⟩ | ⟨k2, rfl⟩ <;>
    simp [Instr.sliceBounds, Instr.sliceBound, asIntOf, hlh, hc]

theorem bnd_rel {x : Option Value} {u : Option LV} {d n : Int} (hr : (x = none ∧ u = none) ∨ ∃ a b, x = some a ∧ u = some b ∧ Rel K φ a b) (hb : bnd d u = some n) : x = none ∧ n = d ∨ ∃ k, x = some (.int k n) := by
  rcases hr with ⟨rfl, rfl⟩ | ⟨a, b, rfl, rfl, h⟩
  · simp [bnd] at hb; exact .inl ⟨rfl, hb.symm⟩
  · cases h <;> simp [bnd] at hb
    case int k m => subst hb; exact .inr ⟨k, rfl⟩

theorem sound_slice {t e : TypeId} {n : Nat} {l h : Int} {v : Value} {u r : LV} {lo hi : Option Value} {k : LV → LS → Prop} (hS : SimS B w0 K φ S w) (hr : Rel K φ v u) (ht : elemT P t = some e) (hn : sizeT P e = some n)
    (hlo : lo = none ∧ l = 0 ∨ ∃ k, lo = some (.int k l)) (hhi : (hi = none ∧ lenL u = some h) ∨ ∃ k, hi = some (.int k h))
    (hu : sliceL S n u l h = some r) (hk : k r S) : ∃ x, (Instr.sliceAt t v lo hi none).run P w = .ok x w ∧ Good B w0 K φ k x w := by
  have hu' := elemT_spec ht
  have hsz := run_sizeT hn w
  cases u <;> simp only [sliceL, reduceCtorEq] at hu
  case sl full elems =>
    split at hu
    · rename_i hc
      obtain ⟨h0, hlh, hhe, hhd⟩ := hc
      cases hu
      obtain ⟨ln, rfl⟩ := Int.eq_ofNat_of_zero_le h0
      obtain ⟨hn', rfl⟩ := Int.eq_ofNat_of_zero_le (Int.le_trans h0 hlh)
      cases hr with
      | slnil =>
        simp at hhe hlh
        have e1 : hn' = 0 := by omega
        have e2 : ln = 0 := by omega
        subst e1; subst e2
        have hhi' : hi = none ∧ 0 = 0 ∨ ∃ k, hi = some (.int k ((0 : Nat) : Int)) := hhi.imp (fun h => ⟨h.1, rfl⟩) _root_.id
        have hb := run_sliceBounds (P := P) (w := w) (len := 0) (cap := 0) (lo := lo) (hi := hi) (l := 0) (h := 0) (by simpa using hlo) hhi' (Nat.le_refl _) (Nat.le_refl _) true
        refine ⟨.slice none 0 0, ?_, .same hk hS (by simpa using Rel.slnil _)⟩
        simp [Instr.sliceAt, run_underlying hu', Instr.slice, hb, hsz]
      | sl hk' h1 hrl hes hlen hcap hf =>
        rename_i b o cap m vs sz
        subst hlen
        have hhi' : hi = none ∧ hn' = elems.length ∨ ∃ k, hi = some (.int k (hn' : Int)) := hhi.imp (fun h => ⟨h.1, by have := h.2; simp [lenL] at this; omega⟩) id
        have hb := run_sliceBounds (P := P) (w := w) (len := elems.length) (cap := cap) (lo := lo) (hi := hi) (l := ln) (h := hn') (by simpa using hlo)
          hhi' (by simpa using hlh) (by simp at hhe; omega) true
        simp at hlh hhe
        have hfl : ((elems.drop ln).take (hn' - ln)).length = hn' - ln := by rw [List.length_take, List.length_drop]; omega
        have hrun : (Instr.sliceAt t (.slice (some ⟨b, o, none⟩) elems.length cap) lo hi none).run P w = .ok (.slice (some (if cap = ln then ⟨b, o, none⟩ else ⟨b, o + ln * n, none⟩)) (hn' - ln) (cap - ln)) w := by
          by_cases hcl : cap = ln
          · subst hcl; simp [Instr.sliceAt, run_underlying hu', Instr.slice, hb, hsz]
          · simp [Instr.sliceAt, run_underlying hu', Instr.slice, hb, hsz, hcl, Addr.add_mid]
        refine ⟨_, hrun, .same hk hS ?_⟩
        have hfull : (full && (hn' : Int) == (elems.length : Int)) = true → cap - ln = hn' - ln := by
          intro hh
          simp at hh
          have := hf hh.1
          omega
        have hrl' := (hrl.drop (ln * sz)).take ((hn' - ln) * sz)
        rw [← flat_drop hes, ← flat_take (sz := sz) (fun e he => hes e (List.mem_of_mem_drop he))] at hrl'
        by_cases hcl : cap = ln
        · rw [if_pos hcl]
          have e0 : hn' - ln = 0 := by omega
          have e1 : (elems.drop ln).take (hn' - ln) = [] := by rw [e0]; simp
          refine Rel.sl (vs := []) (sz := sz) (by simp) (by simp) ?_ ?_ ?_ (by omega) hfull
          · simp only [Int.toNat_natCast]; rw [e1]; exact .nil
          · simp only [Int.toNat_natCast]; rw [e1]; simp
          · simp only [Int.toNat_natCast]; rw [e1, e0]; rfl
        · rw [if_neg hcl]
          by_cases hne : elems = []
          · subst hne
            simp at hhe
            have e0 : hn' - ln = 0 := by omega
            refine Rel.sl (vs := []) (sz := sz) (by simp) (by simp) (by simp; exact .nil) (by simp) (by simp [e0]) (by omega) hfull
          · have hszn := head_uniform hes hhd hne
            subst hszn
            refine Rel.sl (vs := (vs.drop (ln * sz)).take ((hn' - ln) * sz)) (sz := sz) (fun j x hj => ?_) (fun x hx => h1 x (List.mem_of_mem_drop (List.mem_of_mem_take hx))) ?_ ?_ ?_ (by omega) hfull
            · rw [List.getElem?_take] at hj
              split at hj
              · rw [List.getElem?_drop] at hj
                rw [Nat.add_assoc]; exact hk' _ _ hj
              · cases hj
            · simpa using hrl'
            · intro e he; exact hes e (List.mem_of_mem_drop (List.mem_of_mem_take he))
            · simpa using hfl.symm
    · cases hu
  case ref id off len =>
    split at hu
    · rename_i hc
      obtain ⟨h0, hlh, hhe⟩ := hc
      obtain ⟨ln, rfl⟩ := Int.eq_ofNat_of_zero_le h0
      obtain ⟨hn', rfl⟩ := Int.eq_ofNat_of_zero_le (Int.le_trans h0 hlh)
      simp at hlh hhe
      cases hr with
      | refnil hp =>
        rename_i p
        have e1 : hn' = 0 := by omega
        have e2 : ln = 0 := by omega
        subst e1; subst e2
        simp at hu; subst hu
        have hhi' : hi = none ∧ 0 = 0 ∨ ∃ k, hi = some (.int k ((0 : Nat) : Int)) := hhi.imp (fun h => ⟨h.1, rfl⟩) _root_.id
        have hb := run_sliceBounds (P := P) (w := w) (len := 0) (cap := 0) (lo := lo) (hi := hi) (l := 0) (h := 0) (by simpa using hlo) hhi' (Nat.le_refl _) (Nat.le_refl _) true
        refine ⟨.slice none 0 0, ?_, .same hk hS (.refnil hp)⟩
        simp [Instr.sliceAt, run_underlying hu', Instr.slice, hb, hsz]
      | ref hp hl hcap =>
        rename_i b o cap p
        have hb := run_sliceBounds (P := P) (w := w) (len := len) (cap := cap) (lo := lo) (hi := hi) (l := ln) (h := hn') (by simpa using hlo)
          (hhi.imp (fun h => ⟨h.1, by have := h.2; simp [lenL] at this; omega⟩) _root_.id) hlh (by omega) true
        have hrun : (Instr.sliceAt t (.slice (some ⟨b, o, none⟩) len cap) lo hi none).run P w = .ok (.slice (some (if cap = ln then ⟨b, o, none⟩ else ⟨b, o + ln * n, none⟩)) (hn' - ln) (cap - ln)) w := by
          by_cases hcl : cap = ln
          · subst hcl; simp [Instr.sliceAt, run_underlying hu', Instr.slice, hb, hsz]
          · simp [Instr.sliceAt, run_underlying hu', Instr.slice, hb, hsz, hcl, Addr.add_mid]
        refine ⟨_, hrun, ?_⟩
        by_cases hl0 : ln = 0
        · subst hl0
          simp at hu; subst hu
          refine .same hk hS ?_
          simp only [Nat.zero_mul, Nat.add_zero, ite_self, Nat.sub_zero]
          exact .ref hp (by omega) hcap
        · have hln : ¬ ((ln : Int) = 0) := by omega
          rw [if_neg hln] at hu
          split at hu
          · rename_i m es he
            split at hu
            · rename_i hmn
              cases hu
              refine .same hk hS ?_
              simp only [Int.toNat_natCast]
              by_cases hcl : cap = ln
              · rw [if_pos hcl]
                exact .ref hp (by omega) (fun hne => by omega)
              · rw [if_neg hcl]
                refine .ref hp (by omega) (fun hne => ?_)
                obtain ⟨h1, h2, h3, h4⟩ := hcap (by omega)
                have := hS.sz _ _ _ _ he hp
                subst hmn; subst this
                refine ⟨h1, h2, ?_, ?_⟩
                · rw [h3, Nat.add_mul, Nat.add_assoc]
                · rw [show off + ln + (cap - ln) = off + cap by omega]; exact h4
            · cases hu
          · cases hu
    · cases hu

theorem run_sliceBounds3 {len cap : Nat} {lo : Option Value} {l h : Nat} {k k' : IntKind} (hlo : lo = none ∧ l = 0 ∨ ∃ k, lo = some (.int k (l : Int))) (hlh : l ≤ h) (hc : h ≤ cap) (b : Bool) :
    (Instr.sliceBounds b len cap lo (some (.int k (h : Int))) (some (.int k' (h : Int)))).run P w = .ok (l, h, h) w := by
  rcases hlo with ⟨rfl, rfl⟩ | ⟨k1, rfl⟩ <;>
    simp [Instr.sliceBounds, Instr.sliceBound, asIntOf, hlh, hc]

theorem run_slice3 {t e : TypeId} {n : Nat} {a : Option Addr} {len cap : Nat} {lo : Option Value} {l h : Nat} {k k' : IntKind} (ht : elemT P t = some e) (hn : sizeT P e = some n) (hlo : lo = none ∧ l = 0 ∨ ∃ k, lo = some (.int k (l : Int))) (hlh : l ≤ h) (hc : h ≤ cap) :
    (Instr.sliceAt t (.slice a len cap) lo (some (.int k (h : Int))) (some (.int k' (h : Int)))).run P w = (Instr.sliceAt t (.slice a h h) lo (some (.int k (h : Int))) none).run P w := by
  have hu' := elemT_spec ht
  have hsz := run_sizeT hn w
  have h1 := run_sliceBounds3 (P := P) (w := w) (len := len) (cap := cap) (k := k) (k' := k') hlo hlh hc true
  have h2 := run_sliceBounds (P := P) (w := w) (len := h) (cap := h) (lo := lo) (hi := some (.int k (h : Int))) hlo (.inr ⟨k, rfl⟩) hlh (Nat.le_refl h) true
  simp [Instr.sliceAt, run_underlying hu', Instr.slice, h1, h2, hsz]

theorem Rel.cut {v : Value} {u : LV} {d : Int} {h : Nat} (hr : Rel K φ v u) (hns : ∀ s, u ≠ .str s) (hd : lenL u = some d) (hh : (h : Int) ≤ d) : ∃ a len cap, v = .slice a len cap ∧ h ≤ cap ∧ Rel K φ (.slice a h h) (cutL h u) := by
  cases hr <;> simp only [lenL, Option.some.injEq, reduceCtorEq] at hd
  case str => exact absurd rfl (hns _)
  case slnil =>
    subst hd
    have : h = 0 := by simp at hh; exact hh
    subst this
    exact ⟨none, 0, 0, rfl, Nat.le_refl _, by simpa [cutL] using Rel.slnil true⟩
  case sl b o cap n full elems vs sz hk h1 hrl hsz hn hc hf =>
    subst hd
    refine ⟨_, _, _, rfl, by omega, ?_⟩
    simp only [cutL]
    refine .sl (vs := vs.take (h * sz)) (sz := sz) (fun j v hv => ?_) (fun v hv => h1 v (List.mem_of_mem_take hv)) ?_ (fun e he => hsz e (List.mem_of_mem_take he)) (by rw [List.length_take]; omega) (Nat.le_refl _) (fun _ => rfl)
    · rw [List.getElem?_take] at hv
      split at hv
      · exact hk _ _ hv
      · cases hv
    · rw [flat_take hsz]; exact hrl.take _
  case ref b o id off len cap p hp hl hc =>
    subst hd
    refine ⟨_, _, _, rfl, by omega, ?_⟩
    simp only [cutL]
    refine .ref hp (Nat.le_refl _) fun hne => ?_
    obtain ⟨g1, g2, g3, g4⟩ := hc (by omega)
    refine ⟨g1, g2, g3, Nat.le_trans ?_ g4⟩
    have : (off + h) * p.sz ≤ (off + cap) * p.sz := Nat.mul_le_mul_right _ (by omega)
    omega
  case refnil id off p hp =>
    subst hd
    have : h = 0 := by simp at hh; exact hh
    subst this
    exact ⟨none, 0, 0, rfl, Nat.le_refl _, by simpa [cutL] using Rel.refnil hp⟩

end
end Go.Lift
end
section
set_option linter.all false
/-
  The lifted layer, part 4: append and copy.
-/
namespace Go.Lift
open Go.RowKit

def layT (P : Program) (t : TypeId) : Option (Value × Nat × Nat) :=
  match P.info? t with
  | some i => match i.zero with
    | some z => some (z, i.size, i.bytes)
    | none => none
  | none => none

theorem layT_spec {P : Program} {t : TypeId} {z : Value} {n b : Nat} (h : layT P t = some (z, n, b)) : ∃ i, P.info? t = some i ∧ i.zero = some z ∧ i.size = n ∧ i.bytes = b := by
  unfold layT at h
  split at h
  · rename_i i hi
    split at h
    · rename_i z' hz
      cases h
      exact ⟨i, hi, hz, rfl, rfl⟩
    · cases h
  · cases h

/-- size in cells, size in bytes, and the cells of the zero value. -/
def layE (P : Program) (t : TypeId) : Option (Nat × Nat × List LV) :=
  match layT P t with
  | some (z, n, b) => if z.cells.size = n ∧ 1 ≤ b then (ofVal z).cells?.map fun c => (n, b, c) else none
  | none => none

theorem layE_spec {P : Program} {t : TypeId} {n b : Nat} {zc : List LV} (h : layE P t = some (n, b, zc)) : ∃ z, layT P t = some (z, n, b) ∧ z.cells.size = n ∧ 1 ≤ b ∧ (ofVal z).cells? = some zc := by
  unfold layE at h
  split at h
  · rename_i z n' b' hl
    split at h
    · rename_i hc
      simp only [Option.map_eq_some_iff, Prod.mk.injEq] at h
      obtain ⟨c, hz, rfl, rfl, rfl⟩ := h
      exact ⟨z, hl, hc.1, hc.2, hz⟩
    · cases h
  · cases h

def u8c (b : UInt8) : List LV := [.int .u8 b.toNat]

/-- the elements that a slice or a string gives to append and copy. -/
def srcE (S : LS) : LV → Option (List (List LV))
  | .sl _ es => some es
  | .ref id off len => match S[id]? with
    | some (some (_, es)) => if off + len ≤ es.length then some ((es.drop off).take len) else none
    | _ => none
  | .str s => some (s.data.toList.map u8c)
  | _ => none

def LIM : Nat := 2 ^ 47

def srcT (P : Program) (t : TypeId) : Bool :=
  match P.underlying t with
  | some (.slice _) => true
  | some .string => true
  | _ => false

section
variable {P : Program} {B : Nat} {w0 w : World} {K : Know} {φ : List Pl} {S : LS}

theorem srcT_spec {t : TypeId} (h : srcT P t = true) : (∃ e', P.underlying t = some (.slice e')) ∨ P.underlying t = some .string := by
  unfold srcT at h
  split at h
  · exact .inl ⟨_, ‹_›⟩
  · exact .inr ‹_›
  · cases h

theorem relL_u8 (K : Know) (φ : List Pl) (l : List UInt8) : RelL K φ (l.map fun b => Value.int .u8 b.toNat) (l.map u8c).flatten := by
  induction l with
  | nil => exact .nil
  | cons b l ih => exact .cons (.int _ _) ih

/-- WHAT A SOURCE YIELDS. -/
theorem SimS.src (h : SimS B w0 K φ S w) {tx : TypeId} {v : Value} {u : LV} {fs : List (List LV)} {n : Nat} (hr : Rel K φ v u) (hu : srcE S u = some fs) (hn : ∀ f ∈ fs, f.length = n) (ht : srcT P tx = true) :
    ∃ news, Src P n tx v fs.length news w ∧ RelL K φ news fs.flatten ∧ ∀ x ∈ news, x.oneCell' = true := by
  have hk := srcT_spec ht
  have mk : ∀ (a : Addr) (c : Nat) (m : Nat) (news : List Value), m = fs.length → news.length = m * n → (∀ j x, news[j]? = some x → w.cell? (a.add j) = some x) → (∀ x ∈ news, x.oneCell' = true) →
      Src P n tx (.slice (some a) m c) m news w := fun a c m news hm hl hc h1 =>
    ⟨hk, fun _ => rfl, run_firstCells_some w n m a m c news hl hc, run_firstCells_some w.drew n m a m c news hl (by simpa using hc), hl, h1⟩
  have mk0 : ∀ c, Src P n tx (.slice none 0 c) 0 [] w := fun c =>
    ⟨hk, fun _ => rfl, run_firstCells_none w n 0 0 c, run_firstCells_none w.drew n 0 0 c, by simp, by simp⟩
  cases u <;> simp only [srcE, reduceCtorEq] at hu
  case sl full elems =>
    cases hu
    cases hr with
    | slnil => exact ⟨[], mk0 0, .nil, by simp⟩
    | sl hk' h1 hrl hes hlen hcap hf =>
      rename_i b o cap m vs sz
      subst hlen
      refine ⟨vs, mk _ _ _ vs rfl ?_ (fun j x hj => by rw [Addr.add_mid]; exact h.know _ _ _ (hk' j x hj)) h1, hrl, h1⟩
      rw [hrl.length, flat_length hn]
  case ref id off len =>
    split at hu
    · rename_i m es he
      split at hu
      · rename_i hle
        cases hu
        have hfl : ((es.drop off).take len).length = len := by rw [List.length_take, List.length_drop]; omega
        rw [hfl]
        cases hr with
        | refnil hp => refine ⟨[], mk0 0, ?_, by simp⟩; simp; exact .nil
        | ref hp hl hc =>
          rename_i b o cap p
          by_cases h0 : len = 0
          · subst h0
            refine ⟨[], mk _ _ 0 [] (by simp) (by simp) (by simp) (by simp), ?_, by simp⟩
            simp; exact .nil
          · obtain ⟨hv, rfl, rfl, _⟩ := hc (by omega)
            have := h.sz _ _ _ _ he hp
            subst this
            obtain ⟨cs, c1, c2, c3, c4, c5, c6⟩ := h.window he hp hv hle
            refine ⟨cs, mk _ _ len cs hfl.symm ?_ (fun j x hj => by rw [Addr.add_mid]; exact c1 j x hj) c3, c2, c3⟩
            rw [c2.length, flat_length hn, hfl]
      · cases hu
    · cases hu
  case str s =>
    cases hu
    cases hr with
    | str =>
      by_cases hs : s.size = 0
      · have e : s.data.toList = [] := by
          have : s.data.toList.length = 0 := by rw [Array.length_toList]; exact hs
          exact List.eq_nil_of_length_eq_zero this
        rw [e]
        refine ⟨[], ⟨hk, fun _ => by simp [Builtin.lenOf, hs], ?_, ?_, by simp, by simp⟩, .nil, by simp⟩
        · simp [Builtin.firstCells]
        · simp [Builtin.firstCells]
      · have hne : s.data.toList ≠ [] := fun e => by
          apply hs
          have : s.data.toList.length = 0 := by rw [e]; rfl
          rwa [Array.length_toList] at this
        have hn1 : n = 1 := by
          obtain ⟨b, l, hb⟩ := List.exists_cons_of_ne_nil hne
          have := hn (u8c b) (by rw [hb]; simp)
          simpa [u8c] using this.symm
        subst hn1
        have hl : (s.data.toList.map u8c).length = s.size := by rw [List.length_map, Array.length_toList]; rfl
        rw [hl]
        refine ⟨byteCells s, ⟨hk, fun _ => rfl, firstCells_string s w, firstCells_string s w.drew, by rw [byteCells_length, Nat.mul_one], ?_⟩, relL_u8 K φ _, ?_⟩
        · intro u hu; obtain ⟨_, _, rfl⟩ := List.mem_map.1 hu; rfl
        · intro u hu; obtain ⟨_, _, rfl⟩ := List.mem_map.1 hu; rfl

theorem zeroCells_size (z : Array Value) (n : Nat) : (Builtin.zeroCells z n).size = n * z.size := by simp [Builtin.zeroCells]

theorem last_pl {φ : List Pl} {S : LS} (h : φ.length = S.length) (p : Pl) : (φ ++ [p])[S.length]? = some p := by rw [← h]; simp

/-- the new row behind a growth. -/
theorem grown_row (hS : SimS B w0 K φ S w) {sT tx ty e : TypeId} {z : Value} {n by_ : Nat} (ht : elemT P sT = some e) (hlay : layT P e = some (z, n, by_)) (hz : z.cells.size = n) (hby : 1 ≤ by_)
    {base : Option Addr} {len cap : Nat} {olds : List Value} {es fs : List (List LV)} {x : Value} {news : List Value} (hold : (Builtin.firstCells n len (.slice base len cap)).run P w.drew = .ok olds.toArray w.drew)
    (hlen : len = es.length) (hro : RelL K φ olds es.flatten) (ho1 : ∀ v ∈ olds, v.oneCell' = true) (hes : ∀ f ∈ es, f.length = n) (hfs : ∀ f ∈ fs, f.length = n) (hsrc : Src P n tx x fs.length news w) (hrn : RelL K φ news fs.flatten)
    (hn1 : ∀ v ∈ news, v.oneCell' = true) (hg : cap < len + fs.length) (hlim : (len + fs.length) * by_ ≤ LIM) :
    ∃ w' c, (Builtin.append_ #[sT, tx] ty #[.slice base len cap, x]).run P w = .ok (.slice (some ⟨w.heap.size, 0, none⟩) (len + fs.length) c) w' ∧ len + fs.length ≤ c ∧
      SimS B w0 K (φ ++ [⟨w.heap.size, 0, n, c * n, false⟩]) (S ++ [some (n, es ++ fs)]) w' := by
  obtain ⟨i, hi, hiz, his, hib⟩ := layT_spec hlay
  subst his; subst hib
  have hu := elemT_spec ht
  have hb1 : len + fs.length ≤ (len + fs.length) * i.bytes := Nat.le_mul_of_pos_right _ hby
  have hl2 : LIM = 140737488355328 := by decide
  have hcap2 : Builtin.nextslicecap (len + fs.length) cap * i.bytes ≤ 281474976710656 := by
    have h1 : Builtin.nextslicecap (len + fs.length) cap * i.bytes ≤ 2 * (len + fs.length) * i.bytes := Nat.mul_le_mul_right _ (Room.nextslicecap_le' hg)
    rw [Nat.mul_assoc] at h1
    omega
  have hrun := run_append_grow_src (P := P) w sT tx ty e i z hu hi hiz base len cap olds hold x fs.length news hsrc hg (by omega) hcap2
  have hge := grownCap_ge w (len + fs.length) cap e
  refine ⟨_, _, hrun, hge, ?_⟩
  have hes' : ∀ f ∈ es ++ fs, f.length = i.size := fun f hf => by
    rcases List.mem_append.1 hf with hf | hf
    · exact hes f hf
    · exact hfs f hf
  have hol : olds.length = len * i.size := by rw [hro.length, flat_length hes, hlen]
  have hnl : news.length = fs.length * i.size := by rw [hrn.length, flat_length hfs]
  have := hS.drew.new (vals := (olds ++ news).toArray ++ Builtin.zeroCells z.cells (grownCap w (len + fs.length) cap e - (len + fs.length))) (T := e) (es := es ++ fs) (vs := olds ++ news) (sz := i.size) hes'
    (by rw [List.flatten_append]; exact hro.append hrn)
    (fun v hv => (List.mem_append.1 hv).elim (ho1 v) (hn1 v))
    (fun j v hj => by
      have hlt := (List.getElem?_eq_some_iff.1 hj).1
      rw [Array.getElem?_append_left (by simpa using hlt)]
      simpa using hj)
  have hsize : ((olds ++ news).toArray ++ Builtin.zeroCells z.cells (grownCap w (len + fs.length) cap e - (len + fs.length))).size = grownCap w (len + fs.length) cap e * i.size := by
    rw [Array.size_append, zeroCells_size, hz]
    simp only [List.size_toArray, List.length_append, hol, hnl]
    rw [← Nat.add_mul, ← Nat.add_mul, Nat.add_sub_cancel' hge]
  rw [hsize] at this
  exact this

/-- append where there is something to append, or nothing yet. -/
def appW1 (P : Program) (S : LS) (sT tx : TypeId) (d x : LV) (k : LV → LS → Prop) : Prop :=
  ∃ e n b zc fs, elemT P sT = some e ∧ layE P e = some (n, b, zc) ∧ srcT P tx = true ∧ srcE S x = some fs ∧ (∀ f ∈ fs, f.length = n) ∧
    match d with
    | .sl true elems => (elems = [] ∨ fs ≠ []) ∧ (∀ f ∈ elems, f.length = n) ∧ (elems.length + fs.length) * b ≤ LIM ∧ k (.ref S.length 0 (elems.length + fs.length)) (S ++ [some (n, elems ++ fs)])
    | .ref id off len => ∃ es, S[id]? = some (some (n, es)) ∧ off + len ≤ es.length ∧ (len + fs.length) * b ≤ LIM ∧
        k (.ref S.length 0 (len + fs.length)) (S.set id none ++ [some (n, (es.drop off).take len ++ fs)])
    | _ => False

/-- append of nothing: the slice as it was. -/
def appW0 (P : Program) (S : LS) (sT tx : TypeId) (d x : LV) (k : LV → LS → Prop) : Prop :=
  ∃ e n b zc full elems, elemT P sT = some e ∧ layE P e = some (n, b, zc) ∧ srcT P tx = true ∧ srcE S x = some [] ∧ d = .sl full elems ∧ k (.sl full elems) S

/-- WHAT append GIVES. -/
def appW (P : Program) (S : LS) (sT tx : TypeId) (d x : LV) (k : LV → LS → Prop) : Prop := appW1 P S sT tx d x k ∨ appW0 P S sT tx d x k

theorem sound_append0 {sT tx ty : TypeId} {vd vx : Value} {d x : LV} {k : LV → LS → Prop} (hS : SimS B w0 K φ S w) (hd : Rel K φ vd d) (hx : Rel K φ vx x) (h : appW0 P S sT tx d x k) :
    ∃ v w', (Builtin.append_ #[sT, tx] ty #[vd, vx]).run P w = .ok v w' ∧ Good B w0 K φ k v w' := by
  obtain ⟨e, n, by_, zc, full, elems, ht, hlE, htx, hsrc, rfl, hk⟩ := h
  obtain ⟨z, hlay, hz, hby, _⟩ := layE_spec hlE
  obtain ⟨news, hs, hrn, hn1⟩ := hS.src hx hsrc (n := n) (by simp) htx
  obtain ⟨i, hi, hiz, his, hib⟩ := layT_spec hlay
  have hu := elemT_spec ht
  have hnews : news = [] := by cases news with | nil => rfl | cons a l => have := hrn.length; simp at this
  subst hnews
  have hvd : ∃ base l c, vd = .slice base l c ∧ l ≤ c := by
    cases hd with
    | slnil => exact ⟨none, 0, 0, rfl, Nat.le_refl _⟩
    | sl _ _ _ _ hlen hc hf => exact ⟨_, _, _, rfl, hc⟩
  obtain ⟨base, l, c, rfl, hc⟩ := hvd
  exact ⟨_, _, run_append_nothing (P := P) w sT tx ty e i hu hi base l c hc vx (by rw [his]; exact hs), .same hk hS hd⟩

theorem sound_append1 {sT tx ty : TypeId} {vd vx : Value} {d x : LV} {k : LV → LS → Prop} (hS : SimS B w0 K φ S w) (hd : Rel K φ vd d) (hx : Rel K φ vx x) (h : appW1 P S sT tx d x k) :
    ∃ v w', (Builtin.append_ #[sT, tx] ty #[vd, vx]).run P w = .ok v w' ∧ Good B w0 K φ k v w' := by
  obtain ⟨e, n, by_, zc, fs, ht, hlE, htx, hsrc, hfs, hm⟩ := h
  obtain ⟨z, hlay, hz, hby, _⟩ := layE_spec hlE
  obtain ⟨news, hs, hrn, hn1⟩ := hS.src hx hsrc hfs htx
  obtain ⟨i, hi, hiz, his, hib⟩ := layT_spec hlay
  have hu := elemT_spec ht
  have hpre : ∀ p : Pl, φ <+: φ ++ [p] := fun p => List.prefix_append _ _
  cases d <;> try (exact hm.elim)
  case sl full elems =>
    cases full with
    | false => exact hm.elim
    | true =>
      obtain ⟨hne, hes, hlim, hk⟩ := hm
      by_cases hf0 : fs = []
      · have he0 : elems = [] := hne.resolve_right (fun h => h hf0)
        subst he0; subst hf0
        have hnews : news = [] := by cases news with | nil => rfl | cons a l => have := hrn.length; simp at this
        subst hnews
        have hvd : ∃ base, vd = .slice base 0 0 := by
          cases hd with
          | slnil => exact ⟨none, rfl⟩
          | sl _ _ _ _ hlen _ hf => have hl0 := hf rfl; simp at hlen; subst hlen; subst hl0; exact ⟨_, rfl⟩
        obtain ⟨base, rfl⟩ := hvd
        refine ⟨_, _, run_append_nothing (P := P) w sT tx ty e i hu hi base 0 0 (Nat.le_refl _) vx (by rw [his]; exact hs), ?_⟩
        refine .mk hk (Know.le_refl K) (hpre _) (hS.addVirt n) ?_
        cases hd with
        | slnil => exact .refnil (last_pl hS.len _)
        | sl => exact .ref (last_pl hS.len _) (Nat.le_refl _) (fun h => absurd rfl h)
      · have hfl : 1 ≤ fs.length := by cases fs with | nil => exact absurd rfl hf0 | cons => simp
        have fin : ∀ (base : Option Addr) (olds : List Value), (Builtin.firstCells n elems.length (.slice base elems.length elems.length)).run P w.drew = .ok olds.toArray w.drew → RelL K φ olds elems.flatten → (∀ v ∈ olds, v.oneCell' = true) →
            ∃ v w', (Builtin.append_ #[sT, tx] ty #[.slice base elems.length elems.length, vx]).run P w = .ok v w' ∧ Good B w0 K φ k v w' := by
          intro base olds hold hro ho1
          obtain ⟨w', c, hrun, hc, hsim⟩ := grown_row (P := P) (sT := sT) (tx := tx) (ty := ty) hS ht hlay hz hby hold rfl hro ho1 hes hfs hs hrn hn1 (by omega) hlim
          refine ⟨_, _, hrun, .mk hk (Know.le_refl K) (hpre _) hsim ?_⟩
          refine .ref (last_pl hS.len _) hc (fun _ => ⟨rfl, rfl, by simp, by simp⟩)
        cases hd with
        | slnil => exact fin none [] (run_firstCells_none _ _ _ _ _) (by simp; exact .nil) (by simp)
        | sl hk' h1 hrl hes' hlen hcap hf =>
          rename_i b o cap m vs sz
          have := hf rfl
          subst this; subst hlen
          refine fin _ vs (run_firstCells_some w.drew n _ _ _ _ vs ?_ (fun j v hj => ?_)) hrl h1
          · rw [hrl.length, flat_length hes]
          · rw [Addr.add_mid]; simpa using hS.know _ _ _ (hk' j v hj)
  case ref id off len =>
    obtain ⟨es, hid, hle, hlim, hk⟩ := hm
    have hes : ∀ f ∈ (es.drop off).take len, f.length = n := by
      obtain ⟨p, hp⟩ := hS.pl hid
      have h1 := hS.sz _ _ _ _ hid hp
      intro f hf
      cases hv : p.virt with
      | true => have := hS.virt _ _ _ _ hid hp hv; subst this; simp at hf
      | false =>
        obtain ⟨_, _, _, _, _, _, h2, _⟩ := hS.blk _ _ _ _ hid hp hv
        rw [← h1]; exact h2 f (List.mem_of_mem_drop (List.mem_of_mem_take hf))
    have hwl : ((es.drop off).take len).length = len := by rw [List.length_take, List.length_drop]; omega
    have hkill := hS.kill id
    have hlenS : (S.set id none).length = S.length := by simp
    have fin : ∀ (base : Option Addr) (cap : Nat) (olds : List Value), cap < len + fs.length → (Builtin.firstCells n len (.slice base len cap)).run P w.drew = .ok olds.toArray w.drew → RelL K φ olds ((es.drop off).take len).flatten →
        (∀ v ∈ olds, v.oneCell' = true) → ∃ v w', (Builtin.append_ #[sT, tx] ty #[.slice base len cap, vx]).run P w = .ok v w' ∧ Good B w0 K φ k v w' := by
      intro base cap olds hg hold hro ho1
      obtain ⟨w', c, hrun, hc, hsim⟩ := grown_row (P := P) (sT := sT) (tx := tx) (ty := ty) hkill ht hlay hz hby hold hwl.symm hro ho1 hes hfs hs hrn hn1 hg hlim
      refine ⟨_, _, hrun, .mk hk (Know.le_refl K) (hpre _) hsim ?_⟩
      refine .ref (last_pl hS.len _) hc (fun _ => ⟨rfl, rfl, by simp, by simp⟩)
    have none_ : ∀ (base : Option Addr), len = 0 → fs = [] → (base = none ∨ ∃ b o, base = some ⟨b, o, none⟩) → ∃ v w', (Builtin.append_ #[sT, tx] ty #[.slice base len 0, vx]).run P w = .ok v w' ∧ Good B w0 K φ k v w' := by
      intro base h0 hf0 hbase
      subst h0; subst hf0
      have hnews : news = [] := by cases news with | nil => rfl | cons a l => have := hrn.length; simp at this
      subst hnews
      refine ⟨_, _, run_append_nothing (P := P) w sT tx ty e i hu hi base 0 0 (Nat.le_refl _) vx (by rw [his]; exact hs), ?_⟩
      have hv := hkill.addVirt n
      refine .mk hk (Know.le_refl K) (hpre _) (by simpa using hv) ?_
      rcases hbase with rfl | ⟨b, o, rfl⟩
      · exact .refnil (last_pl hS.len _)
      · exact .ref (last_pl hS.len _) (Nat.le_refl _) (fun h => absurd rfl h)
    cases hd with
    | refnil hp =>
      by_cases hf0 : fs = []
      · exact none_ none rfl hf0 (.inl rfl)
      · have hfl : 1 ≤ fs.length := by cases fs with | nil => exact absurd rfl hf0 | cons => simp
        exact fin none 0 [] (by omega) (run_firstCells_none _ _ _ _ _) (by simp; exact .nil) (by simp)
    | ref hp hl hc =>
      rename_i b o cap p
      by_cases hc0 : cap = 0
      · subst hc0
        have h0 : len = 0 := by omega
        by_cases hf0 : fs = []
        · exact none_ _ h0 hf0 (.inr ⟨_, _, rfl⟩)
        · have hfl : 1 ≤ fs.length := by cases fs with | nil => exact absurd rfl hf0 | cons => simp
          subst h0
          exact fin _ 0 [] (by omega) (run_firstCells_some _ _ _ _ _ _ [] (by simp) (by simp)) (by simp; exact .nil) (by simp)
      · obtain ⟨hv, rfl, rfl, hpc⟩ := hc hc0
        have hszp := hS.sz _ _ _ _ hid hp
        subst hszp
        obtain ⟨cs, c1, c2, c3, c4, c5, c6⟩ := hS.window hid hp hv hle
        by_cases hroom : len + fs.length ≤ cap
        · obtain ⟨vals, T, ws, _, hb, hvs, _⟩ := hS.blk id _ es p hid hp hv
          have hnl : news.length = fs.length * p.sz := by rw [hrn.length, flat_length hfs]
          have e4 : (len + fs.length) * p.sz ≤ cap * p.sz := Nat.mul_le_mul_right _ hroom
          rw [Nat.add_mul] at e4
          have e5 := hpc
          rw [Nat.add_mul] at e5
          have hrun := run_append_room_src (P := P) w sT tx ty e i hu hi p.b (p.s + off * p.sz) len cap vx fs.length news (by rw [his]; exact hs) hroom
            (fun j hj => by
              rw [his, cell_of_row w p.b _ vals T (0, 0) hb]
              have : p.s + off * p.sz + len * p.sz + j < vals.size := by omega
              simp [this])
            (fun j hj => c4 _)
          rw [his] at hrun
          refine ⟨_, _, hrun, .mk hk (Know.le_refl K) (hpre _) (hS.regrow hid hp hv hle hpc hroom hfs hrn hn1) ?_⟩
          refine .ref (last_pl hS.len _) hroom (fun _ => ⟨rfl, rfl, by simp, ?_⟩)
          show p.s + off * p.sz + (0 + cap) * p.sz ≤ p.size
          rw [Nat.zero_add]; omega
        · refine fin _ cap cs (by omega) (run_firstCells_some _ _ _ _ _ _ cs ?_ (fun j v hj => by rw [Addr.add_mid]; simpa using c1 j v hj)) c2 c3
          rw [c2.length, flat_length hes, hwl]

theorem sound_append {sT tx ty : TypeId} {vd vx : Value} {d x : LV} {k : LV → LS → Prop} (hS : SimS B w0 K φ S w) (hd : Rel K φ vd d) (hx : Rel K φ vx x) (h : appW P S sT tx d x k) :
    ∃ v w', (Builtin.append_ #[sT, tx] ty #[vd, vx]).run P w = .ok v w' ∧ Good B w0 K φ k v w' :=
  h.elim (sound_append1 hS hd hx) (sound_append0 hS hd hx)

end
end Go.Lift
end
section
set_option linter.all false
/-
  The lifted layer, part 5: copy, make, and what is built out of parts.
-/
namespace Go.Lift
open Go.RowKit

section
variable {P : Program} {B : Nat} {w0 w : World} {K : Know} {φ : List Pl} {S : LS}

/-- the first elements of a source. -/
theorem SimS.srcN (h : SimS B w0 K φ S w) {v : Value} {u : LV} {fs : List (List LV)} {n : Nat} (hr : Rel K φ v u) (hu : srcE S u = some fs) (hn : ∀ f ∈ fs, f.length = n) {m : Nat} (hm : m ≤ fs.length) :
    (Builtin.lenOf v).run P w = .ok fs.length w ∧ ∃ news, (Builtin.firstCells n m v).run P w = .ok news.toArray w ∧ RelL K φ news (fs.take m).flatten ∧ ∀ x ∈ news, x.oneCell' = true := by
  have hfm : ∀ f ∈ fs.take m, f.length = n := fun f hf => hn f (List.mem_of_mem_take hf)
  have htm : (fs.take m).length = m := by rw [List.length_take]; omega
  cases u <;> simp only [srcE, reduceCtorEq] at hu
  case sl full elems =>
    cases hu
    cases hr with
    | slnil => simp at hm; subst hm; exact ⟨rfl, [], run_firstCells_none w n 0 0 0, by simp; exact .nil, by simp⟩
    | sl hk' h1 hrl hes hlen hcap hf =>
      rename_i b o cap m' vs sz
      subst hlen
      have hrl' := hrl.take (m * n)
      rw [← flat_take hn] at hrl'
      refine ⟨rfl, vs.take (m * n), run_firstCells_some w n m _ _ _ _ ?_ (fun j x hj => ?_), hrl', fun x hx => h1 x (List.mem_of_mem_take hx)⟩
      · rw [hrl'.length, flat_length hfm, htm]
      · rw [List.getElem?_take] at hj
        split at hj
        · rw [Addr.add_mid]; exact h.know _ _ _ (hk' j x hj)
        · cases hj
  case ref id off len =>
    split at hu
    · rename_i m' es he
      split at hu
      · rename_i hle
        cases hu
        have hfl : ((es.drop off).take len).length = len := by rw [List.length_take, List.length_drop]; omega
        rw [hfl] at hm ⊢
        cases hr with
        | refnil hp => have : m = 0 := by omega
                       subst this
                       exact ⟨rfl, [], run_firstCells_none w n 0 0 0, by simp; exact .nil, by simp⟩
        | ref hp hl hc =>
          rename_i b o cap p
          refine ⟨rfl, ?_⟩
          by_cases h0 : m = 0
          · subst h0
            exact ⟨[], run_firstCells_some w n 0 _ _ _ [] (by simp) (by simp), by simp; exact .nil, by simp⟩
          · obtain ⟨hv, rfl, rfl, _⟩ := hc (by omega)
            have := h.sz _ _ _ _ he hp
            subst this
            obtain ⟨cs, c1, c2, c3, c4, c5, c6⟩ := h.window (off := off) (n := m) he hp hv (by omega)
            have e1 : ((es.drop off).take len).take m = (es.drop off).take m := by rw [List.take_take, Nat.min_eq_left hm]
            rw [e1] at htm hfm ⊢
            refine ⟨cs, run_firstCells_some w n m _ _ _ cs ?_ (fun j x hj => by rw [Addr.add_mid]; exact c1 j x hj), c2, c3⟩
            rw [c2.length, flat_length hfm, htm]
      · cases hu
    · cases hu
  case str s =>
    cases hu
    cases hr with
    | str =>
      have hl : (s.data.toList.map u8c).length = s.size := by rw [List.length_map, Array.length_toList]; rfl
      rw [hl] at hm ⊢
      refine ⟨rfl, ((s.data.toList.take m).map fun b => Value.int .u8 b.toNat), ?_, ?_, ?_⟩
      · simp only [Builtin.firstCells, Sem.run_pure]
        congr 1
        apply Array.ext'
        simp [List.map_take]
      · rw [← List.map_take]; exact relL_u8 K φ _
      · intro u hu; obtain ⟨_, _, rfl⟩ := List.mem_map.1 hu; rfl

/-- COPY into a live row. -/
theorem sound_copy {dT sT ty e : TypeId} {vd vx : Value} {x : LV} {id off len n : Nat} {es fs : List (List LV)} {k : LV → LS → Prop} (hS : SimS B w0 K φ S w) (hd : Rel K φ vd (.ref id off len)) (hx : Rel K φ vx x)
    (ht : elemT P dT = some e) (hn : sizeT P e = some n) (hid : S[id]? = some (some (n, es))) (hle : off + len ≤ es.length) (hsrc : srcE S x = some fs) (hfs : ∀ f ∈ fs, f.length = n)
    (hk : k (.int .i64 (min fs.length len : Nat)) (S.set id (some (n, es.take off ++ fs.take (min fs.length len) ++ es.drop (off + min fs.length len))))) :
    ∃ v w', (Builtin.copy_ #[dT, sT] ty #[vd, vx]).run P w = .ok v w' ∧ Good B w0 K φ k v w' := by
  have hu := elemT_spec ht
  have hsz := run_sizeT hn w
  obtain ⟨hlen, news, hfc, hrn, hn1⟩ := hS.srcN (P := P) (m := min fs.length len) hx hsrc hfs (Nat.min_le_left _ _)
  have hfm : ∀ f ∈ fs.take (min fs.length len), f.length = n := fun f hf => hfs f (List.mem_of_mem_take hf)
  have htm : (fs.take (min fs.length len)).length = min fs.length len := by rw [List.length_take]; omega
  have hmin : Nat.min fs.length len = min fs.length len := rfl
  have hnl : news.length = min fs.length len * n := by rw [hrn.length, flat_length hfm, htm]
  have zero_ : ∀ (base : Option Addr) (cap : Nat), min fs.length len = 0 → ∃ v w', (Builtin.copy_ #[dT, sT] ty #[.slice base len cap, vx]).run P w = .ok v w' ∧ Good B w0 K φ k v w' := by
    intro base cap h0
    rw [h0] at hk hfc hnl
    have hnews : news = [] := by cases news with | nil => rfl | cons a l => simp at hnl
    subst hnews
    have hset : S.set id (some (n, es)) = S := List.ext_getElem? fun j => by
      by_cases e : id = j
      · subst e; rw [List.getElem?_set_self (List.getElem?_eq_some_iff.1 hid).1, hid]
      · rw [List.getElem?_set_ne e]
    simp only [List.take_zero, List.append_nil, Nat.add_zero, List.take_append_drop, hset] at hk
    refine ⟨goInt 0, w, ?_, .same hk hS (.int _ _)⟩
    cases base <;> simp [Builtin.copy_, run_underlying hu, hlen, hsz, hmin, h0, hfc, storeCells]
  cases hd with
  | refnil hp => exact zero_ none 0 (by simp)
  | ref hp hl hc =>
    rename_i b o cap p
    by_cases h0 : min fs.length len = 0
    · exact zero_ _ _ h0
    · obtain ⟨hv, rfl, rfl, _⟩ := hc (by omega)
      have := hS.sz _ _ _ _ hid hp
      subst this
      obtain ⟨cs, c1, c2, c3, c4, c5, c6⟩ := hS.window (n := len) hid hp hv hle
      have hst := run_storeCells_cells (P := P) p.b (p.s + off * p.sz) news 0 w
        (fun j hj => by
          have hjc : j < cs.length := by rw [c5]; exact Nat.lt_of_lt_of_le hj (by rw [hnl]; exact Nat.mul_le_mul_right _ (Nat.min_le_right _ _))
          rw [Nat.add_zero, c1 j _ (List.getElem?_eq_getElem hjc)]; rfl)
        (fun j hj => c4 _) hn1
      rw [Nat.add_zero] at hst
      refine ⟨goInt (min fs.length len : Nat), w.setCells p.b (p.s + off * p.sz) news, ?_, ?_⟩
      · simp [Builtin.copy_, run_underlying hu, hlen, hsz, hmin, hfc, hst]
      · have hw := hS.writeMany hid hp hv (fs := fs.take (min fs.length len)) (off := off) (by rw [htm]; omega) hfm hrn hn1
        rw [htm] at hw
        exact .mk hk (Know.le_refl K) (List.prefix_refl _) hw (.int _ _)

theorem relL_zero {z : Array Value} {zc : List LV} (hz : RelL K φ z.toList zc) (n : Nat) : RelL K φ (madeCells z (n * z.size)).toList (List.replicate n zc).flatten := by
  have hl : z.size = zc.length := by have := hz.length; simpa using this
  have hrep : ∀ e ∈ List.replicate n zc, e.length = z.size := fun e he => by rw [(List.mem_replicate.1 he).2, hl]
  refine RelL.of_get ?_ ?_
  · rw [flat_length hrep]; simp [madeCells]
  · intro j v u hv hu
    simp only [madeCells, Array.toList_map, Array.toList_range, List.getElem?_map, Option.map_eq_some_iff] at hv
    obtain ⟨j', hj', rfl⟩ := hv
    obtain ⟨hlt, hj2⟩ := List.getElem?_eq_some_iff.1 hj'
    simp at hlt hj2
    subst hj2
    have hz0 : 0 < z.size := by
      rcases Nat.eq_zero_or_pos z.size with h0 | h0
      · rw [h0] at hlt; simp at hlt
      · exact h0
    have hmod : j % z.size < z.size := Nat.mod_lt _ hz0
    have hdiv : j / z.size < n := by rw [Nat.div_lt_iff_lt_mul hz0]; exact hlt
    have hk : zc[j % z.size]? = some (zc[j % z.size]'(by omega)) := List.getElem?_eq_getElem (by omega)
    have hfg := flat_get hrep (i := j / z.size) (e := zc) (by rw [List.getElem?_replicate]; simp [hdiv]) hk
    have hsum : j / z.size * z.size + j % z.size = j := by rw [Nat.mul_comm]; exact Nat.div_add_mod j z.size
    rw [hsum] at hfg
    rw [hu] at hfg
    cases hfg
    obtain ⟨v, hv, hr⟩ := hz.get hk
    have : z[j % z.size]! = v := by
      have : z[j % z.size]? = some v := by simpa using hv
      rw [getElem!_def, this]
    rw [this]; exact hr

theorem one_zero {z : Array Value} (h : ∀ v ∈ z.toList, v.oneCell' = true) (n : Nat) : ∀ v ∈ (madeCells z (n * z.size)).toList, v.oneCell' = true := by
  intro v hv
  simp only [madeCells, Array.toList_map, Array.toList_range, List.mem_map, List.mem_range] at hv
  obtain ⟨j, hj, rfl⟩ := hv
  have hz0 : 0 < z.size := by
    rcases Nat.eq_zero_or_pos z.size with h0 | h0
    · rw [h0] at hj; simp at hj
    · exact h0
  have hmod : j % z.size < z.size := Nat.mod_lt _ hz0
  have hg : z[j % z.size]! = z[j % z.size] := by simp [hmod]
  rw [hg]
  exact h _ (by simp)

/-- MAKE: a row of zero values. -/
theorem sound_make {t e : TypeId} {z : Value} {n by_ : Nat} {zc : List LV} {kl kc : IntKind} {l c : Int} {k : LV → LS → Prop} (hS : SimS B w0 K φ S w) (ht : elemT P t = some e) (hlay : layT P e = some (z, n, by_)) (hz : z.cells.size = n)
    (hzc : (ofVal z).cells? = some zc) (h0 : 0 ≤ l) (hlc : l ≤ c) (hby : 1 ≤ by_) (hlim : c * by_ ≤ LIM) (hk : k (.ref S.length 0 l.toNat) (S ++ [some (n, List.replicate c.toNat zc)])) :
    ∃ v w', (Instr.makeSlice t (.int kl l) (.int kc c)).run P w = .ok v w' ∧ Good B w0 K φ k v w' := by
  obtain ⟨i, hi, hiz, his, hib⟩ := layT_spec hlay
  subst his; subst hib
  have hl2 : (LIM : Int) = 140737488355328 := by decide
  have hcb : c ≤ c * i.bytes := by
    have := Int.mul_le_mul_of_nonneg_left (show (1 : Int) ≤ (i.bytes : Int) by omega) (show 0 ≤ c by omega)
    omega
  have hrun := run_make (P := P) w t e i z (elemT_spec ht) hi hiz kl kc l c h0 hlc (by rw [Int.mul_comm]; omega) (by omega)
  obtain ⟨hrz, h1z⟩ := (rel_ofVal K φ z).cells hzc
  refine ⟨_, _, hrun, ?_⟩
  rw [← hz] at hk ⊢
  have hzcl : zc.length = z.cells.size := by have := hrz.length; simpa using this.symm
  have hnew := hS.new (vals := madeCells z.cells (c.toNat * z.cells.size)) (T := e) (es := List.replicate c.toNat zc) (vs := (madeCells z.cells (c.toNat * z.cells.size)).toList) (sz := z.cells.size)
    (fun e he => by rw [(List.mem_replicate.1 he).2, hzcl]) (relL_zero hrz _) (one_zero h1z _) (fun j v hj => by simpa using hj)
  refine .mk hk (Know.le_refl K) (List.prefix_append _ _) hnew ?_
  refine .ref (last_pl hS.len _) (by omega) (fun _ => ⟨rfl, rfl, by simp, ?_⟩)
  simp [size_madeCells]

/-! ### Built out of parts -/
def placeT (P : Program) (t : TypeId) (i : Nat) : Option (Nat × Nat) :=
  match P.underlying t with
  | some (.struct fs) => match fs[i]? with
    | some f => (sizeT P f.type).map fun n => (f.offset, n)
    | none => none
  | some (.array _ e) => (sizeT P e).map fun n => (i * n, n)
  | _ => none

/-- every field's size is known. -/
def knownT (P : Program) (t : TypeId) : Bool :=
  match P.underlying t with
  | some (.struct fs) => fs.toList.all fun f => (sizeT P f.type).isSome
  | some (.array _ e) => (sizeT P e).isSome
  | _ => false

def fillL (place : Nat → Option (Nat × Nat)) : List LV → List (Nat × LV) → Option (List LV)
  | cs, [] => some cs
  | cs, (i, u) :: rest => match place i, u.cells? with
    | some (off, size), some us => if us.length = size ∧ off + size ≤ cs.length then fillL place (cs.take off ++ us ++ cs.drop (off + size)) rest else none
    | _, _ => none

theorem fold_set (vs : List Value) : ∀ (off m : Nat) (cs : Array Value), off + m + vs.length ≤ cs.size →
    ((vs.zipIdx m).foldl (fun cs (c, j) => cs.setIfInBounds (off + j) c) cs).toList = cs.toList.take (off + m) ++ vs ++ cs.toList.drop (off + m + vs.length) := by
  induction vs with
  | nil => intro off m cs _; simp
  | cons v vs ih =>
    intro off m cs h
    simp only [List.zipIdx_cons, List.foldl_cons]
    rw [ih off (m + 1) _ (by simp at h ⊢; omega)]
    simp at h
    have hlt : off + m < cs.toList.length := by simp; omega
    have e1 : (cs.toList.set (off + m) v).take (off + (m + 1)) = cs.toList.take (off + m) ++ [v] := by
      rw [List.take_set, show off + (m + 1) = off + m + 1 by omega, List.take_succ_eq_append_getElem hlt]
      rw [List.set_append_right _ _ (by simp; omega)]
      have e0 : off + m - min (off + m) cs.size = 0 := by omega
      simp [e0]
    have e2 : (cs.toList.set (off + m) v).drop (off + (m + 1) + vs.length) = cs.toList.drop (off + m + (vs.length + 1)) := by
      rw [List.drop_set_of_lt (by omega)]
      congr 1
      omega
    simp only [Array.toList_setIfInBounds, e1, e2, List.length_cons]
    simp

theorem sound_fill {place : Nat → Option (Nat × Nat)} : ∀ {parts : List (Nat × Value)} {ups : List (Nat × LV)} {cs : Array Value} {us us' : List LV}, parts.map (·.1) = ups.map (·.1) → RelL K φ (parts.map (·.2)) (ups.map (·.2)) →
    RelL K φ cs.toList us → (∀ v ∈ cs.toList, v.oneCell' = true) → fillL place us ups = some us' →
    ∃ cs', Instr.fill place cs parts = some cs' ∧ RelL K φ cs'.toList us' ∧ (∀ v ∈ cs'.toList, v.oneCell' = true) ∧ cs'.size = cs.size
  | [], [], cs, us, us', _, _, hr, h1, hf => by simp only [fillL, Option.some.injEq] at hf; subst hf; exact ⟨cs, rfl, hr, h1, rfl⟩
  | [], _ :: _, _, _, _, hm, _, _, _, _ => by simp at hm
  | _ :: _, [], _, _, _, hm, _, _, _, _ => by simp at hm
  | (i, v) :: parts, (j, u) :: ups, cs, us, us', hm, hp, hr, h1, hf => by
    simp only [List.map_cons, List.cons.injEq] at hm
    obtain ⟨rfl, hm⟩ := hm
    cases hp with
    | cons hv hp =>
      simp only [fillL] at hf
      split at hf
      · rename_i off size cells hpl hc
        split at hf
        · rename_i hlen
          obtain ⟨hl1, hl2⟩ := hlen
          obtain ⟨hvr, hv1⟩ := Rel.cells hv hc
          have hcl := hr.length
          have hvl := hvr.length
          simp at hvl hcl
          have hfs := fold_set v.cells.toList off 0 cs (by simp; omega)
          simp only [Nat.add_zero] at hfs
          obtain ⟨cs', g1, g2, g3, g4⟩ := sound_fill (place := place) (parts := parts) (ups := ups) (cs := (v.cells.toList.zipIdx 0).foldl (fun cs (c, j) => cs.setIfInBounds (off + j) c) cs) hm hp
            (us := us.take off ++ cells ++ us.drop (off + size)) (us' := us') (by
              rw [hfs]
              refine ((hr.take off).append hvr).append ?_
              rw [show v.cells.toList.length = size by simp; omega]
              exact hr.drop _)
            (by
              rw [hfs]
              intro x hx
              simp only [List.mem_append] at hx
              rcases hx with (hx | hx) | hx
              · exact h1 x (List.mem_of_mem_take hx)
              · exact hv1 x hx
              · exact h1 x (List.mem_of_mem_drop hx)) hf
          refine ⟨cs', ?_, g2, g3, ?_⟩
          · have hne : ¬ (v.cells.size ≠ size ∨ cs.size < off + v.cells.size) := by omega
            have e5 : v.cells.zipIdx.foldl (fun cs (c, j) => cs.setIfInBounds (off + j) c) cs = (v.cells.toList.zipIdx 0).foldl (fun cs (c, j) => cs.setIfInBounds (off + j) c) cs := by
              rw [← Array.foldl_toList]; simp
            simp only [Instr.fill, hpl]
            rw [if_neg (by simp; omega), e5]
            exact g1
          · rw [g4]
            have := congrArg List.length hfs
            simp at this
            rw [this]; omega
        · cases hf
      · cases hf

theorem run_places (fs : List Field) (h : fs.all (fun f => (sizeT P f.type).isSome) = true) (w : World) :
    (fs.mapM (fun f => do pure (f.offset, ← sizeOf f.type) : Field → Sem (Nat × Nat))).run P w = .ok (fs.map fun f => (f.offset, (sizeT P f.type).getD 0)) w := by
  induction fs with
  | nil => rfl
  | cons f fs ih =>
    simp only [List.all_cons, Bool.and_eq_true] at h
    obtain ⟨n, hn⟩ := Option.isSome_iff_exists.1 h.1
    simp only [List.mapM_cons, Sem.run_bind, run_sizeT hn, Result.andThen_ok, Sem.run_pure, ih h.2]
    simp [hn]

/-- BUILD. -/
theorem sound_build {t : TypeId} {z : Value} {n by_ : Nat} {zc us : List LV} {parts : List (Nat × Value)} {ups : List (Nat × LV)} {k : LV → LS → Prop} (hS : SimS B w0 K φ S w) (hlay : layT P t = some (z, n, by_)) (hzc : (ofVal z).cells? = some zc)
    (hkn : knownT P t = true) (hm : parts.map (·.1) = ups.map (·.1)) (hp : RelL K φ (parts.map (·.2)) (ups.map (·.2))) (hf : fillL (placeT P t) zc ups = some us) (hk : k (.agg us) S) :
    ∃ v, (Instr.build t parts.toArray).run P w = .ok v w ∧ Good B w0 K φ k v w := by
  obtain ⟨i, hi, hiz, his, hib⟩ := layT_spec hlay
  obtain ⟨hrz, h1z⟩ := (rel_ofVal K φ z).cells hzc
  obtain ⟨cs', g1, g2, g3, g4⟩ := sound_fill hm hp hrz h1z hf
  refine ⟨.agg cs', ?_, .same hk hS (.agg g3 g2)⟩
  unfold knownT at hkn
  split at hkn
  · rename_i fs hfs
    have hpl : (fun j => (fs.map fun f => (f.offset, (sizeT P f.type).getD 0))[j]?) = placeT P t := by
      funext j
      unfold placeT
      simp only [hfs, Array.getElem?_map]
      cases hj : fs[j]? with
      | none => rfl
      | some f =>
        have hmem : f ∈ fs.toList := by simpa using Array.mem_of_getElem? hj
        obtain ⟨m, hm⟩ := Option.isSome_iff_exists.1 (List.all_eq_true.1 hkn f hmem)
        simp [hm]
    have hrp : (fs.mapM (fun f => do pure (f.offset, ← sizeOf f.type) : Field → Sem (Nat × Nat))).run P w = .ok (fs.map fun f => (f.offset, (sizeT P f.type).getD 0)) w := by
      rw [Array.mapM_eq_mapM_toList, Sem.run_map, run_places _ hkn w]
      simp only [Result.andThen_ok]
      congr 1
      apply Array.ext'
      simp
    have hzv : (zeroValue t).run P w = .ok z w := by simp [zeroValue, typeInfo, hi, hiz]
    rw [← hpl] at g1
    simp only [Instr.build, Sem.run_bind, hzv, Result.andThen_ok, run_underlying hfs, hrp, g1, Sem.run_pure]
  · rename_i len e hfs
    obtain ⟨m, hm'⟩ := Option.isSome_iff_exists.1 hkn
    have hpl : (fun j => some (j * m, m)) = placeT P t := by
      funext j
      unfold placeT
      simp [hfs, hm']
    have hzv : (zeroValue t).run P w = .ok z w := by simp [zeroValue, typeInfo, hi, hiz]
    rw [← hpl] at g1
    simp only [Instr.build, Sem.run_bind, hzv, Result.andThen_ok, run_underlying hfs, run_sizeT hm', g1, Sem.run_pure]
  · cases hkn

/-- whole elements laid into a list of elements. -/
def fillE (n : Nat) : List (List LV) → List (Nat × LV) → Option (List (List LV))
  | es, [] => some es
  | es, (i, u) :: rest => match u.cells? with
    | some us => if us.length = n ∧ i < es.length then fillE n (es.set i us) rest else none
    | none => none

theorem flat_set {sz : Nat} {es : List (List LV)} (hs : ∀ e ∈ es, e.length = sz) {i : Nat} (hi : i < es.length) (us : List LV) :
    (es.set i us).flatten = es.flatten.take (i * sz) ++ us ++ es.flatten.drop (i * sz + sz) := by
  rw [← flat_take hs i, show i * sz + sz = (i + 1) * sz by rw [Nat.succ_mul], ← flat_drop hs (i + 1), List.set_eq_take_append_cons_drop]
  simp [hi]

theorem fillE_fillL {n : Nat} : ∀ {ups : List (Nat × LV)} {es es' : List (List LV)}, (∀ e ∈ es, e.length = n) → fillE n es ups = some es' →
    fillL (fun i => some (i * n, n)) es.flatten ups = some es'.flatten ∧ (∀ e ∈ es', e.length = n) ∧ es'.length = es.length
  | [], es, es', hs, h => by simp only [fillE, Option.some.injEq] at h; subst h; exact ⟨rfl, hs, rfl⟩
  | (i, u) :: ups, es, es', hs, h => by
    simp only [fillE] at h
    split at h
    · rename_i us hus
      split at h
      · rename_i hc
        obtain ⟨hc1, hc2⟩ := hc
        have hs' : ∀ e ∈ es.set i us, e.length = n := fun e he => (List.mem_or_eq_of_mem_set he).elim (hs e) (fun h => by rw [h, hc1])
        obtain ⟨h1, h2, h3⟩ := fillE_fillL hs' h
        refine ⟨?_, h2, by rw [h3]; simp⟩
        rw [flat_set hs hc2 us] at h1
        have hle : i * n + n ≤ es.flatten.length := by rw [flat_length hs, ← Nat.succ_mul]; exact Nat.mul_le_mul_right _ hc2
        simp only [fillL, hus, hc1, true_and, if_pos hle]
        exact h1
      · cases h
    · cases h

/-- A LITERAL OF A SLICE: it is known, and never written. -/
theorem sound_buildSlice {t e : TypeId} {z : Value} {n by_ len : Nat} {zc : List LV} {es : List (List LV)} {parts : List (Nat × Value)} {ups : List (Nat × LV)} {k : LV → LS → Prop} (hS : SimS B w0 K φ S w) (ht : elemT P t = some e)
    (hlay : layT P e = some (z, n, by_)) (hz : z.cells.size = n) (hzc : (ofVal z).cells? = some zc) (hlim : len * n ≤ 16777216) (hm : parts.map (·.1) = ups.map (·.1)) (hp : RelL K φ (parts.map (·.2)) (ups.map (·.2)))
    (hf : fillE n (List.replicate len zc) ups = some es) (hk : k (.sl true es) S) :
    ∃ v w', (Instr.buildSlice t len parts.toArray).run P w = .ok v w' ∧ Good B w0 K φ k v w' := by
  obtain ⟨i, hi, hiz, his, hib⟩ := layT_spec hlay
  obtain ⟨hrz, h1z⟩ := (rel_ofVal K φ z).cells hzc
  subst hz
  have hzcl : zc.length = z.cells.size := by have := hrz.length; simpa using this.symm
  have hrep : ∀ e ∈ List.replicate len zc, e.length = z.cells.size := fun e he => by rw [(List.mem_replicate.1 he).2, hzcl]
  obtain ⟨f1, f2, f3⟩ := fillE_fillL hrep hf
  obtain ⟨cs', g1, g2, g3, g4⟩ := sound_fill hm hp (relL_zero hrz len) (one_zero h1z len) f1
  have hsz : (sizeOf e).run P w = .ok z.cells.size w := by simp [sizeOf, typeInfo, hi, his]
  have hzv : (zeroValue e).run P w = .ok z w := by simp [zeroValue, typeInfo, hi, hiz]
  refine ⟨.slice (some ⟨w.heap.size, 0, none⟩) len len, w.alloc (.cells cs' e), ?_, ?_⟩
  · have hlim' : ¬ (len * z.cells.size > 2 ^ 24) := by omega
    unfold madeCells at g1
    by_cases h0 : len * z.cells.size = 0
    · rw [h0] at g1
      have e1 : ∀ f : Nat → Value, (Array.range 0).map f = #[] := fun f => by apply Array.ext'; simp
      rw [e1] at g1
      simp only [Instr.buildSlice, Sem.run_bind, run_underlying (elemT_spec ht), hsz, h0, Result.andThen_ok, if_true, Sem.run_pure, e1, g1, newRow]
      simp [g1]
    · simp [Instr.buildSlice, run_underlying (elemT_spec ht), hsz, h0, hlim', hzv, g1, newRow]
  · have ha := hS.alloc (.cells cs' e)
    have hl := ha.learn (c := w.heap.size) (s := 0) (vals := cs') (T := e) (fr := (0, 0)) (vs := cs'.toList) (by show (w.heap.push _)[w.heap.size]? = _; simp) hS.next_dead hS.next_free (fun j v hj => by simpa using hj)
    have hle : K.le (K.with_ w.heap.size 0 cs'.toList) := Know.le_with hS.next_free
    refine .mk hk hle (List.prefix_refl _) hl ?_
    have hlen : len = es.length := by rw [f3]; simp
    exact .sl (fun j v hj => Know.with_get hj) g3 (g2.mono hle (List.prefix_refl _)) f2 hlen (Nat.le_refl _) (fun _ => rfl)

end
end Go.Lift
end
section
set_option linter.all false
/-
  The lifted layer, part 6: arithmetic, comparisons, conversions, and one operation.
-/
namespace Go.Lift
open Go.RowKit

def intOpW (op : BinOp) (k : IntKind) (a b : Int) (K : LV → Prop) : Prop :=
  match op with
  | .add => K (.int k (k.wrap (a + b)))
  | .sub => K (.int k (k.wrap (a - b)))
  | .mul => K (.int k (k.wrap (a * b)))
  | .quo => b ≠ 0 ∧ K (.int k (k.wrap (a.tdiv b)))
  | .rem => b ≠ 0 ∧ K (.int k (a.tmod b))
  | .and => K (.int k (k.wrap (BitVec.ofInt k.bits a &&& BitVec.ofInt k.bits b).toNat))
  | .or => K (.int k (k.wrap (BitVec.ofInt k.bits a ||| BitVec.ofInt k.bits b).toNat))
  | .xor => K (.int k (k.wrap (BitVec.ofInt k.bits a ^^^ BitVec.ofInt k.bits b).toNat))
  | .eql => K (.bool (decide (a = b)))
  | .neq => K (.bool (decide (a ≠ b)))
  | .lss => K (.bool (decide (a < b)))
  | .leq => K (.bool (decide (a ≤ b)))
  | .gtr => K (.bool (decide (b < a)))
  | .geq => K (.bool (decide (b ≤ a)))
  | _ => False

def isPtrT (P : Program) (t : TypeId) : Bool :=
  match P.underlying t with
  | some (.pointer _) => true
  | _ => false

def isBoolT (P : Program) (t : TypeId) : Bool :=
  match P.underlying t with
  | some .bool => true
  | _ => false

def intT (P : Program) (t : TypeId) : Option IntKind :=
  match P.underlying t with
  | some (.int k) => some k
  | _ => none

def isStrT (P : Program) (t : TypeId) : Bool :=
  match P.underlying t with
  | some .string => true
  | _ => false

/-- scalars of a type that are compared. -/
def fitS (P : Program) (t : TypeId) : LV → LV → Bool
  | .int k _, .int k' _ => (intT P t).isSome && k == k'
  | .str _, .str _ => isStrT P t
  | .bool _, .bool _ => isBoolT P t
  | _, _ => false

def eqS : LV → LV → Bool
  | .int _ a, .int _ b => decide (a = b)
  | .str a, .str b => decide (a = b)
  | .bool a, .bool b => a == b
  | _, _ => false

def fitL (P : Program) : List TypeId → List LV → List LV → Bool
  | [], [], [] => true
  | t :: ts, u :: us, v :: vs => fitS P t u v && fitL P ts us vs
  | _, _, _ => false

def eqL : List LV → List LV → Bool
  | u :: us, v :: vs => eqS u v && eqL us vs
  | _, _ => true

/-- fields of one cell each, one behind the other, none of them without a name. -/
def flatF : Nat → List Field → Bool
  | _, [] => true
  | n, f :: fs => f.offset == n && f.name != "_" && flatF (n + 1) fs

/-- the types of the cells of a struct (of an array) of scalars. -/
def cellsT (P : Program) (t : TypeId) : Option (List TypeId) :=
  match P.underlying t with
  | some (.struct fs) => if flatF 0 fs.toList && !P.stoodInHeld t && !P.eqGuardType P.depth t then some (fs.toList.map (·.type)) else none
  | some (.array n e) => if sizeT P e == some 1 && !P.eqGuardType P.depth t then some (List.replicate n e) else none
  | _ => none

def aggC (P : Program) (t : TypeId) (us vs : List LV) : Bool :=
  match cellsT P t with
  | some ts => fitL P ts us vs
  | none => false

/-- what a binary operation gives. -/
def lbinW (P : Program) (op : BinOp) (t : TypeId) : LV → LV → (LV → Prop) → Prop
  | .int k a, .int k' b, K =>
    match op with
    | .shl => 0 ≤ b ∧ K (.int k (k.wrap (a * 2 ^ min b.toNat k.bits)))
    | .shr => 0 ≤ b ∧ K (.int k (a.fdiv (2 ^ min b.toNat k.bits)))
    | _ => k = k' ∧ intOpW op k a b K
  | .str a, .str b, K =>
    match op with
    | .eql => K (.bool (decide (a = b)))
    | .neq => K (.bool (decide (a ≠ b)))
    | .lss => K (.bool (Op.bytesLess a.toList b.toList))
    | .gtr => K (.bool (!(Op.bytesLess a.toList b.toList || decide (a = b))))
    | .leq => K (.bool (Op.bytesLess a.toList b.toList || decide (a = b)))
    | .geq => K (.bool (!Op.bytesLess a.toList b.toList))
    | .add => a.size + b.size ≤ 9223372036854775807 ∧ K (.str (a ++ b))
    | _ => False
  | .bool a, .bool b, K =>
    match op with
    | .eql => isBoolT P t = true ∧ K (.bool (a == b))
    | .neq => isBoolT P t = true ∧ K (.bool (!(a == b)))
    | _ => False
  | .nilp, .nilp, K =>
    match op with
    | .eql => isPtrT P t = true ∧ K (.bool true)
    | .neq => isPtrT P t = true ∧ K (.bool false)
    | _ => False
  | .ptr _ _ _, .nilp, K =>
    match op with
    | .eql => isPtrT P t = true ∧ K (.bool false)
    | .neq => isPtrT P t = true ∧ K (.bool true)
    | _ => False
  | .agg us, .agg vs, K =>
    match op with
    | .eql => aggC P t us vs = true ∧ K (.bool (eqL us vs))
    | .neq => aggC P t us vs = true ∧ K (.bool (!(eqL us vs)))
    | _ => False
  | _, _, _ => False

/-- is the operand the nil of a slice's type, written so? -/
def nilK : Operand → Bool
  | .const (.slice none 0 0) => true
  | _ => false
def neU : BinOp → LV
  | .eql => .bool false
  | _ => .bool true
/-- a slice against nil. -/
def nilU (op : BinOp) : LV → LV
  | .sl _ es => bif es.isEmpty then .anyb else neU op
  | .ref _ _ len => bif len == 0 then .anyb else neU op
  | _ => .any
def nilOk : LV → Bool
  | .sl _ _ | .ref _ _ _ => true
  | _ => false
def nilE : BinOp → Bool
  | .eql | .neq => true
  | _ => false
def nilC (P : Program) (op : BinOp) (t : TypeId) (u : LV) : Prop := nilE op = true ∧ (elemT P t).isSome = true ∧ nilOk u = true

def lunW (op : UnOp) : LV → (LV → Prop) → Prop
  | .bool b, K => match op with | .not => K (.bool (!b)) | _ => False
  | .int k n, K => match op with
    | .neg => K (.int k (k.wrap (0 - n)))
    | .xor => K (.int k (k.wrap (BitVec.ofInt k.bits (if k.signed then -1 else k.max) ^^^ BitVec.ofInt k.bits n).toNat))
    | _ => False
  | _, _ => False

def strOf (xs : List UInt8) : ByteArray := ⟨xs.toArray⟩

def lconvW (P : Program) (S : LS) (src dst : TypeId) (u : LV) (K : LV → Prop) : Prop :=
  match u with
  | .int _ n => ∃ k, intT P dst = some k ∧ (intT P src).isSome = true ∧ K (.int k (k.wrap n))
  | .str s => isStrT P src = true ∧ isStrT P dst = true ∧ K (.str s)
  | u => ∃ e, elemT P src = some e ∧ intT P e = some .u8 ∧ isStrT P dst = true ∧ ∃ xs : List UInt8, srcE S u = some (xs.map u8c) ∧ K (.str (strOf xs))

section
variable {P : Program} {B : Nat} {w0 w : World} {K : Know} {φ : List Pl} {S : LS}

theorem isPtrT_spec {t : TypeId} (h : isPtrT P t = true) : ∃ e, P.underlying t = some (.pointer e) := by
  unfold isPtrT at h; split at h
  · exact ⟨_, ‹_›⟩
  · cases h
theorem isBoolT_spec {t : TypeId} (h : isBoolT P t = true) : P.underlying t = some .bool := by
  unfold isBoolT at h; split at h
  · assumption
  · cases h
theorem isStrT_spec {t : TypeId} (h : isStrT P t = true) : P.underlying t = some .string := by
  unfold isStrT at h; split at h
  · assumption
  · cases h
theorem intT_spec {t : TypeId} {k : IntKind} (h : intT P t = some k) : P.underlying t = some (.int k) := by
  unfold intT at h; split at h
  · cases h; assumption
  · cases h

theorem ba_toList (a b : ByteArray) : (a.toList == b.toList) = decide (a = b) := by
  by_cases h : a = b
  · subst h; simp
  · have : a.toList ≠ b.toList := fun e => h (by
      rw [ByteArray.toList_eq, ByteArray.toList_eq] at e
      cases a; cases b
      simp only at e
      rw [Array.ext' e])
    simp [h, this]

theorem run_equalIn_nil2 (d : Nat) {t e : TypeId} (h : P.underlying t = some (.pointer e)) : (Op.equalIn (d + 1) t (.pointer none) (.pointer none)).run P w = .ok true w := by
  simp [Op.equalIn, run_underlying h]
theorem run_equalIn_nil (d : Nat) {t e : TypeId} (h : P.underlying t = some (.pointer e)) (a : Addr) : (Op.equalIn (d + 1) t (.pointer (some a)) (.pointer none)).run P w = .ok false w := by
  simp [Op.equalIn, run_underlying h]
theorem run_equal_nil2 {t e : TypeId} (h : P.underlying t = some (.pointer e)) : (Op.equal t (.pointer none) (.pointer none)).run P w = .ok true w := run_equalIn_nil2 9999 h
theorem run_equal_nil {t e : TypeId} (h : P.underlying t = some (.pointer e)) (a : Addr) : (Op.equal t (.pointer (some a)) (.pointer none)).run P w = .ok false w := run_equalIn_nil 9999 h a

theorem fitS_ld {t : TypeId} {u v : LV} (h : fitS P t u v = true) : rowT P t = some false := by
  unfold fitS at h
  split at h
  · rw [Bool.and_eq_true] at h
    obtain ⟨k, hk⟩ := Option.isSome_iff_exists.1 h.1
    simp [rowT, intT_spec hk, TypeDesc.isRow]
  · simp [rowT, isStrT_spec h, TypeDesc.isRow]
  · simp [rowT, isBoolT_spec h, TypeDesc.isRow]
  · cases h

theorem fitS_eq (d : Nat) {t : TypeId} {a b : Value} {u v : LV} (h : fitS P t u v = true) (ha : Rel K φ a u) (hb : Rel K φ b v) : (Op.equalIn (d + 1) t a b).run P w = .ok (eqS u v) w := by
  unfold fitS at h
  split at h
  · rw [Bool.and_eq_true] at h
    obtain ⟨k, hk⟩ := Option.isSome_iff_exists.1 h.1
    have hkk := h.2
    rw [beq_iff_eq] at hkk
    subst hkk
    cases ha; cases hb
    rw [run_equalIn_int w d t _ k _ _ (intT_spec hk)]
    simp [eqS]
    rfl
  · cases ha; cases hb
    rw [run_equalIn_string w d t _ _ (isStrT_spec h), ba_toList]
    rfl
  · cases ha; cases hb
    rw [run_equalIn_bool' w d t _ _ (isBoolT_spec h)]
    rfl
  · cases h

theorem part1 {t : TypeId} {cs : Array Value} {us : List LV} {off : Nat} {r : LV} (hr0 : rowT P t = some false) (hcs : RelL K φ cs.toList us) (hr : us[off]? = some r) : ∃ v, (part t cs off).run P w = .ok v w ∧ Rel K φ v r := by
  obtain ⟨v, hv, hrel⟩ := hcs.get hr
  refine ⟨v, ?_, hrel⟩
  have hu : ∃ d, P.underlying t = some d ∧ d.isRow = false := by
    unfold rowT at hr0
    cases hd : P.underlying t with
    | none => rw [hd] at hr0; simp at hr0
    | some d => rw [hd] at hr0; simp at hr0; exact ⟨d, rfl, hr0⟩
  obtain ⟨d, hd, hrow⟩ := hu
  have hc : cs[off]? = some v := by simpa using hv
  simp [part, run_isAgg hd, hrow, hc]

theorem run_eqFields (d : Nat) (xs ys : Array Value) (us vs : List LV) (hx : RelL K φ xs.toList us) (hy : RelL K φ ys.toList vs) : ∀ (fs : List Field) (n : Nat), flatF n fs = true → fitL P (fs.map (·.type)) (us.drop n) (vs.drop n) = true →
    (Op.eqFields (d + 1) xs ys fs).run P w = .ok (eqL (us.drop n) (vs.drop n)) w
  | [], n, _, h => by
    simp only [Op.eqFields, Sem.run_pure]
    cases hu : us.drop n with
    | nil => rfl
    | cons => rw [hu] at h; cases hv : vs.drop n <;> rw [hv] at h <;> simp [fitL] at h
  | f :: fs, n, hf, h => by
    simp only [flatF, Bool.and_eq_true, beq_iff_eq] at hf
    obtain ⟨⟨h1, h2⟩, h3⟩ := hf
    cases hu : us.drop n with
    | nil => rw [hu] at h; simp [fitL] at h
    | cons u us' =>
      cases hv : vs.drop n with
      | nil => rw [hu, hv] at h; simp [fitL] at h
      | cons v vs' =>
        rw [hu, hv] at h
        simp only [List.map_cons, fitL, Bool.and_eq_true] at h
        have hu0 : us[n]? = some u := by rw [← Nat.add_zero n, ← List.getElem?_drop, hu]; rfl
        have hv0 : vs[n]? = some v := by rw [← Nat.add_zero n, ← List.getElem?_drop, hv]; rfl
        have hu1 : us.drop (n + 1) = us' := by rw [← List.drop_drop, hu]; rfl
        have hv1 : vs.drop (n + 1) = vs' := by rw [← List.drop_drop, hv]; rfl
        obtain ⟨a, ha, hra⟩ := part1 (P := P) (w := w) (fitS_ld h.1) hx hu0
        obtain ⟨b, hb, hrb⟩ := part1 (P := P) (w := w) (fitS_ld h.1) hy hv0
        have hne : (f.name ≠ "_") = True := eq_true (by simpa using h2)
        have ih := run_eqFields d xs ys us vs hx hy fs (n + 1) h3 (by rw [hu1, hv1]; exact h.2)
        rw [hu1, hv1] at ih
        simp only [Op.eqFields, hne, if_true, Sem.run_bind, h1, ha, hb, Result.andThen_ok, fitS_eq d h.1 hra hrb, eqL]
        cases eqS u v
        · simp
        · simpa using ih

theorem run_eqArr (d n : Nat) (e : TypeId) (xs ys : Array Value) (us vs : List LV) (hx : RelL K φ xs.toList us) (hy : RelL K φ ys.toList vs) : ∀ (m i : Nat), fitL P (List.replicate m e) (us.drop i) (vs.drop i) = true →
    (do
      let r ← forIn (List.range' i m) (none, ()) fun j (_ : Option Bool × Unit) => do
        let a ← part e xs (j * 1)
        let b ← part e ys (j * 1)
        let r ← Op.equalIn (d + 1) e a b
        if (!r) = true then pure (ForInStep.done (some false, ())) else pure (ForInStep.yield (none, ()))
      match r.1 with
      | none => pure true
      | some b => pure b : Sem Bool).run P w = .ok (eqL (us.drop i) (vs.drop i)) w
  | 0, i, h => by
    simp only [List.range'_zero, List.forIn_nil, Sem.run_bind, Sem.run_pure, Result.andThen_ok]
    cases hu : us.drop i with
    | nil => rfl
    | cons => rw [hu] at h; cases hv : vs.drop i <;> rw [hv] at h <;> simp [fitL] at h
  | m + 1, i, h => by
    cases hu : us.drop i with
    | nil => rw [hu] at h; simp [fitL, List.replicate_succ] at h
    | cons u us' =>
      cases hv : vs.drop i with
      | nil => rw [hu, hv] at h; simp [fitL, List.replicate_succ] at h
      | cons v vs' =>
        rw [hu, hv] at h
        simp only [List.replicate_succ, fitL, Bool.and_eq_true] at h
        have hu0 : us[i]? = some u := by rw [← Nat.add_zero i, ← List.getElem?_drop, hu]; rfl
        have hv0 : vs[i]? = some v := by rw [← Nat.add_zero i, ← List.getElem?_drop, hv]; rfl
        have hu1 : us.drop (i + 1) = us' := by rw [← List.drop_drop, hu]; rfl
        have hv1 : vs.drop (i + 1) = vs' := by rw [← List.drop_drop, hv]; rfl
        obtain ⟨a, ha, hra⟩ := part1 (P := P) (w := w) (fitS_ld h.1) hx hu0
        obtain ⟨b, hb, hrb⟩ := part1 (P := P) (w := w) (fitS_ld h.1) hy hv0
        have ih := run_eqArr d n e xs ys us vs hx hy m (i + 1) (by rw [hu1, hv1]; exact h.2)
        rw [hu1, hv1] at ih
        simp only [List.range'_succ, List.forIn_cons, Nat.mul_one, Sem.run_bind, ha, hb, Result.andThen_ok, fitS_eq d h.1 hra hrb, eqL]
        simp only [Nat.mul_one, Sem.run_bind] at ih
        cases eqS u v
        · simp
        · simpa using ih

theorem run_equalIn_arr (d : Nat) {n : Nat} {t e : TypeId} {xs ys : Array Value} {us vs : List LV} (hx : RelL K φ xs.toList us) (hy : RelL K φ ys.toList vs) (hu : P.underlying t = some (.array n e)) (hsz : (sizeOf e).run P w = .ok 1 w) (h : fitL P (List.replicate n e) us vs = true) :
    (Op.equalIn (d + 1 + 1) t (.agg xs) (.agg ys)).run P w = .ok (eqL us vs) w := by
  have := run_eqArr (P := P) (w := w) d n e xs ys us vs hx hy n 0 h
  simp only [List.drop_zero] at this
  rw [← this, Op.equalIn]
  simp only [Sem.run_bind, run_underlying hu, Result.andThen_ok, hsz, Std.Legacy.Range.forIn_eq_forIn_range', Std.Legacy.Range.size]
  simp
  congr 1
  funext a w'
  obtain ⟨o, _⟩ := a
  cases o <;> rfl

theorem run_eqAgg {t : TypeId} {xs ys : Array Value} {us vs : List LV} (hx : RelL K φ xs.toList us) (hy : RelL K φ ys.toList vs) (h : aggC P t us vs = true) : (Op.equalIn 10000 t (.agg xs) (.agg ys)).run P w = .ok (eqL us vs) w ∧ P.eqGuardType P.depth t = false := by
  unfold aggC at h
  split at h
  · rename_i ts hts
    unfold cellsT at hts
    split at hts
    · rename_i fs hfs
      split at hts
      · rename_i hc
        cases hts
        simp only [Bool.and_eq_true, Bool.not_eq_true'] at hc
        have hfo : P.fieldsOf t = fs := by simp [Program.fieldsOf, hfs]
        refine ⟨?_, hc.2⟩
        rw [run_equalIn_agg w 9999 t xs ys (by rw [hfo, hfs]) hc.1.2, hfo]
        exact run_eqFields 9998 xs ys us vs hx hy fs.toList 0 hc.1.1 h
      · cases hts
    · rename_i n e hu
      split at hts
      · rename_i hc
        cases hts
        simp only [Bool.and_eq_true, Bool.not_eq_true', beq_iff_eq] at hc
        refine ⟨?_, hc.2⟩
        exact run_equalIn_arr 9998 hx hy hu (run_sizeT hc.1 w) h
      · cases hts
    · cases hts
  · cases h

/-- BINARY OPERATIONS. -/
theorem sound_bin {op : BinOp} {t : TypeId} {x y : Operand} {va vb : Value} {a b : LV} {k : LV → LS → Prop} (hS : SimS B w0 K φ S w) (ha : Rel K φ va a) (hb : Rel K φ vb b) (h : lbinW P op t a b (fun r => k r S)) :
    ∃ v, (do eqGuard op t x y va vb; binOp op t va vb : Sem Value).run P w = .ok v w ∧ Good B w0 K φ k v w := by
  cases a <;> cases b <;> simp only [lbinW] at h
  case int.int k1 n1 k2 n2 =>
    cases ha; cases hb
    have hg : (eqGuard op t x y (.int k1 n1) (.int k2 n2)).run P w = .ok () w := by
      unfold eqGuard; cases op <;> simp
    cases op <;> simp only [intOpW] at h
    case shl => obtain ⟨h0, hk⟩ := h; exact ⟨_, by simp [hg, binOp, Op.shift, Int.not_lt.2 h0], .same hk hS (.int _ _)⟩
    case shr => obtain ⟨h0, hk⟩ := h; exact ⟨_, by simp [hg, binOp, Op.shift, Int.not_lt.2 h0], .same hk hS (.int _ _)⟩
    case quo => obtain ⟨rfl, h0, hk⟩ := h; exact ⟨_, by simp [hg, binOp, Op.intDiv, h0], .same hk hS (.int _ _)⟩
    case rem => obtain ⟨rfl, h0, hk⟩ := h; exact ⟨_, by simp [hg, binOp, Op.intDiv, h0], .same hk hS (.int _ _)⟩
    case add => obtain ⟨rfl, hk⟩ := h; exact ⟨_, by simp [hg, binOp, Op.intArith], .same hk hS (.int _ _)⟩
    case sub => obtain ⟨rfl, hk⟩ := h; exact ⟨_, by simp [hg, binOp, Op.intArith], .same hk hS (.int _ _)⟩
    case mul => obtain ⟨rfl, hk⟩ := h; exact ⟨_, by simp [hg, binOp, Op.intArith], .same hk hS (.int _ _)⟩
    case and => obtain ⟨rfl, hk⟩ := h; exact ⟨_, by simp [hg, binOp, Op.intBits], .same hk hS (.int _ _)⟩
    case or => obtain ⟨rfl, hk⟩ := h; exact ⟨_, by simp [hg, binOp, Op.intBits], .same hk hS (.int _ _)⟩
    case xor => obtain ⟨rfl, hk⟩ := h; exact ⟨_, by simp [hg, binOp, Op.intBits], .same hk hS (.int _ _)⟩
    case eql => obtain ⟨rfl, hk⟩ := h; exact ⟨.bool (decide (n1 = n2)), by simp [hg, binOp, Op.intCmp]; rfl, .same hk hS (.bool _)⟩
    case neq => obtain ⟨rfl, hk⟩ := h; exact ⟨.bool (decide (n1 ≠ n2)), by simp [hg, binOp, Op.intCmp, bne]; rfl, .same hk hS (.bool _)⟩
    case lss => obtain ⟨rfl, hk⟩ := h; exact ⟨.bool (decide (n1 < n2)), by simp [hg, binOp, Op.intCmp], .same hk hS (.bool _)⟩
    case leq => obtain ⟨rfl, hk⟩ := h; exact ⟨.bool (decide (n1 ≤ n2)), by simp [hg, binOp, Op.intCmp], .same hk hS (.bool _)⟩
    case gtr => obtain ⟨rfl, hk⟩ := h; exact ⟨.bool (decide (n2 < n1)), by simp [hg, binOp, Op.intCmp], .same hk hS (.bool _)⟩
    case geq => obtain ⟨rfl, hk⟩ := h; exact ⟨.bool (decide (n2 ≤ n1)), by simp [hg, binOp, Op.intCmp], .same hk hS (.bool _)⟩
    all_goals exact h.2.elim
  case str.str s1 s2 =>
    cases ha; cases hb
    have hg : (eqGuard op t x y (.string s1) (.string s2)).run P w = .ok () w := by
      unfold eqGuard; cases op <;> simp
    cases op <;> simp only at h
    case add => obtain ⟨h0, hk⟩ := h
                have h0' : ¬ ((9223372036854775807 : Int) < (s1.size : Int) + (s2.size : Int)) := by omega
                exact ⟨.string (s1 ++ s2), by simp [hg, binOp, Op.stringOp, IntKind.max, IntKind.signed, IntKind.bits, h0'], .same hk hS (.str _)⟩
    case eql => exact ⟨.bool (decide (s1 = s2)), by simp [hg, binOp, Op.stringOp, ba_toList], .same h hS (.bool _)⟩
    case neq => exact ⟨.bool (decide (s1 ≠ s2)), by simp [hg, binOp, Op.stringOp, ba_toList], .same h hS (.bool _)⟩
    case lss => exact ⟨.bool _, by simp only [Sem.run_bind, hg, Result.andThen_ok, binOp, Op.stringOp, Sem.run_pure], .same h hS (.bool _)⟩
    case leq => exact ⟨.bool _, by simp only [Sem.run_bind, hg, Result.andThen_ok, binOp, Op.stringOp, ba_toList, Sem.run_pure], .same h hS (.bool _)⟩
    case gtr => exact ⟨.bool _, by simp only [Sem.run_bind, hg, Result.andThen_ok, binOp, Op.stringOp, ba_toList, Sem.run_pure], .same h hS (.bool _)⟩
    case geq => exact ⟨.bool _, by simp only [Sem.run_bind, hg, Result.andThen_ok, binOp, Op.stringOp, Sem.run_pure], .same h hS (.bool _)⟩
  case bool.bool b1 b2 =>
    cases ha; cases hb
    have hg : (eqGuard op t x y (.bool b1) (.bool b2)).run P w = .ok () w := by
      unfold eqGuard; cases op <;> simp
    cases op <;> simp only at h
    case eql => obtain ⟨ht, hk⟩ := h; exact ⟨.bool (b1 == b2), by simp only [Sem.run_bind, hg, Result.andThen_ok, run_eql_bool w t b1 b2 (isBoolT_spec ht)], .same hk hS (.bool _)⟩
    case neq =>
      obtain ⟨ht, hk⟩ := h; exact ⟨.bool (!(b1 == b2)), by simp only [Sem.run_bind, hg, Result.andThen_ok, run_neq_bool w t b1 b2 (isBoolT_spec ht)], .same hk hS (.bool _)⟩
  case nilp.nilp =>
    cases ha; cases hb
    have hg : (eqGuard op t x y (.pointer none) (.pointer none)).run P w = .ok () w := by
      unfold eqGuard; cases op <;> simp
    cases op <;> simp only at h
    case eql => obtain ⟨ht, hk⟩ := h; obtain ⟨e, he⟩ := isPtrT_spec ht; exact ⟨.bool true, by simp only [Sem.run_bind, hg, Result.andThen_ok, binOp, run_equal_nil2 he, Sem.run_pure, Bool.not_true, Bool.not_false], .same hk hS (.bool _)⟩
    case neq => obtain ⟨ht, hk⟩ := h; obtain ⟨e, he⟩ := isPtrT_spec ht; exact ⟨.bool false, by simp only [Sem.run_bind, hg, Result.andThen_ok, binOp, run_equal_nil2 he, Sem.run_pure, Bool.not_true, Bool.not_false], .same hk hS (.bool _)⟩
  case ptr.nilp id i off =>
    cases ha; cases hb
    rename_i p hp
    have hg : (eqGuard op t x y (.pointer (some ⟨p.b, p.s + i * p.sz + off, none⟩)) (.pointer none)).run P w = .ok () w := by
      unfold eqGuard; cases op <;> simp
    cases op <;> simp only at h
    case eql => obtain ⟨ht, hk⟩ := h; obtain ⟨e, he⟩ := isPtrT_spec ht; exact ⟨.bool false, by simp only [Sem.run_bind, hg, Result.andThen_ok, binOp, run_equal_nil he, Sem.run_pure, Bool.not_true, Bool.not_false], .same hk hS (.bool _)⟩
    case neq => obtain ⟨ht, hk⟩ := h; obtain ⟨e, he⟩ := isPtrT_spec ht; exact ⟨.bool true, by simp only [Sem.run_bind, hg, Result.andThen_ok, binOp, run_equal_nil he, Sem.run_pure, Bool.not_true, Bool.not_false], .same hk hS (.bool _)⟩
  case agg.agg us vs =>
    cases ha with
    | agg h1 hx =>
      cases hb with
      | agg h2 hy =>
        rename_i xs ys
        cases op <;> simp only at h
        case eql =>
          obtain ⟨hc, hk⟩ := h
          obtain ⟨he, hg⟩ := run_eqAgg (P := P) (w := w) hx hy hc
          exact ⟨.bool (eqL us vs), by simp only [Sem.run_bind, run_eqGuard_agg w _ t x y xs ys hg, run_eql_struct, he, Result.andThen_ok], .same hk hS (.bool _)⟩
        case neq =>
          obtain ⟨hc, hk⟩ := h
          obtain ⟨he, hg⟩ := run_eqAgg (P := P) (w := w) hx hy hc
          exact ⟨.bool (!(eqL us vs)), by simp only [Sem.run_bind, run_eqGuard_agg w _ t x y xs ys hg, run_neq_struct, he, Result.andThen_ok], .same hk hS (.bool _)⟩

theorem nilK_eq {y : Operand} (h : nilK y = true) : y = .const (.slice none 0 0) := by
  unfold nilK at h
  split at h
  · rfl
  · cases h
theorem sound_nil {op : BinOp} {t : TypeId} {x y : Operand} {va : Value} {a : LV} {k : LV → LS → Prop} (hS : SimS B w0 K φ S w) (ha : Rel K φ va a) (hc : nilC P op t a) (hk : k (nilU op a) S) :
    ∃ v, (do eqGuard op t x y va (.slice none 0 0); binOp op t va (.slice none 0 0) : Sem Value).run P w = .ok v w ∧ Good B w0 K φ k v w := by
  obtain ⟨ho, ht, hn⟩ := hc
  obtain ⟨e, he⟩ := Option.isSome_iff_exists.1 ht
  have hu := elemT_spec he
  obtain ⟨ad, l, c, rfl, hl⟩ : ∃ ad l c, va = .slice ad l c ∧ (nilU op a = .anyb ∨ ad.isNone = false ∧ nilU op a = neU op) := by
    cases a <;> simp only [nilOk, Bool.false_eq_true] at hn
    case sl full es =>
      cases ha with
      | slnil => exact ⟨_, _, _, rfl, .inl rfl⟩
      | sl => 
        refine ⟨_, _, _, rfl, ?_⟩
        cases es with
        | nil => exact .inl rfl
        | cons => exact .inr ⟨rfl, rfl⟩
    case ref id off len =>
      cases ha with
      | ref =>
        refine ⟨_, _, _, rfl, ?_⟩
        cases len with
        | zero => exact .inl rfl
        | succ n => exact .inr ⟨rfl, rfl⟩
      | refnil => exact ⟨_, _, _, rfl, .inl rfl⟩
  have hg : (eqGuard op t x y (.slice ad l c) (.slice none 0 0)).run P w = .ok () w := by
    unfold eqGuard; cases op <;> simp
  have hr : ∀ b : Bool, (nilU op a = .anyb ∨ nilU op a = .bool b) → Rel K φ (.bool b) (nilU op a) := fun b h => by
    rcases h with h | h <;> rw [h]
    · exact .anyb b
    · exact .bool b
  cases op <;> simp only [nilE, Bool.false_eq_true] at ho
  case eql =>
    refine ⟨.bool ad.isNone, by simp only [Sem.run_bind, hg, Result.andThen_ok, binOp, run_equal_slice_nil w t e ad l c hu, Sem.run_pure], .same hk hS (hr _ ?_)⟩
    rcases hl with h | ⟨h1, h2⟩
    · exact .inl h
    · exact .inr (by rw [h1]; exact h2)
  case neq =>
    refine ⟨.bool (!ad.isNone), by simp only [Sem.run_bind, hg, Result.andThen_ok, run_neq_slice_nil w t e ad l c hu], .same hk hS (hr _ ?_)⟩
    rcases hl with h | ⟨h1, h2⟩
    · exact .inl h
    · exact .inr (by rw [h1]; exact h2)

theorem sound_un {op : UnOp} {va : Value} {a : LV} {k : LV → LS → Prop} (hS : SimS B w0 K φ S w) (ha : Rel K φ va a) (h : lunW op a (fun r => k r S)) :
    ∃ v, (Op.unary op va).run P w = .ok v w ∧ Good B w0 K φ k v w := by
  cases a <;> simp only [lunW] at h
  case bool b => cases ha; cases op <;> simp only at h; exact ⟨_, rfl, .same h hS (.bool _)⟩
  case int kd n =>
    cases ha; cases op <;> simp only at h
    · exact ⟨.int kd (kd.wrap (0 - n)), by simp only [Op.unary, Op.intArith, Sem.run_pure], .same h hS (.int _ _)⟩
    · exact ⟨_, by simp only [Op.unary, Op.intBits, Sem.run_pure], .same h hS (.int _ _)⟩

theorem rel_u8 {xs : List UInt8} {vs : List Value} (h : RelL K φ vs (xs.map u8c).flatten) : vs = xs.map fun b => Value.int .u8 b.toNat := by
  induction xs generalizing vs with
  | nil => cases h; rfl
  | cons b xs ih =>
    simp only [List.map_cons, List.flatten_cons, u8c, List.cons_append, List.nil_append] at h
    cases h with
    | cons h hs => cases h; rw [ih hs]; rfl

theorem foldl_push (xs : List UInt8) : ∀ s : ByteArray, (xs.map fun b : UInt8 => (b.toNat : Int)).foldl (fun r n => r.push (UInt8.ofNat n.toNat)) s = ⟨s.data ++ xs.toArray⟩ := by
  induction xs with
  | nil => intro s; cases s; simp
  | cons b xs ih =>
    intro s
    simp only [List.map_cons, List.foldl_cons]
    rw [ih]
    cases s
    simp [ByteArray.push]

/-- CONVERSIONS. -/
theorem sound_conv {src dst : TypeId} {va : Value} {a : LV} {k : LV → LS → Prop} (hS : SimS B w0 K φ S w) (ha : Rel K φ va a) (h : lconvW P S src dst a (fun r => k r S)) :
    ∃ v, (convert src dst va).run P w = .ok v w ∧ Good B w0 K φ k v w := by
  have bytes : ∀ e, elemT P src = some e → intT P e = some .u8 → isStrT P dst = true → ∀ xs : List UInt8, srcE S a = some (xs.map u8c) → k (.str (strOf xs)) S → (∃ b len cap, va = .slice b len cap) →
      ∃ v, (convert src dst va).run P w = .ok v w ∧ Good B w0 K φ k v w := by
    intro e he hi hd xs hs hk hva
    obtain ⟨b, len, cap, rfl⟩ := hva
    refine ⟨.string (strOf xs), ?_, .same hk hS (.str _)⟩
    rw [run_convert_bytes_string w src dst e b len cap (elemT_spec he) (intT_spec hi) (isStrT_spec hd)]
    obtain ⟨hlen, news, hfc, hrn, _⟩ := hS.srcN (P := P) (n := 1) ha hs (by intro f hf; obtain ⟨b, _, rfl⟩ := List.mem_map.1 hf; rfl) (Nat.le_refl _)
    rw [List.take_length] at hrn
    have hnews := rel_u8 hrn
    simp [Builtin.lenOf] at hlen
    cases b with
    | none =>
      simp [Builtin.firstCells] at hfc
      have : news = [] := by cases news with | nil => rfl | cons => simp at hfc
      rw [this] at hnews
      have : xs = [] := by cases xs with | nil => rfl | cons => simp at hnews
      subst this
      simp [Conv.bytesToString, strOf]
      rfl
    | some a =>
      simp only [Builtin.firstCells, Nat.mul_one, List.length_map] at hfc
      rw [hlen]
      have := run_bytesToString (P := P) w a xs.length cap (xs.map fun b : UInt8 => (b.toNat : Int)) (by rw [hfc, hnews]; simp)
      rw [this, foldl_push]
      simp [strOf]
  cases a <;> simp only [lconvW] at h
  case int kd n =>
    obtain ⟨kd', hd, hs, hk⟩ := h
    obtain ⟨ks, hs⟩ := Option.isSome_iff_exists.1 hs
    cases ha
    exact ⟨_, by simp [convert, run_underlying (intT_spec hs), run_underlying (intT_spec hd), Conv.intToInt], .same hk hS (.int _ _)⟩
  case str s =>
    obtain ⟨hs, hd, hk⟩ := h
    cases ha
    exact ⟨_, by simp [convert, run_underlying (isStrT_spec hs), run_underlying (isStrT_spec hd)], .same hk hS (.str _)⟩
  all_goals
    obtain ⟨e, he, hi, hd, xs, hsrc, hk⟩ := h
    first
      | (simp only [srcE, reduceCtorEq] at hsrc; done)
      | (refine bytes e he hi hd xs hsrc hk ?_; cases ha <;> exact ⟨_, _, _, rfl⟩)

end
end Go.Lift
end
section
set_option linter.all false
/-
  The lifted layer, part 7: what one operation gives, and that the model's operation does so.
-/
namespace Go.Lift
open Go.RowKit

/-- a function with a body of its own. -/
def goT (P : Program) (f : FuncId) : Bool :=
  match P.funcs[f]? with
  | some fn => !(fn.name == "runtime.NumGoroutine") && fn.body.isSome
  | none => false

/-- A CALL, said of lifted values: whatever the memory that they stand for. -/
def LCalls (P : Program) (f : FuncId) (us : List LV) (S : LS) (R : LV → LS → Prop) : Prop :=
  goT P f = true ∧ ∀ (B : Nat) (w0 : World) (K : Know) (φ : List Pl) (w : World) (vs : List Value), SimS B w0 K φ S w → RelL K φ vs us →
    Calls P f vs.toArray w (fun e w' => ∃ v, e = .returned v ∧ Good B w0 K φ R v w')

theorem LCalls.mono {P : Program} {f : FuncId} {us : List LV} {S : LS} {R R' : LV → LS → Prop} (h : LCalls P f us S R) (hr : ∀ r S', R r S' → R' r S') : LCalls P f us S R' :=
  ⟨h.1, fun B w0 K φ w vs hS hv => (h.2 B w0 K φ w vs hS hv).mono fun _ _ ⟨v, he, u, S', K', φ', hk, rest⟩ => ⟨v, he, u, S', K', φ', hr _ _ hk, rest⟩⟩

/-- the method of a pointer type, by its name. -/
def methT (P : Program) (t : TypeId) (name : String) : Option FuncId :=
  match P.info? t with
  | some i => match i.methods.find? (·.name == name) with
    | some m => if m.path.size = 0 then match m.func with
        | some (f, true) => match P.underlying t with
          | some (.pointer _) => some f
          | _ => none
        | _ => none
      else none
    | none => none
  | none => none

def ldW (P : Program) (t : TypeId) (cells : List LV) (off : Nat) (K : LV → Prop) : Prop :=
  match rowT P t with
  | some true => ∃ n, sizeT P t = some n ∧ off + n ≤ cells.length ∧ K (.agg ((cells.drop off).take n))
  | some false => ∃ r, cells[off]? = some r ∧ K r
  | none => False

def ixW (S : LS) (n : Nat) : LV → Int → (LV → Prop) → Prop
  | .sl _ elems, i, K => 0 ≤ i ∧ ∃ c, elems[i.toNat]? = some c ∧ c.length = n ∧ K (.eptr c 0)
  | .ref id off len, i, K => 0 ≤ i ∧ i < (len : Int) ∧ ∃ es, S[id]? = some (some (n, es)) ∧ ∃ c, es[off + i.toNat]? = some c ∧ c.length = n ∧ K (.ptr id (off + i.toNat) 0)
  | _, _, _ => False

def sliceW (S : LS) (n : Nat) : LV → Int → Int → (LV → Prop) → Prop
  | .sl full elems, l, h, K => 0 ≤ l ∧ l ≤ h ∧ h ≤ (elems.length : Int) ∧ (∀ e ∈ elems.head?, e.length = n) ∧ K (.sl (full && h == (elems.length : Int)) ((elems.drop l.toNat).take (h.toNat - l.toNat)))
  | .ref id off len, l, h, K => 0 ≤ l ∧ l ≤ h ∧ h ≤ (len : Int) ∧ (∃ es, S[id]? = some (some (n, es))) ∧ K (.ref id (off + l.toNat) (h.toNat - l.toNat))
  | _, _, _, _ => False

def fldTy (P : Program) (s : TypeId) (i : Nat) : Option (TypeId × Nat) :=
  match P.underlying s with
  | some (.struct fs) => (fs[i]?).map fun f => (f.type, f.offset)
  | _ => none

def lenS : LV → Option Int
  | .sl _ es => some es.length
  | .ref _ _ len => some len
  | _ => none

inductive KT where
  | sl (e : TypeId)
  | arr (n : Nat) (e : TypeId)
  | str
  | no

/-- what kind of thing has a length. -/
def kT (P : Program) (t : TypeId) : KT :=
  match P.underlying t with
  | some (.slice e) => .sl e
  | some (.array n e) => .arr n e
  | some .string => .str
  | _ => .no

theorem kT_sl {P : Program} {t e : TypeId} (h : kT P t = .sl e) : P.underlying t = some (.slice e) := by
  unfold kT at h; split at h <;> cases h; assumption
theorem kT_arr {P : Program} {t e : TypeId} {n : Nat} (h : kT P t = .arr n e) : P.underlying t = some (.array n e) := by
  unfold kT at h; split at h <;> cases h; assumption
theorem kT_str {P : Program} {t : TypeId} (h : kT P t = .str) : P.underlying t = some .string := by
  unfold kT at h; split at h <;> first | (cases h; done) | assumption

def lenW (P : Program) (t : TypeId) (u : LV) (K : LV → Prop) : Prop :=
  match kT P t with
  | .str => ∃ s, u = .str s ∧ K (.int .i64 s.size)
  | .sl _ => ∃ n, lenS u = some n ∧ K (.int .i64 n)
  | .arr n _ => K (.int .i64 n)
  | .no => False

/-- the third number of a slice expression is the second one: x[lo:hi:hi]. -/
def mxC (hi mx : Option LV) (u : LV) : Prop :=
  match mx with
  | none => True
  | some (.int _ m) => ∃ d, lenL u = some d ∧ 0 ≤ m ∧ m ≤ d ∧ ∃ k, hi = some (.int k m)
  | some _ => False

def cutM (mx : Option LV) (u : LV) : LV :=
  match mx with
  | none => u
  | some (.int _ m) => cutL m.toNat u
  | some _ => .any

/-- WHAT ONE OPERATION GIVES. -/
def lopW (P : Program) (op : Op) (ρ : Operand → LV) (S : LS) (k : LV → LS → Prop) : Prop :=
  match op with
  | .move x | .assign x => k (ρ x) S
  | .pick c a b => ∃ t, ρ c = .bool t ∧ k (bif t then ρ a else ρ b) S
  | .alloc e => ∃ n b zc, layE P e = some (n, b, zc) ∧ k (.ptr S.length 0 0) (S ++ [some (zc.length, [zc])])
  | .box _ x => ∃ us, (ρ x).cells? = some us ∧ k (.ptr S.length 0 0) (S ++ [some (us.length, [us])])
  | .load t a => ∃ cells off, S.at (ρ a) = some (cells, off) ∧ ldW P t cells off fun r => k r S
  | .store t a x => ∃ id i off, ρ a = .ptr id i off ∧ ∃ n es, S[id]? = some (some (n, es)) ∧ ∃ cells, es[i]? = some cells ∧ ∃ us, (ρ x).cells? = some us ∧ sizeT P t = some us.length ∧ off + us.length ≤ cells.length ∧
      k .any (S.set id (some (n, es.set i (cells.take off ++ us ++ cells.drop (off + us.length)))))
  | .nilCheck x =>
    match ρ x with
    | .ptr id i off => k (.ptr id i off) S
    | .eptr c off => k (.eptr c off) S
    | .iface t v => k (.iface t v) S
    | .func (.func f) a b => k (.func (.func f) a b) S
    | .func (.method name) (.iface t v :: a) b => (methT P t name).isSome = true ∧ k (.func (.method name) (.iface t v :: a) b) S
    | _ => False
  | .binOp op t x y _ => cond (nilK y) (nilC P op t (ρ x) ∧ k (nilU op (ρ x)) S) (lbinW P op t (ρ x) (ρ y) fun r => k r S)
  | .unOp op _ x => lunW op (ρ x) fun r => k r S
  | .convert src dst x => lconvW P S src dst (ρ x) fun r => k r S
  | .makeInterface t x => P.concrete t = true ∧ k (.iface t (ρ x)) S
  | .makeFunc fn first caps => k (.func fn (first.toList.map ρ) (caps.toList.map ρ)) S
  | .makeSlice t l c => ∃ kl l' kc c', ρ l = .int kl l' ∧ ρ c = .int kc c' ∧ ∃ e n b zc, elemT P t = some e ∧ layE P e = some (n, b, zc) ∧
      0 ≤ l' ∧ l' ≤ c' ∧ c' * b ≤ LIM ∧ k (.ref S.length 0 l'.toNat) (S ++ [some (n, List.replicate c'.toNat zc)])
  | .slice t x lo hi mx => mxC (hi.map ρ) (mx.map ρ) (ρ x) ∧
    match cutM (mx.map ρ) (ρ x) with
    | .str s => ∃ l h, bnd 0 (lo.map ρ) = some l ∧ bnd s.size (hi.map ρ) = some h ∧ isStrT P t = true ∧ 0 ≤ l ∧ l ≤ h ∧ h ≤ (s.size : Int) ∧ k (.str (s.extract l.toNat h.toNat)) S
    | u => ∃ e n, elemT P t = some e ∧ sizeT P e = some n ∧ ∃ d l h, lenL u = some d ∧ bnd 0 (lo.map ρ) = some l ∧ bnd d (hi.map ρ) = some h ∧ sliceW S n u l h fun r => k r S
  | .fieldAddr s x f => ∃ n, fldT P s f = some n ∧ ∃ r, (ρ x).addOff n = some r ∧ k r S
  | .field s x f => ∃ t off, fldTy P s f = some (t, off) ∧ ∃ us, ρ x = .agg us ∧ ldW P t us off fun r => k r S
  | .indexAddr t x ix => ∃ kd i, ρ ix = .int kd i ∧
      match kT P t with
      | .sl e => ∃ n, sizeT P e = some n ∧ ixW S n (ρ x) i fun r => k r S
      | .arr len e => ∃ n, sizeT P e = some n ∧ 0 ≤ i ∧ i < (len : Int) ∧ ∃ r, (ρ x).addOff (i.toNat * n) = some r ∧ k r S
      | _ => False
  | .index t x ix => ∃ kd i, ρ ix = .int kd i ∧ 0 ≤ i ∧
      match kT P t with
      | .str => ∃ s, ρ x = .str s ∧ ∃ b, s.data.toList[i.toNat]? = some b ∧ k (.int .u8 b.toNat) S
      | .arr len e => i < (len : Int) ∧ ∃ n us, sizeT P e = some n ∧ ρ x = .agg us ∧ ldW P e us (i.toNat * n) fun r => k r S
      | _ => False
  | .extract x i => ∃ us, ρ x = .tup us ∧ ∃ r, us[i]? = some r ∧ k r S
  | .build t parts => ∃ n b zc us, layE P t = some (n, b, zc) ∧ knownT P t = true ∧ fillL (placeT P t) zc (parts.toList.map fun p => (p.1, ρ p.2)) = some us ∧ k (.agg us) S
  | .buildSlice t len parts => ∃ e n b zc es, elemT P t = some e ∧ layE P e = some (n, b, zc) ∧ decide (len * n ≤ 16777216) = true ∧
      fillE n (List.replicate len zc) (parts.toList.map fun p => (p.1, ρ p.2)) = some es ∧ k (.sl true es) S
  | .call c =>
    match c.callee with
    | .builtin b =>
      match b, c.argTypes.toList, c.args.toList with
      | .append, [sT, tx], [d, x] => appW P S sT tx (ρ d) (ρ x) k
      | .copy, [dT, _], [d, x] => ∃ id off len, ρ d = .ref id off len ∧ ∃ e n, elemT P dT = some e ∧ sizeT P e = some n ∧ ∃ es, S[id]? = some (some (n, es)) ∧ off + len ≤ es.length ∧ ∃ fs, srcE S (ρ x) = some fs ∧ (∀ f ∈ fs, f.length = n) ∧
          k (.int .i64 (min fs.length len : Nat)) (S.set id (some (n, es.take off ++ fs.take (min fs.length len) ++ es.drop (off + min fs.length len))))
      | .len, t :: _, x :: _ => lenW P t (ρ x) fun r => k r S
      | .min, _, [x, y, z] => ∃ kd a kd' b kd'' c, ρ x = .int kd a ∧ ρ y = .int kd' b ∧ ρ z = .int kd'' c ∧ k (.int kd (if c < (if b < a then b else a) then c else (if b < a then b else a))) S
      | .max, _, [x, y, z] => ∃ kd a kd' b kd'' c, ρ x = .int kd a ∧ ρ y = .int kd' b ∧ ρ z = .int kd'' c ∧ k (.int kd (if c > (if b > a then b else a) then c else (if b > a then b else a))) S
      | .min, _, [x, y] => ∃ kd a kd' b, ρ x = .int kd a ∧ ρ y = .int kd' b ∧ k (.int kd (if b < a then b else a)) S
      | .max, _, [x, y] => ∃ kd a kd' b, ρ x = .int kd a ∧ ρ y = .int kd' b ∧ k (.int kd (if b > a then b else a)) S
      | _, _, _ => False
    | .value f =>
      match ρ f with
      | .func (.func g) first caps => LCalls P g (first ++ c.args.toList.map ρ ++ caps) S k
      | _ => False
    | .invoke recv name =>
      match ρ recv with
      | .iface t v => ∃ g, methT P t name = some g ∧ LCalls P g (v :: c.args.toList.map ρ) S k
      | _ => False
  | _ => False

section
variable {P : Program} {B : Nat} {w0 w : World} {K : Know} {φ : List Pl} {S : LS}

theorem ldW_spec {t : TypeId} {cells : List LV} {off : Nat} {k : LV → Prop} (h : ldW P t cells off k) : ∃ r, ld P t cells off = some r ∧ k r := by
  unfold ldW at h
  unfold ld
  split at h
  · rename_i hr
    obtain ⟨n, hn, hle, hk⟩ := h
    exact ⟨_, by simp [hr, hn, hle], hk⟩
  · rename_i hr
    obtain ⟨r, hr', hk⟩ := h
    exact ⟨r, by simp [hr, hr'], hk⟩
  · exact h.elim

theorem ixW_spec {n : Nat} {u : LV} {i : Int} {k : LV → Prop} (h : ixW S n u i k) : ∃ r, ixA S u i = some (r, n) ∧ k r := by
  cases u <;> simp only [ixW] at h
  case sl full elems =>
    obtain ⟨h0, c, hc, hl, hk⟩ := h
    exact ⟨_, by simp [ixA, h0, hc, hl], hk⟩
  case ref id off len =>
    obtain ⟨h0, h1, es, he, c, hc, hl, hk⟩ := h
    exact ⟨_, by simp [ixA, h0, h1, he, hc, hl], hk⟩

theorem sliceW_spec {n : Nat} {u : LV} {l h : Int} {k : LV → Prop} (hw : sliceW S n u l h k) : ∃ r, sliceL S n u l h = some r ∧ k r := by
  cases u <;> simp only [sliceW] at hw
  case sl full elems =>
    obtain ⟨h0, h1, h2, h3, hk⟩ := hw
    exact ⟨_, by simp only [sliceL]; rw [if_pos ⟨h0, h1, h2, h3⟩], hk⟩
  case ref id off len =>
    obtain ⟨h0, h1, h2, ⟨es, he⟩, hk⟩ := hw
    by_cases hl : l = 0
    · subst hl
      exact ⟨_, by simp only [sliceL]; rw [if_pos ⟨h0, h1, h2⟩, if_true], by simpa using hk⟩
    · exact ⟨_, by simp only [sliceL]; rw [if_pos ⟨h0, h1, h2⟩, if_neg hl]; simp [he], hk⟩

theorem Lsem.value {s : Sem Value} {v : Value} {w' : World} {G : Value → World → Prop} (h : s.run P w = .ok v w') (hg : G v w') : Lsem P ((do pure (Next.value (← s)) : Sem Next).run P w) G := by
  simp only [Sem.run_bind, h, Result.andThen_ok, Sem.run_pure, Lsem]; exact hg

theorem Lsem.value' {s : Sem Value} {v : Value} {w' : World} {G : Value → World → Prop} (h : s.run P w = .ok v w') (hg : G v w') : Lsem P ((s.run P w).andThen fun a w' => .ok (Next.value a) w') G := by
  rw [h]; exact hg

theorem Lsem.unit {s : Sem Unit} {w' : World} {G : Value → World → Prop} (h : s.run P w = .ok () w') (hg : G undef w') : Lsem P ((do s; pure Next.skip : Sem Next).run P w) G := by
  simp only [Sem.run_bind, h, Result.andThen_ok, Sem.run_pure, Lsem]; exact hg

theorem RelL.map_op {ρ : Operand → Value} {σ : Operand → LV} (hρ : ∀ x, Rel K φ (ρ x) (σ x)) (l : List Operand) : RelL K φ (l.map ρ) (l.map σ) := by
  induction l with
  | nil => exact .nil
  | cons x l ih => exact .cons (hρ x) ih

theorem bnd_op {ρ : Operand → Value} {σ : Operand → LV} (hρ : ∀ x, Rel K φ (ρ x) (σ x)) {o : Option Operand} {d n : Int} (h : bnd d (o.map σ) = some n) : o.map ρ = none ∧ n = d ∨ ∃ k, o.map ρ = some (.int k n) := by
  cases o with
  | none => exact bnd_rel (K := K) (φ := φ) (.inl ⟨rfl, rfl⟩) h
  | some x => exact bnd_rel (K := K) (φ := φ) (.inr ⟨_, _, rfl, rfl, hρ x⟩) h

theorem run_callFunc {f : FuncId} (h : goT P f = true) (args : Array Value) (w : World) : (callFunc f args).run P w = .ok (.enter f args) w := by
  unfold goT at h
  split at h
  · rename_i fn hf
    simp only [Bool.and_eq_true, Bool.not_eq_true', beq_eq_false_iff_ne] at h
    obtain ⟨h1, h2⟩ := h
    have h2' : fn.body ≠ none := by intro hb; simp [hb] at h2
    simp only [callFunc, Sem.run_bind, program]
    simp [Sem.run, hf, h1]
    intro hb
    exact absurd hb h2'
  · cases h

theorem LCalls.sem {f : FuncId} {us : List LV} {vs : Array Value} {k : LV → LS → Prop} (hS : SimS B w0 K φ S w) (hv : RelL K φ vs.toList us) (h : LCalls P f us S k) :
    Lsem P ((callFunc f vs).run P w) (Good B w0 K φ k) := by
  rw [run_callFunc h.1]
  exact h.2 B w0 K φ w vs.toList hS hv

theorem methT_spec {t : TypeId} {name : String} {f : FuncId} (h : methT P t name = some f) :
    ∃ i m e, P.info? t = some i ∧ i.methods.find? (·.name == name) = some m ∧ m.path = #[] ∧ m.func = some (f, true) ∧ P.underlying t = some (.pointer e) := by
  unfold methT at h
  split at h
  · rename_i i hi
    split at h
    · rename_i m hm
      split at h
      · rename_i hp
        split at h
        · rename_i g hg
          split at h
          · rename_i e he
            cases h
            exact ⟨i, m, e, hi, hm, Array.eq_empty_of_size_eq_zero hp, hg, he⟩
          · cases h
        · cases h
      · cases h
    · cases h
  · cases h

theorem run_method {t : TypeId} {name : String} {f : FuncId} (h : methT P t name = some f) (n : Nat) (v : Value) (w : World) : (method (n + 1) t v name).run P w = .ok (f, v) w := by
  obtain ⟨i, m, e, hi, hm, hp, hf, hu⟩ := methT_spec h
  simp [method, typeInfo, hi, hm, hp, follow, hf, receiverAt, run_underlying hu, Place.get]

theorem run_nilAhead {t : TypeId} {name : String} {f : FuncId} (h : methT P t name = some f) (n : Nat) (v : Value) (w : World) : (nilAhead (n + 1) t v name).run P w = .ok (some false) w := by
  obtain ⟨i, m, e, hi, hm, hp, hf, hu⟩ := methT_spec h
  simp [nilAhead, typeInfo, hi, hm, hp, followBlind, hf]

theorem run_program (w : World) : (program : Sem Program).run P w = .ok P w := rfl

theorem parts_fst {σ : Operand → LV} {ρ : Operand → Value} (parts : List (Nat × Operand)) : (parts.map fun p => (p.1, ρ p.2)).map (·.1) = (parts.map fun p => (p.1, σ p.2)).map (·.1) := by
  induction parts with
  | nil => rfl
  | cons p l ih => simp

theorem parts_snd {σ : Operand → LV} {ρ : Operand → Value} (hρ : ∀ x, Rel K φ (ρ x) (σ x)) (parts : List (Nat × Operand)) : RelL K φ ((parts.map fun p => (p.1, ρ p.2)).map (·.2)) ((parts.map fun p => (p.1, σ p.2)).map (·.2)) := by
  induction parts with
  | nil => exact .nil
  | cons p l ih => exact .cons (hρ p.2) ih

end
end Go.Lift
end
section
set_option linter.all false
/-
  The lifted layer, part 8: one operation does in the model what it gives here.
-/
namespace Go.Lift
open Go.RowKit

section
variable {P : Program} {B : Nat} {w0 w : World} {K : Know} {φ : List Pl} {S : LS}

theorem run_part {t : TypeId} {cs : Array Value} {us : List LV} {off : Nat} {r : LV} (h1 : ∀ v ∈ cs.toList, v.oneCell' = true) (hcs : RelL K φ cs.toList us) (hr : ld P t us off = some r) :
    ∃ v, (part t cs off).run P w = .ok v w ∧ Rel K φ v r := by
  unfold ld rowT at hr
  cases hu : P.underlying t with
  | none => simp [hu] at hr
  | some d =>
    simp only [hu, Option.map_some] at hr
    have ha := run_isAgg hu w
    cases hd : d.isRow with
    | true =>
      simp only [hd] at hr
      cases hs : sizeT P t with
      | none => simp [hs] at hr
      | some n =>
        simp only [hs] at hr
        split at hr
        · rename_i hn
          cases hr
          have e : (cs.extract off (off + n)).toList = (cs.toList.drop off).take n := by simp [List.extract_eq_take_drop]
          refine ⟨.agg (cs.extract off (off + n)), ?_, .agg (fun v hv => ?_) ?_⟩
          · simp only [part, Sem.run_bind, ha, hd, Result.andThen_ok, if_true, run_sizeT hs, Sem.run_pure]
          · rw [e] at hv; exact h1 v (List.mem_of_mem_drop (List.mem_of_mem_take hv))
          · rw [e]; exact (hcs.drop off).take n
        · cases hr
    | false =>
      simp only [hd] at hr
      obtain ⟨v, hv, hrel⟩ := hcs.get hr
      have hv' : cs[off]? = some v := by simpa using hv
      exact ⟨v, by simp [part, Sem.run_bind, ha, hd, hv'], hrel⟩

theorem sound_op {o : Oper} {ρ : Operand → Value} {σ : Operand → LV} {k : LV → LS → Prop} (hS : SimS B w0 K φ S w) (hρ : ∀ x, Rel K φ (ρ x) (σ x)) (hcst : ∀ v, ρ (.const v) = v) (h : lopW P o.op σ S k) :
    Lsem P ((execOp ρ o).run P w) (Good B w0 K φ k) := by
  obtain ⟨dst, op, type, pos, after, guard⟩ := o
  simp only at h
  cases op <;> simp only [lopW] at h <;> simp only [execOp]
  case move x => simp only [Sem.run_pure, Lsem]; exact .same h hS (hρ x)
  case assign x => simp only [Sem.run_pure, Lsem]; exact .same h hS (hρ x)
  case pick c a b =>
    obtain ⟨t, hc, hk⟩ := h
    have := hρ c
    rw [hc] at this
    generalize ρ c = v at *
    cases this
    cases t
    · simp only [asBool, Sem.run_bind, Sem.run_pure, Result.andThen_ok, Lsem]
      exact .same hk hS (hρ b)
    · simp only [asBool, Sem.run_bind, Sem.run_pure, Result.andThen_ok, Lsem]
      exact .same hk hS (hρ a)
  case alloc e =>
    obtain ⟨n, b, zc, hle, hk⟩ := h
    obtain ⟨z, hl, _, _, hz⟩ := layE_spec hle
    obtain ⟨i, hi, hiz, _, _⟩ := layT_spec hl
    obtain ⟨x, w', hr, hg⟩ := sound_newVar (P := P) (t := e) hS (rel_ofVal K φ z) hz hk
    refine Lsem.value ?_ hg
    simp only [Instr.alloc, zeroValue, typeInfo, Sem.run_bind]
    simp only [program, Sem.run, hi, hiz, Result.andThen_ok, Sem.run_pure]
    exact hr
  case box e x =>
    obtain ⟨us, hus, hk⟩ := h
    obtain ⟨y, w', hr, hg⟩ := sound_newVar (P := P) (t := e) hS (hρ x) hus hk
    exact Lsem.value hr hg
  case load t a =>
    obtain ⟨cells, off, ha, hl⟩ := h
    obtain ⟨r, hr, hk⟩ := ldW_spec hl
    obtain ⟨x, h1, h2⟩ := sound_load (P := P) hS (hρ a) ha hr hk
    exact Lsem.value h1 h2
  case store t a x =>
    obtain ⟨id, i, off, ha, n, es, hid, cells, hi, us, hus, hsz, hoff, hk⟩ := h
    have h1 := hρ a
    rw [ha] at h1
    obtain ⟨w', h2, h3⟩ := sound_store (P := P) hS h1 (hρ x) hid hi hus hsz hoff hk
    exact Lsem.unit h2 h3
  case nilCheck x =>
    have hx := hρ x
    split at h
    · rename_i id i off he
      rw [he] at hx
      generalize ρ x = v at *
      cases hx with
      | ptr hp => exact .same h hS (.ptr hp)
    · rename_i c off he
      rw [he] at hx
      generalize ρ x = v at *
      cases hx with
      | eptr h1 h2 h3 => exact .same h hS (.eptr h1 h2 h3)
    · rename_i t v he
      rw [he] at hx
      generalize ρ x = v at *
      cases hx with
      | iface h1 => exact .same h hS (.iface h1)
    · rename_i f a b he
      rw [he] at hx
      generalize ρ x = v at *
      cases hx with
      | func h1 h2 => exact .same h hS (.func h1 h2)
    · rename_i name t v a b he
      obtain ⟨hm, hk⟩ := h
      obtain ⟨f, hm⟩ := Option.isSome_iff_exists.1 hm
      rw [he] at hx
      generalize ρ x = v at *
      cases hx with
      | func h1 h2 =>
        rename_i first caps
        have hc := Rel.func (K := K) (φ := φ) (fn := .method name) h1 h2
        generalize hl : first.toList = l at h1
        cases h1 with
        | cons hv hs =>
          rename_i v' vs'
          cases hv with
          | iface hv' =>
            rename_i v''
            have h0 : first[0]? = some (.iface t v'') := by
              have : first.toList[0]? = some (.iface t v'') := by rw [hl]; rfl
              simpa using this
            simp only [h0, Sem.run_bind, run_program, Result.andThen_ok]
            rw [show P.types.size + Made.depth = (P.types.size + Made.depth - 1) + 1 by unfold Made.depth; omega, run_nilAhead hm]
            simp only [Result.andThen_ok, bne_self_eq_false, Bool.false_eq_true, if_false, Sem.run_pure, Sem.run_bind]
            exact .same hk hS hc
    · exact h.elim
  case binOp op t x y yt =>
    cases hn : nilK y with
    | true =>
      simp only [hn, cond_true] at h
      obtain ⟨v, h1, h2⟩ := sound_nil (P := P) (x := x) (y := y) hS (hρ x) h.1 h.2
      have e := nilK_eq hn
      subst e
      rw [hcst]
      exact Lsem.value h1 h2
    | false =>
      simp only [hn, cond_false] at h
      obtain ⟨v, h1, h2⟩ := sound_bin (P := P) (x := x) (y := y) hS (hρ x) (hρ y) h
      exact Lsem.value h1 h2
  case unOp op t x =>
    obtain ⟨v, h1, h2⟩ := sound_un (P := P) hS (hρ x) h
    exact Lsem.value h1 h2
  case convert s d x =>
    obtain ⟨v, h1, h2⟩ := sound_conv (P := P) hS (hρ x) h
    exact Lsem.value h1 h2
  case makeInterface t x =>
    obtain ⟨hc, hk⟩ := h
    exact Lsem.value (run_makeInterface w t _ hc) (.same hk hS (.iface (hρ x)))
  case makeFunc fn first caps =>
    refine Lsem.value (v := .func fn (first.map ρ) (caps.map ρ)) (by simp only [Instr.makeFunc, Sem.run_pure]) (.same h hS (.func ?_ ?_))
    · simpa using RelL.map_op hρ first.toList
    · simpa using RelL.map_op hρ caps.toList
  case makeSlice t l c =>
    obtain ⟨kl, l', kc, c', hl, hc, e, n, b, zc, he, hle, h0, h1, hlim, hk⟩ := h
    obtain ⟨z, hlay, hcl1, hcl2, hz⟩ := layE_spec hle
    have hvl := hρ l
    have hvc := hρ c
    rw [hl] at hvl
    rw [hc] at hvc
    generalize ρ l = vl at *
    generalize ρ c = vc at *
    cases hvl; cases hvc
    obtain ⟨v, w', h2, h3⟩ := sound_make (P := P) (kl := kl) (kc := kc) hS he hlay hcl1 hz h0 h1 hcl2 hlim hk
    exact Lsem.value h2 h3
  case slice t x lo hi mx =>
    cases mx with
    | some m =>
      obtain ⟨hm, h⟩ := h
      have hvm := hρ m
      simp only [Option.map_some, mxC] at hm
      split at hm
      · rename_i he; cases he
      · rename_i km hm0 he
        simp only [Option.some.injEq] at he
        rw [he] at hvm
        simp only [Option.map_some, cutM, he] at h
        obtain ⟨d, hd, h0, h1, kh, hkh⟩ := hm
        obtain ⟨y, rfl, hy⟩ : ∃ y, hi = some y ∧ σ y = .int kh hm0 := by
          cases hi with
          | none => simp at hkh
          | some y => simp at hkh; exact ⟨y, rfl, hkh⟩
        have hvy := hρ y
        rw [hy] at hvy
        obtain ⟨hn, rfl⟩ := Int.eq_ofNat_of_zero_le h0
        simp only [Int.toNat_natCast] at h
        have hns : ∀ s, σ x ≠ .str s := fun s hs => by
          rw [hs] at h
          simp only [cutL] at h
          obtain ⟨e, n, _, _, d, l, r, hd, _⟩ := h
          simp [lenL] at hd
        obtain ⟨a, ln, cap, hva, hcap, hrel⟩ := (hρ x).cut hns hd h1
        split at h
        · rename_i s hs
          cases hu : σ x <;> simp [cutL, hu] at hs
        · obtain ⟨e, n, he, hn', d', l, hh, hd', hl, hh', hw⟩ := h
          obtain ⟨r, hr, hk⟩ := sliceW_spec hw
          simp only [Option.map_some, hy, bnd, Option.some.injEq] at hh'
          subst hh'
          have hlo := bnd_op hρ hl
          have hb : 0 ≤ l ∧ l ≤ (hn : Int) := by
            unfold sliceL at hr
            split at hr
            · split at hr
              · rename_i hc; exact ⟨hc.1, hc.2.1⟩
              · cases hr
            · split at hr
              · rename_i hc; exact ⟨hc.1, hc.2.1⟩
              · cases hr
            · cases hr
          obtain ⟨l', rfl⟩ := Int.eq_ofNat_of_zero_le hb.1
          generalize hvm' : ρ m = vm at *
          generalize hvy' : ρ y = vy at *
          cases hvm; cases hvy
          obtain ⟨v, h1, h2⟩ := sound_slice (P := P) (lo := lo.map ρ) (hi := some (.int kh (hn : Int))) hS hrel he hn' hlo (.inr ⟨kh, rfl⟩) hr hk
          refine Lsem.value ?_ h2
          rw [← h1, hva, Option.map_some, Option.map_some, hvy', hvm']
          exact run_slice3 he hn' (by simpa using hlo) (by have := hb.2; omega) hcap
      · exact hm.elim
    | none =>
      replace h := h.2
      simp only [Option.map_none, cutM] at h
      split at h
      · rename_i s hs
        obtain ⟨l, hh, hl, hh', ht, h0, h1, h2, hk⟩ := h
        have hx := hρ x
        rw [hs] at hx
        generalize ρ x = vx at *
        cases hx
        obtain ⟨ln, rfl⟩ := Int.eq_ofNat_of_zero_le h0
        obtain ⟨hn, rfl⟩ := Int.eq_ofNat_of_zero_le (Int.le_trans h0 h1)
        have hb := run_sliceBounds (P := P) (w := w) (len := s.size) (cap := s.size) (l := ln) (h := hn) (lo := lo.map ρ) (hi := hi.map ρ) (by simpa using bnd_op hρ hl) ((bnd_op hρ hh').imp (fun q => ⟨q.1, by have := q.2; omega⟩) _root_.id) (by omega) (by omega) false
        refine Lsem.value (v := .string (s.extract ln hn)) ?_ (.same hk hS (by simpa using Rel.str _))
        simp [Instr.sliceAt, Instr.slice, run_underlying (isStrT_spec ht), hb]
      · rename_i u hu
        obtain ⟨e, n, he, hn, d, l, hh, hd, hl, hh', hw⟩ := h
        obtain ⟨r, hr, hk⟩ := sliceW_spec hw
        obtain ⟨v, h1, h2⟩ := sound_slice (P := P) (lo := lo.map ρ) (hi := hi.map ρ) hS (hρ x) he hn (bnd_op hρ hl) ((bnd_op hρ hh').imp (fun q => ⟨q.1, by rw [hd, q.2]⟩) _root_.id) hr hk
        exact Lsem.value h1 h2
  case fieldAddr s x f =>
    obtain ⟨n, hn, r, hr, hk⟩ := h
    obtain ⟨v, h1, h2⟩ := sound_fieldAddr (P := P) hS (hρ x) hn hr hk
    exact Lsem.value h1 h2
  case field s x f =>
    obtain ⟨t, off, hf, us, hus, hl⟩ := h
    obtain ⟨r, hr, hk⟩ := ldW_spec hl
    unfold fldTy at hf
    split at hf
    · rename_i fs hfs
      simp only [Option.map_eq_some_iff, Prod.mk.injEq] at hf
      obtain ⟨fl, hfl, rfl, rfl⟩ := hf
      have hx := hρ x
      rw [hus] at hx
      generalize ρ x = vx at *
      cases hx with
      | agg h1 hcs =>
        rename_i cs
        obtain ⟨v, hv, hrel⟩ := run_part (P := P) (w := w) h1 hcs hr
        refine Lsem.value ?_ (.same hk hS hrel)
        simp only [Instr.field, Sem.run_bind, run_underlying hfs, Result.andThen_ok, hfl, asAgg, Sem.run_pure, hv]
    · cases hf
  case indexAddr t x ix =>
    obtain ⟨kd, i, hi, hm⟩ := h
    have hvi := hρ ix
    rw [hi] at hvi
    generalize ρ ix = vi at *
    cases hvi
    split at hm
    · rename_i e he
      replace he := kT_sl he
      obtain ⟨n, hn, hw⟩ := hm
      obtain ⟨r, hr, hk⟩ := ixW_spec hw
      have het : elemT P t = some e := by simp [elemT, he]
      obtain ⟨v, h1, h2⟩ := sound_indexAddr (P := P) (kd := kd) hS (hρ x) het hn hr hk
      exact Lsem.value h1 h2
    · rename_i len e he
      replace he := kT_arr he
      obtain ⟨n, hn, h0, h1, r, hr, hk⟩ := hm
      have het : arrT P t = some (len, e) := by simp [arrT, he]
      obtain ⟨v, h1, h2⟩ := sound_indexAddrArr (P := P) (kd := kd) hS (hρ x) het hn h0 h1 hr hk
      exact Lsem.value h1 h2
    · exact hm.elim
  case index t x ix =>
    obtain ⟨kd, i, hi, h0, hm⟩ := h
    have hvi := hρ ix
    rw [hi] at hvi
    generalize ρ ix = vi at *
    cases hvi
    split at hm
    · rename_i hu
      replace hu := kT_str hu
      obtain ⟨s, hs, b, hb, hk⟩ := hm
      have hx := hρ x
      rw [hs] at hx
      generalize ρ x = vx at *
      cases hx
      refine Lsem.value (v := .int .u8 b.toNat) ?_ (.same hk hS (.int _ _))
      have hb' : s[i.toNat]? = some b := by
        obtain ⟨hlt, he⟩ := List.getElem?_eq_some_iff.1 hb
        have hlt' : i.toNat < s.size := by simpa using hlt
        rw [getElem?_pos s i.toNat hlt']
        rw [← he]
        rfl
      simp [Instr.index, asIntOf, run_underlying hu, h0, hb']
    · rename_i len e hu
      replace hu := kT_arr hu
      obtain ⟨h1, n, us, hn, hus, hl⟩ := hm
      obtain ⟨r, hr, hk⟩ := ldW_spec hl
      have hx := hρ x
      rw [hus] at hx
      generalize ρ x = vx at *
      cases hx with
      | agg h1' hcs =>
        rename_i cs
        obtain ⟨v, hv, hrel⟩ := run_part (P := P) (w := w) h1' hcs hr
        refine Lsem.value ?_ (.same hk hS hrel)
        simp [Instr.index, asIntOf, run_underlying hu, h0, h1, run_sizeT hn, hv]
    · exact hm.elim
  case extract x i =>
    obtain ⟨us, hus, r, hr, hk⟩ := h
    have hx := hρ x
    rw [hus] at hx
    generalize ρ x = vx at *
    cases hx with
    | tup hv =>
      rename_i cs
      obtain ⟨v, hv', hrel⟩ := hv.get hr
      refine Lsem.value (v := v) ?_ (.same hk hS hrel)
      have : cs[i]? = some v := by simpa using hv'
      simp [Instr.extract, this]
  case build t parts =>
    obtain ⟨n, b, zc, us, hle, hkn, hf, hk⟩ := h
    obtain ⟨z, hl, _, _, hz⟩ := layE_spec hle
    obtain ⟨v, h1, h2⟩ := sound_build (P := P) (parts := parts.toList.map fun p => (p.1, ρ p.2)) hS hl hz hkn (parts_fst _) (parts_snd hρ _) hf hk
    refine Lsem.value ?_ h2
    rw [← h1]
    congr 2
    apply Array.ext'
    simp
  case buildSlice t len parts =>
    obtain ⟨e, n, b, zc, es, he, hle, hcl, hf, hk⟩ := h
    obtain ⟨z, hl, hcl1, _, hz⟩ := layE_spec hle
    simp only [decide_eq_true_eq] at hcl
    obtain ⟨v, w', h1, h2⟩ := sound_buildSlice (P := P) (parts := parts.toList.map fun p => (p.1, ρ p.2)) hS he hl hcl1 hz hcl (parts_fst _) (parts_snd hρ _) hf hk
    refine Lsem.value ?_ h2
    rw [← h1]
    congr 2
    apply Array.ext'
    simp
  case call c =>
    obtain ⟨callee, args, argTypes⟩ := c
    cases callee with
    | value f =>
      simp only at h
      split at h
      · rename_i g first caps hf
        have hx := hρ f
        rw [hf] at hx
        simp only [resolve]
        generalize ρ f = vf at *
        cases hx with
        | func h1 h2 =>
          rename_i vfirst vcaps
          simp only [Deferred.ofValue, Sem.run_bind, Sem.run_pure, Result.andThen_ok, invoke]
          refine LCalls.sem hS ?_ h
          simp only [Array.toList_append, Array.toList_map]
          exact (h1.append (RelL.map_op hρ _)).append h2
      · exact h.elim
    | invoke recv name =>
      simp only at h
      split at h
      · rename_i t v hr
        obtain ⟨g, hg, hc⟩ := h
        have hx := hρ recv
        rw [hr] at hx
        simp only [resolve]
        generalize ρ recv = vr at *
        cases hx with
        | iface hv =>
          rename_i vv
          have hext : (#[Value.iface t vv] ++ args.map ρ).extract 1 (#[Value.iface t vv] ++ args.map ρ).size = args.map ρ := by
            apply Array.ext'
            simp [List.extract_eq_take_drop]
            rw [List.take_of_length_le (by simp)]
          have h0 : (#[Value.iface t vv] ++ args.map ρ)[0]? = some (.iface t vv) := by rw [Array.getElem?_append_left (by simp)]; rfl
          simp only [Sem.run_bind, Sem.run_pure, Result.andThen_ok, invoke, h0, hext, callMethod, run_program]
          rw [show P.types.size + Made.depth = (P.types.size + Made.depth - 1) + 1 by unfold Made.depth; omega, run_method hg]
          simp only [Result.andThen_ok]
          refine LCalls.sem hS ?_ hc
          simp only [Array.toList_append, Array.toList_map]
          exact .cons hv (RelL.map_op hρ _)
      · exact h.elim
    | builtin b =>
      have hat : argTypes = argTypes.toList.toArray := by simp
      have har : args = args.toList.toArray := by simp
      generalize argTypes.toList = ats at *
      generalize args.toList = as at *
      subst hat; subst har
      simp only at h
      split at h
      · rename_i sT tx d x
        obtain ⟨v, w', h1, h2⟩ := sound_append (P := P) (ty := type) hS (hρ d) (hρ x) h
        simp only [resolve, Sem.run_bind, Sem.run_pure, Result.andThen_ok, invoke, builtin]
        refine Lsem.value' ?_ h2
        simpa using h1
      · rename_i dT sT d x
        obtain ⟨id, off, len, hd, e, n, he, hn, es, hid, hle, fs, hfs, hfl, hk⟩ := h
        have hd' := hρ d
        rw [hd] at hd'
        obtain ⟨v, w', h1, h2⟩ := sound_copy (P := P) (sT := sT) (ty := type) hS hd' (hρ x) he hn hid hle hfs hfl hk
        simp only [resolve, Sem.run_bind, Sem.run_pure, Result.andThen_ok, invoke, builtin]
        refine Lsem.value' ?_ h2
        simpa using h1
      · rename_i t _ x _
        simp only [resolve, Sem.run_bind, Sem.run_pure, Result.andThen_ok, invoke, builtin]
        unfold lenW at h
        have hx := hρ x
        split at h
        · rename_i hu
          replace hu := kT_str hu
          obtain ⟨s, hs, hk⟩ := h
          rw [hs] at hx
          generalize hvx : ρ x = vx at *
          cases hx
          refine Lsem.value' (v := .int .i64 s.size) ?_ (.same hk hS (.int _ _))
          simp [Builtin.len_, hvx, run_underlying hu, goInt]
        · rename_i e hu
          replace hu := kT_sl hu
          obtain ⟨n, hn, hk⟩ := h
          have hsl : ∃ a l c, ρ x = .slice a l c ∧ (l : Int) = n := by
            generalize σ x = u at *
            generalize ρ x = vx at *
            cases hx <;> simp [lenS] at hn
            · subst hn; exact ⟨_, _, _, rfl, rfl⟩
            · subst hn; exact ⟨_, _, _, rfl, by omega⟩
            · subst hn; exact ⟨_, _, _, rfl, rfl⟩
            · subst hn; exact ⟨_, _, _, rfl, rfl⟩
          obtain ⟨a, l, c, hvx, hl⟩ := hsl
          refine Lsem.value' (v := .int .i64 n) ?_ (.same hk hS (.int _ _))
          simp [Builtin.len_, hvx, run_underlying hu, goInt, hl]
        · rename_i n e hu
          replace hu := kT_arr hu
          refine Lsem.value' (v := .int .i64 n) ?_ (.same h hS (.int _ _))
          simp [Builtin.len_, run_underlying hu, goInt]
        · exact h.elim
      · rename_i x y z
        obtain ⟨kd, a, kd', b, kd'', c, ha, hb, hc, hk⟩ := h
        have hx := hρ x
        have hy := hρ y
        have hz := hρ z
        rw [ha] at hx
        rw [hb] at hy
        rw [hc] at hz
        generalize hvx : ρ x = vx at *
        generalize hvy : ρ y = vy at *
        generalize hvz : ρ z = vz at *
        cases hx; cases hy; cases hz
        simp only [resolve, Sem.run_bind, Sem.run_pure, Result.andThen_ok, invoke, builtin]
        refine Lsem.value' (v := .int kd (if c < (if b < a then b else a) then c else (if b < a then b else a))) ?_ (.same hk hS (.int _ _))
        simp [hvx, hvy, hvz, Builtin.min_, Builtin.min2]
      · rename_i x y z
        obtain ⟨kd, a, kd', b, kd'', c, ha, hb, hc, hk⟩ := h
        have hx := hρ x
        have hy := hρ y
        have hz := hρ z
        rw [ha] at hx
        rw [hb] at hy
        rw [hc] at hz
        generalize hvx : ρ x = vx at *
        generalize hvy : ρ y = vy at *
        generalize hvz : ρ z = vz at *
        cases hx; cases hy; cases hz
        simp only [resolve, Sem.run_bind, Sem.run_pure, Result.andThen_ok, invoke, builtin]
        refine Lsem.value' (v := .int kd (if c > (if b > a then b else a) then c else (if b > a then b else a))) ?_ (.same hk hS (.int _ _))
        simp [hvx, hvy, hvz, Builtin.max_, Builtin.max2]
      · rename_i x y
        obtain ⟨kd, a, kd', b, ha, hb, hk⟩ := h
        have hx := hρ x
        have hy := hρ y
        rw [ha] at hx
        rw [hb] at hy
        generalize hvx : ρ x = vx at *
        generalize hvy : ρ y = vy at *
        cases hx; cases hy
        simp only [resolve, Sem.run_bind, Sem.run_pure, Result.andThen_ok, invoke, builtin]
        refine Lsem.value' (v := .int kd (if b < a then b else a)) ?_ (.same hk hS (.int _ _))
        simp [hvx, hvy, run_min_int2]
      · rename_i x y
        obtain ⟨kd, a, kd', b, ha, hb, hk⟩ := h
        have hx := hρ x
        have hy := hρ y
        rw [ha] at hx
        rw [hb] at hy
        generalize hvx : ρ x = vx at *
        generalize hvy : ρ y = vy at *
        cases hx; cases hy
        simp only [resolve, Sem.run_bind, Sem.run_pure, Result.andThen_ok, invoke, builtin]
        refine Lsem.value' (v := .int kd (if b > a then b else a)) ?_ (.same hk hS (.int _ _))
        simp [hvx, hvy, run_max_int2]
      · exact h.elim
  all_goals exact h.elim

end
end Go.Lift
end
section
set_option linter.all false
/-
  The lifted layer, part 9: regions, in the order of the text and in whatever order.
-/
namespace Go.Lift
open Go.RowKit

def Env.putO (env : Env) (d : Option Tmp) (u : LV) : Env :=
  match d with
  | some t => env.put t u
  | none => env

/-- what a guard sees: an operation that was passed over yields nothing. -/
def gv (ops : Array Oper) (env : Env) (j : Nat) (want : Bool) : Option Bool :=
  match (ops[j]?).bind (·.dst) with
  | some t => match env t with
    | some (.bool b) => some b
    | some (.tup []) => some (!want)
    | _ => none
  | none => none

/-- one operation, its guard first. -/
def stepW (P : Program) (ops : Array Oper) (o : Oper) (K : Env → LS → Prop) (env : Env) (S : LS) : Prop :=
  match o.guard with
  | none => lopW P o.op (evalL env) S fun u S' => K (env.putO o.dst u) S'
  | some (j, want) => ∃ b, gv ops env j want = some b ∧ (b = want → lopW P o.op (evalL env) S fun u S' => K (env.putO o.dst u) S') ∧ (b ≠ want → K (env.putO o.dst (.tup [])) S)

/-- the operations of a region, one behind the other. -/
def rwp (P : Program) (ops : Array Oper) (K : Env → LS → Prop) : List Oper → Env → LS → Prop
  | [], env, S => K env S
  | o :: rest, env, S => stepW P ops o (rwp P ops K rest) env S

/-- What is asked behind a piece of code. -/
def LQ (B : Nat) (w0 : World) (N : Nat) (K : Know) (φ : List Pl) (Q : Exit → Env → LS → Prop) : Exit → Act → World → Prop := fun e a' w' =>
  ∃ env' S' K' φ', Q e env' S' ∧ K.le K' ∧ φ <+: φ' ∧ SimS B w0 K' φ' S' w' ∧ SimE N K' φ' env' a'

/-- CODE, said of lifted values. -/
def Lwp (P : Program) (N : Nat) (c : Code) (Q : Exit → Env → LS → Prop) (env : Env) (S : LS) : Prop :=
  ∀ (B : Nat) (w0 : World) (K : Know) (φ : List Pl) (a : Act) (w : World), SimS B w0 K φ S w → SimE N K φ env a → c.wp P (LQ B w0 N K φ Q) a w

def dstsOk (N : Nat) (ops : Array Oper) : Bool := ops.toList.all fun o => match o.dst with | some t => decide (t < N) | none => true

section
variable {P : Program} {B N : Nat} {w0 w : World} {K : Know} {φ : List Pl} {S : LS} {ops : Array Oper} {env : Env} {a : Act}

theorem SimE.putO (h : SimE N K φ env a) {o : Oper} (ho : (match o.dst with | some t => decide (t < N) | none => true) = true) {v : Value} {u : LV} (hr : Rel K φ v u) : SimE N K φ (env.putO o.dst u) (a.put o.dst v) := by
  cases hd : o.dst with
  | none => simpa [Env.putO, Act.put, hd] using h
  | some t => rw [hd] at ho; exact h.put (by simpa using ho) hr

theorem gv_spec (h : SimE N K φ env a) {j : Nat} {b want : Bool} (hg : gv ops env j want = some b) : (yielded ops a.tmps j == some want) = (b == want) := by
  unfold gv at hg
  unfold yielded
  split at hg
  · rename_i t ht
    split at hg
    · rename_i b' he
      cases hg
      obtain ⟨hlt, hr⟩ := h.rel t _ he
      have hlt' : t < a.tmps.size := by rw [h.size]; exact hlt
      rw [ht]
      simp only [Option.bind_some]
      rw [Array.getElem?_eq_getElem hlt']
      simp [hlt'] at hr
      generalize a.tmps[t] = v at hr
      cases hr
      rfl
    · rename_i he
      cases hg
      obtain ⟨hlt, hr⟩ := h.rel t _ he
      have hlt' : t < a.tmps.size := by rw [h.size]; exact hlt
      rw [ht]
      simp only [Option.bind_some]
      rw [Array.getElem?_eq_getElem hlt']
      simp [hlt'] at hr
      generalize a.tmps[t] = v at hr
      cases hr
      simp
    · cases hg
  · cases hg

theorem LQ.mono {Q : Exit → Env → LS → Prop} {K' : Know} {φ' : List Pl} (hK : K.le K') (hφ : φ <+: φ') {e : Exit} {a : Act} {w : World} (h : LQ B w0 N K' φ' Q e a w) : LQ B w0 N K φ Q e a w := by
  obtain ⟨env', S', K2, φ2, h1, h2, h3, h4, h5⟩ := h
  exact ⟨env', S', K2, φ2, h1, Know.le_trans hK h2, hφ.trans h3, h4, h5⟩

theorem wp_of_Lsem {o : Oper} {G : Value → World → Prop} {next : Act → World → Prop} {Q : Exit → Act → World → Prop} (h : Lsem P ((execOp a.eval o).run P w) G) (hn : ∀ v w', G v w' → next (a.put o.dst v) w') : o.wp P a w next Q := by
  unfold Oper.wp
  generalize (execOp a.eval o).run P w = r at *
  cases r with
  | halt x w' => exact h.elim
  | ok n w' =>
    cases n <;> simp only [Lsem] at h <;> simp only [Oper.upon]
    case value v => exact hn _ _ h
    case skip => exact hn _ _ h
    case enter f args =>
      refine h.mono fun e w'' ⟨v, he, hg⟩ => ?_
      subst he
      exact hn _ _ hg

/-- one operation of a region. -/
theorem step_sound {o : Oper} {KL : Env → LS → Prop} {next : Act → World → Prop} {Q : Exit → Act → World → Prop} (ho : (match o.dst with | some t => decide (t < N) | none => true) = true) (hS : SimS B w0 K φ S w) (hE : SimE N K φ env a)
    (h : stepW P ops o KL env S) (hn : ∀ env' S' K' φ' a' w', KL env' S' → K.le K' → φ <+: φ' → SimS B w0 K' φ' S' w' → SimE N K' φ' env' a' → next a' w') :
    if Region.wanted o (yielded ops a.tmps) then o.wp P a w next Q else next (a.put o.dst undef) w := by
  have run : ∀ {k : LV → LS → Prop}, lopW P o.op (evalL env) S k → (∀ u S', k u S' → KL (env.putO o.dst u) S') → o.wp P a w next Q := by
    intro k hk hkl
    refine wp_of_Lsem (sound_op hS hE.eval (fun _ => rfl) hk) fun v w' ⟨u, S', K', φ', h1, h2, h3, h4, h5⟩ => ?_
    exact hn _ _ _ _ _ _ (hkl _ _ h1) h2 h3 h4 ((hE.mono h2 h3).putO ho h5)
  unfold stepW at h
  split at h
  · rename_i hg
    rw [if_pos (by simp [Region.wanted, hg])]
    exact run h fun _ _ hh => hh
  · rename_i j want hg
    obtain ⟨b, hb, h1, h2⟩ := h
    have hy := gv_spec (ops := ops) (want := want) hE hb
    by_cases hbw : b = want
    · rw [if_pos (by simp only [Region.wanted, hg, hy, hbw, beq_self_eq_true])]
      exact run (h1 hbw) fun _ _ hh => hh
    · rw [if_neg (by simp only [Region.wanted, hg, hy]; simpa using hbw)]
      exact hn _ _ _ _ _ _ (h2 hbw) (Know.le_refl K) (List.prefix_refl _) hS (hE.putO ho (.tup .nil))

theorem rwp_sound {Q : Exit → Env → LS → Prop} : ∀ {l : List Oper} {env : Env} {S : LS} {K : Know} {φ : List Pl} {a : Act} {w : World}, (∀ o ∈ l, (match o.dst with | some t => decide (t < N) | none => true) = true) → SimS B w0 K φ S w → SimE N K φ env a →
    rwp P ops (fun env S => Q .normal env S) l env S → wpList P ops (LQ B w0 N K φ Q) l a w
  | [], env, S, K, φ, a, w, _, hS, hE, h => ⟨env, S, K, φ, h, Know.le_refl K, List.prefix_refl _, hS, hE⟩
  | o :: l, env, S, K, φ, a, w, hd, hS, hE, h => by
    have := step_sound (next := wpList P ops (LQ B w0 N K φ Q) l) (Q := LQ B w0 N K φ Q) (hd o (by simp)) hS hE h (fun env' S' K' φ' a' w' h1 h2 h3 h4 h5 => by
      have := rwp_sound (Q := Q) (fun o ho => hd o (by simp [ho])) h4 h5 h1
      have mono : ∀ (l : List Oper) (a : Act) (w : World), wpList P ops (LQ B w0 N K' φ' Q) l a w → wpList P ops (LQ B w0 N K φ Q) l a w := by
        intro l
        induction l with
        | nil => intro a w hh; exact hh.mono h2 h3
        | cons o l ih =>
          intro a w hh
          unfold wpList at hh ⊢
          split
          · rename_i hw
            simp only [hw, if_true] at hh
            rcases hh with hh | ⟨hh, hl⟩
            · left
              unfold Oper.wp at *
              generalize (execOp a.eval o).run P w = r at *
              cases r with
              | ok n w' =>
                cases n <;> simp only [Oper.upon] at hh ⊢ <;>
                  first
                    | exact ih _ _ hh
                    | exact Calls.mono hh (fun e w'' he => by
                        cases e with
                        | returned v => exact ih _ _ he
                        | panicked c => exact he.mono h2 h3
                        | outgrown => obtain ⟨a0, w0', hq⟩ := he; exact ⟨a0, w0', hq.mono h2 h3⟩)
                    | exact Rows.mono hh (fun _ _ he => ih _ _ he)
              | halt x w' => cases x <;> simp only [Oper.upon] at hh ⊢ <;> first | exact hh.mono h2 h3 | exact hh
            · right
              obtain ⟨a0, w0', hq⟩ := hl
              exact ⟨hh, a0, w0', hq.mono h2 h3⟩
          · rename_i hw
            simp only [hw] at hh
            exact ih _ _ hh
      exact mono l a' w' this)
    unfold wpList
    split
    · rename_i hw
      simp only [hw, if_true] at this
      exact .inl this
    · rename_i hw
      simp only [hw] at this
      exact this

/-- A REGION in the order of the text. -/
theorem Lwp_region {id : Nat} {ops : Array Oper} {Q : Exit → Env → LS → Prop} {env : Env} {S : LS} (hd : dstsOk N ops = true) (h : rwp P ops (fun env S => Q .normal env S) ops.toList env S) : Lwp P N (.region id ops false) Q env S :=
  fun _ _ _ _ _ _ hS hE => wp_region_list (rwp_sound (fun o ho => by simp only [dstsOk, List.all_eq_true] at hd; exact hd o ho) hS hE h)

end
end Go.Lift
end
section
set_option linter.all false
/-
  The lifted layer, part 10: a region whose order is drawn: one walk, what floats first, serves every order.
-/
namespace Go.Lift
open Go.RowKit

theorem lopW_congr {P : Program} {op : Op} {ρ ρ' : Operand → LV} {S : LS} {k : LV → LS → Prop} (h : ∀ x ∈ op.operands, ρ x = ρ' x) (hl : lopW P op ρ S k) : lopW P op ρ' S k := by
  have parts : ∀ ps : List (Nat × Operand), (∀ x ∈ ps.map (·.2), ρ x = ρ' x) → (ps.map fun p => (p.1, ρ p.2)) = (ps.map fun p => (p.1, ρ' p.2)) := fun ps hp =>
    List.map_congr_left fun p hm => by rw [hp p.2 (List.mem_map.2 ⟨p, hm, rfl⟩)]
  cases op <;> simp only [Op.operands] at h <;> simp only [lopW] at hl ⊢
  case build t ps => rw [← parts ps.toList fun x hx => h x (by simpa using hx)]; exact hl
  case buildSlice t n ps => rw [← parts ps.toList fun x hx => h x (by simpa using hx)]; exact hl
  case makeFunc fn first caps =>
    rw [← List.map_congr_left (f := ρ) (l := first.toList) (fun x hx => h x (by simp at hx ⊢; exact .inl hx)), ← List.map_congr_left (f := ρ) (l := caps.toList) (fun x hx => h x (by simp at hx ⊢; exact .inr hx))]
    exact hl
  case call c =>
    have hargs : ∀ x ∈ c.args.toList, ρ x = ρ' x := fun x hx => h x (by simp [Call.operands] at hx ⊢; exact .inr hx)
    have hmap : c.args.toList.map ρ = c.args.toList.map ρ' := List.map_congr_left hargs
    cases hc : c.callee with
    | value f =>
      have hf : ρ f = ρ' f := h f (by simp [Call.operands, hc])
      simp only [hc] at hl ⊢
      rw [← hf, ← hmap]; exact hl
    | invoke r m =>
      have hr : ρ r = ρ' r := h r (by simp [Call.operands, hc])
      simp only [hc] at hl ⊢
      rw [← hr, ← hmap]; exact hl
    | builtin b =>
      simp only [hc] at hl ⊢
      generalize c.args.toList = as at *
      split at hl <;> simp_all
  case slice t x lo hi mx =>
    have e1 : lo.map ρ = lo.map ρ' := by cases lo with
      | none => rfl
      | some y => simp [h y (by simp)]
    have e2 : hi.map ρ = hi.map ρ' := by cases hi with
      | none => rfl
      | some y => simp [h y (by simp)]
    have e3 : mx.map ρ = mx.map ρ' := by cases mx with
      | none => rfl
      | some y => simp [h y (by simp)]
    rw [← e1, ← e2, ← e3, ← h x (by simp)]; exact hl
  all_goals first | exact hl | (simp_all; done)

/-- what gives the same whatever the store is. -/
def pureOp : Op → Bool
  | .move _ | .assign _ | .pick .. | .nilCheck _ | .binOp .. | .unOp .. | .makeInterface .. | .makeFunc .. | .fieldAddr .. | .field .. | .index .. | .extract .. | .build .. | .buildSlice .. => true
  | .call { callee := .builtin .len, .. } | .call { callee := .builtin .min, .. } | .call { callee := .builtin .max, .. } => true
  | _ => false

theorem intOpW_float {op : BinOp} {k : IntKind} {a b : Int} {K : LV → Prop} (h : intOpW op k a b K) : ∃ u, K u ∧ ∀ K' : LV → Prop, K' u → intOpW op k a b K' := by
  cases op <;> simp only [intOpW] at h ⊢
  all_goals first
    | exact h.elim
    | exact ⟨_, h, fun _ hh => hh⟩
    | exact ⟨_, h.2, fun _ hh => ⟨h.1, hh⟩⟩

theorem lbinW_float {P : Program} {op : BinOp} {t : TypeId} {a b : LV} {K : LV → Prop} (h : lbinW P op t a b K) : ∃ u, K u ∧ ∀ K' : LV → Prop, K' u → lbinW P op t a b K' := by
  cases a <;> cases b <;> simp only [lbinW] at h ⊢
  case int.int k a k' b =>
    cases op
    case shl => exact ⟨_, h.2, fun _ hh => ⟨h.1, hh⟩⟩
    case shr => exact ⟨_, h.2, fun _ hh => ⟨h.1, hh⟩⟩
    all_goals
      obtain ⟨u, h1, h2⟩ := intOpW_float h.2
      exact ⟨u, h1, fun K' hh => ⟨h.1, h2 K' hh⟩⟩
  all_goals first
    | exact h.elim
    | (cases op <;> simp only at h ⊢ <;> first | exact h.elim | exact ⟨_, h, fun _ hh => hh⟩ | exact ⟨_, h.2, fun _ hh => ⟨h.1, hh⟩⟩)

theorem lunW_float {op : UnOp} {a : LV} {K : LV → Prop} (h : lunW op a K) : ∃ u, K u ∧ ∀ K' : LV → Prop, K' u → lunW op a K' := by
  cases a <;> simp only [lunW] at h ⊢
  all_goals (cases op <;> simp only at h ⊢ <;> first | exact h.elim | exact ⟨_, h, fun _ hh => hh⟩)

theorem ldW_float {P : Program} {t : TypeId} {cells : List LV} {off : Nat} {K : LV → Prop} (h : ldW P t cells off K) : ∃ u, K u ∧ ∀ K' : LV → Prop, K' u → ldW P t cells off K' := by
  unfold ldW at h ⊢
  split at h
  · obtain ⟨n, h1, h2, h3⟩ := h
    exact ⟨_, h3, fun K' hh => ⟨n, h1, h2, hh⟩⟩
  · obtain ⟨r, h1, h2⟩ := h
    exact ⟨_, h2, fun K' hh => ⟨r, h1, hh⟩⟩
  · exact h.elim

theorem lenW_float {P : Program} {t : TypeId} {u : LV} {K : LV → Prop} (h : lenW P t u K) : ∃ u', K u' ∧ ∀ K' : LV → Prop, K' u' → lenW P t u K' := by
  unfold lenW at h ⊢
  split at h
  · obtain ⟨s, h1, h2⟩ := h; exact ⟨_, h2, fun _ hh => ⟨s, h1, hh⟩⟩
  · obtain ⟨s, h1, h2⟩ := h; exact ⟨_, h2, fun _ hh => ⟨s, h1, hh⟩⟩
  · exact ⟨_, h, fun _ hh => hh⟩
  · exact h.elim

theorem lopW_float {P : Program} {op : Op} {ρ : Operand → LV} {S : LS} {k : LV → LS → Prop} (hp : pureOp op = true) (h : lopW P op ρ S k) :
    ∃ u, k u S ∧ ∀ (S' : LS) (k' : LV → LS → Prop), k' u S' → lopW P op ρ S' k' := by
  cases op <;> simp only [pureOp, Bool.false_eq_true] at hp <;> simp only [lopW] at h ⊢
  case move x => exact ⟨_, h, fun _ _ hh => hh⟩
  case assign x => exact ⟨_, h, fun _ _ hh => hh⟩
  case pick c a b => obtain ⟨t, h1, h2⟩ := h; exact ⟨_, h2, fun _ _ hh => ⟨t, h1, hh⟩⟩
  case nilCheck x =>
    split at h
    · exact ⟨_, h, fun _ _ hh => hh⟩
    · exact ⟨_, h, fun _ _ hh => hh⟩
    · exact ⟨_, h, fun _ _ hh => hh⟩
    · exact ⟨_, h, fun _ _ hh => hh⟩
    · exact ⟨_, h.2, fun _ _ hh => ⟨h.1, hh⟩⟩
    · exact h.elim
  case binOp op t x y yt =>
    cases hn : nilK y with
    | true => simp only [hn, cond_true] at h ⊢; exact ⟨_, h.2, fun _ _ hh => ⟨h.1, hh⟩⟩
    | false => simp only [hn, cond_false] at h ⊢; obtain ⟨u, h1, h2⟩ := lbinW_float h; exact ⟨u, h1, fun S' k' hh => h2 (fun r => k' r S') hh⟩
  case unOp op t x => obtain ⟨u, h1, h2⟩ := lunW_float h; exact ⟨u, h1, fun S' k' hh => h2 (fun r => k' r S') hh⟩
  case makeInterface t x => exact ⟨_, h.2, fun _ _ hh => ⟨h.1, hh⟩⟩
  case makeFunc fn a b => exact ⟨_, h, fun _ _ hh => hh⟩
  case fieldAddr s x f => obtain ⟨n, h1, r, h2, h3⟩ := h; exact ⟨r, h3, fun _ _ hh => ⟨n, h1, r, h2, hh⟩⟩
  case field s x f =>
    obtain ⟨t, off, h1, us, h2, h3⟩ := h
    obtain ⟨u, h4, h5⟩ := ldW_float h3
    exact ⟨u, h4, fun S' k' hh => ⟨t, off, h1, us, h2, h5 (fun r => k' r S') hh⟩⟩
  case index t x ix =>
    obtain ⟨kd, i, h1, h2, h3⟩ := h
    split at h3
    · obtain ⟨s, h4, b, h5, h6⟩ := h3
      exact ⟨_, h6, fun _ _ hh => ⟨kd, i, h1, h2, s, h4, b, h5, hh⟩⟩
    · obtain ⟨h4, n, us, h5, h6, h7⟩ := h3
      obtain ⟨u, h8, h9⟩ := ldW_float h7
      exact ⟨u, h8, fun S' k' hh => ⟨kd, i, h1, h2, h4, n, us, h5, h6, h9 (fun r => k' r S') hh⟩⟩
    · exact h3.elim
  case extract x i => obtain ⟨us, h1, r, h2, h3⟩ := h; exact ⟨r, h3, fun _ _ hh => ⟨us, h1, r, h2, hh⟩⟩
  case build t ps => obtain ⟨n, b, zc, us, h1, h2, h3, h4⟩ := h; exact ⟨_, h4, fun _ _ hh => ⟨n, b, zc, us, h1, h2, h3, hh⟩⟩
  case buildSlice t l ps => obtain ⟨e, n, b, zc, es, h1, h2, h3, h4, h5⟩ := h; exact ⟨_, h5, fun _ _ hh => ⟨e, n, b, zc, es, h1, h2, h3, h4, hh⟩⟩
  case call c =>
    obtain ⟨callee, args, argTypes⟩ := c
    cases callee with
    | value f => simp at hp
    | invoke r m => simp at hp
    | builtin b =>
      cases b <;> simp only [Bool.false_eq_true] at hp <;> simp only at h ⊢
      case len =>
        generalize argTypes.toList = ats at *
        generalize args.toList = as at *
        cases ats with
        | nil => exact h.elim
        | cons t ats =>
          cases as with
          | nil => exact h.elim
          | cons x as => obtain ⟨u, h1, h2⟩ := lenW_float h; exact ⟨u, h1, fun S' k' hh => h2 (fun r => k' r S') hh⟩
      all_goals
        generalize args.toList = as at *
        cases as with
        | nil => exact h.elim
        | cons x as =>
          cases as with
          | nil => exact h.elim
          | cons y as =>
            cases as with
            | nil => obtain ⟨kd, a, kd', b, h1, h2, h3⟩ := h; exact ⟨_, h3, fun _ _ hh => ⟨kd, a, kd', b, h1, h2, hh⟩⟩
            | cons z as =>
              cases as with
              | nil => obtain ⟨kd, a, kd', b, kd'', c, h1, h2, h0, h3⟩ := h; exact ⟨_, h3, fun _ _ hh => ⟨kd, a, kd', b, kd'', c, h1, h2, h0, hh⟩⟩
              | cons _ _ => exact h.elim

/-! ### Whatever order -/
section
variable {P : Program} {B N : Nat} {w0 w : World} {K : Know} {φ : List Pl} {S : LS} {ops : Array Oper} {env : Env} {a : Act}

def stepAt (P : Program) (ops : Array Oper) (i : Nat) (K : Env → LS → Prop) (env : Env) (S : LS) : Prop :=
  match ops[i]? with
  | some o => stepW P ops o K env S
  | none => K env S

def LAny (P : Program) (ops : Array Oper) (C : LS → Prop) (ex : Option Nat) (K : Env → LS → Prop) : Nat → Array Bool → Env → LS → Prop
  | 0, listed, env, S => Region.ready .any ops listed = [] ∧ K env S
  | fuel + 1, listed, env, S => (Region.ready .any ops listed = [] → K env S) ∧
    ∀ i ∈ Region.ready .any ops listed, stepAt P ops i (fun env' S' => (ex = some i ∨ C S') ∧ LAny P ops C ex K fuel (listed.setIfInBounds i true) env' S') env S

theorem intOpW_mono {op : BinOp} {k : IntKind} {a b : Int} {K K' : LV → Prop} (hk : ∀ u, K u → K' u) (h : intOpW op k a b K) : intOpW op k a b K' := by
  obtain ⟨u, h1, h2⟩ := intOpW_float h; exact h2 K' (hk _ h1)
theorem ldW_mono {t : TypeId} {cells : List LV} {off : Nat} {K K' : LV → Prop} (hk : ∀ u, K u → K' u) (h : ldW P t cells off K) : ldW P t cells off K' := by
  obtain ⟨u, h1, h2⟩ := ldW_float h; exact h2 K' (hk _ h1)
theorem ixW_mono {n : Nat} {u : LV} {i : Int} {K K' : LV → Prop} (hk : ∀ u, K u → K' u) (h : ixW S n u i K) : ixW S n u i K' := by
  cases u <;> simp only [ixW] at h ⊢
  · obtain ⟨h0, c, h1, h2, h3⟩ := h; exact ⟨h0, c, h1, h2, hk _ h3⟩
  · obtain ⟨h0, h1, es, h2, c, h3, h4, h5⟩ := h; exact ⟨h0, h1, es, h2, c, h3, h4, hk _ h5⟩
theorem sliceW_mono {n : Nat} {u : LV} {l r : Int} {K K' : LV → Prop} (hk : ∀ u, K u → K' u) (h : sliceW S n u l r K) : sliceW S n u l r K' := by
  cases u <;> simp only [sliceW] at h ⊢
  · obtain ⟨h0, h1, h2, h3, h4⟩ := h; exact ⟨h0, h1, h2, h3, hk _ h4⟩
  · obtain ⟨h0, h1, h2, h3, h4⟩ := h; exact ⟨h0, h1, h2, h3, hk _ h4⟩
theorem lconvW_mono {s d : TypeId} {u : LV} {K K' : LV → Prop} (hk : ∀ u, K u → K' u) (h : lconvW P S s d u K) : lconvW P S s d u K' := by
  cases u <;> simp only [lconvW] at h ⊢
  case int => obtain ⟨k, h0, h1, h2⟩ := h; exact ⟨k, h0, h1, hk _ h2⟩
  case str => exact ⟨h.1, h.2.1, hk _ h.2.2⟩
  all_goals (obtain ⟨e, h0, h1, h2, xs, h3, h4⟩ := h; exact ⟨e, h0, h1, h2, xs, h3, hk _ h4⟩)
theorem appW1_mono {sT tx : TypeId} {d x : LV} {k k' : LV → LS → Prop} (hk : ∀ u S, k u S → k' u S) (h : appW1 P S sT tx d x k) : appW1 P S sT tx d x k' := by
  obtain ⟨e, n, b, zc, fs, h1, h2, h3, h4, h5, h6⟩ := h
  refine ⟨e, n, b, zc, fs, h1, h2, h3, h4, h5, ?_⟩
  cases d <;> try (exact h6)
  case sl full es => cases full <;> first | exact h6 | exact ⟨h6.1, h6.2.1, h6.2.2.1, hk _ _ h6.2.2.2⟩
  case ref id off len => obtain ⟨es, g1, g2, g3, g4⟩ := h6; exact ⟨es, g1, g2, g3, hk _ _ g4⟩

theorem appW_mono {sT tx : TypeId} {d x : LV} {k k' : LV → LS → Prop} (hk : ∀ u S, k u S → k' u S) (h : appW P S sT tx d x k) : appW P S sT tx d x k' :=
  h.imp (appW1_mono hk) fun ⟨e, n, b, zc, full, elems, h1, h2, h3, h4, h5, h6⟩ => ⟨e, n, b, zc, full, elems, h1, h2, h3, h4, h5, hk _ _ h6⟩

theorem lopW_mono {op : Op} {ρ : Operand → LV} {k k' : LV → LS → Prop} (hk : ∀ u S, k u S → k' u S) (h : lopW P op ρ S k) : lopW P op ρ S k' := by
  by_cases hp : pureOp op = true
  · obtain ⟨u, h1, h2⟩ := lopW_float hp h; exact h2 S k' (hk _ _ h1)
  · cases op <;> simp only [pureOp, not_true_eq_false] at hp <;> simp only [lopW] at h ⊢
    case alloc e => obtain ⟨n, b, zc, h1, h2⟩ := h; exact ⟨n, b, zc, h1, hk _ _ h2⟩
    case box e x => obtain ⟨us, h1, h2⟩ := h; exact ⟨us, h1, hk _ _ h2⟩
    case load t a => obtain ⟨c, off, h1, h2⟩ := h; exact ⟨c, off, h1, ldW_mono (fun u => hk u S) h2⟩
    case store t a x => obtain ⟨id, i, off, h1, n, es, h2, c, h3, us, h4, h5, h6, h7⟩ := h; exact ⟨id, i, off, h1, n, es, h2, c, h3, us, h4, h5, h6, hk _ _ h7⟩
    case convert s d x => exact lconvW_mono (fun u => hk u S) h
    case makeSlice t l c => obtain ⟨kl, l', kc, c', h1, h2, e, n, b, zc, h3, h4, h5, h6, h7, h8⟩ := h; exact ⟨kl, l', kc, c', h1, h2, e, n, b, zc, h3, h4, h5, h6, h7, hk _ _ h8⟩
    case slice t x lo hi mx =>
      refine ⟨h.1, ?_⟩
      replace h := h.2
      split at h
      · obtain ⟨l, r, h1, h2, h3, h4, h5, h6, h7⟩ := h; exact ⟨l, r, h1, h2, h3, h4, h5, h6, hk _ _ h7⟩
      · obtain ⟨e, n, h1, h2, d, l, r, h3, h4, h5, h6⟩ := h; exact ⟨e, n, h1, h2, d, l, r, h3, h4, h5, sliceW_mono (fun u => hk u S) h6⟩
    case indexAddr t x ix =>
      obtain ⟨kd, i, h1, h2⟩ := h
      refine ⟨kd, i, h1, ?_⟩
      split at h2
      · obtain ⟨n, h3, h4⟩ := h2; exact ⟨n, h3, ixW_mono (fun u => hk u S) h4⟩
      · obtain ⟨n, h3, h4, h5, r, h6, h7⟩ := h2; exact ⟨n, h3, h4, h5, r, h6, hk _ _ h7⟩
      · exact h2.elim
    case call c =>
      obtain ⟨callee, args, argTypes⟩ := c
      cases callee with
      | value f =>
        simp only at h ⊢
        split at h
        · exact LCalls.mono h hk
        · exact h.elim
      | invoke r m =>
        simp only at h ⊢
        split at h
        · obtain ⟨g, h1, h2⟩ := h; exact ⟨g, h1, LCalls.mono h2 hk⟩
        · exact h.elim
      | builtin b =>
        simp only at h ⊢
        generalize argTypes.toList = ats at *
        generalize args.toList = as at *
        cases b <;> simp only [not_true_eq_false] at hp <;> try (exact h.elim)
        case append =>
          split at h <;> first | exact h.elim | skip
          all_goals first | (simp_all; done) | exact appW_mono hk h
        case copy =>
          split at h <;> first | exact h.elim | skip
          all_goals first | (simp_all; done) | (obtain ⟨id, off, len, h1, e, n, h2, h3, es, h4, h5, fs, h6, h7, h8⟩ := h; exact ⟨id, off, len, h1, e, n, h2, h3, es, h4, h5, fs, h6, h7, hk _ _ h8⟩)
    all_goals first | exact h.elim | exact absurd rfl hp

theorem stepW_mono {o : Oper} {K K' : Env → LS → Prop} (hk : ∀ env S, K env S → K' env S) (h : stepW P ops o K env S) : stepW P ops o K' env S := by
  unfold stepW at h ⊢
  split at h
  · exact lopW_mono (fun _ _ => hk _ _) h
  · obtain ⟨b, hb, h1, h2⟩ := h
    exact ⟨b, hb, fun e => lopW_mono (fun _ _ => hk _ _) (h1 e), fun e => hk _ _ (h2 e)⟩

theorem wpAny_LQ {Q : Exit → Env → LS → Prop} {K' : Know} {φ' : List Pl} (h2 : K.le K') (h3 : φ <+: φ') : ∀ (fuel : Nat) (listed : Array Bool) (a : Act) (w : World), wpAny P .any ops (LQ B w0 N K' φ' Q) fuel listed a w → wpAny P .any ops (LQ B w0 N K φ Q) fuel listed a w
  | 0, listed, a, w, h => ⟨h.1, h.2.mono h2 h3⟩
  | fuel + 1, listed, a, w, h => ⟨fun h0 => (h.1 h0).mono h2 h3, fun i hi => by
      have hh := h.2 i hi
      unfold wpOp at hh ⊢
      split
      · rename_i hn; simp only [hn] at hh; exact wpAny_LQ h2 h3 fuel _ _ _ hh
      · rename_i o ho
        simp only [ho] at hh
        split
        · rename_i hw
          simp only [hw, if_true] at hh
          rcases hh with hh | ⟨hh, a0, w0', hq⟩
          · left
            unfold Oper.wp at *
            generalize (execOp a.eval o).run P w = r at *
            cases r with
            | ok n w' =>
              cases n <;> simp only [Oper.upon] at hh ⊢ <;>
                first
                  | exact wpAny_LQ h2 h3 fuel _ _ _ hh
                  | exact Calls.mono hh (fun e w'' he => by
                      cases e with
                      | returned v => exact wpAny_LQ h2 h3 fuel _ _ _ he
                      | panicked c => exact he.mono h2 h3
                      | outgrown => obtain ⟨a0, w0', hq⟩ := he; exact ⟨a0, w0', hq.mono h2 h3⟩)
                  | exact Rows.mono hh (fun _ _ he => wpAny_LQ h2 h3 fuel _ _ _ he)
            | halt x w' => cases x <;> simp only [Oper.upon] at hh ⊢ <;> first | exact hh.mono h2 h3 | exact hh
          · right; exact ⟨hh, a0, w0', hq.mono h2 h3⟩
        · rename_i hw
          simp only [hw] at hh
          exact wpAny_LQ h2 h3 fuel _ _ _ hh⟩

theorem LAny_sound {C : LS → Prop} {ex : Option Nat} {Q : Exit → Env → LS → Prop} (hd : dstsOk N ops = true) : ∀ (fuel : Nat) (listed : Array Bool) (env : Env) (S : LS) (K : Know) (φ : List Pl) (a : Act) (w : World), SimS B w0 K φ S w → SimE N K φ env a →
    LAny P ops C ex (fun env S => Q .normal env S) fuel listed env S → wpAny P .any ops (LQ B w0 N K φ Q) fuel listed a w
  | 0, listed, env, S, K, φ, a, w, hS, hE, h => ⟨h.1, env, S, K, φ, h.2, Know.le_refl K, List.prefix_refl _, hS, hE⟩
  | fuel + 1, listed, env, S, K, φ, a, w, hS, hE, h => by
    refine ⟨fun h0 => ⟨env, S, K, φ, h.1 h0, Know.le_refl K, List.prefix_refl _, hS, hE⟩, fun i hi => ?_⟩
    have hh := h.2 i hi
    unfold stepAt at hh
    unfold wpOp
    split
    · rename_i hn
      simp only [hn] at hh
      exact LAny_sound hd fuel _ env S K φ a w hS hE hh.2
    · rename_i o ho
      simp only [ho] at hh
      have hdo : (match o.dst with | some t => decide (t < N) | none => true) = true := by
        simp only [dstsOk, List.all_eq_true] at hd
        exact hd o (by simpa using Array.mem_of_getElem? ho)
      have := step_sound (next := wpAny P .any ops (LQ B w0 N K φ Q) fuel (listed.setIfInBounds i true)) (Q := LQ B w0 N K φ Q) hdo hS hE hh (fun env' S' K' φ' a' w' h1 h2 h3 h4 h5 =>
        wpAny_LQ h2 h3 fuel _ a' w' (LAny_sound hd fuel _ env' S' K' φ' a' w' h4 h5 h1.2))
      split
      · rename_i hw; simp only [hw, if_true] at this; exact .inl this
      · rename_i hw; simp only [hw] at this; exact this

/-! ### What floats may be taken first -/
/-- in every store of the class the operation gives 'u' and leaves the store. -/
def YL (P : Program) (ops : Array Oper) (C : LS → Prop) (o : Oper) (u : LV) (env : Env) : Prop :=
  ∀ (S : LS) (K : Env → LS → Prop), C S → K (env.putO o.dst u) S → stepW P ops o K env S

theorem evalL_putO {o : Oper} {d : Option Tmp} {u : LV} (h : ∀ t, d = some t → t ∉ o.looksAt ops) : ∀ x ∈ o.op.operands, evalL (env.putO d u) x = evalL env x := by
  intro x hx
  cases d with
  | none => rfl
  | some t =>
    cases x with
    | tmp t' =>
      have hne : t' ≠ t := fun e => h t rfl (by
        subst e
        exact List.mem_append_left _ (List.mem_filterMap.2 ⟨.tmp t', by simpa using hx, rfl⟩))
      simp [evalL, Env.putO, Env.put, hne]
    | const v => rfl
    | global g => rfl
    | func f => rfl

theorem gv_putO {o : Oper} {d : Option Tmp} {u : LV} {j : Nat} {want : Bool} (hg : o.guard = some (j, want)) (h : ∀ t, d = some t → t ∉ o.looksAt ops) : gv ops (env.putO d u) j want = gv ops env j want := by
  cases d with
  | none => rfl
  | some t =>
    unfold gv
    cases ht : (ops[j]?).bind (·.dst) with
    | none => rfl
    | some t' =>
      have hne : t' ≠ t := fun e => h t rfl (by subst e; simp [Oper.looksAt, hg, ht])
      simp [Env.putO, Env.put, hne]

theorem putO_comm {d e : Option Tmp} (u v : LV) (h : ∀ t, d = some t → e ≠ some t) : (env.putO d u).putO e v = (env.putO e v).putO d u := by
  cases d with
  | none => rfl
  | some t =>
    cases e with
    | none => rfl
    | some t' =>
      have hne : t ≠ t' := fun he => h t rfl (by rw [he])
      funext x
      simp only [Env.putO, Env.put]
      by_cases h1 : x = t
      · subst h1; simp [hne]
      · simp [h1]

theorem stepW_congr {o : Oper} {d : Option Tmp} {u : LV} {K : Env → LS → Prop} (hl : ∀ t, d = some t → t ∉ o.looksAt ops) (hd : ∀ t, d = some t → o.dst ≠ some t) (h : stepW P ops o K (env.putO d u) S) :
    stepW P ops o (fun env' S' => K (env'.putO d u) S') env S := by
  unfold stepW at h ⊢
  cases hg : o.guard with
  | none =>
    simp only [hg] at h ⊢
    refine lopW_mono (fun u' S' hh => ?_) (lopW_congr (evalL_putO hl) h)
    rw [← putO_comm u u' hd]; exact hh
  | some gw =>
    obtain ⟨j, want⟩ := gw
    simp only [hg] at h ⊢
    obtain ⟨b, hb, h1, h2⟩ := h
    refine ⟨b, by rw [← gv_putO hg hl]; exact hb, fun e => ?_, fun e => ?_⟩
    · refine lopW_mono (fun u' S' hh => ?_) (lopW_congr (evalL_putO hl) (h1 e))
      rw [← putO_comm u u' hd]; exact hh
    · have := h2 e
      rw [putO_comm u (.tup []) hd] at this; exact this

theorem YL.put {C : LS → Prop} {o : Oper} {u v : LV} {d : Option Tmp} (h : YL P ops C o u env) (hl : ∀ t, d = some t → t ∉ o.looksAt ops) (hd : ∀ t, o.dst = some t → d ≠ some t) : YL P ops C o u (env.putO d v) := by
  intro S K hC hK
  have h1 := h S (fun env' S' => K (env'.putO d v) S') hC (by rw [putO_comm u v hd]; exact hK)
  unfold stepW at h1 ⊢
  cases hg : o.guard with
  | none =>
    simp only [hg] at h1 ⊢
    refine lopW_congr (fun x hx => (evalL_putO hl x hx).symm) (lopW_mono (fun u' S' hh => ?_) h1)
    rw [putO_comm v u' (fun t ht e => hd t e ht)]; exact hh
  | some gw =>
    obtain ⟨j, want⟩ := gw
    simp only [hg] at h1 ⊢
    obtain ⟨b, hb, g1, g2⟩ := h1
    refine ⟨b, by rw [gv_putO hg hl]; exact hb, fun e => ?_, fun e => ?_⟩
    · refine lopW_congr (fun x hx => (evalL_putO hl x hx).symm) (lopW_mono (fun u' S' hh => ?_) (g1 e))
      rw [putO_comm v u' (fun t ht e => hd t e ht)]; exact hh
    · rw [putO_comm v (.tup []) (fun t ht e => hd t e ht)]; exact g2 e

/-- what is listed is listed behind all that it waits for. -/
def Closed (ops : Array Oper) (listed : Array Bool) : Prop := ∀ k ok, ops[k]? = some ok → listed.getD k false = true → ∀ e ∈ ok.after, Region.binds .any e = true → listed.getD e.on false = true

theorem Closed.set {listed : Array Bool} {i : Nat} (h : Closed ops listed) (hi : i ∈ Region.ready .any ops listed) : Closed ops (listed.setIfInBounds i true) := by
  intro k ok hk hl e he hb
  by_cases e' : k = i
  · subst e'
    obtain ⟨_, o, ho, hall⟩ := mem_ready.1 hi
    rw [hk] at ho; cases ho
    exact getD_set_true (hall e he hb)
  · rw [getD_set_ne false (Ne.symm e')] at hl
    exact getD_set_true (h k ok hk hl e he hb)

/-- where 'j' may be taken, 'i' is listed. -/
def Fol (ops : Array Oper) (j i : Nat) : Prop := ∀ (listed : Array Bool) (oj : Oper), Closed ops listed → ops[j]? = some oj → (∀ e ∈ oj.after, Region.binds .any e = true → listed.getD e.on false = true) → listed.getD i false = true

theorem LAny_first {C : LS → Prop} {ex : Option Nat} {K : Env → LS → Prop} {i : Nat} {oi : Oper} {u : LV} (hi : ops[i]? = some oi) (hex : ∀ j, ex = some j → j ≠ i → Fol ops j i) :
    ∀ (fuel : Nat) (listed : Array Bool) (env : Env) (S : LS),
      (∀ j oj, ops[j]? = some oj → j ≠ i → listed.getD j true = false → (∀ e ∈ oj.after, Region.binds .any e = true → e.on ≠ i) → oi.apart ops oj = true) →
      Closed ops listed → i ∈ Region.ready .any ops listed → YL P ops C oi u env → C S →
      LAny P ops C ex K fuel (listed.setIfInBounds i true) (env.putO oi.dst u) S → LAny P ops C ex K (fuel + 1) listed env S := by
  intro fuel
  induction fuel with
  | zero =>
    intro listed env S _ hcl hr hy hC H
    refine ⟨fun h => (by rw [h] at hr; cases hr), fun j hj => ?_⟩
    by_cases hji : j = i
    · subst hji
      unfold stepAt; simp only [hi]
      exact hy S _ hC ⟨.inr hC, H⟩
    · have := ready_mono hj hji
      rw [H.1] at this
      cases this
  | succ fuel ih =>
    intro listed env S hfree hcl hr hy hC H
    refine ⟨fun h => (by rw [h] at hr; cases hr), fun j hj => ?_⟩
    by_cases hji : j = i
    · subst hji
      unfold stepAt; simp only [hi]
      exact hy S _ hC ⟨.inr hC, H⟩
    · have h1 := H.2 j (ready_mono hj hji)
      obtain ⟨hjun, oj, hoj, hall⟩ := mem_ready.1 hj
      have hnot : ∀ e ∈ oj.after, Region.binds .any e = true → e.on ≠ i := fun e he hb heq => by
        have h1 := hall e he hb
        have h0 := (mem_ready.1 hr).1
        rw [heq] at h1
        rcases Nat.lt_or_ge i listed.size with h' | h'
        · simp [h'] at h0 h1; rw [h0] at h1; cases h1
        · simp [Array.getElem?_eq_none h'] at h1
      obtain ⟨a1, a2, a3⟩ := Oper.apart_spec (hfree j oj hoj hji hjun hnot)
      have hfree' : ∀ k ok, ops[k]? = some ok → k ≠ i → (listed.setIfInBounds j true).getD k true = false →
          (∀ e ∈ ok.after, Region.binds .any e = true → e.on ≠ i) → oi.apart ops ok = true := fun k ok hk hki hun hno => by
        refine hfree k ok hk hki ?_ hno
        by_cases hjk : j = k
        · subst hjk; exact hjun
        · rw [getD_set_ne true hjk] at hun; exact hun
      unfold stepAt at h1 ⊢
      simp only [hoj] at h1 ⊢
      have h2 := stepW_congr a1 a2 h1
      -- behind the step 'oi' still gives 'u'
      have h3 : stepW P ops oj (fun env' S' => YL P ops C oi u env' ∧ (ex = some j ∨ C S') ∧ LAny P ops C ex K fuel ((listed.setIfInBounds i true).setIfInBounds j true) (env'.putO oi.dst u) S') env S := by
        have keep : ∀ v, YL P ops C oi u (env.putO oj.dst v) := fun v => hy.put a3 (fun t ht he => a2 t ht he)
        unfold stepW at h2 ⊢
        cases hg : oj.guard with
        | none => simp only [hg] at h2 ⊢; exact lopW_mono (fun v S' hh => ⟨keep v, hh⟩) h2
        | some gw =>
          obtain ⟨jj, want⟩ := gw
          simp only [hg] at h2 ⊢
          obtain ⟨b, hb, g1, g2⟩ := h2
          exact ⟨b, hb, fun e => lopW_mono (fun v S' hh => ⟨keep v, hh⟩) (g1 e), fun e => ⟨keep _, g2 e⟩⟩
      have hC2 : ∀ S', (ex = some j ∨ C S') → C S' := fun S' h => h.elim (fun h => by
        have h1 := hex j h hji listed oj hcl hoj hall
        have h0 := (mem_ready.1 hr).1
        rcases Nat.lt_or_ge i listed.size with h' | h'
        · simp [h'] at h0 h1; rw [h0] at h1; cases h1
        · simp [Array.getElem?_eq_none h'] at h1) id
      refine stepW_mono (fun env' S' ⟨hy', hC', hL⟩ => ⟨hC', ih (listed.setIfInBounds j true) env' S' hfree' (hcl.set hj) (ready_mono hr (Ne.symm hji)) hy' (hC2 _ hC') ?_⟩) h3
      rw [Array.setIfInBounds_comm _ _ hji]
      exact hL

end
end Go.Lift
end
section
set_option linter.all false
/-
  The lifted layer, part 11: the walk of a region whose order is drawn; code; calls.
-/
namespace Go.Lift
open Go.RowKit

/-- blocks that stay as they are while a region runs. -/
abbrev Watch := List (Nat × Blk)
def Watch.holds (L : Watch) (S : LS) : Prop := ∀ p ∈ L, S[p.1]? = some (some p.2)

def lookL : Watch → Nat → Option Blk
  | [], _ => none
  | (i, b) :: L, id => if id = i then some b else lookL L id

def atL (L : Watch) : LV → Option (List LV × Nat)
  | .ptr id i off => match lookL L id with
    | some (_, es) => match es[i]? with
      | some cells => some (cells, off)
      | none => none
    | none => none
  | .eptr cells off => some (cells, off)
  | _ => none

def ixLW (L : Watch) (n : Nat) : LV → Int → (LV → Prop) → Prop
  | .sl _ elems, i, K => 0 ≤ i ∧ ∃ c, elems[i.toNat]? = some c ∧ c.length = n ∧ K (.eptr c 0)
  | .ref id off len, i, K => 0 ≤ i ∧ i < (len : Int) ∧ ∃ es, lookL L id = some (n, es) ∧ ∃ c, es[off + i.toNat]? = some c ∧ c.length = n ∧ K (.ptr id (off + i.toNat) 0)
  | _, _, _ => False

def readOp : Op → Bool
  | .load .. | .indexAddr .. | .slice .. | .convert .. => true
  | _ => false

/-- what only reads, over the watched blocks. -/
def rdW (P : Program) (L : Watch) (op : Op) (ρ : Operand → LV) (k : LV → Prop) : Prop :=
  match op with
  | .load t a => ∃ cells off, atL L (ρ a) = some (cells, off) ∧ ldW P t cells off k
  | .indexAddr t x ix => ∃ kd i, ρ ix = .int kd i ∧
      match kT P t with
      | .sl e => ∃ n, sizeT P e = some n ∧ ixLW L n (ρ x) i k
      | .arr len e => ∃ n, sizeT P e = some n ∧ 0 ≤ i ∧ i < (len : Int) ∧ ∃ r, (ρ x).addOff (i.toNat * n) = some r ∧ k r
      | _ => False
  | .slice t x lo hi mx => mxC (hi.map ρ) (mx.map ρ) (ρ x) ∧
    match cutM (mx.map ρ) (ρ x) with
    | .str s => ∃ l h, bnd 0 (lo.map ρ) = some l ∧ bnd s.size (hi.map ρ) = some h ∧ isStrT P t = true ∧ 0 ≤ l ∧ l ≤ h ∧ h ≤ (s.size : Int) ∧ k (.str (s.extract l.toNat h.toNat))
    | u => ∃ e n, elemT P t = some e ∧ sizeT P e = some n ∧ ∃ d l h, lenL u = some d ∧ bnd 0 (lo.map ρ) = some l ∧ bnd d (hi.map ρ) = some h ∧ sliceW [] n u l h k
  | .convert src dst x => lconvW P [] src dst (ρ x) k
  | _ => False

def floatOp (op : Op) : Bool := pureOp op || readOp op

def schedGo (ops : Array Oper) : List Nat → Array Bool → Bool
  | [], listed => (Region.ready .any ops listed).isEmpty
  | i :: is, listed => (match ops[i]? with
      | none => false
      | some o => if floatOp o.op then Region.free .any ops listed i && (Region.ready .any ops listed).contains i else Region.ready .any ops listed == [i]) && schedGo ops is (listed.setIfInBounds i true)

def schedOk (ops : Array Oper) (sched : List Nat) : Bool := sched.length == ops.size && schedGo ops sched (Array.replicate ops.size false)

section
variable {P : Program} {B N : Nat} {w0 w : World} {K : Know} {φ : List Pl} {S : LS} {ops : Array Oper} {env : Env} {a : Act} {L : Watch}

theorem lookL_spec {id : Nat} {b : Blk} (hL : L.holds S) (h : lookL L id = some b) : S[id]? = some (some b) := by
  induction L with
  | nil => simp [lookL] at h
  | cons p L ih =>
    obtain ⟨i, b'⟩ := p
    simp only [lookL] at h
    split at h
    · rename_i e
      cases h
      subst e
      exact hL (id, b) (by simp)
    · exact ih (fun q hq => hL q (by simp [hq])) h

theorem sliceW_nil {n : Nat} {u : LV} {l h : Int} {k : LV → Prop} (hw : sliceW [] n u l h k) : sliceW S n u l h k := by
  cases u <;> simp only [sliceW] at hw ⊢
  · exact hw
  · obtain ⟨_, _, _, ⟨es, he⟩, _⟩ := hw; simp at he

theorem srcE_nil {u : LV} {fs : List (List LV)} (h : srcE [] u = some fs) : srcE S u = some fs := by
  cases u <;> simp only [srcE, reduceCtorEq] at h ⊢
  case sl => exact h
  case str => exact h
  case ref => simp at h

theorem lconvW_nil {s d : TypeId} {u : LV} {k : LV → Prop} (h : lconvW P [] s d u k) : lconvW P S s d u k := by
  cases u <;> simp only [lconvW] at h ⊢
  case int => exact h
  case str => exact h
  all_goals (obtain ⟨e, h0, h1, h2, xs, h3, h4⟩ := h; exact ⟨e, h0, h1, h2, xs, srcE_nil h3, h4⟩)

/-- what only reads gives one value, in every store that holds the watched blocks. -/
theorem rdW_float {op : Op} {ρ : Operand → LV} {k : LV → Prop} (h : rdW P L op ρ k) : ∃ u, k u ∧ ∀ (S : LS) (k' : LV → LS → Prop), L.holds S → k' u S → lopW P op ρ S k' := by
  cases op <;> simp only [rdW] at h <;> simp only [lopW]
  case load t a =>
    obtain ⟨cells, off, h1, h2⟩ := h
    obtain ⟨u, h3, h4⟩ := ldW_float h2
    refine ⟨u, h3, fun S k' hL hk => ⟨cells, off, ?_, h4 (fun r => k' r S) hk⟩⟩
    generalize ρ a = v at h1
    cases v <;> simp only [atL, reduceCtorEq] at h1
    · split at h1
      · rename_i es he
        have := lookL_spec hL he
        split at h1
        · rename_i c hc; simp only [LS.at, this, hc]; exact h1
        · cases h1
      · cases h1
    · simpa [LS.at] using h1
  case indexAddr t x ix =>
    obtain ⟨kd, i, h1, h2⟩ := h
    split at h2
    · rename_i e he
      obtain ⟨n, h3, h4⟩ := h2
      cases hx : ρ x <;> simp only [hx, ixLW] at h4
      case sl full elems =>
        obtain ⟨h5, c, h6, h7, h8⟩ := h4
        refine ⟨_, h8, fun S k' hL hk => ⟨kd, i, h1, ?_⟩⟩
        try simp only [he]
        exact ⟨n, h3, h5, c, h6, h7, hk⟩
      case ref id off len =>
        obtain ⟨h5, h5', es, hes, c, h6, h7, h8⟩ := h4
        refine ⟨_, h8, fun S k' hL hk => ⟨kd, i, h1, ?_⟩⟩
        try simp only [he]
        exact ⟨n, h3, h5, h5', es, lookL_spec hL hes, c, h6, h7, hk⟩
    · rename_i len e he
      obtain ⟨n, h3, h4, h5, r, h6, h7⟩ := h2
      refine ⟨r, h7, fun S k' hL hk => ⟨kd, i, h1, ?_⟩⟩
      try simp only [he]
      exact ⟨n, h3, h4, h5, r, h6, hk⟩
    · exact h2.elim
  case slice t x lo hi mx =>
    obtain ⟨h0, h⟩ := h
    cases hx : cutM (mx.map ρ) (ρ x)
    case str s =>
      simp only [hx] at h ⊢
      obtain ⟨l, r, h1, h2, h3, h4, h5, h6, h7⟩ := h
      exact ⟨_, h7, fun S k' hL hk => ⟨h0, l, r, h1, h2, h3, h4, h5, h6, hk⟩⟩
    case sl full elems =>
      simp only [hx] at h ⊢
      obtain ⟨e, n, h1, h2, d, l, r, h3, h4, h5, h6⟩ := h
      simp only [sliceW] at h6 ⊢
      obtain ⟨g0, g1, g2, g3, g4⟩ := h6
      exact ⟨_, g4, fun S k' hL hk => ⟨h0, e, n, h1, h2, d, l, r, h3, h4, h5, g0, g1, g2, g3, hk⟩⟩
    all_goals
      simp only [hx] at h
      obtain ⟨e, n, h1, h2, d, l, r, h3, h4, h5, h6⟩ := h
      simp [sliceW] at h6
  case convert s d x =>
    have : ∃ u, k u ∧ ∀ (S : LS) (k' : LV → Prop), k' u → lconvW P S s d (ρ x) k' := by
      generalize ρ x = v at h
      cases v <;> simp only [lconvW] at h ⊢
      case int => obtain ⟨k0, h0, h1, h2⟩ := h; exact ⟨_, h2, fun S k' hk => ⟨k0, h0, h1, hk⟩⟩
      case str => exact ⟨_, h.2.2, fun S k' hk => ⟨h.1, h.2.1, hk⟩⟩
      all_goals (obtain ⟨e, h0, h1, h2, xs, h3, h4⟩ := h; exact ⟨_, h4, fun S k' hk => ⟨e, h0, h1, h2, xs, srcE_nil h3, hk⟩⟩)
    obtain ⟨u, g1, g2⟩ := this
    exact ⟨u, g1, fun S k' hL hk => g2 S (fun r => k' r S) hk⟩
  all_goals exact h.elim

theorem LAny_done {C : LS → Prop} {ex : Option Nat} {KL : Env → LS → Prop} {listed : Array Bool} (hr : Region.ready .any ops listed = []) (h : KL env S) : ∀ fuel, LAny P ops C ex KL fuel listed env S
  | 0 => ⟨hr, h⟩
  | _ + 1 => ⟨fun _ => h, by rw [hr]; simp⟩

/-! ### Code -/
theorem Lwp.mono {c : Code} {Q Q' : Exit → Env → LS → Prop} (h : Lwp P N c Q env S) (hq : ∀ e env S, Q e env S → Q' e env S) : Lwp P N c Q' env S :=
  fun B w0 K φ a w hS hE => wp_mono (h B w0 K φ a w hS hE) fun _ _ _ ⟨env', S', K', φ', h1, h2⟩ => ⟨env', S', K', φ', hq _ _ _ h1, h2⟩

def LThen (next : Env → LS → Prop) (Q : Exit → Env → LS → Prop) : Exit → Env → LS → Prop
  | .normal, env, S => next env S
  | e, env, S => Q e env S

theorem Lwp_seq {x y : Code} {Q : Exit → Env → LS → Prop} (h : ∀ KK : Env → LS → Prop, (∀ env S, Lwp P N y Q env S → KK env S) → Lwp P N x (LThen KK Q) env S) : Lwp P N (.seq x y) Q env S := by
  intro B w0 K φ a w hS hE
  refine wp_seq (wp_mono (h _ (fun _ _ h => h) B w0 K φ a w hS hE) ?_)
  rintro e a' w' ⟨env', S', K', φ', h1, h2, h3, h4, h5⟩
  cases e with
  | normal => exact wp_mono (h1 B w0 K' φ' a' w' h4 h5) fun _ _ _ hq => LQ.mono h2 h3 hq
  | _ => exact ⟨env', S', K', φ', h1, h2, h3, h4, h5⟩

theorem Lwp_skip {Q : Exit → Env → LS → Prop} (h : Q .normal env S) : Lwp P N .skip Q env S :=
  fun _ _ K φ _ _ hS hE => wp_skip ⟨env, S, K, φ, h, Know.le_refl K, List.prefix_refl _, hS, hE⟩

theorem Lwp_exit {id : Nat} {Q : Exit → Env → LS → Prop} (h : Q (.exit id) env S) : Lwp P N (.exit id) Q env S :=
  fun _ _ K φ _ _ hS hE => wp_exit ⟨env, S, K, φ, h, Know.le_refl K, List.prefix_refl _, hS, hE⟩

theorem Lwp_ret {Q : Exit → Env → LS → Prop} (h : Q .ret env S) : Lwp P N .ret Q env S :=
  fun _ _ K φ _ _ hS hE => wp_ret ⟨env, S, K, φ, h, Know.le_refl K, List.prefix_refl _, hS, hE⟩

theorem Lwp_cond {c : Operand} {x y : Code} {Q : Exit → Env → LS → Prop} {t : Bool} (hc : evalL env c = .bool t) (ht : t = true → Lwp P N x Q env S) (hf : t = false → Lwp P N y Q env S) : Lwp P N (.cond c x y) Q env S := by
  intro B w0 K φ a w hS hE
  have hr := hE.eval c
  rw [hc] at hr
  have he : a.eval c = .bool t := by generalize a.eval c = v at *; cases hr; rfl
  exact wp_cond_split he (fun e => ht e B w0 K φ a w hS hE) (fun e => hf e B w0 K φ a w hS hE)

theorem Lwp_condAny {c : Operand} {x y : Code} {Q : Exit → Env → LS → Prop} (hc : evalL env c = .anyb) (ht : Lwp P N x Q env S) (hf : Lwp P N y Q env S) : Lwp P N (.cond c x y) Q env S := by
  intro B w0 K φ a w hS hE
  have hr := hE.eval c
  rw [hc] at hr
  obtain ⟨t, he⟩ : ∃ t, a.eval c = .bool t := by generalize a.eval c = v at *; cases hr; exact ⟨_, rfl⟩
  exact wp_cond_split he (fun _ => ht B w0 K φ a w hS hE) (fun _ => hf B w0 K φ a w hS hE)

def LBlock (id : Nat) (Q : Exit → Env → LS → Prop) : Exit → Env → LS → Prop
  | .exit id', env, S => if id' = id then Q .normal env S else Q (.exit id') env S
  | e, env, S => Q e env S

theorem Lwp_block {id : Nat} {c : Code} {Q : Exit → Env → LS → Prop} (h : Lwp P N c (LBlock id Q) env S) : Lwp P N (.block id c) Q env S := by
  intro B w0 K φ a w hS hE
  refine wp_block (wp_mono (h B w0 K φ a w hS hE) ?_)
  rintro e a' w' ⟨env', S', K', φ', h1, h2⟩
  cases e with
  | exit id' =>
    simp only [LBlock] at h1
    simp only [Exit.inBlock]
    split
    · rename_i e; rw [if_pos e] at h1; exact ⟨env', S', K', φ', h1, h2⟩
    · rename_i e; rw [if_neg e] at h1; exact ⟨env', S', K', φ', h1, h2⟩
  | _ => exact ⟨env', S', K', φ', h1, h2⟩

/-- A LOOP: what holds at the head of each round, and a measure. -/
theorem Lwp_loop {c : Code} {Q : Exit → Env → LS → Prop} (I : Nat → Env → LS → Prop) (n : Nat) (h0 : I n env S)
    (round : ∀ n env S, I n env S → Lwp P N c (LThen (fun env' S' => ∃ m, m < n ∧ I m env' S') Q) env S) : Lwp P N (.loop c) Q env S := by
  intro B w0 K φ a w hS hE
  intro b k cs
  have key : ∀ n (env : Env) (S : LS) (K' : Know) (φ' : List Pl) (a : Act) (w : World), I n env S → K.le K' → φ <+: φ' → SimS B w0 K' φ' S w → SimE N K' φ' env a →
      ∃ e a' w', LQ B w0 N K φ Q e a' w' ∧ Arrives P (lone (b.at a (.code c :: .inLoop c :: k)) cs w) b k cs e a' w' := by
    intro n
    induction n using Nat.strongRecOn with
    | _ n ih =>
      intro env S K' φ' a w hI hK hφ hS hE
      obtain ⟨e, a₁, w₁, hq, harr⟩ := round n env S hI B w0 K' φ' a w hS hE b (.inLoop c :: k) cs
      have hq' := LQ.mono hK hφ hq
      cases e with
      | normal =>
        obtain ⟨env', S', K2, φ2, ⟨m, hm, hI2⟩, h2, h3, h4, h5⟩ := hq'
        obtain ⟨e₂, a₂, w₂, hq₂, harr₂⟩ := ih m hm env' S' K2 φ2 a₁ w₁ hI2 h2 h3 h4 h5
        exact ⟨e₂, a₂, w₂, hq₂, .of_steps (Steps.trans harr (.one step_inLoop)) harr₂⟩
      | exit id => exact ⟨_, a₁, w₁, hq', .pass (x := .inLoop c) rfl (fun _ _ => .inl (by simp)) harr⟩
      | goto l => exact ⟨_, a₁, w₁, hq', .pass (x := .inLoop c) rfl (fun _ _ => .inl (by simp)) harr⟩
      | ret => exact ⟨_, a₁, w₁, hq', .pass (x := .inLoop c) rfl (fun _ _ => .inl (by simp)) harr⟩
      | panic ch => exact ⟨_, a₁, w₁, hq', .pass (x := .inLoop c) rfl (fun _ _ => .inl (by simp)) harr⟩
      | outgrown => exact ⟨_, a₁, w₁, hq', .pass (x := .inLoop c) rfl (fun _ _ => .inl (by simp)) harr⟩
  obtain ⟨e, a', w', hq, harr⟩ := key n env S K φ a w h0 (Know.le_refl K) (List.prefix_refl _) hS hE
  exact ⟨e, a', w', hq, .of_steps (.one step_loop) harr⟩

/-- forget what is not needed. -/
theorem Lwp_env {c : Code} {Q : Exit → Env → LS → Prop} {env' : Env} (hsub : ∀ t u, env' t = some u → env t = some u) (h : Lwp P N c Q env' S) : Lwp P N c Q env S :=
  fun B w0 K φ a w hS hE => h B w0 K φ a w hS ⟨hE.size, hE.defers, fun t u hu => hE.rel t u (hsub t u hu)⟩

end
end Go.Lift
end
