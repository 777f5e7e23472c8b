import PyProof.Rows.All
import Wide.All
import OpenK.AllK
import Wide.FinOn
import HandS.ForMost
import HandS.Exc
import HandS.WordsExc
import HandS.Wide
import HandS.WideBits
import HandS.RevRange
import HandS.Style
import KE.SortData
import HandS.Zip
import HandS.ExcInit
import HandS.ExcSuper
import HandS.ExcField
import HandS.ClsMeth
import HandS.Defaults
import KE.RegKSuper
import HandS.Nested
import KE.KSuper
import KE.KExcSuper
import HandS.TryMany
import HandS.CallSlots
import HandS.IsInst
import HandS.Deep
import PySem.Challenge.RW_kraftroom_k02_symbols_read_and_written
set_option Elab.async false
set_option linter.all false
set_option maxRecDepth 100000
set_option maxHeartbeats 4000000
/-! KrA: results, data, what a value stands for, the judgements of expressions and statements by data. -/
namespace Kr
open PySem PySem.Spec PyProof.Rows L2

/-! ### results -/
inductive R (α : Type) where
  | ok (a : α)
  | er (c : Nat) (p : Int)
  | bad
def R.bind {α β : Type} : R α → (α → R β) → R β
  | .ok a, f => f a
  | .er c p, _ => .er c p
  | .bad, _ => .bad
/-- of a def that raises nothing -/
def R.pu {α : Type} : R α → R α
  | .ok a => .ok a
  | _ => .bad
def R.map {α β : Type} (f : α → β) : R α → R β
  | .ok a => .ok (f a)
  | .er c p => .er c p
  | .bad => .bad
section
variable {α β γ : Type}
theorem R.ok_bind (a : α) (f : α → R β) : (R.ok a).bind f = f a := (fun (m : R α) (e : m = .ok a) => show m.bind f = f a by rw [e]; rfl) _ rfl
theorem R.er_bind (c : Nat) (p : Int) (f : α → R β) : (R.er c p : R α).bind f = .er c p := (fun (m : R α) (e : m = .er c p) => show m.bind f = .er c p by rw [e]; rfl) _ rfl
theorem R.bad_bind (f : α → R β) : (R.bad : R α).bind f = .bad := (fun (m : R α) (e : m = .bad) => show m.bind f = .bad by rw [e]; rfl) _ rfl
theorem R.ok_pu (a : α) : (R.ok a).pu = .ok a := (fun (m : R α) (e : m = .ok a) => show m.pu = .ok a by rw [e]; rfl) _ rfl
theorem R.ok_map (f : α → β) (a : α) : (R.ok a).map f = .ok (f a) := (fun (m : R α) (e : m = .ok a) => show m.map f = .ok (f a) by rw [e]; rfl) _ rfl
theorem R.bind_ok (m : R α) : m.bind .ok = m := by cases m <;> rfl
theorem R.bind_bind (m : R α) (f : α → R β) (g : β → R γ) : (m.bind f).bind g = m.bind fun a => (f a).bind g := by cases m <;> rfl
theorem R.ite_bind (c : Prop) [Decidable c] (m n : R α) (f : α → R β) : (if c then m else n).bind f = if c then m.bind f else n.bind f := by split <;> rfl
theorem R.bind_nb {m : R α} {f : α → R β} (h : m.bind f ≠ .bad) : m ≠ .bad := fun e => h (by rw [e]; rfl)
theorem R.bind_okd {m : R α} {f : α → R β} {b : β} (h : m.bind f = .ok b) : ∃ a, m = .ok a ∧ f a = .ok b := by
  cases m with
  | ok a => exact ⟨a, rfl, h⟩
  | er c p => cases h
  | bad => cases h
end

/-! ### data -/
inductive Dt where
  | non | bl (b : Bool) | int (i : Int) | str (x : Str) | lst (xs : List Dt) | tup (xs : List Dt)
  /-- the script -/
  | scr (ns : List Int)
  /-- a dict whose keys are tuples of ints -/
  | dct (kvs : List (List Int × Dt))

mutual
/-- in F the value v stands for the data -/
inductive Dr (K : PySem.W.Frag) (F : Hp) : V → Dt → Prop
  | non : Dr K F .non .non
  | bl (b : Bool) : Dr K F (.bl b) (.bl b)
  | int (i : Int) : Dr K F (.int i) (.int i)
  | str (x : Str) : Dr K F (.str x) (.str x)
  | lst {a : Addr} {vs : List V} {ds : List Dt} : F a = some (.lst vs) → DrA K F vs ds → Dr K F (.ref a) (.lst ds)
  | tup {a : Addr} {vs : List V} {ds : List Dt} : F a = some (.tup vs) → DrA K F vs ds → Dr K F (.ref a) (.tup ds)
  | scr {a : Addr} {ns : List Int} : SqL K F a (ns.map V.int) → Dr K F (.ref a) (.scr ns)
  | dct {a : Addr} {ks : List (List Key × V)} {kvs : List (List Int × Dt)} : F a = some (.dT ks) → DrK K F ks kvs → Dr K F (.ref a) (.dct kvs)
inductive DrA (K : PySem.W.Frag) (F : Hp) : List V → List Dt → Prop
  | nil : DrA K F [] []
  | cons {v : V} {vs : List V} {d : Dt} {ds : List Dt} : Dr K F v d → DrA K F vs ds → DrA K F (v :: vs) (d :: ds)
inductive DrK (K : PySem.W.Frag) (F : Hp) : List (List Key × V) → List (List Int × Dt) → Prop
  | nil : DrK K F [] []
  | cons {k : List Int} {v : V} {d : Dt} {ks : List (List Key × V)} {kvs : List (List Int × Dt)} : Dr K F v d → DrK K F ks kvs → DrK K F ((k.map Sum.inl, v) :: ks) ((k, d) :: kvs)
end

def Le (H H' : Hp) : Prop := ∀ a o, H a = some o → H' a = some o
theorem Le.refl (H : Hp) : Le H H := fun _ _ h => h
theorem Le.trans {H H1 H2 : Hp} (a : Le H H1) (b : Le H1 H2) : Le H H2 := fun x o h => b x o (a x o h)
theorem Le.new {H : Hp} {p : Addr} {o : HO} (h : H p = none) : Le H (upd H p o) := fun a u e => by
  rw [upd_ne (ne_of_none e h)]
  exact e
theorem Le.seq {K : PySem.W.Frag} {H H' : Hp} {a : Addr} {xs : List V} (e : Le H H') (h : SqL K H a xs) : SqL K H' a xs := by
  rcases h with (h | ⟨o, h⟩) | h
  · exact .inl (.inl (e _ _ h))
  · exact .inl (.inr ⟨o, e _ _ h⟩)
  · exact .inr h
theorem Le.free {H H' : Hp} (e : Le H H') {l : Addr} (h : H' l = none) : H l = none := by
  cases q : H l with
  | none => rfl
  | some o =>
    rw [e l o q] at h
    cases h
section
variable {K : PySem.W.Frag} {F F' : Hp}
mutual
theorem Dr.mono (e : Le F F') : ∀ {v : V} {d : Dt}, Dr K F v d → Dr K F' v d
  | _, _, .non => .non
  | _, _, .bl b => .bl b
  | _, _, .int i => .int i
  | _, _, .str x => .str x
  | _, _, .lst h r => .lst (e _ _ h) (DrA.mono e r)
  | _, _, .tup h r => .tup (e _ _ h) (DrA.mono e r)
  | _, _, .scr h => .scr (e.seq h)
  | _, _, .dct h r => .dct (e _ _ h) (DrK.mono e r)
theorem DrA.mono (e : Le F F') : ∀ {vs : List V} {ds : List Dt}, DrA K F vs ds → DrA K F' vs ds
  | _, _, .nil => .nil
  | _, _, .cons r t => .cons (Dr.mono e r) (DrA.mono e t)
theorem DrK.mono (e : Le F F') : ∀ {ks : List (List Key × V)} {kvs : List (List Int × Dt)}, DrK K F ks kvs → DrK K F' ks kvs
  | _, _, .nil => .nil
  | _, _, .cons r t => .cons (Dr.mono e r) (DrK.mono e t)
end
theorem DrA.length : ∀ {vs : List V} {ds : List Dt}, DrA K F vs ds → vs.length = ds.length
  | _, _, .nil => rfl
  | _, _, .cons _ t => by rw [List.length_cons, List.length_cons, DrA.length t]
theorem DrA.get : ∀ {vs : List V} {ds : List Dt} {i : Nat} {d : Dt}, DrA K F vs ds → ds[i]? = some d → ∃ v, vs[i]? = some v ∧ Dr K F v d
  | _, _, _, _, .nil, h => by simp at h
  | _, _, 0, _, .cons (v := v) r _, h => by
    simp at h
    subst h
    exact ⟨v, rfl, r⟩
  | _, _, i + 1, _, .cons _ t, h => by
    obtain ⟨v, h1, h2⟩ := DrA.get (i := i) t (by simpa using h)
    exact ⟨v, by simpa using h1, h2⟩
theorem DrA.getV : ∀ {vs : List V} {ds : List Dt} {i : Nat} {v : V}, DrA K F vs ds → vs[i]? = some v → ∃ d, ds[i]? = some d ∧ Dr K F v d
  | _, _, _, _, .nil, h => by simp at h
  | _, _, 0, _, .cons (d := d) r _, h => by
    simp at h
    subst h
    exact ⟨d, rfl, r⟩
  | _, _, i + 1, _, .cons _ t, h => by
    obtain ⟨d, h1, h2⟩ := DrA.getV (i := i) t (by simpa using h)
    exact ⟨d, by simpa using h1, h2⟩
theorem DrA.append : ∀ {vs ws : List V} {ds es : List Dt}, DrA K F vs ds → DrA K F ws es → DrA K F (vs ++ ws) (ds ++ es)
  | _, _, _, _, .nil, s => s
  | _, _, _, _, .cons r t, s => .cons r (DrA.append t s)
theorem DrA.set {v : V} {d : Dt} (r : Dr K F v d) : ∀ {vs : List V} {ds : List Dt} (i : Nat), DrA K F vs ds → DrA K F (vs.set i v) (ds.set i d)
  | _, _, _, .nil => .nil
  | _, _, 0, .cons _ t => .cons r t
  | _, _, i + 1, .cons q t => .cons q (DrA.set r i t)
theorem DrA.take : ∀ {vs : List V} {ds : List Dt} (n : Nat), DrA K F vs ds → DrA K F (vs.take n) (ds.take n)
  | _, _, 0, _ => .nil
  | _, _, _ + 1, .nil => .nil
  | _, _, n + 1, .cons r t => .cons r (DrA.take n t)
theorem DrA.drop : ∀ {vs : List V} {ds : List Dt} (n : Nat), DrA K F vs ds → DrA K F (vs.drop n) (ds.drop n)
  | _, _, 0, r => r
  | _, _, _ + 1, .nil => .nil
  | _, _, n + 1, .cons _ t => DrA.drop n t
theorem DrA.dropLast {vs : List V} {ds : List Dt} (h : DrA K F vs ds) : DrA K F vs.dropLast ds.dropLast := by
  rw [List.dropLast_eq_take, List.dropLast_eq_take, h.length]
  exact h.take _
theorem DrA.reverse : ∀ {vs : List V} {ds : List Dt}, DrA K F vs ds → DrA K F vs.reverse ds.reverse
  | _, _, .nil => .nil
  | _, _, .cons r t => by
    rw [List.reverse_cons, List.reverse_cons]
    exact (DrA.reverse t).append (.cons r .nil)
theorem DrA.rep {vs : List V} {ds : List Dt} (h : DrA K F vs ds) : ∀ k : Nat, DrA K F (List.replicate k vs).flatten (List.replicate k ds).flatten
  | 0 => .nil
  | k + 1 => by
    rw [List.replicate_succ, List.replicate_succ, List.flatten_cons, List.flatten_cons]
    exact h.append (DrA.rep h k)
end

theorem dr_non {K : PySem.W.Frag} {F : Hp} {v : V} (h : Dr K F v .non) : v = .non := by cases h; rfl
theorem dr_int {K : PySem.W.Frag} {F : Hp} {v : V} {i : Int} (h : Dr K F v (.int i)) : v = .int i := by cases h; rfl
theorem dr_bl {K : PySem.W.Frag} {F : Hp} {v : V} {i : Bool} (h : Dr K F v (.bl i)) : v = .bl i := by cases h; rfl
theorem dr_str {K : PySem.W.Frag} {F : Hp} {v : V} {i : Str} (h : Dr K F v (.str i)) : v = .str i := by cases h; rfl
theorem dr_lst {K : PySem.W.Frag} {F : Hp} {v : V} {ds : List Dt} (h : Dr K F v (.lst ds)) : ∃ a vs, v = .ref a ∧ F a = some (.lst vs) ∧ DrA K F vs ds := by
  cases h with
  | lst h1 h2 => exact ⟨_, _, rfl, h1, h2⟩
theorem dr_tup {K : PySem.W.Frag} {F : Hp} {v : V} {ds : List Dt} (h : Dr K F v (.tup ds)) : ∃ a vs, v = .ref a ∧ F a = some (.tup vs) ∧ DrA K F vs ds := by
  cases h with
  | tup h1 h2 => exact ⟨_, _, rfl, h1, h2⟩
theorem dr_scr {K : PySem.W.Frag} {F : Hp} {v : V} {ns : List Int} (h : Dr K F v (.scr ns)) : ∃ a, v = .ref a ∧ SqL K F a (ns.map V.int) := by
  cases h with
  | scr h1 => exact ⟨_, rfl, h1⟩
theorem dr_dct {K : PySem.W.Frag} {F : Hp} {v : V} {kvs : List (List Int × Dt)} (h : Dr K F v (.dct kvs)) : ∃ a ks, v = .ref a ∧ F a = some (.dT ks) ∧ DrK K F ks kvs := by
  cases h with
  | dct h1 h2 => exact ⟨_, _, rfl, h1, h2⟩
theorem drA_nil {K : PySem.W.Frag} {F : Hp} {vs : List V} (h : DrA K F vs []) : vs = [] := by cases h; rfl
theorem drA_cons {K : PySem.W.Frag} {F : Hp} {vs : List V} {d : Dt} {ds : List Dt} (h : DrA K F vs (d :: ds)) : ∃ v r, vs = v :: r ∧ Dr K F v d ∧ DrA K F r ds := by
  cases h with
  | cons h1 h2 => exact ⟨_, _, rfl, h1, h2⟩

/-- typed data -/
class Enc (α : Type) where
  toD : α → Dt
open Enc (toD)

structure T3 (α β γ : Type) where
  a : α
  b : β
  c : γ
  deriving DecidableEq
structure Scr where
  ns : List Int
/-- a dict by tuples of ints -/
structure Dct (α : Type) where
  kvs : List (List Int × α)
instance : Enc Int := ⟨.int⟩
instance : Enc Bool := ⟨.bl⟩
instance : Enc Str := ⟨.str⟩
instance : Enc Unit := ⟨fun _ => .non⟩
instance : Enc Scr := ⟨fun s => .scr s.ns⟩
instance {α : Type} [Enc α] : Enc (List α) := ⟨fun xs => .lst (xs.map toD)⟩
instance {α β : Type} [Enc α] [Enc β] : Enc (α × β) := ⟨fun p => .tup [toD p.1, toD p.2]⟩
instance {α β γ : Type} [Enc α] [Enc β] [Enc γ] : Enc (T3 α β γ) := ⟨fun p => .tup [toD p.a, toD p.b, toD p.c]⟩
instance {α : Type} [Enc α] : Enc (Option α) := ⟨fun o => match o with | none => .non | some a => toD a⟩
instance {α β : Type} [Enc α] [Enc β] : Enc (α ⊕ β) := ⟨fun o => match o with | .inl a => toD a | .inr a => toD a⟩
instance {α : Type} [Enc α] : Enc (Dct α) := ⟨fun d => .dct (d.kvs.map fun p => (p.1, toD p.2))⟩
/-- never None -/
class NN (α : Type) [Enc α] : Prop where
  nn : ∀ a : α, toD a ≠ .non
instance : NN Int := ⟨fun _ h => nomatch h⟩
instance : NN Bool := ⟨fun _ h => nomatch h⟩
instance {α : Type} [Enc α] : NN (List α) := ⟨fun _ h => nomatch h⟩
instance {α β : Type} [Enc α] [Enc β] : NN (α × β) := ⟨fun _ h => nomatch h⟩
instance {α β γ : Type} [Enc α] [Enc β] [Enc γ] : NN (T3 α β γ) := ⟨fun _ h => nomatch h⟩

/-! ### the state by data -/
/-- what the text says of classes: the written part; the error classes by number, their names -/
structure Cf where
  K : PySem.W.Frag
  cls : Nat → Addr
  nm : Nat → Str
/-- the heap H holds F (never changed) and O (what is owned) -/
structure Fm (F O H : Hp) : Prop where
  f : Le F H
  o : Le O H
  ds : ∀ p, F p ≠ none → O p = none
theorem Fm.fnone {F O H : Hp} (h : Fm F O H) {p : Addr} (e : H p = none) : F p = none := h.f.free e
theorem Fm.onone {F O H : Hp} (h : Fm F O H) {p : Addr} (e : H p = none) : O p = none := h.o.free e
theorem Fm.own {F O H : Hp} (h : Fm F O H) {p : Addr} {o : HO} (e : O p = some o) : F p = none := by
  cases q : F p with
  | none => rfl
  | some u =>
    rw [h.ds p (by rw [q]; simp)] at e
    cases e
/-- a new object, never changed from now on -/
theorem Fm.newF {F O H : Hp} (h : Fm F O H) {p : Addr} {o : HO} (e : H p = none) : Fm (upd F p o) O (upd H p o) := by
  refine ⟨fun a u q => ?_, fun a u q => ?_, fun a q => ?_⟩
  · by_cases ha : a = p
    · subst ha
      rw [upd_same] at q ⊢
      exact q
    · rw [upd_ne ha] at q ⊢
      exact h.f a u q
  · exact Le.new e a u (h.o a u q)
  · by_cases ha : a = p
    · subst ha
      exact h.onone e
    · rw [upd_ne ha] at q
      exact h.ds a q
/-- a new object that nobody owns as yet -/
theorem Fm.newH {F O H : Hp} (h : Fm F O H) {p : Addr} {o : HO} (e : H p = none) : Fm F O (upd H p o) := ⟨h.f.trans (Le.new e), h.o.trans (Le.new e), h.ds⟩

inductive Sl where
  | un
  | va (d : Dt)
  | ol (ds : List Dt)
  | od (kvs : List (List Int × Dt))
  /-- just this value -/
  | pv (v : V)
def Sl.own : Sl → Bool
  | .ol _ => true
  | .od _ => true
  | _ => false
def SlOk (K : PySem.W.Frag) (F O : Hp) (x : Option (Option V)) : Sl → Prop
  | .un => True
  | .va d => ∃ v, x = some (some v) ∧ Dr K F v d
  | .ol ds => ∃ a vs, x = some (some (.ref a)) ∧ O a = some (.lst vs) ∧ DrA K F vs ds
  | .od kvs => ∃ a ks, x = some (some (.ref a)) ∧ O a = some (.dT ks) ∧ DrK K F ks kvs
  | .pv v => x = some (some v)
theorem SlOk.mono {K : PySem.W.Frag} {F F' O : Hp} {x : Option (Option V)} (e : Le F F') : ∀ {s : Sl}, SlOk K F O x s → SlOk K F' O x s
  | .un, _ => trivial
  | .va _, ⟨v, h1, h2⟩ => ⟨v, h1, h2.mono e⟩
  | .ol _, ⟨a, vs, h1, h2, h3⟩ => ⟨a, vs, h1, h2, h3.mono e⟩
  | .od _, ⟨a, vs, h1, h2, h3⟩ => ⟨a, vs, h1, h2, h3.mono e⟩
  | .pv _, h => h
structure Er (K : PySem.W.Frag) (F O : Hp) (σ : L2.St) (G : List Sl) : Prop where
  len : σ.length = G.length
  at' : ∀ (i : Nat) (s : Sl), G[i]? = some s → SlOk K F O σ[i]? s
theorem Er.mono {K : PySem.W.Frag} {F F' O : Hp} {σ : L2.St} {G : List Sl} (h : Er K F O σ G) (e : Le F F') : Er K F' O σ G := ⟨h.len, fun i s q => (h.at' i s q).mono e⟩

/-- what an exception of the class c leaves -/
def xdO (cf : Cf) (c : Nat) (p : Int) : HO := .xd [("name", .str (cf.nm c)), ("place", .int p)]
/-- the reading t gives m's outcome, by rel -/
def EG {α ρ : Type} (cf : Cf) (E : XK) (t : L2.St → Hp → (ρ → Hp → Prop) → Prop) (G : List Sl) (m : R α) (rel : Hp → Hp → Hp → ρ → α → Prop) : Prop :=
  ∀ (F O H : Hp) (σ : L2.St) (Q : ρ → Hp → Prop), Fm F O H → Er cf.K F O σ G → m ≠ .bad →
    (∀ a r F' H', m = .ok a → Le F F' → Fm F' O H' → rel F' O H' r a → Q r H') →
    (∀ c p d F' H', m = .er c p → Le F F' → Fm F' O H' → F' d = some (xdO cf c p) → E (.ref (cf.cls c)) (some d) H') → t σ H Q
section
variable (cf : Cf)
/-- never changed data -/
def RM {α : Type} [Enc α] (F O H : Hp) (v : V) (a : α) : Prop := Dr cf.K F v (toD a)
def RB (F O H : Hp) (b : Bool) (a : Bool) : Prop := b = a
def RA (F O H : Hp) (vs : List V) (ds : List Dt) : Prop := DrA cf.K F vs ds
def RO (F O H : Hp) (o : Option Int) (a : Option Int) : Prop := o = a
/-- a list that may be read -/
def RL {α : Type} [Enc α] (F O H : Hp) (v : V) (xs : List α) : Prop := ∃ a vs, v = .ref a ∧ (F a = some (.lst vs) ∨ O a = some (.lst vs)) ∧ DrA cf.K F vs (xs.map toD)
/-- .. or the script -/
def RS {α : Type} [Enc α] (F O H : Hp) (v : V) (xs : List α) : Prop := ∃ a vs, v = .ref a ∧ (SqL cf.K F a vs ∨ O a = some (.lst vs)) ∧ DrA cf.K F vs (xs.map toD)
/-- a new list that nobody owns -/
def RF {α : Type} [Enc α] (F O H : Hp) (v : V) (xs : List α) : Prop := ∃ a vs, v = .ref a ∧ F a = none ∧ O a = none ∧ H a = some (.lst vs) ∧ DrA cf.K F vs (xs.map toD)
abbrev EM {α : Type} [Enc α] (E : XK) (t : TE) (G : List Sl) (m : R α) : Prop := EG cf E t G m (RM cf)
abbrev EB (E : XK) (t : TT) (G : List Sl) (m : R Bool) : Prop := EG cf E t G m RB
abbrev EA (E : XK) (t : TA) (G : List Sl) (m : R (List Dt)) : Prop := EG cf E t G m (RA cf)
abbrev EO (E : XK) (t : TO) (G : List Sl) (m : R (Option Int)) : Prop := EG cf E t G m RO
abbrev EL {α : Type} [Enc α] (E : XK) (t : TE) (G : List Sl) (m : R (List α)) : Prop := EG cf E t G m (RL cf)
abbrev ES {α : Type} [Enc α] (E : XK) (t : TE) (G : List Sl) (m : R (List α)) : Prop := EG cf E t G m (RS cf)
abbrev EF {α : Type} [Enc α] (E : XK) (t : TE) (G : List Sl) (m : R (List α)) : Prop := EG cf E t G m (RF cf)
end
section
variable {cf : Cf} {E : XK} {G : List Sl} {α β γ ρ τ : Type}
/-- one reading, then another -/
theorem EG.bind {t : L2.St → Hp → (ρ → Hp → Prop) → Prop} {u : ρ → L2.St → Hp → (τ → Hp → Prop) → Prop} {m : R α} {f : α → R β} {rel : Hp → Hp → Hp → ρ → α → Prop} {rel' : Hp → Hp → Hp → τ → β → Prop}
    (h : EG cf E t G m rel) (k : ∀ (F O H : Hp) (σ : L2.St) (Q : τ → Hp → Prop) (a : α) (r : ρ), Fm F O H → Er cf.K F O σ G → rel F O H r a → f a ≠ .bad →
      (∀ b r' F' H', f a = .ok b → Le F F' → Fm F' O H' → rel' F' O H' r' b → Q r' H') →
      (∀ c p d F' H', f a = .er c p → Le F F' → Fm F' O H' → F' d = some (xdO cf c p) → E (.ref (cf.cls c)) (some d) H') → u r σ H Q) :
    EG cf E (fun σ H Q => t σ H fun r H1 => u r σ H1 Q) G (m.bind f) rel' := fun F O H σ Q hf he nb ko ke => by
  refine h F O H σ _ hf he (R.bind_nb nb) (fun a r F' H' ea le hf' hr => ?_) (fun c p d F' H' ea le hf' hd => ke c p d F' H' (by rw [ea]; rfl) le hf' hd)
  subst ea
  exact k F' O H' σ Q a r hf' (he.mono le) hr nb (fun b r' F'' H'' e le' => ko b r' F'' H'' e (le.trans le')) (fun c p d F'' H'' e le' => ke c p d F'' H'' e (le.trans le'))
theorem EG.imp {t : L2.St → Hp → (ρ → Hp → Prop) → Prop} {m : R α} {rel rel' : Hp → Hp → Hp → ρ → α → Prop} (h : EG cf E t G m rel) (w : ∀ F O H r a, Fm F O H → rel F O H r a → rel' F O H r a) : EG cf E t G m rel' :=
  fun F O H σ Q hf he nb ko ke => h F O H σ Q hf he nb (fun a r F' H' e le hf' hr => ko a r F' H' e le hf' (w F' O H' r a hf' hr)) ke
/-- conclude a reading that gives a value at once -/
theorem EG.fin {t : L2.St → Hp → (ρ → Hp → Prop) → Prop} {a : α} {rel : Hp → Hp → Hp → ρ → α → Prop} (h : ∀ (F O H : Hp) (σ : L2.St) (Q : ρ → Hp → Prop), Fm F O H → Er cf.K F O σ G → (∀ r F' H', Le F F' → Fm F' O H' → rel F' O H' r a → Q r H') → t σ H Q) : EG cf E t G (.ok a) rel :=
  fun F O H σ Q hf he _ ko _ => h F O H σ Q hf he fun r F' H' le hf' hr => ko a r F' H' rfl le hf' hr
theorem EG.cast {t : L2.St → Hp → (ρ → Hp → Prop) → Prop} {m n : R α} {rel : Hp → Hp → Hp → ρ → α → Prop} (h : EG cf E t G m rel) (e : m = n) : EG cf E t G n rel := e ▸ h
/-- a fresh list is let go: data -/
theorem EF.toM [Enc α] {t : TE} {m : R (List α)} (h : EF cf E t G m) : EM cf E t G m := fun F O H σ Q hf he nb ko ke => by
  refine h F O H σ Q hf he nb (fun xs v F' H' e le hf' hr => ?_) ke
  obtain ⟨a, vs, rfl, hFa, hOa, hHa, r⟩ := hr
  have le2 : Le F' (upd F' a (.lst vs)) := Le.new hFa
  refine ko xs _ (upd F' a (.lst vs)) H' e (le.trans le2) ⟨fun b o q => ?_, hf'.o, fun b q => ?_⟩ (.lst upd_same (r.mono le2))
  · by_cases hb : b = a
    · subst hb
      rw [upd_same] at q
      rw [hHa]
      exact q
    · rw [upd_ne hb] at q
      exact hf'.f b o q
  · by_cases hb : b = a
    · subst hb
      exact hOa
    · rw [upd_ne hb] at q
      exact hf'.ds b q
theorem EM.toL [Enc α] {t : TE} {m : R (List α)} (h : EM cf E t G m) : EL cf E t G m := EG.imp h fun F O H v xs _ r => by
  obtain ⟨a, vs, e, h1, h2⟩ := dr_lst r
  exact ⟨a, vs, e, .inl h1, h2⟩
theorem EL.toS [Enc α] {t : TE} {m : R (List α)} (h : EL cf E t G m) : ES cf E t G m := EG.imp h fun F O H v xs _ r => by
  obtain ⟨a, vs, e, h1, h2⟩ := r
  rcases h1 with h1 | h1
  · exact ⟨a, vs, e, .inl (SqL.of h1), h2⟩
  · exact ⟨a, vs, e, .inr h1, h2⟩
theorem EM.toS [Enc α] {t : TE} {m : R (List α)} (h : EM cf E t G m) : ES cf E t G m := EL.toS (EM.toL h)
theorem EF.toL [Enc α] {t : TE} {m : R (List α)} (h : EF cf E t G m) : EL cf E t G m := EM.toL (EF.toM h)
theorem EF.toS [Enc α] {t : TE} {m : R (List α)} (h : EF cf E t G m) : ES cf E t G m := EM.toS (EF.toM h)
theorem drA_ints {K : PySem.W.Frag} {F : Hp} : ∀ ns : List Int, DrA K F (ns.map V.int) (ns.map toD)
  | [] => .nil
  | n :: r => .cons (.int n) (drA_ints r)
theorem ints_of_drA {K : PySem.W.Frag} {F : Hp} : ∀ {ns : List Int} {vs : List V}, DrA K F vs (ns.map toD) → vs = ns.map V.int
  | [], _, h => by rw [drA_nil h]; rfl
  | n :: r, _, h => by
    obtain ⟨v, q, rfl, h1, h2⟩ := drA_cons h
    rw [ints_of_drA h2, dr_int (i := n) h1]
    rfl
theorem bls_of_drA {K : PySem.W.Frag} {F : Hp} : ∀ {ns : List Bool} {vs : List V}, DrA K F vs (ns.map toD) → vs = ns.map V.bl
  | [], _, h => by rw [drA_nil h]; rfl
  | n :: r, _, h => by
    obtain ⟨v, q, rfl, h1, h2⟩ := drA_cons h
    rw [bls_of_drA h2, dr_bl (i := n) h1]
    rfl
/-- the script as a list of ints -/
theorem EM.scr {t : TE} {m : R Scr} (h : EM cf E t G m) : ES cf E t G (m.bind fun s => .ok s.ns) := fun F O H σ Q hf he nb ko ke => by
  refine h F O H σ Q hf he (R.bind_nb nb) (fun s v F' H' e le hf' hr => ?_) (fun c p d F' H' e => ke c p d F' H' (by rw [e]; rfl))
  obtain ⟨a, ea, hs⟩ := dr_scr (ns := s.ns) hr
  exact ko s.ns _ F' H' (by rw [e]; rfl) le hf' ⟨a, _, ea, .inl hs, drA_ints s.ns⟩

/-! ### names, constants -/
theorem em_var [Enc α] (i : Nat) (a : α) (h : G[i]? = some (.va (toD a))) : EM cf E (tVar i) G (.ok a) := EG.fin fun F O H σ Q hf he ko => by
  obtain ⟨v, e, r⟩ := he.at' i _ h
  exact ⟨v, e, ko v F H (Le.refl F) hf r⟩
theorem el_own [Enc α] (i : Nat) (xs : List α) (h : G[i]? = some (.ol (xs.map toD))) : EL cf E (tVar i) G (.ok xs) := EG.fin fun F O H σ Q hf he ko => by
  obtain ⟨a, vs, e, h1, r⟩ := he.at' i _ h
  exact ⟨_, e, ko _ F H (Le.refl F) hf ⟨a, vs, rfl, .inr h1, r⟩⟩
theorem em_int (i : Int) : EM cf E (tC (.int i)) G (.ok i) := EG.fin fun F O H σ Q hf he ko => ko _ F H (Le.refl F) hf (.int i)
theorem em_bl (i : Bool) : EM cf E (tC (.bl i)) G (.ok i) := EG.fin fun F O H σ Q hf he ko => ko _ F H (Le.refl F) hf (.bl i)
theorem em_str (i : Str) : EM cf E (tC (.str i)) G (.ok i) := EG.fin fun F O H σ Q hf he ko => ko _ F H (Le.refl F) hf (.str i)
theorem em_none [Enc α] : EM cf E (tC .non) G (.ok (none : Option α)) := EG.fin fun F O H σ Q hf he ko => ko _ F H (Le.refl F) hf .non
theorem em_unit : EM cf E (tC .non) G (.ok ()) := EG.fin fun F O H σ Q hf he ko => ko _ F H (Le.refl F) hf .non
/-- a value where a value or None may be -/
theorem EM.just [Enc α] {t : TE} {m : R α} (h : EM cf E t G m) : EM cf E t G (m.bind fun a => .ok (some a)) := fun F O H σ Q hf he nb ko ke =>
  h F O H σ Q hf he (R.bind_nb nb) (fun a v F' H' e le hf' hr => ko (some a) v F' H' (by rw [e]; rfl) le hf' hr) (fun c p d F' H' e => ke c p d F' H' (by rw [e]; rfl))
theorem EM.inl [Enc α] [Enc β] {t : TE} {m : R α} (h : EM cf E t G m) : EM cf E t G (m.bind fun a => .ok (Sum.inl a : α ⊕ β)) := fun F O H σ Q hf he nb ko ke =>
  h F O H σ Q hf he (R.bind_nb nb) (fun a v F' H' e le hf' hr => ko (.inl a) v F' H' (by rw [e]; rfl) le hf' hr) (fun c p d F' H' e => ke c p d F' H' (by rw [e]; rfl))
theorem EM.inr [Enc α] [Enc β] {t : TE} {m : R β} (h : EM cf E t G m) : EM cf E t G (m.bind fun a => .ok (Sum.inr a : α ⊕ β)) := fun F O H σ Q hf he nb ko ke =>
  h F O H σ Q hf he (R.bind_nb nb) (fun a v F' H' e le hf' hr => ko (.inr a) v F' H' (by rw [e]; rfl) le hf' hr) (fun c p d F' H' e => ke c p d F' H' (by rw [e]; rfl))
end
end Kr

/-! KrB: operators, calls of built-ins, lists, tuples by data. -/
namespace Kr
open PySem PySem.Spec PyProof.Rows L2
open Enc (toD)

section
variable {cf : Cf} {E : XK} {G : List Sl} {α β γ δ ρ ρ' τ : Type}
theorem EG.bind2 {t1 : L2.St → Hp → (ρ → Hp → Prop) → Prop} {t2 : L2.St → Hp → (ρ' → Hp → Prop) → Prop} {m1 : R α} {m2 : R β} {f : α → β → R γ} {rel1 : Hp → Hp → Hp → ρ → α → Prop} {rel2 : Hp → Hp → Hp → ρ' → β → Prop} {rel3 : Hp → Hp → Hp → τ → γ → Prop}
    {u : ρ → ρ' → Hp → (τ → Hp → Prop) → Prop} (h1 : EG cf E t1 G m1 rel1) (h2 : EG cf E t2 G m2 rel2) (mono : ∀ F O H F' H' r a, Le F F' → Fm F' O H' → rel1 F O H r a → rel1 F' O H' r a)
    (k : ∀ (F O H : Hp) (Q : τ → Hp → Prop) (a : α) (r : ρ) (b : β) (s : ρ'), Fm F O H → rel1 F O H r a → rel2 F O H s b → f a b ≠ .bad → (∀ c x F' H', f a b = .ok c → Le F F' → Fm F' O H' → rel3 F' O H' x c → Q x H') → u r s H Q) :
    EG cf E (fun σ H Q => t1 σ H fun r H1 => t2 σ H1 fun s H2 => u r s H2 Q) G (m1.bind fun a => m2.bind fun b => f a b) rel3 :=
  EG.bind (u := fun r σ H Q => t2 σ H fun s H2 => u r s H2 Q) h1 fun F O H σ Q a r hf he hr nb ko ke =>
    h2 F O H σ _ hf he (R.bind_nb nb) (fun b s F' H' eb le hf' hs => k F' O H' Q a r b s hf' (mono F O H F' H' r a le hf' hr) hs (by rw [eb] at nb; exact nb) fun c x F'' H'' e le' => ko c x F'' H'' (by rw [eb]; exact e) (le.trans le'))
      fun c p d F' H' e => ke c p d F' H' (by rw [e]; rfl)
/-- one reading, then a step that raises nothing -/
theorem EG.bind1 {t1 : L2.St → Hp → (ρ → Hp → Prop) → Prop} {m1 : R α} {f : α → R γ} {rel1 : Hp → Hp → Hp → ρ → α → Prop} {rel3 : Hp → Hp → Hp → τ → γ → Prop}
    {u : ρ → Hp → (τ → Hp → Prop) → Prop} (h1 : EG cf E t1 G m1 rel1)
    (k : ∀ (F O H : Hp) (Q : τ → Hp → Prop) (a : α) (r : ρ), Fm F O H → rel1 F O H r a → f a ≠ .bad → (∀ c x F' H', f a = .ok c → Le F F' → Fm F' O H' → rel3 F' O H' x c → Q x H') → u r H Q) :
    EG cf E (fun σ H Q => t1 σ H fun r H1 => u r H1 Q) G (m1.bind f) rel3 :=
  EG.bind (u := fun r σ H Q => u r H Q) h1 fun F O H σ Q a r hf he hr nb ko ke => k F O H Q a r hf hr nb ko
theorem EG.bind3 {ρ'' : Type} {t1 : L2.St → Hp → (ρ → Hp → Prop) → Prop} {t2 : L2.St → Hp → (ρ' → Hp → Prop) → Prop} {t3 : L2.St → Hp → (ρ'' → Hp → Prop) → Prop} {m1 : R α} {m2 : R β} {m3 : R γ} {f : α → β → γ → R δ}
    {rel1 : Hp → Hp → Hp → ρ → α → Prop} {rel2 : Hp → Hp → Hp → ρ' → β → Prop} {rel3 : Hp → Hp → Hp → ρ'' → γ → Prop} {rel4 : Hp → Hp → Hp → τ → δ → Prop}
    {u : ρ → ρ' → ρ'' → Hp → (τ → Hp → Prop) → Prop} (h1 : EG cf E t1 G m1 rel1) (h2 : EG cf E t2 G m2 rel2) (h3 : EG cf E t3 G m3 rel3)
    (mono1 : ∀ F O H F' H' r a, Le F F' → Fm F' O H' → rel1 F O H r a → rel1 F' O H' r a) (mono2 : ∀ F O H F' H' r a, Le F F' → Fm F' O H' → rel2 F O H r a → rel2 F' O H' r a)
    (k : ∀ (F O H : Hp) (Q : τ → Hp → Prop) (a : α) (r : ρ) (b : β) (s : ρ') (c : γ) (t : ρ''), Fm F O H → rel1 F O H r a → rel2 F O H s b → rel3 F O H t c → f a b c ≠ .bad → (∀ d x F' H', f a b c = .ok d → Le F F' → Fm F' O H' → rel4 F' O H' x d → Q x H') → u r s t H Q) :
    EG cf E (fun σ H Q => t1 σ H fun r H1 => t2 σ H1 fun s H2 => t3 σ H2 fun t H3 => u r s t H3 Q) G (m1.bind fun a => m2.bind fun b => m3.bind fun c => f a b c) rel4 :=
  EG.bind (u := fun r σ H Q => t2 σ H fun s H2 => t3 σ H2 fun t H3 => u r s t H3 Q) h1 fun F O H σ Q a r hf he hr nb ko ke =>
    h2 F O H σ _ hf he (R.bind_nb nb) (fun b s F' H' eb le hf' hs => by
      rw [eb, R.ok_bind] at nb ko ke
      exact h3 F' O H' σ _ hf' (he.mono le) (R.bind_nb nb) (fun c t F'' H'' ec le' hf'' ht => k F'' O H'' Q a r b s c t hf'' (mono1 F O H F'' H'' r a (le.trans le') hf'' hr) (mono2 F' O H' F'' H'' s b le' hf'' hs) ht (by rw [ec] at nb; exact nb)
        fun d x F3 H3 e le3 => ko d x F3 H3 (by rw [ec]; exact e) ((le.trans le').trans le3)) fun c p d F'' H'' e le' => ke c p d F'' H'' (by rw [e]; rfl) (le.trans le'))
      fun c p d F' H' e => ke c p d F' H' (by rw [e]; rfl)
theorem rm_mono [Enc α] (F O H F' H' : Hp) (r : V) (a : α) (le : Le F F') (_ : Fm F' O H') (h : RM cf F O H r a) : RM cf F' O H' r a := Dr.mono le h
theorem rl_mono [Enc α] (F O H F' H' : Hp) (r : V) (a : List α) (le : Le F F') (_ : Fm F' O H') (h : RL cf F O H r a) : RL cf F' O H' r a := by
  obtain ⟨a, vs, e, h1, h2⟩ := h
  exact ⟨a, vs, e, h1.imp (le _ _) id, h2.mono le⟩
theorem rs_mono [Enc α] (F O H F' H' : Hp) (r : V) (a : List α) (le : Le F F') (_ : Fm F' O H') (h : RS cf F O H r a) : RS cf F' O H' r a := by
  obtain ⟨a, vs, e, h1, h2⟩ := h
  exact ⟨a, vs, e, h1.imp le.seq id, h2.mono le⟩
theorem RS.seq [Enc α] {F O H : Hp} {v : V} {xs : List α} (h : RS cf F O H v xs) (hf : Fm F O H) : ∃ a vs, v = .ref a ∧ SqL cf.K H a vs ∧ DrA cf.K F vs (xs.map toD) := by
  obtain ⟨a, vs, e, h1, h2⟩ := h
  rcases h1 with h1 | h1
  · exact ⟨a, vs, e, hf.f.seq h1, h2⟩
  · exact ⟨a, vs, e, SqL.of (hf.o _ _ h1), h2⟩
theorem RL.at [Enc α] {F O H : Hp} {v : V} {xs : List α} (h : RL cf F O H v xs) (hf : Fm F O H) : ∃ a vs, v = .ref a ∧ H a = some (.lst vs) ∧ DrA cf.K F vs (xs.map toD) := by
  obtain ⟨a, vs, e, h1, h2⟩ := h
  rcases h1 with h1 | h1
  · exact ⟨a, vs, e, hf.f _ _ h1, h2⟩
  · exact ⟨a, vs, e, hf.o _ _ h1, h2⟩

/-! ### numbers -/
variable {ta tb tc : TE}
theorem em_I0 {g : Int → Int → Int} {ma mb : R Int} (ha : EM cf E ta G ma) (hb : EM cf E tb G mb) : EM cf E (tOp (rI0 fun i j => .int (g i j)) ta tb) G (ma.bind fun a => mb.bind fun b => .ok (g a b)) :=
  EG.bind2 (u := fun x y H Q => rI0 (fun i j => .int (g i j)) x y H Q) ha hb rm_mono fun F O H Q a r b s hf h1 h2 _ ko => ⟨a, b, dr_int h1, dr_int h2, ko _ _ F H rfl (Le.refl F) hf (.int _)⟩
theorem em_B0 {g : Int → Int → Bool} {ma mb : R Int} (ha : EM cf E ta G ma) (hb : EM cf E tb G mb) : EM cf E (tOp (rI0 fun i j => .bl (g i j)) ta tb) G (ma.bind fun a => mb.bind fun b => .ok (g a b)) :=
  EG.bind2 (u := fun x y H Q => rI0 (fun i j => .bl (g i j)) x y H Q) ha hb rm_mono fun F O H Q a r b s hf h1 h2 _ ko => ⟨a, b, dr_int h1, dr_int h2, ko _ _ F H rfl (Le.refl F) hf (.bl _)⟩
/-- an operation on two ints under a condition -/
theorem em_IC {C : Int → Int → Prop} {g : Int → Int → Int} {f : Int → Int → R Int} (hC : ∀ a b, f a b ≠ .bad → C a b ∧ f a b = .ok (g a b)) {ma mb : R Int} (ha : EM cf E ta G ma) (hb : EM cf E tb G mb) :
    EM cf E (tOp (rI C fun i j => .int (g i j)) ta tb) G (ma.bind fun a => mb.bind fun b => f a b) :=
  EG.bind2 (u := fun x y H Q => rI C (fun i j => .int (g i j)) x y H Q) ha hb rm_mono fun F O H Q a r b s hf h1 h2 nb ko => ⟨a, b, dr_int h1, dr_int h2, (hC a b nb).1, ko _ _ F H (hC a b nb).2 (Le.refl F) hf (.int _)⟩
theorem em_neg {ma : R Int} (ha : EM cf E ta G ma) : EM cf E (tUn (rU fun i => .int (-i)) ta) G (ma.bind fun a => .ok (-a)) :=
  EG.bind1 (u := fun x H Q => rU (fun i => .int (-i)) x H Q) ha fun F O H Q a r hf h1 _ ko => ⟨a, dr_int h1, ko _ _ F H rfl (Le.refl F) hf (.int _)⟩
/-- * -/
def mulR (a b : Int) : R Int := if (Builtin.Int.intBits a : Int) + (Builtin.Int.intBits b : Int) ≤ 134217728 then .ok (a * b) else .bad
def divR (a b : Int) : R Int := if 0 < b ∧ b.natAbs.log2 < 9000 then .ok (a / b) else .bad
def modR (a b : Int) : R Int := if 0 < b then .ok (a % b) else .bad
def shlR (a b : Int) : R Int := if 0 ≤ b ∧ (Builtin.Int.intBits a : Int) + b ≤ 134217728 then .ok (a * 2 ^ b.toNat) else .bad
def shrR (a b : Int) : R Int := if 0 ≤ b then .ok (a / 2 ^ b.toNat) else .bad
theorem em_mul {ma mb : R Int} (ha : EM cf E ta G ma) (hb : EM cf E tb G mb) : EM cf E (tOp (rI CMulX fun i j => .int (i * j)) ta tb) G (ma.bind fun a => mb.bind fun b => mulR a b) := em_IC (f := mulR) (g := fun a b => a * b) (fun a b h => by
  unfold mulR at *
  split at h
  · rename_i c
    rw [if_pos c]
    exact ⟨c, rfl⟩
  · exact absurd rfl h) ha hb
theorem em_div {ma mb : R Int} (ha : EM cf E ta G ma) (hb : EM cf E tb G mb) : EM cf E (tOp (rI CDivW fun i j => .int (i / j)) ta tb) G (ma.bind fun a => mb.bind fun b => divR a b) := em_IC (f := divR) (g := fun a b => a / b) (fun a b h => by
  unfold divR at *
  split at h
  · rename_i c
    rw [if_pos c]
    exact ⟨c, rfl⟩
  · exact absurd rfl h) ha hb
theorem em_mod {ma mb : R Int} (ha : EM cf E ta G ma) (hb : EM cf E tb G mb) : EM cf E (tOp (rI (fun _ j => 0 < j) fun i j => .int (i % j)) ta tb) G (ma.bind fun a => mb.bind fun b => modR a b) := em_IC (f := modR) (g := fun a b => a % b) (fun a b h => by
  unfold modR at *
  split at h
  · rename_i c
    rw [if_pos c]
    exact ⟨c, rfl⟩
  · exact absurd rfl h) ha hb
theorem em_shl {ma mb : R Int} (ha : EM cf E ta G ma) (hb : EM cf E tb G mb) : EM cf E (tOp (rI CShl fun i j => .int (i * 2 ^ j.toNat)) ta tb) G (ma.bind fun a => mb.bind fun b => shlR a b) := em_IC (f := shlR) (g := fun a b => a * 2 ^ b.toNat) (fun a b h => by
  unfold shlR at *
  split at h
  · rename_i c
    rw [if_pos c]
    exact ⟨c, rfl⟩
  · exact absurd rfl h) ha hb
theorem em_shr {ma mb : R Int} (ha : EM cf E ta G ma) (hb : EM cf E tb G mb) : EM cf E (tOp (rI (fun _ j => 0 ≤ j) fun i j => .int (i / 2 ^ j.toNat)) ta tb) G (ma.bind fun a => mb.bind fun b => shrR a b) := em_IC (f := shrR) (g := fun a b => a / 2 ^ b.toNat) (fun a b h => by
  unfold shrR at *
  split at h
  · rename_i c
    rw [if_pos c]
    exact ⟨c, rfl⟩
  · exact absurd rfl h) ha hb
theorem em_bits {ma : R Int} (ha : EM cf E ta G ma) : EM cf E (tBits ta) G (ma.bind fun a => .ok ((Builtin.Int.intBits a : Nat) : Int)) :=
  EG.bind1 (u := fun (x : V) H Q => ∃ i, x = .int i ∧ Q (V.int (Builtin.Int.intBits i : Nat)) H) ha fun F O H Q a r hf h1 _ ko => ⟨a, dr_int h1, ko _ _ F H rfl (Le.refl F) hf (.int _)⟩

/-! ### comparisons of scalars, None, tests -/
theorem dr_scal {K : PySem.W.Frag} {F : Hp} {i : Int} {v : V} (h : Dr K F v (.int i)) : v = .int i := dr_int h
theorem em_eqI {ma mb : R Int} (ha : EM cf E ta G ma) (hb : EM cf E tb G mb) : EM cf E (tOp rEq ta tb) G (ma.bind fun a => mb.bind fun b => .ok (decide (a = b))) :=
  EG.bind2 (u := fun x y H Q => rEq x y H Q) ha hb rm_mono fun F O H Q a r b s hf h1 h2 _ ko => by
    rw [dr_int (i := a) h1, dr_int (i := b) h2]
    refine ⟨rfl, ?_⟩
    rw [show decide (V.int a = V.int b) = decide (a = b) by by_cases e : a = b <;> simp [e]]
    exact ko _ _ F H rfl (Le.refl F) hf (.bl _)
theorem em_neI {ma mb : R Int} (ha : EM cf E ta G ma) (hb : EM cf E tb G mb) : EM cf E (tOp rNe ta tb) G (ma.bind fun a => mb.bind fun b => .ok (!decide (a = b))) :=
  EG.bind2 (u := fun x y H Q => rNe x y H Q) ha hb rm_mono fun F O H Q a r b s hf h1 h2 _ ko => by
    rw [dr_int (i := a) h1, dr_int (i := b) h2]
    refine ⟨rfl, ?_⟩
    rw [show decide (V.int a = V.int b) = decide (a = b) by by_cases e : a = b <;> simp [e]]
    exact ko _ _ F H rfl (Le.refl F) hf (.bl _)
theorem em_eqB {ma mb : R Bool} (ha : EM cf E ta G ma) (hb : EM cf E tb G mb) : EM cf E (tOp rEq ta tb) G (ma.bind fun a => mb.bind fun b => .ok (decide (a = b))) :=
  EG.bind2 (u := fun x y H Q => rEq x y H Q) ha hb rm_mono fun F O H Q a r b s hf h1 h2 _ ko => by
    rw [dr_bl (i := a) h1, dr_bl (i := b) h2]
    refine ⟨rfl, ?_⟩
    rw [show decide (V.bl a = V.bl b) = decide (a = b) by by_cases e : a = b <;> simp [e]]
    exact ko _ _ F H rfl (Le.refl F) hf (.bl _)
theorem em_neB {ma mb : R Bool} (ha : EM cf E ta G ma) (hb : EM cf E tb G mb) : EM cf E (tOp rNe ta tb) G (ma.bind fun a => mb.bind fun b => .ok (!decide (a = b))) :=
  EG.bind2 (u := fun x y H Q => rNe x y H Q) ha hb rm_mono fun F O H Q a r b s hf h1 h2 _ ko => by
    rw [dr_bl (i := a) h1, dr_bl (i := b) h2]
    refine ⟨rfl, ?_⟩
    rw [show decide (V.bl a = V.bl b) = decide (a = b) by by_cases e : a = b <;> simp [e]]
    exact ko _ _ F H rfl (Le.refl F) hf (.bl _)
theorem isNone_of [Enc α] [NN α] {K : PySem.W.Frag} {F : Hp} {v : V} {o : Option α} (h : Dr K F v (toD o)) : decide (v = .non) = o.isNone := by
  cases o with
  | none =>
    rw [dr_non h]
    rfl
  | some a =>
    refine decide_eq_false fun e => ?_
    subst e
    have h' : Dr K F .non (toD a) := h
    generalize q : toD a = d at h'
    cases h'
    exact NN.nn a q
theorem em_isN [Enc α] [NN α] {ma : R (Option α)} (ha : EM cf E ta G ma) : EM cf E (tOp (fun x y H Q => y = .non ∧ Q (.bl (decide (x = .non))) H) ta (tC .non)) G (ma.bind fun a => .ok a.isNone) :=
  EG.bind1 (u := fun (x : V) (H : Hp) (Q : VK) => (V.non = V.non ∧ Q (V.bl (decide (x = V.non))) H)) ha fun F O H Q a r hf h1 _ ko => by
    rw [isNone_of h1]
    exact ⟨rfl, ko _ _ F H rfl (Le.refl F) hf (.bl _)⟩
theorem em_notN [Enc α] [NN α] {ma : R (Option α)} (ha : EM cf E ta G ma) : EM cf E (tOp (fun x y H Q => y = .non ∧ Q (.bl (!decide (x = .non))) H) ta (tC .non)) G (ma.bind fun a => .ok a.isSome) :=
  EG.bind1 (u := fun (x : V) (H : Hp) (Q : VK) => (V.non = V.non ∧ Q (V.bl (!decide (x = V.non))) H)) ha fun F O H Q a r hf h1 _ ko => by
    rw [isNone_of h1]
    exact ⟨rfl, ko _ _ F H rfl (Le.refl F) hf (by cases a <;> exact .bl _)⟩
theorem eb_test {ma : R Bool} (ha : EM cf E ta G ma) : EB cf E (tTest ta) G ma := fun F O H σ Q hf he nb ko ke =>
  ha F O H σ _ hf he nb (fun a v F' H' e le hf' hr => ⟨a, dr_bl hr, ko a a F' H' e le hf' rfl⟩) ke
theorem eb_B {ma : R Bool} (ha : EM cf E ta G ma) : EB cf E (tB ta) G ma := fun F O H σ Q hf he nb ko ke =>
  ha F O H σ _ hf he nb (fun a v F' H' e le hf' hr => ⟨a, dr_bl hr, ko a a F' H' e le hf' rfl⟩) ke
variable {t u : TT}
theorem eb_and {ma mb : R Bool} (ha : EB cf E t G ma) (hb : EB cf E u G mb) : EB cf E (tAnd t u) G (ma.bind fun a => if a = true then mb else .ok false) :=
  EG.bind (u := fun c σ H Q => if c = true then u σ H Q else Q false H) ha fun F O H σ Q a r hf he hr nb ko ke => by
    obtain rfl : r = a := hr
    cases r with
    | true => exact hb F O H σ Q hf he nb ko ke
    | false => exact ko false false F H rfl (Le.refl F) hf rfl
theorem eb_or {ma mb : R Bool} (ha : EB cf E t G ma) (hb : EB cf E u G mb) : EB cf E (tOr t u) G (ma.bind fun a => if a = true then .ok true else mb) :=
  EG.bind (u := fun c σ H Q => if c = true then Q true H else u σ H Q) ha fun F O H σ Q a r hf he hr nb ko ke => by
    obtain rfl : r = a := hr
    cases r with
    | true => exact ko true true F H rfl (Le.refl F) hf rfl
    | false => exact hb F O H σ Q hf he nb ko ke
theorem eb_not {ma : R Bool} (ha : EB cf E t G ma) : EB cf E (tNot t) G (ma.bind fun a => .ok (!a)) :=
  EG.bind1 (u := fun c H Q => Q (!c) H) ha fun F O H Q a r hf hr _ ko => by
    obtain rfl : r = a := hr
    exact ko _ _ F H rfl (Le.refl F) hf rfl
theorem em_and {ma mb : R Bool} (ha : EM cf E ta G ma) (hb : EM cf E tb G mb) : EM cf E (tAndV ta tb) G (ma.bind fun a => if a = true then mb else .ok false) :=
  EG.bind (u := fun (x : V) σ H (Q : VK) => ∃ c, x = V.bl c ∧ if c = true then tb σ H Q else Q (.bl false) H) ha fun F O H σ Q a r hf he hr nb ko ke => ⟨a, dr_bl hr, by
    cases a with
    | true => exact hb F O H σ Q hf he nb ko ke
    | false => exact ko false _ F H rfl (Le.refl F) hf (.bl false)⟩
theorem em_or {ma mb : R Bool} (ha : EM cf E ta G ma) (hb : EM cf E tb G mb) : EM cf E (tOrV ta tb) G (ma.bind fun a => if a = true then .ok true else mb) :=
  EG.bind (u := fun (x : V) σ H (Q : VK) => ∃ c, x = V.bl c ∧ if c = true then Q (.bl true) H else tb σ H Q) ha fun F O H σ Q a r hf he hr nb ko ke => ⟨a, dr_bl hr, by
    cases a with
    | true => exact ko true _ F H rfl (Le.refl F) hf (.bl true)
    | false => exact hb F O H σ Q hf he nb ko ke⟩
theorem em_not {ma : R Bool} (ha : EM cf E ta G ma) : EM cf E (tNotV ta) G (ma.bind fun a => .ok (!a)) :=
  EG.bind1 (u := fun (x : V) H (Q : VK) => ∃ c, x = V.bl c ∧ Q (V.bl (!c)) H) ha fun F O H Q a r hf hr _ ko => ⟨a, dr_bl hr, ko _ _ F H rfl (Le.refl F) hf (.bl _)⟩
theorem em_if [Enc α] {mt : R Bool} {ma mb : R α} (ht : EB cf E t G mt) (ha : EM cf E ta G ma) (hb : EM cf E tb G mb) : EM cf E (tIf t ta tb) G (mt.bind fun c => if c = true then ma else mb) :=
  EG.bind (u := fun c σ H Q => if c = true then ta σ H Q else tb σ H Q) ht fun F O H σ Q a r hf he hr nb ko ke => by
    obtain rfl : r = a := hr
    cases r with
    | true => exact ha F O H σ Q hf he nb ko ke
    | false => exact hb F O H σ Q hf he nb ko ke
end
end Kr

/-! KrC: lists, tuples, built-in calls by data. -/
namespace Kr
open PySem PySem.Spec PyProof.Rows L2
open Enc (toD)

section
variable {cf : Cf} {E : XK} {G : List Sl} {α β γ δ : Type} {ta tb tc : TE}
/-! ### chains -/
theorem em_chain {g g' : Int → Int → Bool} {ma mb mc : R Int} (ha : EM cf E ta G ma) (hb : EM cf E tb G mb) (hc : EM cf E tc G mc) :
    EM cf E (tChain (rI0 fun i j => .bl (g i j)) (rI0 fun i j => .bl (g' i j)) ta tb tc) G (ma.bind fun a => mb.bind fun b => if g a b = true then mc.bind fun c => .ok (g' b c) else .ok false) :=
  EG.bind (u := fun x σ H Q => tb σ H fun y H2 => rI0 (fun i j => .bl (g i j)) x y H2 fun z H3 => ∃ k, z = .bl k ∧ (if k = true then tc σ H3 fun w' H4 => rI0 (fun i j => .bl (g' i j)) y w' H4 Q else Q (.bl false) H3)) ha fun F O H σ Q a x hf he hx nb ko ke =>
    hb F O H σ _ hf he (R.bind_nb nb) (fun b y F' H' eb le hf' hy => ⟨a, b, dr_int hx, dr_int hy, g a b, rfl, by
      rw [eb, R.ok_bind] at nb ko ke
      cases hg : g a b with
      | true =>
        rw [hg, if_pos rfl] at nb ko ke
        rw [if_pos rfl]
        exact hc F' O H' σ _ hf' (he.mono le) (R.bind_nb nb) (fun c w' F'' H'' ec le' hf'' hw => ⟨b, c, dr_int hy, dr_int hw, ko _ _ F'' H'' (by rw [ec]; rfl) (le.trans le') hf'' (.bl _)⟩) fun c p d F'' H'' e le' => ke c p d F'' H'' (by rw [e]; rfl) (le.trans le')
      | false =>
        rw [hg, if_neg Bool.false_ne_true] at ko
        rw [if_neg Bool.false_ne_true]
        exact ko _ _ F' H' rfl le hf' (.bl _)⟩) fun c p d F' H' e => ke c p d F' H' (by rw [e]; rfl)

/-! ### arguments, displays -/
theorem ea_nil : EA cf E tNil G (.ok []) := EG.fin fun F O H σ Q hf he ko => ko _ F H (Le.refl F) hf .nil
theorem ea_cons [Enc α] {t : TE} {tr : TA} {m : R α} {mr : R (List Dt)} (h : EM cf E t G m) (hr : EA cf E tr G mr) : EA cf E (tCons t tr) G (m.bind fun a => mr.bind fun ds => .ok (toD a :: ds)) :=
  EG.bind2 (u := fun x xs H Q => Q (x :: xs) H) h hr rm_mono fun F O H Q a r b s hf h1 h2 _ ko => ko _ _ F H rfl (Le.refl F) hf (.cons h1 h2)
/-- arguments of one type -/
def EAs [Enc α] (cf : Cf) (E : XK) (t : TA) (G : List Sl) (m : R (List α)) : Prop := EG cf E t G m fun F _ _ vs xs => DrA cf.K F vs (xs.map toD)
theorem eas_nil [Enc α] : EAs cf E tNil G (.ok ([] : List α)) := EG.fin fun F O H σ Q hf he ko => ko _ F H (Le.refl F) hf .nil
theorem eas_cons [Enc α] {t : TE} {tr : TA} {m : R α} {mr : R (List α)} (h : EM cf E t G m) (hr : EAs cf E tr G mr) : EAs cf E (tCons t tr) G (m.bind fun a => mr.bind fun ds => .ok (a :: ds)) :=
  EG.bind2 (u := fun x xs H Q => Q (x :: xs) H) h hr rm_mono fun F O H Q a r b s hf h1 h2 _ ko => ko _ _ F H rfl (Le.refl F) hf (.cons h1 h2)
theorem sz_of {n : Nat} (h : n ≤ 100000) : n ≤ sizeLine := Nat.le_trans h (by decide)
theorem sz_lt {n : Nat} (h : n < 100000) : n < sizeLine := Nat.lt_of_lt_of_le h (by decide)
/-- a list that does not grow too long -/
def szR (xs : List α) : R (List α) := if xs.length ≤ 1000000 then .ok xs else .bad
theorem szR_ok {xs : List α} (h : xs.length ≤ 1000000) : szR xs = .ok xs := if_pos h
theorem szR_nb {xs : List α} (h : szR xs ≠ .bad) : xs.length ≤ 1000000 ∧ szR xs = .ok xs := by
  unfold szR at *
  split at h
  · rename_i c
    exact ⟨c, if_pos c⟩
  · exact absurd rfl h
theorem sz_le {n : Nat} (h : n ≤ 1000000) : n ≤ sizeLine := Nat.le_trans h (by decide)
theorem sz_ltM {n : Nat} (h : n ≤ 1000000) : n < sizeLine := Nat.lt_of_le_of_lt h (by decide)
theorem ef_lst [Enc α] {t : TA} {m : R (List α)} (h : EAs cf E t G m) : EF cf E (tLst t) G (m.bind szR) :=
  EG.bind1 (u := fun (vs : List V) (H : Hp) (Q : VK) => vs.length ≤ sizeLine ∧ ∀ p, H p = none → Q (.ref p) (upd H p (.lst vs))) h fun F O H Q a r hf h1 nb ko => by
    obtain ⟨c, e⟩ := szR_nb nb
    refine ⟨?_, fun p hp => ko _ _ F _ e (Le.refl F) (hf.newH hp) ⟨p, r, rfl, hf.fnone hp, hf.onone hp, upd_same, h1⟩⟩
    rw [DrA.length h1, List.length_map]
    exact sz_le c
theorem em_tup2 [Enc α] [Enc β] {m : R α} {n : R β} (h : EM cf E ta G m) (h' : EM cf E tb G n) : EM cf E (tTup (tCons ta (tCons tb tNil))) G (m.bind fun a => n.bind fun b => .ok (a, b)) :=
  EG.bind2 (u := fun (x y : V) (H : Hp) (Q : VK) => 2 ≤ sizeLine ∧ ∀ p, H p = none → Q (.ref p) (upd H p (.tup [x, y]))) h h' rm_mono fun F O H Q a r b s hf h1 h2 _ ko =>
    ⟨by decide, fun p hp => ko _ _ (upd F p (.tup [r, s])) _ rfl (Le.new (hf.fnone hp)) (hf.newF hp) (.tup upd_same (.cons (Dr.mono (Le.new (hf.fnone hp)) h1) (.cons (Dr.mono (Le.new (hf.fnone hp)) h2) .nil)))⟩
theorem em_tup3 [Enc α] [Enc β] [Enc γ] {m : R α} {n : R β} {l : R γ} (h : EM cf E ta G m) (h' : EM cf E tb G n) (h'' : EM cf E tc G l) : EM cf E (tTup (tCons ta (tCons tb (tCons tc tNil)))) G (m.bind fun a => n.bind fun b => l.bind fun c => .ok (T3.mk a b c)) :=
  EG.bind3 (u := fun (x y z : V) (H : Hp) (Q : VK) => 3 ≤ sizeLine ∧ ∀ p, H p = none → Q (.ref p) (upd H p (.tup [x, y, z]))) h h' h'' rm_mono rm_mono fun F O H Q a r b s c t hf h1 h2 h3 _ ko =>
    ⟨by decide, fun p hp => ko _ _ (upd F p (.tup [r, s, t])) _ rfl (Le.new (hf.fnone hp)) (hf.newF hp) (.tup upd_same (.cons (Dr.mono (Le.new (hf.fnone hp)) h1) (.cons (Dr.mono (Le.new (hf.fnone hp)) h2) (.cons (Dr.mono (Le.new (hf.fnone hp)) h3) .nil))))⟩

/-! ### subscripts, slices -/
def idxR (xs : List α) (i : Int) : R α := match atI xs i with
  | some a => .ok a
  | none => .bad
theorem atI_map {β : Type} (f : α → β) (xs : List α) (i : Int) : atI (xs.map f) i = (atI xs i).map f := by
  unfold atI
  rw [List.length_map]
  cases ixN xs.length i with
  | none => rfl
  | some j => simp
theorem atI_drA {K : PySem.W.Frag} {F : Hp} {vs : List V} {ds : List Dt} {i : Int} {d : Dt} (h : DrA K F vs ds) (e : atI ds i = some d) : ∃ v, atI vs i = some v ∧ Dr K F v d := by
  unfold atI at *
  rw [h.length]
  cases q : ixN ds.length i with
  | none =>
    rw [q] at e
    cases e
  | some j =>
    rw [q] at e
    exact h.get e
theorem em_ixL [Enc α] {m : R (List α)} {n : R Int} (h : ES cf E ta G m) (h' : EM cf E tb G n) : EM cf E (tOp (rIxL cf.K) ta tb) G (m.bind fun xs => n.bind fun i => idxR xs i) :=
  EG.bind2 (u := fun x y H Q => rIxL cf.K x y H Q) h h' rs_mono fun F O H Q xs r i s hf h1 h2 nb ko => by
    obtain ⟨a, vs, e, hs, hr⟩ := RS.seq h1 hf
    unfold idxR at nb ko
    cases q : atI xs i with
    | none =>
      rw [q] at nb
      exact absurd rfl nb
    | some x =>
      rw [q] at ko
      obtain ⟨v, ev, rv⟩ := atI_drA hr (show atI (xs.map toD) i = some (toD x) by rw [atI_map, q]; rfl)
      exact ⟨a, vs, i, v, e, dr_int h2, hs, ev, ko x v F H rfl (Le.refl F) hf rv⟩
theorem em_fst [Enc α] [Enc β] {m : R (α × β)} (h : EM cf E ta G m) : EM cf E (tOp (rIxT cf.K) ta (tC (.int 0))) G (m.bind fun p => .ok p.1) :=
  EG.bind1 (u := fun x H Q => rIxT cf.K x (.int 0) H Q) h fun F O H Q a r hf h1 _ ko => by
    obtain ⟨p, vs, e, ht, hr⟩ := dr_tup (ds := [toD a.1, toD a.2]) h1
    obtain ⟨v, ev, rv⟩ := atI_drA hr (show atI [toD a.1, toD a.2] 0 = some (toD a.1) from rfl)
    exact ⟨p, vs, 0, v, e, rfl, SqT.of (hf.f _ _ ht), ev, ko _ v F H rfl (Le.refl F) hf rv⟩
theorem em_snd [Enc α] [Enc β] {m : R (α × β)} (h : EM cf E ta G m) : EM cf E (tOp (rIxT cf.K) ta (tC (.int 1))) G (m.bind fun p => .ok p.2) :=
  EG.bind1 (u := fun x H Q => rIxT cf.K x (.int 1) H Q) h fun F O H Q a r hf h1 _ ko => by
    obtain ⟨p, vs, e, ht, hr⟩ := dr_tup (ds := [toD a.1, toD a.2]) h1
    obtain ⟨v, ev, rv⟩ := atI_drA hr (show atI [toD a.1, toD a.2] 1 = some (toD a.2) from rfl)
    exact ⟨p, vs, 1, v, e, rfl, SqT.of (hf.f _ _ ht), ev, ko _ v F H rfl (Le.refl F) hf rv⟩
theorem em_t30 [Enc α] [Enc β] [Enc γ] {m : R (T3 α β γ)} (h : EM cf E ta G m) : EM cf E (tOp (rIxT cf.K) ta (tC (.int 0))) G (m.bind fun p => .ok p.a) :=
  EG.bind1 (u := fun x H Q => rIxT cf.K x (.int 0) H Q) h fun F O H Q a r hf h1 _ ko => by
    obtain ⟨p, vs, e, ht, hr⟩ := dr_tup (ds := [toD a.a, toD a.b, toD a.c]) h1
    obtain ⟨v, ev, rv⟩ := atI_drA hr (show atI [toD a.a, toD a.b, toD a.c] 0 = some (toD a.a) from rfl)
    exact ⟨p, vs, 0, v, e, rfl, SqT.of (hf.f _ _ ht), ev, ko _ v F H rfl (Le.refl F) hf rv⟩
theorem em_t31 [Enc α] [Enc β] [Enc γ] {m : R (T3 α β γ)} (h : EM cf E ta G m) : EM cf E (tOp (rIxT cf.K) ta (tC (.int 1))) G (m.bind fun p => .ok p.b) :=
  EG.bind1 (u := fun x H Q => rIxT cf.K x (.int 1) H Q) h fun F O H Q a r hf h1 _ ko => by
    obtain ⟨p, vs, e, ht, hr⟩ := dr_tup (ds := [toD a.a, toD a.b, toD a.c]) h1
    obtain ⟨v, ev, rv⟩ := atI_drA hr (show atI [toD a.a, toD a.b, toD a.c] 1 = some (toD a.b) from rfl)
    exact ⟨p, vs, 1, v, e, rfl, SqT.of (hf.f _ _ ht), ev, ko _ v F H rfl (Le.refl F) hf rv⟩
theorem em_t32 [Enc α] [Enc β] [Enc γ] {m : R (T3 α β γ)} (h : EM cf E ta G m) : EM cf E (tOp (rIxT cf.K) ta (tC (.int 2))) G (m.bind fun p => .ok p.c) :=
  EG.bind1 (u := fun x H Q => rIxT cf.K x (.int 2) H Q) h fun F O H Q a r hf h1 _ ko => by
    obtain ⟨p, vs, e, ht, hr⟩ := dr_tup (ds := [toD a.a, toD a.b, toD a.c]) h1
    obtain ⟨v, ev, rv⟩ := atI_drA hr (show atI [toD a.a, toD a.b, toD a.c] 2 = some (toD a.c) from rfl)
    exact ⟨p, vs, 2, v, e, rfl, SqT.of (hf.f _ _ ht), ev, ko _ v F H rfl (Le.refl F) hf rv⟩
/-- xs[lo:hi] -/
def cut (xs : List α) (lo hi : Option Int) : List α := (xs.drop (HT.sIx xs.length 0 lo)).take (HT.sIx xs.length xs.length hi - HT.sIx xs.length 0 lo)
theorem cut_map {β : Type} (f : α → β) (xs : List α) (lo hi : Option Int) : cut (xs.map f) lo hi = (cut xs lo hi).map f := by
  unfold cut
  rw [List.length_map, List.map_take, List.map_drop]
theorem cut_drA {K : PySem.W.Frag} {F : Hp} {vs : List V} {ds : List Dt} (lo hi : Option Int) (h : DrA K F vs ds) : DrA K F (cutV vs lo hi) (cut ds lo hi) := by
  unfold cutV cut
  rw [h.length]
  exact (h.drop _).take _
theorem eo_none : EO cf E tNoPart G (.ok none) := EG.fin fun F O H σ Q hf he ko => ko _ F H (Le.refl F) hf rfl
theorem eo_some {m : R Int} (h : EM cf E ta G m) : EO cf E (tPart ta) G (m.bind fun i => .ok (some i)) :=
  EG.bind1 (u := fun (x : V) (H : Hp) (Q : Option Int → Hp → Prop) => ∃ i, x = .int i ∧ Q (some i) H) h fun F O H Q a r hf h1 _ ko => ⟨a, dr_int h1, ko _ _ F H rfl (Le.refl F) hf rfl⟩
theorem ef_sl [Enc α] {tl th : TO} {m : R (List α)} {ml mh : R (Option Int)} (h : ES cf E ta G m) (hl : EO cf E tl G ml) (hh : EO cf E th G mh) :
    EF cf E (tSl (rSlL cf.K) ta tl th) G (m.bind fun xs => ml.bind fun lo => mh.bind fun hi => .ok (cut xs lo hi)) :=
  EG.bind3 (u := fun x lo hi H Q => rSlL cf.K x lo hi H Q) h hl hh rs_mono (fun _ _ _ _ _ _ _ _ _ h => h) fun F O H Q xs r lo lo' hi hi' hf h1 h2 h3 _ ko => by
    obtain ⟨a, vs, e, hs, hr⟩ := RS.seq h1 hf
    obtain rfl : lo' = lo := h2
    obtain rfl : hi' = hi := h3
    exact ⟨a, vs, e, hs, fun p hp => ko _ _ F _ rfl (Le.refl F) (hf.newH hp) ⟨p, _, rfl, hf.fnone hp, hf.onone hp, upd_same, by
      rw [← cut_map]
      exact cut_drA lo' hi' hr⟩⟩

/-! ### operators on lists -/
theorem ef_cat [Enc α] {m n : R (List α)} (h : EL cf E ta G m) (h' : EL cf E tb G n) : EF cf E (tOp rCat ta tb) G (m.bind fun xs => n.bind fun ys => szR (xs ++ ys)) :=
  EG.bind2 (u := fun x y H Q => rCat x y H Q) h h' rl_mono fun F O H Q xs r ys s hf h1 h2 nb ko => by
    obtain ⟨c, ec⟩ := szR_nb nb
    obtain ⟨a, vs, e, ha, hr⟩ := RL.at h1 hf
    obtain ⟨b, ws, e', hb, hr'⟩ := RL.at h2 hf
    refine ⟨a, b, vs, ws, e, e', ha, hb, ?_, fun p hp => ko _ _ F _ ec (Le.refl F) (hf.newH hp) ⟨p, _, rfl, hf.fnone hp, hf.onone hp, upd_same, by
      rw [List.map_append]
      exact hr.append hr'⟩⟩
    rw [hr.length, hr'.length, List.length_map, List.length_map, ← List.length_append]
    exact sz_le c
def repR (xs : List α) (k : Int) : R (List α) := if -(2 ^ 63) ≤ k ∧ k < 2 ^ 63 ∧ xs.length * k.toNat ≤ 1000000 then .ok (List.replicate k.toNat xs).flatten else .bad
theorem repR_nb {xs : List α} {k : Int} (h : repR xs k ≠ .bad) : (-(2 ^ 63) ≤ k ∧ k < 2 ^ 63 ∧ xs.length * k.toNat ≤ 1000000) ∧ repR xs k = .ok (List.replicate k.toNat xs).flatten := by
  unfold repR at *
  split at h
  · rename_i c
    exact ⟨c, if_pos c⟩
  · exact absurd rfl h
theorem map_rep {β : Type} (f : α → β) (xs : List α) (k : Nat) : (List.replicate k xs).flatten.map f = (List.replicate k (xs.map f)).flatten := by
  rw [List.map_flatten, List.map_replicate]
theorem ef_rep [Enc α] {m : R (List α)} {n : R Int} (h : EL cf E ta G m) (h' : EM cf E tb G n) : EF cf E (tOp rRep ta tb) G (m.bind fun xs => n.bind fun k => repR xs k) :=
  EG.bind2 (u := fun x y H Q => rRep x y H Q) h h' rl_mono fun F O H Q xs r k s hf h1 h2 nb ko => by
    obtain ⟨⟨c1, c2, c3⟩, ec⟩ := repR_nb nb
    obtain ⟨a, vs, e, ha, hr⟩ := RL.at h1 hf
    refine ⟨a, k, vs, e, dr_int h2, ha, c1, c2, ?_, fun p hp => ko _ _ F _ ec (Le.refl F) (hf.newH hp) ⟨p, _, rfl, hf.fnone hp, hf.onone hp, upd_same, by
      rw [map_rep]
      exact hr.rep _⟩⟩
    rw [hr.length, List.length_map]
    exact sz_le c3

/-! ### built-ins -/
/-- a call of one argument -/
theorem EG.call1 {τ ρ : Type} {rel1 : Hp → Hp → Hp → V → α → Prop} {rel3 : Hp → Hp → Hp → τ → γ → Prop} {m : R α} {f : α → R γ} {u : List V → Hp → (τ → Hp → Prop) → Prop} (h : EG cf E ta G m rel1)
    (k : ∀ (F O H : Hp) (Q : τ → Hp → Prop) (a : α) (r : V), Fm F O H → rel1 F O H r a → f a ≠ .bad → (∀ c x F' H', f a = .ok c → Le F F' → Fm F' O H' → rel3 F' O H' x c → Q x H') → u [r] H Q) :
    EG cf E (fun σ H Q => tCons ta tNil σ H fun vs H1 => u vs H1 Q) G (m.bind f) rel3 := EG.bind1 (u := fun r H Q => u [r] H Q) h k
theorem EG.call2 {τ ρ : Type} {rel1 : Hp → Hp → Hp → V → α → Prop} {rel2 : Hp → Hp → Hp → V → β → Prop} {rel3 : Hp → Hp → Hp → τ → γ → Prop} {m : R α} {n : R β} {f : α → β → R γ} {u : List V → Hp → (τ → Hp → Prop) → Prop} (h : EG cf E ta G m rel1) (h' : EG cf E tb G n rel2)
    (mono : ∀ F O H F' H' r a, Le F F' → Fm F' O H' → rel1 F O H r a → rel1 F' O H' r a)
    (k : ∀ (F O H : Hp) (Q : τ → Hp → Prop) (a : α) (r : V) (b : β) (s : V), Fm F O H → rel1 F O H r a → rel2 F O H s b → f a b ≠ .bad → (∀ c x F' H', f a b = .ok c → Le F F' → Fm F' O H' → rel3 F' O H' x c → Q x H') → u [r, s] H Q) :
    EG cf E (fun σ H Q => tCons ta (tCons tb tNil) σ H fun vs H1 => u vs H1 Q) G (m.bind fun a => n.bind fun b => f a b) rel3 := EG.bind2 (u := fun r s H Q => u [r, s] H Q) h h' mono k
def rLenS (K : PySem.W.Frag) : List V → Hp → VK → Prop := fun xs H Q => ∃ p ys, xs = [.ref p] ∧ (SqL K H p ys ∨ SqT K H p ys) ∧ Q (.int ys.length) H
theorem em_len [Enc α] {m : R (List α)} (h : ES cf E ta G m) : EM cf E (tCB (rLenS cf.K) (tCons ta tNil)) G (m.bind fun xs => .ok (xs.length : Int)) :=
  EG.call1 (ρ := Unit) h fun F O H Q xs r hf h1 _ ko => by
    obtain ⟨a, vs, e, hs, hr⟩ := RS.seq h1 hf
    refine ⟨a, vs, by rw [e], .inl hs, ?_⟩
    rw [hr.length, List.length_map]
    exact ko _ _ F H rfl (Le.refl F) hf (.int _)
theorem em_sum {m : R (List Int)} (h : ES cf E ta G m) : EM cf E (tCB (rSum cf.K) (tCons ta tNil)) G (m.bind fun xs => .ok xs.sum) :=
  EG.call1 (ρ := Unit) h fun F O H Q xs r hf h1 _ ko => by
    obtain ⟨a, vs, e, hs, hr⟩ := RS.seq h1 hf
    rw [ints_of_drA hr] at hs
    exact ⟨a, xs, by rw [e], hs, ko _ _ F H rfl (Le.refl F) hf (.int _)⟩
def maxR (xs : List Int) : R Int := match xs with
  | [] => .bad
  | x :: r => .ok (r.foldl max x)
def minR (xs : List Int) : R Int := match xs with
  | [] => .bad
  | x :: r => .ok (r.foldl min x)
theorem foldl_max_mem : ∀ (r : List Int) (x : Int), r.foldl max x ∈ x :: r ∧ ∀ y ∈ x :: r, y ≤ r.foldl max x
  | [], x => ⟨by simp, by simp⟩
  | y :: r, x => by
    obtain ⟨h1, h2⟩ := foldl_max_mem r (max x y)
    rw [List.foldl_cons]
    refine ⟨?_, fun z hz => ?_⟩
    · rcases List.mem_cons.mp h1 with e | h1
      · rw [e]
        by_cases c : x ≤ y
        · rw [Int.max_eq_right c]; simp
        · rw [Int.max_eq_left (by omega)]; simp
      · simp [h1]
    · have hm := h2 (max x y) (by simp)
      rcases List.mem_cons.mp hz with e | hz
      · subst e
        exact Int.le_trans (Int.le_max_left _ _) hm
      · rcases List.mem_cons.mp hz with e | hz
        · subst e
          exact Int.le_trans (Int.le_max_right _ _) hm
        · exact h2 z (by simp [hz])
theorem foldl_min_mem : ∀ (r : List Int) (x : Int), r.foldl min x ∈ x :: r ∧ ∀ y ∈ x :: r, r.foldl min x ≤ y
  | [], x => ⟨by simp, by simp⟩
  | y :: r, x => by
    obtain ⟨h1, h2⟩ := foldl_min_mem r (min x y)
    rw [List.foldl_cons]
    refine ⟨?_, fun z hz => ?_⟩
    · rcases List.mem_cons.mp h1 with e | h1
      · rw [e]
        by_cases c : x ≤ y
        · rw [Int.min_eq_left c]; simp
        · rw [Int.min_eq_right (by omega)]; simp
      · simp [h1]
    · have hm := h2 (min x y) (by simp)
      rcases List.mem_cons.mp hz with e | hz
      · subst e
        exact Int.le_trans hm (Int.min_le_left _ _)
      · rcases List.mem_cons.mp hz with e | hz
        · subst e
          exact Int.le_trans hm (Int.min_le_right _ _)
        · exact h2 z (by simp [hz])
theorem em_max {m : R (List Int)} (h : ES cf E ta G m) : EM cf E (tCB (rMax cf.K) (tCons ta tNil)) G (m.bind maxR) :=
  EG.call1 (ρ := Unit) h fun F O H Q xs r hf h1 nb ko => by
    obtain ⟨a, vs, e, hs, hr⟩ := RS.seq h1 hf
    rw [ints_of_drA hr] at hs
    cases xs with
    | nil => exact absurd rfl nb
    | cons x q =>
      refine ⟨a, x :: q, by rw [e], hs, by simp, fun y hy hle => ?_⟩
      obtain ⟨g1, g2⟩ := foldl_max_mem q x
      have e2 : y = q.foldl max x := Int.le_antisymm (g2 y hy) (hle _ g1)
      rw [e2]
      exact ko _ _ F H rfl (Le.refl F) hf (.int _)
theorem em_min {m : R (List Int)} (h : ES cf E ta G m) : EM cf E (tCB (rMin cf.K) (tCons ta tNil)) G (m.bind minR) :=
  EG.call1 (ρ := Unit) h fun F O H Q xs r hf h1 nb ko => by
    obtain ⟨a, vs, e, hs, hr⟩ := RS.seq h1 hf
    rw [ints_of_drA hr] at hs
    cases xs with
    | nil => exact absurd rfl nb
    | cons x q =>
      refine ⟨a, x :: q, by rw [e], hs, by simp, fun y hy hle => ?_⟩
      obtain ⟨g1, g2⟩ := foldl_min_mem q x
      have e2 : y = q.foldl min x := Int.le_antisymm (hle _ g1) (g2 y hy)
      rw [e2]
      exact ko _ _ F H rfl (Le.refl F) hf (.int _)
def rMax2 : List V → Hp → VK → Prop := fun xs H Q => ∃ i j, xs = [.int i, .int j] ∧ Q (.int (if j > i then j else i)) H
def rMin2 : List V → Hp → VK → Prop := fun xs H Q => ∃ i j, xs = [.int i, .int j] ∧ Q (.int (if j < i then j else i)) H
theorem em_max2 {m n : R Int} (h : EM cf E ta G m) (h' : EM cf E tb G n) : EM cf E (tCB rMax2 (tCons ta (tCons tb tNil))) G (m.bind fun a => n.bind fun b => .ok (max a b)) :=
  EG.call2 (ρ := Unit) h h' rm_mono fun F O H Q a r b s hf h1 h2 _ ko => ⟨a, b, by rw [dr_int (i := a) h1, dr_int (i := b) h2], by
    rw [show (if b > a then b else a) = max a b by split <;> omega]
    exact ko _ _ F H rfl (Le.refl F) hf (.int _)⟩
theorem em_min2 {m n : R Int} (h : EM cf E ta G m) (h' : EM cf E tb G n) : EM cf E (tCB rMin2 (tCons ta (tCons tb tNil))) G (m.bind fun a => n.bind fun b => .ok (min a b)) :=
  EG.call2 (ρ := Unit) h h' rm_mono fun F O H Q a r b s hf h1 h2 _ ko => ⟨a, b, by rw [dr_int (i := a) h1, dr_int (i := b) h2], by
    rw [show (if b < a then b else a) = min a b by split <;> omega]
    exact ko _ _ F H rfl (Le.refl F) hf (.int _)⟩
def rInt1 : List V → Hp → VK → Prop := fun xs H Q => (∃ i, xs = [.int i] ∧ Q (.int i) H) ∨ ∃ k, xs = [.bl k] ∧ Q (.int (if k then 1 else 0)) H
theorem em_intI {m : R Int} (h : EM cf E ta G m) : EM cf E (tCB rInt1 (tCons ta tNil)) G m := EG.cast (EG.call1 (ρ := Unit) h fun F O H Q a r hf h1 _ ko => .inl ⟨a, by rw [dr_int (i := a) h1], ko a _ F H rfl (Le.refl F) hf (.int a)⟩) (R.bind_ok m)
theorem em_intB {m : R Bool} (h : EM cf E ta G m) : EM cf E (tCB rInt1 (tCons ta tNil)) G (m.bind fun b => .ok (if b then (1 : Int) else 0)) := EG.call1 (ρ := Unit) h fun F O H Q a r hf h1 _ ko => .inr ⟨a, by rw [dr_bl (i := a) h1], ko _ _ F H rfl (Le.refl F) hf (.int _)⟩
def rListS (K : PySem.W.Frag) : List V → Hp → VK → Prop := fun xs H Q => ∃ p ys, xs = [.ref p] ∧ (SqL K H p ys ∨ SqT K H p ys) ∧ ∀ l, H l = none → Q (.ref l) (upd H l (.lst ys))
theorem ef_list [Enc α] {m : R (List α)} (h : ES cf E ta G m) : EF cf E (tCB (rListS cf.K) (tCons ta tNil)) G m := EG.cast (EG.call1 (ρ := Unit) h fun F O H Q xs r hf h1 _ ko => by
    obtain ⟨a, vs, e, hs, hr⟩ := RS.seq h1 hf
    exact ⟨a, vs, by rw [e], .inl hs, fun p hp => ko xs _ F _ rfl (Le.refl F) (hf.newH hp) ⟨p, vs, rfl, hf.fnone hp, hf.onone hp, upd_same, hr⟩⟩) (R.bind_ok m)
theorem em_any {m : R (List Bool)} (h : ES cf E ta G m) : EM cf E (tCB (rAny cf.K) (tCons ta tNil)) G (m.bind fun xs => .ok (xs.any id)) :=
  EG.call1 (ρ := Unit) h fun F O H Q xs r hf h1 _ ko => by
    obtain ⟨a, vs, e, hs, hr⟩ := RS.seq h1 hf
    rw [bls_of_drA hr] at hs
    exact ⟨a, xs, by rw [e], hs, ko _ _ F H rfl (Le.refl F) hf (.bl _)⟩

/-! ### == of data -/
mutual
def Dt.py : Dt → PyData
  | .non => .none
  | .bl b => .bool b
  | .int i => .int i
  | .str x => .str x
  | .lst xs => .list (Dt.pyA xs)
  | .tup xs => .tuple (Dt.pyA xs)
  | .scr ns => .list (ns.map .int)
  | .dct _ => .dict []
def Dt.pyA : List Dt → List PyData
  | [] => []
  | d :: r => d.py :: Dt.pyA r
end
mutual
/-- no dict within -/
def Dt.nd : Dt → Bool
  | .lst xs => Dt.ndA xs
  | .tup xs => Dt.ndA xs
  | .dct _ => false
  | _ => true
def Dt.ndA : List Dt → Bool
  | [] => true
  | d :: r => d.nd && Dt.ndA r
end
theorem dpAll_ints {K : PySem.W.Frag} {H : Hp} : ∀ ns : List Int, DpAll K H (ns.map V.int) (ns.map PyData.int)
  | [] => .nil
  | n :: r => .cons (.int n) (dpAll_ints r)
mutual
theorem Dr.dp {K : PySem.W.Frag} {F H : Hp} (e : Le F H) : ∀ {v : V} {d : Dt}, Dr K F v d → d.nd = true → Dp K H v d.py
  | _, _, .non, _ => .non
  | _, _, .bl b, _ => .bl b
  | _, _, .int i, _ => .int i
  | _, _, .str x, _ => .str x
  | _, _, .lst h r, n => .lst (SqL.of (e _ _ h)) (DrA.dp e r n)
  | _, _, .tup h r, n => .tup (SqT.of (e _ _ h)) (DrA.dp e r n)
  | _, _, .scr h, _ => .lst (e.seq h) (dpAll_ints _)
  | _, _, .dct _ _, n => Bool.noConfusion n
theorem DrA.dp {K : PySem.W.Frag} {F H : Hp} (e : Le F H) : ∀ {vs : List V} {ds : List Dt}, DrA K F vs ds → Dt.ndA ds = true → DpAll K H vs (Dt.pyA ds)
  | _, _, .nil, _ => .nil
  | _, _, .cons r t, n => .cons (Dr.dp e r (Bool.and_eq_true_iff.mp n).1) (DrA.dp e t (Bool.and_eq_true_iff.mp n).2)
end
/-- a == b -/
def eqR [Enc α] [Enc β] (a : α) (b : β) : R Bool := if (toD a).nd = true ∧ (toD b).nd = true ∧ SeqAt.shaped (toD a).py = true ∧ SeqAt.shaped (toD b).py = true then .ok (PyData.eqv (toD a).py (toD b).py) else .bad
theorem eqR_nb [Enc α] [Enc β] {a : α} {b : β} (h : eqR a b ≠ .bad) : ((toD a).nd = true ∧ (toD b).nd = true ∧ SeqAt.shaped (toD a).py = true ∧ SeqAt.shaped (toD b).py = true) ∧ eqR a b = .ok (PyData.eqv (toD a).py (toD b).py) := by
  unfold eqR at *
  split at h
  · rename_i c
    exact ⟨c, if_pos c⟩
  · exact absurd rfl h
/-- lists too, owned or not -/
def RE [Enc α] (cf : Cf) (F O H : Hp) (v : V) (a : α) : Prop := (toD a).nd = true → Dp cf.K H v (toD a).py
abbrev EE [Enc α] (cf : Cf) (E : XK) (t : TE) (G : List Sl) (m : R α) : Prop := EG cf E t G m fun F O H v a => ∀ F' H', Le F F' → Fm F' O H' → (toD a).nd = true → Dp cf.K H' v (toD a).py
theorem EM.toE [Enc α] {m : R α} (h : EM cf E ta G m) : EE cf E ta G m := EG.imp h fun F O H v a hf r F' H' le hf' n => Dr.dp (le.trans hf'.f) r n
theorem EL.toE [Enc α] {m : R (List α)} (h : EL cf E ta G m) : EE cf E ta G m := EG.imp h fun F O H v xs hf r F' H' le hf' n => by
  obtain ⟨a, vs, e, ha, hr⟩ := RL.at (rl_mono F O H F' H' v xs le hf' r) hf'
  rw [e]
  exact .lst (SqL.of ha) (DrA.dp hf'.f hr n)
theorem em_eqD [Enc α] [Enc β] {m : R α} {n : R β} (h : EE cf E ta G m) (h' : EE cf E tb G n) : EM cf E (tOp (rEqD cf.K) ta tb) G (m.bind fun a => n.bind fun b => eqR a b) :=
  EG.bind2 (u := fun x y H Q => rEqD cf.K x y H Q) h h' (fun F O H F' H' r a le hf' h F'' H'' le' hf'' => h F'' H'' (le.trans le') hf'') fun F O H Q a r b s hf h1 h2 nb ko => by
    obtain ⟨⟨c1, c2, c3, c4⟩, ec⟩ := eqR_nb nb
    exact ⟨_, _, h1 F H (Le.refl F) hf c1, h2 F H (Le.refl F) hf c2, c3, c4, ko _ _ F H ec (Le.refl F) hf (.bl _)⟩
theorem em_neD [Enc α] [Enc β] {m : R α} {n : R β} (h : EE cf E ta G m) (h' : EE cf E tb G n) : EM cf E (tOp (rNeD cf.K) ta tb) G (m.bind fun a => n.bind fun b => (eqR a b).bind fun c => .ok (!c)) :=
  EG.bind2 (f := fun a b => (eqR a b).bind fun c => .ok (!c)) (u := fun x y H Q => rNeD cf.K x y H Q) h h' (fun F O H F' H' r a le hf' h F'' H'' le' hf'' => h F'' H'' (le.trans le') hf'') fun F O H Q a r b s hf h1 h2 nb ko => by
    obtain ⟨⟨c1, c2, c3, c4⟩, ec⟩ := eqR_nb (R.bind_nb nb)
    rw [ec] at ko
    exact ⟨_, _, h1 F H (Le.refl F) hf c1, h2 F H (Le.refl F) hf c2, c3, c4, ko _ _ F H rfl (Le.refl F) hf (.bl _)⟩
end
end Kr

/-! KrD: what is walked, comprehensions, statements by data. -/
namespace Kr
open PySem PySem.Spec PyProof.Rows L2
open Enc (toD)

/-! ### what is walked -/
/-- J gives the items xs, one after the other -/
def Itm {α : Type} [Enc α] (cf : Cf) (J : It) (F1 : Hp) (xs : List α) : Prop := ∀ (i : Nat) (F O H : Hp), Le F1 F → Fm F O H →
  (∀ x, xs[i]? = some x → J.go i H ∧ ∀ v H', J.yld i H v H' → ∃ F', Le F F' ∧ Fm F' O H' ∧ Dr cf.K F' v (toD x)) ∧ (xs.length ≤ i → J.stop i H)
def IG {α : Type} [Enc α] (cf : Cf) (E : XK) (wi : TI) (G : List Sl) (m : R (List α)) : Prop :=
  ∀ (F O H : Hp) (σ : L2.St) (Q : It → Hp → Prop), Fm F O H → Er cf.K F O σ G → m ≠ .bad →
    (∀ xs J F' H', m = .ok xs → Le F F' → Fm F' O H' → Itm cf J F' xs → Q J H') →
    (∀ c p d F' H', m = .er c p → Le F F' → Fm F' O H' → F' d = some (xdO cf c p) → E (.ref (cf.cls c)) (some d) H') → wi σ H Q
section
variable {cf : Cf} {E : XK} {G : List Sl} {α β γ δ : Type} {ta tb : TE}
/-- a list that stays as it is -/
def RZ [Enc α] (cf : Cf) (F O H : Hp) (v : V) (xs : List α) : Prop := ∃ a vs, v = .ref a ∧ SqL cf.K F a vs ∧ DrA cf.K F vs (xs.map toD)
abbrev EZ [Enc α] (cf : Cf) (E : XK) (t : TE) (G : List Sl) (m : R (List α)) : Prop := EG cf E t G m (RZ cf)
theorem rz_mono [Enc α] (F O H F' H' : Hp) (r : V) (a : List α) (le : Le F F') (_ : Fm F' O H') (h : RZ cf F O H r a) : RZ cf F' O H' r a := by
  obtain ⟨a, vs, e, h1, h2⟩ := h
  exact ⟨a, vs, e, le.seq h1, h2.mono le⟩
theorem EM.toZ [Enc α] {m : R (List α)} (h : EM cf E ta G m) : EZ cf E ta G m := EG.imp h fun F O H v xs _ r => by
  obtain ⟨a, vs, e, h1, h2⟩ := dr_lst r
  exact ⟨a, vs, e, SqL.of h1, h2⟩
theorem EF.toZ [Enc α] {m : R (List α)} (h : EF cf E ta G m) : EZ cf E ta G m := EM.toZ (EF.toM h)
theorem EM.scrZ {t : TE} {m : R Scr} (h : EM cf E t G m) : EZ cf E t G (m.bind fun s => .ok s.ns) := fun F O H σ Q hf he nb ko ke => by
  refine h F O H σ Q hf he (R.bind_nb nb) (fun s v F' H' e le hf' hr => ?_) (fun c p d F' H' e => ke c p d F' H' (by rw [e]; rfl))
  obtain ⟨a, ea, hs⟩ := dr_scr (ns := s.ns) hr
  exact ko s.ns _ F' H' (by rw [e]; rfl) le hf' ⟨a, _, ea, hs, drA_ints s.ns⟩
theorem drA_at [Enc α] {K : PySem.W.Frag} {F : Hp} {vs : List V} {xs : List α} (h : DrA K F vs (xs.map toD)) {i : Nat} {x : α} (e : xs[i]? = some x) : ∃ v, vs[i]? = some v ∧ Dr K F v (toD x) := h.get (by rw [List.getElem?_map, e]; rfl)
theorem ig_list [Enc α] {m : R (List α)} (h : EZ cf E ta G m) : IG cf E (iList cf.K ta) G m := fun F O H σ Q hf he nb ko ke =>
  h F O H σ _ hf he nb (fun xs v F' H' e le hf' hr => by
    obtain ⟨a, vs, ev, hs, hd⟩ := hr
    refine ⟨a, ev, ⟨vs, hf'.f.seq hs⟩, ko xs _ F' H' e le hf' fun i F2 O2 H2 le2 hf2 => ⟨fun x hx => ?_, fun hi => ⟨vs, (le2.trans hf2.f).seq hs, ?_⟩⟩⟩
    · obtain ⟨w', hw, rw'⟩ := drA_at hd hx
      exact ⟨⟨vs, w', (le2.trans hf2.f).seq hs, hw⟩, fun v H3 hy => ⟨F2, Le.refl F2, by rw [hy.1]; exact hf2, by
        have q := hy.2 vs ((le2.trans hf2.f).seq hs)
        rw [hw] at q
        rw [← Option.some.inj q]
        exact rw'.mono le2⟩⟩
    · rw [hd.length, List.length_map]
      exact hi) ke
/-- lo, lo + 1, .. -/
def seqI (lo : Int) (n : Nat) : List Int := (List.range n).map fun (i : Nat) => lo + (i : Int)
/-- lo, lo + c, .. -/
def seqC (lo c : Int) (n : Nat) : List Int := (List.range n).map fun (i : Nat) => lo + (i : Int) * c
theorem seqI_get (lo : Int) (n i : Nat) : (seqI lo n)[i]? = if i < n then some (lo + (i : Int)) else none := by
  unfold seqI
  rw [List.getElem?_map]
  by_cases h : i < n
  · rw [if_pos h, List.getElem?_range h]
    rfl
  · rw [if_neg h, List.getElem?_eq_none (by rw [List.length_range]; omega)]
    rfl
theorem seqC_get (lo c : Int) (n i : Nat) : (seqC lo c n)[i]? = if i < n then some (lo + (i : Int) * c) else none := by
  unfold seqC
  rw [List.getElem?_map]
  by_cases h : i < n
  · rw [if_pos h, List.getElem?_range h]
    rfl
  · rw [if_neg h, List.getElem?_eq_none (by rw [List.length_range]; omega)]
    rfl
theorem seqI_len (lo : Int) (n : Nat) : (seqI lo n).length = n := by simp [seqI]
theorem seqC_len (lo c : Int) (n : Nat) : (seqC lo c n).length = n := by simp [seqC]
theorem itm_seqI (F1 : Hp) (lo : Int) (n : Nat) : Itm cf (Itr lo n) F1 (seqI lo n) := fun i F O H le hf => ⟨fun x hx => by
    rw [seqI_get] at hx
    split at hx
    · rename_i c
      cases hx
      exact ⟨c, fun v H' hy => ⟨F, Le.refl F, by rw [hy.1]; exact hf, by rw [hy.2]; exact .int _⟩⟩
    · exact (nomatch hx),
  fun hi => by
    rw [seqI_len] at hi
    exact hi⟩
theorem itm_seqC (F1 : Hp) (lo c : Int) (n : Nat) : Itm cf (Itc lo c n) F1 (seqC lo c n) := fun i F O H le hf => ⟨fun x hx => by
    rw [seqC_get] at hx
    split at hx
    · rename_i c
      cases hx
      exact ⟨c, fun v H' hy => ⟨F, Le.refl F, by rw [hy.1]; exact hf, by rw [hy.2]; exact .int _⟩⟩
    · exact (nomatch hx),
  fun hi => by
    rw [seqC_len] at hi
    exact hi⟩
def rng1R (n : Int) : R (List Int) := if -(2 ^ 62) ≤ n ∧ n < 2 ^ 62 then .ok (seqI 0 n.toNat) else .bad
def rng2R (a b : Int) : R (List Int) := if -(2 ^ 62) ≤ a ∧ a < 2 ^ 62 ∧ -(2 ^ 62) ≤ b ∧ b < 2 ^ 62 then .ok (seqI a (b - a).toNat) else .bad
theorem ig_range1 {m : R Int} (h : EM cf E ta G m) : IG cf E (iRng1 (tCons ta tNil)) G (m.bind rng1R) := fun F O H σ Q hf he nb ko ke =>
  h F O H σ _ hf he (R.bind_nb nb) (fun n v F' H' e le hf' hr => by
    rw [e, R.ok_bind] at nb ko
    unfold rng1R at nb ko
    split at nb
    · rename_i c
      rw [if_pos c] at ko
      exact ⟨n, by rw [dr_int (i := n) hr], c.1, c.2, ko _ _ F' H' rfl le hf' (itm_seqI F' 0 n.toNat)⟩
    · exact absurd rfl nb) fun c p d F' H' e => ke c p d F' H' (by rw [e]; rfl)
theorem ig_range2 {m n : R Int} (h : EM cf E ta G m) (h' : EM cf E tb G n) : IG cf E (iRng2 (tCons ta (tCons tb tNil))) G (m.bind fun a => n.bind fun b => rng2R a b) := fun F O H σ Q hf he nb ko ke =>
  EG.bind2 (f := fun a b => rng2R a b) (rel3 := fun F' O' H' J xs => Itm cf J F' xs) (u := fun x y H Q => ∃ i j : Int, [x, y] = [V.int i, V.int j] ∧ (-(2 ^ 62) ≤ i ∧ i < 2 ^ 62 ∧ -(2 ^ 62) ≤ j ∧ j < 2 ^ 62) ∧ Q (Itr i (j - i).toNat) H) h h' rm_mono
    (fun F O H Q a r b s hf h1 h2 nb ko => by
      unfold rng2R at nb ko
      split at nb
      · rename_i c
        rw [if_pos c] at ko
        exact ⟨a, b, by rw [dr_int (i := a) h1, dr_int (i := b) h2], c, ko _ _ F H rfl (Le.refl F) hf (itm_seqI F a _)⟩
      · exact absurd rfl nb) F O H σ Q hf he nb (fun xs J F' H' => ko xs J F' H') ke
/-- range(a, b, c), c written: 1 or more, or -1 -/
def rng3R (a b c : Int) : R (List Int) := if -(2 ^ 62) ≤ a ∧ a < 2 ^ 62 ∧ -(2 ^ 62) ≤ b ∧ b < 2 ^ 62 then (if c = -1 then .ok (seqC a (-1) (a - b).toNat) else
    if 0 < c ∧ c < 1073741824 ∧ Builtin.Range.small a b c = true then .ok (seqC a c (Builtin.Range.rangeSize a b c).toNat) else .bad) else .bad
theorem rangeSize_nn (a b c : Int) (h : 0 < c) : 0 ≤ Builtin.Range.rangeSize a b c := by
  unfold Builtin.Range.rangeSize
  split
  · split
    · have : 0 ≤ (b - a - 1) / c := Int.ediv_nonneg (by omega) (by omega)
      omega
    · exact Int.le_refl 0
  · omega
theorem rgC_of {a b c : Int} {xs : List Int} (h : rng3R a b c = .ok xs) : ∃ n, RgC a b c n ∧ xs = seqC a c n := by
  unfold rng3R at h
  split at h
  · rename_i q
    split at h
    · rename_i e
      subst e
      cases h
      exact ⟨_, RgC.neg q.1 q.2.1 q.2.2.1 q.2.2.2, rfl⟩
    · split at h
      · rename_i q2
        cases h
        refine ⟨_, ⟨by omega, by omega, q2.2.2, ?_⟩, rfl⟩
        have := rangeSize_nn a b c q2.1
        omega
      · cases h
  · cases h
theorem ig_range3 {tc : TE} {m n l : R Int} (h : EM cf E ta G m) (h' : EM cf E tb G n) (h'' : EM cf E tc G l) : IG cf E (iRng3 (tCons ta (tCons tb (tCons tc tNil)))) G (m.bind fun a => n.bind fun b => l.bind fun c => rng3R a b c) := fun F O H σ Q hf he nb ko ke =>
  EG.bind3 (f := fun a b c => rng3R a b c) (rel4 := fun F' O' H' J xs => Itm cf J F' xs) (u := fun x y z H Q => ∃ (i j c : Int) (n : Nat), [x, y, z] = [V.int i, V.int j, V.int c] ∧ RgC i j c n ∧ Q (Itc i c n) H) h h' h'' rm_mono rm_mono
    (fun F O H Q a r b s c t hf h1 h2 h3 nb ko => by
      cases q : rng3R a b c with
      | bad => exact absurd q nb
      | er c p =>
        unfold rng3R at q
        split at q
        · split at q
          · cases q
          · split at q <;> cases q
        · cases q
      | ok xs =>
        obtain ⟨n, hn, hx⟩ := rgC_of q
        refine ⟨a, b, c, n, by rw [dr_int (i := a) h1, dr_int (i := b) h2, dr_int (i := c) h3], hn, ko xs _ F H q (Le.refl F) hf ?_⟩
        rw [hx]
        exact itm_seqC F a c n) F O H σ Q hf he nb (fun xs J F' H' => ko xs J F' H') ke
/-- the pairs (0, x0), (1, x1), .. -/
def enumL (xs : List α) : List (Int × α) := xs.zipIdx.map fun p => ((p.2 : Int), p.1)
theorem enumL_get (xs : List α) (i : Nat) : (enumL xs)[i]? = xs[i]?.map fun x => ((i : Int), x) := by
  unfold enumL
  rw [List.getElem?_map, List.getElem?_zipIdx]
  cases xs[i]? <;> simp
theorem enumL_len (xs : List α) : (enumL xs).length = xs.length := by simp [enumL]
theorem ig_enum [Enc α] {m : R (List α)} (h : EZ cf E ta G m) : IG cf E (iEnum cf.K (tCons ta tNil)) G (m.bind fun xs => .ok (enumL xs)) := fun F O H σ Q hf he nb ko ke =>
  h F O H σ _ hf he (R.bind_nb nb) (fun xs v F' H' e le hf' hr => by
    rw [e, R.ok_bind] at ko
    obtain ⟨a, vs, ev, hs, hd⟩ := hr
    refine ⟨a, vs, by rw [ev], hf'.f.seq hs, ko _ _ F' H' rfl le hf' fun i F2 O2 H2 le2 hf2 => ⟨fun x hx => ?_, fun hi => ⟨vs, (le2.trans hf2.f).seq hs, ?_⟩⟩⟩
    · rw [enumL_get] at hx
      cases q : xs[i]? with
      | none =>
        rw [q] at hx
        cases hx
      | some y =>
        rw [q] at hx
        cases hx
        obtain ⟨w', hw, rw'⟩ := drA_at hd q
        refine ⟨⟨vs, w', (le2.trans hf2.f).seq hs, hw⟩, fun v H3 hy => ?_⟩
        obtain ⟨T, x, ev, hT, rfl, hx⟩ := hy
        have q2 := hx vs ((le2.trans hf2.f).seq hs)
        rw [hw] at q2
        have e2 := Option.some.inj q2
        subst e2
        subst ev
        exact ⟨upd F2 T (.tup [.int (i : Nat), w']), Le.new (hf2.fnone hT), hf2.newF hT, .tup upd_same (.cons (.int _) (.cons (rw'.mono (le2.trans (Le.new (hf2.fnone hT)))) .nil))⟩
    · rw [enumL_len] at hi
      rw [hd.length, List.length_map]
      exact hi) fun c p d F' H' e => ke c p d F' H' (by rw [e]; rfl)
theorem ig_zip [Enc α] [Enc β] {m : R (List α)} {n : R (List β)} (h : EZ cf E ta G m) (h' : EZ cf E tb G n) : IG cf E (iZip cf.K (tCons ta (tCons tb tNil))) G (m.bind fun xs => n.bind fun ys => .ok (xs.zip ys)) := fun F O H σ Q hf he nb ko ke =>
  EG.bind2 (f := fun (xs : List α) (ys : List β) => R.ok (xs.zip ys)) (rel3 := fun F' O' H' J xs => Itm cf J F' xs) (u := fun x y H Q => ∃ a b xs ys, [x, y] = [V.ref a, V.ref b] ∧ SqL cf.K H a xs ∧ SqL cf.K H b ys ∧ Q (Itz cf.K a b) H) h h' rz_mono
    (fun F O H Q xs r ys s hf h1 h2 nb ko => by
      obtain ⟨a, vs, ev, hs, hd⟩ := h1
      obtain ⟨b, ws, ew, hs', hd'⟩ := h2
      refine ⟨a, b, vs, ws, by rw [ev, ew], hf.f.seq hs, hf.f.seq hs', ko _ _ F H rfl (Le.refl F) hf fun i F2 O2 H2 le2 hf2 => ⟨fun x hx => ?_, fun hi => ⟨vs, ws, (le2.trans hf2.f).seq hs, (le2.trans hf2.f).seq hs', ?_⟩⟩⟩
      · rw [List.getElem?_zip_eq_some] at hx
        obtain ⟨v1, hv1, r1⟩ := drA_at hd hx.1
        obtain ⟨v2, hv2, r2⟩ := drA_at hd' hx.2
        refine ⟨⟨vs, ws, v1, v2, (le2.trans hf2.f).seq hs, (le2.trans hf2.f).seq hs', hv1, hv2⟩, fun v H3 hy => ?_⟩
        obtain ⟨T, x1, x2, ev, hT, rfl, hx1, hx2⟩ := hy
        have q1 := hx1 vs ((le2.trans hf2.f).seq hs)
        have q2 := hx2 ws ((le2.trans hf2.f).seq hs')
        rw [hv1] at q1
        rw [hv2] at q2
        obtain rfl := Option.some.inj q1
        obtain rfl := Option.some.inj q2
        subst ev
        have l3 := le2.trans (Le.new (o := .tup [v1, v2]) (hf2.fnone hT))
        exact ⟨upd F2 T (.tup [v1, v2]), Le.new (hf2.fnone hT), hf2.newF hT, .tup upd_same (.cons (r1.mono l3) (.cons (r2.mono l3) .nil))⟩
      · rw [List.length_zip] at hi
        rw [hd.length, List.length_map, hd'.length, List.length_map]
        omega) F O H σ Q hf he nb (fun xs J F' H' => ko xs J F' H') ke
theorem ig_rev [Enc α] {m : R (List α)} (h : EZ cf E ta G m) : IG cf E (iRev cf.K (tCons ta tNil)) G (m.bind fun xs => .ok xs.reverse) := fun F O H σ Q hf he nb ko ke =>
  h F O H σ _ hf he (R.bind_nb nb) (fun xs v F' H' e le hf' hr => by
    rw [e, R.ok_bind] at ko
    obtain ⟨a, vs, ev, hs, hd⟩ := hr
    have hl : vs.length = xs.length := by rw [hd.length, List.length_map]
    refine ⟨a, vs, by rw [ev], hf'.f.seq hs, ko _ _ F' H' rfl le hf' fun i F2 O2 H2 le2 hf2 => ⟨fun x hx => ?_, fun hi => ?_⟩⟩
    · have hi : i < xs.length := by
        have := (List.getElem?_eq_some_iff.mp hx).1
        rw [List.length_reverse] at this
        exact this
      rw [List.getElem?_reverse hi] at hx
      obtain ⟨w', hw, rw'⟩ := drA_at hd hx
      rw [← hl] at hw
      refine ⟨⟨by omega, vs, w', (le2.trans hf2.f).seq hs, hw⟩, fun v H3 hy => ⟨F2, Le.refl F2, by rw [hy.1]; exact hf2, ?_⟩⟩
      have q2 := hy.2 vs ((le2.trans hf2.f).seq hs)
      rw [hw] at q2
      rw [← Option.some.inj q2]
      exact rw'.mono le2
    · rw [List.length_reverse] at hi
      show vs.length ≤ i
      omega) fun c p d F' H' e => ke c p d F' H' (by rw [e]; rfl)

/-! ### targets -/
/-- the target stores the data: the slots behind it; js: the slots it stores to -/
def AG [Enc α] (cf : Cf) (g : TG) (up : α → List Sl → List Sl) (js : List Nat) : Prop :=
  ∀ (F O H : Hp) (σ : L2.St) (G : List Sl) (v : V) (a : α) (Q : L2.St → Hp → Prop), Fm F O H → Er cf.K F O σ G → Dr cf.K F v (toD a) →
    (∀ σ', Er cf.K F O σ' (up a G) → (∀ (i : Nat) (s : Sl), (up a G)[i]? = some s → s.own = true → G[i]? = some s ∧ σ'[i]? = σ[i]?) → (∀ vs : List Nat, (∀ j ∈ js, j ∈ vs) → wipe σ' vs = wipe σ vs) → Q σ' H) → g v σ H Q
theorem wipe_set {σ : L2.St} {j : Nat} {y : Option V} : ∀ {vs : List Nat}, j ∈ vs → wipe (σ.set j y) vs = wipe σ vs
  | [], h => by cases h
  | v :: vs, h => by
    show (wipe (σ.set j y) vs).set v none = (wipe σ vs).set v none
    by_cases hj : j ∈ vs
    · rw [wipe_set hj]
    · have e : j = v := by
        rcases List.mem_cons.mp h with e | e
        · exact e
        · exact absurd e hj
      subst e
      have key : ∀ (ws : List Nat), j ∉ ws → wipe (σ.set j y) ws = (wipe σ ws).set j y := by
        intro ws
        induction ws with
        | nil => intro _; rfl
        | cons w ws ih =>
          intro hw
          show (wipe (σ.set j y) ws).set w none = ((wipe σ ws).set w none).set j y
          rw [ih fun z => hw (List.mem_cons_of_mem _ z)]
          exact List.set_comm _ _ fun z => hw (by rw [z]; exact List.mem_cons_self ..)
      rw [key vs hj, List.set_set]
theorem er_set {K : PySem.W.Frag} {F O : Hp} {σ : L2.St} {G : List Sl} (h : Er K F O σ G) (i : Nat) {v : V} {d : Dt} (r : Dr K F v d) : Er K F O (σ.set i (some v)) (G.set i (.va d)) := by
  refine ⟨by rw [List.length_set, List.length_set, h.len], fun j s e => ?_⟩
  by_cases hj : i = j
  · subst hj
    by_cases hl : i < G.length
    · rw [List.getElem?_set_self hl] at e
      cases e
      rw [List.getElem?_set_self (by rw [h.len]; exact hl)]
      exact ⟨v, rfl, r⟩
    · rw [List.getElem?_eq_none (by rw [List.length_set]; omega)] at e
      cases e
  · rw [List.getElem?_set_ne hj] at e ⊢
    exact h.at' j s e
theorem own_set {σ : L2.St} {G : List Sl} {i : Nat} {d : Dt} {y : Option V} {j : Nat} {s : Sl} (e : (G.set i (.va d))[j]? = some s) (o : s.own = true) : G[j]? = some s ∧ (σ.set i y)[j]? = σ[j]? := by
  by_cases hj : i = j
  · subst hj
    by_cases hl : i < G.length
    · rw [List.getElem?_set_self hl] at e
      cases e
      cases o
    · rw [List.getElem?_eq_none (by rw [List.length_set]; omega)] at e
      cases e
  · rw [List.getElem?_set_ne hj] at e
    exact ⟨e, List.getElem?_set_ne hj⟩
theorem ag_name [Enc α] (i : Nat) : AG cf (gName i) (fun (a : α) G => G.set i (.va (toD a))) [i] := fun F O H σ G v a Q hf he r k =>
  k _ (er_set he i r) (fun j s e o => own_set e o) fun vs h => wipe_set (h i (by simp))
theorem ag_t2 [Enc α] [Enc β] {g1 g2 : TG} {u1 : α → List Sl → List Sl} {u2 : β → List Sl → List Sl} {j1 j2 : List Nat} (h1 : AG cf g1 u1 j1) (h2 : AG cf g2 u2 j2) :
    AG cf (gTup cf.K 2 (gCons g1 (gCons g2 gNil))) (fun (p : α × β) G => u2 p.2 (u1 p.1 G)) (j1 ++ j2) := fun F O H σ G v p Q hf he r k => by
  obtain ⟨a, vs, rfl, ht, hd⟩ := dr_tup (ds := [toD p.1, toD p.2]) r
  obtain ⟨v1, r1, rfl, d1, hd⟩ := drA_cons hd
  obtain ⟨v2, r2, rfl, d2, hd⟩ := drA_cons hd
  rw [drA_nil hd] at ht
  refine ⟨a, [v1, v2], rfl, SqT.of (hf.f _ _ ht), rfl, v1, [v2], rfl, h1 F O H σ G v1 p.1 _ hf he d1 fun σ1 e1 o1 w1 => ⟨v2, [], rfl, h2 F O H σ1 _ v2 p.2 _ hf e1 d2 fun σ2 e2 o2 w2 => ⟨rfl, k σ2 e2 (fun i s e o => ?_) fun vs hv => ?_⟩⟩⟩
  · obtain ⟨q1, q2⟩ := o2 i s e o
    obtain ⟨q3, q4⟩ := o1 i s q1 o
    exact ⟨q3, q2.trans q4⟩
  · rw [w2 vs fun j hj => hv j (by simp [hj]), w1 vs fun j hj => hv j (by simp [hj])]
theorem ag_t3 [Enc α] [Enc β] [Enc γ] {g1 g2 g3 : TG} {u1 : α → List Sl → List Sl} {u2 : β → List Sl → List Sl} {u3 : γ → List Sl → List Sl} {j1 j2 j3 : List Nat} (h1 : AG cf g1 u1 j1) (h2 : AG cf g2 u2 j2) (h3 : AG cf g3 u3 j3) :
    AG cf (gTup cf.K 3 (gCons g1 (gCons g2 (gCons g3 gNil)))) (fun (p : T3 α β γ) G => u3 p.c (u2 p.b (u1 p.a G))) (j1 ++ (j2 ++ j3)) := fun F O H σ G v p Q hf he r k => by
  obtain ⟨a, vs, rfl, ht, hd⟩ := dr_tup (ds := [toD p.a, toD p.b, toD p.c]) r
  obtain ⟨v1, r1, rfl, d1, hd⟩ := drA_cons hd
  obtain ⟨v2, r2, rfl, d2, hd⟩ := drA_cons hd
  obtain ⟨v3, r3, rfl, d3, hd⟩ := drA_cons hd
  rw [drA_nil hd] at ht
  refine ⟨a, [v1, v2, v3], rfl, SqT.of (hf.f _ _ ht), rfl, v1, [v2, v3], rfl, h1 F O H σ G v1 p.a _ hf he d1 fun σ1 e1 o1 w1 => ⟨v2, [v3], rfl, h2 F O H σ1 _ v2 p.b _ hf e1 d2 fun σ2 e2 o2 w2 => ⟨v3, [], rfl, h3 F O H σ2 _ v3 p.c _ hf e2 d3 fun σ3 e3 o3 w3 => ⟨rfl, k σ3 e3 (fun i s e o => ?_) fun vs hv => ?_⟩⟩⟩⟩
  · obtain ⟨q1, q2⟩ := o3 i s e o
    obtain ⟨q3, q4⟩ := o2 i s q1 o
    obtain ⟨q5, q6⟩ := o1 i s q3 o
    exact ⟨q5, q2.trans (q4.trans q6)⟩
  · rw [w3 vs fun j hj => hv j (by simp [hj]), w2 vs fun j hj => hv j (by simp [hj]), w1 vs fun j hj => hv j (by simp [hj])]

/-! ### comprehensions -/
def compR (ft : α → R Bool) (fe : α → R β) : List α → R (List β)
  | [] => .ok []
  | x :: r => (ft x).pu.bind fun b => if b = true then (fe x).pu.bind fun y => (compR ft fe r).bind fun ys => .ok (y :: ys) else compR ft fe r
def lcR (ft : α → R Bool) (fe : α → R β) (xs : List α) : R (List β) := (szR xs).bind fun xs => compR ft fe xs
def wipeG (G : List Sl) : List Nat → List Sl
  | [] => G
  | v :: vs => (wipeG G vs).set v .un
theorem er_wipe {K : PySem.W.Frag} {F O : Hp} {σ : L2.St} {G : List Sl} (h : Er K F O σ G) : ∀ vs : List Nat, Er K F O (wipe σ vs) (wipeG G vs)
  | [] => h
  | v :: vs => by
    have ih := er_wipe h vs
    refine ⟨by show ((wipe σ vs).set v none).length = ((wipeG G vs).set v .un).length; rw [List.length_set, List.length_set, ih.len], fun j s e => ?_⟩
    have e' : ((wipeG G vs).set v .un)[j]? = some s := e
    show SlOk K F O ((wipe σ vs).set v none)[j]? s
    by_cases hj : v = j
    · subst hj
      by_cases hl : v < (wipeG G vs).length
      · rw [List.getElem?_set_self hl] at e'
        cases e'
        exact trivial
      · rw [List.getElem?_eq_none (by rw [List.length_set]; omega)] at e'
        cases e'
    · rw [List.getElem?_set_ne hj] at e' ⊢
      exact ih.at' j s e'
theorem SlOk.monoO {K : PySem.W.Frag} {F O O' : Hp} {x : Option (Option V)} (e : Le O O') : ∀ {s : Sl}, SlOk K F O x s → SlOk K F O' x s
  | .un, _ => trivial
  | .va _, h => h
  | .ol _, ⟨a, vs, h1, h2, h3⟩ => ⟨a, vs, h1, e _ _ h2, h3⟩
  | .od _, ⟨a, vs, h1, h2, h3⟩ => ⟨a, vs, h1, e _ _ h2, h3⟩
  | .pv _, h => h
theorem Er.monoO {K : PySem.W.Frag} {F O O' : Hp} {σ : L2.St} {G : List Sl} (h : Er K F O σ G) (e : Le O O') : Er K F O' σ G := ⟨h.len, fun i s q => (h.at' i s q).monoO e⟩
theorem Fm.weak {F O O' H : Hp} (h : Fm F O' H) (e : Le O O') : Fm F O H := ⟨h.f, e.trans h.o, fun p q => e.free (h.ds p q)⟩
/-- a new object that is ours -/
theorem Fm.newO {F O H : Hp} (h : Fm F O H) {p : Addr} {o : HO} (e : H p = none) : Fm F (upd O p o) (upd H p o) := by
  refine ⟨h.f.trans (Le.new e), fun a u q => ?_, fun a q => ?_⟩
  · by_cases ha : a = p
    · subst ha
      rw [upd_same] at q ⊢
      exact q
    · rw [upd_ne ha] at q ⊢
      exact h.o a u q
  · have ha : a ≠ p := fun z => q (by rw [z]; exact h.fnone e)
    rw [upd_ne ha]
    exact h.ds a q
/-- what is ours changes -/
theorem Fm.wr {F O H : Hp} (h : Fm F O H) {p : Addr} {o u : HO} (e : O p = some u) : Fm F (upd O p o) (upd H p o) := by
  have hF := h.own e
  refine ⟨fun a v q => ?_, fun a v q => ?_, fun a q => ?_⟩
  · rw [upd_ne (ne_of_none q hF)]
    exact h.f a v q
  · by_cases ha : a = p
    · subst ha
      rw [upd_same] at q ⊢
      exact q
    · rw [upd_ne ha] at q ⊢
      exact h.o a v q
  · have ha : a ≠ p := fun z => q (by rw [z]; exact hF)
    rw [upd_ne ha]
    exact h.ds a q
theorem pu_ok {m : R α} {a : α} (h : m.pu = .ok a) : m = .ok a := by
  cases m with
  | ok b => exact congrArg R.ok (R.ok.inj h)
  | er c p => cases h
  | bad => cases h
theorem pu_nb {m : R α} (h : m.pu ≠ .bad) : ∃ a, m = .ok a := by
  cases m with
  | ok b => exact ⟨b, rfl⟩
  | er c p => exact absurd rfl h
  | bad => exact absurd rfl h
/-- [e for target in .. if t] -/
theorem ef_lc [Enc α] [Enc β] {wi : TI} {g : TG} {tt : TT} {te : TE} {vs js : List Nat} {m : R (List α)} {ft : α → R Bool} {fe : α → R β} {up : α → List Sl → List Sl} {Gi : α → List Sl} (hi : IG cf E wi G m) (hg : AG cf g up js)
    (hj : ∀ j ∈ js, j ∈ vs) (hG : ∀ a, up a (wipeG G vs) = Gi a) (ht : ∀ a, EB cf E0 tt (Gi a) (ft a)) (he : ∀ a, EM cf E0 te (Gi a) (fe a)) : EF cf E (tLc wi g tt te vs) G (m.bind (lcR ft fe)) := fun F O H σ Q hf hE nb ko ke =>
  hi F O H σ _ hf hE (R.bind_nb nb) (fun xs J F1 H1 em le1 hf1 hJ D hD => by
    rw [em, R.ok_bind] at nb ko
    obtain ⟨hz, ez⟩ := szR_nb (R.bind_nb nb)
    have etot : lcR ft fe xs = compR ft fe xs := by
      unfold lcR
      rw [ez]
      rfl
    rw [etot] at nb ko
    have hE1 : Er cf.K F1 O σ G := hE.mono le1
    let W : Nat → Nat → Hp → Prop := fun i mm H => mm = xs.length - i ∧ i ≤ xs.length ∧ ∃ (F2 : Hp) (ws : List V) (acc : List β), Le F1 F2 ∧ Fm F2 (upd O D (.lst ws)) H ∧ DrA cf.K F2 ws (acc.map toD) ∧ acc.length ≤ i ∧ (compR ft fe (xs.drop i)).bind (fun ys => .ok (acc ++ ys)) = compR ft fe xs
    refine ⟨W, ⟨xs.length, by simp, Nat.zero_le _, F1, [], [], Le.refl F1, hf1.newO hD, .nil, Nat.le_refl _, by rw [List.drop_zero]; simp only [List.nil_append]; exact R.bind_ok _⟩, ?_⟩
    rintro i mm H2 ⟨rfl, hi, F2, ws, acc, le2, hf2, hd, hacc, tot⟩
    have hO1 : O D = none := hf1.onone hD
    have leO : Le O (upd O D (.lst ws)) := Le.new hO1
    by_cases hlt : i < xs.length
    · have hx : xs[i]? = some xs[i] := List.getElem?_eq_getElem hlt
      rw [List.drop_eq_getElem_cons hlt] at tot
      rw [← tot] at nb
      have nbc := R.bind_nb nb
      obtain ⟨b, eb⟩ := pu_nb (R.bind_nb nbc)
      obtain ⟨hgo, hyl⟩ := (hJ i F2 (upd O D (.lst ws)) H2 le2 hf2).1 _ hx
      refine .inr ⟨hgo, fun H' => W (i + 1) (xs.length - (i + 1)) H', fun H' h' => ⟨_, by omega, h'⟩, fun v H3 hy => ?_⟩
      obtain ⟨F3, le3, hf3, hv⟩ := hyl v H3 hy
      refine hg F3 _ H3 _ _ v xs[i] _ hf3 (er_wipe ((hE1.mono (le2.trans le3)).monoO leO) vs) hv fun σ2 e2 _ w2 => ⟨?_, ?_⟩
      · rw [w2 vs hj]
        have key : ∀ (us : List Nat) (τ : L2.St), (∀ u ∈ us, u ∈ vs) → wipe (wipe σ us) vs = wipe σ vs := by
          intro us
          induction us with
          | nil => intro _ _; rfl
          | cons u us ih =>
            intro τ hu
            show wipe ((wipe σ us).set u none) vs = wipe σ vs
            rw [wipe_set (hu u (by simp)), ih τ fun z hz => hu z (by simp [hz])]
        exact key vs σ fun u hu => hu
      · rw [hG] at e2
        refine ht xs[i] F3 _ H3 σ2 _ hf3 e2 (by rw [eb]; intro z; cases z) (fun b' r F4 H4 eb' le4 hf4 hr => ?_) (fun c p d F4 H4 e => by rw [eb] at e; cases e)
        rw [eb] at eb'
        cases eb'
        obtain rfl : r = b := hr
        rw [show compR ft fe (xs[i] :: xs.drop (i + 1)) = (ft xs[i]).pu.bind fun b => if b = true then (fe xs[i]).pu.bind fun y => (compR ft fe (xs.drop (i + 1))).bind fun ys => .ok (y :: ys) else compR ft fe (xs.drop (i + 1)) from rfl, eb, R.ok_pu, R.ok_bind] at tot nbc
        cases r with
        | false =>
          rw [if_neg Bool.false_ne_true] at tot
          rw [if_neg Bool.false_ne_true]
          exact ⟨rfl, hlt, F4, ws, acc, (le2.trans le3).trans le4, hf4, hd.mono (le3.trans le4), by omega, tot⟩
        | true =>
          rw [if_pos rfl] at tot nbc
          rw [if_pos rfl]
          obtain ⟨y, ey⟩ := pu_nb (R.bind_nb nbc)
          refine he xs[i] F4 _ H4 σ2 _ hf4 (e2.mono le4) (by rw [ey]; intro z; cases z) (fun y' u F5 H5 ey' le5 hf5 hu => ?_) (fun c p d F5 H5 e => by rw [ey] at e; cases e)
          rw [ey] at ey'
          cases ey'
          rw [ey, R.ok_pu, R.ok_bind] at tot
          refine ⟨ws, hf5.o D _ upd_same, ?_, rfl, hlt, F5, ws ++ [u], acc ++ [y], ((le2.trans le3).trans le4).trans le5, ?_, ?_, by rw [List.length_append]; simp; omega, ?_⟩
          · rw [hd.length, List.length_map]
            exact sz_ltM (by omega)
          · have q := hf5.wr (o := .lst (ws ++ [u])) upd_same
            rw [upd_upd] at q
            exact q
          · rw [List.map_append]
            exact (hd.mono ((le3.trans le4).trans le5)).append (.cons hu .nil)
          · rw [← tot, R.bind_bind]
            simp only [R.ok_bind, List.append_assoc, List.cons_append, List.nil_append]
    · have e : i = xs.length := by omega
      subst e
      rw [List.drop_length] at tot
      have tot2 : compR ft fe xs = .ok acc := by
        rw [← tot]
        show R.ok (acc ++ []) = _
        rw [List.append_nil]
      have hFD : F2 D = none := hf2.own (o := .lst ws) upd_same
      exact .inl ⟨(hJ _ F2 (upd O D (.lst ws)) H2 le2 hf2).2 (Nat.le_refl _), ko acc _ F2 H2 tot2 (le1.trans le2) (hf2.weak leO) ⟨D, ws, rfl, hFD, hO1, hf2.o D _ upd_same, hd⟩⟩) fun c p d F' H' e => ke c p d F' H' (by rw [e]; rfl)
theorem eb_yes : EB cf E tYes G (.ok true) := EG.fin fun F O H σ Q hf he ko => ko _ F H (Le.refl F) hf rfl
end
end Kr

/-! KrE: statements by data, defs' promises. -/
namespace Kr
open PySem PySem.Spec PyProof.Rows L2
open Enc (toD)

/-- how a block ends: behind it, by break, by return -/
inductive Fl (S ρ : Type) where
  | nx (s : S)
  | bk (s : S)
  | rt (r : ρ)
def seqF {S T ρ : Type} (m : R (Fl S ρ)) (k : S → R (Fl T ρ)) : R (Fl T ρ) := m.bind fun
  | .nx s => k s
  | .bk _ => .bad
  | .rt r => .ok (.rt r)
def Mt (K : PySem.W.Frag) (F O H : Hp) (σ : L2.St) (G : List Sl) : Prop := ∃ O', Le O O' ∧ Fm F O' H ∧ Er K F O' σ G ∧
  (∀ (i : Nat) (s : Sl) (a : Addr), G[i]? = some s → s.own = true → σ[i]? = some (some (.ref a)) → O a = none) ∧
  (∀ (i j : Nat) (s t : Sl) (a : Addr), i ≠ j → G[i]? = some s → G[j]? = some t → s.own = true → t.own = true → σ[i]? = some (some (.ref a)) → σ[j]? = some (some (.ref a)) → False)
theorem Mt.fm {K : PySem.W.Frag} {F O H : Hp} {σ : L2.St} {G : List Sl} (h : Mt K F O H σ G) : Fm F O H := let ⟨_, l, f, _⟩ := h; f.weak l
def SB {S ρ : Type} [Enc ρ] (cf : Cf) (E : XK) (ts : TS) (G : List Sl) (enc : S → List Sl) (m : R (Fl S ρ)) : Prop :=
  ∀ (F O H : Hp) (σ : L2.St) (D : Ends), Mt cf.K F O H σ G → m ≠ .bad →
    (∀ s F' H' σ', m = .ok (.nx s) → Le F F' → Mt cf.K F' O H' σ' (enc s) → D.nx σ' H') →
    (∀ s F' H' σ', m = .ok (.bk s) → Le F F' → Mt cf.K F' O H' σ' (enc s) → D.bk σ' H') →
    (∀ r v F' H', m = .ok (.rt r) → Le F F' → Fm F' O H' → Dr cf.K F' v (toD r) → D.rt v H') →
    (∀ c p d F' H', m = .er c p → Le F F' → Fm F' O H' → F' d = some (xdO cf c p) → E (.ref (cf.cls c)) (some d) H') → ts D σ H
section
variable {cf : Cf} {E : XK} {G G' : List Sl} {S T α β γ ρ : Type} [Enc ρ] {ta tb te : TE} {t u : TS} {tc : TT} {enc : S → List Sl} {D : Ends}
theorem SB.cast {m n : R (Fl S ρ)} (h : SB cf E t G enc m) (e : m = n) : SB cf E t G enc n := e ▸ h
/-- an expression, then what comes with its value -/
theorem sb_of {α τ : Type} {r : L2.St → Hp → (τ → Hp → Prop) → Prop} {m : R α} {rel : Hp → Hp → Hp → τ → α → Prop} {f : α → R (Fl S ρ)} {k : τ → TS} (h : EG cf E r G m rel)
    (hk : ∀ (F O O' H : Hp) (σ : L2.St) (D : Ends) (a : α) (v : τ), Le O O' → Fm F O' H → Er cf.K F O' σ G →
      (∀ (i : Nat) (s : Sl) (a : Addr), G[i]? = some s → s.own = true → σ[i]? = some (some (.ref a)) → O a = none) →
      (∀ (i j : Nat) (s t : Sl) (a : Addr), i ≠ j → G[i]? = some s → G[j]? = some t → s.own = true → t.own = true → σ[i]? = some (some (.ref a)) → σ[j]? = some (some (.ref a)) → False) →
      rel F O' H v a → f a ≠ .bad →
      (∀ s F' H' σ', f a = .ok (.nx s) → Le F F' → Mt cf.K F' O H' σ' (enc s) → D.nx σ' H') →
      (∀ s F' H' σ', f a = .ok (.bk s) → Le F F' → Mt cf.K F' O H' σ' (enc s) → D.bk σ' H') →
      (∀ r v F' H', f a = .ok (.rt r) → Le F F' → Fm F' O H' → Dr cf.K F' v (toD r) → D.rt v H') →
      (∀ c p d F' H', f a = .er c p → Le F F' → Fm F' O H' → F' d = some (xdO cf c p) → E (.ref (cf.cls c)) (some d) H') → k v D σ H) :
    SB cf E (fun D σ H => r σ H fun v H1 => k v D σ H1) G enc (m.bind f) := fun F O H σ D hM nb kn kb kr ke => by
  obtain ⟨O', lo, hf, he, o1, o2⟩ := hM
  refine h F O' H σ _ hf he (R.bind_nb nb) (fun a v F' H' ea le hf' hr => ?_) (fun c p d F' H' e le hf' hd => ke c p d F' H' (by rw [e]; rfl) le (hf'.weak lo) hd)
  rw [ea, R.ok_bind] at nb kn kb kr ke
  exact hk F' O O' H' σ D a v lo hf' (he.mono le) o1 o2 hr nb (fun s F'' H'' σ' e le' => kn s F'' H'' σ' e (le.trans le')) (fun s F'' H'' σ' e le' => kb s F'' H'' σ' e (le.trans le')) (fun r v F'' H'' e le' => kr r v F'' H'' e (le.trans le'))
    fun c p d F'' H'' e le' => ke c p d F'' H'' e (le.trans le')
theorem sb_one {m : R (Fl S ρ)} (h : SB cf E (tSeq t tNext) G enc m) : SB cf E t G enc m := h
theorem sb_assoc {w' : TS} {m : R (Fl S ρ)} (h : SB cf E (tSeq t (tSeq u w')) G enc m) : SB cf E (tSeq (tSeq t u) w') G enc m := h
/-- what is known less -/
inductive Sub : List Sl → List Sl → Prop
  | nil : Sub [] []
  | same {s : Sl} {G G' : List Sl} : Sub G G' → Sub (s :: G) (s :: G')
  | drop {s : Sl} {G G' : List Sl} : Sub G G' → Sub (s :: G) (.un :: G')
theorem Sub.len : ∀ {G G' : List Sl}, Sub G G' → G.length = G'.length
  | _, _, .nil => rfl
  | _, _, .same h => by rw [List.length_cons, List.length_cons, Sub.len h]
  | _, _, .drop h => by rw [List.length_cons, List.length_cons, Sub.len h]
theorem Sub.at : ∀ {G G' : List Sl}, Sub G G' → ∀ (i : Nat) (s : Sl), G'[i]? = some s → s = .un ∨ G[i]? = some s
  | _, _, .nil, i, s, h => by simp at h
  | _, _, .same _, 0, s, h => .inr h
  | _, _, .same q, i + 1, s, h => by
    rcases Sub.at q i s (by simpa using h) with e | e
    · exact .inl e
    · exact .inr (by simpa using e)
  | _, _, .drop _, 0, s, h => by
    simp at h
    exact .inl h.symm
  | _, _, .drop q, i + 1, s, h => by
    rcases Sub.at q i s (by simpa using h) with e | e
    · exact .inl e
    · exact .inr (by simpa using e)
theorem Mt.sub {K : PySem.W.Frag} {F O H : Hp} {σ : L2.St} (q : Sub G G') (h : Mt K F O H σ G) : Mt K F O H σ G' := by
  obtain ⟨O', lo, hf, he, o1, o2⟩ := h
  refine ⟨O', lo, hf, ⟨he.len.trans q.len, fun i s e => ?_⟩, fun i s a e o => ?_, fun i j s t a hij e e' o o' => ?_⟩
  · rcases q.at i s e with z | z
    · rw [z]
      exact trivial
    · exact he.at' i s z
  · rcases q.at i s e with z | z
    · rw [z] at o
      cases o
    · exact o1 i s a z o
  · rcases q.at i s e with z | z
    · rw [z] at o
      cases o
    · rcases q.at j t e' with z' | z'
      · rw [z'] at o'
        cases o'
      · exact o2 i j s t a hij z z' o o'
theorem sb_sub {m : R (Fl S ρ)} (q : Sub G G') (h : SB cf E t G' enc m) : SB cf E t G enc m := fun F O H σ D hM => h F O H σ D (hM.sub q)
theorem sb_next (s : S) (q : Sub G (enc s)) : SB cf E tNext G enc (.ok (.nx s) : R (Fl S ρ)) := fun F O H σ D hM _ kn _ _ _ => kn s F H σ rfl (Le.refl F) (hM.sub q)
theorem sb_break (s : S) (q : Sub G (enc s)) : SB cf E tBreak G enc (.ok (.bk s) : R (Fl S ρ)) := fun F O H σ D hM _ _ kb _ _ => kb s F H σ rfl (Le.refl F) (hM.sub q)
theorem sb_break2 (s : S) (q : Sub G (enc s)) : SB cf E (tSeq tBreak u) G enc (.ok (.bk s) : R (Fl S ρ)) := fun F O H σ D hM _ _ kb _ _ => kb s F H σ rfl (Le.refl F) (hM.sub q)
theorem sb_ret {m : R ρ} (h : EM cf E te G m) : SB cf E (tRet te) G enc (m.bind fun r => .ok (.rt r)) :=
  sb_of (k := fun v D σ H => D.rt v H) h fun F O O' H σ D a v lo hf he o1 o2 hr nb kn kb kr ke => kr a v F H rfl (Le.refl F) (hf.weak lo) hr
theorem sb_ret2 {m : R ρ} (h : EM cf E te G m) : SB cf E (tSeq (tRet te) u) G enc (m.bind fun r => .ok (.rt r)) :=
  sb_of (k := fun v D σ H => D.rt v H) h fun F O O' H σ D a v lo hf he o1 o2 hr nb kn kb kr ke => kr a v F H rfl (Le.refl F) (hf.weak lo) hr
/-- target = e, then u -/
theorem sb_asg [Enc α] {g : TG} {up : α → List Sl → List Sl} {js : List Nat} {m : R α} {f : α → R (Fl S ρ)} (h : EM cf E te G m) (hg : AG cf g up js) (G' : α → List Sl) (hG : ∀ a, up a G = G' a) (hk : ∀ a, SB cf E u (G' a) enc (f a)) :
    SB cf E (tSeq (tAsg te g) u) G enc (m.bind f) :=
  sb_of (k := fun v D σ H => g v σ H (u D)) h fun F O O' H σ D a v lo hf he o1 o2 hr nb kn kb kr ke => hg F O' H σ G v a _ hf he hr fun σ' e' own _ => by
    rw [hG] at e' own
    refine hk a F O H σ' D ⟨O', lo, hf, e', fun i s b q o => ?_, fun i j s t b hij q q' o o' => ?_⟩ nb kn kb kr ke
    · obtain ⟨q1, q2⟩ := own i s q o
      rw [q2]
      exact o1 i s b q1 o
    · obtain ⟨q1, q2⟩ := own i s q o
      obtain ⟨q3, q4⟩ := own j t q' o'
      rw [q2, q4]
      exact o2 i j s t b hij q1 q3 o o'
theorem aug_eq {i : Nat} {ti : TIp} : tAug i te ti = tAsg (tOp ti (tVar i) te) (gName i) := rfl
theorem sb_aug [Enc α] {i : Nat} {ti : TIp} {m : R α} {f : α → R (Fl S ρ)} (h : EM cf E (tOp ti (tVar i) te) G m) (G' : α → List Sl) (hG : ∀ a, G.set i (.va (toD a)) = G' a) (hk : ∀ a, SB cf E u (G' a) enc (f a)) :
    SB cf E (tSeq (tAug i te ti) u) G enc (m.bind f) := sb_asg h (ag_name i) G' hG hk
/-- x = a new list, owned -/
theorem er_own {K : PySem.W.Frag} {F O : Hp} {σ : L2.St} (h : Er K F O σ G) (i : Nat) {v : V} {s : Sl} (r : SlOk K F O (some (some v)) s) : Er K F O (σ.set i (some v)) (G.set i s) := by
  refine ⟨by rw [List.length_set, List.length_set, h.len], fun j t e => ?_⟩
  by_cases hj : i = j
  · subst hj
    by_cases hl : i < G.length
    · rw [List.getElem?_set_self hl] at e
      cases e
      rw [List.getElem?_set_self (by rw [h.len]; exact hl)]
      exact r
    · rw [List.getElem?_eq_none (by rw [List.length_set]; omega)] at e
      cases e
  · rw [List.getElem?_set_ne hj] at e ⊢
    exact h.at' j t e
theorem get_set {A : Type} {l : List A} {i j : Nat} {x y : A} (h : (l.set i x)[j]? = some y) : (i = j ∧ y = x ∧ i < l.length) ∨ (i ≠ j ∧ l[j]? = some y) := by
  by_cases hj : i = j
  · subst hj
    by_cases hl : i < l.length
    · rw [List.getElem?_set_self hl] at h
      cases h
      exact .inl ⟨rfl, rfl, hl⟩
    · rw [List.getElem?_eq_none (by rw [List.length_set]; omega)] at h
      cases h
  · rw [List.getElem?_set_ne hj] at h
    exact .inr ⟨hj, h⟩
/-- the slot i owns a new object at a -/
theorem mt_new {K : PySem.W.Frag} {F O O' H : Hp} {σ : L2.St} {i : Nat} {a : Addr} {o : HO} {s : Sl} (lo : Le O O') (hf : Fm F O' H) (he : Er K F O' σ G)
    (o1 : ∀ (i : Nat) (s : Sl) (a : Addr), G[i]? = some s → s.own = true → σ[i]? = some (some (.ref a)) → O a = none)
    (o2 : ∀ (i j : Nat) (s t : Sl) (a : Addr), i ≠ j → G[i]? = some s → G[j]? = some t → s.own = true → t.own = true → σ[i]? = some (some (.ref a)) → σ[j]? = some (some (.ref a)) → False)
    (hF : F a = none) (hO : O' a = none) (hH : H a = some o) (hs : SlOk K F (upd O' a o) (some (some (.ref a))) s) : Mt K F O H (σ.set i (some (.ref a))) (G.set i s) := by
  have loa : O a = none := lo.free hO
  have hf2 : Fm F (upd O' a o) H := by
    refine ⟨hf.f, fun b u q => ?_, fun b q => ?_⟩
    · by_cases hb : b = a
      · subst hb
        rw [upd_same] at q
        rw [hH]
        exact q
      · rw [upd_ne hb] at q
        exact hf.o b u q
    · have hb : b ≠ a := fun z => q (by rw [z]; exact hF)
      rw [upd_ne hb]
      exact hf.ds b q
  -- no slot that owns holds a
  have na : ∀ (j : Nat) (t : Sl), G[j]? = some t → t.own = true → σ[j]? = some (some (.ref a)) → False := fun j t e o q => by
    have := he.at' j t e
    cases t with
    | un => cases o
    | pv v => cases o
    | va d => cases o
    | ol ds =>
      obtain ⟨b, vs, e1, e2, _⟩ := this
      rw [q] at e1
      cases e1
      rw [hO] at e2
      cases e2
    | od ds =>
      obtain ⟨b, vs, e1, e2, _⟩ := this
      rw [q] at e1
      cases e1
      rw [hO] at e2
      cases e2
  refine ⟨upd O' a o, lo.trans (Le.new hO), hf2, er_own (he.monoO (Le.new hO)) i hs, fun j t b e ow q => ?_, fun j l t t' b hjl e e' ow ow' q q' => ?_⟩
  · rcases get_set q with ⟨rfl, e1, _⟩ | ⟨hj, q⟩
    · cases e1
      exact loa
    · rcases get_set e with ⟨rfl, _, _⟩ | ⟨_, e⟩
      · exact absurd rfl hj
      · exact o1 j t b e ow q
  · rcases get_set e with ⟨rfl, rfl, hl⟩ | ⟨hj, e1⟩
    · rw [List.getElem?_set_self (by rw [he.len]; exact hl)] at q
      cases q
      rcases get_set e' with ⟨rfl, _, _⟩ | ⟨hl', e'⟩
      · exact hjl rfl
      · rw [List.getElem?_set_ne hl'] at q'
        exact na l t' e' ow' q'
    · rw [List.getElem?_set_ne hj] at q
      rcases get_set e' with ⟨rfl, rfl, hl⟩ | ⟨hl', e2⟩
      · rw [List.getElem?_set_self (by rw [he.len]; exact hl)] at q'
        cases q'
        exact na j t e1 ow q
      · rw [List.getElem?_set_ne hl'] at q'
        exact o2 j l t t' b hjl e1 e2 ow ow' q q'
theorem sb_asgO [Enc α] {i : Nat} {m : R (List α)} {f : List α → R (Fl S ρ)} (h : EF cf E te G m) (G' : List α → List Sl) (hG : ∀ xs : List α, G.set i (.ol (xs.map toD)) = G' xs) (hk : ∀ xs, SB cf E u (G' xs) enc (f xs)) :
    SB cf E (tSeq (tAsg te (gName i)) u) G enc (m.bind f) :=
  sb_of (k := fun v D σ H => u D (σ.set i (some v)) H) h fun F O O' H σ D xs v lo hf he o1 o2 hr nb kn kb kr ke => by
    obtain ⟨a, vs, rfl, hF, hO, hH, hd⟩ := hr
    refine hk xs F O H _ D ?_ nb kn kb kr ke
    rw [← hG]
    exact mt_new lo hf he o1 o2 hF hO hH ⟨a, vs, rfl, upd_same, hd⟩
/-- the owned object of the slot i changes -/
theorem mt_wr {K : PySem.W.Frag} {F O O' H : Hp} {σ : L2.St} {i : Nat} {a : Addr} {o u : HO} {s s0 : Sl} (lo : Le O O') (hf : Fm F O' H) (he : Er K F O' σ G)
    (o1 : ∀ (i : Nat) (s : Sl) (a : Addr), G[i]? = some s → s.own = true → σ[i]? = some (some (.ref a)) → O a = none)
    (o2 : ∀ (i j : Nat) (s t : Sl) (a : Addr), i ≠ j → G[i]? = some s → G[j]? = some t → s.own = true → t.own = true → σ[i]? = some (some (.ref a)) → σ[j]? = some (some (.ref a)) → False)
    (h0 : G[i]? = some s0) (w0 : s0.own = true) (hσ : σ[i]? = some (some (.ref a))) (hO : O' a = some u) (ws : s.own = true) (hs : SlOk K F (upd O' a o) (some (some (.ref a))) s) : Mt K F O (upd H a o) σ (G.set i s) := by
  have hOa : O a = none := o1 i s0 a h0 w0 hσ
  refine ⟨upd O' a o, fun b x q => ?_, hf.wr hO, ⟨by rw [List.length_set, he.len], fun j t e => ?_⟩, fun j t b e ow q => ?_, fun j l t t' b hjl e e' ow ow' q q' => ?_⟩
  · rw [upd_ne (ne_of_none q hOa)]
    exact lo b x q
  · rcases get_set e with ⟨rfl, rfl, _⟩ | ⟨hj, e⟩
    · rw [hσ]
      exact hs
    · have := he.at' j t e
      cases t with
      | un => trivial
      | pv v => exact this
      | va d => exact this
      | ol ds =>
        obtain ⟨b, vs, e1, e2, e3⟩ := this
        have hb : b ≠ a := fun z => o2 i j s0 (.ol ds) a hj h0 e w0 rfl hσ (by rw [e1, z])
        exact ⟨b, vs, e1, by rw [upd_ne hb]; exact e2, e3⟩
      | od ds =>
        obtain ⟨b, vs, e1, e2, e3⟩ := this
        have hb : b ≠ a := fun z => o2 i j s0 (.od ds) a hj h0 e w0 rfl hσ (by rw [e1, z])
        exact ⟨b, vs, e1, by rw [upd_ne hb]; exact e2, e3⟩
  · rcases get_set e with ⟨rfl, rfl, _⟩ | ⟨hj, e⟩
    · exact o1 i s0 b h0 w0 q
    · exact o1 j t b e ow q
  · rcases get_set e with ⟨rfl, rfl, _⟩ | ⟨hj, e1⟩
    · rcases get_set e' with ⟨rfl, _, _⟩ | ⟨hl, e2⟩
      · exact hjl rfl
      · exact o2 i l s0 t' b hjl h0 e2 w0 ow' q q'
    · rcases get_set e' with ⟨rfl, rfl, _⟩ | ⟨hl, e2⟩
      · exact o2 j i t s0 b hjl e1 h0 ow w0 q q'
      · exact o2 j l t t' b hjl e1 e2 ow ow' q q'
/-- x.append(e), x owned -/
theorem sb_app [Enc α] {i : Nat} {m : R α} {xs : List α} {f : List α → R (Fl S ρ)} (h0 : G[i]? = some (.ol (xs.map toD))) (h : EM cf E te G m) (G' : List α → List Sl) (hG : ∀ xs : List α, G.set i (.ol (xs.map toD)) = G' xs) (hk : ∀ xs, SB cf E u (G' xs) enc (f xs)) :
    SB cf E (tSeq (tDrop (tBM cf.K "list" rAppend (tVar i) (tCons te tNil))) u) G enc (m.bind fun a => (szR (xs ++ [a])).bind f) := fun F O H σ D hM nb kn kb kr ke => by
  obtain ⟨O', lo, hf, he, o1, o2⟩ := hM
  obtain ⟨a, vs, eσ, eO, hd⟩ := he.at' i _ h0
  refine ⟨_, eσ, .inl ⟨rfl, vs, SqL.of (hf.o _ _ eO)⟩, ?_⟩
  refine h F O' H σ _ hf he (R.bind_nb nb) (fun x v F' H' ex le hf' hr => ?_) (fun c p d F' H' e le hf' hd => ke c p d F' H' (by rw [e]; rfl) le (hf'.weak lo) hd)
  rw [ex, R.ok_bind] at nb kn kb kr ke
  obtain ⟨c, ec⟩ := szR_nb (R.bind_nb nb)
  rw [ec, R.ok_bind] at nb kn kb kr ke
  refine ⟨a, vs, v, rfl, rfl, hf'.o _ _ eO, ?_, ?_⟩
  · rw [hd.length, List.length_map]
    rw [List.length_append] at c
    exact sz_ltM (by omega)
  · refine hk _ F' O _ σ D ?_ nb (fun s F'' H'' σ' e le' => kn s F'' H'' σ' e (le.trans le')) (fun s F'' H'' σ' e le' => kb s F'' H'' σ' e (le.trans le')) (fun r v F'' H'' e le' => kr r v F'' H'' e (le.trans le')) fun c p d F'' H'' e le' => ke c p d F'' H'' e (le.trans le')
    rw [← hG]
    exact mt_wr lo hf' (he.mono le) o1 o2 h0 rfl eσ eO rfl ⟨a, _, rfl, upd_same, by
      rw [List.map_append]
      exact (hd.mono le).append (.cons hr .nil)⟩
/-- x.extend(e), x owned -/
theorem sb_ext [Enc α] {i : Nat} {m : R (List α)} {xs : List α} {f : List α → R (Fl S ρ)} (h0 : G[i]? = some (.ol (xs.map toD))) (h : EL cf E te G m) (G' : List α → List Sl) (hG : ∀ xs : List α, G.set i (.ol (xs.map toD)) = G' xs) (hk : ∀ xs, SB cf E u (G' xs) enc (f xs)) :
    SB cf E (tSeq (tDrop (tBM cf.K "list" rExtend (tVar i) (tCons te tNil))) u) G enc (m.bind fun ys => (szR (xs ++ ys)).bind f) := fun F O H σ D hM nb kn kb kr ke => by
  obtain ⟨O', lo, hf, he, o1, o2⟩ := hM
  obtain ⟨a, vs, eσ, eO, hd⟩ := he.at' i _ h0
  refine ⟨_, eσ, .inl ⟨rfl, vs, SqL.of (hf.o _ _ eO)⟩, ?_⟩
  refine h F O' H σ _ hf he (R.bind_nb nb) (fun ys v F' H' ex le hf' hr => ?_) (fun c p d F' H' e le hf' hd => ke c p d F' H' (by rw [e]; rfl) le (hf'.weak lo) hd)
  rw [ex, R.ok_bind] at nb kn kb kr ke
  obtain ⟨c, ec⟩ := szR_nb (R.bind_nb nb)
  rw [ec, R.ok_bind] at nb kn kb kr ke
  obtain ⟨b, ws, eb, hb, hw⟩ := RL.at hr hf'
  refine ⟨a, b, vs, ws, rfl, by rw [eb], hf'.o _ _ eO, hb, ?_, ?_⟩
  · rw [hd.length, hw.length, List.length_map, List.length_map, ← List.length_append]
    exact sz_le c
  · refine hk _ F' O _ σ D ?_ nb (fun s F'' H'' σ' e le' => kn s F'' H'' σ' e (le.trans le')) (fun s F'' H'' σ' e le' => kb s F'' H'' σ' e (le.trans le')) (fun r v F'' H'' e le' => kr r v F'' H'' e (le.trans le')) fun c p d F'' H'' e le' => ke c p d F'' H'' e (le.trans le')
    rw [← hG]
    exact mt_wr lo hf' (he.mono le) o1 o2 h0 rfl eσ eO rfl ⟨a, _, rfl, upd_same, by
      rw [List.map_append]
      exact (hd.mono le).append hw⟩
/-- x.reverse(), x owned -/
theorem sb_rev [Enc α] {i : Nat} {xs : List α} {m : R (Fl S ρ)} (h0 : G[i]? = some (.ol (xs.map toD))) (G' : List Sl) (hG : G.set i (.ol (xs.reverse.map toD)) = G') (hk : SB cf E u G' enc m) :
    SB cf E (tSeq (tDrop (tBM0 cf.K "list" rReverse (tVar i))) u) G enc m := fun F O H σ D hM nb kn kb kr ke => by
  obtain ⟨O', lo, hf, he, o1, o2⟩ := hM
  obtain ⟨a, vs, eσ, eO, hd⟩ := he.at' i _ h0
  refine ⟨_, eσ, .inl ⟨rfl, vs, SqL.of (hf.o _ _ eO)⟩, a, vs, rfl, rfl, hf.o _ _ eO, ?_⟩
  refine hk F O _ σ D ?_ nb kn kb kr ke
  rw [← hG]
  exact mt_wr lo hf he o1 o2 h0 rfl eσ eO rfl ⟨a, _, rfl, upd_same, by
    rw [List.map_reverse]
    exact hd.reverse⟩
/-- target = x.pop(), x owned -/
def popR (xs : List α) : R (List α × α) := match xs.getLast? with
  | some x => .ok (xs.dropLast, x)
  | none => .bad
theorem sb_pop [Enc α] {i : Nat} {g : TG} {up : α → List Sl → List Sl} {js : List Nat} {xs : List α} {f : List α × α → R (Fl S ρ)} (h0 : G[i]? = some (.ol (xs.map toD))) (hg : AG cf g up js) (G' : List α × α → List Sl)
    (hG : ∀ p : List α × α, up p.2 (G.set i (.ol (p.1.map toD))) = G' p) (hk : ∀ p, SB cf E u (G' p) enc (f p)) :
    SB cf E (tSeq (tAsg (tBM0 cf.K "list" rPop (tVar i)) g) u) G enc ((popR xs).bind f) := fun F O H σ D hM nb kn kb kr ke => by
  obtain ⟨O', lo, hf, he, o1, o2⟩ := hM
  obtain ⟨a, vs, eσ, eO, hd⟩ := he.at' i _ h0
  cases hl : xs.getLast? with
  | none =>
    unfold popR at nb
    rw [hl] at nb
    exact absurd rfl nb
  | some x =>
    have ep : popR xs = .ok (xs.dropLast, x) := by
      unfold popR
      rw [hl]
    rw [ep, R.ok_bind] at nb kn kb kr ke
    rw [List.getLast?_eq_getElem?] at hl
    obtain ⟨v, hv, hr⟩ := hd.get (show (xs.map toD)[xs.length - 1]? = some (toD x) by rw [List.getElem?_map, hl]; rfl)
    have hlen : vs.length = xs.length := by rw [hd.length, List.length_map]
    refine ⟨_, eσ, .inl ⟨rfl, vs, SqL.of (hf.o _ _ eO)⟩, a, vs, v, rfl, rfl, hf.o _ _ eO, by rw [hlen]; exact hv, ?_⟩
    have hM2 : Mt cf.K F O (upd H a (.lst vs.dropLast)) σ (G.set i (.ol (xs.dropLast.map toD))) := mt_wr lo hf he o1 o2 h0 rfl eσ eO rfl ⟨a, _, rfl, upd_same, by
      rw [List.map_dropLast]
      exact hd.dropLast⟩
    obtain ⟨O2, lo2, hf2, he2, o12, o22⟩ := hM2
    refine hg F O2 _ σ _ v x _ hf2 he2 hr fun σ' e' own _ => ?_
    have hG' := hG (xs.dropLast, x)
    rw [hG'] at e' own
    refine hk _ F O _ σ' D ⟨O2, lo2, hf2, e', fun i s b q o => ?_, fun i j s t b hij q q' o o' => ?_⟩ nb kn kb kr ke
    · obtain ⟨q1, q2⟩ := own i s q o
      rw [q2]
      exact o12 i s b q1 o
    · obtain ⟨q1, q2⟩ := own i s q o
      obtain ⟨q3, q4⟩ := own j t q' o'
      rw [q2, q4]
      exact o22 i j s t b hij q1 q3 o o'
/-- x[k] = e, x owned -/
def setR (xs : List α) (k : Int) (a : α) : R (List α) := match ixN xs.length k with
  | some j => .ok (xs.set j a)
  | none => .bad
theorem sb_setL [Enc α] {i : Nat} {tk : TE} {m : R α} {n : R Int} {xs : List α} {f : List α → R (Fl S ρ)} (h0 : G[i]? = some (.ol (xs.map toD))) (h : EM cf E te G m) (hi : EM cf E tk G n) (G' : List α → List Sl) (hG : ∀ xs : List α, G.set i (.ol (xs.map toD)) = G' xs) (hk : ∀ xs, SB cf E u (G' xs) enc (f xs)) :
    SB cf E (tSeq (tAsg te (gSub (tVar i) tk rSetL)) u) G enc (m.bind fun a => n.bind fun k => (setR xs k a).bind f) := fun F O H σ D hM nb kn kb kr ke => by
  obtain ⟨O', lo, hf, he, o1, o2⟩ := hM
  obtain ⟨a, vs, eσ, eO, hd⟩ := he.at' i _ h0
  refine h F O' H σ _ hf he (R.bind_nb nb) (fun x v F1 H1 ex le1 hf1 hr => ?_) (fun c p d F' H' e le hf' hd => ke c p d F' H' (by rw [e]; rfl) le (hf'.weak lo) hd)
  rw [ex, R.ok_bind] at nb kn kb kr ke
  refine ⟨_, eσ, ?_⟩
  refine hi F1 O' H1 σ _ hf1 (he.mono le1) (R.bind_nb nb) (fun k w' F' H' ek le2 hf' hw => ?_) (fun c p d F' H' e le hf' hd => ke c p d F' H' (by rw [e]; rfl) (le1.trans le) (hf'.weak lo) hd)
  rw [ek, R.ok_bind] at nb kn kb kr ke
  cases hx : ixN xs.length k with
  | none =>
    unfold setR at nb
    rw [hx] at nb
    exact absurd rfl nb
  | some j =>
    have es : setR xs k x = .ok (xs.set j x) := by
      unfold setR
      rw [hx]
    rw [es, R.ok_bind] at nb kn kb kr ke
    have le := le1.trans le2
    refine ⟨a, vs, k, j, rfl, dr_int hw, hf'.o _ _ eO, by rw [hd.length, List.length_map]; exact hx, ?_⟩
    refine hk _ F' O _ σ D ?_ nb (fun s F'' H'' σ' e le' => kn s F'' H'' σ' e (le.trans le')) (fun s F'' H'' σ' e le' => kb s F'' H'' σ' e (le.trans le')) (fun r v F'' H'' e le' => kr r v F'' H'' e (le.trans le')) fun c p d F'' H'' e le' => ke c p d F'' H'' e (le.trans le')
    rw [← hG]
    exact mt_wr lo hf' (he.mono le) o1 o2 h0 rfl eσ eO rfl ⟨a, _, rfl, upd_same, by
      rw [List.map_set]
      exact (hd.mono le).set (hr.mono le2) j⟩
def era (H : Hp) (a : Addr) : Hp := fun b => if b = a then none else H b
theorem era_ne {H : Hp} {a b : Addr} (h : b ≠ a) : era H a b = H b := if_neg h
theorem era_same {H : Hp} {a : Addr} : era H a a = none := if_pos rfl
/-- what is owned becomes data -/
theorem sb_frz {i : Nat} {ds : List Dt} {m : R (Fl S ρ)} (h0 : G[i]? = some (.ol ds)) (G' : List Sl) (hG : G.set i (.va (.lst ds)) = G') (h : SB cf E t G' enc m) : SB cf E t G enc m := fun F O H σ D hM nb kn kb kr ke => by
  obtain ⟨O', lo, hf, he, o1, o2⟩ := hM
  obtain ⟨a, vs, eσ, eO, hd⟩ := he.at' i _ h0
  have hF : F a = none := hf.own eO
  have hOa : O a = none := o1 i _ a h0 rfl eσ
  have le : Le F (upd F a (.lst vs)) := Le.new hF
  have hdel : ∀ b o, b ≠ a → O' b = some o → era O' a b = some o := fun b o hb q => by rw [era_ne hb]; exact q
  have hM2 : Mt cf.K (upd F a (.lst vs)) O H σ G' := by
    refine ⟨era O' a, fun b x q => hdel b x (ne_of_none q hOa) (lo b x q), ⟨fun b x q => ?_, fun b x q => ?_, fun b q => ?_⟩, ⟨?_, fun j s e => ?_⟩, fun j t b e ow q => ?_, fun j l t t' b hjl e e' ow ow' q q' => ?_⟩
    · by_cases hb : b = a
      · subst hb
        rw [upd_same] at q
        rw [hf.o _ _ eO]
        exact q
      · rw [upd_ne hb] at q
        exact hf.f b x q
    · by_cases hb : b = a
      · subst hb
        rw [era_same] at q
        cases q
      · rw [era_ne hb] at q
        exact hf.o b x q
    · by_cases hb : b = a
      · subst hb
        exact era_same
      · rw [upd_ne hb] at q
        rw [era_ne hb]
        exact hf.ds b q
    · rw [← hG, List.length_set, he.len]
    · rw [← hG] at e
      rcases get_set e with ⟨rfl, rfl, _⟩ | ⟨hj, e⟩
      · exact ⟨_, eσ, .lst upd_same (hd.mono le)⟩
      · have := (he.at' j s e).mono le
        cases s with
        | un => trivial
        | pv v => exact this
        | va d => exact this
        | ol es =>
          obtain ⟨b, ws, e1, e2, e3⟩ := this
          have hb : b ≠ a := fun z => o2 i j _ (.ol es) a hj h0 e rfl rfl eσ (by rw [e1, z])
          exact ⟨b, ws, e1, hdel b _ hb e2, e3⟩
        | od es =>
          obtain ⟨b, ws, e1, e2, e3⟩ := this
          have hb : b ≠ a := fun z => o2 i j _ (.od es) a hj h0 e rfl rfl eσ (by rw [e1, z])
          exact ⟨b, ws, e1, hdel b _ hb e2, e3⟩
    · rw [← hG] at e
      rcases get_set e with ⟨rfl, rfl, _⟩ | ⟨hj, e⟩
      · cases ow
      · exact o1 j t b e ow q
    · rw [← hG] at e e'
      rcases get_set e with ⟨rfl, rfl, _⟩ | ⟨hj, e⟩
      · cases ow
      · rcases get_set e' with ⟨rfl, rfl, _⟩ | ⟨hl, e'⟩
        · cases ow'
        · exact o2 j l t t' b hjl e e' ow ow' q q'
  exact h _ O H σ D hM2 nb (fun s F'' H'' σ' e le' => kn s F'' H'' σ' e (le.trans le')) (fun s F'' H'' σ' e le' => kb s F'' H'' σ' e (le.trans le')) (fun r v F'' H'' e le' => kr r v F'' H'' e (le.trans le')) fun c p d F'' H'' e le' => ke c p d F'' H'' e (le.trans le')

/-! ### ifs, blocks -/
theorem sb_if {w' : TS} {mc : R Bool} {m1 m2 : R (Fl S ρ)} (hc : EB cf E tc G mc) (h1 : SB cf E (tSeq t w') G enc m1) (h2 : SB cf E (tSeq u w') G enc m2) : SB cf E (tSeq (tIfS tc t u) w') G enc (mc.bind fun c => if c = true then m1 else m2) :=
  sb_of (k := fun b D σ H => if b = true then t { D with nx := w' D } σ H else u { D with nx := w' D } σ H) hc fun F O O' H σ D a v lo hf he o1 o2 hr nb kn kb kr ke => by
    obtain rfl : v = a := hr
    cases v with
    | true => exact h1 F O H σ D ⟨O', lo, hf, he, o1, o2⟩ nb kn kb kr ke
    | false => exact h2 F O H σ D ⟨O', lo, hf, he, o1, o2⟩ nb kn kb kr ke
/-- the last statement of a block -/
theorem sb_ifL {mc : R Bool} {m1 m2 : R (Fl S ρ)} (hc : EB cf E tc G mc) (h1 : SB cf E t G enc m1) (h2 : SB cf E u G enc m2) : SB cf E (tIfS tc t u) G enc (mc.bind fun c => if c = true then m1 else m2) := sb_if (w' := tNext) hc h1 h2
/-- a block, then the rest -/
theorem sb_seq {enc1 : T → List Sl} {m : R (Fl T ρ)} {k : T → R (Fl S ρ)} (h : SB cf E t G enc1 m) (hk : ∀ s, SB cf E u (enc1 s) enc (k s)) : SB cf E (tSeq t u) G enc (seqF m k) := fun F O H σ D hM nb kn kb kr ke =>
  h F O H σ { D with nx := u D } hM (R.bind_nb nb) (fun s F' H' σ' e le hM' => by
      unfold seqF at nb kn kb kr ke
      rw [e, R.ok_bind] at nb kn kb kr ke
      exact hk s F' O H' σ' D hM' nb (fun s F'' H'' σ' e le' => kn s F'' H'' σ' e (le.trans le')) (fun s F'' H'' σ' e le' => kb s F'' H'' σ' e (le.trans le')) (fun r v F'' H'' e le' => kr r v F'' H'' e (le.trans le')) fun c p d F'' H'' e le' => ke c p d F'' H'' e (le.trans le'))
    (fun s F' H' σ' e le hM' => by
      unfold seqF at nb
      rw [e, R.ok_bind] at nb
      exact absurd rfl nb)
    (fun r v F' H' e le hf hr => kr r v F' H' (by unfold seqF; rw [e]; rfl) le hf hr) fun c p d F' H' e le hf hd => ke c p d F' H' (by unfold seqF; rw [e]; rfl) le hf hd

/-! ### loops -/
def forR (step : T → α → R (Fl T ρ)) (k : T → R (Fl S ρ)) : List α → T → R (Fl S ρ)
  | [], s => k s
  | x :: r, s => (step s x).bind fun
    | .nx s' => forR step k r s'
    | .bk s' => k s'
    | .rt v => .ok (.rt v)
theorem sb_for [Enc α] {wi : TI} {g : TG} {tb : TS} {up : α → List Sl → List Sl} {js : List Nat} {m : R (List α)} {encL : T → List Sl} {step : T → α → R (Fl T ρ)} {k : T → R (Fl S ρ)} (hi : IG cf E wi G m) (hg : AG cf g up js) (s0 : T) (h0 : Sub G (encL s0))
    (Gi : T → α → List Sl) (hG : ∀ s a, up a (encL s) = Gi s a) (hb : ∀ s a, SB cf E tb (Gi s a) encL (step s a)) (hk : ∀ s, SB cf E u (encL s) enc (k s)) :
    SB cf E (tSeq (tFor wi g tb) u) G enc (m.bind fun xs => forR step k xs s0) := fun F O H σ D hM nb kn kb kr ke => by
  obtain ⟨O0, lo, hf, he, o1, o2⟩ := hM
  refine hi F O0 H σ _ hf he (R.bind_nb nb) (fun xs J F1 H1 em le1 hf1 hJ => ?_) (fun c p d F' H' e le hf' hd => ke c p d F' H' (by rw [e]; rfl) le (hf'.weak lo) hd)
  rw [em, R.ok_bind] at nb kn kb kr ke
  have hM1 : Mt cf.K F1 O H1 σ G := ⟨O0, lo, hf1, he.mono le1, o1, o2⟩
  let W : Nat → Nat → L2.St → Hp → Prop := fun i mm σ H => mm = xs.length - i ∧ i ≤ xs.length ∧ ∃ (F2 : Hp) (s : T), Le F1 F2 ∧ Mt cf.K F2 O H σ (encL s) ∧ forR step k (xs.drop i) s = forR step k xs s0
  refine ⟨W, ⟨xs.length, by simp, Nat.zero_le _, F1, s0, Le.refl F1, hM1.sub h0, by rw [List.drop_zero]⟩, ?_⟩
  rintro i mm σ2 H2 ⟨rfl, hi, F2, s, le2, hM2, tot⟩
  by_cases hlt : i < xs.length
  · have hx : xs[i]? = some xs[i] := List.getElem?_eq_getElem hlt
    rw [List.drop_eq_getElem_cons hlt] at tot
    rw [← tot] at nb kn kb kr ke
    obtain ⟨O2, lo2, hf2, he2, o12, o22⟩ := hM2
    obtain ⟨hgo, hyl⟩ := (hJ i F2 O2 H2 le2 hf2).1 _ hx
    refine .inr ⟨hgo, fun σ H => W (i + 1) (xs.length - (i + 1)) σ H, fun σ' H' h' => ⟨_, by omega, h'⟩, fun v H3 hy => ?_⟩
    obtain ⟨F3, le3, hf3, hv⟩ := hyl v H3 hy
    refine hg F3 O2 H3 σ2 _ v xs[i] _ hf3 (he2.mono le3) hv fun σ3 e3 own _ => ?_
    rw [hG] at e3 own
    have hM3 : Mt cf.K F3 O H3 σ3 (Gi s xs[i]) := ⟨O2, lo2, hf3, e3, fun i s b q o => by
        obtain ⟨q1, q2⟩ := own i s q o
        rw [q2]
        exact o12 i s b q1 o, fun i j s t b hij q q' o o' => by
        obtain ⟨q1, q2⟩ := own i s q o
        obtain ⟨q3, q4⟩ := own j t q' o'
        rw [q2, q4]
        exact o22 i j s t b hij q1 q3 o o'⟩
    have le13 := (le1.trans le2).trans le3
    refine hb s xs[i] F3 O H3 σ3 _ hM3 (R.bind_nb nb) (fun s' F4 H4 σ4 e le4 hM4 => ?_) (fun s' F4 H4 σ4 e le4 hM4 => ?_) (fun r v F4 H4 e le4 hf4 hr => ?_) (fun c p d F4 H4 e le4 hf4 hd => ?_)
    · refine ⟨rfl, hlt, F4, s', (le2.trans le3).trans le4, hM4, ?_⟩
      rw [← tot]
      show _ = (step s xs[i]).bind _
      rw [e]
      rfl
    · have en : forR step k (xs[i] :: xs.drop (i + 1)) s = k s' := by
        show (step s xs[i]).bind _ = _
        rw [e]
        rfl
      rw [en] at nb kn kb kr ke
      have le14 := le13.trans le4
      exact hk s' F4 O H4 σ4 D hM4 nb (fun s F'' H'' σ' e le' => kn s F'' H'' σ' e (le14.trans le')) (fun s F'' H'' σ' e le' => kb s F'' H'' σ' e (le14.trans le')) (fun r v F'' H'' e le' => kr r v F'' H'' e (le14.trans le')) fun c p d F'' H'' e le' => ke c p d F'' H'' e (le14.trans le')
    · exact kr r v F4 H4 (by show (step s xs[i]).bind _ = _; rw [e]; rfl) (le13.trans le4) hf4 hr
    · exact ke c p d F4 H4 (by show (step s xs[i]).bind _ = _; rw [e]; rfl) (le13.trans le4) hf4 hd
  · have e : i = xs.length := by omega
    subst e
    rw [List.drop_length] at tot
    have tot2 : forR step k xs s0 = k s := tot.symm
    rw [tot2] at nb kn kb kr ke
    obtain ⟨O2, lo2, hf2, he2, o12, o22⟩ := id hM2
    have le12 := le1.trans le2
    exact .inl ⟨(hJ _ F2 O2 H2 le2 hf2).2 (Nat.le_refl _), hk s F2 O H2 σ2 D hM2 nb (fun s F'' H'' σ' e le' => kn s F'' H'' σ' e (le12.trans le')) (fun s F'' H'' σ' e le' => kb s F'' H'' σ' e (le12.trans le')) (fun r v F'' H'' e le' => kr r v F'' H'' e (le12.trans le')) fun c p d F'' H'' e le' => ke c p d F'' H'' e (le12.trans le')⟩
/-- while: fuel, what is tested, the body -/
def whileR (c : T → R Bool) (step : T → R (Fl T ρ)) (k : T → R (Fl S ρ)) : Nat → T → R (Fl S ρ)
  | 0, _ => .bad
  | n + 1, s => (c s).bind fun b => if b = true then (step s).bind fun
      | .nx s' => whileR c step k n s'
      | .bk s' => k s'
      | .rt v => .ok (.rt v) else k s
theorem sb_while {tb : TS} {encL : T → List Sl} {c : T → R Bool} {step : T → R (Fl T ρ)} {k : T → R (Fl S ρ)} (n : Nat) (s0 : T) (h0 : Sub G (encL s0)) (hc : ∀ s, EB cf E tc (encL s) (c s)) (hb : ∀ s, SB cf E tb (encL s) encL (step s)) (hk : ∀ s, SB cf E u (encL s) enc (k s)) :
    SB cf E (tSeq (tWhile tc tb) u) G enc (whileR c step k n s0) := fun F O H σ D hM nb kn kb kr ke => by
  let W : Nat → L2.St → Hp → Prop := fun mm σ H => ∃ (F2 : Hp) (s : T), Le F F2 ∧ Mt cf.K F2 O H σ (encL s) ∧ whileR c step k mm s = whileR c step k n s0
  refine ⟨W, ⟨n, F, s0, Le.refl F, hM.sub h0, rfl⟩, ?_⟩
  rintro mm σ2 H2 ⟨F2, s, le2, hM2, tot⟩
  rw [← tot] at nb kn kb kr ke
  cases mm with
  | zero => exact absurd rfl nb
  | succ mm =>
    obtain ⟨O2, lo2, hf2, he2, o12, o22⟩ := hM2
    refine hc s F2 O2 H2 σ2 _ hf2 he2 (R.bind_nb nb) (fun b r F3 H3 e le3 hf3 hr => ?_) (fun c' p d F' H' e le hf' hd => ke c' p d F' H' (by show (c s).bind _ = _; rw [e]; rfl) (le2.trans le) (hf'.weak lo2) hd)
    obtain rfl : r = b := hr
    have hM3 : Mt cf.K F3 O H3 σ2 (encL s) := ⟨O2, lo2, hf3, he2.mono le3, o12, o22⟩
    have le13 := le2.trans le3
    cases r with
    | false =>
      have en : whileR c step k (mm + 1) s = k s := by
        show (c s).bind _ = _
        rw [e]
        rfl
      rw [en] at nb kn kb kr ke
      exact hk s F3 O H3 σ2 D hM3 nb (fun s F'' H'' σ' e le' => kn s F'' H'' σ' e (le13.trans le')) (fun s F'' H'' σ' e le' => kb s F'' H'' σ' e (le13.trans le')) (fun r v F'' H'' e le' => kr r v F'' H'' e (le13.trans le')) fun c p d F'' H'' e le' => ke c p d F'' H'' e (le13.trans le')
    | true =>
      have en : whileR c step k (mm + 1) s = (step s).bind fun
          | .nx s' => whileR c step k mm s'
          | .bk s' => k s'
          | .rt v => .ok (.rt v) := by
        show (c s).bind _ = _
        rw [e]
        rfl
      rw [en] at nb kn kb kr ke
      refine ⟨fun σ H => W mm σ H, fun σ' H' h' => ⟨mm, Nat.lt_succ_self _, h'⟩, ?_⟩
      refine hb s F3 O H3 σ2 _ hM3 (R.bind_nb nb) (fun s' F4 H4 σ4 e4 le4 hM4 => ?_) (fun s' F4 H4 σ4 e4 le4 hM4 => ?_) (fun r v F4 H4 e4 le4 hf4 hr => kr r v F4 H4 (by rw [e4]; rfl) (le13.trans le4) hf4 hr) (fun c p d F4 H4 e4 le4 hf4 hd => ke c p d F4 H4 (by rw [e4]; rfl) (le13.trans le4) hf4 hd)
      · refine ⟨F4, s', le13.trans le4, hM4, ?_⟩
        rw [← tot, en, e4]
        rfl
      · rw [e4, R.ok_bind] at nb kn kb kr ke
        have le14 := le13.trans le4
        exact hk s' F4 O H4 σ4 D hM4 nb (fun s F'' H'' σ' e le' => kn s F'' H'' σ' e (le14.trans le')) (fun s F'' H'' σ' e le' => kb s F'' H'' σ' e (le14.trans le')) (fun r v F'' H'' e le' => kr r v F'' H'' e (le14.trans le')) fun c p d F'' H'' e le' => ke c p d F'' H'' e (le14.trans le')
end
end Kr

/-! KrF: what a def promises by data, its call, its body. -/
namespace Kr
open PySem PySem.Spec PyProof.Rows L2
open Enc (toD)

/-- called with values of the data ds, it returns what the relation says; it raises nothing -/
def SpP (cf : Cf) (n : Nat) (spec : List Dt → R Dt → Prop) : Sp := fun vs H Q _ => vs.length = n ∧ ∃ (F O : Hp) (ds : List Dt) (d : Dt), Fm F O H ∧ DrA cf.K F vs ds ∧ spec ds (.ok d) ∧ ∀ v F' H', Le F F' → Fm F' O H' → Dr cf.K F' v d → Q v H'
theorem SpP.len {cf : Cf} {n : Nat} {spec : List Dt → R Dt → Prop} {ps : List Str} (h : ps.length = n := by rfl) : ∀ vs H Q E, SpP cf n spec vs H Q E → vs.length = ps.length := fun vs H Q E q => by rw [h]; exact q.1
/-- what a body gives, as a value -/
def finR {S ρ : Type} (m : R (Fl S ρ)) : R ρ := m.bind fun
  | .rt r => .ok r
  | _ => .bad
/-- of a def without return -/
def finN {S : Type} (m : R (Fl S Unit)) : R Unit := m.bind fun
  | .rt r => .ok r
  | .nx _ => .ok ()
  | _ => .bad
theorem er_start {K : PySem.W.Frag} {F O : Hp} {N : List Str} {vs : List V} {ds : List Dt} (h : DrA K F vs ds) : Er K F O (L2.start N vs) (ds.map Sl.va ++ List.replicate (N.length - ds.length) .un) := by
  have hl := h.length
  refine ⟨?_, fun i s e => ?_⟩
  · unfold L2.start
    rw [List.length_append, List.length_append, List.length_map, List.length_map, List.length_replicate, List.length_replicate, hl]
  · by_cases hi : i < ds.length
    · rw [List.getElem?_append_left (by rw [List.length_map]; exact hi), List.getElem?_map] at e
      cases q : ds[i]? with
      | none =>
        rw [q] at e
        cases e
      | some d =>
        rw [q] at e
        cases e
        obtain ⟨v, hv, r⟩ := h.get q
        refine ⟨v, ?_, r⟩
        unfold L2.start
        rw [List.getElem?_append_left (by rw [List.length_map, hl]; exact hi), List.getElem?_map, hv]
        rfl
    · rw [List.getElem?_append_right (by rw [List.length_map]; omega)] at e
      have e2 := List.getElem?_replicate (n := N.length - ds.length) (a := Sl.un) (i := i - (ds.map Sl.va).length)
      rw [e2] at e
      split at e
      · cases e
        exact trivial
      · cases e
theorem mt_start {K : PySem.W.Frag} {F O H : Hp} {N : List Str} {vs : List V} {ds : List Dt} (hf : Fm F O H) (h : DrA K F vs ds) : Mt K F O H (L2.start N vs) (ds.map Sl.va ++ List.replicate (N.length - ds.length) .un) := by
  refine ⟨O, Le.refl O, hf, er_start h, fun i s a e o => ?_, fun i j s t a _ e _ o => ?_⟩
  all_goals
    exfalso
    rcases List.mem_append.mp (List.mem_of_getElem? e) with hm | hm
    · obtain ⟨d, _, rfl⟩ := List.mem_map.mp hm
      cases o
    · rw [List.eq_of_mem_replicate hm] at o
      cases o
section
variable {cf : Cf} {E : XK} {G : List Sl} {S ρ : Type} [Enc ρ]
/-- the promise from the body's run -/
theorem run_of {t : TS} {N : List Str} {vs : List V} {H : Hp} {Q : VK} {n : Nat} {spec : List Dt → R Dt → Prop} {enc : S → List Sl} (h : SpP cf n spec vs H Q E)
    (hb : ∀ ds d, spec ds (.ok d) → ∃ m : R (Fl S ρ), SB cf E0 t (ds.map Sl.va ++ List.replicate (N.length - ds.length) .un) enc m ∧ ∃ r, finR m = .ok r ∧ d = toD r) : t { nx := fun _ H' => Q .non H', rt := Q } (L2.start N vs) H := by
  obtain ⟨_, F, O, ds, d, hf, hr, hs, q⟩ := h
  obtain ⟨m, hm, r, er, ed⟩ := hb ds d hs
  have em : m = .ok (.rt r) := by
    cases m with
    | ok x =>
      cases x with
      | nx s => cases er
      | bk s => cases er
      | rt r' => cases er; rfl
    | er c p => cases er
    | bad => cases er
  subst em
  refine hm F O H _ _ (mt_start hf hr) (fun z => nomatch z) (fun _ _ _ _ z => nomatch z) (fun _ _ _ _ z => nomatch z) (fun r' v F' H' e le hf' hr' => ?_) (fun _ _ _ _ _ z => nomatch z)
  cases e
  rw [ed] at q
  exact q v F' H' le hf' hr'
theorem run_ofN {t : TS} {N : List Str} {vs : List V} {H : Hp} {Q : VK} {n : Nat} {spec : List Dt → R Dt → Prop} {enc : S → List Sl} (h : SpP cf n spec vs H Q E)
    (hb : ∀ ds d, spec ds (.ok d) → ∃ m : R (Fl S Unit), SB cf E0 t (ds.map Sl.va ++ List.replicate (N.length - ds.length) .un) enc m ∧ ∃ r, finN m = .ok r ∧ d = toD r) : t { nx := fun _ H' => Q .non H', rt := Q } (L2.start N vs) H := by
  obtain ⟨_, F, O, ds, d, hf, hr, hs, q⟩ := h
  obtain ⟨m, hm, r, er, ed⟩ := hb ds d hs
  have ed' : d = .non := ed
  subst ed'
  refine hm F O H _ _ (mt_start hf hr) (fun z => by rw [z] at er; cases er) (fun s F' H' σ' e le hM => q .non F' H' le hM.fm .non) (fun s F' H' σ' e => by rw [e] at er; cases er) (fun r' v F' H' e le hf' hr' => q v F' H' le hf' hr') (fun c p d F' H' e => by rw [e] at er; cases er)
end

section
variable {α τ : Type} [Enc α] [Enc τ]
def sp1 (g : α → R τ) : List Dt → R Dt → Prop := fun ds r => ∃ (a : α), ds = [toD a] ∧ r = (g a).map toD
theorem em_call1 {cf : Cf} {E : XK} {G : List Sl} {t0 : TE} {m0 : R α} {g : α → R τ} (h0 : EM cf E t0 G m0) : EM cf E (tCall (SpP cf 1 (sp1 g)) [] E0 (tCons t0 tNil)) G (m0.bind fun a => (g a).pu) := fun F O H σ Q hf he nb ko ke => by
  refine h0 F O H σ _ hf he (R.bind_nb nb) (fun a v0 F1 H1 e0 l1 hf1 r0 => ?_) (fun c p d F' H' e le hf' hd => ke c p d F' H' (by rw [e]; rfl) (le) hf' hd)
  rw [e0, R.ok_bind] at nb ko ke
  have le1 := l1
  obtain ⟨y, ey⟩ := pu_nb nb
  exact ⟨rfl, F1, O, _, toD y, hf1, (.cons r0 .nil), ⟨a, rfl, by rw [ey]; rfl⟩, fun v F' H' le hf' hr => ko y v F' H' (by rw [ey]; rfl) (le1.trans le) hf' hr⟩
theorem fn1 {P : Program} {w : World} {cf : Cf} {mg : Str → Option Value} {base : Heap} {x qual : Str} {st : Stmt} {f0 : Addr} {fd : FuncData} {N ps : List Str} {k : Nat} {S : Type} {enc : S → List Sl} (F : Fun cf.K x qual st f0 fd) (sc : FnScope N ps (defScope st)) (hp : ps.length = 1) (g : α → R (Fl S τ))
    (G0 : α → List Sl) (hG : ∀ a, [.va (toD a)] ++ List.replicate (N.length - 1) .un = G0 a)
    (h : ∀ (cdv : Value) (A : Around) (outer : List Env) (s : Shared) (H : Hp) (E : XK), Room k (A.deeper (envOfC qual (defScope st) s.heap.objs.size f0 cdv)) →
      ∃ t, PSs (cxOf CX0 P w cf.K mg base N qual (defScope st) f0 cdv A outer s H E).nox (defBody st) t ∧ ∀ a, SB cf E0 t (G0 a) enc (g a)) :
    FnOk P w cf.K mg base CX0 (k + 1) f0 fd ps (SpP cf 1 (sp1 fun a => finR (g a))) := by
  refine F.ok sc (SpP.len hp) (fun cdv A outer s H vs Q E hr hq => ?_)
  obtain ⟨t, ht, hb⟩ := h cdv A outer s H E hr
  refine ⟨t, ht, run_of (ρ := τ) (S := S) (enc := enc) hq fun ds dd hs => ?_⟩
  obtain ⟨a, rfl, er⟩ := hs
  refine ⟨g a, by have q := hb a; rw [← hG] at q; exact q, ?_⟩
  replace er : R.ok dd = (finR (g a)).map toD := er
  generalize q : finR (g a) = z at er
  cases z with
  | ok r => exact ⟨r, rfl, R.ok.inj er⟩
  | er c p => cases er
  | bad => cases er
end

section
variable {α β τ : Type} [Enc α] [Enc β] [Enc τ]
def sp2 (g : α → β → R τ) : List Dt → R Dt → Prop := fun ds r => ∃ (a : α) (b : β), ds = [toD a, toD b] ∧ r = (g a b).map toD
theorem em_call2 {cf : Cf} {E : XK} {G : List Sl} {t0 t1 : TE} {m0 : R α} {m1 : R β} {g : α → β → R τ} (h0 : EM cf E t0 G m0) (h1 : EM cf E t1 G m1) : EM cf E (tCall (SpP cf 2 (sp2 g)) [] E0 (tCons t0 (tCons t1 tNil))) G (m0.bind fun a => m1.bind fun b => (g a b).pu) := fun F O H σ Q hf he nb ko ke => by
  refine h0 F O H σ _ hf he (R.bind_nb nb) (fun a v0 F1 H1 e0 l1 hf1 r0 => ?_) (fun c p d F' H' e le hf' hd => ke c p d F' H' (by rw [e]; rfl) (le) hf' hd)
  rw [e0, R.ok_bind] at nb ko ke
  have le1 := l1
  refine h1 F1 O H1 σ _ hf1 (he.mono le1) (R.bind_nb nb) (fun b v1 F2 H2 e1 l2 hf2 r1 => ?_) (fun c p d F' H' e le hf' hd => ke c p d F' H' (by rw [e]; rfl) (le1.trans le) hf' hd)
  rw [e1, R.ok_bind] at nb ko ke
  have le2 := le1.trans l2
  obtain ⟨y, ey⟩ := pu_nb nb
  exact ⟨rfl, F2, O, _, toD y, hf2, (.cons (Dr.mono (l2) r0) (.cons r1 .nil)), ⟨a, b, rfl, by rw [ey]; rfl⟩, fun v F' H' le hf' hr => ko y v F' H' (by rw [ey]; rfl) (le2.trans le) hf' hr⟩
theorem fn2 {P : Program} {w : World} {cf : Cf} {mg : Str → Option Value} {base : Heap} {x qual : Str} {st : Stmt} {f0 : Addr} {fd : FuncData} {N ps : List Str} {k : Nat} {S : Type} {enc : S → List Sl} (F : Fun cf.K x qual st f0 fd) (sc : FnScope N ps (defScope st)) (hp : ps.length = 2) (g : α → β → R (Fl S τ))
    (G0 : α → β → List Sl) (hG : ∀ a b, [.va (toD a), .va (toD b)] ++ List.replicate (N.length - 2) .un = G0 a b)
    (h : ∀ (cdv : Value) (A : Around) (outer : List Env) (s : Shared) (H : Hp) (E : XK), Room k (A.deeper (envOfC qual (defScope st) s.heap.objs.size f0 cdv)) →
      ∃ t, PSs (cxOf CX0 P w cf.K mg base N qual (defScope st) f0 cdv A outer s H E).nox (defBody st) t ∧ ∀ a b, SB cf E0 t (G0 a b) enc (g a b)) :
    FnOk P w cf.K mg base CX0 (k + 1) f0 fd ps (SpP cf 2 (sp2 fun a b => finR (g a b))) := by
  refine F.ok sc (SpP.len hp) (fun cdv A outer s H vs Q E hr hq => ?_)
  obtain ⟨t, ht, hb⟩ := h cdv A outer s H E hr
  refine ⟨t, ht, run_of (ρ := τ) (S := S) (enc := enc) hq fun ds dd hs => ?_⟩
  obtain ⟨a, b, rfl, er⟩ := hs
  refine ⟨g a b, by have q := hb a b; rw [← hG] at q; exact q, ?_⟩
  replace er : R.ok dd = (finR (g a b)).map toD := er
  generalize q : finR (g a b) = z at er
  cases z with
  | ok r => exact ⟨r, rfl, R.ok.inj er⟩
  | er c p => cases er
  | bad => cases er
end

section
variable {α β γ τ : Type} [Enc α] [Enc β] [Enc γ] [Enc τ]
def sp3 (g : α → β → γ → R τ) : List Dt → R Dt → Prop := fun ds r => ∃ (a : α) (b : β) (c : γ), ds = [toD a, toD b, toD c] ∧ r = (g a b c).map toD
theorem em_call3 {cf : Cf} {E : XK} {G : List Sl} {t0 t1 t2 : TE} {m0 : R α} {m1 : R β} {m2 : R γ} {g : α → β → γ → R τ} (h0 : EM cf E t0 G m0) (h1 : EM cf E t1 G m1) (h2 : EM cf E t2 G m2) : EM cf E (tCall (SpP cf 3 (sp3 g)) [] E0 (tCons t0 (tCons t1 (tCons t2 tNil)))) G (m0.bind fun a => m1.bind fun b => m2.bind fun c => (g a b c).pu) := fun F O H σ Q hf he nb ko ke => by
  refine h0 F O H σ _ hf he (R.bind_nb nb) (fun a v0 F1 H1 e0 l1 hf1 r0 => ?_) (fun c p d F' H' e le hf' hd => ke c p d F' H' (by rw [e]; rfl) (le) hf' hd)
  rw [e0, R.ok_bind] at nb ko ke
  have le1 := l1
  refine h1 F1 O H1 σ _ hf1 (he.mono le1) (R.bind_nb nb) (fun b v1 F2 H2 e1 l2 hf2 r1 => ?_) (fun c p d F' H' e le hf' hd => ke c p d F' H' (by rw [e]; rfl) (le1.trans le) hf' hd)
  rw [e1, R.ok_bind] at nb ko ke
  have le2 := le1.trans l2
  refine h2 F2 O H2 σ _ hf2 (he.mono le2) (R.bind_nb nb) (fun c v2 F3 H3 e2 l3 hf3 r2 => ?_) (fun c p d F' H' e le hf' hd => ke c p d F' H' (by rw [e]; rfl) (le2.trans le) hf' hd)
  rw [e2, R.ok_bind] at nb ko ke
  have le3 := le2.trans l3
  obtain ⟨y, ey⟩ := pu_nb nb
  exact ⟨rfl, F3, O, _, toD y, hf3, (.cons (Dr.mono ((l2).trans l3) r0) (.cons (Dr.mono (l3) r1) (.cons r2 .nil))), ⟨a, b, c, rfl, by rw [ey]; rfl⟩, fun v F' H' le hf' hr => ko y v F' H' (by rw [ey]; rfl) (le3.trans le) hf' hr⟩
theorem fn3 {P : Program} {w : World} {cf : Cf} {mg : Str → Option Value} {base : Heap} {x qual : Str} {st : Stmt} {f0 : Addr} {fd : FuncData} {N ps : List Str} {k : Nat} {S : Type} {enc : S → List Sl} (F : Fun cf.K x qual st f0 fd) (sc : FnScope N ps (defScope st)) (hp : ps.length = 3) (g : α → β → γ → R (Fl S τ))
    (G0 : α → β → γ → List Sl) (hG : ∀ a b c, [.va (toD a), .va (toD b), .va (toD c)] ++ List.replicate (N.length - 3) .un = G0 a b c)
    (h : ∀ (cdv : Value) (A : Around) (outer : List Env) (s : Shared) (H : Hp) (E : XK), Room k (A.deeper (envOfC qual (defScope st) s.heap.objs.size f0 cdv)) →
      ∃ t, PSs (cxOf CX0 P w cf.K mg base N qual (defScope st) f0 cdv A outer s H E).nox (defBody st) t ∧ ∀ a b c, SB cf E0 t (G0 a b c) enc (g a b c)) :
    FnOk P w cf.K mg base CX0 (k + 1) f0 fd ps (SpP cf 3 (sp3 fun a b c => finR (g a b c))) := by
  refine F.ok sc (SpP.len hp) (fun cdv A outer s H vs Q E hr hq => ?_)
  obtain ⟨t, ht, hb⟩ := h cdv A outer s H E hr
  refine ⟨t, ht, run_of (ρ := τ) (S := S) (enc := enc) hq fun ds dd hs => ?_⟩
  obtain ⟨a, b, c, rfl, er⟩ := hs
  refine ⟨g a b c, by have q := hb a b c; rw [← hG] at q; exact q, ?_⟩
  replace er : R.ok dd = (finR (g a b c)).map toD := er
  generalize q : finR (g a b c) = z at er
  cases z with
  | ok r => exact ⟨r, rfl, R.ok.inj er⟩
  | er c p => cases er
  | bad => cases er
end

section
variable {α β γ δ τ : Type} [Enc α] [Enc β] [Enc γ] [Enc δ] [Enc τ]
def sp4 (g : α → β → γ → δ → R τ) : List Dt → R Dt → Prop := fun ds r => ∃ (a : α) (b : β) (c : γ) (d : δ), ds = [toD a, toD b, toD c, toD d] ∧ r = (g a b c d).map toD
theorem em_call4 {cf : Cf} {E : XK} {G : List Sl} {t0 t1 t2 t3 : TE} {m0 : R α} {m1 : R β} {m2 : R γ} {m3 : R δ} {g : α → β → γ → δ → R τ} (h0 : EM cf E t0 G m0) (h1 : EM cf E t1 G m1) (h2 : EM cf E t2 G m2) (h3 : EM cf E t3 G m3) : EM cf E (tCall (SpP cf 4 (sp4 g)) [] E0 (tCons t0 (tCons t1 (tCons t2 (tCons t3 tNil))))) G (m0.bind fun a => m1.bind fun b => m2.bind fun c => m3.bind fun d => (g a b c d).pu) := fun F O H σ Q hf he nb ko ke => by
  refine h0 F O H σ _ hf he (R.bind_nb nb) (fun a v0 F1 H1 e0 l1 hf1 r0 => ?_) (fun c p d F' H' e le hf' hd => ke c p d F' H' (by rw [e]; rfl) (le) hf' hd)
  rw [e0, R.ok_bind] at nb ko ke
  have le1 := l1
  refine h1 F1 O H1 σ _ hf1 (he.mono le1) (R.bind_nb nb) (fun b v1 F2 H2 e1 l2 hf2 r1 => ?_) (fun c p d F' H' e le hf' hd => ke c p d F' H' (by rw [e]; rfl) (le1.trans le) hf' hd)
  rw [e1, R.ok_bind] at nb ko ke
  have le2 := le1.trans l2
  refine h2 F2 O H2 σ _ hf2 (he.mono le2) (R.bind_nb nb) (fun c v2 F3 H3 e2 l3 hf3 r2 => ?_) (fun c p d F' H' e le hf' hd => ke c p d F' H' (by rw [e]; rfl) (le2.trans le) hf' hd)
  rw [e2, R.ok_bind] at nb ko ke
  have le3 := le2.trans l3
  refine h3 F3 O H3 σ _ hf3 (he.mono le3) (R.bind_nb nb) (fun d v3 F4 H4 e3 l4 hf4 r3 => ?_) (fun c p d F' H' e le hf' hd => ke c p d F' H' (by rw [e]; rfl) (le3.trans le) hf' hd)
  rw [e3, R.ok_bind] at nb ko ke
  have le4 := le3.trans l4
  obtain ⟨y, ey⟩ := pu_nb nb
  exact ⟨rfl, F4, O, _, toD y, hf4, (.cons (Dr.mono (((l2).trans l3).trans l4) r0) (.cons (Dr.mono ((l3).trans l4) r1) (.cons (Dr.mono (l4) r2) (.cons r3 .nil)))), ⟨a, b, c, d, rfl, by rw [ey]; rfl⟩, fun v F' H' le hf' hr => ko y v F' H' (by rw [ey]; rfl) (le4.trans le) hf' hr⟩
theorem fn4 {P : Program} {w : World} {cf : Cf} {mg : Str → Option Value} {base : Heap} {x qual : Str} {st : Stmt} {f0 : Addr} {fd : FuncData} {N ps : List Str} {k : Nat} {S : Type} {enc : S → List Sl} (F : Fun cf.K x qual st f0 fd) (sc : FnScope N ps (defScope st)) (hp : ps.length = 4) (g : α → β → γ → δ → R (Fl S τ))
    (G0 : α → β → γ → δ → List Sl) (hG : ∀ a b c d, [.va (toD a), .va (toD b), .va (toD c), .va (toD d)] ++ List.replicate (N.length - 4) .un = G0 a b c d)
    (h : ∀ (cdv : Value) (A : Around) (outer : List Env) (s : Shared) (H : Hp) (E : XK), Room k (A.deeper (envOfC qual (defScope st) s.heap.objs.size f0 cdv)) →
      ∃ t, PSs (cxOf CX0 P w cf.K mg base N qual (defScope st) f0 cdv A outer s H E).nox (defBody st) t ∧ ∀ a b c d, SB cf E0 t (G0 a b c d) enc (g a b c d)) :
    FnOk P w cf.K mg base CX0 (k + 1) f0 fd ps (SpP cf 4 (sp4 fun a b c d => finR (g a b c d))) := by
  refine F.ok sc (SpP.len hp) (fun cdv A outer s H vs Q E hr hq => ?_)
  obtain ⟨t, ht, hb⟩ := h cdv A outer s H E hr
  refine ⟨t, ht, run_of (ρ := τ) (S := S) (enc := enc) hq fun ds dd hs => ?_⟩
  obtain ⟨a, b, c, d, rfl, er⟩ := hs
  refine ⟨g a b c d, by have q := hb a b c d; rw [← hG] at q; exact q, ?_⟩
  replace er : R.ok dd = (finR (g a b c d)).map toD := er
  generalize q : finR (g a b c d) = z at er
  cases z with
  | ok r => exact ⟨r, rfl, R.ok.inj er⟩
  | er c p => cases er
  | bad => cases er
end

section
variable {α β γ δ ε τ : Type} [Enc α] [Enc β] [Enc γ] [Enc δ] [Enc ε] [Enc τ]
def sp5 (g : α → β → γ → δ → ε → R τ) : List Dt → R Dt → Prop := fun ds r => ∃ (a : α) (b : β) (c : γ) (d : δ) (e : ε), ds = [toD a, toD b, toD c, toD d, toD e] ∧ r = (g a b c d e).map toD
theorem em_call5 {cf : Cf} {E : XK} {G : List Sl} {t0 t1 t2 t3 t4 : TE} {m0 : R α} {m1 : R β} {m2 : R γ} {m3 : R δ} {m4 : R ε} {g : α → β → γ → δ → ε → R τ} (h0 : EM cf E t0 G m0) (h1 : EM cf E t1 G m1) (h2 : EM cf E t2 G m2) (h3 : EM cf E t3 G m3) (h4 : EM cf E t4 G m4) : EM cf E (tCall (SpP cf 5 (sp5 g)) [] E0 (tCons t0 (tCons t1 (tCons t2 (tCons t3 (tCons t4 tNil)))))) G (m0.bind fun a => m1.bind fun b => m2.bind fun c => m3.bind fun d => m4.bind fun e => (g a b c d e).pu) := fun F O H σ Q hf he nb ko ke => by
  refine h0 F O H σ _ hf he (R.bind_nb nb) (fun a v0 F1 H1 e0 l1 hf1 r0 => ?_) (fun c p d F' H' e le hf' hd => ke c p d F' H' (by rw [e]; rfl) (le) hf' hd)
  rw [e0, R.ok_bind] at nb ko ke
  have le1 := l1
  refine h1 F1 O H1 σ _ hf1 (he.mono le1) (R.bind_nb nb) (fun b v1 F2 H2 e1 l2 hf2 r1 => ?_) (fun c p d F' H' e le hf' hd => ke c p d F' H' (by rw [e]; rfl) (le1.trans le) hf' hd)
  rw [e1, R.ok_bind] at nb ko ke
  have le2 := le1.trans l2
  refine h2 F2 O H2 σ _ hf2 (he.mono le2) (R.bind_nb nb) (fun c v2 F3 H3 e2 l3 hf3 r2 => ?_) (fun c p d F' H' e le hf' hd => ke c p d F' H' (by rw [e]; rfl) (le2.trans le) hf' hd)
  rw [e2, R.ok_bind] at nb ko ke
  have le3 := le2.trans l3
  refine h3 F3 O H3 σ _ hf3 (he.mono le3) (R.bind_nb nb) (fun d v3 F4 H4 e3 l4 hf4 r3 => ?_) (fun c p d F' H' e le hf' hd => ke c p d F' H' (by rw [e]; rfl) (le3.trans le) hf' hd)
  rw [e3, R.ok_bind] at nb ko ke
  have le4 := le3.trans l4
  refine h4 F4 O H4 σ _ hf4 (he.mono le4) (R.bind_nb nb) (fun e v4 F5 H5 e4 l5 hf5 r4 => ?_) (fun c p d F' H' e le hf' hd => ke c p d F' H' (by rw [e]; rfl) (le4.trans le) hf' hd)
  rw [e4, R.ok_bind] at nb ko ke
  have le5 := le4.trans l5
  obtain ⟨y, ey⟩ := pu_nb nb
  exact ⟨rfl, F5, O, _, toD y, hf5, (.cons (Dr.mono ((((l2).trans l3).trans l4).trans l5) r0) (.cons (Dr.mono (((l3).trans l4).trans l5) r1) (.cons (Dr.mono ((l4).trans l5) r2) (.cons (Dr.mono (l5) r3) (.cons r4 .nil))))), ⟨a, b, c, d, e, rfl, by rw [ey]; rfl⟩, fun v F' H' le hf' hr => ko y v F' H' (by rw [ey]; rfl) (le5.trans le) hf' hr⟩
theorem fn5 {P : Program} {w : World} {cf : Cf} {mg : Str → Option Value} {base : Heap} {x qual : Str} {st : Stmt} {f0 : Addr} {fd : FuncData} {N ps : List Str} {k : Nat} {S : Type} {enc : S → List Sl} (F : Fun cf.K x qual st f0 fd) (sc : FnScope N ps (defScope st)) (hp : ps.length = 5) (g : α → β → γ → δ → ε → R (Fl S τ))
    (G0 : α → β → γ → δ → ε → List Sl) (hG : ∀ a b c d e, [.va (toD a), .va (toD b), .va (toD c), .va (toD d), .va (toD e)] ++ List.replicate (N.length - 5) .un = G0 a b c d e)
    (h : ∀ (cdv : Value) (A : Around) (outer : List Env) (s : Shared) (H : Hp) (E : XK), Room k (A.deeper (envOfC qual (defScope st) s.heap.objs.size f0 cdv)) →
      ∃ t, PSs (cxOf CX0 P w cf.K mg base N qual (defScope st) f0 cdv A outer s H E).nox (defBody st) t ∧ ∀ a b c d e, SB cf E0 t (G0 a b c d e) enc (g a b c d e)) :
    FnOk P w cf.K mg base CX0 (k + 1) f0 fd ps (SpP cf 5 (sp5 fun a b c d e => finR (g a b c d e))) := by
  refine F.ok sc (SpP.len hp) (fun cdv A outer s H vs Q E hr hq => ?_)
  obtain ⟨t, ht, hb⟩ := h cdv A outer s H E hr
  refine ⟨t, ht, run_of (ρ := τ) (S := S) (enc := enc) hq fun ds dd hs => ?_⟩
  obtain ⟨a, b, c, d, e, rfl, er⟩ := hs
  refine ⟨g a b c d e, by have q := hb a b c d e; rw [← hG] at q; exact q, ?_⟩
  replace er : R.ok dd = (finR (g a b c d e)).map toD := er
  generalize q : finR (g a b c d e) = z at er
  cases z with
  | ok r => exact ⟨r, rfl, R.ok.inj er⟩
  | er c p => cases er
  | bad => cases er
end

section
variable {α β γ δ ε ζ τ : Type} [Enc α] [Enc β] [Enc γ] [Enc δ] [Enc ε] [Enc ζ] [Enc τ]
def sp6 (g : α → β → γ → δ → ε → ζ → R τ) : List Dt → R Dt → Prop := fun ds r => ∃ (a : α) (b : β) (c : γ) (d : δ) (e : ε) (f : ζ), ds = [toD a, toD b, toD c, toD d, toD e, toD f] ∧ r = (g a b c d e f).map toD
theorem em_call6 {cf : Cf} {E : XK} {G : List Sl} {t0 t1 t2 t3 t4 t5 : TE} {m0 : R α} {m1 : R β} {m2 : R γ} {m3 : R δ} {m4 : R ε} {m5 : R ζ} {g : α → β → γ → δ → ε → ζ → R τ} (h0 : EM cf E t0 G m0) (h1 : EM cf E t1 G m1) (h2 : EM cf E t2 G m2) (h3 : EM cf E t3 G m3) (h4 : EM cf E t4 G m4) (h5 : EM cf E t5 G m5) : EM cf E (tCall (SpP cf 6 (sp6 g)) [] E0 (tCons t0 (tCons t1 (tCons t2 (tCons t3 (tCons t4 (tCons t5 tNil))))))) G (m0.bind fun a => m1.bind fun b => m2.bind fun c => m3.bind fun d => m4.bind fun e => m5.bind fun f => (g a b c d e f).pu) := fun F O H σ Q hf he nb ko ke => by
  refine h0 F O H σ _ hf he (R.bind_nb nb) (fun a v0 F1 H1 e0 l1 hf1 r0 => ?_) (fun c p d F' H' e le hf' hd => ke c p d F' H' (by rw [e]; rfl) (le) hf' hd)
  rw [e0, R.ok_bind] at nb ko ke
  have le1 := l1
  refine h1 F1 O H1 σ _ hf1 (he.mono le1) (R.bind_nb nb) (fun b v1 F2 H2 e1 l2 hf2 r1 => ?_) (fun c p d F' H' e le hf' hd => ke c p d F' H' (by rw [e]; rfl) (le1.trans le) hf' hd)
  rw [e1, R.ok_bind] at nb ko ke
  have le2 := le1.trans l2
  refine h2 F2 O H2 σ _ hf2 (he.mono le2) (R.bind_nb nb) (fun c v2 F3 H3 e2 l3 hf3 r2 => ?_) (fun c p d F' H' e le hf' hd => ke c p d F' H' (by rw [e]; rfl) (le2.trans le) hf' hd)
  rw [e2, R.ok_bind] at nb ko ke
  have le3 := le2.trans l3
  refine h3 F3 O H3 σ _ hf3 (he.mono le3) (R.bind_nb nb) (fun d v3 F4 H4 e3 l4 hf4 r3 => ?_) (fun c p d F' H' e le hf' hd => ke c p d F' H' (by rw [e]; rfl) (le3.trans le) hf' hd)
  rw [e3, R.ok_bind] at nb ko ke
  have le4 := le3.trans l4
  refine h4 F4 O H4 σ _ hf4 (he.mono le4) (R.bind_nb nb) (fun e v4 F5 H5 e4 l5 hf5 r4 => ?_) (fun c p d F' H' e le hf' hd => ke c p d F' H' (by rw [e]; rfl) (le4.trans le) hf' hd)
  rw [e4, R.ok_bind] at nb ko ke
  have le5 := le4.trans l5
  refine h5 F5 O H5 σ _ hf5 (he.mono le5) (R.bind_nb nb) (fun f v5 F6 H6 e5 l6 hf6 r5 => ?_) (fun c p d F' H' e le hf' hd => ke c p d F' H' (by rw [e]; rfl) (le5.trans le) hf' hd)
  rw [e5, R.ok_bind] at nb ko ke
  have le6 := le5.trans l6
  obtain ⟨y, ey⟩ := pu_nb nb
  exact ⟨rfl, F6, O, _, toD y, hf6, (.cons (Dr.mono (((((l2).trans l3).trans l4).trans l5).trans l6) r0) (.cons (Dr.mono ((((l3).trans l4).trans l5).trans l6) r1) (.cons (Dr.mono (((l4).trans l5).trans l6) r2) (.cons (Dr.mono ((l5).trans l6) r3) (.cons (Dr.mono (l6) r4) (.cons r5 .nil)))))), ⟨a, b, c, d, e, f, rfl, by rw [ey]; rfl⟩, fun v F' H' le hf' hr => ko y v F' H' (by rw [ey]; rfl) (le6.trans le) hf' hr⟩
theorem fn6 {P : Program} {w : World} {cf : Cf} {mg : Str → Option Value} {base : Heap} {x qual : Str} {st : Stmt} {f0 : Addr} {fd : FuncData} {N ps : List Str} {k : Nat} {S : Type} {enc : S → List Sl} (F : Fun cf.K x qual st f0 fd) (sc : FnScope N ps (defScope st)) (hp : ps.length = 6) (g : α → β → γ → δ → ε → ζ → R (Fl S τ))
    (G0 : α → β → γ → δ → ε → ζ → List Sl) (hG : ∀ a b c d e f, [.va (toD a), .va (toD b), .va (toD c), .va (toD d), .va (toD e), .va (toD f)] ++ List.replicate (N.length - 6) .un = G0 a b c d e f)
    (h : ∀ (cdv : Value) (A : Around) (outer : List Env) (s : Shared) (H : Hp) (E : XK), Room k (A.deeper (envOfC qual (defScope st) s.heap.objs.size f0 cdv)) →
      ∃ t, PSs (cxOf CX0 P w cf.K mg base N qual (defScope st) f0 cdv A outer s H E).nox (defBody st) t ∧ ∀ a b c d e f, SB cf E0 t (G0 a b c d e f) enc (g a b c d e f)) :
    FnOk P w cf.K mg base CX0 (k + 1) f0 fd ps (SpP cf 6 (sp6 fun a b c d e f => finR (g a b c d e f))) := by
  refine F.ok sc (SpP.len hp) (fun cdv A outer s H vs Q E hr hq => ?_)
  obtain ⟨t, ht, hb⟩ := h cdv A outer s H E hr
  refine ⟨t, ht, run_of (ρ := τ) (S := S) (enc := enc) hq fun ds dd hs => ?_⟩
  obtain ⟨a, b, c, d, e, f, rfl, er⟩ := hs
  refine ⟨g a b c d e f, by have q := hb a b c d e f; rw [← hG] at q; exact q, ?_⟩
  replace er : R.ok dd = (finR (g a b c d e f)).map toD := er
  generalize q : finR (g a b c d e f) = z at er
  cases z with
  | ok r => exact ⟨r, rfl, R.ok.inj er⟩
  | er c p => cases er
  | bad => cases er
end
end Kr

/-! KrG: further rules by data: in, isinstance, sorted, a, b = .., is True. -/
namespace Kr
open PySem PySem.Spec PyProof.Rows L2
open Enc (toD)

/-! ### rules whose reading names the written part itself -/
section
variable {X : Cx} (K : PySem.W.Frag) (h : X.K = K)
include h
theorem ix_listK : IxR X (rIxL K) := h ▸ ix_list
theorem ix_tupK : IxR X (rIxT K) := h ▸ ix_tup
theorem sl_listK : SlR X (rSlL K) := h ▸ sl_list
theorem lenK : CallR X (.builtin "len") (rLenS K) := h ▸ call_len_seq
theorem listK : CallR X (.type "list") (rListS K) := h ▸ call_list_of
theorem sumK (hc : X.calm = true) : CallR X (.builtin "sum") (rSum K) := h ▸ cr_sum hc
theorem maxK (hc : X.calm = true) : CallR X (.builtin "max") (rMax K) := h ▸ cr_max hc
theorem minK (hc : X.calm = true) : CallR X (.builtin "min") (rMin K) := h ▸ cr_min hc
theorem anyK (hc : X.calm = true) : CallR X (.builtin "any") (rAny K) := h ▸ cr_any hc
theorem inK : OpR X (compareOp .In) (rIn K false) := h ▸ op_in_seq
theorem notInK : OpR X (compareOp .NotIn) (rIn K true) := h ▸ op_notIn_seq
theorem eqDK (hu : X.A.units + 64 < cLine) : OpR X (compareOp .Eq) (rEqD K) := h ▸ op_eqD hu
theorem neDK (hu : X.A.units + 64 < cLine) : OpR X (compareOp .NotEq) (rNeD K) := h ▸ op_neD hu
theorem tupK {es : List Expr} {k : Nat} {t : TGs} {pos : Pos} (n : Nat) (hc : X.calm = true) (hp : PGs X es t)
    (hn : (assignEach es X.env).length = n := by rfl) (hst : (assignEach es X.env).findIdx? (·.1) = none := by rfl) : PG X (.Tuple es k pos) (gTup K n t) := h ▸ pg_tup hc hp hn hst
theorem listI {tg l : Expr} {tl : TE} (hl : PE X l tl) : PI X tg l (iList K tl) := h ▸ pi_list hl
theorem enumI {e : Expr} {ta : TA} {p pos tpos : Pos} {elts : List Expr} {kk : Nat} (hg : Gl X "enumerate") (hm : X.mg "enumerate" = none) (ha : PA X [e] ta) (hs : starEach [e] X.env = [(false, eval e X.env)] := by rfl) :
    PI X (.Tuple elts kk tpos) (.Call (.Name "enumerate" p) [e] [] pos) (iEnum K ta) := h ▸ pi_enum hg hm ha hs
theorem zipI {e e2 : Expr} {ta : TA} {p pos tpos : Pos} {elts : List Expr} {kk : Nat} (hg : Gl X "zip") (hm : X.mg "zip" = none) (ha : PA X [e, e2] ta)
    (hs : starEach [e, e2] X.env = (false, eval e X.env) :: starEach [e2] X.env := by rfl) (hpl : (backTo pos (starEach [e2] X.env)).any (·.1) = false := by rfl) :
    PI X (.Tuple elts kk tpos) (.Call (.Name "zip" p) [e, e2] [] pos) (iZip K ta) := h ▸ pi_zip hg hm ha hs hpl
theorem revI {tg e : Expr} {ta : TA} {p pos : Pos} (hg : Gl X "reversed") (hm : X.mg "reversed" = none) (ha : PA X [e] ta) (hs : starEach [e] X.env = [(false, eval e X.env)] := by rfl) : PI X tg (.Call (.Name "reversed" p) [e] [] pos) (iRev K ta) := h ▸ pi_reversed hg hm ha hs
end
section
variable {cf : Cf} {E : XK} {G : List Sl} {S α β γ δ ρ : Type} [Enc ρ] {ta tb tc te : TE} {t u : TS} {enc : S → List Sl}
theorem sb_skip {m : R (Fl S ρ)} (h : SB cf E u G enc m) : SB cf E (tSeq tNext u) G enc m := h
theorem sb_bad : SB cf E u G enc (.bad : R (Fl S ρ)) := fun _ _ _ _ _ _ nb => absurd rfl nb
theorem sb_retN : SB cf E tRetN G enc (.ok (.rt ()) : R (Fl S Unit)) := fun F O H σ D hM _ _ _ kr _ => kr () .non F H rfl (Le.refl F) hM.fm .non
theorem sb_retN2 : SB cf E (tSeq tRetN u) G enc (.ok (.rt ()) : R (Fl S Unit)) := fun F O H σ D hM _ _ _ kr _ => kr () .non F H rfl (Le.refl F) hM.fm .non
/-! ### a, b = e1, e2 -/
theorem mt_set {K : PySem.W.Frag} {F O H : Hp} {σ : L2.St} (h : Mt K F O H σ G) (i : Nat) {v : V} {d : Dt} (r : Dr K F v d) : Mt K F O H (σ.set i (some v)) (G.set i (.va d)) := by
  obtain ⟨O', lo, hf, he, o1, o2⟩ := h
  refine ⟨O', lo, hf, er_set he i r, fun j s b q o => ?_, fun j l s t b hjl q q' o o' => ?_⟩
  · obtain ⟨q1, q2⟩ := own_set (σ := σ) (y := some v) q o
    rw [q2]
    exact o1 j s b q1 o
  · obtain ⟨q1, q2⟩ := own_set (σ := σ) (y := some v) q o
    obtain ⟨q3, q4⟩ := own_set (σ := σ) (y := some v) q' o'
    rw [q2, q4]
    exact o2 j l s t b hjl q1 q3 o o'
theorem sb_par2 [Enc α] [Enc β] {i j : Nat} {m : R α} {n : R β} {f : α → β → R (Fl S ρ)} (h : EM cf E ta G m) (h' : EM cf E tb G n) (G' : α → β → List Sl) (hG : ∀ a b, (G.set i (.va (toD a))).set j (.va (toD b)) = G' a b) (hk : ∀ a b, SB cf E u (G' a b) enc (f a b)) :
    SB cf E (tSeq (tPar i j (tCons ta (tCons tb tNil))) u) G enc (m.bind fun a => n.bind fun b => f a b) := fun F O H σ D hM nb kn kb kr ke => by
  obtain ⟨O', lo, hf, he, o1, o2⟩ := hM
  refine h F O' H σ _ hf he (R.bind_nb nb) (fun a v F1 H1 ea le1 hf1 hr => ?_) (fun c p d F' H' e le hf' hd => ke c p d F' H' (by rw [e]; rfl) le (hf'.weak lo) hd)
  rw [ea, R.ok_bind] at nb kn kb kr ke
  refine h' F1 O' H1 σ _ hf1 (he.mono le1) (R.bind_nb nb) (fun b w' F2 H2 eb le2 hf2 hw => ?_) (fun c p d F' H' e le hf' hd => ke c p d F' H' (by rw [e]; rfl) (le1.trans le) (hf'.weak lo) hd)
  rw [eb, R.ok_bind] at nb kn kb kr ke
  have le := le1.trans le2
  have hM2 : Mt cf.K F2 O H2 σ G := ⟨O', lo, hf2, he.mono le, o1, o2⟩
  have hM3 := mt_set (mt_set hM2 i (hr.mono le2)) j hw
  rw [hG] at hM3
  exact ⟨v, w', rfl, hk a b F2 O H2 _ D hM3 nb (fun s F'' H'' σ' e le' => kn s F'' H'' σ' e (le.trans le')) (fun s F'' H'' σ' e le' => kb s F'' H'' σ' e (le.trans le')) (fun r v F'' H'' e le' => kr r v F'' H'' e (le.trans le')) fun c p d F'' H'' e le' => ke c p d F'' H'' e (le.trans le')⟩
theorem sb_par3 [Enc α] [Enc β] [Enc γ] {i j l : Nat} {m : R α} {n : R β} {o : R γ} {f : α → β → γ → R (Fl S ρ)} (h : EM cf E ta G m) (h' : EM cf E tb G n) (h'' : EM cf E tc G o) (G' : α → β → γ → List Sl)
    (hG : ∀ a b c, ((G.set i (.va (toD a))).set j (.va (toD b))).set l (.va (toD c)) = G' a b c) (hk : ∀ a b c, SB cf E u (G' a b c) enc (f a b c)) :
    SB cf E (tSeq (tPar3 i j l (tCons ta (tCons tb (tCons tc tNil)))) u) G enc (m.bind fun a => n.bind fun b => o.bind fun c => f a b c) := fun F O H σ D hM nb kn kb kr ke => by
  obtain ⟨O', lo, hf, he, o1, o2⟩ := hM
  refine h F O' H σ _ hf he (R.bind_nb nb) (fun a v F1 H1 ea le1 hf1 hr => ?_) (fun c p d F' H' e le hf' hd => ke c p d F' H' (by rw [e]; rfl) le (hf'.weak lo) hd)
  rw [ea, R.ok_bind] at nb kn kb kr ke
  refine h' F1 O' H1 σ _ hf1 (he.mono le1) (R.bind_nb nb) (fun b w' F2 H2 eb le2 hf2 hw => ?_) (fun c p d F' H' e le hf' hd => ke c p d F' H' (by rw [e]; rfl) (le1.trans le) (hf'.weak lo) hd)
  rw [eb, R.ok_bind] at nb kn kb kr ke
  have le12 := le1.trans le2
  refine h'' F2 O' H2 σ _ hf2 (he.mono le12) (R.bind_nb nb) (fun c z F3 H3 ec le3 hf3 hz => ?_) (fun c p d F' H' e le hf' hd => ke c p d F' H' (by rw [e]; rfl) (le12.trans le) (hf'.weak lo) hd)
  rw [ec, R.ok_bind] at nb kn kb kr ke
  have le := le12.trans le3
  have hM2 : Mt cf.K F3 O H3 σ G := ⟨O', lo, hf3, he.mono le, o1, o2⟩
  have hM3 := mt_set (mt_set (mt_set hM2 i (hr.mono (le2.trans le3))) j (hw.mono le3)) l hz
  rw [hG] at hM3
  exact ⟨v, w', z, rfl, hk a b c F3 O H3 _ D hM3 nb (fun s F'' H'' σ' e le' => kn s F'' H'' σ' e (le.trans le')) (fun s F'' H'' σ' e le' => kb s F'' H'' σ' e (le.trans le')) (fun r v F'' H'' e le' => kr r v F'' H'' e (le.trans le')) fun c p d F'' H'' e le' => ke c p d F'' H'' e (le.trans le')⟩
/-- a value that is not None -/
def getR (o : Option α) : R α := match o with
  | some a => .ok a
  | none => .bad
theorem EM.get [Enc α] {m : R (Option α)} (h : EM cf E ta G m) : EM cf E ta G (m.bind getR) := fun F O H σ Q hf he nb ko ke =>
  h F O H σ Q hf he (R.bind_nb nb) (fun o v F' H' e le hf' hr => by
    rw [e, R.ok_bind] at nb ko
    cases o with
    | none => exact absurd rfl nb
    | some a => exact ko a v F' H' rfl le hf' hr) (fun c p d F' H' e => ke c p d F' H' (by rw [e]; rfl))
/-! ### is True, in, isinstance -/
theorem em_isB {ma mb : R Bool} (ha : EM cf E ta G ma) (hb : EM cf E tb G mb) : EM cf E (tOp rIsB ta tb) G (ma.bind fun a => mb.bind fun b => .ok (decide (a = b))) :=
  EG.bind2 (u := fun x y H Q => rIsB x y H Q) ha hb rm_mono fun F O H Q a r b s hf h1 h2 _ ko => ⟨a, b, dr_bl h1, dr_bl h2, ko _ _ F H rfl (Le.refl F) hf (.bl _)⟩
theorem em_notB {ma mb : R Bool} (ha : EM cf E ta G ma) (hb : EM cf E tb G mb) : EM cf E (tOp rNotB ta tb) G (ma.bind fun a => mb.bind fun b => .ok (!decide (a = b))) :=
  EG.bind2 (u := fun x y H Q => rNotB x y H Q) ha hb rm_mono fun F O H Q a r b s hf h1 h2 _ ko => ⟨a, b, dr_bl h1, dr_bl h2, ko _ _ F H rfl (Le.refl F) hf (.bl _)⟩
theorem inV_int (a : Int) : ∀ xs : List Int, inV (.int a) (xs.map V.int) = xs.contains a
  | [] => rfl
  | x :: r => by
    have ih := inV_int a r
    unfold inV at ih ⊢
    rw [List.map_cons, List.any_cons, ih, List.contains_cons]
    congr 1
    show eqV (.int x) (.int a) = (a == x)
    unfold eqV
    by_cases e : x = a
    · subst e
      simp
    · have e' : ¬ a = x := fun z => e z.symm
      show (x == a) = (a == x)
      rw [beq_eq_false_iff_ne.mpr e, beq_eq_false_iff_ne.mpr e']
theorem flat_int (xs : List Int) : (xs.map V.int).all flatV = true := by
  rw [List.all_eq_true]
  intro x hx
  obtain ⟨i, _, rfl⟩ := List.mem_map.mp hx
  rfl
theorem em_inI {ma : R Int} {mb : R (List Int)} (ha : EM cf E ta G ma) (hb : ES cf E tb G mb) : EM cf E (tOp (rIn cf.K false) ta tb) G (ma.bind fun a => mb.bind fun b => .ok (b.contains a)) :=
  EG.bind2 (u := fun x y H Q => rIn cf.K false x y H Q) ha hb rm_mono fun F O H Q a r b s hf h1 h2 _ ko => by
    obtain ⟨p, vs, e, hs, hr⟩ := RS.seq h2 hf
    rw [ints_of_drA hr] at hs
    rw [dr_int (i := a) h1]
    refine ⟨p, _, e, .inl hs, rfl, flat_int b, ?_⟩
    rw [inV_int]
    exact ko _ _ F H rfl (Le.refl F) hf (.bl _)
theorem em_niI {ma : R Int} {mb : R (List Int)} (ha : EM cf E ta G ma) (hb : ES cf E tb G mb) : EM cf E (tOp (rIn cf.K true) ta tb) G (ma.bind fun a => mb.bind fun b => .ok (!b.contains a)) :=
  EG.bind2 (u := fun x y H Q => rIn cf.K true x y H Q) ha hb rm_mono fun F O H Q a r b s hf h1 h2 _ ko => by
    obtain ⟨p, vs, e, hs, hr⟩ := RS.seq h2 hf
    rw [ints_of_drA hr] at hs
    rw [dr_int (i := a) h1]
    refine ⟨p, _, e, .inl hs, rfl, flat_int b, ?_⟩
    rw [inV_int]
    exact ko _ _ F H rfl (Le.refl F) hf (.bl _)
/-- isinstance(x, T), x of the type T itself -/
def rIsTyK (K : PySem.W.Frag) : List V → Hp → VK → Prop := fun xs H Q => ∃ (x : V) (T : String), xs = [x, .ty T] ∧ TyOf K H x (.type T) ∧ Q (.bl true) H
theorem call_isTyK {X : Cx} : CallR X (.builtin "isinstance") (rIsTyK X.K) := by
  intro pins s σ H xs us Q I r h
  obtain ⟨x, T, rfl, t, q⟩ := h
  cases r with
  | cons rx rr =>
    cases rr with
    | cons rt rr =>
      cases rr
      cases rt
      have e : PySem.W.kitOne X.K (.type T) (.type T) = some true := if_pos (beq_self_eq_true _)
      exact isinst_ok I rx t e fun tk => ⟨.bl true, H, I.kept (t' := tk) fun _ _ z => z, rfl, q⟩
theorem em_isT (T : String) [Enc α] (hT : ∀ (F H : Hp) (v : V) (a : α), Le F H → Dr cf.K F v (toD a) → TyOf cf.K H v (.type T)) {m : R α} (h : EM cf E ta G m) : EM cf E (tCB (rIsTyK cf.K) (tCons ta (tCons (tC (.ty T)) tNil))) G (m.bind fun _ => .ok true) :=
  EG.bind1 (u := fun r H Q => rIsTyK cf.K [r, .ty T] H Q) h fun F O H Q a r hf h1 _ ko => ⟨r, T, rfl, hT F H r a hf.f h1, ko _ _ F H rfl (Le.refl F) hf (.bl _)⟩
theorem em_isT_bool {m : R Bool} (h : EM cf E ta G m) : EM cf E (tCB (rIsTyK cf.K) (tCons ta (tCons (tC (.ty "bool")) tNil))) G (m.bind fun _ => .ok true) := em_isT "bool" (fun F H v a le r => by
  rw [dr_bl (i := a) r]
  exact .bl a) h
theorem em_isT_list [Enc α] {m : R (List α)} (h : EM cf E ta G m) : EM cf E (tCB (rIsTyK cf.K) (tCons ta (tCons (tC (.ty "list")) tNil))) G (m.bind fun _ => .ok true) := em_isT "list" (fun F H v a le r => by
  obtain ⟨p, vs, e, h1, _⟩ := dr_lst r
  rw [e]
  exact .lst (le _ _ h1)) h
theorem em_isT_tuple [Enc α] [Enc β] {m : R (α × β)} (h : EM cf E ta G m) : EM cf E (tCB (rIsTyK cf.K) (tCons ta (tCons (tC (.ty "tuple")) tNil))) G (m.bind fun _ => .ok true) := em_isT "tuple" (fun F H v a le r => by
  obtain ⟨p, vs, e, h1, _⟩ := dr_tup (ds := [toD a.1, toD a.2]) r
  rw [e]
  exact .tup (le _ _ h1)) h

/-! ### sorted -/
/-- data that Python sorts -/
class Sbl (α : Type) [Enc α] : Prop where
  al : ∀ a b : α, PySem.W.alike (toD a).py (toD b).py = true
  so : (∀ a : α, ∃ x r, (toD a).py = .tuple (x :: r)) ∨ ∀ a : α, (toD a).py ≠ .none ∧ ∀ xs, (toD a).py ≠ .tuple xs
  dp : ∀ a : α, (toD a).py.depth ≤ 8
  nd : ∀ a : α, (toD a).nd = true
/-- Python's a <= b -/
def leD [Enc α] (a b : α) : Bool := PySem.W.dataLe false (fun x : α => (toD x).py) a b
def sortR [Enc α] (xs : List α) : R (List α) := (szR xs).bind fun xs => .ok (xs.mergeSort leD)
def rSortedD (K : PySem.W.Frag) : List V → Hp → VK → Prop := fun vs H Q => ∃ (a : Addr) (zs : List (V × PyData)), vs = [V.ref a] ∧ SqL K H a (zs.map (·.1)) ∧ (∀ z ∈ zs, Dp K H z.1 z.2) ∧ PySem.W.AllAlike (zs.map (·.2)) ∧ PySem.W.Sortable (zs.map (·.2)) ∧ (∀ z ∈ zs, z.2.depth ≤ 8) ∧
  ∀ p, H p = none → Q (.ref p) (upd H p (.lst ((zs.mergeSort (PySem.W.dataLe false fun z : V × PyData => z.2)).map (·.1))))
theorem relV_unique {v : V} {u u' : Value} : True := trivial
theorem eachIs_of {α β : Type} {R : α → β → Prop} : ∀ {as : List α} {bs : List β}, as.length = bs.length → (∀ (i : Nat) a b, as[i]? = some a → bs[i]? = some b → R a b) → PySem.W.EachIs R as bs
  | [], [], _, _ => .nil
  | [], _ :: _, h, _ => by simp at h
  | _ :: _, [], h, _ => by simp at h
  | a :: as, b :: bs, h, k => .cons (k 0 a b rfl rfl) (eachIs_of (by simpa using h) fun i x y e e' => k (i + 1) x y (by simpa using e) (by simpa using e'))
theorem vals_of_each {β : Type} {f : β → V} : ∀ {us : List Value} {bs : List β}, PySem.W.EachIs (fun u b => RelV (f b) u) us bs → Vals (bs.map f) us
  | _, _, .nil => .nil
  | _, _, .cons r t => .cons r (vals_of_each t)
theorem cr_sortedD {X : Cx} (hu : X.A.units + 64 < cLine) : CallR X (.builtin "sorted") (rSortedD X.K) := by
  intro pins s σ H vs us Q I r h
  obtain ⟨a, zs, rfl, hs, hd, hal, hso, hdp, q⟩ := h
  obtain ⟨its, rv, hl, hz⟩ := I.list hs
  obtain ⟨u, rfl, ru⟩ := vals1 r
  obtain rfl : u = Value.ref a := ru
  have hlen : its.length = zs.length := by rw [← rv.length, List.length_map]
  have rel : ∀ (i : Nat) (u : Value) (z : V × PyData), its[i]? = some u → zs[i]? = some z → RelV z.1 u := fun i u z e1 e2 => by
    obtain ⟨u', h1, h2⟩ := rv.get (show (zs.map (·.1))[i]? = some z.1 by rw [List.getElem?_map, e2]; rfl)
    rw [e1] at h1
    cases h1
    exact h2
  have er : PySem.W.EachIs (fun u z => RelV z.1 u) its zs := eachIs_of hlen rel
  have er2 : PySem.W.EachIs (fun u z => ∃ as, Reads s.heap u (z : V × PyData).2 as) its zs := eachIs_of hlen fun i u z e1 e2 => Dp.reads I z.2 z.1 u (hd z (List.mem_of_getElem? e2)) (rel i u z e1 e2)
  refine PySem.W.sorted_data (enc := fun z : V × PyData => z.2) hl.isList er er2 hal hso (by rw [← hlen, ← rv.length]; exact hz) (fun z hm => by have := hdp z hm; omega) fun out ho eo => ?_
  obtain ⟨c, hc⟩ := sortedAll_at s.heap its out.toArray
  have hf : H (s.heap.objs.size + 1) = none := I.hok.fresh (Nat.le_succ _)
  refine ⟨.ref (s.heap.objs.size + 1), _, I.laid (t' := s.toks) (o := .lst ((zs.mergeSort (PySem.W.dataLe false fun z : V × PyData => z.2)).map (·.1))) (h' := sortedAll s.heap its out.toArray) (fun b o e => sortedAll_old e) (Nat.le_succ _) ⟨?_, out, c, vals_of_each eo, hc⟩, rfl, q _ hf⟩
  rw [List.length_map, List.length_mergeSort, ← hlen, ← rv.length]
  exact hz
theorem zip_fst {A B : Type} : ∀ {xs : List A} {ys : List B}, xs.length = ys.length → (xs.zip ys).map (·.1) = xs
  | [], [], _ => rfl
  | [], _ :: _, h => by simp at h
  | _ :: _, [], h => by simp at h
  | x :: xs, y :: ys, h => by rw [List.zip_cons_cons, List.map_cons, zip_fst (by simpa using h)]
theorem zip_snd {A B : Type} : ∀ {xs : List A} {ys : List B}, xs.length = ys.length → (xs.zip ys).map (·.2) = ys
  | [], [], _ => rfl
  | [], _ :: _, h => by simp at h
  | _ :: _, [], h => by simp at h
  | x :: xs, y :: ys, h => by rw [List.zip_cons_cons, List.map_cons, zip_snd (by simpa using h)]
theorem drA_zip [Enc α] {K : PySem.W.Frag} {F : Hp} : ∀ {vs : List V} {xs : List α}, DrA K F vs (xs.map toD) → ∀ z ∈ vs.zip xs, Dr K F z.1 (toD z.2)
  | [], _, _, z, hz => by simp at hz
  | _ :: _, [], _, z, hz => by simp at hz
  | v :: vs, x :: xs, h, z, hz => by
    obtain ⟨v', r', e, h1, h2⟩ := drA_cons h
    cases e
    rw [List.zip_cons_cons] at hz
    rcases List.mem_cons.mp hz with e | hz
    · subst e
      exact h1
    · exact drA_zip h2 z hz
theorem drA_of [Enc α] {K : PySem.W.Frag} {F : Hp} : ∀ {zs : List (V × α)}, (∀ z ∈ zs, Dr K F z.1 (toD z.2)) → DrA K F (zs.map (·.1)) ((zs.map (·.2)).map toD)
  | [], _ => .nil
  | z :: zs, h => .cons (h z (by simp)) (drA_of fun y hy => h y (by simp [hy]))
theorem ef_sorted [Enc α] [Sbl α] {m : R (List α)} (h : ES cf E ta G m) : EF cf E (tCB (rSortedD cf.K) (tCons ta tNil)) G (m.bind sortR) :=
  EG.call1 (ρ := Unit) h fun F O H Q xs r hf h1 nb ko => by
    obtain ⟨p, vs, e, hs, hr⟩ := RS.seq h1 hf
    obtain ⟨hz, ez⟩ := szR_nb (R.bind_nb nb)
    have es : sortR xs = .ok (xs.mergeSort leD) := by
      unfold sortR
      rw [ez]
      rfl
    have hl : vs.length = xs.length := by rw [hr.length, List.length_map]
    let zs : List (V × α) := vs.zip xs
    let ws : List (V × PyData) := zs.map fun z => (z.1, (toD z.2).py)
    have e1 : ws.map (·.1) = vs := by
      show (zs.map _).map _ = vs
      rw [List.map_map]
      exact zip_fst hl
    have hw : ∀ w' ∈ ws, ∃ v a, (v, a) ∈ zs ∧ w' = (v, (toD a).py) := fun w' hm => by
      obtain ⟨z, hz, rfl⟩ := List.mem_map.mp hm
      exact ⟨z.1, z.2, hz, rfl⟩
    refine ⟨p, ws, by rw [e], by rw [e1]; exact hs, fun w' hm => ?_, fun d hd d' hd' => ?_, ?_, fun w' hm => ?_, fun q hq => ?_⟩
    · obtain ⟨v, a, hz, rfl⟩ := hw w' hm
      exact Dr.dp hf.f (drA_zip hr _ hz) (Sbl.nd a)
    · obtain ⟨w1, hm, rfl⟩ := List.mem_map.mp hd
      obtain ⟨w2, hm', rfl⟩ := List.mem_map.mp hd'
      obtain ⟨v, a, _, rfl⟩ := hw w1 hm
      obtain ⟨v', a', _, rfl⟩ := hw w2 hm'
      exact Sbl.al a a'
    · rcases Sbl.so (α := α) with k | k
      · refine .inl fun d hd => ?_
        obtain ⟨w1, hm, rfl⟩ := List.mem_map.mp hd
        obtain ⟨v, a, _, rfl⟩ := hw w1 hm
        exact k a
      · refine .inr fun d hd => ?_
        obtain ⟨w1, hm, rfl⟩ := List.mem_map.mp hd
        obtain ⟨v, a, _, rfl⟩ := hw w1 hm
        exact k a
    · obtain ⟨v, a, _, rfl⟩ := hw w' hm
      exact Sbl.dp a
    · refine ko _ _ F _ es (Le.refl F) (hf.newH hq) ⟨q, _, rfl, hf.fnone hq, hf.onone hq, upd_same, ?_⟩
      have k1 : ws.mergeSort (PySem.W.dataLe false fun z : V × PyData => z.2) = (zs.mergeSort fun x y => leD x.2 y.2).map fun z => (z.1, (toD z.2).py) := by
        show (zs.map _).mergeSort _ = _
        exact (List.map_mergeSort (r := fun x y : V × α => leD x.2 y.2) (s := PySem.W.dataLe false fun z : V × PyData => z.2) (f := fun z : V × α => (z.1, (toD z.2).py)) (l := zs) (fun a _ b _ => rfl)).symm
      have k2 : (zs.mergeSort fun x y => leD x.2 y.2).map (·.2) = xs.mergeSort leD := by
        have q := List.map_mergeSort (r := fun x y : V × α => leD x.2 y.2) (s := leD) (f := fun z : V × α => z.2) (l := zs) (fun a _ b _ => rfl)
        rw [q]
        congr 1
        exact zip_snd hl
      rw [k1, ← k2, List.map_map]
      exact drA_of fun z hz => drA_zip hr z ((List.mergeSort_perm zs _).mem_iff.mp hz)
end
instance : Sbl Int := ⟨fun a b => by show PySem.W.alike (.int a) (.int b) = true; simp only [PySem.W.alike], .inr fun a => ⟨fun h => (nomatch h), fun _ h => (nomatch h)⟩, fun a => Nat.zero_le _, fun a => rfl⟩
instance : Sbl (Int × Int) := ⟨fun a b => by
    show PySem.W.alike (.tuple [.int a.1, .int a.2]) (.tuple [.int b.1, .int b.2]) = true
    simp [PySem.W.alike, PySem.W.alikeAll], .inl fun a => ⟨_, _, rfl⟩, fun a => by
    show PyData.depth (.tuple [.int a.1, .int a.2]) ≤ 8
    simp [PyData.depth, PyData.depthAll], fun a => rfl⟩
instance : Sbl (T3 Int Int Int) := ⟨fun a b => by
    show PySem.W.alike (.tuple [.int a.a, .int a.b, .int a.c]) (.tuple [.int b.a, .int b.b, .int b.c]) = true
    simp [PySem.W.alike, PySem.W.alikeAll], .inl fun a => ⟨_, _, rfl⟩, fun a => by
    show PyData.depth (.tuple [.int a.a, .int a.b, .int a.c]) ≤ 8
    simp [PyData.depth, PyData.depthAll], fun a => rfl⟩
theorem pyA_ints : ∀ ns : List Int, Dt.pyA (ns.map toD) = ns.map PyData.int
  | [] => rfl
  | n :: r => by
    show PyData.int n :: Dt.pyA (r.map toD) = _
    rw [pyA_ints r]
    rfl
theorem ndA_ints : ∀ ns : List Int, Dt.ndA (ns.map toD) = true
  | [] => rfl
  | n :: r => by
    show (true && Dt.ndA (r.map toD)) = true
    rw [ndA_ints r]
    rfl
instance : Sbl (Int × List Int) := ⟨fun a b => by
    show PySem.W.alike (.tuple [.int a.1, .list (Dt.pyA (a.2.map toD))]) (.tuple [.int b.1, .list (Dt.pyA (b.2.map toD))]) = true
    rw [pyA_ints, pyA_ints]
    simp [PySem.W.alike, PySem.W.alikeAll, PySem.W.alike_ints], .inl fun a => ⟨_, _, rfl⟩, fun a => by
    show PyData.depth (.tuple [.int a.1, .list (Dt.pyA (a.2.map toD))]) ≤ 8
    rw [pyA_ints]
    simp [PyData.depth, PyData.depthAll, PySem.W.depth_ints], fun a => by
    show (true && (Dt.ndA (a.2.map toD) && true)) = true
    rw [ndA_ints]
    rfl⟩
section
variable {X : Cx} (K : PySem.W.Frag) (h : X.K = K)
include h
theorem sortedK (hu : X.A.units + 64 < cLine) : CallR X (.builtin "sorted") (rSortedD K) := h ▸ cr_sortedD hu
theorem isTyK : CallR X (.builtin "isinstance") (rIsTyK K) := h ▸ call_isTyK
end
end Kr

/-! KrM: the mathematics of results: loops, comprehensions, equality of data. -/
namespace Kr
open PySem PySem.Spec PyProof.Rows L2
open Enc (toD)
variable {α β γ S T ρ : Type}
theorem finR_rt (r : ρ) : finR (.ok (.rt r) : R (Fl S ρ)) = .ok r := (fun (m : R (Fl S ρ)) (e : m = .ok (.rt r)) => show finR m = .ok r by rw [e]; rfl) _ rfl
theorem seqF_nx (s : S) (k : S → R (Fl T ρ)) : seqF (.ok (.nx s)) k = k s := (fun (m : R (Fl S ρ)) (e : m = .ok (.nx s)) => show seqF m k = k s by rw [e]; rfl) _ rfl
theorem seqF_rt (r : ρ) (k : S → R (Fl T ρ)) : seqF (.ok (.rt r)) k = .ok (.rt r) := (fun (m : R (Fl S ρ)) (e : m = .ok (.rt r)) => show seqF m k = .ok (.rt r) by rw [e]; rfl) _ rfl
theorem seqF_ite (c : Prop) [Decidable c] (a b : R (Fl S ρ)) (k : S → R (Fl T ρ)) : seqF (if c then a else b) k = if c then seqF a k else seqF b k := by split <;> rfl
theorem ite_nx (c : Prop) [Decidable c] (a b : S) : (if c then (.ok (.nx a) : R (Fl S ρ)) else .ok (.nx b)) = .ok (.nx (if c then a else b)) := by split <;> rfl
theorem ite_ok (c : Prop) [Decidable c] (a b : α) : (if c then (.ok a : R α) else .ok b) = .ok (if c then a else b) := by split <;> rfl
theorem okB (b : Bool) (x y : R α) (c : Prop) [Decidable c] (h : b = decide c) : (if b = true then x else y) = if c then x else y := by subst h; simp
/-- a loop that runs through -/
theorem forR_run {step : T → α → R (Fl T ρ)} {k : T → R (Fl S ρ)} : ∀ (xs : List α) (s : T) (I : Nat → T → Prop), I 0 s → (∀ (i : Nat) (h : i < xs.length) (s : T), I i s → ∃ s', step s xs[i] = .ok (.nx s') ∧ I (i + 1) s') →
    ∃ s', I xs.length s' ∧ forR step k xs s = k s'
  | [], s, I, h0, _ => ⟨s, h0, rfl⟩
  | x :: r, s, I, h0, hs => by
    obtain ⟨s1, e1, h1⟩ := hs 0 (by simp) s h0
    obtain ⟨s2, h2, e2⟩ := forR_run (step := step) (k := k) r s1 (fun i => I (i + 1)) h1 fun i hi s' hI => hs (i + 1) (by simpa using hi) s' hI
    refine ⟨s2, h2, ?_⟩
    show (step s x).bind _ = _
    rw [show step s x = .ok (.nx s1) from e1]
    exact e2
/-- .. as a rule for a goal -/
theorem forR_elim {P : R (Fl S ρ) → Prop} {step : T → α → R (Fl T ρ)} {k : T → R (Fl S ρ)} {xs : List α} {s : T} (I : Nat → T → Prop) (h0 : I 0 s) (hs : ∀ (i : Nat) (h : i < xs.length) (s : T), I i s → ∃ s', step s xs[i] = .ok (.nx s') ∧ I (i + 1) s')
    (hP : ∀ s', I xs.length s' → P (k s')) : P (forR step k xs s) := by
  obtain ⟨s', h1, h2⟩ := forR_run (step := step) (k := k) xs s I h0 hs
  rw [h2]
  exact hP s' h1
theorem szR_nil : szR ([] : List α) = .ok [] := if_pos (Nat.zero_le _)
theorem forR_fold {step : T → α → R (Fl T ρ)} {k : T → R (Fl S ρ)} (f : T → α → T) : ∀ (xs : List α) (s : T), (∀ s x, x ∈ xs → step s x = .ok (.nx (f s x))) → forR step k xs s = k (xs.foldl f s)
  | [], s, _ => rfl
  | x :: r, s, h => by
    show (step s x).bind _ = _
    rw [h s x (by simp)]
    exact forR_fold f r (f s x) fun s y hy => h s y (by simp [hy])
theorem forR_cons (step : T → α → R (Fl T ρ)) (k : T → R (Fl S ρ)) (x : α) (r : List α) (s : T) : forR step k (x :: r) s = (step s x).bind fun
    | .nx s' => forR step k r s'
    | .bk s' => k s'
    | .rt v => .ok (.rt v) := rfl
/-- a comprehension that runs through -/
theorem lcR_ok {ft : α → R Bool} {fe : α → R β} {xs : List α} (p : α → Bool) (g : α → β) (hz : xs.length ≤ 1000000) (ht : ∀ x ∈ xs, ft x = .ok (p x)) (he : ∀ x ∈ xs, p x = true → fe x = .ok (g x)) : lcR ft fe xs = .ok ((xs.filter p).map g) := by
  unfold lcR
  rw [szR_ok hz, R.ok_bind]
  clear hz
  induction xs with
  | nil => rfl
  | cons x r ih =>
    have ih' := ih (fun y hy => ht y (by simp [hy])) fun y hy => he y (by simp [hy])
    show ((ft x).pu.bind _) = _
    rw [ht x (by simp), R.ok_pu, R.ok_bind]
    cases hp : p x with
    | false =>
      rw [if_neg Bool.false_ne_true, ih', List.filter_cons, if_neg (by rw [hp]; decide)]
    | true =>
      rw [if_pos rfl, he x (by simp) hp, R.ok_pu, R.ok_bind, ih', List.filter_cons, if_pos hp]
      rfl
theorem lcR_map {fe : α → R β} {xs : List α} (g : α → β) (hz : xs.length ≤ 1000000) (he : ∀ x ∈ xs, fe x = .ok (g x)) : lcR (fun _ => .ok true) fe xs = .ok (xs.map g) := by
  rw [lcR_ok (fun _ => true) g hz (fun _ _ => rfl) fun x hx _ => he x hx, List.filter_eq_self.mpr fun _ _ => rfl]
/-! ### ranges, items -/
theorem mem_seqI {lo x : Int} {n : Nat} : x ∈ seqI lo n ↔ lo ≤ x ∧ x < lo + (n : Int) := by
  unfold seqI
  rw [List.mem_map]
  constructor
  · rintro ⟨i, hi, rfl⟩
    have := List.mem_range.mp hi
    omega
  · rintro ⟨h1, h2⟩
    exact ⟨(x - lo).toNat, List.mem_range.mpr (by omega), by omega⟩
theorem seqI_at {lo : Int} {n i : Nat} (h : i < (seqI lo n).length) : (seqI lo n)[i] = lo + (i : Int) := by
  have e := seqI_get lo n i
  rw [List.getElem?_eq_getElem h, if_pos (by rw [seqI_len] at h; exact h)] at e
  exact Option.some.inj e
theorem seqI_succ (lo : Int) (n : Nat) : seqI lo (n + 1) = seqI lo n ++ [lo + (n : Int)] := by
  unfold seqI
  rw [List.range_succ, List.map_append]
  rfl
theorem rng1_ok {n : Int} (h : n < 2 ^ 62) (h' : -(2 ^ 62) ≤ n) : rng1R n = .ok (seqI 0 n.toNat) := if_pos ⟨h', h⟩
theorem rng1_nat {n : Nat} (h : n ≤ 1000000) : rng1R (n : Int) = .ok (seqI 0 n) := by
  rw [rng1_ok (by omega) (by omega)]
  rfl
theorem rng2_ok {a b : Int} (h : -1000000 ≤ a ∧ a ≤ 1000000 ∧ -1000000 ≤ b ∧ b ≤ 1000000) : rng2R a b = .ok (seqI a (b - a).toNat) := if_pos (by omega)
theorem ixN_ok {n : Nat} {i : Int} (h : 0 ≤ i) (h' : i < n) : ixN n i = some i.toNat := by
  unfold ixN
  rw [if_pos h, if_pos h']
theorem idxR_ok {xs : List α} {i : Int} (h : 0 ≤ i) (h' : i < xs.length) : idxR xs i = .ok (xs[i.toNat]'(by omega)) := by
  unfold idxR atI
  rw [ixN_ok h h', Option.bind_some, List.getElem?_eq_getElem (by omega)]
theorem idxR_nat {xs : List α} {i : Nat} (h : i < xs.length) : idxR xs (i : Int) = .ok xs[i] := by
  rw [idxR_ok (by omega) (by omega)]
  rfl
theorem idxR_of {xs : List α} {i : Int} {a : α} (h : 0 ≤ i) (e : xs[i.toNat]? = some a) : idxR xs i = .ok a := by
  obtain ⟨hl, e'⟩ := List.getElem?_eq_some_iff.mp e
  rw [idxR_ok h (by omega), e']
theorem setR_ok {xs : List α} {i : Int} {a : α} (h : 0 ≤ i) (h' : i < xs.length) : setR xs i a = .ok (xs.set i.toNat a) := by
  unfold setR
  rw [ixN_ok h h']
/-! ### numbers -/
theorem modR_ok {a b : Int} (h : 0 < b) : modR a b = .ok (a % b) := if_pos h
theorem divR_ok {a b : Int} (h : 0 < b) (h' : b < 2 ^ 64) : divR a b = .ok (a / b) := if_pos ⟨h, by
  have h1 : b.natAbs < 2 ^ 64 := by omega
  have h2 := PySem.Flt.log2_lt_of (by decide) h1
  omega⟩
theorem divR_big {a b : Int} {n : Nat} (h : 0 < b) (h' : b.natAbs < 2 ^ n) (h0 : 0 < n) (h9 : n ≤ 9000) : divR a b = .ok (a / b) := if_pos (wide_div (i := a) h h' h0 h9)
theorem bits_le {x : Int} {n : Nat} (h : x.natAbs < 2 ^ n) (h0 : 0 < n) : Builtin.Int.intBits x ≤ n := by
  have := PySem.Flt.log2_lt_of h0 h
  unfold Builtin.Int.intBits
  split <;> omega
theorem mulR_big {a b : Int} {n m : Nat} (ha : a.natAbs < 2 ^ n) (hb : b.natAbs < 2 ^ m) (hn : 0 < n) (hm : 0 < m) (h : n + m ≤ 134217728) : mulR a b = .ok (a * b) := if_pos (by
  have h1 := bits_le ha hn
  have h2 := bits_le hb hm
  omega)
theorem mulR_ok {a b : Int} (ha : -(2 ^ 64) < a ∧ a < 2 ^ 64) (hb : -(2 ^ 64) < b ∧ b < 2 ^ 64) : mulR a b = .ok (a * b) := mulR_big (n := 64) (m := 64) (by omega) (by omega) (by decide) (by decide) (by decide)
theorem shlR_ok {a b : Int} (ha : -(2 ^ 64) < a ∧ a < 2 ^ 64) (hb : 0 ≤ b ∧ b ≤ 1000000) : shlR a b = .ok (a * 2 ^ b.toNat) := if_pos ⟨hb.1, by
  have h1 := bits_le (x := a) (n := 64) (by omega) (by decide)
  omega⟩
theorem shrR_ok {a b : Int} (hb : 0 ≤ b) : shrR a b = .ok (a / 2 ^ b.toNat) := if_pos hb
/-! ### equality of data -/
/-- data whose == is equality -/
class Eqd (α : Type) [Enc α] where
  n : Nat
  nd : ∀ a : α, (toD a).nd = true
  lay : ∀ a : α, (toD a).py.canLay0 = true
  dp : ∀ a : α, (toD a).py.depth ≤ n
  ev : ∀ a b : α, PyData.eqv (toD a).py (toD b).py = true ↔ a = b
theorem eqR_eq [Enc α] [q : Eqd α] [DecidableEq α] (a b : α) (h : q.n ≤ 64 := by decide) : eqR a b = .ok (decide (a = b)) := by
  unfold eqR
  have sh : ∀ a : α, SeqAt.shaped (toD a).py = true := fun a => by
    unfold SeqAt.shaped
    rw [Eqd.lay a, Bool.true_and]
    exact decide_eq_true (Nat.le_trans (Eqd.dp a) h)
  rw [if_pos ⟨Eqd.nd a, Eqd.nd b, sh a, sh b⟩]
  congr 1
  by_cases e : a = b
  · rw [decide_eq_true e, (Eqd.ev a b).mpr e]
  · rw [decide_eq_false e]
    cases q : PyData.eqv (toD a).py (toD b).py with
    | false => rfl
    | true => exact absurd ((Eqd.ev a b).mp q) e
instance : Eqd Int := ⟨0, fun _ => rfl, fun _ => rfl, fun _ => Nat.le_refl _, fun a b => by show (a == b) = true ↔ _; simp⟩
instance : Eqd Bool := ⟨0, fun _ => rfl, fun _ => rfl, fun _ => Nat.le_refl _, fun a b => by show (a == b) = true ↔ _; simp⟩
section
variable [Enc α] [q : Eqd α]
theorem eqd_ndA : ∀ xs : List α, Dt.ndA (xs.map toD) = true
  | [] => rfl
  | x :: r => by
    show (Dt.nd (toD x) && Dt.ndA (r.map toD)) = true
    rw [Eqd.nd x, eqd_ndA r]
    rfl
theorem eqd_layA : ∀ xs : List α, PyData.canLayAll0 (Dt.pyA (xs.map toD)) = true
  | [] => rfl
  | x :: r => by
    show (PyData.canLay0 (toD x).py && PyData.canLayAll0 (Dt.pyA (r.map toD))) = true
    rw [Eqd.lay x, eqd_layA r]
    rfl
theorem eqd_dpA : ∀ xs : List α, PyData.depthAll (Dt.pyA (xs.map toD)) ≤ q.n
  | [] => Nat.zero_le _
  | x :: r => by
    show max (PyData.depth (toD x).py) (PyData.depthAll (Dt.pyA (r.map toD))) ≤ _
    exact Nat.max_le.mpr ⟨Eqd.dp x, eqd_dpA r⟩
theorem eqd_evA : ∀ xs ys : List α, PyData.eqvAll (Dt.pyA (xs.map toD)) (Dt.pyA (ys.map toD)) = true ↔ xs = ys
  | [], [] => by simp [Dt.pyA, PyData.eqvAll]
  | [], _ :: _ => by simp [Dt.pyA, PyData.eqvAll]
  | _ :: _, [] => by simp [Dt.pyA, PyData.eqvAll]
  | x :: xs, y :: ys => by
    show (PyData.eqv (toD x).py (toD y).py && PyData.eqvAll (Dt.pyA (xs.map toD)) (Dt.pyA (ys.map toD))) = true ↔ _
    rw [Bool.and_eq_true, Eqd.ev x y, eqd_evA xs ys]
    simp
instance : Eqd (List α) := ⟨q.n + 1, fun xs => eqd_ndA xs, fun xs => eqd_layA xs, fun xs => by
  show PyData.depthAll (Dt.pyA (xs.map toD)) + 1 ≤ _
  exact Nat.succ_le_succ (eqd_dpA xs), fun xs ys => eqd_evA xs ys⟩
theorem eqv_none_l {d : PyData} (h : d ≠ .none) : PyData.eqv .none d = false := by cases d <;> first | rfl | exact absurd rfl h
theorem eqv_none_r {d : PyData} (h : d ≠ .none) : PyData.eqv d .none = false := by cases d <;> first | rfl | exact absurd rfl h
theorem py_non {d : Dt} (h : d.py = .none) : d = .non := by cases d <;> first | rfl | exact absurd h (fun z => nomatch z)
instance [NN α] : Eqd (Option α) := ⟨q.n, fun o => match o with
  | none => rfl
  | some a => Eqd.nd (α := α) a, fun o => match o with
  | none => rfl
  | some a => Eqd.lay (α := α) a, fun o => match o with
  | none => Nat.zero_le _
  | some a => Eqd.dp (α := α) a, fun a b => by
  have ne : ∀ a : α, (toD a).py ≠ .none := fun a h => NN.nn a (py_non h)
  cases a with
  | none =>
    cases b with
    | none => simp [PyData.eqv, toD, Enc.toD, Dt.py]
    | some b =>
      show PyData.eqv .none (toD b).py = true ↔ _
      rw [eqv_none_l (ne b)]
      simp
  | some a =>
    cases b with
    | none =>
      show PyData.eqv (toD a).py .none = true ↔ _
      rw [eqv_none_r (ne a)]
      simp
    | some b =>
      show PyData.eqv (toD a).py (toD b).py = true ↔ _
      rw [Eqd.ev a b]
      simp⟩
variable [Enc β] [p : Eqd β] [Enc γ] [o : Eqd γ]
instance : Eqd (α × β) := ⟨q.n + p.n + 1, fun a => by
    show (Dt.nd (toD a.1) && (Dt.nd (toD a.2) && true)) = true
    rw [Eqd.nd, Eqd.nd]
    rfl, fun a => by
    show (PyData.canLay0 (toD a.1).py && (PyData.canLay0 (toD a.2).py && true)) = true
    rw [Eqd.lay, Eqd.lay]
    rfl, fun a => by
    show max (toD a.1).py.depth (max (toD a.2).py.depth 0) + 1 ≤ _
    have h1 := Eqd.dp a.1
    have h2 := Eqd.dp a.2
    omega, fun a b => by
    show (PyData.eqv (toD a.1).py (toD b.1).py && (PyData.eqv (toD a.2).py (toD b.2).py && true)) = true ↔ _
    rw [Bool.and_true, Bool.and_eq_true, Eqd.ev, Eqd.ev]
    exact Prod.ext_iff.symm⟩
instance : Eqd (T3 α β γ) := ⟨q.n + p.n + o.n + 1, fun a => by
    show (Dt.nd (toD a.a) && (Dt.nd (toD a.b) && (Dt.nd (toD a.c) && true))) = true
    rw [Eqd.nd, Eqd.nd, Eqd.nd]
    rfl, fun a => by
    show (PyData.canLay0 (toD a.a).py && (PyData.canLay0 (toD a.b).py && (PyData.canLay0 (toD a.c).py && true))) = true
    rw [Eqd.lay, Eqd.lay, Eqd.lay]
    rfl, fun a => by
    show max (toD a.a).py.depth (max (toD a.b).py.depth (max (toD a.c).py.depth 0)) + 1 ≤ _
    have h1 := Eqd.dp a.a
    have h2 := Eqd.dp a.b
    have h3 := Eqd.dp a.c
    omega, fun a b => by
    show (PyData.eqv (toD a.a).py (toD b.a).py && (PyData.eqv (toD a.b).py (toD b.b).py && (PyData.eqv (toD a.c).py (toD b.c).py && true))) = true ↔ _
    rw [Bool.and_true, Bool.and_eq_true, Bool.and_eq_true, Eqd.ev, Eqd.ev, Eqd.ev]
    cases a
    cases b
    simp⟩
end
/-! ### sorted -/
theorem leD_int (a b : Int) : leD a b = decide (a ≤ b) := by
  show PySem.W.dataLe false (fun x : Int => PyData.int x) a b = _
  rw [PySem.W.dataLe_int (fun x : Int => x)]
theorem leD_ii (p q : Int × Int) : leD p q = decide (p.1 < q.1 ∨ (p.1 = q.1 ∧ p.2 ≤ q.2)) := by
  show PySem.W.dataLe false (fun x : Int × Int => PyData.tuple [.int x.1, .int x.2]) p q = _
  rw [PySem.W.dataLe_ii (fun x : Int × Int => x.1) (fun x : Int × Int => x.2)]
theorem sortR_ok [Enc α] {xs : List α} (h : xs.length ≤ 1000000) : sortR xs = .ok (xs.mergeSort leD) := by
  unfold sortR
  rw [szR_ok h]
  rfl
end Kr

/-! KrR: ranks, rests, choices: plain lists. -/
namespace Kr
open PySem PySem.Spec PyProof.Rows L2
open Enc (toD)
variable {α β T ρ S : Type}
/-! ### loops that fill a list -/
theorem forR_fm {step : List β → α → R (Fl (List β) ρ)} {k : List β → R (Fl S ρ)} (f : α → Option β) : ∀ (xs : List α) (s0 : List β), s0.length + xs.length ≤ 1000000 → (∀ s x, x ∈ xs → s.length < 1000000 → step s x = .ok (.nx (s ++ (f x).toList))) →
    forR step k xs s0 = k (s0 ++ xs.filterMap f)
  | [], s0, _, _ => by
    rw [List.filterMap_nil, List.append_nil]
    rfl
  | x :: r, s0, hz, h => by
    rw [List.length_cons] at hz
    rw [forR_cons, h s0 x (by simp) (by omega), R.ok_bind]
    show forR step k r (s0 ++ (f x).toList) = _
    rw [forR_fm f r _ (by
      rw [List.length_append]
      have : (f x).toList.length ≤ 1 := by cases f x <;> simp
      omega) fun s y hy => h s y (by simp [hy])]
    cases e : f x with
    | none =>
      rw [List.filterMap_cons_none e]
      simp
    | some y =>
      rw [List.filterMap_cons_some e]
      simp
theorem forR_map {step : List β → α → R (Fl (List β) ρ)} {k : List β → R (Fl S ρ)} (g : α → β) (xs : List α) (s0 : List β) (hz : s0.length + xs.length ≤ 1000000) (h : ∀ s x, x ∈ xs → s.length < 1000000 → step s x = .ok (.nx (s ++ [g x]))) :
    forR step k xs s0 = k (s0 ++ xs.map g) := by
  rw [forR_fm (fun x => some (g x)) xs s0 hz fun s x hx hl => by rw [h s x hx hl]; rfl, List.filterMap_eq_map']
theorem szR_snoc {s : List β} {y : β} (h : s.length < 1000000) : szR (s ++ [y]) = .ok (s ++ [y]) := szR_ok (by
  rw [List.length_append]
  simp
  omega)
/-! ### ranks -/
def gW (ws : List Int) (k : Int) : Int := ws.getD k.toNat 0
theorem idxR_gW {ws : List Int} {k : Int} (h : 0 ≤ k) (h' : k < ws.length) : idxR ws k = .ok (gW ws k) := by
  rw [idxR_ok h h']
  unfold gW
  rw [List.getD_eq_getElem?_getD, List.getElem?_eq_getElem (by omega)]
  rfl
/-- a has a better rank than b -/
def bf (ws : List Int) (a b : Int) : Prop := gW ws b < gW ws a ∨ (gW ws a = gW ws b ∧ a < b)
instance (ws : List Int) (a b : Int) : Decidable (bf ws a b) := by unfold bf; exact inferInstance
def rk (ws : List Int) : List Int := (((seqI 0 ws.length).map fun k => (-(gW ws k), k)).mergeSort leD).map (·.2)
theorem leD_trans (a b c : Int × Int) (h : leD a b = true) (h' : leD b c = true) : leD a c = true := by
  rw [leD_ii, decide_eq_true_eq] at *
  omega
theorem leD_total (a b : Int × Int) : (leD a b || leD b a) = true := by
  rw [leD_ii, leD_ii, Bool.or_eq_true, decide_eq_true_eq, decide_eq_true_eq]
  omega
theorem seqI_nodup (lo : Int) (n : Nat) : (seqI lo n).Nodup := by
  unfold seqI
  exact List.Pairwise.map _ (fun a b h e => h (by omega)) List.nodup_range
theorem rk_perm (ws : List Int) : (rk ws).Perm (seqI 0 ws.length) := by
  have h := (List.mergeSort_perm ((seqI 0 ws.length).map fun k => (-(gW ws k), k)) leD).map (·.2)
  rw [List.map_map] at h
  have e : ((fun x : Int × Int => x.2) ∘ fun k => (-(gW ws k), k)) = id := rfl
  rw [e, List.map_id] at h
  exact h
theorem rk_len (ws : List Int) : (rk ws).length = ws.length := by rw [(rk_perm ws).length_eq, seqI_len]
theorem rk_nodup (ws : List Int) : (rk ws).Nodup := (rk_perm ws).nodup_iff.mpr (seqI_nodup 0 _)
theorem rk_mem (ws : List Int) (k : Int) : k ∈ rk ws ↔ 0 ≤ k ∧ k < ws.length := by
  rw [(rk_perm ws).mem_iff, mem_seqI]
  omega
theorem rk_sorted (ws : List Int) : (rk ws).Pairwise (bf ws) := by
  have h := List.pairwise_mergeSort leD_trans leD_total ((seqI 0 ws.length).map fun k => (-(gW ws k), k))
  have hn := rk_nodup ws
  unfold rk at hn ⊢
  rw [List.pairwise_map]
  rw [List.Nodup, List.pairwise_map] at hn
  have hm : ∀ p ∈ ((seqI 0 ws.length).map fun k => (-(gW ws k), k)).mergeSort leD, p.1 = -(gW ws p.2) := fun p hp => by
    obtain ⟨k, _, rfl⟩ := List.mem_map.mp ((List.mergeSort_perm _ _).mem_iff.mp hp)
    rfl
  refine List.Pairwise.imp_of_mem ?_ (h.and hn)
  intro p q hp hq ⟨h1, h2⟩
  rw [leD_ii, decide_eq_true_eq, hm p hp, hm q hq] at h1
  unfold bf
  omega
theorem bf_asymm {ws : List Int} {a b : Int} (h : bf ws a b) (h' : bf ws b a) : False := by
  unfold bf at *
  omega
/-- the next rank: the best of those that have none yet -/
theorem rk_next {ws : List Int} {i : Nat} (hi : i < ws.length) {b : Int} (hb : 0 ≤ b ∧ b < ws.length) (hn : b ∉ (rk ws).take i) (hbest : ∀ k : Int, 0 ≤ k → k < ws.length → k ∉ (rk ws).take i → k = b ∨ bf ws b k) : (rk ws)[i]? = some b := by
  have hl := rk_len ws
  have hi' : i < (rk ws).length := by omega
  have hsplit := List.take_append_drop i (rk ws)
  rw [List.getElem?_eq_getElem hi']
  congr 1
  have hbm : b ∈ (rk ws).drop i := by
    have := (rk_mem ws b).mpr hb
    rw [← hsplit] at this
    exact (List.mem_append.mp this).resolve_left hn
  have hd : (rk ws).drop i = (rk ws)[i] :: (rk ws).drop (i + 1) := List.drop_eq_getElem_cons hi'
  have hs := rk_sorted ws
  rw [← hsplit, List.pairwise_append] at hs
  have hnd := rk_nodup ws
  rw [← hsplit, List.nodup_append] at hnd
  have hnt : (rk ws)[i] ∉ (rk ws).take i := fun hm => hnd.2.2 _ hm (rk ws)[i] (by rw [hd]; exact List.mem_cons_self ..) rfl
  have hr := (rk_mem ws (rk ws)[i]).mp (List.getElem_mem hi')
  rcases hbest _ hr.1 hr.2 hnt with e | hbf
  · exact e
  · rw [hd] at hbm hs
    rcases List.mem_cons.mp hbm with e | hm
    · exact e.symm
    · exact (bf_asymm hbf ((List.pairwise_cons.mp hs.2.1).1 b hm)).elim
/-! ### rests -/
def suf : List Int → List Int
  | [] => [0]
  | w :: r => (w :: r).sum :: suf r
def rkW (ws : List Int) : List Int := (rk ws).map (gW ws)
theorem suf_len : ∀ l : List Int, (suf l).length = l.length + 1
  | [] => rfl
  | w :: r => by
    show (suf r).length + 1 = _
    rw [suf_len r]
    rfl
theorem suf_head : ∀ l : List Int, (suf l)[0]? = some l.sum
  | [] => rfl
  | w :: r => rfl
theorem sum_perm {l l' : List Int} (h : l.Perm l') : l.sum = l'.sum := by
  induction h with
  | nil => rfl
  | cons x _ ih => rw [List.sum_cons, List.sum_cons, ih]
  | swap x y l => simp only [List.sum_cons]; omega
  | trans _ _ h1 h2 => rw [h1, h2]
theorem map_gW (ws : List Int) : (seqI 0 ws.length).map (gW ws) = ws := by
  apply List.ext_getElem
  · rw [List.length_map, seqI_len]
  · intro i h1 h2
    rw [List.getElem_map, seqI_at (by rw [List.length_map] at h1; exact h1)]
    unfold gW
    rw [List.getD_eq_getElem?_getD, show ((0 : Int) + (i : Int)).toNat = i by omega, List.getElem?_eq_getElem h2]
    rfl
theorem sum_rkW (ws : List Int) : (rkW ws).sum = ws.sum := by
  have h := sum_perm ((rk_perm ws).map (gW ws))
  rw [map_gW] at h
  exact h
theorem rkW_at {ws : List Int} {i : Nat} (h : i < (rkW ws).length) (h' : i < (rk ws).length) : (rkW ws)[i] = gW ws (rk ws)[i] := List.getElem_map (gW ws)
def sums (ws : List Int) : List Int := suf (rkW ws)
theorem rkW_len (ws : List Int) : (rkW ws).length = ws.length := by
  unfold rkW
  rw [List.length_map, rk_len]
theorem sums_len (ws : List Int) : (sums ws).length = ws.length + 1 := by
  unfold sums
  rw [suf_len, rkW_len]
/-! ### choices -/
abbrev Stg := T3 Int Int Int
abbrev Cho := T3 Int Int (Option Stg)
/-- the choice a of a stage, if it is one -/
def item (sm : List Int) (lim : Int) (st : Stg) (a : Int) : Option Cho :=
  if (st.a = lim ∧ a = (sm.length : Int) - 1 - st.b) ∨ (st.a ≠ lim ∧ (0 < st.a ∨ a = 0)) then
    (if st.b + a = (sm.length : Int) - 1 then some ⟨a, 0, none⟩ else if a < st.c then some ⟨a, gW sm (st.b + a), some ⟨st.a + 1, st.b + a, min (2 * (st.c - a)) ((sm.length : Int) - 1 - st.b - a)⟩⟩ else none)
  else none
def chs (sm : List Int) (lim : Int) (st : Stg) : List Cho := (seqI 0 (min st.c ((sm.length : Int) - 1 - st.b) + 1).toNat).filterMap (item sm lim st)
theorem fm_none (f : Int → Option β) (lo : Int) (n : Nat) (h : ∀ x, lo ≤ x → x < lo + n → f x = none) : (seqI lo n).filterMap f = [] := List.filterMap_eq_nil_iff.mpr fun x hx => h x (mem_seqI.mp hx).1 (mem_seqI.mp hx).2
theorem seqI_split (lo : Int) (n m : Nat) : seqI lo (n + m) = seqI lo n ++ seqI (lo + n) m := by
  induction m with
  | zero => simp [seqI]
  | succ m ih => rw [← Nat.add_assoc, seqI_succ, ih, seqI_succ, List.append_assoc, show lo + ((n + m : Nat) : Int) = lo + n + (m : Int) by omega]
/-- the program's walk: from first to last -/
theorem chs_by (sm : List Int) (lim : Int) (st : Stg) (h0 : 0 ≤ st.a) (hl : st.a ≤ lim) (hl1 : 1 ≤ lim) (hm : 0 ≤ st.b ∧ st.b < (sm.length : Int) - 1) (hc : 1 ≤ st.c) :
    chs sm lim st = (seqI (if st.a = lim then (sm.length : Int) - 1 - st.b else 0) ((if st.a = 0 then 0 else min st.c ((sm.length : Int) - 1 - st.b)) + 1 - (if st.a = lim then (sm.length : Int) - 1 - st.b else 0)).toNat).filterMap (item sm lim st) := by
  unfold chs
  by_cases e1 : st.a = lim
  · rw [if_pos e1, if_neg (show ¬ st.a = 0 by omega)]
    have hno : ∀ x, x ≠ (sm.length : Int) - 1 - st.b → item sm lim st x = none := fun x hx => by
      unfold item
      rw [if_neg (by omega)]
    by_cases e2 : (sm.length : Int) - 1 - st.b ≤ st.c
    · rw [Int.min_eq_right e2, show ((sm.length : Int) - 1 - st.b + 1).toNat = ((sm.length : Int) - 1 - st.b).toNat + 1 by omega, seqI_split, List.filterMap_append, fm_none _ _ _ (fun x h1 h2 => hno x (by omega)), List.nil_append,
        show ((sm.length : Int) - 1 - st.b + 1 - ((sm.length : Int) - 1 - st.b)).toNat = 1 by omega, show (0 : Int) + (((sm.length : Int) - 1 - st.b).toNat : Int) = (sm.length : Int) - 1 - st.b by omega]
    · rw [Int.min_eq_left (by omega), show (st.c + 1 - ((sm.length : Int) - 1 - st.b)).toNat = 0 by omega, fm_none _ _ _ (fun x h1 h2 => hno x (by omega))]
      rfl
  · rw [if_neg e1]
    by_cases e3 : st.a = 0
    · rw [if_pos e3]
      have hno : ∀ x, x ≠ 0 → item sm lim st x = none := fun x hx => by
        unfold item
        rw [if_neg (by omega)]
      rw [show (min st.c ((sm.length : Int) - 1 - st.b) + 1).toNat = 1 + (min st.c ((sm.length : Int) - 1 - st.b)).toNat by omega, seqI_split, List.filterMap_append, fm_none _ ((0 : Int) + ((1 : Nat) : Int)) _ (fun x h1 h2 => hno x (by omega)), List.append_nil]
      rfl
    · rw [if_neg e3, Int.sub_zero]
end Kr

/-! KrX: methods that begin with super().__init__(..). -/
namespace Kr
open PySem PySem.Spec PyProof.Rows L2 NdefX
section
variable {CX : CXT} {P : Program} {w : World} {K : PySem.W.Frag} {mg : Str → Option Value} {base : Heap} {k : Nat} {f cc cda D : Addr} {name qual : Str} {params : Arguments} {body : List Stmt} {scope : Scope} {dV kV doc pm ct oc cl : Value} {an od cld : Option Addr} {osl csl : Array (Option Value)} {N ps : List Str} {sp : Sp}
theorem fn_sup (lk : K.lookup f = some ⟨oc, od, .func (PySem.W.ksFn name qual params body scope dV kV doc pm an (.ref cda) ct cc), osl⟩) (hcd : PySem.W.codeIn K (.ref cda) qual = true)
    (hcc : K.lookup cc = some ⟨cl, cld, .cell (some (.ref D)), csl⟩) (S : NScope N ps ["__class__"] scope) (len : ∀ vs H Q E, sp vs H Q E → vs.length = ps.length)
    (hbody : ∀ (A : Around) (outer : List Env) (s s1 : Shared) (H : Hp) (vs : List V) (Q : VK) (E : XK), Room k (A.deeper (envF ⟨name, qual, params, body, scope, [("__class__", cc)], cda⟩ f s.heap.objs.size)) → sp vs H Q E →
      Inv (ncx CX P w K mg base N ⟨name, qual, params, body, scope, [("__class__", cc)], cda⟩ f A outer s H E) [] (startF N vs [none]) H s1 →
      _root_.PySem.wpAt (model P w) (A.deeper (envF ⟨name, qual, params, body, scope, [("__class__", cc)], cda⟩ f s.heap.objs.size)) (.func body (envF ⟨name, qual, params, body, scope, [("__class__", cc)], cda⟩ f s.heap.objs.size)) (execs body (envF ⟨name, qual, params, body, scope, [("__class__", cc)], cda⟩ f s.heap.objs.size))
        (L2.SP (ncx CX P w K mg base N ⟨name, qual, params, body, scope, [("__class__", cc)], cda⟩ f A outer s H E) [] { nx := fun _ H' => Q .non H', rt := Q }) (ncx CX P w K mg base N ⟨name, qual, params, body, scope, [("__class__", cc)], cda⟩ f A outer s H E).xe s1) :
    FnOk P w K mg base CX (k + 1) f (PySem.W.ksFn name qual params body scope dV kV doc pm an (.ref cda) ct cc) ps sp := by
  refine ⟨len, fun A outer s H args us vs Q E hr e0 hb r hsp => ?_⟩
  have hl := len _ _ _ _ hsp
  have lim : s.heap.NoLimit := e0.mod.nolimit.keeps fun b o e => (e0.bs b o e).1
  have KX : K.In s.heap := e0.mod.kin.keeps fun b o e => (e0.bs b o e).1
  have C : CellsAt [("__class__", cc)] ["__class__"] [none] s.heap H := by
    have one : ∀ (y : Str) (c : Addr), ([("__class__", cc)] : List (Str × Addr)).lookup y = some c → y = "__class__" ∧ c = cc := fun y c e => by
      by_cases hy : y = "__class__"
      · subst hy
        exact ⟨rfl, (Option.some.inj e).symm⟩
      · have : ([("__class__", cc)] : List (Str × Addr)).lookup y = none := by
          have hb : (y == ("__class__" : Str)) = false := beq_eq_false_iff_ne.mpr hy
          show (match y == ("__class__" : Str) with | true => some cc | false => List.lookup y []) = none
          rw [hb]
          rfl
        rw [this] at e
        cases e
    have at' := e0.bs _ _ (e0.mod.kin _ _ hcc)
    refine ⟨rfl, fun y c e => ?_, fun x y c e e' => (one x c e).1.trans (one y c e').1.symm, fun i y e => ?_⟩
    · obtain ⟨_, rfl⟩ := one y c e
      exact ⟨at'.2, _, _, at'.1, rfl⟩
    · cases i with
      | zero =>
        cases e
        exact ⟨cc, rfl, fun v h => nomatch h⟩
      | succ i => simp at e
  refine PySem.ks_codeAny_call_defAt (fd := PySem.W.ksFn name qual params body scope dV kV doc pm an (.ref cda) ct cc) (body := body) (binds := ps.zip us) hr.depth (KX _ _ lk) rfl lim (PySem.W.codeRec_of KX hcd) rfl hb S.nocell (fun ⟨n, _⟩ hy => S.par n (List.of_mem_zip hy).1) (fun h₁ hns kp => ?_) S.co S.gen S.kind
  have I := inv_startN (CX := CX) (F := ⟨name, qual, params, body, scope, [("__class__", cc)], cda⟩) (f := f) (E := E) (tk := s.toks + (ps.zip us).length) S hr.hd e0 hl r C hns kp
  refine PySem.ks_wpAt_mono (hbody A outer s _ H vs Q E (hr.deeper _) hsp I) (fun fl s' hs => ?_) fun e s' hs => hs
  have fin : ∀ {σ' : L2.St} {H' : Hp} {v : V} {u : Value}, Inv (ncx CX P w K mg base N ⟨name, qual, params, body, scope, [("__class__", cc)], cda⟩ f A outer s H E) [] σ' H' s' → L2.RelV v u → Q v H' → CE outer P w H s Q u s' :=
    fun {σ' H' v u} J rv q => ⟨v, H', J.os, J.bare, J.base, J.hok, rv, q⟩
  cases fl with
  | ret u =>
    obtain ⟨v, σ', H', J, rv, q⟩ := hs
    exact fin J rv q
  | next =>
    obtain ⟨σ', H', J, q⟩ := hs
    exact fin (v := V.non) (u := Value.none) J rfl q
  | brk =>
    obtain ⟨_, _, _, q⟩ := hs
    exact False.elim q
  | cont =>
    obtain ⟨_, _, _, q⟩ := hs
    exact False.elim q
end
/-! ### the first statement: super().__init__(..) -/
/-- what the written part says of the method at f that says super() for a self of the class at C -/
structure SupF (K : PySem.W.Frag) (P : Program) (f cda cc D C : Addr) (me : Str) : Prop where
  fn : ∃ oc od osl fd ar, K.lookup f = some ⟨oc, od, .func fd, osl⟩ ∧ (fd.params.posonlyargs ++ fd.params.args).head? = some ar ∧ ar.arg = me
  code : ∃ ccl cdd vs ccs file tf, K.lookup cda = some ⟨ccl, cdd, .fields vs, ccs⟩ ∧ vs[2]? = some (.str file tf) ∧ ((P.main.file : Str) == file) = true
  cell : ∃ cl cld csl, K.lookup cc = some ⟨cl, cld, .cell (some (.ref D)), csl⟩
  cls : ∃ cd, PySem.W.clsIn K D = some cd
  sub : PySem.W.mroIn K C (.ref D) = some true
  top : (P.main.scope.names.lookup ("super" : Str)).isSome = false
theorem sup_first {X : Cx} {pins : List (Addr × Obj)} {σ : L2.St} {H : Hp} {s : Shared} (I : L2.Inv X pins σ H s) {body : List Stmt} {p0 p1 p2 p3 p4 : Pos} {args : List Expr} {f cda cc D C a : Addr} {ox : Obj} {me : Str} {pl : Sem Bool} {Q : Flow → Shared → Prop}
    (hfn : X.env.func = some f) (hco : X.env.code = .ref cda) (hcl : X.env.cells.lookup ("__class__" : Str) = some cc) (SF : SupF X.K X.prog f cda cc D C me) (hsuper : X.mg "super" = none)
    (ks : X.env.kindOf "super" = some .globalImplicit) (kc : X.env.kindOf "__class__" = some .free) (ka : X.env.kindOf me = some .local) (hN : X.N[0]? = some me) (hσ : σ[0]? = some (some (.ref a)))
    (ho : s.heap.get? a = some ox) (hcls : ox.cls = .ref C) (hnc : ∀ c, ox.data ≠ .cls c)
    (h : ∀ so s2, L2.Inv X pins σ H s2 → s2.heap.get? so = some (PySem.W.ks_superObj D a C) → (∀ b o, s.heap.get? b = some o → s2.heap.get? b = some o) →
      wpAny (model X.prog X.w) X.A (getMethod (.ref so) "__init__" pl) (fun fx s3 => wpAny (model X.prog X.w) X.A (callWith p3 fx.1 fx.2 (backTo p3 (starEach args X.env)) []) (fun _ s4 => Q .next s4) X.xe s3) X.xe s2)
    (he : eval (.Call (.Attribute (.Call (.Name "super" p0) [] [] p1) "__init__" p2) args [] p3) X.env = (do
      let ov ← attributeBase (.Call (.Name "super" p0) [] [] p1) "__init__" X.env (eval (.Call (.Name "super" p0) [] [] p1) X.env)
      standAt p2.atName
      let (f, first) ← holding [ov] (getMethod ov "__init__" pl)
      callWith p3 f first (backTo p3 (starEach args X.env)) []) := by rfl) :
    _root_.PySem.wpAt (model X.prog X.w) X.A (.func body X.env) (exec (.Expr (.Call (.Attribute (.Call (.Name "super" p0) [] [] p1) "__init__" p2) args [] p3) p4) X.env) Q X.xe s := by
  obtain ⟨oc, od, osl, fd, ar, lk, hp, rfl⟩ := SF.fn
  obtain ⟨ccl, cdd, vs, ccs, file, tf, hcode, hvs, hfile⟩ := SF.code
  obtain ⟨cl, cld, csl, hcell⟩ := SF.cell
  obtain ⟨cdD, hD⟩ := SF.cls
  have KX := I.kIn
  obtain ⟨oD, hD1, hD2⟩ : ∃ oD, s.heap.get? D = some oD ∧ oD.data = .cls cdD := by
    unfold PySem.W.clsIn at hD
    split at hD
    · rename_i c d cd' sl ho'
      cases hD
      exact ⟨_, KX _ _ ho', rfl⟩
    · cases hD
  obtain ⟨mb, b1, b2⟩ := I.mod.blt
  obtain ⟨m, hn, hl⟩ := I.loc
  refine PySem.ks_wpAt_Expr_any (PySem.ks_wpAt_MethodCall ?_ he) I.quiet
  refine PySem.ks_wpAt_super_base ks kc (by decide) hfn (KX _ _ lk) rfl hp hco (KX _ _ hcode) rfl hvs hfile SF.top ?_
  refine PySem.W.ks_loadName_global I.ok.kind ks (Calls.loadGlobal_builtin (by rw [I.ok.glob]; exact I.mod.glob.keeps I.bk) hsuper (by rw [I.ok.blt]; exact b1.keeps I.bk) ((b2 _ (by decide)).trans (by first | rfl | kernel_rfl)) ⟨rfl, ?_⟩)
  refine wpAny_loadName_free I.ok.kind kc hcl ⟨_, KX _ _ hcell, rfl⟩ ?_
  obtain ⟨u, ru, lu⟩ := hl 0 _ _ hN hσ (.inl ka)
  have hu : m ar.arg = some (.ref a) := by
    rcases lu with ⟨_, e⟩ | ⟨e, _⟩
    · rw [e]
      exact congrArg some ru
    · rw [ka] at e
      rcases e with e | e <;> cases e
  refine wpAny_loadName_local I.ok.kind ka hn hu ?_
  refine PySem.ks_wpAny_isType_cls hD1 hD2 ⟨rfl, ?_⟩
  refine PySem.ks_wpAny_call_super hD1 hD2 ho hcls hnc (PySem.W.looks_mroIn KX SF.sub) (fun h' e kp => ?_)
  exact h _ _ (I.kept (t' := s.toks) kp) e kp
/-! ### .. to a def of the program -/
section
variable {X : Cx} {pins : List (Addr × Obj)} {σ : L2.St} {H : Hp} {s : Shared} {so a C D f2 : Addr} {ox : Obj} {odx : Option Obj} {pos : Pos} {e : Expr} {es : List Expr} {ta : TA} {pl : Sem Bool}
theorem sup_own {CX : CXT} {k : Nat} {sp : Sp} {E : XK} {Q : VK} {Q' : Shared → Prop} (I : L2.Inv X pins σ H s) (hso : s.heap.get? so = some (PySem.W.ks_superObj D a C)) (J : PySem.W.InstAt s.heap a ox C odx)
    (hm : PySem.W.ks_superIn X.K C D "__init__" = some (some (.ref f2))) (ht : PySem.W.typeIn X.K (.ref f2) = some (.type "function")) (hth : PySem.W.nsIn X.K PySem.cStatics "thirdparty.any" = some none) (hf : PySem.W.fnIn X.K f2 = true)
    (F : FnR X.prog X.w X.K X.mg X.base CX k f2 sp) (hr : Room k X.A) (hx : Passes CX X E) (ha : PA X (e :: es) ta) (h : ta σ H fun vs H1 => sp (.ref a :: vs) H1 Q E) (hQ : ∀ v s4, L2.EP X pins σ Q v s4 → Q' s4)
    (hst : starEach (e :: es) X.env = (false, eval e X.env) :: starEach es X.env := by rfl) (hpl : (backTo pos (starEach es X.env)).any (·.1) = false := by rfl) :
    wpAny (model X.prog X.w) X.A (getMethod (.ref so) "__init__" pl) (fun fx s3 => wpAny (model X.prog X.w) X.A (callWith pos fx.1 fx.2 (backTo pos (starEach (e :: es) X.env)) []) (fun _ s4 => Q' s4) X.xe s3) X.xe s := by
  have KX := I.kIn
  cases hc : PySem.W.clsIn X.K C with
  | none =>
    unfold PySem.W.ks_superIn at hm
    rw [hc] at hm
    cases hm
  | some cd =>
    unfold PySem.W.ks_superIn at hm
    rw [hc] at hm
    obtain ⟨of, hof, hofc⟩ : ∃ of, s.heap.get? f2 = some of ∧ of.cls = .type "function" := by
      have ht' : (X.K.lookup f2).map (·.cls) = some (.type "function") := ht
      cases z : X.K.lookup f2 with
      | none =>
        rw [z] at ht'
        cases ht'
      | some of =>
        rw [z] at ht'
        exact ⟨of, KX _ _ z, Option.some.inj ht'⟩
    have mro : PySem.W.Looks (model X.prog X.w) s.heap (mroOf (.ref C)) cd.mro := fun A Q E s k q => wpAny_bind ((PySem.W.looks_clsIn KX hc) A _ E s k (wpAny_pure q))
    refine PySem.ks_wpAny_getMethod_super hso (PySem.W.looks_opaque KX hth) mro rfl KX hm hof hofc (PySem.W.ks_ne KX J hc) (by decide) ?_
    have I2 := ClX.met_new (g := f2) (C := a) I
    have hb := ClX.base_none I (Nat.le_refl s.heap.objs.size)
    refine ClX.callwith_cm I2 hb hf (L2.thn (ha.run pos _ _ σ H _ I2 h) fun us s1 ⟨vs, H1, I1, r, q⟩ => ⟨⟨ClX.pin_at I1, I1.kIn⟩, L2.thn (ClX.run_cm F hr hx I1 r q) hQ⟩) hst hpl
end
/-! ### .. to ValueError.__init__ -/
section
open PySem.W PySem.Calls
variable {prog : Program} {w : World} {A : Around} {E : Value → Shared → Prop} {h : Heap} {g : Array GenState} {d : Drawn} {t : Nat} {os : OsState}
variable {nm q : Str} {C N : Addr} {bs bm : List Value} {hdct : Bool} {sn : List Str} {sub : List Value} {ab : Bool} {col : Option Bool} {dd : Option Addr} {k0 k1 k2 k3 k5 : Option Value}
theorem call_mw {u x t0 : Addr} {more : List Value} {Q : Value → Shared → Prop}
    (hC : h.get? C = some (excClassObj nm q C N bs bm hdct sn sub ab col dd k0 k1 k2 k3 k5 "ValueError.__new__")) (hx : h.get? x = some ({ cls := .ref C, dict := none, data := .fields #[.ref t0, .none, .none, .none, .bool false, .none] } : Obj)) (hu : h.get? u = some (kxs_mw "ValueError.__init__" x)) (hz : more.length ≤ sizeLine)
    (hq : ∀ h' t1, (∀ b o, b ≠ x → h.get? b = some o → h'.get? b = some o) → h'.get? x = some ({ cls := .ref C, dict := none, data := .fields #[.ref t1, .none, .none, .none, .bool false, .none] } : Obj) → Q .none ⟨h', g, d, t, os⟩) :
    wpAny (model prog w) A (call (.ref u) more) Q E ⟨h, g, d, t, os⟩ := by
  refine wpAny_call (codeAny_of_tree ?_)
  show wpAny (model prog w) A.in1 (callAny (.ref u) ⟨more, []⟩) _ _ _
  unfold callAny
  refine wpAny_bind (wpAny_load hu ?_)
  have two : (Value.type "method-wrapper" == Value.type "method" || Value.type "method-wrapper" == Value.type "builtin_function_or_method" || Value.type "method-wrapper" == Value.type "method-wrapper") = true := by decide
  simp only [kxs_mw, two, if_true]
  refine PySem.W.KFB.if_so (by decide) ?_
  refine wpAny_bind (check_bound_init PySem.F.excBase_ValueError.toExcCallFacts hC hx rfl ?_)
  refine wpAny_bind (wpAny_pure (wpAny_pure ?_))
  refine ⟨plainId_quiet PySem.F.excBase_ValueError.init.plain _, codeAny_builtin PySem.F.excBase_ValueError.initEntry ?_⟩
  exact exc_init_tree (cls := .ref C) (t0 := t0) (dv := none) (c2 := .none) (c3 := .none) (b4 := .bool false) hx hz fun h' k' e' _ => hq h' _ k' e'
end
section
variable {X : Cx} {pins : List (Addr × Obj)} {σ : L2.St} {H : Hp} {s : Shared} {so a C D : Addr} {pos : Pos} {e : Expr} {es : List Expr} {ta : TA} {pl : Sem Bool}
theorem sup_ve {R : Hp → Prop} {Q' : Shared → Prop} (I : L2.Inv X pins σ H s) (hso : s.heap.get? so = some (PySem.W.ks_superObj D a C)) (T : OexC X.K C) (ea : H a = some (exo a C none))
    (hm : PySem.W.ks_superIn X.K C D "__init__" = some (some (.builtin "ValueError.__init__"))) (hB : PySem.W.subIn X.K (.ref C) (.type "ValueError") = some true) (hth : PySem.W.nsIn X.K PySem.cStatics "thirdparty.any" = some none)
    (ha : PA X (e :: es) ta) (h : ta σ H fun vs H1 => vs.length ≤ 1000 ∧ H1 a = some (exo a C none) ∧ R H1) (hQ : ∀ s4 H', L2.Inv X pins σ H' s4 → R H' → Q' s4)
    (hst : starEach (e :: es) X.env = (false, eval e X.env) :: starEach es X.env := by rfl) (hpl : (backTo pos (starEach es X.env)).any (·.1) = false := by rfl) :
    wpAny (model X.prog X.w) X.A (getMethod (.ref so) "__init__" pl) (fun fx s3 => wpAny (model X.prog X.w) X.A (callWith pos fx.1 fx.2 (backTo pos (starEach (e :: es) X.env)) []) (fun _ s4 => Q' s4) X.xe s3) X.xe s := by
  have KX := I.kIn
  obtain ⟨t1, hob⟩ := exo_at I.hok ea
  have J : PySem.W.InstAt s.heap a _ C none := ⟨hob, rfl, rfl, trivial⟩
  cases hc : PySem.W.clsIn X.K C with
  | none =>
    unfold PySem.W.ks_superIn at hm
    rw [hc] at hm
    cases hm
  | some cd =>
    unfold PySem.W.ks_superIn at hm
    rw [hc] at hm
    have mro : PySem.W.Looks (model X.prog X.w) s.heap (mroOf (.ref C)) cd.mro := fun A Q E s k q => wpAny_bind ((PySem.W.looks_clsIn KX hc) A _ E s k (wpAny_pure q))
    refine PySem.W.kxs_getMethod PySem.W.kxs_ValueError hso (PySem.W.looks_opaque KX hth) mro rfl KX hm (J.type.andThen (PySem.W.looks_subIn KX hB)) (PySem.W.ks_ne KX J hc) (by decide) ?_
    have I2 : L2.Inv X ((s.heap.objs.size, PySem.W.kxs_mw "ValueError.__init__" a) :: pins) σ H { s with heap := s.heap.push (PySem.W.kxs_mw "ValueError.__init__" a), toks := s.toks + 1 } :=
      ClX.pin_new I (fun _ _ z => Heap.get?_push_of_some _ z) (Nat.le_refl _) (Heap.get?_push_size s.heap rfl) (fun v z => nomatch z)
    rw [hst]
    refine PySem.W.kxs_callWith (i := "ValueError.__init__") (x := a) (by show (false || (backTo pos (starEach es X.env)).any (·.1)) = false; rw [hpl]; rfl) ?_
    have hrun := ha.run pos _ _ σ H _ I2 h
    rw [hst] at hrun
    refine PySem.Calls.evalArgs_plain (L2.thn hrun fun us s1 ⟨vs, H1, I1, r, hz, e1, q⟩ => ⟨ClX.pin_at I1, ?_⟩)
    obtain ⟨nm, qq, N, bs, bm, sn, sub, ab, col, dd, k0, k1, k2, k3, k5, hC, hbm⟩ := T.cls
    obtain ⟨t2, ho2⟩ := exo_at I1.hok e1
    have hu := ClX.pin_at I1
    have hus : us.length ≤ sizeLine := by
      rw [← Paired.length r, sizeLine_eq]
      omega
    obtain ⟨hh, g, dr, tk, os⟩ := s1
    refine call_mw (I1.kIn _ _ hC) ho2 hu hus fun h' t3 kp e3 => ?_
    have J1 := (ClX.unpin I1).write (t' := tk) (x := a) (e := a) (o := exo a C none) (by rw [e1]; exact True.intro) (.inl rfl) kp ⟨_, e3⟩ (exo_ok e3)
    have eu : upd H1 a (exo a C none) = H1 := by
      funext b
      by_cases hb : b = a
      · rw [hb, upd_same, e1]
      · rw [upd_ne hb]
    rw [eu] at J1
    exact hQ _ _ J1 q
end
/-! ### the error classes -/
/-- behind the making: the exception's dict -/
def h3 (H : Hp) (a C dx : Addr) (p : Int) (n : Str) : Hp := upd (upd (upd H dx (exd dx [("place", .int p)])) a (exo a C (some dx))) dx (exd dx [("name", .str n), ("place", .int p)])
/-- what the written part says of an error class C below the base class -/
structure KErr (K : PySem.W.Frag) (P : Program) (fK cdaK ccK DK C : Addr) : Prop where
  oex : OexC K C
  sf : SupF K P fK cdaK ccK DK C "self"
  up : PySem.W.ks_superIn K C DK "__init__" = some (some (.builtin "ValueError.__init__"))
  ve : PySem.W.subIn K (.ref C) (.type "ValueError") = some true
  np : PySem.W.findIn K (.ref C) "place" = some none
  nn : PySem.W.findIn K (.ref C) "name" = some none
def SpI (K : PySem.W.Frag) (P : Program) (fK cdaK ccK DK : Addr) : Sp := fun vs H Q _ => ∃ a C p n, vs = [.ref a, .int p, .str n] ∧ KErr K P fK cdaK ccK DK C ∧ H a = some (exo a C none) ∧ ∀ dx, H dx = none → dx ≠ a → Q .non (h3 H a C dx p n)
section
variable {CX : CXT} {P : Program} {w : World} {K : PySem.W.Frag} {mg : Str → Option Value} {base : Heap} {f cc cda D : Addr} {name qual : Str} {params : Arguments} {body rest : List Stmt} {scope : Scope} {dV kV doc pm ct oc cl : Value} {an od cld : Option Addr} {osl csl : Array (Option Value)} {x1 : Str} {p0 p1 p2 p3 p4 q0 q1 q2 q3 q4 q5 q6 q7 q8 : Pos} {pl : Sem Bool}
theorem ok_kinit (lk : K.lookup f = some ⟨oc, od, .func (PySem.W.ksFn name qual params body scope dV kV doc pm an (.ref cda) ct cc), osl⟩) (hcd : PySem.W.codeIn K (.ref cda) qual = true)
    (hcc : K.lookup cc = some ⟨cl, cld, .cell (some (.ref D)), csl⟩) (S : NScope ["self", "place", "name", "__class__"] ["self", "place", "name"] ["__class__"] scope) (hsup : scope.names.lookup ("super" : Str) = some NameKind.globalImplicit) (hs : mg "super" = none) (hth : PySem.W.nsIn K PySem.cStatics "thirdparty.any" = some none)
    (hb : body = .Expr (.Call (.Attribute (.Call (.Name "super" p0) [] [] p1) "__init__" p2) [.Name "place" q0] [] p3) p4 :: [.Assign [.Attribute (.Name "self" q1) "place" q2] (.Name "place" q3) q4, .Assign [.Attribute (.Name "self" q5) "name" q6] (.Name "name" q7) q8])
    (he : ∀ env : Env, eval (.Call (.Attribute (.Call (.Name "super" p0) [] [] p1) "__init__" p2) [.Name "place" q0] [] p3) env = (do
      let ov ← attributeBase (.Call (.Name "super" p0) [] [] p1) "__init__" env (eval (.Call (.Name "super" p0) [] [] p1) env)
      standAt p2.atName
      let (f, first) ← holding [ov] (getMethod ov "__init__" pl)
      callWith p3 f first (backTo p3 (starEach [.Name "place" q0] env)) [])) :
    FnOk P w K mg base CX 1 f (PySem.W.ksFn name qual params body scope dV kV doc pm an (.ref cda) ct cc) ["self", "place", "name"] (SpI K P f cda cc D) := by
  subst hb
  refine fn_sup lk hcd hcc S (fun vs H Q E h => by obtain ⟨a, C, p, n, rfl, _⟩ := h; rfl) fun A outer s s1 H vs Q E hr hsp I => ?_
  obtain ⟨a, C, p, n, rfl, ke, ea, hq⟩ := hsp
  refine PySem.ks_wpAt_execs_cons ?_
  obtain ⟨t1, hob⟩ := exo_at I.hok ea
  refine sup_first I rfl rfl rfl ke.sf hs hsup (S.frk _ (by simp)) (S.par _ (by simp)) rfl rfl hob rfl (fun c z => nomatch z) (fun so s2 I2 hso kp => ?_) (he _)
  refine sup_ve (R := fun H' => H' = H) I2 hso ke.oex ea ke.up ke.ve hth (pa_cons (pv 1 rfl (.inl (S.par _ (by simp)))) pa_nil) ⟨_, rfl, (by show 1 ≤ 1000; decide), ea, rfl⟩ fun s4 H4 I4 e4 => ?_
  subst e4
  refine PySem.wpAt_of_wpAny ?_
  refine (pss_cons (ps_ost (pv 0 rfl (.inl (S.par _ (by simp)))) (pv 1 rfl (.inl (S.par _ (by simp))))) (pss_one (ps_ost (pv 0 rfl (.inl (S.par _ (by simp)))) (pv 2 rfl (.inl (S.par _ (by simp))))))).run [] s4 _ _ _ I4 ?_
  refine ⟨_, rfl, _, rfl, a, C, rfl, ke.oex, ke.np, .inl ⟨ea, fun dx hd hne => ?_⟩⟩
  refine ⟨_, rfl, _, rfl, a, C, rfl, ke.oex, ke.nn, .inr ⟨dx, [("place", .int p)], upd_same, ?_, (by show 1 ≤ 900; decide), hq dx hd hne⟩⟩
  rw [upd_ne hne, upd_same]
end
/-- the __init__ of an error class: super().__init__(place, its name) -/
def SpE (C : Addr) (n : Str) : Sp := fun vs H Q _ => ∃ a p, vs = [.ref a, .int p] ∧ H a = some (exo a C none) ∧ ∀ dx, H dx = none → dx ≠ a → Q .non (h3 H a C dx p n)
section
variable {P : Program} {w : World} {K : PySem.W.Frag} {mg : Str → Option Value} {base : Heap} {f cc cda C fK cdaK ccK DK : Addr} {name qual : Str} {params : Arguments} {body rest : List Stmt} {scope : Scope} {dV kV doc pm ct oc cl : Value} {an od cld : Option Addr} {osl csl : Array (Option Value)} {p0 p1 p2 p3 p4 q0 q1 q2 q3 : Pos} {pl : Sem Bool} {n : Str} {kd : Nat} {fd : FuncData}
theorem ok_tinit (lk : K.lookup f = some ⟨oc, od, .func (PySem.W.ksFn name qual params body scope dV kV doc pm an (.ref cda) ct cc), osl⟩) (hcd : PySem.W.codeIn K (.ref cda) qual = true)
    (hcc : K.lookup cc = some ⟨cl, cld, .cell (some (.ref C)), csl⟩) (S : NScope ["self", "place", "__class__"] ["self", "place"] ["__class__"] scope) (hsup : scope.names.lookup ("super" : Str) = some NameKind.globalImplicit) (hs : mg "super" = none) (hth : PySem.W.nsIn K PySem.cStatics "thirdparty.any" = some none)
    (sf : SupF K P f cda cc C C "self") (ke : KErr K P fK cdaK ccK DK C) (hm : PySem.W.ks_superIn K C C "__init__" = some (some (.ref fK))) (ht : PySem.W.typeIn K (.ref fK) = some (.type "function")) (hf : PySem.W.fnIn K fK = true)
    (FK : FnOk P w K mg base CX0 1 fK fd ["self", "place", "name"] (SpI K P fK cdaK ccK DK)) (bK : Binds K fd ["self", "place", "name"] [])
    (hb : body = .Expr (.Call (.Attribute (.Call (.Name "super" p0) [] [] p1) "__init__" p2) [.Name "place" q0, .Constant (.str n) kd q1] [] p3) p4 :: [])
    (he : ∀ env : Env, eval (.Call (.Attribute (.Call (.Name "super" p0) [] [] p1) "__init__" p2) [.Name "place" q0, .Constant (.str n) kd q1] [] p3) env = (do
      let ov ← attributeBase (.Call (.Name "super" p0) [] [] p1) "__init__" env (eval (.Call (.Name "super" p0) [] [] p1) env)
      standAt p2.atName
      let (f, first) ← holding [ov] (getMethod ov "__init__" pl)
      callWith p3 f first (backTo p3 (starEach [.Name "place" q0, .Constant (.str n) kd q1] env)) [])) :
    FnOk P w K mg base CX0 2 f (PySem.W.ksFn name qual params body scope dV kV doc pm an (.ref cda) ct cc) ["self", "place"] (SpE C n) := by
  subst hb
  refine fn_sup lk hcd hcc S (fun vs H Q E h => by obtain ⟨a, p, rfl, _⟩ := h; rfl) fun A outer s s1 H vs Q E hr hsp I => ?_
  obtain ⟨a, p, rfl, ea, hq⟩ := hsp
  refine PySem.ks_wpAt_execs_cons ?_
  obtain ⟨t1, hob⟩ := exo_at I.hok ea
  refine sup_first I rfl rfl rfl sf hs hsup (S.frk _ (by simp)) (S.par _ (by simp)) rfl rfl hob rfl (fun c z => nomatch z) (fun so s2 I2 hso kp => ?_) (he _)
  obtain ⟨t2, hob2⟩ := exo_at I2.hok ea
  have J : PySem.W.InstAt s2.heap a _ C none := ⟨hob2, rfl, rfl, trivial⟩
  refine sup_own (k := 1) (E := E0) (Q := fun v H' => Q .non H') I2 hso J hm ht hth hf (FK.raw bK .nil) hr pass0 (pa_cons (pv 1 rfl (.inl (S.par _ (by simp)))) (pa_cons pe_str pa_nil)) ⟨_, rfl, ⟨a, C, p, n, rfl, ke, ea, hq⟩⟩ fun v s4 h4 => ?_
  obtain ⟨v', H', I4, _, q⟩ := h4
  exact PySem.wpAt_of_wpAny ((pss_nil (X := ncx CX0 P w K mg base ["self", "place", "__class__"] ⟨name, qual, params, _, scope, [("__class__", cc)], cda⟩ f A outer s H E)).run [] s4 _ _ _ I4 q)
end
end Kr

/-! KrY: raising, defs that may raise. -/
namespace Kr
open PySem PySem.Spec PyProof.Rows L2
open Enc (toD)
section
variable {cf : Cf} {E : XK} {G : List Sl} {S ρ : Type} [Enc ρ] {te : TE} {u : TS} {enc : S → List Sl}
/-- raise X(e) -/
def tRs (cf : Cf) (c : Nat) (E : XK) (te : TE) : TS := fun _ σ H => tMkO (cf.cls c) (SpE (cf.cls c) (cf.nm c)) [] (tCons te tNil) σ H fun cls d H' => E cls d H'
theorem rs_heap {H : Hp} {a C dx : Addr} {p : Int} {n : Str} (ha : H a = none) : upd (del (h3 (upd H a (exo a C none)) a C dx p n) a) dx (.xd [("name", .str n), ("place", .int p)]) = upd H dx (.xd [("name", .str n), ("place", .int p)]) := by
  funext b
  by_cases hb : b = dx
  · rw [hb, upd_same, upd_same]
  · rw [upd_ne hb, upd_ne hb]
    by_cases hba : b = a
    · rw [hba, del_same, ha]
    · rw [del_ne hba]
      unfold h3
      rw [upd_ne hb, upd_ne hba, upd_ne hb, upd_ne hba]
theorem rs_at {m : R Int} {c : Nat} (h : EM cf E te G m) (F O H : Hp) (σ : L2.St) (hf : Fm F O H) (he : Er cf.K F O σ G) (nb : m ≠ .bad) (ke : ∀ c' p d F' H', (m.bind fun p => (.er c p : R Int)) = .er c' p → Le F F' → Fm F' O H' → F' d = some (xdO cf c' p) → E (.ref (cf.cls c')) (some d) H') (D : Ends) : tRs cf c E te D σ H := by
  refine h F O H σ _ hf he nb (fun p v F' H' e le hf' hr => ?_) (fun c' p d F' H' e le hf' hd => ke c' p d F' H' (by rw [e]; rfl) le hf' hd)
  obtain rfl : v = .int p := dr_int hr
  refine ⟨by show 1 ≤ 1000; decide, fun a ha => ⟨a, p, rfl, upd_same, fun dx hd hne => ⟨rfl, dx, [("name", .str (cf.nm c)), ("place", .int p)], ?_, upd_same, ?_, ?_⟩⟩⟩
  · unfold h3
    rw [upd_ne (Ne.symm hne), upd_same]
  · rw [upd_ne hne] at hd
    exact hd
  · rw [upd_ne hne] at hd
    rw [rs_heap ha]
    exact ke c p dx (upd F' dx (xdO cf c p)) _ (by rw [e]; rfl) (le.trans (Le.new (hf'.fnone hd))) (hf'.newF hd) upd_same
theorem sb_raise {m : R Int} {c : Nat} (h : EM cf E te G m) : SB cf E (tRs cf c E te) G enc (m.bind fun p => (.er c p : R (Fl S ρ))) := fun F O H σ D hM nb kn kb kr ke => by
  obtain ⟨O', lo, hf, he, o1, o2⟩ := hM
  refine rs_at h F O' H σ hf he (R.bind_nb nb) (fun c' p d F' H' e le hf' hd => ke c' p d F' H' ?_ le (hf'.weak lo) hd) D
  cases m with
  | ok a => cases e; rfl
  | er c2 p2 => cases e; rfl
  | bad => cases e
theorem sb_raise2 {m : R Int} {c : Nat} (h : EM cf E te G m) : SB cf E (tSeq (tRs cf c E te) u) G enc (m.bind fun p => (.er c p : R (Fl S ρ))) := fun F O H σ D hM nb kn kb kr ke => sb_raise (enc := enc) h F O H σ { D with nx := u D } hM nb (fun s F' H' σ' e => by
    cases m <;> cases e) (fun s F' H' σ' e => by
    cases m <;> cases e) (fun r v F' H' e => by
    cases m <;> cases e) ke
end
/-- the term: raise X(e) -/
theorem ps_rs {X : Cx} {P : Program} {cf : Cf} {c : Nat} {E : XK} {x : Str} {fI : Addr} {fd : FuncData} {e : Expr} {te : TE} {p pos pos' : Pos} (hP : X.prog = P) (hK : X.K = cf.K) (hc : X.calm = true) (tk : Takes X (fun cls d σ H => E cls d H)) (T : OexC X.K (cf.cls c))
    (iC : PySem.W.findIn X.K (.ref (cf.cls c)) "__init__" = some (some (.ref fI))) (tI : PySem.W.typeIn X.K (.ref fI) = some (.type "function")) (F1 : FnOk X.prog X.w X.K X.mg X.base CX0 2 fI fd ["self", "place"] (SpE (cf.cls c) (cf.nm c)))
    (hr : Room 3 X.A) (hb : Binds X.K fd ["self", "place"] []) (hg : Gl X x) (hm : X.mg x = some (.ref (cf.cls c))) (ha : PE X e te) (hdb : (x == ("__debug__" : Str)) = false := by decide)
    (he : starEach [e] X.env = (false, eval e X.env) :: starEach [] X.env := by rfl) : PS X (.Raise (some (.Call (.Name x p) [e] [] pos)) none pos') (tRs cf c E te) :=
  ps_raise hc tk (pmk_oex T iC tI F1 hr hb .nil pass0 hg hm (pa_cons ha pa_nil (hs := he)) hdb he rfl)

/-- called with values of the data ds, it returns or raises what the relation says -/
def SpX (cf : Cf) (n : Nat) (spec : List Dt → R Dt → Prop) : Sp := fun vs H Q E => vs.length = n ∧ ∃ (F O : Hp) (ds : List Dt) (r : R Dt), Fm F O H ∧ DrA cf.K F vs ds ∧ spec ds r ∧ r ≠ .bad ∧
  (∀ d v F' H', r = .ok d → Le F F' → Fm F' O H' → Dr cf.K F' v d → Q v H') ∧ (∀ c p d F' H', r = .er c p → Le F F' → Fm F' O H' → F' d = some (xdO cf c p) → E (.ref (cf.cls c)) (some d) H')
theorem SpX.len {cf : Cf} {n : Nat} {spec : List Dt → R Dt → Prop} {ps : List Str} (h : ps.length = n := by rfl) : ∀ vs H Q E, SpX cf n spec vs H Q E → vs.length = ps.length := fun vs H Q E q => by rw [h]; exact q.1
theorem map_nb {α β : Type} {f : α → β} {m : R α} (h : m ≠ .bad) : m.map f ≠ .bad := by
  cases m with
  | ok a => exact fun z => nomatch z
  | er c p => exact fun z => nomatch z
  | bad => exact absurd rfl h
theorem map_okd {α β : Type} {f : α → β} {m : R α} {b : β} (h : m.map f = .ok b) : ∃ a, m = .ok a ∧ f a = b := by
  cases m with
  | ok a => exact ⟨a, rfl, R.ok.inj h⟩
  | er c p => cases h
  | bad => cases h
theorem map_erd {α β : Type} {f : α → β} {m : R α} {c : Nat} {p : Int} (h : m.map f = .er c p) : m = .er c p := by
  cases m with
  | ok a => cases h
  | er c p => cases h; rfl
  | bad => cases h
theorem run_ofX {cf : Cf} {E : XK} {S ρ : Type} [Enc ρ] {t : TS} {N : List Str} {vs : List V} {H : Hp} {Q : VK} {n : Nat} {spec : List Dt → R Dt → Prop} {enc : S → List Sl} (h : SpX cf n spec vs H Q E)
    (hb : ∀ ds r, spec ds r → r ≠ .bad → ∃ m : R (Fl S ρ), SB cf E t (ds.map Sl.va ++ List.replicate (N.length - ds.length) .un) enc m ∧ r = (finR m).map toD) : t { nx := fun _ H' => Q .non H', rt := Q } (L2.start N vs) H := by
  obtain ⟨_, F, O, ds, r, hf, hr, hs, nb, ko, ke⟩ := h
  obtain ⟨m, hm, er⟩ := hb ds r hs nb
  subst er
  refine hm F O H _ _ (mt_start hf hr) (fun z => ?_) (fun s F' H' σ' e => ?_) (fun s F' H' σ' e => ?_) (fun r' v F' H' e le hf' hr' => ?_) (fun c p d F' H' e le hf' hd => ?_)
  · rw [z] at nb
    exact nb rfl
  · rw [e] at nb
    exact absurd rfl nb
  · rw [e] at nb
    exact absurd rfl nb
  · exact ko (toD r') v F' H' (by rw [e]; rfl) le hf' hr'
  · exact ke c p d F' H' (by rw [e]; rfl) le hf' hd

section
variable {α τ : Type} [Enc α] [Enc τ]
theorem em_callX1 {cf : Cf} {E : XK} {G : List Sl} {t0 : TE} {m0 : R α} {g : α → R τ} (h0 : EM cf E t0 G m0) : EM cf E (tCall (SpX cf 1 (sp1 g)) [] E (tCons t0 tNil)) G (m0.bind fun a => g a) := fun F O H σ Q hf he nb ko ke => by
  have le0 : Le F F := Le.refl F
  refine h0 F O H σ _ hf (he.mono le0) (R.bind_nb nb) (fun a v0 F1 H1 e0 l0 hf1 r0 => ?_) (fun c' p d' F' H' e' le hf' hd => ke c' p d' F' H' (by rw [e']; rfl) (le0.trans le) hf' hd)
  rw [e0, R.ok_bind] at nb ko ke
  have le1 := le0.trans l0
  exact ⟨rfl, F1, O, _, (g a).map toD, hf1, (.cons r0 .nil), ⟨a, rfl, rfl⟩, map_nb nb, fun d' v F' H' e' le hf' hr => by
    obtain ⟨y, ey, ed⟩ := map_okd e'
    subst ed
    exact ko y v F' H' ey (le1.trans le) hf' hr, fun c' p d' F' H' e' le hf' hd => ke c' p d' F' H' (map_erd e') (le1.trans le) hf' hd⟩
theorem em_callP1 {cf : Cf} {E : XK} {G : List Sl} {t0 : TE} {m0 : R α} {g : α → R τ} (h0 : EM cf E t0 G m0) : EM cf E (tCall (SpX cf 1 (sp1 g)) [] E0 (tCons t0 tNil)) G (m0.bind fun a => (g a).pu) := fun F O H σ Q hf he nb ko ke => by
  have le0 : Le F F := Le.refl F
  refine h0 F O H σ _ hf (he.mono le0) (R.bind_nb nb) (fun a v0 F1 H1 e0 l0 hf1 r0 => ?_) (fun c' p d' F' H' e' le hf' hd => ke c' p d' F' H' (by rw [e']; rfl) (le0.trans le) hf' hd)
  rw [e0, R.ok_bind] at nb ko ke
  have le1 := le0.trans l0
  obtain ⟨y, ey⟩ := pu_nb nb
  exact ⟨rfl, F1, O, _, .ok (toD y), hf1, (.cons r0 .nil), ⟨a, rfl, by rw [ey]; rfl⟩, fun z => (nomatch z), fun d' v F' H' e' le hf' hr => by
    cases e'
    exact ko y v F' H' (by rw [ey]; rfl) (le1.trans le) hf' hr, fun _ _ _ _ _ z => (nomatch z)⟩
theorem fnX1 {P : Program} {w : World} {cf : Cf} {mg : Str → Option Value} {base : Heap} {x qual : Str} {st : Stmt} {f0 : Addr} {fd : FuncData} {N ps : List Str} {k : Nat} {S : Type} {enc : S → List Sl} (F : Fun cf.K x qual st f0 fd) (sc : FnScope N ps (defScope st)) (hp : ps.length = 1) (g : α → R (Fl S τ))
    (G0 : α → List Sl) (hG : ∀ a, [.va (toD a)] ++ List.replicate (N.length - 1) .un = G0 a)
    (h : ∀ (cdv : Value) (A : Around) (outer : List Env) (s : Shared) (H : Hp) (E : XK), Room k (A.deeper (envOfC qual (defScope st) s.heap.objs.size f0 cdv)) →
      ∃ t, PSs (cxOf (L2.CX P w) P w cf.K mg base N qual (defScope st) f0 cdv A outer s H E) (defBody st) t ∧ ∀ a, SB cf E t (G0 a) enc (g a)) :
    FnOk P w cf.K mg base (L2.CX P w) (k + 1) f0 fd ps (SpX cf 1 (sp1 fun a => finR (g a))) := by
  refine F.okX sc (SpX.len hp) (fun cdv A outer s H vs Q E hr hq => ?_)
  obtain ⟨t, ht, hb⟩ := h cdv A outer s H E hr
  refine ⟨t, ht, run_ofX (ρ := τ) (S := S) (enc := enc) hq fun ds r hs nb => ?_⟩
  obtain ⟨a, rfl, er⟩ := hs
  exact ⟨g a, by have q := hb a; rw [← hG] at q; exact q, er⟩
end

section
variable {α β τ : Type} [Enc α] [Enc β] [Enc τ]
theorem em_callX2 {cf : Cf} {E : XK} {G : List Sl} {t0 t1 : TE} {m0 : R α} {m1 : R β} {g : α → β → R τ} (h0 : EM cf E t0 G m0) (h1 : EM cf E t1 G m1) : EM cf E (tCall (SpX cf 2 (sp2 g)) [] E (tCons t0 (tCons t1 tNil))) G (m0.bind fun a => m1.bind fun b => g a b) := fun F O H σ Q hf he nb ko ke => by
  have le0 : Le F F := Le.refl F
  refine h0 F O H σ _ hf (he.mono le0) (R.bind_nb nb) (fun a v0 F1 H1 e0 l0 hf1 r0 => ?_) (fun c' p d' F' H' e' le hf' hd => ke c' p d' F' H' (by rw [e']; rfl) (le0.trans le) hf' hd)
  rw [e0, R.ok_bind] at nb ko ke
  have le1 := le0.trans l0
  refine h1 F1 O H1 σ _ hf1 (he.mono le1) (R.bind_nb nb) (fun b v1 F2 H2 e1 l1 hf2 r1 => ?_) (fun c' p d' F' H' e' le hf' hd => ke c' p d' F' H' (by rw [e']; rfl) (le1.trans le) hf' hd)
  rw [e1, R.ok_bind] at nb ko ke
  have le2 := le1.trans l1
  exact ⟨rfl, F2, O, _, (g a b).map toD, hf2, (.cons (Dr.mono l1 r0) (.cons r1 .nil)), ⟨a, b, rfl, rfl⟩, map_nb nb, fun d' v F' H' e' le hf' hr => by
    obtain ⟨y, ey, ed⟩ := map_okd e'
    subst ed
    exact ko y v F' H' ey (le2.trans le) hf' hr, fun c' p d' F' H' e' le hf' hd => ke c' p d' F' H' (map_erd e') (le2.trans le) hf' hd⟩
theorem em_callP2 {cf : Cf} {E : XK} {G : List Sl} {t0 t1 : TE} {m0 : R α} {m1 : R β} {g : α → β → R τ} (h0 : EM cf E t0 G m0) (h1 : EM cf E t1 G m1) : EM cf E (tCall (SpX cf 2 (sp2 g)) [] E0 (tCons t0 (tCons t1 tNil))) G (m0.bind fun a => m1.bind fun b => (g a b).pu) := fun F O H σ Q hf he nb ko ke => by
  have le0 : Le F F := Le.refl F
  refine h0 F O H σ _ hf (he.mono le0) (R.bind_nb nb) (fun a v0 F1 H1 e0 l0 hf1 r0 => ?_) (fun c' p d' F' H' e' le hf' hd => ke c' p d' F' H' (by rw [e']; rfl) (le0.trans le) hf' hd)
  rw [e0, R.ok_bind] at nb ko ke
  have le1 := le0.trans l0
  refine h1 F1 O H1 σ _ hf1 (he.mono le1) (R.bind_nb nb) (fun b v1 F2 H2 e1 l1 hf2 r1 => ?_) (fun c' p d' F' H' e' le hf' hd => ke c' p d' F' H' (by rw [e']; rfl) (le1.trans le) hf' hd)
  rw [e1, R.ok_bind] at nb ko ke
  have le2 := le1.trans l1
  obtain ⟨y, ey⟩ := pu_nb nb
  exact ⟨rfl, F2, O, _, .ok (toD y), hf2, (.cons (Dr.mono l1 r0) (.cons r1 .nil)), ⟨a, b, rfl, by rw [ey]; rfl⟩, fun z => (nomatch z), fun d' v F' H' e' le hf' hr => by
    cases e'
    exact ko y v F' H' (by rw [ey]; rfl) (le2.trans le) hf' hr, fun _ _ _ _ _ z => (nomatch z)⟩
theorem fnX2 {P : Program} {w : World} {cf : Cf} {mg : Str → Option Value} {base : Heap} {x qual : Str} {st : Stmt} {f0 : Addr} {fd : FuncData} {N ps : List Str} {k : Nat} {S : Type} {enc : S → List Sl} (F : Fun cf.K x qual st f0 fd) (sc : FnScope N ps (defScope st)) (hp : ps.length = 2) (g : α → β → R (Fl S τ))
    (G0 : α → β → List Sl) (hG : ∀ a b, [.va (toD a), .va (toD b)] ++ List.replicate (N.length - 2) .un = G0 a b)
    (h : ∀ (cdv : Value) (A : Around) (outer : List Env) (s : Shared) (H : Hp) (E : XK), Room k (A.deeper (envOfC qual (defScope st) s.heap.objs.size f0 cdv)) →
      ∃ t, PSs (cxOf (L2.CX P w) P w cf.K mg base N qual (defScope st) f0 cdv A outer s H E) (defBody st) t ∧ ∀ a b, SB cf E t (G0 a b) enc (g a b)) :
    FnOk P w cf.K mg base (L2.CX P w) (k + 1) f0 fd ps (SpX cf 2 (sp2 fun a b => finR (g a b))) := by
  refine F.okX sc (SpX.len hp) (fun cdv A outer s H vs Q E hr hq => ?_)
  obtain ⟨t, ht, hb⟩ := h cdv A outer s H E hr
  refine ⟨t, ht, run_ofX (ρ := τ) (S := S) (enc := enc) hq fun ds r hs nb => ?_⟩
  obtain ⟨a, b, rfl, er⟩ := hs
  exact ⟨g a b, by have q := hb a b; rw [← hG] at q; exact q, er⟩
end

section
variable {α β γ τ : Type} [Enc α] [Enc β] [Enc γ] [Enc τ]
theorem em_callX3 {cf : Cf} {E : XK} {G : List Sl} {t0 t1 t2 : TE} {m0 : R α} {m1 : R β} {m2 : R γ} {g : α → β → γ → R τ} (h0 : EM cf E t0 G m0) (h1 : EM cf E t1 G m1) (h2 : EM cf E t2 G m2) : EM cf E (tCall (SpX cf 3 (sp3 g)) [] E (tCons t0 (tCons t1 (tCons t2 tNil)))) G (m0.bind fun a => m1.bind fun b => m2.bind fun c => g a b c) := fun F O H σ Q hf he nb ko ke => by
  have le0 : Le F F := Le.refl F
  refine h0 F O H σ _ hf (he.mono le0) (R.bind_nb nb) (fun a v0 F1 H1 e0 l0 hf1 r0 => ?_) (fun c' p d' F' H' e' le hf' hd => ke c' p d' F' H' (by rw [e']; rfl) (le0.trans le) hf' hd)
  rw [e0, R.ok_bind] at nb ko ke
  have le1 := le0.trans l0
  refine h1 F1 O H1 σ _ hf1 (he.mono le1) (R.bind_nb nb) (fun b v1 F2 H2 e1 l1 hf2 r1 => ?_) (fun c' p d' F' H' e' le hf' hd => ke c' p d' F' H' (by rw [e']; rfl) (le1.trans le) hf' hd)
  rw [e1, R.ok_bind] at nb ko ke
  have le2 := le1.trans l1
  refine h2 F2 O H2 σ _ hf2 (he.mono le2) (R.bind_nb nb) (fun c v2 F3 H3 e2 l2 hf3 r2 => ?_) (fun c' p d' F' H' e' le hf' hd => ke c' p d' F' H' (by rw [e']; rfl) (le2.trans le) hf' hd)
  rw [e2, R.ok_bind] at nb ko ke
  have le3 := le2.trans l2
  exact ⟨rfl, F3, O, _, (g a b c).map toD, hf3, (.cons (Dr.mono l2 (Dr.mono l1 r0)) (.cons (Dr.mono l2 r1) (.cons r2 .nil))), ⟨a, b, c, rfl, rfl⟩, map_nb nb, fun d' v F' H' e' le hf' hr => by
    obtain ⟨y, ey, ed⟩ := map_okd e'
    subst ed
    exact ko y v F' H' ey (le3.trans le) hf' hr, fun c' p d' F' H' e' le hf' hd => ke c' p d' F' H' (map_erd e') (le3.trans le) hf' hd⟩
theorem em_callP3 {cf : Cf} {E : XK} {G : List Sl} {t0 t1 t2 : TE} {m0 : R α} {m1 : R β} {m2 : R γ} {g : α → β → γ → R τ} (h0 : EM cf E t0 G m0) (h1 : EM cf E t1 G m1) (h2 : EM cf E t2 G m2) : EM cf E (tCall (SpX cf 3 (sp3 g)) [] E0 (tCons t0 (tCons t1 (tCons t2 tNil)))) G (m0.bind fun a => m1.bind fun b => m2.bind fun c => (g a b c).pu) := fun F O H σ Q hf he nb ko ke => by
  have le0 : Le F F := Le.refl F
  refine h0 F O H σ _ hf (he.mono le0) (R.bind_nb nb) (fun a v0 F1 H1 e0 l0 hf1 r0 => ?_) (fun c' p d' F' H' e' le hf' hd => ke c' p d' F' H' (by rw [e']; rfl) (le0.trans le) hf' hd)
  rw [e0, R.ok_bind] at nb ko ke
  have le1 := le0.trans l0
  refine h1 F1 O H1 σ _ hf1 (he.mono le1) (R.bind_nb nb) (fun b v1 F2 H2 e1 l1 hf2 r1 => ?_) (fun c' p d' F' H' e' le hf' hd => ke c' p d' F' H' (by rw [e']; rfl) (le1.trans le) hf' hd)
  rw [e1, R.ok_bind] at nb ko ke
  have le2 := le1.trans l1
  refine h2 F2 O H2 σ _ hf2 (he.mono le2) (R.bind_nb nb) (fun c v2 F3 H3 e2 l2 hf3 r2 => ?_) (fun c' p d' F' H' e' le hf' hd => ke c' p d' F' H' (by rw [e']; rfl) (le2.trans le) hf' hd)
  rw [e2, R.ok_bind] at nb ko ke
  have le3 := le2.trans l2
  obtain ⟨y, ey⟩ := pu_nb nb
  exact ⟨rfl, F3, O, _, .ok (toD y), hf3, (.cons (Dr.mono l2 (Dr.mono l1 r0)) (.cons (Dr.mono l2 r1) (.cons r2 .nil))), ⟨a, b, c, rfl, by rw [ey]; rfl⟩, fun z => (nomatch z), fun d' v F' H' e' le hf' hr => by
    cases e'
    exact ko y v F' H' (by rw [ey]; rfl) (le3.trans le) hf' hr, fun _ _ _ _ _ z => (nomatch z)⟩
theorem fnX3 {P : Program} {w : World} {cf : Cf} {mg : Str → Option Value} {base : Heap} {x qual : Str} {st : Stmt} {f0 : Addr} {fd : FuncData} {N ps : List Str} {k : Nat} {S : Type} {enc : S → List Sl} (F : Fun cf.K x qual st f0 fd) (sc : FnScope N ps (defScope st)) (hp : ps.length = 3) (g : α → β → γ → R (Fl S τ))
    (G0 : α → β → γ → List Sl) (hG : ∀ a b c, [.va (toD a), .va (toD b), .va (toD c)] ++ List.replicate (N.length - 3) .un = G0 a b c)
    (h : ∀ (cdv : Value) (A : Around) (outer : List Env) (s : Shared) (H : Hp) (E : XK), Room k (A.deeper (envOfC qual (defScope st) s.heap.objs.size f0 cdv)) →
      ∃ t, PSs (cxOf (L2.CX P w) P w cf.K mg base N qual (defScope st) f0 cdv A outer s H E) (defBody st) t ∧ ∀ a b c, SB cf E t (G0 a b c) enc (g a b c)) :
    FnOk P w cf.K mg base (L2.CX P w) (k + 1) f0 fd ps (SpX cf 3 (sp3 fun a b c => finR (g a b c))) := by
  refine F.okX sc (SpX.len hp) (fun cdv A outer s H vs Q E hr hq => ?_)
  obtain ⟨t, ht, hb⟩ := h cdv A outer s H E hr
  refine ⟨t, ht, run_ofX (ρ := τ) (S := S) (enc := enc) hq fun ds r hs nb => ?_⟩
  obtain ⟨a, b, c, rfl, er⟩ := hs
  exact ⟨g a b c, by have q := hb a b c; rw [← hG] at q; exact q, er⟩
end

section
variable {α β γ δ τ : Type} [Enc α] [Enc β] [Enc γ] [Enc δ] [Enc τ]
theorem em_callX4 {cf : Cf} {E : XK} {G : List Sl} {t0 t1 t2 t3 : TE} {m0 : R α} {m1 : R β} {m2 : R γ} {m3 : R δ} {g : α → β → γ → δ → R τ} (h0 : EM cf E t0 G m0) (h1 : EM cf E t1 G m1) (h2 : EM cf E t2 G m2) (h3 : EM cf E t3 G m3) : EM cf E (tCall (SpX cf 4 (sp4 g)) [] E (tCons t0 (tCons t1 (tCons t2 (tCons t3 tNil))))) G (m0.bind fun a => m1.bind fun b => m2.bind fun c => m3.bind fun d => g a b c d) := fun F O H σ Q hf he nb ko ke => by
  have le0 : Le F F := Le.refl F
  refine h0 F O H σ _ hf (he.mono le0) (R.bind_nb nb) (fun a v0 F1 H1 e0 l0 hf1 r0 => ?_) (fun c' p d' F' H' e' le hf' hd => ke c' p d' F' H' (by rw [e']; rfl) (le0.trans le) hf' hd)
  rw [e0, R.ok_bind] at nb ko ke
  have le1 := le0.trans l0
  refine h1 F1 O H1 σ _ hf1 (he.mono le1) (R.bind_nb nb) (fun b v1 F2 H2 e1 l1 hf2 r1 => ?_) (fun c' p d' F' H' e' le hf' hd => ke c' p d' F' H' (by rw [e']; rfl) (le1.trans le) hf' hd)
  rw [e1, R.ok_bind] at nb ko ke
  have le2 := le1.trans l1
  refine h2 F2 O H2 σ _ hf2 (he.mono le2) (R.bind_nb nb) (fun c v2 F3 H3 e2 l2 hf3 r2 => ?_) (fun c' p d' F' H' e' le hf' hd => ke c' p d' F' H' (by rw [e']; rfl) (le2.trans le) hf' hd)
  rw [e2, R.ok_bind] at nb ko ke
  have le3 := le2.trans l2
  refine h3 F3 O H3 σ _ hf3 (he.mono le3) (R.bind_nb nb) (fun d v3 F4 H4 e3 l3 hf4 r3 => ?_) (fun c' p d' F' H' e' le hf' hd => ke c' p d' F' H' (by rw [e']; rfl) (le3.trans le) hf' hd)
  rw [e3, R.ok_bind] at nb ko ke
  have le4 := le3.trans l3
  exact ⟨rfl, F4, O, _, (g a b c d).map toD, hf4, (.cons (Dr.mono l3 (Dr.mono l2 (Dr.mono l1 r0))) (.cons (Dr.mono l3 (Dr.mono l2 r1)) (.cons (Dr.mono l3 r2) (.cons r3 .nil)))), ⟨a, b, c, d, rfl, rfl⟩, map_nb nb, fun d' v F' H' e' le hf' hr => by
    obtain ⟨y, ey, ed⟩ := map_okd e'
    subst ed
    exact ko y v F' H' ey (le4.trans le) hf' hr, fun c' p d' F' H' e' le hf' hd => ke c' p d' F' H' (map_erd e') (le4.trans le) hf' hd⟩
theorem em_callP4 {cf : Cf} {E : XK} {G : List Sl} {t0 t1 t2 t3 : TE} {m0 : R α} {m1 : R β} {m2 : R γ} {m3 : R δ} {g : α → β → γ → δ → R τ} (h0 : EM cf E t0 G m0) (h1 : EM cf E t1 G m1) (h2 : EM cf E t2 G m2) (h3 : EM cf E t3 G m3) : EM cf E (tCall (SpX cf 4 (sp4 g)) [] E0 (tCons t0 (tCons t1 (tCons t2 (tCons t3 tNil))))) G (m0.bind fun a => m1.bind fun b => m2.bind fun c => m3.bind fun d => (g a b c d).pu) := fun F O H σ Q hf he nb ko ke => by
  have le0 : Le F F := Le.refl F
  refine h0 F O H σ _ hf (he.mono le0) (R.bind_nb nb) (fun a v0 F1 H1 e0 l0 hf1 r0 => ?_) (fun c' p d' F' H' e' le hf' hd => ke c' p d' F' H' (by rw [e']; rfl) (le0.trans le) hf' hd)
  rw [e0, R.ok_bind] at nb ko ke
  have le1 := le0.trans l0
  refine h1 F1 O H1 σ _ hf1 (he.mono le1) (R.bind_nb nb) (fun b v1 F2 H2 e1 l1 hf2 r1 => ?_) (fun c' p d' F' H' e' le hf' hd => ke c' p d' F' H' (by rw [e']; rfl) (le1.trans le) hf' hd)
  rw [e1, R.ok_bind] at nb ko ke
  have le2 := le1.trans l1
  refine h2 F2 O H2 σ _ hf2 (he.mono le2) (R.bind_nb nb) (fun c v2 F3 H3 e2 l2 hf3 r2 => ?_) (fun c' p d' F' H' e' le hf' hd => ke c' p d' F' H' (by rw [e']; rfl) (le2.trans le) hf' hd)
  rw [e2, R.ok_bind] at nb ko ke
  have le3 := le2.trans l2
  refine h3 F3 O H3 σ _ hf3 (he.mono le3) (R.bind_nb nb) (fun d v3 F4 H4 e3 l3 hf4 r3 => ?_) (fun c' p d' F' H' e' le hf' hd => ke c' p d' F' H' (by rw [e']; rfl) (le3.trans le) hf' hd)
  rw [e3, R.ok_bind] at nb ko ke
  have le4 := le3.trans l3
  obtain ⟨y, ey⟩ := pu_nb nb
  exact ⟨rfl, F4, O, _, .ok (toD y), hf4, (.cons (Dr.mono l3 (Dr.mono l2 (Dr.mono l1 r0))) (.cons (Dr.mono l3 (Dr.mono l2 r1)) (.cons (Dr.mono l3 r2) (.cons r3 .nil)))), ⟨a, b, c, d, rfl, by rw [ey]; rfl⟩, fun z => (nomatch z), fun d' v F' H' e' le hf' hr => by
    cases e'
    exact ko y v F' H' (by rw [ey]; rfl) (le4.trans le) hf' hr, fun _ _ _ _ _ z => (nomatch z)⟩
theorem fnX4 {P : Program} {w : World} {cf : Cf} {mg : Str → Option Value} {base : Heap} {x qual : Str} {st : Stmt} {f0 : Addr} {fd : FuncData} {N ps : List Str} {k : Nat} {S : Type} {enc : S → List Sl} (F : Fun cf.K x qual st f0 fd) (sc : FnScope N ps (defScope st)) (hp : ps.length = 4) (g : α → β → γ → δ → R (Fl S τ))
    (G0 : α → β → γ → δ → List Sl) (hG : ∀ a b c d, [.va (toD a), .va (toD b), .va (toD c), .va (toD d)] ++ List.replicate (N.length - 4) .un = G0 a b c d)
    (h : ∀ (cdv : Value) (A : Around) (outer : List Env) (s : Shared) (H : Hp) (E : XK), Room k (A.deeper (envOfC qual (defScope st) s.heap.objs.size f0 cdv)) →
      ∃ t, PSs (cxOf (L2.CX P w) P w cf.K mg base N qual (defScope st) f0 cdv A outer s H E) (defBody st) t ∧ ∀ a b c d, SB cf E t (G0 a b c d) enc (g a b c d)) :
    FnOk P w cf.K mg base (L2.CX P w) (k + 1) f0 fd ps (SpX cf 4 (sp4 fun a b c d => finR (g a b c d))) := by
  refine F.okX sc (SpX.len hp) (fun cdv A outer s H vs Q E hr hq => ?_)
  obtain ⟨t, ht, hb⟩ := h cdv A outer s H E hr
  refine ⟨t, ht, run_ofX (ρ := τ) (S := S) (enc := enc) hq fun ds r hs nb => ?_⟩
  obtain ⟨a, b, c, d, rfl, er⟩ := hs
  exact ⟨g a b c d, by have q := hb a b c d; rw [← hG] at q; exact q, er⟩
end

section
variable {α β γ δ ε τ : Type} [Enc α] [Enc β] [Enc γ] [Enc δ] [Enc ε] [Enc τ]
theorem em_callX5 {cf : Cf} {E : XK} {G : List Sl} {t0 t1 t2 t3 t4 : TE} {m0 : R α} {m1 : R β} {m2 : R γ} {m3 : R δ} {m4 : R ε} {g : α → β → γ → δ → ε → R τ} (h0 : EM cf E t0 G m0) (h1 : EM cf E t1 G m1) (h2 : EM cf E t2 G m2) (h3 : EM cf E t3 G m3) (h4 : EM cf E t4 G m4) : EM cf E (tCall (SpX cf 5 (sp5 g)) [] E (tCons t0 (tCons t1 (tCons t2 (tCons t3 (tCons t4 tNil)))))) G (m0.bind fun a => m1.bind fun b => m2.bind fun c => m3.bind fun d => m4.bind fun e => g a b c d e) := fun F O H σ Q hf he nb ko ke => by
  have le0 : Le F F := Le.refl F
  refine h0 F O H σ _ hf (he.mono le0) (R.bind_nb nb) (fun a v0 F1 H1 e0 l0 hf1 r0 => ?_) (fun c' p d' F' H' e' le hf' hd => ke c' p d' F' H' (by rw [e']; rfl) (le0.trans le) hf' hd)
  rw [e0, R.ok_bind] at nb ko ke
  have le1 := le0.trans l0
  refine h1 F1 O H1 σ _ hf1 (he.mono le1) (R.bind_nb nb) (fun b v1 F2 H2 e1 l1 hf2 r1 => ?_) (fun c' p d' F' H' e' le hf' hd => ke c' p d' F' H' (by rw [e']; rfl) (le1.trans le) hf' hd)
  rw [e1, R.ok_bind] at nb ko ke
  have le2 := le1.trans l1
  refine h2 F2 O H2 σ _ hf2 (he.mono le2) (R.bind_nb nb) (fun c v2 F3 H3 e2 l2 hf3 r2 => ?_) (fun c' p d' F' H' e' le hf' hd => ke c' p d' F' H' (by rw [e']; rfl) (le2.trans le) hf' hd)
  rw [e2, R.ok_bind] at nb ko ke
  have le3 := le2.trans l2
  refine h3 F3 O H3 σ _ hf3 (he.mono le3) (R.bind_nb nb) (fun d v3 F4 H4 e3 l3 hf4 r3 => ?_) (fun c' p d' F' H' e' le hf' hd => ke c' p d' F' H' (by rw [e']; rfl) (le3.trans le) hf' hd)
  rw [e3, R.ok_bind] at nb ko ke
  have le4 := le3.trans l3
  refine h4 F4 O H4 σ _ hf4 (he.mono le4) (R.bind_nb nb) (fun e v4 F5 H5 e4 l4 hf5 r4 => ?_) (fun c' p d' F' H' e' le hf' hd => ke c' p d' F' H' (by rw [e']; rfl) (le4.trans le) hf' hd)
  rw [e4, R.ok_bind] at nb ko ke
  have le5 := le4.trans l4
  exact ⟨rfl, F5, O, _, (g a b c d e).map toD, hf5, (.cons (Dr.mono l4 (Dr.mono l3 (Dr.mono l2 (Dr.mono l1 r0)))) (.cons (Dr.mono l4 (Dr.mono l3 (Dr.mono l2 r1))) (.cons (Dr.mono l4 (Dr.mono l3 r2)) (.cons (Dr.mono l4 r3) (.cons r4 .nil))))), ⟨a, b, c, d, e, rfl, rfl⟩, map_nb nb, fun d' v F' H' e' le hf' hr => by
    obtain ⟨y, ey, ed⟩ := map_okd e'
    subst ed
    exact ko y v F' H' ey (le5.trans le) hf' hr, fun c' p d' F' H' e' le hf' hd => ke c' p d' F' H' (map_erd e') (le5.trans le) hf' hd⟩
theorem em_callP5 {cf : Cf} {E : XK} {G : List Sl} {t0 t1 t2 t3 t4 : TE} {m0 : R α} {m1 : R β} {m2 : R γ} {m3 : R δ} {m4 : R ε} {g : α → β → γ → δ → ε → R τ} (h0 : EM cf E t0 G m0) (h1 : EM cf E t1 G m1) (h2 : EM cf E t2 G m2) (h3 : EM cf E t3 G m3) (h4 : EM cf E t4 G m4) : EM cf E (tCall (SpX cf 5 (sp5 g)) [] E0 (tCons t0 (tCons t1 (tCons t2 (tCons t3 (tCons t4 tNil)))))) G (m0.bind fun a => m1.bind fun b => m2.bind fun c => m3.bind fun d => m4.bind fun e => (g a b c d e).pu) := fun F O H σ Q hf he nb ko ke => by
  have le0 : Le F F := Le.refl F
  refine h0 F O H σ _ hf (he.mono le0) (R.bind_nb nb) (fun a v0 F1 H1 e0 l0 hf1 r0 => ?_) (fun c' p d' F' H' e' le hf' hd => ke c' p d' F' H' (by rw [e']; rfl) (le0.trans le) hf' hd)
  rw [e0, R.ok_bind] at nb ko ke
  have le1 := le0.trans l0
  refine h1 F1 O H1 σ _ hf1 (he.mono le1) (R.bind_nb nb) (fun b v1 F2 H2 e1 l1 hf2 r1 => ?_) (fun c' p d' F' H' e' le hf' hd => ke c' p d' F' H' (by rw [e']; rfl) (le1.trans le) hf' hd)
  rw [e1, R.ok_bind] at nb ko ke
  have le2 := le1.trans l1
  refine h2 F2 O H2 σ _ hf2 (he.mono le2) (R.bind_nb nb) (fun c v2 F3 H3 e2 l2 hf3 r2 => ?_) (fun c' p d' F' H' e' le hf' hd => ke c' p d' F' H' (by rw [e']; rfl) (le2.trans le) hf' hd)
  rw [e2, R.ok_bind] at nb ko ke
  have le3 := le2.trans l2
  refine h3 F3 O H3 σ _ hf3 (he.mono le3) (R.bind_nb nb) (fun d v3 F4 H4 e3 l3 hf4 r3 => ?_) (fun c' p d' F' H' e' le hf' hd => ke c' p d' F' H' (by rw [e']; rfl) (le3.trans le) hf' hd)
  rw [e3, R.ok_bind] at nb ko ke
  have le4 := le3.trans l3
  refine h4 F4 O H4 σ _ hf4 (he.mono le4) (R.bind_nb nb) (fun e v4 F5 H5 e4 l4 hf5 r4 => ?_) (fun c' p d' F' H' e' le hf' hd => ke c' p d' F' H' (by rw [e']; rfl) (le4.trans le) hf' hd)
  rw [e4, R.ok_bind] at nb ko ke
  have le5 := le4.trans l4
  obtain ⟨y, ey⟩ := pu_nb nb
  exact ⟨rfl, F5, O, _, .ok (toD y), hf5, (.cons (Dr.mono l4 (Dr.mono l3 (Dr.mono l2 (Dr.mono l1 r0)))) (.cons (Dr.mono l4 (Dr.mono l3 (Dr.mono l2 r1))) (.cons (Dr.mono l4 (Dr.mono l3 r2)) (.cons (Dr.mono l4 r3) (.cons r4 .nil))))), ⟨a, b, c, d, e, rfl, by rw [ey]; rfl⟩, fun z => (nomatch z), fun d' v F' H' e' le hf' hr => by
    cases e'
    exact ko y v F' H' (by rw [ey]; rfl) (le5.trans le) hf' hr, fun _ _ _ _ _ z => (nomatch z)⟩
theorem fnX5 {P : Program} {w : World} {cf : Cf} {mg : Str → Option Value} {base : Heap} {x qual : Str} {st : Stmt} {f0 : Addr} {fd : FuncData} {N ps : List Str} {k : Nat} {S : Type} {enc : S → List Sl} (F : Fun cf.K x qual st f0 fd) (sc : FnScope N ps (defScope st)) (hp : ps.length = 5) (g : α → β → γ → δ → ε → R (Fl S τ))
    (G0 : α → β → γ → δ → ε → List Sl) (hG : ∀ a b c d e, [.va (toD a), .va (toD b), .va (toD c), .va (toD d), .va (toD e)] ++ List.replicate (N.length - 5) .un = G0 a b c d e)
    (h : ∀ (cdv : Value) (A : Around) (outer : List Env) (s : Shared) (H : Hp) (E : XK), Room k (A.deeper (envOfC qual (defScope st) s.heap.objs.size f0 cdv)) →
      ∃ t, PSs (cxOf (L2.CX P w) P w cf.K mg base N qual (defScope st) f0 cdv A outer s H E) (defBody st) t ∧ ∀ a b c d e, SB cf E t (G0 a b c d e) enc (g a b c d e)) :
    FnOk P w cf.K mg base (L2.CX P w) (k + 1) f0 fd ps (SpX cf 5 (sp5 fun a b c d e => finR (g a b c d e))) := by
  refine F.okX sc (SpX.len hp) (fun cdv A outer s H vs Q E hr hq => ?_)
  obtain ⟨t, ht, hb⟩ := h cdv A outer s H E hr
  refine ⟨t, ht, run_ofX (ρ := τ) (S := S) (enc := enc) hq fun ds r hs nb => ?_⟩
  obtain ⟨a, b, c, d, e, rfl, er⟩ := hs
  exact ⟨g a b c d e, by have q := hb a b c d e; rw [← hG] at q; exact q, er⟩
end

section
variable {α β γ δ ε ζ τ : Type} [Enc α] [Enc β] [Enc γ] [Enc δ] [Enc ε] [Enc ζ] [Enc τ]
theorem em_callX6 {cf : Cf} {E : XK} {G : List Sl} {t0 t1 t2 t3 t4 t5 : TE} {m0 : R α} {m1 : R β} {m2 : R γ} {m3 : R δ} {m4 : R ε} {m5 : R ζ} {g : α → β → γ → δ → ε → ζ → R τ} (h0 : EM cf E t0 G m0) (h1 : EM cf E t1 G m1) (h2 : EM cf E t2 G m2) (h3 : EM cf E t3 G m3) (h4 : EM cf E t4 G m4) (h5 : EM cf E t5 G m5) : EM cf E (tCall (SpX cf 6 (sp6 g)) [] E (tCons t0 (tCons t1 (tCons t2 (tCons t3 (tCons t4 (tCons t5 tNil))))))) G (m0.bind fun a => m1.bind fun b => m2.bind fun c => m3.bind fun d => m4.bind fun e => m5.bind fun f => g a b c d e f) := fun F O H σ Q hf he nb ko ke => by
  have le0 : Le F F := Le.refl F
  refine h0 F O H σ _ hf (he.mono le0) (R.bind_nb nb) (fun a v0 F1 H1 e0 l0 hf1 r0 => ?_) (fun c' p d' F' H' e' le hf' hd => ke c' p d' F' H' (by rw [e']; rfl) (le0.trans le) hf' hd)
  rw [e0, R.ok_bind] at nb ko ke
  have le1 := le0.trans l0
  refine h1 F1 O H1 σ _ hf1 (he.mono le1) (R.bind_nb nb) (fun b v1 F2 H2 e1 l1 hf2 r1 => ?_) (fun c' p d' F' H' e' le hf' hd => ke c' p d' F' H' (by rw [e']; rfl) (le1.trans le) hf' hd)
  rw [e1, R.ok_bind] at nb ko ke
  have le2 := le1.trans l1
  refine h2 F2 O H2 σ _ hf2 (he.mono le2) (R.bind_nb nb) (fun c v2 F3 H3 e2 l2 hf3 r2 => ?_) (fun c' p d' F' H' e' le hf' hd => ke c' p d' F' H' (by rw [e']; rfl) (le2.trans le) hf' hd)
  rw [e2, R.ok_bind] at nb ko ke
  have le3 := le2.trans l2
  refine h3 F3 O H3 σ _ hf3 (he.mono le3) (R.bind_nb nb) (fun d v3 F4 H4 e3 l3 hf4 r3 => ?_) (fun c' p d' F' H' e' le hf' hd => ke c' p d' F' H' (by rw [e']; rfl) (le3.trans le) hf' hd)
  rw [e3, R.ok_bind] at nb ko ke
  have le4 := le3.trans l3
  refine h4 F4 O H4 σ _ hf4 (he.mono le4) (R.bind_nb nb) (fun e v4 F5 H5 e4 l4 hf5 r4 => ?_) (fun c' p d' F' H' e' le hf' hd => ke c' p d' F' H' (by rw [e']; rfl) (le4.trans le) hf' hd)
  rw [e4, R.ok_bind] at nb ko ke
  have le5 := le4.trans l4
  refine h5 F5 O H5 σ _ hf5 (he.mono le5) (R.bind_nb nb) (fun f v5 F6 H6 e5 l5 hf6 r5 => ?_) (fun c' p d' F' H' e' le hf' hd => ke c' p d' F' H' (by rw [e']; rfl) (le5.trans le) hf' hd)
  rw [e5, R.ok_bind] at nb ko ke
  have le6 := le5.trans l5
  exact ⟨rfl, F6, O, _, (g a b c d e f).map toD, hf6, (.cons (Dr.mono l5 (Dr.mono l4 (Dr.mono l3 (Dr.mono l2 (Dr.mono l1 r0))))) (.cons (Dr.mono l5 (Dr.mono l4 (Dr.mono l3 (Dr.mono l2 r1)))) (.cons (Dr.mono l5 (Dr.mono l4 (Dr.mono l3 r2))) (.cons (Dr.mono l5 (Dr.mono l4 r3)) (.cons (Dr.mono l5 r4) (.cons r5 .nil)))))), ⟨a, b, c, d, e, f, rfl, rfl⟩, map_nb nb, fun d' v F' H' e' le hf' hr => by
    obtain ⟨y, ey, ed⟩ := map_okd e'
    subst ed
    exact ko y v F' H' ey (le6.trans le) hf' hr, fun c' p d' F' H' e' le hf' hd => ke c' p d' F' H' (map_erd e') (le6.trans le) hf' hd⟩
theorem em_callP6 {cf : Cf} {E : XK} {G : List Sl} {t0 t1 t2 t3 t4 t5 : TE} {m0 : R α} {m1 : R β} {m2 : R γ} {m3 : R δ} {m4 : R ε} {m5 : R ζ} {g : α → β → γ → δ → ε → ζ → R τ} (h0 : EM cf E t0 G m0) (h1 : EM cf E t1 G m1) (h2 : EM cf E t2 G m2) (h3 : EM cf E t3 G m3) (h4 : EM cf E t4 G m4) (h5 : EM cf E t5 G m5) : EM cf E (tCall (SpX cf 6 (sp6 g)) [] E0 (tCons t0 (tCons t1 (tCons t2 (tCons t3 (tCons t4 (tCons t5 tNil))))))) G (m0.bind fun a => m1.bind fun b => m2.bind fun c => m3.bind fun d => m4.bind fun e => m5.bind fun f => (g a b c d e f).pu) := fun F O H σ Q hf he nb ko ke => by
  have le0 : Le F F := Le.refl F
  refine h0 F O H σ _ hf (he.mono le0) (R.bind_nb nb) (fun a v0 F1 H1 e0 l0 hf1 r0 => ?_) (fun c' p d' F' H' e' le hf' hd => ke c' p d' F' H' (by rw [e']; rfl) (le0.trans le) hf' hd)
  rw [e0, R.ok_bind] at nb ko ke
  have le1 := le0.trans l0
  refine h1 F1 O H1 σ _ hf1 (he.mono le1) (R.bind_nb nb) (fun b v1 F2 H2 e1 l1 hf2 r1 => ?_) (fun c' p d' F' H' e' le hf' hd => ke c' p d' F' H' (by rw [e']; rfl) (le1.trans le) hf' hd)
  rw [e1, R.ok_bind] at nb ko ke
  have le2 := le1.trans l1
  refine h2 F2 O H2 σ _ hf2 (he.mono le2) (R.bind_nb nb) (fun c v2 F3 H3 e2 l2 hf3 r2 => ?_) (fun c' p d' F' H' e' le hf' hd => ke c' p d' F' H' (by rw [e']; rfl) (le2.trans le) hf' hd)
  rw [e2, R.ok_bind] at nb ko ke
  have le3 := le2.trans l2
  refine h3 F3 O H3 σ _ hf3 (he.mono le3) (R.bind_nb nb) (fun d v3 F4 H4 e3 l3 hf4 r3 => ?_) (fun c' p d' F' H' e' le hf' hd => ke c' p d' F' H' (by rw [e']; rfl) (le3.trans le) hf' hd)
  rw [e3, R.ok_bind] at nb ko ke
  have le4 := le3.trans l3
  refine h4 F4 O H4 σ _ hf4 (he.mono le4) (R.bind_nb nb) (fun e v4 F5 H5 e4 l4 hf5 r4 => ?_) (fun c' p d' F' H' e' le hf' hd => ke c' p d' F' H' (by rw [e']; rfl) (le4.trans le) hf' hd)
  rw [e4, R.ok_bind] at nb ko ke
  have le5 := le4.trans l4
  refine h5 F5 O H5 σ _ hf5 (he.mono le5) (R.bind_nb nb) (fun f v5 F6 H6 e5 l5 hf6 r5 => ?_) (fun c' p d' F' H' e' le hf' hd => ke c' p d' F' H' (by rw [e']; rfl) (le5.trans le) hf' hd)
  rw [e5, R.ok_bind] at nb ko ke
  have le6 := le5.trans l5
  obtain ⟨y, ey⟩ := pu_nb nb
  exact ⟨rfl, F6, O, _, .ok (toD y), hf6, (.cons (Dr.mono l5 (Dr.mono l4 (Dr.mono l3 (Dr.mono l2 (Dr.mono l1 r0))))) (.cons (Dr.mono l5 (Dr.mono l4 (Dr.mono l3 (Dr.mono l2 r1)))) (.cons (Dr.mono l5 (Dr.mono l4 (Dr.mono l3 r2))) (.cons (Dr.mono l5 (Dr.mono l4 r3)) (.cons (Dr.mono l5 r4) (.cons r5 .nil)))))), ⟨a, b, c, d, e, f, rfl, by rw [ey]; rfl⟩, fun z => (nomatch z), fun d' v F' H' e' le hf' hr => by
    cases e'
    exact ko y v F' H' (by rw [ey]; rfl) (le6.trans le) hf' hr, fun _ _ _ _ _ z => (nomatch z)⟩
theorem fnX6 {P : Program} {w : World} {cf : Cf} {mg : Str → Option Value} {base : Heap} {x qual : Str} {st : Stmt} {f0 : Addr} {fd : FuncData} {N ps : List Str} {k : Nat} {S : Type} {enc : S → List Sl} (F : Fun cf.K x qual st f0 fd) (sc : FnScope N ps (defScope st)) (hp : ps.length = 6) (g : α → β → γ → δ → ε → ζ → R (Fl S τ))
    (G0 : α → β → γ → δ → ε → ζ → List Sl) (hG : ∀ a b c d e f, [.va (toD a), .va (toD b), .va (toD c), .va (toD d), .va (toD e), .va (toD f)] ++ List.replicate (N.length - 6) .un = G0 a b c d e f)
    (h : ∀ (cdv : Value) (A : Around) (outer : List Env) (s : Shared) (H : Hp) (E : XK), Room k (A.deeper (envOfC qual (defScope st) s.heap.objs.size f0 cdv)) →
      ∃ t, PSs (cxOf (L2.CX P w) P w cf.K mg base N qual (defScope st) f0 cdv A outer s H E) (defBody st) t ∧ ∀ a b c d e f, SB cf E t (G0 a b c d e f) enc (g a b c d e f)) :
    FnOk P w cf.K mg base (L2.CX P w) (k + 1) f0 fd ps (SpX cf 6 (sp6 fun a b c d e f => finR (g a b c d e f))) := by
  refine F.okX sc (SpX.len hp) (fun cdv A outer s H vs Q E hr hq => ?_)
  obtain ⟨t, ht, hb⟩ := h cdv A outer s H E hr
  refine ⟨t, ht, run_ofX (ρ := τ) (S := S) (enc := enc) hq fun ds r hs nb => ?_⟩
  obtain ⟨a, b, c, d, e, f, rfl, er⟩ := hs
  exact ⟨g a b c d e f, by have q := hb a b c d e f; rw [← hG] at q; exact q, er⟩
end
/-! ### what the text says of an error class -/
structure XErr (P : Program) (w : World) (cf : Cf) (mg : Str → Option Value) (base : Heap) (c : Nat) (x : Str) where
  fI : Addr
  fd : FuncData
  T : OexC cf.K (cf.cls c)
  iC : PySem.W.findIn cf.K (.ref (cf.cls c)) "__init__" = some (some (.ref fI))
  tI : PySem.W.typeIn cf.K (.ref fI) = some (.type "function")
  F1 : FnOk P w cf.K mg base CX0 2 fI fd ["self", "place"] (SpE (cf.cls c) (cf.nm c))
  hb : Binds cf.K fd ["self", "place"] []
  hm : mg x = some (.ref (cf.cls c))
end Kr

/-! KrZ: try with several clauses, each with or without a name. -/
namespace Kr
open PySem PySem.Spec PyProof.Rows L2
/-- the ends behind a named clause: the name is gone -/
def gone (D : Ends) (i : Nat) : Ends := { nx := fun σ' H' => D.nx (σ'.set i none) H', rt := D.rt, bk := fun σ' H' => D.bk (σ'.set i none) H', ct := fun σ' H' => D.ct (σ'.set i none) H' }
abbrev Clz : Type := Value × Option Nat × (Addr → Value → Option Addr → TS)
def wA (K : PySem.W.Frag) (Wout : WX) (D : Ends) : List Clz → WX
  | [] => Wout
  | (c, o, ts) :: r => fun cls d σ H => ∃ b, PySem.W.exmOne K cls c = some b ∧ (b = true → ∀ a, H a = none → match o with
      | none => ts a cls d D σ H
      | some i => ts a cls d (gone D i) (σ.set i (some (.ref a))) H) ∧ (b = false → wA K Wout D r cls d σ H)
inductive HdsA (X : Cx) : List ExceptHandler → List Clz → Prop
  | nil : HdsA X [] []
  | plain {x : Str} {c : Value} {ts : Addr → Value → Option Addr → TS} {b₀ : Stmt} {more : List Stmt} {np pos' : Pos} {hds : List ExceptHandler} {l : List Clz} (hc : Names X x c)
      (hsu : ∀ (a : Addr) (oe : Obj) (cls : Value) (d : Option Addr) (pn : List (Addr × Obj)), Zc cls d oe → (∃ vs, oe.data = .fields vs) → PSs (X.suite a ((a, oe) :: pn)) (b₀ :: more) (ts a cls d)) (r : HdsA X hds l) :
      HdsA X (.ExceptHandler (some (.Name x np)) none (b₀ :: more) pos' :: hds) ((c, none, ts) :: l)
  | named {x n : Str} {i : Nat} {c : Value} {ts : Addr → Value → Option Addr → TS} {b₀ : Stmt} {more : List Stmt} {np pos' : Pos} {hds : List ExceptHandler} {l : List Clz} (hc : Names X x c) (hi : X.N[i]? = some n) (hln : X.env.kindOf n = some .local)
      (hsu : ∀ (a : Addr) (oe : Obj) (cls : Value) (d : Option Addr) (pn : List (Addr × Obj)), Zc cls d oe → (∃ vs, oe.data = .fields vs) → PSs (X.suite a ((a, oe) :: pn)) (b₀ :: more) (ts a cls d)) (r : HdsA X hds l) :
      HdsA X (.ExceptHandler (some (.Name x np)) (some n) (b₀ :: more) pos' :: hds) ((c, some i, ts) :: l)
section
variable {X : Cx} {body : List Stmt} {h₀ : ExceptHandler} {hds : List ExceptHandler} {l : List Clz} {pos : Pos} {tb : WX → TS} {Wout : WX}
theorem ps_try_all (hs : X.stack = X.env :: X.outer) (hf : X.env.frame = some X.env.locals) (hN : X.N.Nodup) (tk : Takes X Wout)
    (hb : ∀ (W : WX) (pn : List (Addr × Obj)) (xe : Value → Shared → Prop), Takes (X.tr pn xe) W → PassesOwn (model X.prog X.w) X.A X.env xe → PSs (X.tr pn xe) body (tb W))
    (hh : HdsA X (h₀ :: hds) l) : PS X (.Try body (h₀ :: hds) [] [] pos) (fun D σ H => tb (wA X.K Wout D l) D σ H) := by
  refine ⟨fun pins s σ H D I h => ?_⟩
  have ok := I.ok
  have hfr : X.A.frames = some (X.env :: X.outer) := by rw [ok.frames, hs]
  refine wpAny_Try_except ?_
  let xe0 : Value → Shared → Prop := fun e s₁ => wpAny (model X.prog X.w) X.A (noteFrame e X.env) (fun _ s₂ => wpAny (model X.prog X.w) X.A (setFlight e none) (fun _ s₃ => wpAny (model X.prog X.w) X.A (handleBy e X.env (h₀ :: hds)) (L2.SP X pins D) X.xe s₃) X.xe s₂) X.xe s₁
  refine wpAny_mono ((hb (wA X.K Wout D l) (X.pn ++ pins) xe0 (fun u s' xx => ?_) PassesOwn.looking).run [] s σ H D (I.toTry _) h) (fun f s1 hsp => ?_) (fun e s1 he => he)
  · obtain ⟨a, B, sI, pins', σ', H', cls, d, rfl, J', nb, up, sky, na, os, ag, w⟩ := xx
    have J : L2.Inv X pins σ' H' sI := J'.ofTry ok
    have sk2 : Sky B (X.env :: X.outer) a (Zc cls d) X.env.locals s'.heap := by rw [← hs]; exact sky
    show wpAny (model X.prog X.w) X.A (noteFrame (.ref a) X.env) _ _ _
    refine Sky.land Zc.steady hfr hf sk2 fun h3 fl3 up3 => ?_
    have J3 : L2.Inv X pins σ' H' { s' with heap := h3 } := J.landed nb fl3.1 (up.trans up3) os ag
    obtain ⟨oe3, vs3, he3, hz3, hd3⟩ := fl3.there
    have nfr : a ∉ frs (X.env :: X.outer) := fun hm => by
      obtain ⟨_, o', e', hnf⟩ := (fl3.2.2.1).mem hm
      rw [he3] at e'
      cases e'
      exact hnf _ hd3
    have nL : a ≠ X.env.locals := fun z => nfr (List.mem_filterMap.mpr ⟨X.env, List.mem_cons_self, by rw [hf, z]⟩)
    have nF : a ∉ X.fs := fun hm => by
      obtain ⟨e, he, q⟩ := List.mem_filterMap.mp hm
      exact nfr (List.mem_filterMap.mpr ⟨e, List.mem_cons_of_mem _ he, q⟩)
    have S3 := J3.suite he3 hd3 na nL nF
    have LT : PySem.W.Looks (model X.prog X.w) h3 (typeOf (.ref a)) cls := fun A Q E s k q => wpAny_typeOf_ref (k _ _ he3) (by rw [hz3.1]; exact q)
    have test : ∀ {x : Str} {c : Value} {np : Pos} {Q : Value → Shared → Prop} {E : Value → Shared → Prop}, Names X x c → Q c { s' with heap := h3 } → wpAny (model X.prog X.w) (X.A.mark (some (.ref a))) (eval (.Name x np) X.env) Q E { s' with heap := h3 } := fun hc q => by
      obtain ⟨hg, hdbg, hm | ⟨hm, hv, hnn⟩⟩ := hc
      · exact ld_glob (X := X.suite a ((a, oe3) :: (X.pn ++ pins))) S3 hg hm q hdbg
      · exact ld_blt (X := X.suite a ((a, oe3) :: (X.pn ++ pins))) S3 hg hm hv q hnn hdbg
    have go : ∀ {hds' : List ExceptHandler} {l' : List Clz}, HdsA X hds' l' → wA X.K Wout D l' cls d σ' H' →
        wpAny (model X.prog X.w) X.A (handleBy (.ref a) X.env hds') (L2.SP X pins D) X.xe { s' with heap := h3 } := by
      intro hds' l' hk
      induction hk with
      | nil =>
        intro w
        refine wpAny_handleBy_nil ?_
        obtain ⟨k1, k2, k3, oe, vs, T, oT, ts', he, hz, hd, h1, hr⟩ := id fl3
        unfold PySem.passOn
        refine wpAny_bind (wpAny_field he hd h1 ?_)
        rw [if_neg (show ¬ ((Value.ref T == Value.none) = true) from by simp)]
        have fin : wpAny (model X.prog X.w) X.A (setFlight (.ref a) X.env.frame) (fun _ s4 => wpAny (model X.prog X.w) X.A (throw (.ref a) : Sem Flow) (L2.SP X pins D) X.xe s4) X.xe { s' with heap := h3 } := by
          rw [hf]
          refine HandSPX.setFlight_upZ fl3 fun h4 hh4 up4 => wpAny_throw (tk _ _ ?_)
          exact ⟨a, B, sI, pins, σ', H', cls, d, rfl, J, nb, (up.trans up3).trans up4, .inr (.inr (by rw [hs]; exact hh4)), na, os, ag, w⟩
        first
          | exact wpAny_bind (wpAny_pure (wpAny_bind fin))
          | exact wpAny_bind fin
      | @plain x c ts b₀ more np pos' hds2 l2 hc hsu r ih =>
        intro w
        obtain ⟨b, hb1, hyes, hno⟩ := w
        refine wpAny_handleBy_cons (codeAny_handlers_test ?_) (by intro q; cases q)
        refine test hc ((PySem.W.exm_one (M := model X.prog X.w) J3.kIn LT hb1).here ?_)
        cases b with
        | true =>
          refine codeAny_handlers_suite ?_
          refine HandSPX.lands_againZ fl3 fun h4 fl4 up4 => ?_
          have J4 : L2.Inv X pins σ' H' { s' with heap := h4 } := J.landed nb fl4.1 ((up.trans up3).trans up4) os ag
          obtain ⟨oe4, vs4, he4, hz4, hd4⟩ := fl4.there
          refine wpAny_mono ((hsu a oe4 cls d (X.pn ++ pins) hz4 ⟨_, hd4⟩).run [] _ _ H' _ (J4.suite he4 hd4 na nL nF) (hyes rfl a na)) (fun f s6 hsp => ?_) (fun _ _ z => False.elim z)
          cases f with
          | ret u =>
            obtain ⟨v6, σ6, H6, S6, r6, q6⟩ := hsp
            exact ⟨_, _, _, S6.unsuite ok, r6, q6⟩
          | next => exact let ⟨_, _, S6, q6⟩ := hsp; ⟨_, _, S6.unsuite ok, q6⟩
          | brk => exact let ⟨_, _, S6, q6⟩ := hsp; ⟨_, _, S6.unsuite ok, q6⟩
          | cont => exact let ⟨_, _, S6, q6⟩ := hsp; ⟨_, _, S6.unsuite ok, q6⟩
        | false => exact ih (hno rfl)
      | @named x n i c ts b₀ more np pos' hds2 l2 hc hi hln hsu r ih =>
        intro w
        obtain ⟨b, hb1, hyes, hno⟩ := w
        refine wpAny_handleBy_cons (codeAny_handlers_test ?_) (by intro q; cases q)
        refine test hc ((PySem.W.exm_one (M := model X.prog X.w) J3.kIn LT hb1).here ?_)
        cases b with
        | true =>
          refine codeAny_handlers_suite_as ?_
          refine HandSPX.lands_againZ fl3 fun h4 fl4 up4 => ?_
          have J4 : L2.Inv X pins σ' H' { s' with heap := h4 } := J.landed nb fl4.1 ((up.trans up3).trans up4) os ag
          obtain ⟨oe4, vs4, he4, hz4, hd4⟩ := fl4.there
          refine store_ok (X := X.suite a ((a, oe4) :: (X.pn ++ pins))) (v := .ref a) (J4.suite he4 hd4 na nL nF) hN hi (.inl hln) rfl (fun s5 S5 => ?_) (.inr hln)
          refine wpAny_mono ((hsu a oe4 cls d (X.pn ++ pins) hz4 ⟨_, hd4⟩).run [] s5 _ H' _ S5 (hyes rfl a na)) (fun f s6 hsp => ?_) (fun _ _ z => False.elim z)
          have off : ∀ {σ6 : L2.St} {H6 : Hp} {Q : Shared → Prop}, L2.Inv (X.suite a ((a, oe4) :: (X.pn ++ pins))) [] σ6 H6 s6 → (∀ s7, L2.Inv X pins (σ6.set i none) H6 s7 → Q s7) →
              wpAny (model X.prog X.w) X.A (do bindName X.env n .none; unbindBehindTheSuite X.env n pos') (fun _ s7 => Q s7) X.xe s6 := fun {σ6 H6 Q} S6 hq => gone_ok (S6.unsuite ok) hN hi hln hq
          cases f with
          | ret u =>
            obtain ⟨v6, σ6, H6, S6, r6, q6⟩ := hsp
            exact off S6 fun s7 J7 => ⟨_, _, _, J7, r6, q6⟩
          | next => exact let ⟨_, _, S6, q6⟩ := hsp; off S6 fun s7 J7 => ⟨_, _, J7, q6⟩
          | brk => exact let ⟨_, _, S6, q6⟩ := hsp; off S6 fun s7 J7 => ⟨_, _, J7, q6⟩
          | cont => exact let ⟨_, _, S6, q6⟩ := hsp; off S6 fun s7 J7 => ⟨_, _, J7, q6⟩
        | false => exact ih (hno rfl)
    exact go hh w
  · cases f with
    | ret u =>
      obtain ⟨v, σ', H', J', r, q⟩ := hsp
      exact ⟨v, σ', H', J'.ofTry ok, r, q⟩
    | next => exact let ⟨_, _, J', q⟩ := hsp; wpAny_execs_nil ⟨_, _, J'.ofTry ok, q⟩
    | brk => exact let ⟨_, _, J', q⟩ := hsp; ⟨_, _, J'.ofTry ok, q⟩
    | cont => exact let ⟨_, _, J', q⟩ := hsp; ⟨_, _, J'.ofTry ok, q⟩
end
end Kr

/-! KrT: try by data. -/
namespace Kr
open PySem PySem.Spec PyProof.Rows L2
open Enc (toD)
/-- the outcome of a body, its errors taken by the suites -/
def tryR {S ρ : Type} (m : R (Fl S ρ)) (hs : Nat → Int → R (Fl S ρ)) : R (Fl S ρ) := match m with
  | .ok x => .ok x
  | .er c p => hs c p
  | .bad => .bad
section
variable {cf : Cf} {E : XK} {G : List Sl} {S ρ : Type} [Enc ρ] {enc : S → List Sl} {l : List Clz} {tb : WX → TS} {t : XK → TS} {m : R (Fl S ρ)} {hs : Nat → Int → R (Fl S ρ)}
/-- body: whatever is wished of its errors; the clauses: what they do with an error of the class c at the place p -/
theorem sb_try (hG : ∀ s ∈ G, s.own = false) (hb : ∀ E', SB cf E' (t E') G enc m) (heq : ∀ W D σ H, tb W D σ H = t (fun cls d H' => W cls d σ H') D σ H)
    (hh : ∀ (c : Nat) (p : Int) (F O H : Hp) (σ : L2.St) (D : Ends) (d : Addr), Mt cf.K F O H σ G → F d = some (xdO cf c p) → hs c p ≠ .bad →
      (∀ s F' H' σ', hs c p = .ok (.nx s) → Le F F' → Mt cf.K F' O H' σ' (enc s) → D.nx σ' H') →
      (∀ s F' H' σ', hs c p = .ok (.bk s) → Le F F' → Mt cf.K F' O H' σ' (enc s) → D.bk σ' H') →
      (∀ r v F' H', hs c p = .ok (.rt r) → Le F F' → Fm F' O H' → Dr cf.K F' v (toD r) → D.rt v H') →
      (∀ c' p' d' F' H', hs c p = .er c' p' → Le F F' → Fm F' O H' → F' d' = some (xdO cf c' p') → E (.ref (cf.cls c')) (some d') H') →
      wA cf.K (fun cls d σ H => E cls d H) D l (.ref (cf.cls c)) (some d) σ H) :
    SB cf E (fun D σ H => tb (wA cf.K (fun cls d σ H => E cls d H) D l) D σ H) G enc (tryR m hs) := fun F O H σ D hM nb kn kb kr ke => by
  have nb1 : m ≠ .bad := fun z => nb (by rw [z]; rfl)
  show tb _ D σ H
  rw [heq]
  refine hb _ F O H σ D hM nb1 (fun s F' H' σ' e => kn s F' H' σ' (by rw [e]; rfl)) (fun s F' H' σ' e => kb s F' H' σ' (by rw [e]; rfl)) (fun r v F' H' e => kr r v F' H' (by rw [e]; rfl)) fun c p d F' H' e le hf' hd => ?_
  have et : tryR m hs = hs c p := by rw [e]; rfl
  rw [et] at nb kn kb kr ke
  obtain ⟨O', lo, hf, he, o1, o2⟩ := hM
  have hM' : Mt cf.K F' O H' σ G := by
    have no : ∀ (i : Nat) (s : Sl), G[i]? = some s → s.own = false := fun i s q => hG s (List.mem_of_getElem? q)
    refine ⟨O, Le.refl O, hf', ⟨he.len, fun i s q => ?_⟩, fun i s a q ow => ?_, fun i j s t a _ q _ ow => ?_⟩
    · have h1 := (he.at' i s q).mono le
      have h2 := no i s q
      cases s with
      | un => trivial
      | va d => exact h1
      | pv v => exact h1
      | ol ds => cases h2
      | od ds => cases h2
    · rw [no i s q] at ow
      cases ow
    · rw [no i s q] at ow
      cases ow
  exact hh c p F' O H' σ D d hM' hd nb (fun s F'' H'' σ' e le' => kn s F'' H'' σ' e (le.trans le')) (fun s F'' H'' σ' e le' => kb s F'' H'' σ' e (le.trans le')) (fun r v F'' H'' e le' => kr r v F'' H'' e (le.trans le')) fun c' p' d' F'' H'' e le' => ke c' p' d' F'' H'' e (le.trans le')
end
/-- except X as n: return (n.name, n.place) -/
def tNP (i : Nat) (C : Addr) : Addr → Value → Option Addr → TS := fun a cls d => tRet (tTup (tCons (tXf a cls d C "name" (tVar i)) (tCons (tXf a cls d C "place" (tVar i)) tNil)))
theorem np_ret {cf : Cf} {G : List Sl} {F O H : Hp} {σ : L2.St} {D : Ends} {c i : Nat} {p : Int} {a d : Addr} (hM : Mt cf.K F O H σ G) (hd : F d = some (xdO cf c p)) (hi : i < G.length)
    (kr : ∀ v F' H', Le F F' → Fm F' O H' → Dr cf.K F' v (.tup [.str (cf.nm c), .int p]) → D.rt v H') : tNP i (cf.cls c) a (.ref (cf.cls c)) (some d) (gone D i) (σ.set i (some (.ref a))) H := by
  have hl : σ.length = G.length := by
    obtain ⟨O', _, _, he, _⟩ := hM
    exact he.len
  have hs : (σ.set i (some (V.ref a)))[i]? = some (some (.ref a)) := List.getElem?_set_self (by omega)
  have hH : H d = some (xdO cf c p) := hM.fm.f _ _ hd
  refine ⟨_, hs, rfl, rfl, d, _, .str (cf.nm c), rfl, hH, rfl, _, hs, rfl, rfl, d, _, .int p, rfl, hH, rfl, (by show 2 ≤ sizeLine; decide), fun q hq => ?_⟩
  have hn := hM.fm.fnone hq
  exact kr _ (upd F q (.tup [.str (cf.nm c), .int p])) _ (Le.new hn) (hM.fm.newF hq) (.tup upd_same (.cons (.str _) (.cons (.int _) .nil)))
end Kr

/-! KrU: data of two kinds, isinstance, casts. -/
namespace Kr
open PySem PySem.Spec PyProof.Rows L2
open Enc (toD)
section
variable {cf : Cf} {E : XK} {G : List Sl} {α β γ : Type} {ta : TE}
/-- the same data by another type -/
theorem EM.conv [Enc α] [Enc β] (f : α → β) (hf : ∀ a, toD (f a) = toD a) {m : R α} (h : EM cf E ta G m) : EM cf E ta G (m.bind fun a => .ok (f a)) := fun F O H σ Q hF he nb ko ke =>
  h F O H σ Q hF he (R.bind_nb nb) (fun a v F' H' e le hf' hr => ko (f a) v F' H' (by rw [e]; rfl) le hf' (by show Dr _ _ _ _; rw [hf]; exact hr)) (fun c p d F' H' e => ke c p d F' H' (by rw [e]; rfl))
def getA (s : α ⊕ β) : R α := match s with
  | .inl a => .ok a
  | .inr _ => .bad
def getB (s : α ⊕ β) : R β := match s with
  | .inl _ => .bad
  | .inr b => .ok b
theorem EM.getA [Enc α] [Enc β] {m : R (α ⊕ β)} (h : EM cf E ta G m) : EM cf E ta G (m.bind getA) := fun F O H σ Q hf he nb ko ke =>
  h F O H σ Q hf he (R.bind_nb nb) (fun a v F' H' e le hf' hr => by
    rw [e, R.ok_bind] at nb ko
    cases a with
    | inl a => exact ko a v F' H' rfl le hf' hr
    | inr b => exact absurd rfl nb) (fun c p d F' H' e => ke c p d F' H' (by rw [e]; rfl))
theorem EM.getB [Enc α] [Enc β] {m : R (α ⊕ β)} (h : EM cf E ta G m) : EM cf E ta G (m.bind getB) := fun F O H σ Q hf he nb ko ke =>
  h F O H σ Q hf he (R.bind_nb nb) (fun a v F' H' e le hf' hr => by
    rw [e, R.ok_bind] at nb ko
    cases a with
    | inl a => exact absurd rfl nb
    | inr b => exact ko b v F' H' rfl le hf' hr) (fun c p d F' H' e => ke c p d F' H' (by rw [e]; rfl))
/-- data of a known type -/
class Tyd (α : Type) [Enc α] where
  nm : α → String
  ok : ∀ (K : PySem.W.Frag) (F H : Hp) (v : V) (a : α), Le F H → Dr K F v (toD a) → TyOf K H v (.type (nm a))
instance : Tyd Int := ⟨fun _ => "int", fun K F H v a le r => by rw [dr_int (i := a) r]; exact .int a⟩
instance : Tyd Bool := ⟨fun _ => "bool", fun K F H v a le r => by rw [dr_bl (i := a) r]; exact .bl a⟩
instance : Tyd Str := ⟨fun _ => "str", fun K F H v a le r => by rw [dr_str (i := a) r]; exact .str a⟩
instance [Enc α] : Tyd (List α) := ⟨fun _ => "list", fun K F H v a le r => by
  obtain ⟨p, vs, e, h1, _⟩ := dr_lst r
  rw [e]
  exact .lst (le _ _ h1)⟩
instance [Enc α] [Enc β] : Tyd (α × β) := ⟨fun _ => "tuple", fun K F H v a le r => by
  obtain ⟨p, vs, e, h1, _⟩ := dr_tup (ds := [toD a.1, toD a.2]) r
  rw [e]
  exact .tup (le _ _ h1)⟩
instance [Enc α] [Enc β] [Enc γ] : Tyd (T3 α β γ) := ⟨fun _ => "tuple", fun K F H v a le r => by
  obtain ⟨p, vs, e, h1, _⟩ := dr_tup (ds := [toD a.a, toD a.b, toD a.c]) r
  rw [e]
  exact .tup (le _ _ h1)⟩
instance [Enc α] [Enc β] [ha : Tyd α] [hb : Tyd β] : Tyd (α ⊕ β) := ⟨fun s => match s with
  | .inl a => ha.nm a
  | .inr b => hb.nm b, fun K F H v s le r => match s, r with
  | .inl a, r => ha.ok K F H v a le r
  | .inr b, r => hb.ok K F H v b le r⟩
def isA : α ⊕ β → Bool
  | .inl _ => true
  | .inr _ => false
theorem em_isi [Enc α] [t : Tyd α] (T : String) (f : α → Bool) (hk : ∀ a, kitB (t.nm a) T = some (f a)) {m : R α} (h : EM cf E ta G m) : EM cf E (tCB (rIsi cf.K) (tCons ta (tCons (tC (.ty T)) tNil))) G (m.bind fun a => .ok (f a)) :=
  EG.bind1 (u := fun r H Q => rIsi cf.K [r, .ty T] H Q) h fun F O H Q a r hf h1 _ ko => ⟨r, .ty T, .type (t.nm a), .type T, f a, rfl, .ty T, .base (t.ok cf.K F H r a hf.f h1), kit_ty (hk a), ko _ _ F H rfl (Le.refl F) hf (.bl _)⟩
theorem em_isiA [Enc α] [Enc β] [ha : Tyd α] [hb : Tyd β] (T : String) (h1 : ∀ a : α, kitB (ha.nm a) T = some true) (h2 : ∀ b : β, kitB (hb.nm b) T = some false) {m : R (α ⊕ β)} (h : EM cf E ta G m) : EM cf E (tCB (rIsi cf.K) (tCons ta (tCons (tC (.ty T)) tNil))) G (m.bind fun a => .ok (isA a)) :=
  em_isi T isA (fun s => match s with
    | .inl a => h1 a
    | .inr b => h2 b) h
theorem em_isiB [Enc α] [Enc β] [ha : Tyd α] [hb : Tyd β] (T : String) (h1 : ∀ a : α, kitB (ha.nm a) T = some false) (h2 : ∀ b : β, kitB (hb.nm b) T = some true) {m : R (α ⊕ β)} (h : EM cf E ta G m) : EM cf E (tCB (rIsi cf.K) (tCons ta (tCons (tC (.ty T)) tNil))) G (m.bind fun a => .ok (!isA a)) :=
  em_isi T (fun s => !isA s) (fun s => match s with
    | .inl a => h1 a
    | .inr b => h2 b) h
theorem kit_int_int : kitB "int" "int" = some true := by decide +kernel
theorem kit_int_str : kitB "int" "str" = some false := by decide +kernel
theorem kit_int_list : kitB "int" "list" = some false := by decide +kernel
theorem kit_int_tuple : kitB "int" "tuple" = some false := by decide +kernel
theorem kit_str_int : kitB "str" "int" = some false := by decide +kernel
theorem kit_str_str : kitB "str" "str" = some true := by decide +kernel
theorem kit_str_list : kitB "str" "list" = some false := by decide +kernel
theorem kit_str_tuple : kitB "str" "tuple" = some false := by decide +kernel
theorem kit_list_int : kitB "list" "int" = some false := by decide +kernel
theorem kit_list_str : kitB "list" "str" = some false := by decide +kernel
theorem kit_list_list : kitB "list" "list" = some true := by decide +kernel
theorem kit_list_tuple : kitB "list" "tuple" = some false := by decide +kernel
theorem kit_tuple_int : kitB "tuple" "int" = some false := by decide +kernel
theorem kit_tuple_str : kitB "tuple" "str" = some false := by decide +kernel
theorem kit_tuple_list : kitB "tuple" "list" = some false := by decide +kernel
theorem kit_tuple_tuple : kitB "tuple" "tuple" = some true := by decide +kernel
theorem isiK {X : Cx} (K : PySem.W.Frag) (h : X.K = K) : CallR X (.builtin "isinstance") (rIsi K) := h ▸ call_isi
end
def tTryA (tb : WX → TS) (K : PySem.W.Frag) (Wout : WX) (l : List Clz) : TS := fun D σ H => tb (wA K Wout D l) D σ H
theorem ps_tryA {X : Cx} {K : PySem.W.Frag} {body : List Stmt} {h₀ : ExceptHandler} {hds : List ExceptHandler} {l : List Clz} {pos : Pos} {tb : WX → TS} (Wout : WX) (hK : X.K = K) (hs : X.stack = X.env :: X.outer) (hf : X.env.frame = some X.env.locals) (hN : X.N.Nodup) (tk : Takes X Wout)
    (hb : ∀ (W : WX) (pn : List (Addr × Obj)) (xe : Value → Shared → Prop), Takes (X.tr pn xe) W → PassesOwn (model X.prog X.w) X.A X.env xe → PSs (X.tr pn xe) body (tb W))
    (hh : HdsA X (h₀ :: hds) l) : PS X (.Try body (h₀ :: hds) [] [] pos) (tTryA tb K Wout l) := hK ▸ ps_try_all hs hf hN tk hb hh
/-- the body's reading with the wish at the slots, and the one with a fixed wish, are the same -/
def SameT (tb : WX → TS) (t : XK → TS) : Prop := ∀ (W : WX) (D D' : Ends) (σ : L2.St) (H : Hp), D.rt = D'.rt → (∀ H', D.nx σ H' = D'.nx σ H') → tb W D σ H = t (fun cls d H' => W cls d σ H') D' σ H
def SameE (tb : WX → TE) (t : XK → TE) : Prop := ∀ (W : WX) (σ : L2.St) (H : Hp) (Q : VK), tb W σ H Q = t (fun cls d H' => W cls d σ H') σ H Q
theorem hq_if {tc : TT} {t1 t2 : WX → TS} {u1 u2 : XK → TS} (h1 : SameT t1 u1) (h2 : SameT t2 u2) : SameT (fun W => tIfS tc (t1 W) (t2 W)) (fun E => tIfS tc (u1 E) (u2 E)) := fun W D D' σ H e1 e2 => by
  show tc σ H _ = tc σ H _
  congr 1
  funext b H1
  rw [h1 W D D' σ H1 e1 e2, h2 W D D' σ H1 e1 e2]
theorem hq_seq {t1 t2 : WX → TS} {u1 u2 : XK → TS} (h1 : SameT t1 u1) (h2 : SameT t2 u2) : SameT (fun W => tSeq (t1 W) (t2 W)) (fun E => tSeq (u1 E) (u2 E)) := fun W D D' σ H e1 e2 =>
  h1 W { D with nx := t2 W D } { D' with nx := u2 (fun cls d H' => W cls d σ H') D' } σ H e1 fun H' => h2 W D D' σ H' e1 e2
theorem hq_next : SameT (fun _ => tNext) (fun _ => tNext) := fun W D D' σ H e1 e2 => e2 H
theorem hq_ret {te : WX → TE} {tf : XK → TE} (h : SameE te tf) : SameT (fun W => tRet (te W)) (fun E => tRet (tf E)) := fun W D D' σ H e1 e2 => by
  show te W σ H D.rt = tf _ σ H D'.rt
  rw [h W σ H D.rt, e1]
theorem se_call {sp : Sp} {dvs : List V} {ta : TA} : SameE (fun W => tCallSD sp dvs (WE W) ta) (fun E => tCall sp dvs E ta) := fun _ _ _ _ => rfl
theorem sb_tryA {cf : Cf} {E : XK} {G : List Sl} {S ρ : Type} [Enc ρ] {enc : S → List Sl} {l : List Clz} {tb : WX → TS} {t : XK → TS} {m : R (Fl S ρ)} {hs : Nat → Int → R (Fl S ρ)} (hG : (G.all fun s => !s.own) = true) (hb : ∀ E', SB cf E' (t E') G enc m) (heq : SameT tb t)
    (hh : ∀ (c : Nat) (p : Int) (F O H : Hp) (σ : L2.St) (D : Ends) (d : Addr), Mt cf.K F O H σ G → F d = some (xdO cf c p) → hs c p ≠ .bad →
      (∀ s F' H' σ', hs c p = .ok (.nx s) → Le F F' → Mt cf.K F' O H' σ' (enc s) → D.nx σ' H') →
      (∀ s F' H' σ', hs c p = .ok (.bk s) → Le F F' → Mt cf.K F' O H' σ' (enc s) → D.bk σ' H') →
      (∀ r v F' H', hs c p = .ok (.rt r) → Le F F' → Fm F' O H' → Dr cf.K F' v (toD r) → D.rt v H') →
      (∀ c' p' d' F' H', hs c p = .er c' p' → Le F F' → Fm F' O H' → F' d' = some (xdO cf c' p') → E (.ref (cf.cls c')) (some d') H') →
      wA cf.K (fun cls d σ H => E cls d H) D l (.ref (cf.cls c)) (some d) σ H) :
    SB cf E (tTryA tb cf.K (fun cls d σ H => E cls d H) l) G enc (tryR m hs) := sb_try (fun s h => by
      have := List.all_eq_true.mp hG s h
      simpa using this) hb (fun W D σ H => heq W D D σ H rfl fun _ => rfl) hh
/-- a caught error's place alone, or behind a text -/
def tPl (i : Nat) (C : Addr) : Addr → Value → Option Addr → TS := fun a cls d => tRet (tXf a cls d C "place" (tVar i))
def tCP (i : Nat) (C : Addr) (x : Str) : Addr → Value → Option Addr → TS := fun a cls d => tRet (tTup (tCons (tC (.str x)) (tCons (tXf a cls d C "place" (tVar i)) tNil)))
theorem pl_ret {cf : Cf} {G : List Sl} {F O H : Hp} {σ : L2.St} {D : Ends} {c i : Nat} {p : Int} {a d : Addr} (hM : Mt cf.K F O H σ G) (hd : F d = some (xdO cf c p)) (hi : i < G.length)
    (kr : ∀ v F' H', Le F F' → Fm F' O H' → Dr cf.K F' v (.int p) → D.rt v H') : tPl i (cf.cls c) a (.ref (cf.cls c)) (some d) (gone D i) (σ.set i (some (.ref a))) H := by
  have hl : σ.length = G.length := by
    obtain ⟨O', _, _, he, _⟩ := hM
    exact he.len
  have hs : (σ.set i (some (V.ref a)))[i]? = some (some (.ref a)) := List.getElem?_set_self (by omega)
  have hH : H d = some (xdO cf c p) := hM.fm.f _ _ hd
  exact ⟨_, hs, rfl, rfl, d, _, .int p, rfl, hH, rfl, kr _ F _ (Le.refl F) hM.fm (.int _)⟩
theorem cp_ret {cf : Cf} {G : List Sl} {F O H : Hp} {σ : L2.St} {D : Ends} {c i : Nat} {p : Int} {a d : Addr} {x : Str} (hM : Mt cf.K F O H σ G) (hd : F d = some (xdO cf c p)) (hi : i < G.length)
    (kr : ∀ v F' H', Le F F' → Fm F' O H' → Dr cf.K F' v (.tup [.str x, .int p]) → D.rt v H') : tCP i (cf.cls c) x a (.ref (cf.cls c)) (some d) (gone D i) (σ.set i (some (.ref a))) H := by
  have hl : σ.length = G.length := by
    obtain ⟨O', _, _, he, _⟩ := hM
    exact he.len
  have hs : (σ.set i (some (V.ref a)))[i]? = some (some (.ref a)) := List.getElem?_set_self (by omega)
  have hH : H d = some (xdO cf c p) := hM.fm.f _ _ hd
  refine ⟨_, hs, rfl, rfl, d, _, .int p, rfl, hH, rfl, (by show 2 ≤ sizeLine; decide), fun q hq => ?_⟩
  have hn := hM.fm.fnone hq
  exact kr _ (upd F q (.tup [.str x, .int p])) _ (Le.new hn) (hM.fm.newF hq) (.tup upd_same (.cons (.str _) (.cons (.int _) .nil)))
/-- what catching an error class needs -/
structure XCat (K : PySem.W.Frag) (C : Addr) : Prop where
  xf : XfC K C
  nn : PySem.W.findIn K (.ref C) "name" = some none
  np : PySem.W.findIn K (.ref C) "place" = some none
end Kr

/-! KrV: equality of texts and of data of two kinds; lists of bits. -/
namespace Kr
open PySem PySem.Spec PyProof.Rows L2
open Enc (toD)
/-- data whose == is equality, if its texts are proper -/
class Eqq (α : Type) [Enc α] where
  n : Nat
  ok : α → Bool
  nd : ∀ a : α, (toD a).nd = true
  lay : ∀ a : α, ok a = true → (toD a).py.canLay0 = true
  dp : ∀ a : α, (toD a).py.depth ≤ n
  ev : ∀ a b : α, PyData.eqv (toD a).py (toD b).py = true ↔ a = b
theorem eqR_q [Enc α] [q : Eqq α] [DecidableEq α] (a b : α) (ha : q.ok a = true) (hb : q.ok b = true) (h : q.n ≤ 64 := by decide) : eqR a b = .ok (decide (a = b)) := by
  unfold eqR
  have sh : ∀ a : α, q.ok a = true → SeqAt.shaped (toD a).py = true := fun a k => by
    unfold SeqAt.shaped
    rw [Eqq.lay a k, Bool.true_and]
    exact decide_eq_true (Nat.le_trans (Eqq.dp a) h)
  rw [if_pos ⟨Eqq.nd a, Eqq.nd b, sh a ha, sh b hb⟩]
  congr 1
  by_cases e : a = b
  · rw [decide_eq_true e, (Eqq.ev a b).mpr e]
  · rw [decide_eq_false e]
    cases q : PyData.eqv (toD a).py (toD b).py with
    | false => rfl
    | true => exact absurd ((Eqq.ev a b).mp q) e
instance (priority := low) {α : Type} [Enc α] [q : Eqd α] : Eqq α := ⟨q.n, fun _ => true, q.nd, fun a _ => q.lay a, q.dp, q.ev⟩
instance : Eqq Str := ⟨0, fun s => PyData.strOk s, fun _ => rfl, fun _ h => h, fun _ => Nat.le_refl _, fun a b => by show (a == b) = true ↔ _; simp⟩
/-- never equal -/
class Dj (α β : Type) [Enc α] [Enc β] : Prop where
  l : ∀ (a : α) (b : β), PyData.eqv (toD a).py (toD b).py = false
  r : ∀ (a : α) (b : β), PyData.eqv (toD b).py (toD a).py = false
instance : Dj Int Str := ⟨fun _ _ => rfl, fun _ _ => rfl⟩
instance {α : Type} [Enc α] : Dj (List α) Str := ⟨fun _ _ => rfl, fun _ _ => rfl⟩
instance {α β γ : Type} [Enc α] [Enc β] [Enc γ] : Dj (List γ) (α × β) := ⟨fun _ _ => rfl, fun _ _ => rfl⟩
instance {α β γ : Type} [Enc α] [Enc β] [Enc γ] : Dj (α × β) (List γ) := ⟨fun _ _ => rfl, fun _ _ => rfl⟩
instance {α β : Type} [Enc α] [Enc β] : Dj Int (α × β) := ⟨fun _ _ => rfl, fun _ _ => rfl⟩
instance {α β : Type} [Enc α] [Enc β] [q : Eqq α] [p : Eqq β] [d : Dj α β] : Eqq (α ⊕ β) := ⟨max q.n p.n, fun s => match s with
  | .inl a => q.ok a
  | .inr b => p.ok b, fun s => match s with
  | .inl a => Eqq.nd a
  | .inr b => Eqq.nd b, fun s h => match s, h with
  | .inl a, h => Eqq.lay a h
  | .inr b, h => Eqq.lay b h, fun s => match s with
  | .inl a => Nat.le_trans (Eqq.dp a) (Nat.le_max_left _ _)
  | .inr b => Nat.le_trans (Eqq.dp b) (Nat.le_max_right _ _), fun s t => match s, t with
  | .inl a, .inl b => by
    show PyData.eqv (toD a).py (toD b).py = true ↔ _
    rw [Eqq.ev]
    simp
  | .inr a, .inr b => by
    show PyData.eqv (toD a).py (toD b).py = true ↔ _
    rw [Eqq.ev]
    simp
  | .inl a, .inr b => by
    show PyData.eqv (toD a).py (toD b).py = true ↔ _
    rw [d.l]
    simp
  | .inr b, .inl a => by
    show PyData.eqv (toD b).py (toD a).py = true ↔ _
    rw [d.r]
    simp⟩
instance {α β : Type} [Enc α] [Enc β] [q : Eqq α] [p : Eqq β] : Eqq (α × β) := ⟨q.n + p.n + 1, fun a => q.ok a.1 && p.ok a.2, fun a => by
    show (Dt.nd (toD a.1) && (Dt.nd (toD a.2) && true)) = true
    rw [Eqq.nd, Eqq.nd]
    rfl, fun a h => by
    obtain ⟨h1, h2⟩ := Bool.and_eq_true_iff.mp h
    show (PyData.canLay0 (toD a.1).py && (PyData.canLay0 (toD a.2).py && true)) = true
    rw [Eqq.lay _ h1, Eqq.lay _ h2]
    rfl, fun a => by
    show max (toD a.1).py.depth (max (toD a.2).py.depth 0) + 1 ≤ _
    have h1 := Eqq.dp a.1
    have h2 := Eqq.dp a.2
    omega, fun a b => by
    show (PyData.eqv (toD a.1).py (toD b.1).py && (PyData.eqv (toD a.2).py (toD b.2).py && true)) = true ↔ _
    rw [Bool.and_true, Bool.and_eq_true, Eqq.ev, Eqq.ev]
    exact Prod.ext_iff.symm⟩
instance {α : Type} [Enc α] [NN α] [q : Eqq α] : Eqq (Option α) := ⟨q.n, fun o => match o with
  | none => true
  | some a => q.ok a, fun o => match o with
  | none => rfl
  | some a => Eqq.nd (α := α) a, fun o h => match o, h with
  | none, _ => rfl
  | some a, h => Eqq.lay (α := α) a h, fun o => match o with
  | none => Nat.zero_le _
  | some a => Eqq.dp (α := α) a, fun a b => by
  have ne : ∀ a : α, (toD a).py ≠ .none := fun a h => NN.nn a (py_non h)
  cases a with
  | none =>
    cases b with
    | none => simp [PyData.eqv, toD, Enc.toD, Dt.py]
    | some b =>
      show PyData.eqv .none (toD b).py = true ↔ _
      rw [eqv_none_l (ne b)]
      simp
  | some a =>
    cases b with
    | none =>
      show PyData.eqv (toD a).py .none = true ↔ _
      rw [eqv_none_r (ne a)]
      simp
    | some b =>
      show PyData.eqv (toD a).py (toD b).py = true ↔ _
      rw [Eqq.ev a b]
      simp⟩
instance {α β : Type} [Enc α] [Enc β] [NN α] [NN β] : NN (α ⊕ β) := ⟨fun s h => match s, h with
  | .inl a, h => NN.nn a h
  | .inr b, h => NN.nn b h⟩
instance : NN Str := ⟨fun _ h => nomatch h⟩
end Kr

/-! KrW: data in a list of data, its place. -/
namespace Kr
open PySem PySem.Spec PyProof.Rows L2
open Enc (toD)
section
variable {cf : Cf} {E : XK} {G : List Sl} {α β : Type} {ta tb : TE}
def inC [Enc α] [Enc β] (a : α) (xs : List β) : Prop := (toD a).nd = true ∧ (toD xs).nd = true ∧ SeqAt.shaped (toD a).py = true ∧ SeqAt.shaped (toD xs).py = true
instance [Enc α] [Enc β] (a : α) (xs : List β) : Decidable (inC a xs) := by unfold inC; exact inferInstance
def inDR [Enc α] [Enc β] (a : α) (xs : List β) : R Bool := if inC a xs then .ok ((Dt.pyA (xs.map toD)).any fun z => PyData.eqv z (toD a).py) else .bad
theorem inDR_nb [Enc α] [Enc β] {a : α} {xs : List β} (h : inDR a xs ≠ .bad) : inC a xs ∧ inDR a xs = .ok ((Dt.pyA (xs.map toD)).any fun z => PyData.eqv z (toD a).py) := by
  unfold inDR at *
  split at h
  · rename_i c
    exact ⟨c, if_pos c⟩
  · exact absurd rfl h
theorem em_inD [Enc α] [Enc β] {m : R α} {n : R (List β)} (h : EE cf E ta G m) (h' : EE cf E tb G n) : EM cf E (tOp (rInD cf.K) ta tb) G (m.bind fun a => n.bind fun b => inDR a b) :=
  EG.bind2 (u := fun x y H Q => rInD cf.K x y H Q) h h' (fun F O H F' H' r a le hf' h F'' H'' le' hf'' => h F'' H'' (le.trans le') hf'') fun F O H Q a r b s hf h1 h2 nb ko => by
    obtain ⟨⟨c1, c2, c3, c4⟩, ec⟩ := inDR_nb nb
    exact ⟨_, _, h1 F H (Le.refl F) hf c1, h2 F H (Le.refl F) hf c2, c3, c4, ko _ _ F H ec (Le.refl F) hf (.bl _)⟩
theorem em_niD [Enc α] [Enc β] {m : R α} {n : R (List β)} (h : EE cf E ta G m) (h' : EE cf E tb G n) : EM cf E (tOp (rNotInD cf.K) ta tb) G (m.bind fun a => n.bind fun b => (inDR a b).bind fun c => .ok (!c)) :=
  EG.bind2 (f := fun a b => (inDR a b).bind fun c => .ok (!c)) (u := fun x y H Q => rNotInD cf.K x y H Q) h h' (fun F O H F' H' r a le hf' h F'' H'' le' hf'' => h F'' H'' (le.trans le') hf'') fun F O H Q a r b s hf h1 h2 nb ko => by
    obtain ⟨⟨c1, c2, c3, c4⟩, ec⟩ := inDR_nb (R.bind_nb nb)
    rw [ec] at ko
    exact ⟨_, _, h1 F H (Le.refl F) hf c1, h2 F H (Le.refl F) hf c2, c3, c4, ko _ _ F H rfl (Le.refl F) hf (.bl _)⟩
def indexDR [Enc α] [Enc β] (xs : List β) (a : α) : R Int := if inC a xs then (match (Dt.pyA (xs.map toD)).findIdx? fun z => PyData.eqv z (toD a).py with
  | some j => .ok (j : Nat)
  | none => .bad) else .bad
theorem indexDR_nb [Enc α] [Enc β] {a : α} {xs : List β} (h : indexDR xs a ≠ .bad) : inC a xs ∧ ∃ j, (Dt.pyA (xs.map toD)).findIdx? (fun z => PyData.eqv z (toD a).py) = some j ∧ indexDR xs a = .ok (j : Nat) := by
  unfold indexDR at *
  split at h
  · rename_i c
    rw [if_pos c]
    cases q : (Dt.pyA (xs.map toD)).findIdx? fun z => PyData.eqv z (toD a).py with
    | some j => exact ⟨c, j, rfl, rfl⟩
    | none =>
      rw [q] at h
      exact absurd rfl h
  · exact absurd rfl h
theorem em_indexD [Enc α] [Enc β] {m : R (List β)} {n : R α} (h : EM cf E ta G m) (h' : EE cf E tb G n) : EM cf E (tBM cf.K "list" (rIndexD cf.K) ta (tCons tb tNil)) G (m.bind fun xs => n.bind fun a => indexDR xs a) := fun F O H σ Q hf he nb ko ke => by
  refine h F O H σ _ hf he (R.bind_nb nb) (fun xs v F1 H1 e1 l1 hf1 r1 => ?_) (fun c p d F' H' e le hf' hd => ke c p d F' H' (by rw [e]; rfl) le hf' hd)
  rw [e1, R.ok_bind] at nb ko ke
  obtain ⟨p, vs, rfl, hp, hv⟩ := dr_lst r1
  refine ⟨.inl ⟨rfl, vs, SqL.of (hf1.f _ _ hp)⟩, ?_⟩
  refine h' F1 O H1 σ _ hf1 (he.mono l1) (R.bind_nb nb) (fun a w F2 H2 e2 l2 hf2 r2 => ?_) (fun c p d F' H' e le hf' hd => ke c p d F' H' (by rw [e]; rfl) (l1.trans le) hf' hd)
  rw [e2, R.ok_bind] at nb ko ke
  obtain ⟨⟨c1, c2, c3, c4⟩, j, hj, ec⟩ := indexDR_nb nb
  have hd : Dp cf.K H2 (.ref p) (toD xs).py := Dr.dp (l2.trans hf2.f) r1 c2
  obtain ⟨hlt, hz, hno⟩ := List.findIdx?_eq_some_iff_getElem.mp hj
  exact ⟨p, w, _, _, j, _, rfl, rfl, hd, r2 F2 H2 (Le.refl F2) hf2 c1, c4, c3, List.getElem?_eq_getElem hlt, hz, fun i z' hi hz' => by
    obtain ⟨hl', e'⟩ := List.getElem?_eq_some_iff.mp hz'
    rw [← e']
    exact eq_false_of_ne_true (hno i hi), ko _ _ F2 H2 ec (l1.trans l2) hf2 (.int _)⟩
theorem _root_.L2.Room.units1 {k : Nat} {A : Around} (r : Room k A) : A.units + 65 < cLine := by have := r.un; omega
theorem inDK {X : Cx} (K : PySem.W.Frag) (h : X.K = K) (hu : X.A.units + 65 < cLine) : OpR X (compareOp .In) (rInD K) := h ▸ op_inD hu
theorem ninDK {X : Cx} (K : PySem.W.Frag) (h : X.K = K) (hu : X.A.units + 65 < cLine) : OpR X (compareOp .NotIn) (rNotInD K) := h ▸ op_notInD hu
theorem indexDK {X : Cx} (K : PySem.W.Frag) (h : X.K = K) (hu : X.A.units + 65 < cLine) : MtR X "list.index" (rIndexD K) := h ▸ mt_indexD hu
end
end Kr

namespace Kx
open PySem PySem.Spec PyProof.Rows L2 Kr
open Enc (toD)
/-! ### the text by places -/
def topS (i : Nat) : Stmt := PySem.Challenge.pw_kraftroom_k02_symbols_read_and_written.main.body.getD i (.Pass ⟨0, 0, 0, 0⟩)
abbrev s_field_bits : Stmt := topS 5
abbrev s_words : Stmt := topS 6
abbrev s_write_symbols : Stmt := topS 7
abbrev s_read_word : Stmt := topS 8
abbrev s_read_symbols : Stmt := topS 9
abbrev s__law_cell : Stmt := topS 11
abbrev s__law_lengths : Stmt := topS 12
abbrev s__law_fitting : Stmt := topS 14
abbrev s__law_words : Stmt := topS 15
abbrev s__law_read : Stmt := topS 16
abbrev s__law_told : Stmt := topS 17
abbrev s_law : Stmt := topS 18
/-- what the top has left -/
structure Txt (P : Program) (w : World) (cf : Cf) (mg : Str → Option Value) (base : Heap) where
  a_field_bits : Addr
  d_field_bits : FuncData
  F_field_bits : Fun cf.K "field_bits" "field_bits" s_field_bits a_field_bits d_field_bits
  b_field_bits : Binds cf.K d_field_bits ["width", "value"] []
  g_field_bits : mg "field_bits" = some (.ref a_field_bits)
  a_words : Addr
  d_words : FuncData
  F_words : Fun cf.K "words" "words" s_words a_words d_words
  b_words : Binds cf.K d_words ["lengths"] []
  g_words : mg "words" = some (.ref a_words)
  a_write_symbols : Addr
  d_write_symbols : FuncData
  F_write_symbols : Fun cf.K "write_symbols" "write_symbols" s_write_symbols a_write_symbols d_write_symbols
  b_write_symbols : Binds cf.K d_write_symbols ["lengths", "message"] []
  g_write_symbols : mg "write_symbols" = some (.ref a_write_symbols)
  a_read_word : Addr
  d_read_word : FuncData
  F_read_word : Fun cf.K "read_word" "read_word" s_read_word a_read_word d_read_word
  b_read_word : Binds cf.K d_read_word ["table", "longest", "bits", "at"] []
  g_read_word : mg "read_word" = some (.ref a_read_word)
  a_read_symbols : Addr
  d_read_symbols : FuncData
  F_read_symbols : Fun cf.K "read_symbols" "read_symbols" s_read_symbols a_read_symbols d_read_symbols
  b_read_symbols : Binds cf.K d_read_symbols ["lengths", "bits", "at", "count"] []
  g_read_symbols : mg "read_symbols" = some (.ref a_read_symbols)
  a__law_cell : Addr
  d__law_cell : FuncData
  F__law_cell : Fun cf.K "_law_cell" "_law_cell" s__law_cell a__law_cell d__law_cell
  b__law_cell : Binds cf.K d__law_cell ["_law_script", "_law_k"] []
  g__law_cell : mg "_law_cell" = some (.ref a__law_cell)
  a__law_lengths : Addr
  d__law_lengths : FuncData
  F__law_lengths : Fun cf.K "_law_lengths" "_law_lengths" s__law_lengths a__law_lengths d__law_lengths
  b__law_lengths : Binds cf.K d__law_lengths ["_law_script", "_law_first", "_law_many"] []
  g__law_lengths : mg "_law_lengths" = some (.ref a__law_lengths)
  a__law_fitting : Addr
  d__law_fitting : FuncData
  F__law_fitting : Fun cf.K "_law_fitting" "_law_fitting" s__law_fitting a__law_fitting d__law_fitting
  b__law_fitting : Binds cf.K d__law_fitting ["_law_lengths_here"] []
  g__law_fitting : mg "_law_fitting" = some (.ref a__law_fitting)
  a__law_words : Addr
  d__law_words : FuncData
  F__law_words : Fun cf.K "_law_words" "_law_words" s__law_words a__law_words d__law_words
  b__law_words : Binds cf.K d__law_words ["_law_lengths_here"] []
  g__law_words : mg "_law_words" = some (.ref a__law_words)
  a__law_read : Addr
  d__law_read : FuncData
  F__law_read : Fun cf.K "_law_read" "_law_read" s__law_read a__law_read d__law_read
  b__law_read : Binds cf.K d__law_read ["_law_table", "_law_bits", "_law_at", "_law_count"] []
  g__law_read : mg "_law_read" = some (.ref a__law_read)
  a__law_told : Addr
  d__law_told : FuncData
  F__law_told : Fun cf.K "_law_told" "_law_told" s__law_told a__law_told d__law_told
  b__law_told : Binds cf.K d__law_told ["_law_lengths_here", "_law_bits", "_law_at", "_law_count"] []
  g__law_told : mg "_law_told" = some (.ref a__law_told)
  a_law : Addr
  d_law : FuncData
  F_law : Fun cf.K "law" "law" s_law a_law d_law
  b_law : Binds cf.K d_law ["_law_script"] []
  g_law : mg "law" = some (.ref a_law)
  n_any : mg "any" = none
  n_enumerate : mg "enumerate" = none
  n_int : mg "int" = none
  n_len : mg "len" = none
  n_list : mg "list" = none
  n_max : mg "max" = none
  n_min : mg "min" = none
  n_range : mg "range" = none
  n_sorted : mg "sorted" = none
  X_Truncated : XErr P w cf mg base 0 "Truncated"
  X_InvalidWord : XErr P w cf mg base 1 "InvalidWord"
  nm_Truncated : cf.nm 0 = "Truncated"
  Y_Truncated : XCat cf.K (cf.cls 0)
  m_0_0 : PySem.W.exmOne cf.K (.ref (cf.cls 0)) (.ref (cf.cls 0)) = some true
  m_0_1 : PySem.W.exmOne cf.K (.ref (cf.cls 0)) (.ref (cf.cls 1)) = some false
  nm_InvalidWord : cf.nm 1 = "InvalidWord"
  Y_InvalidWord : XCat cf.K (cf.cls 1)
  m_1_0 : PySem.W.exmOne cf.K (.ref (cf.cls 1)) (.ref (cf.cls 0)) = some false
  m_1_1 : PySem.W.exmOne cf.K (.ref (cf.cls 1)) (.ref (cf.cls 1)) = some true
/-! ### what the defs compute -/
def b_field_bits (width_1 : Int) (value_2 : Int) : R (Fl Unit (List Int)) :=
  (R.bind (R.bind (R.bind (R.bind (R.ok width_1) fun a_3 => R.bind (R.ok (1 : Int)) fun b_4 => R.ok (a_3 - b_4)) fun a_7 => R.bind (R.bind (R.ok (1 : Int)) fun a_5 => R.ok (-a_5)) fun b_8 => R.bind (R.bind (R.ok (1 : Int)) fun a_6 => R.ok (-a_6)) fun c_9 => rng3R a_7 b_8 c_9) (lcR (fun shift_10 => (R.ok true)) (fun shift_10 => (R.bind (R.bind (R.ok value_2) fun a_11 => R.bind (R.ok shift_10) fun b_12 => shrR a_11 b_12) fun a_13 => R.bind (R.ok (1 : Int)) fun b_14 => R.ok (Builtin.bitAnd a_13 b_14))))) fun a_15 => R.ok (Fl.rt a_15))
def f_field_bits (width_1 : Int) (value_2 : Int) : R (List Int) := finR (b_field_bits width_1 value_2)
def b_words (lengths_16 : (List Int)) : R (Fl Unit (List (Option (List Int)))) :=
  (R.bind (R.bind (R.bind (R.bind (R.ok (none : (Option (List Int)))) fun a_17 => R.bind (R.ok ([] : List (Option (List Int)))) fun b_18 => R.ok (a_17 :: b_18)) szR) fun a_20 => R.bind (R.bind (R.ok lengths_16) fun a_19 => R.ok (List.length a_19 : Int)) fun b_21 => repR a_20 b_21) fun result_22 => (R.bind (R.bind (R.bind (R.bind (R.ok lengths_16) fun a_23 => R.ok (enumL a_23)) (lcR (fun symbol_24 => (R.bind (R.ok symbol_24.2) fun a_25 => R.bind (R.ok (0 : Int)) fun b_26 => R.ok (decide (b_26 < a_25)))) (fun symbol_24 => (R.bind (R.ok symbol_24.2) fun a_27 => R.bind (R.ok symbol_24.1) fun b_28 => R.ok (a_27, b_28))))) sortR) fun order_29 => (R.bind (R.ok (0 : Int)) fun value_30 => (R.bind (R.bind (R.bind (R.ok order_29) fun a_31 => R.bind (R.ok (0 : Int)) fun b_32 => idxR a_31 b_32) fun a_33 => R.ok a_33.1) fun width_34 => (R.bind (R.ok order_29) fun xs_53 => forR (fun (st_35 : ((List (Option (List Int))) × (Int × Int))) (length_36 : (Int × Int)) => ((R.bind (R.bind (R.ok st_35.2.1) fun a_39 => R.bind (R.bind (R.ok length_36.1) fun a_37 => R.bind (R.ok st_35.2.2) fun b_38 => R.ok (a_37 - b_38)) fun b_40 => shlR a_39 b_40) fun value_41 => (R.bind (R.ok length_36.1) fun width_42 => (R.bind (R.bind (R.bind (R.ok width_42) fun a_43 => R.bind (R.ok value_41) fun b_44 => R.pu (f_field_bits a_43 b_44)) fun o_45 => R.ok (some o_45)) fun y_50 => R.bind (R.ok length_36.2) fun k_51 => R.bind (setR st_35.1 k_51 y_50) fun result_46 => (R.bind (R.bind (R.ok value_41) fun a_47 => R.bind (R.ok (1 : Int)) fun b_48 => R.ok (a_47 + b_48)) fun value_49 => (R.ok (Fl.nx (result_46, value_49, width_42))))))) : R (Fl ((List (Option (List Int))) × (Int × Int)) (List (Option (List Int)))))) (fun (st_35 : ((List (Option (List Int))) × (Int × Int))) => (R.bind (R.ok st_35.1) fun a_52 => R.ok (Fl.rt a_52))) xs_53 (result_22, value_30, width_34))))))
def f_words (lengths_16 : (List Int)) : R (List (Option (List Int))) := finR (b_words lengths_16)
def b_write_symbols (lengths_54 : (List Int)) (message_55 : (List Int)) : R (Fl Unit (List Int)) :=
  (R.bind (R.bind (R.ok lengths_54) fun a_56 => R.pu (f_words a_56)) fun table_57 => (R.bind (R.bind (R.ok ([] : List Int)) szR) fun bits_58 => (R.bind (R.ok message_55) fun xs_66 => forR (fun (st_59 : (List Int)) (symbol_60 : Int) => ((R.bind (R.bind (R.bind (R.ok table_57) fun a_62 => R.bind (R.ok symbol_60) fun b_63 => idxR a_62 b_63) getR) fun y_64 => R.bind (szR (st_59 ++ y_64)) fun bits_61 => (R.ok (Fl.nx bits_61))) : R (Fl (List Int) (List Int)))) (fun (st_59 : (List Int)) => (R.bind (R.ok st_59) fun a_65 => R.ok (Fl.rt a_65))) xs_66 bits_58)))
def f_write_symbols (lengths_54 : (List Int)) (message_55 : (List Int)) : R (List Int) := finR (b_write_symbols lengths_54 message_55)
def b_read_word (table_67 : (List (Option (List Int)))) (longest_68 : Int) (bits_69 : (List Int)) (at_70 : Int) : R (Fl Unit (Int × Int)) :=
  (R.bind (R.bind (R.ok (1 : Int)) fun a_73 => R.bind (R.bind (R.ok longest_68) fun a_71 => R.bind (R.ok (1 : Int)) fun b_72 => R.ok (a_71 + b_72)) fun b_74 => rng2R a_73 b_74) fun xs_117 => forR (fun (st_75 : Unit) (width_76 : Int) => ((R.bind (R.bind (R.bind (R.ok at_70) fun a_77 => R.bind (R.ok width_76) fun b_78 => R.ok (a_77 + b_78)) fun a_80 => R.bind (R.bind (R.ok bits_69) fun a_79 => R.ok (List.length a_79 : Int)) fun b_81 => R.ok (decide (b_81 < a_80))) fun c_82 => if c_82 = true then (R.bind (R.bind (R.ok bits_69) fun a_83 => R.ok (List.length a_83 : Int)) fun p_84 => R.er 0 p_84) else (R.bind (R.bind (R.ok bits_69) fun xs_89 => R.bind (R.bind (R.ok at_70) fun a_85 => R.ok (some a_85)) fun lo_90 => R.bind (R.bind (R.bind (R.ok at_70) fun a_86 => R.bind (R.ok width_76) fun b_87 => R.ok (a_86 + b_87)) fun a_88 => R.ok (some a_88)) fun hi_91 => R.ok (cut xs_89 lo_90 hi_91)) fun part_92 => (R.bind (R.bind (R.ok part_92) fun a_93 => R.bind (R.ok table_67) fun b_94 => inDR a_93 b_94) fun c_95 => if c_95 = true then (R.bind (R.bind (R.bind (R.ok table_67) fun a_96 => R.bind (R.ok part_92) fun b_97 => indexDR a_96 b_97) fun a_100 => R.bind (R.bind (R.ok at_70) fun a_98 => R.bind (R.ok width_76) fun b_99 => R.ok (a_98 + b_99)) fun b_101 => R.ok (a_100, b_101)) fun a_102 => R.ok (Fl.rt a_102)) else (R.bind (R.bind (R.bind (R.bind (R.ok table_67) (lcR (fun word_103 => (R.ok true)) (fun word_103 => (R.bind (R.bind (R.ok word_103) fun a_104 => R.ok (Option.isSome a_104)) fun c_111 => if c_111 = true then (R.bind (R.bind (R.bind (R.ok word_103) getR) fun xs_106 => R.bind (R.ok none) fun lo_107 => R.bind (R.bind (R.ok width_76) fun a_105 => R.ok (some a_105)) fun hi_108 => R.ok (cut xs_106 lo_107 hi_108)) fun a_109 => R.bind (R.ok part_92) fun b_110 => eqR a_109 b_110) else R.ok false)))) fun a_112 => R.ok (List.any a_112 id)) fun a_113 => R.ok (!a_113)) fun c_114 => if c_114 = true then (R.bind (R.ok at_70) fun p_115 => R.er 1 p_115) else (R.ok (Fl.nx ())))))) : R (Fl Unit (Int × Int)))) (fun (st_75 : Unit) => (R.bind (R.ok at_70) fun p_116 => R.er 1 p_116)) xs_117 ())
def f_read_word (table_67 : (List (Option (List Int)))) (longest_68 : Int) (bits_69 : (List Int)) (at_70 : Int) : R (Int × Int) := finR (b_read_word table_67 longest_68 bits_69 at_70)
def b_read_symbols (lengths_118 : (List Int)) (bits_119 : (List Int)) (at_120 : Int) (count_121 : Int) : R (Fl Unit ((List Int) × Int)) :=
  (R.bind (R.bind (R.ok lengths_118) fun a_122 => R.pu (f_words a_122)) fun table_123 => (R.bind (R.bind (R.ok lengths_118) maxR) fun longest_124 => (R.bind (R.bind (R.ok ([] : List Int)) szR) fun message_125 => (R.bind (R.bind (R.ok count_121) rng1R) fun xs_139 => forR (fun (st_127 : (Int × (List Int))) (k_128 : Int) => ((R.bind (R.bind (R.ok table_123) fun a_129 => R.bind (R.ok longest_124) fun b_130 => R.bind (R.ok bits_119) fun c_131 => R.bind (R.ok st_127.1) fun d_132 => (f_read_word a_129 b_130 c_131 d_132)) fun p_133 => (R.bind (R.ok p_133.1) fun y_135 => R.bind (szR (st_127.2 ++ [y_135])) fun message_134 => (R.ok (Fl.nx (p_133.2, message_134))))) : R (Fl (Int × (List Int)) ((List Int) × Int)))) (fun (st_127 : (Int × (List Int))) => (R.bind (R.bind (R.ok st_127.2) fun a_136 => R.bind (R.ok st_127.1) fun b_137 => R.ok (a_136, b_137)) fun a_138 => R.ok (Fl.rt a_138))) xs_139 (at_120, message_125)))))
def f_read_symbols (lengths_118 : (List Int)) (bits_119 : (List Int)) (at_120 : Int) (count_121 : Int) : R ((List Int) × Int) := finR (b_read_symbols lengths_118 bits_119 at_120 count_121)
def b__law_cell (script_140 : Scr) (k_141 : Int) : R (Fl Unit Int) :=
  (R.bind (R.bind (R.ok k_141) fun a_143 => R.bind (R.bind (R.bind (R.ok script_140) fun z => R.ok z.ns) fun a_142 => R.ok (List.length a_142 : Int)) fun b_144 => R.ok (decide (a_143 < b_144))) fun c_145 => if c_145 = true then (R.bind (R.bind (R.bind (R.ok script_140) fun z => R.ok z.ns) fun a_146 => R.bind (R.ok k_141) fun b_147 => idxR a_146 b_147) fun a_148 => R.ok (Fl.rt a_148)) else (R.bind (R.ok (0 : Int)) fun a_149 => R.ok (Fl.rt a_149)))
def f__law_cell (script_140 : Scr) (k_141 : Int) : R Int := finR (b__law_cell script_140 k_141)
def b__law_lengths (script_150 : Scr) (first_151 : Int) (many_152 : Int) : R (Fl Unit (List Int)) :=
  (R.bind (R.bind (R.ok ([] : List Int)) szR) fun lengths_here_153 => (R.bind (R.bind (R.ok many_152) rng1R) fun xs_198 => forR (fun (st_155 : (List Int)) (k_156 : Int) => ((R.bind (R.bind (R.ok script_150) fun a_159 => R.bind (R.bind (R.ok first_151) fun a_157 => R.bind (R.ok k_156) fun b_158 => R.ok (a_157 + b_158)) fun b_160 => R.pu (f__law_cell a_159 b_160)) fun cell_here_161 => (R.bind (R.bind (R.ok (1 : Int)) fun a_164 => R.bind (R.bind (R.ok cell_here_161) fun a_162 => R.bind (R.ok (6 : Int)) fun b_163 => modR a_162 b_163) fun b_165 => R.ok (a_164 + b_165)) fun length_166 => (seqF ((R.bind (R.bind (R.bind (R.ok cell_here_161) fun a_167 => R.bind (R.ok (7 : Int)) fun b_168 => modR a_167 b_168) fun a_169 => R.bind (R.ok (3 : Int)) fun b_170 => R.ok (decide (a_169 = b_170))) fun c_171 => if c_171 = true then (R.bind (R.ok (0 : Int)) fun length_174 => (R.ok (Fl.nx length_174))) else (R.ok (Fl.nx length_166))) : R (Fl Int (List Int))) fun st_173 => (seqF ((R.bind (R.bind (R.bind (R.ok cell_here_161) fun a_175 => R.bind (R.ok (41 : Int)) fun b_176 => modR a_175 b_176) fun a_177 => R.bind (R.ok (5 : Int)) fun b_178 => R.ok (decide (a_177 = b_178))) fun c_179 => if c_179 = true then (R.bind (R.bind (R.ok (1 : Int)) fun a_192 => R.bind (R.bind (R.bind (R.ok cell_here_161) fun a_188 => R.bind (R.ok (41 : Int)) fun b_189 => divR a_188 b_189) fun a_190 => R.bind (R.ok (20 : Int)) fun b_191 => modR a_190 b_191) fun b_193 => R.ok (a_192 + b_193)) fun length_194 => (R.ok (Fl.nx length_194))) else (R.ok (Fl.nx st_173))) : R (Fl Int (List Int))) fun st_187 => (R.bind (R.ok st_187) fun y_196 => R.bind (szR (st_155 ++ [y_196])) fun lengths_here_195 => (R.ok (Fl.nx lengths_here_195))))))) : R (Fl (List Int) (List Int)))) (fun (st_155 : (List Int)) => (R.bind (R.ok st_155) fun a_197 => R.ok (Fl.rt a_197))) xs_198 lengths_here_153))
def f__law_lengths (script_150 : Scr) (first_151 : Int) (many_152 : Int) : R (List Int) := finR (b__law_lengths script_150 first_151 many_152)
def b__law_fitting (lengths_here_199 : (List Int)) : R (Fl Unit (List Int)) :=
  (R.bind (R.bind (R.ok ([] : List Int)) szR) fun fitted_200 => (R.bind (R.ok (1048576 : Int)) fun left_201 => (R.bind (R.ok lengths_here_199) fun xs_266 => forR (fun (st_202 : ((List Int) × Int)) (length_203 : Int) => ((R.bind (R.bind (R.ok (20 : Int)) rng1R) fun xs_254 => forR (fun (st_205 : Int) (turn_206 : Int) => ((R.bind (R.bind (R.bind (R.ok (0 : Int)) fun a_207 => R.bind (R.ok st_205) fun b_208 => if decide (a_207 < b_208) = true then R.bind (R.ok (20 : Int)) fun c_209 => R.ok (decide (b_208 < c_209)) else R.ok false) fun c_216 => if c_216 = true then (R.bind (R.bind (R.ok (1048576 : Int)) fun a_212 => R.bind (R.bind (R.ok (1 : Int)) fun a_210 => R.bind (R.ok st_205) fun b_211 => shlR a_210 b_211) fun b_213 => divR a_212 b_213) fun a_214 => R.bind (R.ok st_202.2) fun b_215 => R.ok (decide (b_215 < a_214))) else R.ok false) fun c_217 => if c_217 = true then (R.bind (R.bind (R.ok st_205) fun a_218 => R.bind (R.ok (1 : Int)) fun b_219 => R.ok (a_218 + b_219)) fun length_220 => (R.ok (Fl.nx length_220))) else (R.ok (Fl.nx st_205))) : R (Fl Int (List Int)))) (fun (st_205 : Int) => (seqF ((R.bind (R.bind (R.bind (R.ok st_205) fun a_221 => R.bind (R.ok (0 : Int)) fun b_222 => R.ok (decide (b_222 < a_221))) fun c_229 => if c_229 = true then (R.bind (R.bind (R.ok (1048576 : Int)) fun a_225 => R.bind (R.bind (R.ok (1 : Int)) fun a_223 => R.bind (R.ok st_205) fun b_224 => shlR a_223 b_224) fun b_226 => divR a_225 b_226) fun a_227 => R.bind (R.ok st_202.2) fun b_228 => R.ok (decide (b_228 < a_227))) else R.ok false) fun c_230 => if c_230 = true then (R.bind (R.ok (0 : Int)) fun length_233 => (R.ok (Fl.nx length_233))) else (R.ok (Fl.nx st_205))) : R (Fl Int (List Int))) fun st_232 => (seqF ((R.bind (R.bind (R.ok st_232) fun a_234 => R.bind (R.ok (0 : Int)) fun b_235 => R.ok (decide (b_235 < a_234))) fun c_236 => if c_236 = true then (R.bind (R.bind (R.ok st_202.2) fun a_249 => R.bind (R.bind (R.ok (1048576 : Int)) fun a_247 => R.bind (R.bind (R.ok (1 : Int)) fun a_245 => R.bind (R.ok st_232) fun b_246 => shlR a_245 b_246) fun b_248 => divR a_247 b_248) fun b_250 => R.ok (a_249 - b_250)) fun left_251 => (R.ok (Fl.nx left_251))) else (R.ok (Fl.nx st_202.2))) : R (Fl Int (List Int))) fun st_244 => (R.bind (R.ok st_232) fun y_253 => R.bind (szR (st_202.1 ++ [y_253])) fun fitted_252 => (R.ok (Fl.nx (fitted_252, st_244))))))) xs_254 length_203) : R (Fl ((List Int) × Int) (List Int)))) (fun (st_202 : ((List Int) × Int)) => (seqF ((R.bind (R.bind (R.bind (R.ok st_202.1) maxR) fun a_255 => R.bind (R.ok (0 : Int)) fun b_256 => R.ok (decide (a_255 = b_256))) fun c_257 => if c_257 = true then (R.bind (R.ok (3 : Int)) fun y_263 => R.bind (R.ok (0 : Int)) fun k_264 => R.bind (setR st_202.1 k_264 y_263) fun fitted_262 => (R.ok (Fl.nx fitted_262))) else (R.ok (Fl.nx st_202.1))) : R (Fl (List Int) (List Int))) fun st_261 => (R.bind (R.ok st_261) fun a_265 => R.ok (Fl.rt a_265)))) xs_266 (fitted_200, left_201))))
def f__law_fitting (lengths_here_199 : (List Int)) : R (List Int) := finR (b__law_fitting lengths_here_199)
def b__law_words (lengths_here_267 : (List Int)) : R (Fl Unit (List (Option (List Int)))) :=
  (R.bind (R.bind (R.ok lengths_here_267) (lcR (fun length_268 => (R.ok true)) (fun length_268 => (R.ok (none : (Option (List Int))))))) fun table_269 => (R.bind (R.ok (0 : Int)) fun value_270 => (R.bind (R.ok (0 : Int)) fun width_271 => (R.bind (R.bind (R.ok (1 : Int)) fun a_272 => R.bind (R.ok (21 : Int)) fun b_273 => rng2R a_272 b_273) fun xs_314 => forR (fun (st_274 : ((List (Option (List Int))) × (Int × Int))) (length_275 : Int) => ((R.bind (R.bind (R.bind (R.ok lengths_here_267) fun a_276 => R.ok (List.length a_276 : Int)) rng1R) fun xs_312 => forR (fun (st_278 : ((List (Option (List Int))) × (Int × Int))) (k_279 : Int) => ((R.bind (R.bind (R.bind (R.ok lengths_here_267) fun a_280 => R.bind (R.ok k_279) fun b_281 => idxR a_280 b_281) fun a_282 => R.bind (R.ok length_275) fun b_283 => R.ok (decide (a_282 = b_283))) fun c_284 => if c_284 = true then (R.bind (R.bind (R.ok st_278.2.1) fun a_289 => R.bind (R.bind (R.ok (1 : Int)) fun a_287 => R.bind (R.bind (R.ok length_275) fun a_285 => R.bind (R.ok st_278.2.2) fun b_286 => R.ok (a_285 - b_286)) fun b_288 => shlR a_287 b_288) fun b_290 => mulR a_289 b_290) fun value_291 => (R.bind (R.ok length_275) fun width_292 => (R.bind (R.bind (R.bind (R.bind (R.ok length_275) rng1R) (lcR (fun j_294 => (R.ok true)) (fun j_294 => (R.bind (R.bind (R.ok value_291) fun a_301 => R.bind (R.bind (R.ok (1 : Int)) fun a_299 => R.bind (R.bind (R.bind (R.ok length_275) fun a_295 => R.bind (R.ok (1 : Int)) fun b_296 => R.ok (a_295 - b_296)) fun a_297 => R.bind (R.ok j_294) fun b_298 => R.ok (a_297 - b_298)) fun b_300 => shlR a_299 b_300) fun b_302 => divR a_301 b_302) fun a_303 => R.bind (R.ok (2 : Int)) fun b_304 => modR a_303 b_304)))) fun o_305 => R.ok (some o_305)) fun y_310 => R.bind (R.ok k_279) fun k_311 => R.bind (setR st_278.1 k_311 y_310) fun table_306 => (R.bind (R.bind (R.ok value_291) fun a_307 => R.bind (R.ok (1 : Int)) fun b_308 => R.ok (a_307 + b_308)) fun value_309 => (R.ok (Fl.nx (table_306, value_309, width_292))))))) else (R.ok (Fl.nx (st_278.1, st_278.2.1, st_278.2.2)))) : R (Fl ((List (Option (List Int))) × (Int × Int)) (List (Option (List Int)))))) (fun (st_278 : ((List (Option (List Int))) × (Int × Int))) => (R.ok (Fl.nx (st_278.1, st_278.2.1, st_278.2.2)))) xs_312 (st_274.1, st_274.2.1, st_274.2.2)) : R (Fl ((List (Option (List Int))) × (Int × Int)) (List (Option (List Int)))))) (fun (st_274 : ((List (Option (List Int))) × (Int × Int))) => (R.bind (R.ok st_274.1) fun a_313 => R.ok (Fl.rt a_313))) xs_314 (table_269, value_270, width_271)))))
def f__law_words (lengths_here_267 : (List Int)) : R (List (Option (List Int))) := finR (b__law_words lengths_here_267)
def b__law_read (table_315 : (List (Option (List Int)))) (bits_316 : (List Int)) (at_317 : Int) (count_318 : Int) : R (Fl Unit (((List Int) ⊕ Str) × Int)) :=
  (R.bind (R.bind (R.ok ([] : List Int)) szR) fun message_319 => (R.bind (R.bind (R.ok count_318) rng1R) fun xs_383 => forR (fun (st_321 : (Int × (List Int))) (turn_322 : Int) => ((R.bind (R.ok (none : (Option (Int × Int)))) fun found_323 => (R.bind (R.bind (R.bind (R.ok st_321.1) fun a_324 => R.bind (R.ok (1 : Int)) fun b_325 => R.ok (a_324 + b_325)) fun a_329 => R.bind (R.bind (R.bind (R.ok bits_316) fun a_326 => R.ok (List.length a_326 : Int)) fun a_327 => R.bind (R.ok (1 : Int)) fun b_328 => R.ok (a_327 + b_328)) fun b_330 => rng2R a_329 b_330) fun xs_378 => forR (fun (st_331 : (Option (Int × Int))) (stop_332 : Int) => ((R.bind (R.bind (R.ok bits_316) fun xs_335 => R.bind (R.bind (R.ok st_321.1) fun a_333 => R.ok (some a_333)) fun lo_336 => R.bind (R.bind (R.ok stop_332) fun a_334 => R.ok (some a_334)) fun hi_337 => R.ok (cut xs_335 lo_336 hi_337)) fun part_338 => (R.bind (R.bind (R.ok part_338) fun a_339 => R.bind (R.ok table_315) fun b_340 => inDR a_339 b_340) fun c_341 => if c_341 = true then (R.bind (R.bind (R.bind (R.bind (R.ok table_315) fun a_342 => R.bind (R.ok part_338) fun b_343 => indexDR a_342 b_343) fun a_344 => R.bind (R.ok stop_332) fun b_345 => R.ok (a_344, b_345)) fun o_346 => R.ok (some o_346)) fun found_347 => (R.ok (Fl.bk found_347))) else (R.bind (R.bind (R.bind (R.bind (R.ok table_315) (lcR (fun word_348 => (R.bind (R.bind (R.ok word_348) fun a_349 => R.ok (Option.isSome a_349)) fun c_357 => if c_357 = true then (R.bind (R.bind (R.bind (R.ok word_348) getR) fun xs_352 => R.bind (R.ok none) fun lo_353 => R.bind (R.bind (R.bind (R.ok part_338) fun a_350 => R.ok (List.length a_350 : Int)) fun a_351 => R.ok (some a_351)) fun hi_354 => R.ok (cut xs_352 lo_353 hi_354)) fun a_355 => R.bind (R.ok part_338) fun b_356 => eqR a_355 b_356) else R.ok false)) (fun word_348 => (R.ok word_348)))) fun a_358 => R.ok (List.length a_358 : Int)) fun a_359 => R.bind (R.ok (0 : Int)) fun b_360 => R.ok (decide (a_359 = b_360))) fun c_361 => if c_361 = true then (R.bind (R.bind (R.bind (R.ok ("InvalidWord" : Str)) fun o_362 => R.ok (Sum.inr o_362 : ((List Int) ⊕ Str))) fun a_363 => R.bind (R.ok st_321.1) fun b_364 => R.ok (a_363, b_364)) fun a_365 => R.ok (Fl.rt a_365)) else (R.ok (Fl.nx st_331))))) : R (Fl (Option (Int × Int)) (((List Int) ⊕ Str) × Int)))) (fun (st_331 : (Option (Int × Int))) => (R.bind (R.bind (R.ok st_331) fun a_366 => R.ok (Option.isNone a_366)) fun c_367 => if c_367 = true then (R.bind (R.bind (R.bind (R.ok ("Truncated" : Str)) fun o_368 => R.ok (Sum.inr o_368 : ((List Int) ⊕ Str))) fun a_370 => R.bind (R.bind (R.ok bits_316) fun a_369 => R.ok (List.length a_369 : Int)) fun b_371 => R.ok (a_370, b_371)) fun a_372 => R.ok (Fl.rt a_372)) else (R.bind (R.bind (R.bind (R.ok st_331) getR) fun a_374 => R.ok a_374.1) fun y_377 => R.bind (szR (st_321.2 ++ [y_377])) fun message_373 => (R.bind (R.bind (R.bind (R.ok st_331) getR) fun a_375 => R.ok a_375.2) fun at_376 => (R.ok (Fl.nx (at_376, message_373))))))) xs_378 found_323)) : R (Fl (Int × (List Int)) (((List Int) ⊕ Str) × Int)))) (fun (st_321 : (Int × (List Int))) => (R.bind (R.bind (R.bind (R.ok st_321.2) fun o_379 => R.ok (Sum.inl o_379 : ((List Int) ⊕ Str))) fun a_380 => R.bind (R.ok st_321.1) fun b_381 => R.ok (a_380, b_381)) fun a_382 => R.ok (Fl.rt a_382))) xs_383 (at_317, message_319)))
def f__law_read (table_315 : (List (Option (List Int)))) (bits_316 : (List Int)) (at_317 : Int) (count_318 : Int) : R (((List Int) ⊕ Str) × Int) := finR (b__law_read table_315 bits_316 at_317 count_318)
def b__law_told (lengths_here_384 : (List Int)) (bits_385 : (List Int)) (at_386 : Int) (count_387 : Int) : R (Fl Unit (((List Int) ⊕ Str) × Int)) :=
  (tryR ((R.bind (R.bind (R.bind (R.ok lengths_here_384) fun a_388 => R.bind (R.ok bits_385) fun b_389 => R.bind (R.ok at_386) fun c_390 => R.bind (R.ok count_387) fun d_391 => (f_read_symbols a_388 b_389 c_390 d_391)) fun a_392 => R.ok (((fun a => ((fun a => Sum.inl (id a)) a.1, id a.2)) : ((List Int) × Int) → (((List Int) ⊕ Str) × Int)) a_392)) fun a_393 => R.ok (Fl.rt a_393)) : R (Fl Unit (((List Int) ⊕ Str) × Int))) (fun (c : Nat) (p : Int) => if c = 0 then (R.ok (Fl.rt (((fun a => ((fun a => Sum.inr (id a)) a.1, id a.2)) : (Str × Int) → (((List Int) ⊕ Str) × Int)) (("Truncated" : Str), p)))) else if c = 1 then (R.ok (Fl.rt (((fun a => ((fun a => Sum.inr (id a)) a.1, id a.2)) : (Str × Int) → (((List Int) ⊕ Str) × Int)) (("InvalidWord" : Str), p)))) else .bad))
def f__law_told (lengths_here_384 : (List Int)) (bits_385 : (List Int)) (at_386 : Int) (count_387 : Int) : R (((List Int) ⊕ Str) × Int) := finR (b__law_told lengths_here_384 bits_385 at_386 count_387)
def b_law (script_394 : Scr) : R (Fl Unit Bool) :=
  (R.bind (R.bind (R.ok (1 : Int)) fun a_399 => R.bind (R.bind (R.bind (R.ok script_394) fun a_395 => R.bind (R.ok (0 : Int)) fun b_396 => R.pu (f__law_cell a_395 b_396)) fun a_397 => R.bind (R.ok (24 : Int)) fun b_398 => modR a_397 b_398) fun b_400 => R.ok (a_399 + b_400)) fun many_401 => (R.bind (R.bind (R.bind (R.ok script_394) fun a_402 => R.bind (R.ok (1 : Int)) fun b_403 => R.bind (R.ok many_401) fun c_404 => R.pu (f__law_lengths a_402 b_403 c_404)) fun a_405 => R.pu (f__law_fitting a_405)) fun lengths_here_406 => (R.bind (R.bind (R.ok lengths_here_406) fun a_407 => R.pu (f__law_words a_407)) fun table_408 => (R.bind (R.bind (R.bind (R.ok many_401) rng1R) (lcR (fun k_410 => (R.bind (R.bind (R.ok table_408) fun a_411 => R.bind (R.ok k_410) fun b_412 => idxR a_411 b_412) fun a_413 => R.ok (Option.isSome a_413))) (fun k_410 => (R.ok k_410)))) fun present_414 => (R.bind (R.bind (R.bind (R.bind (R.ok script_394) fun z => R.ok z.ns) fun xs_417 => R.bind (R.bind (R.ok (25 : Int)) fun a_415 => R.ok (some a_415)) fun lo_418 => R.bind (R.bind (R.ok (45 : Int)) fun a_416 => R.ok (some a_416)) fun hi_419 => R.ok (cut xs_417 lo_418 hi_419)) (lcR (fun cell_here_420 => (R.ok true)) (fun cell_here_420 => (R.bind (R.ok present_414) fun a_424 => R.bind (R.bind (R.ok cell_here_420) fun a_422 => R.bind (R.bind (R.ok present_414) fun a_421 => R.ok (List.length a_421 : Int)) fun b_423 => modR a_422 b_423) fun b_425 => idxR a_424 b_425)))) fun message_426 => (R.bind (R.bind (R.ok ([] : List Int)) szR) fun bits_427 => (R.bind (R.ok message_426) fun xs_560 => forR (fun (st_428 : (List Int)) (symbol_429 : Int) => ((R.bind (R.bind (R.ok st_428) fun a_432 => R.bind (R.bind (R.bind (R.ok table_408) fun a_430 => R.bind (R.ok symbol_429) fun b_431 => idxR a_430 b_431) getR) fun b_433 => szR (a_432 ++ b_433)) fun bits_434 => (R.ok (Fl.nx bits_434))) : R (Fl (List Int) Bool))) (fun (st_428 : (List Int)) => (R.bind (R.ok message_426) fun given_435 => (R.bind (R.bind (R.bind (R.bind (R.ok lengths_here_406) fun a_436 => R.bind (R.ok given_435) fun b_437 => R.pu (f_write_symbols a_436 b_437)) fun a_438 => R.bind (R.ok st_428) fun b_439 => R.bind (eqR a_438 b_439) fun c => R.ok (!c)) fun c_442 => if c_442 = true then R.ok true else (R.bind (R.ok given_435) fun a_440 => R.bind (R.ok message_426) fun b_441 => R.bind (eqR a_440 b_441) fun c => R.ok (!c))) fun c_443 => if c_443 = true then (R.bind (R.ok false) fun a_444 => R.ok (Fl.rt a_444)) else (R.bind (R.bind (R.bind (R.bind (R.ok script_394) fun z => R.ok z.ns) fun xs_447 => R.bind (R.bind (R.ok (45 : Int)) fun a_445 => R.ok (some a_445)) fun lo_448 => R.bind (R.bind (R.ok (49 : Int)) fun a_446 => R.ok (some a_446)) fun hi_449 => R.ok (cut xs_447 lo_448 hi_449)) (lcR (fun cell_here_450 => (R.ok true)) (fun cell_here_450 => (R.bind (R.ok cell_here_450) fun a_451 => R.bind (R.ok (2 : Int)) fun b_452 => modR a_451 b_452)))) fun before_453 => (R.bind (R.bind (R.bind (R.bind (R.ok script_394) fun z => R.ok z.ns) fun xs_456 => R.bind (R.bind (R.ok (45 : Int)) fun a_454 => R.ok (some a_454)) fun lo_457 => R.bind (R.bind (R.ok (52 : Int)) fun a_455 => R.ok (some a_455)) fun hi_458 => R.ok (cut xs_456 lo_457 hi_458)) (lcR (fun cell_here_459 => (R.ok true)) (fun cell_here_459 => (R.bind (R.bind (R.ok cell_here_459) fun a_460 => R.bind (R.ok (2 : Int)) fun b_461 => divR a_460 b_461) fun a_462 => R.bind (R.ok (2 : Int)) fun b_463 => modR a_462 b_463)))) fun behind_464 => (R.bind (R.bind (R.bind (R.ok before_453) fun a_465 => R.bind (R.ok st_428) fun b_466 => szR (a_465 ++ b_466)) fun a_467 => R.bind (R.ok behind_464) fun b_468 => szR (a_467 ++ b_468)) fun whole_469 => (R.bind (R.ok whole_469) fun handed_470 => (R.bind (R.bind (R.ok lengths_here_406) fun a_473 => R.bind (R.ok handed_470) fun b_474 => R.bind (R.bind (R.ok before_453) fun a_471 => R.ok (List.length a_471 : Int)) fun c_475 => R.bind (R.bind (R.ok message_426) fun a_472 => R.ok (List.length a_472 : Int)) fun d_476 => R.pu (f__law_told a_473 b_474 c_475 d_476)) fun found_477 => (R.bind (R.bind (R.bind (R.ok found_477) fun a_485 => R.bind (R.bind (R.bind (R.ok message_426) fun o_478 => R.ok (Sum.inl o_478 : ((List Int) ⊕ Str))) fun a_483 => R.bind (R.bind (R.bind (R.ok before_453) fun a_479 => R.ok (List.length a_479 : Int)) fun a_481 => R.bind (R.bind (R.ok st_428) fun a_480 => R.ok (List.length a_480 : Int)) fun b_482 => R.ok (a_481 + b_482)) fun b_484 => R.ok (a_483, b_484)) fun b_486 => R.bind (eqR a_485 b_486) fun c => R.ok (!c)) fun c_489 => if c_489 = true then R.ok true else (R.bind (R.ok handed_470) fun a_487 => R.bind (R.ok whole_469) fun b_488 => R.bind (eqR a_487 b_488) fun c => R.ok (!c))) fun c_490 => if c_490 = true then (R.bind (R.ok false) fun a_491 => R.ok (Fl.rt a_491)) else (R.bind (R.bind (R.ok script_394) fun a_492 => R.bind (R.ok (52 : Int)) fun b_493 => R.pu (f__law_cell a_492 b_493)) fun cell_here_494 => (R.bind (R.bind (R.bind (R.bind (R.ok cell_here_494) fun a_495 => R.bind (R.ok (50 : Int)) fun b_496 => modR a_495 b_496) rng1R) (lcR (fun k_498 => (R.ok true)) (fun k_498 => (R.bind (R.bind (R.ok cell_here_494) fun a_501 => R.bind (R.bind (R.ok (1 : Int)) fun a_499 => R.bind (R.ok k_498) fun b_500 => shlR a_499 b_500) fun b_502 => divR a_501 b_502) fun a_503 => R.bind (R.ok (2 : Int)) fun b_504 => modR a_503 b_504)))) fun whole_505 => (seqF ((R.bind (R.bind (R.bind (R.ok cell_here_494) fun a_506 => R.bind (R.ok (2 : Int)) fun b_507 => modR a_506 b_507) fun a_508 => R.bind (R.ok (1 : Int)) fun b_509 => R.ok (decide (a_508 = b_509))) fun c_510 => if c_510 = true then (R.bind (R.bind (R.ok st_428) fun xs_532 => R.bind (R.ok none) fun lo_533 => R.bind (R.bind (R.bind (R.bind (R.ok cell_here_494) fun a_524 => R.bind (R.ok (50 : Int)) fun b_525 => divR a_524 b_525) fun a_529 => R.bind (R.bind (R.bind (R.ok st_428) fun a_526 => R.ok (List.length a_526 : Int)) fun a_527 => R.bind (R.ok (1 : Int)) fun b_528 => R.ok (a_527 + b_528)) fun b_530 => modR a_529 b_530) fun a_531 => R.ok (some a_531)) fun hi_534 => R.ok (cut xs_532 lo_533 hi_534)) fun whole_535 => (R.ok (Fl.nx whole_535))) else (R.ok (Fl.nx whole_505))) : R (Fl (List Int) Bool)) fun st_523 => (R.bind (R.bind (R.bind (R.ok st_523) fun a_536 => R.ok (List.length a_536 : Int)) fun a_541 => R.bind (R.bind (R.bind (R.ok cell_here_494) fun a_537 => R.bind (R.ok (3 : Int)) fun b_538 => divR a_537 b_538) fun a_539 => R.bind (R.ok (3 : Int)) fun b_540 => modR a_539 b_540) fun b_542 => R.ok (min a_541 b_542)) fun at_543 => (R.bind (R.bind (R.bind (R.ok script_394) fun a_544 => R.bind (R.ok (53 : Int)) fun b_545 => R.pu (f__law_cell a_544 b_545)) fun a_546 => R.bind (R.ok (12 : Int)) fun b_547 => modR a_546 b_547) fun count_548 => (R.bind (R.bind (R.bind (R.ok lengths_here_406) fun a_549 => R.bind (R.ok st_523) fun b_550 => R.bind (R.ok at_543) fun c_551 => R.bind (R.ok count_548) fun d_552 => R.pu (f__law_told a_549 b_550 c_551 d_552)) fun a_557 => R.bind (R.bind (R.ok table_408) fun a_553 => R.bind (R.ok st_523) fun b_554 => R.bind (R.ok at_543) fun c_555 => R.bind (R.ok count_548) fun d_556 => R.pu (f__law_read a_553 b_554 c_555 d_556)) fun b_558 => eqR a_557 b_558) fun a_559 => R.ok (Fl.rt a_559)))))))))))))))) xs_560 bits_427)))))))
def f_law (script_394 : Scr) : R Bool := finR (b_law script_394)
/-! ### the defs compute it -/
section
variable {P : Program} {w : World} {cf : Cf} {mg : Str → Option Value} {base : Heap} (T : Txt P w cf mg base)
theorem sc_field_bits : FnScope ["width", "value", "shift"] ["width", "value"] (defScope s_field_bits) := ⟨rfl, rfl, rfl, by decide +kernel, rfl, by decide +kernel, by decide +kernel⟩
theorem ok_field_bits : FnOk P w cf.K mg base CX0 1 T.a_field_bits T.d_field_bits ["width", "value"] (SpP cf 2 (sp2 f_field_bits)) := by
  refine fn2 (k := 0) (S := Unit) (enc := fun _ => [.un, .un, .un]) T.F_field_bits sc_field_bits rfl b_field_bits (fun width_1 value_2 => [.va (toD (width_1 : Int)), .va (toD (value_2 : Int)), .un]) (fun _ _ => rfl) fun cdv A outer s H E hr => ?_
  refine ⟨_, (pss_one (ps_ret (pe_lc (own := [("shift", 2)]) rfl sc_field_bits.nd (pi_range3 (by rfl) T.n_range (pa_cons (pe_op op_sub (pv 0) pe_int) (pa_cons (pe_un un_neg pe_int) (pa_cons (pe_un un_neg pe_int) pa_nil)))) (blkOk_by (own := [("shift", 2)]) (N := ["width", "value", "shift"]) (sc := defScope s_field_bits) (by decide +kernel)) (fun _ _ _ _ _ => (pg_name (i := 2) sc_field_bits.nd rfl (Or.inl rfl) (Or.inr rfl))) (fun _ _ _ _ _ => pts_nil) (fun _ _ _ _ _ => (pe_op op_and (pe_op op_shr (pv 1) (pv 2)) pe_int))))), fun width_1 value_2 => ?_⟩
  unfold b_field_bits
  exact (sb_ret (EF.toM (ef_lc (vs := [2]) (Gi := fun shift_10 => [.va (toD (width_1 : Int)), .va (toD (value_2 : Int)), .va (toD (shift_10 : Int))]) (ig_range3 (em_I0 (em_var 0 width_1 rfl) (em_int 1)) (em_neg (em_int 1)) (em_neg (em_int 1))) (ag_name 2) (by decide) (fun _ => rfl) (fun shift_10 => eb_yes) (fun shift_10 => (em_I0 (em_shr (em_var 1 value_2 rfl) (em_var 2 shift_10 rfl)) (em_int 1))))))
theorem sc_words : FnScope ["lengths", "result", "order", "value", "width", "length", "symbol"] ["lengths"] (defScope s_words) := ⟨rfl, rfl, rfl, by decide +kernel, rfl, by decide +kernel, by decide +kernel⟩
theorem ok_words : FnOk P w cf.K mg base CX0 2 T.a_words T.d_words ["lengths"] (SpP cf 1 (sp1 f_words)) := by
  refine fn1 (k := 1) (S := Unit) (enc := fun _ => [.un, .un, .un, .un, .un, .un, .un]) T.F_words sc_words rfl b_words (fun lengths_16 => [.va (toD (lengths_16 : (List Int))), .un, .un, .un, .un, .un, .un]) (fun _ => rfl) fun cdv A outer s H E hr => ?_
  refine ⟨_, (pss_cons (ps_set (i := 1) sc_words.nd rfl (.inl rfl) (pe_op op_rep (pe_lst (pa_cons pe_non pa_nil)) (pe_callB (lenK cf.K rfl) (by rfl) T.n_len (by decide +kernel) (pa_cons (pv 0) pa_nil)))) (pss_cons (ps_set (i := 2) sc_words.nd rfl (.inl rfl) (pe_callB (sortedK cf.K rfl hr.units) (by rfl) T.n_sorted (by decide +kernel) (pa_cons (pe_lc (own := [("symbol", 6), ("length", 5)]) rfl sc_words.nd (enumI cf.K rfl (by rfl) T.n_enumerate (pa_cons (pv 0) pa_nil)) (blkOk_by (own := [("symbol", 6), ("length", 5)]) (N := ["lengths", "result", "order", "value", "width", "length", "symbol"]) (sc := defScope s_words) (by decide +kernel)) (fun _ _ _ _ _ => (tupK cf.K rfl 2 rfl (pgs_cons (pg_name (i := 6) sc_words.nd rfl (Or.inl rfl) (Or.inr rfl)) (pgs_cons (pg_name (i := 5) sc_words.nd rfl (Or.inl rfl) (Or.inr rfl)) pgs_nil)))) (fun _ _ _ _ _ => (pts_one (pt_cmpR op_gt (pv 5) pe_int (nomark _)))) (fun _ _ _ _ _ => (pe_tup (pa_cons (pv 5) (pa_cons (pv 6) pa_nil))))) pa_nil))) (pss_cons (ps_set (i := 3) sc_words.nd rfl (.inl rfl) pe_int) (pss_cons (ps_set (i := 4) sc_words.nd rfl (.inl rfl) (pe_ix (ix_tupK cf.K rfl) (pe_ix (ix_listK cf.K rfl) (pv 2) pe_int (fun _ _ => rfl)) pe_int (fun _ _ => rfl))) (pss_cons (ps_for PassesOwn.never rfl (listI cf.K rfl (pv 2)) (tupK cf.K rfl 2 rfl (pgs_cons (pg_name (i := 5) sc_words.nd rfl (.inl rfl)) (pgs_cons (pg_name (i := 6) sc_words.nd rfl (.inl rfl)) pgs_nil))) (pss_cons (ps_aug (i := 3) sc_words.nd rfl (.inl rfl) (pe_op op_sub (pv 5) (pv 4)) iop_shlW) (pss_cons (ps_set (i := 4) sc_words.nd rfl (.inl rfl) (pv 5)) (pss_cons (ps_asg (pe_call (ok_field_bits T) (hr.mono (by decide)) (by rfl) T.g_field_bits T.F_field_bits.kp T.b_field_bits .nil pass0 (pa_cons (pv 4) (pa_cons (pv 3) pa_nil))) (pg_sub (pv 1) (pv 6) set_list)) (pss_one (ps_aug (i := 3) sc_words.nd rfl (.inl rfl) pe_int iop_add)))))) (pss_one (ps_ret (pv 1)))))))), fun lengths_16 => ?_⟩
  unfold b_words
  exact (sb_asgO (ef_rep (EF.toL (ef_lst (eas_cons (em_none (α := (List Int))) (eas_nil (α := (Option (List Int))))))) (em_len (EM.toS (em_var 0 lengths_16 rfl)))) (fun result_22 => [.va (toD (lengths_16 : (List Int))), .ol (List.map toD (result_22 : (List (Option (List Int))))), .un, .un, .un, .un, .un]) (fun _ => rfl) (fun result_22 => (sb_asg (EF.toM (ef_sorted (EF.toS (ef_lc (vs := [6, 5]) (Gi := fun symbol_24 => [.va (toD (lengths_16 : (List Int))), .ol (List.map toD (result_22 : (List (Option (List Int))))), .un, .un, .un, .va (toD (symbol_24.2 : Int)), .va (toD (symbol_24.1 : Int))]) (ig_enum (EM.toZ (em_var 0 lengths_16 rfl))) (ag_t2 (ag_name 6) (ag_name 5)) (by decide) (fun _ => rfl) (fun symbol_24 => (eb_test (em_B0 (em_var 5 symbol_24.2 rfl) (em_int 0)))) (fun symbol_24 => (em_tup2 (em_var 5 symbol_24.2 rfl) (em_var 6 symbol_24.1 rfl))))))) (ag_name 2) (fun order_29 => [.va (toD (lengths_16 : (List Int))), .ol (List.map toD (result_22 : (List (Option (List Int))))), .va (toD (order_29 : (List (Int × Int)))), .un, .un, .un, .un]) (fun _ => rfl) (fun order_29 => (sb_asg (em_int 0) (ag_name 3) (fun value_30 => [.va (toD (lengths_16 : (List Int))), .ol (List.map toD (result_22 : (List (Option (List Int))))), .va (toD (order_29 : (List (Int × Int)))), .va (toD (value_30 : Int)), .un, .un, .un]) (fun _ => rfl) (fun value_30 => (sb_asg (em_fst (em_ixL (EM.toS (em_var 2 order_29 rfl)) (em_int 0))) (ag_name 4) (fun width_34 => [.va (toD (lengths_16 : (List Int))), .ol (List.map toD (result_22 : (List (Option (List Int))))), .va (toD (order_29 : (List (Int × Int)))), .va (toD (value_30 : Int)), .va (toD (width_34 : Int)), .un, .un]) (fun _ => rfl) (fun width_34 => (sb_for (T := ((List (Option (List Int))) × (Int × Int))) (encL := fun st_35 => [.va (toD (lengths_16 : (List Int))), .ol (List.map toD (st_35.1 : (List (Option (List Int))))), .va (toD (order_29 : (List (Int × Int)))), .va (toD (st_35.2.1 : Int)), .va (toD (st_35.2.2 : Int)), .un, .un]) (ig_list (EM.toZ (em_var 2 order_29 rfl))) (ag_t2 (ag_name 5) (ag_name 6)) (result_22, value_30, width_34) (.same (.same (.same (.same (.same (.same (.same .nil))))))) (fun st_35 length_36 => [.va (toD (lengths_16 : (List Int))), .ol (List.map toD (st_35.1 : (List (Option (List Int))))), .va (toD (order_29 : (List (Int × Int)))), .va (toD (st_35.2.1 : Int)), .va (toD (st_35.2.2 : Int)), .va (toD (length_36.1 : Int)), .va (toD (length_36.2 : Int))]) (fun _ _ => rfl) (fun st_35 length_36 => (sb_aug (em_shl (em_var 3 st_35.2.1 rfl) (em_I0 (em_var 5 length_36.1 rfl) (em_var 4 st_35.2.2 rfl))) (fun value_41 => [.va (toD (lengths_16 : (List Int))), .ol (List.map toD (st_35.1 : (List (Option (List Int))))), .va (toD (order_29 : (List (Int × Int)))), .va (toD (value_41 : Int)), .va (toD (st_35.2.2 : Int)), .va (toD (length_36.1 : Int)), .va (toD (length_36.2 : Int))]) (fun _ => rfl) (fun value_41 => (sb_asg (em_var 5 length_36.1 rfl) (ag_name 4) (fun width_42 => [.va (toD (lengths_16 : (List Int))), .ol (List.map toD (st_35.1 : (List (Option (List Int))))), .va (toD (order_29 : (List (Int × Int)))), .va (toD (value_41 : Int)), .va (toD (width_42 : Int)), .va (toD (length_36.1 : Int)), .va (toD (length_36.2 : Int))]) (fun _ => rfl) (fun width_42 => (sb_setL (i := 1) (xs := st_35.1) rfl (EM.just (em_call2 (em_var 4 width_42 rfl) (em_var 3 value_41 rfl))) (em_var 6 length_36.2 rfl) (fun result_46 => [.va (toD (lengths_16 : (List Int))), .ol (List.map toD (result_46 : (List (Option (List Int))))), .va (toD (order_29 : (List (Int × Int)))), .va (toD (value_41 : Int)), .va (toD (width_42 : Int)), .va (toD (length_36.1 : Int)), .va (toD (length_36.2 : Int))]) (fun _ => rfl) (fun result_46 => (sb_one (sb_aug (em_I0 (em_var 3 value_41 rfl) (em_int 1)) (fun value_49 => [.va (toD (lengths_16 : (List Int))), .ol (List.map toD (result_46 : (List (Option (List Int))))), .va (toD (order_29 : (List (Int × Int)))), .va (toD (value_49 : Int)), .va (toD (width_42 : Int)), .va (toD (length_36.1 : Int)), .va (toD (length_36.2 : Int))]) (fun _ => rfl) (fun value_49 => (sb_next (result_46, value_49, width_42) (.same (.same (.same (.same (.same (.drop (.drop .nil)))))))))))))))))) (fun st_35 => (sb_frz (i := 1) rfl ([.va (toD (lengths_16 : (List Int))), .va (toD (st_35.1 : (List (Option (List Int))))), .va (toD (order_29 : (List (Int × Int)))), .va (toD (st_35.2.1 : Int)), .va (toD (st_35.2.2 : Int)), .un, .un]) rfl (sb_ret (em_var 1 st_35.1 rfl)))))))))))))
theorem sc_write_symbols : FnScope ["lengths", "message", "table", "bits", "symbol"] ["lengths", "message"] (defScope s_write_symbols) := ⟨rfl, rfl, rfl, by decide +kernel, rfl, by decide +kernel, by decide +kernel⟩
theorem ok_write_symbols : FnOk P w cf.K mg base CX0 3 T.a_write_symbols T.d_write_symbols ["lengths", "message"] (SpP cf 2 (sp2 f_write_symbols)) := by
  refine fn2 (k := 2) (S := Unit) (enc := fun _ => [.un, .un, .un, .un, .un]) T.F_write_symbols sc_write_symbols rfl b_write_symbols (fun lengths_54 message_55 => [.va (toD (lengths_54 : (List Int))), .va (toD (message_55 : (List Int))), .un, .un, .un]) (fun _ _ => rfl) fun cdv A outer s H E hr => ?_
  refine ⟨_, (pss_cons (ps_set (i := 2) sc_write_symbols.nd rfl (.inl rfl) (pe_call (ok_words T) (hr.mono (by decide)) (by rfl) T.g_words T.F_words.kp T.b_words .nil pass0 (pa_cons (pv 0) pa_nil))) (pss_cons (ps_set (i := 3) sc_write_symbols.nd rfl (.inl rfl) (pe_lst pa_nil)) (pss_cons (ps_for PassesOwn.never rfl (listI cf.K rfl (pv 1)) (pg_name (i := 4) sc_write_symbols.nd rfl (.inl rfl)) (pss_one (ps_expr (pe_bm PySem.F.plainAttrs_list PySem.F.slot_list_extend PySem.F.type_list_extend mt_extend (pv 3) (pa_cons (pe_ix (ix_listK cf.K rfl) (pv 2) (pv 4) (fun _ _ => rfl)) pa_nil))))) (pss_one (ps_ret (pv 3)))))), fun lengths_54 message_55 => ?_⟩
  unfold b_write_symbols
  exact (sb_asg (em_call1 (em_var 0 lengths_54 rfl)) (ag_name 2) (fun table_57 => [.va (toD (lengths_54 : (List Int))), .va (toD (message_55 : (List Int))), .va (toD (table_57 : (List (Option (List Int))))), .un, .un]) (fun _ => rfl) (fun table_57 => (sb_asgO (ef_lst (eas_nil (α := Int))) (fun bits_58 => [.va (toD (lengths_54 : (List Int))), .va (toD (message_55 : (List Int))), .va (toD (table_57 : (List (Option (List Int))))), .ol (List.map toD (bits_58 : (List Int))), .un]) (fun _ => rfl) (fun bits_58 => (sb_for (T := (List Int)) (encL := fun st_59 => [.va (toD (lengths_54 : (List Int))), .va (toD (message_55 : (List Int))), .va (toD (table_57 : (List (Option (List Int))))), .ol (List.map toD (st_59 : (List Int))), .un]) (ig_list (EM.toZ (em_var 1 message_55 rfl))) (ag_name 4) bits_58 (.same (.same (.same (.same (.same .nil))))) (fun st_59 symbol_60 => [.va (toD (lengths_54 : (List Int))), .va (toD (message_55 : (List Int))), .va (toD (table_57 : (List (Option (List Int))))), .ol (List.map toD (st_59 : (List Int))), .va (toD (symbol_60 : Int))]) (fun _ _ => rfl) (fun st_59 symbol_60 => (sb_one (sb_ext (i := 3) (xs := st_59) rfl (EM.toL (EM.get (em_ixL (EM.toS (em_var 2 table_57 rfl)) (em_var 4 symbol_60 rfl)))) (fun bits_61 => [.va (toD (lengths_54 : (List Int))), .va (toD (message_55 : (List Int))), .va (toD (table_57 : (List (Option (List Int))))), .ol (List.map toD (bits_61 : (List Int))), .va (toD (symbol_60 : Int))]) (fun _ => rfl) (fun bits_61 => (sb_next bits_61 (.same (.same (.same (.same (.drop .nil)))))))))) (fun st_59 => (sb_frz (i := 3) rfl ([.va (toD (lengths_54 : (List Int))), .va (toD (message_55 : (List Int))), .va (toD (table_57 : (List (Option (List Int))))), .va (toD (st_59 : (List Int))), .un]) rfl (sb_ret (em_var 3 st_59 rfl)))))))))
theorem sc_read_word : FnScope ["table", "longest", "bits", "at", "width", "part", "word"] ["table", "longest", "bits", "at"] (defScope s_read_word) := ⟨rfl, rfl, rfl, by decide +kernel, rfl, by decide +kernel, by decide +kernel⟩
theorem ok_read_word : FnOk P w cf.K mg base (L2.CX P w) 4 T.a_read_word T.d_read_word ["table", "longest", "bits", "at"] (SpX cf 4 (sp4 f_read_word)) := by
  refine fnX4 (k := 3) (S := Unit) (enc := fun _ => [.un, .un, .un, .un, .un, .un, .un]) T.F_read_word sc_read_word rfl b_read_word (fun table_67 longest_68 bits_69 at_70 => [.va (toD (table_67 : (List (Option (List Int))))), .va (toD (longest_68 : Int)), .va (toD (bits_69 : (List Int))), .va (toD (at_70 : Int)), .un, .un, .un]) (fun _ _ _ _ => rfl) fun cdv A outer s H E hr => ?_
  refine ⟨_, (pss_cons (ps_for (passes_of rfl) rfl (pi_range2 (by rfl) T.n_range (pa_cons pe_int (pa_cons (pe_op op_add (pv 1) pe_int) pa_nil))) (pg_name (i := 4) sc_read_word.nd rfl (.inr rfl)) (pss_cons (ps_if (pt_cmpR op_gt (pe_op op_add (pv 3) (pv 4)) (pe_callB (lenK cf.K rfl) (by rfl) T.n_len (by decide +kernel) (pa_cons (pv 2) pa_nil)) (nomark _)) (pss_one (ps_rs (c := 0) (E := E) rfl rfl rfl (takes_of rfl rfl rfl rfl) T.X_Truncated.T T.X_Truncated.iC T.X_Truncated.tI T.X_Truncated.F1 (hr.mono (by decide)) T.X_Truncated.hb (by rfl) T.X_Truncated.hm (pe_callB (lenK cf.K rfl) (by rfl) T.n_len (by decide +kernel) (pa_cons (pv 2) pa_nil)))) pss_nil) (pss_cons (ps_set (i := 5) sc_read_word.nd rfl (.inr rfl) (pe_slice (sl_listK cf.K rfl) (pv 2) (po_some (pv 3)) (po_some (pe_op op_add (pv 3) (pv 4))))) (pss_cons (ps_if (pt_cmpR (inDK cf.K rfl hr.units1) (pv 5) (pv 0) (by rfl)) (pss_one (ps_ret (pe_tup (pa_cons (pe_bm PySem.F.plainAttrs_list PySem.F.slot_list_index PySem.F.type_list_index (indexDK cf.K rfl hr.units1) (pv 0) (pa_cons (pv 5) pa_nil)) (pa_cons (pe_op op_add (pv 3) (pv 4)) pa_nil))))) pss_nil) (pss_one (ps_if (pt_not (pt_val (pe_callB (anyK cf.K rfl rfl) (by rfl) T.n_any (by decide +kernel) (pa_cons (pe_lc (own := [("word", 6)]) rfl sc_read_word.nd (listI cf.K rfl (pv 0)) (blkOk_by (own := [("word", 6)]) (N := ["table", "longest", "bits", "at", "width", "part", "word"]) (sc := defScope s_read_word) (by decide +kernel)) (fun _ _ _ _ _ => (pg_name (i := 6) sc_read_word.nd rfl (Or.inl rfl) (Or.inr rfl))) (fun _ _ _ _ _ => pts_nil) (fun _ _ _ _ _ => (pe_and (pe_cmpR op_notN (pv 6) pe_non (nomark _)) (pe_one (pe_cmpR (eqDK cf.K rfl hr.units) (pe_slice (sl_listK cf.K rfl) (pv 6) po_none (po_some (pv 4))) (pv 5) (nomark _)))))) pa_nil)))) (pss_one (ps_rs (c := 1) (E := E) rfl rfl rfl (takes_of rfl rfl rfl rfl) T.X_InvalidWord.T T.X_InvalidWord.iC T.X_InvalidWord.tI T.X_InvalidWord.F1 (hr.mono (by decide)) T.X_InvalidWord.hb (by rfl) T.X_InvalidWord.hm (pv 3))) pss_nil)))))) (pss_one (ps_rs (c := 1) (E := E) rfl rfl rfl (takes_of rfl rfl rfl rfl) T.X_InvalidWord.T T.X_InvalidWord.iC T.X_InvalidWord.tI T.X_InvalidWord.F1 (hr.mono (by decide)) T.X_InvalidWord.hb (by rfl) T.X_InvalidWord.hm (pv 3)))), fun table_67 longest_68 bits_69 at_70 => ?_⟩
  unfold b_read_word
  exact (sb_for (T := Unit) (encL := fun st_75 => [.va (toD (table_67 : (List (Option (List Int))))), .va (toD (longest_68 : Int)), .va (toD (bits_69 : (List Int))), .va (toD (at_70 : Int)), .un, .un, .un]) (ig_range2 (em_int 1) (em_I0 (em_var 1 longest_68 rfl) (em_int 1))) (ag_name 4) () (.same (.same (.same (.same (.same (.same (.same .nil))))))) (fun st_75 width_76 => [.va (toD (table_67 : (List (Option (List Int))))), .va (toD (longest_68 : Int)), .va (toD (bits_69 : (List Int))), .va (toD (at_70 : Int)), .va (toD (width_76 : Int)), .un, .un]) (fun _ _ => rfl) (fun st_75 width_76 => (sb_if (eb_test (em_B0 (em_I0 (em_var 3 at_70 rfl) (em_var 4 width_76 rfl)) (em_len (EM.toS (em_var 2 bits_69 rfl))))) (sb_raise2 (em_len (EM.toS (em_var 2 bits_69 rfl)))) (sb_skip (sb_asg (EF.toM (ef_sl (EM.toS (em_var 2 bits_69 rfl)) (eo_some (em_var 3 at_70 rfl)) (eo_some (em_I0 (em_var 3 at_70 rfl) (em_var 4 width_76 rfl))))) (ag_name 5) (fun part_92 => [.va (toD (table_67 : (List (Option (List Int))))), .va (toD (longest_68 : Int)), .va (toD (bits_69 : (List Int))), .va (toD (at_70 : Int)), .va (toD (width_76 : Int)), .va (toD (part_92 : (List Int))), .un]) (fun _ => rfl) (fun part_92 => (sb_if (eb_test (em_inD (EM.toE (em_var 5 part_92 rfl)) (EM.toE (em_var 0 table_67 rfl)))) (sb_ret2 (em_tup2 (em_indexD (em_var 0 table_67 rfl) (EM.toE (em_var 5 part_92 rfl))) (em_I0 (em_var 3 at_70 rfl) (em_var 4 width_76 rfl)))) (sb_skip (sb_ifL (eb_not (eb_B (em_any (EF.toS (ef_lc (vs := [6]) (Gi := fun word_103 => [.va (toD (table_67 : (List (Option (List Int))))), .va (toD (longest_68 : Int)), .va (toD (bits_69 : (List Int))), .va (toD (at_70 : Int)), .va (toD (width_76 : Int)), .va (toD (part_92 : (List Int))), .va (toD (word_103 : (Option (List Int))))]) (ig_list (EM.toZ (em_var 0 table_67 rfl))) (ag_name 6) (by decide) (fun _ => rfl) (fun word_103 => eb_yes) (fun word_103 => (em_and (em_notN (em_var 6 word_103 rfl)) (em_eqD (EM.toE (EF.toM (ef_sl (EM.toS (EM.get (em_var 6 word_103 rfl))) eo_none (eo_some (em_var 4 width_76 rfl))))) (EM.toE (em_var 5 part_92 rfl)))))))))) (sb_raise (em_var 3 at_70 rfl)) (sb_next () (.same (.same (.same (.same (.drop (.drop (.same .nil)))))))))))))))) (fun st_75 => (sb_raise (em_var 3 at_70 rfl))))
theorem sc_read_symbols : FnScope ["lengths", "bits", "at", "count", "table", "longest", "message", "k", "symbol"] ["lengths", "bits", "at", "count"] (defScope s_read_symbols) := ⟨rfl, rfl, rfl, by decide +kernel, rfl, by decide +kernel, by decide +kernel⟩
theorem ok_read_symbols : FnOk P w cf.K mg base (L2.CX P w) 5 T.a_read_symbols T.d_read_symbols ["lengths", "bits", "at", "count"] (SpX cf 4 (sp4 f_read_symbols)) := by
  refine fnX4 (k := 4) (S := Unit) (enc := fun _ => [.un, .un, .un, .un, .un, .un, .un, .un, .un]) T.F_read_symbols sc_read_symbols rfl b_read_symbols (fun lengths_118 bits_119 at_120 count_121 => [.va (toD (lengths_118 : (List Int))), .va (toD (bits_119 : (List Int))), .va (toD (at_120 : Int)), .va (toD (count_121 : Int)), .un, .un, .un, .un, .un]) (fun _ _ _ _ => rfl) fun cdv A outer s H E hr => ?_
  refine ⟨_, (pss_cons (ps_set (i := 4) sc_read_symbols.nd rfl (.inl rfl) (pe_call (ok_words T) (hr.mono (by decide)) (by rfl) T.g_words T.F_words.kp T.b_words .nil pass0 (pa_cons (pv 0) pa_nil))) (pss_cons (ps_set (i := 5) sc_read_symbols.nd rfl (.inl rfl) (pe_callB (maxK cf.K rfl rfl) (by rfl) T.n_max (by decide +kernel) (pa_cons (pv 0) pa_nil))) (pss_cons (ps_set (i := 6) sc_read_symbols.nd rfl (.inl rfl) (pe_lst pa_nil)) (pss_cons (ps_for (passes_of rfl) rfl (pi_range1 (by rfl) T.n_range (pa_cons (pv 3) pa_nil)) (pg_name (i := 7) sc_read_symbols.nd rfl (.inl rfl)) (pss_cons (ps_asg (pe_call (ok_read_word T) (hr.mono (by decide)) (by rfl) T.g_read_word T.F_read_word.kp T.b_read_word .nil (passes_call (takes_of rfl rfl rfl rfl) (fun _ _ _ _ h => h)) (pa_cons (pv 4) (pa_cons (pv 5) (pa_cons (pv 1) (pa_cons (pv 2) pa_nil))))) (tupK cf.K rfl 2 rfl (pgs_cons (pg_name (i := 8) sc_read_symbols.nd rfl (.inl rfl)) (pgs_cons (pg_name (i := 2) sc_read_symbols.nd rfl (.inl rfl)) pgs_nil)))) (pss_one (ps_expr (pe_bm PySem.F.plainAttrs_list PySem.F.slot_list_append PySem.F.type_list_append mt_append (pv 6) (pa_cons (pv 8) pa_nil)))))) (pss_one (ps_ret (pe_tup (pa_cons (pv 6) (pa_cons (pv 2) pa_nil))))))))), fun lengths_118 bits_119 at_120 count_121 => ?_⟩
  unfold b_read_symbols
  exact (sb_asg (em_call1 (em_var 0 lengths_118 rfl)) (ag_name 4) (fun table_123 => [.va (toD (lengths_118 : (List Int))), .va (toD (bits_119 : (List Int))), .va (toD (at_120 : Int)), .va (toD (count_121 : Int)), .va (toD (table_123 : (List (Option (List Int))))), .un, .un, .un, .un]) (fun _ => rfl) (fun table_123 => (sb_asg (em_max (EM.toS (em_var 0 lengths_118 rfl))) (ag_name 5) (fun longest_124 => [.va (toD (lengths_118 : (List Int))), .va (toD (bits_119 : (List Int))), .va (toD (at_120 : Int)), .va (toD (count_121 : Int)), .va (toD (table_123 : (List (Option (List Int))))), .va (toD (longest_124 : Int)), .un, .un, .un]) (fun _ => rfl) (fun longest_124 => (sb_asgO (ef_lst (eas_nil (α := Int))) (fun message_125 => [.va (toD (lengths_118 : (List Int))), .va (toD (bits_119 : (List Int))), .va (toD (at_120 : Int)), .va (toD (count_121 : Int)), .va (toD (table_123 : (List (Option (List Int))))), .va (toD (longest_124 : Int)), .ol (List.map toD (message_125 : (List Int))), .un, .un]) (fun _ => rfl) (fun message_125 => (sb_for (T := (Int × (List Int))) (encL := fun st_127 => [.va (toD (lengths_118 : (List Int))), .va (toD (bits_119 : (List Int))), .va (toD (st_127.1 : Int)), .va (toD (count_121 : Int)), .va (toD (table_123 : (List (Option (List Int))))), .va (toD (longest_124 : Int)), .ol (List.map toD (st_127.2 : (List Int))), .un, .un]) (ig_range1 (em_var 3 count_121 rfl)) (ag_name 7) (at_120, message_125) (.same (.same (.same (.same (.same (.same (.same (.same (.same .nil))))))))) (fun st_127 k_128 => [.va (toD (lengths_118 : (List Int))), .va (toD (bits_119 : (List Int))), .va (toD (st_127.1 : Int)), .va (toD (count_121 : Int)), .va (toD (table_123 : (List (Option (List Int))))), .va (toD (longest_124 : Int)), .ol (List.map toD (st_127.2 : (List Int))), .va (toD (k_128 : Int)), .un]) (fun _ _ => rfl) (fun st_127 k_128 => (sb_asg (em_callX4 (em_var 4 table_123 rfl) (em_var 5 longest_124 rfl) (em_var 1 bits_119 rfl) (em_var 2 st_127.1 rfl)) (ag_t2 (ag_name 8) (ag_name 2)) (fun p_133 => [.va (toD (lengths_118 : (List Int))), .va (toD (bits_119 : (List Int))), .va (toD (p_133.2 : Int)), .va (toD (count_121 : Int)), .va (toD (table_123 : (List (Option (List Int))))), .va (toD (longest_124 : Int)), .ol (List.map toD (st_127.2 : (List Int))), .va (toD (k_128 : Int)), .va (toD (p_133.1 : Int))]) (fun _ => rfl) (fun p_133 => (sb_one (sb_app (i := 6) (xs := st_127.2) rfl (em_var 8 p_133.1 rfl) (fun message_134 => [.va (toD (lengths_118 : (List Int))), .va (toD (bits_119 : (List Int))), .va (toD (p_133.2 : Int)), .va (toD (count_121 : Int)), .va (toD (table_123 : (List (Option (List Int))))), .va (toD (longest_124 : Int)), .ol (List.map toD (message_134 : (List Int))), .va (toD (k_128 : Int)), .va (toD (p_133.1 : Int))]) (fun _ => rfl) (fun message_134 => (sb_next (p_133.2, message_134) (.same (.same (.same (.same (.same (.same (.same (.drop (.drop .nil)))))))))))))))) (fun st_127 => (sb_frz (i := 6) rfl ([.va (toD (lengths_118 : (List Int))), .va (toD (bits_119 : (List Int))), .va (toD (st_127.1 : Int)), .va (toD (count_121 : Int)), .va (toD (table_123 : (List (Option (List Int))))), .va (toD (longest_124 : Int)), .va (toD (st_127.2 : (List Int))), .un, .un]) rfl (sb_ret (em_tup2 (em_var 6 st_127.2 rfl) (em_var 2 st_127.1 rfl))))))))))))
theorem sc__law_cell : FnScope ["_law_script", "_law_k"] ["_law_script", "_law_k"] (defScope s__law_cell) := ⟨rfl, rfl, rfl, by decide +kernel, rfl, by decide +kernel, by decide +kernel⟩
theorem ok__law_cell : FnOk P w cf.K mg base CX0 1 T.a__law_cell T.d__law_cell ["_law_script", "_law_k"] (SpP cf 2 (sp2 f__law_cell)) := by
  refine fn2 (k := 0) (S := Unit) (enc := fun _ => [.un, .un]) T.F__law_cell sc__law_cell rfl b__law_cell (fun script_140 k_141 => [.va (toD (script_140 : Scr)), .va (toD (k_141 : Int))]) (fun _ _ => rfl) fun cdv A outer s H E hr => ?_
  refine ⟨_, (pss_cons (ps_if (pt_cmpR op_lt (pv 1) (pe_callB (lenK cf.K rfl) (by rfl) T.n_len (by decide +kernel) (pa_cons (pv 0) pa_nil)) (nomark _)) (pss_one (ps_ret (pe_callTy call_int1 (by rfl) T.n_int (by decide +kernel) (pa_cons (pe_ix (ix_listK cf.K rfl) (pv 0) (pv 1) (fun _ _ => rfl)) pa_nil)))) pss_nil) (pss_one (ps_ret pe_int))), fun script_140 k_141 => ?_⟩
  unfold b__law_cell
  exact (sb_if (eb_test (em_B0 (em_var 1 k_141 rfl) (em_len (EM.scr (em_var 0 script_140 rfl))))) (sb_ret2 (em_intI (em_ixL (EM.scr (em_var 0 script_140 rfl)) (em_var 1 k_141 rfl)))) (sb_skip (sb_ret (em_int 0))))
theorem sc__law_lengths : FnScope ["_law_script", "_law_first", "_law_many", "_law_lengths_here", "_law_k", "_law_cell_here", "_law_length"] ["_law_script", "_law_first", "_law_many"] (defScope s__law_lengths) := ⟨rfl, rfl, rfl, by decide +kernel, rfl, by decide +kernel, by decide +kernel⟩
theorem ok__law_lengths : FnOk P w cf.K mg base CX0 2 T.a__law_lengths T.d__law_lengths ["_law_script", "_law_first", "_law_many"] (SpP cf 3 (sp3 f__law_lengths)) := by
  refine fn3 (k := 1) (S := Unit) (enc := fun _ => [.un, .un, .un, .un, .un, .un, .un]) T.F__law_lengths sc__law_lengths rfl b__law_lengths (fun script_150 first_151 many_152 => [.va (toD (script_150 : Scr)), .va (toD (first_151 : Int)), .va (toD (many_152 : Int)), .un, .un, .un, .un]) (fun _ _ _ => rfl) fun cdv A outer s H E hr => ?_
  refine ⟨_, (pss_cons (ps_set (i := 3) sc__law_lengths.nd rfl (.inl rfl) (pe_lst pa_nil)) (pss_cons (ps_for PassesOwn.never rfl (pi_range1 (by rfl) T.n_range (pa_cons (pv 2) pa_nil)) (pg_name (i := 4) sc__law_lengths.nd rfl (.inl rfl)) (pss_cons (ps_set (i := 5) sc__law_lengths.nd rfl (.inl rfl) (pe_call (ok__law_cell T) (hr.mono (by decide)) (by rfl) T.g__law_cell T.F__law_cell.kp T.b__law_cell .nil pass0 (pa_cons (pv 0) (pa_cons (pe_op op_add (pv 1) (pv 4)) pa_nil)))) (pss_cons (ps_set (i := 6) sc__law_lengths.nd rfl (.inl rfl) (pe_op op_add pe_int (pe_op op_mod (pv 5) pe_int))) (pss_cons (ps_if (pt_cmpR op_eq (pe_op op_mod (pv 5) pe_int) pe_int (nomark _)) (pss_one (ps_set (i := 6) sc__law_lengths.nd rfl (.inl rfl) pe_int)) pss_nil) (pss_cons (ps_if (pt_cmpR op_eq (pe_op op_mod (pv 5) pe_int) pe_int (nomark _)) (pss_one (ps_set (i := 6) sc__law_lengths.nd rfl (.inl rfl) (pe_op op_add pe_int (pe_op op_mod (pe_op op_fdivW (pv 5) pe_int) pe_int)))) pss_nil) (pss_one (ps_expr (pe_bm PySem.F.plainAttrs_list PySem.F.slot_list_append PySem.F.type_list_append mt_append (pv 3) (pa_cons (pv 6) pa_nil))))))))) (pss_one (ps_ret (pv 3))))), fun script_150 first_151 many_152 => ?_⟩
  unfold b__law_lengths
  exact (sb_asgO (ef_lst (eas_nil (α := Int))) (fun lengths_here_153 => [.va (toD (script_150 : Scr)), .va (toD (first_151 : Int)), .va (toD (many_152 : Int)), .ol (List.map toD (lengths_here_153 : (List Int))), .un, .un, .un]) (fun _ => rfl) (fun lengths_here_153 => (sb_for (T := (List Int)) (encL := fun st_155 => [.va (toD (script_150 : Scr)), .va (toD (first_151 : Int)), .va (toD (many_152 : Int)), .ol (List.map toD (st_155 : (List Int))), .un, .un, .un]) (ig_range1 (em_var 2 many_152 rfl)) (ag_name 4) lengths_here_153 (.same (.same (.same (.same (.same (.same (.same .nil))))))) (fun st_155 k_156 => [.va (toD (script_150 : Scr)), .va (toD (first_151 : Int)), .va (toD (many_152 : Int)), .ol (List.map toD (st_155 : (List Int))), .va (toD (k_156 : Int)), .un, .un]) (fun _ _ => rfl) (fun st_155 k_156 => (sb_asg (em_call2 (em_var 0 script_150 rfl) (em_I0 (em_var 1 first_151 rfl) (em_var 4 k_156 rfl))) (ag_name 5) (fun cell_here_161 => [.va (toD (script_150 : Scr)), .va (toD (first_151 : Int)), .va (toD (many_152 : Int)), .ol (List.map toD (st_155 : (List Int))), .va (toD (k_156 : Int)), .va (toD (cell_here_161 : Int)), .un]) (fun _ => rfl) (fun cell_here_161 => (sb_asg (em_I0 (em_int 1) (em_mod (em_var 5 cell_here_161 rfl) (em_int 6))) (ag_name 6) (fun length_166 => [.va (toD (script_150 : Scr)), .va (toD (first_151 : Int)), .va (toD (many_152 : Int)), .ol (List.map toD (st_155 : (List Int))), .va (toD (k_156 : Int)), .va (toD (cell_here_161 : Int)), .va (toD (length_166 : Int))]) (fun _ => rfl) (fun length_166 => (sb_seq (T := Int) (enc1 := fun st_173 => [.va (toD (script_150 : Scr)), .va (toD (first_151 : Int)), .va (toD (many_152 : Int)), .ol (List.map toD (st_155 : (List Int))), .va (toD (k_156 : Int)), .va (toD (cell_here_161 : Int)), .va (toD (st_173 : Int))]) (sb_ifL (eb_test (em_eqI (em_mod (em_var 5 cell_here_161 rfl) (em_int 7)) (em_int 3))) (sb_one (sb_asg (em_int 0) (ag_name 6) (fun length_174 => [.va (toD (script_150 : Scr)), .va (toD (first_151 : Int)), .va (toD (many_152 : Int)), .ol (List.map toD (st_155 : (List Int))), .va (toD (k_156 : Int)), .va (toD (cell_here_161 : Int)), .va (toD (length_174 : Int))]) (fun _ => rfl) (fun length_174 => (sb_next length_174 (.same (.same (.same (.same (.same (.same (.same .nil))))))))))) (sb_next length_166 (.same (.same (.same (.same (.same (.same (.same .nil))))))))) (fun st_173 => (sb_seq (T := Int) (enc1 := fun st_187 => [.va (toD (script_150 : Scr)), .va (toD (first_151 : Int)), .va (toD (many_152 : Int)), .ol (List.map toD (st_155 : (List Int))), .va (toD (k_156 : Int)), .va (toD (cell_here_161 : Int)), .va (toD (st_187 : Int))]) (sb_ifL (eb_test (em_eqI (em_mod (em_var 5 cell_here_161 rfl) (em_int 41)) (em_int 5))) (sb_one (sb_asg (em_I0 (em_int 1) (em_mod (em_div (em_var 5 cell_here_161 rfl) (em_int 41)) (em_int 20))) (ag_name 6) (fun length_194 => [.va (toD (script_150 : Scr)), .va (toD (first_151 : Int)), .va (toD (many_152 : Int)), .ol (List.map toD (st_155 : (List Int))), .va (toD (k_156 : Int)), .va (toD (cell_here_161 : Int)), .va (toD (length_194 : Int))]) (fun _ => rfl) (fun length_194 => (sb_next length_194 (.same (.same (.same (.same (.same (.same (.same .nil))))))))))) (sb_next st_173 (.same (.same (.same (.same (.same (.same (.same .nil))))))))) (fun st_187 => (sb_one (sb_app (i := 3) (xs := st_155) rfl (em_var 6 st_187 rfl) (fun lengths_here_195 => [.va (toD (script_150 : Scr)), .va (toD (first_151 : Int)), .va (toD (many_152 : Int)), .ol (List.map toD (lengths_here_195 : (List Int))), .va (toD (k_156 : Int)), .va (toD (cell_here_161 : Int)), .va (toD (st_187 : Int))]) (fun _ => rfl) (fun lengths_here_195 => (sb_next lengths_here_195 (.same (.same (.same (.same (.drop (.drop (.drop .nil)))))))))))))))))))) (fun st_155 => (sb_frz (i := 3) rfl ([.va (toD (script_150 : Scr)), .va (toD (first_151 : Int)), .va (toD (many_152 : Int)), .va (toD (st_155 : (List Int))), .un, .un, .un]) rfl (sb_ret (em_var 3 st_155 rfl)))))))
theorem sc__law_fitting : FnScope ["_law_lengths_here", "_law_fitted", "_law_left", "_law_length", "_law_turn"] ["_law_lengths_here"] (defScope s__law_fitting) := ⟨rfl, rfl, rfl, by decide +kernel, rfl, by decide +kernel, by decide +kernel⟩
theorem ok__law_fitting : FnOk P w cf.K mg base CX0 1 T.a__law_fitting T.d__law_fitting ["_law_lengths_here"] (SpP cf 1 (sp1 f__law_fitting)) := by
  refine fn1 (k := 0) (S := Unit) (enc := fun _ => [.un, .un, .un, .un, .un]) T.F__law_fitting sc__law_fitting rfl b__law_fitting (fun lengths_here_199 => [.va (toD (lengths_here_199 : (List Int))), .un, .un, .un, .un]) (fun _ => rfl) fun cdv A outer s H E hr => ?_
  refine ⟨_, (pss_cons (ps_set (i := 1) sc__law_fitting.nd rfl (.inl rfl) (pe_lst pa_nil)) (pss_cons (ps_set (i := 2) sc__law_fitting.nd rfl (.inl rfl) pe_int) (pss_cons (ps_for PassesOwn.never rfl (listI cf.K rfl (pv 0)) (pg_name (i := 3) sc__law_fitting.nd rfl (.inl rfl)) (pss_cons (ps_for PassesOwn.never rfl (pi_range1 (by rfl) T.n_range (pa_cons pe_int pa_nil)) (pg_name (i := 4) sc__law_fitting.nd rfl (.inl rfl)) (pss_one (ps_if (PW.pt (pw_and (pt_chain op_lt op_lt pe_int (pv 3) pe_int) (pw_and1 (pt_cmpR op_gt (pe_op op_fdivW pe_int (pe_op op_shlW pe_int (pv 3))) (pv 2) (nomark _))))) (pss_one (ps_set (i := 3) sc__law_fitting.nd rfl (.inl rfl) (pe_op op_add (pv 3) pe_int))) pss_nil))) (pss_cons (ps_if (PW.pt (pw_and (pt_cmpR op_gt (pv 3) pe_int (nomark _)) (pw_and1 (pt_cmpR op_gt (pe_op op_fdivW pe_int (pe_op op_shlW pe_int (pv 3))) (pv 2) (nomark _))))) (pss_one (ps_set (i := 3) sc__law_fitting.nd rfl (.inl rfl) pe_int)) pss_nil) (pss_cons (ps_if (pt_cmpR op_gt (pv 3) pe_int (nomark _)) (pss_one (ps_set (i := 2) sc__law_fitting.nd rfl (.inl rfl) (pe_op op_sub (pv 2) (pe_op op_fdivW pe_int (pe_op op_shlW pe_int (pv 3)))))) pss_nil) (pss_one (ps_expr (pe_bm PySem.F.plainAttrs_list PySem.F.slot_list_append PySem.F.type_list_append mt_append (pv 1) (pa_cons (pv 3) pa_nil)))))))) (pss_cons (ps_if (pt_cmpR op_eq (pe_callB (maxK cf.K rfl rfl) (by rfl) T.n_max (by decide +kernel) (pa_cons (pv 1) pa_nil)) pe_int (nomark _)) (pss_one (ps_asg pe_int (pg_sub (pv 1) pe_int set_list))) pss_nil) (pss_one (ps_ret (pv 1))))))), fun lengths_here_199 => ?_⟩
  unfold b__law_fitting
  exact (sb_asgO (ef_lst (eas_nil (α := Int))) (fun fitted_200 => [.va (toD (lengths_here_199 : (List Int))), .ol (List.map toD (fitted_200 : (List Int))), .un, .un, .un]) (fun _ => rfl) (fun fitted_200 => (sb_asg (em_int 1048576) (ag_name 2) (fun left_201 => [.va (toD (lengths_here_199 : (List Int))), .ol (List.map toD (fitted_200 : (List Int))), .va (toD (left_201 : Int)), .un, .un]) (fun _ => rfl) (fun left_201 => (sb_for (T := ((List Int) × Int)) (encL := fun st_202 => [.va (toD (lengths_here_199 : (List Int))), .ol (List.map toD (st_202.1 : (List Int))), .va (toD (st_202.2 : Int)), .un, .un]) (ig_list (EM.toZ (em_var 0 lengths_here_199 rfl))) (ag_name 3) (fitted_200, left_201) (.same (.same (.same (.same (.same .nil))))) (fun st_202 length_203 => [.va (toD (lengths_here_199 : (List Int))), .ol (List.map toD (st_202.1 : (List Int))), .va (toD (st_202.2 : Int)), .va (toD (length_203 : Int)), .un]) (fun _ _ => rfl) (fun st_202 length_203 => (sb_for (T := Int) (encL := fun st_205 => [.va (toD (lengths_here_199 : (List Int))), .ol (List.map toD (st_202.1 : (List Int))), .va (toD (st_202.2 : Int)), .va (toD (st_205 : Int)), .un]) (ig_range1 (em_int 20)) (ag_name 4) length_203 (.same (.same (.same (.same (.same .nil))))) (fun st_205 turn_206 => [.va (toD (lengths_here_199 : (List Int))), .ol (List.map toD (st_202.1 : (List Int))), .va (toD (st_202.2 : Int)), .va (toD (st_205 : Int)), .va (toD (turn_206 : Int))]) (fun _ _ => rfl) (fun st_205 turn_206 => (sb_ifL (eb_and (eb_test (em_chain (em_int 0) (em_var 3 st_205 rfl) (em_int 20))) (eb_test (em_B0 (em_div (em_int 1048576) (em_shl (em_int 1) (em_var 3 st_205 rfl))) (em_var 2 st_202.2 rfl)))) (sb_one (sb_asg (em_I0 (em_var 3 st_205 rfl) (em_int 1)) (ag_name 3) (fun length_220 => [.va (toD (lengths_here_199 : (List Int))), .ol (List.map toD (st_202.1 : (List Int))), .va (toD (st_202.2 : Int)), .va (toD (length_220 : Int)), .va (toD (turn_206 : Int))]) (fun _ => rfl) (fun length_220 => (sb_next length_220 (.same (.same (.same (.same (.drop .nil))))))))) (sb_next st_205 (.same (.same (.same (.same (.drop .nil)))))))) (fun st_205 => (sb_seq (T := Int) (enc1 := fun st_232 => [.va (toD (lengths_here_199 : (List Int))), .ol (List.map toD (st_202.1 : (List Int))), .va (toD (st_202.2 : Int)), .va (toD (st_232 : Int)), .un]) (sb_ifL (eb_and (eb_test (em_B0 (em_var 3 st_205 rfl) (em_int 0))) (eb_test (em_B0 (em_div (em_int 1048576) (em_shl (em_int 1) (em_var 3 st_205 rfl))) (em_var 2 st_202.2 rfl)))) (sb_one (sb_asg (em_int 0) (ag_name 3) (fun length_233 => [.va (toD (lengths_here_199 : (List Int))), .ol (List.map toD (st_202.1 : (List Int))), .va (toD (st_202.2 : Int)), .va (toD (length_233 : Int)), .un]) (fun _ => rfl) (fun length_233 => (sb_next length_233 (.same (.same (.same (.same (.same .nil))))))))) (sb_next st_205 (.same (.same (.same (.same (.same .nil))))))) (fun st_232 => (sb_seq (T := Int) (enc1 := fun st_244 => [.va (toD (lengths_here_199 : (List Int))), .ol (List.map toD (st_202.1 : (List Int))), .va (toD (st_244 : Int)), .va (toD (st_232 : Int)), .un]) (sb_ifL (eb_test (em_B0 (em_var 3 st_232 rfl) (em_int 0))) (sb_one (sb_asg (em_I0 (em_var 2 st_202.2 rfl) (em_div (em_int 1048576) (em_shl (em_int 1) (em_var 3 st_232 rfl)))) (ag_name 2) (fun left_251 => [.va (toD (lengths_here_199 : (List Int))), .ol (List.map toD (st_202.1 : (List Int))), .va (toD (left_251 : Int)), .va (toD (st_232 : Int)), .un]) (fun _ => rfl) (fun left_251 => (sb_next left_251 (.same (.same (.same (.same (.same .nil))))))))) (sb_next st_202.2 (.same (.same (.same (.same (.same .nil))))))) (fun st_244 => (sb_one (sb_app (i := 1) (xs := st_202.1) rfl (em_var 3 st_232 rfl) (fun fitted_252 => [.va (toD (lengths_here_199 : (List Int))), .ol (List.map toD (fitted_252 : (List Int))), .va (toD (st_244 : Int)), .va (toD (st_232 : Int)), .un]) (fun _ => rfl) (fun fitted_252 => (sb_next (fitted_252, st_244) (.same (.same (.same (.drop (.same .nil)))))))))))))))) (fun st_202 => (sb_seq (T := (List Int)) (enc1 := fun st_261 => [.va (toD (lengths_here_199 : (List Int))), .ol (List.map toD (st_261 : (List Int))), .va (toD (st_202.2 : Int)), .un, .un]) (sb_ifL (eb_test (em_eqI (em_max (EL.toS (el_own 1 st_202.1 rfl))) (em_int 0))) (sb_one (sb_setL (i := 1) (xs := st_202.1) rfl (em_int 3) (em_int 0) (fun fitted_262 => [.va (toD (lengths_here_199 : (List Int))), .ol (List.map toD (fitted_262 : (List Int))), .va (toD (st_202.2 : Int)), .un, .un]) (fun _ => rfl) (fun fitted_262 => (sb_next fitted_262 (.same (.same (.same (.same (.same .nil))))))))) (sb_next st_202.1 (.same (.same (.same (.same (.same .nil))))))) (fun st_261 => (sb_frz (i := 1) rfl ([.va (toD (lengths_here_199 : (List Int))), .va (toD (st_261 : (List Int))), .va (toD (st_202.2 : Int)), .un, .un]) rfl (sb_ret (em_var 1 st_261 rfl)))))))))))
theorem sc__law_words : FnScope ["_law_lengths_here", "_law_table", "_law_value", "_law_width", "_law_length", "_law_k", "_law_j"] ["_law_lengths_here"] (defScope s__law_words) := ⟨rfl, rfl, rfl, by decide +kernel, rfl, by decide +kernel, by decide +kernel⟩
theorem ok__law_words : FnOk P w cf.K mg base CX0 1 T.a__law_words T.d__law_words ["_law_lengths_here"] (SpP cf 1 (sp1 f__law_words)) := by
  refine fn1 (k := 0) (S := Unit) (enc := fun _ => [.un, .un, .un, .un, .un, .un, .un]) T.F__law_words sc__law_words rfl b__law_words (fun lengths_here_267 => [.va (toD (lengths_here_267 : (List Int))), .un, .un, .un, .un, .un, .un]) (fun _ => rfl) fun cdv A outer s H E hr => ?_
  refine ⟨_, (pss_cons (ps_setLc (i := 1) (own := [("_law_length", 4)]) rfl sc__law_words.nd rfl rfl (sw_true rfl rfl rfl (by decide +kernel)) (listI cf.K rfl (pv 0)) (blkOk_by (own := [("_law_length", 4)]) (N := ["_law_lengths_here", "_law_table", "_law_value", "_law_width", "_law_length", "_law_k", "_law_j"]) (sc := defScope s__law_words) (by decide +kernel)) (fun _ _ _ _ _ => (pg_name (i := 4) sc__law_words.nd rfl (Or.inl rfl) (Or.inr rfl))) (fun _ _ _ _ _ => pts_nil) (fun _ _ _ _ _ => pe_non)) (pss_cons (ps_set (i := 2) sc__law_words.nd rfl (.inr rfl) pe_int) (pss_cons (ps_set (i := 3) sc__law_words.nd rfl (.inl rfl) pe_int) (pss_cons (ps_for PassesOwn.never rfl (pi_range2 (by rfl) T.n_range (pa_cons pe_int (pa_cons pe_int pa_nil))) (pg_name (i := 4) sc__law_words.nd rfl (.inr rfl)) (pss_one (ps_for PassesOwn.never rfl (pi_range1 (by rfl) T.n_range (pa_cons (pe_callB (lenK cf.K rfl) (by rfl) T.n_len (by decide +kernel) (pa_cons (pv 0) pa_nil)) pa_nil)) (pg_name (i := 5) sc__law_words.nd rfl (.inl rfl)) (pss_one (ps_if (pt_cmpR op_eq (pe_ix (ix_listK cf.K rfl) (pv 0) (pv 5) (fun _ _ => rfl)) (pv 4) (nomark _)) (pss_cons (ps_set (i := 2) sc__law_words.nd rfl (.inr rfl) (pe_op op_mulX (pv 2) (pe_op op_shlW pe_int (pe_op op_sub (pv 4) (pv 3))))) (pss_cons (ps_set (i := 3) sc__law_words.nd rfl (.inl rfl) (pv 4)) (pss_cons (ps_asg (pe_lc (own := [("_law_j", 6)]) rfl sc__law_words.nd (pi_range1 (by rfl) T.n_range (pa_cons (pv 4) pa_nil)) (blkOk_by (own := [("_law_j", 6)]) (N := ["_law_lengths_here", "_law_table", "_law_value", "_law_width", "_law_length", "_law_k", "_law_j"]) (sc := defScope s__law_words) (by decide +kernel)) (fun _ _ _ _ _ => (pg_name (i := 6) sc__law_words.nd rfl (Or.inl rfl) (Or.inr rfl))) (fun _ _ _ _ _ => pts_nil) (fun _ _ _ _ _ => (pe_op op_mod (pe_op op_fdivW (pv 2) (pe_op op_shlW pe_int (pe_op op_sub (pe_op op_sub (pv 4) pe_int) (pv 6)))) pe_int))) (pg_sub (pv 1) (pv 5) set_list)) (pss_one (ps_set (i := 2) sc__law_words.nd rfl (.inr rfl) (pe_op op_add (pv 2) pe_int)))))) pss_nil))))) (pss_one (ps_ret (pv 1))))))), fun lengths_here_267 => ?_⟩
  unfold b__law_words
  exact (sb_asgO (ef_lc (vs := [4]) (Gi := fun length_268 => [.va (toD (lengths_here_267 : (List Int))), .un, .un, .un, .va (toD (length_268 : Int)), .un, .un]) (ig_list (EM.toZ (em_var 0 lengths_here_267 rfl))) (ag_name 4) (by decide) (fun _ => rfl) (fun length_268 => eb_yes) (fun length_268 => (em_none (α := (List Int))))) (fun table_269 => [.va (toD (lengths_here_267 : (List Int))), .ol (List.map toD (table_269 : (List (Option (List Int))))), .un, .un, .un, .un, .un]) (fun _ => rfl) (fun table_269 => (sb_asg (em_int 0) (ag_name 2) (fun value_270 => [.va (toD (lengths_here_267 : (List Int))), .ol (List.map toD (table_269 : (List (Option (List Int))))), .va (toD (value_270 : Int)), .un, .un, .un, .un]) (fun _ => rfl) (fun value_270 => (sb_asg (em_int 0) (ag_name 3) (fun width_271 => [.va (toD (lengths_here_267 : (List Int))), .ol (List.map toD (table_269 : (List (Option (List Int))))), .va (toD (value_270 : Int)), .va (toD (width_271 : Int)), .un, .un, .un]) (fun _ => rfl) (fun width_271 => (sb_for (T := ((List (Option (List Int))) × (Int × Int))) (encL := fun st_274 => [.va (toD (lengths_here_267 : (List Int))), .ol (List.map toD (st_274.1 : (List (Option (List Int))))), .va (toD (st_274.2.1 : Int)), .va (toD (st_274.2.2 : Int)), .un, .un, .un]) (ig_range2 (em_int 1) (em_int 21)) (ag_name 4) (table_269, value_270, width_271) (.same (.same (.same (.same (.same (.same (.same .nil))))))) (fun st_274 length_275 => [.va (toD (lengths_here_267 : (List Int))), .ol (List.map toD (st_274.1 : (List (Option (List Int))))), .va (toD (st_274.2.1 : Int)), .va (toD (st_274.2.2 : Int)), .va (toD (length_275 : Int)), .un, .un]) (fun _ _ => rfl) (fun st_274 length_275 => (sb_one (sb_for (T := ((List (Option (List Int))) × (Int × Int))) (encL := fun st_278 => [.va (toD (lengths_here_267 : (List Int))), .ol (List.map toD (st_278.1 : (List (Option (List Int))))), .va (toD (st_278.2.1 : Int)), .va (toD (st_278.2.2 : Int)), .va (toD (length_275 : Int)), .un, .un]) (ig_range1 (em_len (EM.toS (em_var 0 lengths_here_267 rfl)))) (ag_name 5) (st_274.1, st_274.2.1, st_274.2.2) (.same (.same (.same (.same (.same (.same (.same .nil))))))) (fun st_278 k_279 => [.va (toD (lengths_here_267 : (List Int))), .ol (List.map toD (st_278.1 : (List (Option (List Int))))), .va (toD (st_278.2.1 : Int)), .va (toD (st_278.2.2 : Int)), .va (toD (length_275 : Int)), .va (toD (k_279 : Int)), .un]) (fun _ _ => rfl) (fun st_278 k_279 => (sb_ifL (eb_test (em_eqI (em_ixL (EM.toS (em_var 0 lengths_here_267 rfl)) (em_var 5 k_279 rfl)) (em_var 4 length_275 rfl))) (sb_asg (em_mul (em_var 2 st_278.2.1 rfl) (em_shl (em_int 1) (em_I0 (em_var 4 length_275 rfl) (em_var 3 st_278.2.2 rfl)))) (ag_name 2) (fun value_291 => [.va (toD (lengths_here_267 : (List Int))), .ol (List.map toD (st_278.1 : (List (Option (List Int))))), .va (toD (value_291 : Int)), .va (toD (st_278.2.2 : Int)), .va (toD (length_275 : Int)), .va (toD (k_279 : Int)), .un]) (fun _ => rfl) (fun value_291 => (sb_asg (em_var 4 length_275 rfl) (ag_name 3) (fun width_292 => [.va (toD (lengths_here_267 : (List Int))), .ol (List.map toD (st_278.1 : (List (Option (List Int))))), .va (toD (value_291 : Int)), .va (toD (width_292 : Int)), .va (toD (length_275 : Int)), .va (toD (k_279 : Int)), .un]) (fun _ => rfl) (fun width_292 => (sb_setL (i := 1) (xs := st_278.1) rfl (EM.just (EF.toM (ef_lc (vs := [6]) (Gi := fun j_294 => [.va (toD (lengths_here_267 : (List Int))), .ol (List.map toD (st_278.1 : (List (Option (List Int))))), .va (toD (value_291 : Int)), .va (toD (width_292 : Int)), .va (toD (length_275 : Int)), .va (toD (k_279 : Int)), .va (toD (j_294 : Int))]) (ig_range1 (em_var 4 length_275 rfl)) (ag_name 6) (by decide) (fun _ => rfl) (fun j_294 => eb_yes) (fun j_294 => (em_mod (em_div (em_var 2 value_291 rfl) (em_shl (em_int 1) (em_I0 (em_I0 (em_var 4 length_275 rfl) (em_int 1)) (em_var 6 j_294 rfl)))) (em_int 2)))))) (em_var 5 k_279 rfl) (fun table_306 => [.va (toD (lengths_here_267 : (List Int))), .ol (List.map toD (table_306 : (List (Option (List Int))))), .va (toD (value_291 : Int)), .va (toD (width_292 : Int)), .va (toD (length_275 : Int)), .va (toD (k_279 : Int)), .un]) (fun _ => rfl) (fun table_306 => (sb_one (sb_asg (em_I0 (em_var 2 value_291 rfl) (em_int 1)) (ag_name 2) (fun value_309 => [.va (toD (lengths_here_267 : (List Int))), .ol (List.map toD (table_306 : (List (Option (List Int))))), .va (toD (value_309 : Int)), .va (toD (width_292 : Int)), .va (toD (length_275 : Int)), .va (toD (k_279 : Int)), .un]) (fun _ => rfl) (fun value_309 => (sb_next (table_306, value_309, width_292) (.same (.same (.same (.same (.same (.drop (.same .nil))))))))))))))))) (sb_next (st_278.1, st_278.2.1, st_278.2.2) (.same (.same (.same (.same (.same (.drop (.same .nil)))))))))) (fun st_278 => (sb_next (st_278.1, st_278.2.1, st_278.2.2) (.same (.same (.same (.same (.drop (.same (.same .nil)))))))))))) (fun st_274 => (sb_frz (i := 1) rfl ([.va (toD (lengths_here_267 : (List Int))), .va (toD (st_274.1 : (List (Option (List Int))))), .va (toD (st_274.2.1 : Int)), .va (toD (st_274.2.2 : Int)), .un, .un, .un]) rfl (sb_ret (em_var 1 st_274.1 rfl)))))))))))
theorem sc__law_read : FnScope ["_law_table", "_law_bits", "_law_at", "_law_count", "_law_message", "_law_turn", "_law_found", "_law_stop", "_law_part", "_law_word"] ["_law_table", "_law_bits", "_law_at", "_law_count"] (defScope s__law_read) := ⟨rfl, rfl, rfl, by decide +kernel, rfl, by decide +kernel, by decide +kernel⟩
theorem ok__law_read : FnOk P w cf.K mg base CX0 1 T.a__law_read T.d__law_read ["_law_table", "_law_bits", "_law_at", "_law_count"] (SpP cf 4 (sp4 f__law_read)) := by
  refine fn4 (k := 0) (S := Unit) (enc := fun _ => [.un, .un, .un, .un, .un, .un, .un, .un, .un, .un]) T.F__law_read sc__law_read rfl b__law_read (fun table_315 bits_316 at_317 count_318 => [.va (toD (table_315 : (List (Option (List Int))))), .va (toD (bits_316 : (List Int))), .va (toD (at_317 : Int)), .va (toD (count_318 : Int)), .un, .un, .un, .un, .un, .un]) (fun _ _ _ _ => rfl) fun cdv A outer s H E hr => ?_
  refine ⟨_, (pss_cons (ps_set (i := 4) sc__law_read.nd rfl (.inl rfl) (pe_lst pa_nil)) (pss_cons (ps_for PassesOwn.never rfl (pi_range1 (by rfl) T.n_range (pa_cons (pv 3) pa_nil)) (pg_name (i := 5) sc__law_read.nd rfl (.inl rfl)) (pss_cons (ps_set (i := 6) sc__law_read.nd rfl (.inl rfl) pe_non) (pss_cons (ps_for PassesOwn.never rfl (pi_range2 (by rfl) T.n_range (pa_cons (pe_op op_add (pv 2) pe_int) (pa_cons (pe_op op_add (pe_callB (lenK cf.K rfl) (by rfl) T.n_len (by decide +kernel) (pa_cons (pv 1) pa_nil)) pe_int) pa_nil))) (pg_name (i := 7) sc__law_read.nd rfl (.inl rfl)) (pss_cons (ps_set (i := 8) sc__law_read.nd rfl (.inr rfl) (pe_slice (sl_listK cf.K rfl) (pv 1) (po_some (pv 2)) (po_some (pv 7)))) (pss_cons (ps_if (pt_cmpR (inDK cf.K rfl hr.units1) (pv 8) (pv 0) (by rfl)) (pss_cons (ps_set (i := 6) sc__law_read.nd rfl (.inl rfl) (pe_tup (pa_cons (pe_bm PySem.F.plainAttrs_list PySem.F.slot_list_index PySem.F.type_list_index (indexDK cf.K rfl hr.units1) (pv 0) (pa_cons (pv 8) pa_nil)) (pa_cons (pv 7) pa_nil)))) (pss_one ps_break)) pss_nil) (pss_one (ps_if (pt_cmpR op_eq (pe_callB (lenK cf.K rfl) (by rfl) T.n_len (by decide +kernel) (pa_cons (pe_lc (own := [("_law_word", 9)]) rfl sc__law_read.nd (listI cf.K rfl (pv 0)) (blkOk_by (own := [("_law_word", 9)]) (N := ["_law_table", "_law_bits", "_law_at", "_law_count", "_law_message", "_law_turn", "_law_found", "_law_stop", "_law_part", "_law_word"]) (sc := defScope s__law_read) (by decide +kernel)) (fun _ _ _ _ _ => (pg_name (i := 9) sc__law_read.nd rfl (Or.inl rfl) (Or.inr rfl))) (fun _ _ _ _ _ => (pts_one (PW.pt (pw_and (pt_cmpR op_notN (pv 9) pe_non (nomark _)) (pw_and1 (pt_cmpR (eqDK cf.K rfl hr.units) (pe_slice (sl_listK cf.K rfl) (pv 9) po_none (po_some (pe_callB (lenK cf.K rfl) (by rfl) T.n_len (by decide +kernel) (pa_cons (pv 8) pa_nil)))) (pv 8) (nomark _))))))) (fun _ _ _ _ _ => (pv 9))) pa_nil)) pe_int (nomark _)) (pss_one (ps_ret (pe_tup (pa_cons pe_str (pa_cons (pv 2) pa_nil))))) pss_nil))))) (pss_cons (ps_if (pt_cmpR op_isN (pv 6) pe_non (nomark _)) (pss_one (ps_ret (pe_tup (pa_cons pe_str (pa_cons (pe_callB (lenK cf.K rfl) (by rfl) T.n_len (by decide +kernel) (pa_cons (pv 1) pa_nil)) pa_nil))))) pss_nil) (pss_cons (ps_expr (pe_bm PySem.F.plainAttrs_list PySem.F.slot_list_append PySem.F.type_list_append mt_append (pv 4) (pa_cons (pe_ix (ix_tupK cf.K rfl) (pv 6) pe_int (fun _ _ => rfl)) pa_nil))) (pss_one (ps_set (i := 2) sc__law_read.nd rfl (.inl rfl) (pe_ix (ix_tupK cf.K rfl) (pv 6) pe_int (fun _ _ => rfl))))))))) (pss_one (ps_ret (pe_tup (pa_cons (pv 4) (pa_cons (pv 2) pa_nil))))))), fun table_315 bits_316 at_317 count_318 => ?_⟩
  unfold b__law_read
  exact (sb_asgO (ef_lst (eas_nil (α := Int))) (fun message_319 => [.va (toD (table_315 : (List (Option (List Int))))), .va (toD (bits_316 : (List Int))), .va (toD (at_317 : Int)), .va (toD (count_318 : Int)), .ol (List.map toD (message_319 : (List Int))), .un, .un, .un, .un, .un]) (fun _ => rfl) (fun message_319 => (sb_for (T := (Int × (List Int))) (encL := fun st_321 => [.va (toD (table_315 : (List (Option (List Int))))), .va (toD (bits_316 : (List Int))), .va (toD (st_321.1 : Int)), .va (toD (count_318 : Int)), .ol (List.map toD (st_321.2 : (List Int))), .un, .un, .un, .un, .un]) (ig_range1 (em_var 3 count_318 rfl)) (ag_name 5) (at_317, message_319) (.same (.same (.same (.same (.same (.same (.same (.same (.same (.same .nil)))))))))) (fun st_321 turn_322 => [.va (toD (table_315 : (List (Option (List Int))))), .va (toD (bits_316 : (List Int))), .va (toD (st_321.1 : Int)), .va (toD (count_318 : Int)), .ol (List.map toD (st_321.2 : (List Int))), .va (toD (turn_322 : Int)), .un, .un, .un, .un]) (fun _ _ => rfl) (fun st_321 turn_322 => (sb_asg (em_none (α := (Int × Int))) (ag_name 6) (fun found_323 => [.va (toD (table_315 : (List (Option (List Int))))), .va (toD (bits_316 : (List Int))), .va (toD (st_321.1 : Int)), .va (toD (count_318 : Int)), .ol (List.map toD (st_321.2 : (List Int))), .va (toD (turn_322 : Int)), .va (toD (found_323 : (Option (Int × Int)))), .un, .un, .un]) (fun _ => rfl) (fun found_323 => (sb_for (T := (Option (Int × Int))) (encL := fun st_331 => [.va (toD (table_315 : (List (Option (List Int))))), .va (toD (bits_316 : (List Int))), .va (toD (st_321.1 : Int)), .va (toD (count_318 : Int)), .ol (List.map toD (st_321.2 : (List Int))), .va (toD (turn_322 : Int)), .va (toD (st_331 : (Option (Int × Int)))), .un, .un, .un]) (ig_range2 (em_I0 (em_var 2 st_321.1 rfl) (em_int 1)) (em_I0 (em_len (EM.toS (em_var 1 bits_316 rfl))) (em_int 1))) (ag_name 7) found_323 (.same (.same (.same (.same (.same (.same (.same (.same (.same (.same .nil)))))))))) (fun st_331 stop_332 => [.va (toD (table_315 : (List (Option (List Int))))), .va (toD (bits_316 : (List Int))), .va (toD (st_321.1 : Int)), .va (toD (count_318 : Int)), .ol (List.map toD (st_321.2 : (List Int))), .va (toD (turn_322 : Int)), .va (toD (st_331 : (Option (Int × Int)))), .va (toD (stop_332 : Int)), .un, .un]) (fun _ _ => rfl) (fun st_331 stop_332 => (sb_asg (EF.toM (ef_sl (EM.toS (em_var 1 bits_316 rfl)) (eo_some (em_var 2 st_321.1 rfl)) (eo_some (em_var 7 stop_332 rfl)))) (ag_name 8) (fun part_338 => [.va (toD (table_315 : (List (Option (List Int))))), .va (toD (bits_316 : (List Int))), .va (toD (st_321.1 : Int)), .va (toD (count_318 : Int)), .ol (List.map toD (st_321.2 : (List Int))), .va (toD (turn_322 : Int)), .va (toD (st_331 : (Option (Int × Int)))), .va (toD (stop_332 : Int)), .va (toD (part_338 : (List Int))), .un]) (fun _ => rfl) (fun part_338 => (sb_if (eb_test (em_inD (EM.toE (em_var 8 part_338 rfl)) (EM.toE (em_var 0 table_315 rfl)))) (sb_assoc (sb_asg (EM.just (em_tup2 (em_indexD (em_var 0 table_315 rfl) (EM.toE (em_var 8 part_338 rfl))) (em_var 7 stop_332 rfl))) (ag_name 6) (fun found_347 => [.va (toD (table_315 : (List (Option (List Int))))), .va (toD (bits_316 : (List Int))), .va (toD (st_321.1 : Int)), .va (toD (count_318 : Int)), .ol (List.map toD (st_321.2 : (List Int))), .va (toD (turn_322 : Int)), .va (toD (found_347 : (Option (Int × Int)))), .va (toD (stop_332 : Int)), .va (toD (part_338 : (List Int))), .un]) (fun _ => rfl) (fun found_347 => (sb_break2 found_347 (.same (.same (.same (.same (.same (.same (.same (.drop (.drop (.same .nil)))))))))))))) (sb_skip (sb_ifL (eb_test (em_eqI (em_len (EF.toS (ef_lc (vs := [9]) (Gi := fun word_348 => [.va (toD (table_315 : (List (Option (List Int))))), .va (toD (bits_316 : (List Int))), .va (toD (st_321.1 : Int)), .va (toD (count_318 : Int)), .ol (List.map toD (st_321.2 : (List Int))), .va (toD (turn_322 : Int)), .va (toD (st_331 : (Option (Int × Int)))), .va (toD (stop_332 : Int)), .va (toD (part_338 : (List Int))), .va (toD (word_348 : (Option (List Int))))]) (ig_list (EM.toZ (em_var 0 table_315 rfl))) (ag_name 9) (by decide) (fun _ => rfl) (fun word_348 => (eb_and (eb_test (em_notN (em_var 9 word_348 rfl))) (eb_test (em_eqD (EM.toE (EF.toM (ef_sl (EM.toS (EM.get (em_var 9 word_348 rfl))) eo_none (eo_some (em_len (EM.toS (em_var 8 part_338 rfl))))))) (EM.toE (em_var 8 part_338 rfl)))))) (fun word_348 => (em_var 9 word_348 rfl))))) (em_int 0))) (sb_ret (em_tup2 (EM.inr (α := (List Int)) (β := Str) (em_str "InvalidWord")) (em_var 2 st_321.1 rfl))) (sb_next st_331 (.same (.same (.same (.same (.same (.same (.same (.drop (.drop (.same .nil))))))))))))))))) (fun st_331 => (sb_if (eb_test (em_isN (em_var 6 st_331 rfl))) (sb_ret2 (em_tup2 (EM.inr (α := (List Int)) (β := Str) (em_str "Truncated")) (em_len (EM.toS (em_var 1 bits_316 rfl))))) (sb_skip (sb_app (i := 4) (xs := st_321.2) rfl (em_fst (EM.get (em_var 6 st_331 rfl))) (fun message_373 => [.va (toD (table_315 : (List (Option (List Int))))), .va (toD (bits_316 : (List Int))), .va (toD (st_321.1 : Int)), .va (toD (count_318 : Int)), .ol (List.map toD (message_373 : (List Int))), .va (toD (turn_322 : Int)), .va (toD (st_331 : (Option (Int × Int)))), .un, .un, .un]) (fun _ => rfl) (fun message_373 => (sb_one (sb_asg (em_snd (EM.get (em_var 6 st_331 rfl))) (ag_name 2) (fun at_376 => [.va (toD (table_315 : (List (Option (List Int))))), .va (toD (bits_316 : (List Int))), .va (toD (at_376 : Int)), .va (toD (count_318 : Int)), .ol (List.map toD (message_373 : (List Int))), .va (toD (turn_322 : Int)), .va (toD (st_331 : (Option (Int × Int)))), .un, .un, .un]) (fun _ => rfl) (fun at_376 => (sb_next (at_376, message_373) (.same (.same (.same (.same (.same (.drop (.drop (.same (.same (.same .nil))))))))))))))))))))))) (fun st_321 => (sb_frz (i := 4) rfl ([.va (toD (table_315 : (List (Option (List Int))))), .va (toD (bits_316 : (List Int))), .va (toD (st_321.1 : Int)), .va (toD (count_318 : Int)), .va (toD (st_321.2 : (List Int))), .un, .un, .un, .un, .un]) rfl (sb_ret (em_tup2 (EM.inl (α := (List Int)) (β := Str) (em_var 4 st_321.2 rfl)) (em_var 2 st_321.1 rfl))))))))
theorem sc__law_told : FnScope ["_law_lengths_here", "_law_bits", "_law_at", "_law_count", "e"] ["_law_lengths_here", "_law_bits", "_law_at", "_law_count"] (defScope s__law_told) := ⟨rfl, rfl, rfl, by decide +kernel, rfl, by decide +kernel, by decide +kernel⟩
theorem ok__law_told : FnOk P w cf.K mg base CX0 6 T.a__law_told T.d__law_told ["_law_lengths_here", "_law_bits", "_law_at", "_law_count"] (SpP cf 4 (sp4 f__law_told)) := by
  refine fn4 (k := 5) (S := Unit) (enc := fun _ => [.un, .un, .un, .un, .un]) T.F__law_told sc__law_told rfl b__law_told (fun lengths_here_384 bits_385 at_386 count_387 => [.va (toD (lengths_here_384 : (List Int))), .va (toD (bits_385 : (List Int))), .va (toD (at_386 : Int)), .va (toD (count_387 : Int)), .un]) (fun _ _ _ _ => rfl) fun cdv A outer s H E hr => ?_
  refine ⟨_, (pss_one (ps_tryA (K := cf.K) (fun cls d σ H => E0 cls d H) rfl rfl rfl sc__law_told.nd takes0 (fun W pn xe tkW po => (pss_one (ps_ret (pe_callSD (ok_read_symbols T) (hr.mono (by decide)) (by rfl) T.g_read_symbols T.F_read_symbols.kp T.b_read_symbols .nil (fun σ => passAt tkW σ) (pa_cons (pv 0) (pa_cons (pv 1) (pa_cons (pv 2) (pa_cons (pv 3) pa_nil)))))))) (.named (i := 4) ⟨by rfl, by decide, .inl T.X_InvalidWord.hm⟩ rfl rfl (fun a oe cls d pn hz hf => (pss_one (ps_ret (pe_tup (pa_cons (pe_xf T.Y_InvalidWord.xf T.Y_InvalidWord.nn hz hf (pv 4)) (pa_cons (pe_xf T.Y_InvalidWord.xf T.Y_InvalidWord.np hz hf (pv 4)) pa_nil)))))) (.named (i := 4) ⟨by rfl, by decide, .inl T.X_Truncated.hm⟩ rfl rfl (fun a oe cls d pn hz hf => (pss_one (ps_ret (pe_tup (pa_cons (pe_xf T.Y_Truncated.xf T.Y_Truncated.nn hz hf (pv 4)) (pa_cons (pe_xf T.Y_Truncated.xf T.Y_Truncated.np hz hf (pv 4)) pa_nil)))))) .nil)))), fun lengths_here_384 bits_385 at_386 count_387 => ?_⟩
  unfold b__law_told
  exact (sb_tryA rfl (fun E' => (sb_ret (EM.conv ((fun a => ((fun a => Sum.inl (id a)) a.1, id a.2)) : ((List Int) × Int) → (((List Int) ⊕ Str) × Int)) (fun a => by rcases a <;> rfl) (em_callX4 (em_var 0 lengths_here_384 rfl) (em_var 1 bits_385 rfl) (em_var 2 at_386 rfl) (em_var 3 count_387 rfl))))) (hq_ret se_call) (fun c p F O H σ D d hM hd nb kn kb kr ke => by
    by_cases c0 : c = 0
    · subst c0
      exact ⟨false, T.m_0_1, nofun, fun _ => ⟨true, T.m_0_0, fun _ a na => np_ret hM hd (by show 4 < 5; decide) (fun v F' H' le hf hr => kr _ v F' H' rfl le hf (show Dr cf.K F' v (.tup [.str "Truncated", .int p]) from (T.nm_Truncated ▸ hr))), nofun⟩⟩
    by_cases c1 : c = 1
    · subst c1
      exact ⟨true, T.m_1_1, fun _ a na => np_ret hM hd (by show 4 < 5; decide) (fun v F' H' le hf hr => kr _ v F' H' rfl le hf (show Dr cf.K F' v (.tup [.str "InvalidWord", .int p]) from (T.nm_InvalidWord ▸ hr))), nofun⟩
    exact absurd (by rw [if_neg c0, if_neg c1]) nb))
theorem sc_law : FnScope ["_law_script", "_law_many", "_law_lengths_here", "_law_table", "_law_present", "_law_message", "_law_bits", "_law_symbol", "_law_given", "_law_before", "_law_behind", "_law_whole", "_law_handed", "_law_found", "_law_cell_here", "_law_at", "_law_count", "_law_k"] ["_law_script"] (defScope s_law) := ⟨rfl, rfl, rfl, by decide +kernel, rfl, by decide +kernel, by decide +kernel⟩
theorem ok_law : FnOk P w cf.K mg base CX0 7 T.a_law T.d_law ["_law_script"] (SpP cf 1 (sp1 f_law)) := by
  refine fn1 (k := 6) (S := Unit) (enc := fun _ => [.un, .un, .un, .un, .un, .un, .un, .un, .un, .un, .un, .un, .un, .un, .un, .un, .un, .un]) T.F_law sc_law rfl b_law (fun script_394 => [.va (toD (script_394 : Scr)), .un, .un, .un, .un, .un, .un, .un, .un, .un, .un, .un, .un, .un, .un, .un, .un, .un]) (fun _ => rfl) fun cdv A outer s H E hr => ?_
  refine ⟨_, (pss_cons (ps_set (i := 1) sc_law.nd rfl (.inl rfl) (pe_op op_add pe_int (pe_op op_mod (pe_call (ok__law_cell T) (hr.mono (by decide)) (by rfl) T.g__law_cell T.F__law_cell.kp T.b__law_cell .nil pass0 (pa_cons (pv 0) (pa_cons pe_int pa_nil))) pe_int))) (pss_cons (ps_set (i := 2) sc_law.nd rfl (.inl rfl) (pe_call (ok__law_fitting T) (hr.mono (by decide)) (by rfl) T.g__law_fitting T.F__law_fitting.kp T.b__law_fitting .nil pass0 (pa_cons (pe_call (ok__law_lengths T) (hr.mono (by decide)) (by rfl) T.g__law_lengths T.F__law_lengths.kp T.b__law_lengths .nil pass0 (pa_cons (pv 0) (pa_cons pe_int (pa_cons (pv 1) pa_nil)))) pa_nil))) (pss_cons (ps_set (i := 3) sc_law.nd rfl (.inr rfl) (pe_call (ok__law_words T) (hr.mono (by decide)) (by rfl) T.g__law_words T.F__law_words.kp T.b__law_words .nil pass0 (pa_cons (pv 2) pa_nil))) (pss_cons (ps_set (i := 4) sc_law.nd rfl (.inr rfl) (pe_lc (own := [("_law_k", 17)]) rfl sc_law.nd (pi_range1 (by rfl) T.n_range (pa_cons (pv 1) pa_nil)) (blkOk_by (own := [("_law_k", 17)]) (N := ["_law_script", "_law_many", "_law_lengths_here", "_law_table", "_law_present", "_law_message", "_law_bits", "_law_symbol", "_law_given", "_law_before", "_law_behind", "_law_whole", "_law_handed", "_law_found", "_law_cell_here", "_law_at", "_law_count", "_law_k"]) (sc := defScope s_law) (by decide +kernel)) (fun _ _ _ _ _ => (pg_name (i := 17) sc_law.nd rfl (Or.inl rfl) (Or.inr rfl))) (fun _ _ _ _ _ => (pts_one (pt_cmpR op_notN (pe_ix (ix_listK cf.K rfl) (pv 3) (pv 17) (fun _ _ => rfl)) pe_non (nomark _)))) (fun _ _ _ _ _ => (pv 17)))) (pss_cons (ps_setLc (i := 5) (own := [("_law_cell_here", 14)]) rfl sc_law.nd rfl rfl (sw_true rfl rfl rfl (by decide +kernel)) (listI cf.K rfl (pe_slice (sl_listK cf.K rfl) (pv 0) (po_some pe_int) (po_some pe_int))) (blkOk_by (own := [("_law_cell_here", 14)]) (N := ["_law_script", "_law_many", "_law_lengths_here", "_law_table", "_law_present", "_law_message", "_law_bits", "_law_symbol", "_law_given", "_law_before", "_law_behind", "_law_whole", "_law_handed", "_law_found", "_law_cell_here", "_law_at", "_law_count", "_law_k"]) (sc := defScope s_law) (by decide +kernel)) (fun _ _ _ _ _ => (pg_name (i := 14) sc_law.nd rfl (Or.inl rfl) (Or.inr rfl))) (fun _ _ _ _ _ => pts_nil) (fun _ _ _ _ _ => (pe_ix (ix_listK cf.K rfl) (pv 4) (pe_op op_mod (pe_callTy call_int1 (by rfl) T.n_int (by decide +kernel) (pa_cons (pv 14) pa_nil)) (pe_callB (lenK cf.K rfl) (by rfl) T.n_len (by decide +kernel) (pa_cons (pv 4) pa_nil))) (fun _ _ => rfl)))) (pss_cons (ps_set (i := 6) sc_law.nd rfl (.inl rfl) (pe_lst pa_nil)) (pss_cons (ps_for PassesOwn.never rfl (listI cf.K rfl (pv 5)) (pg_name (i := 7) sc_law.nd rfl (.inl rfl)) (pss_one (ps_set (i := 6) sc_law.nd rfl (.inl rfl) (pe_op op_cat (pv 6) (pe_ix (ix_listK cf.K rfl) (pv 3) (pv 7) (fun _ _ => rfl)))))) (pss_cons (ps_set (i := 8) sc_law.nd rfl (.inl rfl) (pe_callTy (listK cf.K rfl) (by rfl) T.n_list (by decide +kernel) (pa_cons (pv 5) pa_nil))) (pss_cons (ps_if (PW.pt (pw_or (pt_cmpR (neDK cf.K rfl hr.units) (pe_call (ok_write_symbols T) (hr.mono (by decide)) (by rfl) T.g_write_symbols T.F_write_symbols.kp T.b_write_symbols .nil pass0 (pa_cons (pe_callTy (listK cf.K rfl) (by rfl) T.n_list (by decide +kernel) (pa_cons (pv 2) pa_nil)) (pa_cons (pv 8) pa_nil))) (pv 6) (nomark _)) (pw_or1 (pt_cmpR (neDK cf.K rfl hr.units) (pv 8) (pv 5) (nomark _))))) (pss_one (ps_ret pe_bl)) pss_nil) (pss_cons (ps_setLc (i := 9) (own := [("_law_cell_here", 14)]) rfl sc_law.nd rfl rfl (sw_true rfl rfl rfl (by decide +kernel)) (listI cf.K rfl (pe_slice (sl_listK cf.K rfl) (pv 0) (po_some pe_int) (po_some pe_int))) (blkOk_by (own := [("_law_cell_here", 14)]) (N := ["_law_script", "_law_many", "_law_lengths_here", "_law_table", "_law_present", "_law_message", "_law_bits", "_law_symbol", "_law_given", "_law_before", "_law_behind", "_law_whole", "_law_handed", "_law_found", "_law_cell_here", "_law_at", "_law_count", "_law_k"]) (sc := defScope s_law) (by decide +kernel)) (fun _ _ _ _ _ => (pg_name (i := 14) sc_law.nd rfl (Or.inl rfl) (Or.inr rfl))) (fun _ _ _ _ _ => pts_nil) (fun _ _ _ _ _ => (pe_op op_mod (pe_callTy call_int1 (by rfl) T.n_int (by decide +kernel) (pa_cons (pv 14) pa_nil)) pe_int))) (pss_cons (ps_setLc (i := 10) (own := [("_law_cell_here", 14)]) rfl sc_law.nd rfl rfl (sw_true rfl rfl rfl (by decide +kernel)) (listI cf.K rfl (pe_slice (sl_listK cf.K rfl) (pv 0) (po_some pe_int) (po_some pe_int))) (blkOk_by (own := [("_law_cell_here", 14)]) (N := ["_law_script", "_law_many", "_law_lengths_here", "_law_table", "_law_present", "_law_message", "_law_bits", "_law_symbol", "_law_given", "_law_before", "_law_behind", "_law_whole", "_law_handed", "_law_found", "_law_cell_here", "_law_at", "_law_count", "_law_k"]) (sc := defScope s_law) (by decide +kernel)) (fun _ _ _ _ _ => (pg_name (i := 14) sc_law.nd rfl (Or.inl rfl) (Or.inr rfl))) (fun _ _ _ _ _ => pts_nil) (fun _ _ _ _ _ => (pe_op op_mod (pe_op op_fdivW (pe_callTy call_int1 (by rfl) T.n_int (by decide +kernel) (pa_cons (pv 14) pa_nil)) pe_int) pe_int))) (pss_cons (ps_set (i := 11) sc_law.nd rfl (.inl rfl) (pe_op op_cat (pe_op op_cat (pv 9) (pv 6)) (pv 10))) (pss_cons (ps_set (i := 12) sc_law.nd rfl (.inl rfl) (pe_callTy (listK cf.K rfl) (by rfl) T.n_list (by decide +kernel) (pa_cons (pv 11) pa_nil))) (pss_cons (ps_set (i := 13) sc_law.nd rfl (.inl rfl) (pe_call (ok__law_told T) (hr.mono (by decide)) (by rfl) T.g__law_told T.F__law_told.kp T.b__law_told .nil pass0 (pa_cons (pe_callTy (listK cf.K rfl) (by rfl) T.n_list (by decide +kernel) (pa_cons (pv 2) pa_nil)) (pa_cons (pv 12) (pa_cons (pe_callB (lenK cf.K rfl) (by rfl) T.n_len (by decide +kernel) (pa_cons (pv 9) pa_nil)) (pa_cons (pe_callB (lenK cf.K rfl) (by rfl) T.n_len (by decide +kernel) (pa_cons (pv 5) pa_nil)) pa_nil)))))) (pss_cons (ps_if (PW.pt (pw_or (pt_cmpR (neDK cf.K rfl hr.units) (pv 13) (pe_tup (pa_cons (pv 5) (pa_cons (pe_op op_add (pe_callB (lenK cf.K rfl) (by rfl) T.n_len (by decide +kernel) (pa_cons (pv 9) pa_nil)) (pe_callB (lenK cf.K rfl) (by rfl) T.n_len (by decide +kernel) (pa_cons (pv 6) pa_nil))) pa_nil))) (nomark _)) (pw_or1 (pt_cmpR (neDK cf.K rfl hr.units) (pv 12) (pv 11) (nomark _))))) (pss_one (ps_ret pe_bl)) pss_nil) (pss_cons (ps_set (i := 14) sc_law.nd rfl (.inr rfl) (pe_call (ok__law_cell T) (hr.mono (by decide)) (by rfl) T.g__law_cell T.F__law_cell.kp T.b__law_cell .nil pass0 (pa_cons (pv 0) (pa_cons pe_int pa_nil)))) (pss_cons (ps_setLc (i := 11) (own := [("_law_k", 17)]) rfl sc_law.nd rfl rfl (sw_true rfl rfl rfl (by decide +kernel)) (pi_range1 (by rfl) T.n_range (pa_cons (pe_op op_mod (pv 14) pe_int) pa_nil)) (blkOk_by (own := [("_law_k", 17)]) (N := ["_law_script", "_law_many", "_law_lengths_here", "_law_table", "_law_present", "_law_message", "_law_bits", "_law_symbol", "_law_given", "_law_before", "_law_behind", "_law_whole", "_law_handed", "_law_found", "_law_cell_here", "_law_at", "_law_count", "_law_k"]) (sc := defScope s_law) (by decide +kernel)) (fun _ _ _ _ _ => (pg_name (i := 17) sc_law.nd rfl (Or.inl rfl) (Or.inr rfl))) (fun _ _ _ _ _ => pts_nil) (fun _ _ _ _ _ => (pe_op op_mod (pe_op op_fdivW (pv 14) (pe_op op_shlW pe_int (pv 17))) pe_int))) (pss_cons (ps_if (pt_cmpR op_eq (pe_op op_mod (pv 14) pe_int) pe_int (nomark _)) (pss_one (ps_set (i := 11) sc_law.nd rfl (.inl rfl) (pe_slice (sl_listK cf.K rfl) (pv 6) po_none (po_some (pe_op op_mod (pe_op op_fdivW (pv 14) pe_int) (pe_op op_add (pe_callB (lenK cf.K rfl) (by rfl) T.n_len (by decide +kernel) (pa_cons (pv 6) pa_nil)) pe_int)))))) pss_nil) (pss_cons (ps_set (i := 15) sc_law.nd rfl (.inl rfl) (pe_callB (call_min2 rfl) (by rfl) T.n_min (by decide +kernel) (pa_cons (pe_callB (lenK cf.K rfl) (by rfl) T.n_len (by decide +kernel) (pa_cons (pv 11) pa_nil)) (pa_cons (pe_op op_mod (pe_op op_fdivW (pv 14) pe_int) pe_int) pa_nil)))) (pss_cons (ps_set (i := 16) sc_law.nd rfl (.inl rfl) (pe_op op_mod (pe_call (ok__law_cell T) (hr.mono (by decide)) (by rfl) T.g__law_cell T.F__law_cell.kp T.b__law_cell .nil pass0 (pa_cons (pv 0) (pa_cons pe_int pa_nil))) pe_int)) (pss_one (ps_ret (pe_cmpR (eqDK cf.K rfl hr.units) (pe_call (ok__law_told T) (hr.mono (by decide)) (by rfl) T.g__law_told T.F__law_told.kp T.b__law_told .nil pass0 (pa_cons (pe_callTy (listK cf.K rfl) (by rfl) T.n_list (by decide +kernel) (pa_cons (pv 2) pa_nil)) (pa_cons (pe_callTy (listK cf.K rfl) (by rfl) T.n_list (by decide +kernel) (pa_cons (pv 11) pa_nil)) (pa_cons (pv 15) (pa_cons (pv 16) pa_nil))))) (pe_call (ok__law_read T) (hr.mono (by decide)) (by rfl) T.g__law_read T.F__law_read.kp T.b__law_read .nil pass0 (pa_cons (pv 3) (pa_cons (pv 11) (pa_cons (pv 15) (pa_cons (pv 16) pa_nil))))) (nomark _)))))))))))))))))))))))), fun script_394 => ?_⟩
  unfold b_law
  exact (sb_asg (em_I0 (em_int 1) (em_mod (em_call2 (em_var 0 script_394 rfl) (em_int 0)) (em_int 24))) (ag_name 1) (fun many_401 => [.va (toD (script_394 : Scr)), .va (toD (many_401 : Int)), .un, .un, .un, .un, .un, .un, .un, .un, .un, .un, .un, .un, .un, .un, .un, .un]) (fun _ => rfl) (fun many_401 => (sb_asg (em_call1 (em_call3 (em_var 0 script_394 rfl) (em_int 1) (em_var 1 many_401 rfl))) (ag_name 2) (fun lengths_here_406 => [.va (toD (script_394 : Scr)), .va (toD (many_401 : Int)), .va (toD (lengths_here_406 : (List Int))), .un, .un, .un, .un, .un, .un, .un, .un, .un, .un, .un, .un, .un, .un, .un]) (fun _ => rfl) (fun lengths_here_406 => (sb_asg (em_call1 (em_var 2 lengths_here_406 rfl)) (ag_name 3) (fun table_408 => [.va (toD (script_394 : Scr)), .va (toD (many_401 : Int)), .va (toD (lengths_here_406 : (List Int))), .va (toD (table_408 : (List (Option (List Int))))), .un, .un, .un, .un, .un, .un, .un, .un, .un, .un, .un, .un, .un, .un]) (fun _ => rfl) (fun table_408 => (sb_asg (EF.toM (ef_lc (vs := [17]) (Gi := fun k_410 => [.va (toD (script_394 : Scr)), .va (toD (many_401 : Int)), .va (toD (lengths_here_406 : (List Int))), .va (toD (table_408 : (List (Option (List Int))))), .un, .un, .un, .un, .un, .un, .un, .un, .un, .un, .un, .un, .un, .va (toD (k_410 : Int))]) (ig_range1 (em_var 1 many_401 rfl)) (ag_name 17) (by decide) (fun _ => rfl) (fun k_410 => (eb_test (em_notN (em_ixL (EM.toS (em_var 3 table_408 rfl)) (em_var 17 k_410 rfl))))) (fun k_410 => (em_var 17 k_410 rfl)))) (ag_name 4) (fun present_414 => [.va (toD (script_394 : Scr)), .va (toD (many_401 : Int)), .va (toD (lengths_here_406 : (List Int))), .va (toD (table_408 : (List (Option (List Int))))), .va (toD (present_414 : (List Int))), .un, .un, .un, .un, .un, .un, .un, .un, .un, .un, .un, .un, .un]) (fun _ => rfl) (fun present_414 => (sb_asg (EF.toM (ef_lc (vs := [14]) (Gi := fun cell_here_420 => [.va (toD (script_394 : Scr)), .va (toD (many_401 : Int)), .va (toD (lengths_here_406 : (List Int))), .va (toD (table_408 : (List (Option (List Int))))), .va (toD (present_414 : (List Int))), .un, .un, .un, .un, .un, .un, .un, .un, .un, .va (toD (cell_here_420 : Int)), .un, .un, .un]) (ig_list (EF.toZ (ef_sl (EM.scr (em_var 0 script_394 rfl)) (eo_some (em_int 25)) (eo_some (em_int 45))))) (ag_name 14) (by decide) (fun _ => rfl) (fun cell_here_420 => eb_yes) (fun cell_here_420 => (em_ixL (EM.toS (em_var 4 present_414 rfl)) (em_mod (em_intI (em_var 14 cell_here_420 rfl)) (em_len (EM.toS (em_var 4 present_414 rfl)))))))) (ag_name 5) (fun message_426 => [.va (toD (script_394 : Scr)), .va (toD (many_401 : Int)), .va (toD (lengths_here_406 : (List Int))), .va (toD (table_408 : (List (Option (List Int))))), .va (toD (present_414 : (List Int))), .va (toD (message_426 : (List Int))), .un, .un, .un, .un, .un, .un, .un, .un, .un, .un, .un, .un]) (fun _ => rfl) (fun message_426 => (sb_asg (EF.toM (ef_lst (eas_nil (α := Int)))) (ag_name 6) (fun bits_427 => [.va (toD (script_394 : Scr)), .va (toD (many_401 : Int)), .va (toD (lengths_here_406 : (List Int))), .va (toD (table_408 : (List (Option (List Int))))), .va (toD (present_414 : (List Int))), .va (toD (message_426 : (List Int))), .va (toD (bits_427 : (List Int))), .un, .un, .un, .un, .un, .un, .un, .un, .un, .un, .un]) (fun _ => rfl) (fun bits_427 => (sb_for (T := (List Int)) (encL := fun st_428 => [.va (toD (script_394 : Scr)), .va (toD (many_401 : Int)), .va (toD (lengths_here_406 : (List Int))), .va (toD (table_408 : (List (Option (List Int))))), .va (toD (present_414 : (List Int))), .va (toD (message_426 : (List Int))), .va (toD (st_428 : (List Int))), .un, .un, .un, .un, .un, .un, .un, .un, .un, .un, .un]) (ig_list (EM.toZ (em_var 5 message_426 rfl))) (ag_name 7) bits_427 (.same (.same (.same (.same (.same (.same (.same (.same (.same (.same (.same (.same (.same (.same (.same (.same (.same (.same .nil)))))))))))))))))) (fun st_428 symbol_429 => [.va (toD (script_394 : Scr)), .va (toD (many_401 : Int)), .va (toD (lengths_here_406 : (List Int))), .va (toD (table_408 : (List (Option (List Int))))), .va (toD (present_414 : (List Int))), .va (toD (message_426 : (List Int))), .va (toD (st_428 : (List Int))), .va (toD (symbol_429 : Int)), .un, .un, .un, .un, .un, .un, .un, .un, .un, .un]) (fun _ _ => rfl) (fun st_428 symbol_429 => (sb_one (sb_asg (EF.toM (ef_cat (EM.toL (em_var 6 st_428 rfl)) (EM.toL (EM.get (em_ixL (EM.toS (em_var 3 table_408 rfl)) (em_var 7 symbol_429 rfl)))))) (ag_name 6) (fun bits_434 => [.va (toD (script_394 : Scr)), .va (toD (many_401 : Int)), .va (toD (lengths_here_406 : (List Int))), .va (toD (table_408 : (List (Option (List Int))))), .va (toD (present_414 : (List Int))), .va (toD (message_426 : (List Int))), .va (toD (bits_434 : (List Int))), .va (toD (symbol_429 : Int)), .un, .un, .un, .un, .un, .un, .un, .un, .un, .un]) (fun _ => rfl) (fun bits_434 => (sb_next bits_434 (.same (.same (.same (.same (.same (.same (.same (.drop (.same (.same (.same (.same (.same (.same (.same (.same (.same (.same .nil))))))))))))))))))))))) (fun st_428 => (sb_asg (EF.toM (ef_list (EM.toS (em_var 5 message_426 rfl)))) (ag_name 8) (fun given_435 => [.va (toD (script_394 : Scr)), .va (toD (many_401 : Int)), .va (toD (lengths_here_406 : (List Int))), .va (toD (table_408 : (List (Option (List Int))))), .va (toD (present_414 : (List Int))), .va (toD (message_426 : (List Int))), .va (toD (st_428 : (List Int))), .un, .va (toD (given_435 : (List Int))), .un, .un, .un, .un, .un, .un, .un, .un, .un]) (fun _ => rfl) (fun given_435 => (sb_if (eb_or (eb_test (em_neD (EM.toE (em_call2 (EF.toM (ef_list (EM.toS (em_var 2 lengths_here_406 rfl)))) (em_var 8 given_435 rfl))) (EM.toE (em_var 6 st_428 rfl)))) (eb_test (em_neD (EM.toE (em_var 8 given_435 rfl)) (EM.toE (em_var 5 message_426 rfl))))) (sb_ret2 (em_bl false)) (sb_skip (sb_asg (EF.toM (ef_lc (vs := [14]) (Gi := fun cell_here_450 => [.va (toD (script_394 : Scr)), .va (toD (many_401 : Int)), .va (toD (lengths_here_406 : (List Int))), .va (toD (table_408 : (List (Option (List Int))))), .va (toD (present_414 : (List Int))), .va (toD (message_426 : (List Int))), .va (toD (st_428 : (List Int))), .un, .va (toD (given_435 : (List Int))), .un, .un, .un, .un, .un, .va (toD (cell_here_450 : Int)), .un, .un, .un]) (ig_list (EF.toZ (ef_sl (EM.scr (em_var 0 script_394 rfl)) (eo_some (em_int 45)) (eo_some (em_int 49))))) (ag_name 14) (by decide) (fun _ => rfl) (fun cell_here_450 => eb_yes) (fun cell_here_450 => (em_mod (em_intI (em_var 14 cell_here_450 rfl)) (em_int 2))))) (ag_name 9) (fun before_453 => [.va (toD (script_394 : Scr)), .va (toD (many_401 : Int)), .va (toD (lengths_here_406 : (List Int))), .va (toD (table_408 : (List (Option (List Int))))), .va (toD (present_414 : (List Int))), .va (toD (message_426 : (List Int))), .va (toD (st_428 : (List Int))), .un, .va (toD (given_435 : (List Int))), .va (toD (before_453 : (List Int))), .un, .un, .un, .un, .un, .un, .un, .un]) (fun _ => rfl) (fun before_453 => (sb_asg (EF.toM (ef_lc (vs := [14]) (Gi := fun cell_here_459 => [.va (toD (script_394 : Scr)), .va (toD (many_401 : Int)), .va (toD (lengths_here_406 : (List Int))), .va (toD (table_408 : (List (Option (List Int))))), .va (toD (present_414 : (List Int))), .va (toD (message_426 : (List Int))), .va (toD (st_428 : (List Int))), .un, .va (toD (given_435 : (List Int))), .va (toD (before_453 : (List Int))), .un, .un, .un, .un, .va (toD (cell_here_459 : Int)), .un, .un, .un]) (ig_list (EF.toZ (ef_sl (EM.scr (em_var 0 script_394 rfl)) (eo_some (em_int 45)) (eo_some (em_int 52))))) (ag_name 14) (by decide) (fun _ => rfl) (fun cell_here_459 => eb_yes) (fun cell_here_459 => (em_mod (em_div (em_intI (em_var 14 cell_here_459 rfl)) (em_int 2)) (em_int 2))))) (ag_name 10) (fun behind_464 => [.va (toD (script_394 : Scr)), .va (toD (many_401 : Int)), .va (toD (lengths_here_406 : (List Int))), .va (toD (table_408 : (List (Option (List Int))))), .va (toD (present_414 : (List Int))), .va (toD (message_426 : (List Int))), .va (toD (st_428 : (List Int))), .un, .va (toD (given_435 : (List Int))), .va (toD (before_453 : (List Int))), .va (toD (behind_464 : (List Int))), .un, .un, .un, .un, .un, .un, .un]) (fun _ => rfl) (fun behind_464 => (sb_asg (EF.toM (ef_cat (EF.toL (ef_cat (EM.toL (em_var 9 before_453 rfl)) (EM.toL (em_var 6 st_428 rfl)))) (EM.toL (em_var 10 behind_464 rfl)))) (ag_name 11) (fun whole_469 => [.va (toD (script_394 : Scr)), .va (toD (many_401 : Int)), .va (toD (lengths_here_406 : (List Int))), .va (toD (table_408 : (List (Option (List Int))))), .va (toD (present_414 : (List Int))), .va (toD (message_426 : (List Int))), .va (toD (st_428 : (List Int))), .un, .va (toD (given_435 : (List Int))), .va (toD (before_453 : (List Int))), .va (toD (behind_464 : (List Int))), .va (toD (whole_469 : (List Int))), .un, .un, .un, .un, .un, .un]) (fun _ => rfl) (fun whole_469 => (sb_asg (EF.toM (ef_list (EM.toS (em_var 11 whole_469 rfl)))) (ag_name 12) (fun handed_470 => [.va (toD (script_394 : Scr)), .va (toD (many_401 : Int)), .va (toD (lengths_here_406 : (List Int))), .va (toD (table_408 : (List (Option (List Int))))), .va (toD (present_414 : (List Int))), .va (toD (message_426 : (List Int))), .va (toD (st_428 : (List Int))), .un, .va (toD (given_435 : (List Int))), .va (toD (before_453 : (List Int))), .va (toD (behind_464 : (List Int))), .va (toD (whole_469 : (List Int))), .va (toD (handed_470 : (List Int))), .un, .un, .un, .un, .un]) (fun _ => rfl) (fun handed_470 => (sb_asg (em_call4 (EF.toM (ef_list (EM.toS (em_var 2 lengths_here_406 rfl)))) (em_var 12 handed_470 rfl) (em_len (EM.toS (em_var 9 before_453 rfl))) (em_len (EM.toS (em_var 5 message_426 rfl)))) (ag_name 13) (fun found_477 => [.va (toD (script_394 : Scr)), .va (toD (many_401 : Int)), .va (toD (lengths_here_406 : (List Int))), .va (toD (table_408 : (List (Option (List Int))))), .va (toD (present_414 : (List Int))), .va (toD (message_426 : (List Int))), .va (toD (st_428 : (List Int))), .un, .va (toD (given_435 : (List Int))), .va (toD (before_453 : (List Int))), .va (toD (behind_464 : (List Int))), .va (toD (whole_469 : (List Int))), .va (toD (handed_470 : (List Int))), .va (toD (found_477 : (((List Int) ⊕ Str) × Int))), .un, .un, .un, .un]) (fun _ => rfl) (fun found_477 => (sb_if (eb_or (eb_test (em_neD (EM.toE (em_var 13 found_477 rfl)) (EM.toE (em_tup2 (EM.inl (α := (List Int)) (β := Str) (em_var 5 message_426 rfl)) (em_I0 (em_len (EM.toS (em_var 9 before_453 rfl))) (em_len (EM.toS (em_var 6 st_428 rfl)))))))) (eb_test (em_neD (EM.toE (em_var 12 handed_470 rfl)) (EM.toE (em_var 11 whole_469 rfl))))) (sb_ret2 (em_bl false)) (sb_skip (sb_asg (em_call2 (em_var 0 script_394 rfl) (em_int 52)) (ag_name 14) (fun cell_here_494 => [.va (toD (script_394 : Scr)), .va (toD (many_401 : Int)), .va (toD (lengths_here_406 : (List Int))), .va (toD (table_408 : (List (Option (List Int))))), .va (toD (present_414 : (List Int))), .va (toD (message_426 : (List Int))), .va (toD (st_428 : (List Int))), .un, .va (toD (given_435 : (List Int))), .va (toD (before_453 : (List Int))), .va (toD (behind_464 : (List Int))), .va (toD (whole_469 : (List Int))), .va (toD (handed_470 : (List Int))), .va (toD (found_477 : (((List Int) ⊕ Str) × Int))), .va (toD (cell_here_494 : Int)), .un, .un, .un]) (fun _ => rfl) (fun cell_here_494 => (sb_asg (EF.toM (ef_lc (vs := [17]) (Gi := fun k_498 => [.va (toD (script_394 : Scr)), .va (toD (many_401 : Int)), .va (toD (lengths_here_406 : (List Int))), .va (toD (table_408 : (List (Option (List Int))))), .va (toD (present_414 : (List Int))), .va (toD (message_426 : (List Int))), .va (toD (st_428 : (List Int))), .un, .va (toD (given_435 : (List Int))), .va (toD (before_453 : (List Int))), .va (toD (behind_464 : (List Int))), .va (toD (whole_469 : (List Int))), .va (toD (handed_470 : (List Int))), .va (toD (found_477 : (((List Int) ⊕ Str) × Int))), .va (toD (cell_here_494 : Int)), .un, .un, .va (toD (k_498 : Int))]) (ig_range1 (em_mod (em_var 14 cell_here_494 rfl) (em_int 50))) (ag_name 17) (by decide) (fun _ => rfl) (fun k_498 => eb_yes) (fun k_498 => (em_mod (em_div (em_var 14 cell_here_494 rfl) (em_shl (em_int 1) (em_var 17 k_498 rfl))) (em_int 2))))) (ag_name 11) (fun whole_505 => [.va (toD (script_394 : Scr)), .va (toD (many_401 : Int)), .va (toD (lengths_here_406 : (List Int))), .va (toD (table_408 : (List (Option (List Int))))), .va (toD (present_414 : (List Int))), .va (toD (message_426 : (List Int))), .va (toD (st_428 : (List Int))), .un, .va (toD (given_435 : (List Int))), .va (toD (before_453 : (List Int))), .va (toD (behind_464 : (List Int))), .va (toD (whole_505 : (List Int))), .va (toD (handed_470 : (List Int))), .va (toD (found_477 : (((List Int) ⊕ Str) × Int))), .va (toD (cell_here_494 : Int)), .un, .un, .un]) (fun _ => rfl) (fun whole_505 => (sb_seq (T := (List Int)) (enc1 := fun st_523 => [.va (toD (script_394 : Scr)), .va (toD (many_401 : Int)), .va (toD (lengths_here_406 : (List Int))), .va (toD (table_408 : (List (Option (List Int))))), .va (toD (present_414 : (List Int))), .va (toD (message_426 : (List Int))), .va (toD (st_428 : (List Int))), .un, .va (toD (given_435 : (List Int))), .va (toD (before_453 : (List Int))), .va (toD (behind_464 : (List Int))), .va (toD (st_523 : (List Int))), .va (toD (handed_470 : (List Int))), .va (toD (found_477 : (((List Int) ⊕ Str) × Int))), .va (toD (cell_here_494 : Int)), .un, .un, .un]) (sb_ifL (eb_test (em_eqI (em_mod (em_var 14 cell_here_494 rfl) (em_int 2)) (em_int 1))) (sb_one (sb_asg (EF.toM (ef_sl (EM.toS (em_var 6 st_428 rfl)) eo_none (eo_some (em_mod (em_div (em_var 14 cell_here_494 rfl) (em_int 50)) (em_I0 (em_len (EM.toS (em_var 6 st_428 rfl))) (em_int 1)))))) (ag_name 11) (fun whole_535 => [.va (toD (script_394 : Scr)), .va (toD (many_401 : Int)), .va (toD (lengths_here_406 : (List Int))), .va (toD (table_408 : (List (Option (List Int))))), .va (toD (present_414 : (List Int))), .va (toD (message_426 : (List Int))), .va (toD (st_428 : (List Int))), .un, .va (toD (given_435 : (List Int))), .va (toD (before_453 : (List Int))), .va (toD (behind_464 : (List Int))), .va (toD (whole_535 : (List Int))), .va (toD (handed_470 : (List Int))), .va (toD (found_477 : (((List Int) ⊕ Str) × Int))), .va (toD (cell_here_494 : Int)), .un, .un, .un]) (fun _ => rfl) (fun whole_535 => (sb_next whole_535 (.same (.same (.same (.same (.same (.same (.same (.same (.same (.same (.same (.same (.same (.same (.same (.same (.same (.same .nil)))))))))))))))))))))) (sb_next whole_505 (.same (.same (.same (.same (.same (.same (.same (.same (.same (.same (.same (.same (.same (.same (.same (.same (.same (.same .nil)))))))))))))))))))) (fun st_523 => (sb_asg (em_min2 (em_len (EM.toS (em_var 11 st_523 rfl))) (em_mod (em_div (em_var 14 cell_here_494 rfl) (em_int 3)) (em_int 3))) (ag_name 15) (fun at_543 => [.va (toD (script_394 : Scr)), .va (toD (many_401 : Int)), .va (toD (lengths_here_406 : (List Int))), .va (toD (table_408 : (List (Option (List Int))))), .va (toD (present_414 : (List Int))), .va (toD (message_426 : (List Int))), .va (toD (st_428 : (List Int))), .un, .va (toD (given_435 : (List Int))), .va (toD (before_453 : (List Int))), .va (toD (behind_464 : (List Int))), .va (toD (st_523 : (List Int))), .va (toD (handed_470 : (List Int))), .va (toD (found_477 : (((List Int) ⊕ Str) × Int))), .va (toD (cell_here_494 : Int)), .va (toD (at_543 : Int)), .un, .un]) (fun _ => rfl) (fun at_543 => (sb_asg (em_mod (em_call2 (em_var 0 script_394 rfl) (em_int 53)) (em_int 12)) (ag_name 16) (fun count_548 => [.va (toD (script_394 : Scr)), .va (toD (many_401 : Int)), .va (toD (lengths_here_406 : (List Int))), .va (toD (table_408 : (List (Option (List Int))))), .va (toD (present_414 : (List Int))), .va (toD (message_426 : (List Int))), .va (toD (st_428 : (List Int))), .un, .va (toD (given_435 : (List Int))), .va (toD (before_453 : (List Int))), .va (toD (behind_464 : (List Int))), .va (toD (st_523 : (List Int))), .va (toD (handed_470 : (List Int))), .va (toD (found_477 : (((List Int) ⊕ Str) × Int))), .va (toD (cell_here_494 : Int)), .va (toD (at_543 : Int)), .va (toD (count_548 : Int)), .un]) (fun _ => rfl) (fun count_548 => (sb_ret (em_eqD (EM.toE (em_call4 (EF.toM (ef_list (EM.toS (em_var 2 lengths_here_406 rfl)))) (EF.toM (ef_list (EM.toS (em_var 11 st_523 rfl)))) (em_var 15 at_543 rfl) (em_var 16 count_548 rfl))) (EM.toE (em_call4 (em_var 3 table_408 rfl) (em_var 11 st_523 rfl) (em_var 15 at_543 rfl) (em_var 16 count_548 rfl)))))))))))))))))))))))))))))))))))))))))))))
end
end Kx

namespace Kx
open PySem PySem.Spec PyProof.Rows L2 Kr
open Enc (toD)
theorem cell_eq (ns : List Int) (k : Int) (hk : 0 ≤ k) : f__law_cell ⟨ns⟩ k = .ok (ns.getD k.toNat 0) := by
  unfold f__law_cell b__law_cell
  simp only [R.ok_bind, R.ok_pu, R.er_bind, R.bad_bind, R.ok_map, finR_rt, seqF_nx, seqF_rt, R.bind_ok, R.bind_bind, decide_eq_true_eq, Bool.not_eq_true', decide_eq_false_iff_not, Bool.false_eq_true, if_true, if_false, ite_nx]
  by_cases h : k < (ns.length : Int)
  · rw [if_pos h, idxR_ok hk h]
    simp only [R.ok_bind, R.ok_pu, R.er_bind, R.bad_bind, R.ok_map, finR_rt, seqF_nx, seqF_rt, R.bind_ok, R.bind_bind, decide_eq_true_eq, Bool.not_eq_true', decide_eq_false_iff_not, Bool.false_eq_true, if_true, if_false, ite_nx]
    rw [List.getD_eq_getElem?_getD, List.getElem?_eq_getElem (by omega)]
    rfl
  · rw [if_neg h]
    simp only [R.ok_bind, R.ok_pu, R.er_bind, R.bad_bind, R.ok_map, finR_rt, seqF_nx, seqF_rt, R.bind_ok, R.bind_bind, decide_eq_true_eq, Bool.not_eq_true', decide_eq_false_iff_not, Bool.false_eq_true, if_true, if_false, ite_nx]
    rw [List.getD_eq_getElem?_getD, List.getElem?_eq_none (by omega)]
    rfl
/-! ### room -/
theorem pw_nat (k : Nat) : ((2 ^ k : Nat) : Int) = 2 ^ k := by simp
theorem pw_le {n m : Nat} (h : n ≤ m) : (2 : Int) ^ n ≤ 2 ^ m := by
  rw [← pw_nat, ← pw_nat]
  exact Int.ofNat_le.mpr (Nat.pow_le_pow_right (by decide) h)
def p2 (l : Int) : Int := 2 ^ (20 - l).toNat
theorem p2_pos (l : Int) : 0 < p2 l := Int.pow_pos (by decide)
theorem p2_le (l : Int) (h : 0 ≤ l) : p2 l ≤ 1048576 := by
  have : (2 : Int) ^ (20 - l).toNat ≤ 2 ^ 20 := pw_le (by omega)
  exact this
theorem pow_lt64 {n : Nat} (h : n ≤ 40) : (1 : Int) * 2 ^ n < 2 ^ 41 := by
  have : (2 : Int) ^ n ≤ 2 ^ 40 := pw_le h
  omega
theorem p2_div (l : Int) (h : 0 ≤ l ∧ l ≤ 20) : (1048576 : Int) / (1 * 2 ^ l.toNat) = p2 l := by
  have e : (1048576 : Int) = p2 l * 2 ^ l.toNat := by
    unfold p2
    rw [← Int.pow_add, show (20 - l).toNat + l.toNat = 20 by omega]
    rfl
  rw [Int.one_mul, e, Int.mul_ediv_cancel _ (Int.ne_of_gt (Int.pow_pos (by decide)))]
def kr (ls : List Int) : Int := ((ls.filter fun l => decide (0 < l)).map p2).sum
theorem kr_nil : kr [] = 0 := rfl
theorem kr_snoc (ls : List Int) (l : Int) : kr (ls ++ [l]) = kr ls + if 0 < l then p2 l else 0 := by
  unfold kr
  rw [List.filter_append, List.map_append, List.sum_append]
  by_cases h : 0 < l
  · rw [List.filter_cons_of_pos (by simpa using h), if_pos h]
    simp
  · rw [List.filter_cons_of_neg (by simpa using h), if_neg h]
    simp
theorem sum_nonneg : ∀ (xs : List Int), (∀ x ∈ xs, 0 ≤ x) → 0 ≤ xs.sum
  | [], _ => Int.le_refl 0
  | x :: r, h => by
    rw [List.sum_cons]
    have h1 := h x (by simp)
    have h2 := sum_nonneg r fun y hy => h y (by simp [hy])
    omega
def Ok20 (ls : List Int) : Prop := ∀ l ∈ ls, 0 ≤ l ∧ l ≤ 20
theorem maxR_ok {ls : List Int} (h : ls ≠ []) : ∃ m, maxR ls = .ok m ∧ m ∈ ls ∧ ∀ l ∈ ls, l ≤ m := by
  cases ls with
  | nil => exact absurd rfl h
  | cons x r =>
    refine ⟨_, rfl, ?_⟩
    clear h
    have key : ∀ (r : List Int) (x : Int), (r.foldl max x = x ∨ r.foldl max x ∈ r) ∧ x ≤ r.foldl max x ∧ ∀ l ∈ r, l ≤ r.foldl max x := fun r => by
      induction r with
      | nil => exact fun x => ⟨.inl rfl, Int.le_refl _, fun l hl => nomatch hl⟩
      | cons y r ih =>
        intro x
        obtain ⟨h1, h2, h3⟩ := ih (max x y)
        show (r.foldl max (max x y) = x ∨ r.foldl max (max x y) ∈ y :: r) ∧ x ≤ r.foldl max (max x y) ∧ ∀ l ∈ y :: r, l ≤ r.foldl max (max x y)
        refine ⟨?_, by omega, fun l hl => ?_⟩
        · rcases h1 with h1 | h1
          · rw [h1]
            by_cases hxy : x ≤ y
            · rw [Int.max_eq_right hxy]
              exact .inr (by simp)
            · rw [Int.max_eq_left (by omega)]
              exact .inl rfl
          · exact .inr (by simp [h1])
        · rcases List.mem_cons.mp hl with rfl | hl
          · omega
          · exact h3 l hl
    obtain ⟨h1, h2, h3⟩ := key r x
    refine ⟨?_, fun l hl => ?_⟩
    · rcases h1 with h1 | h1
      · rw [h1]
        exact List.mem_cons_self ..
      · exact List.mem_cons_of_mem _ h1
    · rcases List.mem_cons.mp hl with rfl | hl
      · exact h2
      · exact h3 l hl
theorem lengths_eq (ns : List Int) (many : Nat) (hm : many ≤ 1000) : ∃ ls, f__law_lengths ⟨ns⟩ 1 many = .ok ls ∧ ls.length = many ∧ Ok20 ls := by
  unfold f__law_lengths b__law_lengths
  simp only [R.ok_bind, R.ok_pu, R.er_bind, R.bad_bind, R.ok_map, finR_rt, seqF_nx, seqF_rt, R.bind_ok, R.bind_bind, decide_eq_true_eq, Bool.not_eq_true', decide_eq_false_iff_not, Bool.false_eq_true, if_true, if_false, ite_nx, szR_nil, rng1_nat (show many ≤ 1000000 by omega)]
  refine forR_elim (P := fun r => ∃ ls : List Int, finR r = R.ok ls ∧ ls.length = many ∧ Ok20 ls) (fun i (s : List Int) => s.length = i ∧ Ok20 s) ?_ (fun i hi s hI => ?_) (fun s hI => ?_)
  · exact ⟨rfl, fun w hw => (nomatch hw)⟩
  rotate_left
  · exact ⟨s, finR_rt s, by rw [hI.1, seqI_len], hI.2⟩
  rw [seqI_at hi, cell_eq ns _ (by omega)]
  rw [seqI_len] at hi
  generalize ns.getD (1 + (0 + (i : Int))).toNat 0 = c
  simp only [R.ok_bind, R.ok_pu, R.er_bind, R.bad_bind, R.ok_map, finR_rt, seqF_nx, seqF_rt, R.bind_ok, R.bind_bind, decide_eq_true_eq, Bool.not_eq_true', decide_eq_false_iff_not, Bool.false_eq_true, if_true, if_false, ite_nx, modR_ok (show (0 : Int) < 6 by decide), modR_ok (show (0 : Int) < 7 by decide), modR_ok (show (0 : Int) < 41 by decide), modR_ok (show (0 : Int) < 20 by decide), divR_ok (show (0 : Int) < 41 by decide) (by decide)]
  simp only [szR_snoc (show s.length < 1000000 by omega), R.ok_bind, R.ok_pu, R.er_bind, R.bad_bind, R.ok_map, finR_rt, seqF_nx, seqF_rt, R.bind_ok, R.bind_bind, decide_eq_true_eq, Bool.not_eq_true', decide_eq_false_iff_not, Bool.false_eq_true, if_true, if_false, ite_nx, R.ok_pu]
  refine ⟨_, rfl, by rw [List.length_append, hI.1]; rfl, fun w hw => ?_⟩
  rcases List.mem_append.mp hw with hw | hw
  · exact hI.2 w hw
  · rw [List.mem_singleton.mp hw]
    split
    · omega
    · split <;> omega
theorem kr_nonneg (ls : List Int) : 0 ≤ kr ls := sum_nonneg _ fun x hx => by
  obtain ⟨l, _, rfl⟩ := List.mem_map.mp hx
  exact Int.le_of_lt (p2_pos l)
theorem kr_zero (ls : List Int) (h : ∀ l ∈ ls, l = 0) : kr ls = 0 := by
  unfold kr
  rw [List.filter_eq_nil_iff.mpr fun l hl => by rw [h l hl]; decide]
  rfl
theorem fitting_eq (ls : List Int) (h : Ok20 ls) (hn : ls.length ≤ 1000) (h0 : ls ≠ []) : ∃ fs, f__law_fitting ls = .ok fs ∧ fs.length = ls.length ∧ Ok20 fs ∧ 0 ≤ 1048576 - kr fs ∧ ∃ l ∈ fs, 0 < l := by
  unfold f__law_fitting b__law_fitting
  simp only [R.ok_bind, R.ok_pu, R.er_bind, R.bad_bind, R.ok_map, finR_rt, seqF_nx, seqF_rt, R.bind_ok, R.bind_bind, decide_eq_true_eq, Bool.not_eq_true', decide_eq_false_iff_not, Bool.false_eq_true, if_true, if_false, ite_nx, szR_nil]
  refine forR_elim (P := fun r => ∃ fs : List Int, finR r = R.ok fs ∧ fs.length = ls.length ∧ Ok20 fs ∧ 0 ≤ 1048576 - kr fs ∧ ∃ l ∈ fs, 0 < l) (fun i (s : List Int × Int) => s.1.length = i ∧ Ok20 s.1 ∧ s.2 = 1048576 - kr s.1 ∧ 0 ≤ s.2) ?_ (fun i hi s hI => ?_) (fun s hI => ?_)
  · exact ⟨rfl, fun w hw => (nomatch hw), rfl, by decide⟩
  · have hx := h ls[i] (List.getElem_mem hi)
    obtain ⟨i1, i2, i3, i4⟩ := hI
    have hq : ∀ l : Int, 0 ≤ l → l ≤ 20 → shlR 1 l = .ok (1 * 2 ^ l.toNat) ∧ divR 1048576 (1 * 2 ^ l.toNat) = .ok (p2 l) := fun l h1 h2 => by
      refine ⟨shlR_ok (by decide) (by omega), ?_⟩
      rw [divR_ok (by rw [Int.one_mul]; exact Int.pow_pos (by decide)) (by have := pow_lt64 (n := l.toNat) (by omega); omega), p2_div _ ⟨h1, h2⟩]
    rw [rng1_ok (by decide) (by decide), R.ok_bind]
    refine forR_elim (P := fun r => ∃ s' : List Int × Int, r = R.ok (Fl.nx s') ∧ s'.1.length = i + 1 ∧ Ok20 s'.1 ∧ s'.2 = 1048576 - kr s'.1 ∧ 0 ≤ s'.2) (fun j (l : Int) => 0 ≤ l ∧ l ≤ 20) hx (fun j hj l hl => ?_) (fun l hl => ?_)
    · by_cases c1 : 0 < l
      · by_cases c2 : l < 20
        · simp only [c1, c2, decide_true, if_true, R.ok_bind, (hq l hl.1 hl.2).1, (hq l hl.1 hl.2).2, decide_eq_true_eq]
          refine ⟨_, rfl, ?_⟩
          split <;> omega
        · simp only [c1, c2, decide_true, decide_false, if_true, R.ok_bind, Bool.false_eq_true, if_false]
          exact ⟨_, rfl, hl⟩
      · simp only [c1, decide_false, R.ok_bind, Bool.false_eq_true, if_false]
        exact ⟨_, rfl, hl⟩
    · simp only [(hq l hl.1 hl.2).1, (hq l hl.1 hl.2).2, R.ok_bind]
      by_cases c1 : 0 < l
      · simp only [c1, decide_true, if_true, R.ok_bind, decide_eq_true_eq]
        by_cases c2 : s.2 < p2 l
        · simp only [c2, if_true, R.ok_bind, R.ok_pu, R.er_bind, R.bad_bind, R.ok_map, finR_rt, seqF_nx, seqF_rt, R.bind_ok, R.bind_bind, decide_eq_true_eq, Bool.not_eq_true', decide_eq_false_iff_not, Bool.false_eq_true, if_true, if_false, ite_nx, Int.lt_irrefl, szR_snoc (show s.1.length < 1000000 by omega)]
          refine ⟨_, rfl, by rw [List.length_append, i1]; rfl, fun w hw => ?_, ?_, i4⟩
          · rcases List.mem_append.mp hw with hw | hw
            · exact i2 w hw
            · rw [List.mem_singleton.mp hw]
              decide
          · show s.2 = 1048576 - kr (s.1 ++ [0])
            rw [kr_snoc, i3]
            simp
        · simp only [c2, if_false, R.ok_bind, R.ok_pu, R.er_bind, R.bad_bind, R.ok_map, finR_rt, seqF_nx, seqF_rt, R.bind_ok, R.bind_bind, decide_eq_true_eq, Bool.not_eq_true', decide_eq_false_iff_not, Bool.false_eq_true, if_true, if_false, ite_nx, c1, if_true, (hq l hl.1 hl.2).1, (hq l hl.1 hl.2).2, szR_snoc (show s.1.length < 1000000 by omega)]
          refine ⟨_, rfl, by rw [List.length_append, i1]; rfl, fun w hw => ?_, ?_, ?_⟩
          · rcases List.mem_append.mp hw with hw | hw
            · exact i2 w hw
            · rw [List.mem_singleton.mp hw]
              exact hl
          · show s.2 - p2 l = 1048576 - kr (s.1 ++ [l])
            rw [kr_snoc, i3, if_pos c1]
            omega
          · show 0 ≤ s.2 - p2 l
            omega
      · simp only [c1, decide_false, R.ok_bind, Bool.false_eq_true, if_false, R.ok_bind, R.ok_pu, R.er_bind, R.bad_bind, R.ok_map, finR_rt, seqF_nx, seqF_rt, R.bind_ok, R.bind_bind, decide_eq_true_eq, Bool.not_eq_true', decide_eq_false_iff_not, Bool.false_eq_true, if_true, if_false, ite_nx, szR_snoc (show s.1.length < 1000000 by omega)]
        refine ⟨_, rfl, by rw [List.length_append, i1]; rfl, fun w hw => ?_, ?_, i4⟩
        · rcases List.mem_append.mp hw with hw | hw
          · exact i2 w hw
          · rw [List.mem_singleton.mp hw]
            exact hl
        · show s.2 = 1048576 - kr (s.1 ++ [l])
          rw [kr_snoc, i3, if_neg c1]
          omega
  · obtain ⟨i1, i2, i3, i4⟩ := hI
    have hne : s.1 ≠ [] := fun z => by
      rw [z] at i1
      exact h0 (List.length_eq_zero_iff.mp i1.symm)
    obtain ⟨m, hm, hmm, hml⟩ := maxR_ok hne
    simp only [hm, R.ok_bind, decide_eq_true_eq]
    have h0l : (0 : Int) < s.1.length := by
      have := List.length_pos_iff.mpr hne
      omega
    by_cases c : m = 0
    · simp only [c, if_true, setR_ok (Int.le_refl 0) h0l, R.ok_bind, R.ok_pu, R.er_bind, R.bad_bind, R.ok_map, finR_rt, seqF_nx, seqF_rt, R.bind_ok, R.bind_bind, decide_eq_true_eq, Bool.not_eq_true', decide_eq_false_iff_not, Bool.false_eq_true, if_true, if_false, ite_nx]
      have hz : ∀ l ∈ s.1, l = 0 := fun l hl => by
        have := hml l hl
        have := (i2 l hl).1
        omega
      refine ⟨_, rfl, by rw [List.length_set, i1], fun w hw => ?_, ?_, 3, ?_, by decide⟩
      · rcases List.mem_or_eq_of_mem_set hw with hw | hw
        · exact i2 w hw
        · rw [hw]
          decide
      · cases e : s.1 with
        | nil => exact absurd e hne
        | cons x r =>
          show 0 ≤ 1048576 - kr (3 :: r)
          have : kr (3 :: r) = p2 3 + kr r := by
            unfold kr
            rw [List.filter_cons_of_pos (by decide), List.map_cons, List.sum_cons]
          rw [this, kr_zero r fun l hl => hz l (by rw [e]; simp [hl])]
          decide
      · cases e : s.1 with
        | nil => exact absurd e hne
        | cons x r => simp
    · simp only [c, if_false, R.ok_bind, R.ok_pu, R.er_bind, R.bad_bind, R.ok_map, finR_rt, seqF_nx, seqF_rt, R.bind_ok, R.bind_bind, decide_eq_true_eq, Bool.not_eq_true', decide_eq_false_iff_not, Bool.false_eq_true, if_true, if_false, ite_nx]
      refine ⟨_, rfl, i1, i2, by omega, m, hmm, ?_⟩
      have := (i2 m hmm).1
      omega

/-! ### bits -/
def bw (w v : Int) : List Int := (seqI 0 w.toNat).map fun j => v / 2 ^ (w - 1 - j).toNat % 2
theorem and_one (x : Int) (h : 0 ≤ x) : Builtin.bitAnd x 1 = x % 2 := by
  unfold Builtin.bitAnd
  rw [decide_eq_true h, decide_eq_true (show (0 : Int) ≤ 1 by decide)]
  show ((x.toNat &&& (1 : Int).toNat : Nat) : Int) = x % 2
  rw [show (1 : Int).toNat = 1 from rfl, Nat.and_one_is_mod]
  omega
theorem seqC_down (w : Int) (h : 0 ≤ w) : seqC (w - 1) (-1) w.toNat = (seqI 0 w.toNat).map fun j => w - 1 - j := by
  unfold seqC seqI
  rw [List.map_map]
  refine List.map_congr_left fun i _ => ?_
  show w - 1 + (i : Int) * -1 = w - 1 - (0 + (i : Int))
  omega
theorem field_bits_eq (w v : Int) (h : 0 ≤ w ∧ w ≤ 1000) (hv : 0 ≤ v) : f_field_bits w v = .ok (bw w v) := by
  unfold f_field_bits b_field_bits
  simp only [R.ok_bind, R.ok_pu, R.er_bind, R.bad_bind, R.ok_map, finR_rt, seqF_nx, seqF_rt, R.bind_ok, R.bind_bind, decide_eq_true_eq, Bool.not_eq_true', decide_eq_false_iff_not, Bool.false_eq_true, if_true, if_false, ite_nx]
  have e : rng3R (w - 1) (-1) (-1) = .ok ((seqI 0 w.toNat).map fun j => w - 1 - j) := by
    unfold rng3R
    rw [if_pos (by omega), if_pos rfl, ← seqC_down w h.1, show (w - 1 - -1) = w by omega]
  rw [e, R.ok_bind, lcR_map (fun s => v / 2 ^ s.toNat % 2) (by rw [List.length_map, seqI_len]; omega) fun s hs => by
    obtain ⟨j, hj, rfl⟩ := List.mem_map.mp hs
    have := mem_seqI.mp hj
    rw [shrR_ok (by omega), R.ok_bind, and_one _ (Int.ediv_nonneg hv (Int.le_of_lt (Int.pow_pos (by decide))))]]
  simp only [R.ok_bind, R.ok_pu, R.er_bind, R.bad_bind, R.ok_map, finR_rt, seqF_nx, seqF_rt, R.bind_ok, R.bind_bind, decide_eq_true_eq, Bool.not_eq_true', decide_eq_false_iff_not, Bool.false_eq_true, if_true, if_false, ite_nx, List.map_map]
  rfl
theorem bw_len (w v : Int) : (bw w v).length = w.toNat := by
  unfold bw
  rw [List.length_map, seqI_len]
theorem bw_get (w v : Int) (j : Nat) (h : j < (bw w v).length) : (bw w v)[j] = v / 2 ^ (w - 1 - (j : Int)).toNat % 2 := by
  simp only [bw, List.getElem_map]
  rw [seqI_at (by rw [bw_len] at h; rw [seqI_len]; exact h), show (0 : Int) + (j : Int) = j by omega]
theorem bw_bit (w v : Int) : ∀ x ∈ bw w v, x = 0 ∨ x = 1 := fun x hx => by
  unfold bw at hx
  obtain ⟨j, _, rfl⟩ := List.mem_map.mp hx
  omega
theorem bw_snoc (w v : Int) (h : 0 ≤ w) : bw (w + 1) v = bw w (v / 2) ++ [v % 2] := by
  refine List.ext_getElem (by rw [List.length_append, bw_len, bw_len]; simp; omega) fun j h1 h2 => ?_
  rw [bw_get]
  rw [bw_len] at h1
  by_cases hj : j < (bw w (v / 2)).length
  · rw [List.getElem_append_left hj, bw_get]
    rw [bw_len] at hj
    rw [Int.ediv_ediv_of_nonneg (show (0 : Int) ≤ 2 by decide), show (w + 1 - 1 - (j : Int)).toNat = (w - 1 - (j : Int)).toNat + 1 by omega, Int.pow_succ, Int.mul_comm]
  · rw [List.getElem_append_right (by omega)]
    rw [bw_len] at hj
    rw [show (w + 1 - 1 - (j : Int)).toNat = 0 by omega]
    simp
theorem bw_inj : ∀ (n : Nat) (x y : Int), 0 ≤ x → x < 2 ^ n → 0 ≤ y → y < 2 ^ n → bw n x = bw n y → x = y
  | 0, x, y, h1, h2, h3, h4, _ => by
    have : (2 : Int) ^ 0 = 1 := rfl
    omega
  | n + 1, x, y, h1, h2, h3, h4, e => by
    have hp : (2 : Int) ^ (n + 1) = 2 ^ n * 2 := Int.pow_succ ..
    rw [show ((n + 1 : Nat) : Int) = (n : Int) + 1 by omega, bw_snoc _ _ (by omega), bw_snoc _ _ (by omega)] at e
    obtain ⟨e1, e2⟩ := List.append_inj' e rfl
    have := bw_inj n (x / 2) (y / 2) (by omega) (by omega) (by omega) (by omega) e1
    injection e2 with e2
    omega
theorem bw_take (n m : Nat) (v : Int) : (bw ((n + m : Nat) : Int) v).take n = bw n (v / 2 ^ m) := by
  refine List.ext_getElem (by rw [List.length_take, bw_len, bw_len]; omega) fun j h1 h2 => ?_
  rw [List.getElem_take, bw_get, bw_get]
  rw [bw_len] at h2
  rw [Int.ediv_ediv_of_nonneg (Int.le_of_lt (Int.pow_pos (by decide))), ← Int.pow_add, show (((n + m : Nat) : Int) - 1 - (j : Int)).toNat = m + ((n : Int) - 1 - (j : Int)).toNat by omega]
/-! ### the table -/
abbrev Tb := List (Option (List Int))
def tst (s : Tb × Int) (e : Int × Int) : Tb × Int := (s.1.set e.2.toNat (some (bw e.1 (s.2 / p2 e.1))), s.2 + p2 e.1)
def tb (s : Tb × Int) (M : List (Int × Int)) : Tb × Int := M.foldl tst s
theorem tb_snoc (s : Tb × Int) (M : List (Int × Int)) (e : Int × Int) : tb s (M ++ [e]) = tst (tb s M) e := by
  unfold tb
  rw [List.foldl_append]
  rfl
def PM (M : List (Int × Int)) : Int := (M.map fun e => p2 e.1).sum
theorem tb_P : ∀ (M : List (Int × Int)) (s : Tb × Int), (tb s M).2 = s.2 + PM M
  | [], s => (Int.add_zero _).symm
  | e :: r, s => by
    show (tb (tst s e) r).2 = _
    rw [tb_P r]
    show s.2 + p2 e.1 + PM r = s.2 + ((e :: r).map fun e => p2 e.1).sum
    rw [List.map_cons, List.sum_cons, Int.add_assoc]
    rfl
theorem tb_len : ∀ (M : List (Int × Int)) (s : Tb × Int), (tb s M).1.length = s.1.length
  | [], s => rfl
  | e :: r, s => by
    show (tb (tst s e) r).1.length = _
    rw [tb_len r]
    exact List.length_set
/-- every entry of the table -/
theorem tb_get : ∀ (M : List (Int × Int)) (s : Tb × Int) (k : Nat) (w : List Int), (∀ e ∈ M, 0 ≤ e.2) → (tb s M).1[k]? = some (some w) → s.1[k]? = some (some w) ∨ ∃ (i : Nat) (h : i < M.length), (M[i].2 = (k : Int)) ∧ w = bw M[i].1 ((s.2 + PM (M.take i)) / p2 M[i].1)
  | [], s, k, w, _, h => .inl h
  | e :: r, s, k, w, hp, h => by
    rcases tb_get r (tst s e) k w (fun x hx => hp x (by simp [hx])) h with q | ⟨i, hi, q1, q2⟩
    · have q' : (s.1.set e.2.toNat (some (bw e.1 (s.2 / p2 e.1))))[k]? = some (some w) := q
      by_cases hk : e.2.toNat = k
      · refine .inr ⟨0, by simp, ?_, ?_⟩
        · have := hp e (by simp)
          show e.2 = (k : Int)
          omega
        · subst hk
          by_cases hl : e.2.toNat < s.1.length
          · rw [List.getElem?_set_self hl] at q'
            injection q' with q'
            injection q' with q'
            rw [← q']
            show _ = bw e.1 ((s.2 + 0) / p2 e.1)
            rw [Int.add_zero]
          · rw [List.getElem?_eq_none (by rw [List.length_set]; omega)] at q'
            cases q'
      · rw [List.getElem?_set_ne hk] at q'
        exact .inl q'
    · refine .inr ⟨i + 1, by simp; omega, q1, ?_⟩
      rw [q2]
      show bw r[i].1 ((s.2 + p2 e.1 + PM (r.take i)) / p2 r[i].1) = bw r[i].1 ((s.2 + PM ((e :: r).take (i + 1))) / p2 r[i].1)
      rw [List.take_succ_cons]
      show _ = bw r[i].1 ((s.2 + ((e :: r.take i).map fun e => p2 e.1).sum) / p2 r[i].1)
      rw [List.map_cons, List.sum_cons, Int.add_assoc]
      rfl
/-! ### the entries, in order -/
def Ej (ls : List Int) (l : Int) (j : Nat) : List (Int × Int) := ((seqI 0 j).filter fun k => decide (gW ls k = l)).map fun k => (l, k)
def Es (ls : List Int) (i : Nat) : List (Int × Int) := (seqI 1 i).flatMap fun l => Ej ls l ls.length
theorem Ej_succ (ls : List Int) (l : Int) (j : Nat) : Ej ls l (j + 1) = Ej ls l j ++ if gW ls j = l then [(l, (j : Int))] else [] := by
  unfold Ej
  rw [seqI_succ, List.filter_append, List.map_append, show (0 : Int) + (j : Int) = j by omega]
  by_cases h : gW ls j = l
  · rw [if_pos h, List.filter_cons_of_pos (by simpa using h)]
    rfl
  · rw [if_neg h, List.filter_cons_of_neg (by simpa using h)]
    rfl
theorem Es_succ (ls : List Int) (i : Nat) : Es ls (i + 1) = Es ls i ++ Ej ls (1 + (i : Int)) ls.length := by
  unfold Es
  rw [seqI_succ, List.flatMap_append]
  simp
theorem mem_Ej {ls : List Int} {l : Int} {j : Nat} {e : Int × Int} : e ∈ Ej ls l j ↔ e.1 = l ∧ 0 ≤ e.2 ∧ e.2 < (j : Int) ∧ gW ls e.2 = l := by
  unfold Ej
  rw [List.mem_map]
  constructor
  · rintro ⟨k, hk, rfl⟩
    rw [List.mem_filter, mem_seqI, decide_eq_true_eq] at hk
    exact ⟨rfl, hk.1.1, by omega, hk.2⟩
  · rintro ⟨h1, h2, h3, h4⟩
    refine ⟨e.2, ?_, by rw [← h1]⟩
    rw [List.mem_filter, mem_seqI, decide_eq_true_eq]
    exact ⟨⟨h2, by omega⟩, h4⟩
theorem mem_Es {ls : List Int} {i : Nat} {e : Int × Int} : e ∈ Es ls i ↔ 1 ≤ e.1 ∧ e.1 < 1 + (i : Int) ∧ 0 ≤ e.2 ∧ e.2 < (ls.length : Int) ∧ gW ls e.2 = e.1 := by
  unfold Es
  rw [List.mem_flatMap]
  constructor
  · rintro ⟨l, hl, he⟩
    have := mem_seqI.mp hl
    obtain ⟨h1, h2, h3, h4⟩ := mem_Ej.mp he
    exact ⟨by omega, by omega, h2, h3, by rw [h4, h1]⟩
  · rintro ⟨h1, h2, h3, h4, h5⟩
    exact ⟨e.1, mem_seqI.mpr ⟨h1, h2⟩, mem_Ej.mpr ⟨rfl, h3, h4, h5⟩⟩
def lt2 (a b : Int × Int) : Prop := a.1 < b.1 ∨ (a.1 = b.1 ∧ a.2 < b.2)
theorem seqI_lt (lo : Int) (n : Nat) : (seqI lo n).Pairwise (· < ·) := by
  unfold seqI
  exact List.Pairwise.map _ (fun a b (h : a < b) => by omega) List.pairwise_lt_range
theorem Ej_lt (ls : List Int) (l : Int) (j : Nat) : (Ej ls l j).Pairwise lt2 := by
  unfold Ej
  exact List.Pairwise.map _ (fun a b (h : a < b) => .inr ⟨rfl, h⟩) ((seqI_lt 0 j).filter _)
theorem Es_lt (ls : List Int) (i : Nat) : (Es ls i).Pairwise lt2 := by
  unfold Es
  rw [List.pairwise_flatMap]
  refine ⟨fun l _ => Ej_lt ls l _, (seqI_lt 1 i).imp fun {a b} h x hx y hy => ?_⟩
  rw [mem_Ej] at hx hy
  exact .inl (by omega)
theorem sort_eq (ls : List Int) (h : Ok20 ls) : ((((seqI 0 ls.length).filter fun k => decide (0 < gW ls k)).map fun k => (gW ls k, k)).mergeSort leD) = Es ls 20 := by
  have hp : (((seqI 0 ls.length).filter fun k => decide (0 < gW ls k)).map fun k => (gW ls k, k)).Perm (Es ls 20) := by
    refine (List.perm_ext_iff_of_nodup ?_ ?_).mpr fun e => ?_
    · exact List.Pairwise.map _ (fun a b (hab : a ≠ b) q => hab (congrArg Prod.snd q)) ((seqI_nodup 0 ls.length).filter _)
    · refine (Es_lt ls 20).imp fun {a b} q e => ?_
      subst e
      unfold lt2 at q
      omega
    · rw [mem_Es, List.mem_map]
      constructor
      · rintro ⟨k, hk, rfl⟩
        rw [List.mem_filter, mem_seqI, decide_eq_true_eq] at hk
        have h20 : gW ls k ≤ 20 := by
          have e := idxR_gW (ws := ls) (k := k) (by omega) (by omega)
          rw [idxR_ok (by omega) (by omega)] at e
          rw [← R.ok.inj e]
          exact (h _ (List.getElem_mem _)).2
        exact ⟨by show 1 ≤ gW ls k; omega, by show gW ls k < 1 + ((20 : Nat) : Int); omega, hk.1.1, by show k < (ls.length : Int); omega, rfl⟩
      · rintro ⟨h1, h2, h3, h4, h5⟩
        refine ⟨e.2, ?_, by rw [h5]⟩
        rw [List.mem_filter, mem_seqI, decide_eq_true_eq, h5]
        exact ⟨⟨h3, by omega⟩, by omega⟩
  refine List.Perm.eq_of_pairwise (le := fun a b => leD a b = true) (fun a b _ _ h1 h2 => ?_) (List.pairwise_mergeSort leD_trans leD_total _) ((Es_lt ls 20).imp fun {a b} q => ?_) ((List.mergeSort_perm _ _).trans hp)
  · rw [leD_ii, decide_eq_true_eq] at h1 h2
    exact Prod.ext (by omega) (by omega)
  · rw [leD_ii, decide_eq_true_eq]
    unfold lt2 at q
    omega

theorem p2_mul (l w : Int) (h : w ≤ l) (h' : l ≤ 20) : 2 ^ (l - w).toNat * p2 l = p2 w := by
  unfold p2
  rw [← Int.pow_add, show (l - w).toNat + (20 - l).toNat = (20 - w).toNat by omega]
/-- one step of value and width -/
theorem stp {v w l p : Int} (hv : v * p2 w = p) (h : w ≤ l) (h' : l ≤ 20) : v * 2 ^ (l - w).toNat = p / p2 l ∧ (v * 2 ^ (l - w).toNat + 1) * p2 l = p + p2 l := by
  have e : v * 2 ^ (l - w).toNat * p2 l = p := by rw [Int.mul_assoc, p2_mul l w h h', hv]
  refine ⟨?_, by rw [Int.add_mul, e, Int.one_mul]⟩
  rw [← e, Int.mul_ediv_cancel _ (Int.ne_of_gt (p2_pos l))]
theorem stp_le {v w p : Int} (hv : v * p2 w = p) (h0 : 0 ≤ v) : v ≤ p := by
  have h1 := p2_pos w
  have : v * 1 ≤ v * p2 w := Int.mul_le_mul_of_nonneg_left (by omega) h0
  omega
theorem PM_snoc (M : List (Int × Int)) (e : Int × Int) : PM (M ++ [e]) = PM M + p2 e.1 := by
  unfold PM
  rw [List.map_append, List.sum_append]
  simp
theorem PM_app (M N : List (Int × Int)) : PM (M ++ N) = PM M + PM N := by
  unfold PM
  rw [List.map_append, List.sum_append]
theorem PM_nonneg (M : List (Int × Int)) : 0 ≤ PM M := sum_nonneg _ fun x hx => by
  obtain ⟨l, _, rfl⟩ := List.mem_map.mp hx
  exact Int.le_of_lt (p2_pos _)
theorem enum_gW (ls : List Int) : enumL ls = (seqI 0 ls.length).map fun k => (k, gW ls k) := by
  refine List.ext_getElem? fun i => ?_
  rw [enumL_get, List.getElem?_map, seqI_get]
  by_cases h : i < ls.length
  · rw [if_pos h, List.getElem?_eq_getElem h]
    show some ((i : Int), ls[i]) = some ((0 : Int) + (i : Int), gW ls (0 + (i : Int)))
    have e := idxR_gW (ws := ls) (k := (i : Int)) (by omega) (by omega)
    rw [idxR_nat h] at e
    rw [show (0 : Int) + (i : Int) = i by omega, R.ok.inj e]
  · rw [if_neg h, List.getElem?_eq_none (by omega)]
    rfl
def T0 (n : Nat) : Tb × Int := (List.replicate n none, 0)
/-- the words of the lengths -/
def wds (ls : List Int) : Tb := (tb (T0 ls.length) (Es ls 20)).1
theorem words_eq (ls : List Int) (h : Ok20 ls) (hn : ls.length ≤ 1000) (h0 : ∃ l ∈ ls, 0 < l) : f_words ls = .ok (wds ls) := by
  have hne : Es ls 20 ≠ [] := by
    obtain ⟨l, hl, hp⟩ := h0
    obtain ⟨k, hk, rfl⟩ := List.getElem_of_mem hl
    have e := idxR_gW (ws := ls) (k := (k : Int)) (by omega) (by omega)
    rw [idxR_nat hk] at e
    have hm : ((ls[k], (k : Int)) : Int × Int) ∈ Es ls 20 := mem_Es.mpr ⟨by show 1 ≤ ls[k]; omega, by have := (h _ hl).2; show ls[k] < 1 + ((20 : Nat) : Int); omega, by show (0 : Int) ≤ k; omega, by show (k : Int) < ls.length; omega, (R.ok.inj e).symm⟩
    intro z
    rw [z] at hm
    cases hm
  have hpos : 0 < (Es ls 20).length := List.length_pos_iff.mpr hne
  have hEn : (Es ls 20).length ≤ ls.length := by
    rw [← sort_eq ls h, List.length_mergeSort, List.length_map]
    exact Nat.le_trans (List.length_filter_le _ _) (by rw [seqI_len]; exact Nat.le_refl _)
  have hrep : repR [(none : Option (List Int))] (ls.length : Int) = .ok (List.replicate ls.length none) := by
    unfold repR
    rw [if_pos (by simp; omega)]
    simp
  unfold f_words b_words
  simp only [R.ok_bind, R.ok_pu, R.er_bind, R.bad_bind, R.ok_map, finR_rt, seqF_nx, seqF_rt, R.bind_ok, R.bind_bind, decide_eq_true_eq, Bool.not_eq_true', decide_eq_false_iff_not, Bool.false_eq_true, if_true, if_false, ite_nx, szR_ok (show [(none : Option (List Int))].length ≤ 1000000 by simp), hrep]
  rw [lcR_ok (ft := fun s : Int × Int => R.ok (decide (0 < s.2))) (fe := fun s : Int × Int => R.ok (s.2, s.1)) (fun s => decide (0 < s.2)) (fun s => (s.2, s.1)) (by unfold enumL; rw [List.length_map, List.length_zipIdx]; omega) (fun x _ => rfl) (fun x _ _ => rfl), R.ok_bind, enum_gW, List.filter_map, List.map_map]
  rw [show ((fun (s : Int × Int) => (s.2, s.1)) ∘ fun k => (k, gW ls k)) = fun k => (gW ls k, k) from rfl, show ((fun (s : Int × Int) => decide (0 < s.2)) ∘ fun k => (k, gW ls k)) = fun k => decide (0 < gW ls k) from rfl]
  rw [sortR_ok (by rw [List.length_map]; exact Nat.le_trans (List.length_filter_le _ _) (by rw [seqI_len]; omega)), sort_eq ls h, R.ok_bind, idxR_ok (Int.le_refl 0) (by omega)]
  simp only [R.ok_bind]
  have hE : ∀ e ∈ Es ls 20, 1 ≤ e.1 ∧ e.1 ≤ 20 ∧ 0 ≤ e.2 ∧ e.2 < (ls.length : Int) := fun e he => by
    have := mem_Es.mp he
    omega
  refine forR_elim (P := fun r => finR r = R.ok (wds ls)) (fun i (s : Tb × Int × Int) => s.1 = (tb (T0 ls.length) ((Es ls 20).take i)).1 ∧ s.2.1 * p2 s.2.2 = PM ((Es ls 20).take i) ∧ 0 ≤ s.2.1 ∧ 1 ≤ s.2.2 ∧ s.2.2 ≤ 20 ∧ (∀ e ∈ (Es ls 20).drop i, s.2.2 ≤ e.1) ∧ PM ((Es ls 20).take i) ≤ 1048576 * i) ?_ (fun i hi s hI => ?_) (fun s hI => ?_)
  · have h1 := hE _ (List.getElem_mem hpos)
    refine ⟨rfl, Int.zero_mul _, Int.le_refl 0, h1.1, h1.2.1, fun e he => ?_, by rw [List.take_zero]; decide⟩
    rw [List.drop_zero] at he
    obtain ⟨k, hk, rfl⟩ := List.getElem_of_mem he
    show (Es ls 20)[0].1 ≤ (Es ls 20)[k].1
    rcases Nat.eq_zero_or_pos k with z | z
    · subst z
      exact Int.le_refl _
    · have := List.pairwise_iff_getElem.mp (Es_lt ls 20) 0 k hpos hk z
      unfold lt2 at this
      omega
  · obtain ⟨i1, i2, i3, i4, i5, i6, i7⟩ := hI
    obtain ⟨e1, e2, e3, e4⟩ := hE _ (List.getElem_mem hi)
    have hw : s.2.2 ≤ (Es ls 20)[i].1 := i6 _ (by rw [List.drop_eq_getElem_cons hi]; exact List.mem_cons_self ..)
    have hv := stp_le i2 i3
    obtain ⟨q1, q2⟩ := stp i2 hw e2
    have hlen : s.1.length = ls.length := by rw [i1, tb_len]; exact List.length_replicate
    have ht : (Es ls 20).take (i + 1) = (Es ls 20).take i ++ [(Es ls 20)[i]] := by rw [List.take_add_one, List.getElem?_eq_getElem hi]; rfl
    have hpn := PM_nonneg ((Es ls 20).take i)
    have hdn : 0 ≤ PM ((Es ls 20).take i) / p2 (Es ls 20)[i].1 := Int.ediv_nonneg hpn (Int.le_of_lt (p2_pos _))
    rw [shlR_ok (by omega) (by omega), R.ok_bind, q1, field_bits_eq _ _ (by omega) hdn, R.ok_pu, R.ok_bind, setR_ok e3 (by rw [hlen]; exact e4)]
    refine ⟨_, rfl, ?_, ?_, ?_, e1, e2, fun e he => ?_, ?_⟩
    · show s.1.set _ _ = _
      rw [ht, tb_snoc]
      unfold tst
      rw [tb_P, ← i1]
      show _ = s.1.set _ (some (bw _ ((0 + PM _) / _)))
      rw [Int.zero_add]
    · show (PM ((Es ls 20).take i) / p2 (Es ls 20)[i].1 + 1) * p2 (Es ls 20)[i].1 = _
      rw [ht, PM_snoc, ← q1, q2]
    · show 0 ≤ PM ((Es ls 20).take i) / p2 (Es ls 20)[i].1 + 1
      omega
    · obtain ⟨k, hk, rfl⟩ := List.getElem_of_mem he
      rw [List.getElem_drop]
      rw [List.length_drop] at hk
      have := List.pairwise_iff_getElem.mp (Es_lt ls 20) i (i + 1 + k) hi (by omega) (by omega)
      unfold lt2 at this
      show (Es ls 20)[i].1 ≤ _
      omega
    · rw [ht, PM_snoc]
      have := p2_le (Es ls 20)[i].1 (by omega)
      omega
  · rw [hI.1, List.take_length, finR_rt]
    rfl
theorem law_words_eq (ls : List Int) (h : Ok20 ls) (hn : ls.length ≤ 1000) : f__law_words ls = .ok (wds ls) := by
  unfold f__law_words b__law_words
  rw [R.ok_bind, lcR_map (fun _ => none) (by omega) (fun x _ => rfl)]
  simp only [R.ok_bind, R.ok_pu, R.er_bind, R.bad_bind, R.ok_map, finR_rt, seqF_nx, seqF_rt, R.bind_ok, R.bind_bind, decide_eq_true_eq, Bool.not_eq_true', decide_eq_false_iff_not, Bool.false_eq_true, if_true, if_false, ite_nx]
  rw [rng2_ok (by decide), R.ok_bind]
  refine forR_elim (P := fun r => finR r = R.ok (wds ls)) (fun i (s : Tb × Int × Int) => s.1 = (tb (T0 ls.length) (Es ls i)).1 ∧ s.2.1 * p2 s.2.2 = PM (Es ls i) ∧ 0 ≤ s.2.1 ∧ 0 ≤ s.2.2 ∧ s.2.2 ≤ i ∧ PM (Es ls i) ≤ 1048576 * (1000 * i)) ?_ (fun i hi s hI => ?_) (fun s hI => ?_)
  · refine ⟨?_, Int.zero_mul _, Int.le_refl 0, Int.le_refl 0, Int.le_refl 0, show (0 : Int) ≤ 1048576 * (1000 * ((0 : Nat) : Int)) by decide⟩
    show ls.map (fun _ => none) = List.replicate ls.length none
    rw [List.map_const']
  · rw [seqI_at hi]
    rw [seqI_len] at hi
    have hi20 : i < 20 := hi
    rw [rng1_nat (show ls.length ≤ 1000000 by omega), R.ok_bind]
    refine forR_elim (P := fun r => ∃ s' : Tb × Int × Int, r = R.ok (Fl.nx s') ∧ s'.1 = (tb (T0 ls.length) (Es ls (i + 1))).1 ∧ s'.2.1 * p2 s'.2.2 = PM (Es ls (i + 1)) ∧ 0 ≤ s'.2.1 ∧ 0 ≤ s'.2.2 ∧ s'.2.2 ≤ ((i + 1 : Nat) : Int) ∧ PM (Es ls (i + 1)) ≤ 1048576 * (1000 * ((i + 1 : Nat) : Int))) (fun j (s : Tb × Int × Int) => s.1 = (tb (T0 ls.length) (Es ls i ++ Ej ls (1 + (i : Int)) j)).1 ∧ s.2.1 * p2 s.2.2 = PM (Es ls i ++ Ej ls (1 + (i : Int)) j) ∧ 0 ≤ s.2.1 ∧ 0 ≤ s.2.2 ∧ s.2.2 ≤ 1 + (i : Int) ∧ PM (Es ls i ++ Ej ls (1 + (i : Int)) j) ≤ 1048576 * (1000 * i + j)) ?_ (fun j hj s hI => ?_) (fun s hI => ?_)
    · obtain ⟨i1, i2, i3, i4, i5, i6⟩ := hI
      have e0 : Ej ls (1 + (i : Int)) 0 = [] := rfl
      rw [e0, List.append_nil]
      exact ⟨i1, i2, i3, i4, by show s.2.2 ≤ _; omega, by omega⟩
    · obtain ⟨i1, i2, i3, i4, i5, i6⟩ := hI
      rw [seqI_at hj]
      rw [seqI_len] at hj
      have e0 : (0 : Int) + (j : Int) = j := by omega
      rw [e0, idxR_gW (by omega) (by omega)]
      rw [Ej_succ]
      by_cases hc : gW ls j = 1 + (i : Int)
      · rw [if_pos hc, ← List.append_assoc]
        have hv := stp_le i2 i3
        obtain ⟨q1, q2⟩ := stp i2 i5 (by omega)
        have hlen : s.1.length = ls.length := by rw [i1, tb_len]; exact List.length_replicate
        have hpn := PM_nonneg (Es ls i ++ Ej ls (1 + (i : Int)) j)
        have h2n : (1 : Int) * 2 ^ (1 + (i : Int) - s.2.2).toNat < 2 ^ 41 := pow_lt64 (by omega)
        have h2p : (0 : Int) < 2 ^ (1 + (i : Int) - s.2.2).toNat := Int.pow_pos (by decide)
        have hdn : 0 ≤ PM (Es ls i ++ Ej ls (1 + (i : Int)) j) / p2 (1 + (i : Int)) := Int.ediv_nonneg hpn (Int.le_of_lt (p2_pos _))
        simp only [R.ok_bind, hc, decide_true, if_true]
        rw [shlR_ok (by decide) (by omega), R.ok_bind, mulR_ok (by omega) (by omega), Int.one_mul, q1]
        have hb : lcR (fun _ : Int => R.ok true) (fun j_246 => (R.bind (shlR 1 (1 + (i : Int) - 1 - j_246)) fun b_254 => R.bind (divR (PM (Es ls i ++ Ej ls (1 + (i : Int)) j) / p2 (1 + (i : Int))) b_254) fun a_255 => modR a_255 2)) (seqI 0 (1 + (i : Int)).toNat) = .ok (bw (1 + (i : Int)) (PM (Es ls i ++ Ej ls (1 + (i : Int)) j) / p2 (1 + (i : Int)))) := by
          rw [lcR_map (fun jj => PM (Es ls i ++ Ej ls (1 + (i : Int)) j) / p2 (1 + (i : Int)) / 2 ^ (1 + (i : Int) - 1 - jj).toNat % 2) (by rw [seqI_len]; omega) fun x hx => by
            have := mem_seqI.mp hx
            have h2n : (1 : Int) * 2 ^ (1 + (i : Int) - 1 - x).toNat < 2 ^ 41 := pow_lt64 (by omega)
            rw [shlR_ok (by decide) (by omega), R.ok_bind, divR_ok (by rw [Int.one_mul]; exact Int.pow_pos (by decide)) (by omega), R.ok_bind, modR_ok (by decide), Int.one_mul]]
          rfl
        rw [rng1_ok (by omega) (by omega), R.ok_bind]
        simp only [hb, R.ok_bind]
        rw [setR_ok (by omega) (by rw [hlen]; omega)]
        refine ⟨_, rfl, ?_, ?_, ?_, ?_, Int.le_refl _, ?_⟩
        · show s.1.set _ _ = _
          rw [tb_snoc]
          unfold tst
          rw [tb_P, ← i1]
          show _ = s.1.set _ (some (bw _ ((0 + PM _) / _)))
          rw [Int.zero_add]
        · show (PM (Es ls i ++ Ej ls (1 + (i : Int)) j) / p2 (1 + (i : Int)) + 1) * p2 (1 + (i : Int)) = _
          rw [PM_snoc, ← q1, q2]
        · show 0 ≤ PM (Es ls i ++ Ej ls (1 + (i : Int)) j) / p2 (1 + (i : Int)) + 1
          omega
        · show 0 ≤ 1 + (i : Int)
          omega
        · rw [PM_snoc]
          have := p2_le (1 + (i : Int)) (by omega)
          show _ + p2 (1 + (i : Int)) ≤ _
          omega
      · rw [if_neg hc, List.append_nil]
        simp only [R.ok_bind, hc, decide_false, Bool.false_eq_true, if_false]
        exact ⟨_, rfl, i1, i2, i3, i4, i5, by omega⟩
    · obtain ⟨i1, i2, i3, i4, i5, i6⟩ := hI
      rw [seqI_len] at i1 i2 i6
      rw [← Es_succ] at i1 i2 i6
      exact ⟨_, rfl, i1, i2, i3, i4, by show s.2.2 ≤ _; omega, by omega⟩
  · have e : (seqI 1 ((21 : Int) - 1).toNat).length = 20 := by rw [seqI_len]; rfl
    rw [e] at hI
    rw [hI.1, finR_rt]
    rfl

theorem PM_Es (ls : List Int) (h : Ok20 ls) : PM (Es ls 20) = kr ls := by
  rw [← sort_eq ls h]
  unfold PM
  rw [sum_perm ((List.mergeSort_perm _ leD).map _), List.map_map]
  have e : kr ls = kr ((seqI 0 ls.length).map (gW ls)) := by rw [map_gW]
  rw [e]
  unfold kr
  rw [List.filter_map, List.map_map]
  rfl
theorem wds_len (ls : List Int) : (wds ls).length = ls.length := by
  unfold wds
  rw [tb_len]
  exact List.length_replicate
theorem wds_get (ls : List Int) (k : Nat) (w : List Int) (h : (wds ls)[k]? = some (some w)) : ∃ (i : Nat) (h : i < (Es ls 20).length), (Es ls 20)[i].2 = (k : Int) ∧ w = bw (Es ls 20)[i].1 (PM ((Es ls 20).take i) / p2 (Es ls 20)[i].1) := by
  rcases tb_get (Es ls 20) (T0 ls.length) k w (fun e he => (mem_Es.mp he).2.2.1) h with q | ⟨i, hi, q1, q2⟩
  · have q' : (List.replicate ls.length (none : Option (List Int)))[k]? = some (some w) := q
    rw [List.getElem?_replicate] at q'
    split at q' <;> cases q'
  · refine ⟨i, hi, q1, ?_⟩
    rw [q2]
    show bw _ ((0 + _) / _) = _
    rw [Int.zero_add]
theorem PM_mono (M : List (Int × Int)) {i j : Nat} (h : i ≤ j) : PM (M.take i) ≤ PM (M.take j) := by
  have e : M.take j = M.take i ++ (M.take j).drop i := by
    have := List.take_append_drop i (M.take j)
    rw [List.take_take, Nat.min_eq_left h] at this
    exact this.symm
  rw [e, PM_app]
  have := PM_nonneg ((M.take j).drop i)
  omega
theorem PM_at (M : List (Int × Int)) {i : Nat} (h : i < M.length) : PM (M.take (i + 1)) = PM (M.take i) + p2 M[i].1 := by
  rw [List.take_add_one, List.getElem?_eq_getElem h]
  exact PM_snoc _ _
theorem PM_lt (M : List (Int × Int)) {i j : Nat} (h : i < j) (hj : j < M.length) : PM (M.take i) + p2 (M[i]'(by omega)).1 ≤ PM (M.take j) := by
  rw [← PM_at M (by omega)]
  exact PM_mono M h
theorem PM_end (M : List (Int × Int)) {i : Nat} (h : i < M.length) : PM (M.take i) + p2 M[i].1 ≤ PM M := by
  rw [← PM_at M h]
  have := PM_mono M (show i + 1 ≤ M.length by omega)
  rw [List.take_length] at this
  exact this
theorem div_step {x y l : Int} (h : x + p2 l ≤ y) : x / p2 l + 1 ≤ y / p2 l := by
  have h1 := Int.add_mul_ediv_right x 1 (Int.ne_of_gt (p2_pos l))
  rw [Int.one_mul] at h1
  rw [← h1]
  exact Int.ediv_le_ediv (p2_pos l) h
theorem div_small {x l : Int} (h : x < 1048576) (hl : 0 ≤ l ∧ l ≤ 20) : x / p2 l < 2 ^ l.toNat := by
  refine Int.ediv_lt_of_lt_mul (p2_pos l) ?_
  have : (2 : Int) ^ l.toNat * p2 l = 1048576 := by
    unfold p2
    rw [← Int.pow_add, show l.toNat + (20 - l).toNat = 20 by omega]
    rfl
  omega
/-- no word is the beginning of another one -/
theorem npre (ls : List Int) (hk : 0 ≤ 1048576 - kr ls) (h : Ok20 ls) (a b : Nat) (hab : a ≠ b) (wa wb : List Int) (ha : (wds ls)[a]? = some (some wa)) (hb : (wds ls)[b]? = some (some wb)) : wb.take wa.length ≠ wa := by
  obtain ⟨i, hi, ei, rfl⟩ := wds_get ls a wa ha
  obtain ⟨j, hj, ej, rfl⟩ := wds_get ls b wb hb
  have hij : i ≠ j := fun z => by
    subst z
    omega
  have mi := mem_Es.mp (List.getElem_mem hi)
  have mj := mem_Es.mp (List.getElem_mem hj)
  have ti := PM_end (Es ls 20) hi
  have tj := PM_end (Es ls 20) hj
  rw [PM_Es ls h] at ti tj
  have pi := p2_pos (Es ls 20)[i].1
  have pj := p2_pos (Es ls 20)[j].1
  have ni := PM_nonneg ((Es ls 20).take i)
  have nj := PM_nonneg ((Es ls 20).take j)
  have hlt : ∀ (x y : Nat) (hx : x < (Es ls 20).length) (hy : y < (Es ls 20).length), x < y → (Es ls 20)[x].1 ≤ (Es ls 20)[y].1 := fun x y hx hy hxy => by
    have := List.pairwise_iff_getElem.mp (Es_lt ls 20) x y hx hy hxy
    unfold lt2 at this
    omega
  generalize hA : (Es ls 20)[i].1 = la at *
  generalize hB : (Es ls 20)[j].1 = lb at *
  intro e
  by_cases hl : lb < la
  · have := congrArg List.length e
    rw [List.length_take, bw_len, bw_len] at this
    omega
  · obtain ⟨m, hm⟩ : ∃ m : Nat, lb = la + (m : Int) := ⟨(lb - la).toNat, by omega⟩
    obtain ⟨n, hn⟩ : ∃ n : Nat, la = (n : Int) := ⟨la.toNat, by omega⟩
    rw [bw_len, show lb = ((n + m : Nat) : Int) by omega, show la.toNat = n by omega, bw_take, show la = (n : Int) from hn] at e
    rw [Int.ediv_ediv_of_nonneg (Int.le_of_lt (p2_pos _))] at e
    have ep : p2 ((n + m : Nat) : Int) * 2 ^ m = p2 (n : Int) := by
      unfold p2
      rw [← Int.pow_add, show (20 - ((n + m : Nat) : Int)).toNat + m = (20 - (n : Int)).toNat by omega]
    rw [ep] at e
    have s1 : PM ((Es ls 20).take j) / p2 (n : Int) < 2 ^ n := by
      have := div_small (x := PM ((Es ls 20).take j)) (l := (n : Int)) (by omega) (by omega)
      rw [show ((n : Int)).toNat = n by omega] at this
      exact this
    have s2 : PM ((Es ls 20).take i) / p2 (n : Int) < 2 ^ n := by
      have := div_small (x := PM ((Es ls 20).take i)) (l := (n : Int)) (by omega) (by omega)
      rw [show ((n : Int)).toNat = n by omega] at this
      exact this
    have eq := bw_inj n _ _ (Int.ediv_nonneg nj (Int.le_of_lt (p2_pos _))) s1 (Int.ediv_nonneg ni (Int.le_of_lt (p2_pos _))) s2 e
    rcases Nat.lt_or_gt_of_ne hij with hlt' | hlt'
    · have q := PM_lt (Es ls 20) hlt' hj
      rw [hA, hn] at q
      have := div_step q
      omega
    · have q := PM_lt (Es ls 20) hlt' hi
      have := hlt j i hj hi hlt'
      rw [hA, hB] at this
      rw [hB, show lb = (n : Int) by omega] at q
      have := div_step q
      omega
theorem gW_len (ls : List Int) (k : Nat) (h : k < ls.length) : gW ls k = ls[k] := by
  have e := idxR_gW (ws := ls) (k := (k : Int)) (by omega) (by omega)
  rw [idxR_nat h] at e
  exact (R.ok.inj e).symm
def dW (ds : Tb) (k : Int) : Option (List Int) := (ds[k.toNat]?).getD none
theorem idxR_dW {ds : Tb} {k : Int} (h : 0 ≤ k) (h' : k < ds.length) : idxR ds k = .ok (dW ds k) := by
  rw [idxR_ok h h']
  unfold dW
  rw [List.getElem?_eq_getElem (by omega)]
  rfl
theorem dW_some {ds : Tb} {k : Int} {w : List Int} (h : dW ds k = some w) : ds[k.toNat]? = some (some w) := by
  unfold dW at h
  cases e : ds[k.toNat]? with
  | none =>
    rw [e] at h
    cases h
  | some o =>
    rw [e] at h
    have h' : o = some w := h
    rw [h']
theorem cut_take (xs : List Int) (n : Nat) : cut xs none (some (n : Int)) = xs.take n := by
  unfold cut
  rw [HT.sIx_none, HT.sIx_nat, List.drop_zero, Nat.sub_zero]
  rcases Nat.le_total n xs.length with h | h
  · rw [Nat.min_eq_left h]
  · rw [Nat.min_eq_right h, List.take_length, List.take_of_length_le h]
end Kx

namespace Kx
open PySem PySem.Spec PyProof.Rows L2 Kr
open Enc (toD)
theorem finR_er {S ρ : Type} (c : Nat) (p : Int) : finR (.er c p : R (Fl S ρ)) = .er c p := (fun (m : R (Fl S ρ)) (e : m = .er c p) => show finR m = .er c p by rw [e]; rfl) _ rfl
theorem fin_rt {ρ : Type} (m : R ρ) : finR (m.bind fun r => (.ok (.rt r) : R (Fl Unit ρ))) = m := by
  cases m <;> rfl
theorem seqI_cons (z n : Nat) : seqI (z : Int) (n + 1) = (z : Int) :: seqI ((z + 1 : Nat) : Int) n := by
  refine List.ext_getElem? fun i => ?_
  cases i with
  | zero => rw [seqI_get]; simp
  | succ i =>
    rw [seqI_get, List.getElem?_cons_succ, seqI_get]
    by_cases h : i < n
    · rw [if_pos (by omega), if_pos h]
      congr 1
      omega
    · rw [if_neg (by omega), if_neg h]
theorem cut_at (xs : List Int) (a w : Nat) (h : a + w ≤ xs.length) : cut xs (some (a : Int)) (some ((a + w : Nat) : Int)) = (xs.drop a).take w := by
  unfold cut
  rw [HT.sIx_nat, HT.sIx_nat, Nat.min_eq_left (by omega), Nat.min_eq_left (by omega), show a + w - a = w by omega]
/-! ### data in a list -/
theorem inC_ok (a : List Int) (T : Tb) : inC a T := by
  have h1 : ∀ a : List Int, SeqAt.shaped (toD a).py = true := fun a => by
    unfold SeqAt.shaped
    rw [Eqd.lay a, Bool.true_and]
    exact decide_eq_true (Nat.le_trans (Eqd.dp a) (by decide))
  have h2 : SeqAt.shaped (toD T).py = true := by
    unfold SeqAt.shaped
    rw [Eqd.lay T, Bool.true_and]
    exact decide_eq_true (Nat.le_trans (Eqd.dp T) (by decide))
  exact ⟨Eqd.nd a, Eqd.nd T, h1 a, h2⟩
theorem ev_some (o : Option (List Int)) (a : List Int) : PyData.eqv (toD o).py (toD a).py = decide (o = some a) := by
  have := Eqd.ev o (some a)
  cases q : PyData.eqv (toD o).py (toD a).py with
  | true => exact (decide_eq_true (this.mp q)).symm
  | false =>
    refine (decide_eq_false fun z => ?_).symm
    have q2 : PyData.eqv (toD o).py (toD a).py = true := this.mpr z
    rw [q] at q2
    cases q2
theorem pyA_any (a : List Int) : ∀ T : Tb, ((Dt.pyA (T.map toD)).any fun z => PyData.eqv z (toD a).py) = decide (some a ∈ T)
  | [] => by simp [Dt.pyA]
  | o :: r => by
    show (PyData.eqv (toD o).py (toD a).py || (Dt.pyA (r.map toD)).any _) = _
    rw [pyA_any a r, ev_some, ← Bool.decide_or]
    congr 1
    rw [List.mem_cons]
    exact propext ⟨fun h => h.imp Eq.symm id, fun h => h.imp Eq.symm id⟩
theorem inDR_eq (a : List Int) (T : Tb) : inDR a T = .ok (decide (some a ∈ T)) := by
  unfold inDR
  rw [if_pos (inC_ok a T), pyA_any]
theorem pyA_len : ∀ T : Tb, (Dt.pyA (T.map toD)).length = T.length
  | [] => rfl
  | o :: r => by
    show (Dt.pyA (r.map toD)).length + 1 = r.length + 1
    rw [pyA_len r]
theorem pyA_idx (a : List Int) : ∀ T : Tb, (Dt.pyA (T.map toD)).findIdx? (fun z => PyData.eqv z (toD a).py) = T.findIdx? fun o => decide (o = some a)
  | [] => rfl
  | o :: r => by
    show List.findIdx? _ ((toD o).py :: Dt.pyA (r.map toD)) = _
    rw [List.findIdx?_cons, List.findIdx?_cons, pyA_idx a r, ev_some]
theorem indexDR_eq (a : List Int) (T : Tb) (j : Nat) (h : (T.findIdx? fun o => decide (o = some a)) = some j) : indexDR T a = .ok (j : Nat) := by
  unfold indexDR
  rw [if_pos (inC_ok a T), pyA_idx, h]
/-! ### one word -/
def bg (part : List Int) : Option (List Int) → Bool
  | none => false
  | some w => decide (w.take part.length = part)
def fi (T : Tb) (part : List Int) : Nat := T.findIdx fun o => decide (o = some part)
theorem index_ok (T : Tb) (part : List Int) (h : some part ∈ T) : indexDR T part = .ok (fi T part : Nat) := by
  refine indexDR_eq part T _ ?_
  rw [List.findIdx?_eq_some_iff_findIdx_eq]
  exact ⟨List.findIdx_lt_length.mpr ⟨_, h, decide_eq_true rfl⟩, rfl⟩
def rdw (T : Tb) (bits : List Int) (a : Nat) : Nat → Nat → R (Int × Int)
  | 0, _ => .er 0 bits.length
  | n + 1, w => if some ((bits.drop a).take w) ∈ T then .ok ((fi T ((bits.drop a).take w) : Nat), ((a + w : Nat) : Int)) else if T.any (bg ((bits.drop a).take w)) = true then rdw T bits a n (w + 1) else .er 1 a
theorem part_len {bits : List Int} {a w : Nat} (h : a + w ≤ bits.length) : ((bits.drop a).take w).length = w := by
  rw [List.length_take, List.length_drop]
  omega
theorem any_eq (T : Tb) (hT : T.length ≤ 1000) (part : List Int) : lcR (fun (_ : Option (List Int)) => R.ok true) (fun word_103 =>
                          if word_103.isSome = true then
                            (getR word_103).bind fun a_1 =>
                              eqR (cut a_1 none (some (part.length : Int))) part
                          else R.ok false) T = .ok (T.map (bg part)) := by
  refine lcR_map (bg part) (by omega) fun o _ => ?_
  cases o with
  | none => rfl
  | some w =>
    rw [if_pos (show (some w).isSome = true from rfl)]
    show eqR (cut w none (some (part.length : Int))) part = _
    rw [eqR_eq, cut_take]
    rfl
theorem flt_eq (T : Tb) (hT : T.length ≤ 1000) (part : List Int) : lcR (fun word_103 =>
                          if word_103.isSome = true then
                            (getR word_103).bind fun a_1 =>
                              eqR (cut a_1 none (some (part.length : Int))) part
                          else R.ok false) (fun (w : Option (List Int)) => R.ok w) T = .ok (T.filter (bg part)) := by
  refine (lcR_ok (bg part) (fun w => w) (by omega) (fun o _ => ?_) (fun o _ _ => rfl)).trans (by rw [List.map_id'])
  cases o with
  | none => rfl
  | some w =>
    rw [if_pos (show (some w).isSome = true from rfl)]
    show eqR (cut w none (some (part.length : Int))) part = _
    rw [eqR_eq, cut_take]
    rfl
theorem any_id (T : Tb) (part : List Int) : (T.map (bg part)).any id = T.any (bg part) := by
  rw [List.any_map]
  rfl
/-- the program's loop -/
theorem word_loop (T : Tb) (hT : T.length ≤ 1000) (bits : List Int) (a L : Nat) (hL : ∀ w, some w ∈ T → w.length ≤ L) (ha : a ≤ bits.length) : ∀ (m w n : Nat), m + w = L → n + w = bits.length - a + 1 → forR (S := Unit) (T := Unit)
          (fun st_75 width_76 =>
            if (bits.length : Int) < (a : Int) + width_76 then R.er 0 (bits.length : Int)
            else
              (inDR (cut bits (some (a : Int)) (some ((a : Int) + width_76))) T).bind fun c_95 =>
                if c_95 = true then
                  (indexDR T (cut bits (some (a : Int)) (some ((a : Int) + width_76)))).bind fun a_1 => R.ok (Fl.rt (a_1, (a : Int) + width_76))
                else
                  (lcR (fun word_103 => R.ok true)
                        (fun word_103 =>
                          if word_103.isSome = true then
                            (getR word_103).bind fun a_1 =>
                              eqR (cut a_1 none (some width_76)) (cut bits (some (a : Int)) (some ((a : Int) + width_76)))
                          else R.ok false)
                        T).bind
                    fun a_1 => if a_1.any id = false then R.er 1 (a : Int) else R.ok (Fl.nx ()))
          (fun st_75 => R.er 1 (a : Int)) (seqI (w : Int) (m + 1)) () = (rdw T bits a n w).bind fun r => .ok (.rt r) := by
  intro m
  induction m with
  | zero =>
    intro w n hm hn
    rw [seqI_cons, forR_cons]
    cases n with
    | zero =>
      unfold rdw
      rw [if_pos (by omega)]
      rfl
    | succ n =>
      unfold rdw
      rw [if_neg (by omega), show (a : Int) + (w : Int) = ((a + w : Nat) : Int) by omega, cut_at bits a w (by omega), inDR_eq, R.ok_bind]
      have pl := part_len (bits := bits) (a := a) (w := w) (by omega)
      generalize (bits.drop a).take w = part at pl
      by_cases hin : some part ∈ T
      · rw [if_pos hin, if_pos (decide_eq_true hin), index_ok T part hin, R.ok_bind]
        rfl
      · have hno : T.any (bg part) = false := by
          rw [List.any_eq_false]
          intro o ho
          cases o with
          | none => exact fun z => nomatch z
          | some wd =>
            intro z
            have z' : wd.take part.length = part := of_decide_eq_true z
            rw [List.take_of_length_le (by rw [pl]; have := hL wd ho; omega)] at z'
            rw [z'] at ho
            exact hin ho
        rw [if_neg hin, if_neg (by rw [decide_eq_false hin]; decide), hno, if_neg (by decide)]
        have q := any_eq T hT part
        rw [pl] at q
        rw [q, R.ok_bind, any_id, hno, if_pos rfl]
        rfl
  | succ m ih =>
    intro w n hm hn
    rw [seqI_cons, forR_cons]
    cases n with
    | zero =>
      unfold rdw
      rw [if_pos (by omega)]
      rfl
    | succ n =>
      unfold rdw
      rw [if_neg (by omega), show (a : Int) + (w : Int) = ((a + w : Nat) : Int) by omega, cut_at bits a w (by omega), inDR_eq, R.ok_bind]
      have pl := part_len (bits := bits) (a := a) (w := w) (by omega)
      generalize (bits.drop a).take w = part at pl
      have q := any_eq T hT part
      rw [pl] at q
      by_cases hin : some part ∈ T
      · rw [if_pos hin, if_pos (decide_eq_true hin), index_ok T part hin, R.ok_bind]
        rfl
      · rw [if_neg hin, if_neg (by rw [decide_eq_false hin]; decide)]
        rw [q, R.ok_bind, any_id]
        by_cases c : T.any (bg part) = true
        · rw [if_pos c, if_neg (by rw [c]; decide), ← ih (w + 1) n (by omega) (by omega)]
          rfl
        · rw [if_neg c, if_pos (by simpa using c)]
          rfl
theorem read_word_eq (T : Tb) (hT : T.length ≤ 1000) (bits : List Int) (a L : Nat) (hL : ∀ w, some w ∈ T → w.length ≤ L) (h1 : 1 ≤ L) (hL2 : L ≤ 1000) (ha : a ≤ bits.length) : f_read_word T L bits a = rdw T bits a (bits.length - a) 1 := by
  unfold f_read_word b_read_word
  simp only [R.ok_bind, R.ok_pu, R.er_bind, R.bad_bind, R.ok_map, finR_rt, seqF_nx, seqF_rt, R.bind_ok, R.bind_bind, decide_eq_true_eq, Bool.not_eq_true', decide_eq_false_iff_not, Bool.false_eq_true, if_true, if_false, ite_nx]
  rw [rng2_ok (by omega), R.ok_bind]
  have := word_loop T hT bits a L hL ha (L - 1) 1 (bits.length - a) (by omega) (by omega)
  rw [show ((1 : Nat) : Int) = 1 from rfl] at this
  rw [show ((L : Int) + 1 - 1).toNat = L - 1 + 1 by omega, this, fin_rt]
/-- the law's inner loop -/
theorem law_loop {ρ : Type} (T : Tb) (hT : T.length ≤ 1000) (bits : List Int) (a : Nat) (ha : a ≤ bits.length) (iw : ρ) (k : Option (Int × Int) → R (Fl (Int × List Int) ρ)) : ∀ (n w : Nat), n + w = bits.length - a + 1 → forR
                  (fun st_331 stop_332 =>
                    (inDR (cut bits (some (a : Int)) (some stop_332)) T).bind fun c_341 =>
                      if c_341 = true then
                        (indexDR T (cut bits (some (a : Int)) (some stop_332))).bind fun a =>
                          R.ok (Fl.bk (some (a, stop_332)))
                      else
                        (lcR
                              (fun word_348 =>
                                if word_348.isSome = true then
                                  (getR word_348).bind fun a_1 =>
                                    eqR (cut a_1 none (some (((cut bits (some (a : Int)) (some stop_332)).length : Nat) : Int)))
                                      (cut bits (some (a : Int)) (some stop_332))
                                else R.ok false)
                              (fun word_348 => R.ok word_348) T).bind
                          fun a_1 =>
                          if ((a_1.length : Nat) : Int) = 0 then R.ok (Fl.rt iw)
                          else R.ok (Fl.nx st_331)) k (seqI ((a + w : Nat) : Int) n) none = match rdw T bits a n w with
        | .ok p => k (some p)
        | .er 0 _ => k none
        | .er _ _ => .ok (.rt iw)
        | .bad => .bad := by
  intro n
  induction n with
  | zero =>
    intro w hn
    rfl
  | succ n ih =>
    intro w hn
    rw [seqI_cons, forR_cons]
    unfold rdw
    rw [cut_at bits a w (by omega), inDR_eq, R.ok_bind]
    have pl := part_len (bits := bits) (a := a) (w := w) (by omega)
    generalize (bits.drop a).take w = part at pl
    have q := flt_eq T hT part
    by_cases hin : some part ∈ T
    · rw [if_pos hin, if_pos (decide_eq_true hin), index_ok T part hin, R.ok_bind]
      rfl
    · rw [if_neg hin, if_neg (by rw [decide_eq_false hin]; decide)]
      rw [q, R.ok_bind]
      by_cases c : T.any (bg part) = true
      · have hl : ¬ (((T.filter (bg part)).length : Nat) : Int) = 0 := by
          intro z
          obtain ⟨o, ho, hb⟩ := List.any_eq_true.mp c
          have hm : o ∈ T.filter (bg part) := List.mem_filter.mpr ⟨ho, hb⟩
          have := List.length_pos_of_mem hm
          omega
        rw [if_pos c, if_neg hl, show a + w + 1 = a + (w + 1) by omega, ← ih (w + 1) (by omega)]
        rfl
      · have hl : (((T.filter (bg part)).length : Nat) : Int) = 0 := by
          rw [List.filter_eq_nil_iff.mpr fun o ho hb => c (List.any_eq_true.mpr ⟨o, ho, hb⟩)]
          rfl
        rw [if_neg c, if_pos hl]
        rfl
theorem rdw_gd (T : Tb) (bits : List Int) (a : Nat) : ∀ n w, n + w ≤ bits.length - a + 1 → a ≤ bits.length → (∃ i : Int, ∃ q : Nat, rdw T bits a n w = .ok (i, (q : Int)) ∧ q ≤ bits.length) ∨ rdw T bits a n w = .er 0 bits.length ∨ rdw T bits a n w = .er 1 a
  | 0, w, _, _ => .inr (.inl rfl)
  | n + 1, w, h, ha => by
    unfold rdw
    split
    · exact .inl ⟨_, _, rfl, by omega⟩
    · split
      · exact rdw_gd T bits a n (w + 1) (by omega) ha
      · exact .inr (.inr rfl)
/-! ### many words -/
def rds (T : Tb) (bits : List Int) : Nat → Nat → List Int → R (List Int × Int)
  | 0, a, ms => .ok (ms, a)
  | n + 1, a, ms => (rdw T bits a (bits.length - a) 1).bind fun p => rds T bits n p.2.toNat (ms ++ [p.1])
def toL (m : R (List Int × Int)) : (List Int ⊕ Str) × Int := match m with
  | .ok p => (Sum.inl p.1, p.2)
  | .er 0 p => (Sum.inr "Truncated", p)
  | .er _ p => (Sum.inr "InvalidWord", p)
  | .bad => (Sum.inl [], 0)
theorem syms_loop (T : Tb) (hT : T.length ≤ 1000) (bits : List Int) (L : Nat) (hL : ∀ w, some w ∈ T → w.length ≤ L) (h1 : 1 ≤ L) (hL2 : L ≤ 1000) : ∀ (n z a : Nat) (ms : List Int), ms.length + n ≤ 1000 → a ≤ bits.length → forR (S := Unit)
                (fun (st_127 : Int × List Int) k_128 =>
                  (f_read_word T L bits st_127.fst).bind fun p_133 =>
                    (szR (st_127.snd ++ [p_133.fst])).bind fun message_134 => R.ok (Fl.nx (p_133.snd, message_134)))
                (fun st_127 => R.ok (Fl.rt (st_127.snd, st_127.fst))) (seqI (z : Int) n) ((a : Int), ms) = (rds T bits n a ms).bind fun r => .ok (.rt r) := by
  intro n
  induction n with
  | zero => exact fun z a ms hz ha => rfl
  | succ n ih =>
    intro z a ms hz ha
    rw [seqI_cons, forR_cons]
    unfold rds
    rw [read_word_eq T hT bits a L hL h1 hL2 ha]
    rcases rdw_gd T bits a (bits.length - a) 1 (by omega) ha with ⟨i, q, e, hq⟩ | e | e
    · rw [e, R.ok_bind, R.ok_bind, szR_ok (by rw [List.length_append]; show ms.length + 1 ≤ _; omega), R.ok_bind]
      exact ih (z + 1) q (ms ++ [i]) (by rw [List.length_append]; show ms.length + 1 + n ≤ _; omega) hq
    · rw [e]
      rfl
    · rw [e]
      rfl
theorem lread_loop (T : Tb) (hT : T.length ≤ 1000) (bits : List Int) (hbl : bits.length ≤ 100000) : ∀ (n z a : Nat) (ms : List Int), ms.length + n ≤ 1000 → a ≤ bits.length → forR (S := Unit)
            (fun (st_321 : Int × List Int) turn_322 =>
              (rng2R (st_321.fst + 1) ((bits.length : Int) + 1)).bind fun xs_378 =>
                forR
                  (fun st_331 stop_332 =>
                    (inDR (cut bits (some st_321.fst) (some stop_332)) T).bind fun c_341 =>
                      if c_341 = true then
                        (indexDR T (cut bits (some st_321.fst) (some stop_332))).bind fun a =>
                          R.ok (Fl.bk (some (a, stop_332)))
                      else
                        (lcR
                              (fun word_348 =>
                                if word_348.isSome = true then
                                  (getR word_348).bind fun a =>
                                    eqR (cut a none (some (((cut bits (some st_321.fst) (some stop_332)).length : Nat) : Int)))
                                      (cut bits (some st_321.fst) (some stop_332))
                                else R.ok false)
                              (fun word_348 => R.ok word_348) T).bind
                          fun a =>
                          if ((a.length : Nat) : Int) = 0 then R.ok (Fl.rt (Sum.inr (Str.ofString "InvalidWord"), st_321.fst))
                          else R.ok (Fl.nx st_331))
                  (fun st_331 =>
                    if st_331.isNone = true then R.ok (Fl.rt (Sum.inr (Str.ofString "Truncated"), (bits.length : Int)))
                    else
                      (getR st_331).bind fun a =>
                        (szR (st_321.snd ++ [a.fst])).bind fun message_373 =>
                          (getR st_331).bind fun a => R.ok (Fl.nx (a.snd, message_373)))
                  xs_378 none)
            (fun st_321 => R.ok (Fl.rt (Sum.inl st_321.snd, st_321.fst))) (seqI (z : Int) n) ((a : Int), ms) = .ok (.rt (toL (rds T bits n a ms))) := by
  intro n
  induction n with
  | zero => exact fun z a ms hz ha => rfl
  | succ n ih =>
    intro z a ms hz ha
    rw [seqI_cons, forR_cons]
    unfold rds
    rw [rng2_ok (by show -1000000 ≤ (a : Int) + 1 ∧ (a : Int) + 1 ≤ 1000000 ∧ _; omega), R.ok_bind]
    have q := law_loop T hT bits a ha ((Sum.inr (Str.ofString "InvalidWord"), (a : Int)) : (List Int ⊕ Str) × Int) (fun st_331 =>
                    if st_331.isNone = true then R.ok (Fl.rt (Sum.inr (Str.ofString "Truncated"), (bits.length : Int)))
                    else
                      (getR st_331).bind fun a =>
                        (szR (ms ++ [a.fst])).bind fun message_373 =>
                          (getR st_331).bind fun a => R.ok (Fl.nx (a.snd, message_373))) (bits.length - a) 1 (by omega)
    rw [show ((a + 1 : Nat) : Int) = (a : Int) + 1 by omega] at q
    show R.bind (forR _ _ (seqI ((a : Int) + 1) ((bits.length : Int) + 1 - ((a : Int) + 1)).toNat) none) _ = _
    rw [show ((bits.length : Int) + 1 - ((a : Int) + 1)).toNat = bits.length - a by omega]
    rw [show forR _ _ (seqI ((a : Int) + 1) (bits.length - a)) none = _ from q]
    rcases rdw_gd T bits a (bits.length - a) 1 (by omega) ha with ⟨i, p, e, hq⟩ | e | e
    · rw [e, R.ok_bind]
      show R.bind (if (some (i, (p : Int))).isNone = true then _ else R.bind (R.ok (i, (p : Int))) _) _ = _
      rw [if_neg (show ¬ (some (i, (p : Int))).isNone = true from Bool.false_ne_true), R.ok_bind, szR_ok (by rw [List.length_append]; show ms.length + 1 ≤ _; omega), R.ok_bind]
      exact ih (z + 1) p (ms ++ [i]) (by rw [List.length_append]; show ms.length + 1 + n ≤ _; omega) hq
    · rw [e]
      rfl
    · rw [e]
      rfl
end Kx

namespace Kx
open PySem PySem.Spec PyProof.Rows L2 Kr
open Enc (toD)
def cat (T : Tb) (ms : List Int) : List Int := ms.flatMap fun k => (dW T k).getD []
/-- symbols with words of at most 20 bits -/
def Ms (T : Tb) (ms : List Int) : Prop := ∀ k ∈ ms, 0 ≤ k ∧ k < (T.length : Int) ∧ ∃ w, dW T k = some w ∧ 1 ≤ w.length ∧ w.length ≤ 20
theorem cat_cons (T : Tb) (k : Int) (ms : List Int) {w : List Int} (h : dW T k = some w) : cat T (k :: ms) = w ++ cat T ms := by
  unfold cat
  rw [List.flatMap_cons, h]
  rfl
theorem cat_loop {S ρ : Type} (T : Tb) (K : List Int → R (Fl S ρ)) : ∀ (ms : List Int) (s : List Int), Ms T ms → s.length + 20 * ms.length ≤ 1000000 → forR (fun (st_59 : List Int) symbol_60 =>
              (idxR T symbol_60).bind fun a =>
                (getR a).bind fun y_64 => (szR (st_59 ++ y_64)).bind fun bits_61 => R.ok (Fl.nx bits_61)) K ms s = K (s ++ cat T ms)
  | [], s, _, _ => by
    show K s = _
    unfold cat
    rw [List.flatMap_nil, List.append_nil]
  | k :: ms, s, h, hz => by
    obtain ⟨h1, h2, w, h3, h4, h5⟩ := h k List.mem_cons_self
    rw [List.length_cons] at hz
    rw [forR_cons, idxR_dW h1 h2, R.ok_bind, h3]
    show R.bind (R.bind (R.ok w) _) _ = _
    rw [R.ok_bind, szR_ok (by rw [List.length_append]; omega), R.ok_bind, R.ok_bind]
    show forR _ K ms (s ++ w) = _
    rw [cat_loop T K ms (s ++ w) (fun k hk => h k (List.mem_cons_of_mem _ hk)) (by rw [List.length_append]; omega), cat_cons T k ms h3, List.append_assoc]
theorem cat_len (T : Tb) : ∀ (ms : List Int), Ms T ms → (cat T ms).length ≤ 20 * ms.length
  | [], _ => Nat.zero_le _
  | k :: ms, h => by
    obtain ⟨h1, h2, w, h3, h4, h5⟩ := h k List.mem_cons_self
    have := cat_len T ms fun k hk => h k (List.mem_cons_of_mem _ hk)
    rw [cat_cons T k ms h3, List.length_append, List.length_cons]
    omega
def PF (T : Tb) : Prop := ∀ (a b : Nat), a ≠ b → ∀ wa wb : List Int, T[a]? = some (some wa) → T[b]? = some (some wb) → wb.take wa.length ≠ wa
theorem fi_eq (T : Tb) (pf : PF T) (k : Nat) (w : List Int) (h : T[k]? = some (some w)) : fi T w = k := by
  obtain ⟨hk, e⟩ := List.getElem?_eq_some_iff.mp h
  unfold fi
  rw [List.findIdx_eq hk]
  refine ⟨decide_eq_true e, fun j hj => decide_eq_false fun z => ?_⟩
  exact pf j k (by omega) w w (by rw [List.getElem?_eq_getElem (by omega), z]) h (List.take_length)
theorem rdw_word (T : Tb) (pf : PF T) (bits : List Int) (a k : Nat) (w : List Int) (h : T[k]? = some (some w)) (hb : (bits.drop a).take w.length = w) : ∀ (m n j : Nat), m + j = w.length → n + j = bits.length - a + 1 → a + w.length ≤ bits.length → rdw T bits a n j = .ok ((k : Int), ((a + w.length : Nat) : Int)) := by
  have hm : some w ∈ T := List.mem_of_getElem? h
  intro m
  induction m with
  | zero =>
    intro n j hj hn hl
    obtain ⟨n, rfl⟩ : ∃ n', n = n' + 1 := ⟨n - 1, by omega⟩
    obtain rfl : j = w.length := by omega
    unfold rdw
    rw [hb, if_pos hm, fi_eq T pf k w h]
  | succ m ih =>
    intro n j hj hn hl
    obtain ⟨n, rfl⟩ : ∃ n', n = n' + 1 := ⟨n - 1, by omega⟩
    unfold rdw
    have hp : (bits.drop a).take j = w.take j := by
      rw [← hb, List.take_take, Nat.min_eq_left (by omega)]
    have hpl : (w.take j).length = j := by
      rw [List.length_take]
      omega
    rw [hp, if_neg, if_pos, ih n (j + 1) (by omega) (by omega) hl]
    · refine List.any_eq_true.mpr ⟨some w, hm, decide_eq_true ?_⟩
      rw [hpl]
    · intro hin
      obtain ⟨t, ht, e⟩ := List.getElem_of_mem hin
      have ht' : T[t]? = some (some (w.take j)) := by rw [List.getElem?_eq_getElem ht, e]
      by_cases htk : t = k
      · subst htk
        rw [h] at ht'
        have := congrArg List.length (Option.some.inj (Option.some.inj ht'))
        rw [hpl] at this
        omega
      · exact pf t k htk _ _ ht' h (by rw [hpl])
theorem rds_ok (T : Tb) (pf : PF T) (post : List Int) : ∀ (ms pre acc : List Int), Ms T ms → rds T (pre ++ (cat T ms ++ post)) ms.length pre.length acc = .ok (acc ++ ms, ((pre.length + (cat T ms).length : Nat) : Int))
  | [], pre, acc, _ => by
    show R.ok (acc, (pre.length : Int)) = _
    rw [List.append_nil]
    rfl
  | k :: ms, pre, acc, h => by
    obtain ⟨h1, h2, w, h3, h4, h5⟩ := h k List.mem_cons_self
    rw [cat_cons T k ms h3, List.length_cons]
    unfold rds
    have e : pre ++ (w ++ cat T ms ++ post) = (pre ++ w) ++ (cat T ms ++ post) := by simp only [List.append_assoc]
    have hd : ((pre ++ (w ++ cat T ms ++ post)).drop pre.length).take w.length = w := by
      rw [List.drop_left', List.append_assoc, List.take_left']
      · rfl
      · rfl
    have q := rdw_word T pf (pre ++ (w ++ cat T ms ++ post)) pre.length k.toNat w (dW_some h3) hd (w.length - 1) ((pre ++ (w ++ cat T ms ++ post)).length - pre.length) 1 (by omega) (by omega) (by simp only [List.length_append]; omega)
    rw [q, R.ok_bind, show (((pre.length + w.length : Nat) : Int)).toNat = (pre ++ w).length by rw [List.length_append]; omega, e, rds_ok T pf post ms (pre ++ w) _ fun k hk => h k (List.mem_cons_of_mem _ hk), show ((k.toNat : Nat) : Int) = k by omega]
    simp only [List.append_assoc, List.singleton_append, List.length_append]
    rw [Nat.add_assoc]
theorem rds_gd (T : Tb) (bits : List Int) : ∀ (n a : Nat) (ms : List Int), a ≤ bits.length → (∃ p, rds T bits n a ms = .ok p) ∨ (∃ p, rds T bits n a ms = .er 0 p) ∨ ∃ p, rds T bits n a ms = .er 1 p
  | 0, a, ms, _ => .inl ⟨_, rfl⟩
  | n + 1, a, ms, ha => by
    unfold rds
    rcases rdw_gd T bits a (bits.length - a) 1 (by omega) ha with ⟨i, q, e, hq⟩ | e | e
    · rw [e, R.ok_bind]
      exact rds_gd T bits n q _ hq
    · rw [e]
      exact .inr (.inl ⟨_, rfl⟩)
    · rw [e]
      exact .inr (.inr ⟨_, rfl⟩)
theorem told_of (m : R (List Int × Int)) (h : (∃ p, m = .ok p) ∨ (∃ p, m = .er 0 p) ∨ ∃ p, m = .er 1 p) : finR (tryR (m.bind fun a => (R.ok (Fl.rt (Sum.inl (id a.fst), id a.snd)) : R (Fl Unit ((List Int ⊕ Str) × Int)))) fun c p =>
        if c = 0 then R.ok (Fl.rt (Sum.inr (id (Str.ofString "Truncated")), id p))
        else if c = 1 then R.ok (Fl.rt (Sum.inr (id (Str.ofString "InvalidWord")), id p)) else R.bad) = .ok (toL m) := by
  rcases h with ⟨p, rfl⟩ | ⟨p, rfl⟩ | ⟨p, rfl⟩ <;> rfl
/-- what is asked of the lengths -/
structure Cd (fs : List Int) : Prop where
  ok : Ok20 fs
  len : fs.length ≤ 100
  kr : 0 ≤ 1048576 - kr fs
  pos : ∃ l ∈ fs, 0 < l
theorem Cd.pf {fs : List Int} (h : Cd fs) : PF (wds fs) := fun a b hab wa wb ha hb => npre fs h.kr h.ok a b hab wa wb ha hb
theorem wds_word {fs : List Int} (h : Cd fs) {k : Nat} {w : List Int} (e : (wds fs)[k]? = some (some w)) : 1 ≤ w.length ∧ w.length ≤ 20 ∧ ∃ hk : k < fs.length, (w.length : Int) = fs[k] := by
  obtain ⟨i, hi, e1, e2⟩ := wds_get fs k w e
  have m := mem_Es.mp (List.getElem_mem hi)
  rw [e1] at m
  have hk : k < fs.length := by omega
  rw [gW_len fs k hk] at m
  have hl : (w.length : Int) = fs[k] := by
    rw [e2, bw_len, ← m.2.2.2.2]
    have := (h.ok _ (List.getElem_mem hk)).1
    omega
  have := h.ok _ (List.getElem_mem hk)
  exact ⟨by omega, by omega, hk, hl⟩
theorem syms_eq {fs : List Int} (h : Cd fs) (bits : List Int) (a n : Nat) (ha : a ≤ bits.length) (hn : n ≤ 1000) : f_read_symbols fs bits a n = rds (wds fs) bits n a [] := by
  have hne : fs ≠ [] := fun z => by
    obtain ⟨l, hl, _⟩ := h.pos
    rw [z] at hl
    cases hl
  obtain ⟨m, hm, hmm, hml⟩ := maxR_ok hne
  obtain ⟨l, hl, hl0⟩ := h.pos
  have h1 := hml l hl
  have h2 := (h.ok m hmm).2
  unfold f_read_symbols b_read_symbols
  simp only [R.ok_bind, R.ok_pu, R.er_bind, R.bad_bind, R.ok_map, finR_rt, seqF_nx, seqF_rt, R.bind_ok, R.bind_bind, decide_eq_true_eq, Bool.not_eq_true', decide_eq_false_iff_not, Bool.false_eq_true, if_true, if_false, ite_nx]
  rw [words_eq fs h.ok (by have := h.len; omega) h.pos, R.ok_pu, R.ok_bind, hm, R.ok_bind, szR_nil, R.ok_bind, rng1_nat (by omega), R.ok_bind]
  have q := syms_loop (wds fs) (by rw [wds_len]; have := h.len; omega) bits m.toNat (fun w hw => by
    obtain ⟨k, hk, e⟩ := List.getElem_of_mem hw
    obtain ⟨_, _, hk', e'⟩ := wds_word h (k := k) (w := w) (by rw [List.getElem?_eq_getElem hk, e])
    have := hml _ (List.getElem_mem hk')
    omega) (by omega) (by omega) n 0 a [] (by show 0 + n ≤ 1000; omega) ha
  rw [show ((m.toNat : Nat) : Int) = m by omega, show ((0 : Nat) : Int) = 0 from rfl] at q
  rw [q, fin_rt]
theorem told_eq {fs : List Int} (h : Cd fs) (bits : List Int) (a n : Nat) (ha : a ≤ bits.length) (hn : n ≤ 1000) : f__law_told fs bits a n = .ok (toL (rds (wds fs) bits n a [])) := by
  unfold f__law_told b__law_told
  simp only [R.ok_bind, R.ok_pu, R.er_bind, R.bad_bind, R.ok_map, finR_rt, seqF_nx, seqF_rt, R.bind_ok, R.bind_bind, decide_eq_true_eq, Bool.not_eq_true', decide_eq_false_iff_not, Bool.false_eq_true, if_true, if_false, ite_nx]
  rw [syms_eq h bits a n ha hn]
  exact told_of _ (rds_gd _ bits n a [] ha)
theorem lread_eq {fs : List Int} (h : Cd fs) (bits : List Int) (hbl : bits.length ≤ 100000) (a n : Nat) (ha : a ≤ bits.length) (hn : n ≤ 1000) : f__law_read (wds fs) bits a n = .ok (toL (rds (wds fs) bits n a [])) := by
  unfold f__law_read b__law_read
  simp only [R.ok_bind, R.ok_pu, R.er_bind, R.bad_bind, R.ok_map, finR_rt, seqF_nx, seqF_rt, R.bind_ok, R.bind_bind, decide_eq_true_eq, Bool.not_eq_true', decide_eq_false_iff_not, Bool.false_eq_true, if_true, if_false, ite_nx]
  rw [szR_nil, R.ok_bind, rng1_nat (by omega), R.ok_bind]
  have q := lread_loop (wds fs) (by rw [wds_len]; have := h.len; omega) bits hbl n 0 a [] (by show 0 + n ≤ 1000; omega) ha
  rw [show ((0 : Nat) : Int) = 0 from rfl] at q
  rw [q, finR_rt]
theorem write_eq {fs : List Int} (h : Cd fs) (ms : List Int) (hm : Ms (wds fs) ms) (hl : ms.length ≤ 1000) : f_write_symbols fs ms = .ok (cat (wds fs) ms) := by
  unfold f_write_symbols b_write_symbols
  simp only [R.ok_bind, R.ok_pu, R.er_bind, R.bad_bind, R.ok_map, finR_rt, seqF_nx, seqF_rt, R.bind_ok, R.bind_bind, decide_eq_true_eq, Bool.not_eq_true', decide_eq_false_iff_not, Bool.false_eq_true, if_true, if_false, ite_nx]
  rw [words_eq fs h.ok (by have := h.len; omega) h.pos, R.ok_pu, R.ok_bind, szR_nil, R.ok_bind, cat_loop (wds fs) _ ms [] hm (by show 0 + _ ≤ _; omega), finR_rt, List.nil_append]
/-! ### some symbol has a word -/
theorem tb_some : ∀ (M : List (Int × Int)) (s : Tb × Int) (k : Nat), k < s.1.length → ((∃ w, s.1[k]? = some (some w)) ∨ ∃ e ∈ M, e.2 = (k : Int)) → ∃ w, (tb s M).1[k]? = some (some w)
  | [], s, k, hk, h => by
    rcases h with h | ⟨e, he, _⟩
    · exact h
    · cases he
  | e :: M, s, k, hk, h => by
    refine tb_some M (tst s e) k (by unfold tst; rw [List.length_set]; exact hk) ?_
    by_cases hek : e.2 = (k : Int)
    · refine .inl ⟨bw e.1 (s.2 / p2 e.1), ?_⟩
      unfold tst
      rw [show e.2.toNat = k by omega]
      exact List.getElem?_set_self hk
    · rcases h with ⟨w, h⟩ | ⟨f, hf, hfk⟩
      · by_cases hk2 : e.2.toNat = k
        · refine .inl ⟨bw e.1 (s.2 / p2 e.1), ?_⟩
          unfold tst
          rw [hk2]
          exact List.getElem?_set_self hk
        · refine .inl ⟨w, ?_⟩
          unfold tst
          rw [List.getElem?_set_ne hk2]
          exact h
      · rcases List.mem_cons.mp hf with q | q
        · exact absurd (q ▸ hfk) hek
        · exact .inr ⟨f, q, hfk⟩
theorem wds_some {fs : List Int} (h : Cd fs) : ∃ k : Nat, k < fs.length ∧ ∃ w, (wds fs)[k]? = some (some w) := by
  obtain ⟨l, hl, hl0⟩ := h.pos
  obtain ⟨k, hk, rfl⟩ := List.getElem_of_mem hl
  have hg := gW_len fs k hk
  have := h.ok _ hl
  refine ⟨k, hk, tb_some (Es fs 20) (T0 fs.length) k (by show k < (List.replicate _ _).length; rw [List.length_replicate]; exact hk) (.inr ⟨(fs[k], (k : Int)), mem_Es.mpr ⟨by show 1 ≤ fs[k]; omega, by show fs[k] < 1 + ((20 : Nat) : Int); omega, by show (0 : Int) ≤ k; omega, by show (k : Int) < fs.length; omega, hg⟩, rfl⟩)⟩
theorem toL_ok (m : R (List Int × Int)) : Eqq.ok (toL m) = true := by
  unfold toL
  split
  · rfl
  · show (PyData.strOk ("Truncated" : Str) && true) = true
    decide +kernel
  · show (PyData.strOk ("InvalidWord" : Str) && true) = true
    decide +kernel
  · rfl
theorem cut_len (xs : List Int) (a b : Nat) : (cut xs (some (a : Int)) (some (b : Int))).length ≤ b - a := by
  unfold cut
  rw [HT.sIx_nat, HT.sIx_nat, List.length_take]
  omega
/-- the whole behind the message -/
theorem rest_ok {fs : List Int} (h : Cd fs) (ns : List Int) (ms : List Int) (hm : Ms (wds fs) ms) (hl : ms.length ≤ 20) : finR (forR (S := Unit)
                          (fun (st_428 : List Int) symbol_429 =>
                            (idxR (wds fs) symbol_429).bind fun a =>
                              (getR a).bind fun a => (szR (st_428 ++ a)).bind fun bits_434 => R.ok (Fl.nx bits_434))
                          (fun st_428 =>
                            (f_write_symbols fs ms).pu.bind fun a =>
                              (eqR a st_428).bind fun a =>
                                (if a = false then R.ok true
                                    else (eqR ms ms).bind fun c => R.ok !c).bind
                                  fun c_443 =>
                                  if c_443 = true then R.ok (Fl.rt false)
                                  else
                                    (lcR (fun cell_here_420 => R.ok true) (fun a_451 => modR a_451 2)
                                          (cut ns (some 45) (some 49))).bind
                                      fun before_453 =>
                                      (lcR (fun cell_here_420 => R.ok true)
                                            (fun cell_here_459 => (divR cell_here_459 2).bind fun a_451 => modR a_451 2)
                                            (cut ns (some 45) (some 52))).bind
                                        fun behind_464 =>
                                        (szR (before_453 ++ st_428)).bind fun a =>
                                          (szR (a ++ behind_464)).bind fun whole_469 =>
                                            (f__law_told fs whole_469 (before_453.length : Int)
                                                    (ms.length : Int)).pu.bind
                                              fun found_477 =>
                                              (eqR found_477
                                                    ((Sum.inl ms, (before_453.length : Int) + (st_428.length : Int)) : (List Int ⊕ Str) × Int)).bind
                                                fun a =>
                                                (if a = false then R.ok true
                                                    else (eqR whole_469 whole_469).bind fun c => R.ok !c).bind
                                                  fun c_490 =>
                                                  if c_490 = true then R.ok (Fl.rt false)
                                                  else
                                                    (f__law_cell ⟨ns⟩ 52).pu.bind fun cell_here_494 =>
                                                      (modR cell_here_494 50).bind fun a =>
                                                        (rng1R a).bind fun a =>
                                                          (lcR (fun cell_here_420 => R.ok true)
                                                                (fun k_498 =>
                                                                  (shlR 1 k_498).bind fun a =>
                                                                    (divR cell_here_494 a).bind fun a_451 =>
                                                                      modR a_451 2)
                                                                a).bind
                                                            fun whole_505 =>
                                                            seqF
                                                              ((modR cell_here_494 2).bind fun a =>
                                                                if a = 1 then
                                                                  (divR cell_here_494 50).bind fun a =>
                                                                    (modR a ((st_428.length : Int) + 1)).bind fun a =>
                                                                      R.ok (Fl.nx (cut st_428 none (some a)))
                                                                else R.ok (Fl.nx whole_505))
                                                              fun st_523 =>
                                                              (divR cell_here_494 3).bind fun a =>
                                                                (modR a 3).bind fun a =>
                                                                  (f__law_cell ⟨ns⟩ 53).pu.bind fun a_2 =>
                                                                    (modR a_2 12).bind fun count_548 =>
                                                                      (f__law_told fs st_523
                                                                              (min (st_523.length : Int) a)
                                                                              count_548).pu.bind
                                                                        fun a_3 =>
                                                                        (f__law_read (wds fs) st_523
                                                                                (min (st_523.length : Int) a)
                                                                                count_548).pu.bind
                                                                          fun a =>
                                                                          (eqR a_3 a).bind fun a_444 =>
                                                                            R.ok (Fl.rt a_444))
                          ms []) = .ok true := by
  rw [cat_loop (wds fs) _ ms [] hm (by show 0 + _ ≤ _; omega), List.nil_append, write_eq h ms hm (by omega), R.ok_pu, R.ok_bind, eqR_eq, R.ok_bind, if_neg (by rw [decide_eq_true rfl]; decide), eqR_eq, R.ok_bind, decide_eq_true rfl, R.ok_bind, if_neg (by decide)]
  have c1 := cut_len ns 45 49
  have c2 := cut_len ns 45 52
  rw [show ((45 : Nat) : Int) = 45 from rfl, show ((49 : Nat) : Int) = 49 from rfl] at c1
  rw [show ((45 : Nat) : Int) = 45 from rfl, show ((52 : Nat) : Int) = 52 from rfl] at c2
  have cl := cat_len (wds fs) ms hm
  rw [lcR_map (fun a => a % 2) (by omega) fun x _ => modR_ok (by decide), R.ok_bind, lcR_map (fun a => a / 2 % 2) (by omega) fun x _ => by rw [divR_ok (by decide) (by decide), R.ok_bind, modR_ok (by decide)], R.ok_bind]
  generalize hbe : (cut ns (some 45) (some 49)).map (fun a => a % 2) = bef
  generalize hbh : (cut ns (some 45) (some 52)).map (fun a => a / 2 % 2) = beh
  have lb : bef.length ≤ 4 := by rw [← hbe, List.length_map]; omega
  have lh : beh.length ≤ 7 := by rw [← hbh, List.length_map]; omega
  rw [szR_ok (by rw [List.length_append]; omega), R.ok_bind, szR_ok (by simp only [List.length_append]; omega), R.ok_bind, told_eq h _ _ _ (by simp only [List.length_append]; omega) (by omega), R.ok_pu, R.ok_bind]
  have rd := rds_ok (wds fs) h.pf beh ms bef [] hm
  rw [← List.append_assoc, List.nil_append] at rd
  rw [rd]
  have e1 : toL (.ok (ms, ((bef.length + (cat (wds fs) ms).length : Nat) : Int))) = (Sum.inl ms, (bef.length : Int) + ((cat (wds fs) ms).length : Int)) := by
    show (Sum.inl ms, ((bef.length + (cat (wds fs) ms).length : Nat) : Int)) = _
    rw [Int.natCast_add]
  rw [e1, eqR_q _ _ rfl rfl, R.ok_bind, if_neg (by rw [decide_eq_true rfl]; decide), eqR_eq, R.ok_bind, decide_eq_true rfl, R.ok_bind, if_neg (by decide), cell_eq ns 52 (by decide), R.ok_pu, R.ok_bind]
  generalize ns.getD (52 : Int).toNat 0 = c52
  rw [modR_ok (by decide), R.ok_bind, rng1_ok (by omega) (by omega), R.ok_bind, lcR_map (fun j => c52 / 2 ^ j.toNat % 2) (by rw [seqI_len]; omega) fun x hx => by
      have hx := mem_seqI.mp hx
      have hp : (2 : Int) ^ x.toNat ≤ 2 ^ 50 := pw_le (by omega)
      rw [shlR_ok (by decide) (by omega), R.ok_bind, Int.one_mul, divR_ok (Int.pow_pos (by decide)) (by omega), R.ok_bind, modR_ok (by decide)], R.ok_bind, modR_ok (by decide), R.ok_bind]
  have hw : ∃ wh : List Int, (if c52 % 2 = 1 then
                                                                  (divR c52 50).bind fun a =>
                                                                    (modR a (((cat (wds fs) ms).length : Int) + 1)).bind fun a =>
                                                                      R.ok (Fl.nx (cut (cat (wds fs) ms) none (some a)))
                                                                else R.ok (Fl.nx ((seqI 0 (c52 % 50).toNat).map fun j => c52 / 2 ^ j.toNat % 2)) : R (Fl (List Int) Bool)) = .ok (.nx wh) ∧ wh.length ≤ 1000 := by
    by_cases c : c52 % 2 = 1
    · rw [if_pos c, divR_ok (by decide) (by decide), R.ok_bind, modR_ok (by omega), R.ok_bind]
      refine ⟨_, rfl, ?_⟩
      unfold cut
      rw [List.length_take, List.length_drop]
      omega
    · rw [if_neg c]
      exact ⟨_, rfl, by rw [List.length_map, seqI_len]; omega⟩
  obtain ⟨wh, ew, lw⟩ := hw
  rw [ew, seqF_nx, divR_ok (by decide) (by decide), R.ok_bind, modR_ok (by decide), R.ok_bind, cell_eq ns 53 (by decide), R.ok_pu, R.ok_bind]
  generalize ns.getD (53 : Int).toNat 0 = c53
  rw [modR_ok (by decide), R.ok_bind]
  have t1 := told_eq h wh (min (wh.length : Int) (c52 / 3 % 3)).toNat (c53 % 12).toNat (by omega) (by omega)
  have t2 := lread_eq h wh (by omega) (min (wh.length : Int) (c52 / 3 % 3)).toNat (c53 % 12).toNat (by omega) (by omega)
  rw [show (((min (wh.length : Int) (c52 / 3 % 3)).toNat : Nat) : Int) = min (wh.length : Int) (c52 / 3 % 3) by omega, show (((c53 % 12).toNat : Nat) : Int) = c53 % 12 by omega] at t1 t2
  rw [t1, t2, R.ok_pu, R.ok_bind, R.ok_bind, eqR_q _ _ (toL_ok _) (toL_ok _), R.ok_bind, decide_eq_true rfl, finR_rt]
theorem law_all : ∀ ns : List Int, ns.length ≤ 63 → f_law ⟨ns⟩ = .ok true := fun ns hn => by
  unfold f_law b_law
  simp only [R.ok_bind, R.ok_pu, R.er_bind, R.bad_bind, R.ok_map, finR_rt, seqF_nx, seqF_rt, R.bind_ok, R.bind_bind, decide_eq_true_eq, Bool.not_eq_true', decide_eq_false_iff_not, Bool.false_eq_true, if_true, if_false, ite_nx]
  rw [cell_eq ns 0 (by decide), R.ok_pu, R.ok_bind]
  generalize ns.getD (0 : Int).toNat 0 = c0
  rw [modR_ok (by decide), R.ok_bind]
  obtain ⟨m, hm⟩ : ∃ m : Nat, 1 + c0 % 24 = (m : Int) := ⟨(1 + c0 % 24).toNat, by omega⟩
  rw [hm]
  obtain ⟨ls, hl, hll, hlo⟩ := lengths_eq ns m (by omega)
  have hne : ls ≠ [] := fun z => by
    rw [z] at hll
    simp at hll
    omega
  obtain ⟨fs, hf, hfl, hfo, hfk, hpos⟩ := fitting_eq ls hlo (by omega) hne
  have h : Cd fs := ⟨hfo, by omega, hfk, hpos⟩
  have hwl := wds_len fs
  rw [hl, R.ok_pu, R.ok_bind, hf, R.ok_pu, R.ok_bind, law_words_eq fs hfo (by omega), R.ok_pu, R.ok_bind, rng1_nat (by omega), R.ok_bind]
  rw [lcR_ok (fun k => (dW (wds fs) k).isSome) (fun k => k) (by rw [seqI_len]; omega) (fun x hx => by
    have hx := mem_seqI.mp hx
    rw [idxR_dW hx.1 (by omega), R.ok_bind]) (fun x _ _ => rfl), R.ok_bind, List.map_id']
  generalize hpr : (seqI 0 m).filter (fun k => (dW (wds fs) k).isSome) = pr
  have hp : ∀ k ∈ pr, 0 ≤ k ∧ k < ((wds fs).length : Int) ∧ ∃ w, dW (wds fs) k = some w ∧ 1 ≤ w.length ∧ w.length ≤ 20 := fun k hk => by
    rw [← hpr] at hk
    obtain ⟨h1, h2⟩ := List.mem_filter.mp hk
    have h1 := mem_seqI.mp h1
    obtain ⟨w, hw⟩ := Option.isSome_iff_exists.mp h2
    obtain ⟨q1, q2, _⟩ := wds_word h (dW_some hw)
    exact ⟨h1.1, by omega, w, hw, q1, q2⟩
  have hp0 : 0 < pr.length := by
    obtain ⟨k, hk, w, hw⟩ := wds_some h
    refine List.length_pos_of_mem (a := (k : Int)) ?_
    rw [← hpr]
    refine List.mem_filter.mpr ⟨mem_seqI.mpr (by omega), ?_⟩
    unfold dW
    rw [show ((k : Int)).toNat = k by omega, hw]
    rfl
  have c1 := cut_len ns 25 45
  rw [show ((25 : Nat) : Int) = 25 from rfl, show ((45 : Nat) : Int) = 45 from rfl] at c1
  have hpl : pr.length ≤ m := by
    rw [← hpr]
    exact Nat.le_trans (List.length_filter_le _ _) (by rw [seqI_len]; exact Nat.le_refl _)
  rw [lcR_map (fun c => gW pr (c % (pr.length : Int))) (by omega) fun x _ => by
    have h1 := Int.emod_nonneg x (show (pr.length : Int) ≠ 0 by omega)
    have h2 := Int.emod_lt_of_pos x (show (0 : Int) < pr.length by omega)
    rw [modR_ok (by omega), R.ok_bind, idxR_gW h1 h2], R.ok_bind, szR_nil, R.ok_bind]
  refine rest_ok h ns _ (fun k hk => ?_) (by rw [List.length_map]; omega)
  obtain ⟨c, _, rfl⟩ := List.mem_map.mp hk
  have h1 := Int.emod_nonneg c (show (pr.length : Int) ≠ 0 by omega)
  have h2 := Int.emod_lt_of_pos c (show (0 : Int) < pr.length by omega)
  have e := idxR_gW (ws := pr) h1 h2
  rw [idxR_ok h1 h2] at e
  rw [← R.ok.inj e]
  exact hp _ (List.getElem_mem _)
end Kx

namespace Kx
open PySem PySem.Spec PyProof.Rows L2 Kr
open Enc (toD)
abbrev s_KraftroomError_init : Stmt := inClass (topS 1) 0
abbrev s_Truncated_init : Stmt := inClass (topS 2) 0
abbrev s_InvalidWord_init : Stmt := inClass (topS 3) 0
def cfE (K : PySem.W.Frag) (cls : Nat → Addr) : Cf := ⟨K, cls, fun c => if c = 0 then "Truncated" else "InvalidWord"⟩
def cfK (K : PySem.W.Frag) : Cf := ⟨K, fun _ => 0, fun _ => ""⟩
theorem all_mk {l : PySem.W.OpenLaw} {w : World} {K : PySem.W.Frag} {h : Heap} {mg : Str → Option Value} {fa : Addr} (X : K.In h) (G : h.Ns mainGlobals mg) (hfa : mg "law" = some (.ref fa))
    {ad_field_bits : Addr} {od_field_bits an_field_bits : Option Addr} {sl_field_bits : Array (Option Value)} {oc_field_bits kV_field_bits dc_field_bits pm_field_bits cd_field_bits ct_field_bits : Value}
    (a_field_bits : PySem.W.nsIn K mainGlobals "field_bits" = some (some (.ref ad_field_bits)))
    (l_field_bits : K.lookup ad_field_bits = some ⟨oc_field_bits, od_field_bits, .func (PySem.W.fnOf "field_bits" "field_bits" (defArgs s_field_bits) (defBody s_field_bits) (defScope s_field_bits) .none kV_field_bits dc_field_bits pm_field_bits an_field_bits cd_field_bits ct_field_bits), sl_field_bits⟩)
    (c_field_bits : PySem.W.codeIn K cd_field_bits "field_bits" = true) (k_field_bits : PySem.W.keepIn K (.ref ad_field_bits) = true)
    {ad_words : Addr} {od_words an_words : Option Addr} {sl_words : Array (Option Value)} {oc_words kV_words dc_words pm_words cd_words ct_words : Value}
    (a_words : PySem.W.nsIn K mainGlobals "words" = some (some (.ref ad_words)))
    (l_words : K.lookup ad_words = some ⟨oc_words, od_words, .func (PySem.W.fnOf "words" "words" (defArgs s_words) (defBody s_words) (defScope s_words) .none kV_words dc_words pm_words an_words cd_words ct_words), sl_words⟩)
    (c_words : PySem.W.codeIn K cd_words "words" = true) (k_words : PySem.W.keepIn K (.ref ad_words) = true)
    {ad_write_symbols : Addr} {od_write_symbols an_write_symbols : Option Addr} {sl_write_symbols : Array (Option Value)} {oc_write_symbols kV_write_symbols dc_write_symbols pm_write_symbols cd_write_symbols ct_write_symbols : Value}
    (a_write_symbols : PySem.W.nsIn K mainGlobals "write_symbols" = some (some (.ref ad_write_symbols)))
    (l_write_symbols : K.lookup ad_write_symbols = some ⟨oc_write_symbols, od_write_symbols, .func (PySem.W.fnOf "write_symbols" "write_symbols" (defArgs s_write_symbols) (defBody s_write_symbols) (defScope s_write_symbols) .none kV_write_symbols dc_write_symbols pm_write_symbols an_write_symbols cd_write_symbols ct_write_symbols), sl_write_symbols⟩)
    (c_write_symbols : PySem.W.codeIn K cd_write_symbols "write_symbols" = true) (k_write_symbols : PySem.W.keepIn K (.ref ad_write_symbols) = true)
    {ad_read_word : Addr} {od_read_word an_read_word : Option Addr} {sl_read_word : Array (Option Value)} {oc_read_word kV_read_word dc_read_word pm_read_word cd_read_word ct_read_word : Value}
    (a_read_word : PySem.W.nsIn K mainGlobals "read_word" = some (some (.ref ad_read_word)))
    (l_read_word : K.lookup ad_read_word = some ⟨oc_read_word, od_read_word, .func (PySem.W.fnOf "read_word" "read_word" (defArgs s_read_word) (defBody s_read_word) (defScope s_read_word) .none kV_read_word dc_read_word pm_read_word an_read_word cd_read_word ct_read_word), sl_read_word⟩)
    (c_read_word : PySem.W.codeIn K cd_read_word "read_word" = true) (k_read_word : PySem.W.keepIn K (.ref ad_read_word) = true)
    {ad_read_symbols : Addr} {od_read_symbols an_read_symbols : Option Addr} {sl_read_symbols : Array (Option Value)} {oc_read_symbols kV_read_symbols dc_read_symbols pm_read_symbols cd_read_symbols ct_read_symbols : Value}
    (a_read_symbols : PySem.W.nsIn K mainGlobals "read_symbols" = some (some (.ref ad_read_symbols)))
    (l_read_symbols : K.lookup ad_read_symbols = some ⟨oc_read_symbols, od_read_symbols, .func (PySem.W.fnOf "read_symbols" "read_symbols" (defArgs s_read_symbols) (defBody s_read_symbols) (defScope s_read_symbols) .none kV_read_symbols dc_read_symbols pm_read_symbols an_read_symbols cd_read_symbols ct_read_symbols), sl_read_symbols⟩)
    (c_read_symbols : PySem.W.codeIn K cd_read_symbols "read_symbols" = true) (k_read_symbols : PySem.W.keepIn K (.ref ad_read_symbols) = true)
    {ad__law_cell : Addr} {od__law_cell an__law_cell : Option Addr} {sl__law_cell : Array (Option Value)} {oc__law_cell kV__law_cell dc__law_cell pm__law_cell cd__law_cell ct__law_cell : Value}
    (a__law_cell : PySem.W.nsIn K mainGlobals "_law_cell" = some (some (.ref ad__law_cell)))
    (l__law_cell : K.lookup ad__law_cell = some ⟨oc__law_cell, od__law_cell, .func (PySem.W.fnOf "_law_cell" "_law_cell" (defArgs s__law_cell) (defBody s__law_cell) (defScope s__law_cell) .none kV__law_cell dc__law_cell pm__law_cell an__law_cell cd__law_cell ct__law_cell), sl__law_cell⟩)
    (c__law_cell : PySem.W.codeIn K cd__law_cell "_law_cell" = true) (k__law_cell : PySem.W.keepIn K (.ref ad__law_cell) = true)
    {ad__law_lengths : Addr} {od__law_lengths an__law_lengths : Option Addr} {sl__law_lengths : Array (Option Value)} {oc__law_lengths kV__law_lengths dc__law_lengths pm__law_lengths cd__law_lengths ct__law_lengths : Value}
    (a__law_lengths : PySem.W.nsIn K mainGlobals "_law_lengths" = some (some (.ref ad__law_lengths)))
    (l__law_lengths : K.lookup ad__law_lengths = some ⟨oc__law_lengths, od__law_lengths, .func (PySem.W.fnOf "_law_lengths" "_law_lengths" (defArgs s__law_lengths) (defBody s__law_lengths) (defScope s__law_lengths) .none kV__law_lengths dc__law_lengths pm__law_lengths an__law_lengths cd__law_lengths ct__law_lengths), sl__law_lengths⟩)
    (c__law_lengths : PySem.W.codeIn K cd__law_lengths "_law_lengths" = true) (k__law_lengths : PySem.W.keepIn K (.ref ad__law_lengths) = true)
    {ad__law_fitting : Addr} {od__law_fitting an__law_fitting : Option Addr} {sl__law_fitting : Array (Option Value)} {oc__law_fitting kV__law_fitting dc__law_fitting pm__law_fitting cd__law_fitting ct__law_fitting : Value}
    (a__law_fitting : PySem.W.nsIn K mainGlobals "_law_fitting" = some (some (.ref ad__law_fitting)))
    (l__law_fitting : K.lookup ad__law_fitting = some ⟨oc__law_fitting, od__law_fitting, .func (PySem.W.fnOf "_law_fitting" "_law_fitting" (defArgs s__law_fitting) (defBody s__law_fitting) (defScope s__law_fitting) .none kV__law_fitting dc__law_fitting pm__law_fitting an__law_fitting cd__law_fitting ct__law_fitting), sl__law_fitting⟩)
    (c__law_fitting : PySem.W.codeIn K cd__law_fitting "_law_fitting" = true) (k__law_fitting : PySem.W.keepIn K (.ref ad__law_fitting) = true)
    {ad__law_words : Addr} {od__law_words an__law_words : Option Addr} {sl__law_words : Array (Option Value)} {oc__law_words kV__law_words dc__law_words pm__law_words cd__law_words ct__law_words : Value}
    (a__law_words : PySem.W.nsIn K mainGlobals "_law_words" = some (some (.ref ad__law_words)))
    (l__law_words : K.lookup ad__law_words = some ⟨oc__law_words, od__law_words, .func (PySem.W.fnOf "_law_words" "_law_words" (defArgs s__law_words) (defBody s__law_words) (defScope s__law_words) .none kV__law_words dc__law_words pm__law_words an__law_words cd__law_words ct__law_words), sl__law_words⟩)
    (c__law_words : PySem.W.codeIn K cd__law_words "_law_words" = true) (k__law_words : PySem.W.keepIn K (.ref ad__law_words) = true)
    {ad__law_read : Addr} {od__law_read an__law_read : Option Addr} {sl__law_read : Array (Option Value)} {oc__law_read kV__law_read dc__law_read pm__law_read cd__law_read ct__law_read : Value}
    (a__law_read : PySem.W.nsIn K mainGlobals "_law_read" = some (some (.ref ad__law_read)))
    (l__law_read : K.lookup ad__law_read = some ⟨oc__law_read, od__law_read, .func (PySem.W.fnOf "_law_read" "_law_read" (defArgs s__law_read) (defBody s__law_read) (defScope s__law_read) .none kV__law_read dc__law_read pm__law_read an__law_read cd__law_read ct__law_read), sl__law_read⟩)
    (c__law_read : PySem.W.codeIn K cd__law_read "_law_read" = true) (k__law_read : PySem.W.keepIn K (.ref ad__law_read) = true)
    {ad__law_told : Addr} {od__law_told an__law_told : Option Addr} {sl__law_told : Array (Option Value)} {oc__law_told kV__law_told dc__law_told pm__law_told cd__law_told ct__law_told : Value}
    (a__law_told : PySem.W.nsIn K mainGlobals "_law_told" = some (some (.ref ad__law_told)))
    (l__law_told : K.lookup ad__law_told = some ⟨oc__law_told, od__law_told, .func (PySem.W.fnOf "_law_told" "_law_told" (defArgs s__law_told) (defBody s__law_told) (defScope s__law_told) .none kV__law_told dc__law_told pm__law_told an__law_told cd__law_told ct__law_told), sl__law_told⟩)
    (c__law_told : PySem.W.codeIn K cd__law_told "_law_told" = true) (k__law_told : PySem.W.keepIn K (.ref ad__law_told) = true)
    {ad_law : Addr} {od_law an_law : Option Addr} {sl_law : Array (Option Value)} {oc_law kV_law dc_law pm_law cd_law ct_law : Value}
    (a_law : PySem.W.nsIn K mainGlobals "law" = some (some (.ref ad_law)))
    (l_law : K.lookup ad_law = some ⟨oc_law, od_law, .func (PySem.W.fnOf "law" "law" (defArgs s_law) (defBody s_law) (defScope s_law) .none kV_law dc_law pm_law an_law cd_law ct_law), sl_law⟩)
    (c_law : PySem.W.codeIn K cd_law "law" = true) (k_law : PySem.W.keepIn K (.ref ad_law) = true)
    (z_any : PySem.W.nsIn K mainGlobals "any" = some none)
    (z_enumerate : PySem.W.nsIn K mainGlobals "enumerate" = some none)
    (z_int : PySem.W.nsIn K mainGlobals "int" = some none)
    (z_len : PySem.W.nsIn K mainGlobals "len" = some none)
    (z_list : PySem.W.nsIn K mainGlobals "list" = some none)
    (z_max : PySem.W.nsIn K mainGlobals "max" = some none)
    (z_min : PySem.W.nsIn K mainGlobals "min" = some none)
    (z_range : PySem.W.nsIn K mainGlobals "range" = some none)
    (z_sorted : PySem.W.nsIn K mainGlobals "sorted" = some none)
    (tp : (l.prog.main.scope.names.lookup ("super" : Str)).isSome = false) (z_super : PySem.W.nsIn K mainGlobals "super" = some none) (th : PySem.W.nsIn K PySem.cStatics "thirdparty.any" = some none)
    {tKB : Addr} {fKB cKB DKB : Addr} {ocKB kVKB dcKB pmKB ctKB clKB cclKB : Value} {odKB anKB cldKB cddKB : Option Addr} {oslKB cslKB ccsKB : Array (Option Value)} {vsKB : Array Value} {fileKB : Str} {tfKB : Tok} {cdaKB : Addr} {cdKB : ClassData}
    (lKB : K.lookup fKB = some ⟨ocKB, odKB, .func (PySem.W.ksFn "__init__" "KraftroomError.__init__" (defArgs s_KraftroomError_init) (defBody s_KraftroomError_init) (defScope s_KraftroomError_init) (.ref tKB) kVKB dcKB pmKB anKB (.ref cdaKB) ctKB cKB), oslKB⟩)
    (kKB : PySem.W.codeIn K (.ref cdaKB) "KraftroomError.__init__" = true) (ccKB : K.lookup cKB = some ⟨clKB, cldKB, .cell (some (.ref DKB)), cslKB⟩) (coKB : K.lookup cdaKB = some ⟨cclKB, cddKB, .fields vsKB, ccsKB⟩) (vfKB : vsKB[2]? = some (.str fileKB tfKB)) (flKB : ((l.prog.main.file : Str) == fileKB) = true)
    (cDKB : PySem.W.clsIn K DKB = some cdKB) (tyKB : PySem.W.typeIn K (.ref fKB) = some (.type "function")) (fnKB : PySem.W.fnIn K fKB = true)
    {tcKB tvKB : Value} {tdKB : Option Addr} {tnKB : Nat} {tsKB : Array (Option Value)} (tlKB : K.lookup tKB = some ⟨tcKB, tdKB, .seq #[tvKB] tnKB, tsKB⟩)
    {fE0 cE0 DE0 : Addr} {ocE0 kVE0 dcE0 pmE0 ctE0 clE0 cclE0 : Value} {odE0 anE0 cldE0 cddE0 : Option Addr} {oslE0 cslE0 ccsE0 : Array (Option Value)} {vsE0 : Array Value} {fileE0 : Str} {tfE0 : Tok} {cdaE0 : Addr} {cdE0 : ClassData}
    (lE0 : K.lookup fE0 = some ⟨ocE0, odE0, .func (PySem.W.ksFn "__init__" "Truncated.__init__" (defArgs s_Truncated_init) (defBody s_Truncated_init) (defScope s_Truncated_init) .none kVE0 dcE0 pmE0 anE0 (.ref cdaE0) ctE0 cE0), oslE0⟩)
    (kE0 : PySem.W.codeIn K (.ref cdaE0) "Truncated.__init__" = true) (ccE0 : K.lookup cE0 = some ⟨clE0, cldE0, .cell (some (.ref DE0)), cslE0⟩) (coE0 : K.lookup cdaE0 = some ⟨cclE0, cddE0, .fields vsE0, ccsE0⟩) (vfE0 : vsE0[2]? = some (.str fileE0 tfE0)) (flE0 : ((l.prog.main.file : Str) == fileE0) = true)
    (cDE0 : PySem.W.clsIn K DE0 = some cdE0) (tyE0 : PySem.W.typeIn K (.ref fE0) = some (.type "function")) (fnE0 : PySem.W.fnIn K fE0 = true)
    {nmE0 qE0 : Str} {NE0 : Addr} {bsE0 bmE0 : List Value} {snE0 : List Str} {subE0 : List Value} {abE0 : Bool} {colE0 : Option Bool} {ddE0 : Option Addr} {k0E0 k1E0 k2E0 k3E0 k5E0 : Option Value}
    (gE0 : PySem.W.nsIn K mainGlobals "Truncated" = some (some (.ref DE0))) (oE0 : K.lookup DE0 = some (excClassObj nmE0 qE0 DE0 NE0 bsE0 bmE0 true snE0 subE0 abE0 colE0 ddE0 k0E0 k1E0 k2E0 k3E0 k5E0 "ValueError.__new__")) (rE0 : PySem.HandSPX.refsVE bmE0 = true)
    (saE0 : PySem.W.findIn K (.ref DE0) "__setattr__" = some (some (.builtin "object.__setattr__"))) (exE0 : PySem.W.subIn K (.ref DE0) (.type "BaseException") = some true) (tcE0 : PySem.W.typeIn K (.ref DE0) = some (.type "type")) (kcE0 : PySem.W.keepIn K (.ref DE0) = true) (veE0 : PySem.W.subIn K (.ref DE0) (.type "ValueError") = some true)
    (npE0 : PySem.W.findIn K (.ref DE0) "place" = some none) (nnE0 : PySem.W.findIn K (.ref DE0) "name" = some none) (icE0 : PySem.W.findIn K (.ref DE0) "__init__" = some (some (.ref fE0))) (m1E0 : PySem.W.mroIn K DE0 (.ref DE0) = some true) (m2E0 : PySem.W.mroIn K DE0 (.ref DKB) = some true) (suE0 : PySem.W.ks_superIn K DE0 DE0 "__init__" = some (some (.ref fKB))) (svE0 : PySem.W.ks_superIn K DE0 DKB "__init__" = some (some (.builtin "ValueError.__init__")))
    {fE1 cE1 DE1 : Addr} {ocE1 kVE1 dcE1 pmE1 ctE1 clE1 cclE1 : Value} {odE1 anE1 cldE1 cddE1 : Option Addr} {oslE1 cslE1 ccsE1 : Array (Option Value)} {vsE1 : Array Value} {fileE1 : Str} {tfE1 : Tok} {cdaE1 : Addr} {cdE1 : ClassData}
    (lE1 : K.lookup fE1 = some ⟨ocE1, odE1, .func (PySem.W.ksFn "__init__" "InvalidWord.__init__" (defArgs s_InvalidWord_init) (defBody s_InvalidWord_init) (defScope s_InvalidWord_init) .none kVE1 dcE1 pmE1 anE1 (.ref cdaE1) ctE1 cE1), oslE1⟩)
    (kE1 : PySem.W.codeIn K (.ref cdaE1) "InvalidWord.__init__" = true) (ccE1 : K.lookup cE1 = some ⟨clE1, cldE1, .cell (some (.ref DE1)), cslE1⟩) (coE1 : K.lookup cdaE1 = some ⟨cclE1, cddE1, .fields vsE1, ccsE1⟩) (vfE1 : vsE1[2]? = some (.str fileE1 tfE1)) (flE1 : ((l.prog.main.file : Str) == fileE1) = true)
    (cDE1 : PySem.W.clsIn K DE1 = some cdE1) (tyE1 : PySem.W.typeIn K (.ref fE1) = some (.type "function")) (fnE1 : PySem.W.fnIn K fE1 = true)
    {nmE1 qE1 : Str} {NE1 : Addr} {bsE1 bmE1 : List Value} {snE1 : List Str} {subE1 : List Value} {abE1 : Bool} {colE1 : Option Bool} {ddE1 : Option Addr} {k0E1 k1E1 k2E1 k3E1 k5E1 : Option Value}
    (gE1 : PySem.W.nsIn K mainGlobals "InvalidWord" = some (some (.ref DE1))) (oE1 : K.lookup DE1 = some (excClassObj nmE1 qE1 DE1 NE1 bsE1 bmE1 true snE1 subE1 abE1 colE1 ddE1 k0E1 k1E1 k2E1 k3E1 k5E1 "ValueError.__new__")) (rE1 : PySem.HandSPX.refsVE bmE1 = true)
    (saE1 : PySem.W.findIn K (.ref DE1) "__setattr__" = some (some (.builtin "object.__setattr__"))) (exE1 : PySem.W.subIn K (.ref DE1) (.type "BaseException") = some true) (tcE1 : PySem.W.typeIn K (.ref DE1) = some (.type "type")) (kcE1 : PySem.W.keepIn K (.ref DE1) = true) (veE1 : PySem.W.subIn K (.ref DE1) (.type "ValueError") = some true)
    (npE1 : PySem.W.findIn K (.ref DE1) "place" = some none) (nnE1 : PySem.W.findIn K (.ref DE1) "name" = some none) (icE1 : PySem.W.findIn K (.ref DE1) "__init__" = some (some (.ref fE1))) (m1E1 : PySem.W.mroIn K DE1 (.ref DE1) = some true) (m2E1 : PySem.W.mroIn K DE1 (.ref DKB) = some true) (suE1 : PySem.W.ks_superIn K DE1 DE1 "__init__" = some (some (.ref fKB))) (svE1 : PySem.W.ks_superIn K DE1 DKB "__init__" = some (some (.builtin "ValueError.__init__")))
    (gaE0 : PySem.W.findIn K (.ref DE0) "__getattribute__" = some (some (.builtin "BaseException.__getattribute__"))) (ggE0 : PySem.W.findIn K (.ref DE0) "__getattr__" = some none) (hdE0 : PySem.W.hasDictIn K DE0 = true)
    (emE0E0 : PySem.W.exmOne K (.ref DE0) (.ref DE0) = some true)
    (emE0E1 : PySem.W.exmOne K (.ref DE0) (.ref DE1) = some false)
    (gaE1 : PySem.W.findIn K (.ref DE1) "__getattribute__" = some (some (.builtin "BaseException.__getattribute__"))) (ggE1 : PySem.W.findIn K (.ref DE1) "__getattr__" = some none) (hdE1 : PySem.W.hasDictIn K DE1 = true)
    (emE1E0 : PySem.W.exmOne K (.ref DE1) (.ref DE0) = some false)
    (emE1E1 : PySem.W.exmOne K (.ref DE1) (.ref DE1) = some true)
    : ∃ fd : FuncData, (∀ (s : Shared) (v : Value), BindsTo s fd ⟨[v], []⟩ [("_law_script", v)]) ∧
      ∀ base : Heap, K.In base → base.Ns mainGlobals mg → FnOk l.prog w K mg base CX0 7 fa fd ["_law_script"] (SpP (cfK K) 1 (sp1 f_law)) := by
  have e := hfa.symm.trans (PySem.W.mg_of X G a_law)
  cases e
  refine ⟨PySem.W.fnOf "law" "law" (defArgs s_law) (defBody s_law) (defScope s_law) .none kV_law dc_law pm_law an_law cd_law ct_law, fun s v => .of_eq rfl, fun base _ _ => ?_⟩
  have hs := PySem.W.mg_none_of X G z_super
  have okKB : FnOk l.prog w K mg base CX0 1 fKB _ ["self", "place", "name"] (SpI K l.prog fKB cdaKB cKB DKB) := ok_kinit lKB kKB ccKB (NdefX.nscope_by (by decide +kernel)) (by decide +kernel) hs th rfl (fun env => rfl)
  have bdKB : Binds K (PySem.W.ksFn "__init__" "KraftroomError.__init__" (defArgs s_KraftroomError_init) (defBody s_KraftroomError_init) (defScope s_KraftroomError_init) (.ref tKB) kVKB dcKB pmKB anKB (.ref cdaKB) ctKB cKB) ["self", "place", "name"] [] := fun s us Y hl => match us, hl with
    | [u0, u1, u2], _ => BindsTo.of_looks fun M => by
      obtain ⟨k, q1, q2⟩ : ∃ k, bindArgs (PySem.W.ksFn "__init__" "KraftroomError.__init__" (defArgs s_KraftroomError_init) (defBody s_KraftroomError_init) (defScope s_KraftroomError_init) (.ref tKB) kVKB dcKB pmKB anKB (.ref cdaKB) ctKB cKB) ⟨[u0, u1, u2], []⟩ = seqItems? (.ref tKB) >>= k ∧ k (some #[tvKB]) = pure ([("self", u0), ("place", u1), ("name", u2)] : List (Str × Value)) := ⟨_, rfl, rfl⟩
      rw [q1]
      exact looks_items Y tlKB rfl (.of_pure q2)
  have oeE0 : OexC K DE0 := ⟨⟨nmE0, qE0, NE0, bsE0, bmE0, snE0, subE0, abE0, colE0, ddE0, k0E0, k1E0, k2E0, k3E0, k5E0, oE0, rE0⟩, saE0, exE0, tcE0, kcE0⟩
  have keE0 : KErr K l.prog fKB cdaKB cKB DKB DE0 := ⟨oeE0, ⟨⟨_, _, _, _, _, lKB, rfl, rfl⟩, ⟨_, _, _, _, _, _, coKB, vfKB, flKB⟩, ⟨_, _, _, ccKB⟩, ⟨_, cDKB⟩, m2E0, tp⟩, svE0, veE0, npE0, nnE0⟩
  have okE0 : FnOk l.prog w K mg base CX0 2 fE0 _ ["self", "place"] (SpE DE0 "Truncated") := ok_tinit lE0 kE0 ccE0 (NdefX.nscope_by (by decide +kernel)) (by decide +kernel) hs th ⟨⟨_, _, _, _, _, lE0, rfl, rfl⟩, ⟨_, _, _, _, _, _, coE0, vfE0, flE0⟩, ⟨_, _, _, ccE0⟩, ⟨_, cDE0⟩, m1E0, tp⟩ keE0 suE0 tyKB fnKB okKB bdKB rfl (fun env => rfl)
  have bdE0 : Binds K (PySem.W.ksFn "__init__" "Truncated.__init__" (defArgs s_Truncated_init) (defBody s_Truncated_init) (defScope s_Truncated_init) .none kVE0 dcE0 pmE0 anE0 (.ref cdaE0) ctE0 cE0) ["self", "place"] [] := .all fun us hl => match us, hl with | [_, _], _ => rfl
  have oeE1 : OexC K DE1 := ⟨⟨nmE1, qE1, NE1, bsE1, bmE1, snE1, subE1, abE1, colE1, ddE1, k0E1, k1E1, k2E1, k3E1, k5E1, oE1, rE1⟩, saE1, exE1, tcE1, kcE1⟩
  have keE1 : KErr K l.prog fKB cdaKB cKB DKB DE1 := ⟨oeE1, ⟨⟨_, _, _, _, _, lKB, rfl, rfl⟩, ⟨_, _, _, _, _, _, coKB, vfKB, flKB⟩, ⟨_, _, _, ccKB⟩, ⟨_, cDKB⟩, m2E1, tp⟩, svE1, veE1, npE1, nnE1⟩
  have okE1 : FnOk l.prog w K mg base CX0 2 fE1 _ ["self", "place"] (SpE DE1 "InvalidWord") := ok_tinit lE1 kE1 ccE1 (NdefX.nscope_by (by decide +kernel)) (by decide +kernel) hs th ⟨⟨_, _, _, _, _, lE1, rfl, rfl⟩, ⟨_, _, _, _, _, _, coE1, vfE1, flE1⟩, ⟨_, _, _, ccE1⟩, ⟨_, cDE1⟩, m1E1, tp⟩ keE1 suE1 tyKB fnKB okKB bdKB rfl (fun env => rfl)
  have bdE1 : Binds K (PySem.W.ksFn "__init__" "InvalidWord.__init__" (defArgs s_InvalidWord_init) (defBody s_InvalidWord_init) (defScope s_InvalidWord_init) .none kVE1 dcE1 pmE1 anE1 (.ref cdaE1) ctE1 cE1) ["self", "place"] [] := .all fun us hl => match us, hl with | [_, _], _ => rfl
  let T : Txt l.prog w (cfE K (fun c => if c = 0 then DE0 else DE1)) mg base := {
    a_field_bits := ad_field_bits
    d_field_bits := PySem.W.fnOf "field_bits" "field_bits" (defArgs s_field_bits) (defBody s_field_bits) (defScope s_field_bits) .none kV_field_bits dc_field_bits pm_field_bits an_field_bits cd_field_bits ct_field_bits
    F_field_bits := fun_mk (st := s_field_bits) l_field_bits c_field_bits k_field_bits
    b_field_bits := (fun_mk (st := s_field_bits) l_field_bits c_field_bits k_field_bits).binds (ps := ["width", "value"]) fun _ _ _ _ _ _ us hl => match us, hl with | [_, _], _ => rfl
    g_field_bits := PySem.W.mg_of X G a_field_bits
    a_words := ad_words
    d_words := PySem.W.fnOf "words" "words" (defArgs s_words) (defBody s_words) (defScope s_words) .none kV_words dc_words pm_words an_words cd_words ct_words
    F_words := fun_mk (st := s_words) l_words c_words k_words
    b_words := (fun_mk (st := s_words) l_words c_words k_words).binds (ps := ["lengths"]) fun _ _ _ _ _ _ us hl => match us, hl with | [_], _ => rfl
    g_words := PySem.W.mg_of X G a_words
    a_write_symbols := ad_write_symbols
    d_write_symbols := PySem.W.fnOf "write_symbols" "write_symbols" (defArgs s_write_symbols) (defBody s_write_symbols) (defScope s_write_symbols) .none kV_write_symbols dc_write_symbols pm_write_symbols an_write_symbols cd_write_symbols ct_write_symbols
    F_write_symbols := fun_mk (st := s_write_symbols) l_write_symbols c_write_symbols k_write_symbols
    b_write_symbols := (fun_mk (st := s_write_symbols) l_write_symbols c_write_symbols k_write_symbols).binds (ps := ["lengths", "message"]) fun _ _ _ _ _ _ us hl => match us, hl with | [_, _], _ => rfl
    g_write_symbols := PySem.W.mg_of X G a_write_symbols
    a_read_word := ad_read_word
    d_read_word := PySem.W.fnOf "read_word" "read_word" (defArgs s_read_word) (defBody s_read_word) (defScope s_read_word) .none kV_read_word dc_read_word pm_read_word an_read_word cd_read_word ct_read_word
    F_read_word := fun_mk (st := s_read_word) l_read_word c_read_word k_read_word
    b_read_word := (fun_mk (st := s_read_word) l_read_word c_read_word k_read_word).binds (ps := ["table", "longest", "bits", "at"]) fun _ _ _ _ _ _ us hl => match us, hl with | [_, _, _, _], _ => rfl
    g_read_word := PySem.W.mg_of X G a_read_word
    a_read_symbols := ad_read_symbols
    d_read_symbols := PySem.W.fnOf "read_symbols" "read_symbols" (defArgs s_read_symbols) (defBody s_read_symbols) (defScope s_read_symbols) .none kV_read_symbols dc_read_symbols pm_read_symbols an_read_symbols cd_read_symbols ct_read_symbols
    F_read_symbols := fun_mk (st := s_read_symbols) l_read_symbols c_read_symbols k_read_symbols
    b_read_symbols := (fun_mk (st := s_read_symbols) l_read_symbols c_read_symbols k_read_symbols).binds (ps := ["lengths", "bits", "at", "count"]) fun _ _ _ _ _ _ us hl => match us, hl with | [_, _, _, _], _ => rfl
    g_read_symbols := PySem.W.mg_of X G a_read_symbols
    a__law_cell := ad__law_cell
    d__law_cell := PySem.W.fnOf "_law_cell" "_law_cell" (defArgs s__law_cell) (defBody s__law_cell) (defScope s__law_cell) .none kV__law_cell dc__law_cell pm__law_cell an__law_cell cd__law_cell ct__law_cell
    F__law_cell := fun_mk (st := s__law_cell) l__law_cell c__law_cell k__law_cell
    b__law_cell := (fun_mk (st := s__law_cell) l__law_cell c__law_cell k__law_cell).binds (ps := ["_law_script", "_law_k"]) fun _ _ _ _ _ _ us hl => match us, hl with | [_, _], _ => rfl
    g__law_cell := PySem.W.mg_of X G a__law_cell
    a__law_lengths := ad__law_lengths
    d__law_lengths := PySem.W.fnOf "_law_lengths" "_law_lengths" (defArgs s__law_lengths) (defBody s__law_lengths) (defScope s__law_lengths) .none kV__law_lengths dc__law_lengths pm__law_lengths an__law_lengths cd__law_lengths ct__law_lengths
    F__law_lengths := fun_mk (st := s__law_lengths) l__law_lengths c__law_lengths k__law_lengths
    b__law_lengths := (fun_mk (st := s__law_lengths) l__law_lengths c__law_lengths k__law_lengths).binds (ps := ["_law_script", "_law_first", "_law_many"]) fun _ _ _ _ _ _ us hl => match us, hl with | [_, _, _], _ => rfl
    g__law_lengths := PySem.W.mg_of X G a__law_lengths
    a__law_fitting := ad__law_fitting
    d__law_fitting := PySem.W.fnOf "_law_fitting" "_law_fitting" (defArgs s__law_fitting) (defBody s__law_fitting) (defScope s__law_fitting) .none kV__law_fitting dc__law_fitting pm__law_fitting an__law_fitting cd__law_fitting ct__law_fitting
    F__law_fitting := fun_mk (st := s__law_fitting) l__law_fitting c__law_fitting k__law_fitting
    b__law_fitting := (fun_mk (st := s__law_fitting) l__law_fitting c__law_fitting k__law_fitting).binds (ps := ["_law_lengths_here"]) fun _ _ _ _ _ _ us hl => match us, hl with | [_], _ => rfl
    g__law_fitting := PySem.W.mg_of X G a__law_fitting
    a__law_words := ad__law_words
    d__law_words := PySem.W.fnOf "_law_words" "_law_words" (defArgs s__law_words) (defBody s__law_words) (defScope s__law_words) .none kV__law_words dc__law_words pm__law_words an__law_words cd__law_words ct__law_words
    F__law_words := fun_mk (st := s__law_words) l__law_words c__law_words k__law_words
    b__law_words := (fun_mk (st := s__law_words) l__law_words c__law_words k__law_words).binds (ps := ["_law_lengths_here"]) fun _ _ _ _ _ _ us hl => match us, hl with | [_], _ => rfl
    g__law_words := PySem.W.mg_of X G a__law_words
    a__law_read := ad__law_read
    d__law_read := PySem.W.fnOf "_law_read" "_law_read" (defArgs s__law_read) (defBody s__law_read) (defScope s__law_read) .none kV__law_read dc__law_read pm__law_read an__law_read cd__law_read ct__law_read
    F__law_read := fun_mk (st := s__law_read) l__law_read c__law_read k__law_read
    b__law_read := (fun_mk (st := s__law_read) l__law_read c__law_read k__law_read).binds (ps := ["_law_table", "_law_bits", "_law_at", "_law_count"]) fun _ _ _ _ _ _ us hl => match us, hl with | [_, _, _, _], _ => rfl
    g__law_read := PySem.W.mg_of X G a__law_read
    a__law_told := ad__law_told
    d__law_told := PySem.W.fnOf "_law_told" "_law_told" (defArgs s__law_told) (defBody s__law_told) (defScope s__law_told) .none kV__law_told dc__law_told pm__law_told an__law_told cd__law_told ct__law_told
    F__law_told := fun_mk (st := s__law_told) l__law_told c__law_told k__law_told
    b__law_told := (fun_mk (st := s__law_told) l__law_told c__law_told k__law_told).binds (ps := ["_law_lengths_here", "_law_bits", "_law_at", "_law_count"]) fun _ _ _ _ _ _ us hl => match us, hl with | [_, _, _, _], _ => rfl
    g__law_told := PySem.W.mg_of X G a__law_told
    a_law := fa
    d_law := PySem.W.fnOf "law" "law" (defArgs s_law) (defBody s_law) (defScope s_law) .none kV_law dc_law pm_law an_law cd_law ct_law
    F_law := fun_mk (st := s_law) l_law c_law k_law
    b_law := (fun_mk (st := s_law) l_law c_law k_law).binds (ps := ["_law_script"]) fun _ _ _ _ _ _ us hl => match us, hl with | [_], _ => rfl
    g_law := PySem.W.mg_of X G a_law
    n_any := PySem.W.mg_none_of X G z_any
    n_enumerate := PySem.W.mg_none_of X G z_enumerate
    n_int := PySem.W.mg_none_of X G z_int
    n_len := PySem.W.mg_none_of X G z_len
    n_list := PySem.W.mg_none_of X G z_list
    n_max := PySem.W.mg_none_of X G z_max
    n_min := PySem.W.mg_none_of X G z_min
    n_range := PySem.W.mg_none_of X G z_range
    n_sorted := PySem.W.mg_none_of X G z_sorted
    X_Truncated := { fI := fE0, fd := _, T := oeE0, iC := icE0, tI := tyE0, F1 := okE0, hb := bdE0, hm := PySem.W.mg_of X G gE0 }
    X_InvalidWord := { fI := fE1, fd := _, T := oeE1, iC := icE1, tI := tyE1, F1 := okE1, hb := bdE1, hm := PySem.W.mg_of X G gE1 }
    nm_Truncated := rfl
    Y_Truncated := ⟨⟨gaE0, ggE0, exE0, hdE0⟩, nnE0, npE0⟩

    m_0_0 := emE0E0
    m_0_1 := emE0E1
    nm_InvalidWord := rfl
    Y_InvalidWord := ⟨⟨gaE1, ggE1, exE1, hdE1⟩, nnE1, npE1⟩

    m_1_0 := emE1E0
    m_1_1 := emE1E1 }
  exact ok_law T
theorem law_end {K : PySem.W.Frag} {H : Hp} {a : Addr} {ns : List Int} {E : XK} (hl : ns.length ≤ 63) (hS : SqL K H a (ns.map V.int)) (hlaw : ∀ ns : List Int, ns.length ≤ 63 → f_law ⟨ns⟩ = .ok true) : SpP (cfK K) 1 (sp1 f_law) [.ref a] H (fun v _ => v = .bl true) E :=
  ⟨rfl, H, fun _ => none, [toD (Scr.mk ns)], toD true, ⟨Le.refl H, fun _ _ e => (nomatch e), fun _ _ => rfl⟩, .cons (.scr hS) .nil, ⟨⟨ns⟩, rfl, by rw [hlaw ns hl]; rfl⟩, fun v F' H' _ _ r => dr_bl (i := true) r⟩
end Kx
open PySem PySem.W PyProof.Rows
set_option maxHeartbeats 0 in
theorem PySem.Challenge.cw_kraftroom_k02_symbols_read_and_written_holds : PySem.Challenge.rw_kraftroom_k02_symbols_read_and_written.Holds := by
  w_on; o_law; k_head; (case hw => w_witness2)
  k_fill
  refine L2.walk_of (l := PySem.Challenge.rw_kraftroom_k02_symbols_read_and_written) (n := 63) (k := 7) (x := "_law_script") (CX := fun _ => L2.CX0) (sp := fun w => Kr.SpP (Kx.cfK _) 1 (Kr.sp1 Kx.f_law)) rfl (by decide) rfl ⟨rfl, by decide, by decide⟩ (fun w h Y => PySem.W.kIn_of Y) ?F (fun _ _ a ns hl _ hS => Kx.law_end hl hS Kx.law_all) (fun _ _ _ _ _ h => h)
  case F =>
    intro w mg fa h KX G hmg
    refine' Kx.all_mk KX G hmg ?a_field_bits ?l_field_bits ?c_field_bits ?k_field_bits ?a_words ?l_words ?c_words ?k_words ?a_write_symbols ?l_write_symbols ?c_write_symbols ?k_write_symbols ?a_read_word ?l_read_word ?c_read_word ?k_read_word ?a_read_symbols ?l_read_symbols ?c_read_symbols ?k_read_symbols ?a__law_cell ?l__law_cell ?c__law_cell ?k__law_cell ?a__law_lengths ?l__law_lengths ?c__law_lengths ?k__law_lengths ?a__law_fitting ?l__law_fitting ?c__law_fitting ?k__law_fitting ?a__law_words ?l__law_words ?c__law_words ?k__law_words ?a__law_read ?l__law_read ?c__law_read ?k__law_read ?a__law_told ?l__law_told ?c__law_told ?k__law_told ?a_law ?l_law ?c_law ?k_law ?z_any ?z_enumerate ?z_int ?z_len ?z_list ?z_max ?z_min ?z_range ?z_sorted ?tp ?z_super ?th ?lKB ?kKB ?ccKB ?coKB ?vfKB ?flKB ?cDKB ?tyKB ?fnKB ?tlKB ?lE0 ?kE0 ?ccE0 ?coE0 ?vfE0 ?flE0 ?cDE0 ?tyE0 ?fnE0 ?gE0 ?oE0 ?rE0 ?saE0 ?exE0 ?tcE0 ?kcE0 ?veE0 ?npE0 ?nnE0 ?icE0 ?m1E0 ?m2E0 ?suE0 ?svE0 ?lE1 ?kE1 ?ccE1 ?coE1 ?vfE1 ?flE1 ?cDE1 ?tyE1 ?fnE1 ?gE1 ?oE1 ?rE1 ?saE1 ?exE1 ?tcE1 ?kcE1 ?veE1 ?npE1 ?nnE1 ?icE1 ?m1E1 ?m2E1 ?suE1 ?svE1 ?gaE0 ?ggE0 ?hdE0 ?emE0E0 ?emE0E1 ?gaE1 ?ggE1 ?hdE1 ?emE1E0 ?emE1E1
    (case gE0 => k_is); (case gE1 => k_is); (case icE0 => k_is); (case suE0 => first | ks_is | k_is | rfl | decide +kernel); (case icE1 => k_is); (case suE1 => first | ks_is | k_is | rfl | decide +kernel); (case lKB => k_is); (case lE0 => k_is); (case lE1 => k_is); (case ccKB => k_is); (case a_field_bits => k_is); (case l_field_bits => k_is); (case c_field_bits => k_is); (case k_field_bits => k_is); (case a_words => k_is); (case l_words => k_is); (case c_words => k_is); (case k_words => k_is); (case a_write_symbols => k_is); (case l_write_symbols => k_is); (case c_write_symbols => k_is); (case k_write_symbols => k_is); (case a_read_word => k_is); (case l_read_word => k_is); (case c_read_word => k_is); (case k_read_word => k_is); (case a_read_symbols => k_is); (case l_read_symbols => k_is); (case c_read_symbols => k_is); (case k_read_symbols => k_is); (case a__law_cell => k_is); (case l__law_cell => k_is); (case c__law_cell => k_is); (case k__law_cell => k_is); (case a__law_lengths => k_is); (case l__law_lengths => k_is); (case c__law_lengths => k_is); (case k__law_lengths => k_is); (case a__law_fitting => k_is); (case l__law_fitting => k_is); (case c__law_fitting => k_is); (case k__law_fitting => k_is); (case a__law_words => k_is); (case l__law_words => k_is); (case c__law_words => k_is); (case k__law_words => k_is); (case a__law_read => k_is); (case l__law_read => k_is); (case c__law_read => k_is); (case k__law_read => k_is); (case a__law_told => k_is); (case l__law_told => k_is); (case c__law_told => k_is); (case k__law_told => k_is); (case a_law => k_is); (case l_law => k_is); (case c_law => k_is); (case k_law => k_is); (case z_any => k_is); (case z_enumerate => k_is); (case z_int => k_is); (case z_len => k_is); (case z_list => k_is); (case z_max => k_is); (case z_min => k_is); (case z_range => k_is); (case z_sorted => k_is); (case tp => first | ks_is | k_is | rfl | decide +kernel); (case z_super => k_is); (case th => k_is); (case kKB => k_is); (case coKB => k_is); (case vfKB => first | ks_is | k_is | rfl | decide +kernel); (case flKB => first | ks_is | k_is | rfl | decide +kernel); (case cDKB => k_is); (case tyKB => k_is); (case fnKB => k_is); (case tlKB => k_is); (case kE0 => k_is); (case ccE0 => k_is); (case coE0 => k_is); (case vfE0 => first | ks_is | k_is | rfl | decide +kernel); (case flE0 => first | ks_is | k_is | rfl | decide +kernel); (case cDE0 => k_is); (case tyE0 => k_is); (case fnE0 => k_is); (case oE0 => k_is); (case rE0 => first | ks_is | k_is | rfl | decide +kernel); (case saE0 => k_is); (case exE0 => k_is); (case tcE0 => k_is); (case kcE0 => k_is); (case veE0 => k_is); (case npE0 => k_is); (case nnE0 => k_is); (case m1E0 => k_is); (case m2E0 => k_is); (case svE0 => first | ks_is | k_is | rfl | decide +kernel); (case kE1 => k_is); (case ccE1 => k_is); (case coE1 => k_is); (case vfE1 => first | ks_is | k_is | rfl | decide +kernel); (case flE1 => first | ks_is | k_is | rfl | decide +kernel); (case cDE1 => k_is); (case tyE1 => k_is); (case fnE1 => k_is); (case oE1 => k_is); (case rE1 => first | ks_is | k_is | rfl | decide +kernel); (case saE1 => k_is); (case exE1 => k_is); (case tcE1 => k_is); (case kcE1 => k_is); (case veE1 => k_is); (case npE1 => k_is); (case nnE1 => k_is); (case m1E1 => k_is); (case m2E1 => k_is); (case svE1 => first | ks_is | k_is | rfl | decide +kernel); (case gaE0 => k_is); (case ggE0 => k_is); (case hdE0 => first | ks_is | k_is | rfl | decide +kernel); (case emE0E0 => first | ks_is | k_is | rfl | decide +kernel); (case emE0E1 => first | ks_is | k_is | rfl | decide +kernel); (case gaE1 => k_is); (case ggE1 => k_is); (case hdE1 => first | ks_is | k_is | rfl | decide +kernel); (case emE1E0 => first | ks_is | k_is | rfl | decide +kernel); (case emE1E1 => first | ks_is | k_is | rfl | decide +kernel)
