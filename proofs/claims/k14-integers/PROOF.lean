import PyProof.Rows.All
import Wide.All
import OpenK.AllK
import Wide.FinOn
import HandS.ForMost
import HandS.Exc
import HandS.WordsExc
import HandS.Wide
import HandS.WideBits
import HandS.RevRange
import HandS.Style
import KE.SortData
import HandS.Zip
import HandS.ExcInit
import HandS.ExcSuper
import HandS.ExcField
import HandS.ClsMeth
import HandS.Defaults
import KE.RegKSuper
import HandS.Nested
import KE.KSuper
import KE.KExcSuper
import PySem.Challenge.RW_kraftroom_k14_codes_of_integers
set_option Elab.async false
set_option linter.all false
set_option maxRecDepth 100000
set_option maxHeartbeats 4000000
/-! KrA: results, data, what a value stands for, the judgements of expressions and statements by data. -/
namespace Kr
open PySem PySem.Spec PyProof.Rows L2

/-! ### results -/
inductive R (α : Type) where
  | ok (a : α)
  | er (c : Nat) (p : Int)
  | bad
def R.bind {α β : Type} : R α → (α → R β) → R β
  | .ok a, f => f a
  | .er c p, _ => .er c p
  | .bad, _ => .bad
/-- of a def that raises nothing -/
def R.pu {α : Type} : R α → R α
  | .ok a => .ok a
  | _ => .bad
def R.map {α β : Type} (f : α → β) : R α → R β
  | .ok a => .ok (f a)
  | .er c p => .er c p
  | .bad => .bad
section
variable {α β γ : Type}
theorem R.ok_bind (a : α) (f : α → R β) : (R.ok a).bind f = f a := (fun (m : R α) (e : m = .ok a) => show m.bind f = f a by rw [e]; rfl) _ rfl
theorem R.er_bind (c : Nat) (p : Int) (f : α → R β) : (R.er c p : R α).bind f = .er c p := (fun (m : R α) (e : m = .er c p) => show m.bind f = .er c p by rw [e]; rfl) _ rfl
theorem R.bad_bind (f : α → R β) : (R.bad : R α).bind f = .bad := (fun (m : R α) (e : m = .bad) => show m.bind f = .bad by rw [e]; rfl) _ rfl
theorem R.ok_pu (a : α) : (R.ok a).pu = .ok a := (fun (m : R α) (e : m = .ok a) => show m.pu = .ok a by rw [e]; rfl) _ rfl
theorem R.ok_map (f : α → β) (a : α) : (R.ok a).map f = .ok (f a) := (fun (m : R α) (e : m = .ok a) => show m.map f = .ok (f a) by rw [e]; rfl) _ rfl
theorem R.bind_ok (m : R α) : m.bind .ok = m := by cases m <;> rfl
theorem R.bind_bind (m : R α) (f : α → R β) (g : β → R γ) : (m.bind f).bind g = m.bind fun a => (f a).bind g := by cases m <;> rfl
theorem R.ite_bind (c : Prop) [Decidable c] (m n : R α) (f : α → R β) : (if c then m else n).bind f = if c then m.bind f else n.bind f := by split <;> rfl
theorem R.bind_nb {m : R α} {f : α → R β} (h : m.bind f ≠ .bad) : m ≠ .bad := fun e => h (by rw [e]; rfl)
theorem R.bind_okd {m : R α} {f : α → R β} {b : β} (h : m.bind f = .ok b) : ∃ a, m = .ok a ∧ f a = .ok b := by
  cases m with
  | ok a => exact ⟨a, rfl, h⟩
  | er c p => cases h
  | bad => cases h
end

/-! ### data -/
inductive Dt where
  | non | bl (b : Bool) | int (i : Int) | str (x : Str) | lst (xs : List Dt) | tup (xs : List Dt)
  /-- the script -/
  | scr (ns : List Int)
  /-- a dict whose keys are tuples of ints -/
  | dct (kvs : List (List Int × Dt))

mutual
/-- in F the value v stands for the data -/
inductive Dr (K : PySem.W.Frag) (F : Hp) : V → Dt → Prop
  | non : Dr K F .non .non
  | bl (b : Bool) : Dr K F (.bl b) (.bl b)
  | int (i : Int) : Dr K F (.int i) (.int i)
  | str (x : Str) : Dr K F (.str x) (.str x)
  | lst {a : Addr} {vs : List V} {ds : List Dt} : F a = some (.lst vs) → DrA K F vs ds → Dr K F (.ref a) (.lst ds)
  | tup {a : Addr} {vs : List V} {ds : List Dt} : F a = some (.tup vs) → DrA K F vs ds → Dr K F (.ref a) (.tup ds)
  | scr {a : Addr} {ns : List Int} : SqL K F a (ns.map V.int) → Dr K F (.ref a) (.scr ns)
  | dct {a : Addr} {ks : List (List Key × V)} {kvs : List (List Int × Dt)} : F a = some (.dT ks) → DrK K F ks kvs → Dr K F (.ref a) (.dct kvs)
inductive DrA (K : PySem.W.Frag) (F : Hp) : List V → List Dt → Prop
  | nil : DrA K F [] []
  | cons {v : V} {vs : List V} {d : Dt} {ds : List Dt} : Dr K F v d → DrA K F vs ds → DrA K F (v :: vs) (d :: ds)
inductive DrK (K : PySem.W.Frag) (F : Hp) : List (List Key × V) → List (List Int × Dt) → Prop
  | nil : DrK K F [] []
  | cons {k : List Int} {v : V} {d : Dt} {ks : List (List Key × V)} {kvs : List (List Int × Dt)} : Dr K F v d → DrK K F ks kvs → DrK K F ((k.map Sum.inl, v) :: ks) ((k, d) :: kvs)
end

def Le (H H' : Hp) : Prop := ∀ a o, H a = some o → H' a = some o
theorem Le.refl (H : Hp) : Le H H := fun _ _ h => h
theorem Le.trans {H H1 H2 : Hp} (a : Le H H1) (b : Le H1 H2) : Le H H2 := fun x o h => b x o (a x o h)
theorem Le.new {H : Hp} {p : Addr} {o : HO} (h : H p = none) : Le H (upd H p o) := fun a u e => by
  rw [upd_ne (ne_of_none e h)]
  exact e
theorem Le.seq {K : PySem.W.Frag} {H H' : Hp} {a : Addr} {xs : List V} (e : Le H H') (h : SqL K H a xs) : SqL K H' a xs := by
  rcases h with (h | ⟨o, h⟩) | h
  · exact .inl (.inl (e _ _ h))
  · exact .inl (.inr ⟨o, e _ _ h⟩)
  · exact .inr h
theorem Le.free {H H' : Hp} (e : Le H H') {l : Addr} (h : H' l = none) : H l = none := by
  cases q : H l with
  | none => rfl
  | some o =>
    rw [e l o q] at h
    cases h
section
variable {K : PySem.W.Frag} {F F' : Hp}
mutual
theorem Dr.mono (e : Le F F') : ∀ {v : V} {d : Dt}, Dr K F v d → Dr K F' v d
  | _, _, .non => .non
  | _, _, .bl b => .bl b
  | _, _, .int i => .int i
  | _, _, .str x => .str x
  | _, _, .lst h r => .lst (e _ _ h) (DrA.mono e r)
  | _, _, .tup h r => .tup (e _ _ h) (DrA.mono e r)
  | _, _, .scr h => .scr (e.seq h)
  | _, _, .dct h r => .dct (e _ _ h) (DrK.mono e r)
theorem DrA.mono (e : Le F F') : ∀ {vs : List V} {ds : List Dt}, DrA K F vs ds → DrA K F' vs ds
  | _, _, .nil => .nil
  | _, _, .cons r t => .cons (Dr.mono e r) (DrA.mono e t)
theorem DrK.mono (e : Le F F') : ∀ {ks : List (List Key × V)} {kvs : List (List Int × Dt)}, DrK K F ks kvs → DrK K F' ks kvs
  | _, _, .nil => .nil
  | _, _, .cons r t => .cons (Dr.mono e r) (DrK.mono e t)
end
theorem DrA.length : ∀ {vs : List V} {ds : List Dt}, DrA K F vs ds → vs.length = ds.length
  | _, _, .nil => rfl
  | _, _, .cons _ t => by rw [List.length_cons, List.length_cons, DrA.length t]
theorem DrA.get : ∀ {vs : List V} {ds : List Dt} {i : Nat} {d : Dt}, DrA K F vs ds → ds[i]? = some d → ∃ v, vs[i]? = some v ∧ Dr K F v d
  | _, _, _, _, .nil, h => by simp at h
  | _, _, 0, _, .cons (v := v) r _, h => by
    simp at h
    subst h
    exact ⟨v, rfl, r⟩
  | _, _, i + 1, _, .cons _ t, h => by
    obtain ⟨v, h1, h2⟩ := DrA.get (i := i) t (by simpa using h)
    exact ⟨v, by simpa using h1, h2⟩
theorem DrA.getV : ∀ {vs : List V} {ds : List Dt} {i : Nat} {v : V}, DrA K F vs ds → vs[i]? = some v → ∃ d, ds[i]? = some d ∧ Dr K F v d
  | _, _, _, _, .nil, h => by simp at h
  | _, _, 0, _, .cons (d := d) r _, h => by
    simp at h
    subst h
    exact ⟨d, rfl, r⟩
  | _, _, i + 1, _, .cons _ t, h => by
    obtain ⟨d, h1, h2⟩ := DrA.getV (i := i) t (by simpa using h)
    exact ⟨d, by simpa using h1, h2⟩
theorem DrA.append : ∀ {vs ws : List V} {ds es : List Dt}, DrA K F vs ds → DrA K F ws es → DrA K F (vs ++ ws) (ds ++ es)
  | _, _, _, _, .nil, s => s
  | _, _, _, _, .cons r t, s => .cons r (DrA.append t s)
theorem DrA.set {v : V} {d : Dt} (r : Dr K F v d) : ∀ {vs : List V} {ds : List Dt} (i : Nat), DrA K F vs ds → DrA K F (vs.set i v) (ds.set i d)
  | _, _, _, .nil => .nil
  | _, _, 0, .cons _ t => .cons r t
  | _, _, i + 1, .cons q t => .cons q (DrA.set r i t)
theorem DrA.take : ∀ {vs : List V} {ds : List Dt} (n : Nat), DrA K F vs ds → DrA K F (vs.take n) (ds.take n)
  | _, _, 0, _ => .nil
  | _, _, _ + 1, .nil => .nil
  | _, _, n + 1, .cons r t => .cons r (DrA.take n t)
theorem DrA.drop : ∀ {vs : List V} {ds : List Dt} (n : Nat), DrA K F vs ds → DrA K F (vs.drop n) (ds.drop n)
  | _, _, 0, r => r
  | _, _, _ + 1, .nil => .nil
  | _, _, n + 1, .cons _ t => DrA.drop n t
theorem DrA.dropLast {vs : List V} {ds : List Dt} (h : DrA K F vs ds) : DrA K F vs.dropLast ds.dropLast := by
  rw [List.dropLast_eq_take, List.dropLast_eq_take, h.length]
  exact h.take _
theorem DrA.reverse : ∀ {vs : List V} {ds : List Dt}, DrA K F vs ds → DrA K F vs.reverse ds.reverse
  | _, _, .nil => .nil
  | _, _, .cons r t => by
    rw [List.reverse_cons, List.reverse_cons]
    exact (DrA.reverse t).append (.cons r .nil)
theorem DrA.rep {vs : List V} {ds : List Dt} (h : DrA K F vs ds) : ∀ k : Nat, DrA K F (List.replicate k vs).flatten (List.replicate k ds).flatten
  | 0 => .nil
  | k + 1 => by
    rw [List.replicate_succ, List.replicate_succ, List.flatten_cons, List.flatten_cons]
    exact h.append (DrA.rep h k)
end

theorem dr_non {K : PySem.W.Frag} {F : Hp} {v : V} (h : Dr K F v .non) : v = .non := by cases h; rfl
theorem dr_int {K : PySem.W.Frag} {F : Hp} {v : V} {i : Int} (h : Dr K F v (.int i)) : v = .int i := by cases h; rfl
theorem dr_bl {K : PySem.W.Frag} {F : Hp} {v : V} {i : Bool} (h : Dr K F v (.bl i)) : v = .bl i := by cases h; rfl
theorem dr_str {K : PySem.W.Frag} {F : Hp} {v : V} {i : Str} (h : Dr K F v (.str i)) : v = .str i := by cases h; rfl
theorem dr_lst {K : PySem.W.Frag} {F : Hp} {v : V} {ds : List Dt} (h : Dr K F v (.lst ds)) : ∃ a vs, v = .ref a ∧ F a = some (.lst vs) ∧ DrA K F vs ds := by
  cases h with
  | lst h1 h2 => exact ⟨_, _, rfl, h1, h2⟩
theorem dr_tup {K : PySem.W.Frag} {F : Hp} {v : V} {ds : List Dt} (h : Dr K F v (.tup ds)) : ∃ a vs, v = .ref a ∧ F a = some (.tup vs) ∧ DrA K F vs ds := by
  cases h with
  | tup h1 h2 => exact ⟨_, _, rfl, h1, h2⟩
theorem dr_scr {K : PySem.W.Frag} {F : Hp} {v : V} {ns : List Int} (h : Dr K F v (.scr ns)) : ∃ a, v = .ref a ∧ SqL K F a (ns.map V.int) := by
  cases h with
  | scr h1 => exact ⟨_, rfl, h1⟩
theorem dr_dct {K : PySem.W.Frag} {F : Hp} {v : V} {kvs : List (List Int × Dt)} (h : Dr K F v (.dct kvs)) : ∃ a ks, v = .ref a ∧ F a = some (.dT ks) ∧ DrK K F ks kvs := by
  cases h with
  | dct h1 h2 => exact ⟨_, _, rfl, h1, h2⟩
theorem drA_nil {K : PySem.W.Frag} {F : Hp} {vs : List V} (h : DrA K F vs []) : vs = [] := by cases h; rfl
theorem drA_cons {K : PySem.W.Frag} {F : Hp} {vs : List V} {d : Dt} {ds : List Dt} (h : DrA K F vs (d :: ds)) : ∃ v r, vs = v :: r ∧ Dr K F v d ∧ DrA K F r ds := by
  cases h with
  | cons h1 h2 => exact ⟨_, _, rfl, h1, h2⟩

/-- typed data -/
class Enc (α : Type) where
  toD : α → Dt
open Enc (toD)

structure T3 (α β γ : Type) where
  a : α
  b : β
  c : γ
  deriving DecidableEq
structure Scr where
  ns : List Int
/-- a dict by tuples of ints -/
structure Dct (α : Type) where
  kvs : List (List Int × α)
instance : Enc Int := ⟨.int⟩
instance : Enc Bool := ⟨.bl⟩
instance : Enc Str := ⟨.str⟩
instance : Enc Unit := ⟨fun _ => .non⟩
instance : Enc Scr := ⟨fun s => .scr s.ns⟩
instance {α : Type} [Enc α] : Enc (List α) := ⟨fun xs => .lst (xs.map toD)⟩
instance {α β : Type} [Enc α] [Enc β] : Enc (α × β) := ⟨fun p => .tup [toD p.1, toD p.2]⟩
instance {α β γ : Type} [Enc α] [Enc β] [Enc γ] : Enc (T3 α β γ) := ⟨fun p => .tup [toD p.a, toD p.b, toD p.c]⟩
instance {α : Type} [Enc α] : Enc (Option α) := ⟨fun o => match o with | none => .non | some a => toD a⟩
instance {α β : Type} [Enc α] [Enc β] : Enc (α ⊕ β) := ⟨fun o => match o with | .inl a => toD a | .inr a => toD a⟩
instance {α : Type} [Enc α] : Enc (Dct α) := ⟨fun d => .dct (d.kvs.map fun p => (p.1, toD p.2))⟩
/-- never None -/
class NN (α : Type) [Enc α] : Prop where
  nn : ∀ a : α, toD a ≠ .non
instance : NN Int := ⟨fun _ h => nomatch h⟩
instance : NN Bool := ⟨fun _ h => nomatch h⟩
instance {α : Type} [Enc α] : NN (List α) := ⟨fun _ h => nomatch h⟩
instance {α β : Type} [Enc α] [Enc β] : NN (α × β) := ⟨fun _ h => nomatch h⟩
instance {α β γ : Type} [Enc α] [Enc β] [Enc γ] : NN (T3 α β γ) := ⟨fun _ h => nomatch h⟩

/-! ### the state by data -/
/-- what the text says of classes: the written part; the error classes by number, their names -/
structure Cf where
  K : PySem.W.Frag
  cls : Nat → Addr
  nm : Nat → Str
/-- the heap H holds F (never changed) and O (what is owned) -/
structure Fm (F O H : Hp) : Prop where
  f : Le F H
  o : Le O H
  ds : ∀ p, F p ≠ none → O p = none
theorem Fm.fnone {F O H : Hp} (h : Fm F O H) {p : Addr} (e : H p = none) : F p = none := h.f.free e
theorem Fm.onone {F O H : Hp} (h : Fm F O H) {p : Addr} (e : H p = none) : O p = none := h.o.free e
theorem Fm.own {F O H : Hp} (h : Fm F O H) {p : Addr} {o : HO} (e : O p = some o) : F p = none := by
  cases q : F p with
  | none => rfl
  | some u =>
    rw [h.ds p (by rw [q]; simp)] at e
    cases e
/-- a new object, never changed from now on -/
theorem Fm.newF {F O H : Hp} (h : Fm F O H) {p : Addr} {o : HO} (e : H p = none) : Fm (upd F p o) O (upd H p o) := by
  refine ⟨fun a u q => ?_, fun a u q => ?_, fun a q => ?_⟩
  · by_cases ha : a = p
    · subst ha
      rw [upd_same] at q ⊢
      exact q
    · rw [upd_ne ha] at q ⊢
      exact h.f a u q
  · exact Le.new e a u (h.o a u q)
  · by_cases ha : a = p
    · subst ha
      exact h.onone e
    · rw [upd_ne ha] at q
      exact h.ds a q
/-- a new object that nobody owns as yet -/
theorem Fm.newH {F O H : Hp} (h : Fm F O H) {p : Addr} {o : HO} (e : H p = none) : Fm F O (upd H p o) := ⟨h.f.trans (Le.new e), h.o.trans (Le.new e), h.ds⟩

inductive Sl where
  | un
  | va (d : Dt)
  | ol (ds : List Dt)
  | od (kvs : List (List Int × Dt))
  /-- just this value -/
  | pv (v : V)
def Sl.own : Sl → Bool
  | .ol _ => true
  | .od _ => true
  | _ => false
def SlOk (K : PySem.W.Frag) (F O : Hp) (x : Option (Option V)) : Sl → Prop
  | .un => True
  | .va d => ∃ v, x = some (some v) ∧ Dr K F v d
  | .ol ds => ∃ a vs, x = some (some (.ref a)) ∧ O a = some (.lst vs) ∧ DrA K F vs ds
  | .od kvs => ∃ a ks, x = some (some (.ref a)) ∧ O a = some (.dT ks) ∧ DrK K F ks kvs
  | .pv v => x = some (some v)
theorem SlOk.mono {K : PySem.W.Frag} {F F' O : Hp} {x : Option (Option V)} (e : Le F F') : ∀ {s : Sl}, SlOk K F O x s → SlOk K F' O x s
  | .un, _ => trivial
  | .va _, ⟨v, h1, h2⟩ => ⟨v, h1, h2.mono e⟩
  | .ol _, ⟨a, vs, h1, h2, h3⟩ => ⟨a, vs, h1, h2, h3.mono e⟩
  | .od _, ⟨a, vs, h1, h2, h3⟩ => ⟨a, vs, h1, h2, h3.mono e⟩
  | .pv _, h => h
structure Er (K : PySem.W.Frag) (F O : Hp) (σ : L2.St) (G : List Sl) : Prop where
  len : σ.length = G.length
  at' : ∀ (i : Nat) (s : Sl), G[i]? = some s → SlOk K F O σ[i]? s
theorem Er.mono {K : PySem.W.Frag} {F F' O : Hp} {σ : L2.St} {G : List Sl} (h : Er K F O σ G) (e : Le F F') : Er K F' O σ G := ⟨h.len, fun i s q => (h.at' i s q).mono e⟩

/-- what an exception of the class c leaves -/
def xdO (cf : Cf) (c : Nat) (p : Int) : HO := .xd [("name", .str (cf.nm c)), ("place", .int p)]
/-- the reading t gives m's outcome, by rel -/
def EG {α ρ : Type} (cf : Cf) (E : XK) (t : L2.St → Hp → (ρ → Hp → Prop) → Prop) (G : List Sl) (m : R α) (rel : Hp → Hp → Hp → ρ → α → Prop) : Prop :=
  ∀ (F O H : Hp) (σ : L2.St) (Q : ρ → Hp → Prop), Fm F O H → Er cf.K F O σ G → m ≠ .bad →
    (∀ a r F' H', m = .ok a → Le F F' → Fm F' O H' → rel F' O H' r a → Q r H') →
    (∀ c p d F' H', m = .er c p → Le F F' → Fm F' O H' → F' d = some (xdO cf c p) → E (.ref (cf.cls c)) (some d) H') → t σ H Q
section
variable (cf : Cf)
/-- never changed data -/
def RM {α : Type} [Enc α] (F O H : Hp) (v : V) (a : α) : Prop := Dr cf.K F v (toD a)
def RB (F O H : Hp) (b : Bool) (a : Bool) : Prop := b = a
def RA (F O H : Hp) (vs : List V) (ds : List Dt) : Prop := DrA cf.K F vs ds
def RO (F O H : Hp) (o : Option Int) (a : Option Int) : Prop := o = a
/-- a list that may be read -/
def RL {α : Type} [Enc α] (F O H : Hp) (v : V) (xs : List α) : Prop := ∃ a vs, v = .ref a ∧ (F a = some (.lst vs) ∨ O a = some (.lst vs)) ∧ DrA cf.K F vs (xs.map toD)
/-- .. or the script -/
def RS {α : Type} [Enc α] (F O H : Hp) (v : V) (xs : List α) : Prop := ∃ a vs, v = .ref a ∧ (SqL cf.K F a vs ∨ O a = some (.lst vs)) ∧ DrA cf.K F vs (xs.map toD)
/-- a new list that nobody owns -/
def RF {α : Type} [Enc α] (F O H : Hp) (v : V) (xs : List α) : Prop := ∃ a vs, v = .ref a ∧ F a = none ∧ O a = none ∧ H a = some (.lst vs) ∧ DrA cf.K F vs (xs.map toD)
abbrev EM {α : Type} [Enc α] (E : XK) (t : TE) (G : List Sl) (m : R α) : Prop := EG cf E t G m (RM cf)
abbrev EB (E : XK) (t : TT) (G : List Sl) (m : R Bool) : Prop := EG cf E t G m RB
abbrev EA (E : XK) (t : TA) (G : List Sl) (m : R (List Dt)) : Prop := EG cf E t G m (RA cf)
abbrev EO (E : XK) (t : TO) (G : List Sl) (m : R (Option Int)) : Prop := EG cf E t G m RO
abbrev EL {α : Type} [Enc α] (E : XK) (t : TE) (G : List Sl) (m : R (List α)) : Prop := EG cf E t G m (RL cf)
abbrev ES {α : Type} [Enc α] (E : XK) (t : TE) (G : List Sl) (m : R (List α)) : Prop := EG cf E t G m (RS cf)
abbrev EF {α : Type} [Enc α] (E : XK) (t : TE) (G : List Sl) (m : R (List α)) : Prop := EG cf E t G m (RF cf)
end
section
variable {cf : Cf} {E : XK} {G : List Sl} {α β γ ρ τ : Type}
/-- one reading, then another -/
theorem EG.bind {t : L2.St → Hp → (ρ → Hp → Prop) → Prop} {u : ρ → L2.St → Hp → (τ → Hp → Prop) → Prop} {m : R α} {f : α → R β} {rel : Hp → Hp → Hp → ρ → α → Prop} {rel' : Hp → Hp → Hp → τ → β → Prop}
    (h : EG cf E t G m rel) (k : ∀ (F O H : Hp) (σ : L2.St) (Q : τ → Hp → Prop) (a : α) (r : ρ), Fm F O H → Er cf.K F O σ G → rel F O H r a → f a ≠ .bad →
      (∀ b r' F' H', f a = .ok b → Le F F' → Fm F' O H' → rel' F' O H' r' b → Q r' H') →
      (∀ c p d F' H', f a = .er c p → Le F F' → Fm F' O H' → F' d = some (xdO cf c p) → E (.ref (cf.cls c)) (some d) H') → u r σ H Q) :
    EG cf E (fun σ H Q => t σ H fun r H1 => u r σ H1 Q) G (m.bind f) rel' := fun F O H σ Q hf he nb ko ke => by
  refine h F O H σ _ hf he (R.bind_nb nb) (fun a r F' H' ea le hf' hr => ?_) (fun c p d F' H' ea le hf' hd => ke c p d F' H' (by rw [ea]; rfl) le hf' hd)
  subst ea
  exact k F' O H' σ Q a r hf' (he.mono le) hr nb (fun b r' F'' H'' e le' => ko b r' F'' H'' e (le.trans le')) (fun c p d F'' H'' e le' => ke c p d F'' H'' e (le.trans le'))
theorem EG.imp {t : L2.St → Hp → (ρ → Hp → Prop) → Prop} {m : R α} {rel rel' : Hp → Hp → Hp → ρ → α → Prop} (h : EG cf E t G m rel) (w : ∀ F O H r a, Fm F O H → rel F O H r a → rel' F O H r a) : EG cf E t G m rel' :=
  fun F O H σ Q hf he nb ko ke => h F O H σ Q hf he nb (fun a r F' H' e le hf' hr => ko a r F' H' e le hf' (w F' O H' r a hf' hr)) ke
/-- conclude a reading that gives a value at once -/
theorem EG.fin {t : L2.St → Hp → (ρ → Hp → Prop) → Prop} {a : α} {rel : Hp → Hp → Hp → ρ → α → Prop} (h : ∀ (F O H : Hp) (σ : L2.St) (Q : ρ → Hp → Prop), Fm F O H → Er cf.K F O σ G → (∀ r F' H', Le F F' → Fm F' O H' → rel F' O H' r a → Q r H') → t σ H Q) : EG cf E t G (.ok a) rel :=
  fun F O H σ Q hf he _ ko _ => h F O H σ Q hf he fun r F' H' le hf' hr => ko a r F' H' rfl le hf' hr
theorem EG.cast {t : L2.St → Hp → (ρ → Hp → Prop) → Prop} {m n : R α} {rel : Hp → Hp → Hp → ρ → α → Prop} (h : EG cf E t G m rel) (e : m = n) : EG cf E t G n rel := e ▸ h
/-- a fresh list is let go: data -/
theorem EF.toM [Enc α] {t : TE} {m : R (List α)} (h : EF cf E t G m) : EM cf E t G m := fun F O H σ Q hf he nb ko ke => by
  refine h F O H σ Q hf he nb (fun xs v F' H' e le hf' hr => ?_) ke
  obtain ⟨a, vs, rfl, hFa, hOa, hHa, r⟩ := hr
  have le2 : Le F' (upd F' a (.lst vs)) := Le.new hFa
  refine ko xs _ (upd F' a (.lst vs)) H' e (le.trans le2) ⟨fun b o q => ?_, hf'.o, fun b q => ?_⟩ (.lst upd_same (r.mono le2))
  · by_cases hb : b = a
    · subst hb
      rw [upd_same] at q
      rw [hHa]
      exact q
    · rw [upd_ne hb] at q
      exact hf'.f b o q
  · by_cases hb : b = a
    · subst hb
      exact hOa
    · rw [upd_ne hb] at q
      exact hf'.ds b q
theorem EM.toL [Enc α] {t : TE} {m : R (List α)} (h : EM cf E t G m) : EL cf E t G m := EG.imp h fun F O H v xs _ r => by
  obtain ⟨a, vs, e, h1, h2⟩ := dr_lst r
  exact ⟨a, vs, e, .inl h1, h2⟩
theorem EL.toS [Enc α] {t : TE} {m : R (List α)} (h : EL cf E t G m) : ES cf E t G m := EG.imp h fun F O H v xs _ r => by
  obtain ⟨a, vs, e, h1, h2⟩ := r
  rcases h1 with h1 | h1
  · exact ⟨a, vs, e, .inl (SqL.of h1), h2⟩
  · exact ⟨a, vs, e, .inr h1, h2⟩
theorem EM.toS [Enc α] {t : TE} {m : R (List α)} (h : EM cf E t G m) : ES cf E t G m := EL.toS (EM.toL h)
theorem EF.toL [Enc α] {t : TE} {m : R (List α)} (h : EF cf E t G m) : EL cf E t G m := EM.toL (EF.toM h)
theorem EF.toS [Enc α] {t : TE} {m : R (List α)} (h : EF cf E t G m) : ES cf E t G m := EM.toS (EF.toM h)
theorem drA_ints {K : PySem.W.Frag} {F : Hp} : ∀ ns : List Int, DrA K F (ns.map V.int) (ns.map toD)
  | [] => .nil
  | n :: r => .cons (.int n) (drA_ints r)
theorem ints_of_drA {K : PySem.W.Frag} {F : Hp} : ∀ {ns : List Int} {vs : List V}, DrA K F vs (ns.map toD) → vs = ns.map V.int
  | [], _, h => by rw [drA_nil h]; rfl
  | n :: r, _, h => by
    obtain ⟨v, q, rfl, h1, h2⟩ := drA_cons h
    rw [ints_of_drA h2, dr_int (i := n) h1]
    rfl
theorem bls_of_drA {K : PySem.W.Frag} {F : Hp} : ∀ {ns : List Bool} {vs : List V}, DrA K F vs (ns.map toD) → vs = ns.map V.bl
  | [], _, h => by rw [drA_nil h]; rfl
  | n :: r, _, h => by
    obtain ⟨v, q, rfl, h1, h2⟩ := drA_cons h
    rw [bls_of_drA h2, dr_bl (i := n) h1]
    rfl
/-- the script as a list of ints -/
theorem EM.scr {t : TE} {m : R Scr} (h : EM cf E t G m) : ES cf E t G (m.bind fun s => .ok s.ns) := fun F O H σ Q hf he nb ko ke => by
  refine h F O H σ Q hf he (R.bind_nb nb) (fun s v F' H' e le hf' hr => ?_) (fun c p d F' H' e => ke c p d F' H' (by rw [e]; rfl))
  obtain ⟨a, ea, hs⟩ := dr_scr (ns := s.ns) hr
  exact ko s.ns _ F' H' (by rw [e]; rfl) le hf' ⟨a, _, ea, .inl hs, drA_ints s.ns⟩

/-! ### names, constants -/
theorem em_var [Enc α] (i : Nat) (a : α) (h : G[i]? = some (.va (toD a))) : EM cf E (tVar i) G (.ok a) := EG.fin fun F O H σ Q hf he ko => by
  obtain ⟨v, e, r⟩ := he.at' i _ h
  exact ⟨v, e, ko v F H (Le.refl F) hf r⟩
theorem el_own [Enc α] (i : Nat) (xs : List α) (h : G[i]? = some (.ol (xs.map toD))) : EL cf E (tVar i) G (.ok xs) := EG.fin fun F O H σ Q hf he ko => by
  obtain ⟨a, vs, e, h1, r⟩ := he.at' i _ h
  exact ⟨_, e, ko _ F H (Le.refl F) hf ⟨a, vs, rfl, .inr h1, r⟩⟩
theorem em_int (i : Int) : EM cf E (tC (.int i)) G (.ok i) := EG.fin fun F O H σ Q hf he ko => ko _ F H (Le.refl F) hf (.int i)
theorem em_bl (i : Bool) : EM cf E (tC (.bl i)) G (.ok i) := EG.fin fun F O H σ Q hf he ko => ko _ F H (Le.refl F) hf (.bl i)
theorem em_str (i : Str) : EM cf E (tC (.str i)) G (.ok i) := EG.fin fun F O H σ Q hf he ko => ko _ F H (Le.refl F) hf (.str i)
theorem em_none [Enc α] : EM cf E (tC .non) G (.ok (none : Option α)) := EG.fin fun F O H σ Q hf he ko => ko _ F H (Le.refl F) hf .non
theorem em_unit : EM cf E (tC .non) G (.ok ()) := EG.fin fun F O H σ Q hf he ko => ko _ F H (Le.refl F) hf .non
/-- a value where a value or None may be -/
theorem EM.just [Enc α] {t : TE} {m : R α} (h : EM cf E t G m) : EM cf E t G (m.bind fun a => .ok (some a)) := fun F O H σ Q hf he nb ko ke =>
  h F O H σ Q hf he (R.bind_nb nb) (fun a v F' H' e le hf' hr => ko (some a) v F' H' (by rw [e]; rfl) le hf' hr) (fun c p d F' H' e => ke c p d F' H' (by rw [e]; rfl))
theorem EM.inl [Enc α] [Enc β] {t : TE} {m : R α} (h : EM cf E t G m) : EM cf E t G (m.bind fun a => .ok (Sum.inl a : α ⊕ β)) := fun F O H σ Q hf he nb ko ke =>
  h F O H σ Q hf he (R.bind_nb nb) (fun a v F' H' e le hf' hr => ko (.inl a) v F' H' (by rw [e]; rfl) le hf' hr) (fun c p d F' H' e => ke c p d F' H' (by rw [e]; rfl))
theorem EM.inr [Enc α] [Enc β] {t : TE} {m : R β} (h : EM cf E t G m) : EM cf E t G (m.bind fun a => .ok (Sum.inr a : α ⊕ β)) := fun F O H σ Q hf he nb ko ke =>
  h F O H σ Q hf he (R.bind_nb nb) (fun a v F' H' e le hf' hr => ko (.inr a) v F' H' (by rw [e]; rfl) le hf' hr) (fun c p d F' H' e => ke c p d F' H' (by rw [e]; rfl))
end
end Kr

/-! KrB: operators, calls of built-ins, lists, tuples by data. -/
namespace Kr
open PySem PySem.Spec PyProof.Rows L2
open Enc (toD)

section
variable {cf : Cf} {E : XK} {G : List Sl} {α β γ δ ρ ρ' τ : Type}
theorem EG.bind2 {t1 : L2.St → Hp → (ρ → Hp → Prop) → Prop} {t2 : L2.St → Hp → (ρ' → Hp → Prop) → Prop} {m1 : R α} {m2 : R β} {f : α → β → R γ} {rel1 : Hp → Hp → Hp → ρ → α → Prop} {rel2 : Hp → Hp → Hp → ρ' → β → Prop} {rel3 : Hp → Hp → Hp → τ → γ → Prop}
    {u : ρ → ρ' → Hp → (τ → Hp → Prop) → Prop} (h1 : EG cf E t1 G m1 rel1) (h2 : EG cf E t2 G m2 rel2) (mono : ∀ F O H F' H' r a, Le F F' → Fm F' O H' → rel1 F O H r a → rel1 F' O H' r a)
    (k : ∀ (F O H : Hp) (Q : τ → Hp → Prop) (a : α) (r : ρ) (b : β) (s : ρ'), Fm F O H → rel1 F O H r a → rel2 F O H s b → f a b ≠ .bad → (∀ c x F' H', f a b = .ok c → Le F F' → Fm F' O H' → rel3 F' O H' x c → Q x H') → u r s H Q) :
    EG cf E (fun σ H Q => t1 σ H fun r H1 => t2 σ H1 fun s H2 => u r s H2 Q) G (m1.bind fun a => m2.bind fun b => f a b) rel3 :=
  EG.bind (u := fun r σ H Q => t2 σ H fun s H2 => u r s H2 Q) h1 fun F O H σ Q a r hf he hr nb ko ke =>
    h2 F O H σ _ hf he (R.bind_nb nb) (fun b s F' H' eb le hf' hs => k F' O H' Q a r b s hf' (mono F O H F' H' r a le hf' hr) hs (by rw [eb] at nb; exact nb) fun c x F'' H'' e le' => ko c x F'' H'' (by rw [eb]; exact e) (le.trans le'))
      fun c p d F' H' e => ke c p d F' H' (by rw [e]; rfl)
/-- one reading, then a step that raises nothing -/
theorem EG.bind1 {t1 : L2.St → Hp → (ρ → Hp → Prop) → Prop} {m1 : R α} {f : α → R γ} {rel1 : Hp → Hp → Hp → ρ → α → Prop} {rel3 : Hp → Hp → Hp → τ → γ → Prop}
    {u : ρ → Hp → (τ → Hp → Prop) → Prop} (h1 : EG cf E t1 G m1 rel1)
    (k : ∀ (F O H : Hp) (Q : τ → Hp → Prop) (a : α) (r : ρ), Fm F O H → rel1 F O H r a → f a ≠ .bad → (∀ c x F' H', f a = .ok c → Le F F' → Fm F' O H' → rel3 F' O H' x c → Q x H') → u r H Q) :
    EG cf E (fun σ H Q => t1 σ H fun r H1 => u r H1 Q) G (m1.bind f) rel3 :=
  EG.bind (u := fun r σ H Q => u r H Q) h1 fun F O H σ Q a r hf he hr nb ko ke => k F O H Q a r hf hr nb ko
theorem EG.bind3 {ρ'' : Type} {t1 : L2.St → Hp → (ρ → Hp → Prop) → Prop} {t2 : L2.St → Hp → (ρ' → Hp → Prop) → Prop} {t3 : L2.St → Hp → (ρ'' → Hp → Prop) → Prop} {m1 : R α} {m2 : R β} {m3 : R γ} {f : α → β → γ → R δ}
    {rel1 : Hp → Hp → Hp → ρ → α → Prop} {rel2 : Hp → Hp → Hp → ρ' → β → Prop} {rel3 : Hp → Hp → Hp → ρ'' → γ → Prop} {rel4 : Hp → Hp → Hp → τ → δ → Prop}
    {u : ρ → ρ' → ρ'' → Hp → (τ → Hp → Prop) → Prop} (h1 : EG cf E t1 G m1 rel1) (h2 : EG cf E t2 G m2 rel2) (h3 : EG cf E t3 G m3 rel3)
    (mono1 : ∀ F O H F' H' r a, Le F F' → Fm F' O H' → rel1 F O H r a → rel1 F' O H' r a) (mono2 : ∀ F O H F' H' r a, Le F F' → Fm F' O H' → rel2 F O H r a → rel2 F' O H' r a)
    (k : ∀ (F O H : Hp) (Q : τ → Hp → Prop) (a : α) (r : ρ) (b : β) (s : ρ') (c : γ) (t : ρ''), Fm F O H → rel1 F O H r a → rel2 F O H s b → rel3 F O H t c → f a b c ≠ .bad → (∀ d x F' H', f a b c = .ok d → Le F F' → Fm F' O H' → rel4 F' O H' x d → Q x H') → u r s t H Q) :
    EG cf E (fun σ H Q => t1 σ H fun r H1 => t2 σ H1 fun s H2 => t3 σ H2 fun t H3 => u r s t H3 Q) G (m1.bind fun a => m2.bind fun b => m3.bind fun c => f a b c) rel4 :=
  EG.bind (u := fun r σ H Q => t2 σ H fun s H2 => t3 σ H2 fun t H3 => u r s t H3 Q) h1 fun F O H σ Q a r hf he hr nb ko ke =>
    h2 F O H σ _ hf he (R.bind_nb nb) (fun b s F' H' eb le hf' hs => by
      rw [eb, R.ok_bind] at nb ko ke
      exact h3 F' O H' σ _ hf' (he.mono le) (R.bind_nb nb) (fun c t F'' H'' ec le' hf'' ht => k F'' O H'' Q a r b s c t hf'' (mono1 F O H F'' H'' r a (le.trans le') hf'' hr) (mono2 F' O H' F'' H'' s b le' hf'' hs) ht (by rw [ec] at nb; exact nb)
        fun d x F3 H3 e le3 => ko d x F3 H3 (by rw [ec]; exact e) ((le.trans le').trans le3)) fun c p d F'' H'' e le' => ke c p d F'' H'' (by rw [e]; rfl) (le.trans le'))
      fun c p d F' H' e => ke c p d F' H' (by rw [e]; rfl)
theorem rm_mono [Enc α] (F O H F' H' : Hp) (r : V) (a : α) (le : Le F F') (_ : Fm F' O H') (h : RM cf F O H r a) : RM cf F' O H' r a := Dr.mono le h
theorem rl_mono [Enc α] (F O H F' H' : Hp) (r : V) (a : List α) (le : Le F F') (_ : Fm F' O H') (h : RL cf F O H r a) : RL cf F' O H' r a := by
  obtain ⟨a, vs, e, h1, h2⟩ := h
  exact ⟨a, vs, e, h1.imp (le _ _) id, h2.mono le⟩
theorem rs_mono [Enc α] (F O H F' H' : Hp) (r : V) (a : List α) (le : Le F F') (_ : Fm F' O H') (h : RS cf F O H r a) : RS cf F' O H' r a := by
  obtain ⟨a, vs, e, h1, h2⟩ := h
  exact ⟨a, vs, e, h1.imp le.seq id, h2.mono le⟩
theorem RS.seq [Enc α] {F O H : Hp} {v : V} {xs : List α} (h : RS cf F O H v xs) (hf : Fm F O H) : ∃ a vs, v = .ref a ∧ SqL cf.K H a vs ∧ DrA cf.K F vs (xs.map toD) := by
  obtain ⟨a, vs, e, h1, h2⟩ := h
  rcases h1 with h1 | h1
  · exact ⟨a, vs, e, hf.f.seq h1, h2⟩
  · exact ⟨a, vs, e, SqL.of (hf.o _ _ h1), h2⟩
theorem RL.at [Enc α] {F O H : Hp} {v : V} {xs : List α} (h : RL cf F O H v xs) (hf : Fm F O H) : ∃ a vs, v = .ref a ∧ H a = some (.lst vs) ∧ DrA cf.K F vs (xs.map toD) := by
  obtain ⟨a, vs, e, h1, h2⟩ := h
  rcases h1 with h1 | h1
  · exact ⟨a, vs, e, hf.f _ _ h1, h2⟩
  · exact ⟨a, vs, e, hf.o _ _ h1, h2⟩

/-! ### numbers -/
variable {ta tb tc : TE}
theorem em_I0 {g : Int → Int → Int} {ma mb : R Int} (ha : EM cf E ta G ma) (hb : EM cf E tb G mb) : EM cf E (tOp (rI0 fun i j => .int (g i j)) ta tb) G (ma.bind fun a => mb.bind fun b => .ok (g a b)) :=
  EG.bind2 (u := fun x y H Q => rI0 (fun i j => .int (g i j)) x y H Q) ha hb rm_mono fun F O H Q a r b s hf h1 h2 _ ko => ⟨a, b, dr_int h1, dr_int h2, ko _ _ F H rfl (Le.refl F) hf (.int _)⟩
theorem em_B0 {g : Int → Int → Bool} {ma mb : R Int} (ha : EM cf E ta G ma) (hb : EM cf E tb G mb) : EM cf E (tOp (rI0 fun i j => .bl (g i j)) ta tb) G (ma.bind fun a => mb.bind fun b => .ok (g a b)) :=
  EG.bind2 (u := fun x y H Q => rI0 (fun i j => .bl (g i j)) x y H Q) ha hb rm_mono fun F O H Q a r b s hf h1 h2 _ ko => ⟨a, b, dr_int h1, dr_int h2, ko _ _ F H rfl (Le.refl F) hf (.bl _)⟩
/-- an operation on two ints under a condition -/
theorem em_IC {C : Int → Int → Prop} {g : Int → Int → Int} {f : Int → Int → R Int} (hC : ∀ a b, f a b ≠ .bad → C a b ∧ f a b = .ok (g a b)) {ma mb : R Int} (ha : EM cf E ta G ma) (hb : EM cf E tb G mb) :
    EM cf E (tOp (rI C fun i j => .int (g i j)) ta tb) G (ma.bind fun a => mb.bind fun b => f a b) :=
  EG.bind2 (u := fun x y H Q => rI C (fun i j => .int (g i j)) x y H Q) ha hb rm_mono fun F O H Q a r b s hf h1 h2 nb ko => ⟨a, b, dr_int h1, dr_int h2, (hC a b nb).1, ko _ _ F H (hC a b nb).2 (Le.refl F) hf (.int _)⟩
theorem em_neg {ma : R Int} (ha : EM cf E ta G ma) : EM cf E (tUn (rU fun i => .int (-i)) ta) G (ma.bind fun a => .ok (-a)) :=
  EG.bind1 (u := fun x H Q => rU (fun i => .int (-i)) x H Q) ha fun F O H Q a r hf h1 _ ko => ⟨a, dr_int h1, ko _ _ F H rfl (Le.refl F) hf (.int _)⟩
/-- * -/
def mulR (a b : Int) : R Int := if (Builtin.Int.intBits a : Int) + (Builtin.Int.intBits b : Int) ≤ 134217728 then .ok (a * b) else .bad
def divR (a b : Int) : R Int := if 0 < b ∧ b.natAbs.log2 < 9000 then .ok (a / b) else .bad
def modR (a b : Int) : R Int := if 0 < b then .ok (a % b) else .bad
def shlR (a b : Int) : R Int := if 0 ≤ b ∧ (Builtin.Int.intBits a : Int) + b ≤ 134217728 then .ok (a * 2 ^ b.toNat) else .bad
def shrR (a b : Int) : R Int := if 0 ≤ b then .ok (a / 2 ^ b.toNat) else .bad
theorem em_mul {ma mb : R Int} (ha : EM cf E ta G ma) (hb : EM cf E tb G mb) : EM cf E (tOp (rI CMulX fun i j => .int (i * j)) ta tb) G (ma.bind fun a => mb.bind fun b => mulR a b) := em_IC (f := mulR) (g := fun a b => a * b) (fun a b h => by
  unfold mulR at *
  split at h
  · rename_i c
    rw [if_pos c]
    exact ⟨c, rfl⟩
  · exact absurd rfl h) ha hb
theorem em_div {ma mb : R Int} (ha : EM cf E ta G ma) (hb : EM cf E tb G mb) : EM cf E (tOp (rI CDivW fun i j => .int (i / j)) ta tb) G (ma.bind fun a => mb.bind fun b => divR a b) := em_IC (f := divR) (g := fun a b => a / b) (fun a b h => by
  unfold divR at *
  split at h
  · rename_i c
    rw [if_pos c]
    exact ⟨c, rfl⟩
  · exact absurd rfl h) ha hb
theorem em_mod {ma mb : R Int} (ha : EM cf E ta G ma) (hb : EM cf E tb G mb) : EM cf E (tOp (rI (fun _ j => 0 < j) fun i j => .int (i % j)) ta tb) G (ma.bind fun a => mb.bind fun b => modR a b) := em_IC (f := modR) (g := fun a b => a % b) (fun a b h => by
  unfold modR at *
  split at h
  · rename_i c
    rw [if_pos c]
    exact ⟨c, rfl⟩
  · exact absurd rfl h) ha hb
theorem em_shl {ma mb : R Int} (ha : EM cf E ta G ma) (hb : EM cf E tb G mb) : EM cf E (tOp (rI CShl fun i j => .int (i * 2 ^ j.toNat)) ta tb) G (ma.bind fun a => mb.bind fun b => shlR a b) := em_IC (f := shlR) (g := fun a b => a * 2 ^ b.toNat) (fun a b h => by
  unfold shlR at *
  split at h
  · rename_i c
    rw [if_pos c]
    exact ⟨c, rfl⟩
  · exact absurd rfl h) ha hb
theorem em_shr {ma mb : R Int} (ha : EM cf E ta G ma) (hb : EM cf E tb G mb) : EM cf E (tOp (rI (fun _ j => 0 ≤ j) fun i j => .int (i / 2 ^ j.toNat)) ta tb) G (ma.bind fun a => mb.bind fun b => shrR a b) := em_IC (f := shrR) (g := fun a b => a / 2 ^ b.toNat) (fun a b h => by
  unfold shrR at *
  split at h
  · rename_i c
    rw [if_pos c]
    exact ⟨c, rfl⟩
  · exact absurd rfl h) ha hb
theorem em_bits {ma : R Int} (ha : EM cf E ta G ma) : EM cf E (tBits ta) G (ma.bind fun a => .ok ((Builtin.Int.intBits a : Nat) : Int)) :=
  EG.bind1 (u := fun (x : V) H Q => ∃ i, x = .int i ∧ Q (V.int (Builtin.Int.intBits i : Nat)) H) ha fun F O H Q a r hf h1 _ ko => ⟨a, dr_int h1, ko _ _ F H rfl (Le.refl F) hf (.int _)⟩

/-! ### comparisons of scalars, None, tests -/
theorem dr_scal {K : PySem.W.Frag} {F : Hp} {i : Int} {v : V} (h : Dr K F v (.int i)) : v = .int i := dr_int h
theorem em_eqI {ma mb : R Int} (ha : EM cf E ta G ma) (hb : EM cf E tb G mb) : EM cf E (tOp rEq ta tb) G (ma.bind fun a => mb.bind fun b => .ok (decide (a = b))) :=
  EG.bind2 (u := fun x y H Q => rEq x y H Q) ha hb rm_mono fun F O H Q a r b s hf h1 h2 _ ko => by
    rw [dr_int (i := a) h1, dr_int (i := b) h2]
    refine ⟨rfl, ?_⟩
    rw [show decide (V.int a = V.int b) = decide (a = b) by by_cases e : a = b <;> simp [e]]
    exact ko _ _ F H rfl (Le.refl F) hf (.bl _)
theorem em_neI {ma mb : R Int} (ha : EM cf E ta G ma) (hb : EM cf E tb G mb) : EM cf E (tOp rNe ta tb) G (ma.bind fun a => mb.bind fun b => .ok (!decide (a = b))) :=
  EG.bind2 (u := fun x y H Q => rNe x y H Q) ha hb rm_mono fun F O H Q a r b s hf h1 h2 _ ko => by
    rw [dr_int (i := a) h1, dr_int (i := b) h2]
    refine ⟨rfl, ?_⟩
    rw [show decide (V.int a = V.int b) = decide (a = b) by by_cases e : a = b <;> simp [e]]
    exact ko _ _ F H rfl (Le.refl F) hf (.bl _)
theorem em_eqB {ma mb : R Bool} (ha : EM cf E ta G ma) (hb : EM cf E tb G mb) : EM cf E (tOp rEq ta tb) G (ma.bind fun a => mb.bind fun b => .ok (decide (a = b))) :=
  EG.bind2 (u := fun x y H Q => rEq x y H Q) ha hb rm_mono fun F O H Q a r b s hf h1 h2 _ ko => by
    rw [dr_bl (i := a) h1, dr_bl (i := b) h2]
    refine ⟨rfl, ?_⟩
    rw [show decide (V.bl a = V.bl b) = decide (a = b) by by_cases e : a = b <;> simp [e]]
    exact ko _ _ F H rfl (Le.refl F) hf (.bl _)
theorem em_neB {ma mb : R Bool} (ha : EM cf E ta G ma) (hb : EM cf E tb G mb) : EM cf E (tOp rNe ta tb) G (ma.bind fun a => mb.bind fun b => .ok (!decide (a = b))) :=
  EG.bind2 (u := fun x y H Q => rNe x y H Q) ha hb rm_mono fun F O H Q a r b s hf h1 h2 _ ko => by
    rw [dr_bl (i := a) h1, dr_bl (i := b) h2]
    refine ⟨rfl, ?_⟩
    rw [show decide (V.bl a = V.bl b) = decide (a = b) by by_cases e : a = b <;> simp [e]]
    exact ko _ _ F H rfl (Le.refl F) hf (.bl _)
theorem isNone_of [Enc α] [NN α] {K : PySem.W.Frag} {F : Hp} {v : V} {o : Option α} (h : Dr K F v (toD o)) : decide (v = .non) = o.isNone := by
  cases o with
  | none =>
    rw [dr_non h]
    rfl
  | some a =>
    refine decide_eq_false fun e => ?_
    subst e
    have h' : Dr K F .non (toD a) := h
    generalize q : toD a = d at h'
    cases h'
    exact NN.nn a q
theorem em_isN [Enc α] [NN α] {ma : R (Option α)} (ha : EM cf E ta G ma) : EM cf E (tOp (fun x y H Q => y = .non ∧ Q (.bl (decide (x = .non))) H) ta (tC .non)) G (ma.bind fun a => .ok a.isNone) :=
  EG.bind1 (u := fun (x : V) (H : Hp) (Q : VK) => (V.non = V.non ∧ Q (V.bl (decide (x = V.non))) H)) ha fun F O H Q a r hf h1 _ ko => by
    rw [isNone_of h1]
    exact ⟨rfl, ko _ _ F H rfl (Le.refl F) hf (.bl _)⟩
theorem em_notN [Enc α] [NN α] {ma : R (Option α)} (ha : EM cf E ta G ma) : EM cf E (tOp (fun x y H Q => y = .non ∧ Q (.bl (!decide (x = .non))) H) ta (tC .non)) G (ma.bind fun a => .ok a.isSome) :=
  EG.bind1 (u := fun (x : V) (H : Hp) (Q : VK) => (V.non = V.non ∧ Q (V.bl (!decide (x = V.non))) H)) ha fun F O H Q a r hf h1 _ ko => by
    rw [isNone_of h1]
    exact ⟨rfl, ko _ _ F H rfl (Le.refl F) hf (by cases a <;> exact .bl _)⟩
theorem eb_test {ma : R Bool} (ha : EM cf E ta G ma) : EB cf E (tTest ta) G ma := fun F O H σ Q hf he nb ko ke =>
  ha F O H σ _ hf he nb (fun a v F' H' e le hf' hr => ⟨a, dr_bl hr, ko a a F' H' e le hf' rfl⟩) ke
theorem eb_B {ma : R Bool} (ha : EM cf E ta G ma) : EB cf E (tB ta) G ma := fun F O H σ Q hf he nb ko ke =>
  ha F O H σ _ hf he nb (fun a v F' H' e le hf' hr => ⟨a, dr_bl hr, ko a a F' H' e le hf' rfl⟩) ke
variable {t u : TT}
theorem eb_and {ma mb : R Bool} (ha : EB cf E t G ma) (hb : EB cf E u G mb) : EB cf E (tAnd t u) G (ma.bind fun a => if a = true then mb else .ok false) :=
  EG.bind (u := fun c σ H Q => if c = true then u σ H Q else Q false H) ha fun F O H σ Q a r hf he hr nb ko ke => by
    obtain rfl : r = a := hr
    cases r with
    | true => exact hb F O H σ Q hf he nb ko ke
    | false => exact ko false false F H rfl (Le.refl F) hf rfl
theorem eb_or {ma mb : R Bool} (ha : EB cf E t G ma) (hb : EB cf E u G mb) : EB cf E (tOr t u) G (ma.bind fun a => if a = true then .ok true else mb) :=
  EG.bind (u := fun c σ H Q => if c = true then Q true H else u σ H Q) ha fun F O H σ Q a r hf he hr nb ko ke => by
    obtain rfl : r = a := hr
    cases r with
    | true => exact ko true true F H rfl (Le.refl F) hf rfl
    | false => exact hb F O H σ Q hf he nb ko ke
theorem eb_not {ma : R Bool} (ha : EB cf E t G ma) : EB cf E (tNot t) G (ma.bind fun a => .ok (!a)) :=
  EG.bind1 (u := fun c H Q => Q (!c) H) ha fun F O H Q a r hf hr _ ko => by
    obtain rfl : r = a := hr
    exact ko _ _ F H rfl (Le.refl F) hf rfl
theorem em_and {ma mb : R Bool} (ha : EM cf E ta G ma) (hb : EM cf E tb G mb) : EM cf E (tAndV ta tb) G (ma.bind fun a => if a = true then mb else .ok false) :=
  EG.bind (u := fun (x : V) σ H (Q : VK) => ∃ c, x = V.bl c ∧ if c = true then tb σ H Q else Q (.bl false) H) ha fun F O H σ Q a r hf he hr nb ko ke => ⟨a, dr_bl hr, by
    cases a with
    | true => exact hb F O H σ Q hf he nb ko ke
    | false => exact ko false _ F H rfl (Le.refl F) hf (.bl false)⟩
theorem em_or {ma mb : R Bool} (ha : EM cf E ta G ma) (hb : EM cf E tb G mb) : EM cf E (tOrV ta tb) G (ma.bind fun a => if a = true then .ok true else mb) :=
  EG.bind (u := fun (x : V) σ H (Q : VK) => ∃ c, x = V.bl c ∧ if c = true then Q (.bl true) H else tb σ H Q) ha fun F O H σ Q a r hf he hr nb ko ke => ⟨a, dr_bl hr, by
    cases a with
    | true => exact ko true _ F H rfl (Le.refl F) hf (.bl true)
    | false => exact hb F O H σ Q hf he nb ko ke⟩
theorem em_not {ma : R Bool} (ha : EM cf E ta G ma) : EM cf E (tNotV ta) G (ma.bind fun a => .ok (!a)) :=
  EG.bind1 (u := fun (x : V) H (Q : VK) => ∃ c, x = V.bl c ∧ Q (V.bl (!c)) H) ha fun F O H Q a r hf hr _ ko => ⟨a, dr_bl hr, ko _ _ F H rfl (Le.refl F) hf (.bl _)⟩
theorem em_if [Enc α] {mt : R Bool} {ma mb : R α} (ht : EB cf E t G mt) (ha : EM cf E ta G ma) (hb : EM cf E tb G mb) : EM cf E (tIf t ta tb) G (mt.bind fun c => if c = true then ma else mb) :=
  EG.bind (u := fun c σ H Q => if c = true then ta σ H Q else tb σ H Q) ht fun F O H σ Q a r hf he hr nb ko ke => by
    obtain rfl : r = a := hr
    cases r with
    | true => exact ha F O H σ Q hf he nb ko ke
    | false => exact hb F O H σ Q hf he nb ko ke
end
end Kr

/-! KrC: lists, tuples, built-in calls by data. -/
namespace Kr
open PySem PySem.Spec PyProof.Rows L2
open Enc (toD)

section
variable {cf : Cf} {E : XK} {G : List Sl} {α β γ δ : Type} {ta tb tc : TE}
/-! ### chains -/
theorem em_chain {g g' : Int → Int → Bool} {ma mb mc : R Int} (ha : EM cf E ta G ma) (hb : EM cf E tb G mb) (hc : EM cf E tc G mc) :
    EM cf E (tChain (rI0 fun i j => .bl (g i j)) (rI0 fun i j => .bl (g' i j)) ta tb tc) G (ma.bind fun a => mb.bind fun b => if g a b = true then mc.bind fun c => .ok (g' b c) else .ok false) :=
  EG.bind (u := fun x σ H Q => tb σ H fun y H2 => rI0 (fun i j => .bl (g i j)) x y H2 fun z H3 => ∃ k, z = .bl k ∧ (if k = true then tc σ H3 fun w' H4 => rI0 (fun i j => .bl (g' i j)) y w' H4 Q else Q (.bl false) H3)) ha fun F O H σ Q a x hf he hx nb ko ke =>
    hb F O H σ _ hf he (R.bind_nb nb) (fun b y F' H' eb le hf' hy => ⟨a, b, dr_int hx, dr_int hy, g a b, rfl, by
      rw [eb, R.ok_bind] at nb ko ke
      cases hg : g a b with
      | true =>
        rw [hg, if_pos rfl] at nb ko ke
        rw [if_pos rfl]
        exact hc F' O H' σ _ hf' (he.mono le) (R.bind_nb nb) (fun c w' F'' H'' ec le' hf'' hw => ⟨b, c, dr_int hy, dr_int hw, ko _ _ F'' H'' (by rw [ec]; rfl) (le.trans le') hf'' (.bl _)⟩) fun c p d F'' H'' e le' => ke c p d F'' H'' (by rw [e]; rfl) (le.trans le')
      | false =>
        rw [hg, if_neg Bool.false_ne_true] at ko
        rw [if_neg Bool.false_ne_true]
        exact ko _ _ F' H' rfl le hf' (.bl _)⟩) fun c p d F' H' e => ke c p d F' H' (by rw [e]; rfl)

/-! ### arguments, displays -/
theorem ea_nil : EA cf E tNil G (.ok []) := EG.fin fun F O H σ Q hf he ko => ko _ F H (Le.refl F) hf .nil
theorem ea_cons [Enc α] {t : TE} {tr : TA} {m : R α} {mr : R (List Dt)} (h : EM cf E t G m) (hr : EA cf E tr G mr) : EA cf E (tCons t tr) G (m.bind fun a => mr.bind fun ds => .ok (toD a :: ds)) :=
  EG.bind2 (u := fun x xs H Q => Q (x :: xs) H) h hr rm_mono fun F O H Q a r b s hf h1 h2 _ ko => ko _ _ F H rfl (Le.refl F) hf (.cons h1 h2)
/-- arguments of one type -/
def EAs [Enc α] (cf : Cf) (E : XK) (t : TA) (G : List Sl) (m : R (List α)) : Prop := EG cf E t G m fun F _ _ vs xs => DrA cf.K F vs (xs.map toD)
theorem eas_nil [Enc α] : EAs cf E tNil G (.ok ([] : List α)) := EG.fin fun F O H σ Q hf he ko => ko _ F H (Le.refl F) hf .nil
theorem eas_cons [Enc α] {t : TE} {tr : TA} {m : R α} {mr : R (List α)} (h : EM cf E t G m) (hr : EAs cf E tr G mr) : EAs cf E (tCons t tr) G (m.bind fun a => mr.bind fun ds => .ok (a :: ds)) :=
  EG.bind2 (u := fun x xs H Q => Q (x :: xs) H) h hr rm_mono fun F O H Q a r b s hf h1 h2 _ ko => ko _ _ F H rfl (Le.refl F) hf (.cons h1 h2)
theorem sz_of {n : Nat} (h : n ≤ 100000) : n ≤ sizeLine := Nat.le_trans h (by decide)
theorem sz_lt {n : Nat} (h : n < 100000) : n < sizeLine := Nat.lt_of_lt_of_le h (by decide)
/-- a list that does not grow too long -/
def szR (xs : List α) : R (List α) := if xs.length ≤ 1000000 then .ok xs else .bad
theorem szR_ok {xs : List α} (h : xs.length ≤ 1000000) : szR xs = .ok xs := if_pos h
theorem szR_nb {xs : List α} (h : szR xs ≠ .bad) : xs.length ≤ 1000000 ∧ szR xs = .ok xs := by
  unfold szR at *
  split at h
  · rename_i c
    exact ⟨c, if_pos c⟩
  · exact absurd rfl h
theorem sz_le {n : Nat} (h : n ≤ 1000000) : n ≤ sizeLine := Nat.le_trans h (by decide)
theorem sz_ltM {n : Nat} (h : n ≤ 1000000) : n < sizeLine := Nat.lt_of_le_of_lt h (by decide)
theorem ef_lst [Enc α] {t : TA} {m : R (List α)} (h : EAs cf E t G m) : EF cf E (tLst t) G (m.bind szR) :=
  EG.bind1 (u := fun (vs : List V) (H : Hp) (Q : VK) => vs.length ≤ sizeLine ∧ ∀ p, H p = none → Q (.ref p) (upd H p (.lst vs))) h fun F O H Q a r hf h1 nb ko => by
    obtain ⟨c, e⟩ := szR_nb nb
    refine ⟨?_, fun p hp => ko _ _ F _ e (Le.refl F) (hf.newH hp) ⟨p, r, rfl, hf.fnone hp, hf.onone hp, upd_same, h1⟩⟩
    rw [DrA.length h1, List.length_map]
    exact sz_le c
theorem em_tup2 [Enc α] [Enc β] {m : R α} {n : R β} (h : EM cf E ta G m) (h' : EM cf E tb G n) : EM cf E (tTup (tCons ta (tCons tb tNil))) G (m.bind fun a => n.bind fun b => .ok (a, b)) :=
  EG.bind2 (u := fun (x y : V) (H : Hp) (Q : VK) => 2 ≤ sizeLine ∧ ∀ p, H p = none → Q (.ref p) (upd H p (.tup [x, y]))) h h' rm_mono fun F O H Q a r b s hf h1 h2 _ ko =>
    ⟨by decide, fun p hp => ko _ _ (upd F p (.tup [r, s])) _ rfl (Le.new (hf.fnone hp)) (hf.newF hp) (.tup upd_same (.cons (Dr.mono (Le.new (hf.fnone hp)) h1) (.cons (Dr.mono (Le.new (hf.fnone hp)) h2) .nil)))⟩
theorem em_tup3 [Enc α] [Enc β] [Enc γ] {m : R α} {n : R β} {l : R γ} (h : EM cf E ta G m) (h' : EM cf E tb G n) (h'' : EM cf E tc G l) : EM cf E (tTup (tCons ta (tCons tb (tCons tc tNil)))) G (m.bind fun a => n.bind fun b => l.bind fun c => .ok (T3.mk a b c)) :=
  EG.bind3 (u := fun (x y z : V) (H : Hp) (Q : VK) => 3 ≤ sizeLine ∧ ∀ p, H p = none → Q (.ref p) (upd H p (.tup [x, y, z]))) h h' h'' rm_mono rm_mono fun F O H Q a r b s c t hf h1 h2 h3 _ ko =>
    ⟨by decide, fun p hp => ko _ _ (upd F p (.tup [r, s, t])) _ rfl (Le.new (hf.fnone hp)) (hf.newF hp) (.tup upd_same (.cons (Dr.mono (Le.new (hf.fnone hp)) h1) (.cons (Dr.mono (Le.new (hf.fnone hp)) h2) (.cons (Dr.mono (Le.new (hf.fnone hp)) h3) .nil))))⟩

/-! ### subscripts, slices -/
def idxR (xs : List α) (i : Int) : R α := match atI xs i with
  | some a => .ok a
  | none => .bad
theorem atI_map {β : Type} (f : α → β) (xs : List α) (i : Int) : atI (xs.map f) i = (atI xs i).map f := by
  unfold atI
  rw [List.length_map]
  cases ixN xs.length i with
  | none => rfl
  | some j => simp
theorem atI_drA {K : PySem.W.Frag} {F : Hp} {vs : List V} {ds : List Dt} {i : Int} {d : Dt} (h : DrA K F vs ds) (e : atI ds i = some d) : ∃ v, atI vs i = some v ∧ Dr K F v d := by
  unfold atI at *
  rw [h.length]
  cases q : ixN ds.length i with
  | none =>
    rw [q] at e
    cases e
  | some j =>
    rw [q] at e
    exact h.get e
theorem em_ixL [Enc α] {m : R (List α)} {n : R Int} (h : ES cf E ta G m) (h' : EM cf E tb G n) : EM cf E (tOp (rIxL cf.K) ta tb) G (m.bind fun xs => n.bind fun i => idxR xs i) :=
  EG.bind2 (u := fun x y H Q => rIxL cf.K x y H Q) h h' rs_mono fun F O H Q xs r i s hf h1 h2 nb ko => by
    obtain ⟨a, vs, e, hs, hr⟩ := RS.seq h1 hf
    unfold idxR at nb ko
    cases q : atI xs i with
    | none =>
      rw [q] at nb
      exact absurd rfl nb
    | some x =>
      rw [q] at ko
      obtain ⟨v, ev, rv⟩ := atI_drA hr (show atI (xs.map toD) i = some (toD x) by rw [atI_map, q]; rfl)
      exact ⟨a, vs, i, v, e, dr_int h2, hs, ev, ko x v F H rfl (Le.refl F) hf rv⟩
theorem em_fst [Enc α] [Enc β] {m : R (α × β)} (h : EM cf E ta G m) : EM cf E (tOp (rIxT cf.K) ta (tC (.int 0))) G (m.bind fun p => .ok p.1) :=
  EG.bind1 (u := fun x H Q => rIxT cf.K x (.int 0) H Q) h fun F O H Q a r hf h1 _ ko => by
    obtain ⟨p, vs, e, ht, hr⟩ := dr_tup (ds := [toD a.1, toD a.2]) h1
    obtain ⟨v, ev, rv⟩ := atI_drA hr (show atI [toD a.1, toD a.2] 0 = some (toD a.1) from rfl)
    exact ⟨p, vs, 0, v, e, rfl, SqT.of (hf.f _ _ ht), ev, ko _ v F H rfl (Le.refl F) hf rv⟩
theorem em_snd [Enc α] [Enc β] {m : R (α × β)} (h : EM cf E ta G m) : EM cf E (tOp (rIxT cf.K) ta (tC (.int 1))) G (m.bind fun p => .ok p.2) :=
  EG.bind1 (u := fun x H Q => rIxT cf.K x (.int 1) H Q) h fun F O H Q a r hf h1 _ ko => by
    obtain ⟨p, vs, e, ht, hr⟩ := dr_tup (ds := [toD a.1, toD a.2]) h1
    obtain ⟨v, ev, rv⟩ := atI_drA hr (show atI [toD a.1, toD a.2] 1 = some (toD a.2) from rfl)
    exact ⟨p, vs, 1, v, e, rfl, SqT.of (hf.f _ _ ht), ev, ko _ v F H rfl (Le.refl F) hf rv⟩
theorem em_t30 [Enc α] [Enc β] [Enc γ] {m : R (T3 α β γ)} (h : EM cf E ta G m) : EM cf E (tOp (rIxT cf.K) ta (tC (.int 0))) G (m.bind fun p => .ok p.a) :=
  EG.bind1 (u := fun x H Q => rIxT cf.K x (.int 0) H Q) h fun F O H Q a r hf h1 _ ko => by
    obtain ⟨p, vs, e, ht, hr⟩ := dr_tup (ds := [toD a.a, toD a.b, toD a.c]) h1
    obtain ⟨v, ev, rv⟩ := atI_drA hr (show atI [toD a.a, toD a.b, toD a.c] 0 = some (toD a.a) from rfl)
    exact ⟨p, vs, 0, v, e, rfl, SqT.of (hf.f _ _ ht), ev, ko _ v F H rfl (Le.refl F) hf rv⟩
theorem em_t31 [Enc α] [Enc β] [Enc γ] {m : R (T3 α β γ)} (h : EM cf E ta G m) : EM cf E (tOp (rIxT cf.K) ta (tC (.int 1))) G (m.bind fun p => .ok p.b) :=
  EG.bind1 (u := fun x H Q => rIxT cf.K x (.int 1) H Q) h fun F O H Q a r hf h1 _ ko => by
    obtain ⟨p, vs, e, ht, hr⟩ := dr_tup (ds := [toD a.a, toD a.b, toD a.c]) h1
    obtain ⟨v, ev, rv⟩ := atI_drA hr (show atI [toD a.a, toD a.b, toD a.c] 1 = some (toD a.b) from rfl)
    exact ⟨p, vs, 1, v, e, rfl, SqT.of (hf.f _ _ ht), ev, ko _ v F H rfl (Le.refl F) hf rv⟩
theorem em_t32 [Enc α] [Enc β] [Enc γ] {m : R (T3 α β γ)} (h : EM cf E ta G m) : EM cf E (tOp (rIxT cf.K) ta (tC (.int 2))) G (m.bind fun p => .ok p.c) :=
  EG.bind1 (u := fun x H Q => rIxT cf.K x (.int 2) H Q) h fun F O H Q a r hf h1 _ ko => by
    obtain ⟨p, vs, e, ht, hr⟩ := dr_tup (ds := [toD a.a, toD a.b, toD a.c]) h1
    obtain ⟨v, ev, rv⟩ := atI_drA hr (show atI [toD a.a, toD a.b, toD a.c] 2 = some (toD a.c) from rfl)
    exact ⟨p, vs, 2, v, e, rfl, SqT.of (hf.f _ _ ht), ev, ko _ v F H rfl (Le.refl F) hf rv⟩
/-- xs[lo:hi] -/
def cut (xs : List α) (lo hi : Option Int) : List α := (xs.drop (HT.sIx xs.length 0 lo)).take (HT.sIx xs.length xs.length hi - HT.sIx xs.length 0 lo)
theorem cut_map {β : Type} (f : α → β) (xs : List α) (lo hi : Option Int) : cut (xs.map f) lo hi = (cut xs lo hi).map f := by
  unfold cut
  rw [List.length_map, List.map_take, List.map_drop]
theorem cut_drA {K : PySem.W.Frag} {F : Hp} {vs : List V} {ds : List Dt} (lo hi : Option Int) (h : DrA K F vs ds) : DrA K F (cutV vs lo hi) (cut ds lo hi) := by
  unfold cutV cut
  rw [h.length]
  exact (h.drop _).take _
theorem eo_none : EO cf E tNoPart G (.ok none) := EG.fin fun F O H σ Q hf he ko => ko _ F H (Le.refl F) hf rfl
theorem eo_some {m : R Int} (h : EM cf E ta G m) : EO cf E (tPart ta) G (m.bind fun i => .ok (some i)) :=
  EG.bind1 (u := fun (x : V) (H : Hp) (Q : Option Int → Hp → Prop) => ∃ i, x = .int i ∧ Q (some i) H) h fun F O H Q a r hf h1 _ ko => ⟨a, dr_int h1, ko _ _ F H rfl (Le.refl F) hf rfl⟩
theorem ef_sl [Enc α] {tl th : TO} {m : R (List α)} {ml mh : R (Option Int)} (h : ES cf E ta G m) (hl : EO cf E tl G ml) (hh : EO cf E th G mh) :
    EF cf E (tSl (rSlL cf.K) ta tl th) G (m.bind fun xs => ml.bind fun lo => mh.bind fun hi => .ok (cut xs lo hi)) :=
  EG.bind3 (u := fun x lo hi H Q => rSlL cf.K x lo hi H Q) h hl hh rs_mono (fun _ _ _ _ _ _ _ _ _ h => h) fun F O H Q xs r lo lo' hi hi' hf h1 h2 h3 _ ko => by
    obtain ⟨a, vs, e, hs, hr⟩ := RS.seq h1 hf
    obtain rfl : lo' = lo := h2
    obtain rfl : hi' = hi := h3
    exact ⟨a, vs, e, hs, fun p hp => ko _ _ F _ rfl (Le.refl F) (hf.newH hp) ⟨p, _, rfl, hf.fnone hp, hf.onone hp, upd_same, by
      rw [← cut_map]
      exact cut_drA lo' hi' hr⟩⟩

/-! ### operators on lists -/
theorem ef_cat [Enc α] {m n : R (List α)} (h : EL cf E ta G m) (h' : EL cf E tb G n) : EF cf E (tOp rCat ta tb) G (m.bind fun xs => n.bind fun ys => szR (xs ++ ys)) :=
  EG.bind2 (u := fun x y H Q => rCat x y H Q) h h' rl_mono fun F O H Q xs r ys s hf h1 h2 nb ko => by
    obtain ⟨c, ec⟩ := szR_nb nb
    obtain ⟨a, vs, e, ha, hr⟩ := RL.at h1 hf
    obtain ⟨b, ws, e', hb, hr'⟩ := RL.at h2 hf
    refine ⟨a, b, vs, ws, e, e', ha, hb, ?_, fun p hp => ko _ _ F _ ec (Le.refl F) (hf.newH hp) ⟨p, _, rfl, hf.fnone hp, hf.onone hp, upd_same, by
      rw [List.map_append]
      exact hr.append hr'⟩⟩
    rw [hr.length, hr'.length, List.length_map, List.length_map, ← List.length_append]
    exact sz_le c
def repR (xs : List α) (k : Int) : R (List α) := if -(2 ^ 63) ≤ k ∧ k < 2 ^ 63 ∧ xs.length * k.toNat ≤ 1000000 then .ok (List.replicate k.toNat xs).flatten else .bad
theorem repR_nb {xs : List α} {k : Int} (h : repR xs k ≠ .bad) : (-(2 ^ 63) ≤ k ∧ k < 2 ^ 63 ∧ xs.length * k.toNat ≤ 1000000) ∧ repR xs k = .ok (List.replicate k.toNat xs).flatten := by
  unfold repR at *
  split at h
  · rename_i c
    exact ⟨c, if_pos c⟩
  · exact absurd rfl h
theorem map_rep {β : Type} (f : α → β) (xs : List α) (k : Nat) : (List.replicate k xs).flatten.map f = (List.replicate k (xs.map f)).flatten := by
  rw [List.map_flatten, List.map_replicate]
theorem ef_rep [Enc α] {m : R (List α)} {n : R Int} (h : EL cf E ta G m) (h' : EM cf E tb G n) : EF cf E (tOp rRep ta tb) G (m.bind fun xs => n.bind fun k => repR xs k) :=
  EG.bind2 (u := fun x y H Q => rRep x y H Q) h h' rl_mono fun F O H Q xs r k s hf h1 h2 nb ko => by
    obtain ⟨⟨c1, c2, c3⟩, ec⟩ := repR_nb nb
    obtain ⟨a, vs, e, ha, hr⟩ := RL.at h1 hf
    refine ⟨a, k, vs, e, dr_int h2, ha, c1, c2, ?_, fun p hp => ko _ _ F _ ec (Le.refl F) (hf.newH hp) ⟨p, _, rfl, hf.fnone hp, hf.onone hp, upd_same, by
      rw [map_rep]
      exact hr.rep _⟩⟩
    rw [hr.length, List.length_map]
    exact sz_le c3

/-! ### built-ins -/
/-- a call of one argument -/
theorem EG.call1 {τ ρ : Type} {rel1 : Hp → Hp → Hp → V → α → Prop} {rel3 : Hp → Hp → Hp → τ → γ → Prop} {m : R α} {f : α → R γ} {u : List V → Hp → (τ → Hp → Prop) → Prop} (h : EG cf E ta G m rel1)
    (k : ∀ (F O H : Hp) (Q : τ → Hp → Prop) (a : α) (r : V), Fm F O H → rel1 F O H r a → f a ≠ .bad → (∀ c x F' H', f a = .ok c → Le F F' → Fm F' O H' → rel3 F' O H' x c → Q x H') → u [r] H Q) :
    EG cf E (fun σ H Q => tCons ta tNil σ H fun vs H1 => u vs H1 Q) G (m.bind f) rel3 := EG.bind1 (u := fun r H Q => u [r] H Q) h k
theorem EG.call2 {τ ρ : Type} {rel1 : Hp → Hp → Hp → V → α → Prop} {rel2 : Hp → Hp → Hp → V → β → Prop} {rel3 : Hp → Hp → Hp → τ → γ → Prop} {m : R α} {n : R β} {f : α → β → R γ} {u : List V → Hp → (τ → Hp → Prop) → Prop} (h : EG cf E ta G m rel1) (h' : EG cf E tb G n rel2)
    (mono : ∀ F O H F' H' r a, Le F F' → Fm F' O H' → rel1 F O H r a → rel1 F' O H' r a)
    (k : ∀ (F O H : Hp) (Q : τ → Hp → Prop) (a : α) (r : V) (b : β) (s : V), Fm F O H → rel1 F O H r a → rel2 F O H s b → f a b ≠ .bad → (∀ c x F' H', f a b = .ok c → Le F F' → Fm F' O H' → rel3 F' O H' x c → Q x H') → u [r, s] H Q) :
    EG cf E (fun σ H Q => tCons ta (tCons tb tNil) σ H fun vs H1 => u vs H1 Q) G (m.bind fun a => n.bind fun b => f a b) rel3 := EG.bind2 (u := fun r s H Q => u [r, s] H Q) h h' mono k
def rLenS (K : PySem.W.Frag) : List V → Hp → VK → Prop := fun xs H Q => ∃ p ys, xs = [.ref p] ∧ (SqL K H p ys ∨ SqT K H p ys) ∧ Q (.int ys.length) H
theorem em_len [Enc α] {m : R (List α)} (h : ES cf E ta G m) : EM cf E (tCB (rLenS cf.K) (tCons ta tNil)) G (m.bind fun xs => .ok (xs.length : Int)) :=
  EG.call1 (ρ := Unit) h fun F O H Q xs r hf h1 _ ko => by
    obtain ⟨a, vs, e, hs, hr⟩ := RS.seq h1 hf
    refine ⟨a, vs, by rw [e], .inl hs, ?_⟩
    rw [hr.length, List.length_map]
    exact ko _ _ F H rfl (Le.refl F) hf (.int _)
theorem em_sum {m : R (List Int)} (h : ES cf E ta G m) : EM cf E (tCB (rSum cf.K) (tCons ta tNil)) G (m.bind fun xs => .ok xs.sum) :=
  EG.call1 (ρ := Unit) h fun F O H Q xs r hf h1 _ ko => by
    obtain ⟨a, vs, e, hs, hr⟩ := RS.seq h1 hf
    rw [ints_of_drA hr] at hs
    exact ⟨a, xs, by rw [e], hs, ko _ _ F H rfl (Le.refl F) hf (.int _)⟩
def maxR (xs : List Int) : R Int := match xs with
  | [] => .bad
  | x :: r => .ok (r.foldl max x)
def minR (xs : List Int) : R Int := match xs with
  | [] => .bad
  | x :: r => .ok (r.foldl min x)
theorem foldl_max_mem : ∀ (r : List Int) (x : Int), r.foldl max x ∈ x :: r ∧ ∀ y ∈ x :: r, y ≤ r.foldl max x
  | [], x => ⟨by simp, by simp⟩
  | y :: r, x => by
    obtain ⟨h1, h2⟩ := foldl_max_mem r (max x y)
    rw [List.foldl_cons]
    refine ⟨?_, fun z hz => ?_⟩
    · rcases List.mem_cons.mp h1 with e | h1
      · rw [e]
        by_cases c : x ≤ y
        · rw [Int.max_eq_right c]; simp
        · rw [Int.max_eq_left (by omega)]; simp
      · simp [h1]
    · have hm := h2 (max x y) (by simp)
      rcases List.mem_cons.mp hz with e | hz
      · subst e
        exact Int.le_trans (Int.le_max_left _ _) hm
      · rcases List.mem_cons.mp hz with e | hz
        · subst e
          exact Int.le_trans (Int.le_max_right _ _) hm
        · exact h2 z (by simp [hz])
theorem foldl_min_mem : ∀ (r : List Int) (x : Int), r.foldl min x ∈ x :: r ∧ ∀ y ∈ x :: r, r.foldl min x ≤ y
  | [], x => ⟨by simp, by simp⟩
  | y :: r, x => by
    obtain ⟨h1, h2⟩ := foldl_min_mem r (min x y)
    rw [List.foldl_cons]
    refine ⟨?_, fun z hz => ?_⟩
    · rcases List.mem_cons.mp h1 with e | h1
      · rw [e]
        by_cases c : x ≤ y
        · rw [Int.min_eq_left c]; simp
        · rw [Int.min_eq_right (by omega)]; simp
      · simp [h1]
    · have hm := h2 (min x y) (by simp)
      rcases List.mem_cons.mp hz with e | hz
      · subst e
        exact Int.le_trans hm (Int.min_le_left _ _)
      · rcases List.mem_cons.mp hz with e | hz
        · subst e
          exact Int.le_trans hm (Int.min_le_right _ _)
        · exact h2 z (by simp [hz])
theorem em_max {m : R (List Int)} (h : ES cf E ta G m) : EM cf E (tCB (rMax cf.K) (tCons ta tNil)) G (m.bind maxR) :=
  EG.call1 (ρ := Unit) h fun F O H Q xs r hf h1 nb ko => by
    obtain ⟨a, vs, e, hs, hr⟩ := RS.seq h1 hf
    rw [ints_of_drA hr] at hs
    cases xs with
    | nil => exact absurd rfl nb
    | cons x q =>
      refine ⟨a, x :: q, by rw [e], hs, by simp, fun y hy hle => ?_⟩
      obtain ⟨g1, g2⟩ := foldl_max_mem q x
      have e2 : y = q.foldl max x := Int.le_antisymm (g2 y hy) (hle _ g1)
      rw [e2]
      exact ko _ _ F H rfl (Le.refl F) hf (.int _)
theorem em_min {m : R (List Int)} (h : ES cf E ta G m) : EM cf E (tCB (rMin cf.K) (tCons ta tNil)) G (m.bind minR) :=
  EG.call1 (ρ := Unit) h fun F O H Q xs r hf h1 nb ko => by
    obtain ⟨a, vs, e, hs, hr⟩ := RS.seq h1 hf
    rw [ints_of_drA hr] at hs
    cases xs with
    | nil => exact absurd rfl nb
    | cons x q =>
      refine ⟨a, x :: q, by rw [e], hs, by simp, fun y hy hle => ?_⟩
      obtain ⟨g1, g2⟩ := foldl_min_mem q x
      have e2 : y = q.foldl min x := Int.le_antisymm (hle _ g1) (g2 y hy)
      rw [e2]
      exact ko _ _ F H rfl (Le.refl F) hf (.int _)
def rMax2 : List V → Hp → VK → Prop := fun xs H Q => ∃ i j, xs = [.int i, .int j] ∧ Q (.int (if j > i then j else i)) H
def rMin2 : List V → Hp → VK → Prop := fun xs H Q => ∃ i j, xs = [.int i, .int j] ∧ Q (.int (if j < i then j else i)) H
theorem em_max2 {m n : R Int} (h : EM cf E ta G m) (h' : EM cf E tb G n) : EM cf E (tCB rMax2 (tCons ta (tCons tb tNil))) G (m.bind fun a => n.bind fun b => .ok (max a b)) :=
  EG.call2 (ρ := Unit) h h' rm_mono fun F O H Q a r b s hf h1 h2 _ ko => ⟨a, b, by rw [dr_int (i := a) h1, dr_int (i := b) h2], by
    rw [show (if b > a then b else a) = max a b by split <;> omega]
    exact ko _ _ F H rfl (Le.refl F) hf (.int _)⟩
theorem em_min2 {m n : R Int} (h : EM cf E ta G m) (h' : EM cf E tb G n) : EM cf E (tCB rMin2 (tCons ta (tCons tb tNil))) G (m.bind fun a => n.bind fun b => .ok (min a b)) :=
  EG.call2 (ρ := Unit) h h' rm_mono fun F O H Q a r b s hf h1 h2 _ ko => ⟨a, b, by rw [dr_int (i := a) h1, dr_int (i := b) h2], by
    rw [show (if b < a then b else a) = min a b by split <;> omega]
    exact ko _ _ F H rfl (Le.refl F) hf (.int _)⟩
def rInt1 : List V → Hp → VK → Prop := fun xs H Q => (∃ i, xs = [.int i] ∧ Q (.int i) H) ∨ ∃ k, xs = [.bl k] ∧ Q (.int (if k then 1 else 0)) H
theorem em_intI {m : R Int} (h : EM cf E ta G m) : EM cf E (tCB rInt1 (tCons ta tNil)) G m := EG.cast (EG.call1 (ρ := Unit) h fun F O H Q a r hf h1 _ ko => .inl ⟨a, by rw [dr_int (i := a) h1], ko a _ F H rfl (Le.refl F) hf (.int a)⟩) (R.bind_ok m)
theorem em_intB {m : R Bool} (h : EM cf E ta G m) : EM cf E (tCB rInt1 (tCons ta tNil)) G (m.bind fun b => .ok (if b then (1 : Int) else 0)) := EG.call1 (ρ := Unit) h fun F O H Q a r hf h1 _ ko => .inr ⟨a, by rw [dr_bl (i := a) h1], ko _ _ F H rfl (Le.refl F) hf (.int _)⟩
def rListS (K : PySem.W.Frag) : List V → Hp → VK → Prop := fun xs H Q => ∃ p ys, xs = [.ref p] ∧ (SqL K H p ys ∨ SqT K H p ys) ∧ ∀ l, H l = none → Q (.ref l) (upd H l (.lst ys))
theorem ef_list [Enc α] {m : R (List α)} (h : ES cf E ta G m) : EF cf E (tCB (rListS cf.K) (tCons ta tNil)) G m := EG.cast (EG.call1 (ρ := Unit) h fun F O H Q xs r hf h1 _ ko => by
    obtain ⟨a, vs, e, hs, hr⟩ := RS.seq h1 hf
    exact ⟨a, vs, by rw [e], .inl hs, fun p hp => ko xs _ F _ rfl (Le.refl F) (hf.newH hp) ⟨p, vs, rfl, hf.fnone hp, hf.onone hp, upd_same, hr⟩⟩) (R.bind_ok m)
theorem em_any {m : R (List Bool)} (h : ES cf E ta G m) : EM cf E (tCB (rAny cf.K) (tCons ta tNil)) G (m.bind fun xs => .ok (xs.any id)) :=
  EG.call1 (ρ := Unit) h fun F O H Q xs r hf h1 _ ko => by
    obtain ⟨a, vs, e, hs, hr⟩ := RS.seq h1 hf
    rw [bls_of_drA hr] at hs
    exact ⟨a, xs, by rw [e], hs, ko _ _ F H rfl (Le.refl F) hf (.bl _)⟩

/-! ### == of data -/
mutual
def Dt.py : Dt → PyData
  | .non => .none
  | .bl b => .bool b
  | .int i => .int i
  | .str x => .str x
  | .lst xs => .list (Dt.pyA xs)
  | .tup xs => .tuple (Dt.pyA xs)
  | .scr ns => .list (ns.map .int)
  | .dct _ => .dict []
def Dt.pyA : List Dt → List PyData
  | [] => []
  | d :: r => d.py :: Dt.pyA r
end
mutual
/-- no dict within -/
def Dt.nd : Dt → Bool
  | .lst xs => Dt.ndA xs
  | .tup xs => Dt.ndA xs
  | .dct _ => false
  | _ => true
def Dt.ndA : List Dt → Bool
  | [] => true
  | d :: r => d.nd && Dt.ndA r
end
theorem dpAll_ints {K : PySem.W.Frag} {H : Hp} : ∀ ns : List Int, DpAll K H (ns.map V.int) (ns.map PyData.int)
  | [] => .nil
  | n :: r => .cons (.int n) (dpAll_ints r)
mutual
theorem Dr.dp {K : PySem.W.Frag} {F H : Hp} (e : Le F H) : ∀ {v : V} {d : Dt}, Dr K F v d → d.nd = true → Dp K H v d.py
  | _, _, .non, _ => .non
  | _, _, .bl b, _ => .bl b
  | _, _, .int i, _ => .int i
  | _, _, .str x, _ => .str x
  | _, _, .lst h r, n => .lst (SqL.of (e _ _ h)) (DrA.dp e r n)
  | _, _, .tup h r, n => .tup (SqT.of (e _ _ h)) (DrA.dp e r n)
  | _, _, .scr h, _ => .lst (e.seq h) (dpAll_ints _)
  | _, _, .dct _ _, n => Bool.noConfusion n
theorem DrA.dp {K : PySem.W.Frag} {F H : Hp} (e : Le F H) : ∀ {vs : List V} {ds : List Dt}, DrA K F vs ds → Dt.ndA ds = true → DpAll K H vs (Dt.pyA ds)
  | _, _, .nil, _ => .nil
  | _, _, .cons r t, n => .cons (Dr.dp e r (Bool.and_eq_true_iff.mp n).1) (DrA.dp e t (Bool.and_eq_true_iff.mp n).2)
end
/-- a == b -/
def eqR [Enc α] [Enc β] (a : α) (b : β) : R Bool := if (toD a).nd = true ∧ (toD b).nd = true ∧ SeqAt.shaped (toD a).py = true ∧ SeqAt.shaped (toD b).py = true then .ok (PyData.eqv (toD a).py (toD b).py) else .bad
theorem eqR_nb [Enc α] [Enc β] {a : α} {b : β} (h : eqR a b ≠ .bad) : ((toD a).nd = true ∧ (toD b).nd = true ∧ SeqAt.shaped (toD a).py = true ∧ SeqAt.shaped (toD b).py = true) ∧ eqR a b = .ok (PyData.eqv (toD a).py (toD b).py) := by
  unfold eqR at *
  split at h
  · rename_i c
    exact ⟨c, if_pos c⟩
  · exact absurd rfl h
/-- lists too, owned or not -/
def RE [Enc α] (cf : Cf) (F O H : Hp) (v : V) (a : α) : Prop := (toD a).nd = true → Dp cf.K H v (toD a).py
abbrev EE [Enc α] (cf : Cf) (E : XK) (t : TE) (G : List Sl) (m : R α) : Prop := EG cf E t G m fun F O H v a => ∀ F' H', Le F F' → Fm F' O H' → (toD a).nd = true → Dp cf.K H' v (toD a).py
theorem EM.toE [Enc α] {m : R α} (h : EM cf E ta G m) : EE cf E ta G m := EG.imp h fun F O H v a hf r F' H' le hf' n => Dr.dp (le.trans hf'.f) r n
theorem EL.toE [Enc α] {m : R (List α)} (h : EL cf E ta G m) : EE cf E ta G m := EG.imp h fun F O H v xs hf r F' H' le hf' n => by
  obtain ⟨a, vs, e, ha, hr⟩ := RL.at (rl_mono F O H F' H' v xs le hf' r) hf'
  rw [e]
  exact .lst (SqL.of ha) (DrA.dp hf'.f hr n)
theorem em_eqD [Enc α] [Enc β] {m : R α} {n : R β} (h : EE cf E ta G m) (h' : EE cf E tb G n) : EM cf E (tOp (rEqD cf.K) ta tb) G (m.bind fun a => n.bind fun b => eqR a b) :=
  EG.bind2 (u := fun x y H Q => rEqD cf.K x y H Q) h h' (fun F O H F' H' r a le hf' h F'' H'' le' hf'' => h F'' H'' (le.trans le') hf'') fun F O H Q a r b s hf h1 h2 nb ko => by
    obtain ⟨⟨c1, c2, c3, c4⟩, ec⟩ := eqR_nb nb
    exact ⟨_, _, h1 F H (Le.refl F) hf c1, h2 F H (Le.refl F) hf c2, c3, c4, ko _ _ F H ec (Le.refl F) hf (.bl _)⟩
theorem em_neD [Enc α] [Enc β] {m : R α} {n : R β} (h : EE cf E ta G m) (h' : EE cf E tb G n) : EM cf E (tOp (rNeD cf.K) ta tb) G (m.bind fun a => n.bind fun b => (eqR a b).bind fun c => .ok (!c)) :=
  EG.bind2 (f := fun a b => (eqR a b).bind fun c => .ok (!c)) (u := fun x y H Q => rNeD cf.K x y H Q) h h' (fun F O H F' H' r a le hf' h F'' H'' le' hf'' => h F'' H'' (le.trans le') hf'') fun F O H Q a r b s hf h1 h2 nb ko => by
    obtain ⟨⟨c1, c2, c3, c4⟩, ec⟩ := eqR_nb (R.bind_nb nb)
    rw [ec] at ko
    exact ⟨_, _, h1 F H (Le.refl F) hf c1, h2 F H (Le.refl F) hf c2, c3, c4, ko _ _ F H rfl (Le.refl F) hf (.bl _)⟩
end
end Kr

/-! KrD: what is walked, comprehensions, statements by data. -/
namespace Kr
open PySem PySem.Spec PyProof.Rows L2
open Enc (toD)

/-! ### what is walked -/
/-- J gives the items xs, one after the other -/
def Itm {α : Type} [Enc α] (cf : Cf) (J : It) (F1 : Hp) (xs : List α) : Prop := ∀ (i : Nat) (F O H : Hp), Le F1 F → Fm F O H →
  (∀ x, xs[i]? = some x → J.go i H ∧ ∀ v H', J.yld i H v H' → ∃ F', Le F F' ∧ Fm F' O H' ∧ Dr cf.K F' v (toD x)) ∧ (xs.length ≤ i → J.stop i H)
def IG {α : Type} [Enc α] (cf : Cf) (E : XK) (wi : TI) (G : List Sl) (m : R (List α)) : Prop :=
  ∀ (F O H : Hp) (σ : L2.St) (Q : It → Hp → Prop), Fm F O H → Er cf.K F O σ G → m ≠ .bad →
    (∀ xs J F' H', m = .ok xs → Le F F' → Fm F' O H' → Itm cf J F' xs → Q J H') →
    (∀ c p d F' H', m = .er c p → Le F F' → Fm F' O H' → F' d = some (xdO cf c p) → E (.ref (cf.cls c)) (some d) H') → wi σ H Q
section
variable {cf : Cf} {E : XK} {G : List Sl} {α β γ δ : Type} {ta tb : TE}
/-- a list that stays as it is -/
def RZ [Enc α] (cf : Cf) (F O H : Hp) (v : V) (xs : List α) : Prop := ∃ a vs, v = .ref a ∧ SqL cf.K F a vs ∧ DrA cf.K F vs (xs.map toD)
abbrev EZ [Enc α] (cf : Cf) (E : XK) (t : TE) (G : List Sl) (m : R (List α)) : Prop := EG cf E t G m (RZ cf)
theorem rz_mono [Enc α] (F O H F' H' : Hp) (r : V) (a : List α) (le : Le F F') (_ : Fm F' O H') (h : RZ cf F O H r a) : RZ cf F' O H' r a := by
  obtain ⟨a, vs, e, h1, h2⟩ := h
  exact ⟨a, vs, e, le.seq h1, h2.mono le⟩
theorem EM.toZ [Enc α] {m : R (List α)} (h : EM cf E ta G m) : EZ cf E ta G m := EG.imp h fun F O H v xs _ r => by
  obtain ⟨a, vs, e, h1, h2⟩ := dr_lst r
  exact ⟨a, vs, e, SqL.of h1, h2⟩
theorem EF.toZ [Enc α] {m : R (List α)} (h : EF cf E ta G m) : EZ cf E ta G m := EM.toZ (EF.toM h)
theorem EM.scrZ {t : TE} {m : R Scr} (h : EM cf E t G m) : EZ cf E t G (m.bind fun s => .ok s.ns) := fun F O H σ Q hf he nb ko ke => by
  refine h F O H σ Q hf he (R.bind_nb nb) (fun s v F' H' e le hf' hr => ?_) (fun c p d F' H' e => ke c p d F' H' (by rw [e]; rfl))
  obtain ⟨a, ea, hs⟩ := dr_scr (ns := s.ns) hr
  exact ko s.ns _ F' H' (by rw [e]; rfl) le hf' ⟨a, _, ea, hs, drA_ints s.ns⟩
theorem drA_at [Enc α] {K : PySem.W.Frag} {F : Hp} {vs : List V} {xs : List α} (h : DrA K F vs (xs.map toD)) {i : Nat} {x : α} (e : xs[i]? = some x) : ∃ v, vs[i]? = some v ∧ Dr K F v (toD x) := h.get (by rw [List.getElem?_map, e]; rfl)
theorem ig_list [Enc α] {m : R (List α)} (h : EZ cf E ta G m) : IG cf E (iList cf.K ta) G m := fun F O H σ Q hf he nb ko ke =>
  h F O H σ _ hf he nb (fun xs v F' H' e le hf' hr => by
    obtain ⟨a, vs, ev, hs, hd⟩ := hr
    refine ⟨a, ev, ⟨vs, hf'.f.seq hs⟩, ko xs _ F' H' e le hf' fun i F2 O2 H2 le2 hf2 => ⟨fun x hx => ?_, fun hi => ⟨vs, (le2.trans hf2.f).seq hs, ?_⟩⟩⟩
    · obtain ⟨w', hw, rw'⟩ := drA_at hd hx
      exact ⟨⟨vs, w', (le2.trans hf2.f).seq hs, hw⟩, fun v H3 hy => ⟨F2, Le.refl F2, by rw [hy.1]; exact hf2, by
        have q := hy.2 vs ((le2.trans hf2.f).seq hs)
        rw [hw] at q
        rw [← Option.some.inj q]
        exact rw'.mono le2⟩⟩
    · rw [hd.length, List.length_map]
      exact hi) ke
/-- lo, lo + 1, .. -/
def seqI (lo : Int) (n : Nat) : List Int := (List.range n).map fun (i : Nat) => lo + (i : Int)
/-- lo, lo + c, .. -/
def seqC (lo c : Int) (n : Nat) : List Int := (List.range n).map fun (i : Nat) => lo + (i : Int) * c
theorem seqI_get (lo : Int) (n i : Nat) : (seqI lo n)[i]? = if i < n then some (lo + (i : Int)) else none := by
  unfold seqI
  rw [List.getElem?_map]
  by_cases h : i < n
  · rw [if_pos h, List.getElem?_range h]
    rfl
  · rw [if_neg h, List.getElem?_eq_none (by rw [List.length_range]; omega)]
    rfl
theorem seqC_get (lo c : Int) (n i : Nat) : (seqC lo c n)[i]? = if i < n then some (lo + (i : Int) * c) else none := by
  unfold seqC
  rw [List.getElem?_map]
  by_cases h : i < n
  · rw [if_pos h, List.getElem?_range h]
    rfl
  · rw [if_neg h, List.getElem?_eq_none (by rw [List.length_range]; omega)]
    rfl
theorem seqI_len (lo : Int) (n : Nat) : (seqI lo n).length = n := by simp [seqI]
theorem seqC_len (lo c : Int) (n : Nat) : (seqC lo c n).length = n := by simp [seqC]
theorem itm_seqI (F1 : Hp) (lo : Int) (n : Nat) : Itm cf (Itr lo n) F1 (seqI lo n) := fun i F O H le hf => ⟨fun x hx => by
    rw [seqI_get] at hx
    split at hx
    · rename_i c
      cases hx
      exact ⟨c, fun v H' hy => ⟨F, Le.refl F, by rw [hy.1]; exact hf, by rw [hy.2]; exact .int _⟩⟩
    · exact (nomatch hx),
  fun hi => by
    rw [seqI_len] at hi
    exact hi⟩
theorem itm_seqC (F1 : Hp) (lo c : Int) (n : Nat) : Itm cf (Itc lo c n) F1 (seqC lo c n) := fun i F O H le hf => ⟨fun x hx => by
    rw [seqC_get] at hx
    split at hx
    · rename_i c
      cases hx
      exact ⟨c, fun v H' hy => ⟨F, Le.refl F, by rw [hy.1]; exact hf, by rw [hy.2]; exact .int _⟩⟩
    · exact (nomatch hx),
  fun hi => by
    rw [seqC_len] at hi
    exact hi⟩
def rng1R (n : Int) : R (List Int) := if -(2 ^ 62) ≤ n ∧ n < 2 ^ 62 then .ok (seqI 0 n.toNat) else .bad
def rng2R (a b : Int) : R (List Int) := if -(2 ^ 62) ≤ a ∧ a < 2 ^ 62 ∧ -(2 ^ 62) ≤ b ∧ b < 2 ^ 62 then .ok (seqI a (b - a).toNat) else .bad
theorem ig_range1 {m : R Int} (h : EM cf E ta G m) : IG cf E (iRng1 (tCons ta tNil)) G (m.bind rng1R) := fun F O H σ Q hf he nb ko ke =>
  h F O H σ _ hf he (R.bind_nb nb) (fun n v F' H' e le hf' hr => by
    rw [e, R.ok_bind] at nb ko
    unfold rng1R at nb ko
    split at nb
    · rename_i c
      rw [if_pos c] at ko
      exact ⟨n, by rw [dr_int (i := n) hr], c.1, c.2, ko _ _ F' H' rfl le hf' (itm_seqI F' 0 n.toNat)⟩
    · exact absurd rfl nb) fun c p d F' H' e => ke c p d F' H' (by rw [e]; rfl)
theorem ig_range2 {m n : R Int} (h : EM cf E ta G m) (h' : EM cf E tb G n) : IG cf E (iRng2 (tCons ta (tCons tb tNil))) G (m.bind fun a => n.bind fun b => rng2R a b) := fun F O H σ Q hf he nb ko ke =>
  EG.bind2 (f := fun a b => rng2R a b) (rel3 := fun F' O' H' J xs => Itm cf J F' xs) (u := fun x y H Q => ∃ i j : Int, [x, y] = [V.int i, V.int j] ∧ (-(2 ^ 62) ≤ i ∧ i < 2 ^ 62 ∧ -(2 ^ 62) ≤ j ∧ j < 2 ^ 62) ∧ Q (Itr i (j - i).toNat) H) h h' rm_mono
    (fun F O H Q a r b s hf h1 h2 nb ko => by
      unfold rng2R at nb ko
      split at nb
      · rename_i c
        rw [if_pos c] at ko
        exact ⟨a, b, by rw [dr_int (i := a) h1, dr_int (i := b) h2], c, ko _ _ F H rfl (Le.refl F) hf (itm_seqI F a _)⟩
      · exact absurd rfl nb) F O H σ Q hf he nb (fun xs J F' H' => ko xs J F' H') ke
/-- range(a, b, c), c written: 1 or more, or -1 -/
def rng3R (a b c : Int) : R (List Int) := if -(2 ^ 62) ≤ a ∧ a < 2 ^ 62 ∧ -(2 ^ 62) ≤ b ∧ b < 2 ^ 62 then (if c = -1 then .ok (seqC a (-1) (a - b).toNat) else
    if 0 < c ∧ c < 1073741824 ∧ Builtin.Range.small a b c = true then .ok (seqC a c (Builtin.Range.rangeSize a b c).toNat) else .bad) else .bad
theorem rangeSize_nn (a b c : Int) (h : 0 < c) : 0 ≤ Builtin.Range.rangeSize a b c := by
  unfold Builtin.Range.rangeSize
  split
  · split
    · have : 0 ≤ (b - a - 1) / c := Int.ediv_nonneg (by omega) (by omega)
      omega
    · exact Int.le_refl 0
  · omega
theorem rgC_of {a b c : Int} {xs : List Int} (h : rng3R a b c = .ok xs) : ∃ n, RgC a b c n ∧ xs = seqC a c n := by
  unfold rng3R at h
  split at h
  · rename_i q
    split at h
    · rename_i e
      subst e
      cases h
      exact ⟨_, RgC.neg q.1 q.2.1 q.2.2.1 q.2.2.2, rfl⟩
    · split at h
      · rename_i q2
        cases h
        refine ⟨_, ⟨by omega, by omega, q2.2.2, ?_⟩, rfl⟩
        have := rangeSize_nn a b c q2.1
        omega
      · cases h
  · cases h
theorem ig_range3 {tc : TE} {m n l : R Int} (h : EM cf E ta G m) (h' : EM cf E tb G n) (h'' : EM cf E tc G l) : IG cf E (iRng3 (tCons ta (tCons tb (tCons tc tNil)))) G (m.bind fun a => n.bind fun b => l.bind fun c => rng3R a b c) := fun F O H σ Q hf he nb ko ke =>
  EG.bind3 (f := fun a b c => rng3R a b c) (rel4 := fun F' O' H' J xs => Itm cf J F' xs) (u := fun x y z H Q => ∃ (i j c : Int) (n : Nat), [x, y, z] = [V.int i, V.int j, V.int c] ∧ RgC i j c n ∧ Q (Itc i c n) H) h h' h'' rm_mono rm_mono
    (fun F O H Q a r b s c t hf h1 h2 h3 nb ko => by
      cases q : rng3R a b c with
      | bad => exact absurd q nb
      | er c p =>
        unfold rng3R at q
        split at q
        · split at q
          · cases q
          · split at q <;> cases q
        · cases q
      | ok xs =>
        obtain ⟨n, hn, hx⟩ := rgC_of q
        refine ⟨a, b, c, n, by rw [dr_int (i := a) h1, dr_int (i := b) h2, dr_int (i := c) h3], hn, ko xs _ F H q (Le.refl F) hf ?_⟩
        rw [hx]
        exact itm_seqC F a c n) F O H σ Q hf he nb (fun xs J F' H' => ko xs J F' H') ke
/-- the pairs (0, x0), (1, x1), .. -/
def enumL (xs : List α) : List (Int × α) := xs.zipIdx.map fun p => ((p.2 : Int), p.1)
theorem enumL_get (xs : List α) (i : Nat) : (enumL xs)[i]? = xs[i]?.map fun x => ((i : Int), x) := by
  unfold enumL
  rw [List.getElem?_map, List.getElem?_zipIdx]
  cases xs[i]? <;> simp
theorem enumL_len (xs : List α) : (enumL xs).length = xs.length := by simp [enumL]
theorem ig_enum [Enc α] {m : R (List α)} (h : EZ cf E ta G m) : IG cf E (iEnum cf.K (tCons ta tNil)) G (m.bind fun xs => .ok (enumL xs)) := fun F O H σ Q hf he nb ko ke =>
  h F O H σ _ hf he (R.bind_nb nb) (fun xs v F' H' e le hf' hr => by
    rw [e, R.ok_bind] at ko
    obtain ⟨a, vs, ev, hs, hd⟩ := hr
    refine ⟨a, vs, by rw [ev], hf'.f.seq hs, ko _ _ F' H' rfl le hf' fun i F2 O2 H2 le2 hf2 => ⟨fun x hx => ?_, fun hi => ⟨vs, (le2.trans hf2.f).seq hs, ?_⟩⟩⟩
    · rw [enumL_get] at hx
      cases q : xs[i]? with
      | none =>
        rw [q] at hx
        cases hx
      | some y =>
        rw [q] at hx
        cases hx
        obtain ⟨w', hw, rw'⟩ := drA_at hd q
        refine ⟨⟨vs, w', (le2.trans hf2.f).seq hs, hw⟩, fun v H3 hy => ?_⟩
        obtain ⟨T, x, ev, hT, rfl, hx⟩ := hy
        have q2 := hx vs ((le2.trans hf2.f).seq hs)
        rw [hw] at q2
        have e2 := Option.some.inj q2
        subst e2
        subst ev
        exact ⟨upd F2 T (.tup [.int (i : Nat), w']), Le.new (hf2.fnone hT), hf2.newF hT, .tup upd_same (.cons (.int _) (.cons (rw'.mono (le2.trans (Le.new (hf2.fnone hT)))) .nil))⟩
    · rw [enumL_len] at hi
      rw [hd.length, List.length_map]
      exact hi) fun c p d F' H' e => ke c p d F' H' (by rw [e]; rfl)
theorem ig_zip [Enc α] [Enc β] {m : R (List α)} {n : R (List β)} (h : EZ cf E ta G m) (h' : EZ cf E tb G n) : IG cf E (iZip cf.K (tCons ta (tCons tb tNil))) G (m.bind fun xs => n.bind fun ys => .ok (xs.zip ys)) := fun F O H σ Q hf he nb ko ke =>
  EG.bind2 (f := fun (xs : List α) (ys : List β) => R.ok (xs.zip ys)) (rel3 := fun F' O' H' J xs => Itm cf J F' xs) (u := fun x y H Q => ∃ a b xs ys, [x, y] = [V.ref a, V.ref b] ∧ SqL cf.K H a xs ∧ SqL cf.K H b ys ∧ Q (Itz cf.K a b) H) h h' rz_mono
    (fun F O H Q xs r ys s hf h1 h2 nb ko => by
      obtain ⟨a, vs, ev, hs, hd⟩ := h1
      obtain ⟨b, ws, ew, hs', hd'⟩ := h2
      refine ⟨a, b, vs, ws, by rw [ev, ew], hf.f.seq hs, hf.f.seq hs', ko _ _ F H rfl (Le.refl F) hf fun i F2 O2 H2 le2 hf2 => ⟨fun x hx => ?_, fun hi => ⟨vs, ws, (le2.trans hf2.f).seq hs, (le2.trans hf2.f).seq hs', ?_⟩⟩⟩
      · rw [List.getElem?_zip_eq_some] at hx
        obtain ⟨v1, hv1, r1⟩ := drA_at hd hx.1
        obtain ⟨v2, hv2, r2⟩ := drA_at hd' hx.2
        refine ⟨⟨vs, ws, v1, v2, (le2.trans hf2.f).seq hs, (le2.trans hf2.f).seq hs', hv1, hv2⟩, fun v H3 hy => ?_⟩
        obtain ⟨T, x1, x2, ev, hT, rfl, hx1, hx2⟩ := hy
        have q1 := hx1 vs ((le2.trans hf2.f).seq hs)
        have q2 := hx2 ws ((le2.trans hf2.f).seq hs')
        rw [hv1] at q1
        rw [hv2] at q2
        obtain rfl := Option.some.inj q1
        obtain rfl := Option.some.inj q2
        subst ev
        have l3 := le2.trans (Le.new (o := .tup [v1, v2]) (hf2.fnone hT))
        exact ⟨upd F2 T (.tup [v1, v2]), Le.new (hf2.fnone hT), hf2.newF hT, .tup upd_same (.cons (r1.mono l3) (.cons (r2.mono l3) .nil))⟩
      · rw [List.length_zip] at hi
        rw [hd.length, List.length_map, hd'.length, List.length_map]
        omega) F O H σ Q hf he nb (fun xs J F' H' => ko xs J F' H') ke
theorem ig_rev [Enc α] {m : R (List α)} (h : EZ cf E ta G m) : IG cf E (iRev cf.K (tCons ta tNil)) G (m.bind fun xs => .ok xs.reverse) := fun F O H σ Q hf he nb ko ke =>
  h F O H σ _ hf he (R.bind_nb nb) (fun xs v F' H' e le hf' hr => by
    rw [e, R.ok_bind] at ko
    obtain ⟨a, vs, ev, hs, hd⟩ := hr
    have hl : vs.length = xs.length := by rw [hd.length, List.length_map]
    refine ⟨a, vs, by rw [ev], hf'.f.seq hs, ko _ _ F' H' rfl le hf' fun i F2 O2 H2 le2 hf2 => ⟨fun x hx => ?_, fun hi => ?_⟩⟩
    · have hi : i < xs.length := by
        have := (List.getElem?_eq_some_iff.mp hx).1
        rw [List.length_reverse] at this
        exact this
      rw [List.getElem?_reverse hi] at hx
      obtain ⟨w', hw, rw'⟩ := drA_at hd hx
      rw [← hl] at hw
      refine ⟨⟨by omega, vs, w', (le2.trans hf2.f).seq hs, hw⟩, fun v H3 hy => ⟨F2, Le.refl F2, by rw [hy.1]; exact hf2, ?_⟩⟩
      have q2 := hy.2 vs ((le2.trans hf2.f).seq hs)
      rw [hw] at q2
      rw [← Option.some.inj q2]
      exact rw'.mono le2
    · rw [List.length_reverse] at hi
      show vs.length ≤ i
      omega) fun c p d F' H' e => ke c p d F' H' (by rw [e]; rfl)

/-! ### targets -/
/-- the target stores the data: the slots behind it; js: the slots it stores to -/
def AG [Enc α] (cf : Cf) (g : TG) (up : α → List Sl → List Sl) (js : List Nat) : Prop :=
  ∀ (F O H : Hp) (σ : L2.St) (G : List Sl) (v : V) (a : α) (Q : L2.St → Hp → Prop), Fm F O H → Er cf.K F O σ G → Dr cf.K F v (toD a) →
    (∀ σ', Er cf.K F O σ' (up a G) → (∀ (i : Nat) (s : Sl), (up a G)[i]? = some s → s.own = true → G[i]? = some s ∧ σ'[i]? = σ[i]?) → (∀ vs : List Nat, (∀ j ∈ js, j ∈ vs) → wipe σ' vs = wipe σ vs) → Q σ' H) → g v σ H Q
theorem wipe_set {σ : L2.St} {j : Nat} {y : Option V} : ∀ {vs : List Nat}, j ∈ vs → wipe (σ.set j y) vs = wipe σ vs
  | [], h => by cases h
  | v :: vs, h => by
    show (wipe (σ.set j y) vs).set v none = (wipe σ vs).set v none
    by_cases hj : j ∈ vs
    · rw [wipe_set hj]
    · have e : j = v := by
        rcases List.mem_cons.mp h with e | e
        · exact e
        · exact absurd e hj
      subst e
      have key : ∀ (ws : List Nat), j ∉ ws → wipe (σ.set j y) ws = (wipe σ ws).set j y := by
        intro ws
        induction ws with
        | nil => intro _; rfl
        | cons w ws ih =>
          intro hw
          show (wipe (σ.set j y) ws).set w none = ((wipe σ ws).set w none).set j y
          rw [ih fun z => hw (List.mem_cons_of_mem _ z)]
          exact List.set_comm _ _ fun z => hw (by rw [z]; exact List.mem_cons_self ..)
      rw [key vs hj, List.set_set]
theorem er_set {K : PySem.W.Frag} {F O : Hp} {σ : L2.St} {G : List Sl} (h : Er K F O σ G) (i : Nat) {v : V} {d : Dt} (r : Dr K F v d) : Er K F O (σ.set i (some v)) (G.set i (.va d)) := by
  refine ⟨by rw [List.length_set, List.length_set, h.len], fun j s e => ?_⟩
  by_cases hj : i = j
  · subst hj
    by_cases hl : i < G.length
    · rw [List.getElem?_set_self hl] at e
      cases e
      rw [List.getElem?_set_self (by rw [h.len]; exact hl)]
      exact ⟨v, rfl, r⟩
    · rw [List.getElem?_eq_none (by rw [List.length_set]; omega)] at e
      cases e
  · rw [List.getElem?_set_ne hj] at e ⊢
    exact h.at' j s e
theorem own_set {σ : L2.St} {G : List Sl} {i : Nat} {d : Dt} {y : Option V} {j : Nat} {s : Sl} (e : (G.set i (.va d))[j]? = some s) (o : s.own = true) : G[j]? = some s ∧ (σ.set i y)[j]? = σ[j]? := by
  by_cases hj : i = j
  · subst hj
    by_cases hl : i < G.length
    · rw [List.getElem?_set_self hl] at e
      cases e
      cases o
    · rw [List.getElem?_eq_none (by rw [List.length_set]; omega)] at e
      cases e
  · rw [List.getElem?_set_ne hj] at e
    exact ⟨e, List.getElem?_set_ne hj⟩
theorem ag_name [Enc α] (i : Nat) : AG cf (gName i) (fun (a : α) G => G.set i (.va (toD a))) [i] := fun F O H σ G v a Q hf he r k =>
  k _ (er_set he i r) (fun j s e o => own_set e o) fun vs h => wipe_set (h i (by simp))
theorem ag_t2 [Enc α] [Enc β] {g1 g2 : TG} {u1 : α → List Sl → List Sl} {u2 : β → List Sl → List Sl} {j1 j2 : List Nat} (h1 : AG cf g1 u1 j1) (h2 : AG cf g2 u2 j2) :
    AG cf (gTup cf.K 2 (gCons g1 (gCons g2 gNil))) (fun (p : α × β) G => u2 p.2 (u1 p.1 G)) (j1 ++ j2) := fun F O H σ G v p Q hf he r k => by
  obtain ⟨a, vs, rfl, ht, hd⟩ := dr_tup (ds := [toD p.1, toD p.2]) r
  obtain ⟨v1, r1, rfl, d1, hd⟩ := drA_cons hd
  obtain ⟨v2, r2, rfl, d2, hd⟩ := drA_cons hd
  rw [drA_nil hd] at ht
  refine ⟨a, [v1, v2], rfl, SqT.of (hf.f _ _ ht), rfl, v1, [v2], rfl, h1 F O H σ G v1 p.1 _ hf he d1 fun σ1 e1 o1 w1 => ⟨v2, [], rfl, h2 F O H σ1 _ v2 p.2 _ hf e1 d2 fun σ2 e2 o2 w2 => ⟨rfl, k σ2 e2 (fun i s e o => ?_) fun vs hv => ?_⟩⟩⟩
  · obtain ⟨q1, q2⟩ := o2 i s e o
    obtain ⟨q3, q4⟩ := o1 i s q1 o
    exact ⟨q3, q2.trans q4⟩
  · rw [w2 vs fun j hj => hv j (by simp [hj]), w1 vs fun j hj => hv j (by simp [hj])]
theorem ag_t3 [Enc α] [Enc β] [Enc γ] {g1 g2 g3 : TG} {u1 : α → List Sl → List Sl} {u2 : β → List Sl → List Sl} {u3 : γ → List Sl → List Sl} {j1 j2 j3 : List Nat} (h1 : AG cf g1 u1 j1) (h2 : AG cf g2 u2 j2) (h3 : AG cf g3 u3 j3) :
    AG cf (gTup cf.K 3 (gCons g1 (gCons g2 (gCons g3 gNil)))) (fun (p : T3 α β γ) G => u3 p.c (u2 p.b (u1 p.a G))) (j1 ++ (j2 ++ j3)) := fun F O H σ G v p Q hf he r k => by
  obtain ⟨a, vs, rfl, ht, hd⟩ := dr_tup (ds := [toD p.a, toD p.b, toD p.c]) r
  obtain ⟨v1, r1, rfl, d1, hd⟩ := drA_cons hd
  obtain ⟨v2, r2, rfl, d2, hd⟩ := drA_cons hd
  obtain ⟨v3, r3, rfl, d3, hd⟩ := drA_cons hd
  rw [drA_nil hd] at ht
  refine ⟨a, [v1, v2, v3], rfl, SqT.of (hf.f _ _ ht), rfl, v1, [v2, v3], rfl, h1 F O H σ G v1 p.a _ hf he d1 fun σ1 e1 o1 w1 => ⟨v2, [v3], rfl, h2 F O H σ1 _ v2 p.b _ hf e1 d2 fun σ2 e2 o2 w2 => ⟨v3, [], rfl, h3 F O H σ2 _ v3 p.c _ hf e2 d3 fun σ3 e3 o3 w3 => ⟨rfl, k σ3 e3 (fun i s e o => ?_) fun vs hv => ?_⟩⟩⟩⟩
  · obtain ⟨q1, q2⟩ := o3 i s e o
    obtain ⟨q3, q4⟩ := o2 i s q1 o
    obtain ⟨q5, q6⟩ := o1 i s q3 o
    exact ⟨q5, q2.trans (q4.trans q6)⟩
  · rw [w3 vs fun j hj => hv j (by simp [hj]), w2 vs fun j hj => hv j (by simp [hj]), w1 vs fun j hj => hv j (by simp [hj])]

/-! ### comprehensions -/
def compR (ft : α → R Bool) (fe : α → R β) : List α → R (List β)
  | [] => .ok []
  | x :: r => (ft x).pu.bind fun b => if b = true then (fe x).pu.bind fun y => (compR ft fe r).bind fun ys => .ok (y :: ys) else compR ft fe r
def lcR (ft : α → R Bool) (fe : α → R β) (xs : List α) : R (List β) := (szR xs).bind fun xs => compR ft fe xs
def wipeG (G : List Sl) : List Nat → List Sl
  | [] => G
  | v :: vs => (wipeG G vs).set v .un
theorem er_wipe {K : PySem.W.Frag} {F O : Hp} {σ : L2.St} {G : List Sl} (h : Er K F O σ G) : ∀ vs : List Nat, Er K F O (wipe σ vs) (wipeG G vs)
  | [] => h
  | v :: vs => by
    have ih := er_wipe h vs
    refine ⟨by show ((wipe σ vs).set v none).length = ((wipeG G vs).set v .un).length; rw [List.length_set, List.length_set, ih.len], fun j s e => ?_⟩
    have e' : ((wipeG G vs).set v .un)[j]? = some s := e
    show SlOk K F O ((wipe σ vs).set v none)[j]? s
    by_cases hj : v = j
    · subst hj
      by_cases hl : v < (wipeG G vs).length
      · rw [List.getElem?_set_self hl] at e'
        cases e'
        exact trivial
      · rw [List.getElem?_eq_none (by rw [List.length_set]; omega)] at e'
        cases e'
    · rw [List.getElem?_set_ne hj] at e' ⊢
      exact ih.at' j s e'
theorem SlOk.monoO {K : PySem.W.Frag} {F O O' : Hp} {x : Option (Option V)} (e : Le O O') : ∀ {s : Sl}, SlOk K F O x s → SlOk K F O' x s
  | .un, _ => trivial
  | .va _, h => h
  | .ol _, ⟨a, vs, h1, h2, h3⟩ => ⟨a, vs, h1, e _ _ h2, h3⟩
  | .od _, ⟨a, vs, h1, h2, h3⟩ => ⟨a, vs, h1, e _ _ h2, h3⟩
  | .pv _, h => h
theorem Er.monoO {K : PySem.W.Frag} {F O O' : Hp} {σ : L2.St} {G : List Sl} (h : Er K F O σ G) (e : Le O O') : Er K F O' σ G := ⟨h.len, fun i s q => (h.at' i s q).monoO e⟩
theorem Fm.weak {F O O' H : Hp} (h : Fm F O' H) (e : Le O O') : Fm F O H := ⟨h.f, e.trans h.o, fun p q => e.free (h.ds p q)⟩
/-- a new object that is ours -/
theorem Fm.newO {F O H : Hp} (h : Fm F O H) {p : Addr} {o : HO} (e : H p = none) : Fm F (upd O p o) (upd H p o) := by
  refine ⟨h.f.trans (Le.new e), fun a u q => ?_, fun a q => ?_⟩
  · by_cases ha : a = p
    · subst ha
      rw [upd_same] at q ⊢
      exact q
    · rw [upd_ne ha] at q ⊢
      exact h.o a u q
  · have ha : a ≠ p := fun z => q (by rw [z]; exact h.fnone e)
    rw [upd_ne ha]
    exact h.ds a q
/-- what is ours changes -/
theorem Fm.wr {F O H : Hp} (h : Fm F O H) {p : Addr} {o u : HO} (e : O p = some u) : Fm F (upd O p o) (upd H p o) := by
  have hF := h.own e
  refine ⟨fun a v q => ?_, fun a v q => ?_, fun a q => ?_⟩
  · rw [upd_ne (ne_of_none q hF)]
    exact h.f a v q
  · by_cases ha : a = p
    · subst ha
      rw [upd_same] at q ⊢
      exact q
    · rw [upd_ne ha] at q ⊢
      exact h.o a v q
  · have ha : a ≠ p := fun z => q (by rw [z]; exact hF)
    rw [upd_ne ha]
    exact h.ds a q
theorem pu_ok {m : R α} {a : α} (h : m.pu = .ok a) : m = .ok a := by
  cases m with
  | ok b => exact congrArg R.ok (R.ok.inj h)
  | er c p => cases h
  | bad => cases h
theorem pu_nb {m : R α} (h : m.pu ≠ .bad) : ∃ a, m = .ok a := by
  cases m with
  | ok b => exact ⟨b, rfl⟩
  | er c p => exact absurd rfl h
  | bad => exact absurd rfl h
/-- [e for target in .. if t] -/
theorem ef_lc [Enc α] [Enc β] {wi : TI} {g : TG} {tt : TT} {te : TE} {vs js : List Nat} {m : R (List α)} {ft : α → R Bool} {fe : α → R β} {up : α → List Sl → List Sl} {Gi : α → List Sl} (hi : IG cf E wi G m) (hg : AG cf g up js)
    (hj : ∀ j ∈ js, j ∈ vs) (hG : ∀ a, up a (wipeG G vs) = Gi a) (ht : ∀ a, EB cf E0 tt (Gi a) (ft a)) (he : ∀ a, EM cf E0 te (Gi a) (fe a)) : EF cf E (tLc wi g tt te vs) G (m.bind (lcR ft fe)) := fun F O H σ Q hf hE nb ko ke =>
  hi F O H σ _ hf hE (R.bind_nb nb) (fun xs J F1 H1 em le1 hf1 hJ D hD => by
    rw [em, R.ok_bind] at nb ko
    obtain ⟨hz, ez⟩ := szR_nb (R.bind_nb nb)
    have etot : lcR ft fe xs = compR ft fe xs := by
      unfold lcR
      rw [ez]
      rfl
    rw [etot] at nb ko
    have hE1 : Er cf.K F1 O σ G := hE.mono le1
    let W : Nat → Nat → Hp → Prop := fun i mm H => mm = xs.length - i ∧ i ≤ xs.length ∧ ∃ (F2 : Hp) (ws : List V) (acc : List β), Le F1 F2 ∧ Fm F2 (upd O D (.lst ws)) H ∧ DrA cf.K F2 ws (acc.map toD) ∧ acc.length ≤ i ∧ (compR ft fe (xs.drop i)).bind (fun ys => .ok (acc ++ ys)) = compR ft fe xs
    refine ⟨W, ⟨xs.length, by simp, Nat.zero_le _, F1, [], [], Le.refl F1, hf1.newO hD, .nil, Nat.le_refl _, by rw [List.drop_zero]; simp only [List.nil_append]; exact R.bind_ok _⟩, ?_⟩
    rintro i mm H2 ⟨rfl, hi, F2, ws, acc, le2, hf2, hd, hacc, tot⟩
    have hO1 : O D = none := hf1.onone hD
    have leO : Le O (upd O D (.lst ws)) := Le.new hO1
    by_cases hlt : i < xs.length
    · have hx : xs[i]? = some xs[i] := List.getElem?_eq_getElem hlt
      rw [List.drop_eq_getElem_cons hlt] at tot
      rw [← tot] at nb
      have nbc := R.bind_nb nb
      obtain ⟨b, eb⟩ := pu_nb (R.bind_nb nbc)
      obtain ⟨hgo, hyl⟩ := (hJ i F2 (upd O D (.lst ws)) H2 le2 hf2).1 _ hx
      refine .inr ⟨hgo, fun H' => W (i + 1) (xs.length - (i + 1)) H', fun H' h' => ⟨_, by omega, h'⟩, fun v H3 hy => ?_⟩
      obtain ⟨F3, le3, hf3, hv⟩ := hyl v H3 hy
      refine hg F3 _ H3 _ _ v xs[i] _ hf3 (er_wipe ((hE1.mono (le2.trans le3)).monoO leO) vs) hv fun σ2 e2 _ w2 => ⟨?_, ?_⟩
      · rw [w2 vs hj]
        have key : ∀ (us : List Nat) (τ : L2.St), (∀ u ∈ us, u ∈ vs) → wipe (wipe σ us) vs = wipe σ vs := by
          intro us
          induction us with
          | nil => intro _ _; rfl
          | cons u us ih =>
            intro τ hu
            show wipe ((wipe σ us).set u none) vs = wipe σ vs
            rw [wipe_set (hu u (by simp)), ih τ fun z hz => hu z (by simp [hz])]
        exact key vs σ fun u hu => hu
      · rw [hG] at e2
        refine ht xs[i] F3 _ H3 σ2 _ hf3 e2 (by rw [eb]; intro z; cases z) (fun b' r F4 H4 eb' le4 hf4 hr => ?_) (fun c p d F4 H4 e => by rw [eb] at e; cases e)
        rw [eb] at eb'
        cases eb'
        obtain rfl : r = b := hr
        rw [show compR ft fe (xs[i] :: xs.drop (i + 1)) = (ft xs[i]).pu.bind fun b => if b = true then (fe xs[i]).pu.bind fun y => (compR ft fe (xs.drop (i + 1))).bind fun ys => .ok (y :: ys) else compR ft fe (xs.drop (i + 1)) from rfl, eb, R.ok_pu, R.ok_bind] at tot nbc
        cases r with
        | false =>
          rw [if_neg Bool.false_ne_true] at tot
          rw [if_neg Bool.false_ne_true]
          exact ⟨rfl, hlt, F4, ws, acc, (le2.trans le3).trans le4, hf4, hd.mono (le3.trans le4), by omega, tot⟩
        | true =>
          rw [if_pos rfl] at tot nbc
          rw [if_pos rfl]
          obtain ⟨y, ey⟩ := pu_nb (R.bind_nb nbc)
          refine he xs[i] F4 _ H4 σ2 _ hf4 (e2.mono le4) (by rw [ey]; intro z; cases z) (fun y' u F5 H5 ey' le5 hf5 hu => ?_) (fun c p d F5 H5 e => by rw [ey] at e; cases e)
          rw [ey] at ey'
          cases ey'
          rw [ey, R.ok_pu, R.ok_bind] at tot
          refine ⟨ws, hf5.o D _ upd_same, ?_, rfl, hlt, F5, ws ++ [u], acc ++ [y], ((le2.trans le3).trans le4).trans le5, ?_, ?_, by rw [List.length_append]; simp; omega, ?_⟩
          · rw [hd.length, List.length_map]
            exact sz_ltM (by omega)
          · have q := hf5.wr (o := .lst (ws ++ [u])) upd_same
            rw [upd_upd] at q
            exact q
          · rw [List.map_append]
            exact (hd.mono ((le3.trans le4).trans le5)).append (.cons hu .nil)
          · rw [← tot, R.bind_bind]
            simp only [R.ok_bind, List.append_assoc, List.cons_append, List.nil_append]
    · have e : i = xs.length := by omega
      subst e
      rw [List.drop_length] at tot
      have tot2 : compR ft fe xs = .ok acc := by
        rw [← tot]
        show R.ok (acc ++ []) = _
        rw [List.append_nil]
      have hFD : F2 D = none := hf2.own (o := .lst ws) upd_same
      exact .inl ⟨(hJ _ F2 (upd O D (.lst ws)) H2 le2 hf2).2 (Nat.le_refl _), ko acc _ F2 H2 tot2 (le1.trans le2) (hf2.weak leO) ⟨D, ws, rfl, hFD, hO1, hf2.o D _ upd_same, hd⟩⟩) fun c p d F' H' e => ke c p d F' H' (by rw [e]; rfl)
theorem eb_yes : EB cf E tYes G (.ok true) := EG.fin fun F O H σ Q hf he ko => ko _ F H (Le.refl F) hf rfl
end
end Kr

/-! KrE: statements by data, defs' promises. -/
namespace Kr
open PySem PySem.Spec PyProof.Rows L2
open Enc (toD)

/-- how a block ends: behind it, by break, by return -/
inductive Fl (S ρ : Type) where
  | nx (s : S)
  | bk (s : S)
  | rt (r : ρ)
def seqF {S T ρ : Type} (m : R (Fl S ρ)) (k : S → R (Fl T ρ)) : R (Fl T ρ) := m.bind fun
  | .nx s => k s
  | .bk _ => .bad
  | .rt r => .ok (.rt r)
def Mt (K : PySem.W.Frag) (F O H : Hp) (σ : L2.St) (G : List Sl) : Prop := ∃ O', Le O O' ∧ Fm F O' H ∧ Er K F O' σ G ∧
  (∀ (i : Nat) (s : Sl) (a : Addr), G[i]? = some s → s.own = true → σ[i]? = some (some (.ref a)) → O a = none) ∧
  (∀ (i j : Nat) (s t : Sl) (a : Addr), i ≠ j → G[i]? = some s → G[j]? = some t → s.own = true → t.own = true → σ[i]? = some (some (.ref a)) → σ[j]? = some (some (.ref a)) → False)
theorem Mt.fm {K : PySem.W.Frag} {F O H : Hp} {σ : L2.St} {G : List Sl} (h : Mt K F O H σ G) : Fm F O H := let ⟨_, l, f, _⟩ := h; f.weak l
def SB {S ρ : Type} [Enc ρ] (cf : Cf) (E : XK) (ts : TS) (G : List Sl) (enc : S → List Sl) (m : R (Fl S ρ)) : Prop :=
  ∀ (F O H : Hp) (σ : L2.St) (D : Ends), Mt cf.K F O H σ G → m ≠ .bad →
    (∀ s F' H' σ', m = .ok (.nx s) → Le F F' → Mt cf.K F' O H' σ' (enc s) → D.nx σ' H') →
    (∀ s F' H' σ', m = .ok (.bk s) → Le F F' → Mt cf.K F' O H' σ' (enc s) → D.bk σ' H') →
    (∀ r v F' H', m = .ok (.rt r) → Le F F' → Fm F' O H' → Dr cf.K F' v (toD r) → D.rt v H') →
    (∀ c p d F' H', m = .er c p → Le F F' → Fm F' O H' → F' d = some (xdO cf c p) → E (.ref (cf.cls c)) (some d) H') → ts D σ H
section
variable {cf : Cf} {E : XK} {G G' : List Sl} {S T α β γ ρ : Type} [Enc ρ] {ta tb te : TE} {t u : TS} {tc : TT} {enc : S → List Sl} {D : Ends}
theorem SB.cast {m n : R (Fl S ρ)} (h : SB cf E t G enc m) (e : m = n) : SB cf E t G enc n := e ▸ h
/-- an expression, then what comes with its value -/
theorem sb_of {α τ : Type} {r : L2.St → Hp → (τ → Hp → Prop) → Prop} {m : R α} {rel : Hp → Hp → Hp → τ → α → Prop} {f : α → R (Fl S ρ)} {k : τ → TS} (h : EG cf E r G m rel)
    (hk : ∀ (F O O' H : Hp) (σ : L2.St) (D : Ends) (a : α) (v : τ), Le O O' → Fm F O' H → Er cf.K F O' σ G →
      (∀ (i : Nat) (s : Sl) (a : Addr), G[i]? = some s → s.own = true → σ[i]? = some (some (.ref a)) → O a = none) →
      (∀ (i j : Nat) (s t : Sl) (a : Addr), i ≠ j → G[i]? = some s → G[j]? = some t → s.own = true → t.own = true → σ[i]? = some (some (.ref a)) → σ[j]? = some (some (.ref a)) → False) →
      rel F O' H v a → f a ≠ .bad →
      (∀ s F' H' σ', f a = .ok (.nx s) → Le F F' → Mt cf.K F' O H' σ' (enc s) → D.nx σ' H') →
      (∀ s F' H' σ', f a = .ok (.bk s) → Le F F' → Mt cf.K F' O H' σ' (enc s) → D.bk σ' H') →
      (∀ r v F' H', f a = .ok (.rt r) → Le F F' → Fm F' O H' → Dr cf.K F' v (toD r) → D.rt v H') →
      (∀ c p d F' H', f a = .er c p → Le F F' → Fm F' O H' → F' d = some (xdO cf c p) → E (.ref (cf.cls c)) (some d) H') → k v D σ H) :
    SB cf E (fun D σ H => r σ H fun v H1 => k v D σ H1) G enc (m.bind f) := fun F O H σ D hM nb kn kb kr ke => by
  obtain ⟨O', lo, hf, he, o1, o2⟩ := hM
  refine h F O' H σ _ hf he (R.bind_nb nb) (fun a v F' H' ea le hf' hr => ?_) (fun c p d F' H' e le hf' hd => ke c p d F' H' (by rw [e]; rfl) le (hf'.weak lo) hd)
  rw [ea, R.ok_bind] at nb kn kb kr ke
  exact hk F' O O' H' σ D a v lo hf' (he.mono le) o1 o2 hr nb (fun s F'' H'' σ' e le' => kn s F'' H'' σ' e (le.trans le')) (fun s F'' H'' σ' e le' => kb s F'' H'' σ' e (le.trans le')) (fun r v F'' H'' e le' => kr r v F'' H'' e (le.trans le'))
    fun c p d F'' H'' e le' => ke c p d F'' H'' e (le.trans le')
theorem sb_one {m : R (Fl S ρ)} (h : SB cf E (tSeq t tNext) G enc m) : SB cf E t G enc m := h
theorem sb_assoc {w' : TS} {m : R (Fl S ρ)} (h : SB cf E (tSeq t (tSeq u w')) G enc m) : SB cf E (tSeq (tSeq t u) w') G enc m := h
/-- what is known less -/
inductive Sub : List Sl → List Sl → Prop
  | nil : Sub [] []
  | same {s : Sl} {G G' : List Sl} : Sub G G' → Sub (s :: G) (s :: G')
  | drop {s : Sl} {G G' : List Sl} : Sub G G' → Sub (s :: G) (.un :: G')
theorem Sub.len : ∀ {G G' : List Sl}, Sub G G' → G.length = G'.length
  | _, _, .nil => rfl
  | _, _, .same h => by rw [List.length_cons, List.length_cons, Sub.len h]
  | _, _, .drop h => by rw [List.length_cons, List.length_cons, Sub.len h]
theorem Sub.at : ∀ {G G' : List Sl}, Sub G G' → ∀ (i : Nat) (s : Sl), G'[i]? = some s → s = .un ∨ G[i]? = some s
  | _, _, .nil, i, s, h => by simp at h
  | _, _, .same _, 0, s, h => .inr h
  | _, _, .same q, i + 1, s, h => by
    rcases Sub.at q i s (by simpa using h) with e | e
    · exact .inl e
    · exact .inr (by simpa using e)
  | _, _, .drop _, 0, s, h => by
    simp at h
    exact .inl h.symm
  | _, _, .drop q, i + 1, s, h => by
    rcases Sub.at q i s (by simpa using h) with e | e
    · exact .inl e
    · exact .inr (by simpa using e)
theorem Mt.sub {K : PySem.W.Frag} {F O H : Hp} {σ : L2.St} (q : Sub G G') (h : Mt K F O H σ G) : Mt K F O H σ G' := by
  obtain ⟨O', lo, hf, he, o1, o2⟩ := h
  refine ⟨O', lo, hf, ⟨he.len.trans q.len, fun i s e => ?_⟩, fun i s a e o => ?_, fun i j s t a hij e e' o o' => ?_⟩
  · rcases q.at i s e with z | z
    · rw [z]
      exact trivial
    · exact he.at' i s z
  · rcases q.at i s e with z | z
    · rw [z] at o
      cases o
    · exact o1 i s a z o
  · rcases q.at i s e with z | z
    · rw [z] at o
      cases o
    · rcases q.at j t e' with z' | z'
      · rw [z'] at o'
        cases o'
      · exact o2 i j s t a hij z z' o o'
theorem sb_sub {m : R (Fl S ρ)} (q : Sub G G') (h : SB cf E t G' enc m) : SB cf E t G enc m := fun F O H σ D hM => h F O H σ D (hM.sub q)
theorem sb_next (s : S) (q : Sub G (enc s)) : SB cf E tNext G enc (.ok (.nx s) : R (Fl S ρ)) := fun F O H σ D hM _ kn _ _ _ => kn s F H σ rfl (Le.refl F) (hM.sub q)
theorem sb_break (s : S) (q : Sub G (enc s)) : SB cf E tBreak G enc (.ok (.bk s) : R (Fl S ρ)) := fun F O H σ D hM _ _ kb _ _ => kb s F H σ rfl (Le.refl F) (hM.sub q)
theorem sb_break2 (s : S) (q : Sub G (enc s)) : SB cf E (tSeq tBreak u) G enc (.ok (.bk s) : R (Fl S ρ)) := fun F O H σ D hM _ _ kb _ _ => kb s F H σ rfl (Le.refl F) (hM.sub q)
theorem sb_ret {m : R ρ} (h : EM cf E te G m) : SB cf E (tRet te) G enc (m.bind fun r => .ok (.rt r)) :=
  sb_of (k := fun v D σ H => D.rt v H) h fun F O O' H σ D a v lo hf he o1 o2 hr nb kn kb kr ke => kr a v F H rfl (Le.refl F) (hf.weak lo) hr
theorem sb_ret2 {m : R ρ} (h : EM cf E te G m) : SB cf E (tSeq (tRet te) u) G enc (m.bind fun r => .ok (.rt r)) :=
  sb_of (k := fun v D σ H => D.rt v H) h fun F O O' H σ D a v lo hf he o1 o2 hr nb kn kb kr ke => kr a v F H rfl (Le.refl F) (hf.weak lo) hr
/-- target = e, then u -/
theorem sb_asg [Enc α] {g : TG} {up : α → List Sl → List Sl} {js : List Nat} {m : R α} {f : α → R (Fl S ρ)} (h : EM cf E te G m) (hg : AG cf g up js) (G' : α → List Sl) (hG : ∀ a, up a G = G' a) (hk : ∀ a, SB cf E u (G' a) enc (f a)) :
    SB cf E (tSeq (tAsg te g) u) G enc (m.bind f) :=
  sb_of (k := fun v D σ H => g v σ H (u D)) h fun F O O' H σ D a v lo hf he o1 o2 hr nb kn kb kr ke => hg F O' H σ G v a _ hf he hr fun σ' e' own _ => by
    rw [hG] at e' own
    refine hk a F O H σ' D ⟨O', lo, hf, e', fun i s b q o => ?_, fun i j s t b hij q q' o o' => ?_⟩ nb kn kb kr ke
    · obtain ⟨q1, q2⟩ := own i s q o
      rw [q2]
      exact o1 i s b q1 o
    · obtain ⟨q1, q2⟩ := own i s q o
      obtain ⟨q3, q4⟩ := own j t q' o'
      rw [q2, q4]
      exact o2 i j s t b hij q1 q3 o o'
theorem aug_eq {i : Nat} {ti : TIp} : tAug i te ti = tAsg (tOp ti (tVar i) te) (gName i) := rfl
theorem sb_aug [Enc α] {i : Nat} {ti : TIp} {m : R α} {f : α → R (Fl S ρ)} (h : EM cf E (tOp ti (tVar i) te) G m) (G' : α → List Sl) (hG : ∀ a, G.set i (.va (toD a)) = G' a) (hk : ∀ a, SB cf E u (G' a) enc (f a)) :
    SB cf E (tSeq (tAug i te ti) u) G enc (m.bind f) := sb_asg h (ag_name i) G' hG hk
/-- x = a new list, owned -/
theorem er_own {K : PySem.W.Frag} {F O : Hp} {σ : L2.St} (h : Er K F O σ G) (i : Nat) {v : V} {s : Sl} (r : SlOk K F O (some (some v)) s) : Er K F O (σ.set i (some v)) (G.set i s) := by
  refine ⟨by rw [List.length_set, List.length_set, h.len], fun j t e => ?_⟩
  by_cases hj : i = j
  · subst hj
    by_cases hl : i < G.length
    · rw [List.getElem?_set_self hl] at e
      cases e
      rw [List.getElem?_set_self (by rw [h.len]; exact hl)]
      exact r
    · rw [List.getElem?_eq_none (by rw [List.length_set]; omega)] at e
      cases e
  · rw [List.getElem?_set_ne hj] at e ⊢
    exact h.at' j t e
theorem get_set {A : Type} {l : List A} {i j : Nat} {x y : A} (h : (l.set i x)[j]? = some y) : (i = j ∧ y = x ∧ i < l.length) ∨ (i ≠ j ∧ l[j]? = some y) := by
  by_cases hj : i = j
  · subst hj
    by_cases hl : i < l.length
    · rw [List.getElem?_set_self hl] at h
      cases h
      exact .inl ⟨rfl, rfl, hl⟩
    · rw [List.getElem?_eq_none (by rw [List.length_set]; omega)] at h
      cases h
  · rw [List.getElem?_set_ne hj] at h
    exact .inr ⟨hj, h⟩
/-- the slot i owns a new object at a -/
theorem mt_new {K : PySem.W.Frag} {F O O' H : Hp} {σ : L2.St} {i : Nat} {a : Addr} {o : HO} {s : Sl} (lo : Le O O') (hf : Fm F O' H) (he : Er K F O' σ G)
    (o1 : ∀ (i : Nat) (s : Sl) (a : Addr), G[i]? = some s → s.own = true → σ[i]? = some (some (.ref a)) → O a = none)
    (o2 : ∀ (i j : Nat) (s t : Sl) (a : Addr), i ≠ j → G[i]? = some s → G[j]? = some t → s.own = true → t.own = true → σ[i]? = some (some (.ref a)) → σ[j]? = some (some (.ref a)) → False)
    (hF : F a = none) (hO : O' a = none) (hH : H a = some o) (hs : SlOk K F (upd O' a o) (some (some (.ref a))) s) : Mt K F O H (σ.set i (some (.ref a))) (G.set i s) := by
  have loa : O a = none := lo.free hO
  have hf2 : Fm F (upd O' a o) H := by
    refine ⟨hf.f, fun b u q => ?_, fun b q => ?_⟩
    · by_cases hb : b = a
      · subst hb
        rw [upd_same] at q
        rw [hH]
        exact q
      · rw [upd_ne hb] at q
        exact hf.o b u q
    · have hb : b ≠ a := fun z => q (by rw [z]; exact hF)
      rw [upd_ne hb]
      exact hf.ds b q
  -- no slot that owns holds a
  have na : ∀ (j : Nat) (t : Sl), G[j]? = some t → t.own = true → σ[j]? = some (some (.ref a)) → False := fun j t e o q => by
    have := he.at' j t e
    cases t with
    | un => cases o
    | pv v => cases o
    | va d => cases o
    | ol ds =>
      obtain ⟨b, vs, e1, e2, _⟩ := this
      rw [q] at e1
      cases e1
      rw [hO] at e2
      cases e2
    | od ds =>
      obtain ⟨b, vs, e1, e2, _⟩ := this
      rw [q] at e1
      cases e1
      rw [hO] at e2
      cases e2
  refine ⟨upd O' a o, lo.trans (Le.new hO), hf2, er_own (he.monoO (Le.new hO)) i hs, fun j t b e ow q => ?_, fun j l t t' b hjl e e' ow ow' q q' => ?_⟩
  · rcases get_set q with ⟨rfl, e1, _⟩ | ⟨hj, q⟩
    · cases e1
      exact loa
    · rcases get_set e with ⟨rfl, _, _⟩ | ⟨_, e⟩
      · exact absurd rfl hj
      · exact o1 j t b e ow q
  · rcases get_set e with ⟨rfl, rfl, hl⟩ | ⟨hj, e1⟩
    · rw [List.getElem?_set_self (by rw [he.len]; exact hl)] at q
      cases q
      rcases get_set e' with ⟨rfl, _, _⟩ | ⟨hl', e'⟩
      · exact hjl rfl
      · rw [List.getElem?_set_ne hl'] at q'
        exact na l t' e' ow' q'
    · rw [List.getElem?_set_ne hj] at q
      rcases get_set e' with ⟨rfl, rfl, hl⟩ | ⟨hl', e2⟩
      · rw [List.getElem?_set_self (by rw [he.len]; exact hl)] at q'
        cases q'
        exact na j t e1 ow q
      · rw [List.getElem?_set_ne hl'] at q'
        exact o2 j l t t' b hjl e1 e2 ow ow' q q'
theorem sb_asgO [Enc α] {i : Nat} {m : R (List α)} {f : List α → R (Fl S ρ)} (h : EF cf E te G m) (G' : List α → List Sl) (hG : ∀ xs : List α, G.set i (.ol (xs.map toD)) = G' xs) (hk : ∀ xs, SB cf E u (G' xs) enc (f xs)) :
    SB cf E (tSeq (tAsg te (gName i)) u) G enc (m.bind f) :=
  sb_of (k := fun v D σ H => u D (σ.set i (some v)) H) h fun F O O' H σ D xs v lo hf he o1 o2 hr nb kn kb kr ke => by
    obtain ⟨a, vs, rfl, hF, hO, hH, hd⟩ := hr
    refine hk xs F O H _ D ?_ nb kn kb kr ke
    rw [← hG]
    exact mt_new lo hf he o1 o2 hF hO hH ⟨a, vs, rfl, upd_same, hd⟩
/-- the owned object of the slot i changes -/
theorem mt_wr {K : PySem.W.Frag} {F O O' H : Hp} {σ : L2.St} {i : Nat} {a : Addr} {o u : HO} {s s0 : Sl} (lo : Le O O') (hf : Fm F O' H) (he : Er K F O' σ G)
    (o1 : ∀ (i : Nat) (s : Sl) (a : Addr), G[i]? = some s → s.own = true → σ[i]? = some (some (.ref a)) → O a = none)
    (o2 : ∀ (i j : Nat) (s t : Sl) (a : Addr), i ≠ j → G[i]? = some s → G[j]? = some t → s.own = true → t.own = true → σ[i]? = some (some (.ref a)) → σ[j]? = some (some (.ref a)) → False)
    (h0 : G[i]? = some s0) (w0 : s0.own = true) (hσ : σ[i]? = some (some (.ref a))) (hO : O' a = some u) (ws : s.own = true) (hs : SlOk K F (upd O' a o) (some (some (.ref a))) s) : Mt K F O (upd H a o) σ (G.set i s) := by
  have hOa : O a = none := o1 i s0 a h0 w0 hσ
  refine ⟨upd O' a o, fun b x q => ?_, hf.wr hO, ⟨by rw [List.length_set, he.len], fun j t e => ?_⟩, fun j t b e ow q => ?_, fun j l t t' b hjl e e' ow ow' q q' => ?_⟩
  · rw [upd_ne (ne_of_none q hOa)]
    exact lo b x q
  · rcases get_set e with ⟨rfl, rfl, _⟩ | ⟨hj, e⟩
    · rw [hσ]
      exact hs
    · have := he.at' j t e
      cases t with
      | un => trivial
      | pv v => exact this
      | va d => exact this
      | ol ds =>
        obtain ⟨b, vs, e1, e2, e3⟩ := this
        have hb : b ≠ a := fun z => o2 i j s0 (.ol ds) a hj h0 e w0 rfl hσ (by rw [e1, z])
        exact ⟨b, vs, e1, by rw [upd_ne hb]; exact e2, e3⟩
      | od ds =>
        obtain ⟨b, vs, e1, e2, e3⟩ := this
        have hb : b ≠ a := fun z => o2 i j s0 (.od ds) a hj h0 e w0 rfl hσ (by rw [e1, z])
        exact ⟨b, vs, e1, by rw [upd_ne hb]; exact e2, e3⟩
  · rcases get_set e with ⟨rfl, rfl, _⟩ | ⟨hj, e⟩
    · exact o1 i s0 b h0 w0 q
    · exact o1 j t b e ow q
  · rcases get_set e with ⟨rfl, rfl, _⟩ | ⟨hj, e1⟩
    · rcases get_set e' with ⟨rfl, _, _⟩ | ⟨hl, e2⟩
      · exact hjl rfl
      · exact o2 i l s0 t' b hjl h0 e2 w0 ow' q q'
    · rcases get_set e' with ⟨rfl, rfl, _⟩ | ⟨hl, e2⟩
      · exact o2 j i t s0 b hjl e1 h0 ow w0 q q'
      · exact o2 j l t t' b hjl e1 e2 ow ow' q q'
/-- x.append(e), x owned -/
theorem sb_app [Enc α] {i : Nat} {m : R α} {xs : List α} {f : List α → R (Fl S ρ)} (h0 : G[i]? = some (.ol (xs.map toD))) (h : EM cf E te G m) (G' : List α → List Sl) (hG : ∀ xs : List α, G.set i (.ol (xs.map toD)) = G' xs) (hk : ∀ xs, SB cf E u (G' xs) enc (f xs)) :
    SB cf E (tSeq (tDrop (tBM cf.K "list" rAppend (tVar i) (tCons te tNil))) u) G enc (m.bind fun a => (szR (xs ++ [a])).bind f) := fun F O H σ D hM nb kn kb kr ke => by
  obtain ⟨O', lo, hf, he, o1, o2⟩ := hM
  obtain ⟨a, vs, eσ, eO, hd⟩ := he.at' i _ h0
  refine ⟨_, eσ, .inl ⟨rfl, vs, SqL.of (hf.o _ _ eO)⟩, ?_⟩
  refine h F O' H σ _ hf he (R.bind_nb nb) (fun x v F' H' ex le hf' hr => ?_) (fun c p d F' H' e le hf' hd => ke c p d F' H' (by rw [e]; rfl) le (hf'.weak lo) hd)
  rw [ex, R.ok_bind] at nb kn kb kr ke
  obtain ⟨c, ec⟩ := szR_nb (R.bind_nb nb)
  rw [ec, R.ok_bind] at nb kn kb kr ke
  refine ⟨a, vs, v, rfl, rfl, hf'.o _ _ eO, ?_, ?_⟩
  · rw [hd.length, List.length_map]
    rw [List.length_append] at c
    exact sz_ltM (by omega)
  · refine hk _ F' O _ σ D ?_ nb (fun s F'' H'' σ' e le' => kn s F'' H'' σ' e (le.trans le')) (fun s F'' H'' σ' e le' => kb s F'' H'' σ' e (le.trans le')) (fun r v F'' H'' e le' => kr r v F'' H'' e (le.trans le')) fun c p d F'' H'' e le' => ke c p d F'' H'' e (le.trans le')
    rw [← hG]
    exact mt_wr lo hf' (he.mono le) o1 o2 h0 rfl eσ eO rfl ⟨a, _, rfl, upd_same, by
      rw [List.map_append]
      exact (hd.mono le).append (.cons hr .nil)⟩
/-- x.extend(e), x owned -/
theorem sb_ext [Enc α] {i : Nat} {m : R (List α)} {xs : List α} {f : List α → R (Fl S ρ)} (h0 : G[i]? = some (.ol (xs.map toD))) (h : EL cf E te G m) (G' : List α → List Sl) (hG : ∀ xs : List α, G.set i (.ol (xs.map toD)) = G' xs) (hk : ∀ xs, SB cf E u (G' xs) enc (f xs)) :
    SB cf E (tSeq (tDrop (tBM cf.K "list" rExtend (tVar i) (tCons te tNil))) u) G enc (m.bind fun ys => (szR (xs ++ ys)).bind f) := fun F O H σ D hM nb kn kb kr ke => by
  obtain ⟨O', lo, hf, he, o1, o2⟩ := hM
  obtain ⟨a, vs, eσ, eO, hd⟩ := he.at' i _ h0
  refine ⟨_, eσ, .inl ⟨rfl, vs, SqL.of (hf.o _ _ eO)⟩, ?_⟩
  refine h F O' H σ _ hf he (R.bind_nb nb) (fun ys v F' H' ex le hf' hr => ?_) (fun c p d F' H' e le hf' hd => ke c p d F' H' (by rw [e]; rfl) le (hf'.weak lo) hd)
  rw [ex, R.ok_bind] at nb kn kb kr ke
  obtain ⟨c, ec⟩ := szR_nb (R.bind_nb nb)
  rw [ec, R.ok_bind] at nb kn kb kr ke
  obtain ⟨b, ws, eb, hb, hw⟩ := RL.at hr hf'
  refine ⟨a, b, vs, ws, rfl, by rw [eb], hf'.o _ _ eO, hb, ?_, ?_⟩
  · rw [hd.length, hw.length, List.length_map, List.length_map, ← List.length_append]
    exact sz_le c
  · refine hk _ F' O _ σ D ?_ nb (fun s F'' H'' σ' e le' => kn s F'' H'' σ' e (le.trans le')) (fun s F'' H'' σ' e le' => kb s F'' H'' σ' e (le.trans le')) (fun r v F'' H'' e le' => kr r v F'' H'' e (le.trans le')) fun c p d F'' H'' e le' => ke c p d F'' H'' e (le.trans le')
    rw [← hG]
    exact mt_wr lo hf' (he.mono le) o1 o2 h0 rfl eσ eO rfl ⟨a, _, rfl, upd_same, by
      rw [List.map_append]
      exact (hd.mono le).append hw⟩
/-- x.reverse(), x owned -/
theorem sb_rev [Enc α] {i : Nat} {xs : List α} {m : R (Fl S ρ)} (h0 : G[i]? = some (.ol (xs.map toD))) (G' : List Sl) (hG : G.set i (.ol (xs.reverse.map toD)) = G') (hk : SB cf E u G' enc m) :
    SB cf E (tSeq (tDrop (tBM0 cf.K "list" rReverse (tVar i))) u) G enc m := fun F O H σ D hM nb kn kb kr ke => by
  obtain ⟨O', lo, hf, he, o1, o2⟩ := hM
  obtain ⟨a, vs, eσ, eO, hd⟩ := he.at' i _ h0
  refine ⟨_, eσ, .inl ⟨rfl, vs, SqL.of (hf.o _ _ eO)⟩, a, vs, rfl, rfl, hf.o _ _ eO, ?_⟩
  refine hk F O _ σ D ?_ nb kn kb kr ke
  rw [← hG]
  exact mt_wr lo hf he o1 o2 h0 rfl eσ eO rfl ⟨a, _, rfl, upd_same, by
    rw [List.map_reverse]
    exact hd.reverse⟩
/-- target = x.pop(), x owned -/
def popR (xs : List α) : R (List α × α) := match xs.getLast? with
  | some x => .ok (xs.dropLast, x)
  | none => .bad
theorem sb_pop [Enc α] {i : Nat} {g : TG} {up : α → List Sl → List Sl} {js : List Nat} {xs : List α} {f : List α × α → R (Fl S ρ)} (h0 : G[i]? = some (.ol (xs.map toD))) (hg : AG cf g up js) (G' : List α × α → List Sl)
    (hG : ∀ p : List α × α, up p.2 (G.set i (.ol (p.1.map toD))) = G' p) (hk : ∀ p, SB cf E u (G' p) enc (f p)) :
    SB cf E (tSeq (tAsg (tBM0 cf.K "list" rPop (tVar i)) g) u) G enc ((popR xs).bind f) := fun F O H σ D hM nb kn kb kr ke => by
  obtain ⟨O', lo, hf, he, o1, o2⟩ := hM
  obtain ⟨a, vs, eσ, eO, hd⟩ := he.at' i _ h0
  cases hl : xs.getLast? with
  | none =>
    unfold popR at nb
    rw [hl] at nb
    exact absurd rfl nb
  | some x =>
    have ep : popR xs = .ok (xs.dropLast, x) := by
      unfold popR
      rw [hl]
    rw [ep, R.ok_bind] at nb kn kb kr ke
    rw [List.getLast?_eq_getElem?] at hl
    obtain ⟨v, hv, hr⟩ := hd.get (show (xs.map toD)[xs.length - 1]? = some (toD x) by rw [List.getElem?_map, hl]; rfl)
    have hlen : vs.length = xs.length := by rw [hd.length, List.length_map]
    refine ⟨_, eσ, .inl ⟨rfl, vs, SqL.of (hf.o _ _ eO)⟩, a, vs, v, rfl, rfl, hf.o _ _ eO, by rw [hlen]; exact hv, ?_⟩
    have hM2 : Mt cf.K F O (upd H a (.lst vs.dropLast)) σ (G.set i (.ol (xs.dropLast.map toD))) := mt_wr lo hf he o1 o2 h0 rfl eσ eO rfl ⟨a, _, rfl, upd_same, by
      rw [List.map_dropLast]
      exact hd.dropLast⟩
    obtain ⟨O2, lo2, hf2, he2, o12, o22⟩ := hM2
    refine hg F O2 _ σ _ v x _ hf2 he2 hr fun σ' e' own _ => ?_
    have hG' := hG (xs.dropLast, x)
    rw [hG'] at e' own
    refine hk _ F O _ σ' D ⟨O2, lo2, hf2, e', fun i s b q o => ?_, fun i j s t b hij q q' o o' => ?_⟩ nb kn kb kr ke
    · obtain ⟨q1, q2⟩ := own i s q o
      rw [q2]
      exact o12 i s b q1 o
    · obtain ⟨q1, q2⟩ := own i s q o
      obtain ⟨q3, q4⟩ := own j t q' o'
      rw [q2, q4]
      exact o22 i j s t b hij q1 q3 o o'
/-- x[k] = e, x owned -/
def setR (xs : List α) (k : Int) (a : α) : R (List α) := match ixN xs.length k with
  | some j => .ok (xs.set j a)
  | none => .bad
theorem sb_setL [Enc α] {i : Nat} {tk : TE} {m : R α} {n : R Int} {xs : List α} {f : List α → R (Fl S ρ)} (h0 : G[i]? = some (.ol (xs.map toD))) (h : EM cf E te G m) (hi : EM cf E tk G n) (G' : List α → List Sl) (hG : ∀ xs : List α, G.set i (.ol (xs.map toD)) = G' xs) (hk : ∀ xs, SB cf E u (G' xs) enc (f xs)) :
    SB cf E (tSeq (tAsg te (gSub (tVar i) tk rSetL)) u) G enc (m.bind fun a => n.bind fun k => (setR xs k a).bind f) := fun F O H σ D hM nb kn kb kr ke => by
  obtain ⟨O', lo, hf, he, o1, o2⟩ := hM
  obtain ⟨a, vs, eσ, eO, hd⟩ := he.at' i _ h0
  refine h F O' H σ _ hf he (R.bind_nb nb) (fun x v F1 H1 ex le1 hf1 hr => ?_) (fun c p d F' H' e le hf' hd => ke c p d F' H' (by rw [e]; rfl) le (hf'.weak lo) hd)
  rw [ex, R.ok_bind] at nb kn kb kr ke
  refine ⟨_, eσ, ?_⟩
  refine hi F1 O' H1 σ _ hf1 (he.mono le1) (R.bind_nb nb) (fun k w' F' H' ek le2 hf' hw => ?_) (fun c p d F' H' e le hf' hd => ke c p d F' H' (by rw [e]; rfl) (le1.trans le) (hf'.weak lo) hd)
  rw [ek, R.ok_bind] at nb kn kb kr ke
  cases hx : ixN xs.length k with
  | none =>
    unfold setR at nb
    rw [hx] at nb
    exact absurd rfl nb
  | some j =>
    have es : setR xs k x = .ok (xs.set j x) := by
      unfold setR
      rw [hx]
    rw [es, R.ok_bind] at nb kn kb kr ke
    have le := le1.trans le2
    refine ⟨a, vs, k, j, rfl, dr_int hw, hf'.o _ _ eO, by rw [hd.length, List.length_map]; exact hx, ?_⟩
    refine hk _ F' O _ σ D ?_ nb (fun s F'' H'' σ' e le' => kn s F'' H'' σ' e (le.trans le')) (fun s F'' H'' σ' e le' => kb s F'' H'' σ' e (le.trans le')) (fun r v F'' H'' e le' => kr r v F'' H'' e (le.trans le')) fun c p d F'' H'' e le' => ke c p d F'' H'' e (le.trans le')
    rw [← hG]
    exact mt_wr lo hf' (he.mono le) o1 o2 h0 rfl eσ eO rfl ⟨a, _, rfl, upd_same, by
      rw [List.map_set]
      exact (hd.mono le).set (hr.mono le2) j⟩
def era (H : Hp) (a : Addr) : Hp := fun b => if b = a then none else H b
theorem era_ne {H : Hp} {a b : Addr} (h : b ≠ a) : era H a b = H b := if_neg h
theorem era_same {H : Hp} {a : Addr} : era H a a = none := if_pos rfl
/-- what is owned becomes data -/
theorem sb_frz {i : Nat} {ds : List Dt} {m : R (Fl S ρ)} (h0 : G[i]? = some (.ol ds)) (G' : List Sl) (hG : G.set i (.va (.lst ds)) = G') (h : SB cf E t G' enc m) : SB cf E t G enc m := fun F O H σ D hM nb kn kb kr ke => by
  obtain ⟨O', lo, hf, he, o1, o2⟩ := hM
  obtain ⟨a, vs, eσ, eO, hd⟩ := he.at' i _ h0
  have hF : F a = none := hf.own eO
  have hOa : O a = none := o1 i _ a h0 rfl eσ
  have le : Le F (upd F a (.lst vs)) := Le.new hF
  have hdel : ∀ b o, b ≠ a → O' b = some o → era O' a b = some o := fun b o hb q => by rw [era_ne hb]; exact q
  have hM2 : Mt cf.K (upd F a (.lst vs)) O H σ G' := by
    refine ⟨era O' a, fun b x q => hdel b x (ne_of_none q hOa) (lo b x q), ⟨fun b x q => ?_, fun b x q => ?_, fun b q => ?_⟩, ⟨?_, fun j s e => ?_⟩, fun j t b e ow q => ?_, fun j l t t' b hjl e e' ow ow' q q' => ?_⟩
    · by_cases hb : b = a
      · subst hb
        rw [upd_same] at q
        rw [hf.o _ _ eO]
        exact q
      · rw [upd_ne hb] at q
        exact hf.f b x q
    · by_cases hb : b = a
      · subst hb
        rw [era_same] at q
        cases q
      · rw [era_ne hb] at q
        exact hf.o b x q
    · by_cases hb : b = a
      · subst hb
        exact era_same
      · rw [upd_ne hb] at q
        rw [era_ne hb]
        exact hf.ds b q
    · rw [← hG, List.length_set, he.len]
    · rw [← hG] at e
      rcases get_set e with ⟨rfl, rfl, _⟩ | ⟨hj, e⟩
      · exact ⟨_, eσ, .lst upd_same (hd.mono le)⟩
      · have := (he.at' j s e).mono le
        cases s with
        | un => trivial
        | pv v => exact this
        | va d => exact this
        | ol es =>
          obtain ⟨b, ws, e1, e2, e3⟩ := this
          have hb : b ≠ a := fun z => o2 i j _ (.ol es) a hj h0 e rfl rfl eσ (by rw [e1, z])
          exact ⟨b, ws, e1, hdel b _ hb e2, e3⟩
        | od es =>
          obtain ⟨b, ws, e1, e2, e3⟩ := this
          have hb : b ≠ a := fun z => o2 i j _ (.od es) a hj h0 e rfl rfl eσ (by rw [e1, z])
          exact ⟨b, ws, e1, hdel b _ hb e2, e3⟩
    · rw [← hG] at e
      rcases get_set e with ⟨rfl, rfl, _⟩ | ⟨hj, e⟩
      · cases ow
      · exact o1 j t b e ow q
    · rw [← hG] at e e'
      rcases get_set e with ⟨rfl, rfl, _⟩ | ⟨hj, e⟩
      · cases ow
      · rcases get_set e' with ⟨rfl, rfl, _⟩ | ⟨hl, e'⟩
        · cases ow'
        · exact o2 j l t t' b hjl e e' ow ow' q q'
  exact h _ O H σ D hM2 nb (fun s F'' H'' σ' e le' => kn s F'' H'' σ' e (le.trans le')) (fun s F'' H'' σ' e le' => kb s F'' H'' σ' e (le.trans le')) (fun r v F'' H'' e le' => kr r v F'' H'' e (le.trans le')) fun c p d F'' H'' e le' => ke c p d F'' H'' e (le.trans le')

/-! ### ifs, blocks -/
theorem sb_if {w' : TS} {mc : R Bool} {m1 m2 : R (Fl S ρ)} (hc : EB cf E tc G mc) (h1 : SB cf E (tSeq t w') G enc m1) (h2 : SB cf E (tSeq u w') G enc m2) : SB cf E (tSeq (tIfS tc t u) w') G enc (mc.bind fun c => if c = true then m1 else m2) :=
  sb_of (k := fun b D σ H => if b = true then t { D with nx := w' D } σ H else u { D with nx := w' D } σ H) hc fun F O O' H σ D a v lo hf he o1 o2 hr nb kn kb kr ke => by
    obtain rfl : v = a := hr
    cases v with
    | true => exact h1 F O H σ D ⟨O', lo, hf, he, o1, o2⟩ nb kn kb kr ke
    | false => exact h2 F O H σ D ⟨O', lo, hf, he, o1, o2⟩ nb kn kb kr ke
/-- the last statement of a block -/
theorem sb_ifL {mc : R Bool} {m1 m2 : R (Fl S ρ)} (hc : EB cf E tc G mc) (h1 : SB cf E t G enc m1) (h2 : SB cf E u G enc m2) : SB cf E (tIfS tc t u) G enc (mc.bind fun c => if c = true then m1 else m2) := sb_if (w' := tNext) hc h1 h2
/-- a block, then the rest -/
theorem sb_seq {enc1 : T → List Sl} {m : R (Fl T ρ)} {k : T → R (Fl S ρ)} (h : SB cf E t G enc1 m) (hk : ∀ s, SB cf E u (enc1 s) enc (k s)) : SB cf E (tSeq t u) G enc (seqF m k) := fun F O H σ D hM nb kn kb kr ke =>
  h F O H σ { D with nx := u D } hM (R.bind_nb nb) (fun s F' H' σ' e le hM' => by
      unfold seqF at nb kn kb kr ke
      rw [e, R.ok_bind] at nb kn kb kr ke
      exact hk s F' O H' σ' D hM' nb (fun s F'' H'' σ' e le' => kn s F'' H'' σ' e (le.trans le')) (fun s F'' H'' σ' e le' => kb s F'' H'' σ' e (le.trans le')) (fun r v F'' H'' e le' => kr r v F'' H'' e (le.trans le')) fun c p d F'' H'' e le' => ke c p d F'' H'' e (le.trans le'))
    (fun s F' H' σ' e le hM' => by
      unfold seqF at nb
      rw [e, R.ok_bind] at nb
      exact absurd rfl nb)
    (fun r v F' H' e le hf hr => kr r v F' H' (by unfold seqF; rw [e]; rfl) le hf hr) fun c p d F' H' e le hf hd => ke c p d F' H' (by unfold seqF; rw [e]; rfl) le hf hd

/-! ### loops -/
def forR (step : T → α → R (Fl T ρ)) (k : T → R (Fl S ρ)) : List α → T → R (Fl S ρ)
  | [], s => k s
  | x :: r, s => (step s x).bind fun
    | .nx s' => forR step k r s'
    | .bk s' => k s'
    | .rt v => .ok (.rt v)
theorem sb_for [Enc α] {wi : TI} {g : TG} {tb : TS} {up : α → List Sl → List Sl} {js : List Nat} {m : R (List α)} {encL : T → List Sl} {step : T → α → R (Fl T ρ)} {k : T → R (Fl S ρ)} (hi : IG cf E wi G m) (hg : AG cf g up js) (s0 : T) (h0 : Sub G (encL s0))
    (Gi : T → α → List Sl) (hG : ∀ s a, up a (encL s) = Gi s a) (hb : ∀ s a, SB cf E tb (Gi s a) encL (step s a)) (hk : ∀ s, SB cf E u (encL s) enc (k s)) :
    SB cf E (tSeq (tFor wi g tb) u) G enc (m.bind fun xs => forR step k xs s0) := fun F O H σ D hM nb kn kb kr ke => by
  obtain ⟨O0, lo, hf, he, o1, o2⟩ := hM
  refine hi F O0 H σ _ hf he (R.bind_nb nb) (fun xs J F1 H1 em le1 hf1 hJ => ?_) (fun c p d F' H' e le hf' hd => ke c p d F' H' (by rw [e]; rfl) le (hf'.weak lo) hd)
  rw [em, R.ok_bind] at nb kn kb kr ke
  have hM1 : Mt cf.K F1 O H1 σ G := ⟨O0, lo, hf1, he.mono le1, o1, o2⟩
  let W : Nat → Nat → L2.St → Hp → Prop := fun i mm σ H => mm = xs.length - i ∧ i ≤ xs.length ∧ ∃ (F2 : Hp) (s : T), Le F1 F2 ∧ Mt cf.K F2 O H σ (encL s) ∧ forR step k (xs.drop i) s = forR step k xs s0
  refine ⟨W, ⟨xs.length, by simp, Nat.zero_le _, F1, s0, Le.refl F1, hM1.sub h0, by rw [List.drop_zero]⟩, ?_⟩
  rintro i mm σ2 H2 ⟨rfl, hi, F2, s, le2, hM2, tot⟩
  by_cases hlt : i < xs.length
  · have hx : xs[i]? = some xs[i] := List.getElem?_eq_getElem hlt
    rw [List.drop_eq_getElem_cons hlt] at tot
    rw [← tot] at nb kn kb kr ke
    obtain ⟨O2, lo2, hf2, he2, o12, o22⟩ := hM2
    obtain ⟨hgo, hyl⟩ := (hJ i F2 O2 H2 le2 hf2).1 _ hx
    refine .inr ⟨hgo, fun σ H => W (i + 1) (xs.length - (i + 1)) σ H, fun σ' H' h' => ⟨_, by omega, h'⟩, fun v H3 hy => ?_⟩
    obtain ⟨F3, le3, hf3, hv⟩ := hyl v H3 hy
    refine hg F3 O2 H3 σ2 _ v xs[i] _ hf3 (he2.mono le3) hv fun σ3 e3 own _ => ?_
    rw [hG] at e3 own
    have hM3 : Mt cf.K F3 O H3 σ3 (Gi s xs[i]) := ⟨O2, lo2, hf3, e3, fun i s b q o => by
        obtain ⟨q1, q2⟩ := own i s q o
        rw [q2]
        exact o12 i s b q1 o, fun i j s t b hij q q' o o' => by
        obtain ⟨q1, q2⟩ := own i s q o
        obtain ⟨q3, q4⟩ := own j t q' o'
        rw [q2, q4]
        exact o22 i j s t b hij q1 q3 o o'⟩
    have le13 := (le1.trans le2).trans le3
    refine hb s xs[i] F3 O H3 σ3 _ hM3 (R.bind_nb nb) (fun s' F4 H4 σ4 e le4 hM4 => ?_) (fun s' F4 H4 σ4 e le4 hM4 => ?_) (fun r v F4 H4 e le4 hf4 hr => ?_) (fun c p d F4 H4 e le4 hf4 hd => ?_)
    · refine ⟨rfl, hlt, F4, s', (le2.trans le3).trans le4, hM4, ?_⟩
      rw [← tot]
      show _ = (step s xs[i]).bind _
      rw [e]
      rfl
    · have en : forR step k (xs[i] :: xs.drop (i + 1)) s = k s' := by
        show (step s xs[i]).bind _ = _
        rw [e]
        rfl
      rw [en] at nb kn kb kr ke
      have le14 := le13.trans le4
      exact hk s' F4 O H4 σ4 D hM4 nb (fun s F'' H'' σ' e le' => kn s F'' H'' σ' e (le14.trans le')) (fun s F'' H'' σ' e le' => kb s F'' H'' σ' e (le14.trans le')) (fun r v F'' H'' e le' => kr r v F'' H'' e (le14.trans le')) fun c p d F'' H'' e le' => ke c p d F'' H'' e (le14.trans le')
    · exact kr r v F4 H4 (by show (step s xs[i]).bind _ = _; rw [e]; rfl) (le13.trans le4) hf4 hr
    · exact ke c p d F4 H4 (by show (step s xs[i]).bind _ = _; rw [e]; rfl) (le13.trans le4) hf4 hd
  · have e : i = xs.length := by omega
    subst e
    rw [List.drop_length] at tot
    have tot2 : forR step k xs s0 = k s := tot.symm
    rw [tot2] at nb kn kb kr ke
    obtain ⟨O2, lo2, hf2, he2, o12, o22⟩ := id hM2
    have le12 := le1.trans le2
    exact .inl ⟨(hJ _ F2 O2 H2 le2 hf2).2 (Nat.le_refl _), hk s F2 O H2 σ2 D hM2 nb (fun s F'' H'' σ' e le' => kn s F'' H'' σ' e (le12.trans le')) (fun s F'' H'' σ' e le' => kb s F'' H'' σ' e (le12.trans le')) (fun r v F'' H'' e le' => kr r v F'' H'' e (le12.trans le')) fun c p d F'' H'' e le' => ke c p d F'' H'' e (le12.trans le')⟩
/-- while: fuel, what is tested, the body -/
def whileR (c : T → R Bool) (step : T → R (Fl T ρ)) (k : T → R (Fl S ρ)) : Nat → T → R (Fl S ρ)
  | 0, _ => .bad
  | n + 1, s => (c s).bind fun b => if b = true then (step s).bind fun
      | .nx s' => whileR c step k n s'
      | .bk s' => k s'
      | .rt v => .ok (.rt v) else k s
theorem sb_while {tb : TS} {encL : T → List Sl} {c : T → R Bool} {step : T → R (Fl T ρ)} {k : T → R (Fl S ρ)} (n : Nat) (s0 : T) (h0 : Sub G (encL s0)) (hc : ∀ s, EB cf E tc (encL s) (c s)) (hb : ∀ s, SB cf E tb (encL s) encL (step s)) (hk : ∀ s, SB cf E u (encL s) enc (k s)) :
    SB cf E (tSeq (tWhile tc tb) u) G enc (whileR c step k n s0) := fun F O H σ D hM nb kn kb kr ke => by
  let W : Nat → L2.St → Hp → Prop := fun mm σ H => ∃ (F2 : Hp) (s : T), Le F F2 ∧ Mt cf.K F2 O H σ (encL s) ∧ whileR c step k mm s = whileR c step k n s0
  refine ⟨W, ⟨n, F, s0, Le.refl F, hM.sub h0, rfl⟩, ?_⟩
  rintro mm σ2 H2 ⟨F2, s, le2, hM2, tot⟩
  rw [← tot] at nb kn kb kr ke
  cases mm with
  | zero => exact absurd rfl nb
  | succ mm =>
    obtain ⟨O2, lo2, hf2, he2, o12, o22⟩ := hM2
    refine hc s F2 O2 H2 σ2 _ hf2 he2 (R.bind_nb nb) (fun b r F3 H3 e le3 hf3 hr => ?_) (fun c' p d F' H' e le hf' hd => ke c' p d F' H' (by show (c s).bind _ = _; rw [e]; rfl) (le2.trans le) (hf'.weak lo2) hd)
    obtain rfl : r = b := hr
    have hM3 : Mt cf.K F3 O H3 σ2 (encL s) := ⟨O2, lo2, hf3, he2.mono le3, o12, o22⟩
    have le13 := le2.trans le3
    cases r with
    | false =>
      have en : whileR c step k (mm + 1) s = k s := by
        show (c s).bind _ = _
        rw [e]
        rfl
      rw [en] at nb kn kb kr ke
      exact hk s F3 O H3 σ2 D hM3 nb (fun s F'' H'' σ' e le' => kn s F'' H'' σ' e (le13.trans le')) (fun s F'' H'' σ' e le' => kb s F'' H'' σ' e (le13.trans le')) (fun r v F'' H'' e le' => kr r v F'' H'' e (le13.trans le')) fun c p d F'' H'' e le' => ke c p d F'' H'' e (le13.trans le')
    | true =>
      have en : whileR c step k (mm + 1) s = (step s).bind fun
          | .nx s' => whileR c step k mm s'
          | .bk s' => k s'
          | .rt v => .ok (.rt v) := by
        show (c s).bind _ = _
        rw [e]
        rfl
      rw [en] at nb kn kb kr ke
      refine ⟨fun σ H => W mm σ H, fun σ' H' h' => ⟨mm, Nat.lt_succ_self _, h'⟩, ?_⟩
      refine hb s F3 O H3 σ2 _ hM3 (R.bind_nb nb) (fun s' F4 H4 σ4 e4 le4 hM4 => ?_) (fun s' F4 H4 σ4 e4 le4 hM4 => ?_) (fun r v F4 H4 e4 le4 hf4 hr => kr r v F4 H4 (by rw [e4]; rfl) (le13.trans le4) hf4 hr) (fun c p d F4 H4 e4 le4 hf4 hd => ke c p d F4 H4 (by rw [e4]; rfl) (le13.trans le4) hf4 hd)
      · refine ⟨F4, s', le13.trans le4, hM4, ?_⟩
        rw [← tot, en, e4]
        rfl
      · rw [e4, R.ok_bind] at nb kn kb kr ke
        have le14 := le13.trans le4
        exact hk s' F4 O H4 σ4 D hM4 nb (fun s F'' H'' σ' e le' => kn s F'' H'' σ' e (le14.trans le')) (fun s F'' H'' σ' e le' => kb s F'' H'' σ' e (le14.trans le')) (fun r v F'' H'' e le' => kr r v F'' H'' e (le14.trans le')) fun c p d F'' H'' e le' => ke c p d F'' H'' e (le14.trans le')
end
end Kr

/-! KrF: what a def promises by data, its call, its body. -/
namespace Kr
open PySem PySem.Spec PyProof.Rows L2
open Enc (toD)

/-- called with values of the data ds, it returns what the relation says; it raises nothing -/
def SpP (cf : Cf) (n : Nat) (spec : List Dt → R Dt → Prop) : Sp := fun vs H Q _ => vs.length = n ∧ ∃ (F O : Hp) (ds : List Dt) (d : Dt), Fm F O H ∧ DrA cf.K F vs ds ∧ spec ds (.ok d) ∧ ∀ v F' H', Le F F' → Fm F' O H' → Dr cf.K F' v d → Q v H'
theorem SpP.len {cf : Cf} {n : Nat} {spec : List Dt → R Dt → Prop} {ps : List Str} (h : ps.length = n := by rfl) : ∀ vs H Q E, SpP cf n spec vs H Q E → vs.length = ps.length := fun vs H Q E q => by rw [h]; exact q.1
/-- what a body gives, as a value -/
def finR {S ρ : Type} (m : R (Fl S ρ)) : R ρ := m.bind fun
  | .rt r => .ok r
  | _ => .bad
/-- of a def without return -/
def finN {S : Type} (m : R (Fl S Unit)) : R Unit := m.bind fun
  | .rt r => .ok r
  | .nx _ => .ok ()
  | _ => .bad
theorem er_start {K : PySem.W.Frag} {F O : Hp} {N : List Str} {vs : List V} {ds : List Dt} (h : DrA K F vs ds) : Er K F O (L2.start N vs) (ds.map Sl.va ++ List.replicate (N.length - ds.length) .un) := by
  have hl := h.length
  refine ⟨?_, fun i s e => ?_⟩
  · unfold L2.start
    rw [List.length_append, List.length_append, List.length_map, List.length_map, List.length_replicate, List.length_replicate, hl]
  · by_cases hi : i < ds.length
    · rw [List.getElem?_append_left (by rw [List.length_map]; exact hi), List.getElem?_map] at e
      cases q : ds[i]? with
      | none =>
        rw [q] at e
        cases e
      | some d =>
        rw [q] at e
        cases e
        obtain ⟨v, hv, r⟩ := h.get q
        refine ⟨v, ?_, r⟩
        unfold L2.start
        rw [List.getElem?_append_left (by rw [List.length_map, hl]; exact hi), List.getElem?_map, hv]
        rfl
    · rw [List.getElem?_append_right (by rw [List.length_map]; omega)] at e
      have e2 := List.getElem?_replicate (n := N.length - ds.length) (a := Sl.un) (i := i - (ds.map Sl.va).length)
      rw [e2] at e
      split at e
      · cases e
        exact trivial
      · cases e
theorem mt_start {K : PySem.W.Frag} {F O H : Hp} {N : List Str} {vs : List V} {ds : List Dt} (hf : Fm F O H) (h : DrA K F vs ds) : Mt K F O H (L2.start N vs) (ds.map Sl.va ++ List.replicate (N.length - ds.length) .un) := by
  refine ⟨O, Le.refl O, hf, er_start h, fun i s a e o => ?_, fun i j s t a _ e _ o => ?_⟩
  all_goals
    exfalso
    rcases List.mem_append.mp (List.mem_of_getElem? e) with hm | hm
    · obtain ⟨d, _, rfl⟩ := List.mem_map.mp hm
      cases o
    · rw [List.eq_of_mem_replicate hm] at o
      cases o
section
variable {cf : Cf} {E : XK} {G : List Sl} {S ρ : Type} [Enc ρ]
/-- the promise from the body's run -/
theorem run_of {t : TS} {N : List Str} {vs : List V} {H : Hp} {Q : VK} {n : Nat} {spec : List Dt → R Dt → Prop} {enc : S → List Sl} (h : SpP cf n spec vs H Q E)
    (hb : ∀ ds d, spec ds (.ok d) → ∃ m : R (Fl S ρ), SB cf E0 t (ds.map Sl.va ++ List.replicate (N.length - ds.length) .un) enc m ∧ ∃ r, finR m = .ok r ∧ d = toD r) : t { nx := fun _ H' => Q .non H', rt := Q } (L2.start N vs) H := by
  obtain ⟨_, F, O, ds, d, hf, hr, hs, q⟩ := h
  obtain ⟨m, hm, r, er, ed⟩ := hb ds d hs
  have em : m = .ok (.rt r) := by
    cases m with
    | ok x =>
      cases x with
      | nx s => cases er
      | bk s => cases er
      | rt r' => cases er; rfl
    | er c p => cases er
    | bad => cases er
  subst em
  refine hm F O H _ _ (mt_start hf hr) (fun z => nomatch z) (fun _ _ _ _ z => nomatch z) (fun _ _ _ _ z => nomatch z) (fun r' v F' H' e le hf' hr' => ?_) (fun _ _ _ _ _ z => nomatch z)
  cases e
  rw [ed] at q
  exact q v F' H' le hf' hr'
theorem run_ofN {t : TS} {N : List Str} {vs : List V} {H : Hp} {Q : VK} {n : Nat} {spec : List Dt → R Dt → Prop} {enc : S → List Sl} (h : SpP cf n spec vs H Q E)
    (hb : ∀ ds d, spec ds (.ok d) → ∃ m : R (Fl S Unit), SB cf E0 t (ds.map Sl.va ++ List.replicate (N.length - ds.length) .un) enc m ∧ ∃ r, finN m = .ok r ∧ d = toD r) : t { nx := fun _ H' => Q .non H', rt := Q } (L2.start N vs) H := by
  obtain ⟨_, F, O, ds, d, hf, hr, hs, q⟩ := h
  obtain ⟨m, hm, r, er, ed⟩ := hb ds d hs
  have ed' : d = .non := ed
  subst ed'
  refine hm F O H _ _ (mt_start hf hr) (fun z => by rw [z] at er; cases er) (fun s F' H' σ' e le hM => q .non F' H' le hM.fm .non) (fun s F' H' σ' e => by rw [e] at er; cases er) (fun r' v F' H' e le hf' hr' => q v F' H' le hf' hr') (fun c p d F' H' e => by rw [e] at er; cases er)
end

section
variable {α τ : Type} [Enc α] [Enc τ]
def sp1 (g : α → R τ) : List Dt → R Dt → Prop := fun ds r => ∃ (a : α), ds = [toD a] ∧ r = (g a).map toD
theorem em_call1 {cf : Cf} {E : XK} {G : List Sl} {t0 : TE} {m0 : R α} {g : α → R τ} (h0 : EM cf E t0 G m0) : EM cf E (tCall (SpP cf 1 (sp1 g)) [] E0 (tCons t0 tNil)) G (m0.bind fun a => (g a).pu) := fun F O H σ Q hf he nb ko ke => by
  refine h0 F O H σ _ hf he (R.bind_nb nb) (fun a v0 F1 H1 e0 l1 hf1 r0 => ?_) (fun c p d F' H' e le hf' hd => ke c p d F' H' (by rw [e]; rfl) (le) hf' hd)
  rw [e0, R.ok_bind] at nb ko ke
  have le1 := l1
  obtain ⟨y, ey⟩ := pu_nb nb
  exact ⟨rfl, F1, O, _, toD y, hf1, (.cons r0 .nil), ⟨a, rfl, by rw [ey]; rfl⟩, fun v F' H' le hf' hr => ko y v F' H' (by rw [ey]; rfl) (le1.trans le) hf' hr⟩
theorem fn1 {P : Program} {w : World} {cf : Cf} {mg : Str → Option Value} {base : Heap} {x qual : Str} {st : Stmt} {f0 : Addr} {fd : FuncData} {N ps : List Str} {k : Nat} {S : Type} {enc : S → List Sl} (F : Fun cf.K x qual st f0 fd) (sc : FnScope N ps (defScope st)) (hp : ps.length = 1) (g : α → R (Fl S τ))
    (G0 : α → List Sl) (hG : ∀ a, [.va (toD a)] ++ List.replicate (N.length - 1) .un = G0 a)
    (h : ∀ (cdv : Value) (A : Around) (outer : List Env) (s : Shared) (H : Hp) (E : XK), Room k (A.deeper (envOfC qual (defScope st) s.heap.objs.size f0 cdv)) →
      ∃ t, PSs (cxOf CX0 P w cf.K mg base N qual (defScope st) f0 cdv A outer s H E).nox (defBody st) t ∧ ∀ a, SB cf E0 t (G0 a) enc (g a)) :
    FnOk P w cf.K mg base CX0 (k + 1) f0 fd ps (SpP cf 1 (sp1 fun a => finR (g a))) := by
  refine F.ok sc (SpP.len hp) (fun cdv A outer s H vs Q E hr hq => ?_)
  obtain ⟨t, ht, hb⟩ := h cdv A outer s H E hr
  refine ⟨t, ht, run_of (ρ := τ) (S := S) (enc := enc) hq fun ds dd hs => ?_⟩
  obtain ⟨a, rfl, er⟩ := hs
  refine ⟨g a, by have q := hb a; rw [← hG] at q; exact q, ?_⟩
  replace er : R.ok dd = (finR (g a)).map toD := er
  generalize q : finR (g a) = z at er
  cases z with
  | ok r => exact ⟨r, rfl, R.ok.inj er⟩
  | er c p => cases er
  | bad => cases er
end

section
variable {α β τ : Type} [Enc α] [Enc β] [Enc τ]
def sp2 (g : α → β → R τ) : List Dt → R Dt → Prop := fun ds r => ∃ (a : α) (b : β), ds = [toD a, toD b] ∧ r = (g a b).map toD
theorem em_call2 {cf : Cf} {E : XK} {G : List Sl} {t0 t1 : TE} {m0 : R α} {m1 : R β} {g : α → β → R τ} (h0 : EM cf E t0 G m0) (h1 : EM cf E t1 G m1) : EM cf E (tCall (SpP cf 2 (sp2 g)) [] E0 (tCons t0 (tCons t1 tNil))) G (m0.bind fun a => m1.bind fun b => (g a b).pu) := fun F O H σ Q hf he nb ko ke => by
  refine h0 F O H σ _ hf he (R.bind_nb nb) (fun a v0 F1 H1 e0 l1 hf1 r0 => ?_) (fun c p d F' H' e le hf' hd => ke c p d F' H' (by rw [e]; rfl) (le) hf' hd)
  rw [e0, R.ok_bind] at nb ko ke
  have le1 := l1
  refine h1 F1 O H1 σ _ hf1 (he.mono le1) (R.bind_nb nb) (fun b v1 F2 H2 e1 l2 hf2 r1 => ?_) (fun c p d F' H' e le hf' hd => ke c p d F' H' (by rw [e]; rfl) (le1.trans le) hf' hd)
  rw [e1, R.ok_bind] at nb ko ke
  have le2 := le1.trans l2
  obtain ⟨y, ey⟩ := pu_nb nb
  exact ⟨rfl, F2, O, _, toD y, hf2, (.cons (Dr.mono (l2) r0) (.cons r1 .nil)), ⟨a, b, rfl, by rw [ey]; rfl⟩, fun v F' H' le hf' hr => ko y v F' H' (by rw [ey]; rfl) (le2.trans le) hf' hr⟩
theorem fn2 {P : Program} {w : World} {cf : Cf} {mg : Str → Option Value} {base : Heap} {x qual : Str} {st : Stmt} {f0 : Addr} {fd : FuncData} {N ps : List Str} {k : Nat} {S : Type} {enc : S → List Sl} (F : Fun cf.K x qual st f0 fd) (sc : FnScope N ps (defScope st)) (hp : ps.length = 2) (g : α → β → R (Fl S τ))
    (G0 : α → β → List Sl) (hG : ∀ a b, [.va (toD a), .va (toD b)] ++ List.replicate (N.length - 2) .un = G0 a b)
    (h : ∀ (cdv : Value) (A : Around) (outer : List Env) (s : Shared) (H : Hp) (E : XK), Room k (A.deeper (envOfC qual (defScope st) s.heap.objs.size f0 cdv)) →
      ∃ t, PSs (cxOf CX0 P w cf.K mg base N qual (defScope st) f0 cdv A outer s H E).nox (defBody st) t ∧ ∀ a b, SB cf E0 t (G0 a b) enc (g a b)) :
    FnOk P w cf.K mg base CX0 (k + 1) f0 fd ps (SpP cf 2 (sp2 fun a b => finR (g a b))) := by
  refine F.ok sc (SpP.len hp) (fun cdv A outer s H vs Q E hr hq => ?_)
  obtain ⟨t, ht, hb⟩ := h cdv A outer s H E hr
  refine ⟨t, ht, run_of (ρ := τ) (S := S) (enc := enc) hq fun ds dd hs => ?_⟩
  obtain ⟨a, b, rfl, er⟩ := hs
  refine ⟨g a b, by have q := hb a b; rw [← hG] at q; exact q, ?_⟩
  replace er : R.ok dd = (finR (g a b)).map toD := er
  generalize q : finR (g a b) = z at er
  cases z with
  | ok r => exact ⟨r, rfl, R.ok.inj er⟩
  | er c p => cases er
  | bad => cases er
end

section
variable {α β γ τ : Type} [Enc α] [Enc β] [Enc γ] [Enc τ]
def sp3 (g : α → β → γ → R τ) : List Dt → R Dt → Prop := fun ds r => ∃ (a : α) (b : β) (c : γ), ds = [toD a, toD b, toD c] ∧ r = (g a b c).map toD
theorem em_call3 {cf : Cf} {E : XK} {G : List Sl} {t0 t1 t2 : TE} {m0 : R α} {m1 : R β} {m2 : R γ} {g : α → β → γ → R τ} (h0 : EM cf E t0 G m0) (h1 : EM cf E t1 G m1) (h2 : EM cf E t2 G m2) : EM cf E (tCall (SpP cf 3 (sp3 g)) [] E0 (tCons t0 (tCons t1 (tCons t2 tNil)))) G (m0.bind fun a => m1.bind fun b => m2.bind fun c => (g a b c).pu) := fun F O H σ Q hf he nb ko ke => by
  refine h0 F O H σ _ hf he (R.bind_nb nb) (fun a v0 F1 H1 e0 l1 hf1 r0 => ?_) (fun c p d F' H' e le hf' hd => ke c p d F' H' (by rw [e]; rfl) (le) hf' hd)
  rw [e0, R.ok_bind] at nb ko ke
  have le1 := l1
  refine h1 F1 O H1 σ _ hf1 (he.mono le1) (R.bind_nb nb) (fun b v1 F2 H2 e1 l2 hf2 r1 => ?_) (fun c p d F' H' e le hf' hd => ke c p d F' H' (by rw [e]; rfl) (le1.trans le) hf' hd)
  rw [e1, R.ok_bind] at nb ko ke
  have le2 := le1.trans l2
  refine h2 F2 O H2 σ _ hf2 (he.mono le2) (R.bind_nb nb) (fun c v2 F3 H3 e2 l3 hf3 r2 => ?_) (fun c p d F' H' e le hf' hd => ke c p d F' H' (by rw [e]; rfl) (le2.trans le) hf' hd)
  rw [e2, R.ok_bind] at nb ko ke
  have le3 := le2.trans l3
  obtain ⟨y, ey⟩ := pu_nb nb
  exact ⟨rfl, F3, O, _, toD y, hf3, (.cons (Dr.mono ((l2).trans l3) r0) (.cons (Dr.mono (l3) r1) (.cons r2 .nil))), ⟨a, b, c, rfl, by rw [ey]; rfl⟩, fun v F' H' le hf' hr => ko y v F' H' (by rw [ey]; rfl) (le3.trans le) hf' hr⟩
theorem fn3 {P : Program} {w : World} {cf : Cf} {mg : Str → Option Value} {base : Heap} {x qual : Str} {st : Stmt} {f0 : Addr} {fd : FuncData} {N ps : List Str} {k : Nat} {S : Type} {enc : S → List Sl} (F : Fun cf.K x qual st f0 fd) (sc : FnScope N ps (defScope st)) (hp : ps.length = 3) (g : α → β → γ → R (Fl S τ))
    (G0 : α → β → γ → List Sl) (hG : ∀ a b c, [.va (toD a), .va (toD b), .va (toD c)] ++ List.replicate (N.length - 3) .un = G0 a b c)
    (h : ∀ (cdv : Value) (A : Around) (outer : List Env) (s : Shared) (H : Hp) (E : XK), Room k (A.deeper (envOfC qual (defScope st) s.heap.objs.size f0 cdv)) →
      ∃ t, PSs (cxOf CX0 P w cf.K mg base N qual (defScope st) f0 cdv A outer s H E).nox (defBody st) t ∧ ∀ a b c, SB cf E0 t (G0 a b c) enc (g a b c)) :
    FnOk P w cf.K mg base CX0 (k + 1) f0 fd ps (SpP cf 3 (sp3 fun a b c => finR (g a b c))) := by
  refine F.ok sc (SpP.len hp) (fun cdv A outer s H vs Q E hr hq => ?_)
  obtain ⟨t, ht, hb⟩ := h cdv A outer s H E hr
  refine ⟨t, ht, run_of (ρ := τ) (S := S) (enc := enc) hq fun ds dd hs => ?_⟩
  obtain ⟨a, b, c, rfl, er⟩ := hs
  refine ⟨g a b c, by have q := hb a b c; rw [← hG] at q; exact q, ?_⟩
  replace er : R.ok dd = (finR (g a b c)).map toD := er
  generalize q : finR (g a b c) = z at er
  cases z with
  | ok r => exact ⟨r, rfl, R.ok.inj er⟩
  | er c p => cases er
  | bad => cases er
end

section
variable {α β γ δ τ : Type} [Enc α] [Enc β] [Enc γ] [Enc δ] [Enc τ]
def sp4 (g : α → β → γ → δ → R τ) : List Dt → R Dt → Prop := fun ds r => ∃ (a : α) (b : β) (c : γ) (d : δ), ds = [toD a, toD b, toD c, toD d] ∧ r = (g a b c d).map toD
theorem em_call4 {cf : Cf} {E : XK} {G : List Sl} {t0 t1 t2 t3 : TE} {m0 : R α} {m1 : R β} {m2 : R γ} {m3 : R δ} {g : α → β → γ → δ → R τ} (h0 : EM cf E t0 G m0) (h1 : EM cf E t1 G m1) (h2 : EM cf E t2 G m2) (h3 : EM cf E t3 G m3) : EM cf E (tCall (SpP cf 4 (sp4 g)) [] E0 (tCons t0 (tCons t1 (tCons t2 (tCons t3 tNil))))) G (m0.bind fun a => m1.bind fun b => m2.bind fun c => m3.bind fun d => (g a b c d).pu) := fun F O H σ Q hf he nb ko ke => by
  refine h0 F O H σ _ hf he (R.bind_nb nb) (fun a v0 F1 H1 e0 l1 hf1 r0 => ?_) (fun c p d F' H' e le hf' hd => ke c p d F' H' (by rw [e]; rfl) (le) hf' hd)
  rw [e0, R.ok_bind] at nb ko ke
  have le1 := l1
  refine h1 F1 O H1 σ _ hf1 (he.mono le1) (R.bind_nb nb) (fun b v1 F2 H2 e1 l2 hf2 r1 => ?_) (fun c p d F' H' e le hf' hd => ke c p d F' H' (by rw [e]; rfl) (le1.trans le) hf' hd)
  rw [e1, R.ok_bind] at nb ko ke
  have le2 := le1.trans l2
  refine h2 F2 O H2 σ _ hf2 (he.mono le2) (R.bind_nb nb) (fun c v2 F3 H3 e2 l3 hf3 r2 => ?_) (fun c p d F' H' e le hf' hd => ke c p d F' H' (by rw [e]; rfl) (le2.trans le) hf' hd)
  rw [e2, R.ok_bind] at nb ko ke
  have le3 := le2.trans l3
  refine h3 F3 O H3 σ _ hf3 (he.mono le3) (R.bind_nb nb) (fun d v3 F4 H4 e3 l4 hf4 r3 => ?_) (fun c p d F' H' e le hf' hd => ke c p d F' H' (by rw [e]; rfl) (le3.trans le) hf' hd)
  rw [e3, R.ok_bind] at nb ko ke
  have le4 := le3.trans l4
  obtain ⟨y, ey⟩ := pu_nb nb
  exact ⟨rfl, F4, O, _, toD y, hf4, (.cons (Dr.mono (((l2).trans l3).trans l4) r0) (.cons (Dr.mono ((l3).trans l4) r1) (.cons (Dr.mono (l4) r2) (.cons r3 .nil)))), ⟨a, b, c, d, rfl, by rw [ey]; rfl⟩, fun v F' H' le hf' hr => ko y v F' H' (by rw [ey]; rfl) (le4.trans le) hf' hr⟩
theorem fn4 {P : Program} {w : World} {cf : Cf} {mg : Str → Option Value} {base : Heap} {x qual : Str} {st : Stmt} {f0 : Addr} {fd : FuncData} {N ps : List Str} {k : Nat} {S : Type} {enc : S → List Sl} (F : Fun cf.K x qual st f0 fd) (sc : FnScope N ps (defScope st)) (hp : ps.length = 4) (g : α → β → γ → δ → R (Fl S τ))
    (G0 : α → β → γ → δ → List Sl) (hG : ∀ a b c d, [.va (toD a), .va (toD b), .va (toD c), .va (toD d)] ++ List.replicate (N.length - 4) .un = G0 a b c d)
    (h : ∀ (cdv : Value) (A : Around) (outer : List Env) (s : Shared) (H : Hp) (E : XK), Room k (A.deeper (envOfC qual (defScope st) s.heap.objs.size f0 cdv)) →
      ∃ t, PSs (cxOf CX0 P w cf.K mg base N qual (defScope st) f0 cdv A outer s H E).nox (defBody st) t ∧ ∀ a b c d, SB cf E0 t (G0 a b c d) enc (g a b c d)) :
    FnOk P w cf.K mg base CX0 (k + 1) f0 fd ps (SpP cf 4 (sp4 fun a b c d => finR (g a b c d))) := by
  refine F.ok sc (SpP.len hp) (fun cdv A outer s H vs Q E hr hq => ?_)
  obtain ⟨t, ht, hb⟩ := h cdv A outer s H E hr
  refine ⟨t, ht, run_of (ρ := τ) (S := S) (enc := enc) hq fun ds dd hs => ?_⟩
  obtain ⟨a, b, c, d, rfl, er⟩ := hs
  refine ⟨g a b c d, by have q := hb a b c d; rw [← hG] at q; exact q, ?_⟩
  replace er : R.ok dd = (finR (g a b c d)).map toD := er
  generalize q : finR (g a b c d) = z at er
  cases z with
  | ok r => exact ⟨r, rfl, R.ok.inj er⟩
  | er c p => cases er
  | bad => cases er
end

section
variable {α β γ δ ε τ : Type} [Enc α] [Enc β] [Enc γ] [Enc δ] [Enc ε] [Enc τ]
def sp5 (g : α → β → γ → δ → ε → R τ) : List Dt → R Dt → Prop := fun ds r => ∃ (a : α) (b : β) (c : γ) (d : δ) (e : ε), ds = [toD a, toD b, toD c, toD d, toD e] ∧ r = (g a b c d e).map toD
theorem em_call5 {cf : Cf} {E : XK} {G : List Sl} {t0 t1 t2 t3 t4 : TE} {m0 : R α} {m1 : R β} {m2 : R γ} {m3 : R δ} {m4 : R ε} {g : α → β → γ → δ → ε → R τ} (h0 : EM cf E t0 G m0) (h1 : EM cf E t1 G m1) (h2 : EM cf E t2 G m2) (h3 : EM cf E t3 G m3) (h4 : EM cf E t4 G m4) : EM cf E (tCall (SpP cf 5 (sp5 g)) [] E0 (tCons t0 (tCons t1 (tCons t2 (tCons t3 (tCons t4 tNil)))))) G (m0.bind fun a => m1.bind fun b => m2.bind fun c => m3.bind fun d => m4.bind fun e => (g a b c d e).pu) := fun F O H σ Q hf he nb ko ke => by
  refine h0 F O H σ _ hf he (R.bind_nb nb) (fun a v0 F1 H1 e0 l1 hf1 r0 => ?_) (fun c p d F' H' e le hf' hd => ke c p d F' H' (by rw [e]; rfl) (le) hf' hd)
  rw [e0, R.ok_bind] at nb ko ke
  have le1 := l1
  refine h1 F1 O H1 σ _ hf1 (he.mono le1) (R.bind_nb nb) (fun b v1 F2 H2 e1 l2 hf2 r1 => ?_) (fun c p d F' H' e le hf' hd => ke c p d F' H' (by rw [e]; rfl) (le1.trans le) hf' hd)
  rw [e1, R.ok_bind] at nb ko ke
  have le2 := le1.trans l2
  refine h2 F2 O H2 σ _ hf2 (he.mono le2) (R.bind_nb nb) (fun c v2 F3 H3 e2 l3 hf3 r2 => ?_) (fun c p d F' H' e le hf' hd => ke c p d F' H' (by rw [e]; rfl) (le2.trans le) hf' hd)
  rw [e2, R.ok_bind] at nb ko ke
  have le3 := le2.trans l3
  refine h3 F3 O H3 σ _ hf3 (he.mono le3) (R.bind_nb nb) (fun d v3 F4 H4 e3 l4 hf4 r3 => ?_) (fun c p d F' H' e le hf' hd => ke c p d F' H' (by rw [e]; rfl) (le3.trans le) hf' hd)
  rw [e3, R.ok_bind] at nb ko ke
  have le4 := le3.trans l4
  refine h4 F4 O H4 σ _ hf4 (he.mono le4) (R.bind_nb nb) (fun e v4 F5 H5 e4 l5 hf5 r4 => ?_) (fun c p d F' H' e le hf' hd => ke c p d F' H' (by rw [e]; rfl) (le4.trans le) hf' hd)
  rw [e4, R.ok_bind] at nb ko ke
  have le5 := le4.trans l5
  obtain ⟨y, ey⟩ := pu_nb nb
  exact ⟨rfl, F5, O, _, toD y, hf5, (.cons (Dr.mono ((((l2).trans l3).trans l4).trans l5) r0) (.cons (Dr.mono (((l3).trans l4).trans l5) r1) (.cons (Dr.mono ((l4).trans l5) r2) (.cons (Dr.mono (l5) r3) (.cons r4 .nil))))), ⟨a, b, c, d, e, rfl, by rw [ey]; rfl⟩, fun v F' H' le hf' hr => ko y v F' H' (by rw [ey]; rfl) (le5.trans le) hf' hr⟩
theorem fn5 {P : Program} {w : World} {cf : Cf} {mg : Str → Option Value} {base : Heap} {x qual : Str} {st : Stmt} {f0 : Addr} {fd : FuncData} {N ps : List Str} {k : Nat} {S : Type} {enc : S → List Sl} (F : Fun cf.K x qual st f0 fd) (sc : FnScope N ps (defScope st)) (hp : ps.length = 5) (g : α → β → γ → δ → ε → R (Fl S τ))
    (G0 : α → β → γ → δ → ε → List Sl) (hG : ∀ a b c d e, [.va (toD a), .va (toD b), .va (toD c), .va (toD d), .va (toD e)] ++ List.replicate (N.length - 5) .un = G0 a b c d e)
    (h : ∀ (cdv : Value) (A : Around) (outer : List Env) (s : Shared) (H : Hp) (E : XK), Room k (A.deeper (envOfC qual (defScope st) s.heap.objs.size f0 cdv)) →
      ∃ t, PSs (cxOf CX0 P w cf.K mg base N qual (defScope st) f0 cdv A outer s H E).nox (defBody st) t ∧ ∀ a b c d e, SB cf E0 t (G0 a b c d e) enc (g a b c d e)) :
    FnOk P w cf.K mg base CX0 (k + 1) f0 fd ps (SpP cf 5 (sp5 fun a b c d e => finR (g a b c d e))) := by
  refine F.ok sc (SpP.len hp) (fun cdv A outer s H vs Q E hr hq => ?_)
  obtain ⟨t, ht, hb⟩ := h cdv A outer s H E hr
  refine ⟨t, ht, run_of (ρ := τ) (S := S) (enc := enc) hq fun ds dd hs => ?_⟩
  obtain ⟨a, b, c, d, e, rfl, er⟩ := hs
  refine ⟨g a b c d e, by have q := hb a b c d e; rw [← hG] at q; exact q, ?_⟩
  replace er : R.ok dd = (finR (g a b c d e)).map toD := er
  generalize q : finR (g a b c d e) = z at er
  cases z with
  | ok r => exact ⟨r, rfl, R.ok.inj er⟩
  | er c p => cases er
  | bad => cases er
end

section
variable {α β γ δ ε ζ τ : Type} [Enc α] [Enc β] [Enc γ] [Enc δ] [Enc ε] [Enc ζ] [Enc τ]
def sp6 (g : α → β → γ → δ → ε → ζ → R τ) : List Dt → R Dt → Prop := fun ds r => ∃ (a : α) (b : β) (c : γ) (d : δ) (e : ε) (f : ζ), ds = [toD a, toD b, toD c, toD d, toD e, toD f] ∧ r = (g a b c d e f).map toD
theorem em_call6 {cf : Cf} {E : XK} {G : List Sl} {t0 t1 t2 t3 t4 t5 : TE} {m0 : R α} {m1 : R β} {m2 : R γ} {m3 : R δ} {m4 : R ε} {m5 : R ζ} {g : α → β → γ → δ → ε → ζ → R τ} (h0 : EM cf E t0 G m0) (h1 : EM cf E t1 G m1) (h2 : EM cf E t2 G m2) (h3 : EM cf E t3 G m3) (h4 : EM cf E t4 G m4) (h5 : EM cf E t5 G m5) : EM cf E (tCall (SpP cf 6 (sp6 g)) [] E0 (tCons t0 (tCons t1 (tCons t2 (tCons t3 (tCons t4 (tCons t5 tNil))))))) G (m0.bind fun a => m1.bind fun b => m2.bind fun c => m3.bind fun d => m4.bind fun e => m5.bind fun f => (g a b c d e f).pu) := fun F O H σ Q hf he nb ko ke => by
  refine h0 F O H σ _ hf he (R.bind_nb nb) (fun a v0 F1 H1 e0 l1 hf1 r0 => ?_) (fun c p d F' H' e le hf' hd => ke c p d F' H' (by rw [e]; rfl) (le) hf' hd)
  rw [e0, R.ok_bind] at nb ko ke
  have le1 := l1
  refine h1 F1 O H1 σ _ hf1 (he.mono le1) (R.bind_nb nb) (fun b v1 F2 H2 e1 l2 hf2 r1 => ?_) (fun c p d F' H' e le hf' hd => ke c p d F' H' (by rw [e]; rfl) (le1.trans le) hf' hd)
  rw [e1, R.ok_bind] at nb ko ke
  have le2 := le1.trans l2
  refine h2 F2 O H2 σ _ hf2 (he.mono le2) (R.bind_nb nb) (fun c v2 F3 H3 e2 l3 hf3 r2 => ?_) (fun c p d F' H' e le hf' hd => ke c p d F' H' (by rw [e]; rfl) (le2.trans le) hf' hd)
  rw [e2, R.ok_bind] at nb ko ke
  have le3 := le2.trans l3
  refine h3 F3 O H3 σ _ hf3 (he.mono le3) (R.bind_nb nb) (fun d v3 F4 H4 e3 l4 hf4 r3 => ?_) (fun c p d F' H' e le hf' hd => ke c p d F' H' (by rw [e]; rfl) (le3.trans le) hf' hd)
  rw [e3, R.ok_bind] at nb ko ke
  have le4 := le3.trans l4
  refine h4 F4 O H4 σ _ hf4 (he.mono le4) (R.bind_nb nb) (fun e v4 F5 H5 e4 l5 hf5 r4 => ?_) (fun c p d F' H' e le hf' hd => ke c p d F' H' (by rw [e]; rfl) (le4.trans le) hf' hd)
  rw [e4, R.ok_bind] at nb ko ke
  have le5 := le4.trans l5
  refine h5 F5 O H5 σ _ hf5 (he.mono le5) (R.bind_nb nb) (fun f v5 F6 H6 e5 l6 hf6 r5 => ?_) (fun c p d F' H' e le hf' hd => ke c p d F' H' (by rw [e]; rfl) (le5.trans le) hf' hd)
  rw [e5, R.ok_bind] at nb ko ke
  have le6 := le5.trans l6
  obtain ⟨y, ey⟩ := pu_nb nb
  exact ⟨rfl, F6, O, _, toD y, hf6, (.cons (Dr.mono (((((l2).trans l3).trans l4).trans l5).trans l6) r0) (.cons (Dr.mono ((((l3).trans l4).trans l5).trans l6) r1) (.cons (Dr.mono (((l4).trans l5).trans l6) r2) (.cons (Dr.mono ((l5).trans l6) r3) (.cons (Dr.mono (l6) r4) (.cons r5 .nil)))))), ⟨a, b, c, d, e, f, rfl, by rw [ey]; rfl⟩, fun v F' H' le hf' hr => ko y v F' H' (by rw [ey]; rfl) (le6.trans le) hf' hr⟩
theorem fn6 {P : Program} {w : World} {cf : Cf} {mg : Str → Option Value} {base : Heap} {x qual : Str} {st : Stmt} {f0 : Addr} {fd : FuncData} {N ps : List Str} {k : Nat} {S : Type} {enc : S → List Sl} (F : Fun cf.K x qual st f0 fd) (sc : FnScope N ps (defScope st)) (hp : ps.length = 6) (g : α → β → γ → δ → ε → ζ → R (Fl S τ))
    (G0 : α → β → γ → δ → ε → ζ → List Sl) (hG : ∀ a b c d e f, [.va (toD a), .va (toD b), .va (toD c), .va (toD d), .va (toD e), .va (toD f)] ++ List.replicate (N.length - 6) .un = G0 a b c d e f)
    (h : ∀ (cdv : Value) (A : Around) (outer : List Env) (s : Shared) (H : Hp) (E : XK), Room k (A.deeper (envOfC qual (defScope st) s.heap.objs.size f0 cdv)) →
      ∃ t, PSs (cxOf CX0 P w cf.K mg base N qual (defScope st) f0 cdv A outer s H E).nox (defBody st) t ∧ ∀ a b c d e f, SB cf E0 t (G0 a b c d e f) enc (g a b c d e f)) :
    FnOk P w cf.K mg base CX0 (k + 1) f0 fd ps (SpP cf 6 (sp6 fun a b c d e f => finR (g a b c d e f))) := by
  refine F.ok sc (SpP.len hp) (fun cdv A outer s H vs Q E hr hq => ?_)
  obtain ⟨t, ht, hb⟩ := h cdv A outer s H E hr
  refine ⟨t, ht, run_of (ρ := τ) (S := S) (enc := enc) hq fun ds dd hs => ?_⟩
  obtain ⟨a, b, c, d, e, f, rfl, er⟩ := hs
  refine ⟨g a b c d e f, by have q := hb a b c d e f; rw [← hG] at q; exact q, ?_⟩
  replace er : R.ok dd = (finR (g a b c d e f)).map toD := er
  generalize q : finR (g a b c d e f) = z at er
  cases z with
  | ok r => exact ⟨r, rfl, R.ok.inj er⟩
  | er c p => cases er
  | bad => cases er
end
end Kr

/-! KrG: further rules by data: in, isinstance, sorted, a, b = .., is True. -/
namespace Kr
open PySem PySem.Spec PyProof.Rows L2
open Enc (toD)

/-! ### rules whose reading names the written part itself -/
section
variable {X : Cx} (K : PySem.W.Frag) (h : X.K = K)
include h
theorem ix_listK : IxR X (rIxL K) := h ▸ ix_list
theorem ix_tupK : IxR X (rIxT K) := h ▸ ix_tup
theorem sl_listK : SlR X (rSlL K) := h ▸ sl_list
theorem lenK : CallR X (.builtin "len") (rLenS K) := h ▸ call_len_seq
theorem listK : CallR X (.type "list") (rListS K) := h ▸ call_list_of
theorem sumK (hc : X.calm = true) : CallR X (.builtin "sum") (rSum K) := h ▸ cr_sum hc
theorem maxK (hc : X.calm = true) : CallR X (.builtin "max") (rMax K) := h ▸ cr_max hc
theorem minK (hc : X.calm = true) : CallR X (.builtin "min") (rMin K) := h ▸ cr_min hc
theorem anyK (hc : X.calm = true) : CallR X (.builtin "any") (rAny K) := h ▸ cr_any hc
theorem inK : OpR X (compareOp .In) (rIn K false) := h ▸ op_in_seq
theorem notInK : OpR X (compareOp .NotIn) (rIn K true) := h ▸ op_notIn_seq
theorem eqDK (hu : X.A.units + 64 < cLine) : OpR X (compareOp .Eq) (rEqD K) := h ▸ op_eqD hu
theorem neDK (hu : X.A.units + 64 < cLine) : OpR X (compareOp .NotEq) (rNeD K) := h ▸ op_neD hu
theorem tupK {es : List Expr} {k : Nat} {t : TGs} {pos : Pos} (n : Nat) (hc : X.calm = true) (hp : PGs X es t)
    (hn : (assignEach es X.env).length = n := by rfl) (hst : (assignEach es X.env).findIdx? (·.1) = none := by rfl) : PG X (.Tuple es k pos) (gTup K n t) := h ▸ pg_tup hc hp hn hst
theorem listI {tg l : Expr} {tl : TE} (hl : PE X l tl) : PI X tg l (iList K tl) := h ▸ pi_list hl
theorem enumI {e : Expr} {ta : TA} {p pos tpos : Pos} {elts : List Expr} {kk : Nat} (hg : Gl X "enumerate") (hm : X.mg "enumerate" = none) (ha : PA X [e] ta) (hs : starEach [e] X.env = [(false, eval e X.env)] := by rfl) :
    PI X (.Tuple elts kk tpos) (.Call (.Name "enumerate" p) [e] [] pos) (iEnum K ta) := h ▸ pi_enum hg hm ha hs
theorem zipI {e e2 : Expr} {ta : TA} {p pos tpos : Pos} {elts : List Expr} {kk : Nat} (hg : Gl X "zip") (hm : X.mg "zip" = none) (ha : PA X [e, e2] ta)
    (hs : starEach [e, e2] X.env = (false, eval e X.env) :: starEach [e2] X.env := by rfl) (hpl : (backTo pos (starEach [e2] X.env)).any (·.1) = false := by rfl) :
    PI X (.Tuple elts kk tpos) (.Call (.Name "zip" p) [e, e2] [] pos) (iZip K ta) := h ▸ pi_zip hg hm ha hs hpl
theorem revI {tg e : Expr} {ta : TA} {p pos : Pos} (hg : Gl X "reversed") (hm : X.mg "reversed" = none) (ha : PA X [e] ta) (hs : starEach [e] X.env = [(false, eval e X.env)] := by rfl) : PI X tg (.Call (.Name "reversed" p) [e] [] pos) (iRev K ta) := h ▸ pi_reversed hg hm ha hs
end
section
variable {cf : Cf} {E : XK} {G : List Sl} {S α β γ δ ρ : Type} [Enc ρ] {ta tb tc te : TE} {t u : TS} {enc : S → List Sl}
theorem sb_skip {m : R (Fl S ρ)} (h : SB cf E u G enc m) : SB cf E (tSeq tNext u) G enc m := h
theorem sb_bad : SB cf E u G enc (.bad : R (Fl S ρ)) := fun _ _ _ _ _ _ nb => absurd rfl nb
theorem sb_retN : SB cf E tRetN G enc (.ok (.rt ()) : R (Fl S Unit)) := fun F O H σ D hM _ _ _ kr _ => kr () .non F H rfl (Le.refl F) hM.fm .non
theorem sb_retN2 : SB cf E (tSeq tRetN u) G enc (.ok (.rt ()) : R (Fl S Unit)) := fun F O H σ D hM _ _ _ kr _ => kr () .non F H rfl (Le.refl F) hM.fm .non
/-! ### a, b = e1, e2 -/
theorem mt_set {K : PySem.W.Frag} {F O H : Hp} {σ : L2.St} (h : Mt K F O H σ G) (i : Nat) {v : V} {d : Dt} (r : Dr K F v d) : Mt K F O H (σ.set i (some v)) (G.set i (.va d)) := by
  obtain ⟨O', lo, hf, he, o1, o2⟩ := h
  refine ⟨O', lo, hf, er_set he i r, fun j s b q o => ?_, fun j l s t b hjl q q' o o' => ?_⟩
  · obtain ⟨q1, q2⟩ := own_set (σ := σ) (y := some v) q o
    rw [q2]
    exact o1 j s b q1 o
  · obtain ⟨q1, q2⟩ := own_set (σ := σ) (y := some v) q o
    obtain ⟨q3, q4⟩ := own_set (σ := σ) (y := some v) q' o'
    rw [q2, q4]
    exact o2 j l s t b hjl q1 q3 o o'
theorem sb_par2 [Enc α] [Enc β] {i j : Nat} {m : R α} {n : R β} {f : α → β → R (Fl S ρ)} (h : EM cf E ta G m) (h' : EM cf E tb G n) (G' : α → β → List Sl) (hG : ∀ a b, (G.set i (.va (toD a))).set j (.va (toD b)) = G' a b) (hk : ∀ a b, SB cf E u (G' a b) enc (f a b)) :
    SB cf E (tSeq (tPar i j (tCons ta (tCons tb tNil))) u) G enc (m.bind fun a => n.bind fun b => f a b) := fun F O H σ D hM nb kn kb kr ke => by
  obtain ⟨O', lo, hf, he, o1, o2⟩ := hM
  refine h F O' H σ _ hf he (R.bind_nb nb) (fun a v F1 H1 ea le1 hf1 hr => ?_) (fun c p d F' H' e le hf' hd => ke c p d F' H' (by rw [e]; rfl) le (hf'.weak lo) hd)
  rw [ea, R.ok_bind] at nb kn kb kr ke
  refine h' F1 O' H1 σ _ hf1 (he.mono le1) (R.bind_nb nb) (fun b w' F2 H2 eb le2 hf2 hw => ?_) (fun c p d F' H' e le hf' hd => ke c p d F' H' (by rw [e]; rfl) (le1.trans le) (hf'.weak lo) hd)
  rw [eb, R.ok_bind] at nb kn kb kr ke
  have le := le1.trans le2
  have hM2 : Mt cf.K F2 O H2 σ G := ⟨O', lo, hf2, he.mono le, o1, o2⟩
  have hM3 := mt_set (mt_set hM2 i (hr.mono le2)) j hw
  rw [hG] at hM3
  exact ⟨v, w', rfl, hk a b F2 O H2 _ D hM3 nb (fun s F'' H'' σ' e le' => kn s F'' H'' σ' e (le.trans le')) (fun s F'' H'' σ' e le' => kb s F'' H'' σ' e (le.trans le')) (fun r v F'' H'' e le' => kr r v F'' H'' e (le.trans le')) fun c p d F'' H'' e le' => ke c p d F'' H'' e (le.trans le')⟩
theorem sb_par3 [Enc α] [Enc β] [Enc γ] {i j l : Nat} {m : R α} {n : R β} {o : R γ} {f : α → β → γ → R (Fl S ρ)} (h : EM cf E ta G m) (h' : EM cf E tb G n) (h'' : EM cf E tc G o) (G' : α → β → γ → List Sl)
    (hG : ∀ a b c, ((G.set i (.va (toD a))).set j (.va (toD b))).set l (.va (toD c)) = G' a b c) (hk : ∀ a b c, SB cf E u (G' a b c) enc (f a b c)) :
    SB cf E (tSeq (tPar3 i j l (tCons ta (tCons tb (tCons tc tNil)))) u) G enc (m.bind fun a => n.bind fun b => o.bind fun c => f a b c) := fun F O H σ D hM nb kn kb kr ke => by
  obtain ⟨O', lo, hf, he, o1, o2⟩ := hM
  refine h F O' H σ _ hf he (R.bind_nb nb) (fun a v F1 H1 ea le1 hf1 hr => ?_) (fun c p d F' H' e le hf' hd => ke c p d F' H' (by rw [e]; rfl) le (hf'.weak lo) hd)
  rw [ea, R.ok_bind] at nb kn kb kr ke
  refine h' F1 O' H1 σ _ hf1 (he.mono le1) (R.bind_nb nb) (fun b w' F2 H2 eb le2 hf2 hw => ?_) (fun c p d F' H' e le hf' hd => ke c p d F' H' (by rw [e]; rfl) (le1.trans le) (hf'.weak lo) hd)
  rw [eb, R.ok_bind] at nb kn kb kr ke
  have le12 := le1.trans le2
  refine h'' F2 O' H2 σ _ hf2 (he.mono le12) (R.bind_nb nb) (fun c z F3 H3 ec le3 hf3 hz => ?_) (fun c p d F' H' e le hf' hd => ke c p d F' H' (by rw [e]; rfl) (le12.trans le) (hf'.weak lo) hd)
  rw [ec, R.ok_bind] at nb kn kb kr ke
  have le := le12.trans le3
  have hM2 : Mt cf.K F3 O H3 σ G := ⟨O', lo, hf3, he.mono le, o1, o2⟩
  have hM3 := mt_set (mt_set (mt_set hM2 i (hr.mono (le2.trans le3))) j (hw.mono le3)) l hz
  rw [hG] at hM3
  exact ⟨v, w', z, rfl, hk a b c F3 O H3 _ D hM3 nb (fun s F'' H'' σ' e le' => kn s F'' H'' σ' e (le.trans le')) (fun s F'' H'' σ' e le' => kb s F'' H'' σ' e (le.trans le')) (fun r v F'' H'' e le' => kr r v F'' H'' e (le.trans le')) fun c p d F'' H'' e le' => ke c p d F'' H'' e (le.trans le')⟩
/-- a value that is not None -/
def getR (o : Option α) : R α := match o with
  | some a => .ok a
  | none => .bad
theorem EM.get [Enc α] {m : R (Option α)} (h : EM cf E ta G m) : EM cf E ta G (m.bind getR) := fun F O H σ Q hf he nb ko ke =>
  h F O H σ Q hf he (R.bind_nb nb) (fun o v F' H' e le hf' hr => by
    rw [e, R.ok_bind] at nb ko
    cases o with
    | none => exact absurd rfl nb
    | some a => exact ko a v F' H' rfl le hf' hr) (fun c p d F' H' e => ke c p d F' H' (by rw [e]; rfl))
/-! ### is True, in, isinstance -/
theorem em_isB {ma mb : R Bool} (ha : EM cf E ta G ma) (hb : EM cf E tb G mb) : EM cf E (tOp rIsB ta tb) G (ma.bind fun a => mb.bind fun b => .ok (decide (a = b))) :=
  EG.bind2 (u := fun x y H Q => rIsB x y H Q) ha hb rm_mono fun F O H Q a r b s hf h1 h2 _ ko => ⟨a, b, dr_bl h1, dr_bl h2, ko _ _ F H rfl (Le.refl F) hf (.bl _)⟩
theorem em_notB {ma mb : R Bool} (ha : EM cf E ta G ma) (hb : EM cf E tb G mb) : EM cf E (tOp rNotB ta tb) G (ma.bind fun a => mb.bind fun b => .ok (!decide (a = b))) :=
  EG.bind2 (u := fun x y H Q => rNotB x y H Q) ha hb rm_mono fun F O H Q a r b s hf h1 h2 _ ko => ⟨a, b, dr_bl h1, dr_bl h2, ko _ _ F H rfl (Le.refl F) hf (.bl _)⟩
theorem inV_int (a : Int) : ∀ xs : List Int, inV (.int a) (xs.map V.int) = xs.contains a
  | [] => rfl
  | x :: r => by
    have ih := inV_int a r
    unfold inV at ih ⊢
    rw [List.map_cons, List.any_cons, ih, List.contains_cons]
    congr 1
    show eqV (.int x) (.int a) = (a == x)
    unfold eqV
    by_cases e : x = a
    · subst e
      simp
    · have e' : ¬ a = x := fun z => e z.symm
      show (x == a) = (a == x)
      rw [beq_eq_false_iff_ne.mpr e, beq_eq_false_iff_ne.mpr e']
theorem flat_int (xs : List Int) : (xs.map V.int).all flatV = true := by
  rw [List.all_eq_true]
  intro x hx
  obtain ⟨i, _, rfl⟩ := List.mem_map.mp hx
  rfl
theorem em_inI {ma : R Int} {mb : R (List Int)} (ha : EM cf E ta G ma) (hb : ES cf E tb G mb) : EM cf E (tOp (rIn cf.K false) ta tb) G (ma.bind fun a => mb.bind fun b => .ok (b.contains a)) :=
  EG.bind2 (u := fun x y H Q => rIn cf.K false x y H Q) ha hb rm_mono fun F O H Q a r b s hf h1 h2 _ ko => by
    obtain ⟨p, vs, e, hs, hr⟩ := RS.seq h2 hf
    rw [ints_of_drA hr] at hs
    rw [dr_int (i := a) h1]
    refine ⟨p, _, e, .inl hs, rfl, flat_int b, ?_⟩
    rw [inV_int]
    exact ko _ _ F H rfl (Le.refl F) hf (.bl _)
theorem em_niI {ma : R Int} {mb : R (List Int)} (ha : EM cf E ta G ma) (hb : ES cf E tb G mb) : EM cf E (tOp (rIn cf.K true) ta tb) G (ma.bind fun a => mb.bind fun b => .ok (!b.contains a)) :=
  EG.bind2 (u := fun x y H Q => rIn cf.K true x y H Q) ha hb rm_mono fun F O H Q a r b s hf h1 h2 _ ko => by
    obtain ⟨p, vs, e, hs, hr⟩ := RS.seq h2 hf
    rw [ints_of_drA hr] at hs
    rw [dr_int (i := a) h1]
    refine ⟨p, _, e, .inl hs, rfl, flat_int b, ?_⟩
    rw [inV_int]
    exact ko _ _ F H rfl (Le.refl F) hf (.bl _)
/-- isinstance(x, T), x of the type T itself -/
def rIsTyK (K : PySem.W.Frag) : List V → Hp → VK → Prop := fun xs H Q => ∃ (x : V) (T : String), xs = [x, .ty T] ∧ TyOf K H x (.type T) ∧ Q (.bl true) H
theorem call_isTyK {X : Cx} : CallR X (.builtin "isinstance") (rIsTyK X.K) := by
  intro pins s σ H xs us Q I r h
  obtain ⟨x, T, rfl, t, q⟩ := h
  cases r with
  | cons rx rr =>
    cases rr with
    | cons rt rr =>
      cases rr
      cases rt
      have e : PySem.W.kitOne X.K (.type T) (.type T) = some true := if_pos (beq_self_eq_true _)
      exact isinst_ok I rx t e fun tk => ⟨.bl true, H, I.kept (t' := tk) fun _ _ z => z, rfl, q⟩
theorem em_isT (T : String) [Enc α] (hT : ∀ (F H : Hp) (v : V) (a : α), Le F H → Dr cf.K F v (toD a) → TyOf cf.K H v (.type T)) {m : R α} (h : EM cf E ta G m) : EM cf E (tCB (rIsTyK cf.K) (tCons ta (tCons (tC (.ty T)) tNil))) G (m.bind fun _ => .ok true) :=
  EG.bind1 (u := fun r H Q => rIsTyK cf.K [r, .ty T] H Q) h fun F O H Q a r hf h1 _ ko => ⟨r, T, rfl, hT F H r a hf.f h1, ko _ _ F H rfl (Le.refl F) hf (.bl _)⟩
theorem em_isT_bool {m : R Bool} (h : EM cf E ta G m) : EM cf E (tCB (rIsTyK cf.K) (tCons ta (tCons (tC (.ty "bool")) tNil))) G (m.bind fun _ => .ok true) := em_isT "bool" (fun F H v a le r => by
  rw [dr_bl (i := a) r]
  exact .bl a) h
theorem em_isT_list [Enc α] {m : R (List α)} (h : EM cf E ta G m) : EM cf E (tCB (rIsTyK cf.K) (tCons ta (tCons (tC (.ty "list")) tNil))) G (m.bind fun _ => .ok true) := em_isT "list" (fun F H v a le r => by
  obtain ⟨p, vs, e, h1, _⟩ := dr_lst r
  rw [e]
  exact .lst (le _ _ h1)) h
theorem em_isT_tuple [Enc α] [Enc β] {m : R (α × β)} (h : EM cf E ta G m) : EM cf E (tCB (rIsTyK cf.K) (tCons ta (tCons (tC (.ty "tuple")) tNil))) G (m.bind fun _ => .ok true) := em_isT "tuple" (fun F H v a le r => by
  obtain ⟨p, vs, e, h1, _⟩ := dr_tup (ds := [toD a.1, toD a.2]) r
  rw [e]
  exact .tup (le _ _ h1)) h

/-! ### sorted -/
/-- data that Python sorts -/
class Sbl (α : Type) [Enc α] : Prop where
  al : ∀ a b : α, PySem.W.alike (toD a).py (toD b).py = true
  so : (∀ a : α, ∃ x r, (toD a).py = .tuple (x :: r)) ∨ ∀ a : α, (toD a).py ≠ .none ∧ ∀ xs, (toD a).py ≠ .tuple xs
  dp : ∀ a : α, (toD a).py.depth ≤ 8
  nd : ∀ a : α, (toD a).nd = true
/-- Python's a <= b -/
def leD [Enc α] (a b : α) : Bool := PySem.W.dataLe false (fun x : α => (toD x).py) a b
def sortR [Enc α] (xs : List α) : R (List α) := (szR xs).bind fun xs => .ok (xs.mergeSort leD)
def rSortedD (K : PySem.W.Frag) : List V → Hp → VK → Prop := fun vs H Q => ∃ (a : Addr) (zs : List (V × PyData)), vs = [V.ref a] ∧ SqL K H a (zs.map (·.1)) ∧ (∀ z ∈ zs, Dp K H z.1 z.2) ∧ PySem.W.AllAlike (zs.map (·.2)) ∧ PySem.W.Sortable (zs.map (·.2)) ∧ (∀ z ∈ zs, z.2.depth ≤ 8) ∧
  ∀ p, H p = none → Q (.ref p) (upd H p (.lst ((zs.mergeSort (PySem.W.dataLe false fun z : V × PyData => z.2)).map (·.1))))
theorem relV_unique {v : V} {u u' : Value} : True := trivial
theorem eachIs_of {α β : Type} {R : α → β → Prop} : ∀ {as : List α} {bs : List β}, as.length = bs.length → (∀ (i : Nat) a b, as[i]? = some a → bs[i]? = some b → R a b) → PySem.W.EachIs R as bs
  | [], [], _, _ => .nil
  | [], _ :: _, h, _ => by simp at h
  | _ :: _, [], h, _ => by simp at h
  | a :: as, b :: bs, h, k => .cons (k 0 a b rfl rfl) (eachIs_of (by simpa using h) fun i x y e e' => k (i + 1) x y (by simpa using e) (by simpa using e'))
theorem vals_of_each {β : Type} {f : β → V} : ∀ {us : List Value} {bs : List β}, PySem.W.EachIs (fun u b => RelV (f b) u) us bs → Vals (bs.map f) us
  | _, _, .nil => .nil
  | _, _, .cons r t => .cons r (vals_of_each t)
theorem cr_sortedD {X : Cx} (hu : X.A.units + 64 < cLine) : CallR X (.builtin "sorted") (rSortedD X.K) := by
  intro pins s σ H vs us Q I r h
  obtain ⟨a, zs, rfl, hs, hd, hal, hso, hdp, q⟩ := h
  obtain ⟨its, rv, hl, hz⟩ := I.list hs
  obtain ⟨u, rfl, ru⟩ := vals1 r
  obtain rfl : u = Value.ref a := ru
  have hlen : its.length = zs.length := by rw [← rv.length, List.length_map]
  have rel : ∀ (i : Nat) (u : Value) (z : V × PyData), its[i]? = some u → zs[i]? = some z → RelV z.1 u := fun i u z e1 e2 => by
    obtain ⟨u', h1, h2⟩ := rv.get (show (zs.map (·.1))[i]? = some z.1 by rw [List.getElem?_map, e2]; rfl)
    rw [e1] at h1
    cases h1
    exact h2
  have er : PySem.W.EachIs (fun u z => RelV z.1 u) its zs := eachIs_of hlen rel
  have er2 : PySem.W.EachIs (fun u z => ∃ as, Reads s.heap u (z : V × PyData).2 as) its zs := eachIs_of hlen fun i u z e1 e2 => Dp.reads I z.2 z.1 u (hd z (List.mem_of_getElem? e2)) (rel i u z e1 e2)
  refine PySem.W.sorted_data (enc := fun z : V × PyData => z.2) hl.isList er er2 hal hso (by rw [← hlen, ← rv.length]; exact hz) (fun z hm => by have := hdp z hm; omega) fun out ho eo => ?_
  obtain ⟨c, hc⟩ := sortedAll_at s.heap its out.toArray
  have hf : H (s.heap.objs.size + 1) = none := I.hok.fresh (Nat.le_succ _)
  refine ⟨.ref (s.heap.objs.size + 1), _, I.laid (t' := s.toks) (o := .lst ((zs.mergeSort (PySem.W.dataLe false fun z : V × PyData => z.2)).map (·.1))) (h' := sortedAll s.heap its out.toArray) (fun b o e => sortedAll_old e) (Nat.le_succ _) ⟨?_, out, c, vals_of_each eo, hc⟩, rfl, q _ hf⟩
  rw [List.length_map, List.length_mergeSort, ← hlen, ← rv.length]
  exact hz
theorem zip_fst {A B : Type} : ∀ {xs : List A} {ys : List B}, xs.length = ys.length → (xs.zip ys).map (·.1) = xs
  | [], [], _ => rfl
  | [], _ :: _, h => by simp at h
  | _ :: _, [], h => by simp at h
  | x :: xs, y :: ys, h => by rw [List.zip_cons_cons, List.map_cons, zip_fst (by simpa using h)]
theorem zip_snd {A B : Type} : ∀ {xs : List A} {ys : List B}, xs.length = ys.length → (xs.zip ys).map (·.2) = ys
  | [], [], _ => rfl
  | [], _ :: _, h => by simp at h
  | _ :: _, [], h => by simp at h
  | x :: xs, y :: ys, h => by rw [List.zip_cons_cons, List.map_cons, zip_snd (by simpa using h)]
theorem drA_zip [Enc α] {K : PySem.W.Frag} {F : Hp} : ∀ {vs : List V} {xs : List α}, DrA K F vs (xs.map toD) → ∀ z ∈ vs.zip xs, Dr K F z.1 (toD z.2)
  | [], _, _, z, hz => by simp at hz
  | _ :: _, [], _, z, hz => by simp at hz
  | v :: vs, x :: xs, h, z, hz => by
    obtain ⟨v', r', e, h1, h2⟩ := drA_cons h
    cases e
    rw [List.zip_cons_cons] at hz
    rcases List.mem_cons.mp hz with e | hz
    · subst e
      exact h1
    · exact drA_zip h2 z hz
theorem drA_of [Enc α] {K : PySem.W.Frag} {F : Hp} : ∀ {zs : List (V × α)}, (∀ z ∈ zs, Dr K F z.1 (toD z.2)) → DrA K F (zs.map (·.1)) ((zs.map (·.2)).map toD)
  | [], _ => .nil
  | z :: zs, h => .cons (h z (by simp)) (drA_of fun y hy => h y (by simp [hy]))
theorem ef_sorted [Enc α] [Sbl α] {m : R (List α)} (h : ES cf E ta G m) : EF cf E (tCB (rSortedD cf.K) (tCons ta tNil)) G (m.bind sortR) :=
  EG.call1 (ρ := Unit) h fun F O H Q xs r hf h1 nb ko => by
    obtain ⟨p, vs, e, hs, hr⟩ := RS.seq h1 hf
    obtain ⟨hz, ez⟩ := szR_nb (R.bind_nb nb)
    have es : sortR xs = .ok (xs.mergeSort leD) := by
      unfold sortR
      rw [ez]
      rfl
    have hl : vs.length = xs.length := by rw [hr.length, List.length_map]
    let zs : List (V × α) := vs.zip xs
    let ws : List (V × PyData) := zs.map fun z => (z.1, (toD z.2).py)
    have e1 : ws.map (·.1) = vs := by
      show (zs.map _).map _ = vs
      rw [List.map_map]
      exact zip_fst hl
    have hw : ∀ w' ∈ ws, ∃ v a, (v, a) ∈ zs ∧ w' = (v, (toD a).py) := fun w' hm => by
      obtain ⟨z, hz, rfl⟩ := List.mem_map.mp hm
      exact ⟨z.1, z.2, hz, rfl⟩
    refine ⟨p, ws, by rw [e], by rw [e1]; exact hs, fun w' hm => ?_, fun d hd d' hd' => ?_, ?_, fun w' hm => ?_, fun q hq => ?_⟩
    · obtain ⟨v, a, hz, rfl⟩ := hw w' hm
      exact Dr.dp hf.f (drA_zip hr _ hz) (Sbl.nd a)
    · obtain ⟨w1, hm, rfl⟩ := List.mem_map.mp hd
      obtain ⟨w2, hm', rfl⟩ := List.mem_map.mp hd'
      obtain ⟨v, a, _, rfl⟩ := hw w1 hm
      obtain ⟨v', a', _, rfl⟩ := hw w2 hm'
      exact Sbl.al a a'
    · rcases Sbl.so (α := α) with k | k
      · refine .inl fun d hd => ?_
        obtain ⟨w1, hm, rfl⟩ := List.mem_map.mp hd
        obtain ⟨v, a, _, rfl⟩ := hw w1 hm
        exact k a
      · refine .inr fun d hd => ?_
        obtain ⟨w1, hm, rfl⟩ := List.mem_map.mp hd
        obtain ⟨v, a, _, rfl⟩ := hw w1 hm
        exact k a
    · obtain ⟨v, a, _, rfl⟩ := hw w' hm
      exact Sbl.dp a
    · refine ko _ _ F _ es (Le.refl F) (hf.newH hq) ⟨q, _, rfl, hf.fnone hq, hf.onone hq, upd_same, ?_⟩
      have k1 : ws.mergeSort (PySem.W.dataLe false fun z : V × PyData => z.2) = (zs.mergeSort fun x y => leD x.2 y.2).map fun z => (z.1, (toD z.2).py) := by
        show (zs.map _).mergeSort _ = _
        exact (List.map_mergeSort (r := fun x y : V × α => leD x.2 y.2) (s := PySem.W.dataLe false fun z : V × PyData => z.2) (f := fun z : V × α => (z.1, (toD z.2).py)) (l := zs) (fun a _ b _ => rfl)).symm
      have k2 : (zs.mergeSort fun x y => leD x.2 y.2).map (·.2) = xs.mergeSort leD := by
        have q := List.map_mergeSort (r := fun x y : V × α => leD x.2 y.2) (s := leD) (f := fun z : V × α => z.2) (l := zs) (fun a _ b _ => rfl)
        rw [q]
        congr 1
        exact zip_snd hl
      rw [k1, ← k2, List.map_map]
      exact drA_of fun z hz => drA_zip hr z ((List.mergeSort_perm zs _).mem_iff.mp hz)
end
instance : Sbl Int := ⟨fun a b => by show PySem.W.alike (.int a) (.int b) = true; simp only [PySem.W.alike], .inr fun a => ⟨fun h => (nomatch h), fun _ h => (nomatch h)⟩, fun a => Nat.zero_le _, fun a => rfl⟩
instance : Sbl (Int × Int) := ⟨fun a b => by
    show PySem.W.alike (.tuple [.int a.1, .int a.2]) (.tuple [.int b.1, .int b.2]) = true
    simp [PySem.W.alike, PySem.W.alikeAll], .inl fun a => ⟨_, _, rfl⟩, fun a => by
    show PyData.depth (.tuple [.int a.1, .int a.2]) ≤ 8
    simp [PyData.depth, PyData.depthAll], fun a => rfl⟩
instance : Sbl (T3 Int Int Int) := ⟨fun a b => by
    show PySem.W.alike (.tuple [.int a.a, .int a.b, .int a.c]) (.tuple [.int b.a, .int b.b, .int b.c]) = true
    simp [PySem.W.alike, PySem.W.alikeAll], .inl fun a => ⟨_, _, rfl⟩, fun a => by
    show PyData.depth (.tuple [.int a.a, .int a.b, .int a.c]) ≤ 8
    simp [PyData.depth, PyData.depthAll], fun a => rfl⟩
theorem pyA_ints : ∀ ns : List Int, Dt.pyA (ns.map toD) = ns.map PyData.int
  | [] => rfl
  | n :: r => by
    show PyData.int n :: Dt.pyA (r.map toD) = _
    rw [pyA_ints r]
    rfl
theorem ndA_ints : ∀ ns : List Int, Dt.ndA (ns.map toD) = true
  | [] => rfl
  | n :: r => by
    show (true && Dt.ndA (r.map toD)) = true
    rw [ndA_ints r]
    rfl
instance : Sbl (Int × List Int) := ⟨fun a b => by
    show PySem.W.alike (.tuple [.int a.1, .list (Dt.pyA (a.2.map toD))]) (.tuple [.int b.1, .list (Dt.pyA (b.2.map toD))]) = true
    rw [pyA_ints, pyA_ints]
    simp [PySem.W.alike, PySem.W.alikeAll, PySem.W.alike_ints], .inl fun a => ⟨_, _, rfl⟩, fun a => by
    show PyData.depth (.tuple [.int a.1, .list (Dt.pyA (a.2.map toD))]) ≤ 8
    rw [pyA_ints]
    simp [PyData.depth, PyData.depthAll, PySem.W.depth_ints], fun a => by
    show (true && (Dt.ndA (a.2.map toD) && true)) = true
    rw [ndA_ints]
    rfl⟩
section
variable {X : Cx} (K : PySem.W.Frag) (h : X.K = K)
include h
theorem sortedK (hu : X.A.units + 64 < cLine) : CallR X (.builtin "sorted") (rSortedD K) := h ▸ cr_sortedD hu
theorem isTyK : CallR X (.builtin "isinstance") (rIsTyK K) := h ▸ call_isTyK
end
end Kr

/-! KrM: the mathematics of results: loops, comprehensions, equality of data. -/
namespace Kr
open PySem PySem.Spec PyProof.Rows L2
open Enc (toD)
variable {α β γ S T ρ : Type}
theorem finR_rt (r : ρ) : finR (.ok (.rt r) : R (Fl S ρ)) = .ok r := (fun (m : R (Fl S ρ)) (e : m = .ok (.rt r)) => show finR m = .ok r by rw [e]; rfl) _ rfl
theorem seqF_nx (s : S) (k : S → R (Fl T ρ)) : seqF (.ok (.nx s)) k = k s := (fun (m : R (Fl S ρ)) (e : m = .ok (.nx s)) => show seqF m k = k s by rw [e]; rfl) _ rfl
theorem seqF_rt (r : ρ) (k : S → R (Fl T ρ)) : seqF (.ok (.rt r)) k = .ok (.rt r) := (fun (m : R (Fl S ρ)) (e : m = .ok (.rt r)) => show seqF m k = .ok (.rt r) by rw [e]; rfl) _ rfl
theorem seqF_ite (c : Prop) [Decidable c] (a b : R (Fl S ρ)) (k : S → R (Fl T ρ)) : seqF (if c then a else b) k = if c then seqF a k else seqF b k := by split <;> rfl
theorem ite_nx (c : Prop) [Decidable c] (a b : S) : (if c then (.ok (.nx a) : R (Fl S ρ)) else .ok (.nx b)) = .ok (.nx (if c then a else b)) := by split <;> rfl
theorem ite_ok (c : Prop) [Decidable c] (a b : α) : (if c then (.ok a : R α) else .ok b) = .ok (if c then a else b) := by split <;> rfl
theorem okB (b : Bool) (x y : R α) (c : Prop) [Decidable c] (h : b = decide c) : (if b = true then x else y) = if c then x else y := by subst h; simp
/-- a loop that runs through -/
theorem forR_run {step : T → α → R (Fl T ρ)} {k : T → R (Fl S ρ)} : ∀ (xs : List α) (s : T) (I : Nat → T → Prop), I 0 s → (∀ (i : Nat) (h : i < xs.length) (s : T), I i s → ∃ s', step s xs[i] = .ok (.nx s') ∧ I (i + 1) s') →
    ∃ s', I xs.length s' ∧ forR step k xs s = k s'
  | [], s, I, h0, _ => ⟨s, h0, rfl⟩
  | x :: r, s, I, h0, hs => by
    obtain ⟨s1, e1, h1⟩ := hs 0 (by simp) s h0
    obtain ⟨s2, h2, e2⟩ := forR_run (step := step) (k := k) r s1 (fun i => I (i + 1)) h1 fun i hi s' hI => hs (i + 1) (by simpa using hi) s' hI
    refine ⟨s2, h2, ?_⟩
    show (step s x).bind _ = _
    rw [show step s x = .ok (.nx s1) from e1]
    exact e2
/-- .. as a rule for a goal -/
theorem forR_elim {P : R (Fl S ρ) → Prop} {step : T → α → R (Fl T ρ)} {k : T → R (Fl S ρ)} {xs : List α} {s : T} (I : Nat → T → Prop) (h0 : I 0 s) (hs : ∀ (i : Nat) (h : i < xs.length) (s : T), I i s → ∃ s', step s xs[i] = .ok (.nx s') ∧ I (i + 1) s')
    (hP : ∀ s', I xs.length s' → P (k s')) : P (forR step k xs s) := by
  obtain ⟨s', h1, h2⟩ := forR_run (step := step) (k := k) xs s I h0 hs
  rw [h2]
  exact hP s' h1
theorem szR_nil : szR ([] : List α) = .ok [] := if_pos (Nat.zero_le _)
theorem forR_fold {step : T → α → R (Fl T ρ)} {k : T → R (Fl S ρ)} (f : T → α → T) : ∀ (xs : List α) (s : T), (∀ s x, x ∈ xs → step s x = .ok (.nx (f s x))) → forR step k xs s = k (xs.foldl f s)
  | [], s, _ => rfl
  | x :: r, s, h => by
    show (step s x).bind _ = _
    rw [h s x (by simp)]
    exact forR_fold f r (f s x) fun s y hy => h s y (by simp [hy])
theorem forR_cons (step : T → α → R (Fl T ρ)) (k : T → R (Fl S ρ)) (x : α) (r : List α) (s : T) : forR step k (x :: r) s = (step s x).bind fun
    | .nx s' => forR step k r s'
    | .bk s' => k s'
    | .rt v => .ok (.rt v) := rfl
/-- a comprehension that runs through -/
theorem lcR_ok {ft : α → R Bool} {fe : α → R β} {xs : List α} (p : α → Bool) (g : α → β) (hz : xs.length ≤ 1000000) (ht : ∀ x ∈ xs, ft x = .ok (p x)) (he : ∀ x ∈ xs, p x = true → fe x = .ok (g x)) : lcR ft fe xs = .ok ((xs.filter p).map g) := by
  unfold lcR
  rw [szR_ok hz, R.ok_bind]
  clear hz
  induction xs with
  | nil => rfl
  | cons x r ih =>
    have ih' := ih (fun y hy => ht y (by simp [hy])) fun y hy => he y (by simp [hy])
    show ((ft x).pu.bind _) = _
    rw [ht x (by simp), R.ok_pu, R.ok_bind]
    cases hp : p x with
    | false =>
      rw [if_neg Bool.false_ne_true, ih', List.filter_cons, if_neg (by rw [hp]; decide)]
    | true =>
      rw [if_pos rfl, he x (by simp) hp, R.ok_pu, R.ok_bind, ih', List.filter_cons, if_pos hp]
      rfl
theorem lcR_map {fe : α → R β} {xs : List α} (g : α → β) (hz : xs.length ≤ 1000000) (he : ∀ x ∈ xs, fe x = .ok (g x)) : lcR (fun _ => .ok true) fe xs = .ok (xs.map g) := by
  rw [lcR_ok (fun _ => true) g hz (fun _ _ => rfl) fun x hx _ => he x hx, List.filter_eq_self.mpr fun _ _ => rfl]
/-! ### ranges, items -/
theorem mem_seqI {lo x : Int} {n : Nat} : x ∈ seqI lo n ↔ lo ≤ x ∧ x < lo + (n : Int) := by
  unfold seqI
  rw [List.mem_map]
  constructor
  · rintro ⟨i, hi, rfl⟩
    have := List.mem_range.mp hi
    omega
  · rintro ⟨h1, h2⟩
    exact ⟨(x - lo).toNat, List.mem_range.mpr (by omega), by omega⟩
theorem seqI_at {lo : Int} {n i : Nat} (h : i < (seqI lo n).length) : (seqI lo n)[i] = lo + (i : Int) := by
  have e := seqI_get lo n i
  rw [List.getElem?_eq_getElem h, if_pos (by rw [seqI_len] at h; exact h)] at e
  exact Option.some.inj e
theorem seqI_succ (lo : Int) (n : Nat) : seqI lo (n + 1) = seqI lo n ++ [lo + (n : Int)] := by
  unfold seqI
  rw [List.range_succ, List.map_append]
  rfl
theorem rng1_ok {n : Int} (h : n < 2 ^ 62) (h' : -(2 ^ 62) ≤ n) : rng1R n = .ok (seqI 0 n.toNat) := if_pos ⟨h', h⟩
theorem rng1_nat {n : Nat} (h : n ≤ 1000000) : rng1R (n : Int) = .ok (seqI 0 n) := by
  rw [rng1_ok (by omega) (by omega)]
  rfl
theorem rng2_ok {a b : Int} (h : -1000000 ≤ a ∧ a ≤ 1000000 ∧ -1000000 ≤ b ∧ b ≤ 1000000) : rng2R a b = .ok (seqI a (b - a).toNat) := if_pos (by omega)
theorem ixN_ok {n : Nat} {i : Int} (h : 0 ≤ i) (h' : i < n) : ixN n i = some i.toNat := by
  unfold ixN
  rw [if_pos h, if_pos h']
theorem idxR_ok {xs : List α} {i : Int} (h : 0 ≤ i) (h' : i < xs.length) : idxR xs i = .ok (xs[i.toNat]'(by omega)) := by
  unfold idxR atI
  rw [ixN_ok h h', Option.bind_some, List.getElem?_eq_getElem (by omega)]
theorem idxR_nat {xs : List α} {i : Nat} (h : i < xs.length) : idxR xs (i : Int) = .ok xs[i] := by
  rw [idxR_ok (by omega) (by omega)]
  rfl
theorem idxR_of {xs : List α} {i : Int} {a : α} (h : 0 ≤ i) (e : xs[i.toNat]? = some a) : idxR xs i = .ok a := by
  obtain ⟨hl, e'⟩ := List.getElem?_eq_some_iff.mp e
  rw [idxR_ok h (by omega), e']
theorem setR_ok {xs : List α} {i : Int} {a : α} (h : 0 ≤ i) (h' : i < xs.length) : setR xs i a = .ok (xs.set i.toNat a) := by
  unfold setR
  rw [ixN_ok h h']
/-! ### numbers -/
theorem modR_ok {a b : Int} (h : 0 < b) : modR a b = .ok (a % b) := if_pos h
theorem divR_ok {a b : Int} (h : 0 < b) (h' : b < 2 ^ 64) : divR a b = .ok (a / b) := if_pos ⟨h, by
  have h1 : b.natAbs < 2 ^ 64 := by omega
  have h2 := PySem.Flt.log2_lt_of (by decide) h1
  omega⟩
theorem divR_big {a b : Int} {n : Nat} (h : 0 < b) (h' : b.natAbs < 2 ^ n) (h0 : 0 < n) (h9 : n ≤ 9000) : divR a b = .ok (a / b) := if_pos (wide_div (i := a) h h' h0 h9)
theorem bits_le {x : Int} {n : Nat} (h : x.natAbs < 2 ^ n) (h0 : 0 < n) : Builtin.Int.intBits x ≤ n := by
  have := PySem.Flt.log2_lt_of h0 h
  unfold Builtin.Int.intBits
  split <;> omega
theorem mulR_big {a b : Int} {n m : Nat} (ha : a.natAbs < 2 ^ n) (hb : b.natAbs < 2 ^ m) (hn : 0 < n) (hm : 0 < m) (h : n + m ≤ 134217728) : mulR a b = .ok (a * b) := if_pos (by
  have h1 := bits_le ha hn
  have h2 := bits_le hb hm
  omega)
theorem mulR_ok {a b : Int} (ha : -(2 ^ 64) < a ∧ a < 2 ^ 64) (hb : -(2 ^ 64) < b ∧ b < 2 ^ 64) : mulR a b = .ok (a * b) := mulR_big (n := 64) (m := 64) (by omega) (by omega) (by decide) (by decide) (by decide)
theorem shlR_ok {a b : Int} (ha : -(2 ^ 64) < a ∧ a < 2 ^ 64) (hb : 0 ≤ b ∧ b ≤ 1000000) : shlR a b = .ok (a * 2 ^ b.toNat) := if_pos ⟨hb.1, by
  have h1 := bits_le (x := a) (n := 64) (by omega) (by decide)
  omega⟩
theorem shrR_ok {a b : Int} (hb : 0 ≤ b) : shrR a b = .ok (a / 2 ^ b.toNat) := if_pos hb
/-! ### equality of data -/
/-- data whose == is equality -/
class Eqd (α : Type) [Enc α] where
  n : Nat
  nd : ∀ a : α, (toD a).nd = true
  lay : ∀ a : α, (toD a).py.canLay0 = true
  dp : ∀ a : α, (toD a).py.depth ≤ n
  ev : ∀ a b : α, PyData.eqv (toD a).py (toD b).py = true ↔ a = b
theorem eqR_eq [Enc α] [q : Eqd α] [DecidableEq α] (a b : α) (h : q.n ≤ 64 := by decide) : eqR a b = .ok (decide (a = b)) := by
  unfold eqR
  have sh : ∀ a : α, SeqAt.shaped (toD a).py = true := fun a => by
    unfold SeqAt.shaped
    rw [Eqd.lay a, Bool.true_and]
    exact decide_eq_true (Nat.le_trans (Eqd.dp a) h)
  rw [if_pos ⟨Eqd.nd a, Eqd.nd b, sh a, sh b⟩]
  congr 1
  by_cases e : a = b
  · rw [decide_eq_true e, (Eqd.ev a b).mpr e]
  · rw [decide_eq_false e]
    cases q : PyData.eqv (toD a).py (toD b).py with
    | false => rfl
    | true => exact absurd ((Eqd.ev a b).mp q) e
instance : Eqd Int := ⟨0, fun _ => rfl, fun _ => rfl, fun _ => Nat.le_refl _, fun a b => by show (a == b) = true ↔ _; simp⟩
instance : Eqd Bool := ⟨0, fun _ => rfl, fun _ => rfl, fun _ => Nat.le_refl _, fun a b => by show (a == b) = true ↔ _; simp⟩
section
variable [Enc α] [q : Eqd α]
theorem eqd_ndA : ∀ xs : List α, Dt.ndA (xs.map toD) = true
  | [] => rfl
  | x :: r => by
    show (Dt.nd (toD x) && Dt.ndA (r.map toD)) = true
    rw [Eqd.nd x, eqd_ndA r]
    rfl
theorem eqd_layA : ∀ xs : List α, PyData.canLayAll0 (Dt.pyA (xs.map toD)) = true
  | [] => rfl
  | x :: r => by
    show (PyData.canLay0 (toD x).py && PyData.canLayAll0 (Dt.pyA (r.map toD))) = true
    rw [Eqd.lay x, eqd_layA r]
    rfl
theorem eqd_dpA : ∀ xs : List α, PyData.depthAll (Dt.pyA (xs.map toD)) ≤ q.n
  | [] => Nat.zero_le _
  | x :: r => by
    show max (PyData.depth (toD x).py) (PyData.depthAll (Dt.pyA (r.map toD))) ≤ _
    exact Nat.max_le.mpr ⟨Eqd.dp x, eqd_dpA r⟩
theorem eqd_evA : ∀ xs ys : List α, PyData.eqvAll (Dt.pyA (xs.map toD)) (Dt.pyA (ys.map toD)) = true ↔ xs = ys
  | [], [] => by simp [Dt.pyA, PyData.eqvAll]
  | [], _ :: _ => by simp [Dt.pyA, PyData.eqvAll]
  | _ :: _, [] => by simp [Dt.pyA, PyData.eqvAll]
  | x :: xs, y :: ys => by
    show (PyData.eqv (toD x).py (toD y).py && PyData.eqvAll (Dt.pyA (xs.map toD)) (Dt.pyA (ys.map toD))) = true ↔ _
    rw [Bool.and_eq_true, Eqd.ev x y, eqd_evA xs ys]
    simp
instance : Eqd (List α) := ⟨q.n + 1, fun xs => eqd_ndA xs, fun xs => eqd_layA xs, fun xs => by
  show PyData.depthAll (Dt.pyA (xs.map toD)) + 1 ≤ _
  exact Nat.succ_le_succ (eqd_dpA xs), fun xs ys => eqd_evA xs ys⟩
theorem eqv_none_l {d : PyData} (h : d ≠ .none) : PyData.eqv .none d = false := by cases d <;> first | rfl | exact absurd rfl h
theorem eqv_none_r {d : PyData} (h : d ≠ .none) : PyData.eqv d .none = false := by cases d <;> first | rfl | exact absurd rfl h
theorem py_non {d : Dt} (h : d.py = .none) : d = .non := by cases d <;> first | rfl | exact absurd h (fun z => nomatch z)
instance [NN α] : Eqd (Option α) := ⟨q.n, fun o => match o with
  | none => rfl
  | some a => Eqd.nd (α := α) a, fun o => match o with
  | none => rfl
  | some a => Eqd.lay (α := α) a, fun o => match o with
  | none => Nat.zero_le _
  | some a => Eqd.dp (α := α) a, fun a b => by
  have ne : ∀ a : α, (toD a).py ≠ .none := fun a h => NN.nn a (py_non h)
  cases a with
  | none =>
    cases b with
    | none => simp [PyData.eqv, toD, Enc.toD, Dt.py]
    | some b =>
      show PyData.eqv .none (toD b).py = true ↔ _
      rw [eqv_none_l (ne b)]
      simp
  | some a =>
    cases b with
    | none =>
      show PyData.eqv (toD a).py .none = true ↔ _
      rw [eqv_none_r (ne a)]
      simp
    | some b =>
      show PyData.eqv (toD a).py (toD b).py = true ↔ _
      rw [Eqd.ev a b]
      simp⟩
variable [Enc β] [p : Eqd β] [Enc γ] [o : Eqd γ]
instance : Eqd (α × β) := ⟨q.n + p.n + 1, fun a => by
    show (Dt.nd (toD a.1) && (Dt.nd (toD a.2) && true)) = true
    rw [Eqd.nd, Eqd.nd]
    rfl, fun a => by
    show (PyData.canLay0 (toD a.1).py && (PyData.canLay0 (toD a.2).py && true)) = true
    rw [Eqd.lay, Eqd.lay]
    rfl, fun a => by
    show max (toD a.1).py.depth (max (toD a.2).py.depth 0) + 1 ≤ _
    have h1 := Eqd.dp a.1
    have h2 := Eqd.dp a.2
    omega, fun a b => by
    show (PyData.eqv (toD a.1).py (toD b.1).py && (PyData.eqv (toD a.2).py (toD b.2).py && true)) = true ↔ _
    rw [Bool.and_true, Bool.and_eq_true, Eqd.ev, Eqd.ev]
    exact Prod.ext_iff.symm⟩
instance : Eqd (T3 α β γ) := ⟨q.n + p.n + o.n + 1, fun a => by
    show (Dt.nd (toD a.a) && (Dt.nd (toD a.b) && (Dt.nd (toD a.c) && true))) = true
    rw [Eqd.nd, Eqd.nd, Eqd.nd]
    rfl, fun a => by
    show (PyData.canLay0 (toD a.a).py && (PyData.canLay0 (toD a.b).py && (PyData.canLay0 (toD a.c).py && true))) = true
    rw [Eqd.lay, Eqd.lay, Eqd.lay]
    rfl, fun a => by
    show max (toD a.a).py.depth (max (toD a.b).py.depth (max (toD a.c).py.depth 0)) + 1 ≤ _
    have h1 := Eqd.dp a.a
    have h2 := Eqd.dp a.b
    have h3 := Eqd.dp a.c
    omega, fun a b => by
    show (PyData.eqv (toD a.a).py (toD b.a).py && (PyData.eqv (toD a.b).py (toD b.b).py && (PyData.eqv (toD a.c).py (toD b.c).py && true))) = true ↔ _
    rw [Bool.and_true, Bool.and_eq_true, Bool.and_eq_true, Eqd.ev, Eqd.ev, Eqd.ev]
    cases a
    cases b
    simp⟩
end
/-! ### sorted -/
theorem leD_int (a b : Int) : leD a b = decide (a ≤ b) := by
  show PySem.W.dataLe false (fun x : Int => PyData.int x) a b = _
  rw [PySem.W.dataLe_int (fun x : Int => x)]
theorem leD_ii (p q : Int × Int) : leD p q = decide (p.1 < q.1 ∨ (p.1 = q.1 ∧ p.2 ≤ q.2)) := by
  show PySem.W.dataLe false (fun x : Int × Int => PyData.tuple [.int x.1, .int x.2]) p q = _
  rw [PySem.W.dataLe_ii (fun x : Int × Int => x.1) (fun x : Int × Int => x.2)]
theorem sortR_ok [Enc α] {xs : List α} (h : xs.length ≤ 1000000) : sortR xs = .ok (xs.mergeSort leD) := by
  unfold sortR
  rw [szR_ok h]
  rfl
end Kr

/-! KrR: ranks, rests, choices: plain lists. -/
namespace Kr
open PySem PySem.Spec PyProof.Rows L2
open Enc (toD)
variable {α β T ρ S : Type}
/-! ### loops that fill a list -/
theorem forR_fm {step : List β → α → R (Fl (List β) ρ)} {k : List β → R (Fl S ρ)} (f : α → Option β) : ∀ (xs : List α) (s0 : List β), s0.length + xs.length ≤ 1000000 → (∀ s x, x ∈ xs → s.length < 1000000 → step s x = .ok (.nx (s ++ (f x).toList))) →
    forR step k xs s0 = k (s0 ++ xs.filterMap f)
  | [], s0, _, _ => by
    rw [List.filterMap_nil, List.append_nil]
    rfl
  | x :: r, s0, hz, h => by
    rw [List.length_cons] at hz
    rw [forR_cons, h s0 x (by simp) (by omega), R.ok_bind]
    show forR step k r (s0 ++ (f x).toList) = _
    rw [forR_fm f r _ (by
      rw [List.length_append]
      have : (f x).toList.length ≤ 1 := by cases f x <;> simp
      omega) fun s y hy => h s y (by simp [hy])]
    cases e : f x with
    | none =>
      rw [List.filterMap_cons_none e]
      simp
    | some y =>
      rw [List.filterMap_cons_some e]
      simp
theorem forR_map {step : List β → α → R (Fl (List β) ρ)} {k : List β → R (Fl S ρ)} (g : α → β) (xs : List α) (s0 : List β) (hz : s0.length + xs.length ≤ 1000000) (h : ∀ s x, x ∈ xs → s.length < 1000000 → step s x = .ok (.nx (s ++ [g x]))) :
    forR step k xs s0 = k (s0 ++ xs.map g) := by
  rw [forR_fm (fun x => some (g x)) xs s0 hz fun s x hx hl => by rw [h s x hx hl]; rfl, List.filterMap_eq_map']
theorem szR_snoc {s : List β} {y : β} (h : s.length < 1000000) : szR (s ++ [y]) = .ok (s ++ [y]) := szR_ok (by
  rw [List.length_append]
  simp
  omega)
/-! ### ranks -/
def gW (ws : List Int) (k : Int) : Int := ws.getD k.toNat 0
theorem idxR_gW {ws : List Int} {k : Int} (h : 0 ≤ k) (h' : k < ws.length) : idxR ws k = .ok (gW ws k) := by
  rw [idxR_ok h h']
  unfold gW
  rw [List.getD_eq_getElem?_getD, List.getElem?_eq_getElem (by omega)]
  rfl
/-- a has a better rank than b -/
def bf (ws : List Int) (a b : Int) : Prop := gW ws b < gW ws a ∨ (gW ws a = gW ws b ∧ a < b)
instance (ws : List Int) (a b : Int) : Decidable (bf ws a b) := by unfold bf; exact inferInstance
def rk (ws : List Int) : List Int := (((seqI 0 ws.length).map fun k => (-(gW ws k), k)).mergeSort leD).map (·.2)
theorem leD_trans (a b c : Int × Int) (h : leD a b = true) (h' : leD b c = true) : leD a c = true := by
  rw [leD_ii, decide_eq_true_eq] at *
  omega
theorem leD_total (a b : Int × Int) : (leD a b || leD b a) = true := by
  rw [leD_ii, leD_ii, Bool.or_eq_true, decide_eq_true_eq, decide_eq_true_eq]
  omega
theorem seqI_nodup (lo : Int) (n : Nat) : (seqI lo n).Nodup := by
  unfold seqI
  exact List.Pairwise.map _ (fun a b h e => h (by omega)) List.nodup_range
theorem rk_perm (ws : List Int) : (rk ws).Perm (seqI 0 ws.length) := by
  have h := (List.mergeSort_perm ((seqI 0 ws.length).map fun k => (-(gW ws k), k)) leD).map (·.2)
  rw [List.map_map] at h
  have e : ((fun x : Int × Int => x.2) ∘ fun k => (-(gW ws k), k)) = id := rfl
  rw [e, List.map_id] at h
  exact h
theorem rk_len (ws : List Int) : (rk ws).length = ws.length := by rw [(rk_perm ws).length_eq, seqI_len]
theorem rk_nodup (ws : List Int) : (rk ws).Nodup := (rk_perm ws).nodup_iff.mpr (seqI_nodup 0 _)
theorem rk_mem (ws : List Int) (k : Int) : k ∈ rk ws ↔ 0 ≤ k ∧ k < ws.length := by
  rw [(rk_perm ws).mem_iff, mem_seqI]
  omega
theorem rk_sorted (ws : List Int) : (rk ws).Pairwise (bf ws) := by
  have h := List.pairwise_mergeSort leD_trans leD_total ((seqI 0 ws.length).map fun k => (-(gW ws k), k))
  have hn := rk_nodup ws
  unfold rk at hn ⊢
  rw [List.pairwise_map]
  rw [List.Nodup, List.pairwise_map] at hn
  have hm : ∀ p ∈ ((seqI 0 ws.length).map fun k => (-(gW ws k), k)).mergeSort leD, p.1 = -(gW ws p.2) := fun p hp => by
    obtain ⟨k, _, rfl⟩ := List.mem_map.mp ((List.mergeSort_perm _ _).mem_iff.mp hp)
    rfl
  refine List.Pairwise.imp_of_mem ?_ (h.and hn)
  intro p q hp hq ⟨h1, h2⟩
  rw [leD_ii, decide_eq_true_eq, hm p hp, hm q hq] at h1
  unfold bf
  omega
theorem bf_asymm {ws : List Int} {a b : Int} (h : bf ws a b) (h' : bf ws b a) : False := by
  unfold bf at *
  omega
/-- the next rank: the best of those that have none yet -/
theorem rk_next {ws : List Int} {i : Nat} (hi : i < ws.length) {b : Int} (hb : 0 ≤ b ∧ b < ws.length) (hn : b ∉ (rk ws).take i) (hbest : ∀ k : Int, 0 ≤ k → k < ws.length → k ∉ (rk ws).take i → k = b ∨ bf ws b k) : (rk ws)[i]? = some b := by
  have hl := rk_len ws
  have hi' : i < (rk ws).length := by omega
  have hsplit := List.take_append_drop i (rk ws)
  rw [List.getElem?_eq_getElem hi']
  congr 1
  have hbm : b ∈ (rk ws).drop i := by
    have := (rk_mem ws b).mpr hb
    rw [← hsplit] at this
    exact (List.mem_append.mp this).resolve_left hn
  have hd : (rk ws).drop i = (rk ws)[i] :: (rk ws).drop (i + 1) := List.drop_eq_getElem_cons hi'
  have hs := rk_sorted ws
  rw [← hsplit, List.pairwise_append] at hs
  have hnd := rk_nodup ws
  rw [← hsplit, List.nodup_append] at hnd
  have hnt : (rk ws)[i] ∉ (rk ws).take i := fun hm => hnd.2.2 _ hm (rk ws)[i] (by rw [hd]; exact List.mem_cons_self ..) rfl
  have hr := (rk_mem ws (rk ws)[i]).mp (List.getElem_mem hi')
  rcases hbest _ hr.1 hr.2 hnt with e | hbf
  · exact e
  · rw [hd] at hbm hs
    rcases List.mem_cons.mp hbm with e | hm
    · exact e.symm
    · exact (bf_asymm hbf ((List.pairwise_cons.mp hs.2.1).1 b hm)).elim
/-! ### rests -/
def suf : List Int → List Int
  | [] => [0]
  | w :: r => (w :: r).sum :: suf r
def rkW (ws : List Int) : List Int := (rk ws).map (gW ws)
theorem suf_len : ∀ l : List Int, (suf l).length = l.length + 1
  | [] => rfl
  | w :: r => by
    show (suf r).length + 1 = _
    rw [suf_len r]
    rfl
theorem suf_head : ∀ l : List Int, (suf l)[0]? = some l.sum
  | [] => rfl
  | w :: r => rfl
theorem sum_perm {l l' : List Int} (h : l.Perm l') : l.sum = l'.sum := by
  induction h with
  | nil => rfl
  | cons x _ ih => rw [List.sum_cons, List.sum_cons, ih]
  | swap x y l => simp only [List.sum_cons]; omega
  | trans _ _ h1 h2 => rw [h1, h2]
theorem map_gW (ws : List Int) : (seqI 0 ws.length).map (gW ws) = ws := by
  apply List.ext_getElem
  · rw [List.length_map, seqI_len]
  · intro i h1 h2
    rw [List.getElem_map, seqI_at (by rw [List.length_map] at h1; exact h1)]
    unfold gW
    rw [List.getD_eq_getElem?_getD, show ((0 : Int) + (i : Int)).toNat = i by omega, List.getElem?_eq_getElem h2]
    rfl
theorem sum_rkW (ws : List Int) : (rkW ws).sum = ws.sum := by
  have h := sum_perm ((rk_perm ws).map (gW ws))
  rw [map_gW] at h
  exact h
theorem rkW_at {ws : List Int} {i : Nat} (h : i < (rkW ws).length) (h' : i < (rk ws).length) : (rkW ws)[i] = gW ws (rk ws)[i] := List.getElem_map (gW ws)
def sums (ws : List Int) : List Int := suf (rkW ws)
theorem rkW_len (ws : List Int) : (rkW ws).length = ws.length := by
  unfold rkW
  rw [List.length_map, rk_len]
theorem sums_len (ws : List Int) : (sums ws).length = ws.length + 1 := by
  unfold sums
  rw [suf_len, rkW_len]
/-! ### choices -/
abbrev Stg := T3 Int Int Int
abbrev Cho := T3 Int Int (Option Stg)
/-- the choice a of a stage, if it is one -/
def item (sm : List Int) (lim : Int) (st : Stg) (a : Int) : Option Cho :=
  if (st.a = lim ∧ a = (sm.length : Int) - 1 - st.b) ∨ (st.a ≠ lim ∧ (0 < st.a ∨ a = 0)) then
    (if st.b + a = (sm.length : Int) - 1 then some ⟨a, 0, none⟩ else if a < st.c then some ⟨a, gW sm (st.b + a), some ⟨st.a + 1, st.b + a, min (2 * (st.c - a)) ((sm.length : Int) - 1 - st.b - a)⟩⟩ else none)
  else none
def chs (sm : List Int) (lim : Int) (st : Stg) : List Cho := (seqI 0 (min st.c ((sm.length : Int) - 1 - st.b) + 1).toNat).filterMap (item sm lim st)
theorem fm_none (f : Int → Option β) (lo : Int) (n : Nat) (h : ∀ x, lo ≤ x → x < lo + n → f x = none) : (seqI lo n).filterMap f = [] := List.filterMap_eq_nil_iff.mpr fun x hx => h x (mem_seqI.mp hx).1 (mem_seqI.mp hx).2
theorem seqI_split (lo : Int) (n m : Nat) : seqI lo (n + m) = seqI lo n ++ seqI (lo + n) m := by
  induction m with
  | zero => simp [seqI]
  | succ m ih => rw [← Nat.add_assoc, seqI_succ, ih, seqI_succ, List.append_assoc, show lo + ((n + m : Nat) : Int) = lo + n + (m : Int) by omega]
/-- the program's walk: from first to last -/
theorem chs_by (sm : List Int) (lim : Int) (st : Stg) (h0 : 0 ≤ st.a) (hl : st.a ≤ lim) (hl1 : 1 ≤ lim) (hm : 0 ≤ st.b ∧ st.b < (sm.length : Int) - 1) (hc : 1 ≤ st.c) :
    chs sm lim st = (seqI (if st.a = lim then (sm.length : Int) - 1 - st.b else 0) ((if st.a = 0 then 0 else min st.c ((sm.length : Int) - 1 - st.b)) + 1 - (if st.a = lim then (sm.length : Int) - 1 - st.b else 0)).toNat).filterMap (item sm lim st) := by
  unfold chs
  by_cases e1 : st.a = lim
  · rw [if_pos e1, if_neg (show ¬ st.a = 0 by omega)]
    have hno : ∀ x, x ≠ (sm.length : Int) - 1 - st.b → item sm lim st x = none := fun x hx => by
      unfold item
      rw [if_neg (by omega)]
    by_cases e2 : (sm.length : Int) - 1 - st.b ≤ st.c
    · rw [Int.min_eq_right e2, show ((sm.length : Int) - 1 - st.b + 1).toNat = ((sm.length : Int) - 1 - st.b).toNat + 1 by omega, seqI_split, List.filterMap_append, fm_none _ _ _ (fun x h1 h2 => hno x (by omega)), List.nil_append,
        show ((sm.length : Int) - 1 - st.b + 1 - ((sm.length : Int) - 1 - st.b)).toNat = 1 by omega, show (0 : Int) + (((sm.length : Int) - 1 - st.b).toNat : Int) = (sm.length : Int) - 1 - st.b by omega]
    · rw [Int.min_eq_left (by omega), show (st.c + 1 - ((sm.length : Int) - 1 - st.b)).toNat = 0 by omega, fm_none _ _ _ (fun x h1 h2 => hno x (by omega))]
      rfl
  · rw [if_neg e1]
    by_cases e3 : st.a = 0
    · rw [if_pos e3]
      have hno : ∀ x, x ≠ 0 → item sm lim st x = none := fun x hx => by
        unfold item
        rw [if_neg (by omega)]
      rw [show (min st.c ((sm.length : Int) - 1 - st.b) + 1).toNat = 1 + (min st.c ((sm.length : Int) - 1 - st.b)).toNat by omega, seqI_split, List.filterMap_append, fm_none _ ((0 : Int) + ((1 : Nat) : Int)) _ (fun x h1 h2 => hno x (by omega)), List.append_nil]
      rfl
    · rw [if_neg e3, Int.sub_zero]
end Kr

/-! KrX: methods that begin with super().__init__(..). -/
namespace Kr
open PySem PySem.Spec PyProof.Rows L2 NdefX
section
variable {CX : CXT} {P : Program} {w : World} {K : PySem.W.Frag} {mg : Str → Option Value} {base : Heap} {k : Nat} {f cc cda D : Addr} {name qual : Str} {params : Arguments} {body : List Stmt} {scope : Scope} {dV kV doc pm ct oc cl : Value} {an od cld : Option Addr} {osl csl : Array (Option Value)} {N ps : List Str} {sp : Sp}
theorem fn_sup (lk : K.lookup f = some ⟨oc, od, .func (PySem.W.ksFn name qual params body scope dV kV doc pm an (.ref cda) ct cc), osl⟩) (hcd : PySem.W.codeIn K (.ref cda) qual = true)
    (hcc : K.lookup cc = some ⟨cl, cld, .cell (some (.ref D)), csl⟩) (S : NScope N ps ["__class__"] scope) (len : ∀ vs H Q E, sp vs H Q E → vs.length = ps.length)
    (hbody : ∀ (A : Around) (outer : List Env) (s s1 : Shared) (H : Hp) (vs : List V) (Q : VK) (E : XK), Room k (A.deeper (envF ⟨name, qual, params, body, scope, [("__class__", cc)], cda⟩ f s.heap.objs.size)) → sp vs H Q E →
      Inv (ncx CX P w K mg base N ⟨name, qual, params, body, scope, [("__class__", cc)], cda⟩ f A outer s H E) [] (startF N vs [none]) H s1 →
      _root_.PySem.wpAt (model P w) (A.deeper (envF ⟨name, qual, params, body, scope, [("__class__", cc)], cda⟩ f s.heap.objs.size)) (.func body (envF ⟨name, qual, params, body, scope, [("__class__", cc)], cda⟩ f s.heap.objs.size)) (execs body (envF ⟨name, qual, params, body, scope, [("__class__", cc)], cda⟩ f s.heap.objs.size))
        (L2.SP (ncx CX P w K mg base N ⟨name, qual, params, body, scope, [("__class__", cc)], cda⟩ f A outer s H E) [] { nx := fun _ H' => Q .non H', rt := Q }) (ncx CX P w K mg base N ⟨name, qual, params, body, scope, [("__class__", cc)], cda⟩ f A outer s H E).xe s1) :
    FnOk P w K mg base CX (k + 1) f (PySem.W.ksFn name qual params body scope dV kV doc pm an (.ref cda) ct cc) ps sp := by
  refine ⟨len, fun A outer s H args us vs Q E hr e0 hb r hsp => ?_⟩
  have hl := len _ _ _ _ hsp
  have lim : s.heap.NoLimit := e0.mod.nolimit.keeps fun b o e => (e0.bs b o e).1
  have KX : K.In s.heap := e0.mod.kin.keeps fun b o e => (e0.bs b o e).1
  have C : CellsAt [("__class__", cc)] ["__class__"] [none] s.heap H := by
    have one : ∀ (y : Str) (c : Addr), ([("__class__", cc)] : List (Str × Addr)).lookup y = some c → y = "__class__" ∧ c = cc := fun y c e => by
      by_cases hy : y = "__class__"
      · subst hy
        exact ⟨rfl, (Option.some.inj e).symm⟩
      · have : ([("__class__", cc)] : List (Str × Addr)).lookup y = none := by
          have hb : (y == ("__class__" : Str)) = false := beq_eq_false_iff_ne.mpr hy
          show (match y == ("__class__" : Str) with | true => some cc | false => List.lookup y []) = none
          rw [hb]
          rfl
        rw [this] at e
        cases e
    have at' := e0.bs _ _ (e0.mod.kin _ _ hcc)
    refine ⟨rfl, fun y c e => ?_, fun x y c e e' => (one x c e).1.trans (one y c e').1.symm, fun i y e => ?_⟩
    · obtain ⟨_, rfl⟩ := one y c e
      exact ⟨at'.2, _, _, at'.1, rfl⟩
    · cases i with
      | zero =>
        cases e
        exact ⟨cc, rfl, fun v h => nomatch h⟩
      | succ i => simp at e
  refine PySem.ks_codeAny_call_defAt (fd := PySem.W.ksFn name qual params body scope dV kV doc pm an (.ref cda) ct cc) (body := body) (binds := ps.zip us) hr.depth (KX _ _ lk) rfl lim (PySem.W.codeRec_of KX hcd) rfl hb S.nocell (fun ⟨n, _⟩ hy => S.par n (List.of_mem_zip hy).1) (fun h₁ hns kp => ?_) S.co S.gen S.kind
  have I := inv_startN (CX := CX) (F := ⟨name, qual, params, body, scope, [("__class__", cc)], cda⟩) (f := f) (E := E) (tk := s.toks + (ps.zip us).length) S hr.hd e0 hl r C hns kp
  refine PySem.ks_wpAt_mono (hbody A outer s _ H vs Q E (hr.deeper _) hsp I) (fun fl s' hs => ?_) fun e s' hs => hs
  have fin : ∀ {σ' : L2.St} {H' : Hp} {v : V} {u : Value}, Inv (ncx CX P w K mg base N ⟨name, qual, params, body, scope, [("__class__", cc)], cda⟩ f A outer s H E) [] σ' H' s' → L2.RelV v u → Q v H' → CE outer P w H s Q u s' :=
    fun {σ' H' v u} J rv q => ⟨v, H', J.os, J.bare, J.base, J.hok, rv, q⟩
  cases fl with
  | ret u =>
    obtain ⟨v, σ', H', J, rv, q⟩ := hs
    exact fin J rv q
  | next =>
    obtain ⟨σ', H', J, q⟩ := hs
    exact fin (v := V.non) (u := Value.none) J rfl q
  | brk =>
    obtain ⟨_, _, _, q⟩ := hs
    exact False.elim q
  | cont =>
    obtain ⟨_, _, _, q⟩ := hs
    exact False.elim q
end
/-! ### the first statement: super().__init__(..) -/
/-- what the written part says of the method at f that says super() for a self of the class at C -/
structure SupF (K : PySem.W.Frag) (P : Program) (f cda cc D C : Addr) (me : Str) : Prop where
  fn : ∃ oc od osl fd ar, K.lookup f = some ⟨oc, od, .func fd, osl⟩ ∧ (fd.params.posonlyargs ++ fd.params.args).head? = some ar ∧ ar.arg = me
  code : ∃ ccl cdd vs ccs file tf, K.lookup cda = some ⟨ccl, cdd, .fields vs, ccs⟩ ∧ vs[2]? = some (.str file tf) ∧ ((P.main.file : Str) == file) = true
  cell : ∃ cl cld csl, K.lookup cc = some ⟨cl, cld, .cell (some (.ref D)), csl⟩
  cls : ∃ cd, PySem.W.clsIn K D = some cd
  sub : PySem.W.mroIn K C (.ref D) = some true
  top : (P.main.scope.names.lookup ("super" : Str)).isSome = false
theorem sup_first {X : Cx} {pins : List (Addr × Obj)} {σ : L2.St} {H : Hp} {s : Shared} (I : L2.Inv X pins σ H s) {body : List Stmt} {p0 p1 p2 p3 p4 : Pos} {args : List Expr} {f cda cc D C a : Addr} {ox : Obj} {me : Str} {pl : Sem Bool} {Q : Flow → Shared → Prop}
    (hfn : X.env.func = some f) (hco : X.env.code = .ref cda) (hcl : X.env.cells.lookup ("__class__" : Str) = some cc) (SF : SupF X.K X.prog f cda cc D C me) (hsuper : X.mg "super" = none)
    (ks : X.env.kindOf "super" = some .globalImplicit) (kc : X.env.kindOf "__class__" = some .free) (ka : X.env.kindOf me = some .local) (hN : X.N[0]? = some me) (hσ : σ[0]? = some (some (.ref a)))
    (ho : s.heap.get? a = some ox) (hcls : ox.cls = .ref C) (hnc : ∀ c, ox.data ≠ .cls c)
    (h : ∀ so s2, L2.Inv X pins σ H s2 → s2.heap.get? so = some (PySem.W.ks_superObj D a C) → (∀ b o, s.heap.get? b = some o → s2.heap.get? b = some o) →
      wpAny (model X.prog X.w) X.A (getMethod (.ref so) "__init__" pl) (fun fx s3 => wpAny (model X.prog X.w) X.A (callWith p3 fx.1 fx.2 (backTo p3 (starEach args X.env)) []) (fun _ s4 => Q .next s4) X.xe s3) X.xe s2)
    (he : eval (.Call (.Attribute (.Call (.Name "super" p0) [] [] p1) "__init__" p2) args [] p3) X.env = (do
      let ov ← attributeBase (.Call (.Name "super" p0) [] [] p1) "__init__" X.env (eval (.Call (.Name "super" p0) [] [] p1) X.env)
      standAt p2.atName
      let (f, first) ← holding [ov] (getMethod ov "__init__" pl)
      callWith p3 f first (backTo p3 (starEach args X.env)) []) := by rfl) :
    _root_.PySem.wpAt (model X.prog X.w) X.A (.func body X.env) (exec (.Expr (.Call (.Attribute (.Call (.Name "super" p0) [] [] p1) "__init__" p2) args [] p3) p4) X.env) Q X.xe s := by
  obtain ⟨oc, od, osl, fd, ar, lk, hp, rfl⟩ := SF.fn
  obtain ⟨ccl, cdd, vs, ccs, file, tf, hcode, hvs, hfile⟩ := SF.code
  obtain ⟨cl, cld, csl, hcell⟩ := SF.cell
  obtain ⟨cdD, hD⟩ := SF.cls
  have KX := I.kIn
  obtain ⟨oD, hD1, hD2⟩ : ∃ oD, s.heap.get? D = some oD ∧ oD.data = .cls cdD := by
    unfold PySem.W.clsIn at hD
    split at hD
    · rename_i c d cd' sl ho'
      cases hD
      exact ⟨_, KX _ _ ho', rfl⟩
    · cases hD
  obtain ⟨mb, b1, b2⟩ := I.mod.blt
  obtain ⟨m, hn, hl⟩ := I.loc
  refine PySem.ks_wpAt_Expr_any (PySem.ks_wpAt_MethodCall ?_ he) I.quiet
  refine PySem.ks_wpAt_super_base ks kc (by decide) hfn (KX _ _ lk) rfl hp hco (KX _ _ hcode) rfl hvs hfile SF.top ?_
  refine PySem.W.ks_loadName_global I.ok.kind ks (Calls.loadGlobal_builtin (by rw [I.ok.glob]; exact I.mod.glob.keeps I.bk) hsuper (by rw [I.ok.blt]; exact b1.keeps I.bk) ((b2 _ (by decide)).trans (by first | rfl | kernel_rfl)) ⟨rfl, ?_⟩)
  refine wpAny_loadName_free I.ok.kind kc hcl ⟨_, KX _ _ hcell, rfl⟩ ?_
  obtain ⟨u, ru, lu⟩ := hl 0 _ _ hN hσ (.inl ka)
  have hu : m ar.arg = some (.ref a) := by
    rcases lu with ⟨_, e⟩ | ⟨e, _⟩
    · rw [e]
      exact congrArg some ru
    · rw [ka] at e
      rcases e with e | e <;> cases e
  refine wpAny_loadName_local I.ok.kind ka hn hu ?_
  refine PySem.ks_wpAny_isType_cls hD1 hD2 ⟨rfl, ?_⟩
  refine PySem.ks_wpAny_call_super hD1 hD2 ho hcls hnc (PySem.W.looks_mroIn KX SF.sub) (fun h' e kp => ?_)
  exact h _ _ (I.kept (t' := s.toks) kp) e kp
/-! ### .. to a def of the program -/
section
variable {X : Cx} {pins : List (Addr × Obj)} {σ : L2.St} {H : Hp} {s : Shared} {so a C D f2 : Addr} {ox : Obj} {odx : Option Obj} {pos : Pos} {e : Expr} {es : List Expr} {ta : TA} {pl : Sem Bool}
theorem sup_own {CX : CXT} {k : Nat} {sp : Sp} {E : XK} {Q : VK} {Q' : Shared → Prop} (I : L2.Inv X pins σ H s) (hso : s.heap.get? so = some (PySem.W.ks_superObj D a C)) (J : PySem.W.InstAt s.heap a ox C odx)
    (hm : PySem.W.ks_superIn X.K C D "__init__" = some (some (.ref f2))) (ht : PySem.W.typeIn X.K (.ref f2) = some (.type "function")) (hth : PySem.W.nsIn X.K PySem.cStatics "thirdparty.any" = some none) (hf : PySem.W.fnIn X.K f2 = true)
    (F : FnR X.prog X.w X.K X.mg X.base CX k f2 sp) (hr : Room k X.A) (hx : Passes CX X E) (ha : PA X (e :: es) ta) (h : ta σ H fun vs H1 => sp (.ref a :: vs) H1 Q E) (hQ : ∀ v s4, L2.EP X pins σ Q v s4 → Q' s4)
    (hst : starEach (e :: es) X.env = (false, eval e X.env) :: starEach es X.env := by rfl) (hpl : (backTo pos (starEach es X.env)).any (·.1) = false := by rfl) :
    wpAny (model X.prog X.w) X.A (getMethod (.ref so) "__init__" pl) (fun fx s3 => wpAny (model X.prog X.w) X.A (callWith pos fx.1 fx.2 (backTo pos (starEach (e :: es) X.env)) []) (fun _ s4 => Q' s4) X.xe s3) X.xe s := by
  have KX := I.kIn
  cases hc : PySem.W.clsIn X.K C with
  | none =>
    unfold PySem.W.ks_superIn at hm
    rw [hc] at hm
    cases hm
  | some cd =>
    unfold PySem.W.ks_superIn at hm
    rw [hc] at hm
    obtain ⟨of, hof, hofc⟩ : ∃ of, s.heap.get? f2 = some of ∧ of.cls = .type "function" := by
      have ht' : (X.K.lookup f2).map (·.cls) = some (.type "function") := ht
      cases z : X.K.lookup f2 with
      | none =>
        rw [z] at ht'
        cases ht'
      | some of =>
        rw [z] at ht'
        exact ⟨of, KX _ _ z, Option.some.inj ht'⟩
    have mro : PySem.W.Looks (model X.prog X.w) s.heap (mroOf (.ref C)) cd.mro := fun A Q E s k q => wpAny_bind ((PySem.W.looks_clsIn KX hc) A _ E s k (wpAny_pure q))
    refine PySem.ks_wpAny_getMethod_super hso (PySem.W.looks_opaque KX hth) mro rfl KX hm hof hofc (PySem.W.ks_ne KX J hc) (by decide) ?_
    have I2 := ClX.met_new (g := f2) (C := a) I
    have hb := ClX.base_none I (Nat.le_refl s.heap.objs.size)
    refine ClX.callwith_cm I2 hb hf (L2.thn (ha.run pos _ _ σ H _ I2 h) fun us s1 ⟨vs, H1, I1, r, q⟩ => ⟨⟨ClX.pin_at I1, I1.kIn⟩, L2.thn (ClX.run_cm F hr hx I1 r q) hQ⟩) hst hpl
end
/-! ### .. to ValueError.__init__ -/
section
open PySem.W PySem.Calls
variable {prog : Program} {w : World} {A : Around} {E : Value → Shared → Prop} {h : Heap} {g : Array GenState} {d : Drawn} {t : Nat} {os : OsState}
variable {nm q : Str} {C N : Addr} {bs bm : List Value} {hdct : Bool} {sn : List Str} {sub : List Value} {ab : Bool} {col : Option Bool} {dd : Option Addr} {k0 k1 k2 k3 k5 : Option Value}
theorem call_mw {u x t0 : Addr} {more : List Value} {Q : Value → Shared → Prop}
    (hC : h.get? C = some (excClassObj nm q C N bs bm hdct sn sub ab col dd k0 k1 k2 k3 k5 "ValueError.__new__")) (hx : h.get? x = some ({ cls := .ref C, dict := none, data := .fields #[.ref t0, .none, .none, .none, .bool false, .none] } : Obj)) (hu : h.get? u = some (kxs_mw "ValueError.__init__" x)) (hz : more.length ≤ sizeLine)
    (hq : ∀ h' t1, (∀ b o, b ≠ x → h.get? b = some o → h'.get? b = some o) → h'.get? x = some ({ cls := .ref C, dict := none, data := .fields #[.ref t1, .none, .none, .none, .bool false, .none] } : Obj) → Q .none ⟨h', g, d, t, os⟩) :
    wpAny (model prog w) A (call (.ref u) more) Q E ⟨h, g, d, t, os⟩ := by
  refine wpAny_call (codeAny_of_tree ?_)
  show wpAny (model prog w) A.in1 (callAny (.ref u) ⟨more, []⟩) _ _ _
  unfold callAny
  refine wpAny_bind (wpAny_load hu ?_)
  have two : (Value.type "method-wrapper" == Value.type "method" || Value.type "method-wrapper" == Value.type "builtin_function_or_method" || Value.type "method-wrapper" == Value.type "method-wrapper") = true := by decide
  simp only [kxs_mw, two, if_true]
  refine PySem.W.KFB.if_so (by decide) ?_
  refine wpAny_bind (check_bound_init PySem.F.excBase_ValueError.toExcCallFacts hC hx rfl ?_)
  refine wpAny_bind (wpAny_pure (wpAny_pure ?_))
  refine ⟨plainId_quiet PySem.F.excBase_ValueError.init.plain _, codeAny_builtin PySem.F.excBase_ValueError.initEntry ?_⟩
  exact exc_init_tree (cls := .ref C) (t0 := t0) (dv := none) (c2 := .none) (c3 := .none) (b4 := .bool false) hx hz fun h' k' e' _ => hq h' _ k' e'
end
section
variable {X : Cx} {pins : List (Addr × Obj)} {σ : L2.St} {H : Hp} {s : Shared} {so a C D : Addr} {pos : Pos} {e : Expr} {es : List Expr} {ta : TA} {pl : Sem Bool}
theorem sup_ve {R : Hp → Prop} {Q' : Shared → Prop} (I : L2.Inv X pins σ H s) (hso : s.heap.get? so = some (PySem.W.ks_superObj D a C)) (T : OexC X.K C) (ea : H a = some (exo a C none))
    (hm : PySem.W.ks_superIn X.K C D "__init__" = some (some (.builtin "ValueError.__init__"))) (hB : PySem.W.subIn X.K (.ref C) (.type "ValueError") = some true) (hth : PySem.W.nsIn X.K PySem.cStatics "thirdparty.any" = some none)
    (ha : PA X (e :: es) ta) (h : ta σ H fun vs H1 => vs.length ≤ 1000 ∧ H1 a = some (exo a C none) ∧ R H1) (hQ : ∀ s4 H', L2.Inv X pins σ H' s4 → R H' → Q' s4)
    (hst : starEach (e :: es) X.env = (false, eval e X.env) :: starEach es X.env := by rfl) (hpl : (backTo pos (starEach es X.env)).any (·.1) = false := by rfl) :
    wpAny (model X.prog X.w) X.A (getMethod (.ref so) "__init__" pl) (fun fx s3 => wpAny (model X.prog X.w) X.A (callWith pos fx.1 fx.2 (backTo pos (starEach (e :: es) X.env)) []) (fun _ s4 => Q' s4) X.xe s3) X.xe s := by
  have KX := I.kIn
  obtain ⟨t1, hob⟩ := exo_at I.hok ea
  have J : PySem.W.InstAt s.heap a _ C none := ⟨hob, rfl, rfl, trivial⟩
  cases hc : PySem.W.clsIn X.K C with
  | none =>
    unfold PySem.W.ks_superIn at hm
    rw [hc] at hm
    cases hm
  | some cd =>
    unfold PySem.W.ks_superIn at hm
    rw [hc] at hm
    have mro : PySem.W.Looks (model X.prog X.w) s.heap (mroOf (.ref C)) cd.mro := fun A Q E s k q => wpAny_bind ((PySem.W.looks_clsIn KX hc) A _ E s k (wpAny_pure q))
    refine PySem.W.kxs_getMethod PySem.W.kxs_ValueError hso (PySem.W.looks_opaque KX hth) mro rfl KX hm (J.type.andThen (PySem.W.looks_subIn KX hB)) (PySem.W.ks_ne KX J hc) (by decide) ?_
    have I2 : L2.Inv X ((s.heap.objs.size, PySem.W.kxs_mw "ValueError.__init__" a) :: pins) σ H { s with heap := s.heap.push (PySem.W.kxs_mw "ValueError.__init__" a), toks := s.toks + 1 } :=
      ClX.pin_new I (fun _ _ z => Heap.get?_push_of_some _ z) (Nat.le_refl _) (Heap.get?_push_size s.heap rfl) (fun v z => nomatch z)
    rw [hst]
    refine PySem.W.kxs_callWith (i := "ValueError.__init__") (x := a) (by show (false || (backTo pos (starEach es X.env)).any (·.1)) = false; rw [hpl]; rfl) ?_
    have hrun := ha.run pos _ _ σ H _ I2 h
    rw [hst] at hrun
    refine PySem.Calls.evalArgs_plain (L2.thn hrun fun us s1 ⟨vs, H1, I1, r, hz, e1, q⟩ => ⟨ClX.pin_at I1, ?_⟩)
    obtain ⟨nm, qq, N, bs, bm, sn, sub, ab, col, dd, k0, k1, k2, k3, k5, hC, hbm⟩ := T.cls
    obtain ⟨t2, ho2⟩ := exo_at I1.hok e1
    have hu := ClX.pin_at I1
    have hus : us.length ≤ sizeLine := by
      rw [← Paired.length r, sizeLine_eq]
      omega
    obtain ⟨hh, g, dr, tk, os⟩ := s1
    refine call_mw (I1.kIn _ _ hC) ho2 hu hus fun h' t3 kp e3 => ?_
    have J1 := (ClX.unpin I1).write (t' := tk) (x := a) (e := a) (o := exo a C none) (by rw [e1]; exact True.intro) (.inl rfl) kp ⟨_, e3⟩ (exo_ok e3)
    have eu : upd H1 a (exo a C none) = H1 := by
      funext b
      by_cases hb : b = a
      · rw [hb, upd_same, e1]
      · rw [upd_ne hb]
    rw [eu] at J1
    exact hQ _ _ J1 q
end
/-! ### the error classes -/
/-- behind the making: the exception's dict -/
def h3 (H : Hp) (a C dx : Addr) (p : Int) (n : Str) : Hp := upd (upd (upd H dx (exd dx [("place", .int p)])) a (exo a C (some dx))) dx (exd dx [("name", .str n), ("place", .int p)])
/-- what the written part says of an error class C below the base class -/
structure KErr (K : PySem.W.Frag) (P : Program) (fK cdaK ccK DK C : Addr) : Prop where
  oex : OexC K C
  sf : SupF K P fK cdaK ccK DK C "self"
  up : PySem.W.ks_superIn K C DK "__init__" = some (some (.builtin "ValueError.__init__"))
  ve : PySem.W.subIn K (.ref C) (.type "ValueError") = some true
  np : PySem.W.findIn K (.ref C) "place" = some none
  nn : PySem.W.findIn K (.ref C) "name" = some none
def SpI (K : PySem.W.Frag) (P : Program) (fK cdaK ccK DK : Addr) : Sp := fun vs H Q _ => ∃ a C p n, vs = [.ref a, .int p, .str n] ∧ KErr K P fK cdaK ccK DK C ∧ H a = some (exo a C none) ∧ ∀ dx, H dx = none → dx ≠ a → Q .non (h3 H a C dx p n)
section
variable {CX : CXT} {P : Program} {w : World} {K : PySem.W.Frag} {mg : Str → Option Value} {base : Heap} {f cc cda D : Addr} {name qual : Str} {params : Arguments} {body rest : List Stmt} {scope : Scope} {dV kV doc pm ct oc cl : Value} {an od cld : Option Addr} {osl csl : Array (Option Value)} {x1 : Str} {p0 p1 p2 p3 p4 q0 q1 q2 q3 q4 q5 q6 q7 q8 : Pos} {pl : Sem Bool}
theorem ok_kinit (lk : K.lookup f = some ⟨oc, od, .func (PySem.W.ksFn name qual params body scope dV kV doc pm an (.ref cda) ct cc), osl⟩) (hcd : PySem.W.codeIn K (.ref cda) qual = true)
    (hcc : K.lookup cc = some ⟨cl, cld, .cell (some (.ref D)), csl⟩) (S : NScope ["self", "place", "name", "__class__"] ["self", "place", "name"] ["__class__"] scope) (hsup : scope.names.lookup ("super" : Str) = some NameKind.globalImplicit) (hs : mg "super" = none) (hth : PySem.W.nsIn K PySem.cStatics "thirdparty.any" = some none)
    (hb : body = .Expr (.Call (.Attribute (.Call (.Name "super" p0) [] [] p1) "__init__" p2) [.Name "place" q0] [] p3) p4 :: [.Assign [.Attribute (.Name "self" q1) "place" q2] (.Name "place" q3) q4, .Assign [.Attribute (.Name "self" q5) "name" q6] (.Name "name" q7) q8])
    (he : ∀ env : Env, eval (.Call (.Attribute (.Call (.Name "super" p0) [] [] p1) "__init__" p2) [.Name "place" q0] [] p3) env = (do
      let ov ← attributeBase (.Call (.Name "super" p0) [] [] p1) "__init__" env (eval (.Call (.Name "super" p0) [] [] p1) env)
      standAt p2.atName
      let (f, first) ← holding [ov] (getMethod ov "__init__" pl)
      callWith p3 f first (backTo p3 (starEach [.Name "place" q0] env)) [])) :
    FnOk P w K mg base CX 1 f (PySem.W.ksFn name qual params body scope dV kV doc pm an (.ref cda) ct cc) ["self", "place", "name"] (SpI K P f cda cc D) := by
  subst hb
  refine fn_sup lk hcd hcc S (fun vs H Q E h => by obtain ⟨a, C, p, n, rfl, _⟩ := h; rfl) fun A outer s s1 H vs Q E hr hsp I => ?_
  obtain ⟨a, C, p, n, rfl, ke, ea, hq⟩ := hsp
  refine PySem.ks_wpAt_execs_cons ?_
  obtain ⟨t1, hob⟩ := exo_at I.hok ea
  refine sup_first I rfl rfl rfl ke.sf hs hsup (S.frk _ (by simp)) (S.par _ (by simp)) rfl rfl hob rfl (fun c z => nomatch z) (fun so s2 I2 hso kp => ?_) (he _)
  refine sup_ve (R := fun H' => H' = H) I2 hso ke.oex ea ke.up ke.ve hth (pa_cons (pv 1 rfl (.inl (S.par _ (by simp)))) pa_nil) ⟨_, rfl, (by show 1 ≤ 1000; decide), ea, rfl⟩ fun s4 H4 I4 e4 => ?_
  subst e4
  refine PySem.wpAt_of_wpAny ?_
  refine (pss_cons (ps_ost (pv 0 rfl (.inl (S.par _ (by simp)))) (pv 1 rfl (.inl (S.par _ (by simp))))) (pss_one (ps_ost (pv 0 rfl (.inl (S.par _ (by simp)))) (pv 2 rfl (.inl (S.par _ (by simp))))))).run [] s4 _ _ _ I4 ?_
  refine ⟨_, rfl, _, rfl, a, C, rfl, ke.oex, ke.np, .inl ⟨ea, fun dx hd hne => ?_⟩⟩
  refine ⟨_, rfl, _, rfl, a, C, rfl, ke.oex, ke.nn, .inr ⟨dx, [("place", .int p)], upd_same, ?_, (by show 1 ≤ 900; decide), hq dx hd hne⟩⟩
  rw [upd_ne hne, upd_same]
end
/-- the __init__ of an error class: super().__init__(place, its name) -/
def SpE (C : Addr) (n : Str) : Sp := fun vs H Q _ => ∃ a p, vs = [.ref a, .int p] ∧ H a = some (exo a C none) ∧ ∀ dx, H dx = none → dx ≠ a → Q .non (h3 H a C dx p n)
section
variable {P : Program} {w : World} {K : PySem.W.Frag} {mg : Str → Option Value} {base : Heap} {f cc cda C fK cdaK ccK DK : Addr} {name qual : Str} {params : Arguments} {body rest : List Stmt} {scope : Scope} {dV kV doc pm ct oc cl : Value} {an od cld : Option Addr} {osl csl : Array (Option Value)} {p0 p1 p2 p3 p4 q0 q1 q2 q3 : Pos} {pl : Sem Bool} {n : Str} {kd : Nat} {fd : FuncData}
theorem ok_tinit (lk : K.lookup f = some ⟨oc, od, .func (PySem.W.ksFn name qual params body scope dV kV doc pm an (.ref cda) ct cc), osl⟩) (hcd : PySem.W.codeIn K (.ref cda) qual = true)
    (hcc : K.lookup cc = some ⟨cl, cld, .cell (some (.ref C)), csl⟩) (S : NScope ["self", "place", "__class__"] ["self", "place"] ["__class__"] scope) (hsup : scope.names.lookup ("super" : Str) = some NameKind.globalImplicit) (hs : mg "super" = none) (hth : PySem.W.nsIn K PySem.cStatics "thirdparty.any" = some none)
    (sf : SupF K P f cda cc C C "self") (ke : KErr K P fK cdaK ccK DK C) (hm : PySem.W.ks_superIn K C C "__init__" = some (some (.ref fK))) (ht : PySem.W.typeIn K (.ref fK) = some (.type "function")) (hf : PySem.W.fnIn K fK = true)
    (FK : FnOk P w K mg base CX0 1 fK fd ["self", "place", "name"] (SpI K P fK cdaK ccK DK)) (bK : Binds K fd ["self", "place", "name"] [])
    (hb : body = .Expr (.Call (.Attribute (.Call (.Name "super" p0) [] [] p1) "__init__" p2) [.Name "place" q0, .Constant (.str n) kd q1] [] p3) p4 :: [])
    (he : ∀ env : Env, eval (.Call (.Attribute (.Call (.Name "super" p0) [] [] p1) "__init__" p2) [.Name "place" q0, .Constant (.str n) kd q1] [] p3) env = (do
      let ov ← attributeBase (.Call (.Name "super" p0) [] [] p1) "__init__" env (eval (.Call (.Name "super" p0) [] [] p1) env)
      standAt p2.atName
      let (f, first) ← holding [ov] (getMethod ov "__init__" pl)
      callWith p3 f first (backTo p3 (starEach [.Name "place" q0, .Constant (.str n) kd q1] env)) [])) :
    FnOk P w K mg base CX0 2 f (PySem.W.ksFn name qual params body scope dV kV doc pm an (.ref cda) ct cc) ["self", "place"] (SpE C n) := by
  subst hb
  refine fn_sup lk hcd hcc S (fun vs H Q E h => by obtain ⟨a, p, rfl, _⟩ := h; rfl) fun A outer s s1 H vs Q E hr hsp I => ?_
  obtain ⟨a, p, rfl, ea, hq⟩ := hsp
  refine PySem.ks_wpAt_execs_cons ?_
  obtain ⟨t1, hob⟩ := exo_at I.hok ea
  refine sup_first I rfl rfl rfl sf hs hsup (S.frk _ (by simp)) (S.par _ (by simp)) rfl rfl hob rfl (fun c z => nomatch z) (fun so s2 I2 hso kp => ?_) (he _)
  obtain ⟨t2, hob2⟩ := exo_at I2.hok ea
  have J : PySem.W.InstAt s2.heap a _ C none := ⟨hob2, rfl, rfl, trivial⟩
  refine sup_own (k := 1) (E := E0) (Q := fun v H' => Q .non H') I2 hso J hm ht hth hf (FK.raw bK .nil) hr pass0 (pa_cons (pv 1 rfl (.inl (S.par _ (by simp)))) (pa_cons pe_str pa_nil)) ⟨_, rfl, ⟨a, C, p, n, rfl, ke, ea, hq⟩⟩ fun v s4 h4 => ?_
  obtain ⟨v', H', I4, _, q⟩ := h4
  exact PySem.wpAt_of_wpAny ((pss_nil (X := ncx CX0 P w K mg base ["self", "place", "__class__"] ⟨name, qual, params, _, scope, [("__class__", cc)], cda⟩ f A outer s H E)).run [] s4 _ _ _ I4 q)
end
end Kr

/-! KrY: raising, defs that may raise. -/
namespace Kr
open PySem PySem.Spec PyProof.Rows L2
open Enc (toD)
section
variable {cf : Cf} {E : XK} {G : List Sl} {S ρ : Type} [Enc ρ] {te : TE} {u : TS} {enc : S → List Sl}
/-- raise X(e) -/
def tRs (cf : Cf) (c : Nat) (E : XK) (te : TE) : TS := fun _ σ H => tMkO (cf.cls c) (SpE (cf.cls c) (cf.nm c)) [] (tCons te tNil) σ H fun cls d H' => E cls d H'
theorem rs_heap {H : Hp} {a C dx : Addr} {p : Int} {n : Str} (ha : H a = none) : upd (del (h3 (upd H a (exo a C none)) a C dx p n) a) dx (.xd [("name", .str n), ("place", .int p)]) = upd H dx (.xd [("name", .str n), ("place", .int p)]) := by
  funext b
  by_cases hb : b = dx
  · rw [hb, upd_same, upd_same]
  · rw [upd_ne hb, upd_ne hb]
    by_cases hba : b = a
    · rw [hba, del_same, ha]
    · rw [del_ne hba]
      unfold h3
      rw [upd_ne hb, upd_ne hba, upd_ne hb, upd_ne hba]
theorem rs_at {m : R Int} {c : Nat} (h : EM cf E te G m) (F O H : Hp) (σ : L2.St) (hf : Fm F O H) (he : Er cf.K F O σ G) (nb : m ≠ .bad) (ke : ∀ c' p d F' H', (m.bind fun p => (.er c p : R Int)) = .er c' p → Le F F' → Fm F' O H' → F' d = some (xdO cf c' p) → E (.ref (cf.cls c')) (some d) H') (D : Ends) : tRs cf c E te D σ H := by
  refine h F O H σ _ hf he nb (fun p v F' H' e le hf' hr => ?_) (fun c' p d F' H' e le hf' hd => ke c' p d F' H' (by rw [e]; rfl) le hf' hd)
  obtain rfl : v = .int p := dr_int hr
  refine ⟨by show 1 ≤ 1000; decide, fun a ha => ⟨a, p, rfl, upd_same, fun dx hd hne => ⟨rfl, dx, [("name", .str (cf.nm c)), ("place", .int p)], ?_, upd_same, ?_, ?_⟩⟩⟩
  · unfold h3
    rw [upd_ne (Ne.symm hne), upd_same]
  · rw [upd_ne hne] at hd
    exact hd
  · rw [upd_ne hne] at hd
    rw [rs_heap ha]
    exact ke c p dx (upd F' dx (xdO cf c p)) _ (by rw [e]; rfl) (le.trans (Le.new (hf'.fnone hd))) (hf'.newF hd) upd_same
theorem sb_raise {m : R Int} {c : Nat} (h : EM cf E te G m) : SB cf E (tRs cf c E te) G enc (m.bind fun p => (.er c p : R (Fl S ρ))) := fun F O H σ D hM nb kn kb kr ke => by
  obtain ⟨O', lo, hf, he, o1, o2⟩ := hM
  refine rs_at h F O' H σ hf he (R.bind_nb nb) (fun c' p d F' H' e le hf' hd => ke c' p d F' H' ?_ le (hf'.weak lo) hd) D
  cases m with
  | ok a => cases e; rfl
  | er c2 p2 => cases e; rfl
  | bad => cases e
theorem sb_raise2 {m : R Int} {c : Nat} (h : EM cf E te G m) : SB cf E (tSeq (tRs cf c E te) u) G enc (m.bind fun p => (.er c p : R (Fl S ρ))) := fun F O H σ D hM nb kn kb kr ke => sb_raise (enc := enc) h F O H σ { D with nx := u D } hM nb (fun s F' H' σ' e => by
    cases m <;> cases e) (fun s F' H' σ' e => by
    cases m <;> cases e) (fun r v F' H' e => by
    cases m <;> cases e) ke
end
/-- the term: raise X(e) -/
theorem ps_rs {X : Cx} {P : Program} {cf : Cf} {c : Nat} {E : XK} {x : Str} {fI : Addr} {fd : FuncData} {e : Expr} {te : TE} {p pos pos' : Pos} (hP : X.prog = P) (hK : X.K = cf.K) (hc : X.calm = true) (tk : Takes X (fun cls d σ H => E cls d H)) (T : OexC X.K (cf.cls c))
    (iC : PySem.W.findIn X.K (.ref (cf.cls c)) "__init__" = some (some (.ref fI))) (tI : PySem.W.typeIn X.K (.ref fI) = some (.type "function")) (F1 : FnOk X.prog X.w X.K X.mg X.base CX0 2 fI fd ["self", "place"] (SpE (cf.cls c) (cf.nm c)))
    (hr : Room 3 X.A) (hb : Binds X.K fd ["self", "place"] []) (hg : Gl X x) (hm : X.mg x = some (.ref (cf.cls c))) (ha : PE X e te) (hdb : (x == ("__debug__" : Str)) = false := by decide)
    (he : starEach [e] X.env = (false, eval e X.env) :: starEach [] X.env := by rfl) : PS X (.Raise (some (.Call (.Name x p) [e] [] pos)) none pos') (tRs cf c E te) :=
  ps_raise hc tk (pmk_oex T iC tI F1 hr hb .nil pass0 hg hm (pa_cons ha pa_nil (hs := he)) hdb he rfl)

/-- called with values of the data ds, it returns or raises what the relation says -/
def SpX (cf : Cf) (n : Nat) (spec : List Dt → R Dt → Prop) : Sp := fun vs H Q E => vs.length = n ∧ ∃ (F O : Hp) (ds : List Dt) (r : R Dt), Fm F O H ∧ DrA cf.K F vs ds ∧ spec ds r ∧ r ≠ .bad ∧
  (∀ d v F' H', r = .ok d → Le F F' → Fm F' O H' → Dr cf.K F' v d → Q v H') ∧ (∀ c p d F' H', r = .er c p → Le F F' → Fm F' O H' → F' d = some (xdO cf c p) → E (.ref (cf.cls c)) (some d) H')
theorem SpX.len {cf : Cf} {n : Nat} {spec : List Dt → R Dt → Prop} {ps : List Str} (h : ps.length = n := by rfl) : ∀ vs H Q E, SpX cf n spec vs H Q E → vs.length = ps.length := fun vs H Q E q => by rw [h]; exact q.1
theorem map_nb {α β : Type} {f : α → β} {m : R α} (h : m ≠ .bad) : m.map f ≠ .bad := by
  cases m with
  | ok a => exact fun z => nomatch z
  | er c p => exact fun z => nomatch z
  | bad => exact absurd rfl h
theorem map_okd {α β : Type} {f : α → β} {m : R α} {b : β} (h : m.map f = .ok b) : ∃ a, m = .ok a ∧ f a = b := by
  cases m with
  | ok a => exact ⟨a, rfl, R.ok.inj h⟩
  | er c p => cases h
  | bad => cases h
theorem map_erd {α β : Type} {f : α → β} {m : R α} {c : Nat} {p : Int} (h : m.map f = .er c p) : m = .er c p := by
  cases m with
  | ok a => cases h
  | er c p => cases h; rfl
  | bad => cases h
theorem run_ofX {cf : Cf} {E : XK} {S ρ : Type} [Enc ρ] {t : TS} {N : List Str} {vs : List V} {H : Hp} {Q : VK} {n : Nat} {spec : List Dt → R Dt → Prop} {enc : S → List Sl} (h : SpX cf n spec vs H Q E)
    (hb : ∀ ds r, spec ds r → r ≠ .bad → ∃ m : R (Fl S ρ), SB cf E t (ds.map Sl.va ++ List.replicate (N.length - ds.length) .un) enc m ∧ r = (finR m).map toD) : t { nx := fun _ H' => Q .non H', rt := Q } (L2.start N vs) H := by
  obtain ⟨_, F, O, ds, r, hf, hr, hs, nb, ko, ke⟩ := h
  obtain ⟨m, hm, er⟩ := hb ds r hs nb
  subst er
  refine hm F O H _ _ (mt_start hf hr) (fun z => ?_) (fun s F' H' σ' e => ?_) (fun s F' H' σ' e => ?_) (fun r' v F' H' e le hf' hr' => ?_) (fun c p d F' H' e le hf' hd => ?_)
  · rw [z] at nb
    exact nb rfl
  · rw [e] at nb
    exact absurd rfl nb
  · rw [e] at nb
    exact absurd rfl nb
  · exact ko (toD r') v F' H' (by rw [e]; rfl) le hf' hr'
  · exact ke c p d F' H' (by rw [e]; rfl) le hf' hd

section
variable {α τ : Type} [Enc α] [Enc τ]
theorem em_callX1 {cf : Cf} {E : XK} {G : List Sl} {t0 : TE} {m0 : R α} {g : α → R τ} (h0 : EM cf E t0 G m0) : EM cf E (tCall (SpX cf 1 (sp1 g)) [] E (tCons t0 tNil)) G (m0.bind fun a => g a) := fun F O H σ Q hf he nb ko ke => by
  have le0 : Le F F := Le.refl F
  refine h0 F O H σ _ hf (he.mono le0) (R.bind_nb nb) (fun a v0 F1 H1 e0 l0 hf1 r0 => ?_) (fun c' p d' F' H' e' le hf' hd => ke c' p d' F' H' (by rw [e']; rfl) (le0.trans le) hf' hd)
  rw [e0, R.ok_bind] at nb ko ke
  have le1 := le0.trans l0
  exact ⟨rfl, F1, O, _, (g a).map toD, hf1, (.cons r0 .nil), ⟨a, rfl, rfl⟩, map_nb nb, fun d' v F' H' e' le hf' hr => by
    obtain ⟨y, ey, ed⟩ := map_okd e'
    subst ed
    exact ko y v F' H' ey (le1.trans le) hf' hr, fun c' p d' F' H' e' le hf' hd => ke c' p d' F' H' (map_erd e') (le1.trans le) hf' hd⟩
theorem em_callP1 {cf : Cf} {E : XK} {G : List Sl} {t0 : TE} {m0 : R α} {g : α → R τ} (h0 : EM cf E t0 G m0) : EM cf E (tCall (SpX cf 1 (sp1 g)) [] E0 (tCons t0 tNil)) G (m0.bind fun a => (g a).pu) := fun F O H σ Q hf he nb ko ke => by
  have le0 : Le F F := Le.refl F
  refine h0 F O H σ _ hf (he.mono le0) (R.bind_nb nb) (fun a v0 F1 H1 e0 l0 hf1 r0 => ?_) (fun c' p d' F' H' e' le hf' hd => ke c' p d' F' H' (by rw [e']; rfl) (le0.trans le) hf' hd)
  rw [e0, R.ok_bind] at nb ko ke
  have le1 := le0.trans l0
  obtain ⟨y, ey⟩ := pu_nb nb
  exact ⟨rfl, F1, O, _, .ok (toD y), hf1, (.cons r0 .nil), ⟨a, rfl, by rw [ey]; rfl⟩, fun z => (nomatch z), fun d' v F' H' e' le hf' hr => by
    cases e'
    exact ko y v F' H' (by rw [ey]; rfl) (le1.trans le) hf' hr, fun _ _ _ _ _ z => (nomatch z)⟩
theorem fnX1 {P : Program} {w : World} {cf : Cf} {mg : Str → Option Value} {base : Heap} {x qual : Str} {st : Stmt} {f0 : Addr} {fd : FuncData} {N ps : List Str} {k : Nat} {S : Type} {enc : S → List Sl} (F : Fun cf.K x qual st f0 fd) (sc : FnScope N ps (defScope st)) (hp : ps.length = 1) (g : α → R (Fl S τ))
    (G0 : α → List Sl) (hG : ∀ a, [.va (toD a)] ++ List.replicate (N.length - 1) .un = G0 a)
    (h : ∀ (cdv : Value) (A : Around) (outer : List Env) (s : Shared) (H : Hp) (E : XK), Room k (A.deeper (envOfC qual (defScope st) s.heap.objs.size f0 cdv)) →
      ∃ t, PSs (cxOf (L2.CX P w) P w cf.K mg base N qual (defScope st) f0 cdv A outer s H E) (defBody st) t ∧ ∀ a, SB cf E t (G0 a) enc (g a)) :
    FnOk P w cf.K mg base (L2.CX P w) (k + 1) f0 fd ps (SpX cf 1 (sp1 fun a => finR (g a))) := by
  refine F.okX sc (SpX.len hp) (fun cdv A outer s H vs Q E hr hq => ?_)
  obtain ⟨t, ht, hb⟩ := h cdv A outer s H E hr
  refine ⟨t, ht, run_ofX (ρ := τ) (S := S) (enc := enc) hq fun ds r hs nb => ?_⟩
  obtain ⟨a, rfl, er⟩ := hs
  exact ⟨g a, by have q := hb a; rw [← hG] at q; exact q, er⟩
end

section
variable {α β τ : Type} [Enc α] [Enc β] [Enc τ]
theorem em_callX2 {cf : Cf} {E : XK} {G : List Sl} {t0 t1 : TE} {m0 : R α} {m1 : R β} {g : α → β → R τ} (h0 : EM cf E t0 G m0) (h1 : EM cf E t1 G m1) : EM cf E (tCall (SpX cf 2 (sp2 g)) [] E (tCons t0 (tCons t1 tNil))) G (m0.bind fun a => m1.bind fun b => g a b) := fun F O H σ Q hf he nb ko ke => by
  have le0 : Le F F := Le.refl F
  refine h0 F O H σ _ hf (he.mono le0) (R.bind_nb nb) (fun a v0 F1 H1 e0 l0 hf1 r0 => ?_) (fun c' p d' F' H' e' le hf' hd => ke c' p d' F' H' (by rw [e']; rfl) (le0.trans le) hf' hd)
  rw [e0, R.ok_bind] at nb ko ke
  have le1 := le0.trans l0
  refine h1 F1 O H1 σ _ hf1 (he.mono le1) (R.bind_nb nb) (fun b v1 F2 H2 e1 l1 hf2 r1 => ?_) (fun c' p d' F' H' e' le hf' hd => ke c' p d' F' H' (by rw [e']; rfl) (le1.trans le) hf' hd)
  rw [e1, R.ok_bind] at nb ko ke
  have le2 := le1.trans l1
  exact ⟨rfl, F2, O, _, (g a b).map toD, hf2, (.cons (Dr.mono l1 r0) (.cons r1 .nil)), ⟨a, b, rfl, rfl⟩, map_nb nb, fun d' v F' H' e' le hf' hr => by
    obtain ⟨y, ey, ed⟩ := map_okd e'
    subst ed
    exact ko y v F' H' ey (le2.trans le) hf' hr, fun c' p d' F' H' e' le hf' hd => ke c' p d' F' H' (map_erd e') (le2.trans le) hf' hd⟩
theorem em_callP2 {cf : Cf} {E : XK} {G : List Sl} {t0 t1 : TE} {m0 : R α} {m1 : R β} {g : α → β → R τ} (h0 : EM cf E t0 G m0) (h1 : EM cf E t1 G m1) : EM cf E (tCall (SpX cf 2 (sp2 g)) [] E0 (tCons t0 (tCons t1 tNil))) G (m0.bind fun a => m1.bind fun b => (g a b).pu) := fun F O H σ Q hf he nb ko ke => by
  have le0 : Le F F := Le.refl F
  refine h0 F O H σ _ hf (he.mono le0) (R.bind_nb nb) (fun a v0 F1 H1 e0 l0 hf1 r0 => ?_) (fun c' p d' F' H' e' le hf' hd => ke c' p d' F' H' (by rw [e']; rfl) (le0.trans le) hf' hd)
  rw [e0, R.ok_bind] at nb ko ke
  have le1 := le0.trans l0
  refine h1 F1 O H1 σ _ hf1 (he.mono le1) (R.bind_nb nb) (fun b v1 F2 H2 e1 l1 hf2 r1 => ?_) (fun c' p d' F' H' e' le hf' hd => ke c' p d' F' H' (by rw [e']; rfl) (le1.trans le) hf' hd)
  rw [e1, R.ok_bind] at nb ko ke
  have le2 := le1.trans l1
  obtain ⟨y, ey⟩ := pu_nb nb
  exact ⟨rfl, F2, O, _, .ok (toD y), hf2, (.cons (Dr.mono l1 r0) (.cons r1 .nil)), ⟨a, b, rfl, by rw [ey]; rfl⟩, fun z => (nomatch z), fun d' v F' H' e' le hf' hr => by
    cases e'
    exact ko y v F' H' (by rw [ey]; rfl) (le2.trans le) hf' hr, fun _ _ _ _ _ z => (nomatch z)⟩
theorem fnX2 {P : Program} {w : World} {cf : Cf} {mg : Str → Option Value} {base : Heap} {x qual : Str} {st : Stmt} {f0 : Addr} {fd : FuncData} {N ps : List Str} {k : Nat} {S : Type} {enc : S → List Sl} (F : Fun cf.K x qual st f0 fd) (sc : FnScope N ps (defScope st)) (hp : ps.length = 2) (g : α → β → R (Fl S τ))
    (G0 : α → β → List Sl) (hG : ∀ a b, [.va (toD a), .va (toD b)] ++ List.replicate (N.length - 2) .un = G0 a b)
    (h : ∀ (cdv : Value) (A : Around) (outer : List Env) (s : Shared) (H : Hp) (E : XK), Room k (A.deeper (envOfC qual (defScope st) s.heap.objs.size f0 cdv)) →
      ∃ t, PSs (cxOf (L2.CX P w) P w cf.K mg base N qual (defScope st) f0 cdv A outer s H E) (defBody st) t ∧ ∀ a b, SB cf E t (G0 a b) enc (g a b)) :
    FnOk P w cf.K mg base (L2.CX P w) (k + 1) f0 fd ps (SpX cf 2 (sp2 fun a b => finR (g a b))) := by
  refine F.okX sc (SpX.len hp) (fun cdv A outer s H vs Q E hr hq => ?_)
  obtain ⟨t, ht, hb⟩ := h cdv A outer s H E hr
  refine ⟨t, ht, run_ofX (ρ := τ) (S := S) (enc := enc) hq fun ds r hs nb => ?_⟩
  obtain ⟨a, b, rfl, er⟩ := hs
  exact ⟨g a b, by have q := hb a b; rw [← hG] at q; exact q, er⟩
end

section
variable {α β γ τ : Type} [Enc α] [Enc β] [Enc γ] [Enc τ]
theorem em_callX3 {cf : Cf} {E : XK} {G : List Sl} {t0 t1 t2 : TE} {m0 : R α} {m1 : R β} {m2 : R γ} {g : α → β → γ → R τ} (h0 : EM cf E t0 G m0) (h1 : EM cf E t1 G m1) (h2 : EM cf E t2 G m2) : EM cf E (tCall (SpX cf 3 (sp3 g)) [] E (tCons t0 (tCons t1 (tCons t2 tNil)))) G (m0.bind fun a => m1.bind fun b => m2.bind fun c => g a b c) := fun F O H σ Q hf he nb ko ke => by
  have le0 : Le F F := Le.refl F
  refine h0 F O H σ _ hf (he.mono le0) (R.bind_nb nb) (fun a v0 F1 H1 e0 l0 hf1 r0 => ?_) (fun c' p d' F' H' e' le hf' hd => ke c' p d' F' H' (by rw [e']; rfl) (le0.trans le) hf' hd)
  rw [e0, R.ok_bind] at nb ko ke
  have le1 := le0.trans l0
  refine h1 F1 O H1 σ _ hf1 (he.mono le1) (R.bind_nb nb) (fun b v1 F2 H2 e1 l1 hf2 r1 => ?_) (fun c' p d' F' H' e' le hf' hd => ke c' p d' F' H' (by rw [e']; rfl) (le1.trans le) hf' hd)
  rw [e1, R.ok_bind] at nb ko ke
  have le2 := le1.trans l1
  refine h2 F2 O H2 σ _ hf2 (he.mono le2) (R.bind_nb nb) (fun c v2 F3 H3 e2 l2 hf3 r2 => ?_) (fun c' p d' F' H' e' le hf' hd => ke c' p d' F' H' (by rw [e']; rfl) (le2.trans le) hf' hd)
  rw [e2, R.ok_bind] at nb ko ke
  have le3 := le2.trans l2
  exact ⟨rfl, F3, O, _, (g a b c).map toD, hf3, (.cons (Dr.mono l2 (Dr.mono l1 r0)) (.cons (Dr.mono l2 r1) (.cons r2 .nil))), ⟨a, b, c, rfl, rfl⟩, map_nb nb, fun d' v F' H' e' le hf' hr => by
    obtain ⟨y, ey, ed⟩ := map_okd e'
    subst ed
    exact ko y v F' H' ey (le3.trans le) hf' hr, fun c' p d' F' H' e' le hf' hd => ke c' p d' F' H' (map_erd e') (le3.trans le) hf' hd⟩
theorem em_callP3 {cf : Cf} {E : XK} {G : List Sl} {t0 t1 t2 : TE} {m0 : R α} {m1 : R β} {m2 : R γ} {g : α → β → γ → R τ} (h0 : EM cf E t0 G m0) (h1 : EM cf E t1 G m1) (h2 : EM cf E t2 G m2) : EM cf E (tCall (SpX cf 3 (sp3 g)) [] E0 (tCons t0 (tCons t1 (tCons t2 tNil)))) G (m0.bind fun a => m1.bind fun b => m2.bind fun c => (g a b c).pu) := fun F O H σ Q hf he nb ko ke => by
  have le0 : Le F F := Le.refl F
  refine h0 F O H σ _ hf (he.mono le0) (R.bind_nb nb) (fun a v0 F1 H1 e0 l0 hf1 r0 => ?_) (fun c' p d' F' H' e' le hf' hd => ke c' p d' F' H' (by rw [e']; rfl) (le0.trans le) hf' hd)
  rw [e0, R.ok_bind] at nb ko ke
  have le1 := le0.trans l0
  refine h1 F1 O H1 σ _ hf1 (he.mono le1) (R.bind_nb nb) (fun b v1 F2 H2 e1 l1 hf2 r1 => ?_) (fun c' p d' F' H' e' le hf' hd => ke c' p d' F' H' (by rw [e']; rfl) (le1.trans le) hf' hd)
  rw [e1, R.ok_bind] at nb ko ke
  have le2 := le1.trans l1
  refine h2 F2 O H2 σ _ hf2 (he.mono le2) (R.bind_nb nb) (fun c v2 F3 H3 e2 l2 hf3 r2 => ?_) (fun c' p d' F' H' e' le hf' hd => ke c' p d' F' H' (by rw [e']; rfl) (le2.trans le) hf' hd)
  rw [e2, R.ok_bind] at nb ko ke
  have le3 := le2.trans l2
  obtain ⟨y, ey⟩ := pu_nb nb
  exact ⟨rfl, F3, O, _, .ok (toD y), hf3, (.cons (Dr.mono l2 (Dr.mono l1 r0)) (.cons (Dr.mono l2 r1) (.cons r2 .nil))), ⟨a, b, c, rfl, by rw [ey]; rfl⟩, fun z => (nomatch z), fun d' v F' H' e' le hf' hr => by
    cases e'
    exact ko y v F' H' (by rw [ey]; rfl) (le3.trans le) hf' hr, fun _ _ _ _ _ z => (nomatch z)⟩
theorem fnX3 {P : Program} {w : World} {cf : Cf} {mg : Str → Option Value} {base : Heap} {x qual : Str} {st : Stmt} {f0 : Addr} {fd : FuncData} {N ps : List Str} {k : Nat} {S : Type} {enc : S → List Sl} (F : Fun cf.K x qual st f0 fd) (sc : FnScope N ps (defScope st)) (hp : ps.length = 3) (g : α → β → γ → R (Fl S τ))
    (G0 : α → β → γ → List Sl) (hG : ∀ a b c, [.va (toD a), .va (toD b), .va (toD c)] ++ List.replicate (N.length - 3) .un = G0 a b c)
    (h : ∀ (cdv : Value) (A : Around) (outer : List Env) (s : Shared) (H : Hp) (E : XK), Room k (A.deeper (envOfC qual (defScope st) s.heap.objs.size f0 cdv)) →
      ∃ t, PSs (cxOf (L2.CX P w) P w cf.K mg base N qual (defScope st) f0 cdv A outer s H E) (defBody st) t ∧ ∀ a b c, SB cf E t (G0 a b c) enc (g a b c)) :
    FnOk P w cf.K mg base (L2.CX P w) (k + 1) f0 fd ps (SpX cf 3 (sp3 fun a b c => finR (g a b c))) := by
  refine F.okX sc (SpX.len hp) (fun cdv A outer s H vs Q E hr hq => ?_)
  obtain ⟨t, ht, hb⟩ := h cdv A outer s H E hr
  refine ⟨t, ht, run_ofX (ρ := τ) (S := S) (enc := enc) hq fun ds r hs nb => ?_⟩
  obtain ⟨a, b, c, rfl, er⟩ := hs
  exact ⟨g a b c, by have q := hb a b c; rw [← hG] at q; exact q, er⟩
end

section
variable {α β γ δ τ : Type} [Enc α] [Enc β] [Enc γ] [Enc δ] [Enc τ]
theorem em_callX4 {cf : Cf} {E : XK} {G : List Sl} {t0 t1 t2 t3 : TE} {m0 : R α} {m1 : R β} {m2 : R γ} {m3 : R δ} {g : α → β → γ → δ → R τ} (h0 : EM cf E t0 G m0) (h1 : EM cf E t1 G m1) (h2 : EM cf E t2 G m2) (h3 : EM cf E t3 G m3) : EM cf E (tCall (SpX cf 4 (sp4 g)) [] E (tCons t0 (tCons t1 (tCons t2 (tCons t3 tNil))))) G (m0.bind fun a => m1.bind fun b => m2.bind fun c => m3.bind fun d => g a b c d) := fun F O H σ Q hf he nb ko ke => by
  have le0 : Le F F := Le.refl F
  refine h0 F O H σ _ hf (he.mono le0) (R.bind_nb nb) (fun a v0 F1 H1 e0 l0 hf1 r0 => ?_) (fun c' p d' F' H' e' le hf' hd => ke c' p d' F' H' (by rw [e']; rfl) (le0.trans le) hf' hd)
  rw [e0, R.ok_bind] at nb ko ke
  have le1 := le0.trans l0
  refine h1 F1 O H1 σ _ hf1 (he.mono le1) (R.bind_nb nb) (fun b v1 F2 H2 e1 l1 hf2 r1 => ?_) (fun c' p d' F' H' e' le hf' hd => ke c' p d' F' H' (by rw [e']; rfl) (le1.trans le) hf' hd)
  rw [e1, R.ok_bind] at nb ko ke
  have le2 := le1.trans l1
  refine h2 F2 O H2 σ _ hf2 (he.mono le2) (R.bind_nb nb) (fun c v2 F3 H3 e2 l2 hf3 r2 => ?_) (fun c' p d' F' H' e' le hf' hd => ke c' p d' F' H' (by rw [e']; rfl) (le2.trans le) hf' hd)
  rw [e2, R.ok_bind] at nb ko ke
  have le3 := le2.trans l2
  refine h3 F3 O H3 σ _ hf3 (he.mono le3) (R.bind_nb nb) (fun d v3 F4 H4 e3 l3 hf4 r3 => ?_) (fun c' p d' F' H' e' le hf' hd => ke c' p d' F' H' (by rw [e']; rfl) (le3.trans le) hf' hd)
  rw [e3, R.ok_bind] at nb ko ke
  have le4 := le3.trans l3
  exact ⟨rfl, F4, O, _, (g a b c d).map toD, hf4, (.cons (Dr.mono l3 (Dr.mono l2 (Dr.mono l1 r0))) (.cons (Dr.mono l3 (Dr.mono l2 r1)) (.cons (Dr.mono l3 r2) (.cons r3 .nil)))), ⟨a, b, c, d, rfl, rfl⟩, map_nb nb, fun d' v F' H' e' le hf' hr => by
    obtain ⟨y, ey, ed⟩ := map_okd e'
    subst ed
    exact ko y v F' H' ey (le4.trans le) hf' hr, fun c' p d' F' H' e' le hf' hd => ke c' p d' F' H' (map_erd e') (le4.trans le) hf' hd⟩
theorem em_callP4 {cf : Cf} {E : XK} {G : List Sl} {t0 t1 t2 t3 : TE} {m0 : R α} {m1 : R β} {m2 : R γ} {m3 : R δ} {g : α → β → γ → δ → R τ} (h0 : EM cf E t0 G m0) (h1 : EM cf E t1 G m1) (h2 : EM cf E t2 G m2) (h3 : EM cf E t3 G m3) : EM cf E (tCall (SpX cf 4 (sp4 g)) [] E0 (tCons t0 (tCons t1 (tCons t2 (tCons t3 tNil))))) G (m0.bind fun a => m1.bind fun b => m2.bind fun c => m3.bind fun d => (g a b c d).pu) := fun F O H σ Q hf he nb ko ke => by
  have le0 : Le F F := Le.refl F
  refine h0 F O H σ _ hf (he.mono le0) (R.bind_nb nb) (fun a v0 F1 H1 e0 l0 hf1 r0 => ?_) (fun c' p d' F' H' e' le hf' hd => ke c' p d' F' H' (by rw [e']; rfl) (le0.trans le) hf' hd)
  rw [e0, R.ok_bind] at nb ko ke
  have le1 := le0.trans l0
  refine h1 F1 O H1 σ _ hf1 (he.mono le1) (R.bind_nb nb) (fun b v1 F2 H2 e1 l1 hf2 r1 => ?_) (fun c' p d' F' H' e' le hf' hd => ke c' p d' F' H' (by rw [e']; rfl) (le1.trans le) hf' hd)
  rw [e1, R.ok_bind] at nb ko ke
  have le2 := le1.trans l1
  refine h2 F2 O H2 σ _ hf2 (he.mono le2) (R.bind_nb nb) (fun c v2 F3 H3 e2 l2 hf3 r2 => ?_) (fun c' p d' F' H' e' le hf' hd => ke c' p d' F' H' (by rw [e']; rfl) (le2.trans le) hf' hd)
  rw [e2, R.ok_bind] at nb ko ke
  have le3 := le2.trans l2
  refine h3 F3 O H3 σ _ hf3 (he.mono le3) (R.bind_nb nb) (fun d v3 F4 H4 e3 l3 hf4 r3 => ?_) (fun c' p d' F' H' e' le hf' hd => ke c' p d' F' H' (by rw [e']; rfl) (le3.trans le) hf' hd)
  rw [e3, R.ok_bind] at nb ko ke
  have le4 := le3.trans l3
  obtain ⟨y, ey⟩ := pu_nb nb
  exact ⟨rfl, F4, O, _, .ok (toD y), hf4, (.cons (Dr.mono l3 (Dr.mono l2 (Dr.mono l1 r0))) (.cons (Dr.mono l3 (Dr.mono l2 r1)) (.cons (Dr.mono l3 r2) (.cons r3 .nil)))), ⟨a, b, c, d, rfl, by rw [ey]; rfl⟩, fun z => (nomatch z), fun d' v F' H' e' le hf' hr => by
    cases e'
    exact ko y v F' H' (by rw [ey]; rfl) (le4.trans le) hf' hr, fun _ _ _ _ _ z => (nomatch z)⟩
theorem fnX4 {P : Program} {w : World} {cf : Cf} {mg : Str → Option Value} {base : Heap} {x qual : Str} {st : Stmt} {f0 : Addr} {fd : FuncData} {N ps : List Str} {k : Nat} {S : Type} {enc : S → List Sl} (F : Fun cf.K x qual st f0 fd) (sc : FnScope N ps (defScope st)) (hp : ps.length = 4) (g : α → β → γ → δ → R (Fl S τ))
    (G0 : α → β → γ → δ → List Sl) (hG : ∀ a b c d, [.va (toD a), .va (toD b), .va (toD c), .va (toD d)] ++ List.replicate (N.length - 4) .un = G0 a b c d)
    (h : ∀ (cdv : Value) (A : Around) (outer : List Env) (s : Shared) (H : Hp) (E : XK), Room k (A.deeper (envOfC qual (defScope st) s.heap.objs.size f0 cdv)) →
      ∃ t, PSs (cxOf (L2.CX P w) P w cf.K mg base N qual (defScope st) f0 cdv A outer s H E) (defBody st) t ∧ ∀ a b c d, SB cf E t (G0 a b c d) enc (g a b c d)) :
    FnOk P w cf.K mg base (L2.CX P w) (k + 1) f0 fd ps (SpX cf 4 (sp4 fun a b c d => finR (g a b c d))) := by
  refine F.okX sc (SpX.len hp) (fun cdv A outer s H vs Q E hr hq => ?_)
  obtain ⟨t, ht, hb⟩ := h cdv A outer s H E hr
  refine ⟨t, ht, run_ofX (ρ := τ) (S := S) (enc := enc) hq fun ds r hs nb => ?_⟩
  obtain ⟨a, b, c, d, rfl, er⟩ := hs
  exact ⟨g a b c d, by have q := hb a b c d; rw [← hG] at q; exact q, er⟩
end

section
variable {α β γ δ ε τ : Type} [Enc α] [Enc β] [Enc γ] [Enc δ] [Enc ε] [Enc τ]
theorem em_callX5 {cf : Cf} {E : XK} {G : List Sl} {t0 t1 t2 t3 t4 : TE} {m0 : R α} {m1 : R β} {m2 : R γ} {m3 : R δ} {m4 : R ε} {g : α → β → γ → δ → ε → R τ} (h0 : EM cf E t0 G m0) (h1 : EM cf E t1 G m1) (h2 : EM cf E t2 G m2) (h3 : EM cf E t3 G m3) (h4 : EM cf E t4 G m4) : EM cf E (tCall (SpX cf 5 (sp5 g)) [] E (tCons t0 (tCons t1 (tCons t2 (tCons t3 (tCons t4 tNil)))))) G (m0.bind fun a => m1.bind fun b => m2.bind fun c => m3.bind fun d => m4.bind fun e => g a b c d e) := fun F O H σ Q hf he nb ko ke => by
  have le0 : Le F F := Le.refl F
  refine h0 F O H σ _ hf (he.mono le0) (R.bind_nb nb) (fun a v0 F1 H1 e0 l0 hf1 r0 => ?_) (fun c' p d' F' H' e' le hf' hd => ke c' p d' F' H' (by rw [e']; rfl) (le0.trans le) hf' hd)
  rw [e0, R.ok_bind] at nb ko ke
  have le1 := le0.trans l0
  refine h1 F1 O H1 σ _ hf1 (he.mono le1) (R.bind_nb nb) (fun b v1 F2 H2 e1 l1 hf2 r1 => ?_) (fun c' p d' F' H' e' le hf' hd => ke c' p d' F' H' (by rw [e']; rfl) (le1.trans le) hf' hd)
  rw [e1, R.ok_bind] at nb ko ke
  have le2 := le1.trans l1
  refine h2 F2 O H2 σ _ hf2 (he.mono le2) (R.bind_nb nb) (fun c v2 F3 H3 e2 l2 hf3 r2 => ?_) (fun c' p d' F' H' e' le hf' hd => ke c' p d' F' H' (by rw [e']; rfl) (le2.trans le) hf' hd)
  rw [e2, R.ok_bind] at nb ko ke
  have le3 := le2.trans l2
  refine h3 F3 O H3 σ _ hf3 (he.mono le3) (R.bind_nb nb) (fun d v3 F4 H4 e3 l3 hf4 r3 => ?_) (fun c' p d' F' H' e' le hf' hd => ke c' p d' F' H' (by rw [e']; rfl) (le3.trans le) hf' hd)
  rw [e3, R.ok_bind] at nb ko ke
  have le4 := le3.trans l3
  refine h4 F4 O H4 σ _ hf4 (he.mono le4) (R.bind_nb nb) (fun e v4 F5 H5 e4 l4 hf5 r4 => ?_) (fun c' p d' F' H' e' le hf' hd => ke c' p d' F' H' (by rw [e']; rfl) (le4.trans le) hf' hd)
  rw [e4, R.ok_bind] at nb ko ke
  have le5 := le4.trans l4
  exact ⟨rfl, F5, O, _, (g a b c d e).map toD, hf5, (.cons (Dr.mono l4 (Dr.mono l3 (Dr.mono l2 (Dr.mono l1 r0)))) (.cons (Dr.mono l4 (Dr.mono l3 (Dr.mono l2 r1))) (.cons (Dr.mono l4 (Dr.mono l3 r2)) (.cons (Dr.mono l4 r3) (.cons r4 .nil))))), ⟨a, b, c, d, e, rfl, rfl⟩, map_nb nb, fun d' v F' H' e' le hf' hr => by
    obtain ⟨y, ey, ed⟩ := map_okd e'
    subst ed
    exact ko y v F' H' ey (le5.trans le) hf' hr, fun c' p d' F' H' e' le hf' hd => ke c' p d' F' H' (map_erd e') (le5.trans le) hf' hd⟩
theorem em_callP5 {cf : Cf} {E : XK} {G : List Sl} {t0 t1 t2 t3 t4 : TE} {m0 : R α} {m1 : R β} {m2 : R γ} {m3 : R δ} {m4 : R ε} {g : α → β → γ → δ → ε → R τ} (h0 : EM cf E t0 G m0) (h1 : EM cf E t1 G m1) (h2 : EM cf E t2 G m2) (h3 : EM cf E t3 G m3) (h4 : EM cf E t4 G m4) : EM cf E (tCall (SpX cf 5 (sp5 g)) [] E0 (tCons t0 (tCons t1 (tCons t2 (tCons t3 (tCons t4 tNil)))))) G (m0.bind fun a => m1.bind fun b => m2.bind fun c => m3.bind fun d => m4.bind fun e => (g a b c d e).pu) := fun F O H σ Q hf he nb ko ke => by
  have le0 : Le F F := Le.refl F
  refine h0 F O H σ _ hf (he.mono le0) (R.bind_nb nb) (fun a v0 F1 H1 e0 l0 hf1 r0 => ?_) (fun c' p d' F' H' e' le hf' hd => ke c' p d' F' H' (by rw [e']; rfl) (le0.trans le) hf' hd)
  rw [e0, R.ok_bind] at nb ko ke
  have le1 := le0.trans l0
  refine h1 F1 O H1 σ _ hf1 (he.mono le1) (R.bind_nb nb) (fun b v1 F2 H2 e1 l1 hf2 r1 => ?_) (fun c' p d' F' H' e' le hf' hd => ke c' p d' F' H' (by rw [e']; rfl) (le1.trans le) hf' hd)
  rw [e1, R.ok_bind] at nb ko ke
  have le2 := le1.trans l1
  refine h2 F2 O H2 σ _ hf2 (he.mono le2) (R.bind_nb nb) (fun c v2 F3 H3 e2 l2 hf3 r2 => ?_) (fun c' p d' F' H' e' le hf' hd => ke c' p d' F' H' (by rw [e']; rfl) (le2.trans le) hf' hd)
  rw [e2, R.ok_bind] at nb ko ke
  have le3 := le2.trans l2
  refine h3 F3 O H3 σ _ hf3 (he.mono le3) (R.bind_nb nb) (fun d v3 F4 H4 e3 l3 hf4 r3 => ?_) (fun c' p d' F' H' e' le hf' hd => ke c' p d' F' H' (by rw [e']; rfl) (le3.trans le) hf' hd)
  rw [e3, R.ok_bind] at nb ko ke
  have le4 := le3.trans l3
  refine h4 F4 O H4 σ _ hf4 (he.mono le4) (R.bind_nb nb) (fun e v4 F5 H5 e4 l4 hf5 r4 => ?_) (fun c' p d' F' H' e' le hf' hd => ke c' p d' F' H' (by rw [e']; rfl) (le4.trans le) hf' hd)
  rw [e4, R.ok_bind] at nb ko ke
  have le5 := le4.trans l4
  obtain ⟨y, ey⟩ := pu_nb nb
  exact ⟨rfl, F5, O, _, .ok (toD y), hf5, (.cons (Dr.mono l4 (Dr.mono l3 (Dr.mono l2 (Dr.mono l1 r0)))) (.cons (Dr.mono l4 (Dr.mono l3 (Dr.mono l2 r1))) (.cons (Dr.mono l4 (Dr.mono l3 r2)) (.cons (Dr.mono l4 r3) (.cons r4 .nil))))), ⟨a, b, c, d, e, rfl, by rw [ey]; rfl⟩, fun z => (nomatch z), fun d' v F' H' e' le hf' hr => by
    cases e'
    exact ko y v F' H' (by rw [ey]; rfl) (le5.trans le) hf' hr, fun _ _ _ _ _ z => (nomatch z)⟩
theorem fnX5 {P : Program} {w : World} {cf : Cf} {mg : Str → Option Value} {base : Heap} {x qual : Str} {st : Stmt} {f0 : Addr} {fd : FuncData} {N ps : List Str} {k : Nat} {S : Type} {enc : S → List Sl} (F : Fun cf.K x qual st f0 fd) (sc : FnScope N ps (defScope st)) (hp : ps.length = 5) (g : α → β → γ → δ → ε → R (Fl S τ))
    (G0 : α → β → γ → δ → ε → List Sl) (hG : ∀ a b c d e, [.va (toD a), .va (toD b), .va (toD c), .va (toD d), .va (toD e)] ++ List.replicate (N.length - 5) .un = G0 a b c d e)
    (h : ∀ (cdv : Value) (A : Around) (outer : List Env) (s : Shared) (H : Hp) (E : XK), Room k (A.deeper (envOfC qual (defScope st) s.heap.objs.size f0 cdv)) →
      ∃ t, PSs (cxOf (L2.CX P w) P w cf.K mg base N qual (defScope st) f0 cdv A outer s H E) (defBody st) t ∧ ∀ a b c d e, SB cf E t (G0 a b c d e) enc (g a b c d e)) :
    FnOk P w cf.K mg base (L2.CX P w) (k + 1) f0 fd ps (SpX cf 5 (sp5 fun a b c d e => finR (g a b c d e))) := by
  refine F.okX sc (SpX.len hp) (fun cdv A outer s H vs Q E hr hq => ?_)
  obtain ⟨t, ht, hb⟩ := h cdv A outer s H E hr
  refine ⟨t, ht, run_ofX (ρ := τ) (S := S) (enc := enc) hq fun ds r hs nb => ?_⟩
  obtain ⟨a, b, c, d, e, rfl, er⟩ := hs
  exact ⟨g a b c d e, by have q := hb a b c d e; rw [← hG] at q; exact q, er⟩
end

section
variable {α β γ δ ε ζ τ : Type} [Enc α] [Enc β] [Enc γ] [Enc δ] [Enc ε] [Enc ζ] [Enc τ]
theorem em_callX6 {cf : Cf} {E : XK} {G : List Sl} {t0 t1 t2 t3 t4 t5 : TE} {m0 : R α} {m1 : R β} {m2 : R γ} {m3 : R δ} {m4 : R ε} {m5 : R ζ} {g : α → β → γ → δ → ε → ζ → R τ} (h0 : EM cf E t0 G m0) (h1 : EM cf E t1 G m1) (h2 : EM cf E t2 G m2) (h3 : EM cf E t3 G m3) (h4 : EM cf E t4 G m4) (h5 : EM cf E t5 G m5) : EM cf E (tCall (SpX cf 6 (sp6 g)) [] E (tCons t0 (tCons t1 (tCons t2 (tCons t3 (tCons t4 (tCons t5 tNil))))))) G (m0.bind fun a => m1.bind fun b => m2.bind fun c => m3.bind fun d => m4.bind fun e => m5.bind fun f => g a b c d e f) := fun F O H σ Q hf he nb ko ke => by
  have le0 : Le F F := Le.refl F
  refine h0 F O H σ _ hf (he.mono le0) (R.bind_nb nb) (fun a v0 F1 H1 e0 l0 hf1 r0 => ?_) (fun c' p d' F' H' e' le hf' hd => ke c' p d' F' H' (by rw [e']; rfl) (le0.trans le) hf' hd)
  rw [e0, R.ok_bind] at nb ko ke
  have le1 := le0.trans l0
  refine h1 F1 O H1 σ _ hf1 (he.mono le1) (R.bind_nb nb) (fun b v1 F2 H2 e1 l1 hf2 r1 => ?_) (fun c' p d' F' H' e' le hf' hd => ke c' p d' F' H' (by rw [e']; rfl) (le1.trans le) hf' hd)
  rw [e1, R.ok_bind] at nb ko ke
  have le2 := le1.trans l1
  refine h2 F2 O H2 σ _ hf2 (he.mono le2) (R.bind_nb nb) (fun c v2 F3 H3 e2 l2 hf3 r2 => ?_) (fun c' p d' F' H' e' le hf' hd => ke c' p d' F' H' (by rw [e']; rfl) (le2.trans le) hf' hd)
  rw [e2, R.ok_bind] at nb ko ke
  have le3 := le2.trans l2
  refine h3 F3 O H3 σ _ hf3 (he.mono le3) (R.bind_nb nb) (fun d v3 F4 H4 e3 l3 hf4 r3 => ?_) (fun c' p d' F' H' e' le hf' hd => ke c' p d' F' H' (by rw [e']; rfl) (le3.trans le) hf' hd)
  rw [e3, R.ok_bind] at nb ko ke
  have le4 := le3.trans l3
  refine h4 F4 O H4 σ _ hf4 (he.mono le4) (R.bind_nb nb) (fun e v4 F5 H5 e4 l4 hf5 r4 => ?_) (fun c' p d' F' H' e' le hf' hd => ke c' p d' F' H' (by rw [e']; rfl) (le4.trans le) hf' hd)
  rw [e4, R.ok_bind] at nb ko ke
  have le5 := le4.trans l4
  refine h5 F5 O H5 σ _ hf5 (he.mono le5) (R.bind_nb nb) (fun f v5 F6 H6 e5 l5 hf6 r5 => ?_) (fun c' p d' F' H' e' le hf' hd => ke c' p d' F' H' (by rw [e']; rfl) (le5.trans le) hf' hd)
  rw [e5, R.ok_bind] at nb ko ke
  have le6 := le5.trans l5
  exact ⟨rfl, F6, O, _, (g a b c d e f).map toD, hf6, (.cons (Dr.mono l5 (Dr.mono l4 (Dr.mono l3 (Dr.mono l2 (Dr.mono l1 r0))))) (.cons (Dr.mono l5 (Dr.mono l4 (Dr.mono l3 (Dr.mono l2 r1)))) (.cons (Dr.mono l5 (Dr.mono l4 (Dr.mono l3 r2))) (.cons (Dr.mono l5 (Dr.mono l4 r3)) (.cons (Dr.mono l5 r4) (.cons r5 .nil)))))), ⟨a, b, c, d, e, f, rfl, rfl⟩, map_nb nb, fun d' v F' H' e' le hf' hr => by
    obtain ⟨y, ey, ed⟩ := map_okd e'
    subst ed
    exact ko y v F' H' ey (le6.trans le) hf' hr, fun c' p d' F' H' e' le hf' hd => ke c' p d' F' H' (map_erd e') (le6.trans le) hf' hd⟩
theorem em_callP6 {cf : Cf} {E : XK} {G : List Sl} {t0 t1 t2 t3 t4 t5 : TE} {m0 : R α} {m1 : R β} {m2 : R γ} {m3 : R δ} {m4 : R ε} {m5 : R ζ} {g : α → β → γ → δ → ε → ζ → R τ} (h0 : EM cf E t0 G m0) (h1 : EM cf E t1 G m1) (h2 : EM cf E t2 G m2) (h3 : EM cf E t3 G m3) (h4 : EM cf E t4 G m4) (h5 : EM cf E t5 G m5) : EM cf E (tCall (SpX cf 6 (sp6 g)) [] E0 (tCons t0 (tCons t1 (tCons t2 (tCons t3 (tCons t4 (tCons t5 tNil))))))) G (m0.bind fun a => m1.bind fun b => m2.bind fun c => m3.bind fun d => m4.bind fun e => m5.bind fun f => (g a b c d e f).pu) := fun F O H σ Q hf he nb ko ke => by
  have le0 : Le F F := Le.refl F
  refine h0 F O H σ _ hf (he.mono le0) (R.bind_nb nb) (fun a v0 F1 H1 e0 l0 hf1 r0 => ?_) (fun c' p d' F' H' e' le hf' hd => ke c' p d' F' H' (by rw [e']; rfl) (le0.trans le) hf' hd)
  rw [e0, R.ok_bind] at nb ko ke
  have le1 := le0.trans l0
  refine h1 F1 O H1 σ _ hf1 (he.mono le1) (R.bind_nb nb) (fun b v1 F2 H2 e1 l1 hf2 r1 => ?_) (fun c' p d' F' H' e' le hf' hd => ke c' p d' F' H' (by rw [e']; rfl) (le1.trans le) hf' hd)
  rw [e1, R.ok_bind] at nb ko ke
  have le2 := le1.trans l1
  refine h2 F2 O H2 σ _ hf2 (he.mono le2) (R.bind_nb nb) (fun c v2 F3 H3 e2 l2 hf3 r2 => ?_) (fun c' p d' F' H' e' le hf' hd => ke c' p d' F' H' (by rw [e']; rfl) (le2.trans le) hf' hd)
  rw [e2, R.ok_bind] at nb ko ke
  have le3 := le2.trans l2
  refine h3 F3 O H3 σ _ hf3 (he.mono le3) (R.bind_nb nb) (fun d v3 F4 H4 e3 l3 hf4 r3 => ?_) (fun c' p d' F' H' e' le hf' hd => ke c' p d' F' H' (by rw [e']; rfl) (le3.trans le) hf' hd)
  rw [e3, R.ok_bind] at nb ko ke
  have le4 := le3.trans l3
  refine h4 F4 O H4 σ _ hf4 (he.mono le4) (R.bind_nb nb) (fun e v4 F5 H5 e4 l4 hf5 r4 => ?_) (fun c' p d' F' H' e' le hf' hd => ke c' p d' F' H' (by rw [e']; rfl) (le4.trans le) hf' hd)
  rw [e4, R.ok_bind] at nb ko ke
  have le5 := le4.trans l4
  refine h5 F5 O H5 σ _ hf5 (he.mono le5) (R.bind_nb nb) (fun f v5 F6 H6 e5 l5 hf6 r5 => ?_) (fun c' p d' F' H' e' le hf' hd => ke c' p d' F' H' (by rw [e']; rfl) (le5.trans le) hf' hd)
  rw [e5, R.ok_bind] at nb ko ke
  have le6 := le5.trans l5
  obtain ⟨y, ey⟩ := pu_nb nb
  exact ⟨rfl, F6, O, _, .ok (toD y), hf6, (.cons (Dr.mono l5 (Dr.mono l4 (Dr.mono l3 (Dr.mono l2 (Dr.mono l1 r0))))) (.cons (Dr.mono l5 (Dr.mono l4 (Dr.mono l3 (Dr.mono l2 r1)))) (.cons (Dr.mono l5 (Dr.mono l4 (Dr.mono l3 r2))) (.cons (Dr.mono l5 (Dr.mono l4 r3)) (.cons (Dr.mono l5 r4) (.cons r5 .nil)))))), ⟨a, b, c, d, e, f, rfl, by rw [ey]; rfl⟩, fun z => (nomatch z), fun d' v F' H' e' le hf' hr => by
    cases e'
    exact ko y v F' H' (by rw [ey]; rfl) (le6.trans le) hf' hr, fun _ _ _ _ _ z => (nomatch z)⟩
theorem fnX6 {P : Program} {w : World} {cf : Cf} {mg : Str → Option Value} {base : Heap} {x qual : Str} {st : Stmt} {f0 : Addr} {fd : FuncData} {N ps : List Str} {k : Nat} {S : Type} {enc : S → List Sl} (F : Fun cf.K x qual st f0 fd) (sc : FnScope N ps (defScope st)) (hp : ps.length = 6) (g : α → β → γ → δ → ε → ζ → R (Fl S τ))
    (G0 : α → β → γ → δ → ε → ζ → List Sl) (hG : ∀ a b c d e f, [.va (toD a), .va (toD b), .va (toD c), .va (toD d), .va (toD e), .va (toD f)] ++ List.replicate (N.length - 6) .un = G0 a b c d e f)
    (h : ∀ (cdv : Value) (A : Around) (outer : List Env) (s : Shared) (H : Hp) (E : XK), Room k (A.deeper (envOfC qual (defScope st) s.heap.objs.size f0 cdv)) →
      ∃ t, PSs (cxOf (L2.CX P w) P w cf.K mg base N qual (defScope st) f0 cdv A outer s H E) (defBody st) t ∧ ∀ a b c d e f, SB cf E t (G0 a b c d e f) enc (g a b c d e f)) :
    FnOk P w cf.K mg base (L2.CX P w) (k + 1) f0 fd ps (SpX cf 6 (sp6 fun a b c d e f => finR (g a b c d e f))) := by
  refine F.okX sc (SpX.len hp) (fun cdv A outer s H vs Q E hr hq => ?_)
  obtain ⟨t, ht, hb⟩ := h cdv A outer s H E hr
  refine ⟨t, ht, run_ofX (ρ := τ) (S := S) (enc := enc) hq fun ds r hs nb => ?_⟩
  obtain ⟨a, b, c, d, e, f, rfl, er⟩ := hs
  exact ⟨g a b c d e f, by have q := hb a b c d e f; rw [← hG] at q; exact q, er⟩
end
/-! ### what the text says of an error class -/
structure XErr (P : Program) (w : World) (cf : Cf) (mg : Str → Option Value) (base : Heap) (c : Nat) (x : Str) where
  fI : Addr
  fd : FuncData
  T : OexC cf.K (cf.cls c)
  iC : PySem.W.findIn cf.K (.ref (cf.cls c)) "__init__" = some (some (.ref fI))
  tI : PySem.W.typeIn cf.K (.ref fI) = some (.type "function")
  F1 : FnOk P w cf.K mg base CX0 2 fI fd ["self", "place"] (SpE (cf.cls c) (cf.nm c))
  hb : Binds cf.K fd ["self", "place"] []
  hm : mg x = some (.ref (cf.cls c))
end Kr

/-! KrN: bits of numbers. -/
namespace Kr
open PySem PySem.Spec PyProof.Rows L2
open Enc (toD)
theorem pw_nat (k : Nat) : ((2 ^ k : Nat) : Int) = 2 ^ k := by simp
theorem pw_le {n m : Nat} (h : n ≤ m) : (2 : Int) ^ n ≤ 2 ^ m := by
  rw [← pw_nat, ← pw_nat]
  exact Int.ofNat_le.mpr (Nat.pow_le_pow_right (by decide) h)
/-! ### bits -/
def bw (w v : Int) : List Int := (seqI 0 w.toNat).map fun j => v / 2 ^ (w - 1 - j).toNat % 2
theorem and_one (x : Int) (h : 0 ≤ x) : Builtin.bitAnd x 1 = x % 2 := by
  unfold Builtin.bitAnd
  rw [decide_eq_true h, decide_eq_true (show (0 : Int) ≤ 1 by decide)]
  show ((x.toNat &&& (1 : Int).toNat : Nat) : Int) = x % 2
  rw [show (1 : Int).toNat = 1 from rfl, Nat.and_one_is_mod]
  omega
theorem seqC_down (w : Int) (h : 0 ≤ w) : seqC (w - 1) (-1) w.toNat = (seqI 0 w.toNat).map fun j => w - 1 - j := by
  unfold seqC seqI
  rw [List.map_map]
  refine List.map_congr_left fun i _ => ?_
  show w - 1 + (i : Int) * -1 = w - 1 - (0 + (i : Int))
  omega
theorem bw_len (w v : Int) : (bw w v).length = w.toNat := by
  unfold bw
  rw [List.length_map, seqI_len]
theorem bw_get (w v : Int) (j : Nat) (h : j < (bw w v).length) : (bw w v)[j] = v / 2 ^ (w - 1 - (j : Int)).toNat % 2 := by
  simp only [bw, List.getElem_map]
  rw [seqI_at (by rw [bw_len] at h; rw [seqI_len]; exact h), show (0 : Int) + (j : Int) = j by omega]
theorem bw_bit (w v : Int) : ∀ x ∈ bw w v, x = 0 ∨ x = 1 := fun x hx => by
  unfold bw at hx
  obtain ⟨j, _, rfl⟩ := List.mem_map.mp hx
  omega
theorem bw_snoc (w v : Int) (h : 0 ≤ w) : bw (w + 1) v = bw w (v / 2) ++ [v % 2] := by
  refine List.ext_getElem (by rw [List.length_append, bw_len, bw_len]; simp; omega) fun j h1 h2 => ?_
  rw [bw_get]
  rw [bw_len] at h1
  by_cases hj : j < (bw w (v / 2)).length
  · rw [List.getElem_append_left hj, bw_get]
    rw [bw_len] at hj
    rw [Int.ediv_ediv_of_nonneg (show (0 : Int) ≤ 2 by decide), show (w + 1 - 1 - (j : Int)).toNat = (w - 1 - (j : Int)).toNat + 1 by omega, Int.pow_succ, Int.mul_comm]
  · rw [List.getElem_append_right (by omega)]
    rw [bw_len] at hj
    rw [show (w + 1 - 1 - (j : Int)).toNat = 0 by omega]
    simp
theorem bw_inj : ∀ (n : Nat) (x y : Int), 0 ≤ x → x < 2 ^ n → 0 ≤ y → y < 2 ^ n → bw n x = bw n y → x = y
  | 0, x, y, h1, h2, h3, h4, _ => by
    have : (2 : Int) ^ 0 = 1 := rfl
    omega
  | n + 1, x, y, h1, h2, h3, h4, e => by
    have hp : (2 : Int) ^ (n + 1) = 2 ^ n * 2 := Int.pow_succ ..
    rw [show ((n + 1 : Nat) : Int) = (n : Int) + 1 by omega, bw_snoc _ _ (by omega), bw_snoc _ _ (by omega)] at e
    obtain ⟨e1, e2⟩ := List.append_inj' e rfl
    have := bw_inj n (x / 2) (y / 2) (by omega) (by omega) (by omega) (by omega) e1
    injection e2 with e2
    omega
theorem bw_take (n m : Nat) (v : Int) : (bw ((n + m : Nat) : Int) v).take n = bw n (v / 2 ^ m) := by
  refine List.ext_getElem (by rw [List.length_take, bw_len, bw_len]; omega) fun j h1 h2 => ?_
  rw [List.getElem_take, bw_get, bw_get]
  rw [bw_len] at h2
  rw [Int.ediv_ediv_of_nonneg (Int.le_of_lt (Int.pow_pos (by decide))), ← Int.pow_add, show (((n + m : Nat) : Int) - 1 - (j : Int)).toNat = m + ((n : Int) - 1 - (j : Int)).toNat by omega]
/-- the number of a list of bits -/
def vl (xs : List Int) : Int := xs.foldl (fun v b => 2 * v + b) 0
theorem vl_snoc (xs : List Int) (b : Int) : vl (xs ++ [b]) = 2 * vl xs + b := by
  unfold vl
  rw [List.foldl_append]
  rfl
theorem vl_bw : ∀ (n : Nat) (v : Int), 0 ≤ v → v < 2 ^ n → vl (bw n v) = v
  | 0, v, h1, h2 => by
    have : (2 : Int) ^ 0 = 1 := rfl
    have e : v = 0 := by omega
    subst e
    rfl
  | n + 1, v, h1, h2 => by
    have hp : (2 : Int) ^ (n + 1) = 2 ^ n * 2 := Int.pow_succ ..
    rw [show ((n + 1 : Nat) : Int) = (n : Int) + 1 by omega, bw_snoc _ _ (by omega), vl_snoc, vl_bw n (v / 2) (by omega) (by omega)]
    omega
/-- the bit above the others -/
theorem bw_cons (n : Nat) (v : Int) : bw ((n + 1 : Nat) : Int) v = (v / 2 ^ n % 2) :: bw n v := by
  refine List.ext_getElem (by rw [List.length_cons, bw_len, bw_len]; omega) fun j h1 h2 => ?_
  rw [bw_get]
  cases j with
  | zero =>
    rw [List.getElem_cons_zero, show (((n + 1 : Nat) : Int) - 1 - ((0 : Nat) : Int)).toNat = n by omega]
  | succ j =>
    rw [List.getElem_cons_succ, bw_get, show (((n + 1 : Nat) : Int) - 1 - ((j + 1 : Nat) : Int)).toNat = ((n : Int) - 1 - (j : Int)).toNat by omega]
theorem bw_mod : ∀ (n : Nat) (v : Int), bw n (v % 2 ^ n) = bw n v
  | 0, v => rfl
  | n + 1, v => by
    have hp : (2 : Int) ^ (n + 1) = 2 * 2 ^ n := by rw [Int.pow_succ, Int.mul_comm]
    have h2 : (0 : Int) < 2 ^ n := Int.pow_pos (by decide)
    rw [show ((n + 1 : Nat) : Int) = (n : Int) + 1 by omega, bw_snoc _ _ (by omega), bw_snoc _ _ (by omega)]
    have e1 : v % 2 ^ (n + 1) % 2 = v % 2 := by
      rw [hp]
      exact Int.emod_emod_of_dvd v (Int.dvd_mul_right 2 (2 ^ n))
    have e2 : v % 2 ^ (n + 1) / 2 = v / 2 % 2 ^ n := by
      rw [hp]
      have a1 := Int.emod_add_mul_ediv v (2 * 2 ^ n)
      have a2 := Int.emod_add_mul_ediv (v / 2) (2 ^ n)
      have a3 : v / (2 * 2 ^ n) = v / 2 / 2 ^ n := (Int.ediv_ediv_of_nonneg (by decide)).symm
      rw [a3] at a1
      have a4 : 2 * 2 ^ n * (v / 2 / 2 ^ n) = 2 * (2 ^ n * (v / 2 / 2 ^ n)) := by rw [Int.mul_assoc]
      rw [a4] at a1
      generalize 2 ^ n * (v / 2 / 2 ^ n) = q at *
      omega
    rw [e1, e2, bw_mod n]
theorem and_low (x : Int) (n : Nat) (h : 0 ≤ x) : Builtin.bitAnd x (1 * 2 ^ n - 1) = x % 2 ^ n := by
  have h2 : (0 : Int) < 2 ^ n := Int.pow_pos (by decide)
  unfold Builtin.bitAnd
  rw [decide_eq_true h, decide_eq_true (show (0 : Int) ≤ 1 * 2 ^ n - 1 by omega)]
  show ((x.toNat &&& (1 * 2 ^ n - 1 : Int).toNat : Nat) : Int) = x % 2 ^ n
  have e : (1 * 2 ^ n - 1 : Int).toNat = 2 ^ n - 1 := by
    rw [Int.one_mul, ← pw_nat]
    omega
  rw [e, Nat.and_two_pow_sub_one_eq_mod, Int.natCast_emod, pw_nat]
  rw [Int.toNat_of_nonneg h]
/-- the number of bits -/
theorem wd_of {n : Int} (h : 1 ≤ n) : ∃ w : Nat, (Builtin.Int.intBits n : Int) = w ∧ 1 ≤ w ∧ (2 : Int) ^ (w - 1) ≤ n ∧ n < 2 ^ w := by
  refine ⟨n.natAbs.log2 + 1, ?_, by omega, ?_, ?_⟩
  · unfold Builtin.Int.intBits
    rw [beq_eq_false_iff_ne.mpr (show n ≠ 0 by omega)]
    rfl
  · have := Nat.log2_self_le (n := n.natAbs) (by omega)
    rw [Nat.add_sub_cancel, ← pw_nat]
    omega
  · have := Nat.lt_log2_self (n := n.natAbs)
    rw [← pw_nat]
    omega
theorem wd_uniq {n : Int} {w u : Nat} (h1 : (2 : Int) ^ (w - 1) ≤ n) (h2 : n < 2 ^ w) (h3 : (2 : Int) ^ (u - 1) ≤ n) (h4 : n < 2 ^ u) (hw : 1 ≤ w) (hu : 1 ≤ u) : w = u := by
  rcases Nat.lt_trichotomy w u with h | h | h
  · have := pw_le (show w ≤ u - 1 by omega)
    omega
  · exact h
  · have := pw_le (show u ≤ w - 1 by omega)
    omega
end Kr

namespace Kx
open PySem PySem.Spec PyProof.Rows L2 Kr
open Enc (toD)
/-! ### the text by places -/
def topS (i : Nat) : Stmt := PySem.Challenge.pw_kraftroom_k14_codes_of_integers.main.body.getD i (.Pass ⟨0, 0, 0, 0⟩)
abbrev s_field_bits : Stmt := topS 5
abbrev s_read_field : Stmt := topS 8
abbrev s_gamma_bits : Stmt := topS 9
abbrev s_read_gamma : Stmt := topS 10
abbrev s_delta_bits : Stmt := topS 11
abbrev s_read_delta : Stmt := topS 12
abbrev s_rice_bits : Stmt := topS 13
abbrev s_read_rice : Stmt := topS 14
abbrev s_fibonacci_bits : Stmt := topS 15
abbrev s_read_fibonacci : Stmt := topS 16
abbrev s__law_cell : Stmt := topS 18
abbrev s__law_number : Stmt := topS 19
abbrev s__law_binary : Stmt := topS 20
abbrev s__law_gamma : Stmt := topS 21
abbrev s__law_delta : Stmt := topS 22
abbrev s__law_fibonacci : Stmt := topS 23
abbrev s__law_rice : Stmt := topS 24
abbrev s__law_all : Stmt := topS 25
abbrev s_law : Stmt := topS 26
/-- what the top has left -/
structure Txt (P : Program) (w : World) (cf : Cf) (mg : Str → Option Value) (base : Heap) where
  a_field_bits : Addr
  d_field_bits : FuncData
  F_field_bits : Fun cf.K "field_bits" "field_bits" s_field_bits a_field_bits d_field_bits
  b_field_bits : Binds cf.K d_field_bits ["width", "value"] []
  g_field_bits : mg "field_bits" = some (.ref a_field_bits)
  a_read_field : Addr
  d_read_field : FuncData
  F_read_field : Fun cf.K "read_field" "read_field" s_read_field a_read_field d_read_field
  b_read_field : Binds cf.K d_read_field ["bits", "at", "width"] []
  g_read_field : mg "read_field" = some (.ref a_read_field)
  a_gamma_bits : Addr
  d_gamma_bits : FuncData
  F_gamma_bits : Fun cf.K "gamma_bits" "gamma_bits" s_gamma_bits a_gamma_bits d_gamma_bits
  b_gamma_bits : Binds cf.K d_gamma_bits ["n"] []
  g_gamma_bits : mg "gamma_bits" = some (.ref a_gamma_bits)
  a_read_gamma : Addr
  d_read_gamma : FuncData
  F_read_gamma : Fun cf.K "read_gamma" "read_gamma" s_read_gamma a_read_gamma d_read_gamma
  b_read_gamma : Binds cf.K d_read_gamma ["bits", "at"] []
  g_read_gamma : mg "read_gamma" = some (.ref a_read_gamma)
  a_delta_bits : Addr
  d_delta_bits : FuncData
  F_delta_bits : Fun cf.K "delta_bits" "delta_bits" s_delta_bits a_delta_bits d_delta_bits
  b_delta_bits : Binds cf.K d_delta_bits ["n"] []
  g_delta_bits : mg "delta_bits" = some (.ref a_delta_bits)
  a_read_delta : Addr
  d_read_delta : FuncData
  F_read_delta : Fun cf.K "read_delta" "read_delta" s_read_delta a_read_delta d_read_delta
  b_read_delta : Binds cf.K d_read_delta ["bits", "at"] []
  g_read_delta : mg "read_delta" = some (.ref a_read_delta)
  a_rice_bits : Addr
  d_rice_bits : FuncData
  F_rice_bits : Fun cf.K "rice_bits" "rice_bits" s_rice_bits a_rice_bits d_rice_bits
  b_rice_bits : Binds cf.K d_rice_bits ["k", "n"] []
  g_rice_bits : mg "rice_bits" = some (.ref a_rice_bits)
  a_read_rice : Addr
  d_read_rice : FuncData
  F_read_rice : Fun cf.K "read_rice" "read_rice" s_read_rice a_read_rice d_read_rice
  b_read_rice : Binds cf.K d_read_rice ["k", "bits", "at"] []
  g_read_rice : mg "read_rice" = some (.ref a_read_rice)
  a_fibonacci_bits : Addr
  d_fibonacci_bits : FuncData
  F_fibonacci_bits : Fun cf.K "fibonacci_bits" "fibonacci_bits" s_fibonacci_bits a_fibonacci_bits d_fibonacci_bits
  b_fibonacci_bits : Binds cf.K d_fibonacci_bits ["n"] []
  g_fibonacci_bits : mg "fibonacci_bits" = some (.ref a_fibonacci_bits)
  a_read_fibonacci : Addr
  d_read_fibonacci : FuncData
  F_read_fibonacci : Fun cf.K "read_fibonacci" "read_fibonacci" s_read_fibonacci a_read_fibonacci d_read_fibonacci
  b_read_fibonacci : Binds cf.K d_read_fibonacci ["bits", "at"] []
  g_read_fibonacci : mg "read_fibonacci" = some (.ref a_read_fibonacci)
  a__law_cell : Addr
  d__law_cell : FuncData
  F__law_cell : Fun cf.K "_law_cell" "_law_cell" s__law_cell a__law_cell d__law_cell
  b__law_cell : Binds cf.K d__law_cell ["_law_script", "_law_k"] []
  g__law_cell : mg "_law_cell" = some (.ref a__law_cell)
  a__law_number : Addr
  d__law_number : FuncData
  F__law_number : Fun cf.K "_law_number" "_law_number" s__law_number a__law_number d__law_number
  b__law_number : Binds cf.K d__law_number ["_law_cell_here"] []
  g__law_number : mg "_law_number" = some (.ref a__law_number)
  a__law_binary : Addr
  d__law_binary : FuncData
  F__law_binary : Fun cf.K "_law_binary" "_law_binary" s__law_binary a__law_binary d__law_binary
  b__law_binary : Binds cf.K d__law_binary ["_law_n"] []
  g__law_binary : mg "_law_binary" = some (.ref a__law_binary)
  a__law_gamma : Addr
  d__law_gamma : FuncData
  F__law_gamma : Fun cf.K "_law_gamma" "_law_gamma" s__law_gamma a__law_gamma d__law_gamma
  b__law_gamma : Binds cf.K d__law_gamma ["_law_n"] []
  g__law_gamma : mg "_law_gamma" = some (.ref a__law_gamma)
  a__law_delta : Addr
  d__law_delta : FuncData
  F__law_delta : Fun cf.K "_law_delta" "_law_delta" s__law_delta a__law_delta d__law_delta
  b__law_delta : Binds cf.K d__law_delta ["_law_n"] []
  g__law_delta : mg "_law_delta" = some (.ref a__law_delta)
  a__law_fibonacci : Addr
  d__law_fibonacci : FuncData
  F__law_fibonacci : Fun cf.K "_law_fibonacci" "_law_fibonacci" s__law_fibonacci a__law_fibonacci d__law_fibonacci
  b__law_fibonacci : Binds cf.K d__law_fibonacci ["_law_n"] []
  g__law_fibonacci : mg "_law_fibonacci" = some (.ref a__law_fibonacci)
  a__law_rice : Addr
  d__law_rice : FuncData
  F__law_rice : Fun cf.K "_law_rice" "_law_rice" s__law_rice a__law_rice d__law_rice
  b__law_rice : Binds cf.K d__law_rice ["_law_k", "_law_n"] []
  g__law_rice : mg "_law_rice" = some (.ref a__law_rice)
  a__law_all : Addr
  d__law_all : FuncData
  F__law_all : Fun cf.K "_law_all" "_law_all" s__law_all a__law_all d__law_all
  b__law_all : Binds cf.K d__law_all ["_law_n", "_law_k"] []
  g__law_all : mg "_law_all" = some (.ref a__law_all)
  a_law : Addr
  d_law : FuncData
  F_law : Fun cf.K "law" "law" s_law a_law d_law
  b_law : Binds cf.K d_law ["_law_script"] []
  g_law : mg "law" = some (.ref a_law)
  n_int : mg "int" = none
  n_len : mg "len" = none
  n_max : mg "max" = none
  n_range : mg "range" = none
  n_reversed : mg "reversed" = none
  X_Truncated : XErr P w cf mg base 0 "Truncated"
  X_InvalidWord : XErr P w cf mg base 1 "InvalidWord"
  k_MOST_BITS : Tok
  c_MOST_BITS : mg "MOST_BITS" = some (.int 40 k_MOST_BITS)
/-! ### what the defs compute -/
def b_field_bits (width_1 : Int) (value_2 : Int) : R (Fl Unit (List Int)) :=
  (R.bind (R.bind (R.bind (R.bind (R.ok width_1) fun a_3 => R.bind (R.ok (1 : Int)) fun b_4 => R.ok (a_3 - b_4)) fun a_7 => R.bind (R.bind (R.ok (1 : Int)) fun a_5 => R.ok (-a_5)) fun b_8 => R.bind (R.bind (R.ok (1 : Int)) fun a_6 => R.ok (-a_6)) fun c_9 => rng3R a_7 b_8 c_9) (lcR (fun shift_10 => (R.ok true)) (fun shift_10 => (R.bind (R.bind (R.ok value_2) fun a_11 => R.bind (R.ok shift_10) fun b_12 => shrR a_11 b_12) fun a_13 => R.bind (R.ok (1 : Int)) fun b_14 => R.ok (Builtin.bitAnd a_13 b_14))))) fun a_15 => R.ok (Fl.rt a_15))
def f_field_bits (width_1 : Int) (value_2 : Int) : R (List Int) := finR (b_field_bits width_1 value_2)
def b_read_field (bits_16 : (List Int)) (at_17 : Int) (width_18 : Int) : R (Fl Unit (Int × Int)) :=
  (R.bind (R.bind (R.bind (R.ok at_17) fun a_19 => R.bind (R.ok width_18) fun b_20 => R.ok (a_19 + b_20)) fun a_22 => R.bind (R.bind (R.ok bits_16) fun a_21 => R.ok (List.length a_21 : Int)) fun b_23 => R.ok (decide (b_23 < a_22))) fun c_24 => if c_24 = true then (R.bind (R.bind (R.ok bits_16) fun a_25 => R.ok (List.length a_25 : Int)) fun p_26 => R.er 0 p_26) else (R.bind (R.ok (0 : Int)) fun value_27 => (R.bind (R.bind (R.ok bits_16) fun xs_32 => R.bind (R.bind (R.ok at_17) fun a_28 => R.ok (some a_28)) fun lo_33 => R.bind (R.bind (R.bind (R.ok at_17) fun a_29 => R.bind (R.ok width_18) fun b_30 => R.ok (a_29 + b_30)) fun a_31 => R.ok (some a_31)) fun hi_34 => R.ok (cut xs_32 lo_33 hi_34)) fun xs_47 => forR (fun (st_35 : Int) (bit_36 : Int) => ((R.bind (R.bind (R.bind (R.ok (2 : Int)) fun a_37 => R.bind (R.ok st_35) fun b_38 => mulR a_37 b_38) fun a_39 => R.bind (R.ok bit_36) fun b_40 => R.ok (a_39 + b_40)) fun value_41 => (R.ok (Fl.nx value_41))) : R (Fl Int (Int × Int)))) (fun (st_35 : Int) => (R.bind (R.bind (R.ok st_35) fun a_44 => R.bind (R.bind (R.ok at_17) fun a_42 => R.bind (R.ok width_18) fun b_43 => R.ok (a_42 + b_43)) fun b_45 => R.ok (a_44, b_45)) fun a_46 => R.ok (Fl.rt a_46))) xs_47 value_27)))
def f_read_field (bits_16 : (List Int)) (at_17 : Int) (width_18 : Int) : R (Int × Int) := finR (b_read_field bits_16 at_17 width_18)
def b_gamma_bits (n_48 : Int) : R (Fl Unit (List Int)) :=
  (R.bind (R.bind (R.ok n_48) fun a_49 => R.ok (Builtin.Int.intBits a_49 : Int)) fun width_50 => (R.bind (R.bind (R.bind (R.bind (R.bind (R.ok (0 : Int)) fun a_51 => R.bind (R.ok ([] : List Int)) fun b_52 => R.ok (a_51 :: b_52)) szR) fun a_55 => R.bind (R.bind (R.ok width_50) fun a_53 => R.bind (R.ok (1 : Int)) fun b_54 => R.ok (a_53 - b_54)) fun b_56 => repR a_55 b_56) fun a_59 => R.bind (R.bind (R.ok width_50) fun a_57 => R.bind (R.ok n_48) fun b_58 => R.pu (f_field_bits a_57 b_58)) fun b_60 => szR (a_59 ++ b_60)) fun a_61 => R.ok (Fl.rt a_61)))
def f_gamma_bits (n_48 : Int) : R (List Int) := finR (b_gamma_bits n_48)
def b_read_gamma (bits_62 : (List Int)) (at_63 : Int) : R (Fl Unit (Int × Int)) :=
  (R.bind (R.ok (0 : Int)) fun zeros_64 => (whileR (fun (st_65 : Int) => (R.ok true)) (fun (st_65 : Int) => ((R.bind (R.bind (R.ok bits_62) fun a_68 => R.bind (R.bind (R.ok at_63) fun a_66 => R.bind (R.ok st_65) fun b_67 => R.ok (a_66 + b_67)) fun b_69 => R.bind (R.ok (1 : Int)) fun c_70 => (f_read_field a_68 b_69 c_70)) fun p_71 => (R.bind (R.bind (R.ok p_71.1) fun a_72 => R.bind (R.ok (1 : Int)) fun b_73 => R.ok (decide (a_72 = b_73))) fun c_74 => if c_74 = true then (R.bind (R.bind (R.ok bits_62) fun a_79 => R.bind (R.bind (R.ok at_63) fun a_75 => R.bind (R.ok st_65) fun b_76 => R.ok (a_75 + b_76)) fun b_80 => R.bind (R.bind (R.ok st_65) fun a_77 => R.bind (R.ok (1 : Int)) fun b_78 => R.ok (a_77 + b_78)) fun c_81 => (f_read_field a_79 b_80 c_81)) fun a_82 => R.ok (Fl.rt a_82)) else (R.bind (R.bind (R.ok st_65) fun a_83 => R.bind (R.ok (1 : Int)) fun b_84 => R.ok (a_83 + b_84)) fun zeros_85 => (R.bind (R.bind (R.ok zeros_85) fun a_86 => R.bind (R.ok 40) fun b_87 => R.ok (decide (b_87 < a_86))) fun c_88 => if c_88 = true then (R.bind (R.ok at_63) fun p_89 => R.er 1 p_89) else (R.ok (Fl.nx zeros_85)))))) : R (Fl Int (Int × Int)))) (fun (st_65 : Int) => R.bad) (100) zeros_64))
def f_read_gamma (bits_62 : (List Int)) (at_63 : Int) : R (Int × Int) := finR (b_read_gamma bits_62 at_63)
def b_delta_bits (n_90 : Int) : R (Fl Unit (List Int)) :=
  (R.bind (R.bind (R.ok n_90) fun a_91 => R.ok (Builtin.Int.intBits a_91 : Int)) fun width_92 => (R.bind (R.bind (R.bind (R.ok width_92) fun a_93 => R.pu (f_gamma_bits a_93)) fun a_100 => R.bind (R.bind (R.bind (R.ok width_92) fun a_94 => R.bind (R.ok n_90) fun b_95 => R.pu (f_field_bits a_94 b_95)) fun xs_97 => R.bind (R.bind (R.ok (1 : Int)) fun a_96 => R.ok (some a_96)) fun lo_98 => R.bind (R.ok none) fun hi_99 => R.ok (cut xs_97 lo_98 hi_99)) fun b_101 => szR (a_100 ++ b_101)) fun a_102 => R.ok (Fl.rt a_102)))
def f_delta_bits (n_90 : Int) : R (List Int) := finR (b_delta_bits n_90)
def b_read_delta (bits_103 : (List Int)) (at_104 : Int) : R (Fl Unit (Int × Int)) :=
  (R.bind (R.bind (R.ok bits_103) fun a_105 => R.bind (R.ok at_104) fun b_106 => (f_read_gamma a_105 b_106)) fun p_107 => (R.bind (R.bind (R.ok p_107.1) fun a_108 => R.bind (R.ok 40) fun b_109 => R.ok (decide (b_109 < a_108))) fun c_110 => if c_110 = true then (R.bind (R.ok at_104) fun p_111 => R.er 1 p_111) else (R.bind (R.bind (R.ok bits_103) fun a_114 => R.bind (R.ok p_107.2) fun b_115 => R.bind (R.bind (R.ok p_107.1) fun a_112 => R.bind (R.ok (1 : Int)) fun b_113 => R.ok (a_112 - b_113)) fun c_116 => (f_read_field a_114 b_115 c_116)) fun p_117 => (R.bind (R.bind (R.bind (R.bind (R.ok (1 : Int)) fun a_120 => R.bind (R.bind (R.ok p_107.1) fun a_118 => R.bind (R.ok (1 : Int)) fun b_119 => R.ok (a_118 - b_119)) fun b_121 => shlR a_120 b_121) fun a_122 => R.bind (R.ok p_117.1) fun b_123 => R.ok (a_122 + b_123)) fun a_124 => R.bind (R.ok p_117.2) fun b_125 => R.ok (a_124, b_125)) fun a_126 => R.ok (Fl.rt a_126)))))
def f_read_delta (bits_103 : (List Int)) (at_104 : Int) : R (Int × Int) := finR (b_read_delta bits_103 at_104)
def b_rice_bits (k_127 : Int) (n_128 : Int) : R (Fl Unit (List Int)) :=
  (R.bind (R.bind (R.bind (R.bind (R.bind (R.bind (R.ok (1 : Int)) fun a_129 => R.bind (R.ok ([] : List Int)) fun b_130 => R.ok (a_129 :: b_130)) szR) fun a_133 => R.bind (R.bind (R.ok n_128) fun a_131 => R.bind (R.ok k_127) fun b_132 => shrR a_131 b_132) fun b_134 => repR a_133 b_134) fun a_137 => R.bind (R.bind (R.bind (R.ok (0 : Int)) fun a_135 => R.bind (R.ok ([] : List Int)) fun b_136 => R.ok (a_135 :: b_136)) szR) fun b_138 => szR (a_137 ++ b_138)) fun a_147 => R.bind (R.bind (R.ok k_127) fun a_145 => R.bind (R.bind (R.ok n_128) fun a_143 => R.bind (R.bind (R.bind (R.ok (1 : Int)) fun a_139 => R.bind (R.ok k_127) fun b_140 => shlR a_139 b_140) fun a_141 => R.bind (R.ok (1 : Int)) fun b_142 => R.ok (a_141 - b_142)) fun b_144 => R.ok (Builtin.bitAnd a_143 b_144)) fun b_146 => R.pu (f_field_bits a_145 b_146)) fun b_148 => szR (a_147 ++ b_148)) fun a_149 => R.ok (Fl.rt a_149))
def f_rice_bits (k_127 : Int) (n_128 : Int) : R (List Int) := finR (b_rice_bits k_127 n_128)
def b_read_rice (k_150 : Int) (bits_151 : (List Int)) (at_152 : Int) : R (Fl Unit (Int × Int)) :=
  (R.bind (R.ok (0 : Int)) fun ones_153 => (whileR (fun (st_154 : Int) => (R.ok true)) (fun (st_154 : Int) => ((R.bind (R.bind (R.ok bits_151) fun a_157 => R.bind (R.bind (R.ok at_152) fun a_155 => R.bind (R.ok st_154) fun b_156 => R.ok (a_155 + b_156)) fun b_158 => R.bind (R.ok (1 : Int)) fun c_159 => (f_read_field a_157 b_158 c_159)) fun p_160 => (R.bind (R.bind (R.ok p_160.1) fun a_161 => R.bind (R.ok (0 : Int)) fun b_162 => R.ok (decide (a_161 = b_162))) fun c_163 => if c_163 = true then (R.bind (R.bind (R.ok bits_151) fun a_164 => R.bind (R.ok p_160.2) fun b_165 => R.bind (R.ok k_150) fun c_166 => (f_read_field a_164 b_165 c_166)) fun p_167 => (R.bind (R.bind (R.bind (R.bind (R.ok st_154) fun a_168 => R.bind (R.ok k_150) fun b_169 => shlR a_168 b_169) fun a_170 => R.bind (R.ok p_167.1) fun b_171 => R.ok (a_170 + b_171)) fun a_172 => R.bind (R.ok p_167.2) fun b_173 => R.ok (a_172, b_173)) fun a_174 => R.ok (Fl.rt a_174))) else (R.bind (R.bind (R.ok st_154) fun a_175 => R.bind (R.ok (1 : Int)) fun b_176 => R.ok (a_175 + b_176)) fun ones_177 => (R.ok (Fl.nx ones_177))))) : R (Fl Int (Int × Int)))) (fun (st_154 : Int) => R.bad) (List.length bits_151 + 100) ones_153))
def f_read_rice (k_150 : Int) (bits_151 : (List Int)) (at_152 : Int) : R (Int × Int) := finR (b_read_rice k_150 bits_151 at_152)
def b_fibonacci_bits (n_178 : Int) : R (Fl Unit (List Int)) :=
  (R.bind (R.bind (R.bind (R.ok (1 : Int)) fun a_179 => R.bind (R.ok ([] : List Int)) fun b_180 => R.ok (a_179 :: b_180)) szR) fun numbers_181 => (R.bind (R.ok (2 : Int)) fun following_182 => (whileR (fun (st_183 : ((List Int) × Int)) => (R.bind (R.ok st_183.2) fun a_184 => R.bind (R.ok n_178) fun b_185 => R.ok (decide (a_184 ≤ b_185)))) (fun (st_183 : ((List Int) × Int)) => ((R.bind (R.ok st_183.2) fun y_196 => R.bind (szR (st_183.1 ++ [y_196])) fun numbers_186 => (R.bind (R.bind (R.bind (R.ok numbers_186) fun a_188 => R.bind (R.bind (R.ok (1 : Int)) fun a_187 => R.ok (-a_187)) fun b_189 => idxR a_188 b_189) fun a_193 => R.bind (R.bind (R.ok numbers_186) fun a_191 => R.bind (R.bind (R.ok (2 : Int)) fun a_190 => R.ok (-a_190)) fun b_192 => idxR a_191 b_192) fun b_194 => R.ok (a_193 + b_194)) fun following_195 => (R.ok (Fl.nx (numbers_186, following_195))))) : R (Fl ((List Int) × Int) (List Int)))) (fun (st_183 : ((List Int) × Int)) => (R.bind (R.bind (R.ok ([] : List Int)) szR) fun bits_197 => (R.bind (R.bind (R.ok st_183.1) fun a_198 => R.ok (List.reverse a_198)) fun xs_218 => forR (fun (st_199 : (Int × (List Int))) (number_200 : Int) => ((R.bind (R.bind (R.bind (R.ok number_200) fun a_202 => R.bind (R.ok st_199.1) fun b_203 => R.ok (decide (a_202 ≤ b_203))) fun a_204 => R.ok (if a_204 = true then (1 : Int) else 0)) fun y_211 => R.bind (szR (st_199.2 ++ [y_211])) fun bits_201 => (R.bind (R.bind (R.ok number_200) fun a_205 => R.bind (R.ok st_199.1) fun b_206 => R.ok (decide (a_205 ≤ b_206))) fun c_207 => if c_207 = true then (R.bind (R.bind (R.ok st_199.1) fun a_208 => R.bind (R.ok number_200) fun b_209 => R.ok (a_208 - b_209)) fun n_210 => (R.ok (Fl.nx (n_210, bits_201)))) else (R.ok (Fl.nx (st_199.1, bits_201))))) : R (Fl (Int × (List Int)) (List Int)))) (fun (st_199 : (Int × (List Int))) => (R.bind (R.bind (R.ok (List.reverse st_199.2)) fun a_215 => R.bind (R.bind (R.bind (R.ok (1 : Int)) fun a_213 => R.bind (R.ok ([] : List Int)) fun b_214 => R.ok (a_213 :: b_214)) szR) fun b_216 => szR (a_215 ++ b_216)) fun a_217 => R.ok (Fl.rt a_217))) xs_218 (n_178, bits_197)))) (200) (numbers_181, following_182))))
def f_fibonacci_bits (n_178 : Int) : R (List Int) := finR (b_fibonacci_bits n_178)
def b_read_fibonacci (bits_219 : (List Int)) (at_220 : Int) : R (Fl Unit (Int × Int)) :=
  (R.bind (R.ok (0 : Int)) fun total_221 => (R.bind (R.bind (R.ok (1 : Int)) fun a_222 => R.bind (R.ok (2 : Int)) fun b_223 => R.ok (a_222, b_223)) fun p_224 => (R.bind (R.ok (0 : Int)) fun before_225 => (whileR (fun (st_226 : (Int × (Int × (Int × (Int × Int))))) => (R.ok true)) (fun (st_226 : (Int × (Int × (Int × (Int × Int))))) => ((R.bind (R.bind (R.ok bits_219) fun a_227 => R.bind (R.ok st_226.1) fun b_228 => R.bind (R.ok (1 : Int)) fun c_229 => (f_read_field a_227 b_228 c_229)) fun p_230 => (R.bind (R.bind (R.bind (R.ok p_230.1) fun a_231 => R.bind (R.ok (1 : Int)) fun b_232 => R.ok (decide (a_231 = b_232))) fun c_235 => if c_235 = true then (R.bind (R.ok st_226.2.2.1) fun a_233 => R.bind (R.ok (1 : Int)) fun b_234 => R.ok (decide (a_233 = b_234))) else R.ok false) fun c_236 => if c_236 = true then (R.bind (R.bind (R.ok st_226.2.1) fun a_237 => R.bind (R.ok p_230.2) fun b_238 => R.ok (a_237, b_238)) fun a_239 => R.ok (Fl.rt a_239)) else (R.bind (R.bind (R.ok st_226.2.1) fun a_242 => R.bind (R.bind (R.ok p_230.1) fun a_240 => R.bind (R.ok st_226.2.2.2.1) fun b_241 => mulR a_240 b_241) fun b_243 => R.ok (a_242 + b_243)) fun total_244 => (R.bind (R.ok p_230.1) fun before_245 => (R.bind (R.ok st_226.2.2.2.2) fun number_248 => R.bind (R.bind (R.ok st_226.2.2.2.1) fun a_246 => R.bind (R.ok st_226.2.2.2.2) fun b_247 => R.ok (a_246 + b_247)) fun following_249 => (R.ok (Fl.nx (p_230.2, total_244, before_245, number_248, following_249)))))))) : R (Fl (Int × (Int × (Int × (Int × Int)))) (Int × Int)))) (fun (st_226 : (Int × (Int × (Int × (Int × Int))))) => R.bad) (List.length bits_219 + 100) (at_220, total_221, before_225, p_224.1, p_224.2)))))
def f_read_fibonacci (bits_219 : (List Int)) (at_220 : Int) : R (Int × Int) := finR (b_read_fibonacci bits_219 at_220)
def b__law_cell (script_250 : Scr) (k_251 : Int) : R (Fl Unit Int) :=
  (R.bind (R.bind (R.ok k_251) fun a_253 => R.bind (R.bind (R.bind (R.ok script_250) fun z => R.ok z.ns) fun a_252 => R.ok (List.length a_252 : Int)) fun b_254 => R.ok (decide (a_253 < b_254))) fun c_255 => if c_255 = true then (R.bind (R.bind (R.bind (R.ok script_250) fun z => R.ok z.ns) fun a_256 => R.bind (R.ok k_251) fun b_257 => idxR a_256 b_257) fun a_258 => R.ok (Fl.rt a_258)) else (R.bind (R.ok (0 : Int)) fun a_259 => R.ok (Fl.rt a_259)))
def f__law_cell (script_250 : Scr) (k_251 : Int) : R Int := finR (b__law_cell script_250 k_251)
def b__law_number (cell_here_260 : Int) : R (Fl Unit Int) :=
  (R.bind (R.bind (R.bind (R.ok cell_here_260) fun a_261 => R.bind (R.ok (3 : Int)) fun b_262 => modR a_261 b_262) fun a_263 => R.bind (R.ok (1 : Int)) fun b_264 => R.ok (decide (a_263 = b_264))) fun c_265 => if c_265 = true then (R.bind (R.bind (R.ok (1 : Int)) fun a_270 => R.bind (R.bind (R.bind (R.ok cell_here_260) fun a_266 => R.bind (R.ok (3 : Int)) fun b_267 => divR a_266 b_267) fun a_268 => R.bind (R.ok (40 : Int)) fun b_269 => modR a_268 b_269) fun b_271 => R.ok (a_270 + b_271)) fun a_272 => R.ok (Fl.rt a_272)) else (R.bind (R.bind (R.bind (R.ok cell_here_260) fun a_273 => R.bind (R.ok (3 : Int)) fun b_274 => modR a_273 b_274) fun a_275 => R.bind (R.ok (2 : Int)) fun b_276 => R.ok (decide (a_275 = b_276))) fun c_277 => if c_277 = true then (R.bind (R.bind (R.ok (1 : Int)) fun a_292 => R.bind (R.bind (R.bind (R.bind (R.ok (1 : Int)) fun a_282 => R.bind (R.bind (R.bind (R.ok cell_here_260) fun a_278 => R.bind (R.ok (3 : Int)) fun b_279 => divR a_278 b_279) fun a_280 => R.bind (R.ok (40 : Int)) fun b_281 => modR a_280 b_281) fun b_283 => shlR a_282 b_283) fun a_288 => R.bind (R.bind (R.bind (R.ok cell_here_260) fun a_284 => R.bind (R.ok (120 : Int)) fun b_285 => divR a_284 b_285) fun a_286 => R.bind (R.ok (3 : Int)) fun b_287 => modR a_286 b_287) fun b_289 => R.ok (a_288 + b_289)) fun a_290 => R.bind (R.ok (1 : Int)) fun b_291 => R.ok (a_290 - b_291)) fun b_293 => R.ok (max a_292 b_293)) fun a_294 => R.ok (Fl.rt a_294)) else (R.bind (R.bind (R.ok (1 : Int)) fun a_303 => R.bind (R.bind (R.bind (R.ok cell_here_260) fun a_295 => R.bind (R.ok (3 : Int)) fun b_296 => divR a_295 b_296) fun a_301 => R.bind (R.bind (R.bind (R.ok (1 : Int)) fun a_297 => R.bind (R.ok (40 : Int)) fun b_298 => shlR a_297 b_298) fun a_299 => R.bind (R.ok (1 : Int)) fun b_300 => R.ok (a_299 - b_300)) fun b_302 => modR a_301 b_302) fun b_304 => R.ok (a_303 + b_304)) fun a_305 => R.ok (Fl.rt a_305))))
def f__law_number (cell_here_260 : Int) : R Int := finR (b__law_number cell_here_260)
def b__law_binary (n_306 : Int) : R (Fl Unit (List Int)) :=
  (R.bind (R.ok (1 : Int)) fun width_307 => (R.bind (R.bind (R.ok (41 : Int)) rng1R) fun xs_332 => forR (fun (st_309 : Int) (k_310 : Int) => ((R.bind (R.bind (R.bind (R.ok (1 : Int)) fun a_311 => R.bind (R.ok st_309) fun b_312 => shlR a_311 b_312) fun a_313 => R.bind (R.ok n_306) fun b_314 => R.ok (decide (a_313 ≤ b_314))) fun c_315 => if c_315 = true then (R.bind (R.bind (R.ok st_309) fun a_316 => R.bind (R.ok (1 : Int)) fun b_317 => R.ok (a_316 + b_317)) fun width_318 => (R.ok (Fl.nx width_318))) else (R.ok (Fl.nx st_309))) : R (Fl Int (List Int)))) (fun (st_309 : Int) => (R.bind (R.bind (R.bind (R.ok st_309) rng1R) (lcR (fun k_320 => (R.ok true)) (fun k_320 => (R.bind (R.bind (R.ok n_306) fun a_327 => R.bind (R.bind (R.ok (1 : Int)) fun a_325 => R.bind (R.bind (R.bind (R.ok st_309) fun a_321 => R.bind (R.ok (1 : Int)) fun b_322 => R.ok (a_321 - b_322)) fun a_323 => R.bind (R.ok k_320) fun b_324 => R.ok (a_323 - b_324)) fun b_326 => shlR a_325 b_326) fun b_328 => divR a_327 b_328) fun a_329 => R.bind (R.ok (2 : Int)) fun b_330 => modR a_329 b_330)))) fun a_331 => R.ok (Fl.rt a_331))) xs_332 width_307))
def f__law_binary (n_306 : Int) : R (List Int) := finR (b__law_binary n_306)
def b__law_gamma (n_333 : Int) : R (Fl Unit (List Int)) :=
  (R.bind (R.bind (R.ok n_333) fun a_334 => R.pu (f__law_binary a_334)) fun row_335 => (R.bind (R.bind (R.bind (R.bind (R.bind (R.bind (R.ok row_335) fun a_336 => R.ok (List.length a_336 : Int)) fun a_337 => R.bind (R.ok (1 : Int)) fun b_338 => R.ok (a_337 - b_338)) rng1R) (lcR (fun k_340 => (R.ok true)) (fun k_340 => (R.ok (0 : Int))))) fun a_341 => R.bind (R.ok row_335) fun b_342 => szR (a_341 ++ b_342)) fun a_343 => R.ok (Fl.rt a_343)))
def f__law_gamma (n_333 : Int) : R (List Int) := finR (b__law_gamma n_333)
def b__law_delta (n_344 : Int) : R (Fl Unit (List Int)) :=
  (R.bind (R.bind (R.ok n_344) fun a_345 => R.pu (f__law_binary a_345)) fun row_346 => (R.bind (R.bind (R.bind (R.bind (R.ok row_346) fun a_347 => R.ok (List.length a_347 : Int)) fun a_348 => R.pu (f__law_gamma a_348)) fun a_353 => R.bind (R.bind (R.ok row_346) fun xs_350 => R.bind (R.bind (R.ok (1 : Int)) fun a_349 => R.ok (some a_349)) fun lo_351 => R.bind (R.ok none) fun hi_352 => R.ok (cut xs_350 lo_351 hi_352)) fun b_354 => szR (a_353 ++ b_354)) fun a_355 => R.ok (Fl.rt a_355)))
def f__law_delta (n_344 : Int) : R (List Int) := finR (b__law_delta n_344)
def b__law_fibonacci (n_356 : Int) : R (Fl Unit (List Int)) :=
  (R.bind (R.bind (R.bind (R.ok (1 : Int)) fun a_359 => R.bind (R.bind (R.ok (2 : Int)) fun a_357 => R.bind (R.ok ([] : List Int)) fun b_358 => R.ok (a_357 :: b_358)) fun b_360 => R.ok (a_359 :: b_360)) szR) fun terms_361 => (R.bind (R.bind (R.ok (60 : Int)) rng1R) fun xs_417 => forR (fun (st_363 : (List Int)) (k_364 : Int) => ((R.bind (R.bind (R.bind (R.ok st_363) fun a_369 => R.bind (R.bind (R.bind (R.ok st_363) fun a_366 => R.ok (List.length a_366 : Int)) fun a_367 => R.bind (R.ok (1 : Int)) fun b_368 => R.ok (a_367 - b_368)) fun b_370 => idxR a_369 b_370) fun a_376 => R.bind (R.bind (R.ok st_363) fun a_374 => R.bind (R.bind (R.bind (R.ok st_363) fun a_371 => R.ok (List.length a_371 : Int)) fun a_372 => R.bind (R.ok (2 : Int)) fun b_373 => R.ok (a_372 - b_373)) fun b_375 => idxR a_374 b_375) fun b_377 => R.ok (a_376 + b_377)) fun y_378 => R.bind (szR (st_363 ++ [y_378])) fun terms_365 => (R.ok (Fl.nx terms_365))) : R (Fl (List Int) (List Int)))) (fun (st_363 : (List Int)) => (R.bind (R.bind (R.ok ([] : List Int)) szR) fun bits_379 => (R.bind (R.ok false) fun started_380 => (R.bind (R.bind (R.bind (R.ok st_363) fun a_381 => R.ok (List.length a_381 : Int)) rng1R) fun xs_416 => forR (fun (st_383 : (Int × ((List Int) × Bool))) (back_384 : Int) => ((R.bind (R.bind (R.ok st_363) fun a_390 => R.bind (R.bind (R.bind (R.bind (R.ok st_363) fun a_385 => R.ok (List.length a_385 : Int)) fun a_386 => R.bind (R.ok (1 : Int)) fun b_387 => R.ok (a_386 - b_387)) fun a_388 => R.bind (R.ok back_384) fun b_389 => R.ok (a_388 - b_389)) fun b_391 => idxR a_390 b_391) fun term_392 => (R.bind (R.bind (R.ok term_392) fun a_393 => R.bind (R.ok st_383.1) fun b_394 => R.ok (decide (a_393 ≤ b_394))) fun c_395 => if c_395 = true then (R.bind (R.ok true) fun started_396 => (R.bind (R.bind (R.ok st_383.1) fun a_397 => R.bind (R.ok term_392) fun b_398 => R.ok (a_397 - b_398)) fun n_399 => (R.bind (R.bind (R.bind (R.bind (R.ok (1 : Int)) fun a_400 => R.bind (R.ok ([] : List Int)) fun b_401 => R.ok (a_400 :: b_401)) szR) fun a_402 => R.bind (R.ok st_383.2.1) fun b_403 => szR (a_402 ++ b_403)) fun bits_404 => (R.ok (Fl.nx (n_399, bits_404, started_396)))))) else (R.bind (R.ok st_383.2.2) fun c_405 => if c_405 = true then (R.bind (R.bind (R.bind (R.bind (R.ok (0 : Int)) fun a_406 => R.bind (R.ok ([] : List Int)) fun b_407 => R.ok (a_406 :: b_407)) szR) fun a_408 => R.bind (R.ok st_383.2.1) fun b_409 => szR (a_408 ++ b_409)) fun bits_410 => (R.ok (Fl.nx (st_383.1, bits_410, st_383.2.2)))) else (R.ok (Fl.nx (st_383.1, st_383.2.1, st_383.2.2)))))) : R (Fl (Int × ((List Int) × Bool)) (List Int)))) (fun (st_383 : (Int × ((List Int) × Bool))) => (R.bind (R.bind (R.ok st_383.2.1) fun a_413 => R.bind (R.bind (R.bind (R.ok (1 : Int)) fun a_411 => R.bind (R.ok ([] : List Int)) fun b_412 => R.ok (a_411 :: b_412)) szR) fun b_414 => szR (a_413 ++ b_414)) fun a_415 => R.ok (Fl.rt a_415))) xs_416 (n_356, bits_379, started_380))))) xs_417 terms_361))
def f__law_fibonacci (n_356 : Int) : R (List Int) := finR (b__law_fibonacci n_356)
def b__law_rice (k_418 : Int) (n_419 : Int) : R (Fl Unit (List Int)) :=
  (R.bind (R.bind (R.bind (R.bind (R.bind (R.bind (R.ok n_419) fun a_422 => R.bind (R.bind (R.ok (1 : Int)) fun a_420 => R.bind (R.ok k_418) fun b_421 => shlR a_420 b_421) fun b_423 => divR a_422 b_423) rng1R) (lcR (fun j_425 => (R.ok true)) (fun j_425 => (R.ok (1 : Int))))) fun a_428 => R.bind (R.bind (R.bind (R.ok (0 : Int)) fun a_426 => R.bind (R.ok ([] : List Int)) fun b_427 => R.ok (a_426 :: b_427)) szR) fun b_429 => szR (a_428 ++ b_429)) fun a_442 => R.bind (R.bind (R.bind (R.ok k_418) rng1R) (lcR (fun j_431 => (R.ok true)) (fun j_431 => (R.bind (R.bind (R.ok n_419) fun a_438 => R.bind (R.bind (R.ok (1 : Int)) fun a_436 => R.bind (R.bind (R.bind (R.ok k_418) fun a_432 => R.bind (R.ok (1 : Int)) fun b_433 => R.ok (a_432 - b_433)) fun a_434 => R.bind (R.ok j_431) fun b_435 => R.ok (a_434 - b_435)) fun b_437 => shlR a_436 b_437) fun b_439 => divR a_438 b_439) fun a_440 => R.bind (R.ok (2 : Int)) fun b_441 => modR a_440 b_441)))) fun b_443 => szR (a_442 ++ b_443)) fun a_444 => R.ok (Fl.rt a_444))
def f__law_rice (k_418 : Int) (n_419 : Int) : R (List Int) := finR (b__law_rice k_418 n_419)
def b__law_all (n_445 : Int) (k_446 : Int) : R (Fl Unit (List (List Int))) :=
  (R.bind (R.bind (R.bind (R.bind (R.ok n_445) fun a_447 => R.pu (f_gamma_bits a_447)) fun a_464 => R.bind (R.bind (R.bind (R.ok n_445) fun a_448 => R.pu (f_delta_bits a_448)) fun a_462 => R.bind (R.bind (R.bind (R.ok n_445) fun a_449 => R.pu (f_fibonacci_bits a_449)) fun a_460 => R.bind (R.bind (R.bind (R.ok k_446) fun a_456 => R.bind (R.bind (R.ok n_445) fun a_454 => R.bind (R.bind (R.ok (200 : Int)) fun a_452 => R.bind (R.bind (R.ok (1 : Int)) fun a_450 => R.bind (R.ok k_446) fun b_451 => shlR a_450 b_451) fun b_453 => mulR a_452 b_453) fun b_455 => modR a_454 b_455) fun b_457 => R.pu (f_rice_bits a_456 b_457)) fun a_458 => R.bind (R.ok ([] : List (List Int))) fun b_459 => R.ok (a_458 :: b_459)) fun b_461 => R.ok (a_460 :: b_461)) fun b_463 => R.ok (a_462 :: b_463)) fun b_465 => R.ok (a_464 :: b_465)) szR) fun a_466 => R.ok (Fl.rt a_466))
def f__law_all (n_445 : Int) (k_446 : Int) : R (List (List Int)) := finR (b__law_all n_445 k_446)
def b_law (script_467 : Scr) : R (Fl Unit Bool) :=
  (R.bind (R.bind (R.ok script_467) fun a_468 => R.bind (R.ok (1 : Int)) fun b_469 => R.pu (f__law_cell a_468 b_469)) fun cell_here_470 => (R.bind (R.bind (R.ok cell_here_470) fun a_471 => R.bind (R.ok (21 : Int)) fun b_472 => modR a_471 b_472) fun k_473 => (R.bind (R.bind (R.bind (R.ok script_467) fun a_474 => R.bind (R.ok (0 : Int)) fun b_475 => R.pu (f__law_cell a_474 b_475)) fun a_476 => R.pu (f__law_number a_476)) fun first_477 => (R.bind (R.bind (R.bind (R.ok script_467) fun a_478 => R.bind (R.ok (2 : Int)) fun b_479 => R.pu (f__law_cell a_478 b_479)) fun a_480 => R.pu (f__law_number a_480)) fun other_481 => (R.bind (R.bind (R.ok first_477) fun a_486 => R.bind (R.bind (R.ok (200 : Int)) fun a_484 => R.bind (R.bind (R.ok (1 : Int)) fun a_482 => R.bind (R.ok k_473) fun b_483 => shlR a_482 b_483) fun b_485 => mulR a_484 b_485) fun b_487 => modR a_486 b_487) fun small_488 => (R.bind (R.bind (R.bind (R.bind (R.ok first_477) fun a_489 => R.pu (f__law_gamma a_489)) fun a_500 => R.bind (R.bind (R.bind (R.ok first_477) fun a_490 => R.pu (f__law_delta a_490)) fun a_498 => R.bind (R.bind (R.bind (R.ok first_477) fun a_491 => R.pu (f__law_fibonacci a_491)) fun a_496 => R.bind (R.bind (R.bind (R.ok k_473) fun a_492 => R.bind (R.ok small_488) fun b_493 => R.pu (f__law_rice a_492 b_493)) fun a_494 => R.bind (R.ok ([] : List (List Int))) fun b_495 => R.ok (a_494 :: b_495)) fun b_497 => R.ok (a_496 :: b_497)) fun b_499 => R.ok (a_498 :: b_499)) fun b_501 => R.ok (a_500 :: b_501)) szR) fun due_502 => (R.bind (R.bind (R.ok first_477) fun a_503 => R.bind (R.ok k_473) fun b_504 => R.pu (f__law_all a_503 b_504)) fun found_505 => (R.bind (R.bind (R.ok found_505) fun a_506 => R.bind (R.ok due_502) fun b_507 => R.bind (eqR a_506 b_507) fun c => R.ok (!c)) fun c_508 => if c_508 = true then (R.bind (R.ok false) fun a_509 => R.ok (Fl.rt a_509)) else (R.bind (R.bind (R.bind (R.bind (R.ok script_467) fun z => R.ok z.ns) fun xs_512 => R.bind (R.bind (R.ok (3 : Int)) fun a_510 => R.ok (some a_510)) fun lo_513 => R.bind (R.bind (R.ok (9 : Int)) fun a_511 => R.ok (some a_511)) fun hi_514 => R.ok (cut xs_512 lo_513 hi_514)) (lcR (fun one_515 => (R.ok true)) (fun one_515 => (R.bind (R.ok one_515) fun a_516 => R.bind (R.ok (2 : Int)) fun b_517 => modR a_516 b_517)))) fun before_518 => (R.bind (R.bind (R.bind (R.bind (R.ok script_467) fun z => R.ok z.ns) fun xs_521 => R.bind (R.bind (R.ok (9 : Int)) fun a_519 => R.ok (some a_519)) fun lo_522 => R.bind (R.bind (R.ok (20 : Int)) fun a_520 => R.ok (some a_520)) fun hi_523 => R.ok (cut xs_521 lo_522 hi_523)) (lcR (fun one_524 => (R.ok true)) (fun one_524 => (R.bind (R.ok one_524) fun a_525 => R.bind (R.ok (2 : Int)) fun b_526 => modR a_525 b_526)))) fun behind_527 => (R.bind (R.bind (R.ok before_518) fun a_528 => R.ok (List.length a_528 : Int)) fun at_529 => (R.bind (R.bind (R.ok (4 : Int)) rng1R) fun xs_654 => forR (fun (st_531 : Unit) (turn_532 : Int) => ((R.bind (R.bind (R.bind (R.ok before_518) fun a_535 => R.bind (R.bind (R.ok due_502) fun a_533 => R.bind (R.ok turn_532) fun b_534 => idxR a_533 b_534) fun b_536 => szR (a_535 ++ b_536)) fun a_537 => R.bind (R.ok behind_527) fun b_538 => szR (a_537 ++ b_538)) fun bits_539 => (R.bind (R.bind (R.ok at_529) fun a_543 => R.bind (R.bind (R.bind (R.ok due_502) fun a_540 => R.bind (R.ok turn_532) fun b_541 => idxR a_540 b_541) fun a_542 => R.ok (List.length a_542 : Int)) fun b_544 => R.ok (a_543 + b_544)) fun stop_545 => (seqF ((R.bind (R.bind (R.ok turn_532) fun a_546 => R.bind (R.ok (0 : Int)) fun b_547 => R.ok (decide (a_546 = b_547))) fun c_548 => if c_548 = true then (R.bind (R.bind (R.ok bits_539) fun a_569 => R.bind (R.ok at_529) fun b_570 => R.pu (f_read_gamma a_569 b_570)) fun told_571 => (R.ok (Fl.nx told_571))) else (R.bind (R.bind (R.ok turn_532) fun a_572 => R.bind (R.ok (1 : Int)) fun b_573 => R.ok (decide (a_572 = b_573))) fun c_574 => if c_574 = true then (R.bind (R.bind (R.ok bits_539) fun a_575 => R.bind (R.ok at_529) fun b_576 => R.pu (f_read_delta a_575 b_576)) fun told_577 => (R.ok (Fl.nx told_577))) else (R.bind (R.bind (R.ok turn_532) fun a_578 => R.bind (R.ok (2 : Int)) fun b_579 => R.ok (decide (a_578 = b_579))) fun c_580 => if c_580 = true then (R.bind (R.bind (R.ok bits_539) fun a_581 => R.bind (R.ok at_529) fun b_582 => R.pu (f_read_fibonacci a_581 b_582)) fun told_583 => (R.ok (Fl.nx told_583))) else (R.bind (R.bind (R.ok k_473) fun a_584 => R.bind (R.ok bits_539) fun b_585 => R.bind (R.ok at_529) fun c_586 => R.pu (f_read_rice a_584 b_585 c_586)) fun told_587 => (R.ok (Fl.nx told_587)))))) : R (Fl (Int × Int) Bool)) fun st_568 => (R.bind (R.bind (R.ok st_568) fun a_600 => R.bind (R.bind (R.bind (R.bind (R.bind (R.ok first_477) fun a_594 => R.bind (R.bind (R.ok first_477) fun a_592 => R.bind (R.bind (R.ok first_477) fun a_590 => R.bind (R.bind (R.ok small_488) fun a_588 => R.bind (R.ok ([] : List Int)) fun b_589 => R.ok (a_588 :: b_589)) fun b_591 => R.ok (a_590 :: b_591)) fun b_593 => R.ok (a_592 :: b_593)) fun b_595 => R.ok (a_594 :: b_595)) szR) fun a_596 => R.bind (R.ok turn_532) fun b_597 => idxR a_596 b_597) fun a_598 => R.bind (R.ok stop_545) fun b_599 => R.ok (a_598, b_599)) fun b_601 => R.bind (eqR a_600 b_601) fun c => R.ok (!c)) fun c_602 => if c_602 = true then (R.bind (R.ok false) fun a_603 => R.ok (Fl.rt a_603)) else (R.ok (Fl.nx ())))))) : R (Fl Unit Bool))) (fun (st_531 : Unit) => (R.bind (R.bind (R.ok other_481) fun a_604 => R.bind (R.ok k_473) fun b_605 => R.pu (f__law_all a_604 b_605)) fun codes_606 => (R.bind (R.bind (R.bind (R.bind (R.ok first_477) fun a_607 => R.bind (R.ok other_481) fun b_608 => R.ok (decide (a_607 = b_608))) fun a_627 => R.bind (R.bind (R.bind (R.ok first_477) fun a_609 => R.bind (R.ok other_481) fun b_610 => R.ok (decide (a_609 = b_610))) fun a_625 => R.bind (R.bind (R.bind (R.ok first_477) fun a_611 => R.bind (R.ok other_481) fun b_612 => R.ok (decide (a_611 = b_612))) fun a_623 => R.bind (R.bind (R.bind (R.ok small_488) fun a_619 => R.bind (R.bind (R.ok other_481) fun a_617 => R.bind (R.bind (R.ok (200 : Int)) fun a_615 => R.bind (R.bind (R.ok (1 : Int)) fun a_613 => R.bind (R.ok k_473) fun b_614 => shlR a_613 b_614) fun b_616 => mulR a_615 b_616) fun b_618 => modR a_617 b_618) fun b_620 => R.ok (decide (a_619 = b_620))) fun a_621 => R.bind (R.ok ([] : List Bool)) fun b_622 => R.ok (a_621 :: b_622)) fun b_624 => R.ok (a_623 :: b_624)) fun b_626 => R.ok (a_625 :: b_626)) fun b_628 => R.ok (a_627 :: b_628)) szR) fun same_629 => (R.bind (R.bind (R.ok (4 : Int)) rng1R) fun xs_653 => forR (fun (st_631 : Unit) (turn_632 : Int) => ((R.bind (R.bind (R.bind (R.bind (R.bind (R.ok codes_606) fun a_633 => R.bind (R.ok turn_632) fun b_634 => idxR a_633 b_634) fun xs_639 => R.bind (R.ok none) fun lo_640 => R.bind (R.bind (R.bind (R.bind (R.ok found_505) fun a_635 => R.bind (R.ok turn_632) fun b_636 => idxR a_635 b_636) fun a_637 => R.ok (List.length a_637 : Int)) fun a_638 => R.ok (some a_638)) fun hi_641 => R.ok (cut xs_639 lo_640 hi_641)) fun a_644 => R.bind (R.bind (R.ok found_505) fun a_642 => R.bind (R.ok turn_632) fun b_643 => idxR a_642 b_643) fun b_645 => eqR a_644 b_645) fun a_648 => R.bind (R.bind (R.ok same_629) fun a_646 => R.bind (R.ok turn_632) fun b_647 => idxR a_646 b_647) fun b_649 => R.ok (!decide (a_648 = b_649))) fun c_650 => if c_650 = true then (R.bind (R.ok false) fun a_651 => R.ok (Fl.rt a_651)) else (R.ok (Fl.nx ()))) : R (Fl Unit Bool))) (fun (st_631 : Unit) => (R.bind (R.ok true) fun a_652 => R.ok (Fl.rt a_652))) xs_653 ())))) xs_654 ()))))))))))))
def f_law (script_467 : Scr) : R Bool := finR (b_law script_467)
/-! ### the defs compute it -/
section
variable {P : Program} {w : World} {cf : Cf} {mg : Str → Option Value} {base : Heap} (T : Txt P w cf mg base)
theorem sc_field_bits : FnScope ["width", "value", "shift"] ["width", "value"] (defScope s_field_bits) := ⟨rfl, rfl, rfl, by decide +kernel, rfl, by decide +kernel, by decide +kernel⟩
theorem ok_field_bits : FnOk P w cf.K mg base CX0 1 T.a_field_bits T.d_field_bits ["width", "value"] (SpP cf 2 (sp2 f_field_bits)) := by
  refine fn2 (k := 0) (S := Unit) (enc := fun _ => [.un, .un, .un]) T.F_field_bits sc_field_bits rfl b_field_bits (fun width_1 value_2 => [.va (toD (width_1 : Int)), .va (toD (value_2 : Int)), .un]) (fun _ _ => rfl) fun cdv A outer s H E hr => ?_
  refine ⟨_, (pss_one (ps_ret (pe_lc (own := [("shift", 2)]) rfl sc_field_bits.nd (pi_range3 (by rfl) T.n_range (pa_cons (pe_op op_sub (pv 0) pe_int) (pa_cons (pe_un un_neg pe_int) (pa_cons (pe_un un_neg pe_int) pa_nil)))) (blkOk_by (own := [("shift", 2)]) (N := ["width", "value", "shift"]) (sc := defScope s_field_bits) (by decide +kernel)) (fun _ _ _ _ _ => (pg_name (i := 2) sc_field_bits.nd rfl (Or.inl rfl) (Or.inr rfl))) (fun _ _ _ _ _ => pts_nil) (fun _ _ _ _ _ => (pe_op op_and (pe_op op_shr (pv 1) (pv 2)) pe_int))))), fun width_1 value_2 => ?_⟩
  unfold b_field_bits
  exact (sb_ret (EF.toM (ef_lc (vs := [2]) (Gi := fun shift_10 => [.va (toD (width_1 : Int)), .va (toD (value_2 : Int)), .va (toD (shift_10 : Int))]) (ig_range3 (em_I0 (em_var 0 width_1 rfl) (em_int 1)) (em_neg (em_int 1)) (em_neg (em_int 1))) (ag_name 2) (by decide) (fun _ => rfl) (fun shift_10 => eb_yes) (fun shift_10 => (em_I0 (em_shr (em_var 1 value_2 rfl) (em_var 2 shift_10 rfl)) (em_int 1))))))
theorem sc_read_field : FnScope ["bits", "at", "width", "value", "bit"] ["bits", "at", "width"] (defScope s_read_field) := ⟨rfl, rfl, rfl, by decide +kernel, rfl, by decide +kernel, by decide +kernel⟩
theorem ok_read_field : FnOk P w cf.K mg base (L2.CX P w) 4 T.a_read_field T.d_read_field ["bits", "at", "width"] (SpX cf 3 (sp3 f_read_field)) := by
  refine fnX3 (k := 3) (S := Unit) (enc := fun _ => [.un, .un, .un, .un, .un]) T.F_read_field sc_read_field rfl b_read_field (fun bits_16 at_17 width_18 => [.va (toD (bits_16 : (List Int))), .va (toD (at_17 : Int)), .va (toD (width_18 : Int)), .un, .un]) (fun _ _ _ => rfl) fun cdv A outer s H E hr => ?_
  refine ⟨_, (pss_cons (ps_if (pt_cmpR op_gt (pe_op op_add (pv 1) (pv 2)) (pe_callB (lenK cf.K rfl) (by rfl) T.n_len (by decide +kernel) (pa_cons (pv 0) pa_nil)) (nomark _)) (pss_one (ps_rs (c := 0) (E := E) rfl rfl rfl (takes_of rfl rfl rfl rfl) T.X_Truncated.T T.X_Truncated.iC T.X_Truncated.tI T.X_Truncated.F1 (hr.mono (by decide)) T.X_Truncated.hb (by rfl) T.X_Truncated.hm (pe_callB (lenK cf.K rfl) (by rfl) T.n_len (by decide +kernel) (pa_cons (pv 0) pa_nil)))) pss_nil) (pss_cons (ps_set (i := 3) sc_read_field.nd rfl (.inl rfl) pe_int) (pss_cons (ps_for (passes_of rfl) rfl (listI cf.K rfl (pe_slice (sl_listK cf.K rfl) (pv 0) (po_some (pv 1)) (po_some (pe_op op_add (pv 1) (pv 2))))) (pg_name (i := 4) sc_read_field.nd rfl (.inl rfl)) (pss_one (ps_set (i := 3) sc_read_field.nd rfl (.inl rfl) (pe_op op_add (pe_op op_mulX pe_int (pv 3)) (pv 4))))) (pss_one (ps_ret (pe_tup (pa_cons (pv 3) (pa_cons (pe_op op_add (pv 1) (pv 2)) pa_nil)))))))), fun bits_16 at_17 width_18 => ?_⟩
  unfold b_read_field
  exact (sb_if (eb_test (em_B0 (em_I0 (em_var 1 at_17 rfl) (em_var 2 width_18 rfl)) (em_len (EM.toS (em_var 0 bits_16 rfl))))) (sb_raise2 (em_len (EM.toS (em_var 0 bits_16 rfl)))) (sb_skip (sb_asg (em_int 0) (ag_name 3) (fun value_27 => [.va (toD (bits_16 : (List Int))), .va (toD (at_17 : Int)), .va (toD (width_18 : Int)), .va (toD (value_27 : Int)), .un]) (fun _ => rfl) (fun value_27 => (sb_for (T := Int) (encL := fun st_35 => [.va (toD (bits_16 : (List Int))), .va (toD (at_17 : Int)), .va (toD (width_18 : Int)), .va (toD (st_35 : Int)), .un]) (ig_list (EF.toZ (ef_sl (EM.toS (em_var 0 bits_16 rfl)) (eo_some (em_var 1 at_17 rfl)) (eo_some (em_I0 (em_var 1 at_17 rfl) (em_var 2 width_18 rfl)))))) (ag_name 4) value_27 (.same (.same (.same (.same (.same .nil))))) (fun st_35 bit_36 => [.va (toD (bits_16 : (List Int))), .va (toD (at_17 : Int)), .va (toD (width_18 : Int)), .va (toD (st_35 : Int)), .va (toD (bit_36 : Int))]) (fun _ _ => rfl) (fun st_35 bit_36 => (sb_one (sb_asg (em_I0 (em_mul (em_int 2) (em_var 3 st_35 rfl)) (em_var 4 bit_36 rfl)) (ag_name 3) (fun value_41 => [.va (toD (bits_16 : (List Int))), .va (toD (at_17 : Int)), .va (toD (width_18 : Int)), .va (toD (value_41 : Int)), .va (toD (bit_36 : Int))]) (fun _ => rfl) (fun value_41 => (sb_next value_41 (.same (.same (.same (.same (.drop .nil)))))))))) (fun st_35 => (sb_ret (em_tup2 (em_var 3 st_35 rfl) (em_I0 (em_var 1 at_17 rfl) (em_var 2 width_18 rfl))))))))))
theorem sc_gamma_bits : FnScope ["n", "width"] ["n"] (defScope s_gamma_bits) := ⟨rfl, rfl, rfl, by decide +kernel, rfl, by decide +kernel, by decide +kernel⟩
theorem ok_gamma_bits : FnOk P w cf.K mg base CX0 2 T.a_gamma_bits T.d_gamma_bits ["n"] (SpP cf 1 (sp1 f_gamma_bits)) := by
  refine fn1 (k := 1) (S := Unit) (enc := fun _ => [.un, .un]) T.F_gamma_bits sc_gamma_bits rfl b_gamma_bits (fun n_48 => [.va (toD (n_48 : Int)), .un]) (fun _ => rfl) fun cdv A outer s H E hr => ?_
  refine ⟨_, (pss_cons (ps_set (i := 1) sc_gamma_bits.nd rfl (.inl rfl) (pe_bits (pv 0))) (pss_one (ps_ret (pe_op op_cat (pe_op op_rep (pe_lst (pa_cons pe_int pa_nil)) (pe_op op_sub (pv 1) pe_int)) (pe_call (ok_field_bits T) (hr.mono (by decide)) (by rfl) T.g_field_bits T.F_field_bits.kp T.b_field_bits .nil pass0 (pa_cons (pv 1) (pa_cons (pv 0) pa_nil))))))), fun n_48 => ?_⟩
  unfold b_gamma_bits
  exact (sb_asg (em_bits (em_var 0 n_48 rfl)) (ag_name 1) (fun width_50 => [.va (toD (n_48 : Int)), .va (toD (width_50 : Int))]) (fun _ => rfl) (fun width_50 => (sb_ret (EF.toM (ef_cat (EF.toL (ef_rep (EF.toL (ef_lst (eas_cons (em_int 0) (eas_nil (α := Int))))) (em_I0 (em_var 1 width_50 rfl) (em_int 1)))) (EM.toL (em_call2 (em_var 1 width_50 rfl) (em_var 0 n_48 rfl))))))))
theorem sc_read_gamma : FnScope ["bits", "at", "zeros", "bit", "behind"] ["bits", "at"] (defScope s_read_gamma) := ⟨rfl, rfl, rfl, by decide +kernel, rfl, by decide +kernel, by decide +kernel⟩
theorem ok_read_gamma : FnOk P w cf.K mg base (L2.CX P w) 5 T.a_read_gamma T.d_read_gamma ["bits", "at"] (SpX cf 2 (sp2 f_read_gamma)) := by
  refine fnX2 (k := 4) (S := Unit) (enc := fun _ => [.un, .un, .un, .un, .un]) T.F_read_gamma sc_read_gamma rfl b_read_gamma (fun bits_62 at_63 => [.va (toD (bits_62 : (List Int))), .va (toD (at_63 : Int)), .un, .un, .un]) (fun _ _ => rfl) fun cdv A outer s H E hr => ?_
  refine ⟨_, (pss_cons (ps_set (i := 2) sc_read_gamma.nd rfl (.inl rfl) pe_int) (pss_one (ps_while (passes_of rfl) (pt_val pe_bl) (pss_cons (ps_asg (pe_call (ok_read_field T) (hr.mono (by decide)) (by rfl) T.g_read_field T.F_read_field.kp T.b_read_field .nil (passes_call (takes_of rfl rfl rfl rfl) (fun _ _ _ _ h => h)) (pa_cons (pv 0) (pa_cons (pe_op op_add (pv 1) (pv 2)) (pa_cons pe_int pa_nil)))) (tupK cf.K rfl 2 rfl (pgs_cons (pg_name (i := 3) sc_read_gamma.nd rfl (.inl rfl)) (pgs_cons (pg_name (i := 4) sc_read_gamma.nd rfl (.inl rfl)) pgs_nil)))) (pss_cons (ps_if (pt_cmpR op_eq (pv 3) pe_int (nomark _)) (pss_one (ps_ret (pe_call (ok_read_field T) (hr.mono (by decide)) (by rfl) T.g_read_field T.F_read_field.kp T.b_read_field .nil (passes_call (takes_of rfl rfl rfl rfl) (fun _ _ _ _ h => h)) (pa_cons (pv 0) (pa_cons (pe_op op_add (pv 1) (pv 2)) (pa_cons (pe_op op_add (pv 2) pe_int) pa_nil)))))) pss_nil) (pss_cons (ps_aug (i := 2) sc_read_gamma.nd rfl (.inl rfl) pe_int iop_add) (pss_one (ps_if (pt_cmpR op_gt (pv 2) (pe_glob (v := .int 40) (by rfl) T.c_MOST_BITS ⟨_, rfl⟩) (nomark _)) (pss_one (ps_rs (c := 1) (E := E) rfl rfl rfl (takes_of rfl rfl rfl rfl) T.X_InvalidWord.T T.X_InvalidWord.iC T.X_InvalidWord.tI T.X_InvalidWord.F1 (hr.mono (by decide)) T.X_InvalidWord.hb (by rfl) T.X_InvalidWord.hm (pv 1))) pss_nil)))))))), fun bits_62 at_63 => ?_⟩
  unfold b_read_gamma
  exact (sb_asg (em_int 0) (ag_name 2) (fun zeros_64 => [.va (toD (bits_62 : (List Int))), .va (toD (at_63 : Int)), .va (toD (zeros_64 : Int)), .un, .un]) (fun _ => rfl) (fun zeros_64 => (sb_one (sb_while (T := Int) (encL := fun st_65 => [.va (toD (bits_62 : (List Int))), .va (toD (at_63 : Int)), .va (toD (st_65 : Int)), .un, .un]) (100) zeros_64 (.same (.same (.same (.same (.same .nil))))) (fun st_65 => (eb_B (em_bl true))) (fun st_65 => (sb_asg (em_callX3 (em_var 0 bits_62 rfl) (em_I0 (em_var 1 at_63 rfl) (em_var 2 st_65 rfl)) (em_int 1)) (ag_t2 (ag_name 3) (ag_name 4)) (fun p_71 => [.va (toD (bits_62 : (List Int))), .va (toD (at_63 : Int)), .va (toD (st_65 : Int)), .va (toD (p_71.1 : Int)), .va (toD (p_71.2 : Int))]) (fun _ => rfl) (fun p_71 => (sb_if (eb_test (em_eqI (em_var 3 p_71.1 rfl) (em_int 1))) (sb_ret2 (em_callX3 (em_var 0 bits_62 rfl) (em_I0 (em_var 1 at_63 rfl) (em_var 2 st_65 rfl)) (em_I0 (em_var 2 st_65 rfl) (em_int 1)))) (sb_skip (sb_aug (em_I0 (em_var 2 st_65 rfl) (em_int 1)) (fun zeros_85 => [.va (toD (bits_62 : (List Int))), .va (toD (at_63 : Int)), .va (toD (zeros_85 : Int)), .va (toD (p_71.1 : Int)), .va (toD (p_71.2 : Int))]) (fun _ => rfl) (fun zeros_85 => (sb_ifL (eb_test (em_B0 (em_var 2 zeros_85 rfl) (em_int 40))) (sb_raise (em_var 1 at_63 rfl)) (sb_next zeros_85 (.same (.same (.same (.drop (.drop .nil)))))))))))))) (fun st_65 => sb_bad)))))
theorem sc_delta_bits : FnScope ["n", "width"] ["n"] (defScope s_delta_bits) := ⟨rfl, rfl, rfl, by decide +kernel, rfl, by decide +kernel, by decide +kernel⟩
theorem ok_delta_bits : FnOk P w cf.K mg base CX0 3 T.a_delta_bits T.d_delta_bits ["n"] (SpP cf 1 (sp1 f_delta_bits)) := by
  refine fn1 (k := 2) (S := Unit) (enc := fun _ => [.un, .un]) T.F_delta_bits sc_delta_bits rfl b_delta_bits (fun n_90 => [.va (toD (n_90 : Int)), .un]) (fun _ => rfl) fun cdv A outer s H E hr => ?_
  refine ⟨_, (pss_cons (ps_set (i := 1) sc_delta_bits.nd rfl (.inl rfl) (pe_bits (pv 0))) (pss_one (ps_ret (pe_op op_cat (pe_call (ok_gamma_bits T) (hr.mono (by decide)) (by rfl) T.g_gamma_bits T.F_gamma_bits.kp T.b_gamma_bits .nil pass0 (pa_cons (pv 1) pa_nil)) (pe_slice (sl_listK cf.K rfl) (pe_call (ok_field_bits T) (hr.mono (by decide)) (by rfl) T.g_field_bits T.F_field_bits.kp T.b_field_bits .nil pass0 (pa_cons (pv 1) (pa_cons (pv 0) pa_nil))) (po_some pe_int) po_none))))), fun n_90 => ?_⟩
  unfold b_delta_bits
  exact (sb_asg (em_bits (em_var 0 n_90 rfl)) (ag_name 1) (fun width_92 => [.va (toD (n_90 : Int)), .va (toD (width_92 : Int))]) (fun _ => rfl) (fun width_92 => (sb_ret (EF.toM (ef_cat (EM.toL (em_call1 (em_var 1 width_92 rfl))) (EF.toL (ef_sl (EM.toS (em_call2 (em_var 1 width_92 rfl) (em_var 0 n_90 rfl))) (eo_some (em_int 1)) eo_none)))))))
theorem sc_read_delta : FnScope ["bits", "at", "width", "behind", "rest"] ["bits", "at"] (defScope s_read_delta) := ⟨rfl, rfl, rfl, by decide +kernel, rfl, by decide +kernel, by decide +kernel⟩
theorem ok_read_delta : FnOk P w cf.K mg base (L2.CX P w) 6 T.a_read_delta T.d_read_delta ["bits", "at"] (SpX cf 2 (sp2 f_read_delta)) := by
  refine fnX2 (k := 5) (S := Unit) (enc := fun _ => [.un, .un, .un, .un, .un]) T.F_read_delta sc_read_delta rfl b_read_delta (fun bits_103 at_104 => [.va (toD (bits_103 : (List Int))), .va (toD (at_104 : Int)), .un, .un, .un]) (fun _ _ => rfl) fun cdv A outer s H E hr => ?_
  refine ⟨_, (pss_cons (ps_asg (pe_call (ok_read_gamma T) (hr.mono (by decide)) (by rfl) T.g_read_gamma T.F_read_gamma.kp T.b_read_gamma .nil (passes_call (takes_of rfl rfl rfl rfl) (fun _ _ _ _ h => h)) (pa_cons (pv 0) (pa_cons (pv 1) pa_nil))) (tupK cf.K rfl 2 rfl (pgs_cons (pg_name (i := 2) sc_read_delta.nd rfl (.inl rfl)) (pgs_cons (pg_name (i := 3) sc_read_delta.nd rfl (.inl rfl)) pgs_nil)))) (pss_cons (ps_if (pt_cmpR op_gt (pv 2) (pe_glob (v := .int 40) (by rfl) T.c_MOST_BITS ⟨_, rfl⟩) (nomark _)) (pss_one (ps_rs (c := 1) (E := E) rfl rfl rfl (takes_of rfl rfl rfl rfl) T.X_InvalidWord.T T.X_InvalidWord.iC T.X_InvalidWord.tI T.X_InvalidWord.F1 (hr.mono (by decide)) T.X_InvalidWord.hb (by rfl) T.X_InvalidWord.hm (pv 1))) pss_nil) (pss_cons (ps_asg (pe_call (ok_read_field T) (hr.mono (by decide)) (by rfl) T.g_read_field T.F_read_field.kp T.b_read_field .nil (passes_call (takes_of rfl rfl rfl rfl) (fun _ _ _ _ h => h)) (pa_cons (pv 0) (pa_cons (pv 3) (pa_cons (pe_op op_sub (pv 2) pe_int) pa_nil)))) (tupK cf.K rfl 2 rfl (pgs_cons (pg_name (i := 4) sc_read_delta.nd rfl (.inl rfl)) (pgs_cons (pg_name (i := 3) sc_read_delta.nd rfl (.inl rfl)) pgs_nil)))) (pss_one (ps_ret (pe_tup (pa_cons (pe_op op_add (pe_op op_shlW pe_int (pe_op op_sub (pv 2) pe_int)) (pv 4)) (pa_cons (pv 3) pa_nil)))))))), fun bits_103 at_104 => ?_⟩
  unfold b_read_delta
  exact (sb_asg (em_callX2 (em_var 0 bits_103 rfl) (em_var 1 at_104 rfl)) (ag_t2 (ag_name 2) (ag_name 3)) (fun p_107 => [.va (toD (bits_103 : (List Int))), .va (toD (at_104 : Int)), .va (toD (p_107.1 : Int)), .va (toD (p_107.2 : Int)), .un]) (fun _ => rfl) (fun p_107 => (sb_if (eb_test (em_B0 (em_var 2 p_107.1 rfl) (em_int 40))) (sb_raise2 (em_var 1 at_104 rfl)) (sb_skip (sb_asg (em_callX3 (em_var 0 bits_103 rfl) (em_var 3 p_107.2 rfl) (em_I0 (em_var 2 p_107.1 rfl) (em_int 1))) (ag_t2 (ag_name 4) (ag_name 3)) (fun p_117 => [.va (toD (bits_103 : (List Int))), .va (toD (at_104 : Int)), .va (toD (p_107.1 : Int)), .va (toD (p_117.2 : Int)), .va (toD (p_117.1 : Int))]) (fun _ => rfl) (fun p_117 => (sb_ret (em_tup2 (em_I0 (em_shl (em_int 1) (em_I0 (em_var 2 p_107.1 rfl) (em_int 1))) (em_var 4 p_117.1 rfl)) (em_var 3 p_117.2 rfl)))))))))
theorem sc_rice_bits : FnScope ["k", "n"] ["k", "n"] (defScope s_rice_bits) := ⟨rfl, rfl, rfl, by decide +kernel, rfl, by decide +kernel, by decide +kernel⟩
theorem ok_rice_bits : FnOk P w cf.K mg base CX0 2 T.a_rice_bits T.d_rice_bits ["k", "n"] (SpP cf 2 (sp2 f_rice_bits)) := by
  refine fn2 (k := 1) (S := Unit) (enc := fun _ => [.un, .un]) T.F_rice_bits sc_rice_bits rfl b_rice_bits (fun k_127 n_128 => [.va (toD (k_127 : Int)), .va (toD (n_128 : Int))]) (fun _ _ => rfl) fun cdv A outer s H E hr => ?_
  refine ⟨_, (pss_one (ps_ret (pe_op op_cat (pe_op op_cat (pe_op op_rep (pe_lst (pa_cons pe_int pa_nil)) (pe_op op_shr (pv 1) (pv 0))) (pe_lst (pa_cons pe_int pa_nil))) (pe_call (ok_field_bits T) (hr.mono (by decide)) (by rfl) T.g_field_bits T.F_field_bits.kp T.b_field_bits .nil pass0 (pa_cons (pv 0) (pa_cons (pe_op op_and (pv 1) (pe_op op_sub (pe_op op_shlW pe_int (pv 0)) pe_int)) pa_nil)))))), fun k_127 n_128 => ?_⟩
  unfold b_rice_bits
  exact (sb_ret (EF.toM (ef_cat (EF.toL (ef_cat (EF.toL (ef_rep (EF.toL (ef_lst (eas_cons (em_int 1) (eas_nil (α := Int))))) (em_shr (em_var 1 n_128 rfl) (em_var 0 k_127 rfl)))) (EF.toL (ef_lst (eas_cons (em_int 0) (eas_nil (α := Int))))))) (EM.toL (em_call2 (em_var 0 k_127 rfl) (em_I0 (em_var 1 n_128 rfl) (em_I0 (em_shl (em_int 1) (em_var 0 k_127 rfl)) (em_int 1))))))))
theorem sc_read_rice : FnScope ["k", "bits", "at", "ones", "bit", "behind", "rest"] ["k", "bits", "at"] (defScope s_read_rice) := ⟨rfl, rfl, rfl, by decide +kernel, rfl, by decide +kernel, by decide +kernel⟩
theorem ok_read_rice : FnOk P w cf.K mg base (L2.CX P w) 5 T.a_read_rice T.d_read_rice ["k", "bits", "at"] (SpX cf 3 (sp3 f_read_rice)) := by
  refine fnX3 (k := 4) (S := Unit) (enc := fun _ => [.un, .un, .un, .un, .un, .un, .un]) T.F_read_rice sc_read_rice rfl b_read_rice (fun k_150 bits_151 at_152 => [.va (toD (k_150 : Int)), .va (toD (bits_151 : (List Int))), .va (toD (at_152 : Int)), .un, .un, .un, .un]) (fun _ _ _ => rfl) fun cdv A outer s H E hr => ?_
  refine ⟨_, (pss_cons (ps_set (i := 3) sc_read_rice.nd rfl (.inl rfl) pe_int) (pss_one (ps_while (passes_of rfl) (pt_val pe_bl) (pss_cons (ps_asg (pe_call (ok_read_field T) (hr.mono (by decide)) (by rfl) T.g_read_field T.F_read_field.kp T.b_read_field .nil (passes_call (takes_of rfl rfl rfl rfl) (fun _ _ _ _ h => h)) (pa_cons (pv 1) (pa_cons (pe_op op_add (pv 2) (pv 3)) (pa_cons pe_int pa_nil)))) (tupK cf.K rfl 2 rfl (pgs_cons (pg_name (i := 4) sc_read_rice.nd rfl (.inl rfl)) (pgs_cons (pg_name (i := 5) sc_read_rice.nd rfl (.inl rfl)) pgs_nil)))) (pss_cons (ps_if (pt_cmpR op_eq (pv 4) pe_int (nomark _)) (pss_cons (ps_asg (pe_call (ok_read_field T) (hr.mono (by decide)) (by rfl) T.g_read_field T.F_read_field.kp T.b_read_field .nil (passes_call (takes_of rfl rfl rfl rfl) (fun _ _ _ _ h => h)) (pa_cons (pv 1) (pa_cons (pv 5) (pa_cons (pv 0) pa_nil)))) (tupK cf.K rfl 2 rfl (pgs_cons (pg_name (i := 6) sc_read_rice.nd rfl (.inl rfl)) (pgs_cons (pg_name (i := 5) sc_read_rice.nd rfl (.inl rfl)) pgs_nil)))) (pss_one (ps_ret (pe_tup (pa_cons (pe_op op_add (pe_op op_shlW (pv 3) (pv 0)) (pv 6)) (pa_cons (pv 5) pa_nil)))))) pss_nil) (pss_one (ps_aug (i := 3) sc_read_rice.nd rfl (.inl rfl) pe_int iop_add))))))), fun k_150 bits_151 at_152 => ?_⟩
  unfold b_read_rice
  exact (sb_asg (em_int 0) (ag_name 3) (fun ones_153 => [.va (toD (k_150 : Int)), .va (toD (bits_151 : (List Int))), .va (toD (at_152 : Int)), .va (toD (ones_153 : Int)), .un, .un, .un]) (fun _ => rfl) (fun ones_153 => (sb_one (sb_while (T := Int) (encL := fun st_154 => [.va (toD (k_150 : Int)), .va (toD (bits_151 : (List Int))), .va (toD (at_152 : Int)), .va (toD (st_154 : Int)), .un, .un, .un]) (List.length bits_151 + 100) ones_153 (.same (.same (.same (.same (.same (.same (.same .nil))))))) (fun st_154 => (eb_B (em_bl true))) (fun st_154 => (sb_asg (em_callX3 (em_var 1 bits_151 rfl) (em_I0 (em_var 2 at_152 rfl) (em_var 3 st_154 rfl)) (em_int 1)) (ag_t2 (ag_name 4) (ag_name 5)) (fun p_160 => [.va (toD (k_150 : Int)), .va (toD (bits_151 : (List Int))), .va (toD (at_152 : Int)), .va (toD (st_154 : Int)), .va (toD (p_160.1 : Int)), .va (toD (p_160.2 : Int)), .un]) (fun _ => rfl) (fun p_160 => (sb_if (eb_test (em_eqI (em_var 4 p_160.1 rfl) (em_int 0))) (sb_assoc (sb_asg (em_callX3 (em_var 1 bits_151 rfl) (em_var 5 p_160.2 rfl) (em_var 0 k_150 rfl)) (ag_t2 (ag_name 6) (ag_name 5)) (fun p_167 => [.va (toD (k_150 : Int)), .va (toD (bits_151 : (List Int))), .va (toD (at_152 : Int)), .va (toD (st_154 : Int)), .va (toD (p_160.1 : Int)), .va (toD (p_167.2 : Int)), .va (toD (p_167.1 : Int))]) (fun _ => rfl) (fun p_167 => (sb_ret2 (em_tup2 (em_I0 (em_shl (em_var 3 st_154 rfl) (em_var 0 k_150 rfl)) (em_var 6 p_167.1 rfl)) (em_var 5 p_167.2 rfl)))))) (sb_skip (sb_one (sb_aug (em_I0 (em_var 3 st_154 rfl) (em_int 1)) (fun ones_177 => [.va (toD (k_150 : Int)), .va (toD (bits_151 : (List Int))), .va (toD (at_152 : Int)), .va (toD (ones_177 : Int)), .va (toD (p_160.1 : Int)), .va (toD (p_160.2 : Int)), .un]) (fun _ => rfl) (fun ones_177 => (sb_next ones_177 (.same (.same (.same (.same (.drop (.drop (.same .nil)))))))))))))))) (fun st_154 => sb_bad)))))
theorem sc_fibonacci_bits : FnScope ["n", "numbers", "following", "bits", "number"] ["n"] (defScope s_fibonacci_bits) := ⟨rfl, rfl, rfl, by decide +kernel, rfl, by decide +kernel, by decide +kernel⟩
theorem ok_fibonacci_bits : FnOk P w cf.K mg base CX0 1 T.a_fibonacci_bits T.d_fibonacci_bits ["n"] (SpP cf 1 (sp1 f_fibonacci_bits)) := by
  refine fn1 (k := 0) (S := Unit) (enc := fun _ => [.un, .un, .un, .un, .un]) T.F_fibonacci_bits sc_fibonacci_bits rfl b_fibonacci_bits (fun n_178 => [.va (toD (n_178 : Int)), .un, .un, .un, .un]) (fun _ => rfl) fun cdv A outer s H E hr => ?_
  refine ⟨_, (pss_cons (ps_set (i := 1) sc_fibonacci_bits.nd rfl (.inl rfl) (pe_lst (pa_cons pe_int pa_nil))) (pss_cons (ps_set (i := 2) sc_fibonacci_bits.nd rfl (.inl rfl) pe_int) (pss_cons (ps_while PassesOwn.never (pt_cmpR op_le (pv 2) (pv 0) (nomark _)) (pss_cons (ps_expr (pe_bm PySem.F.plainAttrs_list PySem.F.slot_list_append PySem.F.type_list_append mt_append (pv 1) (pa_cons (pv 2) pa_nil))) (pss_one (ps_set (i := 2) sc_fibonacci_bits.nd rfl (.inl rfl) (pe_op op_add (pe_ix (ix_listK cf.K rfl) (pv 1) (pe_un un_neg pe_int) (fun _ _ => rfl)) (pe_ix (ix_listK cf.K rfl) (pv 1) (pe_un un_neg pe_int) (fun _ _ => rfl))))))) (pss_cons (ps_set (i := 3) sc_fibonacci_bits.nd rfl (.inl rfl) (pe_lst pa_nil)) (pss_cons (ps_for PassesOwn.never rfl (revI cf.K rfl (by rfl) T.n_reversed (pa_cons (pv 1) pa_nil)) (pg_name (i := 4) sc_fibonacci_bits.nd rfl (.inl rfl)) (pss_cons (ps_expr (pe_bm PySem.F.plainAttrs_list PySem.F.slot_list_append PySem.F.type_list_append mt_append (pv 3) (pa_cons (pe_callTy call_int1 (by rfl) T.n_int (by decide +kernel) (pa_cons (pe_cmpR op_le (pv 4) (pv 0) (nomark _)) pa_nil)) pa_nil))) (pss_one (ps_if (pt_cmpR op_le (pv 4) (pv 0) (nomark _)) (pss_one (ps_aug (i := 0) sc_fibonacci_bits.nd rfl (.inl rfl) (pv 4) iop_sub)) pss_nil)))) (pss_cons (ps_expr (pe_bm0 PySem.F.plainAttrs_list PySem.F.slot_list_reverse PySem.F.type_list_reverse mt_reverse (pv 3))) (pss_one (ps_ret (pe_op op_cat (pv 3) (pe_lst (pa_cons pe_int pa_nil))))))))))), fun n_178 => ?_⟩
  unfold b_fibonacci_bits
  exact (sb_asgO (ef_lst (eas_cons (em_int 1) (eas_nil (α := Int)))) (fun numbers_181 => [.va (toD (n_178 : Int)), .ol (List.map toD (numbers_181 : (List Int))), .un, .un, .un]) (fun _ => rfl) (fun numbers_181 => (sb_asg (em_int 2) (ag_name 2) (fun following_182 => [.va (toD (n_178 : Int)), .ol (List.map toD (numbers_181 : (List Int))), .va (toD (following_182 : Int)), .un, .un]) (fun _ => rfl) (fun following_182 => (sb_while (T := ((List Int) × Int)) (encL := fun st_183 => [.va (toD (n_178 : Int)), .ol (List.map toD (st_183.1 : (List Int))), .va (toD (st_183.2 : Int)), .un, .un]) (200) (numbers_181, following_182) (.same (.same (.same (.same (.same .nil))))) (fun st_183 => (eb_test (em_B0 (em_var 2 st_183.2 rfl) (em_var 0 n_178 rfl)))) (fun st_183 => (sb_app (i := 1) (xs := st_183.1) rfl (em_var 2 st_183.2 rfl) (fun numbers_186 => [.va (toD (n_178 : Int)), .ol (List.map toD (numbers_186 : (List Int))), .va (toD (st_183.2 : Int)), .un, .un]) (fun _ => rfl) (fun numbers_186 => (sb_one (sb_asg (em_I0 (em_ixL (EL.toS (el_own 1 numbers_186 rfl)) (em_neg (em_int 1))) (em_ixL (EL.toS (el_own 1 numbers_186 rfl)) (em_neg (em_int 2)))) (ag_name 2) (fun following_195 => [.va (toD (n_178 : Int)), .ol (List.map toD (numbers_186 : (List Int))), .va (toD (following_195 : Int)), .un, .un]) (fun _ => rfl) (fun following_195 => (sb_next (numbers_186, following_195) (.same (.same (.same (.same (.same .nil)))))))))))) (fun st_183 => (sb_asgO (ef_lst (eas_nil (α := Int))) (fun bits_197 => [.va (toD (n_178 : Int)), .ol (List.map toD (st_183.1 : (List Int))), .va (toD (st_183.2 : Int)), .ol (List.map toD (bits_197 : (List Int))), .un]) (fun _ => rfl) (fun bits_197 => (sb_frz (i := 1) rfl ([.va (toD (n_178 : Int)), .va (toD (st_183.1 : (List Int))), .va (toD (st_183.2 : Int)), .ol (List.map toD (bits_197 : (List Int))), .un]) rfl (sb_for (T := (Int × (List Int))) (encL := fun st_199 => [.va (toD (st_199.1 : Int)), .va (toD (st_183.1 : (List Int))), .va (toD (st_183.2 : Int)), .ol (List.map toD (st_199.2 : (List Int))), .un]) (ig_rev (EM.toZ (em_var 1 st_183.1 rfl))) (ag_name 4) (n_178, bits_197) (.same (.same (.same (.same (.same .nil))))) (fun st_199 number_200 => [.va (toD (st_199.1 : Int)), .va (toD (st_183.1 : (List Int))), .va (toD (st_183.2 : Int)), .ol (List.map toD (st_199.2 : (List Int))), .va (toD (number_200 : Int))]) (fun _ _ => rfl) (fun st_199 number_200 => (sb_app (i := 3) (xs := st_199.2) rfl (em_intB (em_B0 (em_var 4 number_200 rfl) (em_var 0 st_199.1 rfl))) (fun bits_201 => [.va (toD (st_199.1 : Int)), .va (toD (st_183.1 : (List Int))), .va (toD (st_183.2 : Int)), .ol (List.map toD (bits_201 : (List Int))), .va (toD (number_200 : Int))]) (fun _ => rfl) (fun bits_201 => (sb_ifL (eb_test (em_B0 (em_var 4 number_200 rfl) (em_var 0 st_199.1 rfl))) (sb_one (sb_aug (em_I0 (em_var 0 st_199.1 rfl) (em_var 4 number_200 rfl)) (fun n_210 => [.va (toD (n_210 : Int)), .va (toD (st_183.1 : (List Int))), .va (toD (st_183.2 : Int)), .ol (List.map toD (bits_201 : (List Int))), .va (toD (number_200 : Int))]) (fun _ => rfl) (fun n_210 => (sb_next (n_210, bits_201) (.same (.same (.same (.same (.drop .nil))))))))) (sb_next (st_199.1, bits_201) (.same (.same (.same (.same (.drop .nil)))))))))) (fun st_199 => (sb_rev (i := 3) (xs := st_199.2) rfl ([.va (toD (st_199.1 : Int)), .va (toD (st_183.1 : (List Int))), .va (toD (st_183.2 : Int)), .ol (List.map toD ((List.reverse st_199.2) : (List Int))), .un]) rfl (sb_ret (EF.toM (ef_cat (el_own 3 (List.reverse st_199.2) rfl) (EF.toL (ef_lst (eas_cons (em_int 1) (eas_nil (α := Int))))))))))))))))))))
theorem sc_read_fibonacci : FnScope ["bits", "at", "total", "before", "number", "following", "bit"] ["bits", "at"] (defScope s_read_fibonacci) := ⟨rfl, rfl, rfl, by decide +kernel, rfl, by decide +kernel, by decide +kernel⟩
theorem ok_read_fibonacci : FnOk P w cf.K mg base (L2.CX P w) 5 T.a_read_fibonacci T.d_read_fibonacci ["bits", "at"] (SpX cf 2 (sp2 f_read_fibonacci)) := by
  refine fnX2 (k := 4) (S := Unit) (enc := fun _ => [.un, .un, .un, .un, .un, .un, .un]) T.F_read_fibonacci sc_read_fibonacci rfl b_read_fibonacci (fun bits_219 at_220 => [.va (toD (bits_219 : (List Int))), .va (toD (at_220 : Int)), .un, .un, .un, .un, .un]) (fun _ _ => rfl) fun cdv A outer s H E hr => ?_
  refine ⟨_, (pss_cons (ps_set (i := 2) sc_read_fibonacci.nd rfl (.inl rfl) pe_int) (pss_cons (ps_asg (pe_tup (pa_cons pe_int (pa_cons pe_int pa_nil))) (tupK cf.K rfl 2 rfl (pgs_cons (pg_name (i := 4) sc_read_fibonacci.nd rfl (.inl rfl)) (pgs_cons (pg_name (i := 5) sc_read_fibonacci.nd rfl (.inl rfl)) pgs_nil)))) (pss_cons (ps_set (i := 3) sc_read_fibonacci.nd rfl (.inl rfl) pe_int) (pss_one (ps_while (passes_of rfl) (pt_val pe_bl) (pss_cons (ps_asg (pe_call (ok_read_field T) (hr.mono (by decide)) (by rfl) T.g_read_field T.F_read_field.kp T.b_read_field .nil (passes_call (takes_of rfl rfl rfl rfl) (fun _ _ _ _ h => h)) (pa_cons (pv 0) (pa_cons (pv 1) (pa_cons pe_int pa_nil)))) (tupK cf.K rfl 2 rfl (pgs_cons (pg_name (i := 6) sc_read_fibonacci.nd rfl (.inl rfl)) (pgs_cons (pg_name (i := 1) sc_read_fibonacci.nd rfl (.inl rfl)) pgs_nil)))) (pss_cons (ps_if (PW.pt (pw_and (pt_cmpR op_eq (pv 6) pe_int (nomark _)) (pw_and1 (pt_cmpR op_eq (pv 3) pe_int (nomark _))))) (pss_one (ps_ret (pe_tup (pa_cons (pv 2) (pa_cons (pv 1) pa_nil))))) pss_nil) (pss_cons (ps_aug (i := 2) sc_read_fibonacci.nd rfl (.inl rfl) (pe_op op_mulX (pv 6) (pv 4)) iop_add) (pss_cons (ps_set (i := 3) sc_read_fibonacci.nd rfl (.inl rfl) (pv 6)) (pss_one (ps_par (i := 4) (j := 5) rfl sc_read_fibonacci.nd rfl rfl (by decide) rfl rfl (pa_cons (pv 5) (pa_cons (pe_op op_add (pv 4) (pv 5)) pa_nil)) (by rfl)))))))))))), fun bits_219 at_220 => ?_⟩
  unfold b_read_fibonacci
  exact (sb_asg (em_int 0) (ag_name 2) (fun total_221 => [.va (toD (bits_219 : (List Int))), .va (toD (at_220 : Int)), .va (toD (total_221 : Int)), .un, .un, .un, .un]) (fun _ => rfl) (fun total_221 => (sb_asg (em_tup2 (em_int 1) (em_int 2)) (ag_t2 (ag_name 4) (ag_name 5)) (fun p_224 => [.va (toD (bits_219 : (List Int))), .va (toD (at_220 : Int)), .va (toD (total_221 : Int)), .un, .va (toD (p_224.1 : Int)), .va (toD (p_224.2 : Int)), .un]) (fun _ => rfl) (fun p_224 => (sb_asg (em_int 0) (ag_name 3) (fun before_225 => [.va (toD (bits_219 : (List Int))), .va (toD (at_220 : Int)), .va (toD (total_221 : Int)), .va (toD (before_225 : Int)), .va (toD (p_224.1 : Int)), .va (toD (p_224.2 : Int)), .un]) (fun _ => rfl) (fun before_225 => (sb_one (sb_while (T := (Int × (Int × (Int × (Int × Int))))) (encL := fun st_226 => [.va (toD (bits_219 : (List Int))), .va (toD (st_226.1 : Int)), .va (toD (st_226.2.1 : Int)), .va (toD (st_226.2.2.1 : Int)), .va (toD (st_226.2.2.2.1 : Int)), .va (toD (st_226.2.2.2.2 : Int)), .un]) (List.length bits_219 + 100) (at_220, total_221, before_225, p_224.1, p_224.2) (.same (.same (.same (.same (.same (.same (.same .nil))))))) (fun st_226 => (eb_B (em_bl true))) (fun st_226 => (sb_asg (em_callX3 (em_var 0 bits_219 rfl) (em_var 1 st_226.1 rfl) (em_int 1)) (ag_t2 (ag_name 6) (ag_name 1)) (fun p_230 => [.va (toD (bits_219 : (List Int))), .va (toD (p_230.2 : Int)), .va (toD (st_226.2.1 : Int)), .va (toD (st_226.2.2.1 : Int)), .va (toD (st_226.2.2.2.1 : Int)), .va (toD (st_226.2.2.2.2 : Int)), .va (toD (p_230.1 : Int))]) (fun _ => rfl) (fun p_230 => (sb_if (eb_and (eb_test (em_eqI (em_var 6 p_230.1 rfl) (em_int 1))) (eb_test (em_eqI (em_var 3 st_226.2.2.1 rfl) (em_int 1)))) (sb_ret2 (em_tup2 (em_var 2 st_226.2.1 rfl) (em_var 1 p_230.2 rfl))) (sb_skip (sb_aug (em_I0 (em_var 2 st_226.2.1 rfl) (em_mul (em_var 6 p_230.1 rfl) (em_var 4 st_226.2.2.2.1 rfl))) (fun total_244 => [.va (toD (bits_219 : (List Int))), .va (toD (p_230.2 : Int)), .va (toD (total_244 : Int)), .va (toD (st_226.2.2.1 : Int)), .va (toD (st_226.2.2.2.1 : Int)), .va (toD (st_226.2.2.2.2 : Int)), .va (toD (p_230.1 : Int))]) (fun _ => rfl) (fun total_244 => (sb_asg (em_var 6 p_230.1 rfl) (ag_name 3) (fun before_245 => [.va (toD (bits_219 : (List Int))), .va (toD (p_230.2 : Int)), .va (toD (total_244 : Int)), .va (toD (before_245 : Int)), .va (toD (st_226.2.2.2.1 : Int)), .va (toD (st_226.2.2.2.2 : Int)), .va (toD (p_230.1 : Int))]) (fun _ => rfl) (fun before_245 => (sb_one (sb_par2 (em_var 5 st_226.2.2.2.2 rfl) (em_I0 (em_var 4 st_226.2.2.2.1 rfl) (em_var 5 st_226.2.2.2.2 rfl)) (fun number_248 following_249 => [.va (toD (bits_219 : (List Int))), .va (toD (p_230.2 : Int)), .va (toD (total_244 : Int)), .va (toD (before_245 : Int)), .va (toD (number_248 : Int)), .va (toD (following_249 : Int)), .va (toD (p_230.1 : Int))]) (fun _ _ => rfl) (fun number_248 following_249 => (sb_next (p_230.2, total_244, before_245, number_248, following_249) (.same (.same (.same (.same (.same (.same (.drop .nil)))))))))))))))))))) (fun st_226 => sb_bad)))))))))
theorem sc__law_cell : FnScope ["_law_script", "_law_k"] ["_law_script", "_law_k"] (defScope s__law_cell) := ⟨rfl, rfl, rfl, by decide +kernel, rfl, by decide +kernel, by decide +kernel⟩
theorem ok__law_cell : FnOk P w cf.K mg base CX0 1 T.a__law_cell T.d__law_cell ["_law_script", "_law_k"] (SpP cf 2 (sp2 f__law_cell)) := by
  refine fn2 (k := 0) (S := Unit) (enc := fun _ => [.un, .un]) T.F__law_cell sc__law_cell rfl b__law_cell (fun script_250 k_251 => [.va (toD (script_250 : Scr)), .va (toD (k_251 : Int))]) (fun _ _ => rfl) fun cdv A outer s H E hr => ?_
  refine ⟨_, (pss_cons (ps_if (pt_cmpR op_lt (pv 1) (pe_callB (lenK cf.K rfl) (by rfl) T.n_len (by decide +kernel) (pa_cons (pv 0) pa_nil)) (nomark _)) (pss_one (ps_ret (pe_callTy call_int1 (by rfl) T.n_int (by decide +kernel) (pa_cons (pe_ix (ix_listK cf.K rfl) (pv 0) (pv 1) (fun _ _ => rfl)) pa_nil)))) pss_nil) (pss_one (ps_ret pe_int))), fun script_250 k_251 => ?_⟩
  unfold b__law_cell
  exact (sb_if (eb_test (em_B0 (em_var 1 k_251 rfl) (em_len (EM.scr (em_var 0 script_250 rfl))))) (sb_ret2 (em_intI (em_ixL (EM.scr (em_var 0 script_250 rfl)) (em_var 1 k_251 rfl)))) (sb_skip (sb_ret (em_int 0))))
theorem sc__law_number : FnScope ["_law_cell_here"] ["_law_cell_here"] (defScope s__law_number) := ⟨rfl, rfl, rfl, by decide +kernel, rfl, by decide +kernel, by decide +kernel⟩
theorem ok__law_number : FnOk P w cf.K mg base CX0 1 T.a__law_number T.d__law_number ["_law_cell_here"] (SpP cf 1 (sp1 f__law_number)) := by
  refine fn1 (k := 0) (S := Unit) (enc := fun _ => [.un]) T.F__law_number sc__law_number rfl b__law_number (fun cell_here_260 => [.va (toD (cell_here_260 : Int))]) (fun _ => rfl) fun cdv A outer s H E hr => ?_
  refine ⟨_, (pss_cons (ps_if (pt_cmpR op_eq (pe_op op_mod (pv 0) pe_int) pe_int (nomark _)) (pss_one (ps_ret (pe_op op_add pe_int (pe_op op_mod (pe_op op_fdivW (pv 0) pe_int) pe_int)))) pss_nil) (pss_cons (ps_if (pt_cmpR op_eq (pe_op op_mod (pv 0) pe_int) pe_int (nomark _)) (pss_one (ps_ret (pe_callB (call_max2 rfl) (by rfl) T.n_max (by decide +kernel) (pa_cons pe_int (pa_cons (pe_op op_sub (pe_op op_add (pe_op op_shlW pe_int (pe_op op_mod (pe_op op_fdivW (pv 0) pe_int) pe_int)) (pe_op op_mod (pe_op op_fdivW (pv 0) pe_int) pe_int)) pe_int) pa_nil))))) pss_nil) (pss_one (ps_ret (pe_op op_add pe_int (pe_op op_mod (pe_op op_fdivW (pv 0) pe_int) (pe_op op_sub (pe_op op_shlW pe_int pe_int) pe_int))))))), fun cell_here_260 => ?_⟩
  unfold b__law_number
  exact (sb_if (eb_test (em_eqI (em_mod (em_var 0 cell_here_260 rfl) (em_int 3)) (em_int 1))) (sb_ret2 (em_I0 (em_int 1) (em_mod (em_div (em_var 0 cell_here_260 rfl) (em_int 3)) (em_int 40)))) (sb_skip (sb_if (eb_test (em_eqI (em_mod (em_var 0 cell_here_260 rfl) (em_int 3)) (em_int 2))) (sb_ret2 (em_max2 (em_int 1) (em_I0 (em_I0 (em_shl (em_int 1) (em_mod (em_div (em_var 0 cell_here_260 rfl) (em_int 3)) (em_int 40))) (em_mod (em_div (em_var 0 cell_here_260 rfl) (em_int 120)) (em_int 3))) (em_int 1)))) (sb_skip (sb_ret (em_I0 (em_int 1) (em_mod (em_div (em_var 0 cell_here_260 rfl) (em_int 3)) (em_I0 (em_shl (em_int 1) (em_int 40)) (em_int 1)))))))))
theorem sc__law_binary : FnScope ["_law_n", "_law_width", "_law_k"] ["_law_n"] (defScope s__law_binary) := ⟨rfl, rfl, rfl, by decide +kernel, rfl, by decide +kernel, by decide +kernel⟩
theorem ok__law_binary : FnOk P w cf.K mg base CX0 1 T.a__law_binary T.d__law_binary ["_law_n"] (SpP cf 1 (sp1 f__law_binary)) := by
  refine fn1 (k := 0) (S := Unit) (enc := fun _ => [.un, .un, .un]) T.F__law_binary sc__law_binary rfl b__law_binary (fun n_306 => [.va (toD (n_306 : Int)), .un, .un]) (fun _ => rfl) fun cdv A outer s H E hr => ?_
  refine ⟨_, (pss_cons (ps_set (i := 1) sc__law_binary.nd rfl (.inr rfl) pe_int) (pss_cons (ps_for PassesOwn.never rfl (pi_range1 (by rfl) T.n_range (pa_cons pe_int pa_nil)) (pg_name (i := 2) sc__law_binary.nd rfl (.inl rfl)) (pss_one (ps_if (pt_cmpR op_le (pe_op op_shlW pe_int (pv 1)) (pv 0) (nomark _)) (pss_one (ps_set (i := 1) sc__law_binary.nd rfl (.inr rfl) (pe_op op_add (pv 1) pe_int))) pss_nil))) (pss_one (ps_ret (pe_lc (own := [("_law_k", 2)]) rfl sc__law_binary.nd (pi_range1 (by rfl) T.n_range (pa_cons (pv 1) pa_nil)) (blkOk_by (own := [("_law_k", 2)]) (N := ["_law_n", "_law_width", "_law_k"]) (sc := defScope s__law_binary) (by decide +kernel)) (fun _ _ _ _ _ => (pg_name (i := 2) sc__law_binary.nd rfl (Or.inl rfl) (Or.inr rfl))) (fun _ _ _ _ _ => pts_nil) (fun _ _ _ _ _ => (pe_op op_mod (pe_op op_fdivW (pv 0) (pe_op op_shlW pe_int (pe_op op_sub (pe_op op_sub (pv 1) pe_int) (pv 2)))) pe_int))))))), fun n_306 => ?_⟩
  unfold b__law_binary
  exact (sb_asg (em_int 1) (ag_name 1) (fun width_307 => [.va (toD (n_306 : Int)), .va (toD (width_307 : Int)), .un]) (fun _ => rfl) (fun width_307 => (sb_for (T := Int) (encL := fun st_309 => [.va (toD (n_306 : Int)), .va (toD (st_309 : Int)), .un]) (ig_range1 (em_int 41)) (ag_name 2) width_307 (.same (.same (.same .nil))) (fun st_309 k_310 => [.va (toD (n_306 : Int)), .va (toD (st_309 : Int)), .va (toD (k_310 : Int))]) (fun _ _ => rfl) (fun st_309 k_310 => (sb_ifL (eb_test (em_B0 (em_shl (em_int 1) (em_var 1 st_309 rfl)) (em_var 0 n_306 rfl))) (sb_one (sb_asg (em_I0 (em_var 1 st_309 rfl) (em_int 1)) (ag_name 1) (fun width_318 => [.va (toD (n_306 : Int)), .va (toD (width_318 : Int)), .va (toD (k_310 : Int))]) (fun _ => rfl) (fun width_318 => (sb_next width_318 (.same (.same (.drop .nil))))))) (sb_next st_309 (.same (.same (.drop .nil)))))) (fun st_309 => (sb_ret (EF.toM (ef_lc (vs := [2]) (Gi := fun k_320 => [.va (toD (n_306 : Int)), .va (toD (st_309 : Int)), .va (toD (k_320 : Int))]) (ig_range1 (em_var 1 st_309 rfl)) (ag_name 2) (by decide) (fun _ => rfl) (fun k_320 => eb_yes) (fun k_320 => (em_mod (em_div (em_var 0 n_306 rfl) (em_shl (em_int 1) (em_I0 (em_I0 (em_var 1 st_309 rfl) (em_int 1)) (em_var 2 k_320 rfl)))) (em_int 2))))))))))
theorem sc__law_gamma : FnScope ["_law_n", "_law_row", "_law_k"] ["_law_n"] (defScope s__law_gamma) := ⟨rfl, rfl, rfl, by decide +kernel, rfl, by decide +kernel, by decide +kernel⟩
theorem ok__law_gamma : FnOk P w cf.K mg base CX0 2 T.a__law_gamma T.d__law_gamma ["_law_n"] (SpP cf 1 (sp1 f__law_gamma)) := by
  refine fn1 (k := 1) (S := Unit) (enc := fun _ => [.un, .un, .un]) T.F__law_gamma sc__law_gamma rfl b__law_gamma (fun n_333 => [.va (toD (n_333 : Int)), .un, .un]) (fun _ => rfl) fun cdv A outer s H E hr => ?_
  refine ⟨_, (pss_cons (ps_set (i := 1) sc__law_gamma.nd rfl (.inl rfl) (pe_call (ok__law_binary T) (hr.mono (by decide)) (by rfl) T.g__law_binary T.F__law_binary.kp T.b__law_binary .nil pass0 (pa_cons (pv 0) pa_nil))) (pss_one (ps_ret (pe_op op_cat (pe_lc (own := [("_law_k", 2)]) rfl sc__law_gamma.nd (pi_range1 (by rfl) T.n_range (pa_cons (pe_op op_sub (pe_callB (lenK cf.K rfl) (by rfl) T.n_len (by decide +kernel) (pa_cons (pv 1) pa_nil)) pe_int) pa_nil)) (blkOk_by (own := [("_law_k", 2)]) (N := ["_law_n", "_law_row", "_law_k"]) (sc := defScope s__law_gamma) (by decide +kernel)) (fun _ _ _ _ _ => (pg_name (i := 2) sc__law_gamma.nd rfl (Or.inl rfl) (Or.inr rfl))) (fun _ _ _ _ _ => pts_nil) (fun _ _ _ _ _ => pe_int)) (pv 1))))), fun n_333 => ?_⟩
  unfold b__law_gamma
  exact (sb_asg (em_call1 (em_var 0 n_333 rfl)) (ag_name 1) (fun row_335 => [.va (toD (n_333 : Int)), .va (toD (row_335 : (List Int))), .un]) (fun _ => rfl) (fun row_335 => (sb_ret (EF.toM (ef_cat (EF.toL (ef_lc (vs := [2]) (Gi := fun k_340 => [.va (toD (n_333 : Int)), .va (toD (row_335 : (List Int))), .va (toD (k_340 : Int))]) (ig_range1 (em_I0 (em_len (EM.toS (em_var 1 row_335 rfl))) (em_int 1))) (ag_name 2) (by decide) (fun _ => rfl) (fun k_340 => eb_yes) (fun k_340 => (em_int 0)))) (EM.toL (em_var 1 row_335 rfl)))))))
theorem sc__law_delta : FnScope ["_law_n", "_law_row"] ["_law_n"] (defScope s__law_delta) := ⟨rfl, rfl, rfl, by decide +kernel, rfl, by decide +kernel, by decide +kernel⟩
theorem ok__law_delta : FnOk P w cf.K mg base CX0 3 T.a__law_delta T.d__law_delta ["_law_n"] (SpP cf 1 (sp1 f__law_delta)) := by
  refine fn1 (k := 2) (S := Unit) (enc := fun _ => [.un, .un]) T.F__law_delta sc__law_delta rfl b__law_delta (fun n_344 => [.va (toD (n_344 : Int)), .un]) (fun _ => rfl) fun cdv A outer s H E hr => ?_
  refine ⟨_, (pss_cons (ps_set (i := 1) sc__law_delta.nd rfl (.inl rfl) (pe_call (ok__law_binary T) (hr.mono (by decide)) (by rfl) T.g__law_binary T.F__law_binary.kp T.b__law_binary .nil pass0 (pa_cons (pv 0) pa_nil))) (pss_one (ps_ret (pe_op op_cat (pe_call (ok__law_gamma T) (hr.mono (by decide)) (by rfl) T.g__law_gamma T.F__law_gamma.kp T.b__law_gamma .nil pass0 (pa_cons (pe_callB (lenK cf.K rfl) (by rfl) T.n_len (by decide +kernel) (pa_cons (pv 1) pa_nil)) pa_nil)) (pe_slice (sl_listK cf.K rfl) (pv 1) (po_some pe_int) po_none))))), fun n_344 => ?_⟩
  unfold b__law_delta
  exact (sb_asg (em_call1 (em_var 0 n_344 rfl)) (ag_name 1) (fun row_346 => [.va (toD (n_344 : Int)), .va (toD (row_346 : (List Int)))]) (fun _ => rfl) (fun row_346 => (sb_ret (EF.toM (ef_cat (EM.toL (em_call1 (em_len (EM.toS (em_var 1 row_346 rfl))))) (EF.toL (ef_sl (EM.toS (em_var 1 row_346 rfl)) (eo_some (em_int 1)) eo_none)))))))
theorem sc__law_fibonacci : FnScope ["_law_n", "_law_terms", "_law_k", "_law_bits", "_law_started", "_law_back", "_law_term"] ["_law_n"] (defScope s__law_fibonacci) := ⟨rfl, rfl, rfl, by decide +kernel, rfl, by decide +kernel, by decide +kernel⟩
theorem ok__law_fibonacci : FnOk P w cf.K mg base CX0 1 T.a__law_fibonacci T.d__law_fibonacci ["_law_n"] (SpP cf 1 (sp1 f__law_fibonacci)) := by
  refine fn1 (k := 0) (S := Unit) (enc := fun _ => [.un, .un, .un, .un, .un, .un, .un]) T.F__law_fibonacci sc__law_fibonacci rfl b__law_fibonacci (fun n_356 => [.va (toD (n_356 : Int)), .un, .un, .un, .un, .un, .un]) (fun _ => rfl) fun cdv A outer s H E hr => ?_
  refine ⟨_, (pss_cons (ps_set (i := 1) sc__law_fibonacci.nd rfl (.inl rfl) (pe_lst (pa_cons pe_int (pa_cons pe_int pa_nil)))) (pss_cons (ps_for PassesOwn.never rfl (pi_range1 (by rfl) T.n_range (pa_cons pe_int pa_nil)) (pg_name (i := 2) sc__law_fibonacci.nd rfl (.inl rfl)) (pss_one (ps_expr (pe_bm PySem.F.plainAttrs_list PySem.F.slot_list_append PySem.F.type_list_append mt_append (pv 1) (pa_cons (pe_op op_add (pe_ix (ix_listK cf.K rfl) (pv 1) (pe_op op_sub (pe_callB (lenK cf.K rfl) (by rfl) T.n_len (by decide +kernel) (pa_cons (pv 1) pa_nil)) pe_int) (fun _ _ => rfl)) (pe_ix (ix_listK cf.K rfl) (pv 1) (pe_op op_sub (pe_callB (lenK cf.K rfl) (by rfl) T.n_len (by decide +kernel) (pa_cons (pv 1) pa_nil)) pe_int) (fun _ _ => rfl))) pa_nil))))) (pss_cons (ps_set (i := 3) sc__law_fibonacci.nd rfl (.inl rfl) (pe_lst pa_nil)) (pss_cons (ps_set (i := 4) sc__law_fibonacci.nd rfl (.inl rfl) pe_bl) (pss_cons (ps_for PassesOwn.never rfl (pi_range1 (by rfl) T.n_range (pa_cons (pe_callB (lenK cf.K rfl) (by rfl) T.n_len (by decide +kernel) (pa_cons (pv 1) pa_nil)) pa_nil)) (pg_name (i := 5) sc__law_fibonacci.nd rfl (.inl rfl)) (pss_cons (ps_set (i := 6) sc__law_fibonacci.nd rfl (.inl rfl) (pe_ix (ix_listK cf.K rfl) (pv 1) (pe_op op_sub (pe_op op_sub (pe_callB (lenK cf.K rfl) (by rfl) T.n_len (by decide +kernel) (pa_cons (pv 1) pa_nil)) pe_int) (pv 5)) (fun _ _ => rfl))) (pss_one (ps_if (pt_cmpR op_le (pv 6) (pv 0) (nomark _)) (pss_cons (ps_set (i := 4) sc__law_fibonacci.nd rfl (.inl rfl) pe_bl) (pss_cons (ps_set (i := 0) sc__law_fibonacci.nd rfl (.inl rfl) (pe_op op_sub (pv 0) (pv 6))) (pss_one (ps_set (i := 3) sc__law_fibonacci.nd rfl (.inl rfl) (pe_op op_cat (pe_lst (pa_cons pe_int pa_nil)) (pv 3)))))) (pss_one (ps_if (pt_val (pv 4)) (pss_one (ps_set (i := 3) sc__law_fibonacci.nd rfl (.inl rfl) (pe_op op_cat (pe_lst (pa_cons pe_int pa_nil)) (pv 3)))) pss_nil)))))) (pss_one (ps_ret (pe_op op_cat (pv 3) (pe_lst (pa_cons pe_int pa_nil)))))))))), fun n_356 => ?_⟩
  unfold b__law_fibonacci
  exact (sb_asgO (ef_lst (eas_cons (em_int 1) (eas_cons (em_int 2) (eas_nil (α := Int))))) (fun terms_361 => [.va (toD (n_356 : Int)), .ol (List.map toD (terms_361 : (List Int))), .un, .un, .un, .un, .un]) (fun _ => rfl) (fun terms_361 => (sb_for (T := (List Int)) (encL := fun st_363 => [.va (toD (n_356 : Int)), .ol (List.map toD (st_363 : (List Int))), .un, .un, .un, .un, .un]) (ig_range1 (em_int 60)) (ag_name 2) terms_361 (.same (.same (.same (.same (.same (.same (.same .nil))))))) (fun st_363 k_364 => [.va (toD (n_356 : Int)), .ol (List.map toD (st_363 : (List Int))), .va (toD (k_364 : Int)), .un, .un, .un, .un]) (fun _ _ => rfl) (fun st_363 k_364 => (sb_one (sb_app (i := 1) (xs := st_363) rfl (em_I0 (em_ixL (EL.toS (el_own 1 st_363 rfl)) (em_I0 (em_len (EL.toS (el_own 1 st_363 rfl))) (em_int 1))) (em_ixL (EL.toS (el_own 1 st_363 rfl)) (em_I0 (em_len (EL.toS (el_own 1 st_363 rfl))) (em_int 2)))) (fun terms_365 => [.va (toD (n_356 : Int)), .ol (List.map toD (terms_365 : (List Int))), .va (toD (k_364 : Int)), .un, .un, .un, .un]) (fun _ => rfl) (fun terms_365 => (sb_next terms_365 (.same (.same (.drop (.same (.same (.same (.same .nil)))))))))))) (fun st_363 => (sb_asg (EF.toM (ef_lst (eas_nil (α := Int)))) (ag_name 3) (fun bits_379 => [.va (toD (n_356 : Int)), .ol (List.map toD (st_363 : (List Int))), .un, .va (toD (bits_379 : (List Int))), .un, .un, .un]) (fun _ => rfl) (fun bits_379 => (sb_asg (em_bl false) (ag_name 4) (fun started_380 => [.va (toD (n_356 : Int)), .ol (List.map toD (st_363 : (List Int))), .un, .va (toD (bits_379 : (List Int))), .va (toD (started_380 : Bool)), .un, .un]) (fun _ => rfl) (fun started_380 => (sb_for (T := (Int × ((List Int) × Bool))) (encL := fun st_383 => [.va (toD (st_383.1 : Int)), .ol (List.map toD (st_363 : (List Int))), .un, .va (toD (st_383.2.1 : (List Int))), .va (toD (st_383.2.2 : Bool)), .un, .un]) (ig_range1 (em_len (EL.toS (el_own 1 st_363 rfl)))) (ag_name 5) (n_356, bits_379, started_380) (.same (.same (.same (.same (.same (.same (.same .nil))))))) (fun st_383 back_384 => [.va (toD (st_383.1 : Int)), .ol (List.map toD (st_363 : (List Int))), .un, .va (toD (st_383.2.1 : (List Int))), .va (toD (st_383.2.2 : Bool)), .va (toD (back_384 : Int)), .un]) (fun _ _ => rfl) (fun st_383 back_384 => (sb_asg (em_ixL (EL.toS (el_own 1 st_363 rfl)) (em_I0 (em_I0 (em_len (EL.toS (el_own 1 st_363 rfl))) (em_int 1)) (em_var 5 back_384 rfl))) (ag_name 6) (fun term_392 => [.va (toD (st_383.1 : Int)), .ol (List.map toD (st_363 : (List Int))), .un, .va (toD (st_383.2.1 : (List Int))), .va (toD (st_383.2.2 : Bool)), .va (toD (back_384 : Int)), .va (toD (term_392 : Int))]) (fun _ => rfl) (fun term_392 => (sb_ifL (eb_test (em_B0 (em_var 6 term_392 rfl) (em_var 0 st_383.1 rfl))) (sb_asg (em_bl true) (ag_name 4) (fun started_396 => [.va (toD (st_383.1 : Int)), .ol (List.map toD (st_363 : (List Int))), .un, .va (toD (st_383.2.1 : (List Int))), .va (toD (started_396 : Bool)), .va (toD (back_384 : Int)), .va (toD (term_392 : Int))]) (fun _ => rfl) (fun started_396 => (sb_asg (em_I0 (em_var 0 st_383.1 rfl) (em_var 6 term_392 rfl)) (ag_name 0) (fun n_399 => [.va (toD (n_399 : Int)), .ol (List.map toD (st_363 : (List Int))), .un, .va (toD (st_383.2.1 : (List Int))), .va (toD (started_396 : Bool)), .va (toD (back_384 : Int)), .va (toD (term_392 : Int))]) (fun _ => rfl) (fun n_399 => (sb_one (sb_asg (EF.toM (ef_cat (EF.toL (ef_lst (eas_cons (em_int 1) (eas_nil (α := Int))))) (EM.toL (em_var 3 st_383.2.1 rfl)))) (ag_name 3) (fun bits_404 => [.va (toD (n_399 : Int)), .ol (List.map toD (st_363 : (List Int))), .un, .va (toD (bits_404 : (List Int))), .va (toD (started_396 : Bool)), .va (toD (back_384 : Int)), .va (toD (term_392 : Int))]) (fun _ => rfl) (fun bits_404 => (sb_next (n_399, bits_404, started_396) (.same (.same (.same (.same (.same (.drop (.drop .nil))))))))))))))) (sb_ifL (eb_B (em_var 4 st_383.2.2 rfl)) (sb_one (sb_asg (EF.toM (ef_cat (EF.toL (ef_lst (eas_cons (em_int 0) (eas_nil (α := Int))))) (EM.toL (em_var 3 st_383.2.1 rfl)))) (ag_name 3) (fun bits_410 => [.va (toD (st_383.1 : Int)), .ol (List.map toD (st_363 : (List Int))), .un, .va (toD (bits_410 : (List Int))), .va (toD (st_383.2.2 : Bool)), .va (toD (back_384 : Int)), .va (toD (term_392 : Int))]) (fun _ => rfl) (fun bits_410 => (sb_next (st_383.1, bits_410, st_383.2.2) (.same (.same (.same (.same (.same (.drop (.drop .nil))))))))))) (sb_next (st_383.1, st_383.2.1, st_383.2.2) (.same (.same (.same (.same (.same (.drop (.drop .nil))))))))))))) (fun st_383 => (sb_ret (EF.toM (ef_cat (EM.toL (em_var 3 st_383.2.1 rfl)) (EF.toL (ef_lst (eas_cons (em_int 1) (eas_nil (α := Int))))))))))))))))))
theorem sc__law_rice : FnScope ["_law_k", "_law_n", "_law_j"] ["_law_k", "_law_n"] (defScope s__law_rice) := ⟨rfl, rfl, rfl, by decide +kernel, rfl, by decide +kernel, by decide +kernel⟩
theorem ok__law_rice : FnOk P w cf.K mg base CX0 1 T.a__law_rice T.d__law_rice ["_law_k", "_law_n"] (SpP cf 2 (sp2 f__law_rice)) := by
  refine fn2 (k := 0) (S := Unit) (enc := fun _ => [.un, .un, .un]) T.F__law_rice sc__law_rice rfl b__law_rice (fun k_418 n_419 => [.va (toD (k_418 : Int)), .va (toD (n_419 : Int)), .un]) (fun _ _ => rfl) fun cdv A outer s H E hr => ?_
  refine ⟨_, (pss_one (ps_ret (pe_op op_cat (pe_op op_cat (pe_lc (own := [("_law_j", 2)]) rfl sc__law_rice.nd (pi_range1 (by rfl) T.n_range (pa_cons (pe_op op_fdivW (pv 1) (pe_op op_shlW pe_int (pv 0))) pa_nil)) (blkOk_by (own := [("_law_j", 2)]) (N := ["_law_k", "_law_n", "_law_j"]) (sc := defScope s__law_rice) (by decide +kernel)) (fun _ _ _ _ _ => (pg_name (i := 2) sc__law_rice.nd rfl (Or.inl rfl) (Or.inr rfl))) (fun _ _ _ _ _ => pts_nil) (fun _ _ _ _ _ => pe_int)) (pe_lst (pa_cons pe_int pa_nil))) (pe_lc (own := [("_law_j", 2)]) rfl sc__law_rice.nd (pi_range1 (by rfl) T.n_range (pa_cons (pv 0) pa_nil)) (blkOk_by (own := [("_law_j", 2)]) (N := ["_law_k", "_law_n", "_law_j"]) (sc := defScope s__law_rice) (by decide +kernel)) (fun _ _ _ _ _ => (pg_name (i := 2) sc__law_rice.nd rfl (Or.inl rfl) (Or.inr rfl))) (fun _ _ _ _ _ => pts_nil) (fun _ _ _ _ _ => (pe_op op_mod (pe_op op_fdivW (pv 1) (pe_op op_shlW pe_int (pe_op op_sub (pe_op op_sub (pv 0) pe_int) (pv 2)))) pe_int)))))), fun k_418 n_419 => ?_⟩
  unfold b__law_rice
  exact (sb_ret (EF.toM (ef_cat (EF.toL (ef_cat (EF.toL (ef_lc (vs := [2]) (Gi := fun j_425 => [.va (toD (k_418 : Int)), .va (toD (n_419 : Int)), .va (toD (j_425 : Int))]) (ig_range1 (em_div (em_var 1 n_419 rfl) (em_shl (em_int 1) (em_var 0 k_418 rfl)))) (ag_name 2) (by decide) (fun _ => rfl) (fun j_425 => eb_yes) (fun j_425 => (em_int 1)))) (EF.toL (ef_lst (eas_cons (em_int 0) (eas_nil (α := Int))))))) (EF.toL (ef_lc (vs := [2]) (Gi := fun j_431 => [.va (toD (k_418 : Int)), .va (toD (n_419 : Int)), .va (toD (j_431 : Int))]) (ig_range1 (em_var 0 k_418 rfl)) (ag_name 2) (by decide) (fun _ => rfl) (fun j_431 => eb_yes) (fun j_431 => (em_mod (em_div (em_var 1 n_419 rfl) (em_shl (em_int 1) (em_I0 (em_I0 (em_var 0 k_418 rfl) (em_int 1)) (em_var 2 j_431 rfl)))) (em_int 2))))))))
theorem sc__law_all : FnScope ["_law_n", "_law_k"] ["_law_n", "_law_k"] (defScope s__law_all) := ⟨rfl, rfl, rfl, by decide +kernel, rfl, by decide +kernel, by decide +kernel⟩
theorem ok__law_all : FnOk P w cf.K mg base CX0 4 T.a__law_all T.d__law_all ["_law_n", "_law_k"] (SpP cf 2 (sp2 f__law_all)) := by
  refine fn2 (k := 3) (S := Unit) (enc := fun _ => [.un, .un]) T.F__law_all sc__law_all rfl b__law_all (fun n_445 k_446 => [.va (toD (n_445 : Int)), .va (toD (k_446 : Int))]) (fun _ _ => rfl) fun cdv A outer s H E hr => ?_
  refine ⟨_, (pss_one (ps_ret (pe_lst (pa_cons (pe_call (ok_gamma_bits T) (hr.mono (by decide)) (by rfl) T.g_gamma_bits T.F_gamma_bits.kp T.b_gamma_bits .nil pass0 (pa_cons (pv 0) pa_nil)) (pa_cons (pe_call (ok_delta_bits T) (hr.mono (by decide)) (by rfl) T.g_delta_bits T.F_delta_bits.kp T.b_delta_bits .nil pass0 (pa_cons (pv 0) pa_nil)) (pa_cons (pe_call (ok_fibonacci_bits T) (hr.mono (by decide)) (by rfl) T.g_fibonacci_bits T.F_fibonacci_bits.kp T.b_fibonacci_bits .nil pass0 (pa_cons (pv 0) pa_nil)) (pa_cons (pe_call (ok_rice_bits T) (hr.mono (by decide)) (by rfl) T.g_rice_bits T.F_rice_bits.kp T.b_rice_bits .nil pass0 (pa_cons (pv 1) (pa_cons (pe_op op_mod (pv 0) (pe_op op_mulX pe_int (pe_op op_shlW pe_int (pv 1)))) pa_nil))) pa_nil))))))), fun n_445 k_446 => ?_⟩
  unfold b__law_all
  exact (sb_ret (EF.toM (ef_lst (eas_cons (em_call1 (em_var 0 n_445 rfl)) (eas_cons (em_call1 (em_var 0 n_445 rfl)) (eas_cons (em_call1 (em_var 0 n_445 rfl)) (eas_cons (em_call2 (em_var 1 k_446 rfl) (em_mod (em_var 0 n_445 rfl) (em_mul (em_int 200) (em_shl (em_int 1) (em_var 1 k_446 rfl))))) (eas_nil (α := (List Int))))))))))
theorem sc_law : FnScope ["_law_script", "_law_cell_here", "_law_k", "_law_first", "_law_other", "_law_small", "_law_due", "_law_found", "_law_before", "_law_behind", "_law_at", "_law_turn", "_law_codes", "_law_same", "_law_bits", "_law_stop", "_law_one", "_law_told"] ["_law_script"] (defScope s_law) := ⟨rfl, rfl, rfl, by decide +kernel, rfl, by decide +kernel, by decide +kernel⟩
theorem ok_law : FnOk P w cf.K mg base CX0 7 T.a_law T.d_law ["_law_script"] (SpP cf 1 (sp1 f_law)) := by
  refine fn1 (k := 6) (S := Unit) (enc := fun _ => [.un, .un, .un, .un, .un, .un, .un, .un, .un, .un, .un, .un, .un, .un, .un, .un, .un, .un]) T.F_law sc_law rfl b_law (fun script_467 => [.va (toD (script_467 : Scr)), .un, .un, .un, .un, .un, .un, .un, .un, .un, .un, .un, .un, .un, .un, .un, .un, .un]) (fun _ => rfl) fun cdv A outer s H E hr => ?_
  refine ⟨_, (pss_cons (ps_set (i := 1) sc_law.nd rfl (.inl rfl) (pe_call (ok__law_cell T) (hr.mono (by decide)) (by rfl) T.g__law_cell T.F__law_cell.kp T.b__law_cell .nil pass0 (pa_cons (pv 0) (pa_cons pe_int pa_nil)))) (pss_cons (ps_set (i := 2) sc_law.nd rfl (.inl rfl) (pe_op op_mod (pv 1) pe_int)) (pss_cons (ps_set (i := 3) sc_law.nd rfl (.inl rfl) (pe_call (ok__law_number T) (hr.mono (by decide)) (by rfl) T.g__law_number T.F__law_number.kp T.b__law_number .nil pass0 (pa_cons (pe_call (ok__law_cell T) (hr.mono (by decide)) (by rfl) T.g__law_cell T.F__law_cell.kp T.b__law_cell .nil pass0 (pa_cons (pv 0) (pa_cons pe_int pa_nil))) pa_nil))) (pss_cons (ps_set (i := 4) sc_law.nd rfl (.inl rfl) (pe_call (ok__law_number T) (hr.mono (by decide)) (by rfl) T.g__law_number T.F__law_number.kp T.b__law_number .nil pass0 (pa_cons (pe_call (ok__law_cell T) (hr.mono (by decide)) (by rfl) T.g__law_cell T.F__law_cell.kp T.b__law_cell .nil pass0 (pa_cons (pv 0) (pa_cons pe_int pa_nil))) pa_nil))) (pss_cons (ps_set (i := 5) sc_law.nd rfl (.inl rfl) (pe_op op_mod (pv 3) (pe_op op_mulX pe_int (pe_op op_shlW pe_int (pv 2))))) (pss_cons (ps_set (i := 6) sc_law.nd rfl (.inl rfl) (pe_lst (pa_cons (pe_call (ok__law_gamma T) (hr.mono (by decide)) (by rfl) T.g__law_gamma T.F__law_gamma.kp T.b__law_gamma .nil pass0 (pa_cons (pv 3) pa_nil)) (pa_cons (pe_call (ok__law_delta T) (hr.mono (by decide)) (by rfl) T.g__law_delta T.F__law_delta.kp T.b__law_delta .nil pass0 (pa_cons (pv 3) pa_nil)) (pa_cons (pe_call (ok__law_fibonacci T) (hr.mono (by decide)) (by rfl) T.g__law_fibonacci T.F__law_fibonacci.kp T.b__law_fibonacci .nil pass0 (pa_cons (pv 3) pa_nil)) (pa_cons (pe_call (ok__law_rice T) (hr.mono (by decide)) (by rfl) T.g__law_rice T.F__law_rice.kp T.b__law_rice .nil pass0 (pa_cons (pv 2) (pa_cons (pv 5) pa_nil))) pa_nil)))))) (pss_cons (ps_set (i := 7) sc_law.nd rfl (.inl rfl) (pe_call (ok__law_all T) (hr.mono (by decide)) (by rfl) T.g__law_all T.F__law_all.kp T.b__law_all .nil pass0 (pa_cons (pv 3) (pa_cons (pv 2) pa_nil)))) (pss_cons (ps_if (pt_cmpR (neDK cf.K rfl hr.units) (pv 7) (pv 6) (nomark _)) (pss_one (ps_ret pe_bl)) pss_nil) (pss_cons (ps_setLc (i := 8) (own := [("_law_one", 16)]) rfl sc_law.nd rfl rfl (sw_true rfl rfl rfl (by decide +kernel)) (listI cf.K rfl (pe_slice (sl_listK cf.K rfl) (pv 0) (po_some pe_int) (po_some pe_int))) (blkOk_by (own := [("_law_one", 16)]) (N := ["_law_script", "_law_cell_here", "_law_k", "_law_first", "_law_other", "_law_small", "_law_due", "_law_found", "_law_before", "_law_behind", "_law_at", "_law_turn", "_law_codes", "_law_same", "_law_bits", "_law_stop", "_law_one", "_law_told"]) (sc := defScope s_law) (by decide +kernel)) (fun _ _ _ _ _ => (pg_name (i := 16) sc_law.nd rfl (Or.inl rfl) (Or.inr rfl))) (fun _ _ _ _ _ => pts_nil) (fun _ _ _ _ _ => (pe_op op_mod (pe_callTy call_int1 (by rfl) T.n_int (by decide +kernel) (pa_cons (pv 16) pa_nil)) pe_int))) (pss_cons (ps_setLc (i := 9) (own := [("_law_one", 16)]) rfl sc_law.nd rfl rfl (sw_true rfl rfl rfl (by decide +kernel)) (listI cf.K rfl (pe_slice (sl_listK cf.K rfl) (pv 0) (po_some pe_int) (po_some pe_int))) (blkOk_by (own := [("_law_one", 16)]) (N := ["_law_script", "_law_cell_here", "_law_k", "_law_first", "_law_other", "_law_small", "_law_due", "_law_found", "_law_before", "_law_behind", "_law_at", "_law_turn", "_law_codes", "_law_same", "_law_bits", "_law_stop", "_law_one", "_law_told"]) (sc := defScope s_law) (by decide +kernel)) (fun _ _ _ _ _ => (pg_name (i := 16) sc_law.nd rfl (Or.inl rfl) (Or.inr rfl))) (fun _ _ _ _ _ => pts_nil) (fun _ _ _ _ _ => (pe_op op_mod (pe_callTy call_int1 (by rfl) T.n_int (by decide +kernel) (pa_cons (pv 16) pa_nil)) pe_int))) (pss_cons (ps_set (i := 10) sc_law.nd rfl (.inl rfl) (pe_callB (lenK cf.K rfl) (by rfl) T.n_len (by decide +kernel) (pa_cons (pv 8) pa_nil))) (pss_cons (ps_for PassesOwn.never rfl (pi_range1 (by rfl) T.n_range (pa_cons pe_int pa_nil)) (pg_name (i := 11) sc_law.nd rfl (.inl rfl)) (pss_cons (ps_set (i := 14) sc_law.nd rfl (.inl rfl) (pe_op op_cat (pe_op op_cat (pv 8) (pe_ix (ix_listK cf.K rfl) (pv 6) (pv 11) (fun _ _ => rfl))) (pv 9))) (pss_cons (ps_set (i := 15) sc_law.nd rfl (.inl rfl) (pe_op op_add (pv 10) (pe_callB (lenK cf.K rfl) (by rfl) T.n_len (by decide +kernel) (pa_cons (pe_ix (ix_listK cf.K rfl) (pv 6) (pv 11) (fun _ _ => rfl)) pa_nil)))) (pss_cons (ps_if (pt_cmpR op_eq (pv 11) pe_int (nomark _)) (pss_one (ps_set (i := 17) sc_law.nd rfl (.inl rfl) (pe_call (ok_read_gamma T) (hr.mono (by decide)) (by rfl) T.g_read_gamma T.F_read_gamma.kp T.b_read_gamma .nil passL (pa_cons (pv 14) (pa_cons (pv 10) pa_nil))))) (pss_one (ps_if (pt_cmpR op_eq (pv 11) pe_int (nomark _)) (pss_one (ps_set (i := 17) sc_law.nd rfl (.inl rfl) (pe_call (ok_read_delta T) (hr.mono (by decide)) (by rfl) T.g_read_delta T.F_read_delta.kp T.b_read_delta .nil passL (pa_cons (pv 14) (pa_cons (pv 10) pa_nil))))) (pss_one (ps_if (pt_cmpR op_eq (pv 11) pe_int (nomark _)) (pss_one (ps_set (i := 17) sc_law.nd rfl (.inl rfl) (pe_call (ok_read_fibonacci T) (hr.mono (by decide)) (by rfl) T.g_read_fibonacci T.F_read_fibonacci.kp T.b_read_fibonacci .nil passL (pa_cons (pv 14) (pa_cons (pv 10) pa_nil))))) (pss_one (ps_set (i := 17) sc_law.nd rfl (.inl rfl) (pe_call (ok_read_rice T) (hr.mono (by decide)) (by rfl) T.g_read_rice T.F_read_rice.kp T.b_read_rice .nil passL (pa_cons (pv 2) (pa_cons (pv 14) (pa_cons (pv 10) pa_nil))))))))))) (pss_one (ps_if (pt_cmpR (neDK cf.K rfl hr.units) (pv 17) (pe_tup (pa_cons (pe_ix (ix_listK cf.K rfl) (pe_lst (pa_cons (pv 3) (pa_cons (pv 3) (pa_cons (pv 3) (pa_cons (pv 5) pa_nil))))) (pv 11) (fun _ _ => rfl)) (pa_cons (pv 15) pa_nil))) (nomark _)) (pss_one (ps_ret pe_bl)) pss_nil)))))) (pss_cons (ps_set (i := 12) sc_law.nd rfl (.inl rfl) (pe_call (ok__law_all T) (hr.mono (by decide)) (by rfl) T.g__law_all T.F__law_all.kp T.b__law_all .nil pass0 (pa_cons (pv 4) (pa_cons (pv 2) pa_nil)))) (pss_cons (ps_set (i := 13) sc_law.nd rfl (.inl rfl) (pe_lst (pa_cons (pe_cmpR op_eq (pv 3) (pv 4) (nomark _)) (pa_cons (pe_cmpR op_eq (pv 3) (pv 4) (nomark _)) (pa_cons (pe_cmpR op_eq (pv 3) (pv 4) (nomark _)) (pa_cons (pe_cmpR op_eq (pv 5) (pe_op op_mod (pv 4) (pe_op op_mulX pe_int (pe_op op_shlW pe_int (pv 2)))) (nomark _)) pa_nil)))))) (pss_cons (ps_for PassesOwn.never rfl (pi_range1 (by rfl) T.n_range (pa_cons pe_int pa_nil)) (pg_name (i := 11) sc_law.nd rfl (.inl rfl)) (pss_one (ps_if (pt_cmpR op_ne (pe_cmpR (eqDK cf.K rfl hr.units) (pe_slice (sl_listK cf.K rfl) (pe_ix (ix_listK cf.K rfl) (pv 12) (pv 11) (fun _ _ => rfl)) po_none (po_some (pe_callB (lenK cf.K rfl) (by rfl) T.n_len (by decide +kernel) (pa_cons (pe_ix (ix_listK cf.K rfl) (pv 7) (pv 11) (fun _ _ => rfl)) pa_nil)))) (pe_ix (ix_listK cf.K rfl) (pv 7) (pv 11) (fun _ _ => rfl)) (nomark _)) (pe_ix (ix_listK cf.K rfl) (pv 13) (pv 11) (fun _ _ => rfl)) (nomark _)) (pss_one (ps_ret pe_bl)) pss_nil))) (pss_one (ps_ret pe_bl))))))))))))))))), fun script_467 => ?_⟩
  unfold b_law
  exact (sb_asg (em_call2 (em_var 0 script_467 rfl) (em_int 1)) (ag_name 1) (fun cell_here_470 => [.va (toD (script_467 : Scr)), .va (toD (cell_here_470 : Int)), .un, .un, .un, .un, .un, .un, .un, .un, .un, .un, .un, .un, .un, .un, .un, .un]) (fun _ => rfl) (fun cell_here_470 => (sb_asg (em_mod (em_var 1 cell_here_470 rfl) (em_int 21)) (ag_name 2) (fun k_473 => [.va (toD (script_467 : Scr)), .va (toD (cell_here_470 : Int)), .va (toD (k_473 : Int)), .un, .un, .un, .un, .un, .un, .un, .un, .un, .un, .un, .un, .un, .un, .un]) (fun _ => rfl) (fun k_473 => (sb_asg (em_call1 (em_call2 (em_var 0 script_467 rfl) (em_int 0))) (ag_name 3) (fun first_477 => [.va (toD (script_467 : Scr)), .va (toD (cell_here_470 : Int)), .va (toD (k_473 : Int)), .va (toD (first_477 : Int)), .un, .un, .un, .un, .un, .un, .un, .un, .un, .un, .un, .un, .un, .un]) (fun _ => rfl) (fun first_477 => (sb_asg (em_call1 (em_call2 (em_var 0 script_467 rfl) (em_int 2))) (ag_name 4) (fun other_481 => [.va (toD (script_467 : Scr)), .va (toD (cell_here_470 : Int)), .va (toD (k_473 : Int)), .va (toD (first_477 : Int)), .va (toD (other_481 : Int)), .un, .un, .un, .un, .un, .un, .un, .un, .un, .un, .un, .un, .un]) (fun _ => rfl) (fun other_481 => (sb_asg (em_mod (em_var 3 first_477 rfl) (em_mul (em_int 200) (em_shl (em_int 1) (em_var 2 k_473 rfl)))) (ag_name 5) (fun small_488 => [.va (toD (script_467 : Scr)), .va (toD (cell_here_470 : Int)), .va (toD (k_473 : Int)), .va (toD (first_477 : Int)), .va (toD (other_481 : Int)), .va (toD (small_488 : Int)), .un, .un, .un, .un, .un, .un, .un, .un, .un, .un, .un, .un]) (fun _ => rfl) (fun small_488 => (sb_asg (EF.toM (ef_lst (eas_cons (em_call1 (em_var 3 first_477 rfl)) (eas_cons (em_call1 (em_var 3 first_477 rfl)) (eas_cons (em_call1 (em_var 3 first_477 rfl)) (eas_cons (em_call2 (em_var 2 k_473 rfl) (em_var 5 small_488 rfl)) (eas_nil (α := (List Int))))))))) (ag_name 6) (fun due_502 => [.va (toD (script_467 : Scr)), .va (toD (cell_here_470 : Int)), .va (toD (k_473 : Int)), .va (toD (first_477 : Int)), .va (toD (other_481 : Int)), .va (toD (small_488 : Int)), .va (toD (due_502 : (List (List Int)))), .un, .un, .un, .un, .un, .un, .un, .un, .un, .un, .un]) (fun _ => rfl) (fun due_502 => (sb_asg (em_call2 (em_var 3 first_477 rfl) (em_var 2 k_473 rfl)) (ag_name 7) (fun found_505 => [.va (toD (script_467 : Scr)), .va (toD (cell_here_470 : Int)), .va (toD (k_473 : Int)), .va (toD (first_477 : Int)), .va (toD (other_481 : Int)), .va (toD (small_488 : Int)), .va (toD (due_502 : (List (List Int)))), .va (toD (found_505 : (List (List Int)))), .un, .un, .un, .un, .un, .un, .un, .un, .un, .un]) (fun _ => rfl) (fun found_505 => (sb_if (eb_test (em_neD (EM.toE (em_var 7 found_505 rfl)) (EM.toE (em_var 6 due_502 rfl)))) (sb_ret2 (em_bl false)) (sb_skip (sb_asg (EF.toM (ef_lc (vs := [16]) (Gi := fun one_515 => [.va (toD (script_467 : Scr)), .va (toD (cell_here_470 : Int)), .va (toD (k_473 : Int)), .va (toD (first_477 : Int)), .va (toD (other_481 : Int)), .va (toD (small_488 : Int)), .va (toD (due_502 : (List (List Int)))), .va (toD (found_505 : (List (List Int)))), .un, .un, .un, .un, .un, .un, .un, .un, .va (toD (one_515 : Int)), .un]) (ig_list (EF.toZ (ef_sl (EM.scr (em_var 0 script_467 rfl)) (eo_some (em_int 3)) (eo_some (em_int 9))))) (ag_name 16) (by decide) (fun _ => rfl) (fun one_515 => eb_yes) (fun one_515 => (em_mod (em_intI (em_var 16 one_515 rfl)) (em_int 2))))) (ag_name 8) (fun before_518 => [.va (toD (script_467 : Scr)), .va (toD (cell_here_470 : Int)), .va (toD (k_473 : Int)), .va (toD (first_477 : Int)), .va (toD (other_481 : Int)), .va (toD (small_488 : Int)), .va (toD (due_502 : (List (List Int)))), .va (toD (found_505 : (List (List Int)))), .va (toD (before_518 : (List Int))), .un, .un, .un, .un, .un, .un, .un, .un, .un]) (fun _ => rfl) (fun before_518 => (sb_asg (EF.toM (ef_lc (vs := [16]) (Gi := fun one_524 => [.va (toD (script_467 : Scr)), .va (toD (cell_here_470 : Int)), .va (toD (k_473 : Int)), .va (toD (first_477 : Int)), .va (toD (other_481 : Int)), .va (toD (small_488 : Int)), .va (toD (due_502 : (List (List Int)))), .va (toD (found_505 : (List (List Int)))), .va (toD (before_518 : (List Int))), .un, .un, .un, .un, .un, .un, .un, .va (toD (one_524 : Int)), .un]) (ig_list (EF.toZ (ef_sl (EM.scr (em_var 0 script_467 rfl)) (eo_some (em_int 9)) (eo_some (em_int 20))))) (ag_name 16) (by decide) (fun _ => rfl) (fun one_524 => eb_yes) (fun one_524 => (em_mod (em_intI (em_var 16 one_524 rfl)) (em_int 2))))) (ag_name 9) (fun behind_527 => [.va (toD (script_467 : Scr)), .va (toD (cell_here_470 : Int)), .va (toD (k_473 : Int)), .va (toD (first_477 : Int)), .va (toD (other_481 : Int)), .va (toD (small_488 : Int)), .va (toD (due_502 : (List (List Int)))), .va (toD (found_505 : (List (List Int)))), .va (toD (before_518 : (List Int))), .va (toD (behind_527 : (List Int))), .un, .un, .un, .un, .un, .un, .un, .un]) (fun _ => rfl) (fun behind_527 => (sb_asg (em_len (EM.toS (em_var 8 before_518 rfl))) (ag_name 10) (fun at_529 => [.va (toD (script_467 : Scr)), .va (toD (cell_here_470 : Int)), .va (toD (k_473 : Int)), .va (toD (first_477 : Int)), .va (toD (other_481 : Int)), .va (toD (small_488 : Int)), .va (toD (due_502 : (List (List Int)))), .va (toD (found_505 : (List (List Int)))), .va (toD (before_518 : (List Int))), .va (toD (behind_527 : (List Int))), .va (toD (at_529 : Int)), .un, .un, .un, .un, .un, .un, .un]) (fun _ => rfl) (fun at_529 => (sb_for (T := Unit) (encL := fun st_531 => [.va (toD (script_467 : Scr)), .va (toD (cell_here_470 : Int)), .va (toD (k_473 : Int)), .va (toD (first_477 : Int)), .va (toD (other_481 : Int)), .va (toD (small_488 : Int)), .va (toD (due_502 : (List (List Int)))), .va (toD (found_505 : (List (List Int)))), .va (toD (before_518 : (List Int))), .va (toD (behind_527 : (List Int))), .va (toD (at_529 : Int)), .un, .un, .un, .un, .un, .un, .un]) (ig_range1 (em_int 4)) (ag_name 11) () (.same (.same (.same (.same (.same (.same (.same (.same (.same (.same (.same (.same (.same (.same (.same (.same (.same (.same .nil)))))))))))))))))) (fun st_531 turn_532 => [.va (toD (script_467 : Scr)), .va (toD (cell_here_470 : Int)), .va (toD (k_473 : Int)), .va (toD (first_477 : Int)), .va (toD (other_481 : Int)), .va (toD (small_488 : Int)), .va (toD (due_502 : (List (List Int)))), .va (toD (found_505 : (List (List Int)))), .va (toD (before_518 : (List Int))), .va (toD (behind_527 : (List Int))), .va (toD (at_529 : Int)), .va (toD (turn_532 : Int)), .un, .un, .un, .un, .un, .un]) (fun _ _ => rfl) (fun st_531 turn_532 => (sb_asg (EF.toM (ef_cat (EF.toL (ef_cat (EM.toL (em_var 8 before_518 rfl)) (EM.toL (em_ixL (EM.toS (em_var 6 due_502 rfl)) (em_var 11 turn_532 rfl))))) (EM.toL (em_var 9 behind_527 rfl)))) (ag_name 14) (fun bits_539 => [.va (toD (script_467 : Scr)), .va (toD (cell_here_470 : Int)), .va (toD (k_473 : Int)), .va (toD (first_477 : Int)), .va (toD (other_481 : Int)), .va (toD (small_488 : Int)), .va (toD (due_502 : (List (List Int)))), .va (toD (found_505 : (List (List Int)))), .va (toD (before_518 : (List Int))), .va (toD (behind_527 : (List Int))), .va (toD (at_529 : Int)), .va (toD (turn_532 : Int)), .un, .un, .va (toD (bits_539 : (List Int))), .un, .un, .un]) (fun _ => rfl) (fun bits_539 => (sb_asg (em_I0 (em_var 10 at_529 rfl) (em_len (EM.toS (em_ixL (EM.toS (em_var 6 due_502 rfl)) (em_var 11 turn_532 rfl))))) (ag_name 15) (fun stop_545 => [.va (toD (script_467 : Scr)), .va (toD (cell_here_470 : Int)), .va (toD (k_473 : Int)), .va (toD (first_477 : Int)), .va (toD (other_481 : Int)), .va (toD (small_488 : Int)), .va (toD (due_502 : (List (List Int)))), .va (toD (found_505 : (List (List Int)))), .va (toD (before_518 : (List Int))), .va (toD (behind_527 : (List Int))), .va (toD (at_529 : Int)), .va (toD (turn_532 : Int)), .un, .un, .va (toD (bits_539 : (List Int))), .va (toD (stop_545 : Int)), .un, .un]) (fun _ => rfl) (fun stop_545 => (sb_seq (T := (Int × Int)) (enc1 := fun st_568 => [.va (toD (script_467 : Scr)), .va (toD (cell_here_470 : Int)), .va (toD (k_473 : Int)), .va (toD (first_477 : Int)), .va (toD (other_481 : Int)), .va (toD (small_488 : Int)), .va (toD (due_502 : (List (List Int)))), .va (toD (found_505 : (List (List Int)))), .va (toD (before_518 : (List Int))), .va (toD (behind_527 : (List Int))), .va (toD (at_529 : Int)), .va (toD (turn_532 : Int)), .un, .un, .va (toD (bits_539 : (List Int))), .va (toD (stop_545 : Int)), .un, .va (toD (st_568 : (Int × Int)))]) (sb_ifL (eb_test (em_eqI (em_var 11 turn_532 rfl) (em_int 0))) (sb_one (sb_asg (em_callP2 (em_var 14 bits_539 rfl) (em_var 10 at_529 rfl)) (ag_name 17) (fun told_571 => [.va (toD (script_467 : Scr)), .va (toD (cell_here_470 : Int)), .va (toD (k_473 : Int)), .va (toD (first_477 : Int)), .va (toD (other_481 : Int)), .va (toD (small_488 : Int)), .va (toD (due_502 : (List (List Int)))), .va (toD (found_505 : (List (List Int)))), .va (toD (before_518 : (List Int))), .va (toD (behind_527 : (List Int))), .va (toD (at_529 : Int)), .va (toD (turn_532 : Int)), .un, .un, .va (toD (bits_539 : (List Int))), .va (toD (stop_545 : Int)), .un, .va (toD (told_571 : (Int × Int)))]) (fun _ => rfl) (fun told_571 => (sb_next told_571 (.same (.same (.same (.same (.same (.same (.same (.same (.same (.same (.same (.same (.same (.same (.same (.same (.same (.same .nil)))))))))))))))))))))) (sb_ifL (eb_test (em_eqI (em_var 11 turn_532 rfl) (em_int 1))) (sb_one (sb_asg (em_callP2 (em_var 14 bits_539 rfl) (em_var 10 at_529 rfl)) (ag_name 17) (fun told_577 => [.va (toD (script_467 : Scr)), .va (toD (cell_here_470 : Int)), .va (toD (k_473 : Int)), .va (toD (first_477 : Int)), .va (toD (other_481 : Int)), .va (toD (small_488 : Int)), .va (toD (due_502 : (List (List Int)))), .va (toD (found_505 : (List (List Int)))), .va (toD (before_518 : (List Int))), .va (toD (behind_527 : (List Int))), .va (toD (at_529 : Int)), .va (toD (turn_532 : Int)), .un, .un, .va (toD (bits_539 : (List Int))), .va (toD (stop_545 : Int)), .un, .va (toD (told_577 : (Int × Int)))]) (fun _ => rfl) (fun told_577 => (sb_next told_577 (.same (.same (.same (.same (.same (.same (.same (.same (.same (.same (.same (.same (.same (.same (.same (.same (.same (.same .nil)))))))))))))))))))))) (sb_ifL (eb_test (em_eqI (em_var 11 turn_532 rfl) (em_int 2))) (sb_one (sb_asg (em_callP2 (em_var 14 bits_539 rfl) (em_var 10 at_529 rfl)) (ag_name 17) (fun told_583 => [.va (toD (script_467 : Scr)), .va (toD (cell_here_470 : Int)), .va (toD (k_473 : Int)), .va (toD (first_477 : Int)), .va (toD (other_481 : Int)), .va (toD (small_488 : Int)), .va (toD (due_502 : (List (List Int)))), .va (toD (found_505 : (List (List Int)))), .va (toD (before_518 : (List Int))), .va (toD (behind_527 : (List Int))), .va (toD (at_529 : Int)), .va (toD (turn_532 : Int)), .un, .un, .va (toD (bits_539 : (List Int))), .va (toD (stop_545 : Int)), .un, .va (toD (told_583 : (Int × Int)))]) (fun _ => rfl) (fun told_583 => (sb_next told_583 (.same (.same (.same (.same (.same (.same (.same (.same (.same (.same (.same (.same (.same (.same (.same (.same (.same (.same .nil)))))))))))))))))))))) (sb_one (sb_asg (em_callP3 (em_var 2 k_473 rfl) (em_var 14 bits_539 rfl) (em_var 10 at_529 rfl)) (ag_name 17) (fun told_587 => [.va (toD (script_467 : Scr)), .va (toD (cell_here_470 : Int)), .va (toD (k_473 : Int)), .va (toD (first_477 : Int)), .va (toD (other_481 : Int)), .va (toD (small_488 : Int)), .va (toD (due_502 : (List (List Int)))), .va (toD (found_505 : (List (List Int)))), .va (toD (before_518 : (List Int))), .va (toD (behind_527 : (List Int))), .va (toD (at_529 : Int)), .va (toD (turn_532 : Int)), .un, .un, .va (toD (bits_539 : (List Int))), .va (toD (stop_545 : Int)), .un, .va (toD (told_587 : (Int × Int)))]) (fun _ => rfl) (fun told_587 => (sb_next told_587 (.same (.same (.same (.same (.same (.same (.same (.same (.same (.same (.same (.same (.same (.same (.same (.same (.same (.same .nil))))))))))))))))))))))))) (fun st_568 => (sb_ifL (eb_test (em_neD (EM.toE (em_var 17 st_568 rfl)) (EM.toE (em_tup2 (em_ixL (EF.toS (ef_lst (eas_cons (em_var 3 first_477 rfl) (eas_cons (em_var 3 first_477 rfl) (eas_cons (em_var 3 first_477 rfl) (eas_cons (em_var 5 small_488 rfl) (eas_nil (α := Int)))))))) (em_var 11 turn_532 rfl)) (em_var 15 stop_545 rfl))))) (sb_ret (em_bl false)) (sb_next () (.same (.same (.same (.same (.same (.same (.same (.same (.same (.same (.same (.drop (.same (.same (.drop (.drop (.same (.drop .nil))))))))))))))))))))))))))) (fun st_531 => (sb_asg (em_call2 (em_var 4 other_481 rfl) (em_var 2 k_473 rfl)) (ag_name 12) (fun codes_606 => [.va (toD (script_467 : Scr)), .va (toD (cell_here_470 : Int)), .va (toD (k_473 : Int)), .va (toD (first_477 : Int)), .va (toD (other_481 : Int)), .va (toD (small_488 : Int)), .va (toD (due_502 : (List (List Int)))), .va (toD (found_505 : (List (List Int)))), .va (toD (before_518 : (List Int))), .va (toD (behind_527 : (List Int))), .va (toD (at_529 : Int)), .un, .va (toD (codes_606 : (List (List Int)))), .un, .un, .un, .un, .un]) (fun _ => rfl) (fun codes_606 => (sb_asg (EF.toM (ef_lst (eas_cons (em_eqI (em_var 3 first_477 rfl) (em_var 4 other_481 rfl)) (eas_cons (em_eqI (em_var 3 first_477 rfl) (em_var 4 other_481 rfl)) (eas_cons (em_eqI (em_var 3 first_477 rfl) (em_var 4 other_481 rfl)) (eas_cons (em_eqI (em_var 5 small_488 rfl) (em_mod (em_var 4 other_481 rfl) (em_mul (em_int 200) (em_shl (em_int 1) (em_var 2 k_473 rfl))))) (eas_nil (α := Bool)))))))) (ag_name 13) (fun same_629 => [.va (toD (script_467 : Scr)), .va (toD (cell_here_470 : Int)), .va (toD (k_473 : Int)), .va (toD (first_477 : Int)), .va (toD (other_481 : Int)), .va (toD (small_488 : Int)), .va (toD (due_502 : (List (List Int)))), .va (toD (found_505 : (List (List Int)))), .va (toD (before_518 : (List Int))), .va (toD (behind_527 : (List Int))), .va (toD (at_529 : Int)), .un, .va (toD (codes_606 : (List (List Int)))), .va (toD (same_629 : (List Bool))), .un, .un, .un, .un]) (fun _ => rfl) (fun same_629 => (sb_for (T := Unit) (encL := fun st_631 => [.va (toD (script_467 : Scr)), .va (toD (cell_here_470 : Int)), .va (toD (k_473 : Int)), .va (toD (first_477 : Int)), .va (toD (other_481 : Int)), .va (toD (small_488 : Int)), .va (toD (due_502 : (List (List Int)))), .va (toD (found_505 : (List (List Int)))), .va (toD (before_518 : (List Int))), .va (toD (behind_527 : (List Int))), .va (toD (at_529 : Int)), .un, .va (toD (codes_606 : (List (List Int)))), .va (toD (same_629 : (List Bool))), .un, .un, .un, .un]) (ig_range1 (em_int 4)) (ag_name 11) () (.same (.same (.same (.same (.same (.same (.same (.same (.same (.same (.same (.same (.same (.same (.same (.same (.same (.same .nil)))))))))))))))))) (fun st_631 turn_632 => [.va (toD (script_467 : Scr)), .va (toD (cell_here_470 : Int)), .va (toD (k_473 : Int)), .va (toD (first_477 : Int)), .va (toD (other_481 : Int)), .va (toD (small_488 : Int)), .va (toD (due_502 : (List (List Int)))), .va (toD (found_505 : (List (List Int)))), .va (toD (before_518 : (List Int))), .va (toD (behind_527 : (List Int))), .va (toD (at_529 : Int)), .va (toD (turn_632 : Int)), .va (toD (codes_606 : (List (List Int)))), .va (toD (same_629 : (List Bool))), .un, .un, .un, .un]) (fun _ _ => rfl) (fun st_631 turn_632 => (sb_ifL (eb_test (em_neB (em_eqD (EM.toE (EF.toM (ef_sl (EM.toS (em_ixL (EM.toS (em_var 12 codes_606 rfl)) (em_var 11 turn_632 rfl))) eo_none (eo_some (em_len (EM.toS (em_ixL (EM.toS (em_var 7 found_505 rfl)) (em_var 11 turn_632 rfl)))))))) (EM.toE (em_ixL (EM.toS (em_var 7 found_505 rfl)) (em_var 11 turn_632 rfl)))) (em_ixL (EM.toS (em_var 13 same_629 rfl)) (em_var 11 turn_632 rfl)))) (sb_ret (em_bl false)) (sb_next () (.same (.same (.same (.same (.same (.same (.same (.same (.same (.same (.same (.drop (.same (.same (.same (.same (.same (.same .nil))))))))))))))))))))) (fun st_631 => (sb_ret (em_bl true))))))))))))))))))))))))))))))))
end
end Kx

namespace Kx
open PySem PySem.Spec PyProof.Rows L2 Kr
open Enc (toD)
theorem finR_er {S ρ : Type} (c : Nat) (p : Int) : finR (.er c p : R (Fl S ρ)) = .er c p := (fun (m : R (Fl S ρ)) (e : m = .er c p) => show finR m = .er c p by rw [e]; rfl) _ rfl
def Bt (bits : List Int) : Prop := ∀ b ∈ bits, b = 0 ∨ b = 1
theorem cut_at (xs : List Int) (a w : Nat) (h : a + w ≤ xs.length) : cut xs (some (a : Int)) (some ((a : Int) + (w : Int))) = (xs.drop a).take w := by
  unfold cut
  rw [show (a : Int) + (w : Int) = ((a + w : Nat) : Int) by omega, HT.sIx_nat, HT.sIx_nat, Nat.min_eq_left (by omega), Nat.min_eq_left (by omega), show a + w - a = w by omega]
theorem vl_lt : ∀ (n : Nat) (xs : List Int), Bt xs → xs.length = n → 0 ≤ vl xs ∧ vl xs < 2 ^ n
  | 0, xs, _, h => by
    rw [List.length_eq_zero_iff.mp h]
    decide
  | n + 1, xs, hb, h => by
    have hne : xs ≠ [] := fun z => by
      rw [z] at h
      cases h
    have e := (List.dropLast_concat_getLast hne).symm
    have h1 := vl_lt n xs.dropLast (fun b hm => hb b (List.dropLast_subset xs hm)) (by rw [List.length_dropLast, h]; rfl)
    have h2 := hb _ (List.getLast_mem hne)
    rw [e, vl_snoc]
    have hp : (2 : Int) ^ (n + 1) = 2 ^ n * 2 := Int.pow_succ ..
    omega
theorem rf_eq (bits : List Int) (hb : Bt bits) (a w : Nat) (hw : w ≤ 60) : f_read_field bits a w = if bits.length < a + w then .er 0 bits.length else .ok (vl ((bits.drop a).take w), ((a + w : Nat) : Int)) := by
  unfold f_read_field b_read_field
  simp only [R.ok_bind, R.ok_pu, R.er_bind, R.bad_bind, R.ok_map, finR_rt, seqF_nx, seqF_rt, R.bind_ok, R.bind_bind, decide_eq_true_eq, Bool.not_eq_true', decide_eq_false_iff_not, Bool.false_eq_true, if_true, if_false, ite_nx]
  by_cases h : bits.length < a + w
  · rw [if_pos h, if_pos (by omega), finR_er]
  · rw [if_neg h, if_neg (by omega), cut_at bits a w (by omega)]
    have hl : ((bits.drop a).take w).length = w := by
      rw [List.length_take, List.length_drop]
      omega
    have hbt : Bt ((bits.drop a).take w) := fun b hm => hb b (List.mem_of_mem_drop (List.mem_of_mem_take hm))
    generalize (bits.drop a).take w = ys at hl hbt
    refine forR_elim (P := fun r => finR r = R.ok (vl ys, ((a + w : Nat) : Int))) (fun i (s : Int) => s = vl (ys.take i)) rfl (fun i hi s hI => ?_) (fun s hI => ?_)
    · have h1 := vl_lt i (ys.take i) (fun b hm => hbt b (List.mem_of_mem_take hm)) (by rw [List.length_take]; omega)
      have h2 : (2 : Int) ^ i ≤ 2 ^ 60 := pw_le (by omega)
      subst hI
      rw [mulR_ok (by decide) (by omega), R.ok_bind]
      refine ⟨_, rfl, ?_⟩
      rw [List.take_add_one, List.getElem?_eq_getElem hi]
      exact (vl_snoc _ _).symm
    · rw [hI, List.take_length, finR_rt, show (a : Int) + (w : Int) = ((a + w : Nat) : Int) by omega]
/-- the bit at a place -/
theorem rf1_eq (bits : List Int) (hb : Bt bits) (a : Nat) (h : a < bits.length) : f_read_field bits a 1 = .ok (bits[a], ((a + 1 : Nat) : Int)) := by
  have e := rf_eq bits hb a 1 (by decide)
  rw [if_neg (by omega)] at e
  rw [show ((1 : Nat) : Int) = 1 from rfl] at e
  rw [e, List.drop_eq_getElem_cons h]
  show R.ok ((2 * 0 + bits[a] : Int), _) = _
  rw [Int.mul_zero, Int.zero_add]
theorem while_nx {S T ρ : Type} {c : T → R Bool} {step : T → R (Fl T ρ)} {k : T → R (Fl S ρ)} {n : Nat} {s s' : T} (hc : c s = .ok true) (hs : step s = .ok (.nx s')) : whileR c step k (n + 1) s = whileR c step k n s' := by
  show (c s).bind _ = _
  rw [hc, R.ok_bind, if_pos rfl, hs]
  rfl
theorem while_rt {S T ρ : Type} {c : T → R Bool} {step : T → R (Fl T ρ)} {k : T → R (Fl S ρ)} {n : Nat} {s : T} {r : ρ} (hc : c s = .ok true) (hs : step s = .ok (.rt r)) : whileR c step k (n + 1) s = .ok (.rt r) := by
  show (c s).bind _ = _
  rw [hc, R.ok_bind, if_pos rfl, hs]
  rfl
theorem while_er {S T ρ : Type} {c : T → R Bool} {step : T → R (Fl T ρ)} {k : T → R (Fl S ρ)} {n : Nat} {s : T} {e : Nat} {p : Int} (hc : c s = .ok true) (hs : step s = .er e p) : whileR c step k (n + 1) s = .er e p := by
  show (c s).bind _ = _
  rw [hc, R.ok_bind, if_pos rfl, hs]
  rfl
theorem while_end {S T ρ : Type} {c : T → R Bool} {step : T → R (Fl T ρ)} {k : T → R (Fl S ρ)} {n : Nat} {s : T} (hc : c s = .ok false) : whileR c step k (n + 1) s = k s := by
  show (c s).bind _ = _
  rw [hc, R.ok_bind]
  rfl
/-! ### gamma -/
/-- a gamma code at a place: z zeros, a one, z more bits -/
theorem read_gamma_eq (bits : List Int) (hb : Bt bits) (a z : Nat) (hz : z ≤ 40) (h0 : ∀ i, i < z → bits[a + i]? = some 0) (h1 : bits[a + z]? = some 1) (hl : a + 2 * z + 1 ≤ bits.length) :
    f_read_gamma bits a = .ok (vl ((bits.drop (a + z)).take (z + 1)), ((a + 2 * z + 1 : Nat) : Int)) := by
  unfold f_read_gamma b_read_gamma
  simp only [R.ok_bind, R.ok_pu, R.er_bind, R.bad_bind, R.ok_map, finR_rt, seqF_nx, seqF_rt, R.bind_ok, R.bind_bind, decide_eq_true_eq, Bool.not_eq_true', decide_eq_false_iff_not, Bool.false_eq_true, if_true, if_false, ite_nx]
  have key : ∀ (m n : Nat), n + m = z → whileR (S := Unit) (fun (st : Int) => R.ok true) (fun st => (f_read_field bits ((a : Int) + st) 1).bind fun p => if p.1 = 1 then (f_read_field bits ((a : Int) + st) (st + 1)).bind fun a_82 => R.ok (Fl.rt a_82) else if 40 < st + 1 then R.er 1 (a : Int) else R.ok (Fl.nx (st + 1))) (fun _ => R.bad) (m + (100 - z)) (n : Int) = .ok (.rt (vl ((bits.drop (a + z)).take (z + 1)), ((a + 2 * z + 1 : Nat) : Int))) := by
    intro m
    induction m with
    | zero =>
      intro n hn
      obtain rfl : n = z := by omega
      rw [show 0 + (100 - n) = (99 - n) + 1 by omega]
      refine while_rt rfl ?_
      obtain ⟨hl1, hv1⟩ := List.getElem?_eq_some_iff.mp h1
      rw [show (a : Int) + (n : Int) = ((a + n : Nat) : Int) by omega, rf1_eq bits hb _ hl1, R.ok_bind, hv1, if_pos rfl, show (n : Int) + 1 = ((n + 1 : Nat) : Int) by omega, rf_eq bits hb _ _ (by omega), if_neg (by omega), R.ok_bind]
      rw [show a + n + (n + 1) = a + 2 * n + 1 by omega]
    | succ m ih =>
      intro n hn
      rw [show m + 1 + (100 - z) = (m + (100 - z)) + 1 by omega, ← ih (n + 1) (by omega)]
      refine while_nx rfl ?_
      obtain ⟨hl1, hv1⟩ := List.getElem?_eq_some_iff.mp (h0 n (by omega))
      rw [show (a : Int) + (n : Int) = ((a + n : Nat) : Int) by omega, rf1_eq bits hb _ hl1, R.ok_bind, hv1, if_neg (show ¬ (0 : Int) = 1 by decide), if_neg (by omega)]
      rfl
  have := key z 0 (by omega)
  rw [show z + (100 - z) = 100 by omega] at this
  rw [show ((0 : Nat) : Int) = 0 from rfl] at this
  rw [this, finR_rt]
/-! ### the codes -/
def wd (n : Int) : Nat := Builtin.Int.intBits n
theorem wd_ok {n : Int} (h : 1 ≤ n) : 1 ≤ wd n ∧ (2 : Int) ^ (wd n - 1) ≤ n ∧ n < 2 ^ wd n := by
  obtain ⟨w, e, h1, h2, h3⟩ := wd_of h
  have : wd n = w := by
    unfold wd
    omega
  rw [this]
  exact ⟨h1, h2, h3⟩
theorem wd_le {n : Int} {k : Nat} (h : 1 ≤ n) (h' : n < 2 ^ k) : wd n ≤ k := by
  obtain ⟨h1, h2, h3⟩ := wd_ok h
  rcases Nat.lt_or_ge k (wd n) with q | q
  · have := pw_le (show k ≤ wd n - 1 by omega)
    omega
  · exact q
theorem wd_eq {n : Int} {w : Nat} (h : 1 ≤ n) (hw : 1 ≤ w) (h1 : (2 : Int) ^ (w - 1) ≤ n) (h2 : n < 2 ^ w) : wd n = w := by
  obtain ⟨a1, a2, a3⟩ := wd_ok h
  exact wd_uniq a2 a3 h1 h2 a1 hw
theorem field_bits_eq (w v : Int) (h : 0 ≤ w ∧ w ≤ 1000) (hv : 0 ≤ v) : f_field_bits w v = .ok (bw w v) := by
  unfold f_field_bits b_field_bits
  simp only [R.ok_bind, R.ok_pu, R.er_bind, R.bad_bind, R.ok_map, finR_rt, seqF_nx, seqF_rt, R.bind_ok, R.bind_bind, decide_eq_true_eq, Bool.not_eq_true', decide_eq_false_iff_not, Bool.false_eq_true, if_true, if_false, ite_nx]
  have e : rng3R (w - 1) (-1) (-1) = .ok ((seqI 0 w.toNat).map fun j => w - 1 - j) := by
    unfold rng3R
    rw [if_pos (by omega), if_pos rfl, ← seqC_down w h.1, show (w - 1 - -1) = w by omega]
  rw [e, R.ok_bind, lcR_map (fun s => v / 2 ^ s.toNat % 2) (by rw [List.length_map, seqI_len]; omega) fun s hs => by
    obtain ⟨j, hj, rfl⟩ := List.mem_map.mp hs
    have := mem_seqI.mp hj
    rw [shrR_ok (by omega), R.ok_bind, and_one _ (Int.ediv_nonneg hv (Int.le_of_lt (Int.pow_pos (by decide))))]]
  simp only [R.ok_bind, R.ok_pu, R.er_bind, R.bad_bind, R.ok_map, finR_rt, seqF_nx, seqF_rt, R.bind_ok, R.bind_bind, decide_eq_true_eq, Bool.not_eq_true', decide_eq_false_iff_not, Bool.false_eq_true, if_true, if_false, ite_nx, List.map_map]
  rfl
def gm (n : Int) : List Int := List.replicate (wd n - 1) 0 ++ bw (wd n) n
def dl14 (n : Int) : List Int := gm (wd n) ++ (bw (wd n) n).tail
def rc (k : Nat) (n : Int) : List Int := List.replicate (n / 2 ^ k).toNat 1 ++ [0] ++ bw k n
theorem rep_one (x : Int) (k : Int) (h : 0 ≤ k ∧ k ≤ 1000000) : repR [x] k = .ok (List.replicate k.toNat x) := by
  unfold repR
  rw [if_pos (by simp; omega)]
  simp
theorem gamma_bits_eq (n : Int) (h : 1 ≤ n) (hw : wd n ≤ 1000) : f_gamma_bits n = .ok (gm n) := by
  have hw1 := (wd_ok h).1
  unfold f_gamma_bits b_gamma_bits
  simp only [R.ok_bind, R.ok_pu, R.er_bind, R.bad_bind, R.ok_map, finR_rt, seqF_nx, seqF_rt, R.bind_ok, R.bind_bind, decide_eq_true_eq, Bool.not_eq_true', decide_eq_false_iff_not, Bool.false_eq_true, if_true, if_false, ite_nx, szR_ok (show [(0 : Int)].length ≤ 1000000 by simp)]
  rw [show ((Builtin.Int.intBits n : Nat) : Int) = (wd n : Int) from rfl, rep_one 0 _ (by omega), R.ok_bind, field_bits_eq _ _ (by omega) (by omega), R.ok_pu, R.ok_bind, szR_ok (by rw [List.length_append, List.length_replicate, bw_len]; omega), R.ok_bind, finR_rt, show ((wd n : Int) - 1).toNat = wd n - 1 by omega]
  rfl
theorem cut_tail (xs : List Int) (h : 1 ≤ xs.length) : cut xs (some 1) none = xs.tail := by
  unfold cut
  rw [show (1 : Int) = ((1 : Nat) : Int) from rfl, HT.sIx_nat, HT.sIx_none, Nat.min_eq_left h, List.take_of_length_le (by rw [List.length_drop]; exact Nat.le_refl _), List.drop_one]
theorem wd_small {n : Int} (h : 1 ≤ n) (hn : n < 2 ^ 40) : 1 ≤ wd n ∧ wd n ≤ 40 := ⟨(wd_ok h).1, wd_le h hn⟩
theorem delta_bits_eq (n : Int) (h : 1 ≤ n) (hn : n < 2 ^ 40) : f_delta_bits n = .ok (dl14 n) := by
  have hw := wd_small h hn
  have hw2 : wd (wd n : Int) ≤ 10 := wd_le (by omega) (by have := hw.2; omega)
  unfold f_delta_bits b_delta_bits
  simp only [R.ok_bind, R.ok_pu, R.er_bind, R.bad_bind, R.ok_map, finR_rt, seqF_nx, seqF_rt, R.bind_ok, R.bind_bind, decide_eq_true_eq, Bool.not_eq_true', decide_eq_false_iff_not, Bool.false_eq_true, if_true, if_false, ite_nx]
  rw [show ((Builtin.Int.intBits n : Nat) : Int) = (wd n : Int) from rfl, gamma_bits_eq _ (by omega) (by omega), R.ok_pu, R.ok_bind, field_bits_eq _ _ (by omega) (by omega), R.ok_pu, R.ok_bind, cut_tail _ (by rw [bw_len]; omega)]
  rw [szR_ok (by rw [List.length_append, List.length_tail, bw_len]; unfold gm; rw [List.length_append, List.length_replicate, bw_len]; omega), R.ok_bind, finR_rt]
  rfl
theorem binary_eq (n : Int) (h : 1 ≤ n) (hn : n < 2 ^ 40) : f__law_binary n = .ok (bw (wd n) n) := by
  unfold f__law_binary b__law_binary
  simp only [R.ok_bind, R.ok_pu, R.er_bind, R.bad_bind, R.ok_map, finR_rt, seqF_nx, seqF_rt, R.bind_ok, R.bind_bind, decide_eq_true_eq, Bool.not_eq_true', decide_eq_false_iff_not, Bool.false_eq_true, if_true, if_false, ite_nx]
  rw [rng1_ok (by decide) (by decide), R.ok_bind]
  refine forR_elim (P := fun r => finR r = R.ok (bw (wd n) n)) (fun i (s : Int) => ∃ w : Nat, s = w ∧ 1 ≤ w ∧ w ≤ i + 1 ∧ (w = i + 1 ∨ n < 2 ^ w) ∧ (2 : Int) ^ (w - 1) ≤ n) ?_ (fun i hi s hI => ?_) (fun s hI => ?_)
  · exact ⟨1, rfl, by omega, by omega, .inl rfl, by simpa using h⟩
  · obtain ⟨w, rfl, h1, h2, h3, h4⟩ := hI
    rw [seqI_len] at hi
    rw [shlR_ok (by decide) (by omega), R.ok_bind, Int.one_mul, Int.toNat_natCast]
    by_cases c : (2 : Int) ^ w ≤ n
    · rw [if_pos c]
      refine ⟨_, rfl, w + 1, by omega, by omega, ?_, ?_, by rw [Nat.add_sub_cancel]; exact c⟩
      · rcases h3 with h3 | h3 <;> omega
      · rcases h3 with h3 | h3
        · exact .inl (by omega)
        · omega
    · rw [if_neg c]
      exact ⟨_, rfl, w, rfl, h1, by omega, .inr (by omega), h4⟩
  · obtain ⟨w, rfl, h1, h2, h3, h4⟩ := hI
    rw [seqI_len] at h2 h3
    have hlt : n < 2 ^ w := by
      rcases h3 with h3 | h3
      · have := pw_le (show 40 ≤ w - 1 by omega)
        omega
      · exact h3
    have e : wd n = w := wd_eq h h1 h4 hlt
    rw [rng1_ok (by omega) (by omega), R.ok_bind, lcR_map (fun j => n / 2 ^ ((w : Int) - 1 - j).toNat % 2) (by rw [seqI_len]; omega) fun x hx => by
      have := mem_seqI.mp hx
      have hp : (2 : Int) ^ ((w : Int) - 1 - x).toNat ≤ 2 ^ 50 := pw_le (by omega)
      rw [shlR_ok (by decide) (by omega), R.ok_bind, Int.one_mul, divR_ok (Int.pow_pos (by decide)) (by omega), R.ok_bind, modR_ok (by decide)], R.ok_bind, finR_rt, e]
    rfl
theorem law_gamma_eq (n : Int) (h : 1 ≤ n) (hn : n < 2 ^ 40) : f__law_gamma n = .ok (gm n) := by
  have hw := wd_small h hn
  unfold f__law_gamma b__law_gamma
  simp only [R.ok_bind, R.ok_pu, R.er_bind, R.bad_bind, R.ok_map, finR_rt, seqF_nx, seqF_rt, R.bind_ok, R.bind_bind, decide_eq_true_eq, Bool.not_eq_true', decide_eq_false_iff_not, Bool.false_eq_true, if_true, if_false, ite_nx, binary_eq n h hn, R.ok_pu, bw_len]
  rw [rng1_ok (by omega) (by omega), R.ok_bind, lcR_map (fun _ => 0) (by rw [seqI_len]; omega) fun x _ => rfl, R.ok_bind, szR_ok (by rw [List.length_append, List.length_map, seqI_len, bw_len]; omega), R.ok_bind, finR_rt, List.map_const', seqI_len]
  unfold gm
  rw [show ((((wd n : Int).toNat : Nat) : Int) - 1).toNat = wd n - 1 by omega]
theorem law_delta_eq (n : Int) (h : 1 ≤ n) (hn : n < 2 ^ 40) : f__law_delta n = .ok (dl14 n) := by
  have hw := wd_small h hn
  unfold f__law_delta b__law_delta
  simp only [R.ok_bind, R.ok_pu, R.er_bind, R.bad_bind, R.ok_map, finR_rt, seqF_nx, seqF_rt, R.bind_ok, R.bind_bind, decide_eq_true_eq, Bool.not_eq_true', decide_eq_false_iff_not, Bool.false_eq_true, if_true, if_false, ite_nx, binary_eq n h hn, R.ok_pu, bw_len]
  rw [show (((wd n : Int).toNat : Nat) : Int) = (wd n : Int) by omega, law_gamma_eq _ (by omega) (by omega), R.ok_pu, R.ok_bind, cut_tail _ (by rw [bw_len]; omega)]
  have hw2 : wd (wd n : Int) ≤ 10 := wd_le (by omega) (by have := hw.2; omega)
  rw [szR_ok (by rw [List.length_append, List.length_tail, bw_len]; unfold gm; rw [List.length_append, List.length_replicate, bw_len]; omega), R.ok_bind, finR_rt]
  rfl
end Kx

namespace Kx
open PySem PySem.Spec PyProof.Rows L2 Kr
open Enc (toD)
/-! ### the readers on the codes -/
theorem bt_app {xs ys : List Int} (h : Bt xs) (h' : Bt ys) : Bt (xs ++ ys) := fun b hb => (List.mem_append.mp hb).elim (h b) (h' b)
theorem bt_rep (k : Nat) {x : Int} (h : x = 0 ∨ x = 1) : Bt (List.replicate k x) := fun b hb => by rw [List.eq_of_mem_replicate hb]; exact h
theorem bt_bw (w v : Int) : Bt (bw w v) := bw_bit w v
theorem bt_gm (n : Int) : Bt (gm n) := bt_app (bt_rep _ (.inl rfl)) (bt_bw _ _)
theorem bt_tail {xs : List Int} (h : Bt xs) : Bt xs.tail := fun b hb => h b (List.mem_of_mem_tail hb)
theorem bt_dl (n : Int) : Bt (dl14 n) := bt_app (bt_gm _) (bt_tail (bt_bw _ _))
theorem bt_rc (k : Nat) (n : Int) : Bt (rc k n) := bt_app (bt_app (bt_rep _ (.inr rfl)) (fun b hb => by rw [List.mem_singleton.mp hb]; exact .inl rfl)) (bt_bw _ _)
theorem gm_len (n : Int) (h : 1 ≤ n) : (gm n).length = 2 * wd n - 1 := by
  have := (wd_ok h).1
  unfold gm
  rw [List.length_append, List.length_replicate, bw_len]
  omega
/-- the first bit is a one -/
theorem bw_top (n : Int) (h : 1 ≤ n) : bw (wd n) n = 1 :: bw ((wd n - 1 : Nat) : Int) n := by
  obtain ⟨h1, h2, h3⟩ := wd_ok h
  obtain ⟨w, hw⟩ : ∃ w, wd n = w + 1 := ⟨wd n - 1, by omega⟩
  rw [hw] at h3
  rw [hw, Nat.add_sub_cancel] at h2
  rw [hw, Nat.add_sub_cancel]
  rw [bw_cons]
  have hp : (2 : Int) ^ (w + 1) = 2 ^ w * 2 := Int.pow_succ ..
  have e : n / 2 ^ w = 1 := by
    have p0 : (0 : Int) < 2 ^ w := Int.pow_pos (by decide)
    have a1 : 1 ≤ n / 2 ^ w := (Int.le_ediv_iff_mul_le p0).mpr (by omega)
    have a2 : n / 2 ^ w < 2 := Int.ediv_lt_of_lt_mul p0 (by omega)
    omega
  rw [e]
  rfl
theorem read_gamma_at (pre post : List Int) (hp : Bt pre) (hq : Bt post) (n : Int) (h : 1 ≤ n) (hw : wd n ≤ 41) : f_read_gamma (pre ++ (gm n ++ post)) (pre.length : Nat) = .ok (n, ((pre.length + (gm n).length : Nat) : Int)) := by
  obtain ⟨h1, h2, h3⟩ := wd_ok h
  have hl := gm_len n h
  have hb : Bt (pre ++ (gm n ++ post)) := bt_app hp (bt_app (bt_gm n) hq)
  have hat : ∀ i, (pre ++ (gm n ++ post))[pre.length + i]? = (gm n ++ post)[i]? := fun i => by
    rw [List.getElem?_append_right (by omega), Nat.add_sub_cancel_left]
  have hg : ∀ i, i < (gm n).length → (gm n ++ post)[i]? = (gm n)[i]? := fun i hi => List.getElem?_append_left hi
  have hone : (gm n)[wd n - 1]? = some 1 := by
    unfold gm
    rw [List.getElem?_append_right (by rw [List.length_replicate]; exact Nat.le_refl _), List.length_replicate, Nat.sub_self, bw_top n h]
    rfl
  have e := read_gamma_eq (pre ++ (gm n ++ post)) hb pre.length (wd n - 1) (by omega) (fun i hi => by
    rw [hat, hg i (by omega)]
    unfold gm
    rw [List.getElem?_append_left (by rw [List.length_replicate]; exact hi), List.getElem?_replicate, if_pos hi]) (by rw [hat, hg _ (by omega)]; exact hone) (by rw [List.length_append, List.length_append]; omega)
  rw [e]
  have hv : ((pre ++ (gm n ++ post)).drop (pre.length + (wd n - 1))).take (wd n - 1 + 1) = bw (wd n) n := by
    rw [List.drop_append, List.drop_of_length_le (by omega), List.nil_append, Nat.add_sub_cancel_left]
    unfold gm
    rw [List.append_assoc, List.drop_append, List.drop_of_length_le (by rw [List.length_replicate]; exact Nat.le_refl _), List.nil_append, List.length_replicate, Nat.sub_self, List.drop_zero, List.take_append_of_le_length (by rw [bw_len]; omega), List.take_of_length_le (by rw [bw_len]; omega)]
  rw [hv, vl_bw _ _ (by omega) h3, hl, show pre.length + 2 * (wd n - 1) + 1 = pre.length + (2 * wd n - 1) by omega]
theorem read_delta_at (pre post : List Int) (hp : Bt pre) (hq : Bt post) (n : Int) (h : 1 ≤ n) (hn : n < 2 ^ 40) : f_read_delta (pre ++ (dl14 n ++ post)) (pre.length : Nat) = .ok (n, ((pre.length + (dl14 n).length : Nat) : Int)) := by
  have hw := wd_small h hn
  obtain ⟨h1, h2, h3⟩ := wd_ok h
  have hw2 : wd (wd n : Int) ≤ 10 := wd_le (by omega) (by have := hw.2; omega)
  have hb : Bt (pre ++ (dl14 n ++ post)) := bt_app hp (bt_app (bt_dl n) hq)
  have hgl := gm_len (wd n : Int) (by omega)
  have hw21 := (wd_ok (show (1 : Int) ≤ wd n by omega)).1
  have htl : ((bw (wd n) n).tail).length = wd n - 1 := by rw [List.length_tail, bw_len]; omega
  have e1 := read_gamma_at pre ((bw (wd n) n).tail ++ post) hp (bt_app (bt_tail (bt_bw _ _)) hq) (wd n : Int) (by omega) (by omega)
  have ea : pre ++ (gm (wd n : Int) ++ ((bw (wd n) n).tail ++ post)) = pre ++ (dl14 n ++ post) := by
    unfold dl14
    rw [List.append_assoc]
  rw [ea] at e1
  have hdl : (dl14 n).length = (gm (wd n : Int)).length + (wd n - 1) := by
    unfold dl14
    rw [List.length_append, htl]
  unfold f_read_delta b_read_delta
  simp only [R.ok_bind, R.ok_pu, R.er_bind, R.bad_bind, R.ok_map, finR_rt, seqF_nx, seqF_rt, R.bind_ok, R.bind_bind, decide_eq_true_eq, Bool.not_eq_true', decide_eq_false_iff_not, Bool.false_eq_true, if_true, if_false, ite_nx, e1]
  rw [if_neg (by omega), show (wd n : Int) - 1 = ((wd n - 1 : Nat) : Int) by omega, rf_eq _ hb _ _ (by omega), if_neg (by rw [List.length_append, List.length_append]; omega), R.ok_bind, shlR_ok (by decide) (by omega), R.ok_bind, finR_rt]
  have hv : ((pre ++ (dl14 n ++ post)).drop (pre.length + (gm (wd n : Int)).length)).take (wd n - 1) = bw ((wd n - 1 : Nat) : Int) n := by
    rw [← ea, List.drop_append, List.drop_of_length_le (by omega), List.nil_append, Nat.add_sub_cancel_left, List.drop_append, List.drop_of_length_le (Nat.le_refl _), List.nil_append, Nat.sub_self, List.drop_zero, List.take_append_of_le_length (by omega), List.take_of_length_le (by omega), bw_top n h]
    rfl
  have hm : n % 2 ^ (wd n - 1) = n - 2 ^ (wd n - 1) := by
    have hp2 : (2 : Int) ^ (wd n) = 2 ^ (wd n - 1) * 2 := by rw [← Int.pow_succ, show (wd n - 1).succ = wd n by omega]
    have e0 : (n - 2 ^ (wd n - 1)) % 2 ^ (wd n - 1) = n - 2 ^ (wd n - 1) := Int.emod_eq_of_lt (by omega) (by omega)
    rw [← e0, Int.sub_emod_right]
  rw [hv, ← bw_mod, vl_bw _ _ (Int.emod_nonneg _ (Int.ne_of_gt (Int.pow_pos (by decide)))) (Int.emod_lt_of_pos _ (Int.pow_pos (by decide))), hm, Int.one_mul, Int.toNat_natCast, hdl]
  rw [show (2 : Int) ^ (wd n - 1) + (n - 2 ^ (wd n - 1)) = n by omega, Nat.add_assoc]
/-! ### rice -/
theorem rice_bits_eq (k : Nat) (hk : k ≤ 20) (n : Int) (h : 0 ≤ n) (hn : n / 2 ^ k ≤ 1000) : f_rice_bits k n = .ok (rc k n) := by
  have hp : (0 : Int) < 2 ^ k := Int.pow_pos (by decide)
  have hd := Int.ediv_nonneg h (Int.le_of_lt hp)
  unfold f_rice_bits b_rice_bits
  simp only [R.ok_bind, R.ok_pu, R.er_bind, R.bad_bind, R.ok_map, finR_rt, seqF_nx, seqF_rt, R.bind_ok, R.bind_bind, decide_eq_true_eq, Bool.not_eq_true', decide_eq_false_iff_not, Bool.false_eq_true, if_true, if_false, ite_nx, szR_ok (show [(1 : Int)].length ≤ 1000000 by simp), szR_ok (show [(0 : Int)].length ≤ 1000000 by simp)]
  rw [shrR_ok (by omega), R.ok_bind, Int.toNat_natCast, rep_one 1 _ (by omega), R.ok_bind, szR_ok (by rw [List.length_append, List.length_replicate]; simp; omega), R.ok_bind, shlR_ok (by decide) (by omega), R.ok_bind, Int.toNat_natCast, and_low n k h, field_bits_eq _ _ (by omega) (Int.emod_nonneg _ (Int.ne_of_gt hp)), R.ok_pu, R.ok_bind, bw_mod, szR_ok (by rw [List.length_append, List.length_append, List.length_replicate, bw_len]; simp; omega), R.ok_bind, finR_rt]
  rfl
theorem law_rice_eq (k : Nat) (hk : k ≤ 20) (n : Int) (h : 0 ≤ n) (hn : n / 2 ^ k ≤ 1000) : f__law_rice k n = .ok (rc k n) := by
  have hp : (0 : Int) < 2 ^ k := Int.pow_pos (by decide)
  have hp20 : (2 : Int) ^ k ≤ 2 ^ 20 := pw_le hk
  have hd := Int.ediv_nonneg h (Int.le_of_lt hp)
  unfold f__law_rice b__law_rice
  simp only [R.ok_bind, R.ok_pu, R.er_bind, R.bad_bind, R.ok_map, finR_rt, seqF_nx, seqF_rt, R.bind_ok, R.bind_bind, decide_eq_true_eq, Bool.not_eq_true', decide_eq_false_iff_not, Bool.false_eq_true, if_true, if_false, ite_nx, szR_ok (show [(0 : Int)].length ≤ 1000000 by simp)]
  rw [shlR_ok (by decide) (by omega), R.ok_bind, Int.one_mul, Int.toNat_natCast, divR_ok hp (by omega), R.ok_bind, rng1_ok (by omega) (by omega), R.ok_bind, lcR_map (fun _ => 1) (by rw [seqI_len]; omega) fun x _ => rfl, R.ok_bind, szR_ok (by rw [List.length_append, List.length_map, seqI_len]; simp; omega), R.ok_bind, rng1_ok (by omega) (by omega), R.ok_bind]
  rw [lcR_map (fun j => n / 2 ^ ((k : Int) - 1 - j).toNat % 2) (by rw [seqI_len]; omega) fun x hx => by
      have := mem_seqI.mp hx
      have hp : (2 : Int) ^ ((k : Int) - 1 - x).toNat ≤ 2 ^ 20 := pw_le (by omega)
      rw [shlR_ok (by decide) (by omega), R.ok_bind, Int.one_mul, divR_ok (Int.pow_pos (by decide)) (by omega), R.ok_bind, modR_ok (by decide)]]
  rw [R.ok_bind, szR_ok (by rw [List.length_append, List.length_append, List.length_map, List.length_map, seqI_len, seqI_len]; simp; omega), R.ok_bind, finR_rt, List.map_const', seqI_len]
  rfl
end Kx

namespace Kx
open PySem PySem.Spec PyProof.Rows L2 Kr
open Enc (toD)
/-! ### fibonacci -/
def fb : Nat → Int
  | 0 => 1
  | 1 => 2
  | n + 2 => fb (n + 1) + fb n
theorem fb_step (n : Nat) : fb (n + 2) = fb (n + 1) + fb n := rfl
theorem fb_both : ∀ n : Nat, 1 ≤ fb n ∧ fb n < fb (n + 1)
  | 0 => by decide
  | n + 1 => by
    have h := fb_both n
    rw [fb_step]
    omega
theorem fb_mono {n m : Nat} (h : n ≤ m) : fb n ≤ fb m := by
  induction m with
  | zero => rw [Nat.le_zero.mp h]; exact Int.le_refl _
  | succ m ih =>
    rcases Nat.lt_or_ge m n with q | q
    · rw [show n = m + 1 by omega]
      exact Int.le_refl _
    · have := fb_both m
      have := ih q
      omega
theorem fb61 : fb 61 = 6557470319842 := by decide +kernel
/-- the greedy bits, the greatest number first -/
def zd : Nat → Int → List Int
  | 0, _ => []
  | m + 1, n => if fb m ≤ n then 1 :: zd m (n - fb m) else 0 :: zd m n
theorem zd_len : ∀ (m : Nat) (n : Int), (zd m n).length = m
  | 0, _ => rfl
  | m + 1, n => by
    unfold zd
    split <;> rw [List.length_cons, zd_len]
theorem zd_bit : ∀ (m : Nat) (n : Int), Bt (zd m n)
  | 0, _ => fun b hb => nomatch hb
  | m + 1, n => by
    unfold zd
    intro b hb
    split at hb
    · rcases List.mem_cons.mp hb with rfl | hb
      · exact .inr rfl
      · exact zd_bit m _ b hb
    · rcases List.mem_cons.mp hb with rfl | hb
      · exact .inl rfl
      · exact zd_bit m _ b hb
/-- how many numbers are at most n -/
theorem fm_of (n : Int) (h : 1 ≤ n) (hn : n < 2 ^ 40) : ∃ M : Nat, 1 ≤ M ∧ M ≤ 61 ∧ fb (M - 1) ≤ n ∧ n < fb M := by
  have key : ∀ k : Nat, n < fb k → ∃ M : Nat, 1 ≤ M ∧ M ≤ k ∧ fb (M - 1) ≤ n ∧ n < fb M := by
    intro k
    induction k with
    | zero =>
      intro hk
      have : fb 0 = 1 := rfl
      omega
    | succ k ih =>
      intro hk
      by_cases c : n < fb k
      · obtain ⟨M, h1, h2, h3, h4⟩ := ih c
        exact ⟨M, h1, by omega, h3, h4⟩
      · exact ⟨k + 1, by omega, by omega, by rw [Nat.add_sub_cancel]; omega, hk⟩
  exact key 61 (by rw [fb61]; omega)
def fcode (n : Int) (M : Nat) : List Int := (zd M n).reverse ++ [1]
theorem idxR_neg {xs : List Int} {k : Nat} (h : 1 ≤ k) (h' : k ≤ xs.length) : idxR xs (-(k : Int)) = .ok (xs[xs.length - k]'(by omega)) := by
  unfold idxR atI ixN
  rw [if_neg (by omega), if_pos (by omega), Option.bind_some, List.getElem?_eq_getElem (by omega)]
  show R.ok _ = R.ok _
  congr 1
  congr 1
  omega
theorem fbs_len (m : Nat) : ((List.range m).map fb).length = m := by rw [List.length_map, List.length_range]
theorem fbs_at {m i : Nat} (h : i < ((List.range m).map fb).length) : ((List.range m).map fb)[i] = fb i := by
  rw [List.getElem_map, List.getElem_range]
theorem fbs_succ (m : Nat) : (List.range (m + 1)).map fb = (List.range m).map fb ++ [fb m] := by
  rw [List.range_succ, List.map_append]
  rfl
theorem fbs_rev (m : Nat) : ((List.range (m + 1)).map fb).reverse = fb m :: ((List.range m).map fb).reverse := by
  rw [fbs_succ, List.reverse_append]
  rfl
theorem fib_bits_eq (n : Int) (h : 1 ≤ n) (M : Nat) (h1 : 1 ≤ M) (h2 : M ≤ 61) (h3 : fb (M - 1) ≤ n) (h4 : n < fb M) : f_fibonacci_bits n = .ok (fcode n M) := by
  unfold f_fibonacci_bits b_fibonacci_bits
  simp only [R.ok_bind, R.ok_pu, R.er_bind, R.bad_bind, R.ok_map, finR_rt, seqF_nx, seqF_rt, R.bind_ok, R.bind_bind, decide_eq_true_eq, Bool.not_eq_true', decide_eq_false_iff_not, Bool.false_eq_true, if_true, if_false, ite_nx, szR_ok (show [(1 : Int)].length ≤ 1000000 by simp), szR_nil]
  generalize hk : (fun (st_183 : List Int × Int) => forR _ _ st_183.1.reverse (n, ([] : List Int))) = kk
  have hkk : ∀ st : List Int × Int, st.1 = (List.range M).map fb → finR (kk st) = .ok (fcode n M) := fun st hst => by
    obtain ⟨st1, st2⟩ := st
    obtain rfl : st1 = (List.range M).map fb := hst
    rw [← hk]
    have key : ∀ (m : Nat) (n : Int) (bs : List Int), bs.length + m ≤ 1000 → forR (S := Unit) (fun (st_199 : Int × List Int) (number_200 : Int) => (szR (st_199.2 ++ [if number_200 ≤ st_199.1 then (1 : Int) else 0])).bind fun bits_201 => R.ok (Fl.nx (if number_200 ≤ st_199.1 then (st_199.1 - number_200, bits_201) else (st_199.1, bits_201)))) (fun st_199 => (szR (st_199.2.reverse ++ [1])).bind fun a => R.ok (Fl.rt a)) ((List.range m).map fb).reverse (n, bs) = (szR ((bs ++ zd m n).reverse ++ [1])).bind fun a => R.ok (Fl.rt a) := by
      intro m
      induction m with
      | zero =>
        intro n bs _
        show (szR (bs.reverse ++ [1])).bind _ = (szR ((bs ++ []).reverse ++ [1])).bind _
        rw [List.append_nil]
      | succ m ih =>
        intro n bs hl
        rw [fbs_rev, forR_cons, szR_snoc (by show bs.length < 1000000; omega), R.ok_bind]
        by_cases c : fb m ≤ n
        · have e := ih (n - fb m) (bs ++ [1]) (by rw [List.length_append]; simp; omega)
          show (R.ok (Fl.nx (if fb m ≤ n then _ else _)) : R (Fl (Int × List Int) (List Int))).bind _ = _
          rw [if_pos c, if_pos c]
          show forR _ _ _ (n - fb m, bs ++ [1]) = _
          rw [e]
          show (szR ((bs ++ [1] ++ zd m (n - fb m)).reverse ++ [1])).bind _ = (szR ((bs ++ (if fb m ≤ n then 1 :: zd m (n - fb m) else 0 :: zd m n)).reverse ++ [1])).bind _
          rw [if_pos c, List.append_assoc, List.singleton_append]
        · have e := ih n (bs ++ [0]) (by rw [List.length_append]; simp; omega)
          show (R.ok (Fl.nx (if fb m ≤ n then _ else _)) : R (Fl (Int × List Int) (List Int))).bind _ = _
          rw [if_neg c, if_neg c]
          show forR _ _ _ (n, bs ++ [0]) = _
          rw [e]
          show (szR ((bs ++ [0] ++ zd m n).reverse ++ [1])).bind _ = (szR ((bs ++ (if fb m ≤ n then 1 :: zd m (n - fb m) else 0 :: zd m n)).reverse ++ [1])).bind _
          rw [if_neg c, List.append_assoc, List.singleton_append]
    have e := key M n [] (by simp; omega)
    rw [List.nil_append] at e
    refine Eq.trans (congrArg finR e) ?_
    rw [szR_ok (by rw [List.length_append, List.length_reverse, zd_len]; simp; omega), R.ok_bind, finR_rt]
    rfl
  have loop : ∀ (d m : Nat), m + d = M → 1 ≤ m → finR (whileR (S := Unit) (fun (st_183 : List Int × Int) => R.ok (decide (st_183.2 ≤ n))) (fun st_183 => (szR (st_183.1 ++ [st_183.2])).bind fun numbers_186 => (idxR numbers_186 (-1)).bind fun a_193 => (idxR numbers_186 (-2)).bind fun b_194 => R.ok (Fl.nx (numbers_186, a_193 + b_194))) kk (d + (200 - M) + 1) ((List.range m).map fb, fb m)) = .ok (fcode n M) := by
    intro d
    induction d with
    | zero =>
      intro m hm h1
      obtain rfl : m = M := by omega
      rw [while_end (by show R.ok (decide (fb m ≤ n)) = _; rw [decide_eq_false (by omega)])]
      exact hkk _ rfl
    | succ d ih =>
      intro m hm h1
      have hle : fb m ≤ n := by
        have := fb_mono (show m ≤ M - 1 by omega)
        omega
      have hl : ((List.range m).map fb ++ [fb m]).length = m + 1 := by rw [← fbs_succ, fbs_len]
      rw [show d + 1 + (200 - M) + 1 = (d + (200 - M) + 1) + 1 by omega, while_nx (s' := ((List.range (m + 1)).map fb, fb (m + 1))) (by show R.ok (decide (fb m ≤ n)) = _; rw [decide_eq_true hle]) ?_]
      · exact ih (m + 1) (by omega) (by omega)
      · show (szR ((List.range m).map fb ++ [fb m])).bind _ = _
        rw [szR_ok (by rw [hl]; omega), R.ok_bind, ← fbs_succ]
        have i1 := idxR_neg (xs := (List.range (m + 1)).map fb) (k := 1) (by omega) (by rw [fbs_len]; omega)
        have i2 := idxR_neg (xs := (List.range (m + 1)).map fb) (k := 2) (by omega) (by rw [fbs_len]; omega)
        rw [show (-((1 : Nat) : Int)) = -1 from rfl, fbs_at] at i1
        rw [show (-((2 : Nat) : Int)) = -2 from rfl, fbs_at] at i2
        rw [i1, R.ok_bind, i2, R.ok_bind, fbs_len]
        obtain ⟨q, rfl⟩ : ∃ q, m = q + 1 := ⟨m - 1, by omega⟩
        rfl
  have := loop (M - 1) 1 (by omega) (Nat.le_refl _)
  rw [show M - 1 + (200 - M) + 1 = 200 by omega] at this
  exact this
end Kx

namespace Kx
open PySem PySem.Spec PyProof.Rows L2 Kr
open Enc (toD)
/-- the sum that the bits stand for -/
def tt (bs : List Int) : Int := ((List.range bs.length).map fun j => bs.getD j 0 * fb j).sum
theorem tt_snoc (bs : List Int) (b : Int) : tt (bs ++ [b]) = tt bs + b * fb bs.length := by
  unfold tt
  rw [List.length_append, List.length_singleton, List.range_succ, List.map_append, List.sum_append]
  congr 1
  · congr 1
    refine List.map_congr_left fun j hj => ?_
    rw [List.getD_eq_getElem?_getD, List.getD_eq_getElem?_getD, List.getElem?_append_left (List.mem_range.mp hj)]
  · rw [List.map_singleton, List.sum_singleton, List.getD_eq_getElem?_getD, List.getElem?_append_right (Nat.le_refl _), Nat.sub_self]
    rfl
theorem zd_rev (m : Nat) (n : Int) : (zd (m + 1) n).reverse = if fb m ≤ n then (zd m (n - fb m)).reverse ++ [1] else (zd m n).reverse ++ [0] := by
  show (if fb m ≤ n then 1 :: zd m (n - fb m) else 0 :: zd m n).reverse = _
  split
  · rw [List.reverse_cons]
  · rw [List.reverse_cons]
theorem rest_lt {m : Nat} {n : Int} (h : n < fb (m + 1)) (h' : fb m ≤ n) : n - fb m < fb m ∧ (∀ q, m = q + 1 → n - fb m < fb q) := by
  cases m with
  | zero =>
    have e0 : fb 0 = 1 := rfl
    have e1 : fb (0 + 1) = 2 := rfl
    exact ⟨by omega, fun q hq => nomatch hq⟩
  | succ q =>
    rw [fb_step] at h
    have := fb_both q
    refine ⟨by omega, fun r hr => ?_⟩
    obtain rfl : r = q := by omega
    omega
theorem zd_sum : ∀ (m : Nat) (n : Int), 0 ≤ n → n < fb m → tt (zd m n).reverse = n
  | 0, n, h, h' => by
    have e0 : fb 0 = 1 := rfl
    have : n = 0 := by omega
    subst this
    rfl
  | m + 1, n, h, h' => by
    rw [zd_rev]
    by_cases c : fb m ≤ n
    · rw [if_pos c, tt_snoc, zd_sum m _ (by omega) (rest_lt h' c).1, List.length_reverse, zd_len]
      omega
    · rw [if_neg c, tt_snoc, zd_sum m n h (by omega)]
      omega
/-- no two ones side by side -/
def NA (bs : List Int) : Prop := ∀ i : Nat, bs[i]? = some 1 → bs[i + 1]? ≠ some 1
theorem na_snoc {bs : List Int} {b : Int} (h : NA bs) (h' : b = 1 → ∀ q, bs.length = q + 1 → bs[q]? ≠ some 1) : NA (bs ++ [b]) := fun i h1 h2 => by
  by_cases c : i + 1 < bs.length
  · rw [List.getElem?_append_left (by omega)] at h1
    rw [List.getElem?_append_left c] at h2
    exact h i h1 h2
  · by_cases c2 : i + 1 = bs.length
    · rw [List.getElem?_append_left (by omega)] at h1
      rw [List.getElem?_append_right (by omega), c2, Nat.sub_self] at h2
      have hb : b = 1 := Option.some.inj h2
      exact h' hb i c2.symm h1
    · rw [List.getElem?_eq_none (by rw [List.length_append]; simp; omega)] at h2
      cases h2
theorem zd_na : ∀ (m : Nat) (n : Int), 0 ≤ n → n < fb m → NA (zd m n).reverse
  | 0, n, h, h' => fun i h1 => by
    have e : (zd 0 n).reverse = [] := rfl
    rw [e] at h1
    simp at h1
  | m + 1, n, h, h' => by
    rw [zd_rev]
    by_cases c : fb m ≤ n
    · rw [if_pos c]
      refine na_snoc (zd_na m _ (by omega) (rest_lt h' c).1) fun _ q hq => ?_
      rw [List.length_reverse, zd_len] at hq
      subst hq
      have hlt := (rest_lt h' c).2 q rfl
      rw [zd_rev, if_neg (by omega), List.getElem?_append_right (by rw [List.length_reverse, zd_len]; exact Nat.le_refl _), List.length_reverse, zd_len, Nat.sub_self]
      simp
    · rw [if_neg c]
      exact na_snoc (zd_na m n h (by omega)) fun z => nomatch z
theorem zd_top {M : Nat} {n : Int} (h1 : 1 ≤ M) (h3 : fb (M - 1) ≤ n) : (zd M n).reverse[M - 1]? = some 1 := by
  obtain ⟨q, rfl⟩ : ∃ q, M = q + 1 := ⟨M - 1, by omega⟩
  rw [Nat.add_sub_cancel] at h3 ⊢
  rw [zd_rev, if_pos h3, List.getElem?_append_right (by rw [List.length_reverse, zd_len]; exact Nat.le_refl _), List.length_reverse, zd_len, Nat.sub_self]
  rfl
theorem take_snoc {bs : List Int} {i : Nat} {b : Int} (h : bs[i]? = some b) : bs.take (i + 1) = bs.take i ++ [b] := by
  rw [List.take_add_one, h]
  rfl
theorem read_fib_eq (bits : List Int) (hb : Bt bits) (a : Nat) (bs : List Int) (M : Nat) (hM : bs.length = M) (h61 : M ≤ 61) (h1 : 1 ≤ M) (hbs : ∀ i, i < M → bits[a + i]? = bs[i]?) (hend : bits[a + M]? = some 1) (na : NA bs) (top : bs[M - 1]? = some 1) :
    f_read_fibonacci bits a = .ok (tt bs, ((a + M + 1 : Nat) : Int)) := by
  unfold f_read_fibonacci b_read_fibonacci
  simp only [R.ok_bind, R.ok_pu, R.er_bind, R.bad_bind, R.ok_map, finR_rt, seqF_nx, seqF_rt, R.bind_ok, R.bind_bind, decide_eq_true_eq, Bool.not_eq_true', decide_eq_false_iff_not, Bool.false_eq_true, if_true, if_false, ite_nx]
  have hbt : Bt bs := fun b hm => by
    obtain ⟨i, hi, rfl⟩ := List.getElem_of_mem hm
    have := hbs i (by omega)
    rw [List.getElem?_eq_getElem hi] at this
    exact hb _ (List.mem_of_getElem? this)
  have hal : a + M < bits.length := (List.getElem?_eq_some_iff.mp hend).1
  have key : ∀ (d i : Nat), i + d = M → whileR (S := Unit) (fun (st : Int × Int × Int × Int × Int) => R.ok true) (fun st => (f_read_field bits st.1 1).bind fun p => (if p.1 = 1 then R.ok (decide (st.2.2.1 = 1)) else R.ok false).bind fun c => if c = true then R.ok (Fl.rt (st.2.1, p.2)) else (mulR p.1 st.2.2.2.1).bind fun b => R.ok (Fl.nx (p.2, st.2.1 + b, p.1, st.2.2.2.2, st.2.2.2.1 + st.2.2.2.2))) (fun _ => R.bad) (d + (bits.length + 100 - M)) (((a + i : Nat) : Int), tt (bs.take i), (if i = 0 then 0 else bs.getD (i - 1) 0), fb i, fb (i + 1)) = .ok (.rt (tt bs, ((a + M + 1 : Nat) : Int))) := by
    intro d
    induction d with
    | zero =>
      intro i hi
      obtain rfl : i = M := by omega
      rw [show 0 + (bits.length + 100 - i) = (bits.length + 99 - i) + 1 by omega]
      refine while_rt rfl ?_
      obtain ⟨hl1, hv1⟩ := List.getElem?_eq_some_iff.mp hend
      have hbf : (if i = 0 then 0 else bs.getD (i - 1) 0) = 1 := by
        rw [if_neg (by omega), List.getD_eq_getElem?_getD, top]
        rfl
      show (f_read_field bits ((a + i : Nat) : Int) 1).bind _ = _
      rw [rf1_eq bits hb _ hl1, R.ok_bind, hv1, if_pos rfl, R.ok_bind, hbf]
      show (if decide ((1 : Int) = 1) = true then R.ok (Fl.rt (tt (bs.take i), ((a + i + 1 : Nat) : Int))) else _) = _
      rw [if_pos (show decide ((1 : Int) = 1) = true from rfl), ← hM, List.take_length]
    | succ d ih =>
      intro i hi
      rw [show d + 1 + (bits.length + 100 - M) = (d + (bits.length + 100 - M)) + 1 by omega, ← ih (i + 1) (by omega)]
      refine while_nx rfl ?_
      have hi' : i < bs.length := by omega
      have hbi : bits[a + i]? = some bs[i] := by rw [hbs i (by omega), List.getElem?_eq_getElem hi']
      obtain ⟨hl1, hv1⟩ := List.getElem?_eq_some_iff.mp hbi
      have h01 := hbt bs[i] (List.getElem_mem hi')
      have hno : ¬ (bs[i] = 1 ∧ (if i = 0 then 0 else bs.getD (i - 1) 0) = 1) := fun ⟨z1, z2⟩ => by
        by_cases c : i = 0
        · rw [if_pos c] at z2
          cases z2
        · rw [if_neg c, List.getD_eq_getElem?_getD, List.getElem?_eq_getElem (show i - 1 < bs.length by omega)] at z2
          refine na (i - 1) ?_ ?_
          · rw [List.getElem?_eq_getElem (show i - 1 < bs.length by omega)]
            exact congrArg some z2
          · rw [show i - 1 + 1 = i by omega, List.getElem?_eq_getElem hi', z1]
      have hfb : fb i ≤ 6557470319842 := by
        rw [← fb61]
        exact fb_mono (by omega)
      have hfp := fb_both i
      show (f_read_field bits ((a + i : Nat) : Int) 1).bind _ = _
      rw [rf1_eq bits hb _ hl1, R.ok_bind, hv1]
      have hc : ((if bs[i] = 1 then R.ok (decide ((if i = 0 then 0 else bs.getD (i - 1) 0) = 1)) else R.ok false) : R Bool) = R.ok false := by
        by_cases c : bs[i] = 1
        · rw [if_pos c, decide_eq_false fun z => hno ⟨c, z⟩]
        · rw [if_neg c]
      show (R.bind (if bs[i] = 1 then R.ok (decide ((if i = 0 then 0 else bs.getD (i - 1) 0) = 1)) else R.ok false) _) = _
      rw [hc, R.ok_bind, if_neg (show ¬ false = true by decide)]
      show (mulR bs[i] (fb i)).bind _ = _
      rw [mulR_ok (by omega) (by omega), R.ok_bind, take_snoc (List.getElem?_eq_getElem hi'), tt_snoc, List.length_take, Nat.min_eq_left (by omega)]
      have eg : bs.getD i 0 = bs[i] := by
        rw [List.getD_eq_getElem?_getD, List.getElem?_eq_getElem hi']
        rfl
      rw [if_neg (show ¬ i + 1 = 0 by omega), Nat.add_sub_cancel, eg, fb_step, Int.add_comm (fb (i + 1)) (fb i)]
      rfl
  have := key M 0 (by omega)
  rw [show M + (bits.length + 100 - M) = bits.length + 100 by omega] at this
  refine Eq.trans (congrArg finR this) (finR_rt _)
end Kx

namespace Kx
open PySem PySem.Spec PyProof.Rows L2 Kr
open Enc (toD)
theorem bt_fc (n : Int) (M : Nat) : Bt (fcode n M) := bt_app (fun b hb => zd_bit M n b (List.mem_reverse.mp hb)) (fun b hb => by rw [List.mem_singleton.mp hb]; exact .inr rfl)
theorem fc_len (n : Int) (M : Nat) : (fcode n M).length = M + 1 := by
  unfold fcode
  rw [List.length_append, List.length_reverse, zd_len]
  rfl
theorem at_pre (pre xs post : List Int) (i : Nat) (h : i < xs.length) : (pre ++ (xs ++ post))[pre.length + i]? = xs[i]? := by
  rw [List.getElem?_append_right (by omega), Nat.add_sub_cancel_left, List.getElem?_append_left h]
theorem read_fib_at (pre post : List Int) (hp : Bt pre) (hq : Bt post) (n : Int) (h : 1 ≤ n) (M : Nat) (h1 : 1 ≤ M) (h2 : M ≤ 61) (h3 : fb (M - 1) ≤ n) (h4 : n < fb M) :
    f_read_fibonacci (pre ++ (fcode n M ++ post)) (pre.length : Nat) = .ok (n, ((pre.length + (fcode n M).length : Nat) : Int)) := by
  have hl := fc_len n M
  have hz : (zd M n).reverse.length = M := by rw [List.length_reverse, zd_len]
  have e := read_fib_eq (pre ++ (fcode n M ++ post)) (bt_app hp (bt_app (bt_fc n M) hq)) pre.length (zd M n).reverse M hz h2 h1 (fun i hi => by
    rw [at_pre _ _ _ _ (by omega)]
    unfold fcode
    rw [List.getElem?_append_left (by omega)]) (by
    rw [at_pre _ _ _ _ (by omega)]
    unfold fcode
    rw [List.getElem?_append_right (by omega), hz, Nat.sub_self]
    rfl) (zd_na M n (by omega) h4) (zd_top h1 h3)
  rw [e, zd_sum M n (by omega) h4, hl, Nat.add_assoc]
/-! ### rice -/
theorem read_rice_at (pre post : List Int) (hp : Bt pre) (hq : Bt post) (k : Nat) (hk : k ≤ 20) (n : Int) (h : 0 ≤ n) (hn : n / 2 ^ k ≤ 1000) :
    f_read_rice k (pre ++ (rc k n ++ post)) (pre.length : Nat) = .ok (n, ((pre.length + (rc k n).length : Nat) : Int)) := by
  have hpp : (0 : Int) < 2 ^ k := Int.pow_pos (by decide)
  have hd := Int.ediv_nonneg h (Int.le_of_lt hpp)
  obtain ⟨z, hz⟩ : ∃ z : Nat, n / 2 ^ k = (z : Int) := ⟨(n / 2 ^ k).toNat, by omega⟩
  have hl : (rc k n).length = z + 1 + k := by
    unfold rc
    rw [List.length_append, List.length_append, List.length_replicate, bw_len, hz]
    simp
  have hb : Bt (pre ++ (rc k n ++ post)) := bt_app hp (bt_app (bt_rc k n) hq)
  have hlen : (pre ++ (rc k n ++ post)).length = pre.length + (z + 1 + k) + post.length := by
    rw [List.length_append, List.length_append, hl]
    omega
  have hone : ∀ i, i < z → (pre ++ (rc k n ++ post))[pre.length + i]? = some 1 := fun i hi => by
    rw [at_pre _ _ _ _ (by omega)]
    unfold rc
    rw [hz, Int.toNat_natCast, List.append_assoc, List.getElem?_append_left (by rw [List.length_replicate]; exact hi), List.getElem?_replicate, if_pos hi]
  have hzero : (pre ++ (rc k n ++ post))[pre.length + z]? = some 0 := by
    rw [at_pre _ _ _ _ (by omega)]
    unfold rc
    rw [hz, Int.toNat_natCast, List.append_assoc, List.getElem?_append_right (by rw [List.length_replicate]; exact Nat.le_refl _), List.length_replicate, Nat.sub_self]
    rfl
  have hv : ((pre ++ (rc k n ++ post)).drop (pre.length + z + 1)).take k = bw k n := by
    rw [Nat.add_assoc, List.drop_append, List.drop_of_length_le (by omega), List.nil_append, Nat.add_sub_cancel_left]
    unfold rc
    rw [hz, Int.toNat_natCast, List.append_assoc, List.drop_append, List.drop_of_length_le (by rw [List.length_append, List.length_replicate]; simp), List.nil_append, List.length_append, List.length_replicate, List.length_singleton, Nat.sub_self, List.drop_zero, List.take_append_of_le_length (by rw [bw_len]; omega), List.take_of_length_le (by rw [bw_len]; omega)]
  unfold f_read_rice b_read_rice
  simp only [R.ok_bind, R.ok_pu, R.er_bind, R.bad_bind, R.ok_map, finR_rt, seqF_nx, seqF_rt, R.bind_ok, R.bind_bind, decide_eq_true_eq, Bool.not_eq_true', decide_eq_false_iff_not, Bool.false_eq_true, if_true, if_false, ite_nx]
  generalize hB : pre ++ (rc k n ++ post) = B at *
  have key : ∀ (d i : Nat), i + d = z → whileR (S := Unit) (fun (st : Int) => R.ok true) (fun st => (f_read_field B ((pre.length : Int) + st) 1).bind fun p => if p.1 = 0 then (f_read_field B p.2 (k : Int)).bind fun q => (shlR st (k : Int)).bind fun a => R.ok (Fl.rt (a + q.1, q.2)) else R.ok (Fl.nx (st + 1))) (fun _ => R.bad) (d + (B.length + 100 - z)) (i : Int) = .ok (.rt (n, ((pre.length + (rc k n).length : Nat) : Int))) := by
    intro d
    induction d with
    | zero =>
      intro i hi
      obtain rfl : i = z := by omega
      rw [show 0 + (B.length + 100 - i) = (B.length + 99 - i) + 1 by omega]
      refine while_rt rfl ?_
      obtain ⟨hl1, hv1⟩ := List.getElem?_eq_some_iff.mp hzero
      rw [show (pre.length : Int) + (i : Int) = ((pre.length + i : Nat) : Int) by omega, rf1_eq B hb _ hl1, R.ok_bind, hv1, if_pos rfl]
      show (f_read_field B ((pre.length + i + 1 : Nat) : Int) (k : Int)).bind _ = _
      rw [rf_eq B hb _ k (by omega), if_neg (by omega), R.ok_bind, shlR_ok (by omega) (by omega), R.ok_bind, hv, ← bw_mod, vl_bw _ _ (Int.emod_nonneg _ (Int.ne_of_gt hpp)) (Int.emod_lt_of_pos _ hpp), Int.toNat_natCast, hl, ← hz]
      have := Int.emod_add_mul_ediv n (2 ^ k)
      rw [Int.mul_comm] at this
      rw [show n / 2 ^ k * 2 ^ k + n % 2 ^ k = n by omega, show pre.length + i + 1 + k = pre.length + (i + 1 + k) by omega]
    | succ d ih =>
      intro i hi
      rw [show d + 1 + (B.length + 100 - z) = (d + (B.length + 100 - z)) + 1 by omega, ← ih (i + 1) (by omega)]
      refine while_nx rfl ?_
      obtain ⟨hl1, hv1⟩ := List.getElem?_eq_some_iff.mp (hone i (by omega))
      rw [show (pre.length : Int) + (i : Int) = ((pre.length + i : Nat) : Int) by omega, rf1_eq B hb _ hl1, R.ok_bind, hv1, if_neg (show ¬ (1 : Int) = 0 by decide)]
      rfl
  have := key z 0 (by omega)
  rw [show z + (B.length + 100 - z) = B.length + 100 by omega] at this
  refine Eq.trans (congrArg finR this) (finR_rt _)
end Kx

namespace Kx
open PySem PySem.Spec PyProof.Rows L2 Kr
open Enc (toD)
theorem forR_congr {S T ρ α β : Type} {step : T → α → R (Fl T ρ)} {step' : T → β → R (Fl T ρ)} {k : T → R (Fl S ρ)} (f : α → β) : ∀ (xs : List α) (s : T), (∀ s x, x ∈ xs → step s x = step' s (f x)) → forR step k xs s = forR step' k (xs.map f) s
  | [], s, _ => rfl
  | x :: r, s, h => by
    rw [List.map_cons, forR_cons, forR_cons, h s x (by simp)]
    congr 1
    funext y
    cases y with
    | nx s' => exact forR_congr f r s' fun s x hx => h s x (by simp [hx])
    | bk s' => rfl
    | rt v => rfl
/-- the law's walk over one number -/
def lst (st : Int × List Int × Bool) (t : Int) : R (Fl (Int × List Int × Bool) (List Int)) :=
  if t ≤ st.1 then (szR ([1] ++ st.2.1)).bind fun b => R.ok (Fl.nx (st.1 - t, b, true)) else if st.2.2 = true then (szR ([0] ++ st.2.1)).bind fun b => R.ok (Fl.nx (st.1, b, st.2.2)) else R.ok (Fl.nx (st.1, st.2.1, st.2.2))
def lend (st : Int × List Int × Bool) : R (Fl Unit (List Int)) := (szR (st.2.1 ++ [1])).bind fun a => R.ok (Fl.rt a)
theorem lst_on : ∀ (m : Nat) (n : Int) (bs : List Int), bs.length + m ≤ 1000 → forR lst lend ((List.range m).map fb).reverse (n, bs, true) = (szR ((zd m n).reverse ++ bs ++ [1])).bind fun a => R.ok (Fl.rt a)
  | 0, n, bs, _ => rfl
  | m + 1, n, bs, hl => by
    rw [fbs_rev, forR_cons]
    unfold lst
    by_cases c : fb m ≤ n
    · rw [if_pos c, szR_ok (by show bs.length + 1 ≤ 1000000; omega), R.ok_bind, R.ok_bind]
      show forR lst lend _ (n - fb m, 1 :: bs, true) = _
      rw [lst_on m (n - fb m) (1 :: bs) (by rw [List.length_cons]; omega), zd_rev, if_pos c]
      simp
    · rw [if_neg c, if_pos rfl, szR_ok (by show bs.length + 1 ≤ 1000000; omega), R.ok_bind, R.ok_bind]
      show forR lst lend _ (n, 0 :: bs, true) = _
      rw [lst_on m n (0 :: bs) (by rw [List.length_cons]; omega), zd_rev, if_neg c]
      simp
theorem lst_off (n : Int) (M : Nat) (h1 : 1 ≤ M) (h2 : M ≤ 900) (h3 : fb (M - 1) ≤ n) (h4 : n < fb M) : ∀ (d m : Nat), m = M + d → forR lst lend ((List.range m).map fb).reverse (n, [], false) = (szR (fcode n M)).bind fun a => R.ok (Fl.rt a)
  | 0, m, hm => by
    obtain ⟨q, rfl⟩ : ∃ q, M = q + 1 := ⟨M - 1, by omega⟩
    obtain rfl : m = q + 1 := by omega
    rw [Nat.add_sub_cancel] at h3
    rw [fbs_rev, forR_cons]
    unfold lst
    rw [if_pos h3, szR_ok (by simp), R.ok_bind, R.ok_bind]
    show forR lst lend _ (n - fb q, [1], true) = _
    rw [lst_on q (n - fb q) [1] (by simp; omega)]
    unfold fcode
    rw [zd_rev, if_pos h3]
  | d + 1, m, hm => by
    obtain ⟨q, rfl⟩ : ∃ q, m = q + 1 := ⟨m - 1, by omega⟩
    rw [fbs_rev, forR_cons]
    have := fb_mono (show M ≤ q by omega)
    have e : lst (n, [], false) (fb q) = R.ok (Fl.nx (n, [], false)) := by
      unfold lst
      rw [if_neg (by omega)]
      rfl
    rw [e, R.ok_bind]
    exact lst_off n M h1 h2 h3 h4 d q (by omega)
theorem terms_rev (N : Nat) : (seqI 0 N).map (fun b => ((List.range N).map fb).getD (N - 1 - b.toNat) 0) = ((List.range N).map fb).reverse := by
  refine List.ext_getElem (by rw [List.length_map, seqI_len, List.length_reverse, fbs_len]) fun i h1 h2 => ?_
  rw [List.length_map, seqI_len] at h1
  rw [List.getElem_map, seqI_at (by rw [seqI_len]; exact h1), List.getElem_reverse, List.getD_eq_getElem?_getD, show ((0 : Int) + (i : Int)).toNat = i by omega, List.getElem?_eq_getElem (by rw [fbs_len]; omega)]
  show ((List.range N).map fb)[N - 1 - i]'(by rw [fbs_len]; omega) = _
  congr 1
  rw [fbs_len]
theorem law_fib_eq (n : Int) (M : Nat) (h1 : 1 ≤ M) (h2 : M ≤ 61) (h3 : fb (M - 1) ≤ n) (h4 : n < fb M) : f__law_fibonacci n = .ok (fcode n M) := by
  unfold f__law_fibonacci b__law_fibonacci
  simp only [R.ok_bind, R.ok_pu, R.er_bind, R.bad_bind, R.ok_map, finR_rt, seqF_nx, seqF_rt, R.bind_ok, R.bind_bind, decide_eq_true_eq, Bool.not_eq_true', decide_eq_false_iff_not, Bool.false_eq_true, if_true, if_false, ite_nx, szR_ok (show [(1 : Int), 2].length ≤ 1000000 by simp), szR_nil]
  rw [rng1_ok (by decide) (by decide), R.ok_bind]
  refine forR_elim (P := fun r => finR r = R.ok (fcode n M)) (fun i (s : List Int) => s = (List.range (i + 2)).map fb) rfl (fun i hi s hI => ?_) (fun s hI => ?_)
  · subst hI
    rw [seqI_len] at hi
    have hi60 : i < 60 := hi
    have hl : ((List.range (i + 2)).map fb).length = i + 2 := fbs_len _
    refine ⟨(List.range (i + 3)).map fb, ?_, rfl⟩
    rw [hl, idxR_of (i := ((i + 2 : Nat) : Int) - 1) (a := fb (i + 1)) (by omega) (by
      rw [show (((i + 2 : Nat) : Int) - 1).toNat = i + 1 by omega, List.getElem?_eq_getElem (by omega), fbs_at]), R.ok_bind, idxR_of (i := ((i + 2 : Nat) : Int) - 2) (a := fb i) (by omega) (by
      rw [show (((i + 2 : Nat) : Int) - 2).toNat = i by omega, List.getElem?_eq_getElem (by omega), fbs_at]), R.ok_bind, szR_ok (by rw [List.length_append, hl]; simp; omega), R.ok_bind, fbs_succ (i + 2)]
    rfl
  · have e62 : (seqI 0 ((60 : Int)).toNat).length + 2 = 62 := by rw [seqI_len]; rfl
    rw [e62] at hI
    subst hI
    rw [fbs_len, rng1_nat (by decide), R.ok_bind]
    have hc := forR_congr (S := Unit) (T := Int × List Int × Bool) (ρ := List Int) (k := lend) (step' := lst) (step := fun (st_383 : Int × List Int × Bool) (back_384 : Int) => (idxR ((List.range 62).map fb) (((62 : Nat) : Int) - 1 - back_384)).bind fun term_392 => if term_392 ≤ st_383.1 then (szR [(1 : Int)]).bind fun a => (szR (a ++ st_383.2.1)).bind fun bits_404 => R.ok (Fl.nx (st_383.1 - term_392, bits_404, true)) else if st_383.2.2 = true then (szR [(0 : Int)]).bind fun a => (szR (a ++ st_383.2.1)).bind fun bits_410 => R.ok (Fl.nx (st_383.1, bits_410, st_383.2.2)) else R.ok (Fl.nx (st_383.1, st_383.2.1, st_383.2.2)))
      (fun b => ((List.range 62).map fb).getD (62 - 1 - b.toNat) 0) (seqI 0 62) (n, [], false) fun s x hx => by
        have hx := mem_seqI.mp hx
        have hat : idxR ((List.range 62).map fb) (((62 : Nat) : Int) - 1 - x) = .ok (((List.range 62).map fb).getD (62 - 1 - x.toNat) 0) := by
          refine idxR_of (by omega) ?_
          rw [show (((62 : Nat) : Int) - 1 - x).toNat = 62 - 1 - x.toNat by omega, List.getD_eq_getElem?_getD, List.getElem?_eq_getElem (by rw [fbs_len]; omega)]
          rfl
        rw [hat, R.ok_bind, szR_ok (show [(1 : Int)].length ≤ 1000000 by simp), szR_ok (show [(0 : Int)].length ≤ 1000000 by simp)]
        rfl
    rw [terms_rev, lst_off n M h1 (by omega) h3 h4 (62 - M) 62 (by omega), (szR_ok (by rw [fc_len]; omega) : szR (fcode n M) = .ok (fcode n M)), R.ok_bind] at hc
    refine Eq.trans (congrArg finR ?_) (finR_rt (S := Unit) (fcode n M))
    exact hc
end Kx

namespace Kx
open PySem PySem.Spec PyProof.Rows L2 Kr
open Enc (toD)
theorem cell_eq (ns : List Int) (k : Int) (hk : 0 ≤ k) : f__law_cell ⟨ns⟩ k = .ok (ns.getD k.toNat 0) := by
  unfold f__law_cell b__law_cell
  simp only [R.ok_bind, R.ok_pu, R.er_bind, R.bad_bind, R.ok_map, finR_rt, seqF_nx, seqF_rt, R.bind_ok, R.bind_bind, decide_eq_true_eq, Bool.not_eq_true', decide_eq_false_iff_not, Bool.false_eq_true, if_true, if_false, ite_nx]
  by_cases h : k < (ns.length : Int)
  · rw [if_pos h, idxR_ok hk h]
    simp only [R.ok_bind, R.ok_pu, R.er_bind, R.bad_bind, R.ok_map, finR_rt, seqF_nx, seqF_rt, R.bind_ok, R.bind_bind, decide_eq_true_eq, Bool.not_eq_true', decide_eq_false_iff_not, Bool.false_eq_true, if_true, if_false, ite_nx]
    rw [List.getD_eq_getElem?_getD, List.getElem?_eq_getElem (by omega)]
    rfl
  · rw [if_neg h]
    simp only [R.ok_bind, R.ok_pu, R.er_bind, R.bad_bind, R.ok_map, finR_rt, seqF_nx, seqF_rt, R.bind_ok, R.bind_bind, decide_eq_true_eq, Bool.not_eq_true', decide_eq_false_iff_not, Bool.false_eq_true, if_true, if_false, ite_nx]
    rw [List.getD_eq_getElem?_getD, List.getElem?_eq_none (by omega)]
    rfl
theorem number_eq (c : Int) : ∃ n, f__law_number c = .ok n ∧ 1 ≤ n ∧ n < 2 ^ 40 := by
  unfold f__law_number b__law_number
  simp only [R.ok_bind, R.ok_pu, R.er_bind, R.bad_bind, R.ok_map, finR_rt, seqF_nx, seqF_rt, R.bind_ok, R.bind_bind, decide_eq_true_eq, Bool.not_eq_true', decide_eq_false_iff_not, Bool.false_eq_true, if_true, if_false, ite_nx, modR_ok (show (0 : Int) < 3 by decide), modR_ok (show (0 : Int) < 40 by decide), divR_ok (show (0 : Int) < 3 by decide) (by decide), divR_ok (show (0 : Int) < 120 by decide) (by decide)]
  by_cases c1 : c % 3 = 1
  · rw [if_pos c1]
    exact ⟨_, finR_rt _, by omega, by omega⟩
  · rw [if_neg c1]
    by_cases c2 : c % 3 = 2
    · rw [if_pos c2, shlR_ok (by decide) (by omega), R.ok_bind]
      have hp : (2 : Int) ^ (c / 3 % 40).toNat ≤ 2 ^ 39 := pw_le (by omega)
      have hp0 : (0 : Int) < 2 ^ (c / 3 % 40).toNat := Int.pow_pos (by decide)
      refine ⟨_, finR_rt _, ?_, ?_⟩ <;> omega
    · rw [if_neg c2, shlR_ok (by decide) (by decide), R.ok_bind, modR_ok (by decide), R.ok_bind]
      refine ⟨_, finR_rt _, ?_, ?_⟩
      · have := Int.emod_nonneg (c / 3) (show (1 * 2 ^ (40 : Int).toNat - 1 : Int) ≠ 0 by decide)
        omega
      · have := Int.emod_lt_of_pos (c / 3) (show (0 : Int) < 1 * 2 ^ (40 : Int).toNat - 1 by decide)
        have e : (1 * 2 ^ (40 : Int).toNat - 1 : Int) = 2 ^ 40 - 1 := by decide
        rw [e] at this ⊢
        omega
/-- the four codes -/
def cds (n : Int) (k M : Nat) : List (List Int) := [gm n, dl14 n, fcode n M, rc k (n % (200 * 2 ^ k))]
theorem small_ok (n : Int) (k : Nat) : 0 ≤ n % (200 * 2 ^ k) ∧ n % (200 * 2 ^ k) / 2 ^ k ≤ 1000 := by
  have hp : (0 : Int) < 2 ^ k := Int.pow_pos (by decide)
  have h1 := Int.emod_nonneg n (show (200 * 2 ^ k : Int) ≠ 0 by omega)
  have h2 := Int.emod_lt_of_pos n (show (0 : Int) < 200 * 2 ^ k by omega)
  have h3 : n % (200 * 2 ^ k) / 2 ^ k < 200 := Int.ediv_lt_of_lt_mul hp h2
  exact ⟨h1, by omega⟩
theorem all_eq (n : Int) (h : 1 ≤ n) (hn : n < 2 ^ 40) (k : Nat) (hk : k ≤ 20) (M : Nat) (h1 : 1 ≤ M) (h2 : M ≤ 61) (h3 : fb (M - 1) ≤ n) (h4 : n < fb M) : f__law_all n k = .ok (cds n k M) := by
  have hw := wd_small h hn
  have hp : (0 : Int) < 2 ^ k := Int.pow_pos (by decide)
  have hp2 : (2 : Int) ^ k ≤ 2 ^ 20 := pw_le hk
  have hs := small_ok n k
  unfold f__law_all b__law_all
  simp only [R.ok_bind, R.ok_pu, R.er_bind, R.bad_bind, R.ok_map, finR_rt, seqF_nx, seqF_rt, R.bind_ok, R.bind_bind, decide_eq_true_eq, Bool.not_eq_true', decide_eq_false_iff_not, Bool.false_eq_true, if_true, if_false, ite_nx, gamma_bits_eq n h (by omega), delta_bits_eq n h hn, fib_bits_eq n h M h1 h2 h3 h4, R.ok_pu]
  rw [shlR_ok (by decide) (by omega), R.ok_bind, Int.one_mul, Int.toNat_natCast, mulR_ok (by decide) (by omega), R.ok_bind, modR_ok (by omega), R.ok_bind, rice_bits_eq k hk _ hs.1 hs.2, R.ok_pu, R.ok_bind, szR_ok (by simp), R.ok_bind, finR_rt]
  rfl
theorem pre_dec {F : List Int → R (Int × Int)} {a b : Int} {ca cb : List Int} {la lb : Int} (ra : ∀ post, Bt post → F (ca ++ post) = .ok (a, la)) (rb : F cb = .ok (b, lb)) (hb : Bt cb) (he : a = b → ca = cb) : decide (cb.take ca.length = ca) = decide (a = b) := by
  by_cases e : a = b
  · rw [decide_eq_true e, ← he e, List.take_length, decide_eq_true rfl]
  · rw [decide_eq_false e]
    refine decide_eq_false fun z => e ?_
    have h1 : cb = ca ++ cb.drop ca.length := by
      have := List.take_append_drop ca.length cb
      rw [z] at this
      exact this.symm
    have h2 := ra (cb.drop ca.length) fun x hx => hb x (List.mem_of_mem_drop hx)
    rw [← h1, rb] at h2
    have h3 : (b, lb) = (a, la) := R.ok.inj h2
    exact (congrArg Prod.fst h3).symm
theorem cut_to (xs : List Int) (n : Nat) : cut xs none (some (n : Int)) = xs.take n := by
  unfold cut
  rw [HT.sIx_none, HT.sIx_nat, List.drop_zero, Nat.sub_zero]
  rcases Nat.le_total n xs.length with h | h
  · rw [Nat.min_eq_left h]
  · rw [Nat.min_eq_right h, List.take_length, List.take_of_length_le h]
theorem cut_le {α : Type} (xs : List α) (lo hi : Option Int) : (cut xs lo hi).length ≤ xs.length := by
  unfold cut
  rw [List.length_take, List.length_drop]
  omega
theorem cds_len (n : Int) (h : 1 ≤ n) (hn : n < 2 ^ 40) (k : Nat) (hk : k ≤ 20) (M : Nat) (h2 : M ≤ 61) : ∀ c ∈ cds n k M, c.length ≤ 2000 := fun c hc => by
  have hw := wd_small h hn
  have hw2 : wd (wd n : Int) ≤ 10 := wd_le (by omega) (by have := hw.2; omega)
  have hs := small_ok n k
  have hg := gm_len n h
  have hg2 := gm_len (wd n : Int) (by omega)
  unfold cds at hc
  simp only [List.mem_cons, List.not_mem_nil, or_false] at hc
  rcases hc with rfl | rfl | rfl | rfl
  · omega
  · unfold dl14
    rw [List.length_append, List.length_tail, bw_len]
    omega
  · rw [fc_len]
    omega
  · unfold rc
    rw [List.length_append, List.length_append, List.length_replicate, bw_len]
    simp
    omega
theorem seq4 {x : Int} (h : x ∈ seqI 0 ((4 : Int)).toNat) : x = 0 ∨ x = 1 ∨ x = 2 ∨ x = 3 := by
  have := mem_seqI.mp h
  have e : (((4 : Int).toNat : Nat) : Int) = 4 := rfl
  rw [e] at this
  omega
theorem ix4_0 {α : Type} (a b c d : α) : idxR [a, b, c, d] 0 = .ok a := rfl
theorem ix4_1 {α : Type} (a b c d : α) : idxR [a, b, c, d] 1 = .ok b := rfl
theorem ix4_2 {α : Type} (a b c d : α) : idxR [a, b, c, d] 2 = .ok c := rfl
theorem ix4_3 {α : Type} (a b c d : α) : idxR [a, b, c, d] 3 = .ok d := rfl
theorem bt_mod (xs : List Int) : Bt (xs.map fun x => x % 2) := fun b hb => by
  obtain ⟨x, _, rfl⟩ := List.mem_map.mp hb
  omega
theorem law_true (ns : List Int) (hns : ns.length ≤ 63) : f_law ⟨ns⟩ = .ok true := by
  have eC : ∀ xs ys : List (List Int), eqR xs ys = .ok (decide (xs = ys)) := fun xs ys => eqR_eq xs ys
  have eL : ∀ xs ys : List Int, eqR xs ys = .ok (decide (xs = ys)) := fun xs ys => eqR_eq xs ys
  have eP : ∀ xs ys : Int × Int, eqR xs ys = .ok (decide (xs = ys)) := fun xs ys => eqR_eq xs ys
  unfold f_law b_law
  simp only [R.ok_bind, R.ok_pu, R.er_bind, R.bad_bind, R.ok_map, finR_rt, seqF_nx, seqF_rt, R.bind_ok, R.bind_bind, decide_eq_true_eq, Bool.not_eq_true', decide_eq_false_iff_not, Bool.false_eq_true, if_true, if_false, ite_nx, cell_eq ns 0 (by decide), cell_eq ns 1 (by decide), cell_eq ns 2 (by decide), modR_ok (show (0 : Int) < 21 by decide), R.ok_pu]
  generalize ns.getD (0 : Int).toNat 0 = c0
  generalize ns.getD (1 : Int).toNat 0 = c1
  generalize ns.getD (2 : Int).toNat 0 = c2
  obtain ⟨k, hk⟩ : ∃ k : Nat, c1 % 21 = (k : Int) := ⟨(c1 % 21).toNat, by omega⟩
  have hk20 : k ≤ 20 := by omega
  rw [hk]
  obtain ⟨n, hn, hn1, hn2⟩ := number_eq c0
  obtain ⟨o, ho, ho1, ho2⟩ := number_eq c2
  obtain ⟨M, m1, m2, m3, m4⟩ := fm_of n hn1 hn2
  obtain ⟨L, l1, l2, l3, l4⟩ := fm_of o ho1 ho2
  have hp : (0 : Int) < 2 ^ k := Int.pow_pos (by decide)
  have hp2 : (2 : Int) ^ k ≤ 2 ^ 20 := pw_le hk20
  have hs := small_ok n k
  have hso := small_ok o k
  have hsh : shlR 1 (k : Int) = .ok (2 ^ k) := by rw [shlR_ok (by decide) (by omega), Int.one_mul, Int.toNat_natCast]
  have hmu : mulR 200 (2 ^ k) = .ok (200 * 2 ^ k) := mulR_ok (by decide) (by omega)
  simp only [hn, ho, hsh, hmu, modR_ok (show (0 : Int) < 200 * 2 ^ k by omega), R.ok_bind, R.ok_pu, R.er_bind, R.bad_bind, R.ok_map, finR_rt, seqF_nx, seqF_rt, R.bind_ok, R.bind_bind, decide_eq_true_eq, Bool.not_eq_true', decide_eq_false_iff_not, Bool.false_eq_true, if_true, if_false, ite_nx, R.ok_pu, law_gamma_eq n hn1 hn2, law_delta_eq n hn1 hn2, law_fib_eq n M m1 m2 m3 m4, law_rice_eq k hk20 _ hs.1 hs.2, all_eq n hn1 hn2 k hk20 M m1 m2 m3 m4, all_eq o ho1 ho2 k hk20 L l1 l2 l3 l4, eC, szR_ok (show [gm n, dl14 n, fcode n M, rc k (n % (200 * 2 ^ k))].length ≤ 1000000 by simp)]
  rw [if_neg (fun z => z rfl), lcR_map (fun x => x % 2) (by have := cut_le ns (some 3) (some 9); omega) (fun x _ => modR_ok (by decide)), R.ok_bind, lcR_map (fun x => x % 2) (by have := cut_le ns (some 9) (some 20); omega) (fun x _ => modR_ok (by decide)), R.ok_bind]
  have bp := bt_mod (cut ns (some 3) (some 9))
  have bq := bt_mod (cut ns (some 9) (some 20))
  have lp : ((cut ns (some 3) (some 9)).map fun x => x % 2).length ≤ 63 := by
    rw [List.length_map]
    have := cut_le ns (some 3) (some 9)
    omega
  have lq : ((cut ns (some 9) (some 20)).map fun x => x % 2).length ≤ 63 := by
    rw [List.length_map]
    have := cut_le ns (some 9) (some 20)
    omega
  generalize (cut ns (some 3) (some 9)).map (fun x => x % 2) = pre at *
  generalize (cut ns (some 9) (some 20)).map (fun x => x % 2) = post at *
  have hcl := cds_len n hn1 hn2 k hk20 M m2
  have z1 : ∀ c ∈ cds n k M, szR (pre ++ c) = .ok (pre ++ c) := fun c hc => szR_ok (by rw [List.length_append]; have := hcl c hc; omega)
  have z2 : ∀ c ∈ cds n k M, szR (pre ++ c ++ post) = .ok (pre ++ (c ++ post)) := fun c hc => by
    rw [szR_ok (by rw [List.length_append, List.length_append]; have := hcl c hc; omega), List.append_assoc]
  have hwn := wd_small hn1 hn2
  have hwo := wd_small ho1 ho2
  rw [rng1_ok (by decide) (by decide), R.ok_bind, forR_fold (fun _ _ => ()) (seqI 0 ((4 : Int)).toNat) () fun _ x hx => ?_]
  · rw [szR_ok (by simp), R.ok_bind, R.ok_bind, forR_fold (fun _ _ => ()) (seqI 0 ((4 : Int)).toNat) () fun _ x hx => ?_]
    · exact finR_rt true
    · have nilB : Bt [] := fun b hb => nomatch hb
      rcases seq4 hx with rfl | rfl | rfl | rfl
      · unfold cds
        rw [ix4_0, ix4_0, ix4_0, R.ok_bind, R.ok_bind, R.ok_bind, cut_to, eL, R.ok_bind, R.ok_bind, pre_dec (F := fun b => f_read_gamma b 0) (a := n) (b := o) (fun q hq => read_gamma_at [] q nilB hq n hn1 (by omega)) (by
          have := read_gamma_at [] [] nilB nilB o ho1 (by omega)
          rw [List.append_nil] at this
          exact this) (bt_gm o) (fun z => by rw [z]), if_neg (fun z => z rfl)]
      · unfold cds
        rw [ix4_1, ix4_1, ix4_1, R.ok_bind, R.ok_bind, R.ok_bind, cut_to, eL, R.ok_bind, R.ok_bind, pre_dec (F := fun b => f_read_delta b 0) (a := n) (b := o) (fun q hq => read_delta_at [] q nilB hq n hn1 hn2) (by
          have := read_delta_at [] [] nilB nilB o ho1 ho2
          rw [List.append_nil] at this
          exact this) (bt_dl o) (fun z => by rw [z]), if_neg (fun z => z rfl)]
      · unfold cds
        rw [ix4_2, ix4_2, ix4_2, R.ok_bind, R.ok_bind, R.ok_bind, cut_to, eL, R.ok_bind, R.ok_bind, pre_dec (F := fun b => f_read_fibonacci b 0) (a := n) (b := o) (fun q hq => read_fib_at [] q nilB hq n hn1 M m1 m2 m3 m4) (by
          have := read_fib_at [] [] nilB nilB o ho1 L l1 l2 l3 l4
          rw [List.append_nil] at this
          exact this) (bt_fc o L) (fun z => by
            have hML : M = L := by
              rw [← z] at l3 l4
              rcases Nat.lt_trichotomy M L with q | q | q
              · have := fb_mono (show M ≤ L - 1 by omega)
                omega
              · exact q
              · have := fb_mono (show L ≤ M - 1 by omega)
                omega
            rw [z, hML]), if_neg (fun z => z rfl)]
      · unfold cds
        rw [ix4_3, ix4_3, ix4_3, R.ok_bind, R.ok_bind, R.ok_bind, cut_to, eL, R.ok_bind, R.ok_bind, pre_dec (F := fun b => f_read_rice k b 0) (a := n % (200 * 2 ^ k)) (b := o % (200 * 2 ^ k)) (fun q hq => read_rice_at [] q nilB hq k hk20 _ hs.1 hs.2) (by
          have := read_rice_at [] [] nilB nilB k hk20 _ hso.1 hso.2
          rw [List.append_nil] at this
          exact this) (bt_rc k _) (fun z => by rw [z]), if_neg (fun z => z rfl)]
  · have s4 : szR [n, n, n, n % (200 * 2 ^ k)] = .ok [n, n, n, n % (200 * 2 ^ k)] := szR_ok (by simp)
    have fin : ∀ (c : List Int) (v : Int), (eqR (v, ((pre.length + c.length : Nat) : Int)) (v, (pre.length : Int) + (c.length : Int))).bind (fun a => if a = false then (R.ok (Fl.rt false) : R (Fl Unit Bool)) else R.ok (Fl.nx ())) = R.ok (Fl.nx ()) := fun c v => by
      rw [eP, R.ok_bind, show (pre.length : Int) + (c.length : Int) = ((pre.length + c.length : Nat) : Int) by omega, decide_eq_true rfl, if_neg (by decide)]
    rcases seq4 hx with rfl | rfl | rfl | rfl
    · rw [ix4_0, R.ok_bind, z1 _ (by unfold cds; simp), R.ok_bind, z2 _ (by unfold cds; simp), R.ok_bind, R.ok_bind, if_pos rfl, read_gamma_at pre post bp bq n hn1 (by omega), R.ok_pu, R.ok_bind, seqF_nx, s4, R.ok_bind, ix4_0, R.ok_bind]
      exact fin _ _
    · rw [ix4_1, R.ok_bind, z1 _ (by unfold cds; simp), R.ok_bind, z2 _ (by unfold cds; simp), R.ok_bind, R.ok_bind, if_neg (by decide), if_pos rfl, read_delta_at pre post bp bq n hn1 hn2, R.ok_pu, R.ok_bind, seqF_nx, s4, R.ok_bind, ix4_1, R.ok_bind]
      exact fin _ _
    · rw [ix4_2, R.ok_bind, z1 _ (by unfold cds; simp), R.ok_bind, z2 _ (by unfold cds; simp), R.ok_bind, R.ok_bind, if_neg (by decide), if_neg (by decide), if_pos rfl, read_fib_at pre post bp bq n hn1 M m1 m2 m3 m4, R.ok_pu, R.ok_bind, seqF_nx, s4, R.ok_bind, ix4_2, R.ok_bind]
      exact fin _ _
    · rw [ix4_3, R.ok_bind, z1 _ (by unfold cds; simp), R.ok_bind, z2 _ (by unfold cds; simp), R.ok_bind, R.ok_bind, if_neg (by decide), if_neg (by decide), if_neg (by decide), read_rice_at pre post bp bq k hk20 _ hs.1 hs.2, R.ok_pu, R.ok_bind, seqF_nx, s4, R.ok_bind, ix4_3, R.ok_bind]
      exact fin _ _
theorem law_all : ∀ ns : List Int, ns.length ≤ 63 → f_law ⟨ns⟩ = .ok true := law_true
end Kx

namespace Kx
open PySem PySem.Spec PyProof.Rows L2 Kr
open Enc (toD)
abbrev s_KraftroomError_init : Stmt := inClass (topS 1) 0
abbrev s_Truncated_init : Stmt := inClass (topS 2) 0
abbrev s_InvalidWord_init : Stmt := inClass (topS 3) 0
def cfE (K : PySem.W.Frag) (cls : Nat → Addr) : Cf := ⟨K, cls, fun c => if c = 0 then "Truncated" else "InvalidWord"⟩
def cfK (K : PySem.W.Frag) : Cf := ⟨K, fun _ => 0, fun _ => ""⟩
theorem all_mk {l : PySem.W.OpenLaw} {w : World} {K : PySem.W.Frag} {h : Heap} {mg : Str → Option Value} {fa : Addr} (X : K.In h) (G : h.Ns mainGlobals mg) (hfa : mg "law" = some (.ref fa))
    {ad_field_bits : Addr} {od_field_bits an_field_bits : Option Addr} {sl_field_bits : Array (Option Value)} {oc_field_bits kV_field_bits dc_field_bits pm_field_bits cd_field_bits ct_field_bits : Value}
    (a_field_bits : PySem.W.nsIn K mainGlobals "field_bits" = some (some (.ref ad_field_bits)))
    (l_field_bits : K.lookup ad_field_bits = some ⟨oc_field_bits, od_field_bits, .func (PySem.W.fnOf "field_bits" "field_bits" (defArgs s_field_bits) (defBody s_field_bits) (defScope s_field_bits) .none kV_field_bits dc_field_bits pm_field_bits an_field_bits cd_field_bits ct_field_bits), sl_field_bits⟩)
    (c_field_bits : PySem.W.codeIn K cd_field_bits "field_bits" = true) (k_field_bits : PySem.W.keepIn K (.ref ad_field_bits) = true)
    {ad_read_field : Addr} {od_read_field an_read_field : Option Addr} {sl_read_field : Array (Option Value)} {oc_read_field kV_read_field dc_read_field pm_read_field cd_read_field ct_read_field : Value}
    (a_read_field : PySem.W.nsIn K mainGlobals "read_field" = some (some (.ref ad_read_field)))
    (l_read_field : K.lookup ad_read_field = some ⟨oc_read_field, od_read_field, .func (PySem.W.fnOf "read_field" "read_field" (defArgs s_read_field) (defBody s_read_field) (defScope s_read_field) .none kV_read_field dc_read_field pm_read_field an_read_field cd_read_field ct_read_field), sl_read_field⟩)
    (c_read_field : PySem.W.codeIn K cd_read_field "read_field" = true) (k_read_field : PySem.W.keepIn K (.ref ad_read_field) = true)
    {ad_gamma_bits : Addr} {od_gamma_bits an_gamma_bits : Option Addr} {sl_gamma_bits : Array (Option Value)} {oc_gamma_bits kV_gamma_bits dc_gamma_bits pm_gamma_bits cd_gamma_bits ct_gamma_bits : Value}
    (a_gamma_bits : PySem.W.nsIn K mainGlobals "gamma_bits" = some (some (.ref ad_gamma_bits)))
    (l_gamma_bits : K.lookup ad_gamma_bits = some ⟨oc_gamma_bits, od_gamma_bits, .func (PySem.W.fnOf "gamma_bits" "gamma_bits" (defArgs s_gamma_bits) (defBody s_gamma_bits) (defScope s_gamma_bits) .none kV_gamma_bits dc_gamma_bits pm_gamma_bits an_gamma_bits cd_gamma_bits ct_gamma_bits), sl_gamma_bits⟩)
    (c_gamma_bits : PySem.W.codeIn K cd_gamma_bits "gamma_bits" = true) (k_gamma_bits : PySem.W.keepIn K (.ref ad_gamma_bits) = true)
    {ad_read_gamma : Addr} {od_read_gamma an_read_gamma : Option Addr} {sl_read_gamma : Array (Option Value)} {oc_read_gamma kV_read_gamma dc_read_gamma pm_read_gamma cd_read_gamma ct_read_gamma : Value}
    (a_read_gamma : PySem.W.nsIn K mainGlobals "read_gamma" = some (some (.ref ad_read_gamma)))
    (l_read_gamma : K.lookup ad_read_gamma = some ⟨oc_read_gamma, od_read_gamma, .func (PySem.W.fnOf "read_gamma" "read_gamma" (defArgs s_read_gamma) (defBody s_read_gamma) (defScope s_read_gamma) .none kV_read_gamma dc_read_gamma pm_read_gamma an_read_gamma cd_read_gamma ct_read_gamma), sl_read_gamma⟩)
    (c_read_gamma : PySem.W.codeIn K cd_read_gamma "read_gamma" = true) (k_read_gamma : PySem.W.keepIn K (.ref ad_read_gamma) = true)
    {ad_delta_bits : Addr} {od_delta_bits an_delta_bits : Option Addr} {sl_delta_bits : Array (Option Value)} {oc_delta_bits kV_delta_bits dc_delta_bits pm_delta_bits cd_delta_bits ct_delta_bits : Value}
    (a_delta_bits : PySem.W.nsIn K mainGlobals "delta_bits" = some (some (.ref ad_delta_bits)))
    (l_delta_bits : K.lookup ad_delta_bits = some ⟨oc_delta_bits, od_delta_bits, .func (PySem.W.fnOf "delta_bits" "delta_bits" (defArgs s_delta_bits) (defBody s_delta_bits) (defScope s_delta_bits) .none kV_delta_bits dc_delta_bits pm_delta_bits an_delta_bits cd_delta_bits ct_delta_bits), sl_delta_bits⟩)
    (c_delta_bits : PySem.W.codeIn K cd_delta_bits "delta_bits" = true) (k_delta_bits : PySem.W.keepIn K (.ref ad_delta_bits) = true)
    {ad_read_delta : Addr} {od_read_delta an_read_delta : Option Addr} {sl_read_delta : Array (Option Value)} {oc_read_delta kV_read_delta dc_read_delta pm_read_delta cd_read_delta ct_read_delta : Value}
    (a_read_delta : PySem.W.nsIn K mainGlobals "read_delta" = some (some (.ref ad_read_delta)))
    (l_read_delta : K.lookup ad_read_delta = some ⟨oc_read_delta, od_read_delta, .func (PySem.W.fnOf "read_delta" "read_delta" (defArgs s_read_delta) (defBody s_read_delta) (defScope s_read_delta) .none kV_read_delta dc_read_delta pm_read_delta an_read_delta cd_read_delta ct_read_delta), sl_read_delta⟩)
    (c_read_delta : PySem.W.codeIn K cd_read_delta "read_delta" = true) (k_read_delta : PySem.W.keepIn K (.ref ad_read_delta) = true)
    {ad_rice_bits : Addr} {od_rice_bits an_rice_bits : Option Addr} {sl_rice_bits : Array (Option Value)} {oc_rice_bits kV_rice_bits dc_rice_bits pm_rice_bits cd_rice_bits ct_rice_bits : Value}
    (a_rice_bits : PySem.W.nsIn K mainGlobals "rice_bits" = some (some (.ref ad_rice_bits)))
    (l_rice_bits : K.lookup ad_rice_bits = some ⟨oc_rice_bits, od_rice_bits, .func (PySem.W.fnOf "rice_bits" "rice_bits" (defArgs s_rice_bits) (defBody s_rice_bits) (defScope s_rice_bits) .none kV_rice_bits dc_rice_bits pm_rice_bits an_rice_bits cd_rice_bits ct_rice_bits), sl_rice_bits⟩)
    (c_rice_bits : PySem.W.codeIn K cd_rice_bits "rice_bits" = true) (k_rice_bits : PySem.W.keepIn K (.ref ad_rice_bits) = true)
    {ad_read_rice : Addr} {od_read_rice an_read_rice : Option Addr} {sl_read_rice : Array (Option Value)} {oc_read_rice kV_read_rice dc_read_rice pm_read_rice cd_read_rice ct_read_rice : Value}
    (a_read_rice : PySem.W.nsIn K mainGlobals "read_rice" = some (some (.ref ad_read_rice)))
    (l_read_rice : K.lookup ad_read_rice = some ⟨oc_read_rice, od_read_rice, .func (PySem.W.fnOf "read_rice" "read_rice" (defArgs s_read_rice) (defBody s_read_rice) (defScope s_read_rice) .none kV_read_rice dc_read_rice pm_read_rice an_read_rice cd_read_rice ct_read_rice), sl_read_rice⟩)
    (c_read_rice : PySem.W.codeIn K cd_read_rice "read_rice" = true) (k_read_rice : PySem.W.keepIn K (.ref ad_read_rice) = true)
    {ad_fibonacci_bits : Addr} {od_fibonacci_bits an_fibonacci_bits : Option Addr} {sl_fibonacci_bits : Array (Option Value)} {oc_fibonacci_bits kV_fibonacci_bits dc_fibonacci_bits pm_fibonacci_bits cd_fibonacci_bits ct_fibonacci_bits : Value}
    (a_fibonacci_bits : PySem.W.nsIn K mainGlobals "fibonacci_bits" = some (some (.ref ad_fibonacci_bits)))
    (l_fibonacci_bits : K.lookup ad_fibonacci_bits = some ⟨oc_fibonacci_bits, od_fibonacci_bits, .func (PySem.W.fnOf "fibonacci_bits" "fibonacci_bits" (defArgs s_fibonacci_bits) (defBody s_fibonacci_bits) (defScope s_fibonacci_bits) .none kV_fibonacci_bits dc_fibonacci_bits pm_fibonacci_bits an_fibonacci_bits cd_fibonacci_bits ct_fibonacci_bits), sl_fibonacci_bits⟩)
    (c_fibonacci_bits : PySem.W.codeIn K cd_fibonacci_bits "fibonacci_bits" = true) (k_fibonacci_bits : PySem.W.keepIn K (.ref ad_fibonacci_bits) = true)
    {ad_read_fibonacci : Addr} {od_read_fibonacci an_read_fibonacci : Option Addr} {sl_read_fibonacci : Array (Option Value)} {oc_read_fibonacci kV_read_fibonacci dc_read_fibonacci pm_read_fibonacci cd_read_fibonacci ct_read_fibonacci : Value}
    (a_read_fibonacci : PySem.W.nsIn K mainGlobals "read_fibonacci" = some (some (.ref ad_read_fibonacci)))
    (l_read_fibonacci : K.lookup ad_read_fibonacci = some ⟨oc_read_fibonacci, od_read_fibonacci, .func (PySem.W.fnOf "read_fibonacci" "read_fibonacci" (defArgs s_read_fibonacci) (defBody s_read_fibonacci) (defScope s_read_fibonacci) .none kV_read_fibonacci dc_read_fibonacci pm_read_fibonacci an_read_fibonacci cd_read_fibonacci ct_read_fibonacci), sl_read_fibonacci⟩)
    (c_read_fibonacci : PySem.W.codeIn K cd_read_fibonacci "read_fibonacci" = true) (k_read_fibonacci : PySem.W.keepIn K (.ref ad_read_fibonacci) = true)
    {ad__law_cell : Addr} {od__law_cell an__law_cell : Option Addr} {sl__law_cell : Array (Option Value)} {oc__law_cell kV__law_cell dc__law_cell pm__law_cell cd__law_cell ct__law_cell : Value}
    (a__law_cell : PySem.W.nsIn K mainGlobals "_law_cell" = some (some (.ref ad__law_cell)))
    (l__law_cell : K.lookup ad__law_cell = some ⟨oc__law_cell, od__law_cell, .func (PySem.W.fnOf "_law_cell" "_law_cell" (defArgs s__law_cell) (defBody s__law_cell) (defScope s__law_cell) .none kV__law_cell dc__law_cell pm__law_cell an__law_cell cd__law_cell ct__law_cell), sl__law_cell⟩)
    (c__law_cell : PySem.W.codeIn K cd__law_cell "_law_cell" = true) (k__law_cell : PySem.W.keepIn K (.ref ad__law_cell) = true)
    {ad__law_number : Addr} {od__law_number an__law_number : Option Addr} {sl__law_number : Array (Option Value)} {oc__law_number kV__law_number dc__law_number pm__law_number cd__law_number ct__law_number : Value}
    (a__law_number : PySem.W.nsIn K mainGlobals "_law_number" = some (some (.ref ad__law_number)))
    (l__law_number : K.lookup ad__law_number = some ⟨oc__law_number, od__law_number, .func (PySem.W.fnOf "_law_number" "_law_number" (defArgs s__law_number) (defBody s__law_number) (defScope s__law_number) .none kV__law_number dc__law_number pm__law_number an__law_number cd__law_number ct__law_number), sl__law_number⟩)
    (c__law_number : PySem.W.codeIn K cd__law_number "_law_number" = true) (k__law_number : PySem.W.keepIn K (.ref ad__law_number) = true)
    {ad__law_binary : Addr} {od__law_binary an__law_binary : Option Addr} {sl__law_binary : Array (Option Value)} {oc__law_binary kV__law_binary dc__law_binary pm__law_binary cd__law_binary ct__law_binary : Value}
    (a__law_binary : PySem.W.nsIn K mainGlobals "_law_binary" = some (some (.ref ad__law_binary)))
    (l__law_binary : K.lookup ad__law_binary = some ⟨oc__law_binary, od__law_binary, .func (PySem.W.fnOf "_law_binary" "_law_binary" (defArgs s__law_binary) (defBody s__law_binary) (defScope s__law_binary) .none kV__law_binary dc__law_binary pm__law_binary an__law_binary cd__law_binary ct__law_binary), sl__law_binary⟩)
    (c__law_binary : PySem.W.codeIn K cd__law_binary "_law_binary" = true) (k__law_binary : PySem.W.keepIn K (.ref ad__law_binary) = true)
    {ad__law_gamma : Addr} {od__law_gamma an__law_gamma : Option Addr} {sl__law_gamma : Array (Option Value)} {oc__law_gamma kV__law_gamma dc__law_gamma pm__law_gamma cd__law_gamma ct__law_gamma : Value}
    (a__law_gamma : PySem.W.nsIn K mainGlobals "_law_gamma" = some (some (.ref ad__law_gamma)))
    (l__law_gamma : K.lookup ad__law_gamma = some ⟨oc__law_gamma, od__law_gamma, .func (PySem.W.fnOf "_law_gamma" "_law_gamma" (defArgs s__law_gamma) (defBody s__law_gamma) (defScope s__law_gamma) .none kV__law_gamma dc__law_gamma pm__law_gamma an__law_gamma cd__law_gamma ct__law_gamma), sl__law_gamma⟩)
    (c__law_gamma : PySem.W.codeIn K cd__law_gamma "_law_gamma" = true) (k__law_gamma : PySem.W.keepIn K (.ref ad__law_gamma) = true)
    {ad__law_delta : Addr} {od__law_delta an__law_delta : Option Addr} {sl__law_delta : Array (Option Value)} {oc__law_delta kV__law_delta dc__law_delta pm__law_delta cd__law_delta ct__law_delta : Value}
    (a__law_delta : PySem.W.nsIn K mainGlobals "_law_delta" = some (some (.ref ad__law_delta)))
    (l__law_delta : K.lookup ad__law_delta = some ⟨oc__law_delta, od__law_delta, .func (PySem.W.fnOf "_law_delta" "_law_delta" (defArgs s__law_delta) (defBody s__law_delta) (defScope s__law_delta) .none kV__law_delta dc__law_delta pm__law_delta an__law_delta cd__law_delta ct__law_delta), sl__law_delta⟩)
    (c__law_delta : PySem.W.codeIn K cd__law_delta "_law_delta" = true) (k__law_delta : PySem.W.keepIn K (.ref ad__law_delta) = true)
    {ad__law_fibonacci : Addr} {od__law_fibonacci an__law_fibonacci : Option Addr} {sl__law_fibonacci : Array (Option Value)} {oc__law_fibonacci kV__law_fibonacci dc__law_fibonacci pm__law_fibonacci cd__law_fibonacci ct__law_fibonacci : Value}
    (a__law_fibonacci : PySem.W.nsIn K mainGlobals "_law_fibonacci" = some (some (.ref ad__law_fibonacci)))
    (l__law_fibonacci : K.lookup ad__law_fibonacci = some ⟨oc__law_fibonacci, od__law_fibonacci, .func (PySem.W.fnOf "_law_fibonacci" "_law_fibonacci" (defArgs s__law_fibonacci) (defBody s__law_fibonacci) (defScope s__law_fibonacci) .none kV__law_fibonacci dc__law_fibonacci pm__law_fibonacci an__law_fibonacci cd__law_fibonacci ct__law_fibonacci), sl__law_fibonacci⟩)
    (c__law_fibonacci : PySem.W.codeIn K cd__law_fibonacci "_law_fibonacci" = true) (k__law_fibonacci : PySem.W.keepIn K (.ref ad__law_fibonacci) = true)
    {ad__law_rice : Addr} {od__law_rice an__law_rice : Option Addr} {sl__law_rice : Array (Option Value)} {oc__law_rice kV__law_rice dc__law_rice pm__law_rice cd__law_rice ct__law_rice : Value}
    (a__law_rice : PySem.W.nsIn K mainGlobals "_law_rice" = some (some (.ref ad__law_rice)))
    (l__law_rice : K.lookup ad__law_rice = some ⟨oc__law_rice, od__law_rice, .func (PySem.W.fnOf "_law_rice" "_law_rice" (defArgs s__law_rice) (defBody s__law_rice) (defScope s__law_rice) .none kV__law_rice dc__law_rice pm__law_rice an__law_rice cd__law_rice ct__law_rice), sl__law_rice⟩)
    (c__law_rice : PySem.W.codeIn K cd__law_rice "_law_rice" = true) (k__law_rice : PySem.W.keepIn K (.ref ad__law_rice) = true)
    {ad__law_all : Addr} {od__law_all an__law_all : Option Addr} {sl__law_all : Array (Option Value)} {oc__law_all kV__law_all dc__law_all pm__law_all cd__law_all ct__law_all : Value}
    (a__law_all : PySem.W.nsIn K mainGlobals "_law_all" = some (some (.ref ad__law_all)))
    (l__law_all : K.lookup ad__law_all = some ⟨oc__law_all, od__law_all, .func (PySem.W.fnOf "_law_all" "_law_all" (defArgs s__law_all) (defBody s__law_all) (defScope s__law_all) .none kV__law_all dc__law_all pm__law_all an__law_all cd__law_all ct__law_all), sl__law_all⟩)
    (c__law_all : PySem.W.codeIn K cd__law_all "_law_all" = true) (k__law_all : PySem.W.keepIn K (.ref ad__law_all) = true)
    {ad_law : Addr} {od_law an_law : Option Addr} {sl_law : Array (Option Value)} {oc_law kV_law dc_law pm_law cd_law ct_law : Value}
    (a_law : PySem.W.nsIn K mainGlobals "law" = some (some (.ref ad_law)))
    (l_law : K.lookup ad_law = some ⟨oc_law, od_law, .func (PySem.W.fnOf "law" "law" (defArgs s_law) (defBody s_law) (defScope s_law) .none kV_law dc_law pm_law an_law cd_law ct_law), sl_law⟩)
    (c_law : PySem.W.codeIn K cd_law "law" = true) (k_law : PySem.W.keepIn K (.ref ad_law) = true)
    (z_int : PySem.W.nsIn K mainGlobals "int" = some none)
    (z_len : PySem.W.nsIn K mainGlobals "len" = some none)
    (z_max : PySem.W.nsIn K mainGlobals "max" = some none)
    (z_range : PySem.W.nsIn K mainGlobals "range" = some none)
    (z_reversed : PySem.W.nsIn K mainGlobals "reversed" = some none)
    {t_MOST_BITS : Tok} (y_MOST_BITS : PySem.W.nsIn K mainGlobals "MOST_BITS" = some (some (.int 40 t_MOST_BITS)))
    (tp : (l.prog.main.scope.names.lookup ("super" : Str)).isSome = false) (z_super : PySem.W.nsIn K mainGlobals "super" = some none) (th : PySem.W.nsIn K PySem.cStatics "thirdparty.any" = some none)
    {tKB : Addr} {fKB cKB DKB : Addr} {ocKB kVKB dcKB pmKB ctKB clKB cclKB : Value} {odKB anKB cldKB cddKB : Option Addr} {oslKB cslKB ccsKB : Array (Option Value)} {vsKB : Array Value} {fileKB : Str} {tfKB : Tok} {cdaKB : Addr} {cdKB : ClassData}
    (lKB : K.lookup fKB = some ⟨ocKB, odKB, .func (PySem.W.ksFn "__init__" "KraftroomError.__init__" (defArgs s_KraftroomError_init) (defBody s_KraftroomError_init) (defScope s_KraftroomError_init) (.ref tKB) kVKB dcKB pmKB anKB (.ref cdaKB) ctKB cKB), oslKB⟩)
    (kKB : PySem.W.codeIn K (.ref cdaKB) "KraftroomError.__init__" = true) (ccKB : K.lookup cKB = some ⟨clKB, cldKB, .cell (some (.ref DKB)), cslKB⟩) (coKB : K.lookup cdaKB = some ⟨cclKB, cddKB, .fields vsKB, ccsKB⟩) (vfKB : vsKB[2]? = some (.str fileKB tfKB)) (flKB : ((l.prog.main.file : Str) == fileKB) = true)
    (cDKB : PySem.W.clsIn K DKB = some cdKB) (tyKB : PySem.W.typeIn K (.ref fKB) = some (.type "function")) (fnKB : PySem.W.fnIn K fKB = true)
    {tcKB tvKB : Value} {tdKB : Option Addr} {tnKB : Nat} {tsKB : Array (Option Value)} (tlKB : K.lookup tKB = some ⟨tcKB, tdKB, .seq #[tvKB] tnKB, tsKB⟩)
    {fE0 cE0 DE0 : Addr} {ocE0 kVE0 dcE0 pmE0 ctE0 clE0 cclE0 : Value} {odE0 anE0 cldE0 cddE0 : Option Addr} {oslE0 cslE0 ccsE0 : Array (Option Value)} {vsE0 : Array Value} {fileE0 : Str} {tfE0 : Tok} {cdaE0 : Addr} {cdE0 : ClassData}
    (lE0 : K.lookup fE0 = some ⟨ocE0, odE0, .func (PySem.W.ksFn "__init__" "Truncated.__init__" (defArgs s_Truncated_init) (defBody s_Truncated_init) (defScope s_Truncated_init) .none kVE0 dcE0 pmE0 anE0 (.ref cdaE0) ctE0 cE0), oslE0⟩)
    (kE0 : PySem.W.codeIn K (.ref cdaE0) "Truncated.__init__" = true) (ccE0 : K.lookup cE0 = some ⟨clE0, cldE0, .cell (some (.ref DE0)), cslE0⟩) (coE0 : K.lookup cdaE0 = some ⟨cclE0, cddE0, .fields vsE0, ccsE0⟩) (vfE0 : vsE0[2]? = some (.str fileE0 tfE0)) (flE0 : ((l.prog.main.file : Str) == fileE0) = true)
    (cDE0 : PySem.W.clsIn K DE0 = some cdE0) (tyE0 : PySem.W.typeIn K (.ref fE0) = some (.type "function")) (fnE0 : PySem.W.fnIn K fE0 = true)
    {nmE0 qE0 : Str} {NE0 : Addr} {bsE0 bmE0 : List Value} {snE0 : List Str} {subE0 : List Value} {abE0 : Bool} {colE0 : Option Bool} {ddE0 : Option Addr} {k0E0 k1E0 k2E0 k3E0 k5E0 : Option Value}
    (gE0 : PySem.W.nsIn K mainGlobals "Truncated" = some (some (.ref DE0))) (oE0 : K.lookup DE0 = some (excClassObj nmE0 qE0 DE0 NE0 bsE0 bmE0 true snE0 subE0 abE0 colE0 ddE0 k0E0 k1E0 k2E0 k3E0 k5E0 "ValueError.__new__")) (rE0 : PySem.HandSPX.refsVE bmE0 = true)
    (saE0 : PySem.W.findIn K (.ref DE0) "__setattr__" = some (some (.builtin "object.__setattr__"))) (exE0 : PySem.W.subIn K (.ref DE0) (.type "BaseException") = some true) (tcE0 : PySem.W.typeIn K (.ref DE0) = some (.type "type")) (kcE0 : PySem.W.keepIn K (.ref DE0) = true) (veE0 : PySem.W.subIn K (.ref DE0) (.type "ValueError") = some true)
    (npE0 : PySem.W.findIn K (.ref DE0) "place" = some none) (nnE0 : PySem.W.findIn K (.ref DE0) "name" = some none) (icE0 : PySem.W.findIn K (.ref DE0) "__init__" = some (some (.ref fE0))) (m1E0 : PySem.W.mroIn K DE0 (.ref DE0) = some true) (m2E0 : PySem.W.mroIn K DE0 (.ref DKB) = some true) (suE0 : PySem.W.ks_superIn K DE0 DE0 "__init__" = some (some (.ref fKB))) (svE0 : PySem.W.ks_superIn K DE0 DKB "__init__" = some (some (.builtin "ValueError.__init__")))
    {fE1 cE1 DE1 : Addr} {ocE1 kVE1 dcE1 pmE1 ctE1 clE1 cclE1 : Value} {odE1 anE1 cldE1 cddE1 : Option Addr} {oslE1 cslE1 ccsE1 : Array (Option Value)} {vsE1 : Array Value} {fileE1 : Str} {tfE1 : Tok} {cdaE1 : Addr} {cdE1 : ClassData}
    (lE1 : K.lookup fE1 = some ⟨ocE1, odE1, .func (PySem.W.ksFn "__init__" "InvalidWord.__init__" (defArgs s_InvalidWord_init) (defBody s_InvalidWord_init) (defScope s_InvalidWord_init) .none kVE1 dcE1 pmE1 anE1 (.ref cdaE1) ctE1 cE1), oslE1⟩)
    (kE1 : PySem.W.codeIn K (.ref cdaE1) "InvalidWord.__init__" = true) (ccE1 : K.lookup cE1 = some ⟨clE1, cldE1, .cell (some (.ref DE1)), cslE1⟩) (coE1 : K.lookup cdaE1 = some ⟨cclE1, cddE1, .fields vsE1, ccsE1⟩) (vfE1 : vsE1[2]? = some (.str fileE1 tfE1)) (flE1 : ((l.prog.main.file : Str) == fileE1) = true)
    (cDE1 : PySem.W.clsIn K DE1 = some cdE1) (tyE1 : PySem.W.typeIn K (.ref fE1) = some (.type "function")) (fnE1 : PySem.W.fnIn K fE1 = true)
    {nmE1 qE1 : Str} {NE1 : Addr} {bsE1 bmE1 : List Value} {snE1 : List Str} {subE1 : List Value} {abE1 : Bool} {colE1 : Option Bool} {ddE1 : Option Addr} {k0E1 k1E1 k2E1 k3E1 k5E1 : Option Value}
    (gE1 : PySem.W.nsIn K mainGlobals "InvalidWord" = some (some (.ref DE1))) (oE1 : K.lookup DE1 = some (excClassObj nmE1 qE1 DE1 NE1 bsE1 bmE1 true snE1 subE1 abE1 colE1 ddE1 k0E1 k1E1 k2E1 k3E1 k5E1 "ValueError.__new__")) (rE1 : PySem.HandSPX.refsVE bmE1 = true)
    (saE1 : PySem.W.findIn K (.ref DE1) "__setattr__" = some (some (.builtin "object.__setattr__"))) (exE1 : PySem.W.subIn K (.ref DE1) (.type "BaseException") = some true) (tcE1 : PySem.W.typeIn K (.ref DE1) = some (.type "type")) (kcE1 : PySem.W.keepIn K (.ref DE1) = true) (veE1 : PySem.W.subIn K (.ref DE1) (.type "ValueError") = some true)
    (npE1 : PySem.W.findIn K (.ref DE1) "place" = some none) (nnE1 : PySem.W.findIn K (.ref DE1) "name" = some none) (icE1 : PySem.W.findIn K (.ref DE1) "__init__" = some (some (.ref fE1))) (m1E1 : PySem.W.mroIn K DE1 (.ref DE1) = some true) (m2E1 : PySem.W.mroIn K DE1 (.ref DKB) = some true) (suE1 : PySem.W.ks_superIn K DE1 DE1 "__init__" = some (some (.ref fKB))) (svE1 : PySem.W.ks_superIn K DE1 DKB "__init__" = some (some (.builtin "ValueError.__init__")))
    : ∃ fd : FuncData, (∀ (s : Shared) (v : Value), BindsTo s fd ⟨[v], []⟩ [("_law_script", v)]) ∧
      ∀ base : Heap, K.In base → base.Ns mainGlobals mg → FnOk l.prog w K mg base CX0 7 fa fd ["_law_script"] (SpP (cfK K) 1 (sp1 f_law)) := by
  have e := hfa.symm.trans (PySem.W.mg_of X G a_law)
  cases e
  refine ⟨PySem.W.fnOf "law" "law" (defArgs s_law) (defBody s_law) (defScope s_law) .none kV_law dc_law pm_law an_law cd_law ct_law, fun s v => .of_eq rfl, fun base _ _ => ?_⟩
  have hs := PySem.W.mg_none_of X G z_super
  have okKB : FnOk l.prog w K mg base CX0 1 fKB _ ["self", "place", "name"] (SpI K l.prog fKB cdaKB cKB DKB) := ok_kinit lKB kKB ccKB (NdefX.nscope_by (by decide +kernel)) (by decide +kernel) hs th rfl (fun env => rfl)
  have bdKB : Binds K (PySem.W.ksFn "__init__" "KraftroomError.__init__" (defArgs s_KraftroomError_init) (defBody s_KraftroomError_init) (defScope s_KraftroomError_init) (.ref tKB) kVKB dcKB pmKB anKB (.ref cdaKB) ctKB cKB) ["self", "place", "name"] [] := fun s us Y hl => match us, hl with
    | [u0, u1, u2], _ => BindsTo.of_looks fun M => by
      obtain ⟨k, q1, q2⟩ : ∃ k, bindArgs (PySem.W.ksFn "__init__" "KraftroomError.__init__" (defArgs s_KraftroomError_init) (defBody s_KraftroomError_init) (defScope s_KraftroomError_init) (.ref tKB) kVKB dcKB pmKB anKB (.ref cdaKB) ctKB cKB) ⟨[u0, u1, u2], []⟩ = seqItems? (.ref tKB) >>= k ∧ k (some #[tvKB]) = pure ([("self", u0), ("place", u1), ("name", u2)] : List (Str × Value)) := ⟨_, rfl, rfl⟩
      rw [q1]
      exact looks_items Y tlKB rfl (.of_pure q2)
  have oeE0 : OexC K DE0 := ⟨⟨nmE0, qE0, NE0, bsE0, bmE0, snE0, subE0, abE0, colE0, ddE0, k0E0, k1E0, k2E0, k3E0, k5E0, oE0, rE0⟩, saE0, exE0, tcE0, kcE0⟩
  have keE0 : KErr K l.prog fKB cdaKB cKB DKB DE0 := ⟨oeE0, ⟨⟨_, _, _, _, _, lKB, rfl, rfl⟩, ⟨_, _, _, _, _, _, coKB, vfKB, flKB⟩, ⟨_, _, _, ccKB⟩, ⟨_, cDKB⟩, m2E0, tp⟩, svE0, veE0, npE0, nnE0⟩
  have okE0 : FnOk l.prog w K mg base CX0 2 fE0 _ ["self", "place"] (SpE DE0 "Truncated") := ok_tinit lE0 kE0 ccE0 (NdefX.nscope_by (by decide +kernel)) (by decide +kernel) hs th ⟨⟨_, _, _, _, _, lE0, rfl, rfl⟩, ⟨_, _, _, _, _, _, coE0, vfE0, flE0⟩, ⟨_, _, _, ccE0⟩, ⟨_, cDE0⟩, m1E0, tp⟩ keE0 suE0 tyKB fnKB okKB bdKB rfl (fun env => rfl)
  have bdE0 : Binds K (PySem.W.ksFn "__init__" "Truncated.__init__" (defArgs s_Truncated_init) (defBody s_Truncated_init) (defScope s_Truncated_init) .none kVE0 dcE0 pmE0 anE0 (.ref cdaE0) ctE0 cE0) ["self", "place"] [] := .all fun us hl => match us, hl with | [_, _], _ => rfl
  have oeE1 : OexC K DE1 := ⟨⟨nmE1, qE1, NE1, bsE1, bmE1, snE1, subE1, abE1, colE1, ddE1, k0E1, k1E1, k2E1, k3E1, k5E1, oE1, rE1⟩, saE1, exE1, tcE1, kcE1⟩
  have keE1 : KErr K l.prog fKB cdaKB cKB DKB DE1 := ⟨oeE1, ⟨⟨_, _, _, _, _, lKB, rfl, rfl⟩, ⟨_, _, _, _, _, _, coKB, vfKB, flKB⟩, ⟨_, _, _, ccKB⟩, ⟨_, cDKB⟩, m2E1, tp⟩, svE1, veE1, npE1, nnE1⟩
  have okE1 : FnOk l.prog w K mg base CX0 2 fE1 _ ["self", "place"] (SpE DE1 "InvalidWord") := ok_tinit lE1 kE1 ccE1 (NdefX.nscope_by (by decide +kernel)) (by decide +kernel) hs th ⟨⟨_, _, _, _, _, lE1, rfl, rfl⟩, ⟨_, _, _, _, _, _, coE1, vfE1, flE1⟩, ⟨_, _, _, ccE1⟩, ⟨_, cDE1⟩, m1E1, tp⟩ keE1 suE1 tyKB fnKB okKB bdKB rfl (fun env => rfl)
  have bdE1 : Binds K (PySem.W.ksFn "__init__" "InvalidWord.__init__" (defArgs s_InvalidWord_init) (defBody s_InvalidWord_init) (defScope s_InvalidWord_init) .none kVE1 dcE1 pmE1 anE1 (.ref cdaE1) ctE1 cE1) ["self", "place"] [] := .all fun us hl => match us, hl with | [_, _], _ => rfl
  let T : Txt l.prog w (cfE K (fun c => if c = 0 then DE0 else DE1)) mg base := {
    a_field_bits := ad_field_bits
    d_field_bits := PySem.W.fnOf "field_bits" "field_bits" (defArgs s_field_bits) (defBody s_field_bits) (defScope s_field_bits) .none kV_field_bits dc_field_bits pm_field_bits an_field_bits cd_field_bits ct_field_bits
    F_field_bits := fun_mk (st := s_field_bits) l_field_bits c_field_bits k_field_bits
    b_field_bits := (fun_mk (st := s_field_bits) l_field_bits c_field_bits k_field_bits).binds (ps := ["width", "value"]) fun _ _ _ _ _ _ us hl => match us, hl with | [_, _], _ => rfl
    g_field_bits := PySem.W.mg_of X G a_field_bits
    a_read_field := ad_read_field
    d_read_field := PySem.W.fnOf "read_field" "read_field" (defArgs s_read_field) (defBody s_read_field) (defScope s_read_field) .none kV_read_field dc_read_field pm_read_field an_read_field cd_read_field ct_read_field
    F_read_field := fun_mk (st := s_read_field) l_read_field c_read_field k_read_field
    b_read_field := (fun_mk (st := s_read_field) l_read_field c_read_field k_read_field).binds (ps := ["bits", "at", "width"]) fun _ _ _ _ _ _ us hl => match us, hl with | [_, _, _], _ => rfl
    g_read_field := PySem.W.mg_of X G a_read_field
    a_gamma_bits := ad_gamma_bits
    d_gamma_bits := PySem.W.fnOf "gamma_bits" "gamma_bits" (defArgs s_gamma_bits) (defBody s_gamma_bits) (defScope s_gamma_bits) .none kV_gamma_bits dc_gamma_bits pm_gamma_bits an_gamma_bits cd_gamma_bits ct_gamma_bits
    F_gamma_bits := fun_mk (st := s_gamma_bits) l_gamma_bits c_gamma_bits k_gamma_bits
    b_gamma_bits := (fun_mk (st := s_gamma_bits) l_gamma_bits c_gamma_bits k_gamma_bits).binds (ps := ["n"]) fun _ _ _ _ _ _ us hl => match us, hl with | [_], _ => rfl
    g_gamma_bits := PySem.W.mg_of X G a_gamma_bits
    a_read_gamma := ad_read_gamma
    d_read_gamma := PySem.W.fnOf "read_gamma" "read_gamma" (defArgs s_read_gamma) (defBody s_read_gamma) (defScope s_read_gamma) .none kV_read_gamma dc_read_gamma pm_read_gamma an_read_gamma cd_read_gamma ct_read_gamma
    F_read_gamma := fun_mk (st := s_read_gamma) l_read_gamma c_read_gamma k_read_gamma
    b_read_gamma := (fun_mk (st := s_read_gamma) l_read_gamma c_read_gamma k_read_gamma).binds (ps := ["bits", "at"]) fun _ _ _ _ _ _ us hl => match us, hl with | [_, _], _ => rfl
    g_read_gamma := PySem.W.mg_of X G a_read_gamma
    a_delta_bits := ad_delta_bits
    d_delta_bits := PySem.W.fnOf "delta_bits" "delta_bits" (defArgs s_delta_bits) (defBody s_delta_bits) (defScope s_delta_bits) .none kV_delta_bits dc_delta_bits pm_delta_bits an_delta_bits cd_delta_bits ct_delta_bits
    F_delta_bits := fun_mk (st := s_delta_bits) l_delta_bits c_delta_bits k_delta_bits
    b_delta_bits := (fun_mk (st := s_delta_bits) l_delta_bits c_delta_bits k_delta_bits).binds (ps := ["n"]) fun _ _ _ _ _ _ us hl => match us, hl with | [_], _ => rfl
    g_delta_bits := PySem.W.mg_of X G a_delta_bits
    a_read_delta := ad_read_delta
    d_read_delta := PySem.W.fnOf "read_delta" "read_delta" (defArgs s_read_delta) (defBody s_read_delta) (defScope s_read_delta) .none kV_read_delta dc_read_delta pm_read_delta an_read_delta cd_read_delta ct_read_delta
    F_read_delta := fun_mk (st := s_read_delta) l_read_delta c_read_delta k_read_delta
    b_read_delta := (fun_mk (st := s_read_delta) l_read_delta c_read_delta k_read_delta).binds (ps := ["bits", "at"]) fun _ _ _ _ _ _ us hl => match us, hl with | [_, _], _ => rfl
    g_read_delta := PySem.W.mg_of X G a_read_delta
    a_rice_bits := ad_rice_bits
    d_rice_bits := PySem.W.fnOf "rice_bits" "rice_bits" (defArgs s_rice_bits) (defBody s_rice_bits) (defScope s_rice_bits) .none kV_rice_bits dc_rice_bits pm_rice_bits an_rice_bits cd_rice_bits ct_rice_bits
    F_rice_bits := fun_mk (st := s_rice_bits) l_rice_bits c_rice_bits k_rice_bits
    b_rice_bits := (fun_mk (st := s_rice_bits) l_rice_bits c_rice_bits k_rice_bits).binds (ps := ["k", "n"]) fun _ _ _ _ _ _ us hl => match us, hl with | [_, _], _ => rfl
    g_rice_bits := PySem.W.mg_of X G a_rice_bits
    a_read_rice := ad_read_rice
    d_read_rice := PySem.W.fnOf "read_rice" "read_rice" (defArgs s_read_rice) (defBody s_read_rice) (defScope s_read_rice) .none kV_read_rice dc_read_rice pm_read_rice an_read_rice cd_read_rice ct_read_rice
    F_read_rice := fun_mk (st := s_read_rice) l_read_rice c_read_rice k_read_rice
    b_read_rice := (fun_mk (st := s_read_rice) l_read_rice c_read_rice k_read_rice).binds (ps := ["k", "bits", "at"]) fun _ _ _ _ _ _ us hl => match us, hl with | [_, _, _], _ => rfl
    g_read_rice := PySem.W.mg_of X G a_read_rice
    a_fibonacci_bits := ad_fibonacci_bits
    d_fibonacci_bits := PySem.W.fnOf "fibonacci_bits" "fibonacci_bits" (defArgs s_fibonacci_bits) (defBody s_fibonacci_bits) (defScope s_fibonacci_bits) .none kV_fibonacci_bits dc_fibonacci_bits pm_fibonacci_bits an_fibonacci_bits cd_fibonacci_bits ct_fibonacci_bits
    F_fibonacci_bits := fun_mk (st := s_fibonacci_bits) l_fibonacci_bits c_fibonacci_bits k_fibonacci_bits
    b_fibonacci_bits := (fun_mk (st := s_fibonacci_bits) l_fibonacci_bits c_fibonacci_bits k_fibonacci_bits).binds (ps := ["n"]) fun _ _ _ _ _ _ us hl => match us, hl with | [_], _ => rfl
    g_fibonacci_bits := PySem.W.mg_of X G a_fibonacci_bits
    a_read_fibonacci := ad_read_fibonacci
    d_read_fibonacci := PySem.W.fnOf "read_fibonacci" "read_fibonacci" (defArgs s_read_fibonacci) (defBody s_read_fibonacci) (defScope s_read_fibonacci) .none kV_read_fibonacci dc_read_fibonacci pm_read_fibonacci an_read_fibonacci cd_read_fibonacci ct_read_fibonacci
    F_read_fibonacci := fun_mk (st := s_read_fibonacci) l_read_fibonacci c_read_fibonacci k_read_fibonacci
    b_read_fibonacci := (fun_mk (st := s_read_fibonacci) l_read_fibonacci c_read_fibonacci k_read_fibonacci).binds (ps := ["bits", "at"]) fun _ _ _ _ _ _ us hl => match us, hl with | [_, _], _ => rfl
    g_read_fibonacci := PySem.W.mg_of X G a_read_fibonacci
    a__law_cell := ad__law_cell
    d__law_cell := PySem.W.fnOf "_law_cell" "_law_cell" (defArgs s__law_cell) (defBody s__law_cell) (defScope s__law_cell) .none kV__law_cell dc__law_cell pm__law_cell an__law_cell cd__law_cell ct__law_cell
    F__law_cell := fun_mk (st := s__law_cell) l__law_cell c__law_cell k__law_cell
    b__law_cell := (fun_mk (st := s__law_cell) l__law_cell c__law_cell k__law_cell).binds (ps := ["_law_script", "_law_k"]) fun _ _ _ _ _ _ us hl => match us, hl with | [_, _], _ => rfl
    g__law_cell := PySem.W.mg_of X G a__law_cell
    a__law_number := ad__law_number
    d__law_number := PySem.W.fnOf "_law_number" "_law_number" (defArgs s__law_number) (defBody s__law_number) (defScope s__law_number) .none kV__law_number dc__law_number pm__law_number an__law_number cd__law_number ct__law_number
    F__law_number := fun_mk (st := s__law_number) l__law_number c__law_number k__law_number
    b__law_number := (fun_mk (st := s__law_number) l__law_number c__law_number k__law_number).binds (ps := ["_law_cell_here"]) fun _ _ _ _ _ _ us hl => match us, hl with | [_], _ => rfl
    g__law_number := PySem.W.mg_of X G a__law_number
    a__law_binary := ad__law_binary
    d__law_binary := PySem.W.fnOf "_law_binary" "_law_binary" (defArgs s__law_binary) (defBody s__law_binary) (defScope s__law_binary) .none kV__law_binary dc__law_binary pm__law_binary an__law_binary cd__law_binary ct__law_binary
    F__law_binary := fun_mk (st := s__law_binary) l__law_binary c__law_binary k__law_binary
    b__law_binary := (fun_mk (st := s__law_binary) l__law_binary c__law_binary k__law_binary).binds (ps := ["_law_n"]) fun _ _ _ _ _ _ us hl => match us, hl with | [_], _ => rfl
    g__law_binary := PySem.W.mg_of X G a__law_binary
    a__law_gamma := ad__law_gamma
    d__law_gamma := PySem.W.fnOf "_law_gamma" "_law_gamma" (defArgs s__law_gamma) (defBody s__law_gamma) (defScope s__law_gamma) .none kV__law_gamma dc__law_gamma pm__law_gamma an__law_gamma cd__law_gamma ct__law_gamma
    F__law_gamma := fun_mk (st := s__law_gamma) l__law_gamma c__law_gamma k__law_gamma
    b__law_gamma := (fun_mk (st := s__law_gamma) l__law_gamma c__law_gamma k__law_gamma).binds (ps := ["_law_n"]) fun _ _ _ _ _ _ us hl => match us, hl with | [_], _ => rfl
    g__law_gamma := PySem.W.mg_of X G a__law_gamma
    a__law_delta := ad__law_delta
    d__law_delta := PySem.W.fnOf "_law_delta" "_law_delta" (defArgs s__law_delta) (defBody s__law_delta) (defScope s__law_delta) .none kV__law_delta dc__law_delta pm__law_delta an__law_delta cd__law_delta ct__law_delta
    F__law_delta := fun_mk (st := s__law_delta) l__law_delta c__law_delta k__law_delta
    b__law_delta := (fun_mk (st := s__law_delta) l__law_delta c__law_delta k__law_delta).binds (ps := ["_law_n"]) fun _ _ _ _ _ _ us hl => match us, hl with | [_], _ => rfl
    g__law_delta := PySem.W.mg_of X G a__law_delta
    a__law_fibonacci := ad__law_fibonacci
    d__law_fibonacci := PySem.W.fnOf "_law_fibonacci" "_law_fibonacci" (defArgs s__law_fibonacci) (defBody s__law_fibonacci) (defScope s__law_fibonacci) .none kV__law_fibonacci dc__law_fibonacci pm__law_fibonacci an__law_fibonacci cd__law_fibonacci ct__law_fibonacci
    F__law_fibonacci := fun_mk (st := s__law_fibonacci) l__law_fibonacci c__law_fibonacci k__law_fibonacci
    b__law_fibonacci := (fun_mk (st := s__law_fibonacci) l__law_fibonacci c__law_fibonacci k__law_fibonacci).binds (ps := ["_law_n"]) fun _ _ _ _ _ _ us hl => match us, hl with | [_], _ => rfl
    g__law_fibonacci := PySem.W.mg_of X G a__law_fibonacci
    a__law_rice := ad__law_rice
    d__law_rice := PySem.W.fnOf "_law_rice" "_law_rice" (defArgs s__law_rice) (defBody s__law_rice) (defScope s__law_rice) .none kV__law_rice dc__law_rice pm__law_rice an__law_rice cd__law_rice ct__law_rice
    F__law_rice := fun_mk (st := s__law_rice) l__law_rice c__law_rice k__law_rice
    b__law_rice := (fun_mk (st := s__law_rice) l__law_rice c__law_rice k__law_rice).binds (ps := ["_law_k", "_law_n"]) fun _ _ _ _ _ _ us hl => match us, hl with | [_, _], _ => rfl
    g__law_rice := PySem.W.mg_of X G a__law_rice
    a__law_all := ad__law_all
    d__law_all := PySem.W.fnOf "_law_all" "_law_all" (defArgs s__law_all) (defBody s__law_all) (defScope s__law_all) .none kV__law_all dc__law_all pm__law_all an__law_all cd__law_all ct__law_all
    F__law_all := fun_mk (st := s__law_all) l__law_all c__law_all k__law_all
    b__law_all := (fun_mk (st := s__law_all) l__law_all c__law_all k__law_all).binds (ps := ["_law_n", "_law_k"]) fun _ _ _ _ _ _ us hl => match us, hl with | [_, _], _ => rfl
    g__law_all := PySem.W.mg_of X G a__law_all
    a_law := fa
    d_law := PySem.W.fnOf "law" "law" (defArgs s_law) (defBody s_law) (defScope s_law) .none kV_law dc_law pm_law an_law cd_law ct_law
    F_law := fun_mk (st := s_law) l_law c_law k_law
    b_law := (fun_mk (st := s_law) l_law c_law k_law).binds (ps := ["_law_script"]) fun _ _ _ _ _ _ us hl => match us, hl with | [_], _ => rfl
    g_law := PySem.W.mg_of X G a_law
    n_int := PySem.W.mg_none_of X G z_int
    n_len := PySem.W.mg_none_of X G z_len
    n_max := PySem.W.mg_none_of X G z_max
    n_range := PySem.W.mg_none_of X G z_range
    n_reversed := PySem.W.mg_none_of X G z_reversed
    X_Truncated := { fI := fE0, fd := _, T := oeE0, iC := icE0, tI := tyE0, F1 := okE0, hb := bdE0, hm := PySem.W.mg_of X G gE0 }
    X_InvalidWord := { fI := fE1, fd := _, T := oeE1, iC := icE1, tI := tyE1, F1 := okE1, hb := bdE1, hm := PySem.W.mg_of X G gE1 }
    k_MOST_BITS := t_MOST_BITS
    c_MOST_BITS := PySem.W.mg_of X G y_MOST_BITS }
  exact ok_law T
theorem law_end {K : PySem.W.Frag} {H : Hp} {a : Addr} {ns : List Int} {E : XK} (hl : ns.length ≤ 63) (hS : SqL K H a (ns.map V.int)) (hlaw : ∀ ns : List Int, ns.length ≤ 63 → f_law ⟨ns⟩ = .ok true) : SpP (cfK K) 1 (sp1 f_law) [.ref a] H (fun v _ => v = .bl true) E :=
  ⟨rfl, H, fun _ => none, [toD (Scr.mk ns)], toD true, ⟨Le.refl H, fun _ _ e => (nomatch e), fun _ _ => rfl⟩, .cons (.scr hS) .nil, ⟨⟨ns⟩, rfl, by rw [hlaw ns hl]; rfl⟩, fun v F' H' _ _ r => dr_bl (i := true) r⟩
end Kx
open PySem PySem.W PyProof.Rows
set_option maxHeartbeats 0 in
theorem PySem.Challenge.cw_kraftroom_k14_codes_of_integers_holds : PySem.Challenge.rw_kraftroom_k14_codes_of_integers.Holds := by
  w_on; o_law; k_head; (case hw => w_witness2)
  k_fill
  refine L2.walk_of (l := PySem.Challenge.rw_kraftroom_k14_codes_of_integers) (n := 63) (k := 7) (x := "_law_script") (CX := fun _ => L2.CX0) (sp := fun w => Kr.SpP (Kx.cfK _) 1 (Kr.sp1 Kx.f_law)) rfl (by decide) rfl ⟨rfl, by decide, by decide⟩ (fun w h Y => PySem.W.kIn_of Y) ?F (fun _ _ a ns hl _ hS => Kx.law_end hl hS Kx.law_all) (fun _ _ _ _ _ h => h)
  case F =>
    intro w mg fa h KX G hmg
    refine' Kx.all_mk KX G hmg ?a_field_bits ?l_field_bits ?c_field_bits ?k_field_bits ?a_read_field ?l_read_field ?c_read_field ?k_read_field ?a_gamma_bits ?l_gamma_bits ?c_gamma_bits ?k_gamma_bits ?a_read_gamma ?l_read_gamma ?c_read_gamma ?k_read_gamma ?a_delta_bits ?l_delta_bits ?c_delta_bits ?k_delta_bits ?a_read_delta ?l_read_delta ?c_read_delta ?k_read_delta ?a_rice_bits ?l_rice_bits ?c_rice_bits ?k_rice_bits ?a_read_rice ?l_read_rice ?c_read_rice ?k_read_rice ?a_fibonacci_bits ?l_fibonacci_bits ?c_fibonacci_bits ?k_fibonacci_bits ?a_read_fibonacci ?l_read_fibonacci ?c_read_fibonacci ?k_read_fibonacci ?a__law_cell ?l__law_cell ?c__law_cell ?k__law_cell ?a__law_number ?l__law_number ?c__law_number ?k__law_number ?a__law_binary ?l__law_binary ?c__law_binary ?k__law_binary ?a__law_gamma ?l__law_gamma ?c__law_gamma ?k__law_gamma ?a__law_delta ?l__law_delta ?c__law_delta ?k__law_delta ?a__law_fibonacci ?l__law_fibonacci ?c__law_fibonacci ?k__law_fibonacci ?a__law_rice ?l__law_rice ?c__law_rice ?k__law_rice ?a__law_all ?l__law_all ?c__law_all ?k__law_all ?a_law ?l_law ?c_law ?k_law ?z_int ?z_len ?z_max ?z_range ?z_reversed ?y_MOST_BITS ?tp ?z_super ?th ?lKB ?kKB ?ccKB ?coKB ?vfKB ?flKB ?cDKB ?tyKB ?fnKB ?tlKB ?lE0 ?kE0 ?ccE0 ?coE0 ?vfE0 ?flE0 ?cDE0 ?tyE0 ?fnE0 ?gE0 ?oE0 ?rE0 ?saE0 ?exE0 ?tcE0 ?kcE0 ?veE0 ?npE0 ?nnE0 ?icE0 ?m1E0 ?m2E0 ?suE0 ?svE0 ?lE1 ?kE1 ?ccE1 ?coE1 ?vfE1 ?flE1 ?cDE1 ?tyE1 ?fnE1 ?gE1 ?oE1 ?rE1 ?saE1 ?exE1 ?tcE1 ?kcE1 ?veE1 ?npE1 ?nnE1 ?icE1 ?m1E1 ?m2E1 ?suE1 ?svE1
    (case gE0 => k_is); (case gE1 => k_is); (case icE0 => k_is); (case suE0 => first | ks_is | k_is | rfl | decide +kernel); (case icE1 => k_is); (case suE1 => first | ks_is | k_is | rfl | decide +kernel); (case lKB => k_is); (case lE0 => k_is); (case lE1 => k_is); (case ccKB => k_is); (case a_field_bits => k_is); (case l_field_bits => k_is); (case c_field_bits => k_is); (case k_field_bits => k_is); (case a_read_field => k_is); (case l_read_field => k_is); (case c_read_field => k_is); (case k_read_field => k_is); (case a_gamma_bits => k_is); (case l_gamma_bits => k_is); (case c_gamma_bits => k_is); (case k_gamma_bits => k_is); (case a_read_gamma => k_is); (case l_read_gamma => k_is); (case c_read_gamma => k_is); (case k_read_gamma => k_is); (case a_delta_bits => k_is); (case l_delta_bits => k_is); (case c_delta_bits => k_is); (case k_delta_bits => k_is); (case a_read_delta => k_is); (case l_read_delta => k_is); (case c_read_delta => k_is); (case k_read_delta => k_is); (case a_rice_bits => k_is); (case l_rice_bits => k_is); (case c_rice_bits => k_is); (case k_rice_bits => k_is); (case a_read_rice => k_is); (case l_read_rice => k_is); (case c_read_rice => k_is); (case k_read_rice => k_is); (case a_fibonacci_bits => k_is); (case l_fibonacci_bits => k_is); (case c_fibonacci_bits => k_is); (case k_fibonacci_bits => k_is); (case a_read_fibonacci => k_is); (case l_read_fibonacci => k_is); (case c_read_fibonacci => k_is); (case k_read_fibonacci => k_is); (case a__law_cell => k_is); (case l__law_cell => k_is); (case c__law_cell => k_is); (case k__law_cell => k_is); (case a__law_number => k_is); (case l__law_number => k_is); (case c__law_number => k_is); (case k__law_number => k_is); (case a__law_binary => k_is); (case l__law_binary => k_is); (case c__law_binary => k_is); (case k__law_binary => k_is); (case a__law_gamma => k_is); (case l__law_gamma => k_is); (case c__law_gamma => k_is); (case k__law_gamma => k_is); (case a__law_delta => k_is); (case l__law_delta => k_is); (case c__law_delta => k_is); (case k__law_delta => k_is); (case a__law_fibonacci => k_is); (case l__law_fibonacci => k_is); (case c__law_fibonacci => k_is); (case k__law_fibonacci => k_is); (case a__law_rice => k_is); (case l__law_rice => k_is); (case c__law_rice => k_is); (case k__law_rice => k_is); (case a__law_all => k_is); (case l__law_all => k_is); (case c__law_all => k_is); (case k__law_all => k_is); (case a_law => k_is); (case l_law => k_is); (case c_law => k_is); (case k_law => k_is); (case z_int => k_is); (case z_len => k_is); (case z_max => k_is); (case z_range => k_is); (case z_reversed => k_is); (case y_MOST_BITS => k_is); (case tp => first | ks_is | k_is | rfl | decide +kernel); (case z_super => k_is); (case th => k_is); (case kKB => k_is); (case coKB => k_is); (case vfKB => first | ks_is | k_is | rfl | decide +kernel); (case flKB => first | ks_is | k_is | rfl | decide +kernel); (case cDKB => k_is); (case tyKB => k_is); (case fnKB => k_is); (case tlKB => k_is); (case kE0 => k_is); (case ccE0 => k_is); (case coE0 => k_is); (case vfE0 => first | ks_is | k_is | rfl | decide +kernel); (case flE0 => first | ks_is | k_is | rfl | decide +kernel); (case cDE0 => k_is); (case tyE0 => k_is); (case fnE0 => k_is); (case oE0 => k_is); (case rE0 => first | ks_is | k_is | rfl | decide +kernel); (case saE0 => k_is); (case exE0 => k_is); (case tcE0 => k_is); (case kcE0 => k_is); (case veE0 => k_is); (case npE0 => k_is); (case nnE0 => k_is); (case m1E0 => k_is); (case m2E0 => k_is); (case svE0 => first | ks_is | k_is | rfl | decide +kernel); (case kE1 => k_is); (case ccE1 => k_is); (case coE1 => k_is); (case vfE1 => first | ks_is | k_is | rfl | decide +kernel); (case flE1 => first | ks_is | k_is | rfl | decide +kernel); (case cDE1 => k_is); (case tyE1 => k_is); (case fnE1 => k_is); (case oE1 => k_is); (case rE1 => first | ks_is | k_is | rfl | decide +kernel); (case saE1 => k_is); (case exE1 => k_is); (case tcE1 => k_is); (case kcE1 => k_is); (case veE1 => k_is); (case npE1 => k_is); (case nnE1 => k_is); (case m1E1 => k_is); (case m2E1 => k_is); (case svE1 => first | ks_is | k_is | rfl | decide +kernel)
