import PyProof.Rows.All
import Wide.All
import OpenK.AllK
import Wide.FinOn
import HandS.ForMost
import HandS.Exc
import HandS.WordsExc
import HandS.Wide
import HandS.WideBits
import HandS.RevRange
import HandS.Style
import KE.SortData
import HandS.Zip
import PySem.Challenge.RW_kraftroom_k03_choices_of_a_stage
set_option Elab.async false
set_option linter.all false
set_option maxRecDepth 100000
set_option maxHeartbeats 4000000
/-! KrA: results, data, what a value stands for, the judgements of expressions and statements by data. -/
namespace Kr
open PySem PySem.Spec PyProof.Rows L2

/-! ### results -/
inductive R (α : Type) where
  | ok (a : α)
  | er (c : Nat) (p : Int)
  | bad
def R.bind {α β : Type} : R α → (α → R β) → R β
  | .ok a, f => f a
  | .er c p, _ => .er c p
  | .bad, _ => .bad
/-- of a def that raises nothing -/
def R.pu {α : Type} : R α → R α
  | .ok a => .ok a
  | _ => .bad
def R.map {α β : Type} (f : α → β) : R α → R β
  | .ok a => .ok (f a)
  | .er c p => .er c p
  | .bad => .bad
section
variable {α β γ : Type}
theorem R.ok_bind (a : α) (f : α → R β) : (R.ok a).bind f = f a := (fun (m : R α) (e : m = .ok a) => show m.bind f = f a by rw [e]; rfl) _ rfl
theorem R.er_bind (c : Nat) (p : Int) (f : α → R β) : (R.er c p : R α).bind f = .er c p := (fun (m : R α) (e : m = .er c p) => show m.bind f = .er c p by rw [e]; rfl) _ rfl
theorem R.bad_bind (f : α → R β) : (R.bad : R α).bind f = .bad := (fun (m : R α) (e : m = .bad) => show m.bind f = .bad by rw [e]; rfl) _ rfl
theorem R.ok_pu (a : α) : (R.ok a).pu = .ok a := (fun (m : R α) (e : m = .ok a) => show m.pu = .ok a by rw [e]; rfl) _ rfl
theorem R.ok_map (f : α → β) (a : α) : (R.ok a).map f = .ok (f a) := (fun (m : R α) (e : m = .ok a) => show m.map f = .ok (f a) by rw [e]; rfl) _ rfl
theorem R.bind_ok (m : R α) : m.bind .ok = m := by cases m <;> rfl
theorem R.bind_bind (m : R α) (f : α → R β) (g : β → R γ) : (m.bind f).bind g = m.bind fun a => (f a).bind g := by cases m <;> rfl
theorem R.ite_bind (c : Prop) [Decidable c] (m n : R α) (f : α → R β) : (if c then m else n).bind f = if c then m.bind f else n.bind f := by split <;> rfl
theorem R.bind_nb {m : R α} {f : α → R β} (h : m.bind f ≠ .bad) : m ≠ .bad := fun e => h (by rw [e]; rfl)
theorem R.bind_okd {m : R α} {f : α → R β} {b : β} (h : m.bind f = .ok b) : ∃ a, m = .ok a ∧ f a = .ok b := by
  cases m with
  | ok a => exact ⟨a, rfl, h⟩
  | er c p => cases h
  | bad => cases h
end

/-! ### data -/
inductive Dt where
  | non | bl (b : Bool) | int (i : Int) | str (x : Str) | lst (xs : List Dt) | tup (xs : List Dt)
  /-- the script -/
  | scr (ns : List Int)
  /-- a dict whose keys are tuples of ints -/
  | dct (kvs : List (List Int × Dt))

mutual
/-- in F the value v stands for the data -/
inductive Dr (K : PySem.W.Frag) (F : Hp) : V → Dt → Prop
  | non : Dr K F .non .non
  | bl (b : Bool) : Dr K F (.bl b) (.bl b)
  | int (i : Int) : Dr K F (.int i) (.int i)
  | str (x : Str) : Dr K F (.str x) (.str x)
  | lst {a : Addr} {vs : List V} {ds : List Dt} : F a = some (.lst vs) → DrA K F vs ds → Dr K F (.ref a) (.lst ds)
  | tup {a : Addr} {vs : List V} {ds : List Dt} : F a = some (.tup vs) → DrA K F vs ds → Dr K F (.ref a) (.tup ds)
  | scr {a : Addr} {ns : List Int} : SqL K F a (ns.map V.int) → Dr K F (.ref a) (.scr ns)
  | dct {a : Addr} {ks : List (List Key × V)} {kvs : List (List Int × Dt)} : F a = some (.dT ks) → DrK K F ks kvs → Dr K F (.ref a) (.dct kvs)
inductive DrA (K : PySem.W.Frag) (F : Hp) : List V → List Dt → Prop
  | nil : DrA K F [] []
  | cons {v : V} {vs : List V} {d : Dt} {ds : List Dt} : Dr K F v d → DrA K F vs ds → DrA K F (v :: vs) (d :: ds)
inductive DrK (K : PySem.W.Frag) (F : Hp) : List (List Key × V) → List (List Int × Dt) → Prop
  | nil : DrK K F [] []
  | cons {k : List Int} {v : V} {d : Dt} {ks : List (List Key × V)} {kvs : List (List Int × Dt)} : Dr K F v d → DrK K F ks kvs → DrK K F ((k.map Sum.inl, v) :: ks) ((k, d) :: kvs)
end

def Le (H H' : Hp) : Prop := ∀ a o, H a = some o → H' a = some o
theorem Le.refl (H : Hp) : Le H H := fun _ _ h => h
theorem Le.trans {H H1 H2 : Hp} (a : Le H H1) (b : Le H1 H2) : Le H H2 := fun x o h => b x o (a x o h)
theorem Le.new {H : Hp} {p : Addr} {o : HO} (h : H p = none) : Le H (upd H p o) := fun a u e => by
  rw [upd_ne (ne_of_none e h)]
  exact e
theorem Le.seq {K : PySem.W.Frag} {H H' : Hp} {a : Addr} {xs : List V} (e : Le H H') (h : SqL K H a xs) : SqL K H' a xs := by
  rcases h with (h | ⟨o, h⟩) | h
  · exact .inl (.inl (e _ _ h))
  · exact .inl (.inr ⟨o, e _ _ h⟩)
  · exact .inr h
theorem Le.free {H H' : Hp} (e : Le H H') {l : Addr} (h : H' l = none) : H l = none := by
  cases q : H l with
  | none => rfl
  | some o =>
    rw [e l o q] at h
    cases h
section
variable {K : PySem.W.Frag} {F F' : Hp}
mutual
theorem Dr.mono (e : Le F F') : ∀ {v : V} {d : Dt}, Dr K F v d → Dr K F' v d
  | _, _, .non => .non
  | _, _, .bl b => .bl b
  | _, _, .int i => .int i
  | _, _, .str x => .str x
  | _, _, .lst h r => .lst (e _ _ h) (DrA.mono e r)
  | _, _, .tup h r => .tup (e _ _ h) (DrA.mono e r)
  | _, _, .scr h => .scr (e.seq h)
  | _, _, .dct h r => .dct (e _ _ h) (DrK.mono e r)
theorem DrA.mono (e : Le F F') : ∀ {vs : List V} {ds : List Dt}, DrA K F vs ds → DrA K F' vs ds
  | _, _, .nil => .nil
  | _, _, .cons r t => .cons (Dr.mono e r) (DrA.mono e t)
theorem DrK.mono (e : Le F F') : ∀ {ks : List (List Key × V)} {kvs : List (List Int × Dt)}, DrK K F ks kvs → DrK K F' ks kvs
  | _, _, .nil => .nil
  | _, _, .cons r t => .cons (Dr.mono e r) (DrK.mono e t)
end
theorem DrA.length : ∀ {vs : List V} {ds : List Dt}, DrA K F vs ds → vs.length = ds.length
  | _, _, .nil => rfl
  | _, _, .cons _ t => by rw [List.length_cons, List.length_cons, DrA.length t]
theorem DrA.get : ∀ {vs : List V} {ds : List Dt} {i : Nat} {d : Dt}, DrA K F vs ds → ds[i]? = some d → ∃ v, vs[i]? = some v ∧ Dr K F v d
  | _, _, _, _, .nil, h => by simp at h
  | _, _, 0, _, .cons (v := v) r _, h => by
    simp at h
    subst h
    exact ⟨v, rfl, r⟩
  | _, _, i + 1, _, .cons _ t, h => by
    obtain ⟨v, h1, h2⟩ := DrA.get (i := i) t (by simpa using h)
    exact ⟨v, by simpa using h1, h2⟩
theorem DrA.getV : ∀ {vs : List V} {ds : List Dt} {i : Nat} {v : V}, DrA K F vs ds → vs[i]? = some v → ∃ d, ds[i]? = some d ∧ Dr K F v d
  | _, _, _, _, .nil, h => by simp at h
  | _, _, 0, _, .cons (d := d) r _, h => by
    simp at h
    subst h
    exact ⟨d, rfl, r⟩
  | _, _, i + 1, _, .cons _ t, h => by
    obtain ⟨d, h1, h2⟩ := DrA.getV (i := i) t (by simpa using h)
    exact ⟨d, by simpa using h1, h2⟩
theorem DrA.append : ∀ {vs ws : List V} {ds es : List Dt}, DrA K F vs ds → DrA K F ws es → DrA K F (vs ++ ws) (ds ++ es)
  | _, _, _, _, .nil, s => s
  | _, _, _, _, .cons r t, s => .cons r (DrA.append t s)
theorem DrA.set {v : V} {d : Dt} (r : Dr K F v d) : ∀ {vs : List V} {ds : List Dt} (i : Nat), DrA K F vs ds → DrA K F (vs.set i v) (ds.set i d)
  | _, _, _, .nil => .nil
  | _, _, 0, .cons _ t => .cons r t
  | _, _, i + 1, .cons q t => .cons q (DrA.set r i t)
theorem DrA.take : ∀ {vs : List V} {ds : List Dt} (n : Nat), DrA K F vs ds → DrA K F (vs.take n) (ds.take n)
  | _, _, 0, _ => .nil
  | _, _, _ + 1, .nil => .nil
  | _, _, n + 1, .cons r t => .cons r (DrA.take n t)
theorem DrA.drop : ∀ {vs : List V} {ds : List Dt} (n : Nat), DrA K F vs ds → DrA K F (vs.drop n) (ds.drop n)
  | _, _, 0, r => r
  | _, _, _ + 1, .nil => .nil
  | _, _, n + 1, .cons _ t => DrA.drop n t
theorem DrA.dropLast {vs : List V} {ds : List Dt} (h : DrA K F vs ds) : DrA K F vs.dropLast ds.dropLast := by
  rw [List.dropLast_eq_take, List.dropLast_eq_take, h.length]
  exact h.take _
theorem DrA.reverse : ∀ {vs : List V} {ds : List Dt}, DrA K F vs ds → DrA K F vs.reverse ds.reverse
  | _, _, .nil => .nil
  | _, _, .cons r t => by
    rw [List.reverse_cons, List.reverse_cons]
    exact (DrA.reverse t).append (.cons r .nil)
theorem DrA.rep {vs : List V} {ds : List Dt} (h : DrA K F vs ds) : ∀ k : Nat, DrA K F (List.replicate k vs).flatten (List.replicate k ds).flatten
  | 0 => .nil
  | k + 1 => by
    rw [List.replicate_succ, List.replicate_succ, List.flatten_cons, List.flatten_cons]
    exact h.append (DrA.rep h k)
end

theorem dr_non {K : PySem.W.Frag} {F : Hp} {v : V} (h : Dr K F v .non) : v = .non := by cases h; rfl
theorem dr_int {K : PySem.W.Frag} {F : Hp} {v : V} {i : Int} (h : Dr K F v (.int i)) : v = .int i := by cases h; rfl
theorem dr_bl {K : PySem.W.Frag} {F : Hp} {v : V} {i : Bool} (h : Dr K F v (.bl i)) : v = .bl i := by cases h; rfl
theorem dr_str {K : PySem.W.Frag} {F : Hp} {v : V} {i : Str} (h : Dr K F v (.str i)) : v = .str i := by cases h; rfl
theorem dr_lst {K : PySem.W.Frag} {F : Hp} {v : V} {ds : List Dt} (h : Dr K F v (.lst ds)) : ∃ a vs, v = .ref a ∧ F a = some (.lst vs) ∧ DrA K F vs ds := by
  cases h with
  | lst h1 h2 => exact ⟨_, _, rfl, h1, h2⟩
theorem dr_tup {K : PySem.W.Frag} {F : Hp} {v : V} {ds : List Dt} (h : Dr K F v (.tup ds)) : ∃ a vs, v = .ref a ∧ F a = some (.tup vs) ∧ DrA K F vs ds := by
  cases h with
  | tup h1 h2 => exact ⟨_, _, rfl, h1, h2⟩
theorem dr_scr {K : PySem.W.Frag} {F : Hp} {v : V} {ns : List Int} (h : Dr K F v (.scr ns)) : ∃ a, v = .ref a ∧ SqL K F a (ns.map V.int) := by
  cases h with
  | scr h1 => exact ⟨_, rfl, h1⟩
theorem dr_dct {K : PySem.W.Frag} {F : Hp} {v : V} {kvs : List (List Int × Dt)} (h : Dr K F v (.dct kvs)) : ∃ a ks, v = .ref a ∧ F a = some (.dT ks) ∧ DrK K F ks kvs := by
  cases h with
  | dct h1 h2 => exact ⟨_, _, rfl, h1, h2⟩
theorem drA_nil {K : PySem.W.Frag} {F : Hp} {vs : List V} (h : DrA K F vs []) : vs = [] := by cases h; rfl
theorem drA_cons {K : PySem.W.Frag} {F : Hp} {vs : List V} {d : Dt} {ds : List Dt} (h : DrA K F vs (d :: ds)) : ∃ v r, vs = v :: r ∧ Dr K F v d ∧ DrA K F r ds := by
  cases h with
  | cons h1 h2 => exact ⟨_, _, rfl, h1, h2⟩

/-- typed data -/
class Enc (α : Type) where
  toD : α → Dt
open Enc (toD)

structure T3 (α β γ : Type) where
  a : α
  b : β
  c : γ
  deriving DecidableEq
structure Scr where
  ns : List Int
/-- a dict by tuples of ints -/
structure Dct (α : Type) where
  kvs : List (List Int × α)
instance : Enc Int := ⟨.int⟩
instance : Enc Bool := ⟨.bl⟩
instance : Enc Str := ⟨.str⟩
instance : Enc Unit := ⟨fun _ => .non⟩
instance : Enc Scr := ⟨fun s => .scr s.ns⟩
instance {α : Type} [Enc α] : Enc (List α) := ⟨fun xs => .lst (xs.map toD)⟩
instance {α β : Type} [Enc α] [Enc β] : Enc (α × β) := ⟨fun p => .tup [toD p.1, toD p.2]⟩
instance {α β γ : Type} [Enc α] [Enc β] [Enc γ] : Enc (T3 α β γ) := ⟨fun p => .tup [toD p.a, toD p.b, toD p.c]⟩
instance {α : Type} [Enc α] : Enc (Option α) := ⟨fun o => match o with | none => .non | some a => toD a⟩
instance {α β : Type} [Enc α] [Enc β] : Enc (α ⊕ β) := ⟨fun o => match o with | .inl a => toD a | .inr a => toD a⟩
instance {α : Type} [Enc α] : Enc (Dct α) := ⟨fun d => .dct (d.kvs.map fun p => (p.1, toD p.2))⟩
/-- never None -/
class NN (α : Type) [Enc α] : Prop where
  nn : ∀ a : α, toD a ≠ .non
instance : NN Int := ⟨fun _ h => nomatch h⟩
instance : NN Bool := ⟨fun _ h => nomatch h⟩
instance {α : Type} [Enc α] : NN (List α) := ⟨fun _ h => nomatch h⟩
instance {α β : Type} [Enc α] [Enc β] : NN (α × β) := ⟨fun _ h => nomatch h⟩
instance {α β γ : Type} [Enc α] [Enc β] [Enc γ] : NN (T3 α β γ) := ⟨fun _ h => nomatch h⟩

/-! ### the state by data -/
/-- what the text says of classes: the written part; the error classes by number, their names -/
structure Cf where
  K : PySem.W.Frag
  cls : Nat → Addr
  nm : Nat → Str
/-- the heap H holds F (never changed) and O (what is owned) -/
structure Fm (F O H : Hp) : Prop where
  f : Le F H
  o : Le O H
  ds : ∀ p, F p ≠ none → O p = none
theorem Fm.fnone {F O H : Hp} (h : Fm F O H) {p : Addr} (e : H p = none) : F p = none := h.f.free e
theorem Fm.onone {F O H : Hp} (h : Fm F O H) {p : Addr} (e : H p = none) : O p = none := h.o.free e
theorem Fm.own {F O H : Hp} (h : Fm F O H) {p : Addr} {o : HO} (e : O p = some o) : F p = none := by
  cases q : F p with
  | none => rfl
  | some u =>
    rw [h.ds p (by rw [q]; simp)] at e
    cases e
/-- a new object, never changed from now on -/
theorem Fm.newF {F O H : Hp} (h : Fm F O H) {p : Addr} {o : HO} (e : H p = none) : Fm (upd F p o) O (upd H p o) := by
  refine ⟨fun a u q => ?_, fun a u q => ?_, fun a q => ?_⟩
  · by_cases ha : a = p
    · subst ha
      rw [upd_same] at q ⊢
      exact q
    · rw [upd_ne ha] at q ⊢
      exact h.f a u q
  · exact Le.new e a u (h.o a u q)
  · by_cases ha : a = p
    · subst ha
      exact h.onone e
    · rw [upd_ne ha] at q
      exact h.ds a q
/-- a new object that nobody owns as yet -/
theorem Fm.newH {F O H : Hp} (h : Fm F O H) {p : Addr} {o : HO} (e : H p = none) : Fm F O (upd H p o) := ⟨h.f.trans (Le.new e), h.o.trans (Le.new e), h.ds⟩

inductive Sl where
  | un
  | va (d : Dt)
  | ol (ds : List Dt)
  | od (kvs : List (List Int × Dt))
def Sl.own : Sl → Bool
  | .ol _ => true
  | .od _ => true
  | _ => false
def SlOk (K : PySem.W.Frag) (F O : Hp) (x : Option (Option V)) : Sl → Prop
  | .un => True
  | .va d => ∃ v, x = some (some v) ∧ Dr K F v d
  | .ol ds => ∃ a vs, x = some (some (.ref a)) ∧ O a = some (.lst vs) ∧ DrA K F vs ds
  | .od kvs => ∃ a ks, x = some (some (.ref a)) ∧ O a = some (.dT ks) ∧ DrK K F ks kvs
theorem SlOk.mono {K : PySem.W.Frag} {F F' O : Hp} {x : Option (Option V)} (e : Le F F') : ∀ {s : Sl}, SlOk K F O x s → SlOk K F' O x s
  | .un, _ => trivial
  | .va _, ⟨v, h1, h2⟩ => ⟨v, h1, h2.mono e⟩
  | .ol _, ⟨a, vs, h1, h2, h3⟩ => ⟨a, vs, h1, h2, h3.mono e⟩
  | .od _, ⟨a, vs, h1, h2, h3⟩ => ⟨a, vs, h1, h2, h3.mono e⟩
structure Er (K : PySem.W.Frag) (F O : Hp) (σ : L2.St) (G : List Sl) : Prop where
  len : σ.length = G.length
  at' : ∀ (i : Nat) (s : Sl), G[i]? = some s → SlOk K F O σ[i]? s
theorem Er.mono {K : PySem.W.Frag} {F F' O : Hp} {σ : L2.St} {G : List Sl} (h : Er K F O σ G) (e : Le F F') : Er K F' O σ G := ⟨h.len, fun i s q => (h.at' i s q).mono e⟩

/-- what an exception of the class c leaves -/
def xdO (cf : Cf) (c : Nat) (p : Int) : HO := .xd [("name", .str (cf.nm c)), ("place", .int p)]
/-- the reading t gives m's outcome, by rel -/
def EG {α ρ : Type} (cf : Cf) (E : XK) (t : L2.St → Hp → (ρ → Hp → Prop) → Prop) (G : List Sl) (m : R α) (rel : Hp → Hp → Hp → ρ → α → Prop) : Prop :=
  ∀ (F O H : Hp) (σ : L2.St) (Q : ρ → Hp → Prop), Fm F O H → Er cf.K F O σ G → m ≠ .bad →
    (∀ a r F' H', m = .ok a → Le F F' → Fm F' O H' → rel F' O H' r a → Q r H') →
    (∀ c p d F' H', m = .er c p → Le F F' → Fm F' O H' → F' d = some (xdO cf c p) → E (.ref (cf.cls c)) (some d) H') → t σ H Q
section
variable (cf : Cf)
/-- never changed data -/
def RM {α : Type} [Enc α] (F O H : Hp) (v : V) (a : α) : Prop := Dr cf.K F v (toD a)
def RB (F O H : Hp) (b : Bool) (a : Bool) : Prop := b = a
def RA (F O H : Hp) (vs : List V) (ds : List Dt) : Prop := DrA cf.K F vs ds
def RO (F O H : Hp) (o : Option Int) (a : Option Int) : Prop := o = a
/-- a list that may be read -/
def RL {α : Type} [Enc α] (F O H : Hp) (v : V) (xs : List α) : Prop := ∃ a vs, v = .ref a ∧ (F a = some (.lst vs) ∨ O a = some (.lst vs)) ∧ DrA cf.K F vs (xs.map toD)
/-- .. or the script -/
def RS {α : Type} [Enc α] (F O H : Hp) (v : V) (xs : List α) : Prop := ∃ a vs, v = .ref a ∧ (SqL cf.K F a vs ∨ O a = some (.lst vs)) ∧ DrA cf.K F vs (xs.map toD)
/-- a new list that nobody owns -/
def RF {α : Type} [Enc α] (F O H : Hp) (v : V) (xs : List α) : Prop := ∃ a vs, v = .ref a ∧ F a = none ∧ O a = none ∧ H a = some (.lst vs) ∧ DrA cf.K F vs (xs.map toD)
abbrev EM {α : Type} [Enc α] (E : XK) (t : TE) (G : List Sl) (m : R α) : Prop := EG cf E t G m (RM cf)
abbrev EB (E : XK) (t : TT) (G : List Sl) (m : R Bool) : Prop := EG cf E t G m RB
abbrev EA (E : XK) (t : TA) (G : List Sl) (m : R (List Dt)) : Prop := EG cf E t G m (RA cf)
abbrev EO (E : XK) (t : TO) (G : List Sl) (m : R (Option Int)) : Prop := EG cf E t G m RO
abbrev EL {α : Type} [Enc α] (E : XK) (t : TE) (G : List Sl) (m : R (List α)) : Prop := EG cf E t G m (RL cf)
abbrev ES {α : Type} [Enc α] (E : XK) (t : TE) (G : List Sl) (m : R (List α)) : Prop := EG cf E t G m (RS cf)
abbrev EF {α : Type} [Enc α] (E : XK) (t : TE) (G : List Sl) (m : R (List α)) : Prop := EG cf E t G m (RF cf)
end
section
variable {cf : Cf} {E : XK} {G : List Sl} {α β γ ρ τ : Type}
/-- one reading, then another -/
theorem EG.bind {t : L2.St → Hp → (ρ → Hp → Prop) → Prop} {u : ρ → L2.St → Hp → (τ → Hp → Prop) → Prop} {m : R α} {f : α → R β} {rel : Hp → Hp → Hp → ρ → α → Prop} {rel' : Hp → Hp → Hp → τ → β → Prop}
    (h : EG cf E t G m rel) (k : ∀ (F O H : Hp) (σ : L2.St) (Q : τ → Hp → Prop) (a : α) (r : ρ), Fm F O H → Er cf.K F O σ G → rel F O H r a → f a ≠ .bad →
      (∀ b r' F' H', f a = .ok b → Le F F' → Fm F' O H' → rel' F' O H' r' b → Q r' H') →
      (∀ c p d F' H', f a = .er c p → Le F F' → Fm F' O H' → F' d = some (xdO cf c p) → E (.ref (cf.cls c)) (some d) H') → u r σ H Q) :
    EG cf E (fun σ H Q => t σ H fun r H1 => u r σ H1 Q) G (m.bind f) rel' := fun F O H σ Q hf he nb ko ke => by
  refine h F O H σ _ hf he (R.bind_nb nb) (fun a r F' H' ea le hf' hr => ?_) (fun c p d F' H' ea le hf' hd => ke c p d F' H' (by rw [ea]; rfl) le hf' hd)
  subst ea
  exact k F' O H' σ Q a r hf' (he.mono le) hr nb (fun b r' F'' H'' e le' => ko b r' F'' H'' e (le.trans le')) (fun c p d F'' H'' e le' => ke c p d F'' H'' e (le.trans le'))
theorem EG.imp {t : L2.St → Hp → (ρ → Hp → Prop) → Prop} {m : R α} {rel rel' : Hp → Hp → Hp → ρ → α → Prop} (h : EG cf E t G m rel) (w : ∀ F O H r a, Fm F O H → rel F O H r a → rel' F O H r a) : EG cf E t G m rel' :=
  fun F O H σ Q hf he nb ko ke => h F O H σ Q hf he nb (fun a r F' H' e le hf' hr => ko a r F' H' e le hf' (w F' O H' r a hf' hr)) ke
/-- conclude a reading that gives a value at once -/
theorem EG.fin {t : L2.St → Hp → (ρ → Hp → Prop) → Prop} {a : α} {rel : Hp → Hp → Hp → ρ → α → Prop} (h : ∀ (F O H : Hp) (σ : L2.St) (Q : ρ → Hp → Prop), Fm F O H → Er cf.K F O σ G → (∀ r F' H', Le F F' → Fm F' O H' → rel F' O H' r a → Q r H') → t σ H Q) : EG cf E t G (.ok a) rel :=
  fun F O H σ Q hf he _ ko _ => h F O H σ Q hf he fun r F' H' le hf' hr => ko a r F' H' rfl le hf' hr
theorem EG.cast {t : L2.St → Hp → (ρ → Hp → Prop) → Prop} {m n : R α} {rel : Hp → Hp → Hp → ρ → α → Prop} (h : EG cf E t G m rel) (e : m = n) : EG cf E t G n rel := e ▸ h
/-- a fresh list is let go: data -/
theorem EF.toM [Enc α] {t : TE} {m : R (List α)} (h : EF cf E t G m) : EM cf E t G m := fun F O H σ Q hf he nb ko ke => by
  refine h F O H σ Q hf he nb (fun xs v F' H' e le hf' hr => ?_) ke
  obtain ⟨a, vs, rfl, hFa, hOa, hHa, r⟩ := hr
  have le2 : Le F' (upd F' a (.lst vs)) := Le.new hFa
  refine ko xs _ (upd F' a (.lst vs)) H' e (le.trans le2) ⟨fun b o q => ?_, hf'.o, fun b q => ?_⟩ (.lst upd_same (r.mono le2))
  · by_cases hb : b = a
    · subst hb
      rw [upd_same] at q
      rw [hHa]
      exact q
    · rw [upd_ne hb] at q
      exact hf'.f b o q
  · by_cases hb : b = a
    · subst hb
      exact hOa
    · rw [upd_ne hb] at q
      exact hf'.ds b q
theorem EM.toL [Enc α] {t : TE} {m : R (List α)} (h : EM cf E t G m) : EL cf E t G m := EG.imp h fun F O H v xs _ r => by
  obtain ⟨a, vs, e, h1, h2⟩ := dr_lst r
  exact ⟨a, vs, e, .inl h1, h2⟩
theorem EL.toS [Enc α] {t : TE} {m : R (List α)} (h : EL cf E t G m) : ES cf E t G m := EG.imp h fun F O H v xs _ r => by
  obtain ⟨a, vs, e, h1, h2⟩ := r
  rcases h1 with h1 | h1
  · exact ⟨a, vs, e, .inl (SqL.of h1), h2⟩
  · exact ⟨a, vs, e, .inr h1, h2⟩
theorem EM.toS [Enc α] {t : TE} {m : R (List α)} (h : EM cf E t G m) : ES cf E t G m := EL.toS (EM.toL h)
theorem EF.toL [Enc α] {t : TE} {m : R (List α)} (h : EF cf E t G m) : EL cf E t G m := EM.toL (EF.toM h)
theorem EF.toS [Enc α] {t : TE} {m : R (List α)} (h : EF cf E t G m) : ES cf E t G m := EM.toS (EF.toM h)
theorem drA_ints {K : PySem.W.Frag} {F : Hp} : ∀ ns : List Int, DrA K F (ns.map V.int) (ns.map toD)
  | [] => .nil
  | n :: r => .cons (.int n) (drA_ints r)
theorem ints_of_drA {K : PySem.W.Frag} {F : Hp} : ∀ {ns : List Int} {vs : List V}, DrA K F vs (ns.map toD) → vs = ns.map V.int
  | [], _, h => by rw [drA_nil h]; rfl
  | n :: r, _, h => by
    obtain ⟨v, q, rfl, h1, h2⟩ := drA_cons h
    rw [ints_of_drA h2, dr_int (i := n) h1]
    rfl
theorem bls_of_drA {K : PySem.W.Frag} {F : Hp} : ∀ {ns : List Bool} {vs : List V}, DrA K F vs (ns.map toD) → vs = ns.map V.bl
  | [], _, h => by rw [drA_nil h]; rfl
  | n :: r, _, h => by
    obtain ⟨v, q, rfl, h1, h2⟩ := drA_cons h
    rw [bls_of_drA h2, dr_bl (i := n) h1]
    rfl
/-- the script as a list of ints -/
theorem EM.scr {t : TE} {m : R Scr} (h : EM cf E t G m) : ES cf E t G (m.bind fun s => .ok s.ns) := fun F O H σ Q hf he nb ko ke => by
  refine h F O H σ Q hf he (R.bind_nb nb) (fun s v F' H' e le hf' hr => ?_) (fun c p d F' H' e => ke c p d F' H' (by rw [e]; rfl))
  obtain ⟨a, ea, hs⟩ := dr_scr (ns := s.ns) hr
  exact ko s.ns _ F' H' (by rw [e]; rfl) le hf' ⟨a, _, ea, .inl hs, drA_ints s.ns⟩

/-! ### names, constants -/
theorem em_var [Enc α] (i : Nat) (a : α) (h : G[i]? = some (.va (toD a))) : EM cf E (tVar i) G (.ok a) := EG.fin fun F O H σ Q hf he ko => by
  obtain ⟨v, e, r⟩ := he.at' i _ h
  exact ⟨v, e, ko v F H (Le.refl F) hf r⟩
theorem el_own [Enc α] (i : Nat) (xs : List α) (h : G[i]? = some (.ol (xs.map toD))) : EL cf E (tVar i) G (.ok xs) := EG.fin fun F O H σ Q hf he ko => by
  obtain ⟨a, vs, e, h1, r⟩ := he.at' i _ h
  exact ⟨_, e, ko _ F H (Le.refl F) hf ⟨a, vs, rfl, .inr h1, r⟩⟩
theorem em_int (i : Int) : EM cf E (tC (.int i)) G (.ok i) := EG.fin fun F O H σ Q hf he ko => ko _ F H (Le.refl F) hf (.int i)
theorem em_bl (i : Bool) : EM cf E (tC (.bl i)) G (.ok i) := EG.fin fun F O H σ Q hf he ko => ko _ F H (Le.refl F) hf (.bl i)
theorem em_str (i : Str) : EM cf E (tC (.str i)) G (.ok i) := EG.fin fun F O H σ Q hf he ko => ko _ F H (Le.refl F) hf (.str i)
theorem em_none [Enc α] : EM cf E (tC .non) G (.ok (none : Option α)) := EG.fin fun F O H σ Q hf he ko => ko _ F H (Le.refl F) hf .non
theorem em_unit : EM cf E (tC .non) G (.ok ()) := EG.fin fun F O H σ Q hf he ko => ko _ F H (Le.refl F) hf .non
/-- a value where a value or None may be -/
theorem EM.just [Enc α] {t : TE} {m : R α} (h : EM cf E t G m) : EM cf E t G (m.bind fun a => .ok (some a)) := fun F O H σ Q hf he nb ko ke =>
  h F O H σ Q hf he (R.bind_nb nb) (fun a v F' H' e le hf' hr => ko (some a) v F' H' (by rw [e]; rfl) le hf' hr) (fun c p d F' H' e => ke c p d F' H' (by rw [e]; rfl))
theorem EM.inl [Enc α] [Enc β] {t : TE} {m : R α} (h : EM cf E t G m) : EM cf E t G (m.bind fun a => .ok (Sum.inl a : α ⊕ β)) := fun F O H σ Q hf he nb ko ke =>
  h F O H σ Q hf he (R.bind_nb nb) (fun a v F' H' e le hf' hr => ko (.inl a) v F' H' (by rw [e]; rfl) le hf' hr) (fun c p d F' H' e => ke c p d F' H' (by rw [e]; rfl))
theorem EM.inr [Enc α] [Enc β] {t : TE} {m : R β} (h : EM cf E t G m) : EM cf E t G (m.bind fun a => .ok (Sum.inr a : α ⊕ β)) := fun F O H σ Q hf he nb ko ke =>
  h F O H σ Q hf he (R.bind_nb nb) (fun a v F' H' e le hf' hr => ko (.inr a) v F' H' (by rw [e]; rfl) le hf' hr) (fun c p d F' H' e => ke c p d F' H' (by rw [e]; rfl))
end
end Kr

/-! KrB: operators, calls of built-ins, lists, tuples by data. -/
namespace Kr
open PySem PySem.Spec PyProof.Rows L2
open Enc (toD)

section
variable {cf : Cf} {E : XK} {G : List Sl} {α β γ δ ρ ρ' τ : Type}
theorem EG.bind2 {t1 : L2.St → Hp → (ρ → Hp → Prop) → Prop} {t2 : L2.St → Hp → (ρ' → Hp → Prop) → Prop} {m1 : R α} {m2 : R β} {f : α → β → R γ} {rel1 : Hp → Hp → Hp → ρ → α → Prop} {rel2 : Hp → Hp → Hp → ρ' → β → Prop} {rel3 : Hp → Hp → Hp → τ → γ → Prop}
    {u : ρ → ρ' → Hp → (τ → Hp → Prop) → Prop} (h1 : EG cf E t1 G m1 rel1) (h2 : EG cf E t2 G m2 rel2) (mono : ∀ F O H F' H' r a, Le F F' → Fm F' O H' → rel1 F O H r a → rel1 F' O H' r a)
    (k : ∀ (F O H : Hp) (Q : τ → Hp → Prop) (a : α) (r : ρ) (b : β) (s : ρ'), Fm F O H → rel1 F O H r a → rel2 F O H s b → f a b ≠ .bad → (∀ c x F' H', f a b = .ok c → Le F F' → Fm F' O H' → rel3 F' O H' x c → Q x H') → u r s H Q) :
    EG cf E (fun σ H Q => t1 σ H fun r H1 => t2 σ H1 fun s H2 => u r s H2 Q) G (m1.bind fun a => m2.bind fun b => f a b) rel3 :=
  EG.bind (u := fun r σ H Q => t2 σ H fun s H2 => u r s H2 Q) h1 fun F O H σ Q a r hf he hr nb ko ke =>
    h2 F O H σ _ hf he (R.bind_nb nb) (fun b s F' H' eb le hf' hs => k F' O H' Q a r b s hf' (mono F O H F' H' r a le hf' hr) hs (by rw [eb] at nb; exact nb) fun c x F'' H'' e le' => ko c x F'' H'' (by rw [eb]; exact e) (le.trans le'))
      fun c p d F' H' e => ke c p d F' H' (by rw [e]; rfl)
/-- one reading, then a step that raises nothing -/
theorem EG.bind1 {t1 : L2.St → Hp → (ρ → Hp → Prop) → Prop} {m1 : R α} {f : α → R γ} {rel1 : Hp → Hp → Hp → ρ → α → Prop} {rel3 : Hp → Hp → Hp → τ → γ → Prop}
    {u : ρ → Hp → (τ → Hp → Prop) → Prop} (h1 : EG cf E t1 G m1 rel1)
    (k : ∀ (F O H : Hp) (Q : τ → Hp → Prop) (a : α) (r : ρ), Fm F O H → rel1 F O H r a → f a ≠ .bad → (∀ c x F' H', f a = .ok c → Le F F' → Fm F' O H' → rel3 F' O H' x c → Q x H') → u r H Q) :
    EG cf E (fun σ H Q => t1 σ H fun r H1 => u r H1 Q) G (m1.bind f) rel3 :=
  EG.bind (u := fun r σ H Q => u r H Q) h1 fun F O H σ Q a r hf he hr nb ko ke => k F O H Q a r hf hr nb ko
theorem EG.bind3 {ρ'' : Type} {t1 : L2.St → Hp → (ρ → Hp → Prop) → Prop} {t2 : L2.St → Hp → (ρ' → Hp → Prop) → Prop} {t3 : L2.St → Hp → (ρ'' → Hp → Prop) → Prop} {m1 : R α} {m2 : R β} {m3 : R γ} {f : α → β → γ → R δ}
    {rel1 : Hp → Hp → Hp → ρ → α → Prop} {rel2 : Hp → Hp → Hp → ρ' → β → Prop} {rel3 : Hp → Hp → Hp → ρ'' → γ → Prop} {rel4 : Hp → Hp → Hp → τ → δ → Prop}
    {u : ρ → ρ' → ρ'' → Hp → (τ → Hp → Prop) → Prop} (h1 : EG cf E t1 G m1 rel1) (h2 : EG cf E t2 G m2 rel2) (h3 : EG cf E t3 G m3 rel3)
    (mono1 : ∀ F O H F' H' r a, Le F F' → Fm F' O H' → rel1 F O H r a → rel1 F' O H' r a) (mono2 : ∀ F O H F' H' r a, Le F F' → Fm F' O H' → rel2 F O H r a → rel2 F' O H' r a)
    (k : ∀ (F O H : Hp) (Q : τ → Hp → Prop) (a : α) (r : ρ) (b : β) (s : ρ') (c : γ) (t : ρ''), Fm F O H → rel1 F O H r a → rel2 F O H s b → rel3 F O H t c → f a b c ≠ .bad → (∀ d x F' H', f a b c = .ok d → Le F F' → Fm F' O H' → rel4 F' O H' x d → Q x H') → u r s t H Q) :
    EG cf E (fun σ H Q => t1 σ H fun r H1 => t2 σ H1 fun s H2 => t3 σ H2 fun t H3 => u r s t H3 Q) G (m1.bind fun a => m2.bind fun b => m3.bind fun c => f a b c) rel4 :=
  EG.bind (u := fun r σ H Q => t2 σ H fun s H2 => t3 σ H2 fun t H3 => u r s t H3 Q) h1 fun F O H σ Q a r hf he hr nb ko ke =>
    h2 F O H σ _ hf he (R.bind_nb nb) (fun b s F' H' eb le hf' hs => by
      rw [eb, R.ok_bind] at nb ko ke
      exact h3 F' O H' σ _ hf' (he.mono le) (R.bind_nb nb) (fun c t F'' H'' ec le' hf'' ht => k F'' O H'' Q a r b s c t hf'' (mono1 F O H F'' H'' r a (le.trans le') hf'' hr) (mono2 F' O H' F'' H'' s b le' hf'' hs) ht (by rw [ec] at nb; exact nb)
        fun d x F3 H3 e le3 => ko d x F3 H3 (by rw [ec]; exact e) ((le.trans le').trans le3)) fun c p d F'' H'' e le' => ke c p d F'' H'' (by rw [e]; rfl) (le.trans le'))
      fun c p d F' H' e => ke c p d F' H' (by rw [e]; rfl)
theorem rm_mono [Enc α] (F O H F' H' : Hp) (r : V) (a : α) (le : Le F F') (_ : Fm F' O H') (h : RM cf F O H r a) : RM cf F' O H' r a := Dr.mono le h
theorem rl_mono [Enc α] (F O H F' H' : Hp) (r : V) (a : List α) (le : Le F F') (_ : Fm F' O H') (h : RL cf F O H r a) : RL cf F' O H' r a := by
  obtain ⟨a, vs, e, h1, h2⟩ := h
  exact ⟨a, vs, e, h1.imp (le _ _) id, h2.mono le⟩
theorem rs_mono [Enc α] (F O H F' H' : Hp) (r : V) (a : List α) (le : Le F F') (_ : Fm F' O H') (h : RS cf F O H r a) : RS cf F' O H' r a := by
  obtain ⟨a, vs, e, h1, h2⟩ := h
  exact ⟨a, vs, e, h1.imp le.seq id, h2.mono le⟩
theorem RS.seq [Enc α] {F O H : Hp} {v : V} {xs : List α} (h : RS cf F O H v xs) (hf : Fm F O H) : ∃ a vs, v = .ref a ∧ SqL cf.K H a vs ∧ DrA cf.K F vs (xs.map toD) := by
  obtain ⟨a, vs, e, h1, h2⟩ := h
  rcases h1 with h1 | h1
  · exact ⟨a, vs, e, hf.f.seq h1, h2⟩
  · exact ⟨a, vs, e, SqL.of (hf.o _ _ h1), h2⟩
theorem RL.at [Enc α] {F O H : Hp} {v : V} {xs : List α} (h : RL cf F O H v xs) (hf : Fm F O H) : ∃ a vs, v = .ref a ∧ H a = some (.lst vs) ∧ DrA cf.K F vs (xs.map toD) := by
  obtain ⟨a, vs, e, h1, h2⟩ := h
  rcases h1 with h1 | h1
  · exact ⟨a, vs, e, hf.f _ _ h1, h2⟩
  · exact ⟨a, vs, e, hf.o _ _ h1, h2⟩

/-! ### numbers -/
variable {ta tb tc : TE}
theorem em_I0 {g : Int → Int → Int} {ma mb : R Int} (ha : EM cf E ta G ma) (hb : EM cf E tb G mb) : EM cf E (tOp (rI0 fun i j => .int (g i j)) ta tb) G (ma.bind fun a => mb.bind fun b => .ok (g a b)) :=
  EG.bind2 (u := fun x y H Q => rI0 (fun i j => .int (g i j)) x y H Q) ha hb rm_mono fun F O H Q a r b s hf h1 h2 _ ko => ⟨a, b, dr_int h1, dr_int h2, ko _ _ F H rfl (Le.refl F) hf (.int _)⟩
theorem em_B0 {g : Int → Int → Bool} {ma mb : R Int} (ha : EM cf E ta G ma) (hb : EM cf E tb G mb) : EM cf E (tOp (rI0 fun i j => .bl (g i j)) ta tb) G (ma.bind fun a => mb.bind fun b => .ok (g a b)) :=
  EG.bind2 (u := fun x y H Q => rI0 (fun i j => .bl (g i j)) x y H Q) ha hb rm_mono fun F O H Q a r b s hf h1 h2 _ ko => ⟨a, b, dr_int h1, dr_int h2, ko _ _ F H rfl (Le.refl F) hf (.bl _)⟩
/-- an operation on two ints under a condition -/
theorem em_IC {C : Int → Int → Prop} {g : Int → Int → Int} {f : Int → Int → R Int} (hC : ∀ a b, f a b ≠ .bad → C a b ∧ f a b = .ok (g a b)) {ma mb : R Int} (ha : EM cf E ta G ma) (hb : EM cf E tb G mb) :
    EM cf E (tOp (rI C fun i j => .int (g i j)) ta tb) G (ma.bind fun a => mb.bind fun b => f a b) :=
  EG.bind2 (u := fun x y H Q => rI C (fun i j => .int (g i j)) x y H Q) ha hb rm_mono fun F O H Q a r b s hf h1 h2 nb ko => ⟨a, b, dr_int h1, dr_int h2, (hC a b nb).1, ko _ _ F H (hC a b nb).2 (Le.refl F) hf (.int _)⟩
theorem em_neg {ma : R Int} (ha : EM cf E ta G ma) : EM cf E (tUn (rU fun i => .int (-i)) ta) G (ma.bind fun a => .ok (-a)) :=
  EG.bind1 (u := fun x H Q => rU (fun i => .int (-i)) x H Q) ha fun F O H Q a r hf h1 _ ko => ⟨a, dr_int h1, ko _ _ F H rfl (Le.refl F) hf (.int _)⟩
/-- * -/
def mulR (a b : Int) : R Int := if (Builtin.Int.intBits a : Int) + (Builtin.Int.intBits b : Int) ≤ 134217728 then .ok (a * b) else .bad
def divR (a b : Int) : R Int := if 0 < b ∧ b.natAbs.log2 < 9000 then .ok (a / b) else .bad
def modR (a b : Int) : R Int := if 0 < b then .ok (a % b) else .bad
def shlR (a b : Int) : R Int := if 0 ≤ b ∧ (Builtin.Int.intBits a : Int) + b ≤ 134217728 then .ok (a * 2 ^ b.toNat) else .bad
def shrR (a b : Int) : R Int := if 0 ≤ b then .ok (a / 2 ^ b.toNat) else .bad
theorem em_mul {ma mb : R Int} (ha : EM cf E ta G ma) (hb : EM cf E tb G mb) : EM cf E (tOp (rI CMulX fun i j => .int (i * j)) ta tb) G (ma.bind fun a => mb.bind fun b => mulR a b) := em_IC (f := mulR) (g := fun a b => a * b) (fun a b h => by
  unfold mulR at *
  split at h
  · rename_i c
    rw [if_pos c]
    exact ⟨c, rfl⟩
  · exact absurd rfl h) ha hb
theorem em_div {ma mb : R Int} (ha : EM cf E ta G ma) (hb : EM cf E tb G mb) : EM cf E (tOp (rI CDivW fun i j => .int (i / j)) ta tb) G (ma.bind fun a => mb.bind fun b => divR a b) := em_IC (f := divR) (g := fun a b => a / b) (fun a b h => by
  unfold divR at *
  split at h
  · rename_i c
    rw [if_pos c]
    exact ⟨c, rfl⟩
  · exact absurd rfl h) ha hb
theorem em_mod {ma mb : R Int} (ha : EM cf E ta G ma) (hb : EM cf E tb G mb) : EM cf E (tOp (rI (fun _ j => 0 < j) fun i j => .int (i % j)) ta tb) G (ma.bind fun a => mb.bind fun b => modR a b) := em_IC (f := modR) (g := fun a b => a % b) (fun a b h => by
  unfold modR at *
  split at h
  · rename_i c
    rw [if_pos c]
    exact ⟨c, rfl⟩
  · exact absurd rfl h) ha hb
theorem em_shl {ma mb : R Int} (ha : EM cf E ta G ma) (hb : EM cf E tb G mb) : EM cf E (tOp (rI CShl fun i j => .int (i * 2 ^ j.toNat)) ta tb) G (ma.bind fun a => mb.bind fun b => shlR a b) := em_IC (f := shlR) (g := fun a b => a * 2 ^ b.toNat) (fun a b h => by
  unfold shlR at *
  split at h
  · rename_i c
    rw [if_pos c]
    exact ⟨c, rfl⟩
  · exact absurd rfl h) ha hb
theorem em_shr {ma mb : R Int} (ha : EM cf E ta G ma) (hb : EM cf E tb G mb) : EM cf E (tOp (rI (fun _ j => 0 ≤ j) fun i j => .int (i / 2 ^ j.toNat)) ta tb) G (ma.bind fun a => mb.bind fun b => shrR a b) := em_IC (f := shrR) (g := fun a b => a / 2 ^ b.toNat) (fun a b h => by
  unfold shrR at *
  split at h
  · rename_i c
    rw [if_pos c]
    exact ⟨c, rfl⟩
  · exact absurd rfl h) ha hb
theorem em_bits {ma : R Int} (ha : EM cf E ta G ma) : EM cf E (tBits ta) G (ma.bind fun a => .ok ((Builtin.Int.intBits a : Nat) : Int)) :=
  EG.bind1 (u := fun (x : V) H Q => ∃ i, x = .int i ∧ Q (V.int (Builtin.Int.intBits i : Nat)) H) ha fun F O H Q a r hf h1 _ ko => ⟨a, dr_int h1, ko _ _ F H rfl (Le.refl F) hf (.int _)⟩

/-! ### comparisons of scalars, None, tests -/
theorem dr_scal {K : PySem.W.Frag} {F : Hp} {i : Int} {v : V} (h : Dr K F v (.int i)) : v = .int i := dr_int h
theorem em_eqI {ma mb : R Int} (ha : EM cf E ta G ma) (hb : EM cf E tb G mb) : EM cf E (tOp rEq ta tb) G (ma.bind fun a => mb.bind fun b => .ok (decide (a = b))) :=
  EG.bind2 (u := fun x y H Q => rEq x y H Q) ha hb rm_mono fun F O H Q a r b s hf h1 h2 _ ko => by
    rw [dr_int (i := a) h1, dr_int (i := b) h2]
    refine ⟨rfl, ?_⟩
    rw [show decide (V.int a = V.int b) = decide (a = b) by by_cases e : a = b <;> simp [e]]
    exact ko _ _ F H rfl (Le.refl F) hf (.bl _)
theorem em_neI {ma mb : R Int} (ha : EM cf E ta G ma) (hb : EM cf E tb G mb) : EM cf E (tOp rNe ta tb) G (ma.bind fun a => mb.bind fun b => .ok (!decide (a = b))) :=
  EG.bind2 (u := fun x y H Q => rNe x y H Q) ha hb rm_mono fun F O H Q a r b s hf h1 h2 _ ko => by
    rw [dr_int (i := a) h1, dr_int (i := b) h2]
    refine ⟨rfl, ?_⟩
    rw [show decide (V.int a = V.int b) = decide (a = b) by by_cases e : a = b <;> simp [e]]
    exact ko _ _ F H rfl (Le.refl F) hf (.bl _)
theorem em_eqB {ma mb : R Bool} (ha : EM cf E ta G ma) (hb : EM cf E tb G mb) : EM cf E (tOp rEq ta tb) G (ma.bind fun a => mb.bind fun b => .ok (decide (a = b))) :=
  EG.bind2 (u := fun x y H Q => rEq x y H Q) ha hb rm_mono fun F O H Q a r b s hf h1 h2 _ ko => by
    rw [dr_bl (i := a) h1, dr_bl (i := b) h2]
    refine ⟨rfl, ?_⟩
    rw [show decide (V.bl a = V.bl b) = decide (a = b) by by_cases e : a = b <;> simp [e]]
    exact ko _ _ F H rfl (Le.refl F) hf (.bl _)
theorem em_neB {ma mb : R Bool} (ha : EM cf E ta G ma) (hb : EM cf E tb G mb) : EM cf E (tOp rNe ta tb) G (ma.bind fun a => mb.bind fun b => .ok (!decide (a = b))) :=
  EG.bind2 (u := fun x y H Q => rNe x y H Q) ha hb rm_mono fun F O H Q a r b s hf h1 h2 _ ko => by
    rw [dr_bl (i := a) h1, dr_bl (i := b) h2]
    refine ⟨rfl, ?_⟩
    rw [show decide (V.bl a = V.bl b) = decide (a = b) by by_cases e : a = b <;> simp [e]]
    exact ko _ _ F H rfl (Le.refl F) hf (.bl _)
theorem isNone_of [Enc α] [NN α] {K : PySem.W.Frag} {F : Hp} {v : V} {o : Option α} (h : Dr K F v (toD o)) : decide (v = .non) = o.isNone := by
  cases o with
  | none =>
    rw [dr_non h]
    rfl
  | some a =>
    refine decide_eq_false fun e => ?_
    subst e
    have h' : Dr K F .non (toD a) := h
    generalize q : toD a = d at h'
    cases h'
    exact NN.nn a q
theorem em_isN [Enc α] [NN α] {ma : R (Option α)} (ha : EM cf E ta G ma) : EM cf E (tOp (fun x y H Q => y = .non ∧ Q (.bl (decide (x = .non))) H) ta (tC .non)) G (ma.bind fun a => .ok a.isNone) :=
  EG.bind1 (u := fun (x : V) (H : Hp) (Q : VK) => (V.non = V.non ∧ Q (V.bl (decide (x = V.non))) H)) ha fun F O H Q a r hf h1 _ ko => by
    rw [isNone_of h1]
    exact ⟨rfl, ko _ _ F H rfl (Le.refl F) hf (.bl _)⟩
theorem em_notN [Enc α] [NN α] {ma : R (Option α)} (ha : EM cf E ta G ma) : EM cf E (tOp (fun x y H Q => y = .non ∧ Q (.bl (!decide (x = .non))) H) ta (tC .non)) G (ma.bind fun a => .ok a.isSome) :=
  EG.bind1 (u := fun (x : V) (H : Hp) (Q : VK) => (V.non = V.non ∧ Q (V.bl (!decide (x = V.non))) H)) ha fun F O H Q a r hf h1 _ ko => by
    rw [isNone_of h1]
    exact ⟨rfl, ko _ _ F H rfl (Le.refl F) hf (by cases a <;> exact .bl _)⟩
theorem eb_test {ma : R Bool} (ha : EM cf E ta G ma) : EB cf E (tTest ta) G ma := fun F O H σ Q hf he nb ko ke =>
  ha F O H σ _ hf he nb (fun a v F' H' e le hf' hr => ⟨a, dr_bl hr, ko a a F' H' e le hf' rfl⟩) ke
theorem eb_B {ma : R Bool} (ha : EM cf E ta G ma) : EB cf E (tB ta) G ma := fun F O H σ Q hf he nb ko ke =>
  ha F O H σ _ hf he nb (fun a v F' H' e le hf' hr => ⟨a, dr_bl hr, ko a a F' H' e le hf' rfl⟩) ke
variable {t u : TT}
theorem eb_and {ma mb : R Bool} (ha : EB cf E t G ma) (hb : EB cf E u G mb) : EB cf E (tAnd t u) G (ma.bind fun a => if a = true then mb else .ok false) :=
  EG.bind (u := fun c σ H Q => if c = true then u σ H Q else Q false H) ha fun F O H σ Q a r hf he hr nb ko ke => by
    obtain rfl : r = a := hr
    cases r with
    | true => exact hb F O H σ Q hf he nb ko ke
    | false => exact ko false false F H rfl (Le.refl F) hf rfl
theorem eb_or {ma mb : R Bool} (ha : EB cf E t G ma) (hb : EB cf E u G mb) : EB cf E (tOr t u) G (ma.bind fun a => if a = true then .ok true else mb) :=
  EG.bind (u := fun c σ H Q => if c = true then Q true H else u σ H Q) ha fun F O H σ Q a r hf he hr nb ko ke => by
    obtain rfl : r = a := hr
    cases r with
    | true => exact ko true true F H rfl (Le.refl F) hf rfl
    | false => exact hb F O H σ Q hf he nb ko ke
theorem eb_not {ma : R Bool} (ha : EB cf E t G ma) : EB cf E (tNot t) G (ma.bind fun a => .ok (!a)) :=
  EG.bind1 (u := fun c H Q => Q (!c) H) ha fun F O H Q a r hf hr _ ko => by
    obtain rfl : r = a := hr
    exact ko _ _ F H rfl (Le.refl F) hf rfl
theorem em_and {ma mb : R Bool} (ha : EM cf E ta G ma) (hb : EM cf E tb G mb) : EM cf E (tAndV ta tb) G (ma.bind fun a => if a = true then mb else .ok false) :=
  EG.bind (u := fun (x : V) σ H (Q : VK) => ∃ c, x = V.bl c ∧ if c = true then tb σ H Q else Q (.bl false) H) ha fun F O H σ Q a r hf he hr nb ko ke => ⟨a, dr_bl hr, by
    cases a with
    | true => exact hb F O H σ Q hf he nb ko ke
    | false => exact ko false _ F H rfl (Le.refl F) hf (.bl false)⟩
theorem em_or {ma mb : R Bool} (ha : EM cf E ta G ma) (hb : EM cf E tb G mb) : EM cf E (tOrV ta tb) G (ma.bind fun a => if a = true then .ok true else mb) :=
  EG.bind (u := fun (x : V) σ H (Q : VK) => ∃ c, x = V.bl c ∧ if c = true then Q (.bl true) H else tb σ H Q) ha fun F O H σ Q a r hf he hr nb ko ke => ⟨a, dr_bl hr, by
    cases a with
    | true => exact ko true _ F H rfl (Le.refl F) hf (.bl true)
    | false => exact hb F O H σ Q hf he nb ko ke⟩
theorem em_not {ma : R Bool} (ha : EM cf E ta G ma) : EM cf E (tNotV ta) G (ma.bind fun a => .ok (!a)) :=
  EG.bind1 (u := fun (x : V) H (Q : VK) => ∃ c, x = V.bl c ∧ Q (V.bl (!c)) H) ha fun F O H Q a r hf hr _ ko => ⟨a, dr_bl hr, ko _ _ F H rfl (Le.refl F) hf (.bl _)⟩
theorem em_if [Enc α] {mt : R Bool} {ma mb : R α} (ht : EB cf E t G mt) (ha : EM cf E ta G ma) (hb : EM cf E tb G mb) : EM cf E (tIf t ta tb) G (mt.bind fun c => if c = true then ma else mb) :=
  EG.bind (u := fun c σ H Q => if c = true then ta σ H Q else tb σ H Q) ht fun F O H σ Q a r hf he hr nb ko ke => by
    obtain rfl : r = a := hr
    cases r with
    | true => exact ha F O H σ Q hf he nb ko ke
    | false => exact hb F O H σ Q hf he nb ko ke
end
end Kr

/-! KrC: lists, tuples, built-in calls by data. -/
namespace Kr
open PySem PySem.Spec PyProof.Rows L2
open Enc (toD)

section
variable {cf : Cf} {E : XK} {G : List Sl} {α β γ δ : Type} {ta tb tc : TE}
/-! ### chains -/
theorem em_chain {g g' : Int → Int → Bool} {ma mb mc : R Int} (ha : EM cf E ta G ma) (hb : EM cf E tb G mb) (hc : EM cf E tc G mc) :
    EM cf E (tChain (rI0 fun i j => .bl (g i j)) (rI0 fun i j => .bl (g' i j)) ta tb tc) G (ma.bind fun a => mb.bind fun b => if g a b = true then mc.bind fun c => .ok (g' b c) else .ok false) :=
  EG.bind (u := fun x σ H Q => tb σ H fun y H2 => rI0 (fun i j => .bl (g i j)) x y H2 fun z H3 => ∃ k, z = .bl k ∧ (if k = true then tc σ H3 fun w' H4 => rI0 (fun i j => .bl (g' i j)) y w' H4 Q else Q (.bl false) H3)) ha fun F O H σ Q a x hf he hx nb ko ke =>
    hb F O H σ _ hf he (R.bind_nb nb) (fun b y F' H' eb le hf' hy => ⟨a, b, dr_int hx, dr_int hy, g a b, rfl, by
      rw [eb, R.ok_bind] at nb ko ke
      cases hg : g a b with
      | true =>
        rw [hg, if_pos rfl] at nb ko ke
        rw [if_pos rfl]
        exact hc F' O H' σ _ hf' (he.mono le) (R.bind_nb nb) (fun c w' F'' H'' ec le' hf'' hw => ⟨b, c, dr_int hy, dr_int hw, ko _ _ F'' H'' (by rw [ec]; rfl) (le.trans le') hf'' (.bl _)⟩) fun c p d F'' H'' e le' => ke c p d F'' H'' (by rw [e]; rfl) (le.trans le')
      | false =>
        rw [hg, if_neg Bool.false_ne_true] at ko
        rw [if_neg Bool.false_ne_true]
        exact ko _ _ F' H' rfl le hf' (.bl _)⟩) fun c p d F' H' e => ke c p d F' H' (by rw [e]; rfl)

/-! ### arguments, displays -/
theorem ea_nil : EA cf E tNil G (.ok []) := EG.fin fun F O H σ Q hf he ko => ko _ F H (Le.refl F) hf .nil
theorem ea_cons [Enc α] {t : TE} {tr : TA} {m : R α} {mr : R (List Dt)} (h : EM cf E t G m) (hr : EA cf E tr G mr) : EA cf E (tCons t tr) G (m.bind fun a => mr.bind fun ds => .ok (toD a :: ds)) :=
  EG.bind2 (u := fun x xs H Q => Q (x :: xs) H) h hr rm_mono fun F O H Q a r b s hf h1 h2 _ ko => ko _ _ F H rfl (Le.refl F) hf (.cons h1 h2)
/-- arguments of one type -/
def EAs [Enc α] (cf : Cf) (E : XK) (t : TA) (G : List Sl) (m : R (List α)) : Prop := EG cf E t G m fun F _ _ vs xs => DrA cf.K F vs (xs.map toD)
theorem eas_nil [Enc α] : EAs cf E tNil G (.ok ([] : List α)) := EG.fin fun F O H σ Q hf he ko => ko _ F H (Le.refl F) hf .nil
theorem eas_cons [Enc α] {t : TE} {tr : TA} {m : R α} {mr : R (List α)} (h : EM cf E t G m) (hr : EAs cf E tr G mr) : EAs cf E (tCons t tr) G (m.bind fun a => mr.bind fun ds => .ok (a :: ds)) :=
  EG.bind2 (u := fun x xs H Q => Q (x :: xs) H) h hr rm_mono fun F O H Q a r b s hf h1 h2 _ ko => ko _ _ F H rfl (Le.refl F) hf (.cons h1 h2)
theorem sz_of {n : Nat} (h : n ≤ 100000) : n ≤ sizeLine := Nat.le_trans h (by decide)
theorem sz_lt {n : Nat} (h : n < 100000) : n < sizeLine := Nat.lt_of_lt_of_le h (by decide)
/-- a list that does not grow too long -/
def szR (xs : List α) : R (List α) := if xs.length ≤ 1000000 then .ok xs else .bad
theorem szR_ok {xs : List α} (h : xs.length ≤ 1000000) : szR xs = .ok xs := if_pos h
theorem szR_nb {xs : List α} (h : szR xs ≠ .bad) : xs.length ≤ 1000000 ∧ szR xs = .ok xs := by
  unfold szR at *
  split at h
  · rename_i c
    exact ⟨c, if_pos c⟩
  · exact absurd rfl h
theorem sz_le {n : Nat} (h : n ≤ 1000000) : n ≤ sizeLine := Nat.le_trans h (by decide)
theorem sz_ltM {n : Nat} (h : n ≤ 1000000) : n < sizeLine := Nat.lt_of_le_of_lt h (by decide)
theorem ef_lst [Enc α] {t : TA} {m : R (List α)} (h : EAs cf E t G m) : EF cf E (tLst t) G (m.bind szR) :=
  EG.bind1 (u := fun (vs : List V) (H : Hp) (Q : VK) => vs.length ≤ sizeLine ∧ ∀ p, H p = none → Q (.ref p) (upd H p (.lst vs))) h fun F O H Q a r hf h1 nb ko => by
    obtain ⟨c, e⟩ := szR_nb nb
    refine ⟨?_, fun p hp => ko _ _ F _ e (Le.refl F) (hf.newH hp) ⟨p, r, rfl, hf.fnone hp, hf.onone hp, upd_same, h1⟩⟩
    rw [DrA.length h1, List.length_map]
    exact sz_le c
theorem em_tup2 [Enc α] [Enc β] {m : R α} {n : R β} (h : EM cf E ta G m) (h' : EM cf E tb G n) : EM cf E (tTup (tCons ta (tCons tb tNil))) G (m.bind fun a => n.bind fun b => .ok (a, b)) :=
  EG.bind2 (u := fun (x y : V) (H : Hp) (Q : VK) => 2 ≤ sizeLine ∧ ∀ p, H p = none → Q (.ref p) (upd H p (.tup [x, y]))) h h' rm_mono fun F O H Q a r b s hf h1 h2 _ ko =>
    ⟨by decide, fun p hp => ko _ _ (upd F p (.tup [r, s])) _ rfl (Le.new (hf.fnone hp)) (hf.newF hp) (.tup upd_same (.cons (Dr.mono (Le.new (hf.fnone hp)) h1) (.cons (Dr.mono (Le.new (hf.fnone hp)) h2) .nil)))⟩
theorem em_tup3 [Enc α] [Enc β] [Enc γ] {m : R α} {n : R β} {l : R γ} (h : EM cf E ta G m) (h' : EM cf E tb G n) (h'' : EM cf E tc G l) : EM cf E (tTup (tCons ta (tCons tb (tCons tc tNil)))) G (m.bind fun a => n.bind fun b => l.bind fun c => .ok (T3.mk a b c)) :=
  EG.bind3 (u := fun (x y z : V) (H : Hp) (Q : VK) => 3 ≤ sizeLine ∧ ∀ p, H p = none → Q (.ref p) (upd H p (.tup [x, y, z]))) h h' h'' rm_mono rm_mono fun F O H Q a r b s c t hf h1 h2 h3 _ ko =>
    ⟨by decide, fun p hp => ko _ _ (upd F p (.tup [r, s, t])) _ rfl (Le.new (hf.fnone hp)) (hf.newF hp) (.tup upd_same (.cons (Dr.mono (Le.new (hf.fnone hp)) h1) (.cons (Dr.mono (Le.new (hf.fnone hp)) h2) (.cons (Dr.mono (Le.new (hf.fnone hp)) h3) .nil))))⟩

/-! ### subscripts, slices -/
def idxR (xs : List α) (i : Int) : R α := match atI xs i with
  | some a => .ok a
  | none => .bad
theorem atI_map {β : Type} (f : α → β) (xs : List α) (i : Int) : atI (xs.map f) i = (atI xs i).map f := by
  unfold atI
  rw [List.length_map]
  cases ixN xs.length i with
  | none => rfl
  | some j => simp
theorem atI_drA {K : PySem.W.Frag} {F : Hp} {vs : List V} {ds : List Dt} {i : Int} {d : Dt} (h : DrA K F vs ds) (e : atI ds i = some d) : ∃ v, atI vs i = some v ∧ Dr K F v d := by
  unfold atI at *
  rw [h.length]
  cases q : ixN ds.length i with
  | none =>
    rw [q] at e
    cases e
  | some j =>
    rw [q] at e
    exact h.get e
theorem em_ixL [Enc α] {m : R (List α)} {n : R Int} (h : ES cf E ta G m) (h' : EM cf E tb G n) : EM cf E (tOp (rIxL cf.K) ta tb) G (m.bind fun xs => n.bind fun i => idxR xs i) :=
  EG.bind2 (u := fun x y H Q => rIxL cf.K x y H Q) h h' rs_mono fun F O H Q xs r i s hf h1 h2 nb ko => by
    obtain ⟨a, vs, e, hs, hr⟩ := RS.seq h1 hf
    unfold idxR at nb ko
    cases q : atI xs i with
    | none =>
      rw [q] at nb
      exact absurd rfl nb
    | some x =>
      rw [q] at ko
      obtain ⟨v, ev, rv⟩ := atI_drA hr (show atI (xs.map toD) i = some (toD x) by rw [atI_map, q]; rfl)
      exact ⟨a, vs, i, v, e, dr_int h2, hs, ev, ko x v F H rfl (Le.refl F) hf rv⟩
theorem em_fst [Enc α] [Enc β] {m : R (α × β)} (h : EM cf E ta G m) : EM cf E (tOp (rIxT cf.K) ta (tC (.int 0))) G (m.bind fun p => .ok p.1) :=
  EG.bind1 (u := fun x H Q => rIxT cf.K x (.int 0) H Q) h fun F O H Q a r hf h1 _ ko => by
    obtain ⟨p, vs, e, ht, hr⟩ := dr_tup (ds := [toD a.1, toD a.2]) h1
    obtain ⟨v, ev, rv⟩ := atI_drA hr (show atI [toD a.1, toD a.2] 0 = some (toD a.1) from rfl)
    exact ⟨p, vs, 0, v, e, rfl, SqT.of (hf.f _ _ ht), ev, ko _ v F H rfl (Le.refl F) hf rv⟩
theorem em_snd [Enc α] [Enc β] {m : R (α × β)} (h : EM cf E ta G m) : EM cf E (tOp (rIxT cf.K) ta (tC (.int 1))) G (m.bind fun p => .ok p.2) :=
  EG.bind1 (u := fun x H Q => rIxT cf.K x (.int 1) H Q) h fun F O H Q a r hf h1 _ ko => by
    obtain ⟨p, vs, e, ht, hr⟩ := dr_tup (ds := [toD a.1, toD a.2]) h1
    obtain ⟨v, ev, rv⟩ := atI_drA hr (show atI [toD a.1, toD a.2] 1 = some (toD a.2) from rfl)
    exact ⟨p, vs, 1, v, e, rfl, SqT.of (hf.f _ _ ht), ev, ko _ v F H rfl (Le.refl F) hf rv⟩
theorem em_t30 [Enc α] [Enc β] [Enc γ] {m : R (T3 α β γ)} (h : EM cf E ta G m) : EM cf E (tOp (rIxT cf.K) ta (tC (.int 0))) G (m.bind fun p => .ok p.a) :=
  EG.bind1 (u := fun x H Q => rIxT cf.K x (.int 0) H Q) h fun F O H Q a r hf h1 _ ko => by
    obtain ⟨p, vs, e, ht, hr⟩ := dr_tup (ds := [toD a.a, toD a.b, toD a.c]) h1
    obtain ⟨v, ev, rv⟩ := atI_drA hr (show atI [toD a.a, toD a.b, toD a.c] 0 = some (toD a.a) from rfl)
    exact ⟨p, vs, 0, v, e, rfl, SqT.of (hf.f _ _ ht), ev, ko _ v F H rfl (Le.refl F) hf rv⟩
theorem em_t31 [Enc α] [Enc β] [Enc γ] {m : R (T3 α β γ)} (h : EM cf E ta G m) : EM cf E (tOp (rIxT cf.K) ta (tC (.int 1))) G (m.bind fun p => .ok p.b) :=
  EG.bind1 (u := fun x H Q => rIxT cf.K x (.int 1) H Q) h fun F O H Q a r hf h1 _ ko => by
    obtain ⟨p, vs, e, ht, hr⟩ := dr_tup (ds := [toD a.a, toD a.b, toD a.c]) h1
    obtain ⟨v, ev, rv⟩ := atI_drA hr (show atI [toD a.a, toD a.b, toD a.c] 1 = some (toD a.b) from rfl)
    exact ⟨p, vs, 1, v, e, rfl, SqT.of (hf.f _ _ ht), ev, ko _ v F H rfl (Le.refl F) hf rv⟩
theorem em_t32 [Enc α] [Enc β] [Enc γ] {m : R (T3 α β γ)} (h : EM cf E ta G m) : EM cf E (tOp (rIxT cf.K) ta (tC (.int 2))) G (m.bind fun p => .ok p.c) :=
  EG.bind1 (u := fun x H Q => rIxT cf.K x (.int 2) H Q) h fun F O H Q a r hf h1 _ ko => by
    obtain ⟨p, vs, e, ht, hr⟩ := dr_tup (ds := [toD a.a, toD a.b, toD a.c]) h1
    obtain ⟨v, ev, rv⟩ := atI_drA hr (show atI [toD a.a, toD a.b, toD a.c] 2 = some (toD a.c) from rfl)
    exact ⟨p, vs, 2, v, e, rfl, SqT.of (hf.f _ _ ht), ev, ko _ v F H rfl (Le.refl F) hf rv⟩
/-- xs[lo:hi] -/
def cut (xs : List α) (lo hi : Option Int) : List α := (xs.drop (HT.sIx xs.length 0 lo)).take (HT.sIx xs.length xs.length hi - HT.sIx xs.length 0 lo)
theorem cut_map {β : Type} (f : α → β) (xs : List α) (lo hi : Option Int) : cut (xs.map f) lo hi = (cut xs lo hi).map f := by
  unfold cut
  rw [List.length_map, List.map_take, List.map_drop]
theorem cut_drA {K : PySem.W.Frag} {F : Hp} {vs : List V} {ds : List Dt} (lo hi : Option Int) (h : DrA K F vs ds) : DrA K F (cutV vs lo hi) (cut ds lo hi) := by
  unfold cutV cut
  rw [h.length]
  exact (h.drop _).take _
theorem eo_none : EO cf E tNoPart G (.ok none) := EG.fin fun F O H σ Q hf he ko => ko _ F H (Le.refl F) hf rfl
theorem eo_some {m : R Int} (h : EM cf E ta G m) : EO cf E (tPart ta) G (m.bind fun i => .ok (some i)) :=
  EG.bind1 (u := fun (x : V) (H : Hp) (Q : Option Int → Hp → Prop) => ∃ i, x = .int i ∧ Q (some i) H) h fun F O H Q a r hf h1 _ ko => ⟨a, dr_int h1, ko _ _ F H rfl (Le.refl F) hf rfl⟩
theorem ef_sl [Enc α] {tl th : TO} {m : R (List α)} {ml mh : R (Option Int)} (h : ES cf E ta G m) (hl : EO cf E tl G ml) (hh : EO cf E th G mh) :
    EF cf E (tSl (rSlL cf.K) ta tl th) G (m.bind fun xs => ml.bind fun lo => mh.bind fun hi => .ok (cut xs lo hi)) :=
  EG.bind3 (u := fun x lo hi H Q => rSlL cf.K x lo hi H Q) h hl hh rs_mono (fun _ _ _ _ _ _ _ _ _ h => h) fun F O H Q xs r lo lo' hi hi' hf h1 h2 h3 _ ko => by
    obtain ⟨a, vs, e, hs, hr⟩ := RS.seq h1 hf
    obtain rfl : lo' = lo := h2
    obtain rfl : hi' = hi := h3
    exact ⟨a, vs, e, hs, fun p hp => ko _ _ F _ rfl (Le.refl F) (hf.newH hp) ⟨p, _, rfl, hf.fnone hp, hf.onone hp, upd_same, by
      rw [← cut_map]
      exact cut_drA lo' hi' hr⟩⟩

/-! ### operators on lists -/
theorem ef_cat [Enc α] {m n : R (List α)} (h : EL cf E ta G m) (h' : EL cf E tb G n) : EF cf E (tOp rCat ta tb) G (m.bind fun xs => n.bind fun ys => szR (xs ++ ys)) :=
  EG.bind2 (u := fun x y H Q => rCat x y H Q) h h' rl_mono fun F O H Q xs r ys s hf h1 h2 nb ko => by
    obtain ⟨c, ec⟩ := szR_nb nb
    obtain ⟨a, vs, e, ha, hr⟩ := RL.at h1 hf
    obtain ⟨b, ws, e', hb, hr'⟩ := RL.at h2 hf
    refine ⟨a, b, vs, ws, e, e', ha, hb, ?_, fun p hp => ko _ _ F _ ec (Le.refl F) (hf.newH hp) ⟨p, _, rfl, hf.fnone hp, hf.onone hp, upd_same, by
      rw [List.map_append]
      exact hr.append hr'⟩⟩
    rw [hr.length, hr'.length, List.length_map, List.length_map, ← List.length_append]
    exact sz_le c
def repR (xs : List α) (k : Int) : R (List α) := if -(2 ^ 63) ≤ k ∧ k < 2 ^ 63 ∧ xs.length * k.toNat ≤ 1000000 then .ok (List.replicate k.toNat xs).flatten else .bad
theorem repR_nb {xs : List α} {k : Int} (h : repR xs k ≠ .bad) : (-(2 ^ 63) ≤ k ∧ k < 2 ^ 63 ∧ xs.length * k.toNat ≤ 1000000) ∧ repR xs k = .ok (List.replicate k.toNat xs).flatten := by
  unfold repR at *
  split at h
  · rename_i c
    exact ⟨c, if_pos c⟩
  · exact absurd rfl h
theorem map_rep {β : Type} (f : α → β) (xs : List α) (k : Nat) : (List.replicate k xs).flatten.map f = (List.replicate k (xs.map f)).flatten := by
  rw [List.map_flatten, List.map_replicate]
theorem ef_rep [Enc α] {m : R (List α)} {n : R Int} (h : EL cf E ta G m) (h' : EM cf E tb G n) : EF cf E (tOp rRep ta tb) G (m.bind fun xs => n.bind fun k => repR xs k) :=
  EG.bind2 (u := fun x y H Q => rRep x y H Q) h h' rl_mono fun F O H Q xs r k s hf h1 h2 nb ko => by
    obtain ⟨⟨c1, c2, c3⟩, ec⟩ := repR_nb nb
    obtain ⟨a, vs, e, ha, hr⟩ := RL.at h1 hf
    refine ⟨a, k, vs, e, dr_int h2, ha, c1, c2, ?_, fun p hp => ko _ _ F _ ec (Le.refl F) (hf.newH hp) ⟨p, _, rfl, hf.fnone hp, hf.onone hp, upd_same, by
      rw [map_rep]
      exact hr.rep _⟩⟩
    rw [hr.length, List.length_map]
    exact sz_le c3

/-! ### built-ins -/
/-- a call of one argument -/
theorem EG.call1 {τ ρ : Type} {rel1 : Hp → Hp → Hp → V → α → Prop} {rel3 : Hp → Hp → Hp → τ → γ → Prop} {m : R α} {f : α → R γ} {u : List V → Hp → (τ → Hp → Prop) → Prop} (h : EG cf E ta G m rel1)
    (k : ∀ (F O H : Hp) (Q : τ → Hp → Prop) (a : α) (r : V), Fm F O H → rel1 F O H r a → f a ≠ .bad → (∀ c x F' H', f a = .ok c → Le F F' → Fm F' O H' → rel3 F' O H' x c → Q x H') → u [r] H Q) :
    EG cf E (fun σ H Q => tCons ta tNil σ H fun vs H1 => u vs H1 Q) G (m.bind f) rel3 := EG.bind1 (u := fun r H Q => u [r] H Q) h k
theorem EG.call2 {τ ρ : Type} {rel1 : Hp → Hp → Hp → V → α → Prop} {rel2 : Hp → Hp → Hp → V → β → Prop} {rel3 : Hp → Hp → Hp → τ → γ → Prop} {m : R α} {n : R β} {f : α → β → R γ} {u : List V → Hp → (τ → Hp → Prop) → Prop} (h : EG cf E ta G m rel1) (h' : EG cf E tb G n rel2)
    (mono : ∀ F O H F' H' r a, Le F F' → Fm F' O H' → rel1 F O H r a → rel1 F' O H' r a)
    (k : ∀ (F O H : Hp) (Q : τ → Hp → Prop) (a : α) (r : V) (b : β) (s : V), Fm F O H → rel1 F O H r a → rel2 F O H s b → f a b ≠ .bad → (∀ c x F' H', f a b = .ok c → Le F F' → Fm F' O H' → rel3 F' O H' x c → Q x H') → u [r, s] H Q) :
    EG cf E (fun σ H Q => tCons ta (tCons tb tNil) σ H fun vs H1 => u vs H1 Q) G (m.bind fun a => n.bind fun b => f a b) rel3 := EG.bind2 (u := fun r s H Q => u [r, s] H Q) h h' mono k
def rLenS (K : PySem.W.Frag) : List V → Hp → VK → Prop := fun xs H Q => ∃ p ys, xs = [.ref p] ∧ (SqL K H p ys ∨ SqT K H p ys) ∧ Q (.int ys.length) H
theorem em_len [Enc α] {m : R (List α)} (h : ES cf E ta G m) : EM cf E (tCB (rLenS cf.K) (tCons ta tNil)) G (m.bind fun xs => .ok (xs.length : Int)) :=
  EG.call1 (ρ := Unit) h fun F O H Q xs r hf h1 _ ko => by
    obtain ⟨a, vs, e, hs, hr⟩ := RS.seq h1 hf
    refine ⟨a, vs, by rw [e], .inl hs, ?_⟩
    rw [hr.length, List.length_map]
    exact ko _ _ F H rfl (Le.refl F) hf (.int _)
theorem em_sum {m : R (List Int)} (h : ES cf E ta G m) : EM cf E (tCB (rSum cf.K) (tCons ta tNil)) G (m.bind fun xs => .ok xs.sum) :=
  EG.call1 (ρ := Unit) h fun F O H Q xs r hf h1 _ ko => by
    obtain ⟨a, vs, e, hs, hr⟩ := RS.seq h1 hf
    rw [ints_of_drA hr] at hs
    exact ⟨a, xs, by rw [e], hs, ko _ _ F H rfl (Le.refl F) hf (.int _)⟩
def maxR (xs : List Int) : R Int := match xs with
  | [] => .bad
  | x :: r => .ok (r.foldl max x)
def minR (xs : List Int) : R Int := match xs with
  | [] => .bad
  | x :: r => .ok (r.foldl min x)
theorem foldl_max_mem : ∀ (r : List Int) (x : Int), r.foldl max x ∈ x :: r ∧ ∀ y ∈ x :: r, y ≤ r.foldl max x
  | [], x => ⟨by simp, by simp⟩
  | y :: r, x => by
    obtain ⟨h1, h2⟩ := foldl_max_mem r (max x y)
    rw [List.foldl_cons]
    refine ⟨?_, fun z hz => ?_⟩
    · rcases List.mem_cons.mp h1 with e | h1
      · rw [e]
        by_cases c : x ≤ y
        · rw [Int.max_eq_right c]; simp
        · rw [Int.max_eq_left (by omega)]; simp
      · simp [h1]
    · have hm := h2 (max x y) (by simp)
      rcases List.mem_cons.mp hz with e | hz
      · subst e
        exact Int.le_trans (Int.le_max_left _ _) hm
      · rcases List.mem_cons.mp hz with e | hz
        · subst e
          exact Int.le_trans (Int.le_max_right _ _) hm
        · exact h2 z (by simp [hz])
theorem foldl_min_mem : ∀ (r : List Int) (x : Int), r.foldl min x ∈ x :: r ∧ ∀ y ∈ x :: r, r.foldl min x ≤ y
  | [], x => ⟨by simp, by simp⟩
  | y :: r, x => by
    obtain ⟨h1, h2⟩ := foldl_min_mem r (min x y)
    rw [List.foldl_cons]
    refine ⟨?_, fun z hz => ?_⟩
    · rcases List.mem_cons.mp h1 with e | h1
      · rw [e]
        by_cases c : x ≤ y
        · rw [Int.min_eq_left c]; simp
        · rw [Int.min_eq_right (by omega)]; simp
      · simp [h1]
    · have hm := h2 (min x y) (by simp)
      rcases List.mem_cons.mp hz with e | hz
      · subst e
        exact Int.le_trans hm (Int.min_le_left _ _)
      · rcases List.mem_cons.mp hz with e | hz
        · subst e
          exact Int.le_trans hm (Int.min_le_right _ _)
        · exact h2 z (by simp [hz])
theorem em_max {m : R (List Int)} (h : ES cf E ta G m) : EM cf E (tCB (rMax cf.K) (tCons ta tNil)) G (m.bind maxR) :=
  EG.call1 (ρ := Unit) h fun F O H Q xs r hf h1 nb ko => by
    obtain ⟨a, vs, e, hs, hr⟩ := RS.seq h1 hf
    rw [ints_of_drA hr] at hs
    cases xs with
    | nil => exact absurd rfl nb
    | cons x q =>
      refine ⟨a, x :: q, by rw [e], hs, by simp, fun y hy hle => ?_⟩
      obtain ⟨g1, g2⟩ := foldl_max_mem q x
      have e2 : y = q.foldl max x := Int.le_antisymm (g2 y hy) (hle _ g1)
      rw [e2]
      exact ko _ _ F H rfl (Le.refl F) hf (.int _)
theorem em_min {m : R (List Int)} (h : ES cf E ta G m) : EM cf E (tCB (rMin cf.K) (tCons ta tNil)) G (m.bind minR) :=
  EG.call1 (ρ := Unit) h fun F O H Q xs r hf h1 nb ko => by
    obtain ⟨a, vs, e, hs, hr⟩ := RS.seq h1 hf
    rw [ints_of_drA hr] at hs
    cases xs with
    | nil => exact absurd rfl nb
    | cons x q =>
      refine ⟨a, x :: q, by rw [e], hs, by simp, fun y hy hle => ?_⟩
      obtain ⟨g1, g2⟩ := foldl_min_mem q x
      have e2 : y = q.foldl min x := Int.le_antisymm (hle _ g1) (g2 y hy)
      rw [e2]
      exact ko _ _ F H rfl (Le.refl F) hf (.int _)
def rMax2 : List V → Hp → VK → Prop := fun xs H Q => ∃ i j, xs = [.int i, .int j] ∧ Q (.int (if j > i then j else i)) H
def rMin2 : List V → Hp → VK → Prop := fun xs H Q => ∃ i j, xs = [.int i, .int j] ∧ Q (.int (if j < i then j else i)) H
theorem em_max2 {m n : R Int} (h : EM cf E ta G m) (h' : EM cf E tb G n) : EM cf E (tCB rMax2 (tCons ta (tCons tb tNil))) G (m.bind fun a => n.bind fun b => .ok (max a b)) :=
  EG.call2 (ρ := Unit) h h' rm_mono fun F O H Q a r b s hf h1 h2 _ ko => ⟨a, b, by rw [dr_int (i := a) h1, dr_int (i := b) h2], by
    rw [show (if b > a then b else a) = max a b by split <;> omega]
    exact ko _ _ F H rfl (Le.refl F) hf (.int _)⟩
theorem em_min2 {m n : R Int} (h : EM cf E ta G m) (h' : EM cf E tb G n) : EM cf E (tCB rMin2 (tCons ta (tCons tb tNil))) G (m.bind fun a => n.bind fun b => .ok (min a b)) :=
  EG.call2 (ρ := Unit) h h' rm_mono fun F O H Q a r b s hf h1 h2 _ ko => ⟨a, b, by rw [dr_int (i := a) h1, dr_int (i := b) h2], by
    rw [show (if b < a then b else a) = min a b by split <;> omega]
    exact ko _ _ F H rfl (Le.refl F) hf (.int _)⟩
def rInt1 : List V → Hp → VK → Prop := fun xs H Q => (∃ i, xs = [.int i] ∧ Q (.int i) H) ∨ ∃ k, xs = [.bl k] ∧ Q (.int (if k then 1 else 0)) H
theorem em_intI {m : R Int} (h : EM cf E ta G m) : EM cf E (tCB rInt1 (tCons ta tNil)) G m := EG.cast (EG.call1 (ρ := Unit) h fun F O H Q a r hf h1 _ ko => .inl ⟨a, by rw [dr_int (i := a) h1], ko a _ F H rfl (Le.refl F) hf (.int a)⟩) (R.bind_ok m)
theorem em_intB {m : R Bool} (h : EM cf E ta G m) : EM cf E (tCB rInt1 (tCons ta tNil)) G (m.bind fun b => .ok (if b then (1 : Int) else 0)) := EG.call1 (ρ := Unit) h fun F O H Q a r hf h1 _ ko => .inr ⟨a, by rw [dr_bl (i := a) h1], ko _ _ F H rfl (Le.refl F) hf (.int _)⟩
def rListS (K : PySem.W.Frag) : List V → Hp → VK → Prop := fun xs H Q => ∃ p ys, xs = [.ref p] ∧ (SqL K H p ys ∨ SqT K H p ys) ∧ ∀ l, H l = none → Q (.ref l) (upd H l (.lst ys))
theorem ef_list [Enc α] {m : R (List α)} (h : ES cf E ta G m) : EF cf E (tCB (rListS cf.K) (tCons ta tNil)) G m := EG.cast (EG.call1 (ρ := Unit) h fun F O H Q xs r hf h1 _ ko => by
    obtain ⟨a, vs, e, hs, hr⟩ := RS.seq h1 hf
    exact ⟨a, vs, by rw [e], .inl hs, fun p hp => ko xs _ F _ rfl (Le.refl F) (hf.newH hp) ⟨p, vs, rfl, hf.fnone hp, hf.onone hp, upd_same, hr⟩⟩) (R.bind_ok m)
theorem em_any {m : R (List Bool)} (h : ES cf E ta G m) : EM cf E (tCB (rAny cf.K) (tCons ta tNil)) G (m.bind fun xs => .ok (xs.any id)) :=
  EG.call1 (ρ := Unit) h fun F O H Q xs r hf h1 _ ko => by
    obtain ⟨a, vs, e, hs, hr⟩ := RS.seq h1 hf
    rw [bls_of_drA hr] at hs
    exact ⟨a, xs, by rw [e], hs, ko _ _ F H rfl (Le.refl F) hf (.bl _)⟩

/-! ### == of data -/
mutual
def Dt.py : Dt → PyData
  | .non => .none
  | .bl b => .bool b
  | .int i => .int i
  | .str x => .str x
  | .lst xs => .list (Dt.pyA xs)
  | .tup xs => .tuple (Dt.pyA xs)
  | .scr ns => .list (ns.map .int)
  | .dct _ => .dict []
def Dt.pyA : List Dt → List PyData
  | [] => []
  | d :: r => d.py :: Dt.pyA r
end
mutual
/-- no dict within -/
def Dt.nd : Dt → Bool
  | .lst xs => Dt.ndA xs
  | .tup xs => Dt.ndA xs
  | .dct _ => false
  | _ => true
def Dt.ndA : List Dt → Bool
  | [] => true
  | d :: r => d.nd && Dt.ndA r
end
theorem dpAll_ints {K : PySem.W.Frag} {H : Hp} : ∀ ns : List Int, DpAll K H (ns.map V.int) (ns.map PyData.int)
  | [] => .nil
  | n :: r => .cons (.int n) (dpAll_ints r)
mutual
theorem Dr.dp {K : PySem.W.Frag} {F H : Hp} (e : Le F H) : ∀ {v : V} {d : Dt}, Dr K F v d → d.nd = true → Dp K H v d.py
  | _, _, .non, _ => .non
  | _, _, .bl b, _ => .bl b
  | _, _, .int i, _ => .int i
  | _, _, .str x, _ => .str x
  | _, _, .lst h r, n => .lst (SqL.of (e _ _ h)) (DrA.dp e r n)
  | _, _, .tup h r, n => .tup (SqT.of (e _ _ h)) (DrA.dp e r n)
  | _, _, .scr h, _ => .lst (e.seq h) (dpAll_ints _)
  | _, _, .dct _ _, n => Bool.noConfusion n
theorem DrA.dp {K : PySem.W.Frag} {F H : Hp} (e : Le F H) : ∀ {vs : List V} {ds : List Dt}, DrA K F vs ds → Dt.ndA ds = true → DpAll K H vs (Dt.pyA ds)
  | _, _, .nil, _ => .nil
  | _, _, .cons r t, n => .cons (Dr.dp e r (Bool.and_eq_true_iff.mp n).1) (DrA.dp e t (Bool.and_eq_true_iff.mp n).2)
end
/-- a == b -/
def eqR [Enc α] [Enc β] (a : α) (b : β) : R Bool := if (toD a).nd = true ∧ (toD b).nd = true ∧ SeqAt.shaped (toD a).py = true ∧ SeqAt.shaped (toD b).py = true then .ok (PyData.eqv (toD a).py (toD b).py) else .bad
theorem eqR_nb [Enc α] [Enc β] {a : α} {b : β} (h : eqR a b ≠ .bad) : ((toD a).nd = true ∧ (toD b).nd = true ∧ SeqAt.shaped (toD a).py = true ∧ SeqAt.shaped (toD b).py = true) ∧ eqR a b = .ok (PyData.eqv (toD a).py (toD b).py) := by
  unfold eqR at *
  split at h
  · rename_i c
    exact ⟨c, if_pos c⟩
  · exact absurd rfl h
/-- lists too, owned or not -/
def RE [Enc α] (cf : Cf) (F O H : Hp) (v : V) (a : α) : Prop := (toD a).nd = true → Dp cf.K H v (toD a).py
abbrev EE [Enc α] (cf : Cf) (E : XK) (t : TE) (G : List Sl) (m : R α) : Prop := EG cf E t G m fun F O H v a => ∀ F' H', Le F F' → Fm F' O H' → (toD a).nd = true → Dp cf.K H' v (toD a).py
theorem EM.toE [Enc α] {m : R α} (h : EM cf E ta G m) : EE cf E ta G m := EG.imp h fun F O H v a hf r F' H' le hf' n => Dr.dp (le.trans hf'.f) r n
theorem EL.toE [Enc α] {m : R (List α)} (h : EL cf E ta G m) : EE cf E ta G m := EG.imp h fun F O H v xs hf r F' H' le hf' n => by
  obtain ⟨a, vs, e, ha, hr⟩ := RL.at (rl_mono F O H F' H' v xs le hf' r) hf'
  rw [e]
  exact .lst (SqL.of ha) (DrA.dp hf'.f hr n)
theorem em_eqD [Enc α] [Enc β] {m : R α} {n : R β} (h : EE cf E ta G m) (h' : EE cf E tb G n) : EM cf E (tOp (rEqD cf.K) ta tb) G (m.bind fun a => n.bind fun b => eqR a b) :=
  EG.bind2 (u := fun x y H Q => rEqD cf.K x y H Q) h h' (fun F O H F' H' r a le hf' h F'' H'' le' hf'' => h F'' H'' (le.trans le') hf'') fun F O H Q a r b s hf h1 h2 nb ko => by
    obtain ⟨⟨c1, c2, c3, c4⟩, ec⟩ := eqR_nb nb
    exact ⟨_, _, h1 F H (Le.refl F) hf c1, h2 F H (Le.refl F) hf c2, c3, c4, ko _ _ F H ec (Le.refl F) hf (.bl _)⟩
theorem em_neD [Enc α] [Enc β] {m : R α} {n : R β} (h : EE cf E ta G m) (h' : EE cf E tb G n) : EM cf E (tOp (rNeD cf.K) ta tb) G (m.bind fun a => n.bind fun b => (eqR a b).bind fun c => .ok (!c)) :=
  EG.bind2 (f := fun a b => (eqR a b).bind fun c => .ok (!c)) (u := fun x y H Q => rNeD cf.K x y H Q) h h' (fun F O H F' H' r a le hf' h F'' H'' le' hf'' => h F'' H'' (le.trans le') hf'') fun F O H Q a r b s hf h1 h2 nb ko => by
    obtain ⟨⟨c1, c2, c3, c4⟩, ec⟩ := eqR_nb (R.bind_nb nb)
    rw [ec] at ko
    exact ⟨_, _, h1 F H (Le.refl F) hf c1, h2 F H (Le.refl F) hf c2, c3, c4, ko _ _ F H rfl (Le.refl F) hf (.bl _)⟩
end
end Kr

/-! KrD: what is walked, comprehensions, statements by data. -/
namespace Kr
open PySem PySem.Spec PyProof.Rows L2
open Enc (toD)

/-! ### what is walked -/
/-- J gives the items xs, one after the other -/
def Itm {α : Type} [Enc α] (cf : Cf) (J : It) (F1 : Hp) (xs : List α) : Prop := ∀ (i : Nat) (F O H : Hp), Le F1 F → Fm F O H →
  (∀ x, xs[i]? = some x → J.go i H ∧ ∀ v H', J.yld i H v H' → ∃ F', Le F F' ∧ Fm F' O H' ∧ Dr cf.K F' v (toD x)) ∧ (xs.length ≤ i → J.stop i H)
def IG {α : Type} [Enc α] (cf : Cf) (E : XK) (wi : TI) (G : List Sl) (m : R (List α)) : Prop :=
  ∀ (F O H : Hp) (σ : L2.St) (Q : It → Hp → Prop), Fm F O H → Er cf.K F O σ G → m ≠ .bad →
    (∀ xs J F' H', m = .ok xs → Le F F' → Fm F' O H' → Itm cf J F' xs → Q J H') →
    (∀ c p d F' H', m = .er c p → Le F F' → Fm F' O H' → F' d = some (xdO cf c p) → E (.ref (cf.cls c)) (some d) H') → wi σ H Q
section
variable {cf : Cf} {E : XK} {G : List Sl} {α β γ δ : Type} {ta tb : TE}
/-- a list that stays as it is -/
def RZ [Enc α] (cf : Cf) (F O H : Hp) (v : V) (xs : List α) : Prop := ∃ a vs, v = .ref a ∧ SqL cf.K F a vs ∧ DrA cf.K F vs (xs.map toD)
abbrev EZ [Enc α] (cf : Cf) (E : XK) (t : TE) (G : List Sl) (m : R (List α)) : Prop := EG cf E t G m (RZ cf)
theorem rz_mono [Enc α] (F O H F' H' : Hp) (r : V) (a : List α) (le : Le F F') (_ : Fm F' O H') (h : RZ cf F O H r a) : RZ cf F' O H' r a := by
  obtain ⟨a, vs, e, h1, h2⟩ := h
  exact ⟨a, vs, e, le.seq h1, h2.mono le⟩
theorem EM.toZ [Enc α] {m : R (List α)} (h : EM cf E ta G m) : EZ cf E ta G m := EG.imp h fun F O H v xs _ r => by
  obtain ⟨a, vs, e, h1, h2⟩ := dr_lst r
  exact ⟨a, vs, e, SqL.of h1, h2⟩
theorem EF.toZ [Enc α] {m : R (List α)} (h : EF cf E ta G m) : EZ cf E ta G m := EM.toZ (EF.toM h)
theorem EM.scrZ {t : TE} {m : R Scr} (h : EM cf E t G m) : EZ cf E t G (m.bind fun s => .ok s.ns) := fun F O H σ Q hf he nb ko ke => by
  refine h F O H σ Q hf he (R.bind_nb nb) (fun s v F' H' e le hf' hr => ?_) (fun c p d F' H' e => ke c p d F' H' (by rw [e]; rfl))
  obtain ⟨a, ea, hs⟩ := dr_scr (ns := s.ns) hr
  exact ko s.ns _ F' H' (by rw [e]; rfl) le hf' ⟨a, _, ea, hs, drA_ints s.ns⟩
theorem drA_at [Enc α] {K : PySem.W.Frag} {F : Hp} {vs : List V} {xs : List α} (h : DrA K F vs (xs.map toD)) {i : Nat} {x : α} (e : xs[i]? = some x) : ∃ v, vs[i]? = some v ∧ Dr K F v (toD x) := h.get (by rw [List.getElem?_map, e]; rfl)
theorem ig_list [Enc α] {m : R (List α)} (h : EZ cf E ta G m) : IG cf E (iList cf.K ta) G m := fun F O H σ Q hf he nb ko ke =>
  h F O H σ _ hf he nb (fun xs v F' H' e le hf' hr => by
    obtain ⟨a, vs, ev, hs, hd⟩ := hr
    refine ⟨a, ev, ⟨vs, hf'.f.seq hs⟩, ko xs _ F' H' e le hf' fun i F2 O2 H2 le2 hf2 => ⟨fun x hx => ?_, fun hi => ⟨vs, (le2.trans hf2.f).seq hs, ?_⟩⟩⟩
    · obtain ⟨w', hw, rw'⟩ := drA_at hd hx
      exact ⟨⟨vs, w', (le2.trans hf2.f).seq hs, hw⟩, fun v H3 hy => ⟨F2, Le.refl F2, by rw [hy.1]; exact hf2, by
        have q := hy.2 vs ((le2.trans hf2.f).seq hs)
        rw [hw] at q
        rw [← Option.some.inj q]
        exact rw'.mono le2⟩⟩
    · rw [hd.length, List.length_map]
      exact hi) ke
/-- lo, lo + 1, .. -/
def seqI (lo : Int) (n : Nat) : List Int := (List.range n).map fun (i : Nat) => lo + (i : Int)
/-- lo, lo + c, .. -/
def seqC (lo c : Int) (n : Nat) : List Int := (List.range n).map fun (i : Nat) => lo + (i : Int) * c
theorem seqI_get (lo : Int) (n i : Nat) : (seqI lo n)[i]? = if i < n then some (lo + (i : Int)) else none := by
  unfold seqI
  rw [List.getElem?_map]
  by_cases h : i < n
  · rw [if_pos h, List.getElem?_range h]
    rfl
  · rw [if_neg h, List.getElem?_eq_none (by rw [List.length_range]; omega)]
    rfl
theorem seqC_get (lo c : Int) (n i : Nat) : (seqC lo c n)[i]? = if i < n then some (lo + (i : Int) * c) else none := by
  unfold seqC
  rw [List.getElem?_map]
  by_cases h : i < n
  · rw [if_pos h, List.getElem?_range h]
    rfl
  · rw [if_neg h, List.getElem?_eq_none (by rw [List.length_range]; omega)]
    rfl
theorem seqI_len (lo : Int) (n : Nat) : (seqI lo n).length = n := by simp [seqI]
theorem seqC_len (lo c : Int) (n : Nat) : (seqC lo c n).length = n := by simp [seqC]
theorem itm_seqI (F1 : Hp) (lo : Int) (n : Nat) : Itm cf (Itr lo n) F1 (seqI lo n) := fun i F O H le hf => ⟨fun x hx => by
    rw [seqI_get] at hx
    split at hx
    · rename_i c
      cases hx
      exact ⟨c, fun v H' hy => ⟨F, Le.refl F, by rw [hy.1]; exact hf, by rw [hy.2]; exact .int _⟩⟩
    · exact (nomatch hx),
  fun hi => by
    rw [seqI_len] at hi
    exact hi⟩
theorem itm_seqC (F1 : Hp) (lo c : Int) (n : Nat) : Itm cf (Itc lo c n) F1 (seqC lo c n) := fun i F O H le hf => ⟨fun x hx => by
    rw [seqC_get] at hx
    split at hx
    · rename_i c
      cases hx
      exact ⟨c, fun v H' hy => ⟨F, Le.refl F, by rw [hy.1]; exact hf, by rw [hy.2]; exact .int _⟩⟩
    · exact (nomatch hx),
  fun hi => by
    rw [seqC_len] at hi
    exact hi⟩
def rng1R (n : Int) : R (List Int) := if -(2 ^ 62) ≤ n ∧ n < 2 ^ 62 then .ok (seqI 0 n.toNat) else .bad
def rng2R (a b : Int) : R (List Int) := if -(2 ^ 62) ≤ a ∧ a < 2 ^ 62 ∧ -(2 ^ 62) ≤ b ∧ b < 2 ^ 62 then .ok (seqI a (b - a).toNat) else .bad
theorem ig_range1 {m : R Int} (h : EM cf E ta G m) : IG cf E (iRng1 (tCons ta tNil)) G (m.bind rng1R) := fun F O H σ Q hf he nb ko ke =>
  h F O H σ _ hf he (R.bind_nb nb) (fun n v F' H' e le hf' hr => by
    rw [e, R.ok_bind] at nb ko
    unfold rng1R at nb ko
    split at nb
    · rename_i c
      rw [if_pos c] at ko
      exact ⟨n, by rw [dr_int (i := n) hr], c.1, c.2, ko _ _ F' H' rfl le hf' (itm_seqI F' 0 n.toNat)⟩
    · exact absurd rfl nb) fun c p d F' H' e => ke c p d F' H' (by rw [e]; rfl)
theorem ig_range2 {m n : R Int} (h : EM cf E ta G m) (h' : EM cf E tb G n) : IG cf E (iRng2 (tCons ta (tCons tb tNil))) G (m.bind fun a => n.bind fun b => rng2R a b) := fun F O H σ Q hf he nb ko ke =>
  EG.bind2 (f := fun a b => rng2R a b) (rel3 := fun F' O' H' J xs => Itm cf J F' xs) (u := fun x y H Q => ∃ i j : Int, [x, y] = [V.int i, V.int j] ∧ (-(2 ^ 62) ≤ i ∧ i < 2 ^ 62 ∧ -(2 ^ 62) ≤ j ∧ j < 2 ^ 62) ∧ Q (Itr i (j - i).toNat) H) h h' rm_mono
    (fun F O H Q a r b s hf h1 h2 nb ko => by
      unfold rng2R at nb ko
      split at nb
      · rename_i c
        rw [if_pos c] at ko
        exact ⟨a, b, by rw [dr_int (i := a) h1, dr_int (i := b) h2], c, ko _ _ F H rfl (Le.refl F) hf (itm_seqI F a _)⟩
      · exact absurd rfl nb) F O H σ Q hf he nb (fun xs J F' H' => ko xs J F' H') ke
/-- range(a, b, c), c written: 1 or more, or -1 -/
def rng3R (a b c : Int) : R (List Int) := if -(2 ^ 62) ≤ a ∧ a < 2 ^ 62 ∧ -(2 ^ 62) ≤ b ∧ b < 2 ^ 62 then (if c = -1 then .ok (seqC a (-1) (a - b).toNat) else
    if 0 < c ∧ c < 1073741824 ∧ Builtin.Range.small a b c = true then .ok (seqC a c (Builtin.Range.rangeSize a b c).toNat) else .bad) else .bad
theorem rangeSize_nn (a b c : Int) (h : 0 < c) : 0 ≤ Builtin.Range.rangeSize a b c := by
  unfold Builtin.Range.rangeSize
  split
  · split
    · have : 0 ≤ (b - a - 1) / c := Int.ediv_nonneg (by omega) (by omega)
      omega
    · exact Int.le_refl 0
  · omega
theorem rgC_of {a b c : Int} {xs : List Int} (h : rng3R a b c = .ok xs) : ∃ n, RgC a b c n ∧ xs = seqC a c n := by
  unfold rng3R at h
  split at h
  · rename_i q
    split at h
    · rename_i e
      subst e
      cases h
      exact ⟨_, RgC.neg q.1 q.2.1 q.2.2.1 q.2.2.2, rfl⟩
    · split at h
      · rename_i q2
        cases h
        refine ⟨_, ⟨by omega, by omega, q2.2.2, ?_⟩, rfl⟩
        have := rangeSize_nn a b c q2.1
        omega
      · cases h
  · cases h
theorem ig_range3 {tc : TE} {m n l : R Int} (h : EM cf E ta G m) (h' : EM cf E tb G n) (h'' : EM cf E tc G l) : IG cf E (iRng3 (tCons ta (tCons tb (tCons tc tNil)))) G (m.bind fun a => n.bind fun b => l.bind fun c => rng3R a b c) := fun F O H σ Q hf he nb ko ke =>
  EG.bind3 (f := fun a b c => rng3R a b c) (rel4 := fun F' O' H' J xs => Itm cf J F' xs) (u := fun x y z H Q => ∃ (i j c : Int) (n : Nat), [x, y, z] = [V.int i, V.int j, V.int c] ∧ RgC i j c n ∧ Q (Itc i c n) H) h h' h'' rm_mono rm_mono
    (fun F O H Q a r b s c t hf h1 h2 h3 nb ko => by
      cases q : rng3R a b c with
      | bad => exact absurd q nb
      | er c p =>
        unfold rng3R at q
        split at q
        · split at q
          · cases q
          · split at q <;> cases q
        · cases q
      | ok xs =>
        obtain ⟨n, hn, hx⟩ := rgC_of q
        refine ⟨a, b, c, n, by rw [dr_int (i := a) h1, dr_int (i := b) h2, dr_int (i := c) h3], hn, ko xs _ F H q (Le.refl F) hf ?_⟩
        rw [hx]
        exact itm_seqC F a c n) F O H σ Q hf he nb (fun xs J F' H' => ko xs J F' H') ke
/-- the pairs (0, x0), (1, x1), .. -/
def enumL (xs : List α) : List (Int × α) := xs.zipIdx.map fun p => ((p.2 : Int), p.1)
theorem enumL_get (xs : List α) (i : Nat) : (enumL xs)[i]? = xs[i]?.map fun x => ((i : Int), x) := by
  unfold enumL
  rw [List.getElem?_map, List.getElem?_zipIdx]
  cases xs[i]? <;> simp
theorem enumL_len (xs : List α) : (enumL xs).length = xs.length := by simp [enumL]
theorem ig_enum [Enc α] {m : R (List α)} (h : EZ cf E ta G m) : IG cf E (iEnum cf.K (tCons ta tNil)) G (m.bind fun xs => .ok (enumL xs)) := fun F O H σ Q hf he nb ko ke =>
  h F O H σ _ hf he (R.bind_nb nb) (fun xs v F' H' e le hf' hr => by
    rw [e, R.ok_bind] at ko
    obtain ⟨a, vs, ev, hs, hd⟩ := hr
    refine ⟨a, vs, by rw [ev], hf'.f.seq hs, ko _ _ F' H' rfl le hf' fun i F2 O2 H2 le2 hf2 => ⟨fun x hx => ?_, fun hi => ⟨vs, (le2.trans hf2.f).seq hs, ?_⟩⟩⟩
    · rw [enumL_get] at hx
      cases q : xs[i]? with
      | none =>
        rw [q] at hx
        cases hx
      | some y =>
        rw [q] at hx
        cases hx
        obtain ⟨w', hw, rw'⟩ := drA_at hd q
        refine ⟨⟨vs, w', (le2.trans hf2.f).seq hs, hw⟩, fun v H3 hy => ?_⟩
        obtain ⟨T, x, ev, hT, rfl, hx⟩ := hy
        have q2 := hx vs ((le2.trans hf2.f).seq hs)
        rw [hw] at q2
        have e2 := Option.some.inj q2
        subst e2
        subst ev
        exact ⟨upd F2 T (.tup [.int (i : Nat), w']), Le.new (hf2.fnone hT), hf2.newF hT, .tup upd_same (.cons (.int _) (.cons (rw'.mono (le2.trans (Le.new (hf2.fnone hT)))) .nil))⟩
    · rw [enumL_len] at hi
      rw [hd.length, List.length_map]
      exact hi) fun c p d F' H' e => ke c p d F' H' (by rw [e]; rfl)
theorem ig_zip [Enc α] [Enc β] {m : R (List α)} {n : R (List β)} (h : EZ cf E ta G m) (h' : EZ cf E tb G n) : IG cf E (iZip cf.K (tCons ta (tCons tb tNil))) G (m.bind fun xs => n.bind fun ys => .ok (xs.zip ys)) := fun F O H σ Q hf he nb ko ke =>
  EG.bind2 (f := fun (xs : List α) (ys : List β) => R.ok (xs.zip ys)) (rel3 := fun F' O' H' J xs => Itm cf J F' xs) (u := fun x y H Q => ∃ a b xs ys, [x, y] = [V.ref a, V.ref b] ∧ SqL cf.K H a xs ∧ SqL cf.K H b ys ∧ Q (Itz cf.K a b) H) h h' rz_mono
    (fun F O H Q xs r ys s hf h1 h2 nb ko => by
      obtain ⟨a, vs, ev, hs, hd⟩ := h1
      obtain ⟨b, ws, ew, hs', hd'⟩ := h2
      refine ⟨a, b, vs, ws, by rw [ev, ew], hf.f.seq hs, hf.f.seq hs', ko _ _ F H rfl (Le.refl F) hf fun i F2 O2 H2 le2 hf2 => ⟨fun x hx => ?_, fun hi => ⟨vs, ws, (le2.trans hf2.f).seq hs, (le2.trans hf2.f).seq hs', ?_⟩⟩⟩
      · rw [List.getElem?_zip_eq_some] at hx
        obtain ⟨v1, hv1, r1⟩ := drA_at hd hx.1
        obtain ⟨v2, hv2, r2⟩ := drA_at hd' hx.2
        refine ⟨⟨vs, ws, v1, v2, (le2.trans hf2.f).seq hs, (le2.trans hf2.f).seq hs', hv1, hv2⟩, fun v H3 hy => ?_⟩
        obtain ⟨T, x1, x2, ev, hT, rfl, hx1, hx2⟩ := hy
        have q1 := hx1 vs ((le2.trans hf2.f).seq hs)
        have q2 := hx2 ws ((le2.trans hf2.f).seq hs')
        rw [hv1] at q1
        rw [hv2] at q2
        obtain rfl := Option.some.inj q1
        obtain rfl := Option.some.inj q2
        subst ev
        have l3 := le2.trans (Le.new (o := .tup [v1, v2]) (hf2.fnone hT))
        exact ⟨upd F2 T (.tup [v1, v2]), Le.new (hf2.fnone hT), hf2.newF hT, .tup upd_same (.cons (r1.mono l3) (.cons (r2.mono l3) .nil))⟩
      · rw [List.length_zip] at hi
        rw [hd.length, List.length_map, hd'.length, List.length_map]
        omega) F O H σ Q hf he nb (fun xs J F' H' => ko xs J F' H') ke
theorem ig_rev [Enc α] {m : R (List α)} (h : EZ cf E ta G m) : IG cf E (iRev cf.K (tCons ta tNil)) G (m.bind fun xs => .ok xs.reverse) := fun F O H σ Q hf he nb ko ke =>
  h F O H σ _ hf he (R.bind_nb nb) (fun xs v F' H' e le hf' hr => by
    rw [e, R.ok_bind] at ko
    obtain ⟨a, vs, ev, hs, hd⟩ := hr
    have hl : vs.length = xs.length := by rw [hd.length, List.length_map]
    refine ⟨a, vs, by rw [ev], hf'.f.seq hs, ko _ _ F' H' rfl le hf' fun i F2 O2 H2 le2 hf2 => ⟨fun x hx => ?_, fun hi => ?_⟩⟩
    · have hi : i < xs.length := by
        have := (List.getElem?_eq_some_iff.mp hx).1
        rw [List.length_reverse] at this
        exact this
      rw [List.getElem?_reverse hi] at hx
      obtain ⟨w', hw, rw'⟩ := drA_at hd hx
      rw [← hl] at hw
      refine ⟨⟨by omega, vs, w', (le2.trans hf2.f).seq hs, hw⟩, fun v H3 hy => ⟨F2, Le.refl F2, by rw [hy.1]; exact hf2, ?_⟩⟩
      have q2 := hy.2 vs ((le2.trans hf2.f).seq hs)
      rw [hw] at q2
      rw [← Option.some.inj q2]
      exact rw'.mono le2
    · rw [List.length_reverse] at hi
      show vs.length ≤ i
      omega) fun c p d F' H' e => ke c p d F' H' (by rw [e]; rfl)

/-! ### targets -/
/-- the target stores the data: the slots behind it; js: the slots it stores to -/
def AG [Enc α] (cf : Cf) (g : TG) (up : α → List Sl → List Sl) (js : List Nat) : Prop :=
  ∀ (F O H : Hp) (σ : L2.St) (G : List Sl) (v : V) (a : α) (Q : L2.St → Hp → Prop), Fm F O H → Er cf.K F O σ G → Dr cf.K F v (toD a) →
    (∀ σ', Er cf.K F O σ' (up a G) → (∀ (i : Nat) (s : Sl), (up a G)[i]? = some s → s.own = true → G[i]? = some s ∧ σ'[i]? = σ[i]?) → (∀ vs : List Nat, (∀ j ∈ js, j ∈ vs) → wipe σ' vs = wipe σ vs) → Q σ' H) → g v σ H Q
theorem wipe_set {σ : L2.St} {j : Nat} {y : Option V} : ∀ {vs : List Nat}, j ∈ vs → wipe (σ.set j y) vs = wipe σ vs
  | [], h => by cases h
  | v :: vs, h => by
    show (wipe (σ.set j y) vs).set v none = (wipe σ vs).set v none
    by_cases hj : j ∈ vs
    · rw [wipe_set hj]
    · have e : j = v := by
        rcases List.mem_cons.mp h with e | e
        · exact e
        · exact absurd e hj
      subst e
      have key : ∀ (ws : List Nat), j ∉ ws → wipe (σ.set j y) ws = (wipe σ ws).set j y := by
        intro ws
        induction ws with
        | nil => intro _; rfl
        | cons w ws ih =>
          intro hw
          show (wipe (σ.set j y) ws).set w none = ((wipe σ ws).set w none).set j y
          rw [ih fun z => hw (List.mem_cons_of_mem _ z)]
          exact List.set_comm _ _ fun z => hw (by rw [z]; exact List.mem_cons_self ..)
      rw [key vs hj, List.set_set]
theorem er_set {K : PySem.W.Frag} {F O : Hp} {σ : L2.St} {G : List Sl} (h : Er K F O σ G) (i : Nat) {v : V} {d : Dt} (r : Dr K F v d) : Er K F O (σ.set i (some v)) (G.set i (.va d)) := by
  refine ⟨by rw [List.length_set, List.length_set, h.len], fun j s e => ?_⟩
  by_cases hj : i = j
  · subst hj
    by_cases hl : i < G.length
    · rw [List.getElem?_set_self hl] at e
      cases e
      rw [List.getElem?_set_self (by rw [h.len]; exact hl)]
      exact ⟨v, rfl, r⟩
    · rw [List.getElem?_eq_none (by rw [List.length_set]; omega)] at e
      cases e
  · rw [List.getElem?_set_ne hj] at e ⊢
    exact h.at' j s e
theorem own_set {σ : L2.St} {G : List Sl} {i : Nat} {d : Dt} {y : Option V} {j : Nat} {s : Sl} (e : (G.set i (.va d))[j]? = some s) (o : s.own = true) : G[j]? = some s ∧ (σ.set i y)[j]? = σ[j]? := by
  by_cases hj : i = j
  · subst hj
    by_cases hl : i < G.length
    · rw [List.getElem?_set_self hl] at e
      cases e
      cases o
    · rw [List.getElem?_eq_none (by rw [List.length_set]; omega)] at e
      cases e
  · rw [List.getElem?_set_ne hj] at e
    exact ⟨e, List.getElem?_set_ne hj⟩
theorem ag_name [Enc α] (i : Nat) : AG cf (gName i) (fun (a : α) G => G.set i (.va (toD a))) [i] := fun F O H σ G v a Q hf he r k =>
  k _ (er_set he i r) (fun j s e o => own_set e o) fun vs h => wipe_set (h i (by simp))
theorem ag_t2 [Enc α] [Enc β] {g1 g2 : TG} {u1 : α → List Sl → List Sl} {u2 : β → List Sl → List Sl} {j1 j2 : List Nat} (h1 : AG cf g1 u1 j1) (h2 : AG cf g2 u2 j2) :
    AG cf (gTup cf.K 2 (gCons g1 (gCons g2 gNil))) (fun (p : α × β) G => u2 p.2 (u1 p.1 G)) (j1 ++ j2) := fun F O H σ G v p Q hf he r k => by
  obtain ⟨a, vs, rfl, ht, hd⟩ := dr_tup (ds := [toD p.1, toD p.2]) r
  obtain ⟨v1, r1, rfl, d1, hd⟩ := drA_cons hd
  obtain ⟨v2, r2, rfl, d2, hd⟩ := drA_cons hd
  rw [drA_nil hd] at ht
  refine ⟨a, [v1, v2], rfl, SqT.of (hf.f _ _ ht), rfl, v1, [v2], rfl, h1 F O H σ G v1 p.1 _ hf he d1 fun σ1 e1 o1 w1 => ⟨v2, [], rfl, h2 F O H σ1 _ v2 p.2 _ hf e1 d2 fun σ2 e2 o2 w2 => ⟨rfl, k σ2 e2 (fun i s e o => ?_) fun vs hv => ?_⟩⟩⟩
  · obtain ⟨q1, q2⟩ := o2 i s e o
    obtain ⟨q3, q4⟩ := o1 i s q1 o
    exact ⟨q3, q2.trans q4⟩
  · rw [w2 vs fun j hj => hv j (by simp [hj]), w1 vs fun j hj => hv j (by simp [hj])]
theorem ag_t3 [Enc α] [Enc β] [Enc γ] {g1 g2 g3 : TG} {u1 : α → List Sl → List Sl} {u2 : β → List Sl → List Sl} {u3 : γ → List Sl → List Sl} {j1 j2 j3 : List Nat} (h1 : AG cf g1 u1 j1) (h2 : AG cf g2 u2 j2) (h3 : AG cf g3 u3 j3) :
    AG cf (gTup cf.K 3 (gCons g1 (gCons g2 (gCons g3 gNil)))) (fun (p : T3 α β γ) G => u3 p.c (u2 p.b (u1 p.a G))) (j1 ++ (j2 ++ j3)) := fun F O H σ G v p Q hf he r k => by
  obtain ⟨a, vs, rfl, ht, hd⟩ := dr_tup (ds := [toD p.a, toD p.b, toD p.c]) r
  obtain ⟨v1, r1, rfl, d1, hd⟩ := drA_cons hd
  obtain ⟨v2, r2, rfl, d2, hd⟩ := drA_cons hd
  obtain ⟨v3, r3, rfl, d3, hd⟩ := drA_cons hd
  rw [drA_nil hd] at ht
  refine ⟨a, [v1, v2, v3], rfl, SqT.of (hf.f _ _ ht), rfl, v1, [v2, v3], rfl, h1 F O H σ G v1 p.a _ hf he d1 fun σ1 e1 o1 w1 => ⟨v2, [v3], rfl, h2 F O H σ1 _ v2 p.b _ hf e1 d2 fun σ2 e2 o2 w2 => ⟨v3, [], rfl, h3 F O H σ2 _ v3 p.c _ hf e2 d3 fun σ3 e3 o3 w3 => ⟨rfl, k σ3 e3 (fun i s e o => ?_) fun vs hv => ?_⟩⟩⟩⟩
  · obtain ⟨q1, q2⟩ := o3 i s e o
    obtain ⟨q3, q4⟩ := o2 i s q1 o
    obtain ⟨q5, q6⟩ := o1 i s q3 o
    exact ⟨q5, q2.trans (q4.trans q6)⟩
  · rw [w3 vs fun j hj => hv j (by simp [hj]), w2 vs fun j hj => hv j (by simp [hj]), w1 vs fun j hj => hv j (by simp [hj])]

/-! ### comprehensions -/
def compR (ft : α → R Bool) (fe : α → R β) : List α → R (List β)
  | [] => .ok []
  | x :: r => (ft x).pu.bind fun b => if b = true then (fe x).pu.bind fun y => (compR ft fe r).bind fun ys => .ok (y :: ys) else compR ft fe r
def lcR (ft : α → R Bool) (fe : α → R β) (xs : List α) : R (List β) := (szR xs).bind fun xs => compR ft fe xs
def wipeG (G : List Sl) : List Nat → List Sl
  | [] => G
  | v :: vs => (wipeG G vs).set v .un
theorem er_wipe {K : PySem.W.Frag} {F O : Hp} {σ : L2.St} {G : List Sl} (h : Er K F O σ G) : ∀ vs : List Nat, Er K F O (wipe σ vs) (wipeG G vs)
  | [] => h
  | v :: vs => by
    have ih := er_wipe h vs
    refine ⟨by show ((wipe σ vs).set v none).length = ((wipeG G vs).set v .un).length; rw [List.length_set, List.length_set, ih.len], fun j s e => ?_⟩
    have e' : ((wipeG G vs).set v .un)[j]? = some s := e
    show SlOk K F O ((wipe σ vs).set v none)[j]? s
    by_cases hj : v = j
    · subst hj
      by_cases hl : v < (wipeG G vs).length
      · rw [List.getElem?_set_self hl] at e'
        cases e'
        exact trivial
      · rw [List.getElem?_eq_none (by rw [List.length_set]; omega)] at e'
        cases e'
    · rw [List.getElem?_set_ne hj] at e' ⊢
      exact ih.at' j s e'
theorem SlOk.monoO {K : PySem.W.Frag} {F O O' : Hp} {x : Option (Option V)} (e : Le O O') : ∀ {s : Sl}, SlOk K F O x s → SlOk K F O' x s
  | .un, _ => trivial
  | .va _, h => h
  | .ol _, ⟨a, vs, h1, h2, h3⟩ => ⟨a, vs, h1, e _ _ h2, h3⟩
  | .od _, ⟨a, vs, h1, h2, h3⟩ => ⟨a, vs, h1, e _ _ h2, h3⟩
theorem Er.monoO {K : PySem.W.Frag} {F O O' : Hp} {σ : L2.St} {G : List Sl} (h : Er K F O σ G) (e : Le O O') : Er K F O' σ G := ⟨h.len, fun i s q => (h.at' i s q).monoO e⟩
theorem Fm.weak {F O O' H : Hp} (h : Fm F O' H) (e : Le O O') : Fm F O H := ⟨h.f, e.trans h.o, fun p q => e.free (h.ds p q)⟩
/-- a new object that is ours -/
theorem Fm.newO {F O H : Hp} (h : Fm F O H) {p : Addr} {o : HO} (e : H p = none) : Fm F (upd O p o) (upd H p o) := by
  refine ⟨h.f.trans (Le.new e), fun a u q => ?_, fun a q => ?_⟩
  · by_cases ha : a = p
    · subst ha
      rw [upd_same] at q ⊢
      exact q
    · rw [upd_ne ha] at q ⊢
      exact h.o a u q
  · have ha : a ≠ p := fun z => q (by rw [z]; exact h.fnone e)
    rw [upd_ne ha]
    exact h.ds a q
/-- what is ours changes -/
theorem Fm.wr {F O H : Hp} (h : Fm F O H) {p : Addr} {o u : HO} (e : O p = some u) : Fm F (upd O p o) (upd H p o) := by
  have hF := h.own e
  refine ⟨fun a v q => ?_, fun a v q => ?_, fun a q => ?_⟩
  · rw [upd_ne (ne_of_none q hF)]
    exact h.f a v q
  · by_cases ha : a = p
    · subst ha
      rw [upd_same] at q ⊢
      exact q
    · rw [upd_ne ha] at q ⊢
      exact h.o a v q
  · have ha : a ≠ p := fun z => q (by rw [z]; exact hF)
    rw [upd_ne ha]
    exact h.ds a q
theorem pu_ok {m : R α} {a : α} (h : m.pu = .ok a) : m = .ok a := by
  cases m with
  | ok b => exact congrArg R.ok (R.ok.inj h)
  | er c p => cases h
  | bad => cases h
theorem pu_nb {m : R α} (h : m.pu ≠ .bad) : ∃ a, m = .ok a := by
  cases m with
  | ok b => exact ⟨b, rfl⟩
  | er c p => exact absurd rfl h
  | bad => exact absurd rfl h
/-- [e for target in .. if t] -/
theorem ef_lc [Enc α] [Enc β] {wi : TI} {g : TG} {tt : TT} {te : TE} {vs js : List Nat} {m : R (List α)} {ft : α → R Bool} {fe : α → R β} {up : α → List Sl → List Sl} {Gi : α → List Sl} (hi : IG cf E wi G m) (hg : AG cf g up js)
    (hj : ∀ j ∈ js, j ∈ vs) (hG : ∀ a, up a (wipeG G vs) = Gi a) (ht : ∀ a, EB cf E0 tt (Gi a) (ft a)) (he : ∀ a, EM cf E0 te (Gi a) (fe a)) : EF cf E (tLc wi g tt te vs) G (m.bind (lcR ft fe)) := fun F O H σ Q hf hE nb ko ke =>
  hi F O H σ _ hf hE (R.bind_nb nb) (fun xs J F1 H1 em le1 hf1 hJ D hD => by
    rw [em, R.ok_bind] at nb ko
    obtain ⟨hz, ez⟩ := szR_nb (R.bind_nb nb)
    have etot : lcR ft fe xs = compR ft fe xs := by
      unfold lcR
      rw [ez]
      rfl
    rw [etot] at nb ko
    have hE1 : Er cf.K F1 O σ G := hE.mono le1
    let W : Nat → Nat → Hp → Prop := fun i mm H => mm = xs.length - i ∧ i ≤ xs.length ∧ ∃ (F2 : Hp) (ws : List V) (acc : List β), Le F1 F2 ∧ Fm F2 (upd O D (.lst ws)) H ∧ DrA cf.K F2 ws (acc.map toD) ∧ acc.length ≤ i ∧ (compR ft fe (xs.drop i)).bind (fun ys => .ok (acc ++ ys)) = compR ft fe xs
    refine ⟨W, ⟨xs.length, by simp, Nat.zero_le _, F1, [], [], Le.refl F1, hf1.newO hD, .nil, Nat.le_refl _, by rw [List.drop_zero]; simp only [List.nil_append]; exact R.bind_ok _⟩, ?_⟩
    rintro i mm H2 ⟨rfl, hi, F2, ws, acc, le2, hf2, hd, hacc, tot⟩
    have hO1 : O D = none := hf1.onone hD
    have leO : Le O (upd O D (.lst ws)) := Le.new hO1
    by_cases hlt : i < xs.length
    · have hx : xs[i]? = some xs[i] := List.getElem?_eq_getElem hlt
      rw [List.drop_eq_getElem_cons hlt] at tot
      rw [← tot] at nb
      have nbc := R.bind_nb nb
      obtain ⟨b, eb⟩ := pu_nb (R.bind_nb nbc)
      obtain ⟨hgo, hyl⟩ := (hJ i F2 (upd O D (.lst ws)) H2 le2 hf2).1 _ hx
      refine .inr ⟨hgo, fun H' => W (i + 1) (xs.length - (i + 1)) H', fun H' h' => ⟨_, by omega, h'⟩, fun v H3 hy => ?_⟩
      obtain ⟨F3, le3, hf3, hv⟩ := hyl v H3 hy
      refine hg F3 _ H3 _ _ v xs[i] _ hf3 (er_wipe ((hE1.mono (le2.trans le3)).monoO leO) vs) hv fun σ2 e2 _ w2 => ⟨?_, ?_⟩
      · rw [w2 vs hj]
        have key : ∀ (us : List Nat) (τ : L2.St), (∀ u ∈ us, u ∈ vs) → wipe (wipe σ us) vs = wipe σ vs := by
          intro us
          induction us with
          | nil => intro _ _; rfl
          | cons u us ih =>
            intro τ hu
            show wipe ((wipe σ us).set u none) vs = wipe σ vs
            rw [wipe_set (hu u (by simp)), ih τ fun z hz => hu z (by simp [hz])]
        exact key vs σ fun u hu => hu
      · rw [hG] at e2
        refine ht xs[i] F3 _ H3 σ2 _ hf3 e2 (by rw [eb]; intro z; cases z) (fun b' r F4 H4 eb' le4 hf4 hr => ?_) (fun c p d F4 H4 e => by rw [eb] at e; cases e)
        rw [eb] at eb'
        cases eb'
        obtain rfl : r = b := hr
        rw [show compR ft fe (xs[i] :: xs.drop (i + 1)) = (ft xs[i]).pu.bind fun b => if b = true then (fe xs[i]).pu.bind fun y => (compR ft fe (xs.drop (i + 1))).bind fun ys => .ok (y :: ys) else compR ft fe (xs.drop (i + 1)) from rfl, eb, R.ok_pu, R.ok_bind] at tot nbc
        cases r with
        | false =>
          rw [if_neg Bool.false_ne_true] at tot
          rw [if_neg Bool.false_ne_true]
          exact ⟨rfl, hlt, F4, ws, acc, (le2.trans le3).trans le4, hf4, hd.mono (le3.trans le4), by omega, tot⟩
        | true =>
          rw [if_pos rfl] at tot nbc
          rw [if_pos rfl]
          obtain ⟨y, ey⟩ := pu_nb (R.bind_nb nbc)
          refine he xs[i] F4 _ H4 σ2 _ hf4 (e2.mono le4) (by rw [ey]; intro z; cases z) (fun y' u F5 H5 ey' le5 hf5 hu => ?_) (fun c p d F5 H5 e => by rw [ey] at e; cases e)
          rw [ey] at ey'
          cases ey'
          rw [ey, R.ok_pu, R.ok_bind] at tot
          refine ⟨ws, hf5.o D _ upd_same, ?_, rfl, hlt, F5, ws ++ [u], acc ++ [y], ((le2.trans le3).trans le4).trans le5, ?_, ?_, by rw [List.length_append]; simp; omega, ?_⟩
          · rw [hd.length, List.length_map]
            exact sz_ltM (by omega)
          · have q := hf5.wr (o := .lst (ws ++ [u])) upd_same
            rw [upd_upd] at q
            exact q
          · rw [List.map_append]
            exact (hd.mono ((le3.trans le4).trans le5)).append (.cons hu .nil)
          · rw [← tot, R.bind_bind]
            simp only [R.ok_bind, List.append_assoc, List.cons_append, List.nil_append]
    · have e : i = xs.length := by omega
      subst e
      rw [List.drop_length] at tot
      have tot2 : compR ft fe xs = .ok acc := by
        rw [← tot]
        show R.ok (acc ++ []) = _
        rw [List.append_nil]
      have hFD : F2 D = none := hf2.own (o := .lst ws) upd_same
      exact .inl ⟨(hJ _ F2 (upd O D (.lst ws)) H2 le2 hf2).2 (Nat.le_refl _), ko acc _ F2 H2 tot2 (le1.trans le2) (hf2.weak leO) ⟨D, ws, rfl, hFD, hO1, hf2.o D _ upd_same, hd⟩⟩) fun c p d F' H' e => ke c p d F' H' (by rw [e]; rfl)
theorem eb_yes : EB cf E tYes G (.ok true) := EG.fin fun F O H σ Q hf he ko => ko _ F H (Le.refl F) hf rfl
end
end Kr

/-! KrE: statements by data, defs' promises. -/
namespace Kr
open PySem PySem.Spec PyProof.Rows L2
open Enc (toD)

/-- how a block ends: behind it, by break, by return -/
inductive Fl (S ρ : Type) where
  | nx (s : S)
  | bk (s : S)
  | rt (r : ρ)
def seqF {S T ρ : Type} (m : R (Fl S ρ)) (k : S → R (Fl T ρ)) : R (Fl T ρ) := m.bind fun
  | .nx s => k s
  | .bk _ => .bad
  | .rt r => .ok (.rt r)
def Mt (K : PySem.W.Frag) (F O H : Hp) (σ : L2.St) (G : List Sl) : Prop := ∃ O', Le O O' ∧ Fm F O' H ∧ Er K F O' σ G ∧
  (∀ (i : Nat) (s : Sl) (a : Addr), G[i]? = some s → s.own = true → σ[i]? = some (some (.ref a)) → O a = none) ∧
  (∀ (i j : Nat) (s t : Sl) (a : Addr), i ≠ j → G[i]? = some s → G[j]? = some t → s.own = true → t.own = true → σ[i]? = some (some (.ref a)) → σ[j]? = some (some (.ref a)) → False)
theorem Mt.fm {K : PySem.W.Frag} {F O H : Hp} {σ : L2.St} {G : List Sl} (h : Mt K F O H σ G) : Fm F O H := let ⟨_, l, f, _⟩ := h; f.weak l
def SB {S ρ : Type} [Enc ρ] (cf : Cf) (E : XK) (ts : TS) (G : List Sl) (enc : S → List Sl) (m : R (Fl S ρ)) : Prop :=
  ∀ (F O H : Hp) (σ : L2.St) (D : Ends), Mt cf.K F O H σ G → m ≠ .bad →
    (∀ s F' H' σ', m = .ok (.nx s) → Le F F' → Mt cf.K F' O H' σ' (enc s) → D.nx σ' H') →
    (∀ s F' H' σ', m = .ok (.bk s) → Le F F' → Mt cf.K F' O H' σ' (enc s) → D.bk σ' H') →
    (∀ r v F' H', m = .ok (.rt r) → Le F F' → Fm F' O H' → Dr cf.K F' v (toD r) → D.rt v H') →
    (∀ c p d F' H', m = .er c p → Le F F' → Fm F' O H' → F' d = some (xdO cf c p) → E (.ref (cf.cls c)) (some d) H') → ts D σ H
section
variable {cf : Cf} {E : XK} {G G' : List Sl} {S T α β γ ρ : Type} [Enc ρ] {ta tb te : TE} {t u : TS} {tc : TT} {enc : S → List Sl} {D : Ends}
theorem SB.cast {m n : R (Fl S ρ)} (h : SB cf E t G enc m) (e : m = n) : SB cf E t G enc n := e ▸ h
/-- an expression, then what comes with its value -/
theorem sb_of {α τ : Type} {r : L2.St → Hp → (τ → Hp → Prop) → Prop} {m : R α} {rel : Hp → Hp → Hp → τ → α → Prop} {f : α → R (Fl S ρ)} {k : τ → TS} (h : EG cf E r G m rel)
    (hk : ∀ (F O O' H : Hp) (σ : L2.St) (D : Ends) (a : α) (v : τ), Le O O' → Fm F O' H → Er cf.K F O' σ G →
      (∀ (i : Nat) (s : Sl) (a : Addr), G[i]? = some s → s.own = true → σ[i]? = some (some (.ref a)) → O a = none) →
      (∀ (i j : Nat) (s t : Sl) (a : Addr), i ≠ j → G[i]? = some s → G[j]? = some t → s.own = true → t.own = true → σ[i]? = some (some (.ref a)) → σ[j]? = some (some (.ref a)) → False) →
      rel F O' H v a → f a ≠ .bad →
      (∀ s F' H' σ', f a = .ok (.nx s) → Le F F' → Mt cf.K F' O H' σ' (enc s) → D.nx σ' H') →
      (∀ s F' H' σ', f a = .ok (.bk s) → Le F F' → Mt cf.K F' O H' σ' (enc s) → D.bk σ' H') →
      (∀ r v F' H', f a = .ok (.rt r) → Le F F' → Fm F' O H' → Dr cf.K F' v (toD r) → D.rt v H') →
      (∀ c p d F' H', f a = .er c p → Le F F' → Fm F' O H' → F' d = some (xdO cf c p) → E (.ref (cf.cls c)) (some d) H') → k v D σ H) :
    SB cf E (fun D σ H => r σ H fun v H1 => k v D σ H1) G enc (m.bind f) := fun F O H σ D hM nb kn kb kr ke => by
  obtain ⟨O', lo, hf, he, o1, o2⟩ := hM
  refine h F O' H σ _ hf he (R.bind_nb nb) (fun a v F' H' ea le hf' hr => ?_) (fun c p d F' H' e le hf' hd => ke c p d F' H' (by rw [e]; rfl) le (hf'.weak lo) hd)
  rw [ea, R.ok_bind] at nb kn kb kr ke
  exact hk F' O O' H' σ D a v lo hf' (he.mono le) o1 o2 hr nb (fun s F'' H'' σ' e le' => kn s F'' H'' σ' e (le.trans le')) (fun s F'' H'' σ' e le' => kb s F'' H'' σ' e (le.trans le')) (fun r v F'' H'' e le' => kr r v F'' H'' e (le.trans le'))
    fun c p d F'' H'' e le' => ke c p d F'' H'' e (le.trans le')
theorem sb_one {m : R (Fl S ρ)} (h : SB cf E (tSeq t tNext) G enc m) : SB cf E t G enc m := h
theorem sb_assoc {w' : TS} {m : R (Fl S ρ)} (h : SB cf E (tSeq t (tSeq u w')) G enc m) : SB cf E (tSeq (tSeq t u) w') G enc m := h
/-- what is known less -/
inductive Sub : List Sl → List Sl → Prop
  | nil : Sub [] []
  | same {s : Sl} {G G' : List Sl} : Sub G G' → Sub (s :: G) (s :: G')
  | drop {s : Sl} {G G' : List Sl} : Sub G G' → Sub (s :: G) (.un :: G')
theorem Sub.len : ∀ {G G' : List Sl}, Sub G G' → G.length = G'.length
  | _, _, .nil => rfl
  | _, _, .same h => by rw [List.length_cons, List.length_cons, Sub.len h]
  | _, _, .drop h => by rw [List.length_cons, List.length_cons, Sub.len h]
theorem Sub.at : ∀ {G G' : List Sl}, Sub G G' → ∀ (i : Nat) (s : Sl), G'[i]? = some s → s = .un ∨ G[i]? = some s
  | _, _, .nil, i, s, h => by simp at h
  | _, _, .same _, 0, s, h => .inr h
  | _, _, .same q, i + 1, s, h => by
    rcases Sub.at q i s (by simpa using h) with e | e
    · exact .inl e
    · exact .inr (by simpa using e)
  | _, _, .drop _, 0, s, h => by
    simp at h
    exact .inl h.symm
  | _, _, .drop q, i + 1, s, h => by
    rcases Sub.at q i s (by simpa using h) with e | e
    · exact .inl e
    · exact .inr (by simpa using e)
theorem Mt.sub {K : PySem.W.Frag} {F O H : Hp} {σ : L2.St} (q : Sub G G') (h : Mt K F O H σ G) : Mt K F O H σ G' := by
  obtain ⟨O', lo, hf, he, o1, o2⟩ := h
  refine ⟨O', lo, hf, ⟨he.len.trans q.len, fun i s e => ?_⟩, fun i s a e o => ?_, fun i j s t a hij e e' o o' => ?_⟩
  · rcases q.at i s e with z | z
    · rw [z]
      exact trivial
    · exact he.at' i s z
  · rcases q.at i s e with z | z
    · rw [z] at o
      cases o
    · exact o1 i s a z o
  · rcases q.at i s e with z | z
    · rw [z] at o
      cases o
    · rcases q.at j t e' with z' | z'
      · rw [z'] at o'
        cases o'
      · exact o2 i j s t a hij z z' o o'
theorem sb_sub {m : R (Fl S ρ)} (q : Sub G G') (h : SB cf E t G' enc m) : SB cf E t G enc m := fun F O H σ D hM => h F O H σ D (hM.sub q)
theorem sb_next (s : S) (q : Sub G (enc s)) : SB cf E tNext G enc (.ok (.nx s) : R (Fl S ρ)) := fun F O H σ D hM _ kn _ _ _ => kn s F H σ rfl (Le.refl F) (hM.sub q)
theorem sb_break (s : S) (q : Sub G (enc s)) : SB cf E tBreak G enc (.ok (.bk s) : R (Fl S ρ)) := fun F O H σ D hM _ _ kb _ _ => kb s F H σ rfl (Le.refl F) (hM.sub q)
theorem sb_break2 (s : S) (q : Sub G (enc s)) : SB cf E (tSeq tBreak u) G enc (.ok (.bk s) : R (Fl S ρ)) := fun F O H σ D hM _ _ kb _ _ => kb s F H σ rfl (Le.refl F) (hM.sub q)
theorem sb_ret {m : R ρ} (h : EM cf E te G m) : SB cf E (tRet te) G enc (m.bind fun r => .ok (.rt r)) :=
  sb_of (k := fun v D σ H => D.rt v H) h fun F O O' H σ D a v lo hf he o1 o2 hr nb kn kb kr ke => kr a v F H rfl (Le.refl F) (hf.weak lo) hr
theorem sb_ret2 {m : R ρ} (h : EM cf E te G m) : SB cf E (tSeq (tRet te) u) G enc (m.bind fun r => .ok (.rt r)) :=
  sb_of (k := fun v D σ H => D.rt v H) h fun F O O' H σ D a v lo hf he o1 o2 hr nb kn kb kr ke => kr a v F H rfl (Le.refl F) (hf.weak lo) hr
/-- target = e, then u -/
theorem sb_asg [Enc α] {g : TG} {up : α → List Sl → List Sl} {js : List Nat} {m : R α} {f : α → R (Fl S ρ)} (h : EM cf E te G m) (hg : AG cf g up js) (G' : α → List Sl) (hG : ∀ a, up a G = G' a) (hk : ∀ a, SB cf E u (G' a) enc (f a)) :
    SB cf E (tSeq (tAsg te g) u) G enc (m.bind f) :=
  sb_of (k := fun v D σ H => g v σ H (u D)) h fun F O O' H σ D a v lo hf he o1 o2 hr nb kn kb kr ke => hg F O' H σ G v a _ hf he hr fun σ' e' own _ => by
    rw [hG] at e' own
    refine hk a F O H σ' D ⟨O', lo, hf, e', fun i s b q o => ?_, fun i j s t b hij q q' o o' => ?_⟩ nb kn kb kr ke
    · obtain ⟨q1, q2⟩ := own i s q o
      rw [q2]
      exact o1 i s b q1 o
    · obtain ⟨q1, q2⟩ := own i s q o
      obtain ⟨q3, q4⟩ := own j t q' o'
      rw [q2, q4]
      exact o2 i j s t b hij q1 q3 o o'
theorem aug_eq {i : Nat} {ti : TIp} : tAug i te ti = tAsg (tOp ti (tVar i) te) (gName i) := rfl
theorem sb_aug [Enc α] {i : Nat} {ti : TIp} {m : R α} {f : α → R (Fl S ρ)} (h : EM cf E (tOp ti (tVar i) te) G m) (G' : α → List Sl) (hG : ∀ a, G.set i (.va (toD a)) = G' a) (hk : ∀ a, SB cf E u (G' a) enc (f a)) :
    SB cf E (tSeq (tAug i te ti) u) G enc (m.bind f) := sb_asg h (ag_name i) G' hG hk
/-- x = a new list, owned -/
theorem er_own {K : PySem.W.Frag} {F O : Hp} {σ : L2.St} (h : Er K F O σ G) (i : Nat) {v : V} {s : Sl} (r : SlOk K F O (some (some v)) s) : Er K F O (σ.set i (some v)) (G.set i s) := by
  refine ⟨by rw [List.length_set, List.length_set, h.len], fun j t e => ?_⟩
  by_cases hj : i = j
  · subst hj
    by_cases hl : i < G.length
    · rw [List.getElem?_set_self hl] at e
      cases e
      rw [List.getElem?_set_self (by rw [h.len]; exact hl)]
      exact r
    · rw [List.getElem?_eq_none (by rw [List.length_set]; omega)] at e
      cases e
  · rw [List.getElem?_set_ne hj] at e ⊢
    exact h.at' j t e
theorem get_set {A : Type} {l : List A} {i j : Nat} {x y : A} (h : (l.set i x)[j]? = some y) : (i = j ∧ y = x ∧ i < l.length) ∨ (i ≠ j ∧ l[j]? = some y) := by
  by_cases hj : i = j
  · subst hj
    by_cases hl : i < l.length
    · rw [List.getElem?_set_self hl] at h
      cases h
      exact .inl ⟨rfl, rfl, hl⟩
    · rw [List.getElem?_eq_none (by rw [List.length_set]; omega)] at h
      cases h
  · rw [List.getElem?_set_ne hj] at h
    exact .inr ⟨hj, h⟩
/-- the slot i owns a new object at a -/
theorem mt_new {K : PySem.W.Frag} {F O O' H : Hp} {σ : L2.St} {i : Nat} {a : Addr} {o : HO} {s : Sl} (lo : Le O O') (hf : Fm F O' H) (he : Er K F O' σ G)
    (o1 : ∀ (i : Nat) (s : Sl) (a : Addr), G[i]? = some s → s.own = true → σ[i]? = some (some (.ref a)) → O a = none)
    (o2 : ∀ (i j : Nat) (s t : Sl) (a : Addr), i ≠ j → G[i]? = some s → G[j]? = some t → s.own = true → t.own = true → σ[i]? = some (some (.ref a)) → σ[j]? = some (some (.ref a)) → False)
    (hF : F a = none) (hO : O' a = none) (hH : H a = some o) (hs : SlOk K F (upd O' a o) (some (some (.ref a))) s) : Mt K F O H (σ.set i (some (.ref a))) (G.set i s) := by
  have loa : O a = none := lo.free hO
  have hf2 : Fm F (upd O' a o) H := by
    refine ⟨hf.f, fun b u q => ?_, fun b q => ?_⟩
    · by_cases hb : b = a
      · subst hb
        rw [upd_same] at q
        rw [hH]
        exact q
      · rw [upd_ne hb] at q
        exact hf.o b u q
    · have hb : b ≠ a := fun z => q (by rw [z]; exact hF)
      rw [upd_ne hb]
      exact hf.ds b q
  -- no slot that owns holds a
  have na : ∀ (j : Nat) (t : Sl), G[j]? = some t → t.own = true → σ[j]? = some (some (.ref a)) → False := fun j t e o q => by
    have := he.at' j t e
    cases t with
    | un => cases o
    | va d => cases o
    | ol ds =>
      obtain ⟨b, vs, e1, e2, _⟩ := this
      rw [q] at e1
      cases e1
      rw [hO] at e2
      cases e2
    | od ds =>
      obtain ⟨b, vs, e1, e2, _⟩ := this
      rw [q] at e1
      cases e1
      rw [hO] at e2
      cases e2
  refine ⟨upd O' a o, lo.trans (Le.new hO), hf2, er_own (he.monoO (Le.new hO)) i hs, fun j t b e ow q => ?_, fun j l t t' b hjl e e' ow ow' q q' => ?_⟩
  · rcases get_set q with ⟨rfl, e1, _⟩ | ⟨hj, q⟩
    · cases e1
      exact loa
    · rcases get_set e with ⟨rfl, _, _⟩ | ⟨_, e⟩
      · exact absurd rfl hj
      · exact o1 j t b e ow q
  · rcases get_set e with ⟨rfl, rfl, hl⟩ | ⟨hj, e1⟩
    · rw [List.getElem?_set_self (by rw [he.len]; exact hl)] at q
      cases q
      rcases get_set e' with ⟨rfl, _, _⟩ | ⟨hl', e'⟩
      · exact hjl rfl
      · rw [List.getElem?_set_ne hl'] at q'
        exact na l t' e' ow' q'
    · rw [List.getElem?_set_ne hj] at q
      rcases get_set e' with ⟨rfl, rfl, hl⟩ | ⟨hl', e2⟩
      · rw [List.getElem?_set_self (by rw [he.len]; exact hl)] at q'
        cases q'
        exact na j t e1 ow q
      · rw [List.getElem?_set_ne hl'] at q'
        exact o2 j l t t' b hjl e1 e2 ow ow' q q'
theorem sb_asgO [Enc α] {i : Nat} {m : R (List α)} {f : List α → R (Fl S ρ)} (h : EF cf E te G m) (G' : List α → List Sl) (hG : ∀ xs : List α, G.set i (.ol (xs.map toD)) = G' xs) (hk : ∀ xs, SB cf E u (G' xs) enc (f xs)) :
    SB cf E (tSeq (tAsg te (gName i)) u) G enc (m.bind f) :=
  sb_of (k := fun v D σ H => u D (σ.set i (some v)) H) h fun F O O' H σ D xs v lo hf he o1 o2 hr nb kn kb kr ke => by
    obtain ⟨a, vs, rfl, hF, hO, hH, hd⟩ := hr
    refine hk xs F O H _ D ?_ nb kn kb kr ke
    rw [← hG]
    exact mt_new lo hf he o1 o2 hF hO hH ⟨a, vs, rfl, upd_same, hd⟩
/-- the owned object of the slot i changes -/
theorem mt_wr {K : PySem.W.Frag} {F O O' H : Hp} {σ : L2.St} {i : Nat} {a : Addr} {o u : HO} {s s0 : Sl} (lo : Le O O') (hf : Fm F O' H) (he : Er K F O' σ G)
    (o1 : ∀ (i : Nat) (s : Sl) (a : Addr), G[i]? = some s → s.own = true → σ[i]? = some (some (.ref a)) → O a = none)
    (o2 : ∀ (i j : Nat) (s t : Sl) (a : Addr), i ≠ j → G[i]? = some s → G[j]? = some t → s.own = true → t.own = true → σ[i]? = some (some (.ref a)) → σ[j]? = some (some (.ref a)) → False)
    (h0 : G[i]? = some s0) (w0 : s0.own = true) (hσ : σ[i]? = some (some (.ref a))) (hO : O' a = some u) (ws : s.own = true) (hs : SlOk K F (upd O' a o) (some (some (.ref a))) s) : Mt K F O (upd H a o) σ (G.set i s) := by
  have hOa : O a = none := o1 i s0 a h0 w0 hσ
  refine ⟨upd O' a o, fun b x q => ?_, hf.wr hO, ⟨by rw [List.length_set, he.len], fun j t e => ?_⟩, fun j t b e ow q => ?_, fun j l t t' b hjl e e' ow ow' q q' => ?_⟩
  · rw [upd_ne (ne_of_none q hOa)]
    exact lo b x q
  · rcases get_set e with ⟨rfl, rfl, _⟩ | ⟨hj, e⟩
    · rw [hσ]
      exact hs
    · have := he.at' j t e
      cases t with
      | un => trivial
      | va d => exact this
      | ol ds =>
        obtain ⟨b, vs, e1, e2, e3⟩ := this
        have hb : b ≠ a := fun z => o2 i j s0 (.ol ds) a hj h0 e w0 rfl hσ (by rw [e1, z])
        exact ⟨b, vs, e1, by rw [upd_ne hb]; exact e2, e3⟩
      | od ds =>
        obtain ⟨b, vs, e1, e2, e3⟩ := this
        have hb : b ≠ a := fun z => o2 i j s0 (.od ds) a hj h0 e w0 rfl hσ (by rw [e1, z])
        exact ⟨b, vs, e1, by rw [upd_ne hb]; exact e2, e3⟩
  · rcases get_set e with ⟨rfl, rfl, _⟩ | ⟨hj, e⟩
    · exact o1 i s0 b h0 w0 q
    · exact o1 j t b e ow q
  · rcases get_set e with ⟨rfl, rfl, _⟩ | ⟨hj, e1⟩
    · rcases get_set e' with ⟨rfl, _, _⟩ | ⟨hl, e2⟩
      · exact hjl rfl
      · exact o2 i l s0 t' b hjl h0 e2 w0 ow' q q'
    · rcases get_set e' with ⟨rfl, rfl, _⟩ | ⟨hl, e2⟩
      · exact o2 j i t s0 b hjl e1 h0 ow w0 q q'
      · exact o2 j l t t' b hjl e1 e2 ow ow' q q'
/-- x.append(e), x owned -/
theorem sb_app [Enc α] {i : Nat} {m : R α} {xs : List α} {f : List α → R (Fl S ρ)} (h0 : G[i]? = some (.ol (xs.map toD))) (h : EM cf E te G m) (G' : List α → List Sl) (hG : ∀ xs : List α, G.set i (.ol (xs.map toD)) = G' xs) (hk : ∀ xs, SB cf E u (G' xs) enc (f xs)) :
    SB cf E (tSeq (tDrop (tBM cf.K "list" rAppend (tVar i) (tCons te tNil))) u) G enc (m.bind fun a => (szR (xs ++ [a])).bind f) := fun F O H σ D hM nb kn kb kr ke => by
  obtain ⟨O', lo, hf, he, o1, o2⟩ := hM
  obtain ⟨a, vs, eσ, eO, hd⟩ := he.at' i _ h0
  refine ⟨_, eσ, .inl ⟨rfl, vs, SqL.of (hf.o _ _ eO)⟩, ?_⟩
  refine h F O' H σ _ hf he (R.bind_nb nb) (fun x v F' H' ex le hf' hr => ?_) (fun c p d F' H' e le hf' hd => ke c p d F' H' (by rw [e]; rfl) le (hf'.weak lo) hd)
  rw [ex, R.ok_bind] at nb kn kb kr ke
  obtain ⟨c, ec⟩ := szR_nb (R.bind_nb nb)
  rw [ec, R.ok_bind] at nb kn kb kr ke
  refine ⟨a, vs, v, rfl, rfl, hf'.o _ _ eO, ?_, ?_⟩
  · rw [hd.length, List.length_map]
    rw [List.length_append] at c
    exact sz_ltM (by omega)
  · refine hk _ F' O _ σ D ?_ nb (fun s F'' H'' σ' e le' => kn s F'' H'' σ' e (le.trans le')) (fun s F'' H'' σ' e le' => kb s F'' H'' σ' e (le.trans le')) (fun r v F'' H'' e le' => kr r v F'' H'' e (le.trans le')) fun c p d F'' H'' e le' => ke c p d F'' H'' e (le.trans le')
    rw [← hG]
    exact mt_wr lo hf' (he.mono le) o1 o2 h0 rfl eσ eO rfl ⟨a, _, rfl, upd_same, by
      rw [List.map_append]
      exact (hd.mono le).append (.cons hr .nil)⟩
/-- x.extend(e), x owned -/
theorem sb_ext [Enc α] {i : Nat} {m : R (List α)} {xs : List α} {f : List α → R (Fl S ρ)} (h0 : G[i]? = some (.ol (xs.map toD))) (h : EL cf E te G m) (G' : List α → List Sl) (hG : ∀ xs : List α, G.set i (.ol (xs.map toD)) = G' xs) (hk : ∀ xs, SB cf E u (G' xs) enc (f xs)) :
    SB cf E (tSeq (tDrop (tBM cf.K "list" rExtend (tVar i) (tCons te tNil))) u) G enc (m.bind fun ys => (szR (xs ++ ys)).bind f) := fun F O H σ D hM nb kn kb kr ke => by
  obtain ⟨O', lo, hf, he, o1, o2⟩ := hM
  obtain ⟨a, vs, eσ, eO, hd⟩ := he.at' i _ h0
  refine ⟨_, eσ, .inl ⟨rfl, vs, SqL.of (hf.o _ _ eO)⟩, ?_⟩
  refine h F O' H σ _ hf he (R.bind_nb nb) (fun ys v F' H' ex le hf' hr => ?_) (fun c p d F' H' e le hf' hd => ke c p d F' H' (by rw [e]; rfl) le (hf'.weak lo) hd)
  rw [ex, R.ok_bind] at nb kn kb kr ke
  obtain ⟨c, ec⟩ := szR_nb (R.bind_nb nb)
  rw [ec, R.ok_bind] at nb kn kb kr ke
  obtain ⟨b, ws, eb, hb, hw⟩ := RL.at hr hf'
  refine ⟨a, b, vs, ws, rfl, by rw [eb], hf'.o _ _ eO, hb, ?_, ?_⟩
  · rw [hd.length, hw.length, List.length_map, List.length_map, ← List.length_append]
    exact sz_le c
  · refine hk _ F' O _ σ D ?_ nb (fun s F'' H'' σ' e le' => kn s F'' H'' σ' e (le.trans le')) (fun s F'' H'' σ' e le' => kb s F'' H'' σ' e (le.trans le')) (fun r v F'' H'' e le' => kr r v F'' H'' e (le.trans le')) fun c p d F'' H'' e le' => ke c p d F'' H'' e (le.trans le')
    rw [← hG]
    exact mt_wr lo hf' (he.mono le) o1 o2 h0 rfl eσ eO rfl ⟨a, _, rfl, upd_same, by
      rw [List.map_append]
      exact (hd.mono le).append hw⟩
/-- x.reverse(), x owned -/
theorem sb_rev [Enc α] {i : Nat} {xs : List α} {m : R (Fl S ρ)} (h0 : G[i]? = some (.ol (xs.map toD))) (G' : List Sl) (hG : G.set i (.ol (xs.reverse.map toD)) = G') (hk : SB cf E u G' enc m) :
    SB cf E (tSeq (tDrop (tBM0 cf.K "list" rReverse (tVar i))) u) G enc m := fun F O H σ D hM nb kn kb kr ke => by
  obtain ⟨O', lo, hf, he, o1, o2⟩ := hM
  obtain ⟨a, vs, eσ, eO, hd⟩ := he.at' i _ h0
  refine ⟨_, eσ, .inl ⟨rfl, vs, SqL.of (hf.o _ _ eO)⟩, a, vs, rfl, rfl, hf.o _ _ eO, ?_⟩
  refine hk F O _ σ D ?_ nb kn kb kr ke
  rw [← hG]
  exact mt_wr lo hf he o1 o2 h0 rfl eσ eO rfl ⟨a, _, rfl, upd_same, by
    rw [List.map_reverse]
    exact hd.reverse⟩
/-- target = x.pop(), x owned -/
def popR (xs : List α) : R (List α × α) := match xs.getLast? with
  | some x => .ok (xs.dropLast, x)
  | none => .bad
theorem sb_pop [Enc α] {i : Nat} {g : TG} {up : α → List Sl → List Sl} {js : List Nat} {xs : List α} {f : List α × α → R (Fl S ρ)} (h0 : G[i]? = some (.ol (xs.map toD))) (hg : AG cf g up js) (G' : List α × α → List Sl)
    (hG : ∀ p : List α × α, up p.2 (G.set i (.ol (p.1.map toD))) = G' p) (hk : ∀ p, SB cf E u (G' p) enc (f p)) :
    SB cf E (tSeq (tAsg (tBM0 cf.K "list" rPop (tVar i)) g) u) G enc ((popR xs).bind f) := fun F O H σ D hM nb kn kb kr ke => by
  obtain ⟨O', lo, hf, he, o1, o2⟩ := hM
  obtain ⟨a, vs, eσ, eO, hd⟩ := he.at' i _ h0
  cases hl : xs.getLast? with
  | none =>
    unfold popR at nb
    rw [hl] at nb
    exact absurd rfl nb
  | some x =>
    have ep : popR xs = .ok (xs.dropLast, x) := by
      unfold popR
      rw [hl]
    rw [ep, R.ok_bind] at nb kn kb kr ke
    rw [List.getLast?_eq_getElem?] at hl
    obtain ⟨v, hv, hr⟩ := hd.get (show (xs.map toD)[xs.length - 1]? = some (toD x) by rw [List.getElem?_map, hl]; rfl)
    have hlen : vs.length = xs.length := by rw [hd.length, List.length_map]
    refine ⟨_, eσ, .inl ⟨rfl, vs, SqL.of (hf.o _ _ eO)⟩, a, vs, v, rfl, rfl, hf.o _ _ eO, by rw [hlen]; exact hv, ?_⟩
    have hM2 : Mt cf.K F O (upd H a (.lst vs.dropLast)) σ (G.set i (.ol (xs.dropLast.map toD))) := mt_wr lo hf he o1 o2 h0 rfl eσ eO rfl ⟨a, _, rfl, upd_same, by
      rw [List.map_dropLast]
      exact hd.dropLast⟩
    obtain ⟨O2, lo2, hf2, he2, o12, o22⟩ := hM2
    refine hg F O2 _ σ _ v x _ hf2 he2 hr fun σ' e' own _ => ?_
    have hG' := hG (xs.dropLast, x)
    rw [hG'] at e' own
    refine hk _ F O _ σ' D ⟨O2, lo2, hf2, e', fun i s b q o => ?_, fun i j s t b hij q q' o o' => ?_⟩ nb kn kb kr ke
    · obtain ⟨q1, q2⟩ := own i s q o
      rw [q2]
      exact o12 i s b q1 o
    · obtain ⟨q1, q2⟩ := own i s q o
      obtain ⟨q3, q4⟩ := own j t q' o'
      rw [q2, q4]
      exact o22 i j s t b hij q1 q3 o o'
/-- x[k] = e, x owned -/
def setR (xs : List α) (k : Int) (a : α) : R (List α) := match ixN xs.length k with
  | some j => .ok (xs.set j a)
  | none => .bad
theorem sb_setL [Enc α] {i : Nat} {tk : TE} {m : R α} {n : R Int} {xs : List α} {f : List α → R (Fl S ρ)} (h0 : G[i]? = some (.ol (xs.map toD))) (h : EM cf E te G m) (hi : EM cf E tk G n) (G' : List α → List Sl) (hG : ∀ xs : List α, G.set i (.ol (xs.map toD)) = G' xs) (hk : ∀ xs, SB cf E u (G' xs) enc (f xs)) :
    SB cf E (tSeq (tAsg te (gSub (tVar i) tk rSetL)) u) G enc (m.bind fun a => n.bind fun k => (setR xs k a).bind f) := fun F O H σ D hM nb kn kb kr ke => by
  obtain ⟨O', lo, hf, he, o1, o2⟩ := hM
  obtain ⟨a, vs, eσ, eO, hd⟩ := he.at' i _ h0
  refine h F O' H σ _ hf he (R.bind_nb nb) (fun x v F1 H1 ex le1 hf1 hr => ?_) (fun c p d F' H' e le hf' hd => ke c p d F' H' (by rw [e]; rfl) le (hf'.weak lo) hd)
  rw [ex, R.ok_bind] at nb kn kb kr ke
  refine ⟨_, eσ, ?_⟩
  refine hi F1 O' H1 σ _ hf1 (he.mono le1) (R.bind_nb nb) (fun k w' F' H' ek le2 hf' hw => ?_) (fun c p d F' H' e le hf' hd => ke c p d F' H' (by rw [e]; rfl) (le1.trans le) (hf'.weak lo) hd)
  rw [ek, R.ok_bind] at nb kn kb kr ke
  cases hx : ixN xs.length k with
  | none =>
    unfold setR at nb
    rw [hx] at nb
    exact absurd rfl nb
  | some j =>
    have es : setR xs k x = .ok (xs.set j x) := by
      unfold setR
      rw [hx]
    rw [es, R.ok_bind] at nb kn kb kr ke
    have le := le1.trans le2
    refine ⟨a, vs, k, j, rfl, dr_int hw, hf'.o _ _ eO, by rw [hd.length, List.length_map]; exact hx, ?_⟩
    refine hk _ F' O _ σ D ?_ nb (fun s F'' H'' σ' e le' => kn s F'' H'' σ' e (le.trans le')) (fun s F'' H'' σ' e le' => kb s F'' H'' σ' e (le.trans le')) (fun r v F'' H'' e le' => kr r v F'' H'' e (le.trans le')) fun c p d F'' H'' e le' => ke c p d F'' H'' e (le.trans le')
    rw [← hG]
    exact mt_wr lo hf' (he.mono le) o1 o2 h0 rfl eσ eO rfl ⟨a, _, rfl, upd_same, by
      rw [List.map_set]
      exact (hd.mono le).set (hr.mono le2) j⟩
def era (H : Hp) (a : Addr) : Hp := fun b => if b = a then none else H b
theorem era_ne {H : Hp} {a b : Addr} (h : b ≠ a) : era H a b = H b := if_neg h
theorem era_same {H : Hp} {a : Addr} : era H a a = none := if_pos rfl
/-- what is owned becomes data -/
theorem sb_frz {i : Nat} {ds : List Dt} {m : R (Fl S ρ)} (h0 : G[i]? = some (.ol ds)) (G' : List Sl) (hG : G.set i (.va (.lst ds)) = G') (h : SB cf E t G' enc m) : SB cf E t G enc m := fun F O H σ D hM nb kn kb kr ke => by
  obtain ⟨O', lo, hf, he, o1, o2⟩ := hM
  obtain ⟨a, vs, eσ, eO, hd⟩ := he.at' i _ h0
  have hF : F a = none := hf.own eO
  have hOa : O a = none := o1 i _ a h0 rfl eσ
  have le : Le F (upd F a (.lst vs)) := Le.new hF
  have hdel : ∀ b o, b ≠ a → O' b = some o → era O' a b = some o := fun b o hb q => by rw [era_ne hb]; exact q
  have hM2 : Mt cf.K (upd F a (.lst vs)) O H σ G' := by
    refine ⟨era O' a, fun b x q => hdel b x (ne_of_none q hOa) (lo b x q), ⟨fun b x q => ?_, fun b x q => ?_, fun b q => ?_⟩, ⟨?_, fun j s e => ?_⟩, fun j t b e ow q => ?_, fun j l t t' b hjl e e' ow ow' q q' => ?_⟩
    · by_cases hb : b = a
      · subst hb
        rw [upd_same] at q
        rw [hf.o _ _ eO]
        exact q
      · rw [upd_ne hb] at q
        exact hf.f b x q
    · by_cases hb : b = a
      · subst hb
        rw [era_same] at q
        cases q
      · rw [era_ne hb] at q
        exact hf.o b x q
    · by_cases hb : b = a
      · subst hb
        exact era_same
      · rw [upd_ne hb] at q
        rw [era_ne hb]
        exact hf.ds b q
    · rw [← hG, List.length_set, he.len]
    · rw [← hG] at e
      rcases get_set e with ⟨rfl, rfl, _⟩ | ⟨hj, e⟩
      · exact ⟨_, eσ, .lst upd_same (hd.mono le)⟩
      · have := (he.at' j s e).mono le
        cases s with
        | un => trivial
        | va d => exact this
        | ol es =>
          obtain ⟨b, ws, e1, e2, e3⟩ := this
          have hb : b ≠ a := fun z => o2 i j _ (.ol es) a hj h0 e rfl rfl eσ (by rw [e1, z])
          exact ⟨b, ws, e1, hdel b _ hb e2, e3⟩
        | od es =>
          obtain ⟨b, ws, e1, e2, e3⟩ := this
          have hb : b ≠ a := fun z => o2 i j _ (.od es) a hj h0 e rfl rfl eσ (by rw [e1, z])
          exact ⟨b, ws, e1, hdel b _ hb e2, e3⟩
    · rw [← hG] at e
      rcases get_set e with ⟨rfl, rfl, _⟩ | ⟨hj, e⟩
      · cases ow
      · exact o1 j t b e ow q
    · rw [← hG] at e e'
      rcases get_set e with ⟨rfl, rfl, _⟩ | ⟨hj, e⟩
      · cases ow
      · rcases get_set e' with ⟨rfl, rfl, _⟩ | ⟨hl, e'⟩
        · cases ow'
        · exact o2 j l t t' b hjl e e' ow ow' q q'
  exact h _ O H σ D hM2 nb (fun s F'' H'' σ' e le' => kn s F'' H'' σ' e (le.trans le')) (fun s F'' H'' σ' e le' => kb s F'' H'' σ' e (le.trans le')) (fun r v F'' H'' e le' => kr r v F'' H'' e (le.trans le')) fun c p d F'' H'' e le' => ke c p d F'' H'' e (le.trans le')

/-! ### ifs, blocks -/
theorem sb_if {w' : TS} {mc : R Bool} {m1 m2 : R (Fl S ρ)} (hc : EB cf E tc G mc) (h1 : SB cf E (tSeq t w') G enc m1) (h2 : SB cf E (tSeq u w') G enc m2) : SB cf E (tSeq (tIfS tc t u) w') G enc (mc.bind fun c => if c = true then m1 else m2) :=
  sb_of (k := fun b D σ H => if b = true then t { D with nx := w' D } σ H else u { D with nx := w' D } σ H) hc fun F O O' H σ D a v lo hf he o1 o2 hr nb kn kb kr ke => by
    obtain rfl : v = a := hr
    cases v with
    | true => exact h1 F O H σ D ⟨O', lo, hf, he, o1, o2⟩ nb kn kb kr ke
    | false => exact h2 F O H σ D ⟨O', lo, hf, he, o1, o2⟩ nb kn kb kr ke
/-- the last statement of a block -/
theorem sb_ifL {mc : R Bool} {m1 m2 : R (Fl S ρ)} (hc : EB cf E tc G mc) (h1 : SB cf E t G enc m1) (h2 : SB cf E u G enc m2) : SB cf E (tIfS tc t u) G enc (mc.bind fun c => if c = true then m1 else m2) := sb_if (w' := tNext) hc h1 h2
/-- a block, then the rest -/
theorem sb_seq {enc1 : T → List Sl} {m : R (Fl T ρ)} {k : T → R (Fl S ρ)} (h : SB cf E t G enc1 m) (hk : ∀ s, SB cf E u (enc1 s) enc (k s)) : SB cf E (tSeq t u) G enc (seqF m k) := fun F O H σ D hM nb kn kb kr ke =>
  h F O H σ { D with nx := u D } hM (R.bind_nb nb) (fun s F' H' σ' e le hM' => by
      unfold seqF at nb kn kb kr ke
      rw [e, R.ok_bind] at nb kn kb kr ke
      exact hk s F' O H' σ' D hM' nb (fun s F'' H'' σ' e le' => kn s F'' H'' σ' e (le.trans le')) (fun s F'' H'' σ' e le' => kb s F'' H'' σ' e (le.trans le')) (fun r v F'' H'' e le' => kr r v F'' H'' e (le.trans le')) fun c p d F'' H'' e le' => ke c p d F'' H'' e (le.trans le'))
    (fun s F' H' σ' e le hM' => by
      unfold seqF at nb
      rw [e, R.ok_bind] at nb
      exact absurd rfl nb)
    (fun r v F' H' e le hf hr => kr r v F' H' (by unfold seqF; rw [e]; rfl) le hf hr) fun c p d F' H' e le hf hd => ke c p d F' H' (by unfold seqF; rw [e]; rfl) le hf hd

/-! ### loops -/
def forR (step : T → α → R (Fl T ρ)) (k : T → R (Fl S ρ)) : List α → T → R (Fl S ρ)
  | [], s => k s
  | x :: r, s => (step s x).bind fun
    | .nx s' => forR step k r s'
    | .bk s' => k s'
    | .rt v => .ok (.rt v)
theorem sb_for [Enc α] {wi : TI} {g : TG} {tb : TS} {up : α → List Sl → List Sl} {js : List Nat} {m : R (List α)} {encL : T → List Sl} {step : T → α → R (Fl T ρ)} {k : T → R (Fl S ρ)} (hi : IG cf E wi G m) (hg : AG cf g up js) (s0 : T) (h0 : Sub G (encL s0))
    (Gi : T → α → List Sl) (hG : ∀ s a, up a (encL s) = Gi s a) (hb : ∀ s a, SB cf E tb (Gi s a) encL (step s a)) (hk : ∀ s, SB cf E u (encL s) enc (k s)) :
    SB cf E (tSeq (tFor wi g tb) u) G enc (m.bind fun xs => forR step k xs s0) := fun F O H σ D hM nb kn kb kr ke => by
  obtain ⟨O0, lo, hf, he, o1, o2⟩ := hM
  refine hi F O0 H σ _ hf he (R.bind_nb nb) (fun xs J F1 H1 em le1 hf1 hJ => ?_) (fun c p d F' H' e le hf' hd => ke c p d F' H' (by rw [e]; rfl) le (hf'.weak lo) hd)
  rw [em, R.ok_bind] at nb kn kb kr ke
  have hM1 : Mt cf.K F1 O H1 σ G := ⟨O0, lo, hf1, he.mono le1, o1, o2⟩
  let W : Nat → Nat → L2.St → Hp → Prop := fun i mm σ H => mm = xs.length - i ∧ i ≤ xs.length ∧ ∃ (F2 : Hp) (s : T), Le F1 F2 ∧ Mt cf.K F2 O H σ (encL s) ∧ forR step k (xs.drop i) s = forR step k xs s0
  refine ⟨W, ⟨xs.length, by simp, Nat.zero_le _, F1, s0, Le.refl F1, hM1.sub h0, by rw [List.drop_zero]⟩, ?_⟩
  rintro i mm σ2 H2 ⟨rfl, hi, F2, s, le2, hM2, tot⟩
  by_cases hlt : i < xs.length
  · have hx : xs[i]? = some xs[i] := List.getElem?_eq_getElem hlt
    rw [List.drop_eq_getElem_cons hlt] at tot
    rw [← tot] at nb kn kb kr ke
    obtain ⟨O2, lo2, hf2, he2, o12, o22⟩ := hM2
    obtain ⟨hgo, hyl⟩ := (hJ i F2 O2 H2 le2 hf2).1 _ hx
    refine .inr ⟨hgo, fun σ H => W (i + 1) (xs.length - (i + 1)) σ H, fun σ' H' h' => ⟨_, by omega, h'⟩, fun v H3 hy => ?_⟩
    obtain ⟨F3, le3, hf3, hv⟩ := hyl v H3 hy
    refine hg F3 O2 H3 σ2 _ v xs[i] _ hf3 (he2.mono le3) hv fun σ3 e3 own _ => ?_
    rw [hG] at e3 own
    have hM3 : Mt cf.K F3 O H3 σ3 (Gi s xs[i]) := ⟨O2, lo2, hf3, e3, fun i s b q o => by
        obtain ⟨q1, q2⟩ := own i s q o
        rw [q2]
        exact o12 i s b q1 o, fun i j s t b hij q q' o o' => by
        obtain ⟨q1, q2⟩ := own i s q o
        obtain ⟨q3, q4⟩ := own j t q' o'
        rw [q2, q4]
        exact o22 i j s t b hij q1 q3 o o'⟩
    have le13 := (le1.trans le2).trans le3
    refine hb s xs[i] F3 O H3 σ3 _ hM3 (R.bind_nb nb) (fun s' F4 H4 σ4 e le4 hM4 => ?_) (fun s' F4 H4 σ4 e le4 hM4 => ?_) (fun r v F4 H4 e le4 hf4 hr => ?_) (fun c p d F4 H4 e le4 hf4 hd => ?_)
    · refine ⟨rfl, hlt, F4, s', (le2.trans le3).trans le4, hM4, ?_⟩
      rw [← tot]
      show _ = (step s xs[i]).bind _
      rw [e]
      rfl
    · have en : forR step k (xs[i] :: xs.drop (i + 1)) s = k s' := by
        show (step s xs[i]).bind _ = _
        rw [e]
        rfl
      rw [en] at nb kn kb kr ke
      have le14 := le13.trans le4
      exact hk s' F4 O H4 σ4 D hM4 nb (fun s F'' H'' σ' e le' => kn s F'' H'' σ' e (le14.trans le')) (fun s F'' H'' σ' e le' => kb s F'' H'' σ' e (le14.trans le')) (fun r v F'' H'' e le' => kr r v F'' H'' e (le14.trans le')) fun c p d F'' H'' e le' => ke c p d F'' H'' e (le14.trans le')
    · exact kr r v F4 H4 (by show (step s xs[i]).bind _ = _; rw [e]; rfl) (le13.trans le4) hf4 hr
    · exact ke c p d F4 H4 (by show (step s xs[i]).bind _ = _; rw [e]; rfl) (le13.trans le4) hf4 hd
  · have e : i = xs.length := by omega
    subst e
    rw [List.drop_length] at tot
    have tot2 : forR step k xs s0 = k s := tot.symm
    rw [tot2] at nb kn kb kr ke
    obtain ⟨O2, lo2, hf2, he2, o12, o22⟩ := id hM2
    have le12 := le1.trans le2
    exact .inl ⟨(hJ _ F2 O2 H2 le2 hf2).2 (Nat.le_refl _), hk s F2 O H2 σ2 D hM2 nb (fun s F'' H'' σ' e le' => kn s F'' H'' σ' e (le12.trans le')) (fun s F'' H'' σ' e le' => kb s F'' H'' σ' e (le12.trans le')) (fun r v F'' H'' e le' => kr r v F'' H'' e (le12.trans le')) fun c p d F'' H'' e le' => ke c p d F'' H'' e (le12.trans le')⟩
/-- while: fuel, what is tested, the body -/
def whileR (c : T → R Bool) (step : T → R (Fl T ρ)) (k : T → R (Fl S ρ)) : Nat → T → R (Fl S ρ)
  | 0, _ => .bad
  | n + 1, s => (c s).bind fun b => if b = true then (step s).bind fun
      | .nx s' => whileR c step k n s'
      | .bk s' => k s'
      | .rt v => .ok (.rt v) else k s
theorem sb_while {tb : TS} {encL : T → List Sl} {c : T → R Bool} {step : T → R (Fl T ρ)} {k : T → R (Fl S ρ)} (n : Nat) (s0 : T) (h0 : Sub G (encL s0)) (hc : ∀ s, EB cf E tc (encL s) (c s)) (hb : ∀ s, SB cf E tb (encL s) encL (step s)) (hk : ∀ s, SB cf E u (encL s) enc (k s)) :
    SB cf E (tSeq (tWhile tc tb) u) G enc (whileR c step k n s0) := fun F O H σ D hM nb kn kb kr ke => by
  let W : Nat → L2.St → Hp → Prop := fun mm σ H => ∃ (F2 : Hp) (s : T), Le F F2 ∧ Mt cf.K F2 O H σ (encL s) ∧ whileR c step k mm s = whileR c step k n s0
  refine ⟨W, ⟨n, F, s0, Le.refl F, hM.sub h0, rfl⟩, ?_⟩
  rintro mm σ2 H2 ⟨F2, s, le2, hM2, tot⟩
  rw [← tot] at nb kn kb kr ke
  cases mm with
  | zero => exact absurd rfl nb
  | succ mm =>
    obtain ⟨O2, lo2, hf2, he2, o12, o22⟩ := hM2
    refine hc s F2 O2 H2 σ2 _ hf2 he2 (R.bind_nb nb) (fun b r F3 H3 e le3 hf3 hr => ?_) (fun c' p d F' H' e le hf' hd => ke c' p d F' H' (by show (c s).bind _ = _; rw [e]; rfl) (le2.trans le) (hf'.weak lo2) hd)
    obtain rfl : r = b := hr
    have hM3 : Mt cf.K F3 O H3 σ2 (encL s) := ⟨O2, lo2, hf3, he2.mono le3, o12, o22⟩
    have le13 := le2.trans le3
    cases r with
    | false =>
      have en : whileR c step k (mm + 1) s = k s := by
        show (c s).bind _ = _
        rw [e]
        rfl
      rw [en] at nb kn kb kr ke
      exact hk s F3 O H3 σ2 D hM3 nb (fun s F'' H'' σ' e le' => kn s F'' H'' σ' e (le13.trans le')) (fun s F'' H'' σ' e le' => kb s F'' H'' σ' e (le13.trans le')) (fun r v F'' H'' e le' => kr r v F'' H'' e (le13.trans le')) fun c p d F'' H'' e le' => ke c p d F'' H'' e (le13.trans le')
    | true =>
      have en : whileR c step k (mm + 1) s = (step s).bind fun
          | .nx s' => whileR c step k mm s'
          | .bk s' => k s'
          | .rt v => .ok (.rt v) := by
        show (c s).bind _ = _
        rw [e]
        rfl
      rw [en] at nb kn kb kr ke
      refine ⟨fun σ H => W mm σ H, fun σ' H' h' => ⟨mm, Nat.lt_succ_self _, h'⟩, ?_⟩
      refine hb s F3 O H3 σ2 _ hM3 (R.bind_nb nb) (fun s' F4 H4 σ4 e4 le4 hM4 => ?_) (fun s' F4 H4 σ4 e4 le4 hM4 => ?_) (fun r v F4 H4 e4 le4 hf4 hr => kr r v F4 H4 (by rw [e4]; rfl) (le13.trans le4) hf4 hr) (fun c p d F4 H4 e4 le4 hf4 hd => ke c p d F4 H4 (by rw [e4]; rfl) (le13.trans le4) hf4 hd)
      · refine ⟨F4, s', le13.trans le4, hM4, ?_⟩
        rw [← tot, en, e4]
        rfl
      · rw [e4, R.ok_bind] at nb kn kb kr ke
        have le14 := le13.trans le4
        exact hk s' F4 O H4 σ4 D hM4 nb (fun s F'' H'' σ' e le' => kn s F'' H'' σ' e (le14.trans le')) (fun s F'' H'' σ' e le' => kb s F'' H'' σ' e (le14.trans le')) (fun r v F'' H'' e le' => kr r v F'' H'' e (le14.trans le')) fun c p d F'' H'' e le' => ke c p d F'' H'' e (le14.trans le')
end
end Kr

/-! KrF: what a def promises by data, its call, its body. -/
namespace Kr
open PySem PySem.Spec PyProof.Rows L2
open Enc (toD)

/-- called with values of the data ds, it returns what the relation says; it raises nothing -/
def SpP (cf : Cf) (n : Nat) (spec : List Dt → R Dt → Prop) : Sp := fun vs H Q _ => vs.length = n ∧ ∃ (F O : Hp) (ds : List Dt) (d : Dt), Fm F O H ∧ DrA cf.K F vs ds ∧ spec ds (.ok d) ∧ ∀ v F' H', Le F F' → Fm F' O H' → Dr cf.K F' v d → Q v H'
theorem SpP.len {cf : Cf} {n : Nat} {spec : List Dt → R Dt → Prop} {ps : List Str} (h : ps.length = n := by rfl) : ∀ vs H Q E, SpP cf n spec vs H Q E → vs.length = ps.length := fun vs H Q E q => by rw [h]; exact q.1
/-- what a body gives, as a value -/
def finR {S ρ : Type} (m : R (Fl S ρ)) : R ρ := m.bind fun
  | .rt r => .ok r
  | _ => .bad
/-- of a def without return -/
def finN {S : Type} (m : R (Fl S Unit)) : R Unit := m.bind fun
  | .rt r => .ok r
  | .nx _ => .ok ()
  | _ => .bad
theorem er_start {K : PySem.W.Frag} {F O : Hp} {N : List Str} {vs : List V} {ds : List Dt} (h : DrA K F vs ds) : Er K F O (L2.start N vs) (ds.map Sl.va ++ List.replicate (N.length - ds.length) .un) := by
  have hl := h.length
  refine ⟨?_, fun i s e => ?_⟩
  · unfold L2.start
    rw [List.length_append, List.length_append, List.length_map, List.length_map, List.length_replicate, List.length_replicate, hl]
  · by_cases hi : i < ds.length
    · rw [List.getElem?_append_left (by rw [List.length_map]; exact hi), List.getElem?_map] at e
      cases q : ds[i]? with
      | none =>
        rw [q] at e
        cases e
      | some d =>
        rw [q] at e
        cases e
        obtain ⟨v, hv, r⟩ := h.get q
        refine ⟨v, ?_, r⟩
        unfold L2.start
        rw [List.getElem?_append_left (by rw [List.length_map, hl]; exact hi), List.getElem?_map, hv]
        rfl
    · rw [List.getElem?_append_right (by rw [List.length_map]; omega)] at e
      have e2 := List.getElem?_replicate (n := N.length - ds.length) (a := Sl.un) (i := i - (ds.map Sl.va).length)
      rw [e2] at e
      split at e
      · cases e
        exact trivial
      · cases e
theorem mt_start {K : PySem.W.Frag} {F O H : Hp} {N : List Str} {vs : List V} {ds : List Dt} (hf : Fm F O H) (h : DrA K F vs ds) : Mt K F O H (L2.start N vs) (ds.map Sl.va ++ List.replicate (N.length - ds.length) .un) := by
  refine ⟨O, Le.refl O, hf, er_start h, fun i s a e o => ?_, fun i j s t a _ e _ o => ?_⟩
  all_goals
    exfalso
    rcases List.mem_append.mp (List.mem_of_getElem? e) with hm | hm
    · obtain ⟨d, _, rfl⟩ := List.mem_map.mp hm
      cases o
    · rw [List.eq_of_mem_replicate hm] at o
      cases o
section
variable {cf : Cf} {E : XK} {G : List Sl} {S ρ : Type} [Enc ρ]
/-- the promise from the body's run -/
theorem run_of {t : TS} {N : List Str} {vs : List V} {H : Hp} {Q : VK} {n : Nat} {spec : List Dt → R Dt → Prop} {enc : S → List Sl} (h : SpP cf n spec vs H Q E)
    (hb : ∀ ds d, spec ds (.ok d) → ∃ m : R (Fl S ρ), SB cf E0 t (ds.map Sl.va ++ List.replicate (N.length - ds.length) .un) enc m ∧ ∃ r, finR m = .ok r ∧ d = toD r) : t { nx := fun _ H' => Q .non H', rt := Q } (L2.start N vs) H := by
  obtain ⟨_, F, O, ds, d, hf, hr, hs, q⟩ := h
  obtain ⟨m, hm, r, er, ed⟩ := hb ds d hs
  have em : m = .ok (.rt r) := by
    cases m with
    | ok x =>
      cases x with
      | nx s => cases er
      | bk s => cases er
      | rt r' => cases er; rfl
    | er c p => cases er
    | bad => cases er
  subst em
  refine hm F O H _ _ (mt_start hf hr) (fun z => nomatch z) (fun _ _ _ _ z => nomatch z) (fun _ _ _ _ z => nomatch z) (fun r' v F' H' e le hf' hr' => ?_) (fun _ _ _ _ _ z => nomatch z)
  cases e
  rw [ed] at q
  exact q v F' H' le hf' hr'
theorem run_ofN {t : TS} {N : List Str} {vs : List V} {H : Hp} {Q : VK} {n : Nat} {spec : List Dt → R Dt → Prop} {enc : S → List Sl} (h : SpP cf n spec vs H Q E)
    (hb : ∀ ds d, spec ds (.ok d) → ∃ m : R (Fl S Unit), SB cf E0 t (ds.map Sl.va ++ List.replicate (N.length - ds.length) .un) enc m ∧ ∃ r, finN m = .ok r ∧ d = toD r) : t { nx := fun _ H' => Q .non H', rt := Q } (L2.start N vs) H := by
  obtain ⟨_, F, O, ds, d, hf, hr, hs, q⟩ := h
  obtain ⟨m, hm, r, er, ed⟩ := hb ds d hs
  have ed' : d = .non := ed
  subst ed'
  refine hm F O H _ _ (mt_start hf hr) (fun z => by rw [z] at er; cases er) (fun s F' H' σ' e le hM => q .non F' H' le hM.fm .non) (fun s F' H' σ' e => by rw [e] at er; cases er) (fun r' v F' H' e le hf' hr' => q v F' H' le hf' hr') (fun c p d F' H' e => by rw [e] at er; cases er)
end

section
variable {α τ : Type} [Enc α] [Enc τ]
def sp1 (g : α → R τ) : List Dt → R Dt → Prop := fun ds r => ∃ (a : α), ds = [toD a] ∧ r = (g a).map toD
theorem em_call1 {cf : Cf} {E : XK} {G : List Sl} {t0 : TE} {m0 : R α} {g : α → R τ} (h0 : EM cf E t0 G m0) : EM cf E (tCall (SpP cf 1 (sp1 g)) [] E0 (tCons t0 tNil)) G (m0.bind fun a => (g a).pu) := fun F O H σ Q hf he nb ko ke => by
  refine h0 F O H σ _ hf he (R.bind_nb nb) (fun a v0 F1 H1 e0 l1 hf1 r0 => ?_) (fun c p d F' H' e le hf' hd => ke c p d F' H' (by rw [e]; rfl) (le) hf' hd)
  rw [e0, R.ok_bind] at nb ko ke
  have le1 := l1
  obtain ⟨y, ey⟩ := pu_nb nb
  exact ⟨rfl, F1, O, _, toD y, hf1, (.cons r0 .nil), ⟨a, rfl, by rw [ey]; rfl⟩, fun v F' H' le hf' hr => ko y v F' H' (by rw [ey]; rfl) (le1.trans le) hf' hr⟩
theorem fn1 {P : Program} {w : World} {cf : Cf} {mg : Str → Option Value} {base : Heap} {x qual : Str} {st : Stmt} {f0 : Addr} {fd : FuncData} {N ps : List Str} {k : Nat} {S : Type} {enc : S → List Sl} (F : Fun cf.K x qual st f0 fd) (sc : FnScope N ps (defScope st)) (hp : ps.length = 1) (g : α → R (Fl S τ))
    (G0 : α → List Sl) (hG : ∀ a, [.va (toD a)] ++ List.replicate (N.length - 1) .un = G0 a)
    (h : ∀ (cdv : Value) (A : Around) (outer : List Env) (s : Shared) (H : Hp) (E : XK), Room k (A.deeper (envOfC qual (defScope st) s.heap.objs.size f0 cdv)) →
      ∃ t, PSs (cxOf CX0 P w cf.K mg base N qual (defScope st) f0 cdv A outer s H E).nox (defBody st) t ∧ ∀ a, SB cf E0 t (G0 a) enc (g a)) :
    FnOk P w cf.K mg base CX0 (k + 1) f0 fd ps (SpP cf 1 (sp1 fun a => finR (g a))) := by
  refine F.ok sc (SpP.len hp) (fun cdv A outer s H vs Q E hr hq => ?_)
  obtain ⟨t, ht, hb⟩ := h cdv A outer s H E hr
  refine ⟨t, ht, run_of (ρ := τ) (S := S) (enc := enc) hq fun ds dd hs => ?_⟩
  obtain ⟨a, rfl, er⟩ := hs
  refine ⟨g a, by have q := hb a; rw [← hG] at q; exact q, ?_⟩
  replace er : R.ok dd = (finR (g a)).map toD := er
  generalize q : finR (g a) = z at er
  cases z with
  | ok r => exact ⟨r, rfl, R.ok.inj er⟩
  | er c p => cases er
  | bad => cases er
end

section
variable {α β τ : Type} [Enc α] [Enc β] [Enc τ]
def sp2 (g : α → β → R τ) : List Dt → R Dt → Prop := fun ds r => ∃ (a : α) (b : β), ds = [toD a, toD b] ∧ r = (g a b).map toD
theorem em_call2 {cf : Cf} {E : XK} {G : List Sl} {t0 t1 : TE} {m0 : R α} {m1 : R β} {g : α → β → R τ} (h0 : EM cf E t0 G m0) (h1 : EM cf E t1 G m1) : EM cf E (tCall (SpP cf 2 (sp2 g)) [] E0 (tCons t0 (tCons t1 tNil))) G (m0.bind fun a => m1.bind fun b => (g a b).pu) := fun F O H σ Q hf he nb ko ke => by
  refine h0 F O H σ _ hf he (R.bind_nb nb) (fun a v0 F1 H1 e0 l1 hf1 r0 => ?_) (fun c p d F' H' e le hf' hd => ke c p d F' H' (by rw [e]; rfl) (le) hf' hd)
  rw [e0, R.ok_bind] at nb ko ke
  have le1 := l1
  refine h1 F1 O H1 σ _ hf1 (he.mono le1) (R.bind_nb nb) (fun b v1 F2 H2 e1 l2 hf2 r1 => ?_) (fun c p d F' H' e le hf' hd => ke c p d F' H' (by rw [e]; rfl) (le1.trans le) hf' hd)
  rw [e1, R.ok_bind] at nb ko ke
  have le2 := le1.trans l2
  obtain ⟨y, ey⟩ := pu_nb nb
  exact ⟨rfl, F2, O, _, toD y, hf2, (.cons (Dr.mono (l2) r0) (.cons r1 .nil)), ⟨a, b, rfl, by rw [ey]; rfl⟩, fun v F' H' le hf' hr => ko y v F' H' (by rw [ey]; rfl) (le2.trans le) hf' hr⟩
theorem fn2 {P : Program} {w : World} {cf : Cf} {mg : Str → Option Value} {base : Heap} {x qual : Str} {st : Stmt} {f0 : Addr} {fd : FuncData} {N ps : List Str} {k : Nat} {S : Type} {enc : S → List Sl} (F : Fun cf.K x qual st f0 fd) (sc : FnScope N ps (defScope st)) (hp : ps.length = 2) (g : α → β → R (Fl S τ))
    (G0 : α → β → List Sl) (hG : ∀ a b, [.va (toD a), .va (toD b)] ++ List.replicate (N.length - 2) .un = G0 a b)
    (h : ∀ (cdv : Value) (A : Around) (outer : List Env) (s : Shared) (H : Hp) (E : XK), Room k (A.deeper (envOfC qual (defScope st) s.heap.objs.size f0 cdv)) →
      ∃ t, PSs (cxOf CX0 P w cf.K mg base N qual (defScope st) f0 cdv A outer s H E).nox (defBody st) t ∧ ∀ a b, SB cf E0 t (G0 a b) enc (g a b)) :
    FnOk P w cf.K mg base CX0 (k + 1) f0 fd ps (SpP cf 2 (sp2 fun a b => finR (g a b))) := by
  refine F.ok sc (SpP.len hp) (fun cdv A outer s H vs Q E hr hq => ?_)
  obtain ⟨t, ht, hb⟩ := h cdv A outer s H E hr
  refine ⟨t, ht, run_of (ρ := τ) (S := S) (enc := enc) hq fun ds dd hs => ?_⟩
  obtain ⟨a, b, rfl, er⟩ := hs
  refine ⟨g a b, by have q := hb a b; rw [← hG] at q; exact q, ?_⟩
  replace er : R.ok dd = (finR (g a b)).map toD := er
  generalize q : finR (g a b) = z at er
  cases z with
  | ok r => exact ⟨r, rfl, R.ok.inj er⟩
  | er c p => cases er
  | bad => cases er
end

section
variable {α β γ τ : Type} [Enc α] [Enc β] [Enc γ] [Enc τ]
def sp3 (g : α → β → γ → R τ) : List Dt → R Dt → Prop := fun ds r => ∃ (a : α) (b : β) (c : γ), ds = [toD a, toD b, toD c] ∧ r = (g a b c).map toD
theorem em_call3 {cf : Cf} {E : XK} {G : List Sl} {t0 t1 t2 : TE} {m0 : R α} {m1 : R β} {m2 : R γ} {g : α → β → γ → R τ} (h0 : EM cf E t0 G m0) (h1 : EM cf E t1 G m1) (h2 : EM cf E t2 G m2) : EM cf E (tCall (SpP cf 3 (sp3 g)) [] E0 (tCons t0 (tCons t1 (tCons t2 tNil)))) G (m0.bind fun a => m1.bind fun b => m2.bind fun c => (g a b c).pu) := fun F O H σ Q hf he nb ko ke => by
  refine h0 F O H σ _ hf he (R.bind_nb nb) (fun a v0 F1 H1 e0 l1 hf1 r0 => ?_) (fun c p d F' H' e le hf' hd => ke c p d F' H' (by rw [e]; rfl) (le) hf' hd)
  rw [e0, R.ok_bind] at nb ko ke
  have le1 := l1
  refine h1 F1 O H1 σ _ hf1 (he.mono le1) (R.bind_nb nb) (fun b v1 F2 H2 e1 l2 hf2 r1 => ?_) (fun c p d F' H' e le hf' hd => ke c p d F' H' (by rw [e]; rfl) (le1.trans le) hf' hd)
  rw [e1, R.ok_bind] at nb ko ke
  have le2 := le1.trans l2
  refine h2 F2 O H2 σ _ hf2 (he.mono le2) (R.bind_nb nb) (fun c v2 F3 H3 e2 l3 hf3 r2 => ?_) (fun c p d F' H' e le hf' hd => ke c p d F' H' (by rw [e]; rfl) (le2.trans le) hf' hd)
  rw [e2, R.ok_bind] at nb ko ke
  have le3 := le2.trans l3
  obtain ⟨y, ey⟩ := pu_nb nb
  exact ⟨rfl, F3, O, _, toD y, hf3, (.cons (Dr.mono ((l2).trans l3) r0) (.cons (Dr.mono (l3) r1) (.cons r2 .nil))), ⟨a, b, c, rfl, by rw [ey]; rfl⟩, fun v F' H' le hf' hr => ko y v F' H' (by rw [ey]; rfl) (le3.trans le) hf' hr⟩
theorem fn3 {P : Program} {w : World} {cf : Cf} {mg : Str → Option Value} {base : Heap} {x qual : Str} {st : Stmt} {f0 : Addr} {fd : FuncData} {N ps : List Str} {k : Nat} {S : Type} {enc : S → List Sl} (F : Fun cf.K x qual st f0 fd) (sc : FnScope N ps (defScope st)) (hp : ps.length = 3) (g : α → β → γ → R (Fl S τ))
    (G0 : α → β → γ → List Sl) (hG : ∀ a b c, [.va (toD a), .va (toD b), .va (toD c)] ++ List.replicate (N.length - 3) .un = G0 a b c)
    (h : ∀ (cdv : Value) (A : Around) (outer : List Env) (s : Shared) (H : Hp) (E : XK), Room k (A.deeper (envOfC qual (defScope st) s.heap.objs.size f0 cdv)) →
      ∃ t, PSs (cxOf CX0 P w cf.K mg base N qual (defScope st) f0 cdv A outer s H E).nox (defBody st) t ∧ ∀ a b c, SB cf E0 t (G0 a b c) enc (g a b c)) :
    FnOk P w cf.K mg base CX0 (k + 1) f0 fd ps (SpP cf 3 (sp3 fun a b c => finR (g a b c))) := by
  refine F.ok sc (SpP.len hp) (fun cdv A outer s H vs Q E hr hq => ?_)
  obtain ⟨t, ht, hb⟩ := h cdv A outer s H E hr
  refine ⟨t, ht, run_of (ρ := τ) (S := S) (enc := enc) hq fun ds dd hs => ?_⟩
  obtain ⟨a, b, c, rfl, er⟩ := hs
  refine ⟨g a b c, by have q := hb a b c; rw [← hG] at q; exact q, ?_⟩
  replace er : R.ok dd = (finR (g a b c)).map toD := er
  generalize q : finR (g a b c) = z at er
  cases z with
  | ok r => exact ⟨r, rfl, R.ok.inj er⟩
  | er c p => cases er
  | bad => cases er
end

section
variable {α β γ δ τ : Type} [Enc α] [Enc β] [Enc γ] [Enc δ] [Enc τ]
def sp4 (g : α → β → γ → δ → R τ) : List Dt → R Dt → Prop := fun ds r => ∃ (a : α) (b : β) (c : γ) (d : δ), ds = [toD a, toD b, toD c, toD d] ∧ r = (g a b c d).map toD
theorem em_call4 {cf : Cf} {E : XK} {G : List Sl} {t0 t1 t2 t3 : TE} {m0 : R α} {m1 : R β} {m2 : R γ} {m3 : R δ} {g : α → β → γ → δ → R τ} (h0 : EM cf E t0 G m0) (h1 : EM cf E t1 G m1) (h2 : EM cf E t2 G m2) (h3 : EM cf E t3 G m3) : EM cf E (tCall (SpP cf 4 (sp4 g)) [] E0 (tCons t0 (tCons t1 (tCons t2 (tCons t3 tNil))))) G (m0.bind fun a => m1.bind fun b => m2.bind fun c => m3.bind fun d => (g a b c d).pu) := fun F O H σ Q hf he nb ko ke => by
  refine h0 F O H σ _ hf he (R.bind_nb nb) (fun a v0 F1 H1 e0 l1 hf1 r0 => ?_) (fun c p d F' H' e le hf' hd => ke c p d F' H' (by rw [e]; rfl) (le) hf' hd)
  rw [e0, R.ok_bind] at nb ko ke
  have le1 := l1
  refine h1 F1 O H1 σ _ hf1 (he.mono le1) (R.bind_nb nb) (fun b v1 F2 H2 e1 l2 hf2 r1 => ?_) (fun c p d F' H' e le hf' hd => ke c p d F' H' (by rw [e]; rfl) (le1.trans le) hf' hd)
  rw [e1, R.ok_bind] at nb ko ke
  have le2 := le1.trans l2
  refine h2 F2 O H2 σ _ hf2 (he.mono le2) (R.bind_nb nb) (fun c v2 F3 H3 e2 l3 hf3 r2 => ?_) (fun c p d F' H' e le hf' hd => ke c p d F' H' (by rw [e]; rfl) (le2.trans le) hf' hd)
  rw [e2, R.ok_bind] at nb ko ke
  have le3 := le2.trans l3
  refine h3 F3 O H3 σ _ hf3 (he.mono le3) (R.bind_nb nb) (fun d v3 F4 H4 e3 l4 hf4 r3 => ?_) (fun c p d F' H' e le hf' hd => ke c p d F' H' (by rw [e]; rfl) (le3.trans le) hf' hd)
  rw [e3, R.ok_bind] at nb ko ke
  have le4 := le3.trans l4
  obtain ⟨y, ey⟩ := pu_nb nb
  exact ⟨rfl, F4, O, _, toD y, hf4, (.cons (Dr.mono (((l2).trans l3).trans l4) r0) (.cons (Dr.mono ((l3).trans l4) r1) (.cons (Dr.mono (l4) r2) (.cons r3 .nil)))), ⟨a, b, c, d, rfl, by rw [ey]; rfl⟩, fun v F' H' le hf' hr => ko y v F' H' (by rw [ey]; rfl) (le4.trans le) hf' hr⟩
theorem fn4 {P : Program} {w : World} {cf : Cf} {mg : Str → Option Value} {base : Heap} {x qual : Str} {st : Stmt} {f0 : Addr} {fd : FuncData} {N ps : List Str} {k : Nat} {S : Type} {enc : S → List Sl} (F : Fun cf.K x qual st f0 fd) (sc : FnScope N ps (defScope st)) (hp : ps.length = 4) (g : α → β → γ → δ → R (Fl S τ))
    (G0 : α → β → γ → δ → List Sl) (hG : ∀ a b c d, [.va (toD a), .va (toD b), .va (toD c), .va (toD d)] ++ List.replicate (N.length - 4) .un = G0 a b c d)
    (h : ∀ (cdv : Value) (A : Around) (outer : List Env) (s : Shared) (H : Hp) (E : XK), Room k (A.deeper (envOfC qual (defScope st) s.heap.objs.size f0 cdv)) →
      ∃ t, PSs (cxOf CX0 P w cf.K mg base N qual (defScope st) f0 cdv A outer s H E).nox (defBody st) t ∧ ∀ a b c d, SB cf E0 t (G0 a b c d) enc (g a b c d)) :
    FnOk P w cf.K mg base CX0 (k + 1) f0 fd ps (SpP cf 4 (sp4 fun a b c d => finR (g a b c d))) := by
  refine F.ok sc (SpP.len hp) (fun cdv A outer s H vs Q E hr hq => ?_)
  obtain ⟨t, ht, hb⟩ := h cdv A outer s H E hr
  refine ⟨t, ht, run_of (ρ := τ) (S := S) (enc := enc) hq fun ds dd hs => ?_⟩
  obtain ⟨a, b, c, d, rfl, er⟩ := hs
  refine ⟨g a b c d, by have q := hb a b c d; rw [← hG] at q; exact q, ?_⟩
  replace er : R.ok dd = (finR (g a b c d)).map toD := er
  generalize q : finR (g a b c d) = z at er
  cases z with
  | ok r => exact ⟨r, rfl, R.ok.inj er⟩
  | er c p => cases er
  | bad => cases er
end

section
variable {α β γ δ ε τ : Type} [Enc α] [Enc β] [Enc γ] [Enc δ] [Enc ε] [Enc τ]
def sp5 (g : α → β → γ → δ → ε → R τ) : List Dt → R Dt → Prop := fun ds r => ∃ (a : α) (b : β) (c : γ) (d : δ) (e : ε), ds = [toD a, toD b, toD c, toD d, toD e] ∧ r = (g a b c d e).map toD
theorem em_call5 {cf : Cf} {E : XK} {G : List Sl} {t0 t1 t2 t3 t4 : TE} {m0 : R α} {m1 : R β} {m2 : R γ} {m3 : R δ} {m4 : R ε} {g : α → β → γ → δ → ε → R τ} (h0 : EM cf E t0 G m0) (h1 : EM cf E t1 G m1) (h2 : EM cf E t2 G m2) (h3 : EM cf E t3 G m3) (h4 : EM cf E t4 G m4) : EM cf E (tCall (SpP cf 5 (sp5 g)) [] E0 (tCons t0 (tCons t1 (tCons t2 (tCons t3 (tCons t4 tNil)))))) G (m0.bind fun a => m1.bind fun b => m2.bind fun c => m3.bind fun d => m4.bind fun e => (g a b c d e).pu) := fun F O H σ Q hf he nb ko ke => by
  refine h0 F O H σ _ hf he (R.bind_nb nb) (fun a v0 F1 H1 e0 l1 hf1 r0 => ?_) (fun c p d F' H' e le hf' hd => ke c p d F' H' (by rw [e]; rfl) (le) hf' hd)
  rw [e0, R.ok_bind] at nb ko ke
  have le1 := l1
  refine h1 F1 O H1 σ _ hf1 (he.mono le1) (R.bind_nb nb) (fun b v1 F2 H2 e1 l2 hf2 r1 => ?_) (fun c p d F' H' e le hf' hd => ke c p d F' H' (by rw [e]; rfl) (le1.trans le) hf' hd)
  rw [e1, R.ok_bind] at nb ko ke
  have le2 := le1.trans l2
  refine h2 F2 O H2 σ _ hf2 (he.mono le2) (R.bind_nb nb) (fun c v2 F3 H3 e2 l3 hf3 r2 => ?_) (fun c p d F' H' e le hf' hd => ke c p d F' H' (by rw [e]; rfl) (le2.trans le) hf' hd)
  rw [e2, R.ok_bind] at nb ko ke
  have le3 := le2.trans l3
  refine h3 F3 O H3 σ _ hf3 (he.mono le3) (R.bind_nb nb) (fun d v3 F4 H4 e3 l4 hf4 r3 => ?_) (fun c p d F' H' e le hf' hd => ke c p d F' H' (by rw [e]; rfl) (le3.trans le) hf' hd)
  rw [e3, R.ok_bind] at nb ko ke
  have le4 := le3.trans l4
  refine h4 F4 O H4 σ _ hf4 (he.mono le4) (R.bind_nb nb) (fun e v4 F5 H5 e4 l5 hf5 r4 => ?_) (fun c p d F' H' e le hf' hd => ke c p d F' H' (by rw [e]; rfl) (le4.trans le) hf' hd)
  rw [e4, R.ok_bind] at nb ko ke
  have le5 := le4.trans l5
  obtain ⟨y, ey⟩ := pu_nb nb
  exact ⟨rfl, F5, O, _, toD y, hf5, (.cons (Dr.mono ((((l2).trans l3).trans l4).trans l5) r0) (.cons (Dr.mono (((l3).trans l4).trans l5) r1) (.cons (Dr.mono ((l4).trans l5) r2) (.cons (Dr.mono (l5) r3) (.cons r4 .nil))))), ⟨a, b, c, d, e, rfl, by rw [ey]; rfl⟩, fun v F' H' le hf' hr => ko y v F' H' (by rw [ey]; rfl) (le5.trans le) hf' hr⟩
theorem fn5 {P : Program} {w : World} {cf : Cf} {mg : Str → Option Value} {base : Heap} {x qual : Str} {st : Stmt} {f0 : Addr} {fd : FuncData} {N ps : List Str} {k : Nat} {S : Type} {enc : S → List Sl} (F : Fun cf.K x qual st f0 fd) (sc : FnScope N ps (defScope st)) (hp : ps.length = 5) (g : α → β → γ → δ → ε → R (Fl S τ))
    (G0 : α → β → γ → δ → ε → List Sl) (hG : ∀ a b c d e, [.va (toD a), .va (toD b), .va (toD c), .va (toD d), .va (toD e)] ++ List.replicate (N.length - 5) .un = G0 a b c d e)
    (h : ∀ (cdv : Value) (A : Around) (outer : List Env) (s : Shared) (H : Hp) (E : XK), Room k (A.deeper (envOfC qual (defScope st) s.heap.objs.size f0 cdv)) →
      ∃ t, PSs (cxOf CX0 P w cf.K mg base N qual (defScope st) f0 cdv A outer s H E).nox (defBody st) t ∧ ∀ a b c d e, SB cf E0 t (G0 a b c d e) enc (g a b c d e)) :
    FnOk P w cf.K mg base CX0 (k + 1) f0 fd ps (SpP cf 5 (sp5 fun a b c d e => finR (g a b c d e))) := by
  refine F.ok sc (SpP.len hp) (fun cdv A outer s H vs Q E hr hq => ?_)
  obtain ⟨t, ht, hb⟩ := h cdv A outer s H E hr
  refine ⟨t, ht, run_of (ρ := τ) (S := S) (enc := enc) hq fun ds dd hs => ?_⟩
  obtain ⟨a, b, c, d, e, rfl, er⟩ := hs
  refine ⟨g a b c d e, by have q := hb a b c d e; rw [← hG] at q; exact q, ?_⟩
  replace er : R.ok dd = (finR (g a b c d e)).map toD := er
  generalize q : finR (g a b c d e) = z at er
  cases z with
  | ok r => exact ⟨r, rfl, R.ok.inj er⟩
  | er c p => cases er
  | bad => cases er
end

section
variable {α β γ δ ε ζ τ : Type} [Enc α] [Enc β] [Enc γ] [Enc δ] [Enc ε] [Enc ζ] [Enc τ]
def sp6 (g : α → β → γ → δ → ε → ζ → R τ) : List Dt → R Dt → Prop := fun ds r => ∃ (a : α) (b : β) (c : γ) (d : δ) (e : ε) (f : ζ), ds = [toD a, toD b, toD c, toD d, toD e, toD f] ∧ r = (g a b c d e f).map toD
theorem em_call6 {cf : Cf} {E : XK} {G : List Sl} {t0 t1 t2 t3 t4 t5 : TE} {m0 : R α} {m1 : R β} {m2 : R γ} {m3 : R δ} {m4 : R ε} {m5 : R ζ} {g : α → β → γ → δ → ε → ζ → R τ} (h0 : EM cf E t0 G m0) (h1 : EM cf E t1 G m1) (h2 : EM cf E t2 G m2) (h3 : EM cf E t3 G m3) (h4 : EM cf E t4 G m4) (h5 : EM cf E t5 G m5) : EM cf E (tCall (SpP cf 6 (sp6 g)) [] E0 (tCons t0 (tCons t1 (tCons t2 (tCons t3 (tCons t4 (tCons t5 tNil))))))) G (m0.bind fun a => m1.bind fun b => m2.bind fun c => m3.bind fun d => m4.bind fun e => m5.bind fun f => (g a b c d e f).pu) := fun F O H σ Q hf he nb ko ke => by
  refine h0 F O H σ _ hf he (R.bind_nb nb) (fun a v0 F1 H1 e0 l1 hf1 r0 => ?_) (fun c p d F' H' e le hf' hd => ke c p d F' H' (by rw [e]; rfl) (le) hf' hd)
  rw [e0, R.ok_bind] at nb ko ke
  have le1 := l1
  refine h1 F1 O H1 σ _ hf1 (he.mono le1) (R.bind_nb nb) (fun b v1 F2 H2 e1 l2 hf2 r1 => ?_) (fun c p d F' H' e le hf' hd => ke c p d F' H' (by rw [e]; rfl) (le1.trans le) hf' hd)
  rw [e1, R.ok_bind] at nb ko ke
  have le2 := le1.trans l2
  refine h2 F2 O H2 σ _ hf2 (he.mono le2) (R.bind_nb nb) (fun c v2 F3 H3 e2 l3 hf3 r2 => ?_) (fun c p d F' H' e le hf' hd => ke c p d F' H' (by rw [e]; rfl) (le2.trans le) hf' hd)
  rw [e2, R.ok_bind] at nb ko ke
  have le3 := le2.trans l3
  refine h3 F3 O H3 σ _ hf3 (he.mono le3) (R.bind_nb nb) (fun d v3 F4 H4 e3 l4 hf4 r3 => ?_) (fun c p d F' H' e le hf' hd => ke c p d F' H' (by rw [e]; rfl) (le3.trans le) hf' hd)
  rw [e3, R.ok_bind] at nb ko ke
  have le4 := le3.trans l4
  refine h4 F4 O H4 σ _ hf4 (he.mono le4) (R.bind_nb nb) (fun e v4 F5 H5 e4 l5 hf5 r4 => ?_) (fun c p d F' H' e le hf' hd => ke c p d F' H' (by rw [e]; rfl) (le4.trans le) hf' hd)
  rw [e4, R.ok_bind] at nb ko ke
  have le5 := le4.trans l5
  refine h5 F5 O H5 σ _ hf5 (he.mono le5) (R.bind_nb nb) (fun f v5 F6 H6 e5 l6 hf6 r5 => ?_) (fun c p d F' H' e le hf' hd => ke c p d F' H' (by rw [e]; rfl) (le5.trans le) hf' hd)
  rw [e5, R.ok_bind] at nb ko ke
  have le6 := le5.trans l6
  obtain ⟨y, ey⟩ := pu_nb nb
  exact ⟨rfl, F6, O, _, toD y, hf6, (.cons (Dr.mono (((((l2).trans l3).trans l4).trans l5).trans l6) r0) (.cons (Dr.mono ((((l3).trans l4).trans l5).trans l6) r1) (.cons (Dr.mono (((l4).trans l5).trans l6) r2) (.cons (Dr.mono ((l5).trans l6) r3) (.cons (Dr.mono (l6) r4) (.cons r5 .nil)))))), ⟨a, b, c, d, e, f, rfl, by rw [ey]; rfl⟩, fun v F' H' le hf' hr => ko y v F' H' (by rw [ey]; rfl) (le6.trans le) hf' hr⟩
theorem fn6 {P : Program} {w : World} {cf : Cf} {mg : Str → Option Value} {base : Heap} {x qual : Str} {st : Stmt} {f0 : Addr} {fd : FuncData} {N ps : List Str} {k : Nat} {S : Type} {enc : S → List Sl} (F : Fun cf.K x qual st f0 fd) (sc : FnScope N ps (defScope st)) (hp : ps.length = 6) (g : α → β → γ → δ → ε → ζ → R (Fl S τ))
    (G0 : α → β → γ → δ → ε → ζ → List Sl) (hG : ∀ a b c d e f, [.va (toD a), .va (toD b), .va (toD c), .va (toD d), .va (toD e), .va (toD f)] ++ List.replicate (N.length - 6) .un = G0 a b c d e f)
    (h : ∀ (cdv : Value) (A : Around) (outer : List Env) (s : Shared) (H : Hp) (E : XK), Room k (A.deeper (envOfC qual (defScope st) s.heap.objs.size f0 cdv)) →
      ∃ t, PSs (cxOf CX0 P w cf.K mg base N qual (defScope st) f0 cdv A outer s H E).nox (defBody st) t ∧ ∀ a b c d e f, SB cf E0 t (G0 a b c d e f) enc (g a b c d e f)) :
    FnOk P w cf.K mg base CX0 (k + 1) f0 fd ps (SpP cf 6 (sp6 fun a b c d e f => finR (g a b c d e f))) := by
  refine F.ok sc (SpP.len hp) (fun cdv A outer s H vs Q E hr hq => ?_)
  obtain ⟨t, ht, hb⟩ := h cdv A outer s H E hr
  refine ⟨t, ht, run_of (ρ := τ) (S := S) (enc := enc) hq fun ds dd hs => ?_⟩
  obtain ⟨a, b, c, d, e, f, rfl, er⟩ := hs
  refine ⟨g a b c d e f, by have q := hb a b c d e f; rw [← hG] at q; exact q, ?_⟩
  replace er : R.ok dd = (finR (g a b c d e f)).map toD := er
  generalize q : finR (g a b c d e f) = z at er
  cases z with
  | ok r => exact ⟨r, rfl, R.ok.inj er⟩
  | er c p => cases er
  | bad => cases er
end
end Kr

/-! KrG: further rules by data: in, isinstance, sorted, a, b = .., is True. -/
namespace Kr
open PySem PySem.Spec PyProof.Rows L2
open Enc (toD)

/-! ### rules whose reading names the written part itself -/
section
variable {X : Cx} (K : PySem.W.Frag) (h : X.K = K)
include h
theorem ix_listK : IxR X (rIxL K) := h ▸ ix_list
theorem ix_tupK : IxR X (rIxT K) := h ▸ ix_tup
theorem sl_listK : SlR X (rSlL K) := h ▸ sl_list
theorem lenK : CallR X (.builtin "len") (rLenS K) := h ▸ call_len_seq
theorem listK : CallR X (.type "list") (rListS K) := h ▸ call_list_of
theorem sumK (hc : X.calm = true) : CallR X (.builtin "sum") (rSum K) := h ▸ cr_sum hc
theorem maxK (hc : X.calm = true) : CallR X (.builtin "max") (rMax K) := h ▸ cr_max hc
theorem minK (hc : X.calm = true) : CallR X (.builtin "min") (rMin K) := h ▸ cr_min hc
theorem anyK (hc : X.calm = true) : CallR X (.builtin "any") (rAny K) := h ▸ cr_any hc
theorem inK : OpR X (compareOp .In) (rIn K false) := h ▸ op_in_seq
theorem notInK : OpR X (compareOp .NotIn) (rIn K true) := h ▸ op_notIn_seq
theorem eqDK (hu : X.A.units + 64 < cLine) : OpR X (compareOp .Eq) (rEqD K) := h ▸ op_eqD hu
theorem neDK (hu : X.A.units + 64 < cLine) : OpR X (compareOp .NotEq) (rNeD K) := h ▸ op_neD hu
theorem tupK {es : List Expr} {k : Nat} {t : TGs} {pos : Pos} (n : Nat) (hc : X.calm = true) (hp : PGs X es t)
    (hn : (assignEach es X.env).length = n := by rfl) (hst : (assignEach es X.env).findIdx? (·.1) = none := by rfl) : PG X (.Tuple es k pos) (gTup K n t) := h ▸ pg_tup hc hp hn hst
theorem listI {tg l : Expr} {tl : TE} (hl : PE X l tl) : PI X tg l (iList K tl) := h ▸ pi_list hl
theorem enumI {e : Expr} {ta : TA} {p pos tpos : Pos} {elts : List Expr} {kk : Nat} (hg : Gl X "enumerate") (hm : X.mg "enumerate" = none) (ha : PA X [e] ta) (hs : starEach [e] X.env = [(false, eval e X.env)] := by rfl) :
    PI X (.Tuple elts kk tpos) (.Call (.Name "enumerate" p) [e] [] pos) (iEnum K ta) := h ▸ pi_enum hg hm ha hs
theorem zipI {e e2 : Expr} {ta : TA} {p pos tpos : Pos} {elts : List Expr} {kk : Nat} (hg : Gl X "zip") (hm : X.mg "zip" = none) (ha : PA X [e, e2] ta)
    (hs : starEach [e, e2] X.env = (false, eval e X.env) :: starEach [e2] X.env := by rfl) (hpl : (backTo pos (starEach [e2] X.env)).any (·.1) = false := by rfl) :
    PI X (.Tuple elts kk tpos) (.Call (.Name "zip" p) [e, e2] [] pos) (iZip K ta) := h ▸ pi_zip hg hm ha hs hpl
theorem revI {tg e : Expr} {ta : TA} {p pos : Pos} (hg : Gl X "reversed") (hm : X.mg "reversed" = none) (ha : PA X [e] ta) (hs : starEach [e] X.env = [(false, eval e X.env)] := by rfl) : PI X tg (.Call (.Name "reversed" p) [e] [] pos) (iRev K ta) := h ▸ pi_reversed hg hm ha hs
end
section
variable {cf : Cf} {E : XK} {G : List Sl} {S α β γ δ ρ : Type} [Enc ρ] {ta tb tc te : TE} {t u : TS} {enc : S → List Sl}
theorem sb_skip {m : R (Fl S ρ)} (h : SB cf E u G enc m) : SB cf E (tSeq tNext u) G enc m := h
theorem sb_bad : SB cf E u G enc (.bad : R (Fl S ρ)) := fun _ _ _ _ _ _ nb => absurd rfl nb
theorem sb_retN : SB cf E tRetN G enc (.ok (.rt ()) : R (Fl S Unit)) := fun F O H σ D hM _ _ _ kr _ => kr () .non F H rfl (Le.refl F) hM.fm .non
theorem sb_retN2 : SB cf E (tSeq tRetN u) G enc (.ok (.rt ()) : R (Fl S Unit)) := fun F O H σ D hM _ _ _ kr _ => kr () .non F H rfl (Le.refl F) hM.fm .non
/-! ### a, b = e1, e2 -/
theorem mt_set {K : PySem.W.Frag} {F O H : Hp} {σ : L2.St} (h : Mt K F O H σ G) (i : Nat) {v : V} {d : Dt} (r : Dr K F v d) : Mt K F O H (σ.set i (some v)) (G.set i (.va d)) := by
  obtain ⟨O', lo, hf, he, o1, o2⟩ := h
  refine ⟨O', lo, hf, er_set he i r, fun j s b q o => ?_, fun j l s t b hjl q q' o o' => ?_⟩
  · obtain ⟨q1, q2⟩ := own_set (σ := σ) (y := some v) q o
    rw [q2]
    exact o1 j s b q1 o
  · obtain ⟨q1, q2⟩ := own_set (σ := σ) (y := some v) q o
    obtain ⟨q3, q4⟩ := own_set (σ := σ) (y := some v) q' o'
    rw [q2, q4]
    exact o2 j l s t b hjl q1 q3 o o'
theorem sb_par2 [Enc α] [Enc β] {i j : Nat} {m : R α} {n : R β} {f : α → β → R (Fl S ρ)} (h : EM cf E ta G m) (h' : EM cf E tb G n) (G' : α → β → List Sl) (hG : ∀ a b, (G.set i (.va (toD a))).set j (.va (toD b)) = G' a b) (hk : ∀ a b, SB cf E u (G' a b) enc (f a b)) :
    SB cf E (tSeq (tPar i j (tCons ta (tCons tb tNil))) u) G enc (m.bind fun a => n.bind fun b => f a b) := fun F O H σ D hM nb kn kb kr ke => by
  obtain ⟨O', lo, hf, he, o1, o2⟩ := hM
  refine h F O' H σ _ hf he (R.bind_nb nb) (fun a v F1 H1 ea le1 hf1 hr => ?_) (fun c p d F' H' e le hf' hd => ke c p d F' H' (by rw [e]; rfl) le (hf'.weak lo) hd)
  rw [ea, R.ok_bind] at nb kn kb kr ke
  refine h' F1 O' H1 σ _ hf1 (he.mono le1) (R.bind_nb nb) (fun b w' F2 H2 eb le2 hf2 hw => ?_) (fun c p d F' H' e le hf' hd => ke c p d F' H' (by rw [e]; rfl) (le1.trans le) (hf'.weak lo) hd)
  rw [eb, R.ok_bind] at nb kn kb kr ke
  have le := le1.trans le2
  have hM2 : Mt cf.K F2 O H2 σ G := ⟨O', lo, hf2, he.mono le, o1, o2⟩
  have hM3 := mt_set (mt_set hM2 i (hr.mono le2)) j hw
  rw [hG] at hM3
  exact ⟨v, w', rfl, hk a b F2 O H2 _ D hM3 nb (fun s F'' H'' σ' e le' => kn s F'' H'' σ' e (le.trans le')) (fun s F'' H'' σ' e le' => kb s F'' H'' σ' e (le.trans le')) (fun r v F'' H'' e le' => kr r v F'' H'' e (le.trans le')) fun c p d F'' H'' e le' => ke c p d F'' H'' e (le.trans le')⟩
theorem sb_par3 [Enc α] [Enc β] [Enc γ] {i j l : Nat} {m : R α} {n : R β} {o : R γ} {f : α → β → γ → R (Fl S ρ)} (h : EM cf E ta G m) (h' : EM cf E tb G n) (h'' : EM cf E tc G o) (G' : α → β → γ → List Sl)
    (hG : ∀ a b c, ((G.set i (.va (toD a))).set j (.va (toD b))).set l (.va (toD c)) = G' a b c) (hk : ∀ a b c, SB cf E u (G' a b c) enc (f a b c)) :
    SB cf E (tSeq (tPar3 i j l (tCons ta (tCons tb (tCons tc tNil)))) u) G enc (m.bind fun a => n.bind fun b => o.bind fun c => f a b c) := fun F O H σ D hM nb kn kb kr ke => by
  obtain ⟨O', lo, hf, he, o1, o2⟩ := hM
  refine h F O' H σ _ hf he (R.bind_nb nb) (fun a v F1 H1 ea le1 hf1 hr => ?_) (fun c p d F' H' e le hf' hd => ke c p d F' H' (by rw [e]; rfl) le (hf'.weak lo) hd)
  rw [ea, R.ok_bind] at nb kn kb kr ke
  refine h' F1 O' H1 σ _ hf1 (he.mono le1) (R.bind_nb nb) (fun b w' F2 H2 eb le2 hf2 hw => ?_) (fun c p d F' H' e le hf' hd => ke c p d F' H' (by rw [e]; rfl) (le1.trans le) (hf'.weak lo) hd)
  rw [eb, R.ok_bind] at nb kn kb kr ke
  have le12 := le1.trans le2
  refine h'' F2 O' H2 σ _ hf2 (he.mono le12) (R.bind_nb nb) (fun c z F3 H3 ec le3 hf3 hz => ?_) (fun c p d F' H' e le hf' hd => ke c p d F' H' (by rw [e]; rfl) (le12.trans le) (hf'.weak lo) hd)
  rw [ec, R.ok_bind] at nb kn kb kr ke
  have le := le12.trans le3
  have hM2 : Mt cf.K F3 O H3 σ G := ⟨O', lo, hf3, he.mono le, o1, o2⟩
  have hM3 := mt_set (mt_set (mt_set hM2 i (hr.mono (le2.trans le3))) j (hw.mono le3)) l hz
  rw [hG] at hM3
  exact ⟨v, w', z, rfl, hk a b c F3 O H3 _ D hM3 nb (fun s F'' H'' σ' e le' => kn s F'' H'' σ' e (le.trans le')) (fun s F'' H'' σ' e le' => kb s F'' H'' σ' e (le.trans le')) (fun r v F'' H'' e le' => kr r v F'' H'' e (le.trans le')) fun c p d F'' H'' e le' => ke c p d F'' H'' e (le.trans le')⟩
/-- a value that is not None -/
def getR (o : Option α) : R α := match o with
  | some a => .ok a
  | none => .bad
theorem EM.get [Enc α] {m : R (Option α)} (h : EM cf E ta G m) : EM cf E ta G (m.bind getR) := fun F O H σ Q hf he nb ko ke =>
  h F O H σ Q hf he (R.bind_nb nb) (fun o v F' H' e le hf' hr => by
    rw [e, R.ok_bind] at nb ko
    cases o with
    | none => exact absurd rfl nb
    | some a => exact ko a v F' H' rfl le hf' hr) (fun c p d F' H' e => ke c p d F' H' (by rw [e]; rfl))
/-! ### is True, in, isinstance -/
theorem em_isB {ma mb : R Bool} (ha : EM cf E ta G ma) (hb : EM cf E tb G mb) : EM cf E (tOp rIsB ta tb) G (ma.bind fun a => mb.bind fun b => .ok (decide (a = b))) :=
  EG.bind2 (u := fun x y H Q => rIsB x y H Q) ha hb rm_mono fun F O H Q a r b s hf h1 h2 _ ko => ⟨a, b, dr_bl h1, dr_bl h2, ko _ _ F H rfl (Le.refl F) hf (.bl _)⟩
theorem em_notB {ma mb : R Bool} (ha : EM cf E ta G ma) (hb : EM cf E tb G mb) : EM cf E (tOp rNotB ta tb) G (ma.bind fun a => mb.bind fun b => .ok (!decide (a = b))) :=
  EG.bind2 (u := fun x y H Q => rNotB x y H Q) ha hb rm_mono fun F O H Q a r b s hf h1 h2 _ ko => ⟨a, b, dr_bl h1, dr_bl h2, ko _ _ F H rfl (Le.refl F) hf (.bl _)⟩
theorem inV_int (a : Int) : ∀ xs : List Int, inV (.int a) (xs.map V.int) = xs.contains a
  | [] => rfl
  | x :: r => by
    have ih := inV_int a r
    unfold inV at ih ⊢
    rw [List.map_cons, List.any_cons, ih, List.contains_cons]
    congr 1
    show eqV (.int x) (.int a) = (a == x)
    unfold eqV
    by_cases e : x = a
    · subst e
      simp
    · have e' : ¬ a = x := fun z => e z.symm
      show (x == a) = (a == x)
      rw [beq_eq_false_iff_ne.mpr e, beq_eq_false_iff_ne.mpr e']
theorem flat_int (xs : List Int) : (xs.map V.int).all flatV = true := by
  rw [List.all_eq_true]
  intro x hx
  obtain ⟨i, _, rfl⟩ := List.mem_map.mp hx
  rfl
theorem em_inI {ma : R Int} {mb : R (List Int)} (ha : EM cf E ta G ma) (hb : ES cf E tb G mb) : EM cf E (tOp (rIn cf.K false) ta tb) G (ma.bind fun a => mb.bind fun b => .ok (b.contains a)) :=
  EG.bind2 (u := fun x y H Q => rIn cf.K false x y H Q) ha hb rm_mono fun F O H Q a r b s hf h1 h2 _ ko => by
    obtain ⟨p, vs, e, hs, hr⟩ := RS.seq h2 hf
    rw [ints_of_drA hr] at hs
    rw [dr_int (i := a) h1]
    refine ⟨p, _, e, .inl hs, rfl, flat_int b, ?_⟩
    rw [inV_int]
    exact ko _ _ F H rfl (Le.refl F) hf (.bl _)
theorem em_niI {ma : R Int} {mb : R (List Int)} (ha : EM cf E ta G ma) (hb : ES cf E tb G mb) : EM cf E (tOp (rIn cf.K true) ta tb) G (ma.bind fun a => mb.bind fun b => .ok (!b.contains a)) :=
  EG.bind2 (u := fun x y H Q => rIn cf.K true x y H Q) ha hb rm_mono fun F O H Q a r b s hf h1 h2 _ ko => by
    obtain ⟨p, vs, e, hs, hr⟩ := RS.seq h2 hf
    rw [ints_of_drA hr] at hs
    rw [dr_int (i := a) h1]
    refine ⟨p, _, e, .inl hs, rfl, flat_int b, ?_⟩
    rw [inV_int]
    exact ko _ _ F H rfl (Le.refl F) hf (.bl _)
/-- isinstance(x, T), x of the type T itself -/
def rIsTyK (K : PySem.W.Frag) : List V → Hp → VK → Prop := fun xs H Q => ∃ (x : V) (T : String), xs = [x, .ty T] ∧ TyOf K H x (.type T) ∧ Q (.bl true) H
theorem call_isTyK {X : Cx} : CallR X (.builtin "isinstance") (rIsTyK X.K) := by
  intro pins s σ H xs us Q I r h
  obtain ⟨x, T, rfl, t, q⟩ := h
  cases r with
  | cons rx rr =>
    cases rr with
    | cons rt rr =>
      cases rr
      cases rt
      have e : PySem.W.kitOne X.K (.type T) (.type T) = some true := if_pos (beq_self_eq_true _)
      exact isinst_ok I rx t e fun tk => ⟨.bl true, H, I.kept (t' := tk) fun _ _ z => z, rfl, q⟩
theorem em_isT (T : String) [Enc α] (hT : ∀ (F H : Hp) (v : V) (a : α), Le F H → Dr cf.K F v (toD a) → TyOf cf.K H v (.type T)) {m : R α} (h : EM cf E ta G m) : EM cf E (tCB (rIsTyK cf.K) (tCons ta (tCons (tC (.ty T)) tNil))) G (m.bind fun _ => .ok true) :=
  EG.bind1 (u := fun r H Q => rIsTyK cf.K [r, .ty T] H Q) h fun F O H Q a r hf h1 _ ko => ⟨r, T, rfl, hT F H r a hf.f h1, ko _ _ F H rfl (Le.refl F) hf (.bl _)⟩
theorem em_isT_bool {m : R Bool} (h : EM cf E ta G m) : EM cf E (tCB (rIsTyK cf.K) (tCons ta (tCons (tC (.ty "bool")) tNil))) G (m.bind fun _ => .ok true) := em_isT "bool" (fun F H v a le r => by
  rw [dr_bl (i := a) r]
  exact .bl a) h
theorem em_isT_list [Enc α] {m : R (List α)} (h : EM cf E ta G m) : EM cf E (tCB (rIsTyK cf.K) (tCons ta (tCons (tC (.ty "list")) tNil))) G (m.bind fun _ => .ok true) := em_isT "list" (fun F H v a le r => by
  obtain ⟨p, vs, e, h1, _⟩ := dr_lst r
  rw [e]
  exact .lst (le _ _ h1)) h
theorem em_isT_tuple [Enc α] [Enc β] {m : R (α × β)} (h : EM cf E ta G m) : EM cf E (tCB (rIsTyK cf.K) (tCons ta (tCons (tC (.ty "tuple")) tNil))) G (m.bind fun _ => .ok true) := em_isT "tuple" (fun F H v a le r => by
  obtain ⟨p, vs, e, h1, _⟩ := dr_tup (ds := [toD a.1, toD a.2]) r
  rw [e]
  exact .tup (le _ _ h1)) h

/-! ### sorted -/
/-- data that Python sorts -/
class Sbl (α : Type) [Enc α] : Prop where
  al : ∀ a b : α, PySem.W.alike (toD a).py (toD b).py = true
  so : (∀ a : α, ∃ x r, (toD a).py = .tuple (x :: r)) ∨ ∀ a : α, (toD a).py ≠ .none ∧ ∀ xs, (toD a).py ≠ .tuple xs
  dp : ∀ a : α, (toD a).py.depth ≤ 8
  nd : ∀ a : α, (toD a).nd = true
/-- Python's a <= b -/
def leD [Enc α] (a b : α) : Bool := PySem.W.dataLe false (fun x : α => (toD x).py) a b
def sortR [Enc α] (xs : List α) : R (List α) := (szR xs).bind fun xs => .ok (xs.mergeSort leD)
def rSortedD (K : PySem.W.Frag) : List V → Hp → VK → Prop := fun vs H Q => ∃ (a : Addr) (zs : List (V × PyData)), vs = [V.ref a] ∧ SqL K H a (zs.map (·.1)) ∧ (∀ z ∈ zs, Dp K H z.1 z.2) ∧ PySem.W.AllAlike (zs.map (·.2)) ∧ PySem.W.Sortable (zs.map (·.2)) ∧ (∀ z ∈ zs, z.2.depth ≤ 8) ∧
  ∀ p, H p = none → Q (.ref p) (upd H p (.lst ((zs.mergeSort (PySem.W.dataLe false fun z : V × PyData => z.2)).map (·.1))))
theorem relV_unique {v : V} {u u' : Value} : True := trivial
theorem eachIs_of {α β : Type} {R : α → β → Prop} : ∀ {as : List α} {bs : List β}, as.length = bs.length → (∀ (i : Nat) a b, as[i]? = some a → bs[i]? = some b → R a b) → PySem.W.EachIs R as bs
  | [], [], _, _ => .nil
  | [], _ :: _, h, _ => by simp at h
  | _ :: _, [], h, _ => by simp at h
  | a :: as, b :: bs, h, k => .cons (k 0 a b rfl rfl) (eachIs_of (by simpa using h) fun i x y e e' => k (i + 1) x y (by simpa using e) (by simpa using e'))
theorem vals_of_each {β : Type} {f : β → V} : ∀ {us : List Value} {bs : List β}, PySem.W.EachIs (fun u b => RelV (f b) u) us bs → Vals (bs.map f) us
  | _, _, .nil => .nil
  | _, _, .cons r t => .cons r (vals_of_each t)
theorem cr_sortedD {X : Cx} (hu : X.A.units + 64 < cLine) : CallR X (.builtin "sorted") (rSortedD X.K) := by
  intro pins s σ H vs us Q I r h
  obtain ⟨a, zs, rfl, hs, hd, hal, hso, hdp, q⟩ := h
  obtain ⟨its, rv, hl, hz⟩ := I.list hs
  obtain ⟨u, rfl, ru⟩ := vals1 r
  obtain rfl : u = Value.ref a := ru
  have hlen : its.length = zs.length := by rw [← rv.length, List.length_map]
  have rel : ∀ (i : Nat) (u : Value) (z : V × PyData), its[i]? = some u → zs[i]? = some z → RelV z.1 u := fun i u z e1 e2 => by
    obtain ⟨u', h1, h2⟩ := rv.get (show (zs.map (·.1))[i]? = some z.1 by rw [List.getElem?_map, e2]; rfl)
    rw [e1] at h1
    cases h1
    exact h2
  have er : PySem.W.EachIs (fun u z => RelV z.1 u) its zs := eachIs_of hlen rel
  have er2 : PySem.W.EachIs (fun u z => ∃ as, Reads s.heap u (z : V × PyData).2 as) its zs := eachIs_of hlen fun i u z e1 e2 => Dp.reads I z.2 z.1 u (hd z (List.mem_of_getElem? e2)) (rel i u z e1 e2)
  refine PySem.W.sorted_data (enc := fun z : V × PyData => z.2) hl.isList er er2 hal hso (by rw [← hlen, ← rv.length]; exact hz) (fun z hm => by have := hdp z hm; omega) fun out ho eo => ?_
  obtain ⟨c, hc⟩ := sortedAll_at s.heap its out.toArray
  have hf : H (s.heap.objs.size + 1) = none := I.hok.fresh (Nat.le_succ _)
  refine ⟨.ref (s.heap.objs.size + 1), _, I.laid (t' := s.toks) (o := .lst ((zs.mergeSort (PySem.W.dataLe false fun z : V × PyData => z.2)).map (·.1))) (h' := sortedAll s.heap its out.toArray) (fun b o e => sortedAll_old e) (Nat.le_succ _) ⟨?_, out, c, vals_of_each eo, hc⟩, rfl, q _ hf⟩
  rw [List.length_map, List.length_mergeSort, ← hlen, ← rv.length]
  exact hz
theorem zip_fst {A B : Type} : ∀ {xs : List A} {ys : List B}, xs.length = ys.length → (xs.zip ys).map (·.1) = xs
  | [], [], _ => rfl
  | [], _ :: _, h => by simp at h
  | _ :: _, [], h => by simp at h
  | x :: xs, y :: ys, h => by rw [List.zip_cons_cons, List.map_cons, zip_fst (by simpa using h)]
theorem zip_snd {A B : Type} : ∀ {xs : List A} {ys : List B}, xs.length = ys.length → (xs.zip ys).map (·.2) = ys
  | [], [], _ => rfl
  | [], _ :: _, h => by simp at h
  | _ :: _, [], h => by simp at h
  | x :: xs, y :: ys, h => by rw [List.zip_cons_cons, List.map_cons, zip_snd (by simpa using h)]
theorem drA_zip [Enc α] {K : PySem.W.Frag} {F : Hp} : ∀ {vs : List V} {xs : List α}, DrA K F vs (xs.map toD) → ∀ z ∈ vs.zip xs, Dr K F z.1 (toD z.2)
  | [], _, _, z, hz => by simp at hz
  | _ :: _, [], _, z, hz => by simp at hz
  | v :: vs, x :: xs, h, z, hz => by
    obtain ⟨v', r', e, h1, h2⟩ := drA_cons h
    cases e
    rw [List.zip_cons_cons] at hz
    rcases List.mem_cons.mp hz with e | hz
    · subst e
      exact h1
    · exact drA_zip h2 z hz
theorem drA_of [Enc α] {K : PySem.W.Frag} {F : Hp} : ∀ {zs : List (V × α)}, (∀ z ∈ zs, Dr K F z.1 (toD z.2)) → DrA K F (zs.map (·.1)) ((zs.map (·.2)).map toD)
  | [], _ => .nil
  | z :: zs, h => .cons (h z (by simp)) (drA_of fun y hy => h y (by simp [hy]))
theorem ef_sorted [Enc α] [Sbl α] {m : R (List α)} (h : ES cf E ta G m) : EF cf E (tCB (rSortedD cf.K) (tCons ta tNil)) G (m.bind sortR) :=
  EG.call1 (ρ := Unit) h fun F O H Q xs r hf h1 nb ko => by
    obtain ⟨p, vs, e, hs, hr⟩ := RS.seq h1 hf
    obtain ⟨hz, ez⟩ := szR_nb (R.bind_nb nb)
    have es : sortR xs = .ok (xs.mergeSort leD) := by
      unfold sortR
      rw [ez]
      rfl
    have hl : vs.length = xs.length := by rw [hr.length, List.length_map]
    let zs : List (V × α) := vs.zip xs
    let ws : List (V × PyData) := zs.map fun z => (z.1, (toD z.2).py)
    have e1 : ws.map (·.1) = vs := by
      show (zs.map _).map _ = vs
      rw [List.map_map]
      exact zip_fst hl
    have hw : ∀ w' ∈ ws, ∃ v a, (v, a) ∈ zs ∧ w' = (v, (toD a).py) := fun w' hm => by
      obtain ⟨z, hz, rfl⟩ := List.mem_map.mp hm
      exact ⟨z.1, z.2, hz, rfl⟩
    refine ⟨p, ws, by rw [e], by rw [e1]; exact hs, fun w' hm => ?_, fun d hd d' hd' => ?_, ?_, fun w' hm => ?_, fun q hq => ?_⟩
    · obtain ⟨v, a, hz, rfl⟩ := hw w' hm
      exact Dr.dp hf.f (drA_zip hr _ hz) (Sbl.nd a)
    · obtain ⟨w1, hm, rfl⟩ := List.mem_map.mp hd
      obtain ⟨w2, hm', rfl⟩ := List.mem_map.mp hd'
      obtain ⟨v, a, _, rfl⟩ := hw w1 hm
      obtain ⟨v', a', _, rfl⟩ := hw w2 hm'
      exact Sbl.al a a'
    · rcases Sbl.so (α := α) with k | k
      · refine .inl fun d hd => ?_
        obtain ⟨w1, hm, rfl⟩ := List.mem_map.mp hd
        obtain ⟨v, a, _, rfl⟩ := hw w1 hm
        exact k a
      · refine .inr fun d hd => ?_
        obtain ⟨w1, hm, rfl⟩ := List.mem_map.mp hd
        obtain ⟨v, a, _, rfl⟩ := hw w1 hm
        exact k a
    · obtain ⟨v, a, _, rfl⟩ := hw w' hm
      exact Sbl.dp a
    · refine ko _ _ F _ es (Le.refl F) (hf.newH hq) ⟨q, _, rfl, hf.fnone hq, hf.onone hq, upd_same, ?_⟩
      have k1 : ws.mergeSort (PySem.W.dataLe false fun z : V × PyData => z.2) = (zs.mergeSort fun x y => leD x.2 y.2).map fun z => (z.1, (toD z.2).py) := by
        show (zs.map _).mergeSort _ = _
        exact (List.map_mergeSort (r := fun x y : V × α => leD x.2 y.2) (s := PySem.W.dataLe false fun z : V × PyData => z.2) (f := fun z : V × α => (z.1, (toD z.2).py)) (l := zs) (fun a _ b _ => rfl)).symm
      have k2 : (zs.mergeSort fun x y => leD x.2 y.2).map (·.2) = xs.mergeSort leD := by
        have q := List.map_mergeSort (r := fun x y : V × α => leD x.2 y.2) (s := leD) (f := fun z : V × α => z.2) (l := zs) (fun a _ b _ => rfl)
        rw [q]
        congr 1
        exact zip_snd hl
      rw [k1, ← k2, List.map_map]
      exact drA_of fun z hz => drA_zip hr z ((List.mergeSort_perm zs _).mem_iff.mp hz)
end
instance : Sbl Int := ⟨fun a b => by show PySem.W.alike (.int a) (.int b) = true; simp only [PySem.W.alike], .inr fun a => ⟨fun h => (nomatch h), fun _ h => (nomatch h)⟩, fun a => Nat.zero_le _, fun a => rfl⟩
instance : Sbl (Int × Int) := ⟨fun a b => by
    show PySem.W.alike (.tuple [.int a.1, .int a.2]) (.tuple [.int b.1, .int b.2]) = true
    simp [PySem.W.alike, PySem.W.alikeAll], .inl fun a => ⟨_, _, rfl⟩, fun a => by
    show PyData.depth (.tuple [.int a.1, .int a.2]) ≤ 8
    simp [PyData.depth, PyData.depthAll], fun a => rfl⟩
instance : Sbl (T3 Int Int Int) := ⟨fun a b => by
    show PySem.W.alike (.tuple [.int a.a, .int a.b, .int a.c]) (.tuple [.int b.a, .int b.b, .int b.c]) = true
    simp [PySem.W.alike, PySem.W.alikeAll], .inl fun a => ⟨_, _, rfl⟩, fun a => by
    show PyData.depth (.tuple [.int a.a, .int a.b, .int a.c]) ≤ 8
    simp [PyData.depth, PyData.depthAll], fun a => rfl⟩
theorem pyA_ints : ∀ ns : List Int, Dt.pyA (ns.map toD) = ns.map PyData.int
  | [] => rfl
  | n :: r => by
    show PyData.int n :: Dt.pyA (r.map toD) = _
    rw [pyA_ints r]
    rfl
theorem ndA_ints : ∀ ns : List Int, Dt.ndA (ns.map toD) = true
  | [] => rfl
  | n :: r => by
    show (true && Dt.ndA (r.map toD)) = true
    rw [ndA_ints r]
    rfl
instance : Sbl (Int × List Int) := ⟨fun a b => by
    show PySem.W.alike (.tuple [.int a.1, .list (Dt.pyA (a.2.map toD))]) (.tuple [.int b.1, .list (Dt.pyA (b.2.map toD))]) = true
    rw [pyA_ints, pyA_ints]
    simp [PySem.W.alike, PySem.W.alikeAll, PySem.W.alike_ints], .inl fun a => ⟨_, _, rfl⟩, fun a => by
    show PyData.depth (.tuple [.int a.1, .list (Dt.pyA (a.2.map toD))]) ≤ 8
    rw [pyA_ints]
    simp [PyData.depth, PyData.depthAll, PySem.W.depth_ints], fun a => by
    show (true && (Dt.ndA (a.2.map toD) && true)) = true
    rw [ndA_ints]
    rfl⟩
section
variable {X : Cx} (K : PySem.W.Frag) (h : X.K = K)
include h
theorem sortedK (hu : X.A.units + 64 < cLine) : CallR X (.builtin "sorted") (rSortedD K) := h ▸ cr_sortedD hu
theorem isTyK : CallR X (.builtin "isinstance") (rIsTyK K) := h ▸ call_isTyK
end
end Kr

/-! KrM: the mathematics of results: loops, comprehensions, equality of data. -/
namespace Kr
open PySem PySem.Spec PyProof.Rows L2
open Enc (toD)
variable {α β γ S T ρ : Type}
theorem finR_rt (r : ρ) : finR (.ok (.rt r) : R (Fl S ρ)) = .ok r := (fun (m : R (Fl S ρ)) (e : m = .ok (.rt r)) => show finR m = .ok r by rw [e]; rfl) _ rfl
theorem seqF_nx (s : S) (k : S → R (Fl T ρ)) : seqF (.ok (.nx s)) k = k s := (fun (m : R (Fl S ρ)) (e : m = .ok (.nx s)) => show seqF m k = k s by rw [e]; rfl) _ rfl
theorem seqF_rt (r : ρ) (k : S → R (Fl T ρ)) : seqF (.ok (.rt r)) k = .ok (.rt r) := (fun (m : R (Fl S ρ)) (e : m = .ok (.rt r)) => show seqF m k = .ok (.rt r) by rw [e]; rfl) _ rfl
theorem seqF_ite (c : Prop) [Decidable c] (a b : R (Fl S ρ)) (k : S → R (Fl T ρ)) : seqF (if c then a else b) k = if c then seqF a k else seqF b k := by split <;> rfl
theorem ite_nx (c : Prop) [Decidable c] (a b : S) : (if c then (.ok (.nx a) : R (Fl S ρ)) else .ok (.nx b)) = .ok (.nx (if c then a else b)) := by split <;> rfl
theorem ite_ok (c : Prop) [Decidable c] (a b : α) : (if c then (.ok a : R α) else .ok b) = .ok (if c then a else b) := by split <;> rfl
theorem okB (b : Bool) (x y : R α) (c : Prop) [Decidable c] (h : b = decide c) : (if b = true then x else y) = if c then x else y := by subst h; simp
/-- a loop that runs through -/
theorem forR_run {step : T → α → R (Fl T ρ)} {k : T → R (Fl S ρ)} : ∀ (xs : List α) (s : T) (I : Nat → T → Prop), I 0 s → (∀ (i : Nat) (h : i < xs.length) (s : T), I i s → ∃ s', step s xs[i] = .ok (.nx s') ∧ I (i + 1) s') →
    ∃ s', I xs.length s' ∧ forR step k xs s = k s'
  | [], s, I, h0, _ => ⟨s, h0, rfl⟩
  | x :: r, s, I, h0, hs => by
    obtain ⟨s1, e1, h1⟩ := hs 0 (by simp) s h0
    obtain ⟨s2, h2, e2⟩ := forR_run (step := step) (k := k) r s1 (fun i => I (i + 1)) h1 fun i hi s' hI => hs (i + 1) (by simpa using hi) s' hI
    refine ⟨s2, h2, ?_⟩
    show (step s x).bind _ = _
    rw [show step s x = .ok (.nx s1) from e1]
    exact e2
/-- .. as a rule for a goal -/
theorem forR_elim {P : R (Fl S ρ) → Prop} {step : T → α → R (Fl T ρ)} {k : T → R (Fl S ρ)} {xs : List α} {s : T} (I : Nat → T → Prop) (h0 : I 0 s) (hs : ∀ (i : Nat) (h : i < xs.length) (s : T), I i s → ∃ s', step s xs[i] = .ok (.nx s') ∧ I (i + 1) s')
    (hP : ∀ s', I xs.length s' → P (k s')) : P (forR step k xs s) := by
  obtain ⟨s', h1, h2⟩ := forR_run (step := step) (k := k) xs s I h0 hs
  rw [h2]
  exact hP s' h1
theorem szR_nil : szR ([] : List α) = .ok [] := if_pos (Nat.zero_le _)
theorem forR_fold {step : T → α → R (Fl T ρ)} {k : T → R (Fl S ρ)} (f : T → α → T) : ∀ (xs : List α) (s : T), (∀ s x, x ∈ xs → step s x = .ok (.nx (f s x))) → forR step k xs s = k (xs.foldl f s)
  | [], s, _ => rfl
  | x :: r, s, h => by
    show (step s x).bind _ = _
    rw [h s x (by simp)]
    exact forR_fold f r (f s x) fun s y hy => h s y (by simp [hy])
theorem forR_cons (step : T → α → R (Fl T ρ)) (k : T → R (Fl S ρ)) (x : α) (r : List α) (s : T) : forR step k (x :: r) s = (step s x).bind fun
    | .nx s' => forR step k r s'
    | .bk s' => k s'
    | .rt v => .ok (.rt v) := rfl
/-- a comprehension that runs through -/
theorem lcR_ok {ft : α → R Bool} {fe : α → R β} {xs : List α} (p : α → Bool) (g : α → β) (hz : xs.length ≤ 1000000) (ht : ∀ x ∈ xs, ft x = .ok (p x)) (he : ∀ x ∈ xs, p x = true → fe x = .ok (g x)) : lcR ft fe xs = .ok ((xs.filter p).map g) := by
  unfold lcR
  rw [szR_ok hz, R.ok_bind]
  clear hz
  induction xs with
  | nil => rfl
  | cons x r ih =>
    have ih' := ih (fun y hy => ht y (by simp [hy])) fun y hy => he y (by simp [hy])
    show ((ft x).pu.bind _) = _
    rw [ht x (by simp), R.ok_pu, R.ok_bind]
    cases hp : p x with
    | false =>
      rw [if_neg Bool.false_ne_true, ih', List.filter_cons, if_neg (by rw [hp]; decide)]
    | true =>
      rw [if_pos rfl, he x (by simp) hp, R.ok_pu, R.ok_bind, ih', List.filter_cons, if_pos hp]
      rfl
theorem lcR_map {fe : α → R β} {xs : List α} (g : α → β) (hz : xs.length ≤ 1000000) (he : ∀ x ∈ xs, fe x = .ok (g x)) : lcR (fun _ => .ok true) fe xs = .ok (xs.map g) := by
  rw [lcR_ok (fun _ => true) g hz (fun _ _ => rfl) fun x hx _ => he x hx, List.filter_eq_self.mpr fun _ _ => rfl]
/-! ### ranges, items -/
theorem mem_seqI {lo x : Int} {n : Nat} : x ∈ seqI lo n ↔ lo ≤ x ∧ x < lo + (n : Int) := by
  unfold seqI
  rw [List.mem_map]
  constructor
  · rintro ⟨i, hi, rfl⟩
    have := List.mem_range.mp hi
    omega
  · rintro ⟨h1, h2⟩
    exact ⟨(x - lo).toNat, List.mem_range.mpr (by omega), by omega⟩
theorem seqI_at {lo : Int} {n i : Nat} (h : i < (seqI lo n).length) : (seqI lo n)[i] = lo + (i : Int) := by
  have e := seqI_get lo n i
  rw [List.getElem?_eq_getElem h, if_pos (by rw [seqI_len] at h; exact h)] at e
  exact Option.some.inj e
theorem seqI_succ (lo : Int) (n : Nat) : seqI lo (n + 1) = seqI lo n ++ [lo + (n : Int)] := by
  unfold seqI
  rw [List.range_succ, List.map_append]
  rfl
theorem rng1_ok {n : Int} (h : n < 2 ^ 62) (h' : -(2 ^ 62) ≤ n) : rng1R n = .ok (seqI 0 n.toNat) := if_pos ⟨h', h⟩
theorem rng1_nat {n : Nat} (h : n ≤ 1000000) : rng1R (n : Int) = .ok (seqI 0 n) := by
  rw [rng1_ok (by omega) (by omega)]
  rfl
theorem rng2_ok {a b : Int} (h : -1000000 ≤ a ∧ a ≤ 1000000 ∧ -1000000 ≤ b ∧ b ≤ 1000000) : rng2R a b = .ok (seqI a (b - a).toNat) := if_pos (by omega)
theorem ixN_ok {n : Nat} {i : Int} (h : 0 ≤ i) (h' : i < n) : ixN n i = some i.toNat := by
  unfold ixN
  rw [if_pos h, if_pos h']
theorem idxR_ok {xs : List α} {i : Int} (h : 0 ≤ i) (h' : i < xs.length) : idxR xs i = .ok (xs[i.toNat]'(by omega)) := by
  unfold idxR atI
  rw [ixN_ok h h', Option.bind_some, List.getElem?_eq_getElem (by omega)]
theorem idxR_nat {xs : List α} {i : Nat} (h : i < xs.length) : idxR xs (i : Int) = .ok xs[i] := by
  rw [idxR_ok (by omega) (by omega)]
  rfl
theorem idxR_of {xs : List α} {i : Int} {a : α} (h : 0 ≤ i) (e : xs[i.toNat]? = some a) : idxR xs i = .ok a := by
  obtain ⟨hl, e'⟩ := List.getElem?_eq_some_iff.mp e
  rw [idxR_ok h (by omega), e']
theorem setR_ok {xs : List α} {i : Int} {a : α} (h : 0 ≤ i) (h' : i < xs.length) : setR xs i a = .ok (xs.set i.toNat a) := by
  unfold setR
  rw [ixN_ok h h']
/-! ### numbers -/
theorem modR_ok {a b : Int} (h : 0 < b) : modR a b = .ok (a % b) := if_pos h
theorem divR_ok {a b : Int} (h : 0 < b) (h' : b < 2 ^ 64) : divR a b = .ok (a / b) := if_pos ⟨h, by
  have h1 : b.natAbs < 2 ^ 64 := by omega
  have h2 := PySem.Flt.log2_lt_of (by decide) h1
  omega⟩
theorem divR_big {a b : Int} {n : Nat} (h : 0 < b) (h' : b.natAbs < 2 ^ n) (h0 : 0 < n) (h9 : n ≤ 9000) : divR a b = .ok (a / b) := if_pos (wide_div (i := a) h h' h0 h9)
theorem bits_le {x : Int} {n : Nat} (h : x.natAbs < 2 ^ n) (h0 : 0 < n) : Builtin.Int.intBits x ≤ n := by
  have := PySem.Flt.log2_lt_of h0 h
  unfold Builtin.Int.intBits
  split <;> omega
theorem mulR_big {a b : Int} {n m : Nat} (ha : a.natAbs < 2 ^ n) (hb : b.natAbs < 2 ^ m) (hn : 0 < n) (hm : 0 < m) (h : n + m ≤ 134217728) : mulR a b = .ok (a * b) := if_pos (by
  have h1 := bits_le ha hn
  have h2 := bits_le hb hm
  omega)
theorem mulR_ok {a b : Int} (ha : -(2 ^ 64) < a ∧ a < 2 ^ 64) (hb : -(2 ^ 64) < b ∧ b < 2 ^ 64) : mulR a b = .ok (a * b) := mulR_big (n := 64) (m := 64) (by omega) (by omega) (by decide) (by decide) (by decide)
theorem shlR_ok {a b : Int} (ha : -(2 ^ 64) < a ∧ a < 2 ^ 64) (hb : 0 ≤ b ∧ b ≤ 1000000) : shlR a b = .ok (a * 2 ^ b.toNat) := if_pos ⟨hb.1, by
  have h1 := bits_le (x := a) (n := 64) (by omega) (by decide)
  omega⟩
theorem shrR_ok {a b : Int} (hb : 0 ≤ b) : shrR a b = .ok (a / 2 ^ b.toNat) := if_pos hb
/-! ### equality of data -/
/-- data whose == is equality -/
class Eqd (α : Type) [Enc α] where
  n : Nat
  nd : ∀ a : α, (toD a).nd = true
  lay : ∀ a : α, (toD a).py.canLay0 = true
  dp : ∀ a : α, (toD a).py.depth ≤ n
  ev : ∀ a b : α, PyData.eqv (toD a).py (toD b).py = true ↔ a = b
theorem eqR_eq [Enc α] [q : Eqd α] [DecidableEq α] (a b : α) (h : q.n ≤ 64 := by decide) : eqR a b = .ok (decide (a = b)) := by
  unfold eqR
  have sh : ∀ a : α, SeqAt.shaped (toD a).py = true := fun a => by
    unfold SeqAt.shaped
    rw [Eqd.lay a, Bool.true_and]
    exact decide_eq_true (Nat.le_trans (Eqd.dp a) h)
  rw [if_pos ⟨Eqd.nd a, Eqd.nd b, sh a, sh b⟩]
  congr 1
  by_cases e : a = b
  · rw [decide_eq_true e, (Eqd.ev a b).mpr e]
  · rw [decide_eq_false e]
    cases q : PyData.eqv (toD a).py (toD b).py with
    | false => rfl
    | true => exact absurd ((Eqd.ev a b).mp q) e
instance : Eqd Int := ⟨0, fun _ => rfl, fun _ => rfl, fun _ => Nat.le_refl _, fun a b => by show (a == b) = true ↔ _; simp⟩
instance : Eqd Bool := ⟨0, fun _ => rfl, fun _ => rfl, fun _ => Nat.le_refl _, fun a b => by show (a == b) = true ↔ _; simp⟩
section
variable [Enc α] [q : Eqd α]
theorem eqd_ndA : ∀ xs : List α, Dt.ndA (xs.map toD) = true
  | [] => rfl
  | x :: r => by
    show (Dt.nd (toD x) && Dt.ndA (r.map toD)) = true
    rw [Eqd.nd x, eqd_ndA r]
    rfl
theorem eqd_layA : ∀ xs : List α, PyData.canLayAll0 (Dt.pyA (xs.map toD)) = true
  | [] => rfl
  | x :: r => by
    show (PyData.canLay0 (toD x).py && PyData.canLayAll0 (Dt.pyA (r.map toD))) = true
    rw [Eqd.lay x, eqd_layA r]
    rfl
theorem eqd_dpA : ∀ xs : List α, PyData.depthAll (Dt.pyA (xs.map toD)) ≤ q.n
  | [] => Nat.zero_le _
  | x :: r => by
    show max (PyData.depth (toD x).py) (PyData.depthAll (Dt.pyA (r.map toD))) ≤ _
    exact Nat.max_le.mpr ⟨Eqd.dp x, eqd_dpA r⟩
theorem eqd_evA : ∀ xs ys : List α, PyData.eqvAll (Dt.pyA (xs.map toD)) (Dt.pyA (ys.map toD)) = true ↔ xs = ys
  | [], [] => by simp [Dt.pyA, PyData.eqvAll]
  | [], _ :: _ => by simp [Dt.pyA, PyData.eqvAll]
  | _ :: _, [] => by simp [Dt.pyA, PyData.eqvAll]
  | x :: xs, y :: ys => by
    show (PyData.eqv (toD x).py (toD y).py && PyData.eqvAll (Dt.pyA (xs.map toD)) (Dt.pyA (ys.map toD))) = true ↔ _
    rw [Bool.and_eq_true, Eqd.ev x y, eqd_evA xs ys]
    simp
instance : Eqd (List α) := ⟨q.n + 1, fun xs => eqd_ndA xs, fun xs => eqd_layA xs, fun xs => by
  show PyData.depthAll (Dt.pyA (xs.map toD)) + 1 ≤ _
  exact Nat.succ_le_succ (eqd_dpA xs), fun xs ys => eqd_evA xs ys⟩
theorem eqv_none_l {d : PyData} (h : d ≠ .none) : PyData.eqv .none d = false := by cases d <;> first | rfl | exact absurd rfl h
theorem eqv_none_r {d : PyData} (h : d ≠ .none) : PyData.eqv d .none = false := by cases d <;> first | rfl | exact absurd rfl h
theorem py_non {d : Dt} (h : d.py = .none) : d = .non := by cases d <;> first | rfl | exact absurd h (fun z => nomatch z)
instance [NN α] : Eqd (Option α) := ⟨q.n, fun o => match o with
  | none => rfl
  | some a => Eqd.nd (α := α) a, fun o => match o with
  | none => rfl
  | some a => Eqd.lay (α := α) a, fun o => match o with
  | none => Nat.zero_le _
  | some a => Eqd.dp (α := α) a, fun a b => by
  have ne : ∀ a : α, (toD a).py ≠ .none := fun a h => NN.nn a (py_non h)
  cases a with
  | none =>
    cases b with
    | none => simp [PyData.eqv, toD, Enc.toD, Dt.py]
    | some b =>
      show PyData.eqv .none (toD b).py = true ↔ _
      rw [eqv_none_l (ne b)]
      simp
  | some a =>
    cases b with
    | none =>
      show PyData.eqv (toD a).py .none = true ↔ _
      rw [eqv_none_r (ne a)]
      simp
    | some b =>
      show PyData.eqv (toD a).py (toD b).py = true ↔ _
      rw [Eqd.ev a b]
      simp⟩
variable [Enc β] [p : Eqd β] [Enc γ] [o : Eqd γ]
instance : Eqd (α × β) := ⟨q.n + p.n + 1, fun a => by
    show (Dt.nd (toD a.1) && (Dt.nd (toD a.2) && true)) = true
    rw [Eqd.nd, Eqd.nd]
    rfl, fun a => by
    show (PyData.canLay0 (toD a.1).py && (PyData.canLay0 (toD a.2).py && true)) = true
    rw [Eqd.lay, Eqd.lay]
    rfl, fun a => by
    show max (toD a.1).py.depth (max (toD a.2).py.depth 0) + 1 ≤ _
    have h1 := Eqd.dp a.1
    have h2 := Eqd.dp a.2
    omega, fun a b => by
    show (PyData.eqv (toD a.1).py (toD b.1).py && (PyData.eqv (toD a.2).py (toD b.2).py && true)) = true ↔ _
    rw [Bool.and_true, Bool.and_eq_true, Eqd.ev, Eqd.ev]
    exact Prod.ext_iff.symm⟩
instance : Eqd (T3 α β γ) := ⟨q.n + p.n + o.n + 1, fun a => by
    show (Dt.nd (toD a.a) && (Dt.nd (toD a.b) && (Dt.nd (toD a.c) && true))) = true
    rw [Eqd.nd, Eqd.nd, Eqd.nd]
    rfl, fun a => by
    show (PyData.canLay0 (toD a.a).py && (PyData.canLay0 (toD a.b).py && (PyData.canLay0 (toD a.c).py && true))) = true
    rw [Eqd.lay, Eqd.lay, Eqd.lay]
    rfl, fun a => by
    show max (toD a.a).py.depth (max (toD a.b).py.depth (max (toD a.c).py.depth 0)) + 1 ≤ _
    have h1 := Eqd.dp a.a
    have h2 := Eqd.dp a.b
    have h3 := Eqd.dp a.c
    omega, fun a b => by
    show (PyData.eqv (toD a.a).py (toD b.a).py && (PyData.eqv (toD a.b).py (toD b.b).py && (PyData.eqv (toD a.c).py (toD b.c).py && true))) = true ↔ _
    rw [Bool.and_true, Bool.and_eq_true, Bool.and_eq_true, Eqd.ev, Eqd.ev, Eqd.ev]
    cases a
    cases b
    simp⟩
end
/-! ### sorted -/
theorem leD_int (a b : Int) : leD a b = decide (a ≤ b) := by
  show PySem.W.dataLe false (fun x : Int => PyData.int x) a b = _
  rw [PySem.W.dataLe_int (fun x : Int => x)]
theorem leD_ii (p q : Int × Int) : leD p q = decide (p.1 < q.1 ∨ (p.1 = q.1 ∧ p.2 ≤ q.2)) := by
  show PySem.W.dataLe false (fun x : Int × Int => PyData.tuple [.int x.1, .int x.2]) p q = _
  rw [PySem.W.dataLe_ii (fun x : Int × Int => x.1) (fun x : Int × Int => x.2)]
theorem sortR_ok [Enc α] {xs : List α} (h : xs.length ≤ 1000000) : sortR xs = .ok (xs.mergeSort leD) := by
  unfold sortR
  rw [szR_ok h]
  rfl
end Kr

/-! KrR: ranks, rests, choices: plain lists. -/
namespace Kr
open PySem PySem.Spec PyProof.Rows L2
open Enc (toD)
variable {α β T ρ S : Type}
/-! ### loops that fill a list -/
theorem forR_fm {step : List β → α → R (Fl (List β) ρ)} {k : List β → R (Fl S ρ)} (f : α → Option β) : ∀ (xs : List α) (s0 : List β), s0.length + xs.length ≤ 1000000 → (∀ s x, x ∈ xs → s.length < 1000000 → step s x = .ok (.nx (s ++ (f x).toList))) →
    forR step k xs s0 = k (s0 ++ xs.filterMap f)
  | [], s0, _, _ => by
    rw [List.filterMap_nil, List.append_nil]
    rfl
  | x :: r, s0, hz, h => by
    rw [List.length_cons] at hz
    rw [forR_cons, h s0 x (by simp) (by omega), R.ok_bind]
    show forR step k r (s0 ++ (f x).toList) = _
    rw [forR_fm f r _ (by
      rw [List.length_append]
      have : (f x).toList.length ≤ 1 := by cases f x <;> simp
      omega) fun s y hy => h s y (by simp [hy])]
    cases e : f x with
    | none =>
      rw [List.filterMap_cons_none e]
      simp
    | some y =>
      rw [List.filterMap_cons_some e]
      simp
theorem forR_map {step : List β → α → R (Fl (List β) ρ)} {k : List β → R (Fl S ρ)} (g : α → β) (xs : List α) (s0 : List β) (hz : s0.length + xs.length ≤ 1000000) (h : ∀ s x, x ∈ xs → s.length < 1000000 → step s x = .ok (.nx (s ++ [g x]))) :
    forR step k xs s0 = k (s0 ++ xs.map g) := by
  rw [forR_fm (fun x => some (g x)) xs s0 hz fun s x hx hl => by rw [h s x hx hl]; rfl, List.filterMap_eq_map']
theorem szR_snoc {s : List β} {y : β} (h : s.length < 1000000) : szR (s ++ [y]) = .ok (s ++ [y]) := szR_ok (by
  rw [List.length_append]
  simp
  omega)
/-! ### ranks -/
def gW (ws : List Int) (k : Int) : Int := ws.getD k.toNat 0
theorem idxR_gW {ws : List Int} {k : Int} (h : 0 ≤ k) (h' : k < ws.length) : idxR ws k = .ok (gW ws k) := by
  rw [idxR_ok h h']
  unfold gW
  rw [List.getD_eq_getElem?_getD, List.getElem?_eq_getElem (by omega)]
  rfl
/-- a has a better rank than b -/
def bf (ws : List Int) (a b : Int) : Prop := gW ws b < gW ws a ∨ (gW ws a = gW ws b ∧ a < b)
instance (ws : List Int) (a b : Int) : Decidable (bf ws a b) := by unfold bf; exact inferInstance
def rk (ws : List Int) : List Int := (((seqI 0 ws.length).map fun k => (-(gW ws k), k)).mergeSort leD).map (·.2)
theorem leD_trans (a b c : Int × Int) (h : leD a b = true) (h' : leD b c = true) : leD a c = true := by
  rw [leD_ii, decide_eq_true_eq] at *
  omega
theorem leD_total (a b : Int × Int) : (leD a b || leD b a) = true := by
  rw [leD_ii, leD_ii, Bool.or_eq_true, decide_eq_true_eq, decide_eq_true_eq]
  omega
theorem seqI_nodup (lo : Int) (n : Nat) : (seqI lo n).Nodup := by
  unfold seqI
  exact List.Pairwise.map _ (fun a b h e => h (by omega)) List.nodup_range
theorem rk_perm (ws : List Int) : (rk ws).Perm (seqI 0 ws.length) := by
  have h := (List.mergeSort_perm ((seqI 0 ws.length).map fun k => (-(gW ws k), k)) leD).map (·.2)
  rw [List.map_map] at h
  have e : ((fun x : Int × Int => x.2) ∘ fun k => (-(gW ws k), k)) = id := rfl
  rw [e, List.map_id] at h
  exact h
theorem rk_len (ws : List Int) : (rk ws).length = ws.length := by rw [(rk_perm ws).length_eq, seqI_len]
theorem rk_nodup (ws : List Int) : (rk ws).Nodup := (rk_perm ws).nodup_iff.mpr (seqI_nodup 0 _)
theorem rk_mem (ws : List Int) (k : Int) : k ∈ rk ws ↔ 0 ≤ k ∧ k < ws.length := by
  rw [(rk_perm ws).mem_iff, mem_seqI]
  omega
theorem rk_sorted (ws : List Int) : (rk ws).Pairwise (bf ws) := by
  have h := List.pairwise_mergeSort leD_trans leD_total ((seqI 0 ws.length).map fun k => (-(gW ws k), k))
  have hn := rk_nodup ws
  unfold rk at hn ⊢
  rw [List.pairwise_map]
  rw [List.Nodup, List.pairwise_map] at hn
  have hm : ∀ p ∈ ((seqI 0 ws.length).map fun k => (-(gW ws k), k)).mergeSort leD, p.1 = -(gW ws p.2) := fun p hp => by
    obtain ⟨k, _, rfl⟩ := List.mem_map.mp ((List.mergeSort_perm _ _).mem_iff.mp hp)
    rfl
  refine List.Pairwise.imp_of_mem ?_ (h.and hn)
  intro p q hp hq ⟨h1, h2⟩
  rw [leD_ii, decide_eq_true_eq, hm p hp, hm q hq] at h1
  unfold bf
  omega
theorem bf_asymm {ws : List Int} {a b : Int} (h : bf ws a b) (h' : bf ws b a) : False := by
  unfold bf at *
  omega
/-- the next rank: the best of those that have none yet -/
theorem rk_next {ws : List Int} {i : Nat} (hi : i < ws.length) {b : Int} (hb : 0 ≤ b ∧ b < ws.length) (hn : b ∉ (rk ws).take i) (hbest : ∀ k : Int, 0 ≤ k → k < ws.length → k ∉ (rk ws).take i → k = b ∨ bf ws b k) : (rk ws)[i]? = some b := by
  have hl := rk_len ws
  have hi' : i < (rk ws).length := by omega
  have hsplit := List.take_append_drop i (rk ws)
  rw [List.getElem?_eq_getElem hi']
  congr 1
  have hbm : b ∈ (rk ws).drop i := by
    have := (rk_mem ws b).mpr hb
    rw [← hsplit] at this
    exact (List.mem_append.mp this).resolve_left hn
  have hd : (rk ws).drop i = (rk ws)[i] :: (rk ws).drop (i + 1) := List.drop_eq_getElem_cons hi'
  have hs := rk_sorted ws
  rw [← hsplit, List.pairwise_append] at hs
  have hnd := rk_nodup ws
  rw [← hsplit, List.nodup_append] at hnd
  have hnt : (rk ws)[i] ∉ (rk ws).take i := fun hm => hnd.2.2 _ hm (rk ws)[i] (by rw [hd]; exact List.mem_cons_self ..) rfl
  have hr := (rk_mem ws (rk ws)[i]).mp (List.getElem_mem hi')
  rcases hbest _ hr.1 hr.2 hnt with e | hbf
  · exact e
  · rw [hd] at hbm hs
    rcases List.mem_cons.mp hbm with e | hm
    · exact e.symm
    · exact (bf_asymm hbf ((List.pairwise_cons.mp hs.2.1).1 b hm)).elim
/-! ### rests -/
def suf : List Int → List Int
  | [] => [0]
  | w :: r => (w :: r).sum :: suf r
def rkW (ws : List Int) : List Int := (rk ws).map (gW ws)
theorem suf_len : ∀ l : List Int, (suf l).length = l.length + 1
  | [] => rfl
  | w :: r => by
    show (suf r).length + 1 = _
    rw [suf_len r]
    rfl
theorem suf_head : ∀ l : List Int, (suf l)[0]? = some l.sum
  | [] => rfl
  | w :: r => rfl
theorem sum_perm {l l' : List Int} (h : l.Perm l') : l.sum = l'.sum := by
  induction h with
  | nil => rfl
  | cons x _ ih => rw [List.sum_cons, List.sum_cons, ih]
  | swap x y l => simp only [List.sum_cons]; omega
  | trans _ _ h1 h2 => rw [h1, h2]
theorem map_gW (ws : List Int) : (seqI 0 ws.length).map (gW ws) = ws := by
  apply List.ext_getElem
  · rw [List.length_map, seqI_len]
  · intro i h1 h2
    rw [List.getElem_map, seqI_at (by rw [List.length_map] at h1; exact h1)]
    unfold gW
    rw [List.getD_eq_getElem?_getD, show ((0 : Int) + (i : Int)).toNat = i by omega, List.getElem?_eq_getElem h2]
    rfl
theorem sum_rkW (ws : List Int) : (rkW ws).sum = ws.sum := by
  have h := sum_perm ((rk_perm ws).map (gW ws))
  rw [map_gW] at h
  exact h
theorem rkW_at {ws : List Int} {i : Nat} (h : i < (rkW ws).length) (h' : i < (rk ws).length) : (rkW ws)[i] = gW ws (rk ws)[i] := List.getElem_map (gW ws)
def sums (ws : List Int) : List Int := suf (rkW ws)
theorem rkW_len (ws : List Int) : (rkW ws).length = ws.length := by
  unfold rkW
  rw [List.length_map, rk_len]
theorem sums_len (ws : List Int) : (sums ws).length = ws.length + 1 := by
  unfold sums
  rw [suf_len, rkW_len]
/-! ### choices -/
abbrev Stg := T3 Int Int Int
abbrev Cho := T3 Int Int (Option Stg)
/-- the choice a of a stage, if it is one -/
def item (sm : List Int) (lim : Int) (st : Stg) (a : Int) : Option Cho :=
  if (st.a = lim ∧ a = (sm.length : Int) - 1 - st.b) ∨ (st.a ≠ lim ∧ (0 < st.a ∨ a = 0)) then
    (if st.b + a = (sm.length : Int) - 1 then some ⟨a, 0, none⟩ else if a < st.c then some ⟨a, gW sm (st.b + a), some ⟨st.a + 1, st.b + a, min (2 * (st.c - a)) ((sm.length : Int) - 1 - st.b - a)⟩⟩ else none)
  else none
def chs (sm : List Int) (lim : Int) (st : Stg) : List Cho := (seqI 0 (min st.c ((sm.length : Int) - 1 - st.b) + 1).toNat).filterMap (item sm lim st)
theorem fm_none (f : Int → Option β) (lo : Int) (n : Nat) (h : ∀ x, lo ≤ x → x < lo + n → f x = none) : (seqI lo n).filterMap f = [] := List.filterMap_eq_nil_iff.mpr fun x hx => h x (mem_seqI.mp hx).1 (mem_seqI.mp hx).2
theorem seqI_split (lo : Int) (n m : Nat) : seqI lo (n + m) = seqI lo n ++ seqI (lo + n) m := by
  induction m with
  | zero => simp [seqI]
  | succ m ih => rw [← Nat.add_assoc, seqI_succ, ih, seqI_succ, List.append_assoc, show lo + ((n + m : Nat) : Int) = lo + n + (m : Int) by omega]
/-- the program's walk: from first to last -/
theorem chs_by (sm : List Int) (lim : Int) (st : Stg) (h0 : 0 ≤ st.a) (hl : st.a ≤ lim) (hl1 : 1 ≤ lim) (hm : 0 ≤ st.b ∧ st.b < (sm.length : Int) - 1) (hc : 1 ≤ st.c) :
    chs sm lim st = (seqI (if st.a = lim then (sm.length : Int) - 1 - st.b else 0) ((if st.a = 0 then 0 else min st.c ((sm.length : Int) - 1 - st.b)) + 1 - (if st.a = lim then (sm.length : Int) - 1 - st.b else 0)).toNat).filterMap (item sm lim st) := by
  unfold chs
  by_cases e1 : st.a = lim
  · rw [if_pos e1, if_neg (show ¬ st.a = 0 by omega)]
    have hno : ∀ x, x ≠ (sm.length : Int) - 1 - st.b → item sm lim st x = none := fun x hx => by
      unfold item
      rw [if_neg (by omega)]
    by_cases e2 : (sm.length : Int) - 1 - st.b ≤ st.c
    · rw [Int.min_eq_right e2, show ((sm.length : Int) - 1 - st.b + 1).toNat = ((sm.length : Int) - 1 - st.b).toNat + 1 by omega, seqI_split, List.filterMap_append, fm_none _ _ _ (fun x h1 h2 => hno x (by omega)), List.nil_append,
        show ((sm.length : Int) - 1 - st.b + 1 - ((sm.length : Int) - 1 - st.b)).toNat = 1 by omega, show (0 : Int) + (((sm.length : Int) - 1 - st.b).toNat : Int) = (sm.length : Int) - 1 - st.b by omega]
    · rw [Int.min_eq_left (by omega), show (st.c + 1 - ((sm.length : Int) - 1 - st.b)).toNat = 0 by omega, fm_none _ _ _ (fun x h1 h2 => hno x (by omega))]
      rfl
  · rw [if_neg e1]
    by_cases e3 : st.a = 0
    · rw [if_pos e3]
      have hno : ∀ x, x ≠ 0 → item sm lim st x = none := fun x hx => by
        unfold item
        rw [if_neg (by omega)]
      rw [show (min st.c ((sm.length : Int) - 1 - st.b) + 1).toNat = 1 + (min st.c ((sm.length : Int) - 1 - st.b)).toNat by omega, seqI_split, List.filterMap_append, fm_none _ ((0 : Int) + ((1 : Nat) : Int)) _ (fun x h1 h2 => hno x (by omega)), List.append_nil]
      rfl
    · rw [if_neg e3, Int.sub_zero]
end Kr

namespace Kx
open PySem PySem.Spec PyProof.Rows L2 Kr
open Enc (toD)
/-! ### the text by places -/
def topS (i : Nat) : Stmt := PySem.Challenge.pw_kraftroom_k03_choices_of_a_stage.main.body.getD i (.Pass ⟨0, 0, 0, 0⟩)
abbrev s_ranks : Stmt := topS 1
abbrev s_cost : Stmt := topS 2
abbrev s_rests : Stmt := topS 3
abbrev s_choices_by : Stmt := topS 4
abbrev s_choices : Stmt := topS 5
abbrev s__law_cell : Stmt := topS 7
abbrev s__law_weights : Stmt := topS 8
abbrev s__law_ranks : Stmt := topS 9
abbrev s__law_least_limit : Stmt := topS 10
abbrev s__law_sums : Stmt := topS 11
abbrev s__law_choices_by : Stmt := topS 12
abbrev s__law_choices : Stmt := topS 13
abbrev s_law : Stmt := topS 14
/-- what the top has left -/
structure Txt (cf : Cf) (mg : Str → Option Value) where
  a_ranks : Addr
  d_ranks : FuncData
  F_ranks : Fun cf.K "ranks" "ranks" s_ranks a_ranks d_ranks
  b_ranks : Binds cf.K d_ranks ["weights"] []
  g_ranks : mg "ranks" = some (.ref a_ranks)
  a_cost : Addr
  d_cost : FuncData
  F_cost : Fun cf.K "cost" "cost" s_cost a_cost d_cost
  b_cost : Binds cf.K d_cost ["weights", "lengths"] []
  g_cost : mg "cost" = some (.ref a_cost)
  a_rests : Addr
  d_rests : FuncData
  F_rests : Fun cf.K "rests" "rests" s_rests a_rests d_rests
  b_rests : Binds cf.K d_rests ["weights"] []
  g_rests : mg "rests" = some (.ref a_rests)
  a_choices_by : Addr
  d_choices_by : FuncData
  F_choices_by : Fun cf.K "choices_by" "choices_by" s_choices_by a_choices_by d_choices_by
  b_choices_by : Binds cf.K d_choices_by ["sums", "limit", "stage"] []
  g_choices_by : mg "choices_by" = some (.ref a_choices_by)
  a_choices : Addr
  d_choices : FuncData
  F_choices : Fun cf.K "choices" "choices" s_choices a_choices d_choices
  b_choices : Binds cf.K d_choices ["weights", "limit", "stage"] []
  g_choices : mg "choices" = some (.ref a_choices)
  a__law_cell : Addr
  d__law_cell : FuncData
  F__law_cell : Fun cf.K "_law_cell" "_law_cell" s__law_cell a__law_cell d__law_cell
  b__law_cell : Binds cf.K d__law_cell ["_law_script", "_law_k"] []
  g__law_cell : mg "_law_cell" = some (.ref a__law_cell)
  a__law_weights : Addr
  d__law_weights : FuncData
  F__law_weights : Fun cf.K "_law_weights" "_law_weights" s__law_weights a__law_weights d__law_weights
  b__law_weights : Binds cf.K d__law_weights ["_law_script", "_law_first", "_law_many"] []
  g__law_weights : mg "_law_weights" = some (.ref a__law_weights)
  a__law_ranks : Addr
  d__law_ranks : FuncData
  F__law_ranks : Fun cf.K "_law_ranks" "_law_ranks" s__law_ranks a__law_ranks d__law_ranks
  b__law_ranks : Binds cf.K d__law_ranks ["_law_weights_here"] []
  g__law_ranks : mg "_law_ranks" = some (.ref a__law_ranks)
  a__law_least_limit : Addr
  d__law_least_limit : FuncData
  F__law_least_limit : Fun cf.K "_law_least_limit" "_law_least_limit" s__law_least_limit a__law_least_limit d__law_least_limit
  b__law_least_limit : Binds cf.K d__law_least_limit ["_law_many"] []
  g__law_least_limit : mg "_law_least_limit" = some (.ref a__law_least_limit)
  a__law_sums : Addr
  d__law_sums : FuncData
  F__law_sums : Fun cf.K "_law_sums" "_law_sums" s__law_sums a__law_sums d__law_sums
  b__law_sums : Binds cf.K d__law_sums ["_law_weights_here"] []
  g__law_sums : mg "_law_sums" = some (.ref a__law_sums)
  a__law_choices_by : Addr
  d__law_choices_by : FuncData
  F__law_choices_by : Fun cf.K "_law_choices_by" "_law_choices_by" s__law_choices_by a__law_choices_by d__law_choices_by
  b__law_choices_by : Binds cf.K d__law_choices_by ["_law_sums_here", "_law_limit", "_law_stage"] []
  g__law_choices_by : mg "_law_choices_by" = some (.ref a__law_choices_by)
  a__law_choices : Addr
  d__law_choices : FuncData
  F__law_choices : Fun cf.K "_law_choices" "_law_choices" s__law_choices a__law_choices d__law_choices
  b__law_choices : Binds cf.K d__law_choices ["_law_weights_here", "_law_limit", "_law_stage"] []
  g__law_choices : mg "_law_choices" = some (.ref a__law_choices)
  a_law : Addr
  d_law : FuncData
  F_law : Fun cf.K "law" "law" s_law a_law d_law
  b_law : Binds cf.K d_law ["_law_script"] []
  g_law : mg "law" = some (.ref a_law)
  n_int : mg "int" = none
  n_len : mg "len" = none
  n_list : mg "list" = none
  n_min : mg "min" = none
  n_range : mg "range" = none
  n_sorted : mg "sorted" = none
  n_sum : mg "sum" = none
  n_zip : mg "zip" = none
/-! ### what the defs compute -/
def b_ranks (weights_1 : (List Int)) : R (Fl Unit (List Int)) :=
  (R.bind (R.bind (R.bind (R.bind (R.bind (R.bind (R.ok weights_1) fun a_2 => R.ok (List.length a_2 : Int)) rng1R) (lcR (fun k_4 => (R.ok true)) (fun k_4 => (R.bind (R.bind (R.bind (R.ok weights_1) fun a_5 => R.bind (R.ok k_4) fun b_6 => idxR a_5 b_6) fun a_7 => R.ok (-a_7)) fun a_8 => R.bind (R.ok k_4) fun b_9 => R.ok (a_8, b_9))))) sortR) (lcR (fun weight_10 => (R.ok true)) (fun weight_10 => (R.ok weight_10.2)))) fun a_11 => R.ok (Fl.rt a_11))
def f_ranks (weights_1 : (List Int)) : R (List Int) := finR (b_ranks weights_1)
def b_cost (weights_12 : (List Int)) (lengths_13 : (List Int)) : R (Fl Unit Int) :=
  (R.bind (R.bind (R.bind (R.bind (R.ok weights_12) fun a_14 => R.bind (R.ok lengths_13) fun b_15 => R.ok (List.zip a_14 b_15)) (lcR (fun weight_16 => (R.ok true)) (fun weight_16 => (R.bind (R.ok weight_16.1) fun a_17 => R.bind (R.ok weight_16.2) fun b_18 => mulR a_17 b_18)))) fun a_19 => R.ok (List.sum a_19)) fun a_20 => R.ok (Fl.rt a_20))
def f_cost (weights_12 : (List Int)) (lengths_13 : (List Int)) : R Int := finR (b_cost weights_12 lengths_13)
def b_rests (weights_21 : (List Int)) : R (Fl Unit (List Int)) :=
  (R.bind (R.bind (R.ok weights_21) fun a_22 => R.ok (List.sum a_22)) fun total_23 => (R.bind (R.bind (R.bind (R.ok total_23) fun a_24 => R.bind (R.ok ([] : List Int)) fun b_25 => R.ok (a_24 :: b_25)) szR) fun result_26 => (R.bind (R.bind (R.ok weights_21) fun a_27 => R.pu (f_ranks a_27)) fun xs_38 => forR (fun (st_28 : (Int × (List Int))) (symbol_29 : Int) => ((R.bind (R.bind (R.ok st_28.1) fun a_32 => R.bind (R.bind (R.ok weights_21) fun a_30 => R.bind (R.ok symbol_29) fun b_31 => idxR a_30 b_31) fun b_33 => R.ok (a_32 - b_33)) fun total_34 => (R.bind (R.ok total_34) fun y_36 => R.bind (szR (st_28.2 ++ [y_36])) fun result_35 => (R.ok (Fl.nx (total_34, result_35))))) : R (Fl (Int × (List Int)) (List Int)))) (fun (st_28 : (Int × (List Int))) => (R.bind (R.ok st_28.2) fun a_37 => R.ok (Fl.rt a_37))) xs_38 (total_23, result_26))))
def f_rests (weights_21 : (List Int)) : R (List Int) := finR (b_rests weights_21)
def b_choices_by (sums_39 : (List Int)) (limit_40 : Int) (stage_41 : (T3 Int Int Int)) : R (Fl Unit (List (T3 Int Int (Option (T3 Int Int Int))))) :=
  (R.bind (R.ok stage_41) fun p_42 => (R.bind (R.bind (R.bind (R.bind (R.ok sums_39) fun a_43 => R.ok (List.length a_43 : Int)) fun a_44 => R.bind (R.ok (1 : Int)) fun b_45 => R.ok (a_44 - b_45)) fun a_46 => R.bind (R.ok p_42.b) fun b_47 => R.ok (a_46 - b_47)) fun left_48 => (R.bind (R.ok (0 : Int)) fun first_49 => (R.bind (R.bind (R.ok p_42.c) fun a_50 => R.bind (R.ok left_48) fun b_51 => R.ok (min a_50 b_51)) fun last_52 => (seqF ((R.bind (R.bind (R.ok p_42.a) fun a_53 => R.bind (R.ok (0 : Int)) fun b_54 => R.ok (decide (a_53 = b_54))) fun c_55 => if c_55 = true then (R.bind (R.ok (0 : Int)) fun last_58 => (R.ok (Fl.nx last_58))) else (R.ok (Fl.nx last_52))) : R (Fl Int (List (T3 Int Int (Option (T3 Int Int Int)))))) fun st_57 => (seqF ((R.bind (R.bind (R.ok p_42.a) fun a_59 => R.bind (R.ok limit_40) fun b_60 => R.ok (decide (a_59 = b_60))) fun c_61 => if c_61 = true then (R.bind (R.ok left_48) fun first_64 => (R.ok (Fl.nx first_64))) else (R.ok (Fl.nx first_49))) : R (Fl Int (List (T3 Int Int (Option (T3 Int Int Int)))))) fun st_63 => (R.bind (R.bind (R.ok ([] : List (T3 Int Int (Option (T3 Int Int Int))))) szR) fun result_65 => (R.bind (R.bind (R.ok st_63) fun a_68 => R.bind (R.bind (R.ok st_57) fun a_66 => R.bind (R.ok (1 : Int)) fun b_67 => R.ok (a_66 + b_67)) fun b_69 => rng2R a_68 b_69) fun xs_110 => forR (fun (st_70 : (List (T3 Int Int (Option (T3 Int Int Int))))) (taken_71 : Int) => ((R.bind (R.bind (R.ok taken_71) fun a_72 => R.bind (R.ok left_48) fun b_73 => R.ok (decide (a_72 = b_73))) fun c_74 => if c_74 = true then (R.bind (R.bind (R.ok taken_71) fun a_76 => R.bind (R.ok (0 : Int)) fun b_77 => R.bind (R.ok (none : (Option (T3 Int Int Int)))) fun c_78 => R.ok (T3.mk a_76 b_77 c_78)) fun y_79 => R.bind (szR (st_70 ++ [y_79])) fun result_75 => (R.ok (Fl.nx result_75))) else (R.bind (R.bind (R.ok taken_71) fun a_80 => R.bind (R.ok p_42.c) fun b_81 => R.ok (decide (a_80 < b_81))) fun c_82 => if c_82 = true then (R.bind (R.bind (R.bind (R.ok p_42.a) fun a_83 => R.bind (R.ok (1 : Int)) fun b_84 => R.ok (a_83 + b_84)) fun a_95 => R.bind (R.bind (R.ok p_42.b) fun a_85 => R.bind (R.ok taken_71) fun b_86 => R.ok (a_85 + b_86)) fun b_96 => R.bind (R.bind (R.bind (R.ok (2 : Int)) fun a_89 => R.bind (R.bind (R.ok p_42.c) fun a_87 => R.bind (R.ok taken_71) fun b_88 => R.ok (a_87 - b_88)) fun b_90 => mulR a_89 b_90) fun a_93 => R.bind (R.bind (R.ok left_48) fun a_91 => R.bind (R.ok taken_71) fun b_92 => R.ok (a_91 - b_92)) fun b_94 => R.ok (min a_93 b_94)) fun c_97 => R.ok (T3.mk a_95 b_96 c_97)) fun following_98 => (R.bind (R.bind (R.ok taken_71) fun a_105 => R.bind (R.bind (R.ok sums_39) fun a_102 => R.bind (R.bind (R.ok p_42.b) fun a_100 => R.bind (R.ok taken_71) fun b_101 => R.ok (a_100 + b_101)) fun b_103 => idxR a_102 b_103) fun b_106 => R.bind (R.bind (R.ok following_98) fun o_104 => R.ok (some o_104)) fun c_107 => R.ok (T3.mk a_105 b_106 c_107)) fun y_108 => R.bind (szR (st_70 ++ [y_108])) fun result_99 => (R.ok (Fl.nx result_99)))) else (R.ok (Fl.nx st_70)))) : R (Fl (List (T3 Int Int (Option (T3 Int Int Int)))) (List (T3 Int Int (Option (T3 Int Int Int))))))) (fun (st_70 : (List (T3 Int Int (Option (T3 Int Int Int))))) => (R.bind (R.ok st_70) fun a_109 => R.ok (Fl.rt a_109))) xs_110 result_65))))))))
def f_choices_by (sums_39 : (List Int)) (limit_40 : Int) (stage_41 : (T3 Int Int Int)) : R (List (T3 Int Int (Option (T3 Int Int Int)))) := finR (b_choices_by sums_39 limit_40 stage_41)
def b_choices (weights_111 : (List Int)) (limit_112 : Int) (stage_113 : (T3 Int Int Int)) : R (Fl Unit (List (T3 Int Int (Option (T3 Int Int Int))))) :=
  (R.bind (R.bind (R.bind (R.ok weights_111) fun a_114 => R.pu (f_rests a_114)) fun a_115 => R.bind (R.ok limit_112) fun b_116 => R.bind (R.ok stage_113) fun c_117 => R.pu (f_choices_by a_115 b_116 c_117)) fun a_118 => R.ok (Fl.rt a_118))
def f_choices (weights_111 : (List Int)) (limit_112 : Int) (stage_113 : (T3 Int Int Int)) : R (List (T3 Int Int (Option (T3 Int Int Int)))) := finR (b_choices weights_111 limit_112 stage_113)
def b__law_cell (script_119 : Scr) (k_120 : Int) : R (Fl Unit Int) :=
  (R.bind (R.bind (R.ok k_120) fun a_122 => R.bind (R.bind (R.bind (R.ok script_119) fun z => R.ok z.ns) fun a_121 => R.ok (List.length a_121 : Int)) fun b_123 => R.ok (decide (a_122 < b_123))) fun c_124 => if c_124 = true then (R.bind (R.bind (R.bind (R.ok script_119) fun z => R.ok z.ns) fun a_125 => R.bind (R.ok k_120) fun b_126 => idxR a_125 b_126) fun a_127 => R.ok (Fl.rt a_127)) else (R.bind (R.ok (0 : Int)) fun a_128 => R.ok (Fl.rt a_128)))
def f__law_cell (script_119 : Scr) (k_120 : Int) : R Int := finR (b__law_cell script_119 k_120)
def b__law_weights (script_129 : Scr) (first_130 : Int) (many_131 : Int) : R (Fl Unit (List Int)) :=
  (R.bind (R.bind (R.ok ([] : List Int)) szR) fun weights_here_132 => (R.bind (R.bind (R.ok many_131) rng1R) fun xs_179 => forR (fun (st_134 : (List Int)) (k_135 : Int) => ((R.bind (R.bind (R.ok script_129) fun a_138 => R.bind (R.bind (R.ok first_130) fun a_136 => R.bind (R.ok k_135) fun b_137 => R.ok (a_136 + b_137)) fun b_139 => R.pu (f__law_cell a_138 b_139)) fun cell_here_140 => (R.bind (R.bind (R.ok cell_here_140) fun a_141 => R.bind (R.ok (9 : Int)) fun b_142 => modR a_141 b_142) fun weight_143 => (seqF ((R.bind (R.bind (R.bind (R.ok cell_here_140) fun a_144 => R.bind (R.ok (5 : Int)) fun b_145 => modR a_144 b_145) fun a_146 => R.bind (R.ok (1 : Int)) fun b_147 => R.ok (decide (a_146 = b_147))) fun c_148 => if c_148 = true then (R.bind (R.bind (R.bind (R.ok cell_here_140) fun a_155 => R.bind (R.ok (5 : Int)) fun b_156 => divR a_155 b_156) fun a_157 => R.bind (R.ok (100 : Int)) fun b_158 => modR a_157 b_158) fun weight_159 => (R.ok (Fl.nx weight_159))) else (R.ok (Fl.nx weight_143))) : R (Fl Int (List Int))) fun st_154 => (seqF ((R.bind (R.bind (R.bind (R.ok cell_here_140) fun a_160 => R.bind (R.ok (23 : Int)) fun b_161 => modR a_160 b_161) fun a_162 => R.bind (R.ok (7 : Int)) fun b_163 => R.ok (decide (a_162 = b_163))) fun c_164 => if c_164 = true then (R.bind (R.bind (R.bind (R.ok cell_here_140) fun a_171 => R.bind (R.ok (23 : Int)) fun b_172 => divR a_171 b_172) fun a_173 => R.bind (R.ok (1000001 : Int)) fun b_174 => modR a_173 b_174) fun weight_175 => (R.ok (Fl.nx weight_175))) else (R.ok (Fl.nx st_154))) : R (Fl Int (List Int))) fun st_170 => (R.bind (R.ok st_170) fun y_177 => R.bind (szR (st_134 ++ [y_177])) fun weights_here_176 => (R.ok (Fl.nx weights_here_176))))))) : R (Fl (List Int) (List Int)))) (fun (st_134 : (List Int)) => (R.bind (R.ok st_134) fun a_178 => R.ok (Fl.rt a_178))) xs_179 weights_here_132))
def f__law_weights (script_129 : Scr) (first_130 : Int) (many_131 : Int) : R (List Int) := finR (b__law_weights script_129 first_130 many_131)
def b__law_ranks (weights_here_180 : (List Int)) : R (Fl Unit (List Int)) :=
  (R.bind (R.bind (R.ok ([] : List Int)) szR) fun order_181 => (R.bind (R.bind (R.bind (R.ok weights_here_180) fun a_182 => R.ok (List.length a_182 : Int)) rng1R) fun xs_209 => forR (fun (st_184 : (List Int)) (turn_185 : Int) => ((R.bind (R.ok (none : (Option Int))) fun best_186 => (R.bind (R.bind (R.bind (R.ok weights_here_180) fun a_187 => R.ok (List.length a_187 : Int)) rng1R) fun xs_207 => forR (fun (st_189 : (Option Int)) (k_190 : Int) => ((R.bind (R.bind (R.bind (R.ok k_190) fun a_191 => R.bind (R.ok st_184) fun b_192 => R.ok (!List.contains b_192 a_191)) fun c_201 => if c_201 = true then (R.bind (R.bind (R.ok st_189) fun a_193 => R.ok (Option.isNone a_193)) fun c_200 => if c_200 = true then R.ok true else (R.bind (R.bind (R.ok weights_here_180) fun a_194 => R.bind (R.ok k_190) fun b_195 => idxR a_194 b_195) fun a_198 => R.bind (R.bind (R.ok weights_here_180) fun a_196 => R.bind (R.bind (R.ok st_189) getR) fun b_197 => idxR a_196 b_197) fun b_199 => R.ok (decide (b_199 < a_198)))) else R.ok false) fun c_202 => if c_202 = true then (R.bind (R.bind (R.ok k_190) fun o_203 => R.ok (some o_203)) fun best_204 => (R.ok (Fl.nx best_204))) else (R.ok (Fl.nx st_189))) : R (Fl (Option Int) (List Int)))) (fun (st_189 : (Option Int)) => (R.bind (R.bind (R.ok st_189) getR) fun y_206 => R.bind (szR (st_184 ++ [y_206])) fun order_205 => (R.ok (Fl.nx order_205)))) xs_207 best_186)) : R (Fl (List Int) (List Int)))) (fun (st_184 : (List Int)) => (R.bind (R.ok st_184) fun a_208 => R.ok (Fl.rt a_208))) xs_209 order_181))
def f__law_ranks (weights_here_180 : (List Int)) : R (List Int) := finR (b__law_ranks weights_here_180)
def b__law_least_limit (many_210 : Int) : R (Fl Unit Int) :=
  (R.bind (R.ok (1 : Int)) fun limit_211 => (R.bind (R.bind (R.ok (6 : Int)) rng1R) fun xs_224 => forR (fun (st_213 : Int) (turn_214 : Int) => ((R.bind (R.bind (R.bind (R.ok (1 : Int)) fun a_215 => R.bind (R.ok st_213) fun b_216 => shlR a_215 b_216) fun a_217 => R.bind (R.ok many_210) fun b_218 => R.ok (decide (a_217 < b_218))) fun c_219 => if c_219 = true then (R.bind (R.bind (R.ok st_213) fun a_220 => R.bind (R.ok (1 : Int)) fun b_221 => R.ok (a_220 + b_221)) fun limit_222 => (R.ok (Fl.nx limit_222))) else (R.ok (Fl.nx st_213))) : R (Fl Int Int))) (fun (st_213 : Int) => (R.bind (R.ok st_213) fun a_223 => R.ok (Fl.rt a_223))) xs_224 limit_211))
def f__law_least_limit (many_210 : Int) : R Int := finR (b__law_least_limit many_210)
def b__law_sums (weights_here_225 : (List Int)) : R (Fl Unit (List Int)) :=
  (R.bind (R.bind (R.ok weights_here_225) fun a_226 => R.pu (f__law_ranks a_226)) fun order_227 => (R.bind (R.bind (R.bind (R.ok (0 : Int)) fun a_228 => R.bind (R.ok ([] : List Int)) fun b_229 => R.ok (a_228 :: b_229)) szR) fun sums_here_230 => (R.bind (R.bind (R.bind (R.ok order_227) fun a_231 => R.ok (List.length a_231 : Int)) rng1R) fun xs_254 => forR (fun (st_233 : (List Int)) (back_234 : Int) => ((R.bind (R.bind (R.bind (R.bind (R.bind (R.bind (R.ok st_233) fun a_235 => R.bind (R.ok (0 : Int)) fun b_236 => idxR a_235 b_236) fun a_246 => R.bind (R.bind (R.ok weights_here_225) fun a_244 => R.bind (R.bind (R.ok order_227) fun a_242 => R.bind (R.bind (R.bind (R.bind (R.ok order_227) fun a_237 => R.ok (List.length a_237 : Int)) fun a_238 => R.bind (R.ok (1 : Int)) fun b_239 => R.ok (a_238 - b_239)) fun a_240 => R.bind (R.ok back_234) fun b_241 => R.ok (a_240 - b_241)) fun b_243 => idxR a_242 b_243) fun b_245 => idxR a_244 b_245) fun b_247 => R.ok (a_246 + b_247)) fun a_248 => R.bind (R.ok ([] : List Int)) fun b_249 => R.ok (a_248 :: b_249)) szR) fun a_250 => R.bind (R.ok st_233) fun b_251 => szR (a_250 ++ b_251)) fun sums_here_252 => (R.ok (Fl.nx sums_here_252))) : R (Fl (List Int) (List Int)))) (fun (st_233 : (List Int)) => (R.bind (R.ok st_233) fun a_253 => R.ok (Fl.rt a_253))) xs_254 sums_here_230)))
def f__law_sums (weights_here_225 : (List Int)) : R (List Int) := finR (b__law_sums weights_here_225)
def b__law_choices_by (sums_here_255 : (List Int)) (limit_256 : Int) (stage_257 : (T3 Int Int Int)) : R (Fl Unit (List (T3 Int Int (Option (T3 Int Int Int))))) :=
  (R.bind (R.ok stage_257) fun p_258 => (R.bind (R.bind (R.bind (R.ok sums_here_255) fun a_259 => R.ok (List.length a_259 : Int)) fun a_260 => R.bind (R.ok (1 : Int)) fun b_261 => R.ok (a_260 - b_261)) fun n_262 => (R.bind (R.bind (R.ok ([] : List (T3 Int Int (Option (T3 Int Int Int))))) szR) fun found_263 => (R.bind (R.bind (R.bind (R.bind (R.ok p_258.c) fun a_266 => R.bind (R.bind (R.ok n_262) fun a_264 => R.bind (R.ok p_258.b) fun b_265 => R.ok (a_264 - b_265)) fun b_267 => R.ok (min a_266 b_267)) fun a_268 => R.bind (R.ok (1 : Int)) fun b_269 => R.ok (a_268 + b_269)) rng1R) fun xs_336 => forR (fun (st_271 : (List (T3 Int Int (Option (T3 Int Int Int))))) (a_272 : Int) => ((R.bind (R.bind (R.bind (R.ok p_258.a) fun a_273 => R.bind (R.ok (0 : Int)) fun b_274 => R.ok (decide (b_274 < a_273))) fun c_277 => if c_277 = true then R.ok true else (R.bind (R.ok a_272) fun a_275 => R.bind (R.ok (0 : Int)) fun b_276 => R.ok (decide (a_275 = b_276)))) fun allowed_278 => (seqF ((R.bind (R.bind (R.ok p_258.a) fun a_279 => R.bind (R.ok limit_256) fun b_280 => R.ok (decide (a_279 = b_280))) fun c_281 => if c_281 = true then (R.bind (R.bind (R.ok a_272) fun a_290 => R.bind (R.bind (R.ok n_262) fun a_288 => R.bind (R.ok p_258.b) fun b_289 => R.ok (a_288 - b_289)) fun b_291 => R.ok (decide (a_290 = b_291))) fun allowed_292 => (R.ok (Fl.nx allowed_292))) else (R.ok (Fl.nx allowed_278))) : R (Fl Bool (List (T3 Int Int (Option (T3 Int Int Int)))))) fun st_287 => (R.bind (R.bind (R.ok st_287) fun c_297 => if c_297 = true then (R.bind (R.bind (R.ok p_258.b) fun a_293 => R.bind (R.ok a_272) fun b_294 => R.ok (a_293 + b_294)) fun a_295 => R.bind (R.ok n_262) fun b_296 => R.ok (decide (a_295 = b_296))) else R.ok false) fun c_298 => if c_298 = true then (R.bind (R.bind (R.ok a_272) fun a_300 => R.bind (R.ok (0 : Int)) fun b_301 => R.bind (R.ok (none : (Option (T3 Int Int Int)))) fun c_302 => R.ok (T3.mk a_300 b_301 c_302)) fun y_303 => R.bind (szR (st_271 ++ [y_303])) fun found_299 => (R.ok (Fl.nx found_299))) else (R.bind (R.bind (R.ok st_287) fun c_306 => if c_306 = true then (R.bind (R.ok a_272) fun a_304 => R.bind (R.ok p_258.c) fun b_305 => R.ok (decide (a_304 < b_305))) else R.ok false) fun c_307 => if c_307 = true then (R.bind (R.bind (R.ok a_272) fun a_331 => R.bind (R.bind (R.ok sums_here_255) fun a_311 => R.bind (R.bind (R.ok p_258.b) fun a_309 => R.bind (R.ok a_272) fun b_310 => R.ok (a_309 + b_310)) fun b_312 => idxR a_311 b_312) fun b_332 => R.bind (R.bind (R.bind (R.bind (R.ok p_258.a) fun a_313 => R.bind (R.ok (1 : Int)) fun b_314 => R.ok (a_313 + b_314)) fun a_327 => R.bind (R.bind (R.ok p_258.b) fun a_315 => R.bind (R.ok a_272) fun b_316 => R.ok (a_315 + b_316)) fun b_328 => R.bind (R.bind (R.bind (R.ok (2 : Int)) fun a_319 => R.bind (R.bind (R.ok p_258.c) fun a_317 => R.bind (R.ok a_272) fun b_318 => R.ok (a_317 - b_318)) fun b_320 => mulR a_319 b_320) fun a_325 => R.bind (R.bind (R.bind (R.ok n_262) fun a_321 => R.bind (R.ok p_258.b) fun b_322 => R.ok (a_321 - b_322)) fun a_323 => R.bind (R.ok a_272) fun b_324 => R.ok (a_323 - b_324)) fun b_326 => R.ok (min a_325 b_326)) fun c_329 => R.ok (T3.mk a_327 b_328 c_329)) fun o_330 => R.ok (some o_330)) fun c_333 => R.ok (T3.mk a_331 b_332 c_333)) fun y_334 => R.bind (szR (st_271 ++ [y_334])) fun found_308 => (R.ok (Fl.nx found_308))) else (R.ok (Fl.nx st_271)))))) : R (Fl (List (T3 Int Int (Option (T3 Int Int Int)))) (List (T3 Int Int (Option (T3 Int Int Int))))))) (fun (st_271 : (List (T3 Int Int (Option (T3 Int Int Int))))) => (R.bind (R.ok st_271) fun a_335 => R.ok (Fl.rt a_335))) xs_336 found_263))))
def f__law_choices_by (sums_here_255 : (List Int)) (limit_256 : Int) (stage_257 : (T3 Int Int Int)) : R (List (T3 Int Int (Option (T3 Int Int Int)))) := finR (b__law_choices_by sums_here_255 limit_256 stage_257)
def b__law_choices (weights_here_337 : (List Int)) (limit_338 : Int) (stage_339 : (T3 Int Int Int)) : R (Fl Unit (List (T3 Int Int (Option (T3 Int Int Int))))) :=
  (R.bind (R.bind (R.bind (R.ok weights_here_337) fun a_340 => R.pu (f__law_sums a_340)) fun a_341 => R.bind (R.ok limit_338) fun b_342 => R.bind (R.ok stage_339) fun c_343 => R.pu (f__law_choices_by a_341 b_342 c_343)) fun a_344 => R.ok (Fl.rt a_344))
def f__law_choices (weights_here_337 : (List Int)) (limit_338 : Int) (stage_339 : (T3 Int Int Int)) : R (List (T3 Int Int (Option (T3 Int Int Int)))) := finR (b__law_choices weights_here_337 limit_338 stage_339)
def b_law (script_345 : Scr) : R (Fl Unit Bool) :=
  (R.bind (R.bind (R.ok (2 : Int)) fun a_350 => R.bind (R.bind (R.bind (R.ok script_345) fun a_346 => R.bind (R.ok (0 : Int)) fun b_347 => R.pu (f__law_cell a_346 b_347)) fun a_348 => R.bind (R.ok (15 : Int)) fun b_349 => modR a_348 b_349) fun b_351 => R.ok (a_350 + b_351)) fun many_352 => (R.bind (R.bind (R.ok script_345) fun a_353 => R.bind (R.ok (3 : Int)) fun b_354 => R.bind (R.ok many_352) fun c_355 => R.pu (f__law_weights a_353 b_354 c_355)) fun weights_here_356 => (R.bind (R.bind (R.ok (16 : Int)) fun a_364 => R.bind (R.bind (R.bind (R.ok many_352) fun a_357 => R.pu (f__law_least_limit a_357)) fun a_362 => R.bind (R.bind (R.bind (R.ok script_345) fun a_358 => R.bind (R.ok (1 : Int)) fun b_359 => R.pu (f__law_cell a_358 b_359)) fun a_360 => R.bind (R.ok (5 : Int)) fun b_361 => modR a_360 b_361) fun b_363 => R.ok (a_362 + b_363)) fun b_365 => R.ok (min a_364 b_365)) fun limit_366 => (R.bind (R.bind (R.ok script_345) fun a_367 => R.bind (R.ok (2 : Int)) fun b_368 => R.pu (f__law_cell a_367 b_368)) fun cell_here_369 => (R.bind (R.bind (R.bind (R.ok cell_here_369) fun a_372 => R.bind (R.bind (R.ok limit_366) fun a_370 => R.bind (R.ok (1 : Int)) fun b_371 => R.ok (a_370 + b_371)) fun b_373 => modR a_372 b_373) fun a_384 => R.bind (R.bind (R.bind (R.ok cell_here_369) fun a_374 => R.bind (R.ok (17 : Int)) fun b_375 => divR a_374 b_375) fun a_376 => R.bind (R.ok many_352) fun b_377 => modR a_376 b_377) fun b_385 => R.bind (R.bind (R.ok (1 : Int)) fun a_382 => R.bind (R.bind (R.bind (R.ok cell_here_369) fun a_378 => R.bind (R.ok (272 : Int)) fun b_379 => divR a_378 b_379) fun a_380 => R.bind (R.ok many_352) fun b_381 => modR a_380 b_381) fun b_383 => R.ok (a_382 + b_383)) fun c_386 => R.ok (T3.mk a_384 b_385 c_386)) fun stage_387 => (R.bind (R.ok weights_here_356) fun given_388 => (R.bind (R.bind (R.bind (R.bind (R.ok given_388) fun a_389 => R.pu (f_ranks a_389)) fun a_391 => R.bind (R.bind (R.ok weights_here_356) fun a_390 => R.pu (f__law_ranks a_390)) fun b_392 => R.bind (eqR a_391 b_392) fun c => R.ok (!c)) fun c_401 => if c_401 = true then R.ok true else (R.bind (R.bind (R.ok given_388) fun a_393 => R.bind (R.ok limit_366) fun b_394 => R.bind (R.ok stage_387) fun c_395 => R.pu (f_choices a_393 b_394 c_395)) fun a_399 => R.bind (R.bind (R.ok weights_here_356) fun a_396 => R.bind (R.ok limit_366) fun b_397 => R.bind (R.ok stage_387) fun c_398 => R.pu (f__law_choices a_396 b_397 c_398)) fun b_400 => R.bind (eqR a_399 b_400) fun c => R.ok (!c))) fun c_402 => if c_402 = true then (R.bind (R.ok false) fun a_403 => R.ok (Fl.rt a_403)) else (R.bind (R.bind (R.bind (R.ok given_388) fun a_407 => R.bind (R.ok limit_366) fun b_408 => R.bind (R.bind (R.ok (0 : Int)) fun a_404 => R.bind (R.ok (0 : Int)) fun b_405 => R.bind (R.ok (1 : Int)) fun c_406 => R.ok (T3.mk a_404 b_405 c_406)) fun c_409 => R.pu (f_choices a_407 b_408 c_409)) fun a_416 => R.bind (R.bind (R.ok weights_here_356) fun a_413 => R.bind (R.ok limit_366) fun b_414 => R.bind (R.bind (R.ok (0 : Int)) fun a_410 => R.bind (R.ok (0 : Int)) fun b_411 => R.bind (R.ok (1 : Int)) fun c_412 => R.ok (T3.mk a_410 b_411 c_412)) fun c_415 => R.pu (f__law_choices a_413 b_414 c_415)) fun b_417 => R.bind (eqR a_416 b_417) fun c => R.ok (!c)) fun c_418 => if c_418 = true then (R.bind (R.ok false) fun a_419 => R.ok (Fl.rt a_419)) else (R.bind (R.bind (R.bind (R.ok many_352) rng1R) (lcR (fun k_421 => (R.ok true)) (fun k_421 => (R.bind (R.bind (R.ok script_345) fun a_424 => R.bind (R.bind (R.ok (20 : Int)) fun a_422 => R.bind (R.ok k_421) fun b_423 => R.ok (a_422 + b_423)) fun b_425 => R.pu (f__law_cell a_424 b_425)) fun a_426 => R.bind (R.ok (21 : Int)) fun b_427 => modR a_426 b_427)))) fun lengths_428 => (R.bind (R.bind (R.bind (R.bind (R.ok given_388) fun a_429 => R.bind (R.ok lengths_428) fun b_430 => R.pu (f_cost a_429 b_430)) fun a_440 => R.bind (R.bind (R.bind (R.bind (R.ok many_352) rng1R) (lcR (fun k_432 => (R.ok true)) (fun k_432 => (R.bind (R.bind (R.ok weights_here_356) fun a_433 => R.bind (R.ok k_432) fun b_434 => idxR a_433 b_434) fun a_437 => R.bind (R.bind (R.ok lengths_428) fun a_435 => R.bind (R.ok k_432) fun b_436 => idxR a_435 b_436) fun b_438 => mulR a_437 b_438)))) fun a_439 => R.ok (List.sum a_439)) fun b_441 => R.ok (decide (a_440 = b_441))) fun c_444 => if c_444 = true then (R.bind (R.ok given_388) fun a_442 => R.bind (R.ok weights_here_356) fun b_443 => eqR a_442 b_443) else R.ok false) fun a_445 => R.ok (Fl.rt a_445)))))))))))
def f_law (script_345 : Scr) : R Bool := finR (b_law script_345)
/-! ### the defs compute it -/
section
variable {P : Program} {w : World} {cf : Cf} {mg : Str → Option Value} {base : Heap} (T : Txt cf mg)
theorem sc_ranks : FnScope ["weights", "weight", "symbol", "k"] ["weights"] (defScope s_ranks) := ⟨rfl, rfl, rfl, by decide +kernel, rfl, by decide +kernel, by decide +kernel⟩
theorem ok_ranks : FnOk P w cf.K mg base CX0 1 T.a_ranks T.d_ranks ["weights"] (SpP cf 1 (sp1 f_ranks)) := by
  refine fn1 (k := 0) (S := Unit) (enc := fun _ => [.un, .un, .un, .un]) T.F_ranks sc_ranks rfl b_ranks (fun weights_1 => [.va (toD (weights_1 : (List Int))), .un, .un, .un]) (fun _ => rfl) fun cdv A outer s H E hr => ?_
  refine ⟨_, (pss_one (ps_ret (pe_lc (own := [("weight", 1), ("symbol", 2)]) rfl sc_ranks.nd (listI cf.K rfl (pe_callB (sortedK cf.K rfl hr.units) (by rfl) T.n_sorted (by decide +kernel) (pa_cons (pe_lc (own := [("k", 3)]) rfl sc_ranks.nd (pi_range1 (by rfl) T.n_range (pa_cons (pe_callB (lenK cf.K rfl) (by rfl) T.n_len (by decide +kernel) (pa_cons (pv 0) pa_nil)) pa_nil)) (blkOk_by (own := [("k", 3)]) (N := ["weights", "weight", "symbol", "k"]) (sc := defScope s_ranks) (by decide +kernel)) (fun _ _ _ _ _ => (pg_name (i := 3) sc_ranks.nd rfl (Or.inl rfl) (Or.inr rfl))) (fun _ _ _ _ _ => pts_nil) (fun _ _ _ _ _ => (pe_tup (pa_cons (pe_un un_neg (pe_ix (ix_listK cf.K rfl) (pv 0) (pv 3) (fun _ _ => rfl))) (pa_cons (pv 3) pa_nil))))) pa_nil))) (blkOk_by (own := [("weight", 1), ("symbol", 2)]) (N := ["weights", "weight", "symbol", "k"]) (sc := defScope s_ranks) (by decide +kernel)) (fun _ _ _ _ _ => (tupK cf.K rfl 2 rfl (pgs_cons (pg_name (i := 1) sc_ranks.nd rfl (Or.inl rfl) (Or.inr rfl)) (pgs_cons (pg_name (i := 2) sc_ranks.nd rfl (Or.inl rfl) (Or.inr rfl)) pgs_nil)))) (fun _ _ _ _ _ => pts_nil) (fun _ _ _ _ _ => (pv 2))))), fun weights_1 => ?_⟩
  unfold b_ranks
  exact (sb_ret (EF.toM (ef_lc (vs := [1, 2]) (Gi := fun weight_10 => [.va (toD (weights_1 : (List Int))), .va (toD (weight_10.1 : Int)), .va (toD (weight_10.2 : Int)), .un]) (ig_list (EF.toZ (ef_sorted (EF.toS (ef_lc (vs := [3]) (Gi := fun k_4 => [.va (toD (weights_1 : (List Int))), .un, .un, .va (toD (k_4 : Int))]) (ig_range1 (em_len (EM.toS (em_var 0 weights_1 rfl)))) (ag_name 3) (by decide) (fun _ => rfl) (fun k_4 => eb_yes) (fun k_4 => (em_tup2 (em_neg (em_ixL (EM.toS (em_var 0 weights_1 rfl)) (em_var 3 k_4 rfl))) (em_var 3 k_4 rfl)))))))) (ag_t2 (ag_name 1) (ag_name 2)) (by decide) (fun _ => rfl) (fun weight_10 => eb_yes) (fun weight_10 => (em_var 2 weight_10.2 rfl)))))
theorem sc_cost : FnScope ["weights", "lengths", "weight", "length"] ["weights", "lengths"] (defScope s_cost) := ⟨rfl, rfl, rfl, by decide +kernel, rfl, by decide +kernel, by decide +kernel⟩
theorem ok_cost : FnOk P w cf.K mg base CX0 1 T.a_cost T.d_cost ["weights", "lengths"] (SpP cf 2 (sp2 f_cost)) := by
  refine fn2 (k := 0) (S := Unit) (enc := fun _ => [.un, .un, .un, .un]) T.F_cost sc_cost rfl b_cost (fun weights_12 lengths_13 => [.va (toD (weights_12 : (List Int))), .va (toD (lengths_13 : (List Int))), .un, .un]) (fun _ _ => rfl) fun cdv A outer s H E hr => ?_
  refine ⟨_, (pss_one (ps_ret (pe_callB (sumK cf.K rfl rfl) (by rfl) T.n_sum (by decide +kernel) (pa_cons (pe_lc (own := [("weight", 2), ("length", 3)]) rfl sc_cost.nd (zipI cf.K rfl (by rfl) T.n_zip (pa_cons (pv 0) (pa_cons (pv 1) pa_nil))) (blkOk_by (own := [("weight", 2), ("length", 3)]) (N := ["weights", "lengths", "weight", "length"]) (sc := defScope s_cost) (by decide +kernel)) (fun _ _ _ _ _ => (tupK cf.K rfl 2 rfl (pgs_cons (pg_name (i := 2) sc_cost.nd rfl (Or.inl rfl) (Or.inr rfl)) (pgs_cons (pg_name (i := 3) sc_cost.nd rfl (Or.inl rfl) (Or.inr rfl)) pgs_nil)))) (fun _ _ _ _ _ => pts_nil) (fun _ _ _ _ _ => (pe_op op_mulX (pv 2) (pv 3)))) pa_nil)))), fun weights_12 lengths_13 => ?_⟩
  unfold b_cost
  exact (sb_ret (em_sum (EF.toS (ef_lc (vs := [2, 3]) (Gi := fun weight_16 => [.va (toD (weights_12 : (List Int))), .va (toD (lengths_13 : (List Int))), .va (toD (weight_16.1 : Int)), .va (toD (weight_16.2 : Int))]) (ig_zip (EM.toZ (em_var 0 weights_12 rfl)) (EM.toZ (em_var 1 lengths_13 rfl))) (ag_t2 (ag_name 2) (ag_name 3)) (by decide) (fun _ => rfl) (fun weight_16 => eb_yes) (fun weight_16 => (em_mul (em_var 2 weight_16.1 rfl) (em_var 3 weight_16.2 rfl)))))))
theorem sc_rests : FnScope ["weights", "total", "result", "symbol"] ["weights"] (defScope s_rests) := ⟨rfl, rfl, rfl, by decide +kernel, rfl, by decide +kernel, by decide +kernel⟩
theorem ok_rests : FnOk P w cf.K mg base CX0 2 T.a_rests T.d_rests ["weights"] (SpP cf 1 (sp1 f_rests)) := by
  refine fn1 (k := 1) (S := Unit) (enc := fun _ => [.un, .un, .un, .un]) T.F_rests sc_rests rfl b_rests (fun weights_21 => [.va (toD (weights_21 : (List Int))), .un, .un, .un]) (fun _ => rfl) fun cdv A outer s H E hr => ?_
  refine ⟨_, (pss_cons (ps_set (i := 1) sc_rests.nd rfl (.inl rfl) (pe_callB (sumK cf.K rfl rfl) (by rfl) T.n_sum (by decide +kernel) (pa_cons (pv 0) pa_nil))) (pss_cons (ps_set (i := 2) sc_rests.nd rfl (.inl rfl) (pe_lst (pa_cons (pv 1) pa_nil))) (pss_cons (ps_for PassesOwn.never rfl (listI cf.K rfl (pe_call (ok_ranks T) (hr.mono (by decide)) (by rfl) T.g_ranks T.F_ranks.kp T.b_ranks .nil pass0 (pa_cons (pv 0) pa_nil))) (pg_name (i := 3) sc_rests.nd rfl (.inl rfl)) (pss_cons (ps_aug (i := 1) sc_rests.nd rfl (.inl rfl) (pe_ix (ix_listK cf.K rfl) (pv 0) (pv 3) (fun _ _ => rfl)) iop_sub) (pss_one (ps_expr (pe_bm PySem.F.plainAttrs_list PySem.F.slot_list_append PySem.F.type_list_append mt_append (pv 2) (pa_cons (pv 1) pa_nil)))))) (pss_one (ps_ret (pv 2)))))), fun weights_21 => ?_⟩
  unfold b_rests
  exact (sb_asg (em_sum (EM.toS (em_var 0 weights_21 rfl))) (ag_name 1) (fun total_23 => [.va (toD (weights_21 : (List Int))), .va (toD (total_23 : Int)), .un, .un]) (fun _ => rfl) (fun total_23 => (sb_asgO (ef_lst (eas_cons (em_var 1 total_23 rfl) (eas_nil (α := Int)))) (fun result_26 => [.va (toD (weights_21 : (List Int))), .va (toD (total_23 : Int)), .ol (List.map toD (result_26 : (List Int))), .un]) (fun _ => rfl) (fun result_26 => (sb_for (T := (Int × (List Int))) (encL := fun st_28 => [.va (toD (weights_21 : (List Int))), .va (toD (st_28.1 : Int)), .ol (List.map toD (st_28.2 : (List Int))), .un]) (ig_list (EM.toZ (em_call1 (em_var 0 weights_21 rfl)))) (ag_name 3) (total_23, result_26) (.same (.same (.same (.same .nil)))) (fun st_28 symbol_29 => [.va (toD (weights_21 : (List Int))), .va (toD (st_28.1 : Int)), .ol (List.map toD (st_28.2 : (List Int))), .va (toD (symbol_29 : Int))]) (fun _ _ => rfl) (fun st_28 symbol_29 => (sb_aug (em_I0 (em_var 1 st_28.1 rfl) (em_ixL (EM.toS (em_var 0 weights_21 rfl)) (em_var 3 symbol_29 rfl))) (fun total_34 => [.va (toD (weights_21 : (List Int))), .va (toD (total_34 : Int)), .ol (List.map toD (st_28.2 : (List Int))), .va (toD (symbol_29 : Int))]) (fun _ => rfl) (fun total_34 => (sb_one (sb_app (i := 2) (xs := st_28.2) rfl (em_var 1 total_34 rfl) (fun result_35 => [.va (toD (weights_21 : (List Int))), .va (toD (total_34 : Int)), .ol (List.map toD (result_35 : (List Int))), .va (toD (symbol_29 : Int))]) (fun _ => rfl) (fun result_35 => (sb_next (total_34, result_35) (.same (.same (.same (.drop .nil))))))))))) (fun st_28 => (sb_frz (i := 2) rfl ([.va (toD (weights_21 : (List Int))), .va (toD (st_28.1 : Int)), .va (toD (st_28.2 : (List Int))), .un]) rfl (sb_ret (em_var 2 st_28.2 rfl)))))))))
theorem sc_choices_by : FnScope ["sums", "limit", "stage", "left", "first", "last", "result", "taken", "depth", "done", "free", "following"] ["sums", "limit", "stage"] (defScope s_choices_by) := ⟨rfl, rfl, rfl, by decide +kernel, rfl, by decide +kernel, by decide +kernel⟩
theorem ok_choices_by : FnOk P w cf.K mg base CX0 1 T.a_choices_by T.d_choices_by ["sums", "limit", "stage"] (SpP cf 3 (sp3 f_choices_by)) := by
  refine fn3 (k := 0) (S := Unit) (enc := fun _ => [.un, .un, .un, .un, .un, .un, .un, .un, .un, .un, .un, .un]) T.F_choices_by sc_choices_by rfl b_choices_by (fun sums_39 limit_40 stage_41 => [.va (toD (sums_39 : (List Int))), .va (toD (limit_40 : Int)), .va (toD (stage_41 : (T3 Int Int Int))), .un, .un, .un, .un, .un, .un, .un, .un, .un]) (fun _ _ _ => rfl) fun cdv A outer s H E hr => ?_
  refine ⟨_, (pss_cons (ps_asg (pv 2) (tupK cf.K rfl 3 rfl (pgs_cons (pg_name (i := 8) sc_choices_by.nd rfl (.inl rfl)) (pgs_cons (pg_name (i := 9) sc_choices_by.nd rfl (.inl rfl)) (pgs_cons (pg_name (i := 10) sc_choices_by.nd rfl (.inl rfl)) pgs_nil))))) (pss_cons (ps_set (i := 3) sc_choices_by.nd rfl (.inl rfl) (pe_op op_sub (pe_op op_sub (pe_callB (lenK cf.K rfl) (by rfl) T.n_len (by decide +kernel) (pa_cons (pv 0) pa_nil)) pe_int) (pv 9))) (pss_cons (ps_set (i := 4) sc_choices_by.nd rfl (.inl rfl) pe_int) (pss_cons (ps_set (i := 5) sc_choices_by.nd rfl (.inl rfl) (pe_callB (call_min2 rfl) (by rfl) T.n_min (by decide +kernel) (pa_cons (pv 10) (pa_cons (pv 3) pa_nil)))) (pss_cons (ps_if (pt_cmpR op_eq (pv 8) pe_int (nomark _)) (pss_one (ps_set (i := 5) sc_choices_by.nd rfl (.inl rfl) pe_int)) pss_nil) (pss_cons (ps_if (pt_cmpR op_eq (pv 8) (pv 1) (nomark _)) (pss_one (ps_set (i := 4) sc_choices_by.nd rfl (.inl rfl) (pv 3))) pss_nil) (pss_cons (ps_set (i := 6) sc_choices_by.nd rfl (.inl rfl) (pe_lst pa_nil)) (pss_cons (ps_for PassesOwn.never rfl (pi_range2 (by rfl) T.n_range (pa_cons (pv 4) (pa_cons (pe_op op_add (pv 5) pe_int) pa_nil))) (pg_name (i := 7) sc_choices_by.nd rfl (.inl rfl)) (pss_one (ps_if (pt_cmpR op_eq (pv 7) (pv 3) (nomark _)) (pss_one (ps_expr (pe_bm PySem.F.plainAttrs_list PySem.F.slot_list_append PySem.F.type_list_append mt_append (pv 6) (pa_cons (pe_tup (pa_cons (pv 7) (pa_cons pe_int (pa_cons pe_non pa_nil)))) pa_nil)))) (pss_one (ps_if (pt_cmpR op_lt (pv 7) (pv 10) (nomark _)) (pss_cons (ps_set (i := 11) sc_choices_by.nd rfl (.inl rfl) (pe_tup (pa_cons (pe_op op_add (pv 8) pe_int) (pa_cons (pe_op op_add (pv 9) (pv 7)) (pa_cons (pe_callB (call_min2 rfl) (by rfl) T.n_min (by decide +kernel) (pa_cons (pe_op op_mulX pe_int (pe_op op_sub (pv 10) (pv 7))) (pa_cons (pe_op op_sub (pv 3) (pv 7)) pa_nil))) pa_nil))))) (pss_one (ps_expr (pe_bm PySem.F.plainAttrs_list PySem.F.slot_list_append PySem.F.type_list_append mt_append (pv 6) (pa_cons (pe_tup (pa_cons (pv 7) (pa_cons (pe_ix (ix_listK cf.K rfl) (pv 0) (pe_op op_add (pv 9) (pv 7)) (fun _ _ => rfl)) (pa_cons (pv 11) pa_nil)))) pa_nil))))) pss_nil))))) (pss_one (ps_ret (pv 6))))))))))), fun sums_39 limit_40 stage_41 => ?_⟩
  unfold b_choices_by
  exact (sb_asg (em_var 2 stage_41 rfl) (ag_t3 (ag_name 8) (ag_name 9) (ag_name 10)) (fun p_42 => [.va (toD (sums_39 : (List Int))), .va (toD (limit_40 : Int)), .va (toD (stage_41 : (T3 Int Int Int))), .un, .un, .un, .un, .un, .va (toD (p_42.a : Int)), .va (toD (p_42.b : Int)), .va (toD (p_42.c : Int)), .un]) (fun _ => rfl) (fun p_42 => (sb_asg (em_I0 (em_I0 (em_len (EM.toS (em_var 0 sums_39 rfl))) (em_int 1)) (em_var 9 p_42.b rfl)) (ag_name 3) (fun left_48 => [.va (toD (sums_39 : (List Int))), .va (toD (limit_40 : Int)), .va (toD (stage_41 : (T3 Int Int Int))), .va (toD (left_48 : Int)), .un, .un, .un, .un, .va (toD (p_42.a : Int)), .va (toD (p_42.b : Int)), .va (toD (p_42.c : Int)), .un]) (fun _ => rfl) (fun left_48 => (sb_asg (em_int 0) (ag_name 4) (fun first_49 => [.va (toD (sums_39 : (List Int))), .va (toD (limit_40 : Int)), .va (toD (stage_41 : (T3 Int Int Int))), .va (toD (left_48 : Int)), .va (toD (first_49 : Int)), .un, .un, .un, .va (toD (p_42.a : Int)), .va (toD (p_42.b : Int)), .va (toD (p_42.c : Int)), .un]) (fun _ => rfl) (fun first_49 => (sb_asg (em_min2 (em_var 10 p_42.c rfl) (em_var 3 left_48 rfl)) (ag_name 5) (fun last_52 => [.va (toD (sums_39 : (List Int))), .va (toD (limit_40 : Int)), .va (toD (stage_41 : (T3 Int Int Int))), .va (toD (left_48 : Int)), .va (toD (first_49 : Int)), .va (toD (last_52 : Int)), .un, .un, .va (toD (p_42.a : Int)), .va (toD (p_42.b : Int)), .va (toD (p_42.c : Int)), .un]) (fun _ => rfl) (fun last_52 => (sb_seq (T := Int) (enc1 := fun st_57 => [.va (toD (sums_39 : (List Int))), .va (toD (limit_40 : Int)), .va (toD (stage_41 : (T3 Int Int Int))), .va (toD (left_48 : Int)), .va (toD (first_49 : Int)), .va (toD (st_57 : Int)), .un, .un, .va (toD (p_42.a : Int)), .va (toD (p_42.b : Int)), .va (toD (p_42.c : Int)), .un]) (sb_ifL (eb_test (em_eqI (em_var 8 p_42.a rfl) (em_int 0))) (sb_one (sb_asg (em_int 0) (ag_name 5) (fun last_58 => [.va (toD (sums_39 : (List Int))), .va (toD (limit_40 : Int)), .va (toD (stage_41 : (T3 Int Int Int))), .va (toD (left_48 : Int)), .va (toD (first_49 : Int)), .va (toD (last_58 : Int)), .un, .un, .va (toD (p_42.a : Int)), .va (toD (p_42.b : Int)), .va (toD (p_42.c : Int)), .un]) (fun _ => rfl) (fun last_58 => (sb_next last_58 (.same (.same (.same (.same (.same (.same (.same (.same (.same (.same (.same (.same .nil)))))))))))))))) (sb_next last_52 (.same (.same (.same (.same (.same (.same (.same (.same (.same (.same (.same (.same .nil)))))))))))))) (fun st_57 => (sb_seq (T := Int) (enc1 := fun st_63 => [.va (toD (sums_39 : (List Int))), .va (toD (limit_40 : Int)), .va (toD (stage_41 : (T3 Int Int Int))), .va (toD (left_48 : Int)), .va (toD (st_63 : Int)), .va (toD (st_57 : Int)), .un, .un, .va (toD (p_42.a : Int)), .va (toD (p_42.b : Int)), .va (toD (p_42.c : Int)), .un]) (sb_ifL (eb_test (em_eqI (em_var 8 p_42.a rfl) (em_var 1 limit_40 rfl))) (sb_one (sb_asg (em_var 3 left_48 rfl) (ag_name 4) (fun first_64 => [.va (toD (sums_39 : (List Int))), .va (toD (limit_40 : Int)), .va (toD (stage_41 : (T3 Int Int Int))), .va (toD (left_48 : Int)), .va (toD (first_64 : Int)), .va (toD (st_57 : Int)), .un, .un, .va (toD (p_42.a : Int)), .va (toD (p_42.b : Int)), .va (toD (p_42.c : Int)), .un]) (fun _ => rfl) (fun first_64 => (sb_next first_64 (.same (.same (.same (.same (.same (.same (.same (.same (.same (.same (.same (.same .nil)))))))))))))))) (sb_next first_49 (.same (.same (.same (.same (.same (.same (.same (.same (.same (.same (.same (.same .nil)))))))))))))) (fun st_63 => (sb_asgO (ef_lst (eas_nil (α := (T3 Int Int (Option (T3 Int Int Int)))))) (fun result_65 => [.va (toD (sums_39 : (List Int))), .va (toD (limit_40 : Int)), .va (toD (stage_41 : (T3 Int Int Int))), .va (toD (left_48 : Int)), .va (toD (st_63 : Int)), .va (toD (st_57 : Int)), .ol (List.map toD (result_65 : (List (T3 Int Int (Option (T3 Int Int Int)))))), .un, .va (toD (p_42.a : Int)), .va (toD (p_42.b : Int)), .va (toD (p_42.c : Int)), .un]) (fun _ => rfl) (fun result_65 => (sb_for (T := (List (T3 Int Int (Option (T3 Int Int Int))))) (encL := fun st_70 => [.va (toD (sums_39 : (List Int))), .va (toD (limit_40 : Int)), .va (toD (stage_41 : (T3 Int Int Int))), .va (toD (left_48 : Int)), .va (toD (st_63 : Int)), .va (toD (st_57 : Int)), .ol (List.map toD (st_70 : (List (T3 Int Int (Option (T3 Int Int Int)))))), .un, .va (toD (p_42.a : Int)), .va (toD (p_42.b : Int)), .va (toD (p_42.c : Int)), .un]) (ig_range2 (em_var 4 st_63 rfl) (em_I0 (em_var 5 st_57 rfl) (em_int 1))) (ag_name 7) result_65 (.same (.same (.same (.same (.same (.same (.same (.same (.same (.same (.same (.same .nil)))))))))))) (fun st_70 taken_71 => [.va (toD (sums_39 : (List Int))), .va (toD (limit_40 : Int)), .va (toD (stage_41 : (T3 Int Int Int))), .va (toD (left_48 : Int)), .va (toD (st_63 : Int)), .va (toD (st_57 : Int)), .ol (List.map toD (st_70 : (List (T3 Int Int (Option (T3 Int Int Int)))))), .va (toD (taken_71 : Int)), .va (toD (p_42.a : Int)), .va (toD (p_42.b : Int)), .va (toD (p_42.c : Int)), .un]) (fun _ _ => rfl) (fun st_70 taken_71 => (sb_ifL (eb_test (em_eqI (em_var 7 taken_71 rfl) (em_var 3 left_48 rfl))) (sb_one (sb_app (i := 6) (xs := st_70) rfl (em_tup3 (em_var 7 taken_71 rfl) (em_int 0) (em_none (α := (T3 Int Int Int)))) (fun result_75 => [.va (toD (sums_39 : (List Int))), .va (toD (limit_40 : Int)), .va (toD (stage_41 : (T3 Int Int Int))), .va (toD (left_48 : Int)), .va (toD (st_63 : Int)), .va (toD (st_57 : Int)), .ol (List.map toD (result_75 : (List (T3 Int Int (Option (T3 Int Int Int)))))), .va (toD (taken_71 : Int)), .va (toD (p_42.a : Int)), .va (toD (p_42.b : Int)), .va (toD (p_42.c : Int)), .un]) (fun _ => rfl) (fun result_75 => (sb_next result_75 (.same (.same (.same (.same (.same (.same (.same (.drop (.same (.same (.same (.same .nil)))))))))))))))) (sb_ifL (eb_test (em_B0 (em_var 7 taken_71 rfl) (em_var 10 p_42.c rfl))) (sb_asg (em_tup3 (em_I0 (em_var 8 p_42.a rfl) (em_int 1)) (em_I0 (em_var 9 p_42.b rfl) (em_var 7 taken_71 rfl)) (em_min2 (em_mul (em_int 2) (em_I0 (em_var 10 p_42.c rfl) (em_var 7 taken_71 rfl))) (em_I0 (em_var 3 left_48 rfl) (em_var 7 taken_71 rfl)))) (ag_name 11) (fun following_98 => [.va (toD (sums_39 : (List Int))), .va (toD (limit_40 : Int)), .va (toD (stage_41 : (T3 Int Int Int))), .va (toD (left_48 : Int)), .va (toD (st_63 : Int)), .va (toD (st_57 : Int)), .ol (List.map toD (st_70 : (List (T3 Int Int (Option (T3 Int Int Int)))))), .va (toD (taken_71 : Int)), .va (toD (p_42.a : Int)), .va (toD (p_42.b : Int)), .va (toD (p_42.c : Int)), .va (toD (following_98 : (T3 Int Int Int)))]) (fun _ => rfl) (fun following_98 => (sb_one (sb_app (i := 6) (xs := st_70) rfl (em_tup3 (em_var 7 taken_71 rfl) (em_ixL (EM.toS (em_var 0 sums_39 rfl)) (em_I0 (em_var 9 p_42.b rfl) (em_var 7 taken_71 rfl))) (EM.just (em_var 11 following_98 rfl))) (fun result_99 => [.va (toD (sums_39 : (List Int))), .va (toD (limit_40 : Int)), .va (toD (stage_41 : (T3 Int Int Int))), .va (toD (left_48 : Int)), .va (toD (st_63 : Int)), .va (toD (st_57 : Int)), .ol (List.map toD (result_99 : (List (T3 Int Int (Option (T3 Int Int Int)))))), .va (toD (taken_71 : Int)), .va (toD (p_42.a : Int)), .va (toD (p_42.b : Int)), .va (toD (p_42.c : Int)), .va (toD (following_98 : (T3 Int Int Int)))]) (fun _ => rfl) (fun result_99 => (sb_next result_99 (.same (.same (.same (.same (.same (.same (.same (.drop (.same (.same (.same (.drop .nil)))))))))))))))))) (sb_next st_70 (.same (.same (.same (.same (.same (.same (.same (.drop (.same (.same (.same (.same .nil)))))))))))))))) (fun st_70 => (sb_frz (i := 6) rfl ([.va (toD (sums_39 : (List Int))), .va (toD (limit_40 : Int)), .va (toD (stage_41 : (T3 Int Int Int))), .va (toD (left_48 : Int)), .va (toD (st_63 : Int)), .va (toD (st_57 : Int)), .va (toD (st_70 : (List (T3 Int Int (Option (T3 Int Int Int)))))), .un, .va (toD (p_42.a : Int)), .va (toD (p_42.b : Int)), .va (toD (p_42.c : Int)), .un]) rfl (sb_ret (em_var 6 st_70 rfl)))))))))))))))))))
theorem sc_choices : FnScope ["weights", "limit", "stage"] ["weights", "limit", "stage"] (defScope s_choices) := ⟨rfl, rfl, rfl, by decide +kernel, rfl, by decide +kernel, by decide +kernel⟩
theorem ok_choices : FnOk P w cf.K mg base CX0 3 T.a_choices T.d_choices ["weights", "limit", "stage"] (SpP cf 3 (sp3 f_choices)) := by
  refine fn3 (k := 2) (S := Unit) (enc := fun _ => [.un, .un, .un]) T.F_choices sc_choices rfl b_choices (fun weights_111 limit_112 stage_113 => [.va (toD (weights_111 : (List Int))), .va (toD (limit_112 : Int)), .va (toD (stage_113 : (T3 Int Int Int)))]) (fun _ _ _ => rfl) fun cdv A outer s H E hr => ?_
  refine ⟨_, (pss_one (ps_ret (pe_call (ok_choices_by T) (hr.mono (by decide)) (by rfl) T.g_choices_by T.F_choices_by.kp T.b_choices_by .nil pass0 (pa_cons (pe_call (ok_rests T) (hr.mono (by decide)) (by rfl) T.g_rests T.F_rests.kp T.b_rests .nil pass0 (pa_cons (pv 0) pa_nil)) (pa_cons (pv 1) (pa_cons (pv 2) pa_nil)))))), fun weights_111 limit_112 stage_113 => ?_⟩
  unfold b_choices
  exact (sb_ret (em_call3 (em_call1 (em_var 0 weights_111 rfl)) (em_var 1 limit_112 rfl) (em_var 2 stage_113 rfl)))
theorem sc__law_cell : FnScope ["_law_script", "_law_k"] ["_law_script", "_law_k"] (defScope s__law_cell) := ⟨rfl, rfl, rfl, by decide +kernel, rfl, by decide +kernel, by decide +kernel⟩
theorem ok__law_cell : FnOk P w cf.K mg base CX0 1 T.a__law_cell T.d__law_cell ["_law_script", "_law_k"] (SpP cf 2 (sp2 f__law_cell)) := by
  refine fn2 (k := 0) (S := Unit) (enc := fun _ => [.un, .un]) T.F__law_cell sc__law_cell rfl b__law_cell (fun script_119 k_120 => [.va (toD (script_119 : Scr)), .va (toD (k_120 : Int))]) (fun _ _ => rfl) fun cdv A outer s H E hr => ?_
  refine ⟨_, (pss_cons (ps_if (pt_cmpR op_lt (pv 1) (pe_callB (lenK cf.K rfl) (by rfl) T.n_len (by decide +kernel) (pa_cons (pv 0) pa_nil)) (nomark _)) (pss_one (ps_ret (pe_callTy call_int1 (by rfl) T.n_int (by decide +kernel) (pa_cons (pe_ix (ix_listK cf.K rfl) (pv 0) (pv 1) (fun _ _ => rfl)) pa_nil)))) pss_nil) (pss_one (ps_ret pe_int))), fun script_119 k_120 => ?_⟩
  unfold b__law_cell
  exact (sb_if (eb_test (em_B0 (em_var 1 k_120 rfl) (em_len (EM.scr (em_var 0 script_119 rfl))))) (sb_ret2 (em_intI (em_ixL (EM.scr (em_var 0 script_119 rfl)) (em_var 1 k_120 rfl)))) (sb_skip (sb_ret (em_int 0))))
theorem sc__law_weights : FnScope ["_law_script", "_law_first", "_law_many", "_law_weights_here", "_law_k", "_law_cell_here", "_law_weight"] ["_law_script", "_law_first", "_law_many"] (defScope s__law_weights) := ⟨rfl, rfl, rfl, by decide +kernel, rfl, by decide +kernel, by decide +kernel⟩
theorem ok__law_weights : FnOk P w cf.K mg base CX0 2 T.a__law_weights T.d__law_weights ["_law_script", "_law_first", "_law_many"] (SpP cf 3 (sp3 f__law_weights)) := by
  refine fn3 (k := 1) (S := Unit) (enc := fun _ => [.un, .un, .un, .un, .un, .un, .un]) T.F__law_weights sc__law_weights rfl b__law_weights (fun script_129 first_130 many_131 => [.va (toD (script_129 : Scr)), .va (toD (first_130 : Int)), .va (toD (many_131 : Int)), .un, .un, .un, .un]) (fun _ _ _ => rfl) fun cdv A outer s H E hr => ?_
  refine ⟨_, (pss_cons (ps_set (i := 3) sc__law_weights.nd rfl (.inl rfl) (pe_lst pa_nil)) (pss_cons (ps_for PassesOwn.never rfl (pi_range1 (by rfl) T.n_range (pa_cons (pv 2) pa_nil)) (pg_name (i := 4) sc__law_weights.nd rfl (.inl rfl)) (pss_cons (ps_set (i := 5) sc__law_weights.nd rfl (.inl rfl) (pe_call (ok__law_cell T) (hr.mono (by decide)) (by rfl) T.g__law_cell T.F__law_cell.kp T.b__law_cell .nil pass0 (pa_cons (pv 0) (pa_cons (pe_op op_add (pv 1) (pv 4)) pa_nil)))) (pss_cons (ps_set (i := 6) sc__law_weights.nd rfl (.inl rfl) (pe_op op_mod (pv 5) pe_int)) (pss_cons (ps_if (pt_cmpR op_eq (pe_op op_mod (pv 5) pe_int) pe_int (nomark _)) (pss_one (ps_set (i := 6) sc__law_weights.nd rfl (.inl rfl) (pe_op op_mod (pe_op op_fdivW (pv 5) pe_int) pe_int))) pss_nil) (pss_cons (ps_if (pt_cmpR op_eq (pe_op op_mod (pv 5) pe_int) pe_int (nomark _)) (pss_one (ps_set (i := 6) sc__law_weights.nd rfl (.inl rfl) (pe_op op_mod (pe_op op_fdivW (pv 5) pe_int) pe_int))) pss_nil) (pss_one (ps_expr (pe_bm PySem.F.plainAttrs_list PySem.F.slot_list_append PySem.F.type_list_append mt_append (pv 3) (pa_cons (pv 6) pa_nil))))))))) (pss_one (ps_ret (pv 3))))), fun script_129 first_130 many_131 => ?_⟩
  unfold b__law_weights
  exact (sb_asgO (ef_lst (eas_nil (α := Int))) (fun weights_here_132 => [.va (toD (script_129 : Scr)), .va (toD (first_130 : Int)), .va (toD (many_131 : Int)), .ol (List.map toD (weights_here_132 : (List Int))), .un, .un, .un]) (fun _ => rfl) (fun weights_here_132 => (sb_for (T := (List Int)) (encL := fun st_134 => [.va (toD (script_129 : Scr)), .va (toD (first_130 : Int)), .va (toD (many_131 : Int)), .ol (List.map toD (st_134 : (List Int))), .un, .un, .un]) (ig_range1 (em_var 2 many_131 rfl)) (ag_name 4) weights_here_132 (.same (.same (.same (.same (.same (.same (.same .nil))))))) (fun st_134 k_135 => [.va (toD (script_129 : Scr)), .va (toD (first_130 : Int)), .va (toD (many_131 : Int)), .ol (List.map toD (st_134 : (List Int))), .va (toD (k_135 : Int)), .un, .un]) (fun _ _ => rfl) (fun st_134 k_135 => (sb_asg (em_call2 (em_var 0 script_129 rfl) (em_I0 (em_var 1 first_130 rfl) (em_var 4 k_135 rfl))) (ag_name 5) (fun cell_here_140 => [.va (toD (script_129 : Scr)), .va (toD (first_130 : Int)), .va (toD (many_131 : Int)), .ol (List.map toD (st_134 : (List Int))), .va (toD (k_135 : Int)), .va (toD (cell_here_140 : Int)), .un]) (fun _ => rfl) (fun cell_here_140 => (sb_asg (em_mod (em_var 5 cell_here_140 rfl) (em_int 9)) (ag_name 6) (fun weight_143 => [.va (toD (script_129 : Scr)), .va (toD (first_130 : Int)), .va (toD (many_131 : Int)), .ol (List.map toD (st_134 : (List Int))), .va (toD (k_135 : Int)), .va (toD (cell_here_140 : Int)), .va (toD (weight_143 : Int))]) (fun _ => rfl) (fun weight_143 => (sb_seq (T := Int) (enc1 := fun st_154 => [.va (toD (script_129 : Scr)), .va (toD (first_130 : Int)), .va (toD (many_131 : Int)), .ol (List.map toD (st_134 : (List Int))), .va (toD (k_135 : Int)), .va (toD (cell_here_140 : Int)), .va (toD (st_154 : Int))]) (sb_ifL (eb_test (em_eqI (em_mod (em_var 5 cell_here_140 rfl) (em_int 5)) (em_int 1))) (sb_one (sb_asg (em_mod (em_div (em_var 5 cell_here_140 rfl) (em_int 5)) (em_int 100)) (ag_name 6) (fun weight_159 => [.va (toD (script_129 : Scr)), .va (toD (first_130 : Int)), .va (toD (many_131 : Int)), .ol (List.map toD (st_134 : (List Int))), .va (toD (k_135 : Int)), .va (toD (cell_here_140 : Int)), .va (toD (weight_159 : Int))]) (fun _ => rfl) (fun weight_159 => (sb_next weight_159 (.same (.same (.same (.same (.same (.same (.same .nil))))))))))) (sb_next weight_143 (.same (.same (.same (.same (.same (.same (.same .nil))))))))) (fun st_154 => (sb_seq (T := Int) (enc1 := fun st_170 => [.va (toD (script_129 : Scr)), .va (toD (first_130 : Int)), .va (toD (many_131 : Int)), .ol (List.map toD (st_134 : (List Int))), .va (toD (k_135 : Int)), .va (toD (cell_here_140 : Int)), .va (toD (st_170 : Int))]) (sb_ifL (eb_test (em_eqI (em_mod (em_var 5 cell_here_140 rfl) (em_int 23)) (em_int 7))) (sb_one (sb_asg (em_mod (em_div (em_var 5 cell_here_140 rfl) (em_int 23)) (em_int 1000001)) (ag_name 6) (fun weight_175 => [.va (toD (script_129 : Scr)), .va (toD (first_130 : Int)), .va (toD (many_131 : Int)), .ol (List.map toD (st_134 : (List Int))), .va (toD (k_135 : Int)), .va (toD (cell_here_140 : Int)), .va (toD (weight_175 : Int))]) (fun _ => rfl) (fun weight_175 => (sb_next weight_175 (.same (.same (.same (.same (.same (.same (.same .nil))))))))))) (sb_next st_154 (.same (.same (.same (.same (.same (.same (.same .nil))))))))) (fun st_170 => (sb_one (sb_app (i := 3) (xs := st_134) rfl (em_var 6 st_170 rfl) (fun weights_here_176 => [.va (toD (script_129 : Scr)), .va (toD (first_130 : Int)), .va (toD (many_131 : Int)), .ol (List.map toD (weights_here_176 : (List Int))), .va (toD (k_135 : Int)), .va (toD (cell_here_140 : Int)), .va (toD (st_170 : Int))]) (fun _ => rfl) (fun weights_here_176 => (sb_next weights_here_176 (.same (.same (.same (.same (.drop (.drop (.drop .nil)))))))))))))))))))) (fun st_134 => (sb_frz (i := 3) rfl ([.va (toD (script_129 : Scr)), .va (toD (first_130 : Int)), .va (toD (many_131 : Int)), .va (toD (st_134 : (List Int))), .un, .un, .un]) rfl (sb_ret (em_var 3 st_134 rfl)))))))
theorem sc__law_ranks : FnScope ["_law_weights_here", "_law_order", "_law_turn", "_law_best", "_law_k"] ["_law_weights_here"] (defScope s__law_ranks) := ⟨rfl, rfl, rfl, by decide +kernel, rfl, by decide +kernel, by decide +kernel⟩
theorem ok__law_ranks : FnOk P w cf.K mg base CX0 1 T.a__law_ranks T.d__law_ranks ["_law_weights_here"] (SpP cf 1 (sp1 f__law_ranks)) := by
  refine fn1 (k := 0) (S := Unit) (enc := fun _ => [.un, .un, .un, .un, .un]) T.F__law_ranks sc__law_ranks rfl b__law_ranks (fun weights_here_180 => [.va (toD (weights_here_180 : (List Int))), .un, .un, .un, .un]) (fun _ => rfl) fun cdv A outer s H E hr => ?_
  refine ⟨_, (pss_cons (ps_set (i := 1) sc__law_ranks.nd rfl (.inl rfl) (pe_lst pa_nil)) (pss_cons (ps_for PassesOwn.never rfl (pi_range1 (by rfl) T.n_range (pa_cons (pe_callB (lenK cf.K rfl) (by rfl) T.n_len (by decide +kernel) (pa_cons (pv 0) pa_nil)) pa_nil)) (pg_name (i := 2) sc__law_ranks.nd rfl (.inl rfl)) (pss_cons (ps_set (i := 3) sc__law_ranks.nd rfl (.inl rfl) pe_non) (pss_cons (ps_for PassesOwn.never rfl (pi_range1 (by rfl) T.n_range (pa_cons (pe_callB (lenK cf.K rfl) (by rfl) T.n_len (by decide +kernel) (pa_cons (pv 0) pa_nil)) pa_nil)) (pg_name (i := 4) sc__law_ranks.nd rfl (.inl rfl)) (pss_one (ps_if (PW.pt (pw_and (pt_cmpR (notInK cf.K rfl) (pv 4) (pv 1) (by rfl)) (pw_and1 (PW.pt (pw_or (pt_cmpR op_isN (pv 3) pe_non (nomark _)) (pw_or1 (pt_cmpR op_gt (pe_ix (ix_listK cf.K rfl) (pv 0) (pv 4) (fun _ _ => rfl)) (pe_ix (ix_listK cf.K rfl) (pv 0) (pv 3) (fun _ _ => rfl)) (nomark _)))))))) (pss_one (ps_set (i := 3) sc__law_ranks.nd rfl (.inl rfl) (pv 4))) pss_nil))) (pss_one (ps_expr (pe_bm PySem.F.plainAttrs_list PySem.F.slot_list_append PySem.F.type_list_append mt_append (pv 1) (pa_cons (pv 3) pa_nil))))))) (pss_one (ps_ret (pv 1))))), fun weights_here_180 => ?_⟩
  unfold b__law_ranks
  exact (sb_asgO (ef_lst (eas_nil (α := Int))) (fun order_181 => [.va (toD (weights_here_180 : (List Int))), .ol (List.map toD (order_181 : (List Int))), .un, .un, .un]) (fun _ => rfl) (fun order_181 => (sb_for (T := (List Int)) (encL := fun st_184 => [.va (toD (weights_here_180 : (List Int))), .ol (List.map toD (st_184 : (List Int))), .un, .un, .un]) (ig_range1 (em_len (EM.toS (em_var 0 weights_here_180 rfl)))) (ag_name 2) order_181 (.same (.same (.same (.same (.same .nil))))) (fun st_184 turn_185 => [.va (toD (weights_here_180 : (List Int))), .ol (List.map toD (st_184 : (List Int))), .va (toD (turn_185 : Int)), .un, .un]) (fun _ _ => rfl) (fun st_184 turn_185 => (sb_asg (em_none (α := Int)) (ag_name 3) (fun best_186 => [.va (toD (weights_here_180 : (List Int))), .ol (List.map toD (st_184 : (List Int))), .va (toD (turn_185 : Int)), .va (toD (best_186 : (Option Int))), .un]) (fun _ => rfl) (fun best_186 => (sb_for (T := (Option Int)) (encL := fun st_189 => [.va (toD (weights_here_180 : (List Int))), .ol (List.map toD (st_184 : (List Int))), .va (toD (turn_185 : Int)), .va (toD (st_189 : (Option Int))), .un]) (ig_range1 (em_len (EM.toS (em_var 0 weights_here_180 rfl)))) (ag_name 4) best_186 (.same (.same (.same (.same (.same .nil))))) (fun st_189 k_190 => [.va (toD (weights_here_180 : (List Int))), .ol (List.map toD (st_184 : (List Int))), .va (toD (turn_185 : Int)), .va (toD (st_189 : (Option Int))), .va (toD (k_190 : Int))]) (fun _ _ => rfl) (fun st_189 k_190 => (sb_ifL (eb_and (eb_test (em_niI (em_var 4 k_190 rfl) (EL.toS (el_own 1 st_184 rfl)))) (eb_or (eb_test (em_isN (em_var 3 st_189 rfl))) (eb_test (em_B0 (em_ixL (EM.toS (em_var 0 weights_here_180 rfl)) (em_var 4 k_190 rfl)) (em_ixL (EM.toS (em_var 0 weights_here_180 rfl)) (EM.get (em_var 3 st_189 rfl))))))) (sb_one (sb_asg (EM.just (em_var 4 k_190 rfl)) (ag_name 3) (fun best_204 => [.va (toD (weights_here_180 : (List Int))), .ol (List.map toD (st_184 : (List Int))), .va (toD (turn_185 : Int)), .va (toD (best_204 : (Option Int))), .va (toD (k_190 : Int))]) (fun _ => rfl) (fun best_204 => (sb_next best_204 (.same (.same (.same (.same (.drop .nil))))))))) (sb_next st_189 (.same (.same (.same (.same (.drop .nil)))))))) (fun st_189 => (sb_one (sb_app (i := 1) (xs := st_184) rfl (EM.get (em_var 3 st_189 rfl)) (fun order_205 => [.va (toD (weights_here_180 : (List Int))), .ol (List.map toD (order_205 : (List Int))), .va (toD (turn_185 : Int)), .va (toD (st_189 : (Option Int))), .un]) (fun _ => rfl) (fun order_205 => (sb_next order_205 (.same (.same (.drop (.drop (.same .nil)))))))))))))) (fun st_184 => (sb_frz (i := 1) rfl ([.va (toD (weights_here_180 : (List Int))), .va (toD (st_184 : (List Int))), .un, .un, .un]) rfl (sb_ret (em_var 1 st_184 rfl)))))))
theorem sc__law_least_limit : FnScope ["_law_many", "_law_limit", "_law_turn"] ["_law_many"] (defScope s__law_least_limit) := ⟨rfl, rfl, rfl, by decide +kernel, rfl, by decide +kernel, by decide +kernel⟩
theorem ok__law_least_limit : FnOk P w cf.K mg base CX0 1 T.a__law_least_limit T.d__law_least_limit ["_law_many"] (SpP cf 1 (sp1 f__law_least_limit)) := by
  refine fn1 (k := 0) (S := Unit) (enc := fun _ => [.un, .un, .un]) T.F__law_least_limit sc__law_least_limit rfl b__law_least_limit (fun many_210 => [.va (toD (many_210 : Int)), .un, .un]) (fun _ => rfl) fun cdv A outer s H E hr => ?_
  refine ⟨_, (pss_cons (ps_set (i := 1) sc__law_least_limit.nd rfl (.inl rfl) pe_int) (pss_cons (ps_for PassesOwn.never rfl (pi_range1 (by rfl) T.n_range (pa_cons pe_int pa_nil)) (pg_name (i := 2) sc__law_least_limit.nd rfl (.inl rfl)) (pss_one (ps_if (pt_cmpR op_lt (pe_op op_shlW pe_int (pv 1)) (pv 0) (nomark _)) (pss_one (ps_set (i := 1) sc__law_least_limit.nd rfl (.inl rfl) (pe_op op_add (pv 1) pe_int))) pss_nil))) (pss_one (ps_ret (pv 1))))), fun many_210 => ?_⟩
  unfold b__law_least_limit
  exact (sb_asg (em_int 1) (ag_name 1) (fun limit_211 => [.va (toD (many_210 : Int)), .va (toD (limit_211 : Int)), .un]) (fun _ => rfl) (fun limit_211 => (sb_for (T := Int) (encL := fun st_213 => [.va (toD (many_210 : Int)), .va (toD (st_213 : Int)), .un]) (ig_range1 (em_int 6)) (ag_name 2) limit_211 (.same (.same (.same .nil))) (fun st_213 turn_214 => [.va (toD (many_210 : Int)), .va (toD (st_213 : Int)), .va (toD (turn_214 : Int))]) (fun _ _ => rfl) (fun st_213 turn_214 => (sb_ifL (eb_test (em_B0 (em_shl (em_int 1) (em_var 1 st_213 rfl)) (em_var 0 many_210 rfl))) (sb_one (sb_asg (em_I0 (em_var 1 st_213 rfl) (em_int 1)) (ag_name 1) (fun limit_222 => [.va (toD (many_210 : Int)), .va (toD (limit_222 : Int)), .va (toD (turn_214 : Int))]) (fun _ => rfl) (fun limit_222 => (sb_next limit_222 (.same (.same (.drop .nil))))))) (sb_next st_213 (.same (.same (.drop .nil)))))) (fun st_213 => (sb_ret (em_var 1 st_213 rfl))))))
theorem sc__law_sums : FnScope ["_law_weights_here", "_law_order", "_law_sums_here", "_law_back"] ["_law_weights_here"] (defScope s__law_sums) := ⟨rfl, rfl, rfl, by decide +kernel, rfl, by decide +kernel, by decide +kernel⟩
theorem ok__law_sums : FnOk P w cf.K mg base CX0 2 T.a__law_sums T.d__law_sums ["_law_weights_here"] (SpP cf 1 (sp1 f__law_sums)) := by
  refine fn1 (k := 1) (S := Unit) (enc := fun _ => [.un, .un, .un, .un]) T.F__law_sums sc__law_sums rfl b__law_sums (fun weights_here_225 => [.va (toD (weights_here_225 : (List Int))), .un, .un, .un]) (fun _ => rfl) fun cdv A outer s H E hr => ?_
  refine ⟨_, (pss_cons (ps_set (i := 1) sc__law_sums.nd rfl (.inl rfl) (pe_call (ok__law_ranks T) (hr.mono (by decide)) (by rfl) T.g__law_ranks T.F__law_ranks.kp T.b__law_ranks .nil pass0 (pa_cons (pv 0) pa_nil))) (pss_cons (ps_set (i := 2) sc__law_sums.nd rfl (.inl rfl) (pe_lst (pa_cons pe_int pa_nil))) (pss_cons (ps_for PassesOwn.never rfl (pi_range1 (by rfl) T.n_range (pa_cons (pe_callB (lenK cf.K rfl) (by rfl) T.n_len (by decide +kernel) (pa_cons (pv 1) pa_nil)) pa_nil)) (pg_name (i := 3) sc__law_sums.nd rfl (.inl rfl)) (pss_one (ps_set (i := 2) sc__law_sums.nd rfl (.inl rfl) (pe_op op_cat (pe_lst (pa_cons (pe_op op_add (pe_ix (ix_listK cf.K rfl) (pv 2) pe_int (fun _ _ => rfl)) (pe_ix (ix_listK cf.K rfl) (pv 0) (pe_ix (ix_listK cf.K rfl) (pv 1) (pe_op op_sub (pe_op op_sub (pe_callB (lenK cf.K rfl) (by rfl) T.n_len (by decide +kernel) (pa_cons (pv 1) pa_nil)) pe_int) (pv 3)) (fun _ _ => rfl)) (fun _ _ => rfl))) pa_nil)) (pv 2))))) (pss_one (ps_ret (pv 2)))))), fun weights_here_225 => ?_⟩
  unfold b__law_sums
  exact (sb_asg (em_call1 (em_var 0 weights_here_225 rfl)) (ag_name 1) (fun order_227 => [.va (toD (weights_here_225 : (List Int))), .va (toD (order_227 : (List Int))), .un, .un]) (fun _ => rfl) (fun order_227 => (sb_asg (EF.toM (ef_lst (eas_cons (em_int 0) (eas_nil (α := Int))))) (ag_name 2) (fun sums_here_230 => [.va (toD (weights_here_225 : (List Int))), .va (toD (order_227 : (List Int))), .va (toD (sums_here_230 : (List Int))), .un]) (fun _ => rfl) (fun sums_here_230 => (sb_for (T := (List Int)) (encL := fun st_233 => [.va (toD (weights_here_225 : (List Int))), .va (toD (order_227 : (List Int))), .va (toD (st_233 : (List Int))), .un]) (ig_range1 (em_len (EM.toS (em_var 1 order_227 rfl)))) (ag_name 3) sums_here_230 (.same (.same (.same (.same .nil)))) (fun st_233 back_234 => [.va (toD (weights_here_225 : (List Int))), .va (toD (order_227 : (List Int))), .va (toD (st_233 : (List Int))), .va (toD (back_234 : Int))]) (fun _ _ => rfl) (fun st_233 back_234 => (sb_one (sb_asg (EF.toM (ef_cat (EF.toL (ef_lst (eas_cons (em_I0 (em_ixL (EM.toS (em_var 2 st_233 rfl)) (em_int 0)) (em_ixL (EM.toS (em_var 0 weights_here_225 rfl)) (em_ixL (EM.toS (em_var 1 order_227 rfl)) (em_I0 (em_I0 (em_len (EM.toS (em_var 1 order_227 rfl))) (em_int 1)) (em_var 3 back_234 rfl))))) (eas_nil (α := Int))))) (EM.toL (em_var 2 st_233 rfl)))) (ag_name 2) (fun sums_here_252 => [.va (toD (weights_here_225 : (List Int))), .va (toD (order_227 : (List Int))), .va (toD (sums_here_252 : (List Int))), .va (toD (back_234 : Int))]) (fun _ => rfl) (fun sums_here_252 => (sb_next sums_here_252 (.same (.same (.same (.drop .nil))))))))) (fun st_233 => (sb_ret (em_var 2 st_233 rfl))))))))
theorem sc__law_choices_by : FnScope ["_law_sums_here", "_law_limit", "_law_stage", "_law_n", "_law_found", "_law_a", "_law_depth", "_law_m", "_law_k", "_law_allowed"] ["_law_sums_here", "_law_limit", "_law_stage"] (defScope s__law_choices_by) := ⟨rfl, rfl, rfl, by decide +kernel, rfl, by decide +kernel, by decide +kernel⟩
theorem ok__law_choices_by : FnOk P w cf.K mg base CX0 1 T.a__law_choices_by T.d__law_choices_by ["_law_sums_here", "_law_limit", "_law_stage"] (SpP cf 3 (sp3 f__law_choices_by)) := by
  refine fn3 (k := 0) (S := Unit) (enc := fun _ => [.un, .un, .un, .un, .un, .un, .un, .un, .un, .un]) T.F__law_choices_by sc__law_choices_by rfl b__law_choices_by (fun sums_here_255 limit_256 stage_257 => [.va (toD (sums_here_255 : (List Int))), .va (toD (limit_256 : Int)), .va (toD (stage_257 : (T3 Int Int Int))), .un, .un, .un, .un, .un, .un, .un]) (fun _ _ _ => rfl) fun cdv A outer s H E hr => ?_
  refine ⟨_, (pss_cons (ps_asg (pv 2) (tupK cf.K rfl 3 rfl (pgs_cons (pg_name (i := 6) sc__law_choices_by.nd rfl (.inl rfl)) (pgs_cons (pg_name (i := 7) sc__law_choices_by.nd rfl (.inl rfl)) (pgs_cons (pg_name (i := 8) sc__law_choices_by.nd rfl (.inl rfl)) pgs_nil))))) (pss_cons (ps_set (i := 3) sc__law_choices_by.nd rfl (.inl rfl) (pe_op op_sub (pe_callB (lenK cf.K rfl) (by rfl) T.n_len (by decide +kernel) (pa_cons (pv 0) pa_nil)) pe_int)) (pss_cons (ps_set (i := 4) sc__law_choices_by.nd rfl (.inl rfl) (pe_lst pa_nil)) (pss_cons (ps_for PassesOwn.never rfl (pi_range1 (by rfl) T.n_range (pa_cons (pe_op op_add (pe_callB (call_min2 rfl) (by rfl) T.n_min (by decide +kernel) (pa_cons (pv 8) (pa_cons (pe_op op_sub (pv 3) (pv 7)) pa_nil))) pe_int) pa_nil)) (pg_name (i := 5) sc__law_choices_by.nd rfl (.inl rfl)) (pss_cons (ps_set (i := 9) sc__law_choices_by.nd rfl (.inl rfl) (pe_or (pe_cmpR op_gt (pv 6) pe_int (nomark _)) (pe_one (pe_cmpR op_eq (pv 5) pe_int (nomark _))))) (pss_cons (ps_if (pt_cmpR op_eq (pv 6) (pv 1) (nomark _)) (pss_one (ps_set (i := 9) sc__law_choices_by.nd rfl (.inl rfl) (pe_cmpR op_eq (pv 5) (pe_op op_sub (pv 3) (pv 7)) (nomark _)))) pss_nil) (pss_one (ps_if (PW.pt (pw_and (pt_val (pv 9)) (pw_and1 (pt_cmpR op_eq (pe_op op_add (pv 7) (pv 5)) (pv 3) (nomark _))))) (pss_one (ps_expr (pe_bm PySem.F.plainAttrs_list PySem.F.slot_list_append PySem.F.type_list_append mt_append (pv 4) (pa_cons (pe_tup (pa_cons (pv 5) (pa_cons pe_int (pa_cons pe_non pa_nil)))) pa_nil)))) (pss_one (ps_if (PW.pt (pw_and (pt_val (pv 9)) (pw_and1 (pt_cmpR op_lt (pv 5) (pv 8) (nomark _))))) (pss_one (ps_expr (pe_bm PySem.F.plainAttrs_list PySem.F.slot_list_append PySem.F.type_list_append mt_append (pv 4) (pa_cons (pe_tup (pa_cons (pv 5) (pa_cons (pe_ix (ix_listK cf.K rfl) (pv 0) (pe_op op_add (pv 7) (pv 5)) (fun _ _ => rfl)) (pa_cons (pe_tup (pa_cons (pe_op op_add (pv 6) pe_int) (pa_cons (pe_op op_add (pv 7) (pv 5)) (pa_cons (pe_callB (call_min2 rfl) (by rfl) T.n_min (by decide +kernel) (pa_cons (pe_op op_mulX pe_int (pe_op op_sub (pv 8) (pv 5))) (pa_cons (pe_op op_sub (pe_op op_sub (pv 3) (pv 7)) (pv 5)) pa_nil))) pa_nil)))) pa_nil)))) pa_nil)))) pss_nil))))))) (pss_one (ps_ret (pv 4))))))), fun sums_here_255 limit_256 stage_257 => ?_⟩
  unfold b__law_choices_by
  exact (sb_asg (em_var 2 stage_257 rfl) (ag_t3 (ag_name 6) (ag_name 7) (ag_name 8)) (fun p_258 => [.va (toD (sums_here_255 : (List Int))), .va (toD (limit_256 : Int)), .va (toD (stage_257 : (T3 Int Int Int))), .un, .un, .un, .va (toD (p_258.a : Int)), .va (toD (p_258.b : Int)), .va (toD (p_258.c : Int)), .un]) (fun _ => rfl) (fun p_258 => (sb_asg (em_I0 (em_len (EM.toS (em_var 0 sums_here_255 rfl))) (em_int 1)) (ag_name 3) (fun n_262 => [.va (toD (sums_here_255 : (List Int))), .va (toD (limit_256 : Int)), .va (toD (stage_257 : (T3 Int Int Int))), .va (toD (n_262 : Int)), .un, .un, .va (toD (p_258.a : Int)), .va (toD (p_258.b : Int)), .va (toD (p_258.c : Int)), .un]) (fun _ => rfl) (fun n_262 => (sb_asgO (ef_lst (eas_nil (α := (T3 Int Int (Option (T3 Int Int Int)))))) (fun found_263 => [.va (toD (sums_here_255 : (List Int))), .va (toD (limit_256 : Int)), .va (toD (stage_257 : (T3 Int Int Int))), .va (toD (n_262 : Int)), .ol (List.map toD (found_263 : (List (T3 Int Int (Option (T3 Int Int Int)))))), .un, .va (toD (p_258.a : Int)), .va (toD (p_258.b : Int)), .va (toD (p_258.c : Int)), .un]) (fun _ => rfl) (fun found_263 => (sb_for (T := (List (T3 Int Int (Option (T3 Int Int Int))))) (encL := fun st_271 => [.va (toD (sums_here_255 : (List Int))), .va (toD (limit_256 : Int)), .va (toD (stage_257 : (T3 Int Int Int))), .va (toD (n_262 : Int)), .ol (List.map toD (st_271 : (List (T3 Int Int (Option (T3 Int Int Int)))))), .un, .va (toD (p_258.a : Int)), .va (toD (p_258.b : Int)), .va (toD (p_258.c : Int)), .un]) (ig_range1 (em_I0 (em_min2 (em_var 8 p_258.c rfl) (em_I0 (em_var 3 n_262 rfl) (em_var 7 p_258.b rfl))) (em_int 1))) (ag_name 5) found_263 (.same (.same (.same (.same (.same (.same (.same (.same (.same (.same .nil)))))))))) (fun st_271 a_272 => [.va (toD (sums_here_255 : (List Int))), .va (toD (limit_256 : Int)), .va (toD (stage_257 : (T3 Int Int Int))), .va (toD (n_262 : Int)), .ol (List.map toD (st_271 : (List (T3 Int Int (Option (T3 Int Int Int)))))), .va (toD (a_272 : Int)), .va (toD (p_258.a : Int)), .va (toD (p_258.b : Int)), .va (toD (p_258.c : Int)), .un]) (fun _ _ => rfl) (fun st_271 a_272 => (sb_asg (em_or (em_B0 (em_var 6 p_258.a rfl) (em_int 0)) (em_eqI (em_var 5 a_272 rfl) (em_int 0))) (ag_name 9) (fun allowed_278 => [.va (toD (sums_here_255 : (List Int))), .va (toD (limit_256 : Int)), .va (toD (stage_257 : (T3 Int Int Int))), .va (toD (n_262 : Int)), .ol (List.map toD (st_271 : (List (T3 Int Int (Option (T3 Int Int Int)))))), .va (toD (a_272 : Int)), .va (toD (p_258.a : Int)), .va (toD (p_258.b : Int)), .va (toD (p_258.c : Int)), .va (toD (allowed_278 : Bool))]) (fun _ => rfl) (fun allowed_278 => (sb_seq (T := Bool) (enc1 := fun st_287 => [.va (toD (sums_here_255 : (List Int))), .va (toD (limit_256 : Int)), .va (toD (stage_257 : (T3 Int Int Int))), .va (toD (n_262 : Int)), .ol (List.map toD (st_271 : (List (T3 Int Int (Option (T3 Int Int Int)))))), .va (toD (a_272 : Int)), .va (toD (p_258.a : Int)), .va (toD (p_258.b : Int)), .va (toD (p_258.c : Int)), .va (toD (st_287 : Bool))]) (sb_ifL (eb_test (em_eqI (em_var 6 p_258.a rfl) (em_var 1 limit_256 rfl))) (sb_one (sb_asg (em_eqI (em_var 5 a_272 rfl) (em_I0 (em_var 3 n_262 rfl) (em_var 7 p_258.b rfl))) (ag_name 9) (fun allowed_292 => [.va (toD (sums_here_255 : (List Int))), .va (toD (limit_256 : Int)), .va (toD (stage_257 : (T3 Int Int Int))), .va (toD (n_262 : Int)), .ol (List.map toD (st_271 : (List (T3 Int Int (Option (T3 Int Int Int)))))), .va (toD (a_272 : Int)), .va (toD (p_258.a : Int)), .va (toD (p_258.b : Int)), .va (toD (p_258.c : Int)), .va (toD (allowed_292 : Bool))]) (fun _ => rfl) (fun allowed_292 => (sb_next allowed_292 (.same (.same (.same (.same (.same (.same (.same (.same (.same (.same .nil)))))))))))))) (sb_next allowed_278 (.same (.same (.same (.same (.same (.same (.same (.same (.same (.same .nil)))))))))))) (fun st_287 => (sb_ifL (eb_and (eb_B (em_var 9 st_287 rfl)) (eb_test (em_eqI (em_I0 (em_var 7 p_258.b rfl) (em_var 5 a_272 rfl)) (em_var 3 n_262 rfl)))) (sb_one (sb_app (i := 4) (xs := st_271) rfl (em_tup3 (em_var 5 a_272 rfl) (em_int 0) (em_none (α := (T3 Int Int Int)))) (fun found_299 => [.va (toD (sums_here_255 : (List Int))), .va (toD (limit_256 : Int)), .va (toD (stage_257 : (T3 Int Int Int))), .va (toD (n_262 : Int)), .ol (List.map toD (found_299 : (List (T3 Int Int (Option (T3 Int Int Int)))))), .va (toD (a_272 : Int)), .va (toD (p_258.a : Int)), .va (toD (p_258.b : Int)), .va (toD (p_258.c : Int)), .va (toD (st_287 : Bool))]) (fun _ => rfl) (fun found_299 => (sb_next found_299 (.same (.same (.same (.same (.same (.drop (.same (.same (.same (.drop .nil)))))))))))))) (sb_ifL (eb_and (eb_B (em_var 9 st_287 rfl)) (eb_test (em_B0 (em_var 5 a_272 rfl) (em_var 8 p_258.c rfl)))) (sb_one (sb_app (i := 4) (xs := st_271) rfl (em_tup3 (em_var 5 a_272 rfl) (em_ixL (EM.toS (em_var 0 sums_here_255 rfl)) (em_I0 (em_var 7 p_258.b rfl) (em_var 5 a_272 rfl))) (EM.just (em_tup3 (em_I0 (em_var 6 p_258.a rfl) (em_int 1)) (em_I0 (em_var 7 p_258.b rfl) (em_var 5 a_272 rfl)) (em_min2 (em_mul (em_int 2) (em_I0 (em_var 8 p_258.c rfl) (em_var 5 a_272 rfl))) (em_I0 (em_I0 (em_var 3 n_262 rfl) (em_var 7 p_258.b rfl)) (em_var 5 a_272 rfl)))))) (fun found_308 => [.va (toD (sums_here_255 : (List Int))), .va (toD (limit_256 : Int)), .va (toD (stage_257 : (T3 Int Int Int))), .va (toD (n_262 : Int)), .ol (List.map toD (found_308 : (List (T3 Int Int (Option (T3 Int Int Int)))))), .va (toD (a_272 : Int)), .va (toD (p_258.a : Int)), .va (toD (p_258.b : Int)), .va (toD (p_258.c : Int)), .va (toD (st_287 : Bool))]) (fun _ => rfl) (fun found_308 => (sb_next found_308 (.same (.same (.same (.same (.same (.drop (.same (.same (.same (.drop .nil)))))))))))))) (sb_next st_271 (.same (.same (.same (.same (.same (.drop (.same (.same (.same (.drop .nil)))))))))))))))))) (fun st_271 => (sb_frz (i := 4) rfl ([.va (toD (sums_here_255 : (List Int))), .va (toD (limit_256 : Int)), .va (toD (stage_257 : (T3 Int Int Int))), .va (toD (n_262 : Int)), .va (toD (st_271 : (List (T3 Int Int (Option (T3 Int Int Int)))))), .un, .va (toD (p_258.a : Int)), .va (toD (p_258.b : Int)), .va (toD (p_258.c : Int)), .un]) rfl (sb_ret (em_var 4 st_271 rfl)))))))))))
theorem sc__law_choices : FnScope ["_law_weights_here", "_law_limit", "_law_stage"] ["_law_weights_here", "_law_limit", "_law_stage"] (defScope s__law_choices) := ⟨rfl, rfl, rfl, by decide +kernel, rfl, by decide +kernel, by decide +kernel⟩
theorem ok__law_choices : FnOk P w cf.K mg base CX0 3 T.a__law_choices T.d__law_choices ["_law_weights_here", "_law_limit", "_law_stage"] (SpP cf 3 (sp3 f__law_choices)) := by
  refine fn3 (k := 2) (S := Unit) (enc := fun _ => [.un, .un, .un]) T.F__law_choices sc__law_choices rfl b__law_choices (fun weights_here_337 limit_338 stage_339 => [.va (toD (weights_here_337 : (List Int))), .va (toD (limit_338 : Int)), .va (toD (stage_339 : (T3 Int Int Int)))]) (fun _ _ _ => rfl) fun cdv A outer s H E hr => ?_
  refine ⟨_, (pss_one (ps_ret (pe_call (ok__law_choices_by T) (hr.mono (by decide)) (by rfl) T.g__law_choices_by T.F__law_choices_by.kp T.b__law_choices_by .nil pass0 (pa_cons (pe_call (ok__law_sums T) (hr.mono (by decide)) (by rfl) T.g__law_sums T.F__law_sums.kp T.b__law_sums .nil pass0 (pa_cons (pv 0) pa_nil)) (pa_cons (pv 1) (pa_cons (pv 2) pa_nil)))))), fun weights_here_337 limit_338 stage_339 => ?_⟩
  unfold b__law_choices
  exact (sb_ret (em_call3 (em_call1 (em_var 0 weights_here_337 rfl)) (em_var 1 limit_338 rfl) (em_var 2 stage_339 rfl)))
theorem sc_law : FnScope ["_law_script", "_law_many", "_law_weights_here", "_law_limit", "_law_cell_here", "_law_stage", "_law_given", "_law_lengths", "_law_k"] ["_law_script"] (defScope s_law) := ⟨rfl, rfl, rfl, by decide +kernel, rfl, by decide +kernel, by decide +kernel⟩
theorem ok_law : FnOk P w cf.K mg base CX0 4 T.a_law T.d_law ["_law_script"] (SpP cf 1 (sp1 f_law)) := by
  refine fn1 (k := 3) (S := Unit) (enc := fun _ => [.un, .un, .un, .un, .un, .un, .un, .un, .un]) T.F_law sc_law rfl b_law (fun script_345 => [.va (toD (script_345 : Scr)), .un, .un, .un, .un, .un, .un, .un, .un]) (fun _ => rfl) fun cdv A outer s H E hr => ?_
  refine ⟨_, (pss_cons (ps_set (i := 1) sc_law.nd rfl (.inl rfl) (pe_op op_add pe_int (pe_op op_mod (pe_call (ok__law_cell T) (hr.mono (by decide)) (by rfl) T.g__law_cell T.F__law_cell.kp T.b__law_cell .nil pass0 (pa_cons (pv 0) (pa_cons pe_int pa_nil))) pe_int))) (pss_cons (ps_set (i := 2) sc_law.nd rfl (.inr rfl) (pe_call (ok__law_weights T) (hr.mono (by decide)) (by rfl) T.g__law_weights T.F__law_weights.kp T.b__law_weights .nil pass0 (pa_cons (pv 0) (pa_cons pe_int (pa_cons (pv 1) pa_nil))))) (pss_cons (ps_set (i := 3) sc_law.nd rfl (.inl rfl) (pe_callB (call_min2 rfl) (by rfl) T.n_min (by decide +kernel) (pa_cons pe_int (pa_cons (pe_op op_add (pe_call (ok__law_least_limit T) (hr.mono (by decide)) (by rfl) T.g__law_least_limit T.F__law_least_limit.kp T.b__law_least_limit .nil pass0 (pa_cons (pv 1) pa_nil)) (pe_op op_mod (pe_call (ok__law_cell T) (hr.mono (by decide)) (by rfl) T.g__law_cell T.F__law_cell.kp T.b__law_cell .nil pass0 (pa_cons (pv 0) (pa_cons pe_int pa_nil))) pe_int)) pa_nil)))) (pss_cons (ps_set (i := 4) sc_law.nd rfl (.inl rfl) (pe_call (ok__law_cell T) (hr.mono (by decide)) (by rfl) T.g__law_cell T.F__law_cell.kp T.b__law_cell .nil pass0 (pa_cons (pv 0) (pa_cons pe_int pa_nil)))) (pss_cons (ps_set (i := 5) sc_law.nd rfl (.inl rfl) (pe_tup (pa_cons (pe_op op_mod (pv 4) (pe_op op_add (pv 3) pe_int)) (pa_cons (pe_op op_mod (pe_op op_fdivW (pv 4) pe_int) (pv 1)) (pa_cons (pe_op op_add pe_int (pe_op op_mod (pe_op op_fdivW (pv 4) pe_int) (pv 1))) pa_nil))))) (pss_cons (ps_set (i := 6) sc_law.nd rfl (.inl rfl) (pe_callTy (listK cf.K rfl) (by rfl) T.n_list (by decide +kernel) (pa_cons (pv 2) pa_nil))) (pss_cons (ps_if (PW.pt (pw_or (pt_cmpR (neDK cf.K rfl hr.units) (pe_call (ok_ranks T) (hr.mono (by decide)) (by rfl) T.g_ranks T.F_ranks.kp T.b_ranks .nil pass0 (pa_cons (pv 6) pa_nil)) (pe_call (ok__law_ranks T) (hr.mono (by decide)) (by rfl) T.g__law_ranks T.F__law_ranks.kp T.b__law_ranks .nil pass0 (pa_cons (pv 2) pa_nil)) (nomark _)) (pw_or1 (pt_cmpR (neDK cf.K rfl hr.units) (pe_call (ok_choices T) (hr.mono (by decide)) (by rfl) T.g_choices T.F_choices.kp T.b_choices .nil pass0 (pa_cons (pv 6) (pa_cons (pv 3) (pa_cons (pv 5) pa_nil)))) (pe_call (ok__law_choices T) (hr.mono (by decide)) (by rfl) T.g__law_choices T.F__law_choices.kp T.b__law_choices .nil pass0 (pa_cons (pv 2) (pa_cons (pv 3) (pa_cons (pv 5) pa_nil)))) (nomark _))))) (pss_one (ps_ret pe_bl)) pss_nil) (pss_cons (ps_if (pt_cmpR (neDK cf.K rfl hr.units) (pe_call (ok_choices T) (hr.mono (by decide)) (by rfl) T.g_choices T.F_choices.kp T.b_choices .nil pass0 (pa_cons (pv 6) (pa_cons (pv 3) (pa_cons (pe_tup (pa_cons pe_int (pa_cons pe_int (pa_cons pe_int pa_nil)))) pa_nil)))) (pe_call (ok__law_choices T) (hr.mono (by decide)) (by rfl) T.g__law_choices T.F__law_choices.kp T.b__law_choices .nil pass0 (pa_cons (pv 2) (pa_cons (pv 3) (pa_cons (pe_tup (pa_cons pe_int (pa_cons pe_int (pa_cons pe_int pa_nil)))) pa_nil)))) (nomark _)) (pss_one (ps_ret pe_bl)) pss_nil) (pss_cons (ps_set (i := 7) sc_law.nd rfl (.inr rfl) (pe_lc (own := [("_law_k", 8)]) rfl sc_law.nd (pi_range1 (by rfl) T.n_range (pa_cons (pv 1) pa_nil)) (blkOk_by (own := [("_law_k", 8)]) (N := ["_law_script", "_law_many", "_law_weights_here", "_law_limit", "_law_cell_here", "_law_stage", "_law_given", "_law_lengths", "_law_k"]) (sc := defScope s_law) (by decide +kernel)) (fun _ _ _ _ _ => (pg_name (i := 8) sc_law.nd rfl (Or.inl rfl) (Or.inr rfl))) (fun _ _ _ _ _ => pts_nil) (fun _ _ _ _ _ => (pe_op op_mod (pe_call (ok__law_cell T) (hr.mono (by decide)) (by rfl) T.g__law_cell T.F__law_cell.kp T.b__law_cell .nil pass0 (pa_cons (pv 0) (pa_cons (pe_op op_add pe_int (pv 8)) pa_nil))) pe_int)))) (pss_one (ps_ret (pe_and (pe_cmpR op_eq (pe_call (ok_cost T) (hr.mono (by decide)) (by rfl) T.g_cost T.F_cost.kp T.b_cost .nil pass0 (pa_cons (pv 6) (pa_cons (pv 7) pa_nil))) (pe_callB (sumK cf.K rfl rfl) (by rfl) T.n_sum (by decide +kernel) (pa_cons (pe_lc (own := [("_law_k", 8)]) rfl sc_law.nd (pi_range1 (by rfl) T.n_range (pa_cons (pv 1) pa_nil)) (blkOk_by (own := [("_law_k", 8)]) (N := ["_law_script", "_law_many", "_law_weights_here", "_law_limit", "_law_cell_here", "_law_stage", "_law_given", "_law_lengths", "_law_k"]) (sc := defScope s_law) (by decide +kernel)) (fun _ _ _ _ _ => (pg_name (i := 8) sc_law.nd rfl (Or.inl rfl) (Or.inr rfl))) (fun _ _ _ _ _ => pts_nil) (fun _ _ _ _ _ => (pe_op op_mulX (pe_ix (ix_listK cf.K rfl) (pv 2) (pv 8) (fun _ _ => rfl)) (pe_ix (ix_listK cf.K rfl) (pv 7) (pv 8) (fun _ _ => rfl))))) pa_nil)) (nomark _)) (pe_one (pe_cmpR (eqDK cf.K rfl hr.units) (pv 6) (pv 2) (nomark _))))))))))))))), fun script_345 => ?_⟩
  unfold b_law
  exact (sb_asg (em_I0 (em_int 2) (em_mod (em_call2 (em_var 0 script_345 rfl) (em_int 0)) (em_int 15))) (ag_name 1) (fun many_352 => [.va (toD (script_345 : Scr)), .va (toD (many_352 : Int)), .un, .un, .un, .un, .un, .un, .un]) (fun _ => rfl) (fun many_352 => (sb_asg (em_call3 (em_var 0 script_345 rfl) (em_int 3) (em_var 1 many_352 rfl)) (ag_name 2) (fun weights_here_356 => [.va (toD (script_345 : Scr)), .va (toD (many_352 : Int)), .va (toD (weights_here_356 : (List Int))), .un, .un, .un, .un, .un, .un]) (fun _ => rfl) (fun weights_here_356 => (sb_asg (em_min2 (em_int 16) (em_I0 (em_call1 (em_var 1 many_352 rfl)) (em_mod (em_call2 (em_var 0 script_345 rfl) (em_int 1)) (em_int 5)))) (ag_name 3) (fun limit_366 => [.va (toD (script_345 : Scr)), .va (toD (many_352 : Int)), .va (toD (weights_here_356 : (List Int))), .va (toD (limit_366 : Int)), .un, .un, .un, .un, .un]) (fun _ => rfl) (fun limit_366 => (sb_asg (em_call2 (em_var 0 script_345 rfl) (em_int 2)) (ag_name 4) (fun cell_here_369 => [.va (toD (script_345 : Scr)), .va (toD (many_352 : Int)), .va (toD (weights_here_356 : (List Int))), .va (toD (limit_366 : Int)), .va (toD (cell_here_369 : Int)), .un, .un, .un, .un]) (fun _ => rfl) (fun cell_here_369 => (sb_asg (em_tup3 (em_mod (em_var 4 cell_here_369 rfl) (em_I0 (em_var 3 limit_366 rfl) (em_int 1))) (em_mod (em_div (em_var 4 cell_here_369 rfl) (em_int 17)) (em_var 1 many_352 rfl)) (em_I0 (em_int 1) (em_mod (em_div (em_var 4 cell_here_369 rfl) (em_int 272)) (em_var 1 many_352 rfl)))) (ag_name 5) (fun stage_387 => [.va (toD (script_345 : Scr)), .va (toD (many_352 : Int)), .va (toD (weights_here_356 : (List Int))), .va (toD (limit_366 : Int)), .va (toD (cell_here_369 : Int)), .va (toD (stage_387 : (T3 Int Int Int))), .un, .un, .un]) (fun _ => rfl) (fun stage_387 => (sb_asg (EF.toM (ef_list (EM.toS (em_var 2 weights_here_356 rfl)))) (ag_name 6) (fun given_388 => [.va (toD (script_345 : Scr)), .va (toD (many_352 : Int)), .va (toD (weights_here_356 : (List Int))), .va (toD (limit_366 : Int)), .va (toD (cell_here_369 : Int)), .va (toD (stage_387 : (T3 Int Int Int))), .va (toD (given_388 : (List Int))), .un, .un]) (fun _ => rfl) (fun given_388 => (sb_if (eb_or (eb_test (em_neD (EM.toE (em_call1 (em_var 6 given_388 rfl))) (EM.toE (em_call1 (em_var 2 weights_here_356 rfl))))) (eb_test (em_neD (EM.toE (em_call3 (em_var 6 given_388 rfl) (em_var 3 limit_366 rfl) (em_var 5 stage_387 rfl))) (EM.toE (em_call3 (em_var 2 weights_here_356 rfl) (em_var 3 limit_366 rfl) (em_var 5 stage_387 rfl)))))) (sb_ret2 (em_bl false)) (sb_skip (sb_if (eb_test (em_neD (EM.toE (em_call3 (em_var 6 given_388 rfl) (em_var 3 limit_366 rfl) (em_tup3 (em_int 0) (em_int 0) (em_int 1)))) (EM.toE (em_call3 (em_var 2 weights_here_356 rfl) (em_var 3 limit_366 rfl) (em_tup3 (em_int 0) (em_int 0) (em_int 1)))))) (sb_ret2 (em_bl false)) (sb_skip (sb_asg (EF.toM (ef_lc (vs := [8]) (Gi := fun k_421 => [.va (toD (script_345 : Scr)), .va (toD (many_352 : Int)), .va (toD (weights_here_356 : (List Int))), .va (toD (limit_366 : Int)), .va (toD (cell_here_369 : Int)), .va (toD (stage_387 : (T3 Int Int Int))), .va (toD (given_388 : (List Int))), .un, .va (toD (k_421 : Int))]) (ig_range1 (em_var 1 many_352 rfl)) (ag_name 8) (by decide) (fun _ => rfl) (fun k_421 => eb_yes) (fun k_421 => (em_mod (em_call2 (em_var 0 script_345 rfl) (em_I0 (em_int 20) (em_var 8 k_421 rfl))) (em_int 21))))) (ag_name 7) (fun lengths_428 => [.va (toD (script_345 : Scr)), .va (toD (many_352 : Int)), .va (toD (weights_here_356 : (List Int))), .va (toD (limit_366 : Int)), .va (toD (cell_here_369 : Int)), .va (toD (stage_387 : (T3 Int Int Int))), .va (toD (given_388 : (List Int))), .va (toD (lengths_428 : (List Int))), .un]) (fun _ => rfl) (fun lengths_428 => (sb_ret (em_and (em_eqI (em_call2 (em_var 6 given_388 rfl) (em_var 7 lengths_428 rfl)) (em_sum (EF.toS (ef_lc (vs := [8]) (Gi := fun k_432 => [.va (toD (script_345 : Scr)), .va (toD (many_352 : Int)), .va (toD (weights_here_356 : (List Int))), .va (toD (limit_366 : Int)), .va (toD (cell_here_369 : Int)), .va (toD (stage_387 : (T3 Int Int Int))), .va (toD (given_388 : (List Int))), .va (toD (lengths_428 : (List Int))), .va (toD (k_432 : Int))]) (ig_range1 (em_var 1 many_352 rfl)) (ag_name 8) (by decide) (fun _ => rfl) (fun k_432 => eb_yes) (fun k_432 => (em_mul (em_ixL (EM.toS (em_var 2 weights_here_356 rfl)) (em_var 8 k_432 rfl)) (em_ixL (EM.toS (em_var 7 lengths_428 rfl)) (em_var 8 k_432 rfl)))))))) (em_eqD (EM.toE (em_var 6 given_388 rfl)) (EM.toE (em_var 2 weights_here_356 rfl)))))))))))))))))))))))
end
end Kx

namespace Kx
open PySem PySem.Spec PyProof.Rows L2 Kr
open Enc (toD)
theorem cell_eq (ns : List Int) (k : Int) (hk : 0 ≤ k) : f__law_cell ⟨ns⟩ k = .ok (ns.getD k.toNat 0) := by
  unfold f__law_cell b__law_cell
  simp only [R.ok_bind, R.ok_pu, R.er_bind, R.bad_bind, R.ok_map, finR_rt, seqF_nx, seqF_rt, R.bind_ok, R.bind_bind, decide_eq_true_eq, Bool.not_eq_true', decide_eq_false_iff_not, Bool.false_eq_true, if_true, if_false, ite_nx]
  by_cases h : k < (ns.length : Int)
  · rw [if_pos h, idxR_ok hk h]
    simp only [R.ok_bind, R.ok_pu, R.er_bind, R.bad_bind, R.ok_map, finR_rt, seqF_nx, seqF_rt, R.bind_ok, R.bind_bind, decide_eq_true_eq, Bool.not_eq_true', decide_eq_false_iff_not, Bool.false_eq_true, if_true, if_false, ite_nx]
    rw [List.getD_eq_getElem?_getD, List.getElem?_eq_getElem (by omega)]
    rfl
  · rw [if_neg h]
    simp only [R.ok_bind, R.ok_pu, R.er_bind, R.bad_bind, R.ok_map, finR_rt, seqF_nx, seqF_rt, R.bind_ok, R.bind_bind, decide_eq_true_eq, Bool.not_eq_true', decide_eq_false_iff_not, Bool.false_eq_true, if_true, if_false, ite_nx]
    rw [List.getD_eq_getElem?_getD, List.getElem?_eq_none (by omega)]
    rfl
theorem weights_eq (ns : List Int) (first : Int) (many : Nat) (hf : 0 ≤ first) (hm : many ≤ 1000) : ∃ ws, f__law_weights ⟨ns⟩ first many = .ok ws ∧ ws.length = many ∧ ∀ w ∈ ws, 0 ≤ w ∧ w ≤ 1000000 := by
  unfold f__law_weights b__law_weights
  simp only [R.ok_bind, R.ok_pu, R.er_bind, R.bad_bind, R.ok_map, finR_rt, seqF_nx, seqF_rt, R.bind_ok, R.bind_bind, decide_eq_true_eq, Bool.not_eq_true', decide_eq_false_iff_not, Bool.false_eq_true, if_true, if_false, ite_nx, szR_nil, rng1_nat (show many ≤ 1000000 by omega)]
  refine forR_elim (P := fun r => ∃ ws : List Int, finR r = R.ok ws ∧ ws.length = many ∧ ∀ w ∈ ws, 0 ≤ w ∧ w ≤ 1000000) (fun i (s : List Int) => s.length = i ∧ ∀ w ∈ s, 0 ≤ w ∧ w ≤ 1000000) ?_ (fun i hi s hI => ?_) (fun s hI => ?_)
  · exact ⟨rfl, fun w hw => (nomatch hw)⟩
  rotate_left
  · exact ⟨s, finR_rt s, by rw [hI.1, seqI_len], hI.2⟩
  rw [seqI_at hi, cell_eq ns _ (by omega)]
  rw [seqI_len] at hi
  generalize ns.getD (first + (0 + (i : Int))).toNat 0 = c
  simp only [R.ok_bind, R.ok_pu, R.er_bind, R.bad_bind, R.ok_map, finR_rt, seqF_nx, seqF_rt, R.bind_ok, R.bind_bind, decide_eq_true_eq, Bool.not_eq_true', decide_eq_false_iff_not, Bool.false_eq_true, if_true, if_false, ite_nx, modR_ok (show (0 : Int) < 9 by decide), modR_ok (show (0 : Int) < 5 by decide), modR_ok (show (0 : Int) < 23 by decide), modR_ok (show (0 : Int) < 100 by decide), modR_ok (show (0 : Int) < 1000001 by decide), divR_ok (show (0 : Int) < 5 by decide) (by decide), divR_ok (show (0 : Int) < 23 by decide) (by decide)]
  simp only [szR_snoc (show s.length < 1000000 by omega), R.ok_bind, R.ok_pu, R.er_bind, R.bad_bind, R.ok_map, finR_rt, seqF_nx, seqF_rt, R.bind_ok, R.bind_bind, decide_eq_true_eq, Bool.not_eq_true', decide_eq_false_iff_not, Bool.false_eq_true, if_true, if_false, ite_nx]
  refine ⟨_, rfl, by rw [List.length_append, hI.1]; rfl, fun w hw => ?_⟩
  rcases List.mem_append.mp hw with hw | hw
  · exact hI.2 w hw
  · rw [List.mem_singleton.mp hw]
    split
    · omega
    · split <;> omega
theorem ranks_eq (ws : List Int) (h : ws.length ≤ 1000) : f_ranks ws = .ok (rk ws) := by
  unfold f_ranks b_ranks
  simp only [R.ok_bind, R.ok_pu, R.er_bind, R.bad_bind, R.ok_map, finR_rt, seqF_nx, seqF_rt, R.bind_ok, R.bind_bind, decide_eq_true_eq, Bool.not_eq_true', decide_eq_false_iff_not, Bool.false_eq_true, if_true, if_false, ite_nx, rng1_nat (show ws.length ≤ 1000000 by omega)]
  rw [lcR_map (fun k => (-(gW ws k), k)) (by rw [seqI_len]; omega) fun k hk => by
    have := mem_seqI.mp hk
    rw [idxR_gW (by omega) (by omega)]
    simp only [R.ok_bind, R.ok_pu, R.er_bind, R.bad_bind, R.ok_map, finR_rt, seqF_nx, seqF_rt, R.bind_ok, R.bind_bind, decide_eq_true_eq, Bool.not_eq_true', decide_eq_false_iff_not, Bool.false_eq_true, if_true, if_false, ite_nx]]
  rw [R.ok_bind, sortR_ok (by rw [List.length_map, seqI_len]; omega), R.ok_bind, lcR_map (fe := fun p : Int × Int => R.ok p.2) (fun p => p.2) (by rw [List.length_mergeSort, List.length_map, seqI_len]; omega) fun p hp => rfl]
  simp only [R.ok_bind, R.ok_pu, R.er_bind, R.bad_bind, R.ok_map, finR_rt, seqF_nx, seqF_rt, R.bind_ok, R.bind_bind, decide_eq_true_eq, Bool.not_eq_true', decide_eq_false_iff_not, Bool.false_eq_true, if_true, if_false, ite_nx]
  rfl
theorem cost_eq (ws ls : List Int) (h : ws.length ≤ 1000) (hw : ∀ w ∈ ws, 0 ≤ w ∧ w ≤ 1000000) (hl : ∀ l ∈ ls, 0 ≤ l ∧ l ≤ 1000) : f_cost ws ls = .ok ((ws.zip ls).map fun p => p.1 * p.2).sum := by
  unfold f_cost b_cost
  simp only [R.ok_bind, R.ok_pu, R.er_bind, R.bad_bind, R.ok_map, finR_rt, seqF_nx, seqF_rt, R.bind_ok, R.bind_bind, decide_eq_true_eq, Bool.not_eq_true', decide_eq_false_iff_not, Bool.false_eq_true, if_true, if_false, ite_nx]
  rw [lcR_map (fun p : Int × Int => p.1 * p.2) (by rw [List.length_zip]; omega) fun p hp => by
    have h1 := hw _ (List.of_mem_zip (show (p.1, p.2) ∈ ws.zip ls from hp)).1
    have h2 := hl _ (List.of_mem_zip (show (p.1, p.2) ∈ ws.zip ls from hp)).2
    exact mulR_ok (by omega) (by omega)]
  simp only [R.ok_bind, R.ok_pu, R.er_bind, R.bad_bind, R.ok_map, finR_rt, seqF_nx, seqF_rt, R.bind_ok, R.bind_bind, decide_eq_true_eq, Bool.not_eq_true', decide_eq_false_iff_not, Bool.false_eq_true, if_true, if_false, ite_nx]
theorem rests_eq (ws : List Int) (h : ws.length ≤ 1000) : f_rests ws = .ok (sums ws) := by
  unfold f_rests b_rests
  simp only [R.ok_bind, R.ok_pu, R.er_bind, R.bad_bind, R.ok_map, finR_rt, seqF_nx, seqF_rt, R.bind_ok, R.bind_bind, decide_eq_true_eq, Bool.not_eq_true', decide_eq_false_iff_not, Bool.false_eq_true, if_true, if_false, ite_nx, ranks_eq ws h, szR_ok (show [ws.sum].length ≤ 1000000 by simp)]
  refine forR_elim (P := fun r => finR r = R.ok (sums ws)) (fun i (s : Int × List Int) => s.1 = ((rkW ws).drop i).sum ∧ ∃ q, suf (rkW ws) = s.2 ++ q ∧ (suf ((rkW ws).drop i)) = s.1 :: q ∧ s.2.length = i + 1) ?_ (fun i hi s hI => ?_) (fun s hI => ?_)
  · refine ⟨?_, ?_⟩
    · rw [List.drop_zero, sum_rkW]
    · rw [List.drop_zero]
      cases e : rkW ws with
      | nil =>
        have := sum_rkW ws
        rw [e] at this
        exact ⟨[], by rw [← this]; rfl, by rw [← this]; rfl, rfl⟩
      | cons w r =>
        have := sum_rkW ws
        rw [e] at this
        exact ⟨suf r, by rw [← this]; rfl, by rw [← this]; rfl, rfl⟩
  · obtain ⟨h1, q, h2, h3, h4⟩ := hI
    have hm := (rk_mem ws (rk ws)[i]).mp (List.getElem_mem hi)
    rw [rk_len] at hi
    rw [idxR_gW hm.1 hm.2]
    have hiW : i < (rkW ws).length := by rw [rkW_len]; exact hi
    have hat : (rkW ws)[i] = gW ws (rk ws)[i] := rkW_at hiW (by rw [rk_len]; exact hi)
    have hd : (rkW ws).drop i = gW ws (rk ws)[i] :: (rkW ws).drop (i + 1) := by rw [List.drop_eq_getElem_cons hiW, hat]
    have hsum : s.1 - gW ws (rk ws)[i] = ((rkW ws).drop (i + 1)).sum := by
      rw [h1, hd, List.sum_cons]
      omega
    have hq : q = suf ((rkW ws).drop (i + 1)) := by
      rw [hd] at h3
      exact (List.cons.inj h3).2.symm
    have hsz : szR (s.2 ++ [s.1 - gW ws (rk ws)[i]]) = .ok (s.2 ++ [s.1 - gW ws (rk ws)[i]]) := szR_snoc (by omega)
    simp only [R.ok_bind, R.ok_pu, R.er_bind, R.bad_bind, R.ok_map, finR_rt, seqF_nx, seqF_rt, R.bind_ok, R.bind_bind, decide_eq_true_eq, Bool.not_eq_true', decide_eq_false_iff_not, Bool.false_eq_true, if_true, if_false, ite_nx, hsz]
    have hh : ∃ q', suf ((rkW ws).drop (i + 1)) = ((rkW ws).drop (i + 1)).sum :: q' := by
      cases (rkW ws).drop (i + 1) with
      | nil => exact ⟨[], rfl⟩
      | cons w r => exact ⟨suf r, rfl⟩
    obtain ⟨q', hq'⟩ := hh
    refine ⟨_, rfl, hsum, q', ?_, ?_, by rw [List.length_append, h4]; rfl⟩
    · rw [h2, hq, hq', hsum, List.append_assoc]
      rfl
    · rw [hq']
      show _ = (s.1 - gW ws (rk ws)[i]) :: q'
      rw [hsum]
  · obtain ⟨h1, q, h2, h3, h4⟩ := hI
    rw [rk_len] at h3 h4
    rw [List.drop_eq_nil_of_le (by rw [rkW_len]; exact Nat.le_refl _)] at h3
    have e : q = [] := (List.cons.inj h3).2.symm
    rw [e, List.append_nil] at h2
    simp only [R.ok_bind, R.ok_pu, R.er_bind, R.bad_bind, R.ok_map, finR_rt, seqF_nx, seqF_rt, R.bind_ok, R.bind_bind, decide_eq_true_eq, Bool.not_eq_true', decide_eq_false_iff_not, Bool.false_eq_true, if_true, if_false, ite_nx]
    unfold sums
    rw [h2]
/-- the program's choices -/
theorem choices_by_eq (sm : List Int) (lim : Int) (st : Stg) (hs : sm.length ≤ 1000) (h0 : 0 ≤ st.a) (hl : st.a ≤ lim) (hl1 : 1 ≤ lim) (hl2 : lim ≤ 1000) (hm : 0 ≤ st.b ∧ st.b < (sm.length : Int) - 1) (hc : 1 ≤ st.c) (hc2 : st.c ≤ 1000) :
    f_choices_by sm lim st = .ok (chs sm lim st) := by
  unfold f_choices_by b_choices_by
  simp only [R.ok_bind, R.ok_pu, R.er_bind, R.bad_bind, R.ok_map, finR_rt, seqF_nx, seqF_rt, R.bind_ok, R.bind_bind, decide_eq_true_eq, Bool.not_eq_true', decide_eq_false_iff_not, Bool.false_eq_true, if_true, if_false, ite_nx]
  rw [chs_by sm lim st h0 hl hl1 hm hc, szR_nil, R.ok_bind, rng2_ok (by split <;> split <;> omega), R.ok_bind]
  rw [forR_fm (item sm lim st) _ _ (by rw [seqI_len]; simp only [List.length_nil]; split <;> split <;> omega) fun s x hx hz => ?_]
  · rw [finR_rt, List.nil_append]
  · have hx := mem_seqI.mp hx
    have ha : (st.a = lim ∧ x = (sm.length : Int) - 1 - st.b) ∨ (st.a ≠ lim ∧ (0 < st.a ∨ x = 0)) := by
      by_cases e1 : st.a = lim <;> by_cases e2 : st.a = 0 <;> simp only [e1, e2, if_true, if_false] at hx ⊢ <;> first | omega | (simp at hx ⊢; omega)
    have hxb : 0 ≤ x ∧ x ≤ 1000 ∧ x ≤ (sm.length : Int) - 1 - st.b := by
      by_cases e1 : st.a = lim <;> by_cases e2 : st.a = 0 <;> simp only [e1, e2, if_true, if_false] at hx ⊢ <;> omega
    unfold item
    rw [if_pos ha]
    by_cases e1 : x = (sm.length : Int) - 1 - st.b
    · rw [if_pos e1, if_pos (show st.b + x = (sm.length : Int) - 1 by omega), szR_snoc hz]
      simp only [R.ok_bind, R.ok_pu, R.er_bind, R.bad_bind, R.ok_map, finR_rt, seqF_nx, seqF_rt, R.bind_ok, R.bind_bind, decide_eq_true_eq, Bool.not_eq_true', decide_eq_false_iff_not, Bool.false_eq_true, if_true, if_false, ite_nx]
      rfl
    · rw [if_neg e1, if_neg (show ¬ st.b + x = (sm.length : Int) - 1 by omega)]
      by_cases e2 : x < st.c
      · rw [if_pos e2, if_pos e2, mulR_ok (by omega) (by omega), idxR_gW (by omega) (by omega)]
        simp only [R.ok_bind, R.ok_pu, R.er_bind, R.bad_bind, R.ok_map, finR_rt, seqF_nx, seqF_rt, R.bind_ok, R.bind_bind, decide_eq_true_eq, Bool.not_eq_true', decide_eq_false_iff_not, Bool.false_eq_true, if_true, if_false, ite_nx]
        rw [szR_snoc hz]
        simp only [R.ok_bind, R.ok_pu, R.er_bind, R.bad_bind, R.ok_map, finR_rt, seqF_nx, seqF_rt, R.bind_ok, R.bind_bind, decide_eq_true_eq, Bool.not_eq_true', decide_eq_false_iff_not, Bool.false_eq_true, if_true, if_false, ite_nx]
        rfl
      · rw [if_neg e2, if_neg e2]
        simp
theorem law_ranks_eq (ws : List Int) (h : ws.length ≤ 1000) : f__law_ranks ws = .ok (rk ws) := by
  unfold f__law_ranks b__law_ranks
  simp only [R.ok_bind, R.ok_pu, R.er_bind, R.bad_bind, R.ok_map, finR_rt, seqF_nx, seqF_rt, R.bind_ok, R.bind_bind, decide_eq_true_eq, Bool.not_eq_true', decide_eq_false_iff_not, Bool.false_eq_true, if_true, if_false, ite_nx, szR_nil, rng1_nat (show ws.length ≤ 1000000 by omega)]
  refine forR_elim (P := fun r => finR r = R.ok (rk ws)) (fun i (s : List Int) => s = (rk ws).take i) ?_ (fun i hi s hI => ?_) (fun s hI => ?_)
  · rfl
  · subst hI
    rw [seqI_len] at hi
    have hol : ((rk ws).take i).length = i := by rw [List.length_take, rk_len]; omega
    refine forR_elim (P := fun r => ∃ s', r = R.ok (Fl.nx s') ∧ s' = List.take (i + 1) (rk ws)) (fun j (b : Option Int) => match b with
      | none => ∀ k : Int, 0 ≤ k → k < j → k ∈ (rk ws).take i
      | some b => 0 ≤ b ∧ b < j ∧ b ∉ (rk ws).take i ∧ ∀ k : Int, 0 ≤ k → k < j → k ∉ (rk ws).take i → k = b ∨ bf ws b k) ?_ (fun j hj b hI => ?_) (fun b hI => ?_)
    · intro k h1 h2
      omega
    · rw [seqI_at hj]
      rw [seqI_len] at hj
      have e0 : (0 : Int) + (j : Int) = j := by omega
      rw [e0]
      by_cases hc : (j : Int) ∈ (rk ws).take i
      · rw [if_neg (by simp [List.contains_iff_mem, hc])]
        simp only [R.ok_bind, R.ok_pu, R.er_bind, R.bad_bind, R.ok_map, finR_rt, seqF_nx, seqF_rt, R.bind_ok, R.bind_bind, decide_eq_true_eq, Bool.not_eq_true', decide_eq_false_iff_not, Bool.false_eq_true, if_true, if_false, ite_nx]
        refine ⟨b, rfl, ?_⟩
        cases b with
        | none =>
          intro k h1 h2
          by_cases e : k = j
          · rw [e]; exact hc
          · exact hI k h1 (by omega)
        | some b =>
          refine ⟨hI.1, by have := hI.2.1; omega, hI.2.2.1, fun k h1 h2 h3 => ?_⟩
          by_cases e : k = j
          · rw [e] at h3; exact absurd hc h3
          · exact hI.2.2.2 k h1 (by omega) h3
      · rw [if_pos (by simp [hc])]
        cases b with
        | none =>
          simp only [Option.isNone_none, R.ok_bind, R.ok_pu, R.er_bind, R.bad_bind, R.ok_map, finR_rt, seqF_nx, seqF_rt, R.bind_ok, R.bind_bind, decide_eq_true_eq, Bool.not_eq_true', decide_eq_false_iff_not, Bool.false_eq_true, if_true, if_false, ite_nx]
          refine ⟨_, rfl, by omega, by omega, hc, fun k h1 h2 h3 => ?_⟩
          by_cases e : k = j
          · exact .inl e
          · exact absurd (hI k h1 (by omega)) h3
        | some b =>
          obtain ⟨i1, i2, i3, i4⟩ := hI
          simp only [Option.isNone_some, R.ok_bind, R.ok_pu, R.er_bind, R.bad_bind, R.ok_map, finR_rt, seqF_nx, seqF_rt, R.bind_ok, R.bind_bind, decide_eq_true_eq, Bool.not_eq_true', decide_eq_false_iff_not, Bool.false_eq_true, if_true, if_false, ite_nx, getR, idxR_gW (show (0 : Int) ≤ j by omega) (show (j : Int) < ws.length by omega), idxR_gW i1 (show b < ws.length by omega)]
          refine ⟨_, rfl, ?_⟩
          by_cases e : gW ws b < gW ws j
          · rw [if_pos e]
            refine ⟨by omega, by omega, hc, fun k h1 h2 h3 => ?_⟩
            by_cases ek : k = j
            · exact .inl ek
            · rcases i4 k h1 (by omega) h3 with e2 | e2
              · rw [e2]
                exact .inr (.inl e)
              · refine .inr ?_
                unfold bf at *
                omega
          · rw [if_neg e]
            refine ⟨i1, by omega, i3, fun k h1 h2 h3 => ?_⟩
            by_cases ek : k = j
            · refine .inr ?_
              rw [ek]
              unfold bf
              omega
            · exact i4 k h1 (by omega) h3
    · rw [seqI_len] at hI
      have hi' : i < (rk ws).length := by rw [rk_len]; exact hi
      have hr := (rk_mem ws (rk ws)[i]).mp (List.getElem_mem hi')
      have hnot : (rk ws)[i] ∉ (rk ws).take i := fun hm => by
        have hnd := rk_nodup ws
        rw [← List.take_append_drop i (rk ws), List.nodup_append] at hnd
        exact hnd.2.2 _ hm (rk ws)[i] (by rw [List.drop_eq_getElem_cons hi']; exact List.mem_cons_self ..) rfl
      cases b with
      | none => exact absurd (hI _ hr.1 hr.2) hnot
      | some b =>
        have hb := rk_next hi ⟨hI.1, hI.2.1⟩ hI.2.2.1 hI.2.2.2
        simp only [getR, R.ok_bind, R.ok_pu, R.er_bind, R.bad_bind, R.ok_map, finR_rt, seqF_nx, seqF_rt, R.bind_ok, R.bind_bind, decide_eq_true_eq, Bool.not_eq_true', decide_eq_false_iff_not, Bool.false_eq_true, if_true, if_false, ite_nx, szR_snoc (show ((rk ws).take i).length < 1000000 by omega)]
        refine ⟨_, rfl, ?_⟩
        rw [List.take_add_one, hb]
        rfl
  · rw [hI, finR_rt, seqI_len, ← rk_len, List.take_length]
theorem law_sums_eq (ws : List Int) (h : ws.length ≤ 1000) : f__law_sums ws = .ok (sums ws) := by
  unfold f__law_sums b__law_sums
  simp only [R.ok_bind, R.ok_pu, R.er_bind, R.bad_bind, R.ok_map, finR_rt, seqF_nx, seqF_rt, R.bind_ok, R.bind_bind, decide_eq_true_eq, Bool.not_eq_true', decide_eq_false_iff_not, Bool.false_eq_true, if_true, if_false, ite_nx, law_ranks_eq ws h, szR_ok (show [(0 : Int)].length ≤ 1000000 by simp), rk_len, rng1_nat (show ws.length ≤ 1000000 by omega)]
  refine forR_elim (P := fun r => finR r = R.ok (sums ws)) (fun i (s : List Int) => s = suf ((rkW ws).drop (ws.length - i))) ?_ (fun i hi s hI => ?_) (fun s hI => ?_)
  · rw [Nat.sub_zero, List.drop_eq_nil_of_le (by rw [rkW_len]; exact Nat.le_refl _)]
    rfl
  · rw [seqI_at hi]
    rw [seqI_len] at hi
    have hj : ws.length - 1 - i < (rk ws).length := by rw [rk_len]; omega
    have hjW : ws.length - 1 - i < (rkW ws).length := by rw [rkW_len]; omega
    have hm := (rk_mem ws (rk ws)[ws.length - 1 - i]).mp (List.getElem_mem hj)
    have hd : (rkW ws).drop (ws.length - (i + 1)) = gW ws (rk ws)[ws.length - 1 - i] :: (rkW ws).drop (ws.length - i) := by
      rw [show ws.length - (i + 1) = ws.length - 1 - i by omega, List.drop_eq_getElem_cons hjW, rkW_at hjW hj, show ws.length - 1 - i + 1 = ws.length - i by omega]
    rw [idxR_of (i := (0 : Int)) (a := ((rkW ws).drop (ws.length - i)).sum) (by decide) (by rw [hI]; exact suf_head _), idxR_of (i := (ws.length : Int) - 1 - (0 + (i : Int))) (a := (rk ws)[ws.length - 1 - i]) (by omega) (by
      rw [show ((ws.length : Int) - 1 - (0 + (i : Int))).toNat = ws.length - 1 - i by omega]
      exact List.getElem?_eq_getElem hj)]
    simp only [R.ok_bind, R.ok_pu, R.er_bind, R.bad_bind, R.ok_map, finR_rt, seqF_nx, seqF_rt, R.bind_ok, R.bind_bind, decide_eq_true_eq, Bool.not_eq_true', decide_eq_false_iff_not, Bool.false_eq_true, if_true, if_false, ite_nx, idxR_gW hm.1 hm.2]
    have hsl : s.length ≤ 1001 := by
      rw [hI, suf_len, List.length_drop, rkW_len]
      omega
    rw [szR_ok (by simp), R.ok_bind, szR_ok (by rw [List.length_append]; simp; omega), R.ok_bind]
    refine ⟨_, rfl, ?_⟩
    rw [hd, hI]
    show _ = (gW ws (rk ws)[ws.length - 1 - i] :: (rkW ws).drop (ws.length - i)).sum :: suf ((rkW ws).drop (ws.length - i))
    rw [List.sum_cons, Int.add_comm]
    rfl
  · rw [hI, seqI_len, Nat.sub_self, List.drop_zero, finR_rt]
    rfl
theorem law_choices_by_eq (sm : List Int) (lim : Int) (st : Stg) (hs : sm.length ≤ 1000) (h0 : 0 ≤ st.a) (hl : st.a ≤ lim) (hl1 : 1 ≤ lim) (hl2 : lim ≤ 1000) (hm : 0 ≤ st.b ∧ st.b < (sm.length : Int) - 1) (hc : 1 ≤ st.c) (hc2 : st.c ≤ 1000) :
    f__law_choices_by sm lim st = .ok (chs sm lim st) := by
  unfold f__law_choices_by b__law_choices_by
  simp only [R.ok_bind, R.ok_pu, R.er_bind, R.bad_bind, R.ok_map, finR_rt, seqF_nx, seqF_rt, R.bind_ok, R.bind_bind, decide_eq_true_eq, Bool.not_eq_true', decide_eq_false_iff_not, Bool.false_eq_true, if_true, if_false, ite_nx, szR_nil]
  rw [rng1_ok (by omega) (by omega), R.ok_bind]
  rw [forR_fm (item sm lim st) _ _ (by rw [seqI_len]; simp only [List.length_nil]; omega) fun s x hx hz => ?_]
  · rw [finR_rt, List.nil_append]
    rfl
  · have hx := mem_seqI.mp hx
    have hal : ∀ (k : Bool → R (Fl (List Cho) (List Cho))), ((if 0 < st.a then R.ok true else R.ok (decide (x = 0))).bind k) = k (decide (0 < st.a ∨ x = 0)) := fun k => by
      by_cases e : 0 < st.a <;> simp [e, R.ok_bind]
    rw [hal]
    have hal2 : (if st.a = lim then decide (x = (sm.length : Int) - 1 - st.b) else decide (0 < st.a ∨ x = 0)) = decide ((st.a = lim ∧ x = (sm.length : Int) - 1 - st.b) ∨ (st.a ≠ lim ∧ (0 < st.a ∨ x = 0))) := by
      by_cases e : st.a = lim <;> simp [e]
    rw [hal2]
    unfold item
    by_cases ha : (st.a = lim ∧ x = (sm.length : Int) - 1 - st.b) ∨ (st.a ≠ lim ∧ (0 < st.a ∨ x = 0))
    · simp only [if_pos ha, decide_eq_true ha, if_true, R.ok_bind, decide_eq_true_eq]
      by_cases e1 : st.b + x = (sm.length : Int) - 1
      · rw [if_pos e1, if_pos e1, szR_snoc hz, R.ok_bind]
        rfl
      · rw [if_neg e1, if_neg e1]
        by_cases e2 : x < st.c
        · rw [if_pos e2, if_pos e2, idxR_gW (by omega) (by omega), mulR_ok (by omega) (by omega)]
          simp only [R.ok_bind, R.ok_pu, R.er_bind, R.bad_bind, R.ok_map, finR_rt, seqF_nx, seqF_rt, R.bind_ok, R.bind_bind, decide_eq_true_eq, Bool.not_eq_true', decide_eq_false_iff_not, Bool.false_eq_true, if_true, if_false, ite_nx]
          rw [szR_snoc hz, R.ok_bind]
          rfl
        · rw [if_neg e2, if_neg e2]
          simp
    · simp only [if_neg ha, decide_eq_false ha, Bool.false_eq_true, if_false, R.ok_bind]
      simp
theorem limit_eq (many : Int) : ∃ l, f__law_least_limit many = .ok l ∧ 1 ≤ l ∧ l ≤ 7 := by
  unfold f__law_least_limit b__law_least_limit
  simp only [R.ok_bind, R.ok_pu, R.er_bind, R.bad_bind, R.ok_map, finR_rt, seqF_nx, seqF_rt, R.bind_ok, R.bind_bind, decide_eq_true_eq, Bool.not_eq_true', decide_eq_false_iff_not, Bool.false_eq_true, if_true, if_false, ite_nx]
  rw [rng1_ok (by decide) (by decide), R.ok_bind]
  refine forR_elim (P := fun r => ∃ l : Int, finR r = R.ok l ∧ 1 ≤ l ∧ l ≤ 7) (fun i (s : Int) => 1 ≤ s ∧ s ≤ 1 + i) ?_ (fun i hi s hI => ?_) (fun s hI => ?_)
  · exact ⟨Int.le_refl _, Int.le_refl _⟩
  · rw [seqI_len] at hi
    rw [shlR_ok (by decide) (by omega), R.ok_bind]
    refine ⟨_, rfl, ?_⟩
    split <;> omega
  · rw [seqI_len] at hI
    exact ⟨s, finR_rt s, hI.1, hI.2⟩
theorem choices_eq (ws : List Int) (lim : Int) (st : Stg) (hs : ws.length ≤ 900) (h0 : 0 ≤ st.a) (hl : st.a ≤ lim) (hl1 : 1 ≤ lim) (hl2 : lim ≤ 1000) (hm : 0 ≤ st.b ∧ st.b < (ws.length : Int)) (hc : 1 ≤ st.c) (hc2 : st.c ≤ 1000) :
    f_choices ws lim st = .ok (chs (sums ws) lim st) := by
  unfold f_choices b_choices
  simp only [R.ok_bind, R.ok_pu, R.er_bind, R.bad_bind, R.ok_map, finR_rt, seqF_nx, seqF_rt, R.bind_ok, R.bind_bind, decide_eq_true_eq, Bool.not_eq_true', decide_eq_false_iff_not, Bool.false_eq_true, if_true, if_false, ite_nx, rests_eq ws (show ws.length ≤ 1000 by omega)]
  rw [choices_by_eq (sums ws) lim st (by rw [sums_len]; omega) h0 hl hl1 hl2 (by rw [sums_len]; omega) hc hc2]
  simp only [R.ok_bind, R.ok_pu, R.er_bind, R.bad_bind, R.ok_map, finR_rt, seqF_nx, seqF_rt, R.bind_ok, R.bind_bind, decide_eq_true_eq, Bool.not_eq_true', decide_eq_false_iff_not, Bool.false_eq_true, if_true, if_false, ite_nx]
theorem law_choices_eq (ws : List Int) (lim : Int) (st : Stg) (hs : ws.length ≤ 900) (h0 : 0 ≤ st.a) (hl : st.a ≤ lim) (hl1 : 1 ≤ lim) (hl2 : lim ≤ 1000) (hm : 0 ≤ st.b ∧ st.b < (ws.length : Int)) (hc : 1 ≤ st.c) (hc2 : st.c ≤ 1000) :
    f__law_choices ws lim st = .ok (chs (sums ws) lim st) := by
  unfold f__law_choices b__law_choices
  simp only [R.ok_bind, R.ok_pu, R.er_bind, R.bad_bind, R.ok_map, finR_rt, seqF_nx, seqF_rt, R.bind_ok, R.bind_bind, decide_eq_true_eq, Bool.not_eq_true', decide_eq_false_iff_not, Bool.false_eq_true, if_true, if_false, ite_nx, law_sums_eq ws (show ws.length ≤ 1000 by omega)]
  rw [law_choices_by_eq (sums ws) lim st (by rw [sums_len]; omega) h0 hl hl1 hl2 (by rw [sums_len]; omega) hc hc2]
  simp only [R.ok_bind, R.ok_pu, R.er_bind, R.bad_bind, R.ok_map, finR_rt, seqF_nx, seqF_rt, R.bind_ok, R.bind_bind, decide_eq_true_eq, Bool.not_eq_true', decide_eq_false_iff_not, Bool.false_eq_true, if_true, if_false, ite_nx]
theorem zip_range (ws ls : List Int) (n : Nat) (h1 : ws.length = n) (h2 : ls.length = n) : (ws.zip ls).map (fun p => p.1 * p.2) = (seqI 0 n).map fun k => gW ws k * gW ls k := by
  refine List.ext_getElem (by rw [List.length_map, List.length_map, List.length_zip, seqI_len]; omega) fun i hi hi' => ?_
  rw [List.length_map, List.length_zip] at hi
  rw [List.getElem_map, List.getElem_map, List.getElem_zip, seqI_at (by rw [seqI_len]; omega)]
  have g : ∀ (xs : List Int) (h : i < xs.length), gW xs (0 + (i : Int)) = xs[i] := fun xs h => by
    have := idxR_gW (ws := xs) (k := 0 + (i : Int)) (by omega) (by omega)
    rw [show (0 : Int) + (i : Int) = (i : Int) by omega] at this ⊢
    rw [idxR_nat h] at this
    exact (R.ok.inj this).symm
  rw [g ws (by omega), g ls (by omega)]
theorem eqR_self {α : Type} [Enc α] [q : Eqd α] (a : α) (h : q.n ≤ 64 := by decide) : eqR a a = .ok true := by
  haveI := Classical.typeDecidableEq α
  rw [eqR_eq a a h, decide_eq_true rfl]
theorem law_true (ns : List Int) : f_law ⟨ns⟩ = .ok true := by
  unfold f_law b_law
  simp only [R.ok_bind, R.ok_pu, R.er_bind, R.bad_bind, R.ok_map, finR_rt, seqF_nx, seqF_rt, R.bind_ok, R.bind_bind, decide_eq_true_eq, Bool.not_eq_true', decide_eq_false_iff_not, Bool.false_eq_true, if_true, if_false, ite_nx, cell_eq ns 0 (by decide), cell_eq ns 1 (by decide), cell_eq ns 2 (by decide), modR_ok (show (0 : Int) < 15 by decide), modR_ok (show (0 : Int) < 5 by decide)]
  generalize ns.getD (0 : Int).toNat 0 = c0
  generalize ns.getD (1 : Int).toNat 0 = c1
  generalize ns.getD (2 : Int).toNat 0 = c2
  obtain ⟨m, hm⟩ : ∃ m : Nat, 2 + c0 % 15 = (m : Int) := ⟨(2 + c0 % 15).toNat, by omega⟩
  have hmb : 2 ≤ m ∧ m ≤ 16 := by omega
  rw [hm]
  obtain ⟨ws, hw, hwl, hwb⟩ := weights_eq ns 3 m (by decide) (by omega)
  obtain ⟨l, hl, hlb⟩ := limit_eq (m : Int)
  simp only [hw, hl, R.ok_bind, R.ok_pu, R.er_bind, R.bad_bind, R.ok_map, finR_rt, seqF_nx, seqF_rt, R.bind_ok, R.bind_bind, decide_eq_true_eq, Bool.not_eq_true', decide_eq_false_iff_not, Bool.false_eq_true, if_true, if_false, ite_nx]
  obtain ⟨lim, hlim⟩ : ∃ lim : Int, min 16 (l + c1 % 5) = lim := ⟨_, rfl⟩
  have hlimb : 1 ≤ lim ∧ lim ≤ 16 := by omega
  rw [hlim]
  simp only [modR_ok (show (0 : Int) < lim + 1 by omega), modR_ok (show (0 : Int) < (m : Int) by omega), divR_ok (show (0 : Int) < 17 by decide) (by decide), divR_ok (show (0 : Int) < 272 by decide) (by decide), R.ok_bind, R.ok_pu, R.er_bind, R.bad_bind, R.ok_map, finR_rt, seqF_nx, seqF_rt, R.bind_ok, R.bind_bind, decide_eq_true_eq, Bool.not_eq_true', decide_eq_false_iff_not, Bool.false_eq_true, if_true, if_false, ite_nx]
  have ha := Int.emod_nonneg c2 (show lim + 1 ≠ 0 by omega)
  have ha' := Int.emod_lt_of_pos c2 (show 0 < lim + 1 by omega)
  have hb := Int.emod_nonneg (c2 / 17) (show (m : Int) ≠ 0 by omega)
  have hb' := Int.emod_lt_of_pos (c2 / 17) (show 0 < (m : Int) by omega)
  have hc := Int.emod_nonneg (c2 / 272) (show (m : Int) ≠ 0 by omega)
  have hc' := Int.emod_lt_of_pos (c2 / 272) (show 0 < (m : Int) by omega)
  generalize c2 % (lim + 1) = sa at *
  generalize c2 / 17 % (m : Int) = sb at *
  generalize c2 / 272 % (m : Int) = sc at *
  have eL : ∀ xs : List Int, eqR xs xs = .ok true := fun xs => eqR_self xs
  have eC : ∀ xs : List Cho, eqR xs xs = .ok true := fun xs => eqR_self xs
  have q1 := choices_eq ws lim ⟨sa, sb, 1 + sc⟩ (by omega) ha (show sa ≤ lim by omega) hlimb.1 (by omega) (show 0 ≤ sb ∧ sb < (ws.length : Int) by omega) (show 1 ≤ 1 + sc by omega) (show 1 + sc ≤ 1000 by omega)
  have q2 := law_choices_eq ws lim ⟨sa, sb, 1 + sc⟩ (by omega) ha (show sa ≤ lim by omega) hlimb.1 (by omega) (show 0 ≤ sb ∧ sb < (ws.length : Int) by omega) (show 1 ≤ 1 + sc by omega) (show 1 + sc ≤ 1000 by omega)
  have q3 := choices_eq ws lim ⟨0, 0, 1⟩ (by omega) (by decide) (show (0 : Int) ≤ lim by omega) hlimb.1 (by omega) (show (0 : Int) ≤ 0 ∧ (0 : Int) < (ws.length : Int) by omega) (by decide) (by decide)
  have q4 := law_choices_eq ws lim ⟨0, 0, 1⟩ (by omega) (by decide) (show (0 : Int) ≤ lim by omega) hlimb.1 (by omega) (show (0 : Int) ≤ 0 ∧ (0 : Int) < (ws.length : Int) by omega) (by decide) (by decide)
  simp only [ranks_eq ws (by omega), law_ranks_eq ws (by omega), q1, q2, q3, q4, R.ok_bind, R.ok_pu, R.er_bind, R.bad_bind, R.ok_map, finR_rt, seqF_nx, seqF_rt, R.bind_ok, R.bind_bind, decide_eq_true_eq, Bool.not_eq_true', decide_eq_false_iff_not, Bool.false_eq_true, if_true, if_false, ite_nx, eL, eC, Bool.true_eq_false, Bool.not_true, rng1_nat (show m ≤ 1000000 by omega)]
  rw [lcR_map (fun k => ns.getD (20 + k).toNat 0 % 21) (by rw [seqI_len]; omega) fun k hk => by
    have := mem_seqI.mp hk
    rw [cell_eq ns _ (by omega)]
    simp only [R.ok_bind, R.ok_pu, R.er_bind, R.bad_bind, R.ok_map, finR_rt, seqF_nx, seqF_rt, R.bind_ok, R.bind_bind, decide_eq_true_eq, Bool.not_eq_true', decide_eq_false_iff_not, Bool.false_eq_true, if_true, if_false, ite_nx, modR_ok (show (0 : Int) < 21 by decide)]]
  obtain ⟨ls, hls⟩ : ∃ ls : List Int, (seqI 0 m).map (fun k => ns.getD (20 + k).toNat 0 % 21) = ls := ⟨_, rfl⟩
  have hlsl : ls.length = m := by rw [← hls, List.length_map, seqI_len]
  have hlsb : ∀ x ∈ ls, 0 ≤ x ∧ x ≤ 1000 := fun x hx => by
    rw [← hls] at hx
    obtain ⟨k, hk, e⟩ := List.mem_map.mp hx
    omega
  rw [hls]
  simp only [R.ok_bind, R.ok_pu, R.er_bind, R.bad_bind, R.ok_map, finR_rt, seqF_nx, seqF_rt, R.bind_ok, R.bind_bind, decide_eq_true_eq, Bool.not_eq_true', decide_eq_false_iff_not, Bool.false_eq_true, if_true, if_false, ite_nx, cost_eq ws ls (show ws.length ≤ 1000 by omega) hwb hlsb]
  rw [lcR_map (fun k => gW ws k * gW ls k) (by rw [seqI_len]; omega) fun k hk => by
    have := mem_seqI.mp hk
    rw [idxR_gW (by omega) (by omega), idxR_gW (by omega) (by omega)]
    simp only [R.ok_bind, R.ok_pu, R.er_bind, R.bad_bind, R.ok_map, finR_rt, seqF_nx, seqF_rt, R.bind_ok, R.bind_bind, decide_eq_true_eq, Bool.not_eq_true', decide_eq_false_iff_not, Bool.false_eq_true, if_true, if_false, ite_nx]
    have g1 : 0 ≤ gW ws k ∧ gW ws k ≤ 1000000 := by
      have e := idxR_gW (ws := ws) (k := k) (by omega) (by omega)
      rw [idxR_ok (by omega) (by omega)] at e
      rw [← R.ok.inj e]
      exact hwb _ (List.getElem_mem _)
    have g2 : 0 ≤ gW ls k ∧ gW ls k ≤ 1000 := by
      have e := idxR_gW (ws := ls) (k := k) (by omega) (by omega)
      rw [idxR_ok (by omega) (by omega)] at e
      rw [← R.ok.inj e]
      exact hlsb _ (List.getElem_mem _)
    exact mulR_ok (by omega) (by omega)]
  simp only [R.ok_bind, R.ok_pu, R.er_bind, R.bad_bind, R.ok_map, finR_rt, seqF_nx, seqF_rt, R.bind_ok, R.bind_bind, decide_eq_true_eq, Bool.not_eq_true', decide_eq_false_iff_not, Bool.false_eq_true, if_true, if_false, ite_nx, zip_range ws ls m hwl hlsl, decide_true, if_true, eL]

theorem law_all : ∀ ns : List Int, ns.length ≤ 63 → f_law ⟨ns⟩ = .ok true := fun ns _ => law_true ns
end Kx

namespace Kx
open PySem PySem.Spec PyProof.Rows L2 Kr
open Enc (toD)
def cfK (K : PySem.W.Frag) : Cf := ⟨K, fun _ => 0, fun _ => ""⟩
theorem all_mk {l : PySem.W.OpenLaw} {w : World} {K : PySem.W.Frag} {h : Heap} {mg : Str → Option Value} {fa : Addr} (X : K.In h) (G : h.Ns mainGlobals mg) (hfa : mg "law" = some (.ref fa))
    {ad_ranks : Addr} {od_ranks an_ranks : Option Addr} {sl_ranks : Array (Option Value)} {oc_ranks kV_ranks dc_ranks pm_ranks cd_ranks ct_ranks : Value}
    (a_ranks : PySem.W.nsIn K mainGlobals "ranks" = some (some (.ref ad_ranks)))
    (l_ranks : K.lookup ad_ranks = some ⟨oc_ranks, od_ranks, .func (PySem.W.fnOf "ranks" "ranks" (defArgs s_ranks) (defBody s_ranks) (defScope s_ranks) .none kV_ranks dc_ranks pm_ranks an_ranks cd_ranks ct_ranks), sl_ranks⟩)
    (c_ranks : PySem.W.codeIn K cd_ranks "ranks" = true) (k_ranks : PySem.W.keepIn K (.ref ad_ranks) = true)
    {ad_cost : Addr} {od_cost an_cost : Option Addr} {sl_cost : Array (Option Value)} {oc_cost kV_cost dc_cost pm_cost cd_cost ct_cost : Value}
    (a_cost : PySem.W.nsIn K mainGlobals "cost" = some (some (.ref ad_cost)))
    (l_cost : K.lookup ad_cost = some ⟨oc_cost, od_cost, .func (PySem.W.fnOf "cost" "cost" (defArgs s_cost) (defBody s_cost) (defScope s_cost) .none kV_cost dc_cost pm_cost an_cost cd_cost ct_cost), sl_cost⟩)
    (c_cost : PySem.W.codeIn K cd_cost "cost" = true) (k_cost : PySem.W.keepIn K (.ref ad_cost) = true)
    {ad_rests : Addr} {od_rests an_rests : Option Addr} {sl_rests : Array (Option Value)} {oc_rests kV_rests dc_rests pm_rests cd_rests ct_rests : Value}
    (a_rests : PySem.W.nsIn K mainGlobals "rests" = some (some (.ref ad_rests)))
    (l_rests : K.lookup ad_rests = some ⟨oc_rests, od_rests, .func (PySem.W.fnOf "rests" "rests" (defArgs s_rests) (defBody s_rests) (defScope s_rests) .none kV_rests dc_rests pm_rests an_rests cd_rests ct_rests), sl_rests⟩)
    (c_rests : PySem.W.codeIn K cd_rests "rests" = true) (k_rests : PySem.W.keepIn K (.ref ad_rests) = true)
    {ad_choices_by : Addr} {od_choices_by an_choices_by : Option Addr} {sl_choices_by : Array (Option Value)} {oc_choices_by kV_choices_by dc_choices_by pm_choices_by cd_choices_by ct_choices_by : Value}
    (a_choices_by : PySem.W.nsIn K mainGlobals "choices_by" = some (some (.ref ad_choices_by)))
    (l_choices_by : K.lookup ad_choices_by = some ⟨oc_choices_by, od_choices_by, .func (PySem.W.fnOf "choices_by" "choices_by" (defArgs s_choices_by) (defBody s_choices_by) (defScope s_choices_by) .none kV_choices_by dc_choices_by pm_choices_by an_choices_by cd_choices_by ct_choices_by), sl_choices_by⟩)
    (c_choices_by : PySem.W.codeIn K cd_choices_by "choices_by" = true) (k_choices_by : PySem.W.keepIn K (.ref ad_choices_by) = true)
    {ad_choices : Addr} {od_choices an_choices : Option Addr} {sl_choices : Array (Option Value)} {oc_choices kV_choices dc_choices pm_choices cd_choices ct_choices : Value}
    (a_choices : PySem.W.nsIn K mainGlobals "choices" = some (some (.ref ad_choices)))
    (l_choices : K.lookup ad_choices = some ⟨oc_choices, od_choices, .func (PySem.W.fnOf "choices" "choices" (defArgs s_choices) (defBody s_choices) (defScope s_choices) .none kV_choices dc_choices pm_choices an_choices cd_choices ct_choices), sl_choices⟩)
    (c_choices : PySem.W.codeIn K cd_choices "choices" = true) (k_choices : PySem.W.keepIn K (.ref ad_choices) = true)
    {ad__law_cell : Addr} {od__law_cell an__law_cell : Option Addr} {sl__law_cell : Array (Option Value)} {oc__law_cell kV__law_cell dc__law_cell pm__law_cell cd__law_cell ct__law_cell : Value}
    (a__law_cell : PySem.W.nsIn K mainGlobals "_law_cell" = some (some (.ref ad__law_cell)))
    (l__law_cell : K.lookup ad__law_cell = some ⟨oc__law_cell, od__law_cell, .func (PySem.W.fnOf "_law_cell" "_law_cell" (defArgs s__law_cell) (defBody s__law_cell) (defScope s__law_cell) .none kV__law_cell dc__law_cell pm__law_cell an__law_cell cd__law_cell ct__law_cell), sl__law_cell⟩)
    (c__law_cell : PySem.W.codeIn K cd__law_cell "_law_cell" = true) (k__law_cell : PySem.W.keepIn K (.ref ad__law_cell) = true)
    {ad__law_weights : Addr} {od__law_weights an__law_weights : Option Addr} {sl__law_weights : Array (Option Value)} {oc__law_weights kV__law_weights dc__law_weights pm__law_weights cd__law_weights ct__law_weights : Value}
    (a__law_weights : PySem.W.nsIn K mainGlobals "_law_weights" = some (some (.ref ad__law_weights)))
    (l__law_weights : K.lookup ad__law_weights = some ⟨oc__law_weights, od__law_weights, .func (PySem.W.fnOf "_law_weights" "_law_weights" (defArgs s__law_weights) (defBody s__law_weights) (defScope s__law_weights) .none kV__law_weights dc__law_weights pm__law_weights an__law_weights cd__law_weights ct__law_weights), sl__law_weights⟩)
    (c__law_weights : PySem.W.codeIn K cd__law_weights "_law_weights" = true) (k__law_weights : PySem.W.keepIn K (.ref ad__law_weights) = true)
    {ad__law_ranks : Addr} {od__law_ranks an__law_ranks : Option Addr} {sl__law_ranks : Array (Option Value)} {oc__law_ranks kV__law_ranks dc__law_ranks pm__law_ranks cd__law_ranks ct__law_ranks : Value}
    (a__law_ranks : PySem.W.nsIn K mainGlobals "_law_ranks" = some (some (.ref ad__law_ranks)))
    (l__law_ranks : K.lookup ad__law_ranks = some ⟨oc__law_ranks, od__law_ranks, .func (PySem.W.fnOf "_law_ranks" "_law_ranks" (defArgs s__law_ranks) (defBody s__law_ranks) (defScope s__law_ranks) .none kV__law_ranks dc__law_ranks pm__law_ranks an__law_ranks cd__law_ranks ct__law_ranks), sl__law_ranks⟩)
    (c__law_ranks : PySem.W.codeIn K cd__law_ranks "_law_ranks" = true) (k__law_ranks : PySem.W.keepIn K (.ref ad__law_ranks) = true)
    {ad__law_least_limit : Addr} {od__law_least_limit an__law_least_limit : Option Addr} {sl__law_least_limit : Array (Option Value)} {oc__law_least_limit kV__law_least_limit dc__law_least_limit pm__law_least_limit cd__law_least_limit ct__law_least_limit : Value}
    (a__law_least_limit : PySem.W.nsIn K mainGlobals "_law_least_limit" = some (some (.ref ad__law_least_limit)))
    (l__law_least_limit : K.lookup ad__law_least_limit = some ⟨oc__law_least_limit, od__law_least_limit, .func (PySem.W.fnOf "_law_least_limit" "_law_least_limit" (defArgs s__law_least_limit) (defBody s__law_least_limit) (defScope s__law_least_limit) .none kV__law_least_limit dc__law_least_limit pm__law_least_limit an__law_least_limit cd__law_least_limit ct__law_least_limit), sl__law_least_limit⟩)
    (c__law_least_limit : PySem.W.codeIn K cd__law_least_limit "_law_least_limit" = true) (k__law_least_limit : PySem.W.keepIn K (.ref ad__law_least_limit) = true)
    {ad__law_sums : Addr} {od__law_sums an__law_sums : Option Addr} {sl__law_sums : Array (Option Value)} {oc__law_sums kV__law_sums dc__law_sums pm__law_sums cd__law_sums ct__law_sums : Value}
    (a__law_sums : PySem.W.nsIn K mainGlobals "_law_sums" = some (some (.ref ad__law_sums)))
    (l__law_sums : K.lookup ad__law_sums = some ⟨oc__law_sums, od__law_sums, .func (PySem.W.fnOf "_law_sums" "_law_sums" (defArgs s__law_sums) (defBody s__law_sums) (defScope s__law_sums) .none kV__law_sums dc__law_sums pm__law_sums an__law_sums cd__law_sums ct__law_sums), sl__law_sums⟩)
    (c__law_sums : PySem.W.codeIn K cd__law_sums "_law_sums" = true) (k__law_sums : PySem.W.keepIn K (.ref ad__law_sums) = true)
    {ad__law_choices_by : Addr} {od__law_choices_by an__law_choices_by : Option Addr} {sl__law_choices_by : Array (Option Value)} {oc__law_choices_by kV__law_choices_by dc__law_choices_by pm__law_choices_by cd__law_choices_by ct__law_choices_by : Value}
    (a__law_choices_by : PySem.W.nsIn K mainGlobals "_law_choices_by" = some (some (.ref ad__law_choices_by)))
    (l__law_choices_by : K.lookup ad__law_choices_by = some ⟨oc__law_choices_by, od__law_choices_by, .func (PySem.W.fnOf "_law_choices_by" "_law_choices_by" (defArgs s__law_choices_by) (defBody s__law_choices_by) (defScope s__law_choices_by) .none kV__law_choices_by dc__law_choices_by pm__law_choices_by an__law_choices_by cd__law_choices_by ct__law_choices_by), sl__law_choices_by⟩)
    (c__law_choices_by : PySem.W.codeIn K cd__law_choices_by "_law_choices_by" = true) (k__law_choices_by : PySem.W.keepIn K (.ref ad__law_choices_by) = true)
    {ad__law_choices : Addr} {od__law_choices an__law_choices : Option Addr} {sl__law_choices : Array (Option Value)} {oc__law_choices kV__law_choices dc__law_choices pm__law_choices cd__law_choices ct__law_choices : Value}
    (a__law_choices : PySem.W.nsIn K mainGlobals "_law_choices" = some (some (.ref ad__law_choices)))
    (l__law_choices : K.lookup ad__law_choices = some ⟨oc__law_choices, od__law_choices, .func (PySem.W.fnOf "_law_choices" "_law_choices" (defArgs s__law_choices) (defBody s__law_choices) (defScope s__law_choices) .none kV__law_choices dc__law_choices pm__law_choices an__law_choices cd__law_choices ct__law_choices), sl__law_choices⟩)
    (c__law_choices : PySem.W.codeIn K cd__law_choices "_law_choices" = true) (k__law_choices : PySem.W.keepIn K (.ref ad__law_choices) = true)
    {ad_law : Addr} {od_law an_law : Option Addr} {sl_law : Array (Option Value)} {oc_law kV_law dc_law pm_law cd_law ct_law : Value}
    (a_law : PySem.W.nsIn K mainGlobals "law" = some (some (.ref ad_law)))
    (l_law : K.lookup ad_law = some ⟨oc_law, od_law, .func (PySem.W.fnOf "law" "law" (defArgs s_law) (defBody s_law) (defScope s_law) .none kV_law dc_law pm_law an_law cd_law ct_law), sl_law⟩)
    (c_law : PySem.W.codeIn K cd_law "law" = true) (k_law : PySem.W.keepIn K (.ref ad_law) = true)
    (z_int : PySem.W.nsIn K mainGlobals "int" = some none)
    (z_len : PySem.W.nsIn K mainGlobals "len" = some none)
    (z_list : PySem.W.nsIn K mainGlobals "list" = some none)
    (z_min : PySem.W.nsIn K mainGlobals "min" = some none)
    (z_range : PySem.W.nsIn K mainGlobals "range" = some none)
    (z_sorted : PySem.W.nsIn K mainGlobals "sorted" = some none)
    (z_sum : PySem.W.nsIn K mainGlobals "sum" = some none)
    (z_zip : PySem.W.nsIn K mainGlobals "zip" = some none)
    : ∃ fd : FuncData, (∀ (s : Shared) (v : Value), BindsTo s fd ⟨[v], []⟩ [("_law_script", v)]) ∧
      ∀ base : Heap, K.In base → base.Ns mainGlobals mg → FnOk l.prog w K mg base CX0 4 fa fd ["_law_script"] (SpP (cfK K) 1 (sp1 f_law)) := by
  have e := hfa.symm.trans (PySem.W.mg_of X G a_law)
  cases e
  let T : Txt (cfK K) mg := {
    a_ranks := ad_ranks
    d_ranks := PySem.W.fnOf "ranks" "ranks" (defArgs s_ranks) (defBody s_ranks) (defScope s_ranks) .none kV_ranks dc_ranks pm_ranks an_ranks cd_ranks ct_ranks
    F_ranks := fun_mk (st := s_ranks) l_ranks c_ranks k_ranks
    b_ranks := (fun_mk (st := s_ranks) l_ranks c_ranks k_ranks).binds (ps := ["weights"]) fun _ _ _ _ _ _ us hl => match us, hl with | [_], _ => rfl
    g_ranks := PySem.W.mg_of X G a_ranks
    a_cost := ad_cost
    d_cost := PySem.W.fnOf "cost" "cost" (defArgs s_cost) (defBody s_cost) (defScope s_cost) .none kV_cost dc_cost pm_cost an_cost cd_cost ct_cost
    F_cost := fun_mk (st := s_cost) l_cost c_cost k_cost
    b_cost := (fun_mk (st := s_cost) l_cost c_cost k_cost).binds (ps := ["weights", "lengths"]) fun _ _ _ _ _ _ us hl => match us, hl with | [_, _], _ => rfl
    g_cost := PySem.W.mg_of X G a_cost
    a_rests := ad_rests
    d_rests := PySem.W.fnOf "rests" "rests" (defArgs s_rests) (defBody s_rests) (defScope s_rests) .none kV_rests dc_rests pm_rests an_rests cd_rests ct_rests
    F_rests := fun_mk (st := s_rests) l_rests c_rests k_rests
    b_rests := (fun_mk (st := s_rests) l_rests c_rests k_rests).binds (ps := ["weights"]) fun _ _ _ _ _ _ us hl => match us, hl with | [_], _ => rfl
    g_rests := PySem.W.mg_of X G a_rests
    a_choices_by := ad_choices_by
    d_choices_by := PySem.W.fnOf "choices_by" "choices_by" (defArgs s_choices_by) (defBody s_choices_by) (defScope s_choices_by) .none kV_choices_by dc_choices_by pm_choices_by an_choices_by cd_choices_by ct_choices_by
    F_choices_by := fun_mk (st := s_choices_by) l_choices_by c_choices_by k_choices_by
    b_choices_by := (fun_mk (st := s_choices_by) l_choices_by c_choices_by k_choices_by).binds (ps := ["sums", "limit", "stage"]) fun _ _ _ _ _ _ us hl => match us, hl with | [_, _, _], _ => rfl
    g_choices_by := PySem.W.mg_of X G a_choices_by
    a_choices := ad_choices
    d_choices := PySem.W.fnOf "choices" "choices" (defArgs s_choices) (defBody s_choices) (defScope s_choices) .none kV_choices dc_choices pm_choices an_choices cd_choices ct_choices
    F_choices := fun_mk (st := s_choices) l_choices c_choices k_choices
    b_choices := (fun_mk (st := s_choices) l_choices c_choices k_choices).binds (ps := ["weights", "limit", "stage"]) fun _ _ _ _ _ _ us hl => match us, hl with | [_, _, _], _ => rfl
    g_choices := PySem.W.mg_of X G a_choices
    a__law_cell := ad__law_cell
    d__law_cell := PySem.W.fnOf "_law_cell" "_law_cell" (defArgs s__law_cell) (defBody s__law_cell) (defScope s__law_cell) .none kV__law_cell dc__law_cell pm__law_cell an__law_cell cd__law_cell ct__law_cell
    F__law_cell := fun_mk (st := s__law_cell) l__law_cell c__law_cell k__law_cell
    b__law_cell := (fun_mk (st := s__law_cell) l__law_cell c__law_cell k__law_cell).binds (ps := ["_law_script", "_law_k"]) fun _ _ _ _ _ _ us hl => match us, hl with | [_, _], _ => rfl
    g__law_cell := PySem.W.mg_of X G a__law_cell
    a__law_weights := ad__law_weights
    d__law_weights := PySem.W.fnOf "_law_weights" "_law_weights" (defArgs s__law_weights) (defBody s__law_weights) (defScope s__law_weights) .none kV__law_weights dc__law_weights pm__law_weights an__law_weights cd__law_weights ct__law_weights
    F__law_weights := fun_mk (st := s__law_weights) l__law_weights c__law_weights k__law_weights
    b__law_weights := (fun_mk (st := s__law_weights) l__law_weights c__law_weights k__law_weights).binds (ps := ["_law_script", "_law_first", "_law_many"]) fun _ _ _ _ _ _ us hl => match us, hl with | [_, _, _], _ => rfl
    g__law_weights := PySem.W.mg_of X G a__law_weights
    a__law_ranks := ad__law_ranks
    d__law_ranks := PySem.W.fnOf "_law_ranks" "_law_ranks" (defArgs s__law_ranks) (defBody s__law_ranks) (defScope s__law_ranks) .none kV__law_ranks dc__law_ranks pm__law_ranks an__law_ranks cd__law_ranks ct__law_ranks
    F__law_ranks := fun_mk (st := s__law_ranks) l__law_ranks c__law_ranks k__law_ranks
    b__law_ranks := (fun_mk (st := s__law_ranks) l__law_ranks c__law_ranks k__law_ranks).binds (ps := ["_law_weights_here"]) fun _ _ _ _ _ _ us hl => match us, hl with | [_], _ => rfl
    g__law_ranks := PySem.W.mg_of X G a__law_ranks
    a__law_least_limit := ad__law_least_limit
    d__law_least_limit := PySem.W.fnOf "_law_least_limit" "_law_least_limit" (defArgs s__law_least_limit) (defBody s__law_least_limit) (defScope s__law_least_limit) .none kV__law_least_limit dc__law_least_limit pm__law_least_limit an__law_least_limit cd__law_least_limit ct__law_least_limit
    F__law_least_limit := fun_mk (st := s__law_least_limit) l__law_least_limit c__law_least_limit k__law_least_limit
    b__law_least_limit := (fun_mk (st := s__law_least_limit) l__law_least_limit c__law_least_limit k__law_least_limit).binds (ps := ["_law_many"]) fun _ _ _ _ _ _ us hl => match us, hl with | [_], _ => rfl
    g__law_least_limit := PySem.W.mg_of X G a__law_least_limit
    a__law_sums := ad__law_sums
    d__law_sums := PySem.W.fnOf "_law_sums" "_law_sums" (defArgs s__law_sums) (defBody s__law_sums) (defScope s__law_sums) .none kV__law_sums dc__law_sums pm__law_sums an__law_sums cd__law_sums ct__law_sums
    F__law_sums := fun_mk (st := s__law_sums) l__law_sums c__law_sums k__law_sums
    b__law_sums := (fun_mk (st := s__law_sums) l__law_sums c__law_sums k__law_sums).binds (ps := ["_law_weights_here"]) fun _ _ _ _ _ _ us hl => match us, hl with | [_], _ => rfl
    g__law_sums := PySem.W.mg_of X G a__law_sums
    a__law_choices_by := ad__law_choices_by
    d__law_choices_by := PySem.W.fnOf "_law_choices_by" "_law_choices_by" (defArgs s__law_choices_by) (defBody s__law_choices_by) (defScope s__law_choices_by) .none kV__law_choices_by dc__law_choices_by pm__law_choices_by an__law_choices_by cd__law_choices_by ct__law_choices_by
    F__law_choices_by := fun_mk (st := s__law_choices_by) l__law_choices_by c__law_choices_by k__law_choices_by
    b__law_choices_by := (fun_mk (st := s__law_choices_by) l__law_choices_by c__law_choices_by k__law_choices_by).binds (ps := ["_law_sums_here", "_law_limit", "_law_stage"]) fun _ _ _ _ _ _ us hl => match us, hl with | [_, _, _], _ => rfl
    g__law_choices_by := PySem.W.mg_of X G a__law_choices_by
    a__law_choices := ad__law_choices
    d__law_choices := PySem.W.fnOf "_law_choices" "_law_choices" (defArgs s__law_choices) (defBody s__law_choices) (defScope s__law_choices) .none kV__law_choices dc__law_choices pm__law_choices an__law_choices cd__law_choices ct__law_choices
    F__law_choices := fun_mk (st := s__law_choices) l__law_choices c__law_choices k__law_choices
    b__law_choices := (fun_mk (st := s__law_choices) l__law_choices c__law_choices k__law_choices).binds (ps := ["_law_weights_here", "_law_limit", "_law_stage"]) fun _ _ _ _ _ _ us hl => match us, hl with | [_, _, _], _ => rfl
    g__law_choices := PySem.W.mg_of X G a__law_choices
    a_law := fa
    d_law := PySem.W.fnOf "law" "law" (defArgs s_law) (defBody s_law) (defScope s_law) .none kV_law dc_law pm_law an_law cd_law ct_law
    F_law := fun_mk (st := s_law) l_law c_law k_law
    b_law := (fun_mk (st := s_law) l_law c_law k_law).binds (ps := ["_law_script"]) fun _ _ _ _ _ _ us hl => match us, hl with | [_], _ => rfl
    g_law := PySem.W.mg_of X G a_law
    n_int := PySem.W.mg_none_of X G z_int
    n_len := PySem.W.mg_none_of X G z_len
    n_list := PySem.W.mg_none_of X G z_list
    n_min := PySem.W.mg_none_of X G z_min
    n_range := PySem.W.mg_none_of X G z_range
    n_sorted := PySem.W.mg_none_of X G z_sorted
    n_sum := PySem.W.mg_none_of X G z_sum
    n_zip := PySem.W.mg_none_of X G z_zip }
  exact ⟨T.d_law, fun s v => .of_eq rfl, fun base _ _ => ok_law (P := l.prog) (w := w) (cf := cfK K) (mg := mg) (base := base) T⟩
theorem law_end {K : PySem.W.Frag} {H : Hp} {a : Addr} {ns : List Int} {E : XK} (hl : ns.length ≤ 63) (hS : SqL K H a (ns.map V.int)) (hlaw : ∀ ns : List Int, ns.length ≤ 63 → f_law ⟨ns⟩ = .ok true) : SpP (cfK K) 1 (sp1 f_law) [.ref a] H (fun v _ => v = .bl true) E :=
  ⟨rfl, H, fun _ => none, [toD (Scr.mk ns)], toD true, ⟨Le.refl H, fun _ _ e => (nomatch e), fun _ _ => rfl⟩, .cons (.scr hS) .nil, ⟨⟨ns⟩, rfl, by rw [hlaw ns hl]; rfl⟩, fun v F' H' _ _ r => dr_bl (i := true) r⟩
end Kx
open PySem PySem.W PyProof.Rows
set_option maxHeartbeats 0 in
theorem PySem.Challenge.cw_kraftroom_k03_choices_of_a_stage_holds : PySem.Challenge.rw_kraftroom_k03_choices_of_a_stage.Holds := by
  w_on; o_law; k_head; (case hw => w_witness2)
  k_fill
  refine L2.walk_of (l := PySem.Challenge.rw_kraftroom_k03_choices_of_a_stage) (n := 63) (k := 4) (x := "_law_script") (CX := fun _ => L2.CX0) (sp := fun w => Kr.SpP (Kx.cfK _) 1 (Kr.sp1 Kx.f_law)) rfl (by decide) rfl ⟨rfl, by decide, by decide⟩ (fun w h Y => PySem.W.kIn_of Y) ?F (fun _ _ a ns hl _ hS => Kx.law_end hl hS Kx.law_all) (fun _ _ _ _ _ h => h)
  case F =>
    intro w mg fa h KX G hmg
    refine' Kx.all_mk KX G hmg ?a_ranks ?l_ranks ?c_ranks ?k_ranks ?a_cost ?l_cost ?c_cost ?k_cost ?a_rests ?l_rests ?c_rests ?k_rests ?a_choices_by ?l_choices_by ?c_choices_by ?k_choices_by ?a_choices ?l_choices ?c_choices ?k_choices ?a__law_cell ?l__law_cell ?c__law_cell ?k__law_cell ?a__law_weights ?l__law_weights ?c__law_weights ?k__law_weights ?a__law_ranks ?l__law_ranks ?c__law_ranks ?k__law_ranks ?a__law_least_limit ?l__law_least_limit ?c__law_least_limit ?k__law_least_limit ?a__law_sums ?l__law_sums ?c__law_sums ?k__law_sums ?a__law_choices_by ?l__law_choices_by ?c__law_choices_by ?k__law_choices_by ?a__law_choices ?l__law_choices ?c__law_choices ?k__law_choices ?a_law ?l_law ?c_law ?k_law ?z_int ?z_len ?z_list ?z_min ?z_range ?z_sorted ?z_sum ?z_zip
    (case a_ranks => k_is); (case l_ranks => k_is); (case c_ranks => k_is); (case k_ranks => k_is); (case a_cost => k_is); (case l_cost => k_is); (case c_cost => k_is); (case k_cost => k_is); (case a_rests => k_is); (case l_rests => k_is); (case c_rests => k_is); (case k_rests => k_is); (case a_choices_by => k_is); (case l_choices_by => k_is); (case c_choices_by => k_is); (case k_choices_by => k_is); (case a_choices => k_is); (case l_choices => k_is); (case c_choices => k_is); (case k_choices => k_is); (case a__law_cell => k_is); (case l__law_cell => k_is); (case c__law_cell => k_is); (case k__law_cell => k_is); (case a__law_weights => k_is); (case l__law_weights => k_is); (case c__law_weights => k_is); (case k__law_weights => k_is); (case a__law_ranks => k_is); (case l__law_ranks => k_is); (case c__law_ranks => k_is); (case k__law_ranks => k_is); (case a__law_least_limit => k_is); (case l__law_least_limit => k_is); (case c__law_least_limit => k_is); (case k__law_least_limit => k_is); (case a__law_sums => k_is); (case l__law_sums => k_is); (case c__law_sums => k_is); (case k__law_sums => k_is); (case a__law_choices_by => k_is); (case l__law_choices_by => k_is); (case c__law_choices_by => k_is); (case k__law_choices_by => k_is); (case a__law_choices => k_is); (case l__law_choices => k_is); (case c__law_choices => k_is); (case k__law_choices => k_is); (case a_law => k_is); (case l_law => k_is); (case c_law => k_is); (case k_law => k_is); (case z_int => k_is); (case z_len => k_is); (case z_list => k_is); (case z_min => k_is); (case z_range => k_is); (case z_sorted => k_is); (case z_sum => k_is); (case z_zip => k_is)
