import PyProof.Rows.All
import Wide.All
import OpenK.AllK
import Wide.FinOn
import HandS.ForMost
import HandS.Exc
import HandS.WordsExc
import HandS.Wide
import HandS.WideBits
import HandS.RevRange
import HandS.Style
import KE.SortData
import HandS.Zip
import PySem.Challenge.RW_kraftroom_k01_words_of_a_code
set_option Elab.async false
set_option linter.all false
set_option maxRecDepth 100000
set_option maxHeartbeats 4000000
/-! KrA: results, data, what a value stands for, the judgements of expressions and statements by data. -/
namespace Kr
open PySem PySem.Spec PyProof.Rows L2

/-! ### results -/
inductive R (α : Type) where
  | ok (a : α)
  | er (c : Nat) (p : Int)
  | bad
def R.bind {α β : Type} : R α → (α → R β) → R β
  | .ok a, f => f a
  | .er c p, _ => .er c p
  | .bad, _ => .bad
/-- of a def that raises nothing -/
def R.pu {α : Type} : R α → R α
  | .ok a => .ok a
  | _ => .bad
def R.map {α β : Type} (f : α → β) : R α → R β
  | .ok a => .ok (f a)
  | .er c p => .er c p
  | .bad => .bad
section
variable {α β γ : Type}
theorem R.ok_bind (a : α) (f : α → R β) : (R.ok a).bind f = f a := (fun (m : R α) (e : m = .ok a) => show m.bind f = f a by rw [e]; rfl) _ rfl
theorem R.er_bind (c : Nat) (p : Int) (f : α → R β) : (R.er c p : R α).bind f = .er c p := (fun (m : R α) (e : m = .er c p) => show m.bind f = .er c p by rw [e]; rfl) _ rfl
theorem R.bad_bind (f : α → R β) : (R.bad : R α).bind f = .bad := (fun (m : R α) (e : m = .bad) => show m.bind f = .bad by rw [e]; rfl) _ rfl
theorem R.ok_pu (a : α) : (R.ok a).pu = .ok a := (fun (m : R α) (e : m = .ok a) => show m.pu = .ok a by rw [e]; rfl) _ rfl
theorem R.ok_map (f : α → β) (a : α) : (R.ok a).map f = .ok (f a) := (fun (m : R α) (e : m = .ok a) => show m.map f = .ok (f a) by rw [e]; rfl) _ rfl
theorem R.bind_ok (m : R α) : m.bind .ok = m := by cases m <;> rfl
theorem R.bind_bind (m : R α) (f : α → R β) (g : β → R γ) : (m.bind f).bind g = m.bind fun a => (f a).bind g := by cases m <;> rfl
theorem R.ite_bind (c : Prop) [Decidable c] (m n : R α) (f : α → R β) : (if c then m else n).bind f = if c then m.bind f else n.bind f := by split <;> rfl
theorem R.bind_nb {m : R α} {f : α → R β} (h : m.bind f ≠ .bad) : m ≠ .bad := fun e => h (by rw [e]; rfl)
theorem R.bind_okd {m : R α} {f : α → R β} {b : β} (h : m.bind f = .ok b) : ∃ a, m = .ok a ∧ f a = .ok b := by
  cases m with
  | ok a => exact ⟨a, rfl, h⟩
  | er c p => cases h
  | bad => cases h
end

/-! ### data -/
inductive Dt where
  | non | bl (b : Bool) | int (i : Int) | str (x : Str) | lst (xs : List Dt) | tup (xs : List Dt)
  /-- the script -/
  | scr (ns : List Int)
  /-- a dict whose keys are tuples of ints -/
  | dct (kvs : List (List Int × Dt))

mutual
/-- in F the value v stands for the data -/
inductive Dr (K : PySem.W.Frag) (F : Hp) : V → Dt → Prop
  | non : Dr K F .non .non
  | bl (b : Bool) : Dr K F (.bl b) (.bl b)
  | int (i : Int) : Dr K F (.int i) (.int i)
  | str (x : Str) : Dr K F (.str x) (.str x)
  | lst {a : Addr} {vs : List V} {ds : List Dt} : F a = some (.lst vs) → DrA K F vs ds → Dr K F (.ref a) (.lst ds)
  | tup {a : Addr} {vs : List V} {ds : List Dt} : F a = some (.tup vs) → DrA K F vs ds → Dr K F (.ref a) (.tup ds)
  | scr {a : Addr} {ns : List Int} : SqL K F a (ns.map V.int) → Dr K F (.ref a) (.scr ns)
  | dct {a : Addr} {ks : List (List Key × V)} {kvs : List (List Int × Dt)} : F a = some (.dT ks) → DrK K F ks kvs → Dr K F (.ref a) (.dct kvs)
inductive DrA (K : PySem.W.Frag) (F : Hp) : List V → List Dt → Prop
  | nil : DrA K F [] []
  | cons {v : V} {vs : List V} {d : Dt} {ds : List Dt} : Dr K F v d → DrA K F vs ds → DrA K F (v :: vs) (d :: ds)
inductive DrK (K : PySem.W.Frag) (F : Hp) : List (List Key × V) → List (List Int × Dt) → Prop
  | nil : DrK K F [] []
  | cons {k : List Int} {v : V} {d : Dt} {ks : List (List Key × V)} {kvs : List (List Int × Dt)} : Dr K F v d → DrK K F ks kvs → DrK K F ((k.map Sum.inl, v) :: ks) ((k, d) :: kvs)
end

def Le (H H' : Hp) : Prop := ∀ a o, H a = some o → H' a = some o
theorem Le.refl (H : Hp) : Le H H := fun _ _ h => h
theorem Le.trans {H H1 H2 : Hp} (a : Le H H1) (b : Le H1 H2) : Le H H2 := fun x o h => b x o (a x o h)
theorem Le.new {H : Hp} {p : Addr} {o : HO} (h : H p = none) : Le H (upd H p o) := fun a u e => by
  rw [upd_ne (ne_of_none e h)]
  exact e
theorem Le.seq {K : PySem.W.Frag} {H H' : Hp} {a : Addr} {xs : List V} (e : Le H H') (h : SqL K H a xs) : SqL K H' a xs := by
  rcases h with (h | ⟨o, h⟩) | h
  · exact .inl (.inl (e _ _ h))
  · exact .inl (.inr ⟨o, e _ _ h⟩)
  · exact .inr h
theorem Le.free {H H' : Hp} (e : Le H H') {l : Addr} (h : H' l = none) : H l = none := by
  cases q : H l with
  | none => rfl
  | some o =>
    rw [e l o q] at h
    cases h
section
variable {K : PySem.W.Frag} {F F' : Hp}
mutual
theorem Dr.mono (e : Le F F') : ∀ {v : V} {d : Dt}, Dr K F v d → Dr K F' v d
  | _, _, .non => .non
  | _, _, .bl b => .bl b
  | _, _, .int i => .int i
  | _, _, .str x => .str x
  | _, _, .lst h r => .lst (e _ _ h) (DrA.mono e r)
  | _, _, .tup h r => .tup (e _ _ h) (DrA.mono e r)
  | _, _, .scr h => .scr (e.seq h)
  | _, _, .dct h r => .dct (e _ _ h) (DrK.mono e r)
theorem DrA.mono (e : Le F F') : ∀ {vs : List V} {ds : List Dt}, DrA K F vs ds → DrA K F' vs ds
  | _, _, .nil => .nil
  | _, _, .cons r t => .cons (Dr.mono e r) (DrA.mono e t)
theorem DrK.mono (e : Le F F') : ∀ {ks : List (List Key × V)} {kvs : List (List Int × Dt)}, DrK K F ks kvs → DrK K F' ks kvs
  | _, _, .nil => .nil
  | _, _, .cons r t => .cons (Dr.mono e r) (DrK.mono e t)
end
theorem DrA.length : ∀ {vs : List V} {ds : List Dt}, DrA K F vs ds → vs.length = ds.length
  | _, _, .nil => rfl
  | _, _, .cons _ t => by rw [List.length_cons, List.length_cons, DrA.length t]
theorem DrA.get : ∀ {vs : List V} {ds : List Dt} {i : Nat} {d : Dt}, DrA K F vs ds → ds[i]? = some d → ∃ v, vs[i]? = some v ∧ Dr K F v d
  | _, _, _, _, .nil, h => by simp at h
  | _, _, 0, _, .cons (v := v) r _, h => by
    simp at h
    subst h
    exact ⟨v, rfl, r⟩
  | _, _, i + 1, _, .cons _ t, h => by
    obtain ⟨v, h1, h2⟩ := DrA.get (i := i) t (by simpa using h)
    exact ⟨v, by simpa using h1, h2⟩
theorem DrA.getV : ∀ {vs : List V} {ds : List Dt} {i : Nat} {v : V}, DrA K F vs ds → vs[i]? = some v → ∃ d, ds[i]? = some d ∧ Dr K F v d
  | _, _, _, _, .nil, h => by simp at h
  | _, _, 0, _, .cons (d := d) r _, h => by
    simp at h
    subst h
    exact ⟨d, rfl, r⟩
  | _, _, i + 1, _, .cons _ t, h => by
    obtain ⟨d, h1, h2⟩ := DrA.getV (i := i) t (by simpa using h)
    exact ⟨d, by simpa using h1, h2⟩
theorem DrA.append : ∀ {vs ws : List V} {ds es : List Dt}, DrA K F vs ds → DrA K F ws es → DrA K F (vs ++ ws) (ds ++ es)
  | _, _, _, _, .nil, s => s
  | _, _, _, _, .cons r t, s => .cons r (DrA.append t s)
theorem DrA.set {v : V} {d : Dt} (r : Dr K F v d) : ∀ {vs : List V} {ds : List Dt} (i : Nat), DrA K F vs ds → DrA K F (vs.set i v) (ds.set i d)
  | _, _, _, .nil => .nil
  | _, _, 0, .cons _ t => .cons r t
  | _, _, i + 1, .cons q t => .cons q (DrA.set r i t)
theorem DrA.take : ∀ {vs : List V} {ds : List Dt} (n : Nat), DrA K F vs ds → DrA K F (vs.take n) (ds.take n)
  | _, _, 0, _ => .nil
  | _, _, _ + 1, .nil => .nil
  | _, _, n + 1, .cons r t => .cons r (DrA.take n t)
theorem DrA.drop : ∀ {vs : List V} {ds : List Dt} (n : Nat), DrA K F vs ds → DrA K F (vs.drop n) (ds.drop n)
  | _, _, 0, r => r
  | _, _, _ + 1, .nil => .nil
  | _, _, n + 1, .cons _ t => DrA.drop n t
theorem DrA.dropLast {vs : List V} {ds : List Dt} (h : DrA K F vs ds) : DrA K F vs.dropLast ds.dropLast := by
  rw [List.dropLast_eq_take, List.dropLast_eq_take, h.length]
  exact h.take _
theorem DrA.reverse : ∀ {vs : List V} {ds : List Dt}, DrA K F vs ds → DrA K F vs.reverse ds.reverse
  | _, _, .nil => .nil
  | _, _, .cons r t => by
    rw [List.reverse_cons, List.reverse_cons]
    exact (DrA.reverse t).append (.cons r .nil)
theorem DrA.rep {vs : List V} {ds : List Dt} (h : DrA K F vs ds) : ∀ k : Nat, DrA K F (List.replicate k vs).flatten (List.replicate k ds).flatten
  | 0 => .nil
  | k + 1 => by
    rw [List.replicate_succ, List.replicate_succ, List.flatten_cons, List.flatten_cons]
    exact h.append (DrA.rep h k)
end

theorem dr_non {K : PySem.W.Frag} {F : Hp} {v : V} (h : Dr K F v .non) : v = .non := by cases h; rfl
theorem dr_int {K : PySem.W.Frag} {F : Hp} {v : V} {i : Int} (h : Dr K F v (.int i)) : v = .int i := by cases h; rfl
theorem dr_bl {K : PySem.W.Frag} {F : Hp} {v : V} {i : Bool} (h : Dr K F v (.bl i)) : v = .bl i := by cases h; rfl
theorem dr_str {K : PySem.W.Frag} {F : Hp} {v : V} {i : Str} (h : Dr K F v (.str i)) : v = .str i := by cases h; rfl
theorem dr_lst {K : PySem.W.Frag} {F : Hp} {v : V} {ds : List Dt} (h : Dr K F v (.lst ds)) : ∃ a vs, v = .ref a ∧ F a = some (.lst vs) ∧ DrA K F vs ds := by
  cases h with
  | lst h1 h2 => exact ⟨_, _, rfl, h1, h2⟩
theorem dr_tup {K : PySem.W.Frag} {F : Hp} {v : V} {ds : List Dt} (h : Dr K F v (.tup ds)) : ∃ a vs, v = .ref a ∧ F a = some (.tup vs) ∧ DrA K F vs ds := by
  cases h with
  | tup h1 h2 => exact ⟨_, _, rfl, h1, h2⟩
theorem dr_scr {K : PySem.W.Frag} {F : Hp} {v : V} {ns : List Int} (h : Dr K F v (.scr ns)) : ∃ a, v = .ref a ∧ SqL K F a (ns.map V.int) := by
  cases h with
  | scr h1 => exact ⟨_, rfl, h1⟩
theorem dr_dct {K : PySem.W.Frag} {F : Hp} {v : V} {kvs : List (List Int × Dt)} (h : Dr K F v (.dct kvs)) : ∃ a ks, v = .ref a ∧ F a = some (.dT ks) ∧ DrK K F ks kvs := by
  cases h with
  | dct h1 h2 => exact ⟨_, _, rfl, h1, h2⟩
theorem drA_nil {K : PySem.W.Frag} {F : Hp} {vs : List V} (h : DrA K F vs []) : vs = [] := by cases h; rfl
theorem drA_cons {K : PySem.W.Frag} {F : Hp} {vs : List V} {d : Dt} {ds : List Dt} (h : DrA K F vs (d :: ds)) : ∃ v r, vs = v :: r ∧ Dr K F v d ∧ DrA K F r ds := by
  cases h with
  | cons h1 h2 => exact ⟨_, _, rfl, h1, h2⟩

/-- typed data -/
class Enc (α : Type) where
  toD : α → Dt
open Enc (toD)

structure T3 (α β γ : Type) where
  a : α
  b : β
  c : γ
  deriving DecidableEq
structure Scr where
  ns : List Int
/-- a dict by tuples of ints -/
structure Dct (α : Type) where
  kvs : List (List Int × α)
instance : Enc Int := ⟨.int⟩
instance : Enc Bool := ⟨.bl⟩
instance : Enc Str := ⟨.str⟩
instance : Enc Unit := ⟨fun _ => .non⟩
instance : Enc Scr := ⟨fun s => .scr s.ns⟩
instance {α : Type} [Enc α] : Enc (List α) := ⟨fun xs => .lst (xs.map toD)⟩
instance {α β : Type} [Enc α] [Enc β] : Enc (α × β) := ⟨fun p => .tup [toD p.1, toD p.2]⟩
instance {α β γ : Type} [Enc α] [Enc β] [Enc γ] : Enc (T3 α β γ) := ⟨fun p => .tup [toD p.a, toD p.b, toD p.c]⟩
instance {α : Type} [Enc α] : Enc (Option α) := ⟨fun o => match o with | none => .non | some a => toD a⟩
instance {α β : Type} [Enc α] [Enc β] : Enc (α ⊕ β) := ⟨fun o => match o with | .inl a => toD a | .inr a => toD a⟩
instance {α : Type} [Enc α] : Enc (Dct α) := ⟨fun d => .dct (d.kvs.map fun p => (p.1, toD p.2))⟩
/-- never None -/
class NN (α : Type) [Enc α] : Prop where
  nn : ∀ a : α, toD a ≠ .non
instance : NN Int := ⟨fun _ h => nomatch h⟩
instance : NN Bool := ⟨fun _ h => nomatch h⟩
instance {α : Type} [Enc α] : NN (List α) := ⟨fun _ h => nomatch h⟩
instance {α β : Type} [Enc α] [Enc β] : NN (α × β) := ⟨fun _ h => nomatch h⟩
instance {α β γ : Type} [Enc α] [Enc β] [Enc γ] : NN (T3 α β γ) := ⟨fun _ h => nomatch h⟩

/-! ### the state by data -/
/-- what the text says of classes: the written part; the error classes by number, their names -/
structure Cf where
  K : PySem.W.Frag
  cls : Nat → Addr
  nm : Nat → Str
/-- the heap H holds F (never changed) and O (what is owned) -/
structure Fm (F O H : Hp) : Prop where
  f : Le F H
  o : Le O H
  ds : ∀ p, F p ≠ none → O p = none
theorem Fm.fnone {F O H : Hp} (h : Fm F O H) {p : Addr} (e : H p = none) : F p = none := h.f.free e
theorem Fm.onone {F O H : Hp} (h : Fm F O H) {p : Addr} (e : H p = none) : O p = none := h.o.free e
theorem Fm.own {F O H : Hp} (h : Fm F O H) {p : Addr} {o : HO} (e : O p = some o) : F p = none := by
  cases q : F p with
  | none => rfl
  | some u =>
    rw [h.ds p (by rw [q]; simp)] at e
    cases e
/-- a new object, never changed from now on -/
theorem Fm.newF {F O H : Hp} (h : Fm F O H) {p : Addr} {o : HO} (e : H p = none) : Fm (upd F p o) O (upd H p o) := by
  refine ⟨fun a u q => ?_, fun a u q => ?_, fun a q => ?_⟩
  · by_cases ha : a = p
    · subst ha
      rw [upd_same] at q ⊢
      exact q
    · rw [upd_ne ha] at q ⊢
      exact h.f a u q
  · exact Le.new e a u (h.o a u q)
  · by_cases ha : a = p
    · subst ha
      exact h.onone e
    · rw [upd_ne ha] at q
      exact h.ds a q
/-- a new object that nobody owns as yet -/
theorem Fm.newH {F O H : Hp} (h : Fm F O H) {p : Addr} {o : HO} (e : H p = none) : Fm F O (upd H p o) := ⟨h.f.trans (Le.new e), h.o.trans (Le.new e), h.ds⟩

inductive Sl where
  | un
  | va (d : Dt)
  | ol (ds : List Dt)
  | od (kvs : List (List Int × Dt))
  /-- just this value -/
  | pv (v : V)
def Sl.own : Sl → Bool
  | .ol _ => true
  | .od _ => true
  | _ => false
def SlOk (K : PySem.W.Frag) (F O : Hp) (x : Option (Option V)) : Sl → Prop
  | .un => True
  | .va d => ∃ v, x = some (some v) ∧ Dr K F v d
  | .ol ds => ∃ a vs, x = some (some (.ref a)) ∧ O a = some (.lst vs) ∧ DrA K F vs ds
  | .od kvs => ∃ a ks, x = some (some (.ref a)) ∧ O a = some (.dT ks) ∧ DrK K F ks kvs
  | .pv v => x = some (some v)
theorem SlOk.mono {K : PySem.W.Frag} {F F' O : Hp} {x : Option (Option V)} (e : Le F F') : ∀ {s : Sl}, SlOk K F O x s → SlOk K F' O x s
  | .un, _ => trivial
  | .va _, ⟨v, h1, h2⟩ => ⟨v, h1, h2.mono e⟩
  | .ol _, ⟨a, vs, h1, h2, h3⟩ => ⟨a, vs, h1, h2, h3.mono e⟩
  | .od _, ⟨a, vs, h1, h2, h3⟩ => ⟨a, vs, h1, h2, h3.mono e⟩
  | .pv _, h => h
structure Er (K : PySem.W.Frag) (F O : Hp) (σ : L2.St) (G : List Sl) : Prop where
  len : σ.length = G.length
  at' : ∀ (i : Nat) (s : Sl), G[i]? = some s → SlOk K F O σ[i]? s
theorem Er.mono {K : PySem.W.Frag} {F F' O : Hp} {σ : L2.St} {G : List Sl} (h : Er K F O σ G) (e : Le F F') : Er K F' O σ G := ⟨h.len, fun i s q => (h.at' i s q).mono e⟩

/-- what an exception of the class c leaves -/
def xdO (cf : Cf) (c : Nat) (p : Int) : HO := .xd [("name", .str (cf.nm c)), ("place", .int p)]
/-- the reading t gives m's outcome, by rel -/
def EG {α ρ : Type} (cf : Cf) (E : XK) (t : L2.St → Hp → (ρ → Hp → Prop) → Prop) (G : List Sl) (m : R α) (rel : Hp → Hp → Hp → ρ → α → Prop) : Prop :=
  ∀ (F O H : Hp) (σ : L2.St) (Q : ρ → Hp → Prop), Fm F O H → Er cf.K F O σ G → m ≠ .bad →
    (∀ a r F' H', m = .ok a → Le F F' → Fm F' O H' → rel F' O H' r a → Q r H') →
    (∀ c p d F' H', m = .er c p → Le F F' → Fm F' O H' → F' d = some (xdO cf c p) → E (.ref (cf.cls c)) (some d) H') → t σ H Q
section
variable (cf : Cf)
/-- never changed data -/
def RM {α : Type} [Enc α] (F O H : Hp) (v : V) (a : α) : Prop := Dr cf.K F v (toD a)
def RB (F O H : Hp) (b : Bool) (a : Bool) : Prop := b = a
def RA (F O H : Hp) (vs : List V) (ds : List Dt) : Prop := DrA cf.K F vs ds
def RO (F O H : Hp) (o : Option Int) (a : Option Int) : Prop := o = a
/-- a list that may be read -/
def RL {α : Type} [Enc α] (F O H : Hp) (v : V) (xs : List α) : Prop := ∃ a vs, v = .ref a ∧ (F a = some (.lst vs) ∨ O a = some (.lst vs)) ∧ DrA cf.K F vs (xs.map toD)
/-- .. or the script -/
def RS {α : Type} [Enc α] (F O H : Hp) (v : V) (xs : List α) : Prop := ∃ a vs, v = .ref a ∧ (SqL cf.K F a vs ∨ O a = some (.lst vs)) ∧ DrA cf.K F vs (xs.map toD)
/-- a new list that nobody owns -/
def RF {α : Type} [Enc α] (F O H : Hp) (v : V) (xs : List α) : Prop := ∃ a vs, v = .ref a ∧ F a = none ∧ O a = none ∧ H a = some (.lst vs) ∧ DrA cf.K F vs (xs.map toD)
abbrev EM {α : Type} [Enc α] (E : XK) (t : TE) (G : List Sl) (m : R α) : Prop := EG cf E t G m (RM cf)
abbrev EB (E : XK) (t : TT) (G : List Sl) (m : R Bool) : Prop := EG cf E t G m RB
abbrev EA (E : XK) (t : TA) (G : List Sl) (m : R (List Dt)) : Prop := EG cf E t G m (RA cf)
abbrev EO (E : XK) (t : TO) (G : List Sl) (m : R (Option Int)) : Prop := EG cf E t G m RO
abbrev EL {α : Type} [Enc α] (E : XK) (t : TE) (G : List Sl) (m : R (List α)) : Prop := EG cf E t G m (RL cf)
abbrev ES {α : Type} [Enc α] (E : XK) (t : TE) (G : List Sl) (m : R (List α)) : Prop := EG cf E t G m (RS cf)
abbrev EF {α : Type} [Enc α] (E : XK) (t : TE) (G : List Sl) (m : R (List α)) : Prop := EG cf E t G m (RF cf)
end
section
variable {cf : Cf} {E : XK} {G : List Sl} {α β γ ρ τ : Type}
/-- one reading, then another -/
theorem EG.bind {t : L2.St → Hp → (ρ → Hp → Prop) → Prop} {u : ρ → L2.St → Hp → (τ → Hp → Prop) → Prop} {m : R α} {f : α → R β} {rel : Hp → Hp → Hp → ρ → α → Prop} {rel' : Hp → Hp → Hp → τ → β → Prop}
    (h : EG cf E t G m rel) (k : ∀ (F O H : Hp) (σ : L2.St) (Q : τ → Hp → Prop) (a : α) (r : ρ), Fm F O H → Er cf.K F O σ G → rel F O H r a → f a ≠ .bad →
      (∀ b r' F' H', f a = .ok b → Le F F' → Fm F' O H' → rel' F' O H' r' b → Q r' H') →
      (∀ c p d F' H', f a = .er c p → Le F F' → Fm F' O H' → F' d = some (xdO cf c p) → E (.ref (cf.cls c)) (some d) H') → u r σ H Q) :
    EG cf E (fun σ H Q => t σ H fun r H1 => u r σ H1 Q) G (m.bind f) rel' := fun F O H σ Q hf he nb ko ke => by
  refine h F O H σ _ hf he (R.bind_nb nb) (fun a r F' H' ea le hf' hr => ?_) (fun c p d F' H' ea le hf' hd => ke c p d F' H' (by rw [ea]; rfl) le hf' hd)
  subst ea
  exact k F' O H' σ Q a r hf' (he.mono le) hr nb (fun b r' F'' H'' e le' => ko b r' F'' H'' e (le.trans le')) (fun c p d F'' H'' e le' => ke c p d F'' H'' e (le.trans le'))
theorem EG.imp {t : L2.St → Hp → (ρ → Hp → Prop) → Prop} {m : R α} {rel rel' : Hp → Hp → Hp → ρ → α → Prop} (h : EG cf E t G m rel) (w : ∀ F O H r a, Fm F O H → rel F O H r a → rel' F O H r a) : EG cf E t G m rel' :=
  fun F O H σ Q hf he nb ko ke => h F O H σ Q hf he nb (fun a r F' H' e le hf' hr => ko a r F' H' e le hf' (w F' O H' r a hf' hr)) ke
/-- conclude a reading that gives a value at once -/
theorem EG.fin {t : L2.St → Hp → (ρ → Hp → Prop) → Prop} {a : α} {rel : Hp → Hp → Hp → ρ → α → Prop} (h : ∀ (F O H : Hp) (σ : L2.St) (Q : ρ → Hp → Prop), Fm F O H → Er cf.K F O σ G → (∀ r F' H', Le F F' → Fm F' O H' → rel F' O H' r a → Q r H') → t σ H Q) : EG cf E t G (.ok a) rel :=
  fun F O H σ Q hf he _ ko _ => h F O H σ Q hf he fun r F' H' le hf' hr => ko a r F' H' rfl le hf' hr
theorem EG.cast {t : L2.St → Hp → (ρ → Hp → Prop) → Prop} {m n : R α} {rel : Hp → Hp → Hp → ρ → α → Prop} (h : EG cf E t G m rel) (e : m = n) : EG cf E t G n rel := e ▸ h
/-- a fresh list is let go: data -/
theorem EF.toM [Enc α] {t : TE} {m : R (List α)} (h : EF cf E t G m) : EM cf E t G m := fun F O H σ Q hf he nb ko ke => by
  refine h F O H σ Q hf he nb (fun xs v F' H' e le hf' hr => ?_) ke
  obtain ⟨a, vs, rfl, hFa, hOa, hHa, r⟩ := hr
  have le2 : Le F' (upd F' a (.lst vs)) := Le.new hFa
  refine ko xs _ (upd F' a (.lst vs)) H' e (le.trans le2) ⟨fun b o q => ?_, hf'.o, fun b q => ?_⟩ (.lst upd_same (r.mono le2))
  · by_cases hb : b = a
    · subst hb
      rw [upd_same] at q
      rw [hHa]
      exact q
    · rw [upd_ne hb] at q
      exact hf'.f b o q
  · by_cases hb : b = a
    · subst hb
      exact hOa
    · rw [upd_ne hb] at q
      exact hf'.ds b q
theorem EM.toL [Enc α] {t : TE} {m : R (List α)} (h : EM cf E t G m) : EL cf E t G m := EG.imp h fun F O H v xs _ r => by
  obtain ⟨a, vs, e, h1, h2⟩ := dr_lst r
  exact ⟨a, vs, e, .inl h1, h2⟩
theorem EL.toS [Enc α] {t : TE} {m : R (List α)} (h : EL cf E t G m) : ES cf E t G m := EG.imp h fun F O H v xs _ r => by
  obtain ⟨a, vs, e, h1, h2⟩ := r
  rcases h1 with h1 | h1
  · exact ⟨a, vs, e, .inl (SqL.of h1), h2⟩
  · exact ⟨a, vs, e, .inr h1, h2⟩
theorem EM.toS [Enc α] {t : TE} {m : R (List α)} (h : EM cf E t G m) : ES cf E t G m := EL.toS (EM.toL h)
theorem EF.toL [Enc α] {t : TE} {m : R (List α)} (h : EF cf E t G m) : EL cf E t G m := EM.toL (EF.toM h)
theorem EF.toS [Enc α] {t : TE} {m : R (List α)} (h : EF cf E t G m) : ES cf E t G m := EM.toS (EF.toM h)
theorem drA_ints {K : PySem.W.Frag} {F : Hp} : ∀ ns : List Int, DrA K F (ns.map V.int) (ns.map toD)
  | [] => .nil
  | n :: r => .cons (.int n) (drA_ints r)
theorem ints_of_drA {K : PySem.W.Frag} {F : Hp} : ∀ {ns : List Int} {vs : List V}, DrA K F vs (ns.map toD) → vs = ns.map V.int
  | [], _, h => by rw [drA_nil h]; rfl
  | n :: r, _, h => by
    obtain ⟨v, q, rfl, h1, h2⟩ := drA_cons h
    rw [ints_of_drA h2, dr_int (i := n) h1]
    rfl
theorem bls_of_drA {K : PySem.W.Frag} {F : Hp} : ∀ {ns : List Bool} {vs : List V}, DrA K F vs (ns.map toD) → vs = ns.map V.bl
  | [], _, h => by rw [drA_nil h]; rfl
  | n :: r, _, h => by
    obtain ⟨v, q, rfl, h1, h2⟩ := drA_cons h
    rw [bls_of_drA h2, dr_bl (i := n) h1]
    rfl
/-- the script as a list of ints -/
theorem EM.scr {t : TE} {m : R Scr} (h : EM cf E t G m) : ES cf E t G (m.bind fun s => .ok s.ns) := fun F O H σ Q hf he nb ko ke => by
  refine h F O H σ Q hf he (R.bind_nb nb) (fun s v F' H' e le hf' hr => ?_) (fun c p d F' H' e => ke c p d F' H' (by rw [e]; rfl))
  obtain ⟨a, ea, hs⟩ := dr_scr (ns := s.ns) hr
  exact ko s.ns _ F' H' (by rw [e]; rfl) le hf' ⟨a, _, ea, .inl hs, drA_ints s.ns⟩

/-! ### names, constants -/
theorem em_var [Enc α] (i : Nat) (a : α) (h : G[i]? = some (.va (toD a))) : EM cf E (tVar i) G (.ok a) := EG.fin fun F O H σ Q hf he ko => by
  obtain ⟨v, e, r⟩ := he.at' i _ h
  exact ⟨v, e, ko v F H (Le.refl F) hf r⟩
theorem el_own [Enc α] (i : Nat) (xs : List α) (h : G[i]? = some (.ol (xs.map toD))) : EL cf E (tVar i) G (.ok xs) := EG.fin fun F O H σ Q hf he ko => by
  obtain ⟨a, vs, e, h1, r⟩ := he.at' i _ h
  exact ⟨_, e, ko _ F H (Le.refl F) hf ⟨a, vs, rfl, .inr h1, r⟩⟩
theorem em_int (i : Int) : EM cf E (tC (.int i)) G (.ok i) := EG.fin fun F O H σ Q hf he ko => ko _ F H (Le.refl F) hf (.int i)
theorem em_bl (i : Bool) : EM cf E (tC (.bl i)) G (.ok i) := EG.fin fun F O H σ Q hf he ko => ko _ F H (Le.refl F) hf (.bl i)
theorem em_str (i : Str) : EM cf E (tC (.str i)) G (.ok i) := EG.fin fun F O H σ Q hf he ko => ko _ F H (Le.refl F) hf (.str i)
theorem em_none [Enc α] : EM cf E (tC .non) G (.ok (none : Option α)) := EG.fin fun F O H σ Q hf he ko => ko _ F H (Le.refl F) hf .non
theorem em_unit : EM cf E (tC .non) G (.ok ()) := EG.fin fun F O H σ Q hf he ko => ko _ F H (Le.refl F) hf .non
/-- a value where a value or None may be -/
theorem EM.just [Enc α] {t : TE} {m : R α} (h : EM cf E t G m) : EM cf E t G (m.bind fun a => .ok (some a)) := fun F O H σ Q hf he nb ko ke =>
  h F O H σ Q hf he (R.bind_nb nb) (fun a v F' H' e le hf' hr => ko (some a) v F' H' (by rw [e]; rfl) le hf' hr) (fun c p d F' H' e => ke c p d F' H' (by rw [e]; rfl))
theorem EM.inl [Enc α] [Enc β] {t : TE} {m : R α} (h : EM cf E t G m) : EM cf E t G (m.bind fun a => .ok (Sum.inl a : α ⊕ β)) := fun F O H σ Q hf he nb ko ke =>
  h F O H σ Q hf he (R.bind_nb nb) (fun a v F' H' e le hf' hr => ko (.inl a) v F' H' (by rw [e]; rfl) le hf' hr) (fun c p d F' H' e => ke c p d F' H' (by rw [e]; rfl))
theorem EM.inr [Enc α] [Enc β] {t : TE} {m : R β} (h : EM cf E t G m) : EM cf E t G (m.bind fun a => .ok (Sum.inr a : α ⊕ β)) := fun F O H σ Q hf he nb ko ke =>
  h F O H σ Q hf he (R.bind_nb nb) (fun a v F' H' e le hf' hr => ko (.inr a) v F' H' (by rw [e]; rfl) le hf' hr) (fun c p d F' H' e => ke c p d F' H' (by rw [e]; rfl))
end
end Kr

/-! KrB: operators, calls of built-ins, lists, tuples by data. -/
namespace Kr
open PySem PySem.Spec PyProof.Rows L2
open Enc (toD)

section
variable {cf : Cf} {E : XK} {G : List Sl} {α β γ δ ρ ρ' τ : Type}
theorem EG.bind2 {t1 : L2.St → Hp → (ρ → Hp → Prop) → Prop} {t2 : L2.St → Hp → (ρ' → Hp → Prop) → Prop} {m1 : R α} {m2 : R β} {f : α → β → R γ} {rel1 : Hp → Hp → Hp → ρ → α → Prop} {rel2 : Hp → Hp → Hp → ρ' → β → Prop} {rel3 : Hp → Hp → Hp → τ → γ → Prop}
    {u : ρ → ρ' → Hp → (τ → Hp → Prop) → Prop} (h1 : EG cf E t1 G m1 rel1) (h2 : EG cf E t2 G m2 rel2) (mono : ∀ F O H F' H' r a, Le F F' → Fm F' O H' → rel1 F O H r a → rel1 F' O H' r a)
    (k : ∀ (F O H : Hp) (Q : τ → Hp → Prop) (a : α) (r : ρ) (b : β) (s : ρ'), Fm F O H → rel1 F O H r a → rel2 F O H s b → f a b ≠ .bad → (∀ c x F' H', f a b = .ok c → Le F F' → Fm F' O H' → rel3 F' O H' x c → Q x H') → u r s H Q) :
    EG cf E (fun σ H Q => t1 σ H fun r H1 => t2 σ H1 fun s H2 => u r s H2 Q) G (m1.bind fun a => m2.bind fun b => f a b) rel3 :=
  EG.bind (u := fun r σ H Q => t2 σ H fun s H2 => u r s H2 Q) h1 fun F O H σ Q a r hf he hr nb ko ke =>
    h2 F O H σ _ hf he (R.bind_nb nb) (fun b s F' H' eb le hf' hs => k F' O H' Q a r b s hf' (mono F O H F' H' r a le hf' hr) hs (by rw [eb] at nb; exact nb) fun c x F'' H'' e le' => ko c x F'' H'' (by rw [eb]; exact e) (le.trans le'))
      fun c p d F' H' e => ke c p d F' H' (by rw [e]; rfl)
/-- one reading, then a step that raises nothing -/
theorem EG.bind1 {t1 : L2.St → Hp → (ρ → Hp → Prop) → Prop} {m1 : R α} {f : α → R γ} {rel1 : Hp → Hp → Hp → ρ → α → Prop} {rel3 : Hp → Hp → Hp → τ → γ → Prop}
    {u : ρ → Hp → (τ → Hp → Prop) → Prop} (h1 : EG cf E t1 G m1 rel1)
    (k : ∀ (F O H : Hp) (Q : τ → Hp → Prop) (a : α) (r : ρ), Fm F O H → rel1 F O H r a → f a ≠ .bad → (∀ c x F' H', f a = .ok c → Le F F' → Fm F' O H' → rel3 F' O H' x c → Q x H') → u r H Q) :
    EG cf E (fun σ H Q => t1 σ H fun r H1 => u r H1 Q) G (m1.bind f) rel3 :=
  EG.bind (u := fun r σ H Q => u r H Q) h1 fun F O H σ Q a r hf he hr nb ko ke => k F O H Q a r hf hr nb ko
theorem EG.bind3 {ρ'' : Type} {t1 : L2.St → Hp → (ρ → Hp → Prop) → Prop} {t2 : L2.St → Hp → (ρ' → Hp → Prop) → Prop} {t3 : L2.St → Hp → (ρ'' → Hp → Prop) → Prop} {m1 : R α} {m2 : R β} {m3 : R γ} {f : α → β → γ → R δ}
    {rel1 : Hp → Hp → Hp → ρ → α → Prop} {rel2 : Hp → Hp → Hp → ρ' → β → Prop} {rel3 : Hp → Hp → Hp → ρ'' → γ → Prop} {rel4 : Hp → Hp → Hp → τ → δ → Prop}
    {u : ρ → ρ' → ρ'' → Hp → (τ → Hp → Prop) → Prop} (h1 : EG cf E t1 G m1 rel1) (h2 : EG cf E t2 G m2 rel2) (h3 : EG cf E t3 G m3 rel3)
    (mono1 : ∀ F O H F' H' r a, Le F F' → Fm F' O H' → rel1 F O H r a → rel1 F' O H' r a) (mono2 : ∀ F O H F' H' r a, Le F F' → Fm F' O H' → rel2 F O H r a → rel2 F' O H' r a)
    (k : ∀ (F O H : Hp) (Q : τ → Hp → Prop) (a : α) (r : ρ) (b : β) (s : ρ') (c : γ) (t : ρ''), Fm F O H → rel1 F O H r a → rel2 F O H s b → rel3 F O H t c → f a b c ≠ .bad → (∀ d x F' H', f a b c = .ok d → Le F F' → Fm F' O H' → rel4 F' O H' x d → Q x H') → u r s t H Q) :
    EG cf E (fun σ H Q => t1 σ H fun r H1 => t2 σ H1 fun s H2 => t3 σ H2 fun t H3 => u r s t H3 Q) G (m1.bind fun a => m2.bind fun b => m3.bind fun c => f a b c) rel4 :=
  EG.bind (u := fun r σ H Q => t2 σ H fun s H2 => t3 σ H2 fun t H3 => u r s t H3 Q) h1 fun F O H σ Q a r hf he hr nb ko ke =>
    h2 F O H σ _ hf he (R.bind_nb nb) (fun b s F' H' eb le hf' hs => by
      rw [eb, R.ok_bind] at nb ko ke
      exact h3 F' O H' σ _ hf' (he.mono le) (R.bind_nb nb) (fun c t F'' H'' ec le' hf'' ht => k F'' O H'' Q a r b s c t hf'' (mono1 F O H F'' H'' r a (le.trans le') hf'' hr) (mono2 F' O H' F'' H'' s b le' hf'' hs) ht (by rw [ec] at nb; exact nb)
        fun d x F3 H3 e le3 => ko d x F3 H3 (by rw [ec]; exact e) ((le.trans le').trans le3)) fun c p d F'' H'' e le' => ke c p d F'' H'' (by rw [e]; rfl) (le.trans le'))
      fun c p d F' H' e => ke c p d F' H' (by rw [e]; rfl)
theorem rm_mono [Enc α] (F O H F' H' : Hp) (r : V) (a : α) (le : Le F F') (_ : Fm F' O H') (h : RM cf F O H r a) : RM cf F' O H' r a := Dr.mono le h
theorem rl_mono [Enc α] (F O H F' H' : Hp) (r : V) (a : List α) (le : Le F F') (_ : Fm F' O H') (h : RL cf F O H r a) : RL cf F' O H' r a := by
  obtain ⟨a, vs, e, h1, h2⟩ := h
  exact ⟨a, vs, e, h1.imp (le _ _) id, h2.mono le⟩
theorem rs_mono [Enc α] (F O H F' H' : Hp) (r : V) (a : List α) (le : Le F F') (_ : Fm F' O H') (h : RS cf F O H r a) : RS cf F' O H' r a := by
  obtain ⟨a, vs, e, h1, h2⟩ := h
  exact ⟨a, vs, e, h1.imp le.seq id, h2.mono le⟩
theorem RS.seq [Enc α] {F O H : Hp} {v : V} {xs : List α} (h : RS cf F O H v xs) (hf : Fm F O H) : ∃ a vs, v = .ref a ∧ SqL cf.K H a vs ∧ DrA cf.K F vs (xs.map toD) := by
  obtain ⟨a, vs, e, h1, h2⟩ := h
  rcases h1 with h1 | h1
  · exact ⟨a, vs, e, hf.f.seq h1, h2⟩
  · exact ⟨a, vs, e, SqL.of (hf.o _ _ h1), h2⟩
theorem RL.at [Enc α] {F O H : Hp} {v : V} {xs : List α} (h : RL cf F O H v xs) (hf : Fm F O H) : ∃ a vs, v = .ref a ∧ H a = some (.lst vs) ∧ DrA cf.K F vs (xs.map toD) := by
  obtain ⟨a, vs, e, h1, h2⟩ := h
  rcases h1 with h1 | h1
  · exact ⟨a, vs, e, hf.f _ _ h1, h2⟩
  · exact ⟨a, vs, e, hf.o _ _ h1, h2⟩

/-! ### numbers -/
variable {ta tb tc : TE}
theorem em_I0 {g : Int → Int → Int} {ma mb : R Int} (ha : EM cf E ta G ma) (hb : EM cf E tb G mb) : EM cf E (tOp (rI0 fun i j => .int (g i j)) ta tb) G (ma.bind fun a => mb.bind fun b => .ok (g a b)) :=
  EG.bind2 (u := fun x y H Q => rI0 (fun i j => .int (g i j)) x y H Q) ha hb rm_mono fun F O H Q a r b s hf h1 h2 _ ko => ⟨a, b, dr_int h1, dr_int h2, ko _ _ F H rfl (Le.refl F) hf (.int _)⟩
theorem em_B0 {g : Int → Int → Bool} {ma mb : R Int} (ha : EM cf E ta G ma) (hb : EM cf E tb G mb) : EM cf E (tOp (rI0 fun i j => .bl (g i j)) ta tb) G (ma.bind fun a => mb.bind fun b => .ok (g a b)) :=
  EG.bind2 (u := fun x y H Q => rI0 (fun i j => .bl (g i j)) x y H Q) ha hb rm_mono fun F O H Q a r b s hf h1 h2 _ ko => ⟨a, b, dr_int h1, dr_int h2, ko _ _ F H rfl (Le.refl F) hf (.bl _)⟩
/-- an operation on two ints under a condition -/
theorem em_IC {C : Int → Int → Prop} {g : Int → Int → Int} {f : Int → Int → R Int} (hC : ∀ a b, f a b ≠ .bad → C a b ∧ f a b = .ok (g a b)) {ma mb : R Int} (ha : EM cf E ta G ma) (hb : EM cf E tb G mb) :
    EM cf E (tOp (rI C fun i j => .int (g i j)) ta tb) G (ma.bind fun a => mb.bind fun b => f a b) :=
  EG.bind2 (u := fun x y H Q => rI C (fun i j => .int (g i j)) x y H Q) ha hb rm_mono fun F O H Q a r b s hf h1 h2 nb ko => ⟨a, b, dr_int h1, dr_int h2, (hC a b nb).1, ko _ _ F H (hC a b nb).2 (Le.refl F) hf (.int _)⟩
theorem em_neg {ma : R Int} (ha : EM cf E ta G ma) : EM cf E (tUn (rU fun i => .int (-i)) ta) G (ma.bind fun a => .ok (-a)) :=
  EG.bind1 (u := fun x H Q => rU (fun i => .int (-i)) x H Q) ha fun F O H Q a r hf h1 _ ko => ⟨a, dr_int h1, ko _ _ F H rfl (Le.refl F) hf (.int _)⟩
/-- * -/
def mulR (a b : Int) : R Int := if (Builtin.Int.intBits a : Int) + (Builtin.Int.intBits b : Int) ≤ 134217728 then .ok (a * b) else .bad
def divR (a b : Int) : R Int := if 0 < b ∧ b.natAbs.log2 < 9000 then .ok (a / b) else .bad
def modR (a b : Int) : R Int := if 0 < b then .ok (a % b) else .bad
def shlR (a b : Int) : R Int := if 0 ≤ b ∧ (Builtin.Int.intBits a : Int) + b ≤ 134217728 then .ok (a * 2 ^ b.toNat) else .bad
def shrR (a b : Int) : R Int := if 0 ≤ b then .ok (a / 2 ^ b.toNat) else .bad
theorem em_mul {ma mb : R Int} (ha : EM cf E ta G ma) (hb : EM cf E tb G mb) : EM cf E (tOp (rI CMulX fun i j => .int (i * j)) ta tb) G (ma.bind fun a => mb.bind fun b => mulR a b) := em_IC (f := mulR) (g := fun a b => a * b) (fun a b h => by
  unfold mulR at *
  split at h
  · rename_i c
    rw [if_pos c]
    exact ⟨c, rfl⟩
  · exact absurd rfl h) ha hb
theorem em_div {ma mb : R Int} (ha : EM cf E ta G ma) (hb : EM cf E tb G mb) : EM cf E (tOp (rI CDivW fun i j => .int (i / j)) ta tb) G (ma.bind fun a => mb.bind fun b => divR a b) := em_IC (f := divR) (g := fun a b => a / b) (fun a b h => by
  unfold divR at *
  split at h
  · rename_i c
    rw [if_pos c]
    exact ⟨c, rfl⟩
  · exact absurd rfl h) ha hb
theorem em_mod {ma mb : R Int} (ha : EM cf E ta G ma) (hb : EM cf E tb G mb) : EM cf E (tOp (rI (fun _ j => 0 < j) fun i j => .int (i % j)) ta tb) G (ma.bind fun a => mb.bind fun b => modR a b) := em_IC (f := modR) (g := fun a b => a % b) (fun a b h => by
  unfold modR at *
  split at h
  · rename_i c
    rw [if_pos c]
    exact ⟨c, rfl⟩
  · exact absurd rfl h) ha hb
theorem em_shl {ma mb : R Int} (ha : EM cf E ta G ma) (hb : EM cf E tb G mb) : EM cf E (tOp (rI CShl fun i j => .int (i * 2 ^ j.toNat)) ta tb) G (ma.bind fun a => mb.bind fun b => shlR a b) := em_IC (f := shlR) (g := fun a b => a * 2 ^ b.toNat) (fun a b h => by
  unfold shlR at *
  split at h
  · rename_i c
    rw [if_pos c]
    exact ⟨c, rfl⟩
  · exact absurd rfl h) ha hb
theorem em_shr {ma mb : R Int} (ha : EM cf E ta G ma) (hb : EM cf E tb G mb) : EM cf E (tOp (rI (fun _ j => 0 ≤ j) fun i j => .int (i / 2 ^ j.toNat)) ta tb) G (ma.bind fun a => mb.bind fun b => shrR a b) := em_IC (f := shrR) (g := fun a b => a / 2 ^ b.toNat) (fun a b h => by
  unfold shrR at *
  split at h
  · rename_i c
    rw [if_pos c]
    exact ⟨c, rfl⟩
  · exact absurd rfl h) ha hb
theorem em_bits {ma : R Int} (ha : EM cf E ta G ma) : EM cf E (tBits ta) G (ma.bind fun a => .ok ((Builtin.Int.intBits a : Nat) : Int)) :=
  EG.bind1 (u := fun (x : V) H Q => ∃ i, x = .int i ∧ Q (V.int (Builtin.Int.intBits i : Nat)) H) ha fun F O H Q a r hf h1 _ ko => ⟨a, dr_int h1, ko _ _ F H rfl (Le.refl F) hf (.int _)⟩

/-! ### comparisons of scalars, None, tests -/
theorem dr_scal {K : PySem.W.Frag} {F : Hp} {i : Int} {v : V} (h : Dr K F v (.int i)) : v = .int i := dr_int h
theorem em_eqI {ma mb : R Int} (ha : EM cf E ta G ma) (hb : EM cf E tb G mb) : EM cf E (tOp rEq ta tb) G (ma.bind fun a => mb.bind fun b => .ok (decide (a = b))) :=
  EG.bind2 (u := fun x y H Q => rEq x y H Q) ha hb rm_mono fun F O H Q a r b s hf h1 h2 _ ko => by
    rw [dr_int (i := a) h1, dr_int (i := b) h2]
    refine ⟨rfl, ?_⟩
    rw [show decide (V.int a = V.int b) = decide (a = b) by by_cases e : a = b <;> simp [e]]
    exact ko _ _ F H rfl (Le.refl F) hf (.bl _)
theorem em_neI {ma mb : R Int} (ha : EM cf E ta G ma) (hb : EM cf E tb G mb) : EM cf E (tOp rNe ta tb) G (ma.bind fun a => mb.bind fun b => .ok (!decide (a = b))) :=
  EG.bind2 (u := fun x y H Q => rNe x y H Q) ha hb rm_mono fun F O H Q a r b s hf h1 h2 _ ko => by
    rw [dr_int (i := a) h1, dr_int (i := b) h2]
    refine ⟨rfl, ?_⟩
    rw [show decide (V.int a = V.int b) = decide (a = b) by by_cases e : a = b <;> simp [e]]
    exact ko _ _ F H rfl (Le.refl F) hf (.bl _)
theorem em_eqB {ma mb : R Bool} (ha : EM cf E ta G ma) (hb : EM cf E tb G mb) : EM cf E (tOp rEq ta tb) G (ma.bind fun a => mb.bind fun b => .ok (decide (a = b))) :=
  EG.bind2 (u := fun x y H Q => rEq x y H Q) ha hb rm_mono fun F O H Q a r b s hf h1 h2 _ ko => by
    rw [dr_bl (i := a) h1, dr_bl (i := b) h2]
    refine ⟨rfl, ?_⟩
    rw [show decide (V.bl a = V.bl b) = decide (a = b) by by_cases e : a = b <;> simp [e]]
    exact ko _ _ F H rfl (Le.refl F) hf (.bl _)
theorem em_neB {ma mb : R Bool} (ha : EM cf E ta G ma) (hb : EM cf E tb G mb) : EM cf E (tOp rNe ta tb) G (ma.bind fun a => mb.bind fun b => .ok (!decide (a = b))) :=
  EG.bind2 (u := fun x y H Q => rNe x y H Q) ha hb rm_mono fun F O H Q a r b s hf h1 h2 _ ko => by
    rw [dr_bl (i := a) h1, dr_bl (i := b) h2]
    refine ⟨rfl, ?_⟩
    rw [show decide (V.bl a = V.bl b) = decide (a = b) by by_cases e : a = b <;> simp [e]]
    exact ko _ _ F H rfl (Le.refl F) hf (.bl _)
theorem isNone_of [Enc α] [NN α] {K : PySem.W.Frag} {F : Hp} {v : V} {o : Option α} (h : Dr K F v (toD o)) : decide (v = .non) = o.isNone := by
  cases o with
  | none =>
    rw [dr_non h]
    rfl
  | some a =>
    refine decide_eq_false fun e => ?_
    subst e
    have h' : Dr K F .non (toD a) := h
    generalize q : toD a = d at h'
    cases h'
    exact NN.nn a q
theorem em_isN [Enc α] [NN α] {ma : R (Option α)} (ha : EM cf E ta G ma) : EM cf E (tOp (fun x y H Q => y = .non ∧ Q (.bl (decide (x = .non))) H) ta (tC .non)) G (ma.bind fun a => .ok a.isNone) :=
  EG.bind1 (u := fun (x : V) (H : Hp) (Q : VK) => (V.non = V.non ∧ Q (V.bl (decide (x = V.non))) H)) ha fun F O H Q a r hf h1 _ ko => by
    rw [isNone_of h1]
    exact ⟨rfl, ko _ _ F H rfl (Le.refl F) hf (.bl _)⟩
theorem em_notN [Enc α] [NN α] {ma : R (Option α)} (ha : EM cf E ta G ma) : EM cf E (tOp (fun x y H Q => y = .non ∧ Q (.bl (!decide (x = .non))) H) ta (tC .non)) G (ma.bind fun a => .ok a.isSome) :=
  EG.bind1 (u := fun (x : V) (H : Hp) (Q : VK) => (V.non = V.non ∧ Q (V.bl (!decide (x = V.non))) H)) ha fun F O H Q a r hf h1 _ ko => by
    rw [isNone_of h1]
    exact ⟨rfl, ko _ _ F H rfl (Le.refl F) hf (by cases a <;> exact .bl _)⟩
theorem eb_test {ma : R Bool} (ha : EM cf E ta G ma) : EB cf E (tTest ta) G ma := fun F O H σ Q hf he nb ko ke =>
  ha F O H σ _ hf he nb (fun a v F' H' e le hf' hr => ⟨a, dr_bl hr, ko a a F' H' e le hf' rfl⟩) ke
theorem eb_B {ma : R Bool} (ha : EM cf E ta G ma) : EB cf E (tB ta) G ma := fun F O H σ Q hf he nb ko ke =>
  ha F O H σ _ hf he nb (fun a v F' H' e le hf' hr => ⟨a, dr_bl hr, ko a a F' H' e le hf' rfl⟩) ke
variable {t u : TT}
theorem eb_and {ma mb : R Bool} (ha : EB cf E t G ma) (hb : EB cf E u G mb) : EB cf E (tAnd t u) G (ma.bind fun a => if a = true then mb else .ok false) :=
  EG.bind (u := fun c σ H Q => if c = true then u σ H Q else Q false H) ha fun F O H σ Q a r hf he hr nb ko ke => by
    obtain rfl : r = a := hr
    cases r with
    | true => exact hb F O H σ Q hf he nb ko ke
    | false => exact ko false false F H rfl (Le.refl F) hf rfl
theorem eb_or {ma mb : R Bool} (ha : EB cf E t G ma) (hb : EB cf E u G mb) : EB cf E (tOr t u) G (ma.bind fun a => if a = true then .ok true else mb) :=
  EG.bind (u := fun c σ H Q => if c = true then Q true H else u σ H Q) ha fun F O H σ Q a r hf he hr nb ko ke => by
    obtain rfl : r = a := hr
    cases r with
    | true => exact ko true true F H rfl (Le.refl F) hf rfl
    | false => exact hb F O H σ Q hf he nb ko ke
theorem eb_not {ma : R Bool} (ha : EB cf E t G ma) : EB cf E (tNot t) G (ma.bind fun a => .ok (!a)) :=
  EG.bind1 (u := fun c H Q => Q (!c) H) ha fun F O H Q a r hf hr _ ko => by
    obtain rfl : r = a := hr
    exact ko _ _ F H rfl (Le.refl F) hf rfl
theorem em_and {ma mb : R Bool} (ha : EM cf E ta G ma) (hb : EM cf E tb G mb) : EM cf E (tAndV ta tb) G (ma.bind fun a => if a = true then mb else .ok false) :=
  EG.bind (u := fun (x : V) σ H (Q : VK) => ∃ c, x = V.bl c ∧ if c = true then tb σ H Q else Q (.bl false) H) ha fun F O H σ Q a r hf he hr nb ko ke => ⟨a, dr_bl hr, by
    cases a with
    | true => exact hb F O H σ Q hf he nb ko ke
    | false => exact ko false _ F H rfl (Le.refl F) hf (.bl false)⟩
theorem em_or {ma mb : R Bool} (ha : EM cf E ta G ma) (hb : EM cf E tb G mb) : EM cf E (tOrV ta tb) G (ma.bind fun a => if a = true then .ok true else mb) :=
  EG.bind (u := fun (x : V) σ H (Q : VK) => ∃ c, x = V.bl c ∧ if c = true then Q (.bl true) H else tb σ H Q) ha fun F O H σ Q a r hf he hr nb ko ke => ⟨a, dr_bl hr, by
    cases a with
    | true => exact ko true _ F H rfl (Le.refl F) hf (.bl true)
    | false => exact hb F O H σ Q hf he nb ko ke⟩
theorem em_not {ma : R Bool} (ha : EM cf E ta G ma) : EM cf E (tNotV ta) G (ma.bind fun a => .ok (!a)) :=
  EG.bind1 (u := fun (x : V) H (Q : VK) => ∃ c, x = V.bl c ∧ Q (V.bl (!c)) H) ha fun F O H Q a r hf hr _ ko => ⟨a, dr_bl hr, ko _ _ F H rfl (Le.refl F) hf (.bl _)⟩
theorem em_if [Enc α] {mt : R Bool} {ma mb : R α} (ht : EB cf E t G mt) (ha : EM cf E ta G ma) (hb : EM cf E tb G mb) : EM cf E (tIf t ta tb) G (mt.bind fun c => if c = true then ma else mb) :=
  EG.bind (u := fun c σ H Q => if c = true then ta σ H Q else tb σ H Q) ht fun F O H σ Q a r hf he hr nb ko ke => by
    obtain rfl : r = a := hr
    cases r with
    | true => exact ha F O H σ Q hf he nb ko ke
    | false => exact hb F O H σ Q hf he nb ko ke
end
end Kr

/-! KrC: lists, tuples, built-in calls by data. -/
namespace Kr
open PySem PySem.Spec PyProof.Rows L2
open Enc (toD)

section
variable {cf : Cf} {E : XK} {G : List Sl} {α β γ δ : Type} {ta tb tc : TE}
/-! ### chains -/
theorem em_chain {g g' : Int → Int → Bool} {ma mb mc : R Int} (ha : EM cf E ta G ma) (hb : EM cf E tb G mb) (hc : EM cf E tc G mc) :
    EM cf E (tChain (rI0 fun i j => .bl (g i j)) (rI0 fun i j => .bl (g' i j)) ta tb tc) G (ma.bind fun a => mb.bind fun b => if g a b = true then mc.bind fun c => .ok (g' b c) else .ok false) :=
  EG.bind (u := fun x σ H Q => tb σ H fun y H2 => rI0 (fun i j => .bl (g i j)) x y H2 fun z H3 => ∃ k, z = .bl k ∧ (if k = true then tc σ H3 fun w' H4 => rI0 (fun i j => .bl (g' i j)) y w' H4 Q else Q (.bl false) H3)) ha fun F O H σ Q a x hf he hx nb ko ke =>
    hb F O H σ _ hf he (R.bind_nb nb) (fun b y F' H' eb le hf' hy => ⟨a, b, dr_int hx, dr_int hy, g a b, rfl, by
      rw [eb, R.ok_bind] at nb ko ke
      cases hg : g a b with
      | true =>
        rw [hg, if_pos rfl] at nb ko ke
        rw [if_pos rfl]
        exact hc F' O H' σ _ hf' (he.mono le) (R.bind_nb nb) (fun c w' F'' H'' ec le' hf'' hw => ⟨b, c, dr_int hy, dr_int hw, ko _ _ F'' H'' (by rw [ec]; rfl) (le.trans le') hf'' (.bl _)⟩) fun c p d F'' H'' e le' => ke c p d F'' H'' (by rw [e]; rfl) (le.trans le')
      | false =>
        rw [hg, if_neg Bool.false_ne_true] at ko
        rw [if_neg Bool.false_ne_true]
        exact ko _ _ F' H' rfl le hf' (.bl _)⟩) fun c p d F' H' e => ke c p d F' H' (by rw [e]; rfl)

/-! ### arguments, displays -/
theorem ea_nil : EA cf E tNil G (.ok []) := EG.fin fun F O H σ Q hf he ko => ko _ F H (Le.refl F) hf .nil
theorem ea_cons [Enc α] {t : TE} {tr : TA} {m : R α} {mr : R (List Dt)} (h : EM cf E t G m) (hr : EA cf E tr G mr) : EA cf E (tCons t tr) G (m.bind fun a => mr.bind fun ds => .ok (toD a :: ds)) :=
  EG.bind2 (u := fun x xs H Q => Q (x :: xs) H) h hr rm_mono fun F O H Q a r b s hf h1 h2 _ ko => ko _ _ F H rfl (Le.refl F) hf (.cons h1 h2)
/-- arguments of one type -/
def EAs [Enc α] (cf : Cf) (E : XK) (t : TA) (G : List Sl) (m : R (List α)) : Prop := EG cf E t G m fun F _ _ vs xs => DrA cf.K F vs (xs.map toD)
theorem eas_nil [Enc α] : EAs cf E tNil G (.ok ([] : List α)) := EG.fin fun F O H σ Q hf he ko => ko _ F H (Le.refl F) hf .nil
theorem eas_cons [Enc α] {t : TE} {tr : TA} {m : R α} {mr : R (List α)} (h : EM cf E t G m) (hr : EAs cf E tr G mr) : EAs cf E (tCons t tr) G (m.bind fun a => mr.bind fun ds => .ok (a :: ds)) :=
  EG.bind2 (u := fun x xs H Q => Q (x :: xs) H) h hr rm_mono fun F O H Q a r b s hf h1 h2 _ ko => ko _ _ F H rfl (Le.refl F) hf (.cons h1 h2)
theorem sz_of {n : Nat} (h : n ≤ 100000) : n ≤ sizeLine := Nat.le_trans h (by decide)
theorem sz_lt {n : Nat} (h : n < 100000) : n < sizeLine := Nat.lt_of_lt_of_le h (by decide)
/-- a list that does not grow too long -/
def szR (xs : List α) : R (List α) := if xs.length ≤ 1000000 then .ok xs else .bad
theorem szR_ok {xs : List α} (h : xs.length ≤ 1000000) : szR xs = .ok xs := if_pos h
theorem szR_nb {xs : List α} (h : szR xs ≠ .bad) : xs.length ≤ 1000000 ∧ szR xs = .ok xs := by
  unfold szR at *
  split at h
  · rename_i c
    exact ⟨c, if_pos c⟩
  · exact absurd rfl h
theorem sz_le {n : Nat} (h : n ≤ 1000000) : n ≤ sizeLine := Nat.le_trans h (by decide)
theorem sz_ltM {n : Nat} (h : n ≤ 1000000) : n < sizeLine := Nat.lt_of_le_of_lt h (by decide)
theorem ef_lst [Enc α] {t : TA} {m : R (List α)} (h : EAs cf E t G m) : EF cf E (tLst t) G (m.bind szR) :=
  EG.bind1 (u := fun (vs : List V) (H : Hp) (Q : VK) => vs.length ≤ sizeLine ∧ ∀ p, H p = none → Q (.ref p) (upd H p (.lst vs))) h fun F O H Q a r hf h1 nb ko => by
    obtain ⟨c, e⟩ := szR_nb nb
    refine ⟨?_, fun p hp => ko _ _ F _ e (Le.refl F) (hf.newH hp) ⟨p, r, rfl, hf.fnone hp, hf.onone hp, upd_same, h1⟩⟩
    rw [DrA.length h1, List.length_map]
    exact sz_le c
theorem em_tup2 [Enc α] [Enc β] {m : R α} {n : R β} (h : EM cf E ta G m) (h' : EM cf E tb G n) : EM cf E (tTup (tCons ta (tCons tb tNil))) G (m.bind fun a => n.bind fun b => .ok (a, b)) :=
  EG.bind2 (u := fun (x y : V) (H : Hp) (Q : VK) => 2 ≤ sizeLine ∧ ∀ p, H p = none → Q (.ref p) (upd H p (.tup [x, y]))) h h' rm_mono fun F O H Q a r b s hf h1 h2 _ ko =>
    ⟨by decide, fun p hp => ko _ _ (upd F p (.tup [r, s])) _ rfl (Le.new (hf.fnone hp)) (hf.newF hp) (.tup upd_same (.cons (Dr.mono (Le.new (hf.fnone hp)) h1) (.cons (Dr.mono (Le.new (hf.fnone hp)) h2) .nil)))⟩
theorem em_tup3 [Enc α] [Enc β] [Enc γ] {m : R α} {n : R β} {l : R γ} (h : EM cf E ta G m) (h' : EM cf E tb G n) (h'' : EM cf E tc G l) : EM cf E (tTup (tCons ta (tCons tb (tCons tc tNil)))) G (m.bind fun a => n.bind fun b => l.bind fun c => .ok (T3.mk a b c)) :=
  EG.bind3 (u := fun (x y z : V) (H : Hp) (Q : VK) => 3 ≤ sizeLine ∧ ∀ p, H p = none → Q (.ref p) (upd H p (.tup [x, y, z]))) h h' h'' rm_mono rm_mono fun F O H Q a r b s c t hf h1 h2 h3 _ ko =>
    ⟨by decide, fun p hp => ko _ _ (upd F p (.tup [r, s, t])) _ rfl (Le.new (hf.fnone hp)) (hf.newF hp) (.tup upd_same (.cons (Dr.mono (Le.new (hf.fnone hp)) h1) (.cons (Dr.mono (Le.new (hf.fnone hp)) h2) (.cons (Dr.mono (Le.new (hf.fnone hp)) h3) .nil))))⟩

/-! ### subscripts, slices -/
def idxR (xs : List α) (i : Int) : R α := match atI xs i with
  | some a => .ok a
  | none => .bad
theorem atI_map {β : Type} (f : α → β) (xs : List α) (i : Int) : atI (xs.map f) i = (atI xs i).map f := by
  unfold atI
  rw [List.length_map]
  cases ixN xs.length i with
  | none => rfl
  | some j => simp
theorem atI_drA {K : PySem.W.Frag} {F : Hp} {vs : List V} {ds : List Dt} {i : Int} {d : Dt} (h : DrA K F vs ds) (e : atI ds i = some d) : ∃ v, atI vs i = some v ∧ Dr K F v d := by
  unfold atI at *
  rw [h.length]
  cases q : ixN ds.length i with
  | none =>
    rw [q] at e
    cases e
  | some j =>
    rw [q] at e
    exact h.get e
theorem em_ixL [Enc α] {m : R (List α)} {n : R Int} (h : ES cf E ta G m) (h' : EM cf E tb G n) : EM cf E (tOp (rIxL cf.K) ta tb) G (m.bind fun xs => n.bind fun i => idxR xs i) :=
  EG.bind2 (u := fun x y H Q => rIxL cf.K x y H Q) h h' rs_mono fun F O H Q xs r i s hf h1 h2 nb ko => by
    obtain ⟨a, vs, e, hs, hr⟩ := RS.seq h1 hf
    unfold idxR at nb ko
    cases q : atI xs i with
    | none =>
      rw [q] at nb
      exact absurd rfl nb
    | some x =>
      rw [q] at ko
      obtain ⟨v, ev, rv⟩ := atI_drA hr (show atI (xs.map toD) i = some (toD x) by rw [atI_map, q]; rfl)
      exact ⟨a, vs, i, v, e, dr_int h2, hs, ev, ko x v F H rfl (Le.refl F) hf rv⟩
theorem em_fst [Enc α] [Enc β] {m : R (α × β)} (h : EM cf E ta G m) : EM cf E (tOp (rIxT cf.K) ta (tC (.int 0))) G (m.bind fun p => .ok p.1) :=
  EG.bind1 (u := fun x H Q => rIxT cf.K x (.int 0) H Q) h fun F O H Q a r hf h1 _ ko => by
    obtain ⟨p, vs, e, ht, hr⟩ := dr_tup (ds := [toD a.1, toD a.2]) h1
    obtain ⟨v, ev, rv⟩ := atI_drA hr (show atI [toD a.1, toD a.2] 0 = some (toD a.1) from rfl)
    exact ⟨p, vs, 0, v, e, rfl, SqT.of (hf.f _ _ ht), ev, ko _ v F H rfl (Le.refl F) hf rv⟩
theorem em_snd [Enc α] [Enc β] {m : R (α × β)} (h : EM cf E ta G m) : EM cf E (tOp (rIxT cf.K) ta (tC (.int 1))) G (m.bind fun p => .ok p.2) :=
  EG.bind1 (u := fun x H Q => rIxT cf.K x (.int 1) H Q) h fun F O H Q a r hf h1 _ ko => by
    obtain ⟨p, vs, e, ht, hr⟩ := dr_tup (ds := [toD a.1, toD a.2]) h1
    obtain ⟨v, ev, rv⟩ := atI_drA hr (show atI [toD a.1, toD a.2] 1 = some (toD a.2) from rfl)
    exact ⟨p, vs, 1, v, e, rfl, SqT.of (hf.f _ _ ht), ev, ko _ v F H rfl (Le.refl F) hf rv⟩
theorem em_t30 [Enc α] [Enc β] [Enc γ] {m : R (T3 α β γ)} (h : EM cf E ta G m) : EM cf E (tOp (rIxT cf.K) ta (tC (.int 0))) G (m.bind fun p => .ok p.a) :=
  EG.bind1 (u := fun x H Q => rIxT cf.K x (.int 0) H Q) h fun F O H Q a r hf h1 _ ko => by
    obtain ⟨p, vs, e, ht, hr⟩ := dr_tup (ds := [toD a.a, toD a.b, toD a.c]) h1
    obtain ⟨v, ev, rv⟩ := atI_drA hr (show atI [toD a.a, toD a.b, toD a.c] 0 = some (toD a.a) from rfl)
    exact ⟨p, vs, 0, v, e, rfl, SqT.of (hf.f _ _ ht), ev, ko _ v F H rfl (Le.refl F) hf rv⟩
theorem em_t31 [Enc α] [Enc β] [Enc γ] {m : R (T3 α β γ)} (h : EM cf E ta G m) : EM cf E (tOp (rIxT cf.K) ta (tC (.int 1))) G (m.bind fun p => .ok p.b) :=
  EG.bind1 (u := fun x H Q => rIxT cf.K x (.int 1) H Q) h fun F O H Q a r hf h1 _ ko => by
    obtain ⟨p, vs, e, ht, hr⟩ := dr_tup (ds := [toD a.a, toD a.b, toD a.c]) h1
    obtain ⟨v, ev, rv⟩ := atI_drA hr (show atI [toD a.a, toD a.b, toD a.c] 1 = some (toD a.b) from rfl)
    exact ⟨p, vs, 1, v, e, rfl, SqT.of (hf.f _ _ ht), ev, ko _ v F H rfl (Le.refl F) hf rv⟩
theorem em_t32 [Enc α] [Enc β] [Enc γ] {m : R (T3 α β γ)} (h : EM cf E ta G m) : EM cf E (tOp (rIxT cf.K) ta (tC (.int 2))) G (m.bind fun p => .ok p.c) :=
  EG.bind1 (u := fun x H Q => rIxT cf.K x (.int 2) H Q) h fun F O H Q a r hf h1 _ ko => by
    obtain ⟨p, vs, e, ht, hr⟩ := dr_tup (ds := [toD a.a, toD a.b, toD a.c]) h1
    obtain ⟨v, ev, rv⟩ := atI_drA hr (show atI [toD a.a, toD a.b, toD a.c] 2 = some (toD a.c) from rfl)
    exact ⟨p, vs, 2, v, e, rfl, SqT.of (hf.f _ _ ht), ev, ko _ v F H rfl (Le.refl F) hf rv⟩
/-- xs[lo:hi] -/
def cut (xs : List α) (lo hi : Option Int) : List α := (xs.drop (HT.sIx xs.length 0 lo)).take (HT.sIx xs.length xs.length hi - HT.sIx xs.length 0 lo)
theorem cut_map {β : Type} (f : α → β) (xs : List α) (lo hi : Option Int) : cut (xs.map f) lo hi = (cut xs lo hi).map f := by
  unfold cut
  rw [List.length_map, List.map_take, List.map_drop]
theorem cut_drA {K : PySem.W.Frag} {F : Hp} {vs : List V} {ds : List Dt} (lo hi : Option Int) (h : DrA K F vs ds) : DrA K F (cutV vs lo hi) (cut ds lo hi) := by
  unfold cutV cut
  rw [h.length]
  exact (h.drop _).take _
theorem eo_none : EO cf E tNoPart G (.ok none) := EG.fin fun F O H σ Q hf he ko => ko _ F H (Le.refl F) hf rfl
theorem eo_some {m : R Int} (h : EM cf E ta G m) : EO cf E (tPart ta) G (m.bind fun i => .ok (some i)) :=
  EG.bind1 (u := fun (x : V) (H : Hp) (Q : Option Int → Hp → Prop) => ∃ i, x = .int i ∧ Q (some i) H) h fun F O H Q a r hf h1 _ ko => ⟨a, dr_int h1, ko _ _ F H rfl (Le.refl F) hf rfl⟩
theorem ef_sl [Enc α] {tl th : TO} {m : R (List α)} {ml mh : R (Option Int)} (h : ES cf E ta G m) (hl : EO cf E tl G ml) (hh : EO cf E th G mh) :
    EF cf E (tSl (rSlL cf.K) ta tl th) G (m.bind fun xs => ml.bind fun lo => mh.bind fun hi => .ok (cut xs lo hi)) :=
  EG.bind3 (u := fun x lo hi H Q => rSlL cf.K x lo hi H Q) h hl hh rs_mono (fun _ _ _ _ _ _ _ _ _ h => h) fun F O H Q xs r lo lo' hi hi' hf h1 h2 h3 _ ko => by
    obtain ⟨a, vs, e, hs, hr⟩ := RS.seq h1 hf
    obtain rfl : lo' = lo := h2
    obtain rfl : hi' = hi := h3
    exact ⟨a, vs, e, hs, fun p hp => ko _ _ F _ rfl (Le.refl F) (hf.newH hp) ⟨p, _, rfl, hf.fnone hp, hf.onone hp, upd_same, by
      rw [← cut_map]
      exact cut_drA lo' hi' hr⟩⟩

/-! ### operators on lists -/
theorem ef_cat [Enc α] {m n : R (List α)} (h : EL cf E ta G m) (h' : EL cf E tb G n) : EF cf E (tOp rCat ta tb) G (m.bind fun xs => n.bind fun ys => szR (xs ++ ys)) :=
  EG.bind2 (u := fun x y H Q => rCat x y H Q) h h' rl_mono fun F O H Q xs r ys s hf h1 h2 nb ko => by
    obtain ⟨c, ec⟩ := szR_nb nb
    obtain ⟨a, vs, e, ha, hr⟩ := RL.at h1 hf
    obtain ⟨b, ws, e', hb, hr'⟩ := RL.at h2 hf
    refine ⟨a, b, vs, ws, e, e', ha, hb, ?_, fun p hp => ko _ _ F _ ec (Le.refl F) (hf.newH hp) ⟨p, _, rfl, hf.fnone hp, hf.onone hp, upd_same, by
      rw [List.map_append]
      exact hr.append hr'⟩⟩
    rw [hr.length, hr'.length, List.length_map, List.length_map, ← List.length_append]
    exact sz_le c
def repR (xs : List α) (k : Int) : R (List α) := if -(2 ^ 63) ≤ k ∧ k < 2 ^ 63 ∧ xs.length * k.toNat ≤ 1000000 then .ok (List.replicate k.toNat xs).flatten else .bad
theorem repR_nb {xs : List α} {k : Int} (h : repR xs k ≠ .bad) : (-(2 ^ 63) ≤ k ∧ k < 2 ^ 63 ∧ xs.length * k.toNat ≤ 1000000) ∧ repR xs k = .ok (List.replicate k.toNat xs).flatten := by
  unfold repR at *
  split at h
  · rename_i c
    exact ⟨c, if_pos c⟩
  · exact absurd rfl h
theorem map_rep {β : Type} (f : α → β) (xs : List α) (k : Nat) : (List.replicate k xs).flatten.map f = (List.replicate k (xs.map f)).flatten := by
  rw [List.map_flatten, List.map_replicate]
theorem ef_rep [Enc α] {m : R (List α)} {n : R Int} (h : EL cf E ta G m) (h' : EM cf E tb G n) : EF cf E (tOp rRep ta tb) G (m.bind fun xs => n.bind fun k => repR xs k) :=
  EG.bind2 (u := fun x y H Q => rRep x y H Q) h h' rl_mono fun F O H Q xs r k s hf h1 h2 nb ko => by
    obtain ⟨⟨c1, c2, c3⟩, ec⟩ := repR_nb nb
    obtain ⟨a, vs, e, ha, hr⟩ := RL.at h1 hf
    refine ⟨a, k, vs, e, dr_int h2, ha, c1, c2, ?_, fun p hp => ko _ _ F _ ec (Le.refl F) (hf.newH hp) ⟨p, _, rfl, hf.fnone hp, hf.onone hp, upd_same, by
      rw [map_rep]
      exact hr.rep _⟩⟩
    rw [hr.length, List.length_map]
    exact sz_le c3

/-! ### built-ins -/
/-- a call of one argument -/
theorem EG.call1 {τ ρ : Type} {rel1 : Hp → Hp → Hp → V → α → Prop} {rel3 : Hp → Hp → Hp → τ → γ → Prop} {m : R α} {f : α → R γ} {u : List V → Hp → (τ → Hp → Prop) → Prop} (h : EG cf E ta G m rel1)
    (k : ∀ (F O H : Hp) (Q : τ → Hp → Prop) (a : α) (r : V), Fm F O H → rel1 F O H r a → f a ≠ .bad → (∀ c x F' H', f a = .ok c → Le F F' → Fm F' O H' → rel3 F' O H' x c → Q x H') → u [r] H Q) :
    EG cf E (fun σ H Q => tCons ta tNil σ H fun vs H1 => u vs H1 Q) G (m.bind f) rel3 := EG.bind1 (u := fun r H Q => u [r] H Q) h k
theorem EG.call2 {τ ρ : Type} {rel1 : Hp → Hp → Hp → V → α → Prop} {rel2 : Hp → Hp → Hp → V → β → Prop} {rel3 : Hp → Hp → Hp → τ → γ → Prop} {m : R α} {n : R β} {f : α → β → R γ} {u : List V → Hp → (τ → Hp → Prop) → Prop} (h : EG cf E ta G m rel1) (h' : EG cf E tb G n rel2)
    (mono : ∀ F O H F' H' r a, Le F F' → Fm F' O H' → rel1 F O H r a → rel1 F' O H' r a)
    (k : ∀ (F O H : Hp) (Q : τ → Hp → Prop) (a : α) (r : V) (b : β) (s : V), Fm F O H → rel1 F O H r a → rel2 F O H s b → f a b ≠ .bad → (∀ c x F' H', f a b = .ok c → Le F F' → Fm F' O H' → rel3 F' O H' x c → Q x H') → u [r, s] H Q) :
    EG cf E (fun σ H Q => tCons ta (tCons tb tNil) σ H fun vs H1 => u vs H1 Q) G (m.bind fun a => n.bind fun b => f a b) rel3 := EG.bind2 (u := fun r s H Q => u [r, s] H Q) h h' mono k
def rLenS (K : PySem.W.Frag) : List V → Hp → VK → Prop := fun xs H Q => ∃ p ys, xs = [.ref p] ∧ (SqL K H p ys ∨ SqT K H p ys) ∧ Q (.int ys.length) H
theorem em_len [Enc α] {m : R (List α)} (h : ES cf E ta G m) : EM cf E (tCB (rLenS cf.K) (tCons ta tNil)) G (m.bind fun xs => .ok (xs.length : Int)) :=
  EG.call1 (ρ := Unit) h fun F O H Q xs r hf h1 _ ko => by
    obtain ⟨a, vs, e, hs, hr⟩ := RS.seq h1 hf
    refine ⟨a, vs, by rw [e], .inl hs, ?_⟩
    rw [hr.length, List.length_map]
    exact ko _ _ F H rfl (Le.refl F) hf (.int _)
theorem em_sum {m : R (List Int)} (h : ES cf E ta G m) : EM cf E (tCB (rSum cf.K) (tCons ta tNil)) G (m.bind fun xs => .ok xs.sum) :=
  EG.call1 (ρ := Unit) h fun F O H Q xs r hf h1 _ ko => by
    obtain ⟨a, vs, e, hs, hr⟩ := RS.seq h1 hf
    rw [ints_of_drA hr] at hs
    exact ⟨a, xs, by rw [e], hs, ko _ _ F H rfl (Le.refl F) hf (.int _)⟩
def maxR (xs : List Int) : R Int := match xs with
  | [] => .bad
  | x :: r => .ok (r.foldl max x)
def minR (xs : List Int) : R Int := match xs with
  | [] => .bad
  | x :: r => .ok (r.foldl min x)
theorem foldl_max_mem : ∀ (r : List Int) (x : Int), r.foldl max x ∈ x :: r ∧ ∀ y ∈ x :: r, y ≤ r.foldl max x
  | [], x => ⟨by simp, by simp⟩
  | y :: r, x => by
    obtain ⟨h1, h2⟩ := foldl_max_mem r (max x y)
    rw [List.foldl_cons]
    refine ⟨?_, fun z hz => ?_⟩
    · rcases List.mem_cons.mp h1 with e | h1
      · rw [e]
        by_cases c : x ≤ y
        · rw [Int.max_eq_right c]; simp
        · rw [Int.max_eq_left (by omega)]; simp
      · simp [h1]
    · have hm := h2 (max x y) (by simp)
      rcases List.mem_cons.mp hz with e | hz
      · subst e
        exact Int.le_trans (Int.le_max_left _ _) hm
      · rcases List.mem_cons.mp hz with e | hz
        · subst e
          exact Int.le_trans (Int.le_max_right _ _) hm
        · exact h2 z (by simp [hz])
theorem foldl_min_mem : ∀ (r : List Int) (x : Int), r.foldl min x ∈ x :: r ∧ ∀ y ∈ x :: r, r.foldl min x ≤ y
  | [], x => ⟨by simp, by simp⟩
  | y :: r, x => by
    obtain ⟨h1, h2⟩ := foldl_min_mem r (min x y)
    rw [List.foldl_cons]
    refine ⟨?_, fun z hz => ?_⟩
    · rcases List.mem_cons.mp h1 with e | h1
      · rw [e]
        by_cases c : x ≤ y
        · rw [Int.min_eq_left c]; simp
        · rw [Int.min_eq_right (by omega)]; simp
      · simp [h1]
    · have hm := h2 (min x y) (by simp)
      rcases List.mem_cons.mp hz with e | hz
      · subst e
        exact Int.le_trans hm (Int.min_le_left _ _)
      · rcases List.mem_cons.mp hz with e | hz
        · subst e
          exact Int.le_trans hm (Int.min_le_right _ _)
        · exact h2 z (by simp [hz])
theorem em_max {m : R (List Int)} (h : ES cf E ta G m) : EM cf E (tCB (rMax cf.K) (tCons ta tNil)) G (m.bind maxR) :=
  EG.call1 (ρ := Unit) h fun F O H Q xs r hf h1 nb ko => by
    obtain ⟨a, vs, e, hs, hr⟩ := RS.seq h1 hf
    rw [ints_of_drA hr] at hs
    cases xs with
    | nil => exact absurd rfl nb
    | cons x q =>
      refine ⟨a, x :: q, by rw [e], hs, by simp, fun y hy hle => ?_⟩
      obtain ⟨g1, g2⟩ := foldl_max_mem q x
      have e2 : y = q.foldl max x := Int.le_antisymm (g2 y hy) (hle _ g1)
      rw [e2]
      exact ko _ _ F H rfl (Le.refl F) hf (.int _)
theorem em_min {m : R (List Int)} (h : ES cf E ta G m) : EM cf E (tCB (rMin cf.K) (tCons ta tNil)) G (m.bind minR) :=
  EG.call1 (ρ := Unit) h fun F O H Q xs r hf h1 nb ko => by
    obtain ⟨a, vs, e, hs, hr⟩ := RS.seq h1 hf
    rw [ints_of_drA hr] at hs
    cases xs with
    | nil => exact absurd rfl nb
    | cons x q =>
      refine ⟨a, x :: q, by rw [e], hs, by simp, fun y hy hle => ?_⟩
      obtain ⟨g1, g2⟩ := foldl_min_mem q x
      have e2 : y = q.foldl min x := Int.le_antisymm (hle _ g1) (g2 y hy)
      rw [e2]
      exact ko _ _ F H rfl (Le.refl F) hf (.int _)
def rMax2 : List V → Hp → VK → Prop := fun xs H Q => ∃ i j, xs = [.int i, .int j] ∧ Q (.int (if j > i then j else i)) H
def rMin2 : List V → Hp → VK → Prop := fun xs H Q => ∃ i j, xs = [.int i, .int j] ∧ Q (.int (if j < i then j else i)) H
theorem em_max2 {m n : R Int} (h : EM cf E ta G m) (h' : EM cf E tb G n) : EM cf E (tCB rMax2 (tCons ta (tCons tb tNil))) G (m.bind fun a => n.bind fun b => .ok (max a b)) :=
  EG.call2 (ρ := Unit) h h' rm_mono fun F O H Q a r b s hf h1 h2 _ ko => ⟨a, b, by rw [dr_int (i := a) h1, dr_int (i := b) h2], by
    rw [show (if b > a then b else a) = max a b by split <;> omega]
    exact ko _ _ F H rfl (Le.refl F) hf (.int _)⟩
theorem em_min2 {m n : R Int} (h : EM cf E ta G m) (h' : EM cf E tb G n) : EM cf E (tCB rMin2 (tCons ta (tCons tb tNil))) G (m.bind fun a => n.bind fun b => .ok (min a b)) :=
  EG.call2 (ρ := Unit) h h' rm_mono fun F O H Q a r b s hf h1 h2 _ ko => ⟨a, b, by rw [dr_int (i := a) h1, dr_int (i := b) h2], by
    rw [show (if b < a then b else a) = min a b by split <;> omega]
    exact ko _ _ F H rfl (Le.refl F) hf (.int _)⟩
def rInt1 : List V → Hp → VK → Prop := fun xs H Q => (∃ i, xs = [.int i] ∧ Q (.int i) H) ∨ ∃ k, xs = [.bl k] ∧ Q (.int (if k then 1 else 0)) H
theorem em_intI {m : R Int} (h : EM cf E ta G m) : EM cf E (tCB rInt1 (tCons ta tNil)) G m := EG.cast (EG.call1 (ρ := Unit) h fun F O H Q a r hf h1 _ ko => .inl ⟨a, by rw [dr_int (i := a) h1], ko a _ F H rfl (Le.refl F) hf (.int a)⟩) (R.bind_ok m)
theorem em_intB {m : R Bool} (h : EM cf E ta G m) : EM cf E (tCB rInt1 (tCons ta tNil)) G (m.bind fun b => .ok (if b then (1 : Int) else 0)) := EG.call1 (ρ := Unit) h fun F O H Q a r hf h1 _ ko => .inr ⟨a, by rw [dr_bl (i := a) h1], ko _ _ F H rfl (Le.refl F) hf (.int _)⟩
def rListS (K : PySem.W.Frag) : List V → Hp → VK → Prop := fun xs H Q => ∃ p ys, xs = [.ref p] ∧ (SqL K H p ys ∨ SqT K H p ys) ∧ ∀ l, H l = none → Q (.ref l) (upd H l (.lst ys))
theorem ef_list [Enc α] {m : R (List α)} (h : ES cf E ta G m) : EF cf E (tCB (rListS cf.K) (tCons ta tNil)) G m := EG.cast (EG.call1 (ρ := Unit) h fun F O H Q xs r hf h1 _ ko => by
    obtain ⟨a, vs, e, hs, hr⟩ := RS.seq h1 hf
    exact ⟨a, vs, by rw [e], .inl hs, fun p hp => ko xs _ F _ rfl (Le.refl F) (hf.newH hp) ⟨p, vs, rfl, hf.fnone hp, hf.onone hp, upd_same, hr⟩⟩) (R.bind_ok m)
theorem em_any {m : R (List Bool)} (h : ES cf E ta G m) : EM cf E (tCB (rAny cf.K) (tCons ta tNil)) G (m.bind fun xs => .ok (xs.any id)) :=
  EG.call1 (ρ := Unit) h fun F O H Q xs r hf h1 _ ko => by
    obtain ⟨a, vs, e, hs, hr⟩ := RS.seq h1 hf
    rw [bls_of_drA hr] at hs
    exact ⟨a, xs, by rw [e], hs, ko _ _ F H rfl (Le.refl F) hf (.bl _)⟩

/-! ### == of data -/
mutual
def Dt.py : Dt → PyData
  | .non => .none
  | .bl b => .bool b
  | .int i => .int i
  | .str x => .str x
  | .lst xs => .list (Dt.pyA xs)
  | .tup xs => .tuple (Dt.pyA xs)
  | .scr ns => .list (ns.map .int)
  | .dct _ => .dict []
def Dt.pyA : List Dt → List PyData
  | [] => []
  | d :: r => d.py :: Dt.pyA r
end
mutual
/-- no dict within -/
def Dt.nd : Dt → Bool
  | .lst xs => Dt.ndA xs
  | .tup xs => Dt.ndA xs
  | .dct _ => false
  | _ => true
def Dt.ndA : List Dt → Bool
  | [] => true
  | d :: r => d.nd && Dt.ndA r
end
theorem dpAll_ints {K : PySem.W.Frag} {H : Hp} : ∀ ns : List Int, DpAll K H (ns.map V.int) (ns.map PyData.int)
  | [] => .nil
  | n :: r => .cons (.int n) (dpAll_ints r)
mutual
theorem Dr.dp {K : PySem.W.Frag} {F H : Hp} (e : Le F H) : ∀ {v : V} {d : Dt}, Dr K F v d → d.nd = true → Dp K H v d.py
  | _, _, .non, _ => .non
  | _, _, .bl b, _ => .bl b
  | _, _, .int i, _ => .int i
  | _, _, .str x, _ => .str x
  | _, _, .lst h r, n => .lst (SqL.of (e _ _ h)) (DrA.dp e r n)
  | _, _, .tup h r, n => .tup (SqT.of (e _ _ h)) (DrA.dp e r n)
  | _, _, .scr h, _ => .lst (e.seq h) (dpAll_ints _)
  | _, _, .dct _ _, n => Bool.noConfusion n
theorem DrA.dp {K : PySem.W.Frag} {F H : Hp} (e : Le F H) : ∀ {vs : List V} {ds : List Dt}, DrA K F vs ds → Dt.ndA ds = true → DpAll K H vs (Dt.pyA ds)
  | _, _, .nil, _ => .nil
  | _, _, .cons r t, n => .cons (Dr.dp e r (Bool.and_eq_true_iff.mp n).1) (DrA.dp e t (Bool.and_eq_true_iff.mp n).2)
end
/-- a == b -/
def eqR [Enc α] [Enc β] (a : α) (b : β) : R Bool := if (toD a).nd = true ∧ (toD b).nd = true ∧ SeqAt.shaped (toD a).py = true ∧ SeqAt.shaped (toD b).py = true then .ok (PyData.eqv (toD a).py (toD b).py) else .bad
theorem eqR_nb [Enc α] [Enc β] {a : α} {b : β} (h : eqR a b ≠ .bad) : ((toD a).nd = true ∧ (toD b).nd = true ∧ SeqAt.shaped (toD a).py = true ∧ SeqAt.shaped (toD b).py = true) ∧ eqR a b = .ok (PyData.eqv (toD a).py (toD b).py) := by
  unfold eqR at *
  split at h
  · rename_i c
    exact ⟨c, if_pos c⟩
  · exact absurd rfl h
/-- lists too, owned or not -/
def RE [Enc α] (cf : Cf) (F O H : Hp) (v : V) (a : α) : Prop := (toD a).nd = true → Dp cf.K H v (toD a).py
abbrev EE [Enc α] (cf : Cf) (E : XK) (t : TE) (G : List Sl) (m : R α) : Prop := EG cf E t G m fun F O H v a => ∀ F' H', Le F F' → Fm F' O H' → (toD a).nd = true → Dp cf.K H' v (toD a).py
theorem EM.toE [Enc α] {m : R α} (h : EM cf E ta G m) : EE cf E ta G m := EG.imp h fun F O H v a hf r F' H' le hf' n => Dr.dp (le.trans hf'.f) r n
theorem EL.toE [Enc α] {m : R (List α)} (h : EL cf E ta G m) : EE cf E ta G m := EG.imp h fun F O H v xs hf r F' H' le hf' n => by
  obtain ⟨a, vs, e, ha, hr⟩ := RL.at (rl_mono F O H F' H' v xs le hf' r) hf'
  rw [e]
  exact .lst (SqL.of ha) (DrA.dp hf'.f hr n)
theorem em_eqD [Enc α] [Enc β] {m : R α} {n : R β} (h : EE cf E ta G m) (h' : EE cf E tb G n) : EM cf E (tOp (rEqD cf.K) ta tb) G (m.bind fun a => n.bind fun b => eqR a b) :=
  EG.bind2 (u := fun x y H Q => rEqD cf.K x y H Q) h h' (fun F O H F' H' r a le hf' h F'' H'' le' hf'' => h F'' H'' (le.trans le') hf'') fun F O H Q a r b s hf h1 h2 nb ko => by
    obtain ⟨⟨c1, c2, c3, c4⟩, ec⟩ := eqR_nb nb
    exact ⟨_, _, h1 F H (Le.refl F) hf c1, h2 F H (Le.refl F) hf c2, c3, c4, ko _ _ F H ec (Le.refl F) hf (.bl _)⟩
theorem em_neD [Enc α] [Enc β] {m : R α} {n : R β} (h : EE cf E ta G m) (h' : EE cf E tb G n) : EM cf E (tOp (rNeD cf.K) ta tb) G (m.bind fun a => n.bind fun b => (eqR a b).bind fun c => .ok (!c)) :=
  EG.bind2 (f := fun a b => (eqR a b).bind fun c => .ok (!c)) (u := fun x y H Q => rNeD cf.K x y H Q) h h' (fun F O H F' H' r a le hf' h F'' H'' le' hf'' => h F'' H'' (le.trans le') hf'') fun F O H Q a r b s hf h1 h2 nb ko => by
    obtain ⟨⟨c1, c2, c3, c4⟩, ec⟩ := eqR_nb (R.bind_nb nb)
    rw [ec] at ko
    exact ⟨_, _, h1 F H (Le.refl F) hf c1, h2 F H (Le.refl F) hf c2, c3, c4, ko _ _ F H rfl (Le.refl F) hf (.bl _)⟩
end
end Kr

/-! KrD: what is walked, comprehensions, statements by data. -/
namespace Kr
open PySem PySem.Spec PyProof.Rows L2
open Enc (toD)

/-! ### what is walked -/
/-- J gives the items xs, one after the other -/
def Itm {α : Type} [Enc α] (cf : Cf) (J : It) (F1 : Hp) (xs : List α) : Prop := ∀ (i : Nat) (F O H : Hp), Le F1 F → Fm F O H →
  (∀ x, xs[i]? = some x → J.go i H ∧ ∀ v H', J.yld i H v H' → ∃ F', Le F F' ∧ Fm F' O H' ∧ Dr cf.K F' v (toD x)) ∧ (xs.length ≤ i → J.stop i H)
def IG {α : Type} [Enc α] (cf : Cf) (E : XK) (wi : TI) (G : List Sl) (m : R (List α)) : Prop :=
  ∀ (F O H : Hp) (σ : L2.St) (Q : It → Hp → Prop), Fm F O H → Er cf.K F O σ G → m ≠ .bad →
    (∀ xs J F' H', m = .ok xs → Le F F' → Fm F' O H' → Itm cf J F' xs → Q J H') →
    (∀ c p d F' H', m = .er c p → Le F F' → Fm F' O H' → F' d = some (xdO cf c p) → E (.ref (cf.cls c)) (some d) H') → wi σ H Q
section
variable {cf : Cf} {E : XK} {G : List Sl} {α β γ δ : Type} {ta tb : TE}
/-- a list that stays as it is -/
def RZ [Enc α] (cf : Cf) (F O H : Hp) (v : V) (xs : List α) : Prop := ∃ a vs, v = .ref a ∧ SqL cf.K F a vs ∧ DrA cf.K F vs (xs.map toD)
abbrev EZ [Enc α] (cf : Cf) (E : XK) (t : TE) (G : List Sl) (m : R (List α)) : Prop := EG cf E t G m (RZ cf)
theorem rz_mono [Enc α] (F O H F' H' : Hp) (r : V) (a : List α) (le : Le F F') (_ : Fm F' O H') (h : RZ cf F O H r a) : RZ cf F' O H' r a := by
  obtain ⟨a, vs, e, h1, h2⟩ := h
  exact ⟨a, vs, e, le.seq h1, h2.mono le⟩
theorem EM.toZ [Enc α] {m : R (List α)} (h : EM cf E ta G m) : EZ cf E ta G m := EG.imp h fun F O H v xs _ r => by
  obtain ⟨a, vs, e, h1, h2⟩ := dr_lst r
  exact ⟨a, vs, e, SqL.of h1, h2⟩
theorem EF.toZ [Enc α] {m : R (List α)} (h : EF cf E ta G m) : EZ cf E ta G m := EM.toZ (EF.toM h)
theorem EM.scrZ {t : TE} {m : R Scr} (h : EM cf E t G m) : EZ cf E t G (m.bind fun s => .ok s.ns) := fun F O H σ Q hf he nb ko ke => by
  refine h F O H σ Q hf he (R.bind_nb nb) (fun s v F' H' e le hf' hr => ?_) (fun c p d F' H' e => ke c p d F' H' (by rw [e]; rfl))
  obtain ⟨a, ea, hs⟩ := dr_scr (ns := s.ns) hr
  exact ko s.ns _ F' H' (by rw [e]; rfl) le hf' ⟨a, _, ea, hs, drA_ints s.ns⟩
theorem drA_at [Enc α] {K : PySem.W.Frag} {F : Hp} {vs : List V} {xs : List α} (h : DrA K F vs (xs.map toD)) {i : Nat} {x : α} (e : xs[i]? = some x) : ∃ v, vs[i]? = some v ∧ Dr K F v (toD x) := h.get (by rw [List.getElem?_map, e]; rfl)
theorem ig_list [Enc α] {m : R (List α)} (h : EZ cf E ta G m) : IG cf E (iList cf.K ta) G m := fun F O H σ Q hf he nb ko ke =>
  h F O H σ _ hf he nb (fun xs v F' H' e le hf' hr => by
    obtain ⟨a, vs, ev, hs, hd⟩ := hr
    refine ⟨a, ev, ⟨vs, hf'.f.seq hs⟩, ko xs _ F' H' e le hf' fun i F2 O2 H2 le2 hf2 => ⟨fun x hx => ?_, fun hi => ⟨vs, (le2.trans hf2.f).seq hs, ?_⟩⟩⟩
    · obtain ⟨w', hw, rw'⟩ := drA_at hd hx
      exact ⟨⟨vs, w', (le2.trans hf2.f).seq hs, hw⟩, fun v H3 hy => ⟨F2, Le.refl F2, by rw [hy.1]; exact hf2, by
        have q := hy.2 vs ((le2.trans hf2.f).seq hs)
        rw [hw] at q
        rw [← Option.some.inj q]
        exact rw'.mono le2⟩⟩
    · rw [hd.length, List.length_map]
      exact hi) ke
/-- lo, lo + 1, .. -/
def seqI (lo : Int) (n : Nat) : List Int := (List.range n).map fun (i : Nat) => lo + (i : Int)
/-- lo, lo + c, .. -/
def seqC (lo c : Int) (n : Nat) : List Int := (List.range n).map fun (i : Nat) => lo + (i : Int) * c
theorem seqI_get (lo : Int) (n i : Nat) : (seqI lo n)[i]? = if i < n then some (lo + (i : Int)) else none := by
  unfold seqI
  rw [List.getElem?_map]
  by_cases h : i < n
  · rw [if_pos h, List.getElem?_range h]
    rfl
  · rw [if_neg h, List.getElem?_eq_none (by rw [List.length_range]; omega)]
    rfl
theorem seqC_get (lo c : Int) (n i : Nat) : (seqC lo c n)[i]? = if i < n then some (lo + (i : Int) * c) else none := by
  unfold seqC
  rw [List.getElem?_map]
  by_cases h : i < n
  · rw [if_pos h, List.getElem?_range h]
    rfl
  · rw [if_neg h, List.getElem?_eq_none (by rw [List.length_range]; omega)]
    rfl
theorem seqI_len (lo : Int) (n : Nat) : (seqI lo n).length = n := by simp [seqI]
theorem seqC_len (lo c : Int) (n : Nat) : (seqC lo c n).length = n := by simp [seqC]
theorem itm_seqI (F1 : Hp) (lo : Int) (n : Nat) : Itm cf (Itr lo n) F1 (seqI lo n) := fun i F O H le hf => ⟨fun x hx => by
    rw [seqI_get] at hx
    split at hx
    · rename_i c
      cases hx
      exact ⟨c, fun v H' hy => ⟨F, Le.refl F, by rw [hy.1]; exact hf, by rw [hy.2]; exact .int _⟩⟩
    · exact (nomatch hx),
  fun hi => by
    rw [seqI_len] at hi
    exact hi⟩
theorem itm_seqC (F1 : Hp) (lo c : Int) (n : Nat) : Itm cf (Itc lo c n) F1 (seqC lo c n) := fun i F O H le hf => ⟨fun x hx => by
    rw [seqC_get] at hx
    split at hx
    · rename_i c
      cases hx
      exact ⟨c, fun v H' hy => ⟨F, Le.refl F, by rw [hy.1]; exact hf, by rw [hy.2]; exact .int _⟩⟩
    · exact (nomatch hx),
  fun hi => by
    rw [seqC_len] at hi
    exact hi⟩
def rng1R (n : Int) : R (List Int) := if -(2 ^ 62) ≤ n ∧ n < 2 ^ 62 then .ok (seqI 0 n.toNat) else .bad
def rng2R (a b : Int) : R (List Int) := if -(2 ^ 62) ≤ a ∧ a < 2 ^ 62 ∧ -(2 ^ 62) ≤ b ∧ b < 2 ^ 62 then .ok (seqI a (b - a).toNat) else .bad
theorem ig_range1 {m : R Int} (h : EM cf E ta G m) : IG cf E (iRng1 (tCons ta tNil)) G (m.bind rng1R) := fun F O H σ Q hf he nb ko ke =>
  h F O H σ _ hf he (R.bind_nb nb) (fun n v F' H' e le hf' hr => by
    rw [e, R.ok_bind] at nb ko
    unfold rng1R at nb ko
    split at nb
    · rename_i c
      rw [if_pos c] at ko
      exact ⟨n, by rw [dr_int (i := n) hr], c.1, c.2, ko _ _ F' H' rfl le hf' (itm_seqI F' 0 n.toNat)⟩
    · exact absurd rfl nb) fun c p d F' H' e => ke c p d F' H' (by rw [e]; rfl)
theorem ig_range2 {m n : R Int} (h : EM cf E ta G m) (h' : EM cf E tb G n) : IG cf E (iRng2 (tCons ta (tCons tb tNil))) G (m.bind fun a => n.bind fun b => rng2R a b) := fun F O H σ Q hf he nb ko ke =>
  EG.bind2 (f := fun a b => rng2R a b) (rel3 := fun F' O' H' J xs => Itm cf J F' xs) (u := fun x y H Q => ∃ i j : Int, [x, y] = [V.int i, V.int j] ∧ (-(2 ^ 62) ≤ i ∧ i < 2 ^ 62 ∧ -(2 ^ 62) ≤ j ∧ j < 2 ^ 62) ∧ Q (Itr i (j - i).toNat) H) h h' rm_mono
    (fun F O H Q a r b s hf h1 h2 nb ko => by
      unfold rng2R at nb ko
      split at nb
      · rename_i c
        rw [if_pos c] at ko
        exact ⟨a, b, by rw [dr_int (i := a) h1, dr_int (i := b) h2], c, ko _ _ F H rfl (Le.refl F) hf (itm_seqI F a _)⟩
      · exact absurd rfl nb) F O H σ Q hf he nb (fun xs J F' H' => ko xs J F' H') ke
/-- range(a, b, c), c written: 1 or more, or -1 -/
def rng3R (a b c : Int) : R (List Int) := if -(2 ^ 62) ≤ a ∧ a < 2 ^ 62 ∧ -(2 ^ 62) ≤ b ∧ b < 2 ^ 62 then (if c = -1 then .ok (seqC a (-1) (a - b).toNat) else
    if 0 < c ∧ c < 1073741824 ∧ Builtin.Range.small a b c = true then .ok (seqC a c (Builtin.Range.rangeSize a b c).toNat) else .bad) else .bad
theorem rangeSize_nn (a b c : Int) (h : 0 < c) : 0 ≤ Builtin.Range.rangeSize a b c := by
  unfold Builtin.Range.rangeSize
  split
  · split
    · have : 0 ≤ (b - a - 1) / c := Int.ediv_nonneg (by omega) (by omega)
      omega
    · exact Int.le_refl 0
  · omega
theorem rgC_of {a b c : Int} {xs : List Int} (h : rng3R a b c = .ok xs) : ∃ n, RgC a b c n ∧ xs = seqC a c n := by
  unfold rng3R at h
  split at h
  · rename_i q
    split at h
    · rename_i e
      subst e
      cases h
      exact ⟨_, RgC.neg q.1 q.2.1 q.2.2.1 q.2.2.2, rfl⟩
    · split at h
      · rename_i q2
        cases h
        refine ⟨_, ⟨by omega, by omega, q2.2.2, ?_⟩, rfl⟩
        have := rangeSize_nn a b c q2.1
        omega
      · cases h
  · cases h
theorem ig_range3 {tc : TE} {m n l : R Int} (h : EM cf E ta G m) (h' : EM cf E tb G n) (h'' : EM cf E tc G l) : IG cf E (iRng3 (tCons ta (tCons tb (tCons tc tNil)))) G (m.bind fun a => n.bind fun b => l.bind fun c => rng3R a b c) := fun F O H σ Q hf he nb ko ke =>
  EG.bind3 (f := fun a b c => rng3R a b c) (rel4 := fun F' O' H' J xs => Itm cf J F' xs) (u := fun x y z H Q => ∃ (i j c : Int) (n : Nat), [x, y, z] = [V.int i, V.int j, V.int c] ∧ RgC i j c n ∧ Q (Itc i c n) H) h h' h'' rm_mono rm_mono
    (fun F O H Q a r b s c t hf h1 h2 h3 nb ko => by
      cases q : rng3R a b c with
      | bad => exact absurd q nb
      | er c p =>
        unfold rng3R at q
        split at q
        · split at q
          · cases q
          · split at q <;> cases q
        · cases q
      | ok xs =>
        obtain ⟨n, hn, hx⟩ := rgC_of q
        refine ⟨a, b, c, n, by rw [dr_int (i := a) h1, dr_int (i := b) h2, dr_int (i := c) h3], hn, ko xs _ F H q (Le.refl F) hf ?_⟩
        rw [hx]
        exact itm_seqC F a c n) F O H σ Q hf he nb (fun xs J F' H' => ko xs J F' H') ke
/-- the pairs (0, x0), (1, x1), .. -/
def enumL (xs : List α) : List (Int × α) := xs.zipIdx.map fun p => ((p.2 : Int), p.1)
theorem enumL_get (xs : List α) (i : Nat) : (enumL xs)[i]? = xs[i]?.map fun x => ((i : Int), x) := by
  unfold enumL
  rw [List.getElem?_map, List.getElem?_zipIdx]
  cases xs[i]? <;> simp
theorem enumL_len (xs : List α) : (enumL xs).length = xs.length := by simp [enumL]
theorem ig_enum [Enc α] {m : R (List α)} (h : EZ cf E ta G m) : IG cf E (iEnum cf.K (tCons ta tNil)) G (m.bind fun xs => .ok (enumL xs)) := fun F O H σ Q hf he nb ko ke =>
  h F O H σ _ hf he (R.bind_nb nb) (fun xs v F' H' e le hf' hr => by
    rw [e, R.ok_bind] at ko
    obtain ⟨a, vs, ev, hs, hd⟩ := hr
    refine ⟨a, vs, by rw [ev], hf'.f.seq hs, ko _ _ F' H' rfl le hf' fun i F2 O2 H2 le2 hf2 => ⟨fun x hx => ?_, fun hi => ⟨vs, (le2.trans hf2.f).seq hs, ?_⟩⟩⟩
    · rw [enumL_get] at hx
      cases q : xs[i]? with
      | none =>
        rw [q] at hx
        cases hx
      | some y =>
        rw [q] at hx
        cases hx
        obtain ⟨w', hw, rw'⟩ := drA_at hd q
        refine ⟨⟨vs, w', (le2.trans hf2.f).seq hs, hw⟩, fun v H3 hy => ?_⟩
        obtain ⟨T, x, ev, hT, rfl, hx⟩ := hy
        have q2 := hx vs ((le2.trans hf2.f).seq hs)
        rw [hw] at q2
        have e2 := Option.some.inj q2
        subst e2
        subst ev
        exact ⟨upd F2 T (.tup [.int (i : Nat), w']), Le.new (hf2.fnone hT), hf2.newF hT, .tup upd_same (.cons (.int _) (.cons (rw'.mono (le2.trans (Le.new (hf2.fnone hT)))) .nil))⟩
    · rw [enumL_len] at hi
      rw [hd.length, List.length_map]
      exact hi) fun c p d F' H' e => ke c p d F' H' (by rw [e]; rfl)
theorem ig_zip [Enc α] [Enc β] {m : R (List α)} {n : R (List β)} (h : EZ cf E ta G m) (h' : EZ cf E tb G n) : IG cf E (iZip cf.K (tCons ta (tCons tb tNil))) G (m.bind fun xs => n.bind fun ys => .ok (xs.zip ys)) := fun F O H σ Q hf he nb ko ke =>
  EG.bind2 (f := fun (xs : List α) (ys : List β) => R.ok (xs.zip ys)) (rel3 := fun F' O' H' J xs => Itm cf J F' xs) (u := fun x y H Q => ∃ a b xs ys, [x, y] = [V.ref a, V.ref b] ∧ SqL cf.K H a xs ∧ SqL cf.K H b ys ∧ Q (Itz cf.K a b) H) h h' rz_mono
    (fun F O H Q xs r ys s hf h1 h2 nb ko => by
      obtain ⟨a, vs, ev, hs, hd⟩ := h1
      obtain ⟨b, ws, ew, hs', hd'⟩ := h2
      refine ⟨a, b, vs, ws, by rw [ev, ew], hf.f.seq hs, hf.f.seq hs', ko _ _ F H rfl (Le.refl F) hf fun i F2 O2 H2 le2 hf2 => ⟨fun x hx => ?_, fun hi => ⟨vs, ws, (le2.trans hf2.f).seq hs, (le2.trans hf2.f).seq hs', ?_⟩⟩⟩
      · rw [List.getElem?_zip_eq_some] at hx
        obtain ⟨v1, hv1, r1⟩ := drA_at hd hx.1
        obtain ⟨v2, hv2, r2⟩ := drA_at hd' hx.2
        refine ⟨⟨vs, ws, v1, v2, (le2.trans hf2.f).seq hs, (le2.trans hf2.f).seq hs', hv1, hv2⟩, fun v H3 hy => ?_⟩
        obtain ⟨T, x1, x2, ev, hT, rfl, hx1, hx2⟩ := hy
        have q1 := hx1 vs ((le2.trans hf2.f).seq hs)
        have q2 := hx2 ws ((le2.trans hf2.f).seq hs')
        rw [hv1] at q1
        rw [hv2] at q2
        obtain rfl := Option.some.inj q1
        obtain rfl := Option.some.inj q2
        subst ev
        have l3 := le2.trans (Le.new (o := .tup [v1, v2]) (hf2.fnone hT))
        exact ⟨upd F2 T (.tup [v1, v2]), Le.new (hf2.fnone hT), hf2.newF hT, .tup upd_same (.cons (r1.mono l3) (.cons (r2.mono l3) .nil))⟩
      · rw [List.length_zip] at hi
        rw [hd.length, List.length_map, hd'.length, List.length_map]
        omega) F O H σ Q hf he nb (fun xs J F' H' => ko xs J F' H') ke
theorem ig_rev [Enc α] {m : R (List α)} (h : EZ cf E ta G m) : IG cf E (iRev cf.K (tCons ta tNil)) G (m.bind fun xs => .ok xs.reverse) := fun F O H σ Q hf he nb ko ke =>
  h F O H σ _ hf he (R.bind_nb nb) (fun xs v F' H' e le hf' hr => by
    rw [e, R.ok_bind] at ko
    obtain ⟨a, vs, ev, hs, hd⟩ := hr
    have hl : vs.length = xs.length := by rw [hd.length, List.length_map]
    refine ⟨a, vs, by rw [ev], hf'.f.seq hs, ko _ _ F' H' rfl le hf' fun i F2 O2 H2 le2 hf2 => ⟨fun x hx => ?_, fun hi => ?_⟩⟩
    · have hi : i < xs.length := by
        have := (List.getElem?_eq_some_iff.mp hx).1
        rw [List.length_reverse] at this
        exact this
      rw [List.getElem?_reverse hi] at hx
      obtain ⟨w', hw, rw'⟩ := drA_at hd hx
      rw [← hl] at hw
      refine ⟨⟨by omega, vs, w', (le2.trans hf2.f).seq hs, hw⟩, fun v H3 hy => ⟨F2, Le.refl F2, by rw [hy.1]; exact hf2, ?_⟩⟩
      have q2 := hy.2 vs ((le2.trans hf2.f).seq hs)
      rw [hw] at q2
      rw [← Option.some.inj q2]
      exact rw'.mono le2
    · rw [List.length_reverse] at hi
      show vs.length ≤ i
      omega) fun c p d F' H' e => ke c p d F' H' (by rw [e]; rfl)

/-! ### targets -/
/-- the target stores the data: the slots behind it; js: the slots it stores to -/
def AG [Enc α] (cf : Cf) (g : TG) (up : α → List Sl → List Sl) (js : List Nat) : Prop :=
  ∀ (F O H : Hp) (σ : L2.St) (G : List Sl) (v : V) (a : α) (Q : L2.St → Hp → Prop), Fm F O H → Er cf.K F O σ G → Dr cf.K F v (toD a) →
    (∀ σ', Er cf.K F O σ' (up a G) → (∀ (i : Nat) (s : Sl), (up a G)[i]? = some s → s.own = true → G[i]? = some s ∧ σ'[i]? = σ[i]?) → (∀ vs : List Nat, (∀ j ∈ js, j ∈ vs) → wipe σ' vs = wipe σ vs) → Q σ' H) → g v σ H Q
theorem wipe_set {σ : L2.St} {j : Nat} {y : Option V} : ∀ {vs : List Nat}, j ∈ vs → wipe (σ.set j y) vs = wipe σ vs
  | [], h => by cases h
  | v :: vs, h => by
    show (wipe (σ.set j y) vs).set v none = (wipe σ vs).set v none
    by_cases hj : j ∈ vs
    · rw [wipe_set hj]
    · have e : j = v := by
        rcases List.mem_cons.mp h with e | e
        · exact e
        · exact absurd e hj
      subst e
      have key : ∀ (ws : List Nat), j ∉ ws → wipe (σ.set j y) ws = (wipe σ ws).set j y := by
        intro ws
        induction ws with
        | nil => intro _; rfl
        | cons w ws ih =>
          intro hw
          show (wipe (σ.set j y) ws).set w none = ((wipe σ ws).set w none).set j y
          rw [ih fun z => hw (List.mem_cons_of_mem _ z)]
          exact List.set_comm _ _ fun z => hw (by rw [z]; exact List.mem_cons_self ..)
      rw [key vs hj, List.set_set]
theorem er_set {K : PySem.W.Frag} {F O : Hp} {σ : L2.St} {G : List Sl} (h : Er K F O σ G) (i : Nat) {v : V} {d : Dt} (r : Dr K F v d) : Er K F O (σ.set i (some v)) (G.set i (.va d)) := by
  refine ⟨by rw [List.length_set, List.length_set, h.len], fun j s e => ?_⟩
  by_cases hj : i = j
  · subst hj
    by_cases hl : i < G.length
    · rw [List.getElem?_set_self hl] at e
      cases e
      rw [List.getElem?_set_self (by rw [h.len]; exact hl)]
      exact ⟨v, rfl, r⟩
    · rw [List.getElem?_eq_none (by rw [List.length_set]; omega)] at e
      cases e
  · rw [List.getElem?_set_ne hj] at e ⊢
    exact h.at' j s e
theorem own_set {σ : L2.St} {G : List Sl} {i : Nat} {d : Dt} {y : Option V} {j : Nat} {s : Sl} (e : (G.set i (.va d))[j]? = some s) (o : s.own = true) : G[j]? = some s ∧ (σ.set i y)[j]? = σ[j]? := by
  by_cases hj : i = j
  · subst hj
    by_cases hl : i < G.length
    · rw [List.getElem?_set_self hl] at e
      cases e
      cases o
    · rw [List.getElem?_eq_none (by rw [List.length_set]; omega)] at e
      cases e
  · rw [List.getElem?_set_ne hj] at e
    exact ⟨e, List.getElem?_set_ne hj⟩
theorem ag_name [Enc α] (i : Nat) : AG cf (gName i) (fun (a : α) G => G.set i (.va (toD a))) [i] := fun F O H σ G v a Q hf he r k =>
  k _ (er_set he i r) (fun j s e o => own_set e o) fun vs h => wipe_set (h i (by simp))
theorem ag_t2 [Enc α] [Enc β] {g1 g2 : TG} {u1 : α → List Sl → List Sl} {u2 : β → List Sl → List Sl} {j1 j2 : List Nat} (h1 : AG cf g1 u1 j1) (h2 : AG cf g2 u2 j2) :
    AG cf (gTup cf.K 2 (gCons g1 (gCons g2 gNil))) (fun (p : α × β) G => u2 p.2 (u1 p.1 G)) (j1 ++ j2) := fun F O H σ G v p Q hf he r k => by
  obtain ⟨a, vs, rfl, ht, hd⟩ := dr_tup (ds := [toD p.1, toD p.2]) r
  obtain ⟨v1, r1, rfl, d1, hd⟩ := drA_cons hd
  obtain ⟨v2, r2, rfl, d2, hd⟩ := drA_cons hd
  rw [drA_nil hd] at ht
  refine ⟨a, [v1, v2], rfl, SqT.of (hf.f _ _ ht), rfl, v1, [v2], rfl, h1 F O H σ G v1 p.1 _ hf he d1 fun σ1 e1 o1 w1 => ⟨v2, [], rfl, h2 F O H σ1 _ v2 p.2 _ hf e1 d2 fun σ2 e2 o2 w2 => ⟨rfl, k σ2 e2 (fun i s e o => ?_) fun vs hv => ?_⟩⟩⟩
  · obtain ⟨q1, q2⟩ := o2 i s e o
    obtain ⟨q3, q4⟩ := o1 i s q1 o
    exact ⟨q3, q2.trans q4⟩
  · rw [w2 vs fun j hj => hv j (by simp [hj]), w1 vs fun j hj => hv j (by simp [hj])]
theorem ag_t3 [Enc α] [Enc β] [Enc γ] {g1 g2 g3 : TG} {u1 : α → List Sl → List Sl} {u2 : β → List Sl → List Sl} {u3 : γ → List Sl → List Sl} {j1 j2 j3 : List Nat} (h1 : AG cf g1 u1 j1) (h2 : AG cf g2 u2 j2) (h3 : AG cf g3 u3 j3) :
    AG cf (gTup cf.K 3 (gCons g1 (gCons g2 (gCons g3 gNil)))) (fun (p : T3 α β γ) G => u3 p.c (u2 p.b (u1 p.a G))) (j1 ++ (j2 ++ j3)) := fun F O H σ G v p Q hf he r k => by
  obtain ⟨a, vs, rfl, ht, hd⟩ := dr_tup (ds := [toD p.a, toD p.b, toD p.c]) r
  obtain ⟨v1, r1, rfl, d1, hd⟩ := drA_cons hd
  obtain ⟨v2, r2, rfl, d2, hd⟩ := drA_cons hd
  obtain ⟨v3, r3, rfl, d3, hd⟩ := drA_cons hd
  rw [drA_nil hd] at ht
  refine ⟨a, [v1, v2, v3], rfl, SqT.of (hf.f _ _ ht), rfl, v1, [v2, v3], rfl, h1 F O H σ G v1 p.a _ hf he d1 fun σ1 e1 o1 w1 => ⟨v2, [v3], rfl, h2 F O H σ1 _ v2 p.b _ hf e1 d2 fun σ2 e2 o2 w2 => ⟨v3, [], rfl, h3 F O H σ2 _ v3 p.c _ hf e2 d3 fun σ3 e3 o3 w3 => ⟨rfl, k σ3 e3 (fun i s e o => ?_) fun vs hv => ?_⟩⟩⟩⟩
  · obtain ⟨q1, q2⟩ := o3 i s e o
    obtain ⟨q3, q4⟩ := o2 i s q1 o
    obtain ⟨q5, q6⟩ := o1 i s q3 o
    exact ⟨q5, q2.trans (q4.trans q6)⟩
  · rw [w3 vs fun j hj => hv j (by simp [hj]), w2 vs fun j hj => hv j (by simp [hj]), w1 vs fun j hj => hv j (by simp [hj])]

/-! ### comprehensions -/
def compR (ft : α → R Bool) (fe : α → R β) : List α → R (List β)
  | [] => .ok []
  | x :: r => (ft x).pu.bind fun b => if b = true then (fe x).pu.bind fun y => (compR ft fe r).bind fun ys => .ok (y :: ys) else compR ft fe r
def lcR (ft : α → R Bool) (fe : α → R β) (xs : List α) : R (List β) := (szR xs).bind fun xs => compR ft fe xs
def wipeG (G : List Sl) : List Nat → List Sl
  | [] => G
  | v :: vs => (wipeG G vs).set v .un
theorem er_wipe {K : PySem.W.Frag} {F O : Hp} {σ : L2.St} {G : List Sl} (h : Er K F O σ G) : ∀ vs : List Nat, Er K F O (wipe σ vs) (wipeG G vs)
  | [] => h
  | v :: vs => by
    have ih := er_wipe h vs
    refine ⟨by show ((wipe σ vs).set v none).length = ((wipeG G vs).set v .un).length; rw [List.length_set, List.length_set, ih.len], fun j s e => ?_⟩
    have e' : ((wipeG G vs).set v .un)[j]? = some s := e
    show SlOk K F O ((wipe σ vs).set v none)[j]? s
    by_cases hj : v = j
    · subst hj
      by_cases hl : v < (wipeG G vs).length
      · rw [List.getElem?_set_self hl] at e'
        cases e'
        exact trivial
      · rw [List.getElem?_eq_none (by rw [List.length_set]; omega)] at e'
        cases e'
    · rw [List.getElem?_set_ne hj] at e' ⊢
      exact ih.at' j s e'
theorem SlOk.monoO {K : PySem.W.Frag} {F O O' : Hp} {x : Option (Option V)} (e : Le O O') : ∀ {s : Sl}, SlOk K F O x s → SlOk K F O' x s
  | .un, _ => trivial
  | .va _, h => h
  | .ol _, ⟨a, vs, h1, h2, h3⟩ => ⟨a, vs, h1, e _ _ h2, h3⟩
  | .od _, ⟨a, vs, h1, h2, h3⟩ => ⟨a, vs, h1, e _ _ h2, h3⟩
  | .pv _, h => h
theorem Er.monoO {K : PySem.W.Frag} {F O O' : Hp} {σ : L2.St} {G : List Sl} (h : Er K F O σ G) (e : Le O O') : Er K F O' σ G := ⟨h.len, fun i s q => (h.at' i s q).monoO e⟩
theorem Fm.weak {F O O' H : Hp} (h : Fm F O' H) (e : Le O O') : Fm F O H := ⟨h.f, e.trans h.o, fun p q => e.free (h.ds p q)⟩
/-- a new object that is ours -/
theorem Fm.newO {F O H : Hp} (h : Fm F O H) {p : Addr} {o : HO} (e : H p = none) : Fm F (upd O p o) (upd H p o) := by
  refine ⟨h.f.trans (Le.new e), fun a u q => ?_, fun a q => ?_⟩
  · by_cases ha : a = p
    · subst ha
      rw [upd_same] at q ⊢
      exact q
    · rw [upd_ne ha] at q ⊢
      exact h.o a u q
  · have ha : a ≠ p := fun z => q (by rw [z]; exact h.fnone e)
    rw [upd_ne ha]
    exact h.ds a q
/-- what is ours changes -/
theorem Fm.wr {F O H : Hp} (h : Fm F O H) {p : Addr} {o u : HO} (e : O p = some u) : Fm F (upd O p o) (upd H p o) := by
  have hF := h.own e
  refine ⟨fun a v q => ?_, fun a v q => ?_, fun a q => ?_⟩
  · rw [upd_ne (ne_of_none q hF)]
    exact h.f a v q
  · by_cases ha : a = p
    · subst ha
      rw [upd_same] at q ⊢
      exact q
    · rw [upd_ne ha] at q ⊢
      exact h.o a v q
  · have ha : a ≠ p := fun z => q (by rw [z]; exact hF)
    rw [upd_ne ha]
    exact h.ds a q
theorem pu_ok {m : R α} {a : α} (h : m.pu = .ok a) : m = .ok a := by
  cases m with
  | ok b => exact congrArg R.ok (R.ok.inj h)
  | er c p => cases h
  | bad => cases h
theorem pu_nb {m : R α} (h : m.pu ≠ .bad) : ∃ a, m = .ok a := by
  cases m with
  | ok b => exact ⟨b, rfl⟩
  | er c p => exact absurd rfl h
  | bad => exact absurd rfl h
/-- [e for target in .. if t] -/
theorem ef_lc [Enc α] [Enc β] {wi : TI} {g : TG} {tt : TT} {te : TE} {vs js : List Nat} {m : R (List α)} {ft : α → R Bool} {fe : α → R β} {up : α → List Sl → List Sl} {Gi : α → List Sl} (hi : IG cf E wi G m) (hg : AG cf g up js)
    (hj : ∀ j ∈ js, j ∈ vs) (hG : ∀ a, up a (wipeG G vs) = Gi a) (ht : ∀ a, EB cf E0 tt (Gi a) (ft a)) (he : ∀ a, EM cf E0 te (Gi a) (fe a)) : EF cf E (tLc wi g tt te vs) G (m.bind (lcR ft fe)) := fun F O H σ Q hf hE nb ko ke =>
  hi F O H σ _ hf hE (R.bind_nb nb) (fun xs J F1 H1 em le1 hf1 hJ D hD => by
    rw [em, R.ok_bind] at nb ko
    obtain ⟨hz, ez⟩ := szR_nb (R.bind_nb nb)
    have etot : lcR ft fe xs = compR ft fe xs := by
      unfold lcR
      rw [ez]
      rfl
    rw [etot] at nb ko
    have hE1 : Er cf.K F1 O σ G := hE.mono le1
    let W : Nat → Nat → Hp → Prop := fun i mm H => mm = xs.length - i ∧ i ≤ xs.length ∧ ∃ (F2 : Hp) (ws : List V) (acc : List β), Le F1 F2 ∧ Fm F2 (upd O D (.lst ws)) H ∧ DrA cf.K F2 ws (acc.map toD) ∧ acc.length ≤ i ∧ (compR ft fe (xs.drop i)).bind (fun ys => .ok (acc ++ ys)) = compR ft fe xs
    refine ⟨W, ⟨xs.length, by simp, Nat.zero_le _, F1, [], [], Le.refl F1, hf1.newO hD, .nil, Nat.le_refl _, by rw [List.drop_zero]; simp only [List.nil_append]; exact R.bind_ok _⟩, ?_⟩
    rintro i mm H2 ⟨rfl, hi, F2, ws, acc, le2, hf2, hd, hacc, tot⟩
    have hO1 : O D = none := hf1.onone hD
    have leO : Le O (upd O D (.lst ws)) := Le.new hO1
    by_cases hlt : i < xs.length
    · have hx : xs[i]? = some xs[i] := List.getElem?_eq_getElem hlt
      rw [List.drop_eq_getElem_cons hlt] at tot
      rw [← tot] at nb
      have nbc := R.bind_nb nb
      obtain ⟨b, eb⟩ := pu_nb (R.bind_nb nbc)
      obtain ⟨hgo, hyl⟩ := (hJ i F2 (upd O D (.lst ws)) H2 le2 hf2).1 _ hx
      refine .inr ⟨hgo, fun H' => W (i + 1) (xs.length - (i + 1)) H', fun H' h' => ⟨_, by omega, h'⟩, fun v H3 hy => ?_⟩
      obtain ⟨F3, le3, hf3, hv⟩ := hyl v H3 hy
      refine hg F3 _ H3 _ _ v xs[i] _ hf3 (er_wipe ((hE1.mono (le2.trans le3)).monoO leO) vs) hv fun σ2 e2 _ w2 => ⟨?_, ?_⟩
      · rw [w2 vs hj]
        have key : ∀ (us : List Nat) (τ : L2.St), (∀ u ∈ us, u ∈ vs) → wipe (wipe σ us) vs = wipe σ vs := by
          intro us
          induction us with
          | nil => intro _ _; rfl
          | cons u us ih =>
            intro τ hu
            show wipe ((wipe σ us).set u none) vs = wipe σ vs
            rw [wipe_set (hu u (by simp)), ih τ fun z hz => hu z (by simp [hz])]
        exact key vs σ fun u hu => hu
      · rw [hG] at e2
        refine ht xs[i] F3 _ H3 σ2 _ hf3 e2 (by rw [eb]; intro z; cases z) (fun b' r F4 H4 eb' le4 hf4 hr => ?_) (fun c p d F4 H4 e => by rw [eb] at e; cases e)
        rw [eb] at eb'
        cases eb'
        obtain rfl : r = b := hr
        rw [show compR ft fe (xs[i] :: xs.drop (i + 1)) = (ft xs[i]).pu.bind fun b => if b = true then (fe xs[i]).pu.bind fun y => (compR ft fe (xs.drop (i + 1))).bind fun ys => .ok (y :: ys) else compR ft fe (xs.drop (i + 1)) from rfl, eb, R.ok_pu, R.ok_bind] at tot nbc
        cases r with
        | false =>
          rw [if_neg Bool.false_ne_true] at tot
          rw [if_neg Bool.false_ne_true]
          exact ⟨rfl, hlt, F4, ws, acc, (le2.trans le3).trans le4, hf4, hd.mono (le3.trans le4), by omega, tot⟩
        | true =>
          rw [if_pos rfl] at tot nbc
          rw [if_pos rfl]
          obtain ⟨y, ey⟩ := pu_nb (R.bind_nb nbc)
          refine he xs[i] F4 _ H4 σ2 _ hf4 (e2.mono le4) (by rw [ey]; intro z; cases z) (fun y' u F5 H5 ey' le5 hf5 hu => ?_) (fun c p d F5 H5 e => by rw [ey] at e; cases e)
          rw [ey] at ey'
          cases ey'
          rw [ey, R.ok_pu, R.ok_bind] at tot
          refine ⟨ws, hf5.o D _ upd_same, ?_, rfl, hlt, F5, ws ++ [u], acc ++ [y], ((le2.trans le3).trans le4).trans le5, ?_, ?_, by rw [List.length_append]; simp; omega, ?_⟩
          · rw [hd.length, List.length_map]
            exact sz_ltM (by omega)
          · have q := hf5.wr (o := .lst (ws ++ [u])) upd_same
            rw [upd_upd] at q
            exact q
          · rw [List.map_append]
            exact (hd.mono ((le3.trans le4).trans le5)).append (.cons hu .nil)
          · rw [← tot, R.bind_bind]
            simp only [R.ok_bind, List.append_assoc, List.cons_append, List.nil_append]
    · have e : i = xs.length := by omega
      subst e
      rw [List.drop_length] at tot
      have tot2 : compR ft fe xs = .ok acc := by
        rw [← tot]
        show R.ok (acc ++ []) = _
        rw [List.append_nil]
      have hFD : F2 D = none := hf2.own (o := .lst ws) upd_same
      exact .inl ⟨(hJ _ F2 (upd O D (.lst ws)) H2 le2 hf2).2 (Nat.le_refl _), ko acc _ F2 H2 tot2 (le1.trans le2) (hf2.weak leO) ⟨D, ws, rfl, hFD, hO1, hf2.o D _ upd_same, hd⟩⟩) fun c p d F' H' e => ke c p d F' H' (by rw [e]; rfl)
theorem eb_yes : EB cf E tYes G (.ok true) := EG.fin fun F O H σ Q hf he ko => ko _ F H (Le.refl F) hf rfl
end
end Kr

/-! KrE: statements by data, defs' promises. -/
namespace Kr
open PySem PySem.Spec PyProof.Rows L2
open Enc (toD)

/-- how a block ends: behind it, by break, by return -/
inductive Fl (S ρ : Type) where
  | nx (s : S)
  | bk (s : S)
  | rt (r : ρ)
def seqF {S T ρ : Type} (m : R (Fl S ρ)) (k : S → R (Fl T ρ)) : R (Fl T ρ) := m.bind fun
  | .nx s => k s
  | .bk _ => .bad
  | .rt r => .ok (.rt r)
def Mt (K : PySem.W.Frag) (F O H : Hp) (σ : L2.St) (G : List Sl) : Prop := ∃ O', Le O O' ∧ Fm F O' H ∧ Er K F O' σ G ∧
  (∀ (i : Nat) (s : Sl) (a : Addr), G[i]? = some s → s.own = true → σ[i]? = some (some (.ref a)) → O a = none) ∧
  (∀ (i j : Nat) (s t : Sl) (a : Addr), i ≠ j → G[i]? = some s → G[j]? = some t → s.own = true → t.own = true → σ[i]? = some (some (.ref a)) → σ[j]? = some (some (.ref a)) → False)
theorem Mt.fm {K : PySem.W.Frag} {F O H : Hp} {σ : L2.St} {G : List Sl} (h : Mt K F O H σ G) : Fm F O H := let ⟨_, l, f, _⟩ := h; f.weak l
def SB {S ρ : Type} [Enc ρ] (cf : Cf) (E : XK) (ts : TS) (G : List Sl) (enc : S → List Sl) (m : R (Fl S ρ)) : Prop :=
  ∀ (F O H : Hp) (σ : L2.St) (D : Ends), Mt cf.K F O H σ G → m ≠ .bad →
    (∀ s F' H' σ', m = .ok (.nx s) → Le F F' → Mt cf.K F' O H' σ' (enc s) → D.nx σ' H') →
    (∀ s F' H' σ', m = .ok (.bk s) → Le F F' → Mt cf.K F' O H' σ' (enc s) → D.bk σ' H') →
    (∀ r v F' H', m = .ok (.rt r) → Le F F' → Fm F' O H' → Dr cf.K F' v (toD r) → D.rt v H') →
    (∀ c p d F' H', m = .er c p → Le F F' → Fm F' O H' → F' d = some (xdO cf c p) → E (.ref (cf.cls c)) (some d) H') → ts D σ H
section
variable {cf : Cf} {E : XK} {G G' : List Sl} {S T α β γ ρ : Type} [Enc ρ] {ta tb te : TE} {t u : TS} {tc : TT} {enc : S → List Sl} {D : Ends}
theorem SB.cast {m n : R (Fl S ρ)} (h : SB cf E t G enc m) (e : m = n) : SB cf E t G enc n := e ▸ h
/-- an expression, then what comes with its value -/
theorem sb_of {α τ : Type} {r : L2.St → Hp → (τ → Hp → Prop) → Prop} {m : R α} {rel : Hp → Hp → Hp → τ → α → Prop} {f : α → R (Fl S ρ)} {k : τ → TS} (h : EG cf E r G m rel)
    (hk : ∀ (F O O' H : Hp) (σ : L2.St) (D : Ends) (a : α) (v : τ), Le O O' → Fm F O' H → Er cf.K F O' σ G →
      (∀ (i : Nat) (s : Sl) (a : Addr), G[i]? = some s → s.own = true → σ[i]? = some (some (.ref a)) → O a = none) →
      (∀ (i j : Nat) (s t : Sl) (a : Addr), i ≠ j → G[i]? = some s → G[j]? = some t → s.own = true → t.own = true → σ[i]? = some (some (.ref a)) → σ[j]? = some (some (.ref a)) → False) →
      rel F O' H v a → f a ≠ .bad →
      (∀ s F' H' σ', f a = .ok (.nx s) → Le F F' → Mt cf.K F' O H' σ' (enc s) → D.nx σ' H') →
      (∀ s F' H' σ', f a = .ok (.bk s) → Le F F' → Mt cf.K F' O H' σ' (enc s) → D.bk σ' H') →
      (∀ r v F' H', f a = .ok (.rt r) → Le F F' → Fm F' O H' → Dr cf.K F' v (toD r) → D.rt v H') →
      (∀ c p d F' H', f a = .er c p → Le F F' → Fm F' O H' → F' d = some (xdO cf c p) → E (.ref (cf.cls c)) (some d) H') → k v D σ H) :
    SB cf E (fun D σ H => r σ H fun v H1 => k v D σ H1) G enc (m.bind f) := fun F O H σ D hM nb kn kb kr ke => by
  obtain ⟨O', lo, hf, he, o1, o2⟩ := hM
  refine h F O' H σ _ hf he (R.bind_nb nb) (fun a v F' H' ea le hf' hr => ?_) (fun c p d F' H' e le hf' hd => ke c p d F' H' (by rw [e]; rfl) le (hf'.weak lo) hd)
  rw [ea, R.ok_bind] at nb kn kb kr ke
  exact hk F' O O' H' σ D a v lo hf' (he.mono le) o1 o2 hr nb (fun s F'' H'' σ' e le' => kn s F'' H'' σ' e (le.trans le')) (fun s F'' H'' σ' e le' => kb s F'' H'' σ' e (le.trans le')) (fun r v F'' H'' e le' => kr r v F'' H'' e (le.trans le'))
    fun c p d F'' H'' e le' => ke c p d F'' H'' e (le.trans le')
theorem sb_one {m : R (Fl S ρ)} (h : SB cf E (tSeq t tNext) G enc m) : SB cf E t G enc m := h
theorem sb_assoc {w' : TS} {m : R (Fl S ρ)} (h : SB cf E (tSeq t (tSeq u w')) G enc m) : SB cf E (tSeq (tSeq t u) w') G enc m := h
/-- what is known less -/
inductive Sub : List Sl → List Sl → Prop
  | nil : Sub [] []
  | same {s : Sl} {G G' : List Sl} : Sub G G' → Sub (s :: G) (s :: G')
  | drop {s : Sl} {G G' : List Sl} : Sub G G' → Sub (s :: G) (.un :: G')
theorem Sub.len : ∀ {G G' : List Sl}, Sub G G' → G.length = G'.length
  | _, _, .nil => rfl
  | _, _, .same h => by rw [List.length_cons, List.length_cons, Sub.len h]
  | _, _, .drop h => by rw [List.length_cons, List.length_cons, Sub.len h]
theorem Sub.at : ∀ {G G' : List Sl}, Sub G G' → ∀ (i : Nat) (s : Sl), G'[i]? = some s → s = .un ∨ G[i]? = some s
  | _, _, .nil, i, s, h => by simp at h
  | _, _, .same _, 0, s, h => .inr h
  | _, _, .same q, i + 1, s, h => by
    rcases Sub.at q i s (by simpa using h) with e | e
    · exact .inl e
    · exact .inr (by simpa using e)
  | _, _, .drop _, 0, s, h => by
    simp at h
    exact .inl h.symm
  | _, _, .drop q, i + 1, s, h => by
    rcases Sub.at q i s (by simpa using h) with e | e
    · exact .inl e
    · exact .inr (by simpa using e)
theorem Mt.sub {K : PySem.W.Frag} {F O H : Hp} {σ : L2.St} (q : Sub G G') (h : Mt K F O H σ G) : Mt K F O H σ G' := by
  obtain ⟨O', lo, hf, he, o1, o2⟩ := h
  refine ⟨O', lo, hf, ⟨he.len.trans q.len, fun i s e => ?_⟩, fun i s a e o => ?_, fun i j s t a hij e e' o o' => ?_⟩
  · rcases q.at i s e with z | z
    · rw [z]
      exact trivial
    · exact he.at' i s z
  · rcases q.at i s e with z | z
    · rw [z] at o
      cases o
    · exact o1 i s a z o
  · rcases q.at i s e with z | z
    · rw [z] at o
      cases o
    · rcases q.at j t e' with z' | z'
      · rw [z'] at o'
        cases o'
      · exact o2 i j s t a hij z z' o o'
theorem sb_sub {m : R (Fl S ρ)} (q : Sub G G') (h : SB cf E t G' enc m) : SB cf E t G enc m := fun F O H σ D hM => h F O H σ D (hM.sub q)
theorem sb_next (s : S) (q : Sub G (enc s)) : SB cf E tNext G enc (.ok (.nx s) : R (Fl S ρ)) := fun F O H σ D hM _ kn _ _ _ => kn s F H σ rfl (Le.refl F) (hM.sub q)
theorem sb_break (s : S) (q : Sub G (enc s)) : SB cf E tBreak G enc (.ok (.bk s) : R (Fl S ρ)) := fun F O H σ D hM _ _ kb _ _ => kb s F H σ rfl (Le.refl F) (hM.sub q)
theorem sb_break2 (s : S) (q : Sub G (enc s)) : SB cf E (tSeq tBreak u) G enc (.ok (.bk s) : R (Fl S ρ)) := fun F O H σ D hM _ _ kb _ _ => kb s F H σ rfl (Le.refl F) (hM.sub q)
theorem sb_ret {m : R ρ} (h : EM cf E te G m) : SB cf E (tRet te) G enc (m.bind fun r => .ok (.rt r)) :=
  sb_of (k := fun v D σ H => D.rt v H) h fun F O O' H σ D a v lo hf he o1 o2 hr nb kn kb kr ke => kr a v F H rfl (Le.refl F) (hf.weak lo) hr
theorem sb_ret2 {m : R ρ} (h : EM cf E te G m) : SB cf E (tSeq (tRet te) u) G enc (m.bind fun r => .ok (.rt r)) :=
  sb_of (k := fun v D σ H => D.rt v H) h fun F O O' H σ D a v lo hf he o1 o2 hr nb kn kb kr ke => kr a v F H rfl (Le.refl F) (hf.weak lo) hr
/-- target = e, then u -/
theorem sb_asg [Enc α] {g : TG} {up : α → List Sl → List Sl} {js : List Nat} {m : R α} {f : α → R (Fl S ρ)} (h : EM cf E te G m) (hg : AG cf g up js) (G' : α → List Sl) (hG : ∀ a, up a G = G' a) (hk : ∀ a, SB cf E u (G' a) enc (f a)) :
    SB cf E (tSeq (tAsg te g) u) G enc (m.bind f) :=
  sb_of (k := fun v D σ H => g v σ H (u D)) h fun F O O' H σ D a v lo hf he o1 o2 hr nb kn kb kr ke => hg F O' H σ G v a _ hf he hr fun σ' e' own _ => by
    rw [hG] at e' own
    refine hk a F O H σ' D ⟨O', lo, hf, e', fun i s b q o => ?_, fun i j s t b hij q q' o o' => ?_⟩ nb kn kb kr ke
    · obtain ⟨q1, q2⟩ := own i s q o
      rw [q2]
      exact o1 i s b q1 o
    · obtain ⟨q1, q2⟩ := own i s q o
      obtain ⟨q3, q4⟩ := own j t q' o'
      rw [q2, q4]
      exact o2 i j s t b hij q1 q3 o o'
theorem aug_eq {i : Nat} {ti : TIp} : tAug i te ti = tAsg (tOp ti (tVar i) te) (gName i) := rfl
theorem sb_aug [Enc α] {i : Nat} {ti : TIp} {m : R α} {f : α → R (Fl S ρ)} (h : EM cf E (tOp ti (tVar i) te) G m) (G' : α → List Sl) (hG : ∀ a, G.set i (.va (toD a)) = G' a) (hk : ∀ a, SB cf E u (G' a) enc (f a)) :
    SB cf E (tSeq (tAug i te ti) u) G enc (m.bind f) := sb_asg h (ag_name i) G' hG hk
/-- x = a new list, owned -/
theorem er_own {K : PySem.W.Frag} {F O : Hp} {σ : L2.St} (h : Er K F O σ G) (i : Nat) {v : V} {s : Sl} (r : SlOk K F O (some (some v)) s) : Er K F O (σ.set i (some v)) (G.set i s) := by
  refine ⟨by rw [List.length_set, List.length_set, h.len], fun j t e => ?_⟩
  by_cases hj : i = j
  · subst hj
    by_cases hl : i < G.length
    · rw [List.getElem?_set_self hl] at e
      cases e
      rw [List.getElem?_set_self (by rw [h.len]; exact hl)]
      exact r
    · rw [List.getElem?_eq_none (by rw [List.length_set]; omega)] at e
      cases e
  · rw [List.getElem?_set_ne hj] at e ⊢
    exact h.at' j t e
theorem get_set {A : Type} {l : List A} {i j : Nat} {x y : A} (h : (l.set i x)[j]? = some y) : (i = j ∧ y = x ∧ i < l.length) ∨ (i ≠ j ∧ l[j]? = some y) := by
  by_cases hj : i = j
  · subst hj
    by_cases hl : i < l.length
    · rw [List.getElem?_set_self hl] at h
      cases h
      exact .inl ⟨rfl, rfl, hl⟩
    · rw [List.getElem?_eq_none (by rw [List.length_set]; omega)] at h
      cases h
  · rw [List.getElem?_set_ne hj] at h
    exact .inr ⟨hj, h⟩
/-- the slot i owns a new object at a -/
theorem mt_new {K : PySem.W.Frag} {F O O' H : Hp} {σ : L2.St} {i : Nat} {a : Addr} {o : HO} {s : Sl} (lo : Le O O') (hf : Fm F O' H) (he : Er K F O' σ G)
    (o1 : ∀ (i : Nat) (s : Sl) (a : Addr), G[i]? = some s → s.own = true → σ[i]? = some (some (.ref a)) → O a = none)
    (o2 : ∀ (i j : Nat) (s t : Sl) (a : Addr), i ≠ j → G[i]? = some s → G[j]? = some t → s.own = true → t.own = true → σ[i]? = some (some (.ref a)) → σ[j]? = some (some (.ref a)) → False)
    (hF : F a = none) (hO : O' a = none) (hH : H a = some o) (hs : SlOk K F (upd O' a o) (some (some (.ref a))) s) : Mt K F O H (σ.set i (some (.ref a))) (G.set i s) := by
  have loa : O a = none := lo.free hO
  have hf2 : Fm F (upd O' a o) H := by
    refine ⟨hf.f, fun b u q => ?_, fun b q => ?_⟩
    · by_cases hb : b = a
      · subst hb
        rw [upd_same] at q
        rw [hH]
        exact q
      · rw [upd_ne hb] at q
        exact hf.o b u q
    · have hb : b ≠ a := fun z => q (by rw [z]; exact hF)
      rw [upd_ne hb]
      exact hf.ds b q
  -- no slot that owns holds a
  have na : ∀ (j : Nat) (t : Sl), G[j]? = some t → t.own = true → σ[j]? = some (some (.ref a)) → False := fun j t e o q => by
    have := he.at' j t e
    cases t with
    | un => cases o
    | pv v => cases o
    | va d => cases o
    | ol ds =>
      obtain ⟨b, vs, e1, e2, _⟩ := this
      rw [q] at e1
      cases e1
      rw [hO] at e2
      cases e2
    | od ds =>
      obtain ⟨b, vs, e1, e2, _⟩ := this
      rw [q] at e1
      cases e1
      rw [hO] at e2
      cases e2
  refine ⟨upd O' a o, lo.trans (Le.new hO), hf2, er_own (he.monoO (Le.new hO)) i hs, fun j t b e ow q => ?_, fun j l t t' b hjl e e' ow ow' q q' => ?_⟩
  · rcases get_set q with ⟨rfl, e1, _⟩ | ⟨hj, q⟩
    · cases e1
      exact loa
    · rcases get_set e with ⟨rfl, _, _⟩ | ⟨_, e⟩
      · exact absurd rfl hj
      · exact o1 j t b e ow q
  · rcases get_set e with ⟨rfl, rfl, hl⟩ | ⟨hj, e1⟩
    · rw [List.getElem?_set_self (by rw [he.len]; exact hl)] at q
      cases q
      rcases get_set e' with ⟨rfl, _, _⟩ | ⟨hl', e'⟩
      · exact hjl rfl
      · rw [List.getElem?_set_ne hl'] at q'
        exact na l t' e' ow' q'
    · rw [List.getElem?_set_ne hj] at q
      rcases get_set e' with ⟨rfl, rfl, hl⟩ | ⟨hl', e2⟩
      · rw [List.getElem?_set_self (by rw [he.len]; exact hl)] at q'
        cases q'
        exact na j t e1 ow q
      · rw [List.getElem?_set_ne hl'] at q'
        exact o2 j l t t' b hjl e1 e2 ow ow' q q'
theorem sb_asgO [Enc α] {i : Nat} {m : R (List α)} {f : List α → R (Fl S ρ)} (h : EF cf E te G m) (G' : List α → List Sl) (hG : ∀ xs : List α, G.set i (.ol (xs.map toD)) = G' xs) (hk : ∀ xs, SB cf E u (G' xs) enc (f xs)) :
    SB cf E (tSeq (tAsg te (gName i)) u) G enc (m.bind f) :=
  sb_of (k := fun v D σ H => u D (σ.set i (some v)) H) h fun F O O' H σ D xs v lo hf he o1 o2 hr nb kn kb kr ke => by
    obtain ⟨a, vs, rfl, hF, hO, hH, hd⟩ := hr
    refine hk xs F O H _ D ?_ nb kn kb kr ke
    rw [← hG]
    exact mt_new lo hf he o1 o2 hF hO hH ⟨a, vs, rfl, upd_same, hd⟩
/-- the owned object of the slot i changes -/
theorem mt_wr {K : PySem.W.Frag} {F O O' H : Hp} {σ : L2.St} {i : Nat} {a : Addr} {o u : HO} {s s0 : Sl} (lo : Le O O') (hf : Fm F O' H) (he : Er K F O' σ G)
    (o1 : ∀ (i : Nat) (s : Sl) (a : Addr), G[i]? = some s → s.own = true → σ[i]? = some (some (.ref a)) → O a = none)
    (o2 : ∀ (i j : Nat) (s t : Sl) (a : Addr), i ≠ j → G[i]? = some s → G[j]? = some t → s.own = true → t.own = true → σ[i]? = some (some (.ref a)) → σ[j]? = some (some (.ref a)) → False)
    (h0 : G[i]? = some s0) (w0 : s0.own = true) (hσ : σ[i]? = some (some (.ref a))) (hO : O' a = some u) (ws : s.own = true) (hs : SlOk K F (upd O' a o) (some (some (.ref a))) s) : Mt K F O (upd H a o) σ (G.set i s) := by
  have hOa : O a = none := o1 i s0 a h0 w0 hσ
  refine ⟨upd O' a o, fun b x q => ?_, hf.wr hO, ⟨by rw [List.length_set, he.len], fun j t e => ?_⟩, fun j t b e ow q => ?_, fun j l t t' b hjl e e' ow ow' q q' => ?_⟩
  · rw [upd_ne (ne_of_none q hOa)]
    exact lo b x q
  · rcases get_set e with ⟨rfl, rfl, _⟩ | ⟨hj, e⟩
    · rw [hσ]
      exact hs
    · have := he.at' j t e
      cases t with
      | un => trivial
      | pv v => exact this
      | va d => exact this
      | ol ds =>
        obtain ⟨b, vs, e1, e2, e3⟩ := this
        have hb : b ≠ a := fun z => o2 i j s0 (.ol ds) a hj h0 e w0 rfl hσ (by rw [e1, z])
        exact ⟨b, vs, e1, by rw [upd_ne hb]; exact e2, e3⟩
      | od ds =>
        obtain ⟨b, vs, e1, e2, e3⟩ := this
        have hb : b ≠ a := fun z => o2 i j s0 (.od ds) a hj h0 e w0 rfl hσ (by rw [e1, z])
        exact ⟨b, vs, e1, by rw [upd_ne hb]; exact e2, e3⟩
  · rcases get_set e with ⟨rfl, rfl, _⟩ | ⟨hj, e⟩
    · exact o1 i s0 b h0 w0 q
    · exact o1 j t b e ow q
  · rcases get_set e with ⟨rfl, rfl, _⟩ | ⟨hj, e1⟩
    · rcases get_set e' with ⟨rfl, _, _⟩ | ⟨hl, e2⟩
      · exact hjl rfl
      · exact o2 i l s0 t' b hjl h0 e2 w0 ow' q q'
    · rcases get_set e' with ⟨rfl, rfl, _⟩ | ⟨hl, e2⟩
      · exact o2 j i t s0 b hjl e1 h0 ow w0 q q'
      · exact o2 j l t t' b hjl e1 e2 ow ow' q q'
/-- x.append(e), x owned -/
theorem sb_app [Enc α] {i : Nat} {m : R α} {xs : List α} {f : List α → R (Fl S ρ)} (h0 : G[i]? = some (.ol (xs.map toD))) (h : EM cf E te G m) (G' : List α → List Sl) (hG : ∀ xs : List α, G.set i (.ol (xs.map toD)) = G' xs) (hk : ∀ xs, SB cf E u (G' xs) enc (f xs)) :
    SB cf E (tSeq (tDrop (tBM cf.K "list" rAppend (tVar i) (tCons te tNil))) u) G enc (m.bind fun a => (szR (xs ++ [a])).bind f) := fun F O H σ D hM nb kn kb kr ke => by
  obtain ⟨O', lo, hf, he, o1, o2⟩ := hM
  obtain ⟨a, vs, eσ, eO, hd⟩ := he.at' i _ h0
  refine ⟨_, eσ, .inl ⟨rfl, vs, SqL.of (hf.o _ _ eO)⟩, ?_⟩
  refine h F O' H σ _ hf he (R.bind_nb nb) (fun x v F' H' ex le hf' hr => ?_) (fun c p d F' H' e le hf' hd => ke c p d F' H' (by rw [e]; rfl) le (hf'.weak lo) hd)
  rw [ex, R.ok_bind] at nb kn kb kr ke
  obtain ⟨c, ec⟩ := szR_nb (R.bind_nb nb)
  rw [ec, R.ok_bind] at nb kn kb kr ke
  refine ⟨a, vs, v, rfl, rfl, hf'.o _ _ eO, ?_, ?_⟩
  · rw [hd.length, List.length_map]
    rw [List.length_append] at c
    exact sz_ltM (by omega)
  · refine hk _ F' O _ σ D ?_ nb (fun s F'' H'' σ' e le' => kn s F'' H'' σ' e (le.trans le')) (fun s F'' H'' σ' e le' => kb s F'' H'' σ' e (le.trans le')) (fun r v F'' H'' e le' => kr r v F'' H'' e (le.trans le')) fun c p d F'' H'' e le' => ke c p d F'' H'' e (le.trans le')
    rw [← hG]
    exact mt_wr lo hf' (he.mono le) o1 o2 h0 rfl eσ eO rfl ⟨a, _, rfl, upd_same, by
      rw [List.map_append]
      exact (hd.mono le).append (.cons hr .nil)⟩
/-- x.extend(e), x owned -/
theorem sb_ext [Enc α] {i : Nat} {m : R (List α)} {xs : List α} {f : List α → R (Fl S ρ)} (h0 : G[i]? = some (.ol (xs.map toD))) (h : EL cf E te G m) (G' : List α → List Sl) (hG : ∀ xs : List α, G.set i (.ol (xs.map toD)) = G' xs) (hk : ∀ xs, SB cf E u (G' xs) enc (f xs)) :
    SB cf E (tSeq (tDrop (tBM cf.K "list" rExtend (tVar i) (tCons te tNil))) u) G enc (m.bind fun ys => (szR (xs ++ ys)).bind f) := fun F O H σ D hM nb kn kb kr ke => by
  obtain ⟨O', lo, hf, he, o1, o2⟩ := hM
  obtain ⟨a, vs, eσ, eO, hd⟩ := he.at' i _ h0
  refine ⟨_, eσ, .inl ⟨rfl, vs, SqL.of (hf.o _ _ eO)⟩, ?_⟩
  refine h F O' H σ _ hf he (R.bind_nb nb) (fun ys v F' H' ex le hf' hr => ?_) (fun c p d F' H' e le hf' hd => ke c p d F' H' (by rw [e]; rfl) le (hf'.weak lo) hd)
  rw [ex, R.ok_bind] at nb kn kb kr ke
  obtain ⟨c, ec⟩ := szR_nb (R.bind_nb nb)
  rw [ec, R.ok_bind] at nb kn kb kr ke
  obtain ⟨b, ws, eb, hb, hw⟩ := RL.at hr hf'
  refine ⟨a, b, vs, ws, rfl, by rw [eb], hf'.o _ _ eO, hb, ?_, ?_⟩
  · rw [hd.length, hw.length, List.length_map, List.length_map, ← List.length_append]
    exact sz_le c
  · refine hk _ F' O _ σ D ?_ nb (fun s F'' H'' σ' e le' => kn s F'' H'' σ' e (le.trans le')) (fun s F'' H'' σ' e le' => kb s F'' H'' σ' e (le.trans le')) (fun r v F'' H'' e le' => kr r v F'' H'' e (le.trans le')) fun c p d F'' H'' e le' => ke c p d F'' H'' e (le.trans le')
    rw [← hG]
    exact mt_wr lo hf' (he.mono le) o1 o2 h0 rfl eσ eO rfl ⟨a, _, rfl, upd_same, by
      rw [List.map_append]
      exact (hd.mono le).append hw⟩
/-- x.reverse(), x owned -/
theorem sb_rev [Enc α] {i : Nat} {xs : List α} {m : R (Fl S ρ)} (h0 : G[i]? = some (.ol (xs.map toD))) (G' : List Sl) (hG : G.set i (.ol (xs.reverse.map toD)) = G') (hk : SB cf E u G' enc m) :
    SB cf E (tSeq (tDrop (tBM0 cf.K "list" rReverse (tVar i))) u) G enc m := fun F O H σ D hM nb kn kb kr ke => by
  obtain ⟨O', lo, hf, he, o1, o2⟩ := hM
  obtain ⟨a, vs, eσ, eO, hd⟩ := he.at' i _ h0
  refine ⟨_, eσ, .inl ⟨rfl, vs, SqL.of (hf.o _ _ eO)⟩, a, vs, rfl, rfl, hf.o _ _ eO, ?_⟩
  refine hk F O _ σ D ?_ nb kn kb kr ke
  rw [← hG]
  exact mt_wr lo hf he o1 o2 h0 rfl eσ eO rfl ⟨a, _, rfl, upd_same, by
    rw [List.map_reverse]
    exact hd.reverse⟩
/-- target = x.pop(), x owned -/
def popR (xs : List α) : R (List α × α) := match xs.getLast? with
  | some x => .ok (xs.dropLast, x)
  | none => .bad
theorem sb_pop [Enc α] {i : Nat} {g : TG} {up : α → List Sl → List Sl} {js : List Nat} {xs : List α} {f : List α × α → R (Fl S ρ)} (h0 : G[i]? = some (.ol (xs.map toD))) (hg : AG cf g up js) (G' : List α × α → List Sl)
    (hG : ∀ p : List α × α, up p.2 (G.set i (.ol (p.1.map toD))) = G' p) (hk : ∀ p, SB cf E u (G' p) enc (f p)) :
    SB cf E (tSeq (tAsg (tBM0 cf.K "list" rPop (tVar i)) g) u) G enc ((popR xs).bind f) := fun F O H σ D hM nb kn kb kr ke => by
  obtain ⟨O', lo, hf, he, o1, o2⟩ := hM
  obtain ⟨a, vs, eσ, eO, hd⟩ := he.at' i _ h0
  cases hl : xs.getLast? with
  | none =>
    unfold popR at nb
    rw [hl] at nb
    exact absurd rfl nb
  | some x =>
    have ep : popR xs = .ok (xs.dropLast, x) := by
      unfold popR
      rw [hl]
    rw [ep, R.ok_bind] at nb kn kb kr ke
    rw [List.getLast?_eq_getElem?] at hl
    obtain ⟨v, hv, hr⟩ := hd.get (show (xs.map toD)[xs.length - 1]? = some (toD x) by rw [List.getElem?_map, hl]; rfl)
    have hlen : vs.length = xs.length := by rw [hd.length, List.length_map]
    refine ⟨_, eσ, .inl ⟨rfl, vs, SqL.of (hf.o _ _ eO)⟩, a, vs, v, rfl, rfl, hf.o _ _ eO, by rw [hlen]; exact hv, ?_⟩
    have hM2 : Mt cf.K F O (upd H a (.lst vs.dropLast)) σ (G.set i (.ol (xs.dropLast.map toD))) := mt_wr lo hf he o1 o2 h0 rfl eσ eO rfl ⟨a, _, rfl, upd_same, by
      rw [List.map_dropLast]
      exact hd.dropLast⟩
    obtain ⟨O2, lo2, hf2, he2, o12, o22⟩ := hM2
    refine hg F O2 _ σ _ v x _ hf2 he2 hr fun σ' e' own _ => ?_
    have hG' := hG (xs.dropLast, x)
    rw [hG'] at e' own
    refine hk _ F O _ σ' D ⟨O2, lo2, hf2, e', fun i s b q o => ?_, fun i j s t b hij q q' o o' => ?_⟩ nb kn kb kr ke
    · obtain ⟨q1, q2⟩ := own i s q o
      rw [q2]
      exact o12 i s b q1 o
    · obtain ⟨q1, q2⟩ := own i s q o
      obtain ⟨q3, q4⟩ := own j t q' o'
      rw [q2, q4]
      exact o22 i j s t b hij q1 q3 o o'
/-- x[k] = e, x owned -/
def setR (xs : List α) (k : Int) (a : α) : R (List α) := match ixN xs.length k with
  | some j => .ok (xs.set j a)
  | none => .bad
theorem sb_setL [Enc α] {i : Nat} {tk : TE} {m : R α} {n : R Int} {xs : List α} {f : List α → R (Fl S ρ)} (h0 : G[i]? = some (.ol (xs.map toD))) (h : EM cf E te G m) (hi : EM cf E tk G n) (G' : List α → List Sl) (hG : ∀ xs : List α, G.set i (.ol (xs.map toD)) = G' xs) (hk : ∀ xs, SB cf E u (G' xs) enc (f xs)) :
    SB cf E (tSeq (tAsg te (gSub (tVar i) tk rSetL)) u) G enc (m.bind fun a => n.bind fun k => (setR xs k a).bind f) := fun F O H σ D hM nb kn kb kr ke => by
  obtain ⟨O', lo, hf, he, o1, o2⟩ := hM
  obtain ⟨a, vs, eσ, eO, hd⟩ := he.at' i _ h0
  refine h F O' H σ _ hf he (R.bind_nb nb) (fun x v F1 H1 ex le1 hf1 hr => ?_) (fun c p d F' H' e le hf' hd => ke c p d F' H' (by rw [e]; rfl) le (hf'.weak lo) hd)
  rw [ex, R.ok_bind] at nb kn kb kr ke
  refine ⟨_, eσ, ?_⟩
  refine hi F1 O' H1 σ _ hf1 (he.mono le1) (R.bind_nb nb) (fun k w' F' H' ek le2 hf' hw => ?_) (fun c p d F' H' e le hf' hd => ke c p d F' H' (by rw [e]; rfl) (le1.trans le) (hf'.weak lo) hd)
  rw [ek, R.ok_bind] at nb kn kb kr ke
  cases hx : ixN xs.length k with
  | none =>
    unfold setR at nb
    rw [hx] at nb
    exact absurd rfl nb
  | some j =>
    have es : setR xs k x = .ok (xs.set j x) := by
      unfold setR
      rw [hx]
    rw [es, R.ok_bind] at nb kn kb kr ke
    have le := le1.trans le2
    refine ⟨a, vs, k, j, rfl, dr_int hw, hf'.o _ _ eO, by rw [hd.length, List.length_map]; exact hx, ?_⟩
    refine hk _ F' O _ σ D ?_ nb (fun s F'' H'' σ' e le' => kn s F'' H'' σ' e (le.trans le')) (fun s F'' H'' σ' e le' => kb s F'' H'' σ' e (le.trans le')) (fun r v F'' H'' e le' => kr r v F'' H'' e (le.trans le')) fun c p d F'' H'' e le' => ke c p d F'' H'' e (le.trans le')
    rw [← hG]
    exact mt_wr lo hf' (he.mono le) o1 o2 h0 rfl eσ eO rfl ⟨a, _, rfl, upd_same, by
      rw [List.map_set]
      exact (hd.mono le).set (hr.mono le2) j⟩
def era (H : Hp) (a : Addr) : Hp := fun b => if b = a then none else H b
theorem era_ne {H : Hp} {a b : Addr} (h : b ≠ a) : era H a b = H b := if_neg h
theorem era_same {H : Hp} {a : Addr} : era H a a = none := if_pos rfl
/-- what is owned becomes data -/
theorem sb_frz {i : Nat} {ds : List Dt} {m : R (Fl S ρ)} (h0 : G[i]? = some (.ol ds)) (G' : List Sl) (hG : G.set i (.va (.lst ds)) = G') (h : SB cf E t G' enc m) : SB cf E t G enc m := fun F O H σ D hM nb kn kb kr ke => by
  obtain ⟨O', lo, hf, he, o1, o2⟩ := hM
  obtain ⟨a, vs, eσ, eO, hd⟩ := he.at' i _ h0
  have hF : F a = none := hf.own eO
  have hOa : O a = none := o1 i _ a h0 rfl eσ
  have le : Le F (upd F a (.lst vs)) := Le.new hF
  have hdel : ∀ b o, b ≠ a → O' b = some o → era O' a b = some o := fun b o hb q => by rw [era_ne hb]; exact q
  have hM2 : Mt cf.K (upd F a (.lst vs)) O H σ G' := by
    refine ⟨era O' a, fun b x q => hdel b x (ne_of_none q hOa) (lo b x q), ⟨fun b x q => ?_, fun b x q => ?_, fun b q => ?_⟩, ⟨?_, fun j s e => ?_⟩, fun j t b e ow q => ?_, fun j l t t' b hjl e e' ow ow' q q' => ?_⟩
    · by_cases hb : b = a
      · subst hb
        rw [upd_same] at q
        rw [hf.o _ _ eO]
        exact q
      · rw [upd_ne hb] at q
        exact hf.f b x q
    · by_cases hb : b = a
      · subst hb
        rw [era_same] at q
        cases q
      · rw [era_ne hb] at q
        exact hf.o b x q
    · by_cases hb : b = a
      · subst hb
        exact era_same
      · rw [upd_ne hb] at q
        rw [era_ne hb]
        exact hf.ds b q
    · rw [← hG, List.length_set, he.len]
    · rw [← hG] at e
      rcases get_set e with ⟨rfl, rfl, _⟩ | ⟨hj, e⟩
      · exact ⟨_, eσ, .lst upd_same (hd.mono le)⟩
      · have := (he.at' j s e).mono le
        cases s with
        | un => trivial
        | pv v => exact this
        | va d => exact this
        | ol es =>
          obtain ⟨b, ws, e1, e2, e3⟩ := this
          have hb : b ≠ a := fun z => o2 i j _ (.ol es) a hj h0 e rfl rfl eσ (by rw [e1, z])
          exact ⟨b, ws, e1, hdel b _ hb e2, e3⟩
        | od es =>
          obtain ⟨b, ws, e1, e2, e3⟩ := this
          have hb : b ≠ a := fun z => o2 i j _ (.od es) a hj h0 e rfl rfl eσ (by rw [e1, z])
          exact ⟨b, ws, e1, hdel b _ hb e2, e3⟩
    · rw [← hG] at e
      rcases get_set e with ⟨rfl, rfl, _⟩ | ⟨hj, e⟩
      · cases ow
      · exact o1 j t b e ow q
    · rw [← hG] at e e'
      rcases get_set e with ⟨rfl, rfl, _⟩ | ⟨hj, e⟩
      · cases ow
      · rcases get_set e' with ⟨rfl, rfl, _⟩ | ⟨hl, e'⟩
        · cases ow'
        · exact o2 j l t t' b hjl e e' ow ow' q q'
  exact h _ O H σ D hM2 nb (fun s F'' H'' σ' e le' => kn s F'' H'' σ' e (le.trans le')) (fun s F'' H'' σ' e le' => kb s F'' H'' σ' e (le.trans le')) (fun r v F'' H'' e le' => kr r v F'' H'' e (le.trans le')) fun c p d F'' H'' e le' => ke c p d F'' H'' e (le.trans le')

/-! ### ifs, blocks -/
theorem sb_if {w' : TS} {mc : R Bool} {m1 m2 : R (Fl S ρ)} (hc : EB cf E tc G mc) (h1 : SB cf E (tSeq t w') G enc m1) (h2 : SB cf E (tSeq u w') G enc m2) : SB cf E (tSeq (tIfS tc t u) w') G enc (mc.bind fun c => if c = true then m1 else m2) :=
  sb_of (k := fun b D σ H => if b = true then t { D with nx := w' D } σ H else u { D with nx := w' D } σ H) hc fun F O O' H σ D a v lo hf he o1 o2 hr nb kn kb kr ke => by
    obtain rfl : v = a := hr
    cases v with
    | true => exact h1 F O H σ D ⟨O', lo, hf, he, o1, o2⟩ nb kn kb kr ke
    | false => exact h2 F O H σ D ⟨O', lo, hf, he, o1, o2⟩ nb kn kb kr ke
/-- the last statement of a block -/
theorem sb_ifL {mc : R Bool} {m1 m2 : R (Fl S ρ)} (hc : EB cf E tc G mc) (h1 : SB cf E t G enc m1) (h2 : SB cf E u G enc m2) : SB cf E (tIfS tc t u) G enc (mc.bind fun c => if c = true then m1 else m2) := sb_if (w' := tNext) hc h1 h2
/-- a block, then the rest -/
theorem sb_seq {enc1 : T → List Sl} {m : R (Fl T ρ)} {k : T → R (Fl S ρ)} (h : SB cf E t G enc1 m) (hk : ∀ s, SB cf E u (enc1 s) enc (k s)) : SB cf E (tSeq t u) G enc (seqF m k) := fun F O H σ D hM nb kn kb kr ke =>
  h F O H σ { D with nx := u D } hM (R.bind_nb nb) (fun s F' H' σ' e le hM' => by
      unfold seqF at nb kn kb kr ke
      rw [e, R.ok_bind] at nb kn kb kr ke
      exact hk s F' O H' σ' D hM' nb (fun s F'' H'' σ' e le' => kn s F'' H'' σ' e (le.trans le')) (fun s F'' H'' σ' e le' => kb s F'' H'' σ' e (le.trans le')) (fun r v F'' H'' e le' => kr r v F'' H'' e (le.trans le')) fun c p d F'' H'' e le' => ke c p d F'' H'' e (le.trans le'))
    (fun s F' H' σ' e le hM' => by
      unfold seqF at nb
      rw [e, R.ok_bind] at nb
      exact absurd rfl nb)
    (fun r v F' H' e le hf hr => kr r v F' H' (by unfold seqF; rw [e]; rfl) le hf hr) fun c p d F' H' e le hf hd => ke c p d F' H' (by unfold seqF; rw [e]; rfl) le hf hd

/-! ### loops -/
def forR (step : T → α → R (Fl T ρ)) (k : T → R (Fl S ρ)) : List α → T → R (Fl S ρ)
  | [], s => k s
  | x :: r, s => (step s x).bind fun
    | .nx s' => forR step k r s'
    | .bk s' => k s'
    | .rt v => .ok (.rt v)
theorem sb_for [Enc α] {wi : TI} {g : TG} {tb : TS} {up : α → List Sl → List Sl} {js : List Nat} {m : R (List α)} {encL : T → List Sl} {step : T → α → R (Fl T ρ)} {k : T → R (Fl S ρ)} (hi : IG cf E wi G m) (hg : AG cf g up js) (s0 : T) (h0 : Sub G (encL s0))
    (Gi : T → α → List Sl) (hG : ∀ s a, up a (encL s) = Gi s a) (hb : ∀ s a, SB cf E tb (Gi s a) encL (step s a)) (hk : ∀ s, SB cf E u (encL s) enc (k s)) :
    SB cf E (tSeq (tFor wi g tb) u) G enc (m.bind fun xs => forR step k xs s0) := fun F O H σ D hM nb kn kb kr ke => by
  obtain ⟨O0, lo, hf, he, o1, o2⟩ := hM
  refine hi F O0 H σ _ hf he (R.bind_nb nb) (fun xs J F1 H1 em le1 hf1 hJ => ?_) (fun c p d F' H' e le hf' hd => ke c p d F' H' (by rw [e]; rfl) le (hf'.weak lo) hd)
  rw [em, R.ok_bind] at nb kn kb kr ke
  have hM1 : Mt cf.K F1 O H1 σ G := ⟨O0, lo, hf1, he.mono le1, o1, o2⟩
  let W : Nat → Nat → L2.St → Hp → Prop := fun i mm σ H => mm = xs.length - i ∧ i ≤ xs.length ∧ ∃ (F2 : Hp) (s : T), Le F1 F2 ∧ Mt cf.K F2 O H σ (encL s) ∧ forR step k (xs.drop i) s = forR step k xs s0
  refine ⟨W, ⟨xs.length, by simp, Nat.zero_le _, F1, s0, Le.refl F1, hM1.sub h0, by rw [List.drop_zero]⟩, ?_⟩
  rintro i mm σ2 H2 ⟨rfl, hi, F2, s, le2, hM2, tot⟩
  by_cases hlt : i < xs.length
  · have hx : xs[i]? = some xs[i] := List.getElem?_eq_getElem hlt
    rw [List.drop_eq_getElem_cons hlt] at tot
    rw [← tot] at nb kn kb kr ke
    obtain ⟨O2, lo2, hf2, he2, o12, o22⟩ := hM2
    obtain ⟨hgo, hyl⟩ := (hJ i F2 O2 H2 le2 hf2).1 _ hx
    refine .inr ⟨hgo, fun σ H => W (i + 1) (xs.length - (i + 1)) σ H, fun σ' H' h' => ⟨_, by omega, h'⟩, fun v H3 hy => ?_⟩
    obtain ⟨F3, le3, hf3, hv⟩ := hyl v H3 hy
    refine hg F3 O2 H3 σ2 _ v xs[i] _ hf3 (he2.mono le3) hv fun σ3 e3 own _ => ?_
    rw [hG] at e3 own
    have hM3 : Mt cf.K F3 O H3 σ3 (Gi s xs[i]) := ⟨O2, lo2, hf3, e3, fun i s b q o => by
        obtain ⟨q1, q2⟩ := own i s q o
        rw [q2]
        exact o12 i s b q1 o, fun i j s t b hij q q' o o' => by
        obtain ⟨q1, q2⟩ := own i s q o
        obtain ⟨q3, q4⟩ := own j t q' o'
        rw [q2, q4]
        exact o22 i j s t b hij q1 q3 o o'⟩
    have le13 := (le1.trans le2).trans le3
    refine hb s xs[i] F3 O H3 σ3 _ hM3 (R.bind_nb nb) (fun s' F4 H4 σ4 e le4 hM4 => ?_) (fun s' F4 H4 σ4 e le4 hM4 => ?_) (fun r v F4 H4 e le4 hf4 hr => ?_) (fun c p d F4 H4 e le4 hf4 hd => ?_)
    · refine ⟨rfl, hlt, F4, s', (le2.trans le3).trans le4, hM4, ?_⟩
      rw [← tot]
      show _ = (step s xs[i]).bind _
      rw [e]
      rfl
    · have en : forR step k (xs[i] :: xs.drop (i + 1)) s = k s' := by
        show (step s xs[i]).bind _ = _
        rw [e]
        rfl
      rw [en] at nb kn kb kr ke
      have le14 := le13.trans le4
      exact hk s' F4 O H4 σ4 D hM4 nb (fun s F'' H'' σ' e le' => kn s F'' H'' σ' e (le14.trans le')) (fun s F'' H'' σ' e le' => kb s F'' H'' σ' e (le14.trans le')) (fun r v F'' H'' e le' => kr r v F'' H'' e (le14.trans le')) fun c p d F'' H'' e le' => ke c p d F'' H'' e (le14.trans le')
    · exact kr r v F4 H4 (by show (step s xs[i]).bind _ = _; rw [e]; rfl) (le13.trans le4) hf4 hr
    · exact ke c p d F4 H4 (by show (step s xs[i]).bind _ = _; rw [e]; rfl) (le13.trans le4) hf4 hd
  · have e : i = xs.length := by omega
    subst e
    rw [List.drop_length] at tot
    have tot2 : forR step k xs s0 = k s := tot.symm
    rw [tot2] at nb kn kb kr ke
    obtain ⟨O2, lo2, hf2, he2, o12, o22⟩ := id hM2
    have le12 := le1.trans le2
    exact .inl ⟨(hJ _ F2 O2 H2 le2 hf2).2 (Nat.le_refl _), hk s F2 O H2 σ2 D hM2 nb (fun s F'' H'' σ' e le' => kn s F'' H'' σ' e (le12.trans le')) (fun s F'' H'' σ' e le' => kb s F'' H'' σ' e (le12.trans le')) (fun r v F'' H'' e le' => kr r v F'' H'' e (le12.trans le')) fun c p d F'' H'' e le' => ke c p d F'' H'' e (le12.trans le')⟩
/-- while: fuel, what is tested, the body -/
def whileR (c : T → R Bool) (step : T → R (Fl T ρ)) (k : T → R (Fl S ρ)) : Nat → T → R (Fl S ρ)
  | 0, _ => .bad
  | n + 1, s => (c s).bind fun b => if b = true then (step s).bind fun
      | .nx s' => whileR c step k n s'
      | .bk s' => k s'
      | .rt v => .ok (.rt v) else k s
theorem sb_while {tb : TS} {encL : T → List Sl} {c : T → R Bool} {step : T → R (Fl T ρ)} {k : T → R (Fl S ρ)} (n : Nat) (s0 : T) (h0 : Sub G (encL s0)) (hc : ∀ s, EB cf E tc (encL s) (c s)) (hb : ∀ s, SB cf E tb (encL s) encL (step s)) (hk : ∀ s, SB cf E u (encL s) enc (k s)) :
    SB cf E (tSeq (tWhile tc tb) u) G enc (whileR c step k n s0) := fun F O H σ D hM nb kn kb kr ke => by
  let W : Nat → L2.St → Hp → Prop := fun mm σ H => ∃ (F2 : Hp) (s : T), Le F F2 ∧ Mt cf.K F2 O H σ (encL s) ∧ whileR c step k mm s = whileR c step k n s0
  refine ⟨W, ⟨n, F, s0, Le.refl F, hM.sub h0, rfl⟩, ?_⟩
  rintro mm σ2 H2 ⟨F2, s, le2, hM2, tot⟩
  rw [← tot] at nb kn kb kr ke
  cases mm with
  | zero => exact absurd rfl nb
  | succ mm =>
    obtain ⟨O2, lo2, hf2, he2, o12, o22⟩ := hM2
    refine hc s F2 O2 H2 σ2 _ hf2 he2 (R.bind_nb nb) (fun b r F3 H3 e le3 hf3 hr => ?_) (fun c' p d F' H' e le hf' hd => ke c' p d F' H' (by show (c s).bind _ = _; rw [e]; rfl) (le2.trans le) (hf'.weak lo2) hd)
    obtain rfl : r = b := hr
    have hM3 : Mt cf.K F3 O H3 σ2 (encL s) := ⟨O2, lo2, hf3, he2.mono le3, o12, o22⟩
    have le13 := le2.trans le3
    cases r with
    | false =>
      have en : whileR c step k (mm + 1) s = k s := by
        show (c s).bind _ = _
        rw [e]
        rfl
      rw [en] at nb kn kb kr ke
      exact hk s F3 O H3 σ2 D hM3 nb (fun s F'' H'' σ' e le' => kn s F'' H'' σ' e (le13.trans le')) (fun s F'' H'' σ' e le' => kb s F'' H'' σ' e (le13.trans le')) (fun r v F'' H'' e le' => kr r v F'' H'' e (le13.trans le')) fun c p d F'' H'' e le' => ke c p d F'' H'' e (le13.trans le')
    | true =>
      have en : whileR c step k (mm + 1) s = (step s).bind fun
          | .nx s' => whileR c step k mm s'
          | .bk s' => k s'
          | .rt v => .ok (.rt v) := by
        show (c s).bind _ = _
        rw [e]
        rfl
      rw [en] at nb kn kb kr ke
      refine ⟨fun σ H => W mm σ H, fun σ' H' h' => ⟨mm, Nat.lt_succ_self _, h'⟩, ?_⟩
      refine hb s F3 O H3 σ2 _ hM3 (R.bind_nb nb) (fun s' F4 H4 σ4 e4 le4 hM4 => ?_) (fun s' F4 H4 σ4 e4 le4 hM4 => ?_) (fun r v F4 H4 e4 le4 hf4 hr => kr r v F4 H4 (by rw [e4]; rfl) (le13.trans le4) hf4 hr) (fun c p d F4 H4 e4 le4 hf4 hd => ke c p d F4 H4 (by rw [e4]; rfl) (le13.trans le4) hf4 hd)
      · refine ⟨F4, s', le13.trans le4, hM4, ?_⟩
        rw [← tot, en, e4]
        rfl
      · rw [e4, R.ok_bind] at nb kn kb kr ke
        have le14 := le13.trans le4
        exact hk s' F4 O H4 σ4 D hM4 nb (fun s F'' H'' σ' e le' => kn s F'' H'' σ' e (le14.trans le')) (fun s F'' H'' σ' e le' => kb s F'' H'' σ' e (le14.trans le')) (fun r v F'' H'' e le' => kr r v F'' H'' e (le14.trans le')) fun c p d F'' H'' e le' => ke c p d F'' H'' e (le14.trans le')
end
end Kr

/-! KrF: what a def promises by data, its call, its body. -/
namespace Kr
open PySem PySem.Spec PyProof.Rows L2
open Enc (toD)

/-- called with values of the data ds, it returns what the relation says; it raises nothing -/
def SpP (cf : Cf) (n : Nat) (spec : List Dt → R Dt → Prop) : Sp := fun vs H Q _ => vs.length = n ∧ ∃ (F O : Hp) (ds : List Dt) (d : Dt), Fm F O H ∧ DrA cf.K F vs ds ∧ spec ds (.ok d) ∧ ∀ v F' H', Le F F' → Fm F' O H' → Dr cf.K F' v d → Q v H'
theorem SpP.len {cf : Cf} {n : Nat} {spec : List Dt → R Dt → Prop} {ps : List Str} (h : ps.length = n := by rfl) : ∀ vs H Q E, SpP cf n spec vs H Q E → vs.length = ps.length := fun vs H Q E q => by rw [h]; exact q.1
/-- what a body gives, as a value -/
def finR {S ρ : Type} (m : R (Fl S ρ)) : R ρ := m.bind fun
  | .rt r => .ok r
  | _ => .bad
/-- of a def without return -/
def finN {S : Type} (m : R (Fl S Unit)) : R Unit := m.bind fun
  | .rt r => .ok r
  | .nx _ => .ok ()
  | _ => .bad
theorem er_start {K : PySem.W.Frag} {F O : Hp} {N : List Str} {vs : List V} {ds : List Dt} (h : DrA K F vs ds) : Er K F O (L2.start N vs) (ds.map Sl.va ++ List.replicate (N.length - ds.length) .un) := by
  have hl := h.length
  refine ⟨?_, fun i s e => ?_⟩
  · unfold L2.start
    rw [List.length_append, List.length_append, List.length_map, List.length_map, List.length_replicate, List.length_replicate, hl]
  · by_cases hi : i < ds.length
    · rw [List.getElem?_append_left (by rw [List.length_map]; exact hi), List.getElem?_map] at e
      cases q : ds[i]? with
      | none =>
        rw [q] at e
        cases e
      | some d =>
        rw [q] at e
        cases e
        obtain ⟨v, hv, r⟩ := h.get q
        refine ⟨v, ?_, r⟩
        unfold L2.start
        rw [List.getElem?_append_left (by rw [List.length_map, hl]; exact hi), List.getElem?_map, hv]
        rfl
    · rw [List.getElem?_append_right (by rw [List.length_map]; omega)] at e
      have e2 := List.getElem?_replicate (n := N.length - ds.length) (a := Sl.un) (i := i - (ds.map Sl.va).length)
      rw [e2] at e
      split at e
      · cases e
        exact trivial
      · cases e
theorem mt_start {K : PySem.W.Frag} {F O H : Hp} {N : List Str} {vs : List V} {ds : List Dt} (hf : Fm F O H) (h : DrA K F vs ds) : Mt K F O H (L2.start N vs) (ds.map Sl.va ++ List.replicate (N.length - ds.length) .un) := by
  refine ⟨O, Le.refl O, hf, er_start h, fun i s a e o => ?_, fun i j s t a _ e _ o => ?_⟩
  all_goals
    exfalso
    rcases List.mem_append.mp (List.mem_of_getElem? e) with hm | hm
    · obtain ⟨d, _, rfl⟩ := List.mem_map.mp hm
      cases o
    · rw [List.eq_of_mem_replicate hm] at o
      cases o
section
variable {cf : Cf} {E : XK} {G : List Sl} {S ρ : Type} [Enc ρ]
/-- the promise from the body's run -/
theorem run_of {t : TS} {N : List Str} {vs : List V} {H : Hp} {Q : VK} {n : Nat} {spec : List Dt → R Dt → Prop} {enc : S → List Sl} (h : SpP cf n spec vs H Q E)
    (hb : ∀ ds d, spec ds (.ok d) → ∃ m : R (Fl S ρ), SB cf E0 t (ds.map Sl.va ++ List.replicate (N.length - ds.length) .un) enc m ∧ ∃ r, finR m = .ok r ∧ d = toD r) : t { nx := fun _ H' => Q .non H', rt := Q } (L2.start N vs) H := by
  obtain ⟨_, F, O, ds, d, hf, hr, hs, q⟩ := h
  obtain ⟨m, hm, r, er, ed⟩ := hb ds d hs
  have em : m = .ok (.rt r) := by
    cases m with
    | ok x =>
      cases x with
      | nx s => cases er
      | bk s => cases er
      | rt r' => cases er; rfl
    | er c p => cases er
    | bad => cases er
  subst em
  refine hm F O H _ _ (mt_start hf hr) (fun z => nomatch z) (fun _ _ _ _ z => nomatch z) (fun _ _ _ _ z => nomatch z) (fun r' v F' H' e le hf' hr' => ?_) (fun _ _ _ _ _ z => nomatch z)
  cases e
  rw [ed] at q
  exact q v F' H' le hf' hr'
theorem run_ofN {t : TS} {N : List Str} {vs : List V} {H : Hp} {Q : VK} {n : Nat} {spec : List Dt → R Dt → Prop} {enc : S → List Sl} (h : SpP cf n spec vs H Q E)
    (hb : ∀ ds d, spec ds (.ok d) → ∃ m : R (Fl S Unit), SB cf E0 t (ds.map Sl.va ++ List.replicate (N.length - ds.length) .un) enc m ∧ ∃ r, finN m = .ok r ∧ d = toD r) : t { nx := fun _ H' => Q .non H', rt := Q } (L2.start N vs) H := by
  obtain ⟨_, F, O, ds, d, hf, hr, hs, q⟩ := h
  obtain ⟨m, hm, r, er, ed⟩ := hb ds d hs
  have ed' : d = .non := ed
  subst ed'
  refine hm F O H _ _ (mt_start hf hr) (fun z => by rw [z] at er; cases er) (fun s F' H' σ' e le hM => q .non F' H' le hM.fm .non) (fun s F' H' σ' e => by rw [e] at er; cases er) (fun r' v F' H' e le hf' hr' => q v F' H' le hf' hr') (fun c p d F' H' e => by rw [e] at er; cases er)
end

section
variable {α τ : Type} [Enc α] [Enc τ]
def sp1 (g : α → R τ) : List Dt → R Dt → Prop := fun ds r => ∃ (a : α), ds = [toD a] ∧ r = (g a).map toD
theorem em_call1 {cf : Cf} {E : XK} {G : List Sl} {t0 : TE} {m0 : R α} {g : α → R τ} (h0 : EM cf E t0 G m0) : EM cf E (tCall (SpP cf 1 (sp1 g)) [] E0 (tCons t0 tNil)) G (m0.bind fun a => (g a).pu) := fun F O H σ Q hf he nb ko ke => by
  refine h0 F O H σ _ hf he (R.bind_nb nb) (fun a v0 F1 H1 e0 l1 hf1 r0 => ?_) (fun c p d F' H' e le hf' hd => ke c p d F' H' (by rw [e]; rfl) (le) hf' hd)
  rw [e0, R.ok_bind] at nb ko ke
  have le1 := l1
  obtain ⟨y, ey⟩ := pu_nb nb
  exact ⟨rfl, F1, O, _, toD y, hf1, (.cons r0 .nil), ⟨a, rfl, by rw [ey]; rfl⟩, fun v F' H' le hf' hr => ko y v F' H' (by rw [ey]; rfl) (le1.trans le) hf' hr⟩
theorem fn1 {P : Program} {w : World} {cf : Cf} {mg : Str → Option Value} {base : Heap} {x qual : Str} {st : Stmt} {f0 : Addr} {fd : FuncData} {N ps : List Str} {k : Nat} {S : Type} {enc : S → List Sl} (F : Fun cf.K x qual st f0 fd) (sc : FnScope N ps (defScope st)) (hp : ps.length = 1) (g : α → R (Fl S τ))
    (G0 : α → List Sl) (hG : ∀ a, [.va (toD a)] ++ List.replicate (N.length - 1) .un = G0 a)
    (h : ∀ (cdv : Value) (A : Around) (outer : List Env) (s : Shared) (H : Hp) (E : XK), Room k (A.deeper (envOfC qual (defScope st) s.heap.objs.size f0 cdv)) →
      ∃ t, PSs (cxOf CX0 P w cf.K mg base N qual (defScope st) f0 cdv A outer s H E).nox (defBody st) t ∧ ∀ a, SB cf E0 t (G0 a) enc (g a)) :
    FnOk P w cf.K mg base CX0 (k + 1) f0 fd ps (SpP cf 1 (sp1 fun a => finR (g a))) := by
  refine F.ok sc (SpP.len hp) (fun cdv A outer s H vs Q E hr hq => ?_)
  obtain ⟨t, ht, hb⟩ := h cdv A outer s H E hr
  refine ⟨t, ht, run_of (ρ := τ) (S := S) (enc := enc) hq fun ds dd hs => ?_⟩
  obtain ⟨a, rfl, er⟩ := hs
  refine ⟨g a, by have q := hb a; rw [← hG] at q; exact q, ?_⟩
  replace er : R.ok dd = (finR (g a)).map toD := er
  generalize q : finR (g a) = z at er
  cases z with
  | ok r => exact ⟨r, rfl, R.ok.inj er⟩
  | er c p => cases er
  | bad => cases er
end

section
variable {α β τ : Type} [Enc α] [Enc β] [Enc τ]
def sp2 (g : α → β → R τ) : List Dt → R Dt → Prop := fun ds r => ∃ (a : α) (b : β), ds = [toD a, toD b] ∧ r = (g a b).map toD
theorem em_call2 {cf : Cf} {E : XK} {G : List Sl} {t0 t1 : TE} {m0 : R α} {m1 : R β} {g : α → β → R τ} (h0 : EM cf E t0 G m0) (h1 : EM cf E t1 G m1) : EM cf E (tCall (SpP cf 2 (sp2 g)) [] E0 (tCons t0 (tCons t1 tNil))) G (m0.bind fun a => m1.bind fun b => (g a b).pu) := fun F O H σ Q hf he nb ko ke => by
  refine h0 F O H σ _ hf he (R.bind_nb nb) (fun a v0 F1 H1 e0 l1 hf1 r0 => ?_) (fun c p d F' H' e le hf' hd => ke c p d F' H' (by rw [e]; rfl) (le) hf' hd)
  rw [e0, R.ok_bind] at nb ko ke
  have le1 := l1
  refine h1 F1 O H1 σ _ hf1 (he.mono le1) (R.bind_nb nb) (fun b v1 F2 H2 e1 l2 hf2 r1 => ?_) (fun c p d F' H' e le hf' hd => ke c p d F' H' (by rw [e]; rfl) (le1.trans le) hf' hd)
  rw [e1, R.ok_bind] at nb ko ke
  have le2 := le1.trans l2
  obtain ⟨y, ey⟩ := pu_nb nb
  exact ⟨rfl, F2, O, _, toD y, hf2, (.cons (Dr.mono (l2) r0) (.cons r1 .nil)), ⟨a, b, rfl, by rw [ey]; rfl⟩, fun v F' H' le hf' hr => ko y v F' H' (by rw [ey]; rfl) (le2.trans le) hf' hr⟩
theorem fn2 {P : Program} {w : World} {cf : Cf} {mg : Str → Option Value} {base : Heap} {x qual : Str} {st : Stmt} {f0 : Addr} {fd : FuncData} {N ps : List Str} {k : Nat} {S : Type} {enc : S → List Sl} (F : Fun cf.K x qual st f0 fd) (sc : FnScope N ps (defScope st)) (hp : ps.length = 2) (g : α → β → R (Fl S τ))
    (G0 : α → β → List Sl) (hG : ∀ a b, [.va (toD a), .va (toD b)] ++ List.replicate (N.length - 2) .un = G0 a b)
    (h : ∀ (cdv : Value) (A : Around) (outer : List Env) (s : Shared) (H : Hp) (E : XK), Room k (A.deeper (envOfC qual (defScope st) s.heap.objs.size f0 cdv)) →
      ∃ t, PSs (cxOf CX0 P w cf.K mg base N qual (defScope st) f0 cdv A outer s H E).nox (defBody st) t ∧ ∀ a b, SB cf E0 t (G0 a b) enc (g a b)) :
    FnOk P w cf.K mg base CX0 (k + 1) f0 fd ps (SpP cf 2 (sp2 fun a b => finR (g a b))) := by
  refine F.ok sc (SpP.len hp) (fun cdv A outer s H vs Q E hr hq => ?_)
  obtain ⟨t, ht, hb⟩ := h cdv A outer s H E hr
  refine ⟨t, ht, run_of (ρ := τ) (S := S) (enc := enc) hq fun ds dd hs => ?_⟩
  obtain ⟨a, b, rfl, er⟩ := hs
  refine ⟨g a b, by have q := hb a b; rw [← hG] at q; exact q, ?_⟩
  replace er : R.ok dd = (finR (g a b)).map toD := er
  generalize q : finR (g a b) = z at er
  cases z with
  | ok r => exact ⟨r, rfl, R.ok.inj er⟩
  | er c p => cases er
  | bad => cases er
end

section
variable {α β γ τ : Type} [Enc α] [Enc β] [Enc γ] [Enc τ]
def sp3 (g : α → β → γ → R τ) : List Dt → R Dt → Prop := fun ds r => ∃ (a : α) (b : β) (c : γ), ds = [toD a, toD b, toD c] ∧ r = (g a b c).map toD
theorem em_call3 {cf : Cf} {E : XK} {G : List Sl} {t0 t1 t2 : TE} {m0 : R α} {m1 : R β} {m2 : R γ} {g : α → β → γ → R τ} (h0 : EM cf E t0 G m0) (h1 : EM cf E t1 G m1) (h2 : EM cf E t2 G m2) : EM cf E (tCall (SpP cf 3 (sp3 g)) [] E0 (tCons t0 (tCons t1 (tCons t2 tNil)))) G (m0.bind fun a => m1.bind fun b => m2.bind fun c => (g a b c).pu) := fun F O H σ Q hf he nb ko ke => by
  refine h0 F O H σ _ hf he (R.bind_nb nb) (fun a v0 F1 H1 e0 l1 hf1 r0 => ?_) (fun c p d F' H' e le hf' hd => ke c p d F' H' (by rw [e]; rfl) (le) hf' hd)
  rw [e0, R.ok_bind] at nb ko ke
  have le1 := l1
  refine h1 F1 O H1 σ _ hf1 (he.mono le1) (R.bind_nb nb) (fun b v1 F2 H2 e1 l2 hf2 r1 => ?_) (fun c p d F' H' e le hf' hd => ke c p d F' H' (by rw [e]; rfl) (le1.trans le) hf' hd)
  rw [e1, R.ok_bind] at nb ko ke
  have le2 := le1.trans l2
  refine h2 F2 O H2 σ _ hf2 (he.mono le2) (R.bind_nb nb) (fun c v2 F3 H3 e2 l3 hf3 r2 => ?_) (fun c p d F' H' e le hf' hd => ke c p d F' H' (by rw [e]; rfl) (le2.trans le) hf' hd)
  rw [e2, R.ok_bind] at nb ko ke
  have le3 := le2.trans l3
  obtain ⟨y, ey⟩ := pu_nb nb
  exact ⟨rfl, F3, O, _, toD y, hf3, (.cons (Dr.mono ((l2).trans l3) r0) (.cons (Dr.mono (l3) r1) (.cons r2 .nil))), ⟨a, b, c, rfl, by rw [ey]; rfl⟩, fun v F' H' le hf' hr => ko y v F' H' (by rw [ey]; rfl) (le3.trans le) hf' hr⟩
theorem fn3 {P : Program} {w : World} {cf : Cf} {mg : Str → Option Value} {base : Heap} {x qual : Str} {st : Stmt} {f0 : Addr} {fd : FuncData} {N ps : List Str} {k : Nat} {S : Type} {enc : S → List Sl} (F : Fun cf.K x qual st f0 fd) (sc : FnScope N ps (defScope st)) (hp : ps.length = 3) (g : α → β → γ → R (Fl S τ))
    (G0 : α → β → γ → List Sl) (hG : ∀ a b c, [.va (toD a), .va (toD b), .va (toD c)] ++ List.replicate (N.length - 3) .un = G0 a b c)
    (h : ∀ (cdv : Value) (A : Around) (outer : List Env) (s : Shared) (H : Hp) (E : XK), Room k (A.deeper (envOfC qual (defScope st) s.heap.objs.size f0 cdv)) →
      ∃ t, PSs (cxOf CX0 P w cf.K mg base N qual (defScope st) f0 cdv A outer s H E).nox (defBody st) t ∧ ∀ a b c, SB cf E0 t (G0 a b c) enc (g a b c)) :
    FnOk P w cf.K mg base CX0 (k + 1) f0 fd ps (SpP cf 3 (sp3 fun a b c => finR (g a b c))) := by
  refine F.ok sc (SpP.len hp) (fun cdv A outer s H vs Q E hr hq => ?_)
  obtain ⟨t, ht, hb⟩ := h cdv A outer s H E hr
  refine ⟨t, ht, run_of (ρ := τ) (S := S) (enc := enc) hq fun ds dd hs => ?_⟩
  obtain ⟨a, b, c, rfl, er⟩ := hs
  refine ⟨g a b c, by have q := hb a b c; rw [← hG] at q; exact q, ?_⟩
  replace er : R.ok dd = (finR (g a b c)).map toD := er
  generalize q : finR (g a b c) = z at er
  cases z with
  | ok r => exact ⟨r, rfl, R.ok.inj er⟩
  | er c p => cases er
  | bad => cases er
end

section
variable {α β γ δ τ : Type} [Enc α] [Enc β] [Enc γ] [Enc δ] [Enc τ]
def sp4 (g : α → β → γ → δ → R τ) : List Dt → R Dt → Prop := fun ds r => ∃ (a : α) (b : β) (c : γ) (d : δ), ds = [toD a, toD b, toD c, toD d] ∧ r = (g a b c d).map toD
theorem em_call4 {cf : Cf} {E : XK} {G : List Sl} {t0 t1 t2 t3 : TE} {m0 : R α} {m1 : R β} {m2 : R γ} {m3 : R δ} {g : α → β → γ → δ → R τ} (h0 : EM cf E t0 G m0) (h1 : EM cf E t1 G m1) (h2 : EM cf E t2 G m2) (h3 : EM cf E t3 G m3) : EM cf E (tCall (SpP cf 4 (sp4 g)) [] E0 (tCons t0 (tCons t1 (tCons t2 (tCons t3 tNil))))) G (m0.bind fun a => m1.bind fun b => m2.bind fun c => m3.bind fun d => (g a b c d).pu) := fun F O H σ Q hf he nb ko ke => by
  refine h0 F O H σ _ hf he (R.bind_nb nb) (fun a v0 F1 H1 e0 l1 hf1 r0 => ?_) (fun c p d F' H' e le hf' hd => ke c p d F' H' (by rw [e]; rfl) (le) hf' hd)
  rw [e0, R.ok_bind] at nb ko ke
  have le1 := l1
  refine h1 F1 O H1 σ _ hf1 (he.mono le1) (R.bind_nb nb) (fun b v1 F2 H2 e1 l2 hf2 r1 => ?_) (fun c p d F' H' e le hf' hd => ke c p d F' H' (by rw [e]; rfl) (le1.trans le) hf' hd)
  rw [e1, R.ok_bind] at nb ko ke
  have le2 := le1.trans l2
  refine h2 F2 O H2 σ _ hf2 (he.mono le2) (R.bind_nb nb) (fun c v2 F3 H3 e2 l3 hf3 r2 => ?_) (fun c p d F' H' e le hf' hd => ke c p d F' H' (by rw [e]; rfl) (le2.trans le) hf' hd)
  rw [e2, R.ok_bind] at nb ko ke
  have le3 := le2.trans l3
  refine h3 F3 O H3 σ _ hf3 (he.mono le3) (R.bind_nb nb) (fun d v3 F4 H4 e3 l4 hf4 r3 => ?_) (fun c p d F' H' e le hf' hd => ke c p d F' H' (by rw [e]; rfl) (le3.trans le) hf' hd)
  rw [e3, R.ok_bind] at nb ko ke
  have le4 := le3.trans l4
  obtain ⟨y, ey⟩ := pu_nb nb
  exact ⟨rfl, F4, O, _, toD y, hf4, (.cons (Dr.mono (((l2).trans l3).trans l4) r0) (.cons (Dr.mono ((l3).trans l4) r1) (.cons (Dr.mono (l4) r2) (.cons r3 .nil)))), ⟨a, b, c, d, rfl, by rw [ey]; rfl⟩, fun v F' H' le hf' hr => ko y v F' H' (by rw [ey]; rfl) (le4.trans le) hf' hr⟩
theorem fn4 {P : Program} {w : World} {cf : Cf} {mg : Str → Option Value} {base : Heap} {x qual : Str} {st : Stmt} {f0 : Addr} {fd : FuncData} {N ps : List Str} {k : Nat} {S : Type} {enc : S → List Sl} (F : Fun cf.K x qual st f0 fd) (sc : FnScope N ps (defScope st)) (hp : ps.length = 4) (g : α → β → γ → δ → R (Fl S τ))
    (G0 : α → β → γ → δ → List Sl) (hG : ∀ a b c d, [.va (toD a), .va (toD b), .va (toD c), .va (toD d)] ++ List.replicate (N.length - 4) .un = G0 a b c d)
    (h : ∀ (cdv : Value) (A : Around) (outer : List Env) (s : Shared) (H : Hp) (E : XK), Room k (A.deeper (envOfC qual (defScope st) s.heap.objs.size f0 cdv)) →
      ∃ t, PSs (cxOf CX0 P w cf.K mg base N qual (defScope st) f0 cdv A outer s H E).nox (defBody st) t ∧ ∀ a b c d, SB cf E0 t (G0 a b c d) enc (g a b c d)) :
    FnOk P w cf.K mg base CX0 (k + 1) f0 fd ps (SpP cf 4 (sp4 fun a b c d => finR (g a b c d))) := by
  refine F.ok sc (SpP.len hp) (fun cdv A outer s H vs Q E hr hq => ?_)
  obtain ⟨t, ht, hb⟩ := h cdv A outer s H E hr
  refine ⟨t, ht, run_of (ρ := τ) (S := S) (enc := enc) hq fun ds dd hs => ?_⟩
  obtain ⟨a, b, c, d, rfl, er⟩ := hs
  refine ⟨g a b c d, by have q := hb a b c d; rw [← hG] at q; exact q, ?_⟩
  replace er : R.ok dd = (finR (g a b c d)).map toD := er
  generalize q : finR (g a b c d) = z at er
  cases z with
  | ok r => exact ⟨r, rfl, R.ok.inj er⟩
  | er c p => cases er
  | bad => cases er
end

section
variable {α β γ δ ε τ : Type} [Enc α] [Enc β] [Enc γ] [Enc δ] [Enc ε] [Enc τ]
def sp5 (g : α → β → γ → δ → ε → R τ) : List Dt → R Dt → Prop := fun ds r => ∃ (a : α) (b : β) (c : γ) (d : δ) (e : ε), ds = [toD a, toD b, toD c, toD d, toD e] ∧ r = (g a b c d e).map toD
theorem em_call5 {cf : Cf} {E : XK} {G : List Sl} {t0 t1 t2 t3 t4 : TE} {m0 : R α} {m1 : R β} {m2 : R γ} {m3 : R δ} {m4 : R ε} {g : α → β → γ → δ → ε → R τ} (h0 : EM cf E t0 G m0) (h1 : EM cf E t1 G m1) (h2 : EM cf E t2 G m2) (h3 : EM cf E t3 G m3) (h4 : EM cf E t4 G m4) : EM cf E (tCall (SpP cf 5 (sp5 g)) [] E0 (tCons t0 (tCons t1 (tCons t2 (tCons t3 (tCons t4 tNil)))))) G (m0.bind fun a => m1.bind fun b => m2.bind fun c => m3.bind fun d => m4.bind fun e => (g a b c d e).pu) := fun F O H σ Q hf he nb ko ke => by
  refine h0 F O H σ _ hf he (R.bind_nb nb) (fun a v0 F1 H1 e0 l1 hf1 r0 => ?_) (fun c p d F' H' e le hf' hd => ke c p d F' H' (by rw [e]; rfl) (le) hf' hd)
  rw [e0, R.ok_bind] at nb ko ke
  have le1 := l1
  refine h1 F1 O H1 σ _ hf1 (he.mono le1) (R.bind_nb nb) (fun b v1 F2 H2 e1 l2 hf2 r1 => ?_) (fun c p d F' H' e le hf' hd => ke c p d F' H' (by rw [e]; rfl) (le1.trans le) hf' hd)
  rw [e1, R.ok_bind] at nb ko ke
  have le2 := le1.trans l2
  refine h2 F2 O H2 σ _ hf2 (he.mono le2) (R.bind_nb nb) (fun c v2 F3 H3 e2 l3 hf3 r2 => ?_) (fun c p d F' H' e le hf' hd => ke c p d F' H' (by rw [e]; rfl) (le2.trans le) hf' hd)
  rw [e2, R.ok_bind] at nb ko ke
  have le3 := le2.trans l3
  refine h3 F3 O H3 σ _ hf3 (he.mono le3) (R.bind_nb nb) (fun d v3 F4 H4 e3 l4 hf4 r3 => ?_) (fun c p d F' H' e le hf' hd => ke c p d F' H' (by rw [e]; rfl) (le3.trans le) hf' hd)
  rw [e3, R.ok_bind] at nb ko ke
  have le4 := le3.trans l4
  refine h4 F4 O H4 σ _ hf4 (he.mono le4) (R.bind_nb nb) (fun e v4 F5 H5 e4 l5 hf5 r4 => ?_) (fun c p d F' H' e le hf' hd => ke c p d F' H' (by rw [e]; rfl) (le4.trans le) hf' hd)
  rw [e4, R.ok_bind] at nb ko ke
  have le5 := le4.trans l5
  obtain ⟨y, ey⟩ := pu_nb nb
  exact ⟨rfl, F5, O, _, toD y, hf5, (.cons (Dr.mono ((((l2).trans l3).trans l4).trans l5) r0) (.cons (Dr.mono (((l3).trans l4).trans l5) r1) (.cons (Dr.mono ((l4).trans l5) r2) (.cons (Dr.mono (l5) r3) (.cons r4 .nil))))), ⟨a, b, c, d, e, rfl, by rw [ey]; rfl⟩, fun v F' H' le hf' hr => ko y v F' H' (by rw [ey]; rfl) (le5.trans le) hf' hr⟩
theorem fn5 {P : Program} {w : World} {cf : Cf} {mg : Str → Option Value} {base : Heap} {x qual : Str} {st : Stmt} {f0 : Addr} {fd : FuncData} {N ps : List Str} {k : Nat} {S : Type} {enc : S → List Sl} (F : Fun cf.K x qual st f0 fd) (sc : FnScope N ps (defScope st)) (hp : ps.length = 5) (g : α → β → γ → δ → ε → R (Fl S τ))
    (G0 : α → β → γ → δ → ε → List Sl) (hG : ∀ a b c d e, [.va (toD a), .va (toD b), .va (toD c), .va (toD d), .va (toD e)] ++ List.replicate (N.length - 5) .un = G0 a b c d e)
    (h : ∀ (cdv : Value) (A : Around) (outer : List Env) (s : Shared) (H : Hp) (E : XK), Room k (A.deeper (envOfC qual (defScope st) s.heap.objs.size f0 cdv)) →
      ∃ t, PSs (cxOf CX0 P w cf.K mg base N qual (defScope st) f0 cdv A outer s H E).nox (defBody st) t ∧ ∀ a b c d e, SB cf E0 t (G0 a b c d e) enc (g a b c d e)) :
    FnOk P w cf.K mg base CX0 (k + 1) f0 fd ps (SpP cf 5 (sp5 fun a b c d e => finR (g a b c d e))) := by
  refine F.ok sc (SpP.len hp) (fun cdv A outer s H vs Q E hr hq => ?_)
  obtain ⟨t, ht, hb⟩ := h cdv A outer s H E hr
  refine ⟨t, ht, run_of (ρ := τ) (S := S) (enc := enc) hq fun ds dd hs => ?_⟩
  obtain ⟨a, b, c, d, e, rfl, er⟩ := hs
  refine ⟨g a b c d e, by have q := hb a b c d e; rw [← hG] at q; exact q, ?_⟩
  replace er : R.ok dd = (finR (g a b c d e)).map toD := er
  generalize q : finR (g a b c d e) = z at er
  cases z with
  | ok r => exact ⟨r, rfl, R.ok.inj er⟩
  | er c p => cases er
  | bad => cases er
end

section
variable {α β γ δ ε ζ τ : Type} [Enc α] [Enc β] [Enc γ] [Enc δ] [Enc ε] [Enc ζ] [Enc τ]
def sp6 (g : α → β → γ → δ → ε → ζ → R τ) : List Dt → R Dt → Prop := fun ds r => ∃ (a : α) (b : β) (c : γ) (d : δ) (e : ε) (f : ζ), ds = [toD a, toD b, toD c, toD d, toD e, toD f] ∧ r = (g a b c d e f).map toD
theorem em_call6 {cf : Cf} {E : XK} {G : List Sl} {t0 t1 t2 t3 t4 t5 : TE} {m0 : R α} {m1 : R β} {m2 : R γ} {m3 : R δ} {m4 : R ε} {m5 : R ζ} {g : α → β → γ → δ → ε → ζ → R τ} (h0 : EM cf E t0 G m0) (h1 : EM cf E t1 G m1) (h2 : EM cf E t2 G m2) (h3 : EM cf E t3 G m3) (h4 : EM cf E t4 G m4) (h5 : EM cf E t5 G m5) : EM cf E (tCall (SpP cf 6 (sp6 g)) [] E0 (tCons t0 (tCons t1 (tCons t2 (tCons t3 (tCons t4 (tCons t5 tNil))))))) G (m0.bind fun a => m1.bind fun b => m2.bind fun c => m3.bind fun d => m4.bind fun e => m5.bind fun f => (g a b c d e f).pu) := fun F O H σ Q hf he nb ko ke => by
  refine h0 F O H σ _ hf he (R.bind_nb nb) (fun a v0 F1 H1 e0 l1 hf1 r0 => ?_) (fun c p d F' H' e le hf' hd => ke c p d F' H' (by rw [e]; rfl) (le) hf' hd)
  rw [e0, R.ok_bind] at nb ko ke
  have le1 := l1
  refine h1 F1 O H1 σ _ hf1 (he.mono le1) (R.bind_nb nb) (fun b v1 F2 H2 e1 l2 hf2 r1 => ?_) (fun c p d F' H' e le hf' hd => ke c p d F' H' (by rw [e]; rfl) (le1.trans le) hf' hd)
  rw [e1, R.ok_bind] at nb ko ke
  have le2 := le1.trans l2
  refine h2 F2 O H2 σ _ hf2 (he.mono le2) (R.bind_nb nb) (fun c v2 F3 H3 e2 l3 hf3 r2 => ?_) (fun c p d F' H' e le hf' hd => ke c p d F' H' (by rw [e]; rfl) (le2.trans le) hf' hd)
  rw [e2, R.ok_bind] at nb ko ke
  have le3 := le2.trans l3
  refine h3 F3 O H3 σ _ hf3 (he.mono le3) (R.bind_nb nb) (fun d v3 F4 H4 e3 l4 hf4 r3 => ?_) (fun c p d F' H' e le hf' hd => ke c p d F' H' (by rw [e]; rfl) (le3.trans le) hf' hd)
  rw [e3, R.ok_bind] at nb ko ke
  have le4 := le3.trans l4
  refine h4 F4 O H4 σ _ hf4 (he.mono le4) (R.bind_nb nb) (fun e v4 F5 H5 e4 l5 hf5 r4 => ?_) (fun c p d F' H' e le hf' hd => ke c p d F' H' (by rw [e]; rfl) (le4.trans le) hf' hd)
  rw [e4, R.ok_bind] at nb ko ke
  have le5 := le4.trans l5
  refine h5 F5 O H5 σ _ hf5 (he.mono le5) (R.bind_nb nb) (fun f v5 F6 H6 e5 l6 hf6 r5 => ?_) (fun c p d F' H' e le hf' hd => ke c p d F' H' (by rw [e]; rfl) (le5.trans le) hf' hd)
  rw [e5, R.ok_bind] at nb ko ke
  have le6 := le5.trans l6
  obtain ⟨y, ey⟩ := pu_nb nb
  exact ⟨rfl, F6, O, _, toD y, hf6, (.cons (Dr.mono (((((l2).trans l3).trans l4).trans l5).trans l6) r0) (.cons (Dr.mono ((((l3).trans l4).trans l5).trans l6) r1) (.cons (Dr.mono (((l4).trans l5).trans l6) r2) (.cons (Dr.mono ((l5).trans l6) r3) (.cons (Dr.mono (l6) r4) (.cons r5 .nil)))))), ⟨a, b, c, d, e, f, rfl, by rw [ey]; rfl⟩, fun v F' H' le hf' hr => ko y v F' H' (by rw [ey]; rfl) (le6.trans le) hf' hr⟩
theorem fn6 {P : Program} {w : World} {cf : Cf} {mg : Str → Option Value} {base : Heap} {x qual : Str} {st : Stmt} {f0 : Addr} {fd : FuncData} {N ps : List Str} {k : Nat} {S : Type} {enc : S → List Sl} (F : Fun cf.K x qual st f0 fd) (sc : FnScope N ps (defScope st)) (hp : ps.length = 6) (g : α → β → γ → δ → ε → ζ → R (Fl S τ))
    (G0 : α → β → γ → δ → ε → ζ → List Sl) (hG : ∀ a b c d e f, [.va (toD a), .va (toD b), .va (toD c), .va (toD d), .va (toD e), .va (toD f)] ++ List.replicate (N.length - 6) .un = G0 a b c d e f)
    (h : ∀ (cdv : Value) (A : Around) (outer : List Env) (s : Shared) (H : Hp) (E : XK), Room k (A.deeper (envOfC qual (defScope st) s.heap.objs.size f0 cdv)) →
      ∃ t, PSs (cxOf CX0 P w cf.K mg base N qual (defScope st) f0 cdv A outer s H E).nox (defBody st) t ∧ ∀ a b c d e f, SB cf E0 t (G0 a b c d e f) enc (g a b c d e f)) :
    FnOk P w cf.K mg base CX0 (k + 1) f0 fd ps (SpP cf 6 (sp6 fun a b c d e f => finR (g a b c d e f))) := by
  refine F.ok sc (SpP.len hp) (fun cdv A outer s H vs Q E hr hq => ?_)
  obtain ⟨t, ht, hb⟩ := h cdv A outer s H E hr
  refine ⟨t, ht, run_of (ρ := τ) (S := S) (enc := enc) hq fun ds dd hs => ?_⟩
  obtain ⟨a, b, c, d, e, f, rfl, er⟩ := hs
  refine ⟨g a b c d e f, by have q := hb a b c d e f; rw [← hG] at q; exact q, ?_⟩
  replace er : R.ok dd = (finR (g a b c d e f)).map toD := er
  generalize q : finR (g a b c d e f) = z at er
  cases z with
  | ok r => exact ⟨r, rfl, R.ok.inj er⟩
  | er c p => cases er
  | bad => cases er
end
end Kr

/-! KrG: further rules by data: in, isinstance, sorted, a, b = .., is True. -/
namespace Kr
open PySem PySem.Spec PyProof.Rows L2
open Enc (toD)

/-! ### rules whose reading names the written part itself -/
section
variable {X : Cx} (K : PySem.W.Frag) (h : X.K = K)
include h
theorem ix_listK : IxR X (rIxL K) := h ▸ ix_list
theorem ix_tupK : IxR X (rIxT K) := h ▸ ix_tup
theorem sl_listK : SlR X (rSlL K) := h ▸ sl_list
theorem lenK : CallR X (.builtin "len") (rLenS K) := h ▸ call_len_seq
theorem listK : CallR X (.type "list") (rListS K) := h ▸ call_list_of
theorem sumK (hc : X.calm = true) : CallR X (.builtin "sum") (rSum K) := h ▸ cr_sum hc
theorem maxK (hc : X.calm = true) : CallR X (.builtin "max") (rMax K) := h ▸ cr_max hc
theorem minK (hc : X.calm = true) : CallR X (.builtin "min") (rMin K) := h ▸ cr_min hc
theorem anyK (hc : X.calm = true) : CallR X (.builtin "any") (rAny K) := h ▸ cr_any hc
theorem inK : OpR X (compareOp .In) (rIn K false) := h ▸ op_in_seq
theorem notInK : OpR X (compareOp .NotIn) (rIn K true) := h ▸ op_notIn_seq
theorem eqDK (hu : X.A.units + 64 < cLine) : OpR X (compareOp .Eq) (rEqD K) := h ▸ op_eqD hu
theorem neDK (hu : X.A.units + 64 < cLine) : OpR X (compareOp .NotEq) (rNeD K) := h ▸ op_neD hu
theorem tupK {es : List Expr} {k : Nat} {t : TGs} {pos : Pos} (n : Nat) (hc : X.calm = true) (hp : PGs X es t)
    (hn : (assignEach es X.env).length = n := by rfl) (hst : (assignEach es X.env).findIdx? (·.1) = none := by rfl) : PG X (.Tuple es k pos) (gTup K n t) := h ▸ pg_tup hc hp hn hst
theorem listI {tg l : Expr} {tl : TE} (hl : PE X l tl) : PI X tg l (iList K tl) := h ▸ pi_list hl
theorem enumI {e : Expr} {ta : TA} {p pos tpos : Pos} {elts : List Expr} {kk : Nat} (hg : Gl X "enumerate") (hm : X.mg "enumerate" = none) (ha : PA X [e] ta) (hs : starEach [e] X.env = [(false, eval e X.env)] := by rfl) :
    PI X (.Tuple elts kk tpos) (.Call (.Name "enumerate" p) [e] [] pos) (iEnum K ta) := h ▸ pi_enum hg hm ha hs
theorem zipI {e e2 : Expr} {ta : TA} {p pos tpos : Pos} {elts : List Expr} {kk : Nat} (hg : Gl X "zip") (hm : X.mg "zip" = none) (ha : PA X [e, e2] ta)
    (hs : starEach [e, e2] X.env = (false, eval e X.env) :: starEach [e2] X.env := by rfl) (hpl : (backTo pos (starEach [e2] X.env)).any (·.1) = false := by rfl) :
    PI X (.Tuple elts kk tpos) (.Call (.Name "zip" p) [e, e2] [] pos) (iZip K ta) := h ▸ pi_zip hg hm ha hs hpl
theorem revI {tg e : Expr} {ta : TA} {p pos : Pos} (hg : Gl X "reversed") (hm : X.mg "reversed" = none) (ha : PA X [e] ta) (hs : starEach [e] X.env = [(false, eval e X.env)] := by rfl) : PI X tg (.Call (.Name "reversed" p) [e] [] pos) (iRev K ta) := h ▸ pi_reversed hg hm ha hs
end
section
variable {cf : Cf} {E : XK} {G : List Sl} {S α β γ δ ρ : Type} [Enc ρ] {ta tb tc te : TE} {t u : TS} {enc : S → List Sl}
theorem sb_skip {m : R (Fl S ρ)} (h : SB cf E u G enc m) : SB cf E (tSeq tNext u) G enc m := h
theorem sb_bad : SB cf E u G enc (.bad : R (Fl S ρ)) := fun _ _ _ _ _ _ nb => absurd rfl nb
theorem sb_retN : SB cf E tRetN G enc (.ok (.rt ()) : R (Fl S Unit)) := fun F O H σ D hM _ _ _ kr _ => kr () .non F H rfl (Le.refl F) hM.fm .non
theorem sb_retN2 : SB cf E (tSeq tRetN u) G enc (.ok (.rt ()) : R (Fl S Unit)) := fun F O H σ D hM _ _ _ kr _ => kr () .non F H rfl (Le.refl F) hM.fm .non
/-! ### a, b = e1, e2 -/
theorem mt_set {K : PySem.W.Frag} {F O H : Hp} {σ : L2.St} (h : Mt K F O H σ G) (i : Nat) {v : V} {d : Dt} (r : Dr K F v d) : Mt K F O H (σ.set i (some v)) (G.set i (.va d)) := by
  obtain ⟨O', lo, hf, he, o1, o2⟩ := h
  refine ⟨O', lo, hf, er_set he i r, fun j s b q o => ?_, fun j l s t b hjl q q' o o' => ?_⟩
  · obtain ⟨q1, q2⟩ := own_set (σ := σ) (y := some v) q o
    rw [q2]
    exact o1 j s b q1 o
  · obtain ⟨q1, q2⟩ := own_set (σ := σ) (y := some v) q o
    obtain ⟨q3, q4⟩ := own_set (σ := σ) (y := some v) q' o'
    rw [q2, q4]
    exact o2 j l s t b hjl q1 q3 o o'
theorem sb_par2 [Enc α] [Enc β] {i j : Nat} {m : R α} {n : R β} {f : α → β → R (Fl S ρ)} (h : EM cf E ta G m) (h' : EM cf E tb G n) (G' : α → β → List Sl) (hG : ∀ a b, (G.set i (.va (toD a))).set j (.va (toD b)) = G' a b) (hk : ∀ a b, SB cf E u (G' a b) enc (f a b)) :
    SB cf E (tSeq (tPar i j (tCons ta (tCons tb tNil))) u) G enc (m.bind fun a => n.bind fun b => f a b) := fun F O H σ D hM nb kn kb kr ke => by
  obtain ⟨O', lo, hf, he, o1, o2⟩ := hM
  refine h F O' H σ _ hf he (R.bind_nb nb) (fun a v F1 H1 ea le1 hf1 hr => ?_) (fun c p d F' H' e le hf' hd => ke c p d F' H' (by rw [e]; rfl) le (hf'.weak lo) hd)
  rw [ea, R.ok_bind] at nb kn kb kr ke
  refine h' F1 O' H1 σ _ hf1 (he.mono le1) (R.bind_nb nb) (fun b w' F2 H2 eb le2 hf2 hw => ?_) (fun c p d F' H' e le hf' hd => ke c p d F' H' (by rw [e]; rfl) (le1.trans le) (hf'.weak lo) hd)
  rw [eb, R.ok_bind] at nb kn kb kr ke
  have le := le1.trans le2
  have hM2 : Mt cf.K F2 O H2 σ G := ⟨O', lo, hf2, he.mono le, o1, o2⟩
  have hM3 := mt_set (mt_set hM2 i (hr.mono le2)) j hw
  rw [hG] at hM3
  exact ⟨v, w', rfl, hk a b F2 O H2 _ D hM3 nb (fun s F'' H'' σ' e le' => kn s F'' H'' σ' e (le.trans le')) (fun s F'' H'' σ' e le' => kb s F'' H'' σ' e (le.trans le')) (fun r v F'' H'' e le' => kr r v F'' H'' e (le.trans le')) fun c p d F'' H'' e le' => ke c p d F'' H'' e (le.trans le')⟩
theorem sb_par3 [Enc α] [Enc β] [Enc γ] {i j l : Nat} {m : R α} {n : R β} {o : R γ} {f : α → β → γ → R (Fl S ρ)} (h : EM cf E ta G m) (h' : EM cf E tb G n) (h'' : EM cf E tc G o) (G' : α → β → γ → List Sl)
    (hG : ∀ a b c, ((G.set i (.va (toD a))).set j (.va (toD b))).set l (.va (toD c)) = G' a b c) (hk : ∀ a b c, SB cf E u (G' a b c) enc (f a b c)) :
    SB cf E (tSeq (tPar3 i j l (tCons ta (tCons tb (tCons tc tNil)))) u) G enc (m.bind fun a => n.bind fun b => o.bind fun c => f a b c) := fun F O H σ D hM nb kn kb kr ke => by
  obtain ⟨O', lo, hf, he, o1, o2⟩ := hM
  refine h F O' H σ _ hf he (R.bind_nb nb) (fun a v F1 H1 ea le1 hf1 hr => ?_) (fun c p d F' H' e le hf' hd => ke c p d F' H' (by rw [e]; rfl) le (hf'.weak lo) hd)
  rw [ea, R.ok_bind] at nb kn kb kr ke
  refine h' F1 O' H1 σ _ hf1 (he.mono le1) (R.bind_nb nb) (fun b w' F2 H2 eb le2 hf2 hw => ?_) (fun c p d F' H' e le hf' hd => ke c p d F' H' (by rw [e]; rfl) (le1.trans le) (hf'.weak lo) hd)
  rw [eb, R.ok_bind] at nb kn kb kr ke
  have le12 := le1.trans le2
  refine h'' F2 O' H2 σ _ hf2 (he.mono le12) (R.bind_nb nb) (fun c z F3 H3 ec le3 hf3 hz => ?_) (fun c p d F' H' e le hf' hd => ke c p d F' H' (by rw [e]; rfl) (le12.trans le) (hf'.weak lo) hd)
  rw [ec, R.ok_bind] at nb kn kb kr ke
  have le := le12.trans le3
  have hM2 : Mt cf.K F3 O H3 σ G := ⟨O', lo, hf3, he.mono le, o1, o2⟩
  have hM3 := mt_set (mt_set (mt_set hM2 i (hr.mono (le2.trans le3))) j (hw.mono le3)) l hz
  rw [hG] at hM3
  exact ⟨v, w', z, rfl, hk a b c F3 O H3 _ D hM3 nb (fun s F'' H'' σ' e le' => kn s F'' H'' σ' e (le.trans le')) (fun s F'' H'' σ' e le' => kb s F'' H'' σ' e (le.trans le')) (fun r v F'' H'' e le' => kr r v F'' H'' e (le.trans le')) fun c p d F'' H'' e le' => ke c p d F'' H'' e (le.trans le')⟩
/-- a value that is not None -/
def getR (o : Option α) : R α := match o with
  | some a => .ok a
  | none => .bad
theorem EM.get [Enc α] {m : R (Option α)} (h : EM cf E ta G m) : EM cf E ta G (m.bind getR) := fun F O H σ Q hf he nb ko ke =>
  h F O H σ Q hf he (R.bind_nb nb) (fun o v F' H' e le hf' hr => by
    rw [e, R.ok_bind] at nb ko
    cases o with
    | none => exact absurd rfl nb
    | some a => exact ko a v F' H' rfl le hf' hr) (fun c p d F' H' e => ke c p d F' H' (by rw [e]; rfl))
/-! ### is True, in, isinstance -/
theorem em_isB {ma mb : R Bool} (ha : EM cf E ta G ma) (hb : EM cf E tb G mb) : EM cf E (tOp rIsB ta tb) G (ma.bind fun a => mb.bind fun b => .ok (decide (a = b))) :=
  EG.bind2 (u := fun x y H Q => rIsB x y H Q) ha hb rm_mono fun F O H Q a r b s hf h1 h2 _ ko => ⟨a, b, dr_bl h1, dr_bl h2, ko _ _ F H rfl (Le.refl F) hf (.bl _)⟩
theorem em_notB {ma mb : R Bool} (ha : EM cf E ta G ma) (hb : EM cf E tb G mb) : EM cf E (tOp rNotB ta tb) G (ma.bind fun a => mb.bind fun b => .ok (!decide (a = b))) :=
  EG.bind2 (u := fun x y H Q => rNotB x y H Q) ha hb rm_mono fun F O H Q a r b s hf h1 h2 _ ko => ⟨a, b, dr_bl h1, dr_bl h2, ko _ _ F H rfl (Le.refl F) hf (.bl _)⟩
theorem inV_int (a : Int) : ∀ xs : List Int, inV (.int a) (xs.map V.int) = xs.contains a
  | [] => rfl
  | x :: r => by
    have ih := inV_int a r
    unfold inV at ih ⊢
    rw [List.map_cons, List.any_cons, ih, List.contains_cons]
    congr 1
    show eqV (.int x) (.int a) = (a == x)
    unfold eqV
    by_cases e : x = a
    · subst e
      simp
    · have e' : ¬ a = x := fun z => e z.symm
      show (x == a) = (a == x)
      rw [beq_eq_false_iff_ne.mpr e, beq_eq_false_iff_ne.mpr e']
theorem flat_int (xs : List Int) : (xs.map V.int).all flatV = true := by
  rw [List.all_eq_true]
  intro x hx
  obtain ⟨i, _, rfl⟩ := List.mem_map.mp hx
  rfl
theorem em_inI {ma : R Int} {mb : R (List Int)} (ha : EM cf E ta G ma) (hb : ES cf E tb G mb) : EM cf E (tOp (rIn cf.K false) ta tb) G (ma.bind fun a => mb.bind fun b => .ok (b.contains a)) :=
  EG.bind2 (u := fun x y H Q => rIn cf.K false x y H Q) ha hb rm_mono fun F O H Q a r b s hf h1 h2 _ ko => by
    obtain ⟨p, vs, e, hs, hr⟩ := RS.seq h2 hf
    rw [ints_of_drA hr] at hs
    rw [dr_int (i := a) h1]
    refine ⟨p, _, e, .inl hs, rfl, flat_int b, ?_⟩
    rw [inV_int]
    exact ko _ _ F H rfl (Le.refl F) hf (.bl _)
theorem em_niI {ma : R Int} {mb : R (List Int)} (ha : EM cf E ta G ma) (hb : ES cf E tb G mb) : EM cf E (tOp (rIn cf.K true) ta tb) G (ma.bind fun a => mb.bind fun b => .ok (!b.contains a)) :=
  EG.bind2 (u := fun x y H Q => rIn cf.K true x y H Q) ha hb rm_mono fun F O H Q a r b s hf h1 h2 _ ko => by
    obtain ⟨p, vs, e, hs, hr⟩ := RS.seq h2 hf
    rw [ints_of_drA hr] at hs
    rw [dr_int (i := a) h1]
    refine ⟨p, _, e, .inl hs, rfl, flat_int b, ?_⟩
    rw [inV_int]
    exact ko _ _ F H rfl (Le.refl F) hf (.bl _)
/-- isinstance(x, T), x of the type T itself -/
def rIsTyK (K : PySem.W.Frag) : List V → Hp → VK → Prop := fun xs H Q => ∃ (x : V) (T : String), xs = [x, .ty T] ∧ TyOf K H x (.type T) ∧ Q (.bl true) H
theorem call_isTyK {X : Cx} : CallR X (.builtin "isinstance") (rIsTyK X.K) := by
  intro pins s σ H xs us Q I r h
  obtain ⟨x, T, rfl, t, q⟩ := h
  cases r with
  | cons rx rr =>
    cases rr with
    | cons rt rr =>
      cases rr
      cases rt
      have e : PySem.W.kitOne X.K (.type T) (.type T) = some true := if_pos (beq_self_eq_true _)
      exact isinst_ok I rx t e fun tk => ⟨.bl true, H, I.kept (t' := tk) fun _ _ z => z, rfl, q⟩
theorem em_isT (T : String) [Enc α] (hT : ∀ (F H : Hp) (v : V) (a : α), Le F H → Dr cf.K F v (toD a) → TyOf cf.K H v (.type T)) {m : R α} (h : EM cf E ta G m) : EM cf E (tCB (rIsTyK cf.K) (tCons ta (tCons (tC (.ty T)) tNil))) G (m.bind fun _ => .ok true) :=
  EG.bind1 (u := fun r H Q => rIsTyK cf.K [r, .ty T] H Q) h fun F O H Q a r hf h1 _ ko => ⟨r, T, rfl, hT F H r a hf.f h1, ko _ _ F H rfl (Le.refl F) hf (.bl _)⟩
theorem em_isT_bool {m : R Bool} (h : EM cf E ta G m) : EM cf E (tCB (rIsTyK cf.K) (tCons ta (tCons (tC (.ty "bool")) tNil))) G (m.bind fun _ => .ok true) := em_isT "bool" (fun F H v a le r => by
  rw [dr_bl (i := a) r]
  exact .bl a) h
theorem em_isT_list [Enc α] {m : R (List α)} (h : EM cf E ta G m) : EM cf E (tCB (rIsTyK cf.K) (tCons ta (tCons (tC (.ty "list")) tNil))) G (m.bind fun _ => .ok true) := em_isT "list" (fun F H v a le r => by
  obtain ⟨p, vs, e, h1, _⟩ := dr_lst r
  rw [e]
  exact .lst (le _ _ h1)) h
theorem em_isT_tuple [Enc α] [Enc β] {m : R (α × β)} (h : EM cf E ta G m) : EM cf E (tCB (rIsTyK cf.K) (tCons ta (tCons (tC (.ty "tuple")) tNil))) G (m.bind fun _ => .ok true) := em_isT "tuple" (fun F H v a le r => by
  obtain ⟨p, vs, e, h1, _⟩ := dr_tup (ds := [toD a.1, toD a.2]) r
  rw [e]
  exact .tup (le _ _ h1)) h

/-! ### sorted -/
/-- data that Python sorts -/
class Sbl (α : Type) [Enc α] : Prop where
  al : ∀ a b : α, PySem.W.alike (toD a).py (toD b).py = true
  so : (∀ a : α, ∃ x r, (toD a).py = .tuple (x :: r)) ∨ ∀ a : α, (toD a).py ≠ .none ∧ ∀ xs, (toD a).py ≠ .tuple xs
  dp : ∀ a : α, (toD a).py.depth ≤ 8
  nd : ∀ a : α, (toD a).nd = true
/-- Python's a <= b -/
def leD [Enc α] (a b : α) : Bool := PySem.W.dataLe false (fun x : α => (toD x).py) a b
def sortR [Enc α] (xs : List α) : R (List α) := (szR xs).bind fun xs => .ok (xs.mergeSort leD)
def rSortedD (K : PySem.W.Frag) : List V → Hp → VK → Prop := fun vs H Q => ∃ (a : Addr) (zs : List (V × PyData)), vs = [V.ref a] ∧ SqL K H a (zs.map (·.1)) ∧ (∀ z ∈ zs, Dp K H z.1 z.2) ∧ PySem.W.AllAlike (zs.map (·.2)) ∧ PySem.W.Sortable (zs.map (·.2)) ∧ (∀ z ∈ zs, z.2.depth ≤ 8) ∧
  ∀ p, H p = none → Q (.ref p) (upd H p (.lst ((zs.mergeSort (PySem.W.dataLe false fun z : V × PyData => z.2)).map (·.1))))
theorem relV_unique {v : V} {u u' : Value} : True := trivial
theorem eachIs_of {α β : Type} {R : α → β → Prop} : ∀ {as : List α} {bs : List β}, as.length = bs.length → (∀ (i : Nat) a b, as[i]? = some a → bs[i]? = some b → R a b) → PySem.W.EachIs R as bs
  | [], [], _, _ => .nil
  | [], _ :: _, h, _ => by simp at h
  | _ :: _, [], h, _ => by simp at h
  | a :: as, b :: bs, h, k => .cons (k 0 a b rfl rfl) (eachIs_of (by simpa using h) fun i x y e e' => k (i + 1) x y (by simpa using e) (by simpa using e'))
theorem vals_of_each {β : Type} {f : β → V} : ∀ {us : List Value} {bs : List β}, PySem.W.EachIs (fun u b => RelV (f b) u) us bs → Vals (bs.map f) us
  | _, _, .nil => .nil
  | _, _, .cons r t => .cons r (vals_of_each t)
theorem cr_sortedD {X : Cx} (hu : X.A.units + 64 < cLine) : CallR X (.builtin "sorted") (rSortedD X.K) := by
  intro pins s σ H vs us Q I r h
  obtain ⟨a, zs, rfl, hs, hd, hal, hso, hdp, q⟩ := h
  obtain ⟨its, rv, hl, hz⟩ := I.list hs
  obtain ⟨u, rfl, ru⟩ := vals1 r
  obtain rfl : u = Value.ref a := ru
  have hlen : its.length = zs.length := by rw [← rv.length, List.length_map]
  have rel : ∀ (i : Nat) (u : Value) (z : V × PyData), its[i]? = some u → zs[i]? = some z → RelV z.1 u := fun i u z e1 e2 => by
    obtain ⟨u', h1, h2⟩ := rv.get (show (zs.map (·.1))[i]? = some z.1 by rw [List.getElem?_map, e2]; rfl)
    rw [e1] at h1
    cases h1
    exact h2
  have er : PySem.W.EachIs (fun u z => RelV z.1 u) its zs := eachIs_of hlen rel
  have er2 : PySem.W.EachIs (fun u z => ∃ as, Reads s.heap u (z : V × PyData).2 as) its zs := eachIs_of hlen fun i u z e1 e2 => Dp.reads I z.2 z.1 u (hd z (List.mem_of_getElem? e2)) (rel i u z e1 e2)
  refine PySem.W.sorted_data (enc := fun z : V × PyData => z.2) hl.isList er er2 hal hso (by rw [← hlen, ← rv.length]; exact hz) (fun z hm => by have := hdp z hm; omega) fun out ho eo => ?_
  obtain ⟨c, hc⟩ := sortedAll_at s.heap its out.toArray
  have hf : H (s.heap.objs.size + 1) = none := I.hok.fresh (Nat.le_succ _)
  refine ⟨.ref (s.heap.objs.size + 1), _, I.laid (t' := s.toks) (o := .lst ((zs.mergeSort (PySem.W.dataLe false fun z : V × PyData => z.2)).map (·.1))) (h' := sortedAll s.heap its out.toArray) (fun b o e => sortedAll_old e) (Nat.le_succ _) ⟨?_, out, c, vals_of_each eo, hc⟩, rfl, q _ hf⟩
  rw [List.length_map, List.length_mergeSort, ← hlen, ← rv.length]
  exact hz
theorem zip_fst {A B : Type} : ∀ {xs : List A} {ys : List B}, xs.length = ys.length → (xs.zip ys).map (·.1) = xs
  | [], [], _ => rfl
  | [], _ :: _, h => by simp at h
  | _ :: _, [], h => by simp at h
  | x :: xs, y :: ys, h => by rw [List.zip_cons_cons, List.map_cons, zip_fst (by simpa using h)]
theorem zip_snd {A B : Type} : ∀ {xs : List A} {ys : List B}, xs.length = ys.length → (xs.zip ys).map (·.2) = ys
  | [], [], _ => rfl
  | [], _ :: _, h => by simp at h
  | _ :: _, [], h => by simp at h
  | x :: xs, y :: ys, h => by rw [List.zip_cons_cons, List.map_cons, zip_snd (by simpa using h)]
theorem drA_zip [Enc α] {K : PySem.W.Frag} {F : Hp} : ∀ {vs : List V} {xs : List α}, DrA K F vs (xs.map toD) → ∀ z ∈ vs.zip xs, Dr K F z.1 (toD z.2)
  | [], _, _, z, hz => by simp at hz
  | _ :: _, [], _, z, hz => by simp at hz
  | v :: vs, x :: xs, h, z, hz => by
    obtain ⟨v', r', e, h1, h2⟩ := drA_cons h
    cases e
    rw [List.zip_cons_cons] at hz
    rcases List.mem_cons.mp hz with e | hz
    · subst e
      exact h1
    · exact drA_zip h2 z hz
theorem drA_of [Enc α] {K : PySem.W.Frag} {F : Hp} : ∀ {zs : List (V × α)}, (∀ z ∈ zs, Dr K F z.1 (toD z.2)) → DrA K F (zs.map (·.1)) ((zs.map (·.2)).map toD)
  | [], _ => .nil
  | z :: zs, h => .cons (h z (by simp)) (drA_of fun y hy => h y (by simp [hy]))
theorem ef_sorted [Enc α] [Sbl α] {m : R (List α)} (h : ES cf E ta G m) : EF cf E (tCB (rSortedD cf.K) (tCons ta tNil)) G (m.bind sortR) :=
  EG.call1 (ρ := Unit) h fun F O H Q xs r hf h1 nb ko => by
    obtain ⟨p, vs, e, hs, hr⟩ := RS.seq h1 hf
    obtain ⟨hz, ez⟩ := szR_nb (R.bind_nb nb)
    have es : sortR xs = .ok (xs.mergeSort leD) := by
      unfold sortR
      rw [ez]
      rfl
    have hl : vs.length = xs.length := by rw [hr.length, List.length_map]
    let zs : List (V × α) := vs.zip xs
    let ws : List (V × PyData) := zs.map fun z => (z.1, (toD z.2).py)
    have e1 : ws.map (·.1) = vs := by
      show (zs.map _).map _ = vs
      rw [List.map_map]
      exact zip_fst hl
    have hw : ∀ w' ∈ ws, ∃ v a, (v, a) ∈ zs ∧ w' = (v, (toD a).py) := fun w' hm => by
      obtain ⟨z, hz, rfl⟩ := List.mem_map.mp hm
      exact ⟨z.1, z.2, hz, rfl⟩
    refine ⟨p, ws, by rw [e], by rw [e1]; exact hs, fun w' hm => ?_, fun d hd d' hd' => ?_, ?_, fun w' hm => ?_, fun q hq => ?_⟩
    · obtain ⟨v, a, hz, rfl⟩ := hw w' hm
      exact Dr.dp hf.f (drA_zip hr _ hz) (Sbl.nd a)
    · obtain ⟨w1, hm, rfl⟩ := List.mem_map.mp hd
      obtain ⟨w2, hm', rfl⟩ := List.mem_map.mp hd'
      obtain ⟨v, a, _, rfl⟩ := hw w1 hm
      obtain ⟨v', a', _, rfl⟩ := hw w2 hm'
      exact Sbl.al a a'
    · rcases Sbl.so (α := α) with k | k
      · refine .inl fun d hd => ?_
        obtain ⟨w1, hm, rfl⟩ := List.mem_map.mp hd
        obtain ⟨v, a, _, rfl⟩ := hw w1 hm
        exact k a
      · refine .inr fun d hd => ?_
        obtain ⟨w1, hm, rfl⟩ := List.mem_map.mp hd
        obtain ⟨v, a, _, rfl⟩ := hw w1 hm
        exact k a
    · obtain ⟨v, a, _, rfl⟩ := hw w' hm
      exact Sbl.dp a
    · refine ko _ _ F _ es (Le.refl F) (hf.newH hq) ⟨q, _, rfl, hf.fnone hq, hf.onone hq, upd_same, ?_⟩
      have k1 : ws.mergeSort (PySem.W.dataLe false fun z : V × PyData => z.2) = (zs.mergeSort fun x y => leD x.2 y.2).map fun z => (z.1, (toD z.2).py) := by
        show (zs.map _).mergeSort _ = _
        exact (List.map_mergeSort (r := fun x y : V × α => leD x.2 y.2) (s := PySem.W.dataLe false fun z : V × PyData => z.2) (f := fun z : V × α => (z.1, (toD z.2).py)) (l := zs) (fun a _ b _ => rfl)).symm
      have k2 : (zs.mergeSort fun x y => leD x.2 y.2).map (·.2) = xs.mergeSort leD := by
        have q := List.map_mergeSort (r := fun x y : V × α => leD x.2 y.2) (s := leD) (f := fun z : V × α => z.2) (l := zs) (fun a _ b _ => rfl)
        rw [q]
        congr 1
        exact zip_snd hl
      rw [k1, ← k2, List.map_map]
      exact drA_of fun z hz => drA_zip hr z ((List.mergeSort_perm zs _).mem_iff.mp hz)
end
instance : Sbl Int := ⟨fun a b => by show PySem.W.alike (.int a) (.int b) = true; simp only [PySem.W.alike], .inr fun a => ⟨fun h => (nomatch h), fun _ h => (nomatch h)⟩, fun a => Nat.zero_le _, fun a => rfl⟩
instance : Sbl (Int × Int) := ⟨fun a b => by
    show PySem.W.alike (.tuple [.int a.1, .int a.2]) (.tuple [.int b.1, .int b.2]) = true
    simp [PySem.W.alike, PySem.W.alikeAll], .inl fun a => ⟨_, _, rfl⟩, fun a => by
    show PyData.depth (.tuple [.int a.1, .int a.2]) ≤ 8
    simp [PyData.depth, PyData.depthAll], fun a => rfl⟩
instance : Sbl (T3 Int Int Int) := ⟨fun a b => by
    show PySem.W.alike (.tuple [.int a.a, .int a.b, .int a.c]) (.tuple [.int b.a, .int b.b, .int b.c]) = true
    simp [PySem.W.alike, PySem.W.alikeAll], .inl fun a => ⟨_, _, rfl⟩, fun a => by
    show PyData.depth (.tuple [.int a.a, .int a.b, .int a.c]) ≤ 8
    simp [PyData.depth, PyData.depthAll], fun a => rfl⟩
theorem pyA_ints : ∀ ns : List Int, Dt.pyA (ns.map toD) = ns.map PyData.int
  | [] => rfl
  | n :: r => by
    show PyData.int n :: Dt.pyA (r.map toD) = _
    rw [pyA_ints r]
    rfl
theorem ndA_ints : ∀ ns : List Int, Dt.ndA (ns.map toD) = true
  | [] => rfl
  | n :: r => by
    show (true && Dt.ndA (r.map toD)) = true
    rw [ndA_ints r]
    rfl
instance : Sbl (Int × List Int) := ⟨fun a b => by
    show PySem.W.alike (.tuple [.int a.1, .list (Dt.pyA (a.2.map toD))]) (.tuple [.int b.1, .list (Dt.pyA (b.2.map toD))]) = true
    rw [pyA_ints, pyA_ints]
    simp [PySem.W.alike, PySem.W.alikeAll, PySem.W.alike_ints], .inl fun a => ⟨_, _, rfl⟩, fun a => by
    show PyData.depth (.tuple [.int a.1, .list (Dt.pyA (a.2.map toD))]) ≤ 8
    rw [pyA_ints]
    simp [PyData.depth, PyData.depthAll, PySem.W.depth_ints], fun a => by
    show (true && (Dt.ndA (a.2.map toD) && true)) = true
    rw [ndA_ints]
    rfl⟩
section
variable {X : Cx} (K : PySem.W.Frag) (h : X.K = K)
include h
theorem sortedK (hu : X.A.units + 64 < cLine) : CallR X (.builtin "sorted") (rSortedD K) := h ▸ cr_sortedD hu
theorem isTyK : CallR X (.builtin "isinstance") (rIsTyK K) := h ▸ call_isTyK
end
end Kr

/-! KrM: the mathematics of results: loops, comprehensions, equality of data. -/
namespace Kr
open PySem PySem.Spec PyProof.Rows L2
open Enc (toD)
variable {α β γ S T ρ : Type}
theorem finR_rt (r : ρ) : finR (.ok (.rt r) : R (Fl S ρ)) = .ok r := (fun (m : R (Fl S ρ)) (e : m = .ok (.rt r)) => show finR m = .ok r by rw [e]; rfl) _ rfl
theorem seqF_nx (s : S) (k : S → R (Fl T ρ)) : seqF (.ok (.nx s)) k = k s := (fun (m : R (Fl S ρ)) (e : m = .ok (.nx s)) => show seqF m k = k s by rw [e]; rfl) _ rfl
theorem seqF_rt (r : ρ) (k : S → R (Fl T ρ)) : seqF (.ok (.rt r)) k = .ok (.rt r) := (fun (m : R (Fl S ρ)) (e : m = .ok (.rt r)) => show seqF m k = .ok (.rt r) by rw [e]; rfl) _ rfl
theorem seqF_ite (c : Prop) [Decidable c] (a b : R (Fl S ρ)) (k : S → R (Fl T ρ)) : seqF (if c then a else b) k = if c then seqF a k else seqF b k := by split <;> rfl
theorem ite_nx (c : Prop) [Decidable c] (a b : S) : (if c then (.ok (.nx a) : R (Fl S ρ)) else .ok (.nx b)) = .ok (.nx (if c then a else b)) := by split <;> rfl
theorem ite_ok (c : Prop) [Decidable c] (a b : α) : (if c then (.ok a : R α) else .ok b) = .ok (if c then a else b) := by split <;> rfl
theorem okB (b : Bool) (x y : R α) (c : Prop) [Decidable c] (h : b = decide c) : (if b = true then x else y) = if c then x else y := by subst h; simp
/-- a loop that runs through -/
theorem forR_run {step : T → α → R (Fl T ρ)} {k : T → R (Fl S ρ)} : ∀ (xs : List α) (s : T) (I : Nat → T → Prop), I 0 s → (∀ (i : Nat) (h : i < xs.length) (s : T), I i s → ∃ s', step s xs[i] = .ok (.nx s') ∧ I (i + 1) s') →
    ∃ s', I xs.length s' ∧ forR step k xs s = k s'
  | [], s, I, h0, _ => ⟨s, h0, rfl⟩
  | x :: r, s, I, h0, hs => by
    obtain ⟨s1, e1, h1⟩ := hs 0 (by simp) s h0
    obtain ⟨s2, h2, e2⟩ := forR_run (step := step) (k := k) r s1 (fun i => I (i + 1)) h1 fun i hi s' hI => hs (i + 1) (by simpa using hi) s' hI
    refine ⟨s2, h2, ?_⟩
    show (step s x).bind _ = _
    rw [show step s x = .ok (.nx s1) from e1]
    exact e2
/-- .. as a rule for a goal -/
theorem forR_elim {P : R (Fl S ρ) → Prop} {step : T → α → R (Fl T ρ)} {k : T → R (Fl S ρ)} {xs : List α} {s : T} (I : Nat → T → Prop) (h0 : I 0 s) (hs : ∀ (i : Nat) (h : i < xs.length) (s : T), I i s → ∃ s', step s xs[i] = .ok (.nx s') ∧ I (i + 1) s')
    (hP : ∀ s', I xs.length s' → P (k s')) : P (forR step k xs s) := by
  obtain ⟨s', h1, h2⟩ := forR_run (step := step) (k := k) xs s I h0 hs
  rw [h2]
  exact hP s' h1
theorem szR_nil : szR ([] : List α) = .ok [] := if_pos (Nat.zero_le _)
theorem forR_fold {step : T → α → R (Fl T ρ)} {k : T → R (Fl S ρ)} (f : T → α → T) : ∀ (xs : List α) (s : T), (∀ s x, x ∈ xs → step s x = .ok (.nx (f s x))) → forR step k xs s = k (xs.foldl f s)
  | [], s, _ => rfl
  | x :: r, s, h => by
    show (step s x).bind _ = _
    rw [h s x (by simp)]
    exact forR_fold f r (f s x) fun s y hy => h s y (by simp [hy])
theorem forR_cons (step : T → α → R (Fl T ρ)) (k : T → R (Fl S ρ)) (x : α) (r : List α) (s : T) : forR step k (x :: r) s = (step s x).bind fun
    | .nx s' => forR step k r s'
    | .bk s' => k s'
    | .rt v => .ok (.rt v) := rfl
/-- a comprehension that runs through -/
theorem lcR_ok {ft : α → R Bool} {fe : α → R β} {xs : List α} (p : α → Bool) (g : α → β) (hz : xs.length ≤ 1000000) (ht : ∀ x ∈ xs, ft x = .ok (p x)) (he : ∀ x ∈ xs, p x = true → fe x = .ok (g x)) : lcR ft fe xs = .ok ((xs.filter p).map g) := by
  unfold lcR
  rw [szR_ok hz, R.ok_bind]
  clear hz
  induction xs with
  | nil => rfl
  | cons x r ih =>
    have ih' := ih (fun y hy => ht y (by simp [hy])) fun y hy => he y (by simp [hy])
    show ((ft x).pu.bind _) = _
    rw [ht x (by simp), R.ok_pu, R.ok_bind]
    cases hp : p x with
    | false =>
      rw [if_neg Bool.false_ne_true, ih', List.filter_cons, if_neg (by rw [hp]; decide)]
    | true =>
      rw [if_pos rfl, he x (by simp) hp, R.ok_pu, R.ok_bind, ih', List.filter_cons, if_pos hp]
      rfl
theorem lcR_map {fe : α → R β} {xs : List α} (g : α → β) (hz : xs.length ≤ 1000000) (he : ∀ x ∈ xs, fe x = .ok (g x)) : lcR (fun _ => .ok true) fe xs = .ok (xs.map g) := by
  rw [lcR_ok (fun _ => true) g hz (fun _ _ => rfl) fun x hx _ => he x hx, List.filter_eq_self.mpr fun _ _ => rfl]
/-! ### ranges, items -/
theorem mem_seqI {lo x : Int} {n : Nat} : x ∈ seqI lo n ↔ lo ≤ x ∧ x < lo + (n : Int) := by
  unfold seqI
  rw [List.mem_map]
  constructor
  · rintro ⟨i, hi, rfl⟩
    have := List.mem_range.mp hi
    omega
  · rintro ⟨h1, h2⟩
    exact ⟨(x - lo).toNat, List.mem_range.mpr (by omega), by omega⟩
theorem seqI_at {lo : Int} {n i : Nat} (h : i < (seqI lo n).length) : (seqI lo n)[i] = lo + (i : Int) := by
  have e := seqI_get lo n i
  rw [List.getElem?_eq_getElem h, if_pos (by rw [seqI_len] at h; exact h)] at e
  exact Option.some.inj e
theorem seqI_succ (lo : Int) (n : Nat) : seqI lo (n + 1) = seqI lo n ++ [lo + (n : Int)] := by
  unfold seqI
  rw [List.range_succ, List.map_append]
  rfl
theorem rng1_ok {n : Int} (h : n < 2 ^ 62) (h' : -(2 ^ 62) ≤ n) : rng1R n = .ok (seqI 0 n.toNat) := if_pos ⟨h', h⟩
theorem rng1_nat {n : Nat} (h : n ≤ 1000000) : rng1R (n : Int) = .ok (seqI 0 n) := by
  rw [rng1_ok (by omega) (by omega)]
  rfl
theorem rng2_ok {a b : Int} (h : -1000000 ≤ a ∧ a ≤ 1000000 ∧ -1000000 ≤ b ∧ b ≤ 1000000) : rng2R a b = .ok (seqI a (b - a).toNat) := if_pos (by omega)
theorem ixN_ok {n : Nat} {i : Int} (h : 0 ≤ i) (h' : i < n) : ixN n i = some i.toNat := by
  unfold ixN
  rw [if_pos h, if_pos h']
theorem idxR_ok {xs : List α} {i : Int} (h : 0 ≤ i) (h' : i < xs.length) : idxR xs i = .ok (xs[i.toNat]'(by omega)) := by
  unfold idxR atI
  rw [ixN_ok h h', Option.bind_some, List.getElem?_eq_getElem (by omega)]
theorem idxR_nat {xs : List α} {i : Nat} (h : i < xs.length) : idxR xs (i : Int) = .ok xs[i] := by
  rw [idxR_ok (by omega) (by omega)]
  rfl
theorem idxR_of {xs : List α} {i : Int} {a : α} (h : 0 ≤ i) (e : xs[i.toNat]? = some a) : idxR xs i = .ok a := by
  obtain ⟨hl, e'⟩ := List.getElem?_eq_some_iff.mp e
  rw [idxR_ok h (by omega), e']
theorem setR_ok {xs : List α} {i : Int} {a : α} (h : 0 ≤ i) (h' : i < xs.length) : setR xs i a = .ok (xs.set i.toNat a) := by
  unfold setR
  rw [ixN_ok h h']
/-! ### numbers -/
theorem modR_ok {a b : Int} (h : 0 < b) : modR a b = .ok (a % b) := if_pos h
theorem divR_ok {a b : Int} (h : 0 < b) (h' : b < 2 ^ 64) : divR a b = .ok (a / b) := if_pos ⟨h, by
  have h1 : b.natAbs < 2 ^ 64 := by omega
  have h2 := PySem.Flt.log2_lt_of (by decide) h1
  omega⟩
theorem divR_big {a b : Int} {n : Nat} (h : 0 < b) (h' : b.natAbs < 2 ^ n) (h0 : 0 < n) (h9 : n ≤ 9000) : divR a b = .ok (a / b) := if_pos (wide_div (i := a) h h' h0 h9)
theorem bits_le {x : Int} {n : Nat} (h : x.natAbs < 2 ^ n) (h0 : 0 < n) : Builtin.Int.intBits x ≤ n := by
  have := PySem.Flt.log2_lt_of h0 h
  unfold Builtin.Int.intBits
  split <;> omega
theorem mulR_big {a b : Int} {n m : Nat} (ha : a.natAbs < 2 ^ n) (hb : b.natAbs < 2 ^ m) (hn : 0 < n) (hm : 0 < m) (h : n + m ≤ 134217728) : mulR a b = .ok (a * b) := if_pos (by
  have h1 := bits_le ha hn
  have h2 := bits_le hb hm
  omega)
theorem mulR_ok {a b : Int} (ha : -(2 ^ 64) < a ∧ a < 2 ^ 64) (hb : -(2 ^ 64) < b ∧ b < 2 ^ 64) : mulR a b = .ok (a * b) := mulR_big (n := 64) (m := 64) (by omega) (by omega) (by decide) (by decide) (by decide)
theorem shlR_ok {a b : Int} (ha : -(2 ^ 64) < a ∧ a < 2 ^ 64) (hb : 0 ≤ b ∧ b ≤ 1000000) : shlR a b = .ok (a * 2 ^ b.toNat) := if_pos ⟨hb.1, by
  have h1 := bits_le (x := a) (n := 64) (by omega) (by decide)
  omega⟩
theorem shrR_ok {a b : Int} (hb : 0 ≤ b) : shrR a b = .ok (a / 2 ^ b.toNat) := if_pos hb
/-! ### equality of data -/
/-- data whose == is equality -/
class Eqd (α : Type) [Enc α] where
  n : Nat
  nd : ∀ a : α, (toD a).nd = true
  lay : ∀ a : α, (toD a).py.canLay0 = true
  dp : ∀ a : α, (toD a).py.depth ≤ n
  ev : ∀ a b : α, PyData.eqv (toD a).py (toD b).py = true ↔ a = b
theorem eqR_eq [Enc α] [q : Eqd α] [DecidableEq α] (a b : α) (h : q.n ≤ 64 := by decide) : eqR a b = .ok (decide (a = b)) := by
  unfold eqR
  have sh : ∀ a : α, SeqAt.shaped (toD a).py = true := fun a => by
    unfold SeqAt.shaped
    rw [Eqd.lay a, Bool.true_and]
    exact decide_eq_true (Nat.le_trans (Eqd.dp a) h)
  rw [if_pos ⟨Eqd.nd a, Eqd.nd b, sh a, sh b⟩]
  congr 1
  by_cases e : a = b
  · rw [decide_eq_true e, (Eqd.ev a b).mpr e]
  · rw [decide_eq_false e]
    cases q : PyData.eqv (toD a).py (toD b).py with
    | false => rfl
    | true => exact absurd ((Eqd.ev a b).mp q) e
instance : Eqd Int := ⟨0, fun _ => rfl, fun _ => rfl, fun _ => Nat.le_refl _, fun a b => by show (a == b) = true ↔ _; simp⟩
instance : Eqd Bool := ⟨0, fun _ => rfl, fun _ => rfl, fun _ => Nat.le_refl _, fun a b => by show (a == b) = true ↔ _; simp⟩
section
variable [Enc α] [q : Eqd α]
theorem eqd_ndA : ∀ xs : List α, Dt.ndA (xs.map toD) = true
  | [] => rfl
  | x :: r => by
    show (Dt.nd (toD x) && Dt.ndA (r.map toD)) = true
    rw [Eqd.nd x, eqd_ndA r]
    rfl
theorem eqd_layA : ∀ xs : List α, PyData.canLayAll0 (Dt.pyA (xs.map toD)) = true
  | [] => rfl
  | x :: r => by
    show (PyData.canLay0 (toD x).py && PyData.canLayAll0 (Dt.pyA (r.map toD))) = true
    rw [Eqd.lay x, eqd_layA r]
    rfl
theorem eqd_dpA : ∀ xs : List α, PyData.depthAll (Dt.pyA (xs.map toD)) ≤ q.n
  | [] => Nat.zero_le _
  | x :: r => by
    show max (PyData.depth (toD x).py) (PyData.depthAll (Dt.pyA (r.map toD))) ≤ _
    exact Nat.max_le.mpr ⟨Eqd.dp x, eqd_dpA r⟩
theorem eqd_evA : ∀ xs ys : List α, PyData.eqvAll (Dt.pyA (xs.map toD)) (Dt.pyA (ys.map toD)) = true ↔ xs = ys
  | [], [] => by simp [Dt.pyA, PyData.eqvAll]
  | [], _ :: _ => by simp [Dt.pyA, PyData.eqvAll]
  | _ :: _, [] => by simp [Dt.pyA, PyData.eqvAll]
  | x :: xs, y :: ys => by
    show (PyData.eqv (toD x).py (toD y).py && PyData.eqvAll (Dt.pyA (xs.map toD)) (Dt.pyA (ys.map toD))) = true ↔ _
    rw [Bool.and_eq_true, Eqd.ev x y, eqd_evA xs ys]
    simp
instance : Eqd (List α) := ⟨q.n + 1, fun xs => eqd_ndA xs, fun xs => eqd_layA xs, fun xs => by
  show PyData.depthAll (Dt.pyA (xs.map toD)) + 1 ≤ _
  exact Nat.succ_le_succ (eqd_dpA xs), fun xs ys => eqd_evA xs ys⟩
theorem eqv_none_l {d : PyData} (h : d ≠ .none) : PyData.eqv .none d = false := by cases d <;> first | rfl | exact absurd rfl h
theorem eqv_none_r {d : PyData} (h : d ≠ .none) : PyData.eqv d .none = false := by cases d <;> first | rfl | exact absurd rfl h
theorem py_non {d : Dt} (h : d.py = .none) : d = .non := by cases d <;> first | rfl | exact absurd h (fun z => nomatch z)
instance [NN α] : Eqd (Option α) := ⟨q.n, fun o => match o with
  | none => rfl
  | some a => Eqd.nd (α := α) a, fun o => match o with
  | none => rfl
  | some a => Eqd.lay (α := α) a, fun o => match o with
  | none => Nat.zero_le _
  | some a => Eqd.dp (α := α) a, fun a b => by
  have ne : ∀ a : α, (toD a).py ≠ .none := fun a h => NN.nn a (py_non h)
  cases a with
  | none =>
    cases b with
    | none => simp [PyData.eqv, toD, Enc.toD, Dt.py]
    | some b =>
      show PyData.eqv .none (toD b).py = true ↔ _
      rw [eqv_none_l (ne b)]
      simp
  | some a =>
    cases b with
    | none =>
      show PyData.eqv (toD a).py .none = true ↔ _
      rw [eqv_none_r (ne a)]
      simp
    | some b =>
      show PyData.eqv (toD a).py (toD b).py = true ↔ _
      rw [Eqd.ev a b]
      simp⟩
variable [Enc β] [p : Eqd β] [Enc γ] [o : Eqd γ]
instance : Eqd (α × β) := ⟨q.n + p.n + 1, fun a => by
    show (Dt.nd (toD a.1) && (Dt.nd (toD a.2) && true)) = true
    rw [Eqd.nd, Eqd.nd]
    rfl, fun a => by
    show (PyData.canLay0 (toD a.1).py && (PyData.canLay0 (toD a.2).py && true)) = true
    rw [Eqd.lay, Eqd.lay]
    rfl, fun a => by
    show max (toD a.1).py.depth (max (toD a.2).py.depth 0) + 1 ≤ _
    have h1 := Eqd.dp a.1
    have h2 := Eqd.dp a.2
    omega, fun a b => by
    show (PyData.eqv (toD a.1).py (toD b.1).py && (PyData.eqv (toD a.2).py (toD b.2).py && true)) = true ↔ _
    rw [Bool.and_true, Bool.and_eq_true, Eqd.ev, Eqd.ev]
    exact Prod.ext_iff.symm⟩
instance : Eqd (T3 α β γ) := ⟨q.n + p.n + o.n + 1, fun a => by
    show (Dt.nd (toD a.a) && (Dt.nd (toD a.b) && (Dt.nd (toD a.c) && true))) = true
    rw [Eqd.nd, Eqd.nd, Eqd.nd]
    rfl, fun a => by
    show (PyData.canLay0 (toD a.a).py && (PyData.canLay0 (toD a.b).py && (PyData.canLay0 (toD a.c).py && true))) = true
    rw [Eqd.lay, Eqd.lay, Eqd.lay]
    rfl, fun a => by
    show max (toD a.a).py.depth (max (toD a.b).py.depth (max (toD a.c).py.depth 0)) + 1 ≤ _
    have h1 := Eqd.dp a.a
    have h2 := Eqd.dp a.b
    have h3 := Eqd.dp a.c
    omega, fun a b => by
    show (PyData.eqv (toD a.a).py (toD b.a).py && (PyData.eqv (toD a.b).py (toD b.b).py && (PyData.eqv (toD a.c).py (toD b.c).py && true))) = true ↔ _
    rw [Bool.and_true, Bool.and_eq_true, Bool.and_eq_true, Eqd.ev, Eqd.ev, Eqd.ev]
    cases a
    cases b
    simp⟩
end
/-! ### sorted -/
theorem leD_int (a b : Int) : leD a b = decide (a ≤ b) := by
  show PySem.W.dataLe false (fun x : Int => PyData.int x) a b = _
  rw [PySem.W.dataLe_int (fun x : Int => x)]
theorem leD_ii (p q : Int × Int) : leD p q = decide (p.1 < q.1 ∨ (p.1 = q.1 ∧ p.2 ≤ q.2)) := by
  show PySem.W.dataLe false (fun x : Int × Int => PyData.tuple [.int x.1, .int x.2]) p q = _
  rw [PySem.W.dataLe_ii (fun x : Int × Int => x.1) (fun x : Int × Int => x.2)]
theorem sortR_ok [Enc α] {xs : List α} (h : xs.length ≤ 1000000) : sortR xs = .ok (xs.mergeSort leD) := by
  unfold sortR
  rw [szR_ok h]
  rfl
end Kr

/-! KrR: ranks, rests, choices: plain lists. -/
namespace Kr
open PySem PySem.Spec PyProof.Rows L2
open Enc (toD)
variable {α β T ρ S : Type}
/-! ### loops that fill a list -/
theorem forR_fm {step : List β → α → R (Fl (List β) ρ)} {k : List β → R (Fl S ρ)} (f : α → Option β) : ∀ (xs : List α) (s0 : List β), s0.length + xs.length ≤ 1000000 → (∀ s x, x ∈ xs → s.length < 1000000 → step s x = .ok (.nx (s ++ (f x).toList))) →
    forR step k xs s0 = k (s0 ++ xs.filterMap f)
  | [], s0, _, _ => by
    rw [List.filterMap_nil, List.append_nil]
    rfl
  | x :: r, s0, hz, h => by
    rw [List.length_cons] at hz
    rw [forR_cons, h s0 x (by simp) (by omega), R.ok_bind]
    show forR step k r (s0 ++ (f x).toList) = _
    rw [forR_fm f r _ (by
      rw [List.length_append]
      have : (f x).toList.length ≤ 1 := by cases f x <;> simp
      omega) fun s y hy => h s y (by simp [hy])]
    cases e : f x with
    | none =>
      rw [List.filterMap_cons_none e]
      simp
    | some y =>
      rw [List.filterMap_cons_some e]
      simp
theorem forR_map {step : List β → α → R (Fl (List β) ρ)} {k : List β → R (Fl S ρ)} (g : α → β) (xs : List α) (s0 : List β) (hz : s0.length + xs.length ≤ 1000000) (h : ∀ s x, x ∈ xs → s.length < 1000000 → step s x = .ok (.nx (s ++ [g x]))) :
    forR step k xs s0 = k (s0 ++ xs.map g) := by
  rw [forR_fm (fun x => some (g x)) xs s0 hz fun s x hx hl => by rw [h s x hx hl]; rfl, List.filterMap_eq_map']
theorem szR_snoc {s : List β} {y : β} (h : s.length < 1000000) : szR (s ++ [y]) = .ok (s ++ [y]) := szR_ok (by
  rw [List.length_append]
  simp
  omega)
/-! ### ranks -/
def gW (ws : List Int) (k : Int) : Int := ws.getD k.toNat 0
theorem idxR_gW {ws : List Int} {k : Int} (h : 0 ≤ k) (h' : k < ws.length) : idxR ws k = .ok (gW ws k) := by
  rw [idxR_ok h h']
  unfold gW
  rw [List.getD_eq_getElem?_getD, List.getElem?_eq_getElem (by omega)]
  rfl
/-- a has a better rank than b -/
def bf (ws : List Int) (a b : Int) : Prop := gW ws b < gW ws a ∨ (gW ws a = gW ws b ∧ a < b)
instance (ws : List Int) (a b : Int) : Decidable (bf ws a b) := by unfold bf; exact inferInstance
def rk (ws : List Int) : List Int := (((seqI 0 ws.length).map fun k => (-(gW ws k), k)).mergeSort leD).map (·.2)
theorem leD_trans (a b c : Int × Int) (h : leD a b = true) (h' : leD b c = true) : leD a c = true := by
  rw [leD_ii, decide_eq_true_eq] at *
  omega
theorem leD_total (a b : Int × Int) : (leD a b || leD b a) = true := by
  rw [leD_ii, leD_ii, Bool.or_eq_true, decide_eq_true_eq, decide_eq_true_eq]
  omega
theorem seqI_nodup (lo : Int) (n : Nat) : (seqI lo n).Nodup := by
  unfold seqI
  exact List.Pairwise.map _ (fun a b h e => h (by omega)) List.nodup_range
theorem rk_perm (ws : List Int) : (rk ws).Perm (seqI 0 ws.length) := by
  have h := (List.mergeSort_perm ((seqI 0 ws.length).map fun k => (-(gW ws k), k)) leD).map (·.2)
  rw [List.map_map] at h
  have e : ((fun x : Int × Int => x.2) ∘ fun k => (-(gW ws k), k)) = id := rfl
  rw [e, List.map_id] at h
  exact h
theorem rk_len (ws : List Int) : (rk ws).length = ws.length := by rw [(rk_perm ws).length_eq, seqI_len]
theorem rk_nodup (ws : List Int) : (rk ws).Nodup := (rk_perm ws).nodup_iff.mpr (seqI_nodup 0 _)
theorem rk_mem (ws : List Int) (k : Int) : k ∈ rk ws ↔ 0 ≤ k ∧ k < ws.length := by
  rw [(rk_perm ws).mem_iff, mem_seqI]
  omega
theorem rk_sorted (ws : List Int) : (rk ws).Pairwise (bf ws) := by
  have h := List.pairwise_mergeSort leD_trans leD_total ((seqI 0 ws.length).map fun k => (-(gW ws k), k))
  have hn := rk_nodup ws
  unfold rk at hn ⊢
  rw [List.pairwise_map]
  rw [List.Nodup, List.pairwise_map] at hn
  have hm : ∀ p ∈ ((seqI 0 ws.length).map fun k => (-(gW ws k), k)).mergeSort leD, p.1 = -(gW ws p.2) := fun p hp => by
    obtain ⟨k, _, rfl⟩ := List.mem_map.mp ((List.mergeSort_perm _ _).mem_iff.mp hp)
    rfl
  refine List.Pairwise.imp_of_mem ?_ (h.and hn)
  intro p q hp hq ⟨h1, h2⟩
  rw [leD_ii, decide_eq_true_eq, hm p hp, hm q hq] at h1
  unfold bf
  omega
theorem bf_asymm {ws : List Int} {a b : Int} (h : bf ws a b) (h' : bf ws b a) : False := by
  unfold bf at *
  omega
/-- the next rank: the best of those that have none yet -/
theorem rk_next {ws : List Int} {i : Nat} (hi : i < ws.length) {b : Int} (hb : 0 ≤ b ∧ b < ws.length) (hn : b ∉ (rk ws).take i) (hbest : ∀ k : Int, 0 ≤ k → k < ws.length → k ∉ (rk ws).take i → k = b ∨ bf ws b k) : (rk ws)[i]? = some b := by
  have hl := rk_len ws
  have hi' : i < (rk ws).length := by omega
  have hsplit := List.take_append_drop i (rk ws)
  rw [List.getElem?_eq_getElem hi']
  congr 1
  have hbm : b ∈ (rk ws).drop i := by
    have := (rk_mem ws b).mpr hb
    rw [← hsplit] at this
    exact (List.mem_append.mp this).resolve_left hn
  have hd : (rk ws).drop i = (rk ws)[i] :: (rk ws).drop (i + 1) := List.drop_eq_getElem_cons hi'
  have hs := rk_sorted ws
  rw [← hsplit, List.pairwise_append] at hs
  have hnd := rk_nodup ws
  rw [← hsplit, List.nodup_append] at hnd
  have hnt : (rk ws)[i] ∉ (rk ws).take i := fun hm => hnd.2.2 _ hm (rk ws)[i] (by rw [hd]; exact List.mem_cons_self ..) rfl
  have hr := (rk_mem ws (rk ws)[i]).mp (List.getElem_mem hi')
  rcases hbest _ hr.1 hr.2 hnt with e | hbf
  · exact e
  · rw [hd] at hbm hs
    rcases List.mem_cons.mp hbm with e | hm
    · exact e.symm
    · exact (bf_asymm hbf ((List.pairwise_cons.mp hs.2.1).1 b hm)).elim
/-! ### rests -/
def suf : List Int → List Int
  | [] => [0]
  | w :: r => (w :: r).sum :: suf r
def rkW (ws : List Int) : List Int := (rk ws).map (gW ws)
theorem suf_len : ∀ l : List Int, (suf l).length = l.length + 1
  | [] => rfl
  | w :: r => by
    show (suf r).length + 1 = _
    rw [suf_len r]
    rfl
theorem suf_head : ∀ l : List Int, (suf l)[0]? = some l.sum
  | [] => rfl
  | w :: r => rfl
theorem sum_perm {l l' : List Int} (h : l.Perm l') : l.sum = l'.sum := by
  induction h with
  | nil => rfl
  | cons x _ ih => rw [List.sum_cons, List.sum_cons, ih]
  | swap x y l => simp only [List.sum_cons]; omega
  | trans _ _ h1 h2 => rw [h1, h2]
theorem map_gW (ws : List Int) : (seqI 0 ws.length).map (gW ws) = ws := by
  apply List.ext_getElem
  · rw [List.length_map, seqI_len]
  · intro i h1 h2
    rw [List.getElem_map, seqI_at (by rw [List.length_map] at h1; exact h1)]
    unfold gW
    rw [List.getD_eq_getElem?_getD, show ((0 : Int) + (i : Int)).toNat = i by omega, List.getElem?_eq_getElem h2]
    rfl
theorem sum_rkW (ws : List Int) : (rkW ws).sum = ws.sum := by
  have h := sum_perm ((rk_perm ws).map (gW ws))
  rw [map_gW] at h
  exact h
theorem rkW_at {ws : List Int} {i : Nat} (h : i < (rkW ws).length) (h' : i < (rk ws).length) : (rkW ws)[i] = gW ws (rk ws)[i] := List.getElem_map (gW ws)
def sums (ws : List Int) : List Int := suf (rkW ws)
theorem rkW_len (ws : List Int) : (rkW ws).length = ws.length := by
  unfold rkW
  rw [List.length_map, rk_len]
theorem sums_len (ws : List Int) : (sums ws).length = ws.length + 1 := by
  unfold sums
  rw [suf_len, rkW_len]
/-! ### choices -/
abbrev Stg := T3 Int Int Int
abbrev Cho := T3 Int Int (Option Stg)
/-- the choice a of a stage, if it is one -/
def item (sm : List Int) (lim : Int) (st : Stg) (a : Int) : Option Cho :=
  if (st.a = lim ∧ a = (sm.length : Int) - 1 - st.b) ∨ (st.a ≠ lim ∧ (0 < st.a ∨ a = 0)) then
    (if st.b + a = (sm.length : Int) - 1 then some ⟨a, 0, none⟩ else if a < st.c then some ⟨a, gW sm (st.b + a), some ⟨st.a + 1, st.b + a, min (2 * (st.c - a)) ((sm.length : Int) - 1 - st.b - a)⟩⟩ else none)
  else none
def chs (sm : List Int) (lim : Int) (st : Stg) : List Cho := (seqI 0 (min st.c ((sm.length : Int) - 1 - st.b) + 1).toNat).filterMap (item sm lim st)
theorem fm_none (f : Int → Option β) (lo : Int) (n : Nat) (h : ∀ x, lo ≤ x → x < lo + n → f x = none) : (seqI lo n).filterMap f = [] := List.filterMap_eq_nil_iff.mpr fun x hx => h x (mem_seqI.mp hx).1 (mem_seqI.mp hx).2
theorem seqI_split (lo : Int) (n m : Nat) : seqI lo (n + m) = seqI lo n ++ seqI (lo + n) m := by
  induction m with
  | zero => simp [seqI]
  | succ m ih => rw [← Nat.add_assoc, seqI_succ, ih, seqI_succ, List.append_assoc, show lo + ((n + m : Nat) : Int) = lo + n + (m : Int) by omega]
/-- the program's walk: from first to last -/
theorem chs_by (sm : List Int) (lim : Int) (st : Stg) (h0 : 0 ≤ st.a) (hl : st.a ≤ lim) (hl1 : 1 ≤ lim) (hm : 0 ≤ st.b ∧ st.b < (sm.length : Int) - 1) (hc : 1 ≤ st.c) :
    chs sm lim st = (seqI (if st.a = lim then (sm.length : Int) - 1 - st.b else 0) ((if st.a = 0 then 0 else min st.c ((sm.length : Int) - 1 - st.b)) + 1 - (if st.a = lim then (sm.length : Int) - 1 - st.b else 0)).toNat).filterMap (item sm lim st) := by
  unfold chs
  by_cases e1 : st.a = lim
  · rw [if_pos e1, if_neg (show ¬ st.a = 0 by omega)]
    have hno : ∀ x, x ≠ (sm.length : Int) - 1 - st.b → item sm lim st x = none := fun x hx => by
      unfold item
      rw [if_neg (by omega)]
    by_cases e2 : (sm.length : Int) - 1 - st.b ≤ st.c
    · rw [Int.min_eq_right e2, show ((sm.length : Int) - 1 - st.b + 1).toNat = ((sm.length : Int) - 1 - st.b).toNat + 1 by omega, seqI_split, List.filterMap_append, fm_none _ _ _ (fun x h1 h2 => hno x (by omega)), List.nil_append,
        show ((sm.length : Int) - 1 - st.b + 1 - ((sm.length : Int) - 1 - st.b)).toNat = 1 by omega, show (0 : Int) + (((sm.length : Int) - 1 - st.b).toNat : Int) = (sm.length : Int) - 1 - st.b by omega]
    · rw [Int.min_eq_left (by omega), show (st.c + 1 - ((sm.length : Int) - 1 - st.b)).toNat = 0 by omega, fm_none _ _ _ (fun x h1 h2 => hno x (by omega))]
      rfl
  · rw [if_neg e1]
    by_cases e3 : st.a = 0
    · rw [if_pos e3]
      have hno : ∀ x, x ≠ 0 → item sm lim st x = none := fun x hx => by
        unfold item
        rw [if_neg (by omega)]
      rw [show (min st.c ((sm.length : Int) - 1 - st.b) + 1).toNat = 1 + (min st.c ((sm.length : Int) - 1 - st.b)).toNat by omega, seqI_split, List.filterMap_append, fm_none _ ((0 : Int) + ((1 : Nat) : Int)) _ (fun x h1 h2 => hno x (by omega)), List.append_nil]
      rfl
    · rw [if_neg e3, Int.sub_zero]
end Kr

/-! K01x: found = words(given); if ..: return; for a in ..: (a block), if found[a] is not None: found[a].append(7); the rest. -/
namespace Kr
open PySem PySem.Spec PyProof.Rows L2
open Enc (toD)
section
variable {K : PySem.W.Frag} {F O H : Hp} {σ : L2.St} {G : List Sl}
theorem own_addr {x : Option (Option V)} {s : Sl} (h : SlOk K F O x s) (o : s.own = true) {a : Addr} (e : x = some (some (.ref a))) : ∃ u, O a = some u := by
  cases s with
  | un => cases o
  | va d => cases o
  | pv v => cases o
  | ol ds =>
    obtain ⟨b, vs, e1, e2, _⟩ := h
    rw [e] at e1
    cases e1
    exact ⟨_, e2⟩
  | od ds =>
    obtain ⟨b, vs, e1, e2, _⟩ := h
    rw [e] at e1
    cases e1
    exact ⟨_, e2⟩
/-- an object that somebody else owns changes -/
theorem mt_out {Oo : Hp} (h : Mt K F Oo H σ G) {c : Addr} {u o : HO} (hc : Oo c = some u) : Mt K F (upd Oo c o) (upd H c o) σ G := by
  obtain ⟨O', lo, hf, he, o1, o2⟩ := h
  have hO := lo _ _ hc
  refine ⟨upd O' c o, fun a x q => ?_, hf.wr hO, ⟨he.len, fun i s e => ?_⟩, fun i s a e ow q => ?_, o2⟩
  · by_cases ha : a = c
    · subst ha
      rw [upd_same] at q ⊢
      exact q
    · rw [upd_ne ha] at q ⊢
      exact lo _ _ q
  · have := he.at' i s e
    have nb : s.own = true → ∀ b : Addr, σ[i]? = some (some (.ref b)) → b ≠ c := fun ow b q z => by
      have := o1 i s b e ow q
      rw [z, hc] at this
      cases this
    cases s with
    | un => trivial
    | va d => exact this
    | pv v => exact this
    | ol es =>
      obtain ⟨b, ws, e1, e2, e3⟩ := this
      exact ⟨b, ws, e1, by rw [upd_ne (nb rfl b e1)]; exact e2, e3⟩
    | od es =>
      obtain ⟨b, ws, e1, e2, e3⟩ := this
      exact ⟨b, ws, e1, by rw [upd_ne (nb rfl b e1)]; exact e2, e3⟩
  · have h1 := o1 i s a e ow q
    have hac : a ≠ c := fun z => by
      rw [z, hc] at h1
      cases h1
    rw [upd_ne hac]
    exact h1
theorem mt_un {i : Nat} {s : Sl} (h : Mt K F O H σ (G.set i s)) (e : G[i]? = some .un) : Mt K F O H σ G := by
  obtain ⟨O', lo, hf, he, o1, o2⟩ := h
  have hi : i < G.length := by
    rcases Nat.lt_or_ge i G.length with z | z
    · exact z
    · rw [List.getElem?_eq_none z] at e
      cases e
  have at' : ∀ (j : Nat) (t : Sl), G[j]? = some t → t = .un ∨ (G.set i s)[j]? = some t := fun j t q => by
    by_cases hj : i = j
    · subst hj
      rw [e] at q
      cases q
      exact .inl rfl
    · rw [List.getElem?_set_ne hj]
      exact .inr q
  refine ⟨O', lo, hf, ⟨by rw [he.len, List.length_set], fun j t q => ?_⟩, fun j t a q ow r => ?_, fun j l t t' a hjl q q' ow ow' r r' => ?_⟩
  · rcases at' j t q with z | z
    · rw [z]
      trivial
    · exact he.at' j t z
  · rcases at' j t q with z | z
    · rw [z] at ow
      cases ow
    · exact o1 j t a z ow r
  · rcases at' j t q with z | z
    · rw [z] at ow
      cases ow
    · rcases at' l t' q' with z' | z'
      · rw [z'] at ow'
        cases ow'
      · exact o2 j l t t' a hjl z z' ow ow' r r'
end
theorem Mt.weakO {K : PySem.W.Frag} {F O Oo H : Hp} {σ : L2.St} {G : List Sl} (h : Mt K F Oo H σ G) (l : Le O Oo) : Mt K F O H σ G := by
  obtain ⟨O', lo, hf, he, o1, o2⟩ := h
  exact ⟨O', l.trans lo, hf, he, fun i s a e o q => l.free (o1 i s a e o q), o2⟩
/-- F, and A where F is nothing -/
def jn (F A : Hp) : Hp := fun p => match F p with | some o => some o | none => A p
theorem jn_some {F A : Hp} {p : Addr} {o : HO} (h : F p = some o) : jn F A p = some o := by unfold jn; rw [h]
theorem jn_none {F A : Hp} {p : Addr} (h : F p = none) : jn F A p = A p := by unfold jn; rw [h]
theorem jn_le {F A : Hp} : Le F (jn F A) := fun _ _ => jn_some
/-- without what F has -/
def dl (F A : Hp) : Hp := fun p => match F p with | some _ => none | none => A p
theorem dl_some {F A : Hp} {p : Addr} {o : HO} (h : F p = some o) : dl F A p = none := by unfold dl; rw [h]
theorem dl_none {F A : Hp} {p : Addr} (h : F p = none) : dl F A p = A p := by unfold dl; rw [h]
def wlEl (O Oo : Hp) (a0 : Addr) (k : Nat) (v : V) : Prop := v = .non ∨ ∃ c ws, v = .ref c ∧ c ≠ a0 ∧ O c = none ∧ Oo c = some (.lst ws) ∧ ws.length ≤ 1000 + k
/-- what found must keep -/
def wlOk (given : List Int) (f : List (Option (List Int))) : Bool := !f.isEmpty && f.all fun o => match o with
  | none => true
  | some w => !decide (w = given) && decide (w.length ≤ 1000)
theorem wlOk_of {given : List Int} {f : List (Option (List Int))} (h : wlOk given f = true) : f ≠ [] ∧ ∀ w, some w ∈ f → w ≠ given ∧ w.length ≤ 1000 := by
  unfold wlOk at h
  rw [Bool.and_eq_true] at h
  refine ⟨fun e => ?_, fun w hw => ?_⟩
  · rw [e] at h
    cases h.1
  · have := List.all_eq_true.mp h.2 _ hw
    simpa using this
theorem sb_wl {S : Type} {cf : Cf} {E : XK} {G : List Sl} {i ja j : Nat} {tB : TT} {tIn rest : TS} {wi : TI} {enc : S → List Sl} (given : List Int) {g : List Int → R (List (Option (List Int)))} {mB : List (Option (List Int)) → R Bool} {mI : R (List Int)} {mIn : Int → R (Fl Unit Bool)} {mr : R (Fl S Bool)}
    (hj : G[j]? = some (.va (toD given))) (hja : G[ja]? = some .un) (hij : i ≠ ja) (hil : i < G.length)
    (hB : ∀ f, EB cf E tB (G.set i (.va (toD f))) (mB f))
    (hI : ∀ v, IG cf E wi (G.set i (.pv v)) mI)
    (hIn : ∀ v (a : Int), SB cf E tIn ((G.set i (.pv v)).set ja (.va (toD a))) (fun _ : Unit => (G.set i (.pv v)).set ja (.va (toD a))) (mIn a))
    (hr : ∀ v, SB cf E rest (G.set i (.pv v)) enc mr) :
    SB cf E (tSeq (tAsg (tCall (SpP cf 1 (sp1 g)) [] E0 (tCons (tVar j) tNil)) (gName i)) (tSeq (tIfS tB (tRet (tC (.bl false))) tNext) (tSeq (tFor wi (gName ja) (tSeq tIn (tIfS (tTest (tOp (fun x y H Q => y = .non ∧ Q (.bl (!decide (x = .non))) H) (tOp (rIxL cf.K) (tVar i) (tVar ja)) (tC .non))) (tDrop (tBM cf.K "list" rAppend (tOp (rIxL cf.K) (tVar i) (tVar ja)) (tCons (tC (.int 7)) tNil))) tNext))) rest)))
      G enc (((g given).pu).bind fun f => if wlOk given f = true then (mB f).bind fun c => if c = true then (R.ok false).bind (fun b => .ok (.rt b)) else mI.bind fun xs => if xs.length ≤ 1000 then forR (fun (_ : Unit) a => seqF (mIn a) fun _ => (idxR f a).bind fun _ => .ok (.nx ())) (fun _ => mr) xs () else .bad else .bad) := fun F O H σ D hM nb kn kb kr ke => by
  obtain ⟨O', lo, hf, he, o1, o2⟩ := hM
  obtain ⟨vg, eg, dg⟩ := he.at' j _ hj
  obtain ⟨ag, gvs, rfl, hFg, hgd⟩ := dr_lst dg
  obtain ⟨found, ef⟩ := pu_nb (R.bind_nb nb)
  have epu : (g given).pu = .ok found := by rw [ef]; rfl
  rw [epu, R.ok_bind] at nb kn kb kr ke
  by_cases hwl : wlOk given found = true
  rotate_left
  · rw [if_neg hwl] at nb
    exact absurd rfl nb
  rw [if_pos hwl] at nb kn kb kr ke
  obtain ⟨wne, wel⟩ := wlOk_of hwl
  have hgv := ints_of_drA hgd
  let Fs : Hp := fun p => if p = ag then F p else none
  let Os : Hp := fun p => if p = ag then none else jn F O' p
  have fs_same : Fs ag = some (.lst gvs) := by show (if ag = ag then F ag else none) = _; rw [if_pos rfl]; exact hFg
  have fs_ne : ∀ p, p ≠ ag → Fs p = none := fun p h => if_neg h
  have os_ne : ∀ p, p ≠ ag → Os p = jn F O' p := fun p h => if_neg h
  have os_same : Os ag = none := if_pos rfl
  have lF : Le Fs F := fun p o q => by
    by_cases h : p = ag
    · subst h
      rw [fs_same] at q
      rw [hFg]
      exact q
    · rw [fs_ne p h] at q
      cases q
  have hfs : Fm Fs Os H := by
    refine ⟨lF.trans hf.f, fun p o q => ?_, fun p q => ?_⟩
    · by_cases h : p = ag
      · subst h
        rw [os_same] at q
        cases q
      · rw [os_ne p h] at q
        cases e : F p with
        | some u =>
          rw [jn_some e] at q
          cases q
          exact hf.f _ _ e
        | none =>
          rw [jn_none e] at q
          exact hf.o _ _ q
    · by_cases h : p = ag
      · rw [h]
        exact os_same
      · exact absurd (fs_ne p h) q
  have dgs : Dr cf.K Fs (.ref ag) (toD given) := by
    refine .lst fs_same ?_
    rw [hgv]
    exact drA_ints given
  refine ⟨_, eg, rfl, Fs, Os, [toD given], toD found, hfs, .cons dgs .nil, ⟨given, rfl, by rw [ef]; rfl⟩, fun v F1 H1 le1 hf1 hr1 => ?_⟩
  obtain ⟨a0, vs, rfl, hF1a, hvs⟩ := dr_lst hr1
  have hF1g : F1 ag = some (.lst gvs) := le1 _ _ fs_same
  -- what is new is not the caller's
  have f1F : ∀ p o, F1 p = some o → F p = none ∨ (p = ag ∧ F p = some o) := fun p o q => by
    by_cases h : p = ag
    · subst h
      rw [hF1g] at q
      cases q
      exact .inr ⟨rfl, hFg⟩
    · cases e : F p with
      | none => exact .inl rfl
      | some u =>
        have := hf1.ds p (by rw [q]; simp)
        rw [os_ne p h, jn_some e] at this
        cases this
  have f1O : ∀ p o, F1 p = some o → O' p = none := fun p o q => by
    rcases f1F p o q with e | ⟨h, e⟩
    · have hp : p ≠ ag := fun z => by rw [z, hFg] at e; cases e
      have := hf1.ds p (by rw [q]; simp)
      rw [os_ne p hp, jn_none e] at this
      exact this
    · exact hf.ds p (by rw [e]; simp)
  let Fb : Hp := jn F F1
  have lFb : Le F Fb := jn_le
  have lF1b : Le F1 Fb := fun p o q => by
    rcases f1F p o q with e | ⟨_, e⟩
    · show jn F F1 p = _
      rw [jn_none e]
      exact q
    · exact jn_some e
  have hfb : Fm Fb O' H1 := by
    refine ⟨fun p o q => ?_, fun p o q => ?_, fun p q => ?_⟩
    · cases e : F p with
      | some u =>
        have q' : jn F F1 p = some o := q
        rw [jn_some e] at q'
        cases q'
        by_cases h : p = ag
        · subst h
          rw [hFg] at e
          cases e
          exact hf1.f _ _ hF1g
        · exact hf1.o _ _ (by rw [os_ne p h]; exact jn_some e)
      | none =>
        have q' : jn F F1 p = some o := q
        rw [jn_none e] at q'
        exact hf1.f _ _ q'
    · have hp : p ≠ ag := fun z => by
        have := hf.ds p (by rw [z, hFg]; simp)
        rw [q] at this
        cases this
      have e : F p = none := hf.own q
      exact hf1.o _ _ (by rw [os_ne p hp, jn_none e]; exact q)
    · cases e : F p with
      | some u => exact hf.ds p (by rw [e]; simp)
      | none =>
        cases e1 : F1 p with
        | none => exact absurd (show jn F F1 p = none by rw [jn_none e]; exact e1) q
        | some u => exact f1O p u e1
  have heb : Er cf.K Fb O' (σ.set i (some (.ref a0))) (G.set i (.va (toD found))) := er_set (he.mono lFb) i (hr1.mono lF1b)
  have o1b : ∀ (l : Nat) (s : Sl) (b : Addr), (G.set i (.va (toD found)))[l]? = some s → s.own = true → (σ.set i (some (.ref a0)))[l]? = some (some (.ref b)) → O b = none := fun l s b q o => by
    obtain ⟨q1, q2⟩ := own_set (σ := σ) (y := some (.ref a0)) q o
    rw [q2]
    exact o1 l s b q1 o
  have o2b : ∀ (l l2 : Nat) (s t : Sl) (b : Addr), l ≠ l2 → (G.set i (.va (toD found)))[l]? = some s → (G.set i (.va (toD found)))[l2]? = some t → s.own = true → t.own = true → (σ.set i (some (.ref a0)))[l]? = some (some (.ref b)) → (σ.set i (some (.ref a0)))[l2]? = some (some (.ref b)) → False := fun l l2 s t b hl q q' o o' => by
    obtain ⟨q1, q2⟩ := own_set (σ := σ) (y := some (.ref a0)) q o
    obtain ⟨q3, q4⟩ := own_set (σ := σ) (y := some (.ref a0)) q' o'
    rw [q2, q4]
    exact o2 l l2 s t b hl q1 q3 o o'
  refine hB found Fb O' H1 _ _ hfb heb (R.bind_nb nb) (fun c b F2 H2 eb le2 hf2 hrb => ?_) (fun c p d F' H' e le hf' hd => ke c p d F' H' (by rw [e]; rfl) (lFb.trans le) (hf'.weak lo) hd)
  obtain rfl : b = c := hrb
  rw [eb, R.ok_bind] at nb kn kb kr ke
  have lF2 : Le F F2 := lFb.trans le2
  cases b with
  | true =>
    exact kr false _ F2 H2 rfl lF2 (hf2.weak lo) (.bl false)
  | false =>
    rw [if_neg (by decide)] at nb kn kb kr ke
    -- what is new is let go
    have dlO : ∀ p o, dl F F1 p = some o → F p = none ∧ F1 p = some o ∧ O' p = none := fun p o q => by
      cases e : F p with
      | some u =>
        rw [dl_some e] at q
        cases q
      | none =>
        rw [dl_none e] at q
        exact ⟨rfl, q, f1O p o q⟩
    have loo : Le (jn O (dl F F1)) (jn O' (dl F F1)) := fun p o q => by
      cases e : O p with
      | some u =>
        rw [jn_some e] at q
        cases q
        exact jn_some (lo _ _ e)
      | none =>
        rw [jn_none e] at q
        rw [jn_none (dlO p o q).2.2]
        exact q
    have hf3 : Fm F (jn O' (dl F F1)) H2 := by
      refine ⟨lF2.trans hf2.f, fun p o q => ?_, fun p q => ?_⟩
      · cases e : O' p with
        | some u =>
          rw [jn_some e] at q
          cases q
          exact hf2.o _ _ e
        | none =>
          rw [jn_none e] at q
          exact hf2.f _ _ (le2 _ _ (lF1b _ _ (dlO p o q).2.1))
      · rw [jn_none (hf.ds p q)]
        cases e : F p with
        | none => exact absurd e q
        | some u => exact dl_some e
    have he3 : Er cf.K F (jn O' (dl F F1)) (σ.set i (some (.ref a0))) (G.set i (.pv (.ref a0))) := er_own (he.monoO jn_le) i rfl
    have hM3 : Mt cf.K F (jn O (dl F F1)) H2 (σ.set i (some (.ref a0))) (G.set i (.pv (.ref a0))) := by
      have gs : ∀ (l : Nat) (s : Sl), (G.set i (.pv (.ref a0)))[l]? = some s → s.own = true → G[l]? = some s ∧ (σ.set i (some (.ref a0)))[l]? = σ[l]? := fun l s q o => by
        rcases get_set q with ⟨rfl, rfl, _⟩ | ⟨hl, q⟩
        · cases o
        · exact ⟨q, List.getElem?_set_ne hl⟩
      refine ⟨_, loo, hf3, he3, fun l s b q o z => ?_, fun l l2 s t b hl q q' o o' => ?_⟩
      · obtain ⟨q1, q2⟩ := gs l s q o
        rw [q2] at z
        rw [jn_none (o1 l s b q1 o z)]
        obtain ⟨u, hu⟩ := own_addr (he.at' l s q1) o z
        cases e : dl F F1 b with
        | none => rfl
        | some w =>
          rw [(dlO b w e).2.2] at hu
          cases hu
      · obtain ⟨q1, q2⟩ := gs l s q o
        obtain ⟨q3, q4⟩ := gs l2 t q' o'
        rw [q2, q4]
        exact o2 l l2 s t b hl q1 q3 o o'
    have hvi : ∀ c : Addr, .ref c ∈ vs → ∀ ns : List Int, vs ≠ ns.map V.int := fun c hc ns e => by
      rw [e] at hc
      obtain ⟨n, _, hn⟩ := List.mem_map.mp hc
      cases hn
    have hel : ∀ v ∈ vs, wlEl O (jn O (dl F F1)) a0 0 v := fun v hv => by
      obtain ⟨k, hk, rfl⟩ := List.getElem_of_mem hv
      obtain ⟨d, hd, hdr⟩ := hvs.getV (List.getElem?_eq_getElem hk)
      rw [List.getElem?_map] at hd
      cases ew : found[k]? with
      | none =>
        rw [ew] at hd
        cases hd
      | some ow =>
        rw [ew] at hd
        cases hd
        cases ow with
        | none => exact .inl (dr_non hdr)
        | some w =>
          obtain ⟨c, ws, ev, hc, hws⟩ := dr_lst (ds := w.map toD) hdr
          have hwi := ints_of_drA hws
          obtain ⟨n1, n2⟩ := wel w (List.mem_of_getElem? ew)
          have hcg : c ≠ ag := fun z => by
            rw [z, hF1g] at hc
            injection hc with hc
            injection hc with hc
            rw [hgv, hwi] at hc
            exact n1 ((List.map_inj_right (fun x y h => by injection h)).mp hc).symm
          have hFc : F c = none := by
            rcases f1F c _ hc with e | ⟨h, _⟩
            · exact e
            · exact absurd h hcg
          have hOc : O c = none := lo.free (f1O c _ hc)
          refine .inr ⟨c, ws, ev, fun z => ?_, hOc, by rw [jn_none hOc, dl_none hFc]; exact hc, by rw [hwi, List.length_map]; omega⟩
          rw [z, hF1a] at hc
          injection hc with hc
          injection hc with hc
          exact hvi c (ev ▸ hv) w (hc.trans hwi)
    have hFa0 : F a0 = none := by
      rcases f1F a0 _ hF1a with e | ⟨h, e⟩
      · exact e
      · rw [h, hFg] at e
        injection e with e
        injection e with e
        rw [hgv] at e
        cases found with
        | nil => exact absurd rfl wne
        | cons f0 fr =>
          obtain ⟨v0, r0, ev, d0, _⟩ := drA_cons (d := toD f0) hvs
          rw [ev] at e
          cases given with
          | nil => cases e
          | cons n0 nr =>
            injection e with e _
            subst e
            cases f0 with
            | none => cases dr_non d0
            | some w =>
              obtain ⟨_, _, ev, _⟩ := dr_lst (ds := w.map toD) d0
              cases ev
    have hOa0 : O a0 = none := lo.free (f1O a0 _ hF1a)
    have ha0 : jn O (dl F F1) a0 = some (.lst vs) := by rw [jn_none hOa0, dl_none hFa0]; exact hF1a
    have hlv : vs.length = found.length := by rw [hvs.length, List.length_map]
    refine hI (.ref a0) F _ H2 _ _ hf3 he3 (R.bind_nb nb) (fun xs J F4 H4 em le4 hf4 hJ => ?_) (fun c p d F' H' e le hf' hd => ke c p d F' H' (by rw [e]; rfl) le ((hf'.weak loo).weak jn_le) hd)
    rw [em, R.ok_bind] at nb kn kb kr ke
    by_cases hxl : xs.length ≤ 1000
    rotate_left
    · rw [if_neg hxl] at nb
      exact absurd rfl nb
    rw [if_pos hxl] at nb kn kb kr ke
    obtain ⟨step, hstep⟩ : ∃ step : Unit → Int → R (Fl Unit Bool), step = fun (_ : Unit) a => seqF (mIn a) fun _ => (idxR found a).bind fun _ => .ok (.nx ()) := ⟨_, rfl⟩
    rw [← hstep] at nb kn kb kr ke
    let W : Nat → Nat → L2.St → Hp → Prop := fun k mm σ H => mm = xs.length - k ∧ k ≤ xs.length ∧ ∃ (F2 Oo : Hp), Le F4 F2 ∧ Le O Oo ∧ Mt cf.K F2 Oo H σ (G.set i (.pv (.ref a0))) ∧ Oo a0 = some (.lst vs) ∧ (∀ v ∈ vs, wlEl O Oo a0 k v) ∧ forR step (fun _ => mr) (xs.drop k) () = forR step (fun _ => mr) xs ()
    obtain ⟨O5, lo5, hf5', he5, o15, o25⟩ := id hM3
    have hM4 : Mt cf.K F4 (jn O (dl F F1)) H4 (σ.set i (some (.ref a0))) (G.set i (.pv (.ref a0))) := by
      have gs : ∀ (l : Nat) (s : Sl), (G.set i (.pv (.ref a0)))[l]? = some s → s.own = true → G[l]? = some s ∧ (σ.set i (some (.ref a0)))[l]? = σ[l]? := fun l s q o => by
        rcases get_set q with ⟨rfl, rfl, _⟩ | ⟨hl, q⟩
        · cases o
        · exact ⟨q, List.getElem?_set_ne hl⟩
      exact ⟨_, loo, hf4, he3.mono le4, o15, o25⟩
    refine ⟨W, ⟨xs.length, by simp, Nat.zero_le _, F4, _, Le.refl F4, jn_le, hM4, ha0, hel, by rw [List.drop_zero]⟩, ?_⟩
    rintro k mm σ2 H5 ⟨rfl, hk, F5, Oo, le5, loO, hM5, hOa, hE, tot⟩
    by_cases hlt : k < xs.length
    · have hx : xs[k]? = some xs[k] := List.getElem?_eq_getElem hlt
      rw [List.drop_eq_getElem_cons hlt] at tot
      rw [← tot] at nb kn kb kr ke
      obtain ⟨O6, lo6, hf6, he6, o16, o26⟩ := id hM5
      obtain ⟨hgo, hyl⟩ := (hJ k F5 O6 H5 le5 hf6).1 _ hx
      refine .inr ⟨hgo, fun σ H => W (k + 1) (xs.length - (k + 1)) σ H, fun σ' H' h' => ⟨_, by omega, h'⟩, fun v H7 hy => ?_⟩
      obtain ⟨F7, le7, hf7, hv⟩ := hyl v H7 hy
      have hM7 : Mt cf.K F7 Oo H7 σ2 (G.set i (.pv (.ref a0))) := ⟨O6, lo6, hf7, he6.mono le7, o16, o26⟩
      have hM8 := mt_set hM7 ja (d := toD xs[k]) hv
      have le17 := ((lF2.trans (Le.refl F2)))
      have leF7 : Le F F7 := (le4.trans le5).trans le7
      have hun := forR_cons step (fun _ : Unit => mr) xs[k] (xs.drop (k + 1)) ()
      have hnb : step () xs[k] ≠ .bad := fun z => nb (by rw [hun, z]; rfl)
      have hse : step () xs[k] = seqF (mIn xs[k]) fun _ => (idxR found xs[k]).bind fun _ => .ok (.nx ()) := by rw [hstep]
      show tIn _ (σ2.set ja (some v)) H7
      refine hIn (.ref a0) xs[k] F7 Oo H7 _ _ hM8 (fun z => hnb (by rw [hse, z]; rfl)) (fun s F9 H9 σ9 e le9 hM9 => ?_) (fun s F9 H9 σ9 e le9 hM9 => ?_) (fun r v F9 H9 e le9 hf9 hr => ?_) (fun c p d F9 H9 e le9 hf9 hd => ?_)
      · rw [e] at hse
        have hse2 : step () xs[k] = (idxR found xs[k]).bind fun _ => .ok (.nx ()) := hse
        obtain ⟨o, ho⟩ : ∃ o, idxR found xs[k] = .ok o := by
          cases z : idxR found xs[k] with
          | ok o => exact ⟨o, rfl⟩
          | bad => exact absurd (by rw [hse2, z]; rfl) hnb
          | er c p =>
            unfold idxR at z
            split at z <;> cases z
        have hst : step () xs[k] = .ok (.nx ()) := by rw [hse2, ho]; rfl
        have htot : forR step (fun _ => mr) (xs.drop (k + 1)) () = forR step (fun _ => mr) xs () := by
          rw [← tot, hun, hst]
          rfl
        have hat : ∃ x, atI vs xs[k] = some x := by
          unfold idxR atI at ho
          unfold atI
          rw [hlv]
          cases q : ixN found.length xs[k] with
          | none =>
            rw [q] at ho
            cases ho
          | some jj =>
            have hl := (ixN_seq q).2.1
            exact ⟨vs[jj]'(by omega), List.getElem?_eq_getElem (by omega)⟩
        obtain ⟨vx, hvx⟩ := hat
        have hvm : vx ∈ vs := by
          unfold atI at hvx
          cases q : ixN vs.length xs[k] with
          | none =>
            rw [q] at hvx
            cases hvx
          | some jj =>
            rw [q] at hvx
            exact List.mem_of_getElem? hvx
        obtain ⟨O9, lo9, hf9, he9, o19, o29⟩ := id hM9
        have hil2 : i < (G.set i (.pv (.ref a0))).length := by rw [List.length_set]; exact hil
        have ei : σ9[i]? = some (some (.ref a0)) := he9.at' i (.pv (.ref a0)) (by rw [List.getElem?_set_ne (Ne.symm hij), List.getElem?_set_self hil])
        have hjl : ja < G.length := by
          rcases Nat.lt_or_ge ja G.length with z | z
          · exact z
          · rw [List.getElem?_eq_none z] at hja
            cases hja
        obtain ⟨vj, ej, dj⟩ := he9.at' ja (.va (toD xs[k])) (by rw [List.getElem?_set_self (by rw [List.length_set]; exact hjl)])
        obtain rfl : vj = .int xs[k] := dr_int dj
        have hH9 : SqL cf.K H9 a0 vs := SqL.of (hf9.o _ _ (lo9 _ _ hOa))
        have leF9 : Le F4 F9 := (le5.trans le7).trans le9
        have hunj : (G.set i (.pv (.ref a0)))[ja]? = some .un := by rw [List.getElem?_set_ne hij]; exact hja
        refine ⟨_, ei, _, ej, a0, vs, _, vx, rfl, rfl, hH9, hvx, rfl, _, rfl, ?_⟩
        rcases hE vx hvm with rfl | ⟨c, ws, rfl, hca, hcO, hcc, hcl⟩
        · exact ⟨rfl, hlt, F9, Oo, leF9, loO, mt_un hM9 hunj, hOa, fun v hv => (hE v hv).imp id fun ⟨c, ws, h1, h2, h3, h4, h5⟩ => ⟨c, ws, h1, h2, h3, h4, by omega⟩, htot⟩
        · refine ⟨_, ei, _, ej, a0, vs, _, .ref c, rfl, rfl, hH9, hvx, .inl ⟨rfl, ws, SqL.of (hf9.o _ _ (lo9 _ _ hcc))⟩, c, ws, .int 7, rfl, rfl, hf9.o _ _ (lo9 _ _ hcc), sz_lt (by omega), ?_⟩
          refine ⟨rfl, hlt, F9, upd Oo c (.lst (ws ++ [.int 7])), leF9, fun p u q => ?_, mt_un (mt_out hM9 hcc) hunj, by rw [upd_ne (Ne.symm hca)]; exact hOa, fun v hv => ?_, htot⟩
          · rw [upd_ne (ne_of_none q hcO)]
            exact loO _ _ q
          · rcases hE v hv with rfl | ⟨c', ws', h1, h2, h3, h4, h5⟩
            · exact .inl rfl
            · by_cases hcc' : c' = c
              · subst hcc'
                exact .inr ⟨c', _, h1, h2, h3, upd_same, by
                  rw [List.length_append]
                  simp
                  omega⟩
              · exact .inr ⟨c', ws', h1, h2, h3, by rw [upd_ne hcc']; exact h4, by omega⟩
      · exact absurd (by rw [hse, e]; rfl) hnb
      · exact kr r v F9 H9 (by rw [hun, hse, e]; rfl) (leF7.trans le9) (hf9.weak loO) hr
      · exact ke c p d F9 H9 (by rw [hun, hse, e]; rfl) (leF7.trans le9) (hf9.weak loO) hd
    · have e : k = xs.length := by omega
      subst e
      rw [List.drop_length] at tot
      have tot2 : forR step (fun _ => mr) xs () = mr := tot.symm
      rw [tot2] at nb kn kb kr ke
      obtain ⟨O6, lo6, hf6, he6, o16, o26⟩ := id hM5
      have leF5 : Le F F5 := le4.trans le5
      refine .inl ⟨(hJ _ F5 O6 H5 le5 hf6).2 (Nat.le_refl _), hr (.ref a0) F5 Oo H5 σ2 D hM5 nb (fun s F'' H'' σ' e le' hm => kn s F'' H'' σ' e (leF5.trans le') (hm.weakO loO)) (fun s F'' H'' σ' e le' hm => kb s F'' H'' σ' e (leF5.trans le') (hm.weakO loO)) (fun r v F'' H'' e le' hm => kr r v F'' H'' e (leF5.trans le') (hm.weak loO)) fun c p d F'' H'' e le' hm => ke c p d F'' H'' e (leF5.trans le') (hm.weak loO)⟩
end Kr

namespace Kx
open PySem PySem.Spec PyProof.Rows L2 Kr
open Enc (toD)
/-! ### the text by places -/
def topS (i : Nat) : Stmt := PySem.Challenge.pw_kraftroom_k01_words_of_a_code.main.body.getD i (.Pass ⟨0, 0, 0, 0⟩)
abbrev s_room : Stmt := topS 2
abbrev s_is_code : Stmt := topS 3
abbrev s_field_bits : Stmt := topS 4
abbrev s_words : Stmt := topS 5
abbrev s__law_cell : Stmt := topS 7
abbrev s__law_lengths : Stmt := topS 8
abbrev s__law_room : Stmt := topS 9
abbrev s__law_fitting : Stmt := topS 10
abbrev s__law_words : Stmt := topS 11
abbrev s_law : Stmt := topS 12
/-- what the top has left -/
structure Txt (cf : Cf) (mg : Str → Option Value) where
  a_room : Addr
  d_room : FuncData
  F_room : Fun cf.K "room" "room" s_room a_room d_room
  b_room : Binds cf.K d_room ["lengths"] []
  g_room : mg "room" = some (.ref a_room)
  a_is_code : Addr
  d_is_code : FuncData
  F_is_code : Fun cf.K "is_code" "is_code" s_is_code a_is_code d_is_code
  b_is_code : Binds cf.K d_is_code ["lengths"] []
  g_is_code : mg "is_code" = some (.ref a_is_code)
  a_field_bits : Addr
  d_field_bits : FuncData
  F_field_bits : Fun cf.K "field_bits" "field_bits" s_field_bits a_field_bits d_field_bits
  b_field_bits : Binds cf.K d_field_bits ["width", "value"] []
  g_field_bits : mg "field_bits" = some (.ref a_field_bits)
  a_words : Addr
  d_words : FuncData
  F_words : Fun cf.K "words" "words" s_words a_words d_words
  b_words : Binds cf.K d_words ["lengths"] []
  g_words : mg "words" = some (.ref a_words)
  a__law_cell : Addr
  d__law_cell : FuncData
  F__law_cell : Fun cf.K "_law_cell" "_law_cell" s__law_cell a__law_cell d__law_cell
  b__law_cell : Binds cf.K d__law_cell ["_law_script", "_law_k"] []
  g__law_cell : mg "_law_cell" = some (.ref a__law_cell)
  a__law_lengths : Addr
  d__law_lengths : FuncData
  F__law_lengths : Fun cf.K "_law_lengths" "_law_lengths" s__law_lengths a__law_lengths d__law_lengths
  b__law_lengths : Binds cf.K d__law_lengths ["_law_script", "_law_first", "_law_many"] []
  g__law_lengths : mg "_law_lengths" = some (.ref a__law_lengths)
  a__law_room : Addr
  d__law_room : FuncData
  F__law_room : Fun cf.K "_law_room" "_law_room" s__law_room a__law_room d__law_room
  b__law_room : Binds cf.K d__law_room ["_law_lengths_here"] []
  g__law_room : mg "_law_room" = some (.ref a__law_room)
  a__law_fitting : Addr
  d__law_fitting : FuncData
  F__law_fitting : Fun cf.K "_law_fitting" "_law_fitting" s__law_fitting a__law_fitting d__law_fitting
  b__law_fitting : Binds cf.K d__law_fitting ["_law_lengths_here"] []
  g__law_fitting : mg "_law_fitting" = some (.ref a__law_fitting)
  a__law_words : Addr
  d__law_words : FuncData
  F__law_words : Fun cf.K "_law_words" "_law_words" s__law_words a__law_words d__law_words
  b__law_words : Binds cf.K d__law_words ["_law_lengths_here"] []
  g__law_words : mg "_law_words" = some (.ref a__law_words)
  a_law : Addr
  d_law : FuncData
  F_law : Fun cf.K "law" "law" s_law a_law d_law
  b_law : Binds cf.K d_law ["_law_script"] []
  g_law : mg "law" = some (.ref a_law)
  n_bool : mg "bool" = none
  n_enumerate : mg "enumerate" = none
  n_int : mg "int" = none
  n_isinstance : mg "isinstance" = none
  n_len : mg "len" = none
  n_list : mg "list" = none
  n_max : mg "max" = none
  n_range : mg "range" = none
  n_sorted : mg "sorted" = none
  n_sum : mg "sum" = none
  k_GREATEST : Tok
  c_GREATEST : mg "GREATEST" = some (.int 20 k_GREATEST)
/-! ### what the defs compute -/
def b_room (lengths_1 : (List Int)) : R (Fl Unit Int) :=
  (R.bind (R.bind (R.bind (R.ok (1 : Int)) fun a_2 => R.bind (R.ok 20) fun b_3 => shlR a_2 b_3) fun a_12 => R.bind (R.bind (R.bind (R.ok lengths_1) (lcR (fun length_4 => (R.bind (R.ok length_4) fun a_5 => R.bind (R.ok (0 : Int)) fun b_6 => R.ok (decide (b_6 < a_5)))) (fun length_4 => (R.bind (R.ok (1 : Int)) fun a_9 => R.bind (R.bind (R.ok 20) fun a_7 => R.bind (R.ok length_4) fun b_8 => R.ok (a_7 - b_8)) fun b_10 => shlR a_9 b_10)))) fun a_11 => R.ok (List.sum a_11)) fun b_13 => R.ok (a_12 - b_13)) fun a_14 => R.ok (Fl.rt a_14))
def f_room (lengths_1 : (List Int)) : R Int := finR (b_room lengths_1)
def b_is_code (lengths_15 : (List Int)) : R (Fl Unit Bool) :=
  (R.bind (R.bind (R.bind (R.bind (R.ok lengths_15) fun a_16 => R.pu (f_room a_16)) fun a_17 => R.bind (R.ok (0 : Int)) fun b_18 => R.ok (decide (b_18 ≤ a_17))) fun c_21 => if c_21 = true then (R.bind (R.bind (R.ok lengths_15) maxR) fun a_19 => R.bind (R.ok (0 : Int)) fun b_20 => R.ok (decide (b_20 < a_19))) else R.ok false) fun a_22 => R.ok (Fl.rt a_22))
def f_is_code (lengths_15 : (List Int)) : R Bool := finR (b_is_code lengths_15)
def b_field_bits (width_23 : Int) (value_24 : Int) : R (Fl Unit (List Int)) :=
  (R.bind (R.bind (R.bind (R.bind (R.ok width_23) fun a_25 => R.bind (R.ok (1 : Int)) fun b_26 => R.ok (a_25 - b_26)) fun a_29 => R.bind (R.bind (R.ok (1 : Int)) fun a_27 => R.ok (-a_27)) fun b_30 => R.bind (R.bind (R.ok (1 : Int)) fun a_28 => R.ok (-a_28)) fun c_31 => rng3R a_29 b_30 c_31) (lcR (fun shift_32 => (R.ok true)) (fun shift_32 => (R.bind (R.bind (R.ok value_24) fun a_33 => R.bind (R.ok shift_32) fun b_34 => shrR a_33 b_34) fun a_35 => R.bind (R.ok (1 : Int)) fun b_36 => R.ok (Builtin.bitAnd a_35 b_36))))) fun a_37 => R.ok (Fl.rt a_37))
def f_field_bits (width_23 : Int) (value_24 : Int) : R (List Int) := finR (b_field_bits width_23 value_24)
def b_words (lengths_38 : (List Int)) : R (Fl Unit (List (Option (List Int)))) :=
  (R.bind (R.bind (R.bind (R.bind (R.ok (none : (Option (List Int)))) fun a_39 => R.bind (R.ok ([] : List (Option (List Int)))) fun b_40 => R.ok (a_39 :: b_40)) szR) fun a_42 => R.bind (R.bind (R.ok lengths_38) fun a_41 => R.ok (List.length a_41 : Int)) fun b_43 => repR a_42 b_43) fun result_44 => (R.bind (R.bind (R.bind (R.bind (R.ok lengths_38) fun a_45 => R.ok (enumL a_45)) (lcR (fun symbol_46 => (R.bind (R.ok symbol_46.2) fun a_47 => R.bind (R.ok (0 : Int)) fun b_48 => R.ok (decide (b_48 < a_47)))) (fun symbol_46 => (R.bind (R.ok symbol_46.2) fun a_49 => R.bind (R.ok symbol_46.1) fun b_50 => R.ok (a_49, b_50))))) sortR) fun order_51 => (R.bind (R.ok (0 : Int)) fun value_52 => (R.bind (R.bind (R.bind (R.ok order_51) fun a_53 => R.bind (R.ok (0 : Int)) fun b_54 => idxR a_53 b_54) fun a_55 => R.ok a_55.1) fun width_56 => (R.bind (R.ok order_51) fun xs_75 => forR (fun (st_57 : ((List (Option (List Int))) × (Int × Int))) (length_58 : (Int × Int)) => ((R.bind (R.bind (R.ok st_57.2.1) fun a_61 => R.bind (R.bind (R.ok length_58.1) fun a_59 => R.bind (R.ok st_57.2.2) fun b_60 => R.ok (a_59 - b_60)) fun b_62 => shlR a_61 b_62) fun value_63 => (R.bind (R.ok length_58.1) fun width_64 => (R.bind (R.bind (R.bind (R.ok width_64) fun a_65 => R.bind (R.ok value_63) fun b_66 => R.pu (f_field_bits a_65 b_66)) fun o_67 => R.ok (some o_67)) fun y_72 => R.bind (R.ok length_58.2) fun k_73 => R.bind (setR st_57.1 k_73 y_72) fun result_68 => (R.bind (R.bind (R.ok value_63) fun a_69 => R.bind (R.ok (1 : Int)) fun b_70 => R.ok (a_69 + b_70)) fun value_71 => (R.ok (Fl.nx (result_68, value_71, width_64))))))) : R (Fl ((List (Option (List Int))) × (Int × Int)) (List (Option (List Int)))))) (fun (st_57 : ((List (Option (List Int))) × (Int × Int))) => (R.bind (R.ok st_57.1) fun a_74 => R.ok (Fl.rt a_74))) xs_75 (result_44, value_52, width_56))))))
def f_words (lengths_38 : (List Int)) : R (List (Option (List Int))) := finR (b_words lengths_38)
def b__law_cell (script_76 : Scr) (k_77 : Int) : R (Fl Unit Int) :=
  (R.bind (R.bind (R.ok k_77) fun a_79 => R.bind (R.bind (R.bind (R.ok script_76) fun z => R.ok z.ns) fun a_78 => R.ok (List.length a_78 : Int)) fun b_80 => R.ok (decide (a_79 < b_80))) fun c_81 => if c_81 = true then (R.bind (R.bind (R.bind (R.ok script_76) fun z => R.ok z.ns) fun a_82 => R.bind (R.ok k_77) fun b_83 => idxR a_82 b_83) fun a_84 => R.ok (Fl.rt a_84)) else (R.bind (R.ok (0 : Int)) fun a_85 => R.ok (Fl.rt a_85)))
def f__law_cell (script_76 : Scr) (k_77 : Int) : R Int := finR (b__law_cell script_76 k_77)
def b__law_lengths (script_86 : Scr) (first_87 : Int) (many_88 : Int) : R (Fl Unit (List Int)) :=
  (R.bind (R.bind (R.ok ([] : List Int)) szR) fun lengths_here_89 => (R.bind (R.bind (R.ok many_88) rng1R) fun xs_134 => forR (fun (st_91 : (List Int)) (k_92 : Int) => ((R.bind (R.bind (R.ok script_86) fun a_95 => R.bind (R.bind (R.ok first_87) fun a_93 => R.bind (R.ok k_92) fun b_94 => R.ok (a_93 + b_94)) fun b_96 => R.pu (f__law_cell a_95 b_96)) fun cell_here_97 => (R.bind (R.bind (R.ok (1 : Int)) fun a_100 => R.bind (R.bind (R.ok cell_here_97) fun a_98 => R.bind (R.ok (6 : Int)) fun b_99 => modR a_98 b_99) fun b_101 => R.ok (a_100 + b_101)) fun length_102 => (seqF ((R.bind (R.bind (R.bind (R.ok cell_here_97) fun a_103 => R.bind (R.ok (7 : Int)) fun b_104 => modR a_103 b_104) fun a_105 => R.bind (R.ok (3 : Int)) fun b_106 => R.ok (decide (a_105 = b_106))) fun c_107 => if c_107 = true then (R.bind (R.ok (0 : Int)) fun length_110 => (R.ok (Fl.nx length_110))) else (R.ok (Fl.nx length_102))) : R (Fl Int (List Int))) fun st_109 => (seqF ((R.bind (R.bind (R.bind (R.ok cell_here_97) fun a_111 => R.bind (R.ok (41 : Int)) fun b_112 => modR a_111 b_112) fun a_113 => R.bind (R.ok (5 : Int)) fun b_114 => R.ok (decide (a_113 = b_114))) fun c_115 => if c_115 = true then (R.bind (R.bind (R.ok (1 : Int)) fun a_128 => R.bind (R.bind (R.bind (R.ok cell_here_97) fun a_124 => R.bind (R.ok (41 : Int)) fun b_125 => divR a_124 b_125) fun a_126 => R.bind (R.ok (20 : Int)) fun b_127 => modR a_126 b_127) fun b_129 => R.ok (a_128 + b_129)) fun length_130 => (R.ok (Fl.nx length_130))) else (R.ok (Fl.nx st_109))) : R (Fl Int (List Int))) fun st_123 => (R.bind (R.ok st_123) fun y_132 => R.bind (szR (st_91 ++ [y_132])) fun lengths_here_131 => (R.ok (Fl.nx lengths_here_131))))))) : R (Fl (List Int) (List Int)))) (fun (st_91 : (List Int)) => (R.bind (R.ok st_91) fun a_133 => R.ok (Fl.rt a_133))) xs_134 lengths_here_89))
def f__law_lengths (script_86 : Scr) (first_87 : Int) (many_88 : Int) : R (List Int) := finR (b__law_lengths script_86 first_87 many_88)
def b__law_room (lengths_here_135 : (List Int)) : R (Fl Unit Int) :=
  (R.bind (R.ok (1048576 : Int)) fun left_136 => (R.bind (R.ok lengths_here_135) fun xs_150 => forR (fun (st_137 : Int) (length_138 : Int) => ((R.bind (R.bind (R.ok length_138) fun a_139 => R.bind (R.ok (0 : Int)) fun b_140 => R.ok (decide (b_140 < a_139))) fun c_141 => if c_141 = true then (R.bind (R.bind (R.ok st_137) fun a_146 => R.bind (R.bind (R.ok (1048576 : Int)) fun a_144 => R.bind (R.bind (R.ok (1 : Int)) fun a_142 => R.bind (R.ok length_138) fun b_143 => shlR a_142 b_143) fun b_145 => divR a_144 b_145) fun b_147 => R.ok (a_146 - b_147)) fun left_148 => (R.ok (Fl.nx left_148))) else (R.ok (Fl.nx st_137))) : R (Fl Int Int))) (fun (st_137 : Int) => (R.bind (R.ok st_137) fun a_149 => R.ok (Fl.rt a_149))) xs_150 left_136))
def f__law_room (lengths_here_135 : (List Int)) : R Int := finR (b__law_room lengths_here_135)
def b__law_fitting (lengths_here_151 : (List Int)) : R (Fl Unit (List Int)) :=
  (R.bind (R.bind (R.ok ([] : List Int)) szR) fun fitted_152 => (R.bind (R.ok (1048576 : Int)) fun left_153 => (R.bind (R.ok lengths_here_151) fun xs_218 => forR (fun (st_154 : ((List Int) × Int)) (length_155 : Int) => ((R.bind (R.bind (R.ok (20 : Int)) rng1R) fun xs_206 => forR (fun (st_157 : Int) (turn_158 : Int) => ((R.bind (R.bind (R.bind (R.ok (0 : Int)) fun a_159 => R.bind (R.ok st_157) fun b_160 => if decide (a_159 < b_160) = true then R.bind (R.ok (20 : Int)) fun c_161 => R.ok (decide (b_160 < c_161)) else R.ok false) fun c_168 => if c_168 = true then (R.bind (R.bind (R.ok (1048576 : Int)) fun a_164 => R.bind (R.bind (R.ok (1 : Int)) fun a_162 => R.bind (R.ok st_157) fun b_163 => shlR a_162 b_163) fun b_165 => divR a_164 b_165) fun a_166 => R.bind (R.ok st_154.2) fun b_167 => R.ok (decide (b_167 < a_166))) else R.ok false) fun c_169 => if c_169 = true then (R.bind (R.bind (R.ok st_157) fun a_170 => R.bind (R.ok (1 : Int)) fun b_171 => R.ok (a_170 + b_171)) fun length_172 => (R.ok (Fl.nx length_172))) else (R.ok (Fl.nx st_157))) : R (Fl Int (List Int)))) (fun (st_157 : Int) => (seqF ((R.bind (R.bind (R.bind (R.ok st_157) fun a_173 => R.bind (R.ok (0 : Int)) fun b_174 => R.ok (decide (b_174 < a_173))) fun c_181 => if c_181 = true then (R.bind (R.bind (R.ok (1048576 : Int)) fun a_177 => R.bind (R.bind (R.ok (1 : Int)) fun a_175 => R.bind (R.ok st_157) fun b_176 => shlR a_175 b_176) fun b_178 => divR a_177 b_178) fun a_179 => R.bind (R.ok st_154.2) fun b_180 => R.ok (decide (b_180 < a_179))) else R.ok false) fun c_182 => if c_182 = true then (R.bind (R.ok (0 : Int)) fun length_185 => (R.ok (Fl.nx length_185))) else (R.ok (Fl.nx st_157))) : R (Fl Int (List Int))) fun st_184 => (seqF ((R.bind (R.bind (R.ok st_184) fun a_186 => R.bind (R.ok (0 : Int)) fun b_187 => R.ok (decide (b_187 < a_186))) fun c_188 => if c_188 = true then (R.bind (R.bind (R.ok st_154.2) fun a_201 => R.bind (R.bind (R.ok (1048576 : Int)) fun a_199 => R.bind (R.bind (R.ok (1 : Int)) fun a_197 => R.bind (R.ok st_184) fun b_198 => shlR a_197 b_198) fun b_200 => divR a_199 b_200) fun b_202 => R.ok (a_201 - b_202)) fun left_203 => (R.ok (Fl.nx left_203))) else (R.ok (Fl.nx st_154.2))) : R (Fl Int (List Int))) fun st_196 => (R.bind (R.ok st_184) fun y_205 => R.bind (szR (st_154.1 ++ [y_205])) fun fitted_204 => (R.ok (Fl.nx (fitted_204, st_196))))))) xs_206 length_155) : R (Fl ((List Int) × Int) (List Int)))) (fun (st_154 : ((List Int) × Int)) => (seqF ((R.bind (R.bind (R.bind (R.ok st_154.1) maxR) fun a_207 => R.bind (R.ok (0 : Int)) fun b_208 => R.ok (decide (a_207 = b_208))) fun c_209 => if c_209 = true then (R.bind (R.ok (3 : Int)) fun y_215 => R.bind (R.ok (0 : Int)) fun k_216 => R.bind (setR st_154.1 k_216 y_215) fun fitted_214 => (R.ok (Fl.nx fitted_214))) else (R.ok (Fl.nx st_154.1))) : R (Fl (List Int) (List Int))) fun st_213 => (R.bind (R.ok st_213) fun a_217 => R.ok (Fl.rt a_217)))) xs_218 (fitted_152, left_153))))
def f__law_fitting (lengths_here_151 : (List Int)) : R (List Int) := finR (b__law_fitting lengths_here_151)
def b__law_words (lengths_here_219 : (List Int)) : R (Fl Unit (List (Option (List Int)))) :=
  (R.bind (R.bind (R.ok lengths_here_219) (lcR (fun length_220 => (R.ok true)) (fun length_220 => (R.ok (none : (Option (List Int))))))) fun table_221 => (R.bind (R.ok (0 : Int)) fun value_222 => (R.bind (R.ok (0 : Int)) fun width_223 => (R.bind (R.bind (R.ok (1 : Int)) fun a_224 => R.bind (R.ok (21 : Int)) fun b_225 => rng2R a_224 b_225) fun xs_266 => forR (fun (st_226 : ((List (Option (List Int))) × (Int × Int))) (length_227 : Int) => ((R.bind (R.bind (R.bind (R.ok lengths_here_219) fun a_228 => R.ok (List.length a_228 : Int)) rng1R) fun xs_264 => forR (fun (st_230 : ((List (Option (List Int))) × (Int × Int))) (k_231 : Int) => ((R.bind (R.bind (R.bind (R.ok lengths_here_219) fun a_232 => R.bind (R.ok k_231) fun b_233 => idxR a_232 b_233) fun a_234 => R.bind (R.ok length_227) fun b_235 => R.ok (decide (a_234 = b_235))) fun c_236 => if c_236 = true then (R.bind (R.bind (R.ok st_230.2.1) fun a_241 => R.bind (R.bind (R.ok (1 : Int)) fun a_239 => R.bind (R.bind (R.ok length_227) fun a_237 => R.bind (R.ok st_230.2.2) fun b_238 => R.ok (a_237 - b_238)) fun b_240 => shlR a_239 b_240) fun b_242 => mulR a_241 b_242) fun value_243 => (R.bind (R.ok length_227) fun width_244 => (R.bind (R.bind (R.bind (R.bind (R.ok length_227) rng1R) (lcR (fun j_246 => (R.ok true)) (fun j_246 => (R.bind (R.bind (R.ok value_243) fun a_253 => R.bind (R.bind (R.ok (1 : Int)) fun a_251 => R.bind (R.bind (R.bind (R.ok length_227) fun a_247 => R.bind (R.ok (1 : Int)) fun b_248 => R.ok (a_247 - b_248)) fun a_249 => R.bind (R.ok j_246) fun b_250 => R.ok (a_249 - b_250)) fun b_252 => shlR a_251 b_252) fun b_254 => divR a_253 b_254) fun a_255 => R.bind (R.ok (2 : Int)) fun b_256 => modR a_255 b_256)))) fun o_257 => R.ok (some o_257)) fun y_262 => R.bind (R.ok k_231) fun k_263 => R.bind (setR st_230.1 k_263 y_262) fun table_258 => (R.bind (R.bind (R.ok value_243) fun a_259 => R.bind (R.ok (1 : Int)) fun b_260 => R.ok (a_259 + b_260)) fun value_261 => (R.ok (Fl.nx (table_258, value_261, width_244))))))) else (R.ok (Fl.nx (st_230.1, st_230.2.1, st_230.2.2)))) : R (Fl ((List (Option (List Int))) × (Int × Int)) (List (Option (List Int)))))) (fun (st_230 : ((List (Option (List Int))) × (Int × Int))) => (R.ok (Fl.nx (st_230.1, st_230.2.1, st_230.2.2)))) xs_264 (st_226.1, st_226.2.1, st_226.2.2)) : R (Fl ((List (Option (List Int))) × (Int × Int)) (List (Option (List Int)))))) (fun (st_226 : ((List (Option (List Int))) × (Int × Int))) => (R.bind (R.ok st_226.1) fun a_265 => R.ok (Fl.rt a_265))) xs_266 (table_221, value_222, width_223)))))
def f__law_words (lengths_here_219 : (List Int)) : R (List (Option (List Int))) := finR (b__law_words lengths_here_219)
def b_law (script_267 : Scr) : R (Fl Unit Bool) :=
  (R.bind (R.bind (R.ok (1 : Int)) fun a_272 => R.bind (R.bind (R.bind (R.ok script_267) fun a_268 => R.bind (R.ok (0 : Int)) fun b_269 => R.pu (f__law_cell a_268 b_269)) fun a_270 => R.bind (R.ok (24 : Int)) fun b_271 => modR a_270 b_271) fun b_273 => R.ok (a_272 + b_273)) fun many_274 => (R.bind (R.bind (R.ok script_267) fun a_275 => R.bind (R.ok (1 : Int)) fun b_276 => R.bind (R.ok many_274) fun c_277 => R.pu (f__law_lengths a_275 b_276 c_277)) fun lengths_here_278 => (R.bind (R.bind (R.ok lengths_here_278) fun a_279 => R.pu (f_is_code a_279)) fun told_280 => (R.bind (R.bind (R.bind (R.bind (R.ok lengths_here_278) fun a_281 => R.pu (f_room a_281)) fun a_283 => R.bind (R.bind (R.ok lengths_here_278) fun a_282 => R.pu (f__law_room a_282)) fun b_284 => R.ok (!decide (a_283 = b_284))) fun c_287 => if c_287 = true then R.ok true else (R.bind (R.bind (R.ok told_280) fun a_285 => R.ok true) fun a_286 => R.ok (!a_286))) fun c_288 => if c_288 = true then (R.bind (R.ok false) fun a_289 => R.ok (Fl.rt a_289)) else (R.bind (R.bind (R.ok told_280) fun a_296 => R.bind (R.bind (R.bind (R.bind (R.ok lengths_here_278) fun a_290 => R.pu (f__law_room a_290)) fun a_291 => R.bind (R.ok (0 : Int)) fun b_292 => R.ok (decide (b_292 ≤ a_291))) fun c_295 => if c_295 = true then (R.bind (R.bind (R.ok lengths_here_278) maxR) fun a_293 => R.bind (R.ok (0 : Int)) fun b_294 => R.ok (decide (b_294 < a_293))) else R.ok false) fun b_297 => R.ok (!decide (a_296 = b_297))) fun c_298 => if c_298 = true then (R.bind (R.ok false) fun a_299 => R.ok (Fl.rt a_299)) else (R.bind (R.bind (R.ok lengths_here_278) fun a_300 => R.pu (f__law_fitting a_300)) fun lengths_here_301 => (R.bind (R.ok lengths_here_301) fun given_302 => (R.bind (R.bind (R.bind (R.bind (R.ok given_302) fun a_303 => R.pu (f_is_code a_303)) fun a_304 => R.ok (!a_304)) fun c_309 => if c_309 = true then R.ok true else (R.bind (R.bind (R.ok given_302) fun a_305 => R.pu (f_room a_305)) fun a_307 => R.bind (R.bind (R.ok lengths_here_301) fun a_306 => R.pu (f__law_room a_306)) fun b_308 => R.ok (!decide (a_307 = b_308)))) fun c_310 => if c_310 = true then (R.bind (R.ok false) fun a_311 => R.ok (Fl.rt a_311)) else (R.bind (R.bind (R.ok lengths_here_301) fun a_312 => R.pu (f__law_words a_312)) fun due_313 => (R.bind (R.pu (f_words given_302)) fun found_315 => if wlOk given_302 found_315 = true then R.bind (R.bind (R.bind (R.ok given_302) fun a_316 => R.bind (R.ok lengths_here_301) fun b_317 => R.bind (eqR a_316 b_317) fun c => R.ok (!c)) fun c_323 => if c_323 = true then R.ok true else (R.bind (R.bind (R.bind (R.ok found_315) fun a_318 => R.ok true) fun a_319 => R.ok (!a_319)) fun c_322 => if c_322 = true then R.ok true else (R.bind (R.ok found_315) fun a_320 => R.bind (R.ok due_313) fun b_321 => R.bind (eqR a_320 b_321) fun c => R.ok (!c)))) fun c => if c = true then (R.bind (R.ok false) fun b => R.ok (Fl.rt b)) else R.bind (R.bind (R.ok many_274) rng1R) fun xs => if xs.length ≤ 1000 then forR (fun (_ : Unit) (a_325 : Int) => seqF ((R.bind (R.bind (R.ok many_274) rng1R) fun xs_355 => forR (fun (st_327 : Unit) (b_328 : Int) => ((R.bind (R.bind (R.bind (R.ok a_325) fun a_329 => R.bind (R.ok b_328) fun b_330 => R.ok (!decide (a_329 = b_330))) fun c_352 => if c_352 = true then (R.bind (R.bind (R.bind (R.ok due_313) fun a_331 => R.bind (R.ok a_325) fun b_332 => idxR a_331 b_332) fun a_333 => R.ok (Option.isSome a_333)) fun c_351 => if c_351 = true then (R.bind (R.bind (R.bind (R.ok due_313) fun a_334 => R.bind (R.ok b_328) fun b_335 => idxR a_334 b_335) fun a_336 => R.ok (Option.isSome a_336)) fun c_350 => if c_350 = true then (R.bind (R.bind (R.bind (R.bind (R.ok due_313) fun a_337 => R.bind (R.ok b_328) fun b_338 => idxR a_337 b_338) getR) fun xs_343 => R.bind (R.ok none) fun lo_344 => R.bind (R.bind (R.bind (R.bind (R.bind (R.ok due_313) fun a_339 => R.bind (R.ok a_325) fun b_340 => idxR a_339 b_340) getR) fun a_341 => R.ok (List.length a_341 : Int)) fun a_342 => R.ok (some a_342)) fun hi_345 => R.ok (cut xs_343 lo_344 hi_345)) fun a_348 => R.bind (R.bind (R.ok due_313) fun a_346 => R.bind (R.ok a_325) fun b_347 => idxR a_346 b_347) fun b_349 => eqR a_348 b_349) else R.ok false) else R.ok false) else R.ok false) fun c_353 => if c_353 = true then (R.bind (R.ok false) fun a_354 => R.ok (Fl.rt a_354)) else (R.ok (Fl.nx ()))) : R (Fl Unit Bool))) (fun (st_327 : Unit) => (R.ok (Fl.nx ()))) xs_355 ()) : R (Fl Unit Bool)) fun _ => (idxR found_315 a_325).bind fun _ => R.ok (Fl.nx ())) (fun _ => (R.bind (R.bind (R.bind (R.ok given_302) fun a_356 => R.pu (f_words a_356)) fun a_357 => R.bind (R.ok due_313) fun b_358 => eqR a_357 b_358) fun a_359 => R.ok (Fl.rt a_359))) xs () else R.bad else R.bad))))))))))
def f_law (script_267 : Scr) : R Bool := finR (b_law script_267)
/-! ### the defs compute it -/
section
variable {P : Program} {w : World} {cf : Cf} {mg : Str → Option Value} {base : Heap} (T : Txt cf mg)
theorem sc_room : FnScope ["lengths", "length"] ["lengths"] (defScope s_room) := ⟨rfl, rfl, rfl, by decide +kernel, rfl, by decide +kernel, by decide +kernel⟩
theorem ok_room : FnOk P w cf.K mg base CX0 1 T.a_room T.d_room ["lengths"] (SpP cf 1 (sp1 f_room)) := by
  refine fn1 (k := 0) (S := Unit) (enc := fun _ => [.un, .un]) T.F_room sc_room rfl b_room (fun lengths_1 => [.va (toD (lengths_1 : (List Int))), .un]) (fun _ => rfl) fun cdv A outer s H E hr => ?_
  refine ⟨_, (pss_one (ps_ret (pe_op op_sub (pe_op op_shlW pe_int (pe_glob (v := .int 20) (by rfl) T.c_GREATEST ⟨_, rfl⟩)) (pe_callB (sumK cf.K rfl rfl) (by rfl) T.n_sum (by decide +kernel) (pa_cons (pe_lc (own := [("length", 1)]) rfl sc_room.nd (listI cf.K rfl (pv 0)) (blkOk_by (own := [("length", 1)]) (N := ["lengths", "length"]) (sc := defScope s_room) (by decide +kernel)) (fun _ _ _ _ _ => (pg_name (i := 1) sc_room.nd rfl (Or.inl rfl) (Or.inr rfl))) (fun _ _ _ _ _ => (pts_one (pt_cmpR op_gt (pv 1) pe_int (nomark _)))) (fun _ _ _ _ _ => (pe_op op_shlW pe_int (pe_op op_sub (pe_glob (v := .int 20) (by rfl) T.c_GREATEST ⟨_, rfl⟩) (pv 1))))) pa_nil))))), fun lengths_1 => ?_⟩
  unfold b_room
  exact (sb_ret (em_I0 (em_shl (em_int 1) (em_int 20)) (em_sum (EF.toS (ef_lc (vs := [1]) (Gi := fun length_4 => [.va (toD (lengths_1 : (List Int))), .va (toD (length_4 : Int))]) (ig_list (EM.toZ (em_var 0 lengths_1 rfl))) (ag_name 1) (by decide) (fun _ => rfl) (fun length_4 => (eb_test (em_B0 (em_var 1 length_4 rfl) (em_int 0)))) (fun length_4 => (em_shl (em_int 1) (em_I0 (em_int 20) (em_var 1 length_4 rfl)))))))))
theorem sc_is_code : FnScope ["lengths"] ["lengths"] (defScope s_is_code) := ⟨rfl, rfl, rfl, by decide +kernel, rfl, by decide +kernel, by decide +kernel⟩
theorem ok_is_code : FnOk P w cf.K mg base CX0 2 T.a_is_code T.d_is_code ["lengths"] (SpP cf 1 (sp1 f_is_code)) := by
  refine fn1 (k := 1) (S := Unit) (enc := fun _ => [.un]) T.F_is_code sc_is_code rfl b_is_code (fun lengths_15 => [.va (toD (lengths_15 : (List Int)))]) (fun _ => rfl) fun cdv A outer s H E hr => ?_
  refine ⟨_, (pss_one (ps_ret (pe_and (pe_cmpR op_ge (pe_call (ok_room T) (hr.mono (by decide)) (by rfl) T.g_room T.F_room.kp T.b_room .nil pass0 (pa_cons (pv 0) pa_nil)) pe_int (nomark _)) (pe_one (pe_cmpR op_gt (pe_callB (maxK cf.K rfl rfl) (by rfl) T.n_max (by decide +kernel) (pa_cons (pv 0) pa_nil)) pe_int (nomark _)))))), fun lengths_15 => ?_⟩
  unfold b_is_code
  exact (sb_ret (em_and (em_B0 (em_call1 (em_var 0 lengths_15 rfl)) (em_int 0)) (em_B0 (em_max (EM.toS (em_var 0 lengths_15 rfl))) (em_int 0))))
theorem sc_field_bits : FnScope ["width", "value", "shift"] ["width", "value"] (defScope s_field_bits) := ⟨rfl, rfl, rfl, by decide +kernel, rfl, by decide +kernel, by decide +kernel⟩
theorem ok_field_bits : FnOk P w cf.K mg base CX0 1 T.a_field_bits T.d_field_bits ["width", "value"] (SpP cf 2 (sp2 f_field_bits)) := by
  refine fn2 (k := 0) (S := Unit) (enc := fun _ => [.un, .un, .un]) T.F_field_bits sc_field_bits rfl b_field_bits (fun width_23 value_24 => [.va (toD (width_23 : Int)), .va (toD (value_24 : Int)), .un]) (fun _ _ => rfl) fun cdv A outer s H E hr => ?_
  refine ⟨_, (pss_one (ps_ret (pe_lc (own := [("shift", 2)]) rfl sc_field_bits.nd (pi_range3 (by rfl) T.n_range (pa_cons (pe_op op_sub (pv 0) pe_int) (pa_cons (pe_un un_neg pe_int) (pa_cons (pe_un un_neg pe_int) pa_nil)))) (blkOk_by (own := [("shift", 2)]) (N := ["width", "value", "shift"]) (sc := defScope s_field_bits) (by decide +kernel)) (fun _ _ _ _ _ => (pg_name (i := 2) sc_field_bits.nd rfl (Or.inl rfl) (Or.inr rfl))) (fun _ _ _ _ _ => pts_nil) (fun _ _ _ _ _ => (pe_op op_and (pe_op op_shr (pv 1) (pv 2)) pe_int))))), fun width_23 value_24 => ?_⟩
  unfold b_field_bits
  exact (sb_ret (EF.toM (ef_lc (vs := [2]) (Gi := fun shift_32 => [.va (toD (width_23 : Int)), .va (toD (value_24 : Int)), .va (toD (shift_32 : Int))]) (ig_range3 (em_I0 (em_var 0 width_23 rfl) (em_int 1)) (em_neg (em_int 1)) (em_neg (em_int 1))) (ag_name 2) (by decide) (fun _ => rfl) (fun shift_32 => eb_yes) (fun shift_32 => (em_I0 (em_shr (em_var 1 value_24 rfl) (em_var 2 shift_32 rfl)) (em_int 1))))))
theorem sc_words : FnScope ["lengths", "result", "order", "value", "width", "length", "symbol"] ["lengths"] (defScope s_words) := ⟨rfl, rfl, rfl, by decide +kernel, rfl, by decide +kernel, by decide +kernel⟩
theorem ok_words : FnOk P w cf.K mg base CX0 2 T.a_words T.d_words ["lengths"] (SpP cf 1 (sp1 f_words)) := by
  refine fn1 (k := 1) (S := Unit) (enc := fun _ => [.un, .un, .un, .un, .un, .un, .un]) T.F_words sc_words rfl b_words (fun lengths_38 => [.va (toD (lengths_38 : (List Int))), .un, .un, .un, .un, .un, .un]) (fun _ => rfl) fun cdv A outer s H E hr => ?_
  refine ⟨_, (pss_cons (ps_set (i := 1) sc_words.nd rfl (.inl rfl) (pe_op op_rep (pe_lst (pa_cons pe_non pa_nil)) (pe_callB (lenK cf.K rfl) (by rfl) T.n_len (by decide +kernel) (pa_cons (pv 0) pa_nil)))) (pss_cons (ps_set (i := 2) sc_words.nd rfl (.inl rfl) (pe_callB (sortedK cf.K rfl hr.units) (by rfl) T.n_sorted (by decide +kernel) (pa_cons (pe_lc (own := [("symbol", 6), ("length", 5)]) rfl sc_words.nd (enumI cf.K rfl (by rfl) T.n_enumerate (pa_cons (pv 0) pa_nil)) (blkOk_by (own := [("symbol", 6), ("length", 5)]) (N := ["lengths", "result", "order", "value", "width", "length", "symbol"]) (sc := defScope s_words) (by decide +kernel)) (fun _ _ _ _ _ => (tupK cf.K rfl 2 rfl (pgs_cons (pg_name (i := 6) sc_words.nd rfl (Or.inl rfl) (Or.inr rfl)) (pgs_cons (pg_name (i := 5) sc_words.nd rfl (Or.inl rfl) (Or.inr rfl)) pgs_nil)))) (fun _ _ _ _ _ => (pts_one (pt_cmpR op_gt (pv 5) pe_int (nomark _)))) (fun _ _ _ _ _ => (pe_tup (pa_cons (pv 5) (pa_cons (pv 6) pa_nil))))) pa_nil))) (pss_cons (ps_set (i := 3) sc_words.nd rfl (.inl rfl) pe_int) (pss_cons (ps_set (i := 4) sc_words.nd rfl (.inl rfl) (pe_ix (ix_tupK cf.K rfl) (pe_ix (ix_listK cf.K rfl) (pv 2) pe_int (fun _ _ => rfl)) pe_int (fun _ _ => rfl))) (pss_cons (ps_for PassesOwn.never rfl (listI cf.K rfl (pv 2)) (tupK cf.K rfl 2 rfl (pgs_cons (pg_name (i := 5) sc_words.nd rfl (.inl rfl)) (pgs_cons (pg_name (i := 6) sc_words.nd rfl (.inl rfl)) pgs_nil))) (pss_cons (ps_aug (i := 3) sc_words.nd rfl (.inl rfl) (pe_op op_sub (pv 5) (pv 4)) iop_shlW) (pss_cons (ps_set (i := 4) sc_words.nd rfl (.inl rfl) (pv 5)) (pss_cons (ps_asg (pe_call (ok_field_bits T) (hr.mono (by decide)) (by rfl) T.g_field_bits T.F_field_bits.kp T.b_field_bits .nil pass0 (pa_cons (pv 4) (pa_cons (pv 3) pa_nil))) (pg_sub (pv 1) (pv 6) set_list)) (pss_one (ps_aug (i := 3) sc_words.nd rfl (.inl rfl) pe_int iop_add)))))) (pss_one (ps_ret (pv 1)))))))), fun lengths_38 => ?_⟩
  unfold b_words
  exact (sb_asgO (ef_rep (EF.toL (ef_lst (eas_cons (em_none (α := (List Int))) (eas_nil (α := (Option (List Int))))))) (em_len (EM.toS (em_var 0 lengths_38 rfl)))) (fun result_44 => [.va (toD (lengths_38 : (List Int))), .ol (List.map toD (result_44 : (List (Option (List Int))))), .un, .un, .un, .un, .un]) (fun _ => rfl) (fun result_44 => (sb_asg (EF.toM (ef_sorted (EF.toS (ef_lc (vs := [6, 5]) (Gi := fun symbol_46 => [.va (toD (lengths_38 : (List Int))), .ol (List.map toD (result_44 : (List (Option (List Int))))), .un, .un, .un, .va (toD (symbol_46.2 : Int)), .va (toD (symbol_46.1 : Int))]) (ig_enum (EM.toZ (em_var 0 lengths_38 rfl))) (ag_t2 (ag_name 6) (ag_name 5)) (by decide) (fun _ => rfl) (fun symbol_46 => (eb_test (em_B0 (em_var 5 symbol_46.2 rfl) (em_int 0)))) (fun symbol_46 => (em_tup2 (em_var 5 symbol_46.2 rfl) (em_var 6 symbol_46.1 rfl))))))) (ag_name 2) (fun order_51 => [.va (toD (lengths_38 : (List Int))), .ol (List.map toD (result_44 : (List (Option (List Int))))), .va (toD (order_51 : (List (Int × Int)))), .un, .un, .un, .un]) (fun _ => rfl) (fun order_51 => (sb_asg (em_int 0) (ag_name 3) (fun value_52 => [.va (toD (lengths_38 : (List Int))), .ol (List.map toD (result_44 : (List (Option (List Int))))), .va (toD (order_51 : (List (Int × Int)))), .va (toD (value_52 : Int)), .un, .un, .un]) (fun _ => rfl) (fun value_52 => (sb_asg (em_fst (em_ixL (EM.toS (em_var 2 order_51 rfl)) (em_int 0))) (ag_name 4) (fun width_56 => [.va (toD (lengths_38 : (List Int))), .ol (List.map toD (result_44 : (List (Option (List Int))))), .va (toD (order_51 : (List (Int × Int)))), .va (toD (value_52 : Int)), .va (toD (width_56 : Int)), .un, .un]) (fun _ => rfl) (fun width_56 => (sb_for (T := ((List (Option (List Int))) × (Int × Int))) (encL := fun st_57 => [.va (toD (lengths_38 : (List Int))), .ol (List.map toD (st_57.1 : (List (Option (List Int))))), .va (toD (order_51 : (List (Int × Int)))), .va (toD (st_57.2.1 : Int)), .va (toD (st_57.2.2 : Int)), .un, .un]) (ig_list (EM.toZ (em_var 2 order_51 rfl))) (ag_t2 (ag_name 5) (ag_name 6)) (result_44, value_52, width_56) (.same (.same (.same (.same (.same (.same (.same .nil))))))) (fun st_57 length_58 => [.va (toD (lengths_38 : (List Int))), .ol (List.map toD (st_57.1 : (List (Option (List Int))))), .va (toD (order_51 : (List (Int × Int)))), .va (toD (st_57.2.1 : Int)), .va (toD (st_57.2.2 : Int)), .va (toD (length_58.1 : Int)), .va (toD (length_58.2 : Int))]) (fun _ _ => rfl) (fun st_57 length_58 => (sb_aug (em_shl (em_var 3 st_57.2.1 rfl) (em_I0 (em_var 5 length_58.1 rfl) (em_var 4 st_57.2.2 rfl))) (fun value_63 => [.va (toD (lengths_38 : (List Int))), .ol (List.map toD (st_57.1 : (List (Option (List Int))))), .va (toD (order_51 : (List (Int × Int)))), .va (toD (value_63 : Int)), .va (toD (st_57.2.2 : Int)), .va (toD (length_58.1 : Int)), .va (toD (length_58.2 : Int))]) (fun _ => rfl) (fun value_63 => (sb_asg (em_var 5 length_58.1 rfl) (ag_name 4) (fun width_64 => [.va (toD (lengths_38 : (List Int))), .ol (List.map toD (st_57.1 : (List (Option (List Int))))), .va (toD (order_51 : (List (Int × Int)))), .va (toD (value_63 : Int)), .va (toD (width_64 : Int)), .va (toD (length_58.1 : Int)), .va (toD (length_58.2 : Int))]) (fun _ => rfl) (fun width_64 => (sb_setL (i := 1) (xs := st_57.1) rfl (EM.just (em_call2 (em_var 4 width_64 rfl) (em_var 3 value_63 rfl))) (em_var 6 length_58.2 rfl) (fun result_68 => [.va (toD (lengths_38 : (List Int))), .ol (List.map toD (result_68 : (List (Option (List Int))))), .va (toD (order_51 : (List (Int × Int)))), .va (toD (value_63 : Int)), .va (toD (width_64 : Int)), .va (toD (length_58.1 : Int)), .va (toD (length_58.2 : Int))]) (fun _ => rfl) (fun result_68 => (sb_one (sb_aug (em_I0 (em_var 3 value_63 rfl) (em_int 1)) (fun value_71 => [.va (toD (lengths_38 : (List Int))), .ol (List.map toD (result_68 : (List (Option (List Int))))), .va (toD (order_51 : (List (Int × Int)))), .va (toD (value_71 : Int)), .va (toD (width_64 : Int)), .va (toD (length_58.1 : Int)), .va (toD (length_58.2 : Int))]) (fun _ => rfl) (fun value_71 => (sb_next (result_68, value_71, width_64) (.same (.same (.same (.same (.same (.drop (.drop .nil)))))))))))))))))) (fun st_57 => (sb_frz (i := 1) rfl ([.va (toD (lengths_38 : (List Int))), .va (toD (st_57.1 : (List (Option (List Int))))), .va (toD (order_51 : (List (Int × Int)))), .va (toD (st_57.2.1 : Int)), .va (toD (st_57.2.2 : Int)), .un, .un]) rfl (sb_ret (em_var 1 st_57.1 rfl)))))))))))))
theorem sc__law_cell : FnScope ["_law_script", "_law_k"] ["_law_script", "_law_k"] (defScope s__law_cell) := ⟨rfl, rfl, rfl, by decide +kernel, rfl, by decide +kernel, by decide +kernel⟩
theorem ok__law_cell : FnOk P w cf.K mg base CX0 1 T.a__law_cell T.d__law_cell ["_law_script", "_law_k"] (SpP cf 2 (sp2 f__law_cell)) := by
  refine fn2 (k := 0) (S := Unit) (enc := fun _ => [.un, .un]) T.F__law_cell sc__law_cell rfl b__law_cell (fun script_76 k_77 => [.va (toD (script_76 : Scr)), .va (toD (k_77 : Int))]) (fun _ _ => rfl) fun cdv A outer s H E hr => ?_
  refine ⟨_, (pss_cons (ps_if (pt_cmpR op_lt (pv 1) (pe_callB (lenK cf.K rfl) (by rfl) T.n_len (by decide +kernel) (pa_cons (pv 0) pa_nil)) (nomark _)) (pss_one (ps_ret (pe_callTy call_int1 (by rfl) T.n_int (by decide +kernel) (pa_cons (pe_ix (ix_listK cf.K rfl) (pv 0) (pv 1) (fun _ _ => rfl)) pa_nil)))) pss_nil) (pss_one (ps_ret pe_int))), fun script_76 k_77 => ?_⟩
  unfold b__law_cell
  exact (sb_if (eb_test (em_B0 (em_var 1 k_77 rfl) (em_len (EM.scr (em_var 0 script_76 rfl))))) (sb_ret2 (em_intI (em_ixL (EM.scr (em_var 0 script_76 rfl)) (em_var 1 k_77 rfl)))) (sb_skip (sb_ret (em_int 0))))
theorem sc__law_lengths : FnScope ["_law_script", "_law_first", "_law_many", "_law_lengths_here", "_law_k", "_law_cell_here", "_law_length"] ["_law_script", "_law_first", "_law_many"] (defScope s__law_lengths) := ⟨rfl, rfl, rfl, by decide +kernel, rfl, by decide +kernel, by decide +kernel⟩
theorem ok__law_lengths : FnOk P w cf.K mg base CX0 2 T.a__law_lengths T.d__law_lengths ["_law_script", "_law_first", "_law_many"] (SpP cf 3 (sp3 f__law_lengths)) := by
  refine fn3 (k := 1) (S := Unit) (enc := fun _ => [.un, .un, .un, .un, .un, .un, .un]) T.F__law_lengths sc__law_lengths rfl b__law_lengths (fun script_86 first_87 many_88 => [.va (toD (script_86 : Scr)), .va (toD (first_87 : Int)), .va (toD (many_88 : Int)), .un, .un, .un, .un]) (fun _ _ _ => rfl) fun cdv A outer s H E hr => ?_
  refine ⟨_, (pss_cons (ps_set (i := 3) sc__law_lengths.nd rfl (.inl rfl) (pe_lst pa_nil)) (pss_cons (ps_for PassesOwn.never rfl (pi_range1 (by rfl) T.n_range (pa_cons (pv 2) pa_nil)) (pg_name (i := 4) sc__law_lengths.nd rfl (.inl rfl)) (pss_cons (ps_set (i := 5) sc__law_lengths.nd rfl (.inl rfl) (pe_call (ok__law_cell T) (hr.mono (by decide)) (by rfl) T.g__law_cell T.F__law_cell.kp T.b__law_cell .nil pass0 (pa_cons (pv 0) (pa_cons (pe_op op_add (pv 1) (pv 4)) pa_nil)))) (pss_cons (ps_set (i := 6) sc__law_lengths.nd rfl (.inl rfl) (pe_op op_add pe_int (pe_op op_mod (pv 5) pe_int))) (pss_cons (ps_if (pt_cmpR op_eq (pe_op op_mod (pv 5) pe_int) pe_int (nomark _)) (pss_one (ps_set (i := 6) sc__law_lengths.nd rfl (.inl rfl) pe_int)) pss_nil) (pss_cons (ps_if (pt_cmpR op_eq (pe_op op_mod (pv 5) pe_int) pe_int (nomark _)) (pss_one (ps_set (i := 6) sc__law_lengths.nd rfl (.inl rfl) (pe_op op_add pe_int (pe_op op_mod (pe_op op_fdivW (pv 5) pe_int) pe_int)))) pss_nil) (pss_one (ps_expr (pe_bm PySem.F.plainAttrs_list PySem.F.slot_list_append PySem.F.type_list_append mt_append (pv 3) (pa_cons (pv 6) pa_nil))))))))) (pss_one (ps_ret (pv 3))))), fun script_86 first_87 many_88 => ?_⟩
  unfold b__law_lengths
  exact (sb_asgO (ef_lst (eas_nil (α := Int))) (fun lengths_here_89 => [.va (toD (script_86 : Scr)), .va (toD (first_87 : Int)), .va (toD (many_88 : Int)), .ol (List.map toD (lengths_here_89 : (List Int))), .un, .un, .un]) (fun _ => rfl) (fun lengths_here_89 => (sb_for (T := (List Int)) (encL := fun st_91 => [.va (toD (script_86 : Scr)), .va (toD (first_87 : Int)), .va (toD (many_88 : Int)), .ol (List.map toD (st_91 : (List Int))), .un, .un, .un]) (ig_range1 (em_var 2 many_88 rfl)) (ag_name 4) lengths_here_89 (.same (.same (.same (.same (.same (.same (.same .nil))))))) (fun st_91 k_92 => [.va (toD (script_86 : Scr)), .va (toD (first_87 : Int)), .va (toD (many_88 : Int)), .ol (List.map toD (st_91 : (List Int))), .va (toD (k_92 : Int)), .un, .un]) (fun _ _ => rfl) (fun st_91 k_92 => (sb_asg (em_call2 (em_var 0 script_86 rfl) (em_I0 (em_var 1 first_87 rfl) (em_var 4 k_92 rfl))) (ag_name 5) (fun cell_here_97 => [.va (toD (script_86 : Scr)), .va (toD (first_87 : Int)), .va (toD (many_88 : Int)), .ol (List.map toD (st_91 : (List Int))), .va (toD (k_92 : Int)), .va (toD (cell_here_97 : Int)), .un]) (fun _ => rfl) (fun cell_here_97 => (sb_asg (em_I0 (em_int 1) (em_mod (em_var 5 cell_here_97 rfl) (em_int 6))) (ag_name 6) (fun length_102 => [.va (toD (script_86 : Scr)), .va (toD (first_87 : Int)), .va (toD (many_88 : Int)), .ol (List.map toD (st_91 : (List Int))), .va (toD (k_92 : Int)), .va (toD (cell_here_97 : Int)), .va (toD (length_102 : Int))]) (fun _ => rfl) (fun length_102 => (sb_seq (T := Int) (enc1 := fun st_109 => [.va (toD (script_86 : Scr)), .va (toD (first_87 : Int)), .va (toD (many_88 : Int)), .ol (List.map toD (st_91 : (List Int))), .va (toD (k_92 : Int)), .va (toD (cell_here_97 : Int)), .va (toD (st_109 : Int))]) (sb_ifL (eb_test (em_eqI (em_mod (em_var 5 cell_here_97 rfl) (em_int 7)) (em_int 3))) (sb_one (sb_asg (em_int 0) (ag_name 6) (fun length_110 => [.va (toD (script_86 : Scr)), .va (toD (first_87 : Int)), .va (toD (many_88 : Int)), .ol (List.map toD (st_91 : (List Int))), .va (toD (k_92 : Int)), .va (toD (cell_here_97 : Int)), .va (toD (length_110 : Int))]) (fun _ => rfl) (fun length_110 => (sb_next length_110 (.same (.same (.same (.same (.same (.same (.same .nil))))))))))) (sb_next length_102 (.same (.same (.same (.same (.same (.same (.same .nil))))))))) (fun st_109 => (sb_seq (T := Int) (enc1 := fun st_123 => [.va (toD (script_86 : Scr)), .va (toD (first_87 : Int)), .va (toD (many_88 : Int)), .ol (List.map toD (st_91 : (List Int))), .va (toD (k_92 : Int)), .va (toD (cell_here_97 : Int)), .va (toD (st_123 : Int))]) (sb_ifL (eb_test (em_eqI (em_mod (em_var 5 cell_here_97 rfl) (em_int 41)) (em_int 5))) (sb_one (sb_asg (em_I0 (em_int 1) (em_mod (em_div (em_var 5 cell_here_97 rfl) (em_int 41)) (em_int 20))) (ag_name 6) (fun length_130 => [.va (toD (script_86 : Scr)), .va (toD (first_87 : Int)), .va (toD (many_88 : Int)), .ol (List.map toD (st_91 : (List Int))), .va (toD (k_92 : Int)), .va (toD (cell_here_97 : Int)), .va (toD (length_130 : Int))]) (fun _ => rfl) (fun length_130 => (sb_next length_130 (.same (.same (.same (.same (.same (.same (.same .nil))))))))))) (sb_next st_109 (.same (.same (.same (.same (.same (.same (.same .nil))))))))) (fun st_123 => (sb_one (sb_app (i := 3) (xs := st_91) rfl (em_var 6 st_123 rfl) (fun lengths_here_131 => [.va (toD (script_86 : Scr)), .va (toD (first_87 : Int)), .va (toD (many_88 : Int)), .ol (List.map toD (lengths_here_131 : (List Int))), .va (toD (k_92 : Int)), .va (toD (cell_here_97 : Int)), .va (toD (st_123 : Int))]) (fun _ => rfl) (fun lengths_here_131 => (sb_next lengths_here_131 (.same (.same (.same (.same (.drop (.drop (.drop .nil)))))))))))))))))))) (fun st_91 => (sb_frz (i := 3) rfl ([.va (toD (script_86 : Scr)), .va (toD (first_87 : Int)), .va (toD (many_88 : Int)), .va (toD (st_91 : (List Int))), .un, .un, .un]) rfl (sb_ret (em_var 3 st_91 rfl)))))))
theorem sc__law_room : FnScope ["_law_lengths_here", "_law_left", "_law_length"] ["_law_lengths_here"] (defScope s__law_room) := ⟨rfl, rfl, rfl, by decide +kernel, rfl, by decide +kernel, by decide +kernel⟩
theorem ok__law_room : FnOk P w cf.K mg base CX0 1 T.a__law_room T.d__law_room ["_law_lengths_here"] (SpP cf 1 (sp1 f__law_room)) := by
  refine fn1 (k := 0) (S := Unit) (enc := fun _ => [.un, .un, .un]) T.F__law_room sc__law_room rfl b__law_room (fun lengths_here_135 => [.va (toD (lengths_here_135 : (List Int))), .un, .un]) (fun _ => rfl) fun cdv A outer s H E hr => ?_
  refine ⟨_, (pss_cons (ps_set (i := 1) sc__law_room.nd rfl (.inl rfl) pe_int) (pss_cons (ps_for PassesOwn.never rfl (listI cf.K rfl (pv 0)) (pg_name (i := 2) sc__law_room.nd rfl (.inl rfl)) (pss_one (ps_if (pt_cmpR op_gt (pv 2) pe_int (nomark _)) (pss_one (ps_set (i := 1) sc__law_room.nd rfl (.inl rfl) (pe_op op_sub (pv 1) (pe_op op_fdivW pe_int (pe_op op_shlW pe_int (pv 2)))))) pss_nil))) (pss_one (ps_ret (pv 1))))), fun lengths_here_135 => ?_⟩
  unfold b__law_room
  exact (sb_asg (em_int 1048576) (ag_name 1) (fun left_136 => [.va (toD (lengths_here_135 : (List Int))), .va (toD (left_136 : Int)), .un]) (fun _ => rfl) (fun left_136 => (sb_for (T := Int) (encL := fun st_137 => [.va (toD (lengths_here_135 : (List Int))), .va (toD (st_137 : Int)), .un]) (ig_list (EM.toZ (em_var 0 lengths_here_135 rfl))) (ag_name 2) left_136 (.same (.same (.same .nil))) (fun st_137 length_138 => [.va (toD (lengths_here_135 : (List Int))), .va (toD (st_137 : Int)), .va (toD (length_138 : Int))]) (fun _ _ => rfl) (fun st_137 length_138 => (sb_ifL (eb_test (em_B0 (em_var 2 length_138 rfl) (em_int 0))) (sb_one (sb_asg (em_I0 (em_var 1 st_137 rfl) (em_div (em_int 1048576) (em_shl (em_int 1) (em_var 2 length_138 rfl)))) (ag_name 1) (fun left_148 => [.va (toD (lengths_here_135 : (List Int))), .va (toD (left_148 : Int)), .va (toD (length_138 : Int))]) (fun _ => rfl) (fun left_148 => (sb_next left_148 (.same (.same (.drop .nil))))))) (sb_next st_137 (.same (.same (.drop .nil)))))) (fun st_137 => (sb_ret (em_var 1 st_137 rfl))))))
theorem sc__law_fitting : FnScope ["_law_lengths_here", "_law_fitted", "_law_left", "_law_length", "_law_turn"] ["_law_lengths_here"] (defScope s__law_fitting) := ⟨rfl, rfl, rfl, by decide +kernel, rfl, by decide +kernel, by decide +kernel⟩
theorem ok__law_fitting : FnOk P w cf.K mg base CX0 1 T.a__law_fitting T.d__law_fitting ["_law_lengths_here"] (SpP cf 1 (sp1 f__law_fitting)) := by
  refine fn1 (k := 0) (S := Unit) (enc := fun _ => [.un, .un, .un, .un, .un]) T.F__law_fitting sc__law_fitting rfl b__law_fitting (fun lengths_here_151 => [.va (toD (lengths_here_151 : (List Int))), .un, .un, .un, .un]) (fun _ => rfl) fun cdv A outer s H E hr => ?_
  refine ⟨_, (pss_cons (ps_set (i := 1) sc__law_fitting.nd rfl (.inl rfl) (pe_lst pa_nil)) (pss_cons (ps_set (i := 2) sc__law_fitting.nd rfl (.inl rfl) pe_int) (pss_cons (ps_for PassesOwn.never rfl (listI cf.K rfl (pv 0)) (pg_name (i := 3) sc__law_fitting.nd rfl (.inl rfl)) (pss_cons (ps_for PassesOwn.never rfl (pi_range1 (by rfl) T.n_range (pa_cons pe_int pa_nil)) (pg_name (i := 4) sc__law_fitting.nd rfl (.inl rfl)) (pss_one (ps_if (PW.pt (pw_and (pt_chain op_lt op_lt pe_int (pv 3) pe_int) (pw_and1 (pt_cmpR op_gt (pe_op op_fdivW pe_int (pe_op op_shlW pe_int (pv 3))) (pv 2) (nomark _))))) (pss_one (ps_set (i := 3) sc__law_fitting.nd rfl (.inl rfl) (pe_op op_add (pv 3) pe_int))) pss_nil))) (pss_cons (ps_if (PW.pt (pw_and (pt_cmpR op_gt (pv 3) pe_int (nomark _)) (pw_and1 (pt_cmpR op_gt (pe_op op_fdivW pe_int (pe_op op_shlW pe_int (pv 3))) (pv 2) (nomark _))))) (pss_one (ps_set (i := 3) sc__law_fitting.nd rfl (.inl rfl) pe_int)) pss_nil) (pss_cons (ps_if (pt_cmpR op_gt (pv 3) pe_int (nomark _)) (pss_one (ps_set (i := 2) sc__law_fitting.nd rfl (.inl rfl) (pe_op op_sub (pv 2) (pe_op op_fdivW pe_int (pe_op op_shlW pe_int (pv 3)))))) pss_nil) (pss_one (ps_expr (pe_bm PySem.F.plainAttrs_list PySem.F.slot_list_append PySem.F.type_list_append mt_append (pv 1) (pa_cons (pv 3) pa_nil)))))))) (pss_cons (ps_if (pt_cmpR op_eq (pe_callB (maxK cf.K rfl rfl) (by rfl) T.n_max (by decide +kernel) (pa_cons (pv 1) pa_nil)) pe_int (nomark _)) (pss_one (ps_asg pe_int (pg_sub (pv 1) pe_int set_list))) pss_nil) (pss_one (ps_ret (pv 1))))))), fun lengths_here_151 => ?_⟩
  unfold b__law_fitting
  exact (sb_asgO (ef_lst (eas_nil (α := Int))) (fun fitted_152 => [.va (toD (lengths_here_151 : (List Int))), .ol (List.map toD (fitted_152 : (List Int))), .un, .un, .un]) (fun _ => rfl) (fun fitted_152 => (sb_asg (em_int 1048576) (ag_name 2) (fun left_153 => [.va (toD (lengths_here_151 : (List Int))), .ol (List.map toD (fitted_152 : (List Int))), .va (toD (left_153 : Int)), .un, .un]) (fun _ => rfl) (fun left_153 => (sb_for (T := ((List Int) × Int)) (encL := fun st_154 => [.va (toD (lengths_here_151 : (List Int))), .ol (List.map toD (st_154.1 : (List Int))), .va (toD (st_154.2 : Int)), .un, .un]) (ig_list (EM.toZ (em_var 0 lengths_here_151 rfl))) (ag_name 3) (fitted_152, left_153) (.same (.same (.same (.same (.same .nil))))) (fun st_154 length_155 => [.va (toD (lengths_here_151 : (List Int))), .ol (List.map toD (st_154.1 : (List Int))), .va (toD (st_154.2 : Int)), .va (toD (length_155 : Int)), .un]) (fun _ _ => rfl) (fun st_154 length_155 => (sb_for (T := Int) (encL := fun st_157 => [.va (toD (lengths_here_151 : (List Int))), .ol (List.map toD (st_154.1 : (List Int))), .va (toD (st_154.2 : Int)), .va (toD (st_157 : Int)), .un]) (ig_range1 (em_int 20)) (ag_name 4) length_155 (.same (.same (.same (.same (.same .nil))))) (fun st_157 turn_158 => [.va (toD (lengths_here_151 : (List Int))), .ol (List.map toD (st_154.1 : (List Int))), .va (toD (st_154.2 : Int)), .va (toD (st_157 : Int)), .va (toD (turn_158 : Int))]) (fun _ _ => rfl) (fun st_157 turn_158 => (sb_ifL (eb_and (eb_test (em_chain (em_int 0) (em_var 3 st_157 rfl) (em_int 20))) (eb_test (em_B0 (em_div (em_int 1048576) (em_shl (em_int 1) (em_var 3 st_157 rfl))) (em_var 2 st_154.2 rfl)))) (sb_one (sb_asg (em_I0 (em_var 3 st_157 rfl) (em_int 1)) (ag_name 3) (fun length_172 => [.va (toD (lengths_here_151 : (List Int))), .ol (List.map toD (st_154.1 : (List Int))), .va (toD (st_154.2 : Int)), .va (toD (length_172 : Int)), .va (toD (turn_158 : Int))]) (fun _ => rfl) (fun length_172 => (sb_next length_172 (.same (.same (.same (.same (.drop .nil))))))))) (sb_next st_157 (.same (.same (.same (.same (.drop .nil)))))))) (fun st_157 => (sb_seq (T := Int) (enc1 := fun st_184 => [.va (toD (lengths_here_151 : (List Int))), .ol (List.map toD (st_154.1 : (List Int))), .va (toD (st_154.2 : Int)), .va (toD (st_184 : Int)), .un]) (sb_ifL (eb_and (eb_test (em_B0 (em_var 3 st_157 rfl) (em_int 0))) (eb_test (em_B0 (em_div (em_int 1048576) (em_shl (em_int 1) (em_var 3 st_157 rfl))) (em_var 2 st_154.2 rfl)))) (sb_one (sb_asg (em_int 0) (ag_name 3) (fun length_185 => [.va (toD (lengths_here_151 : (List Int))), .ol (List.map toD (st_154.1 : (List Int))), .va (toD (st_154.2 : Int)), .va (toD (length_185 : Int)), .un]) (fun _ => rfl) (fun length_185 => (sb_next length_185 (.same (.same (.same (.same (.same .nil))))))))) (sb_next st_157 (.same (.same (.same (.same (.same .nil))))))) (fun st_184 => (sb_seq (T := Int) (enc1 := fun st_196 => [.va (toD (lengths_here_151 : (List Int))), .ol (List.map toD (st_154.1 : (List Int))), .va (toD (st_196 : Int)), .va (toD (st_184 : Int)), .un]) (sb_ifL (eb_test (em_B0 (em_var 3 st_184 rfl) (em_int 0))) (sb_one (sb_asg (em_I0 (em_var 2 st_154.2 rfl) (em_div (em_int 1048576) (em_shl (em_int 1) (em_var 3 st_184 rfl)))) (ag_name 2) (fun left_203 => [.va (toD (lengths_here_151 : (List Int))), .ol (List.map toD (st_154.1 : (List Int))), .va (toD (left_203 : Int)), .va (toD (st_184 : Int)), .un]) (fun _ => rfl) (fun left_203 => (sb_next left_203 (.same (.same (.same (.same (.same .nil))))))))) (sb_next st_154.2 (.same (.same (.same (.same (.same .nil))))))) (fun st_196 => (sb_one (sb_app (i := 1) (xs := st_154.1) rfl (em_var 3 st_184 rfl) (fun fitted_204 => [.va (toD (lengths_here_151 : (List Int))), .ol (List.map toD (fitted_204 : (List Int))), .va (toD (st_196 : Int)), .va (toD (st_184 : Int)), .un]) (fun _ => rfl) (fun fitted_204 => (sb_next (fitted_204, st_196) (.same (.same (.same (.drop (.same .nil)))))))))))))))) (fun st_154 => (sb_seq (T := (List Int)) (enc1 := fun st_213 => [.va (toD (lengths_here_151 : (List Int))), .ol (List.map toD (st_213 : (List Int))), .va (toD (st_154.2 : Int)), .un, .un]) (sb_ifL (eb_test (em_eqI (em_max (EL.toS (el_own 1 st_154.1 rfl))) (em_int 0))) (sb_one (sb_setL (i := 1) (xs := st_154.1) rfl (em_int 3) (em_int 0) (fun fitted_214 => [.va (toD (lengths_here_151 : (List Int))), .ol (List.map toD (fitted_214 : (List Int))), .va (toD (st_154.2 : Int)), .un, .un]) (fun _ => rfl) (fun fitted_214 => (sb_next fitted_214 (.same (.same (.same (.same (.same .nil))))))))) (sb_next st_154.1 (.same (.same (.same (.same (.same .nil))))))) (fun st_213 => (sb_frz (i := 1) rfl ([.va (toD (lengths_here_151 : (List Int))), .va (toD (st_213 : (List Int))), .va (toD (st_154.2 : Int)), .un, .un]) rfl (sb_ret (em_var 1 st_213 rfl)))))))))))
theorem sc__law_words : FnScope ["_law_lengths_here", "_law_table", "_law_value", "_law_width", "_law_length", "_law_k", "_law_j"] ["_law_lengths_here"] (defScope s__law_words) := ⟨rfl, rfl, rfl, by decide +kernel, rfl, by decide +kernel, by decide +kernel⟩
theorem ok__law_words : FnOk P w cf.K mg base CX0 1 T.a__law_words T.d__law_words ["_law_lengths_here"] (SpP cf 1 (sp1 f__law_words)) := by
  refine fn1 (k := 0) (S := Unit) (enc := fun _ => [.un, .un, .un, .un, .un, .un, .un]) T.F__law_words sc__law_words rfl b__law_words (fun lengths_here_219 => [.va (toD (lengths_here_219 : (List Int))), .un, .un, .un, .un, .un, .un]) (fun _ => rfl) fun cdv A outer s H E hr => ?_
  refine ⟨_, (pss_cons (ps_setLc (i := 1) (own := [("_law_length", 4)]) rfl sc__law_words.nd rfl rfl (sw_true rfl rfl rfl (by decide +kernel)) (listI cf.K rfl (pv 0)) (blkOk_by (own := [("_law_length", 4)]) (N := ["_law_lengths_here", "_law_table", "_law_value", "_law_width", "_law_length", "_law_k", "_law_j"]) (sc := defScope s__law_words) (by decide +kernel)) (fun _ _ _ _ _ => (pg_name (i := 4) sc__law_words.nd rfl (Or.inl rfl) (Or.inr rfl))) (fun _ _ _ _ _ => pts_nil) (fun _ _ _ _ _ => pe_non)) (pss_cons (ps_set (i := 2) sc__law_words.nd rfl (.inr rfl) pe_int) (pss_cons (ps_set (i := 3) sc__law_words.nd rfl (.inl rfl) pe_int) (pss_cons (ps_for PassesOwn.never rfl (pi_range2 (by rfl) T.n_range (pa_cons pe_int (pa_cons pe_int pa_nil))) (pg_name (i := 4) sc__law_words.nd rfl (.inr rfl)) (pss_one (ps_for PassesOwn.never rfl (pi_range1 (by rfl) T.n_range (pa_cons (pe_callB (lenK cf.K rfl) (by rfl) T.n_len (by decide +kernel) (pa_cons (pv 0) pa_nil)) pa_nil)) (pg_name (i := 5) sc__law_words.nd rfl (.inl rfl)) (pss_one (ps_if (pt_cmpR op_eq (pe_ix (ix_listK cf.K rfl) (pv 0) (pv 5) (fun _ _ => rfl)) (pv 4) (nomark _)) (pss_cons (ps_set (i := 2) sc__law_words.nd rfl (.inr rfl) (pe_op op_mulX (pv 2) (pe_op op_shlW pe_int (pe_op op_sub (pv 4) (pv 3))))) (pss_cons (ps_set (i := 3) sc__law_words.nd rfl (.inl rfl) (pv 4)) (pss_cons (ps_asg (pe_lc (own := [("_law_j", 6)]) rfl sc__law_words.nd (pi_range1 (by rfl) T.n_range (pa_cons (pv 4) pa_nil)) (blkOk_by (own := [("_law_j", 6)]) (N := ["_law_lengths_here", "_law_table", "_law_value", "_law_width", "_law_length", "_law_k", "_law_j"]) (sc := defScope s__law_words) (by decide +kernel)) (fun _ _ _ _ _ => (pg_name (i := 6) sc__law_words.nd rfl (Or.inl rfl) (Or.inr rfl))) (fun _ _ _ _ _ => pts_nil) (fun _ _ _ _ _ => (pe_op op_mod (pe_op op_fdivW (pv 2) (pe_op op_shlW pe_int (pe_op op_sub (pe_op op_sub (pv 4) pe_int) (pv 6)))) pe_int))) (pg_sub (pv 1) (pv 5) set_list)) (pss_one (ps_set (i := 2) sc__law_words.nd rfl (.inr rfl) (pe_op op_add (pv 2) pe_int)))))) pss_nil))))) (pss_one (ps_ret (pv 1))))))), fun lengths_here_219 => ?_⟩
  unfold b__law_words
  exact (sb_asgO (ef_lc (vs := [4]) (Gi := fun length_220 => [.va (toD (lengths_here_219 : (List Int))), .un, .un, .un, .va (toD (length_220 : Int)), .un, .un]) (ig_list (EM.toZ (em_var 0 lengths_here_219 rfl))) (ag_name 4) (by decide) (fun _ => rfl) (fun length_220 => eb_yes) (fun length_220 => (em_none (α := (List Int))))) (fun table_221 => [.va (toD (lengths_here_219 : (List Int))), .ol (List.map toD (table_221 : (List (Option (List Int))))), .un, .un, .un, .un, .un]) (fun _ => rfl) (fun table_221 => (sb_asg (em_int 0) (ag_name 2) (fun value_222 => [.va (toD (lengths_here_219 : (List Int))), .ol (List.map toD (table_221 : (List (Option (List Int))))), .va (toD (value_222 : Int)), .un, .un, .un, .un]) (fun _ => rfl) (fun value_222 => (sb_asg (em_int 0) (ag_name 3) (fun width_223 => [.va (toD (lengths_here_219 : (List Int))), .ol (List.map toD (table_221 : (List (Option (List Int))))), .va (toD (value_222 : Int)), .va (toD (width_223 : Int)), .un, .un, .un]) (fun _ => rfl) (fun width_223 => (sb_for (T := ((List (Option (List Int))) × (Int × Int))) (encL := fun st_226 => [.va (toD (lengths_here_219 : (List Int))), .ol (List.map toD (st_226.1 : (List (Option (List Int))))), .va (toD (st_226.2.1 : Int)), .va (toD (st_226.2.2 : Int)), .un, .un, .un]) (ig_range2 (em_int 1) (em_int 21)) (ag_name 4) (table_221, value_222, width_223) (.same (.same (.same (.same (.same (.same (.same .nil))))))) (fun st_226 length_227 => [.va (toD (lengths_here_219 : (List Int))), .ol (List.map toD (st_226.1 : (List (Option (List Int))))), .va (toD (st_226.2.1 : Int)), .va (toD (st_226.2.2 : Int)), .va (toD (length_227 : Int)), .un, .un]) (fun _ _ => rfl) (fun st_226 length_227 => (sb_one (sb_for (T := ((List (Option (List Int))) × (Int × Int))) (encL := fun st_230 => [.va (toD (lengths_here_219 : (List Int))), .ol (List.map toD (st_230.1 : (List (Option (List Int))))), .va (toD (st_230.2.1 : Int)), .va (toD (st_230.2.2 : Int)), .va (toD (length_227 : Int)), .un, .un]) (ig_range1 (em_len (EM.toS (em_var 0 lengths_here_219 rfl)))) (ag_name 5) (st_226.1, st_226.2.1, st_226.2.2) (.same (.same (.same (.same (.same (.same (.same .nil))))))) (fun st_230 k_231 => [.va (toD (lengths_here_219 : (List Int))), .ol (List.map toD (st_230.1 : (List (Option (List Int))))), .va (toD (st_230.2.1 : Int)), .va (toD (st_230.2.2 : Int)), .va (toD (length_227 : Int)), .va (toD (k_231 : Int)), .un]) (fun _ _ => rfl) (fun st_230 k_231 => (sb_ifL (eb_test (em_eqI (em_ixL (EM.toS (em_var 0 lengths_here_219 rfl)) (em_var 5 k_231 rfl)) (em_var 4 length_227 rfl))) (sb_asg (em_mul (em_var 2 st_230.2.1 rfl) (em_shl (em_int 1) (em_I0 (em_var 4 length_227 rfl) (em_var 3 st_230.2.2 rfl)))) (ag_name 2) (fun value_243 => [.va (toD (lengths_here_219 : (List Int))), .ol (List.map toD (st_230.1 : (List (Option (List Int))))), .va (toD (value_243 : Int)), .va (toD (st_230.2.2 : Int)), .va (toD (length_227 : Int)), .va (toD (k_231 : Int)), .un]) (fun _ => rfl) (fun value_243 => (sb_asg (em_var 4 length_227 rfl) (ag_name 3) (fun width_244 => [.va (toD (lengths_here_219 : (List Int))), .ol (List.map toD (st_230.1 : (List (Option (List Int))))), .va (toD (value_243 : Int)), .va (toD (width_244 : Int)), .va (toD (length_227 : Int)), .va (toD (k_231 : Int)), .un]) (fun _ => rfl) (fun width_244 => (sb_setL (i := 1) (xs := st_230.1) rfl (EM.just (EF.toM (ef_lc (vs := [6]) (Gi := fun j_246 => [.va (toD (lengths_here_219 : (List Int))), .ol (List.map toD (st_230.1 : (List (Option (List Int))))), .va (toD (value_243 : Int)), .va (toD (width_244 : Int)), .va (toD (length_227 : Int)), .va (toD (k_231 : Int)), .va (toD (j_246 : Int))]) (ig_range1 (em_var 4 length_227 rfl)) (ag_name 6) (by decide) (fun _ => rfl) (fun j_246 => eb_yes) (fun j_246 => (em_mod (em_div (em_var 2 value_243 rfl) (em_shl (em_int 1) (em_I0 (em_I0 (em_var 4 length_227 rfl) (em_int 1)) (em_var 6 j_246 rfl)))) (em_int 2)))))) (em_var 5 k_231 rfl) (fun table_258 => [.va (toD (lengths_here_219 : (List Int))), .ol (List.map toD (table_258 : (List (Option (List Int))))), .va (toD (value_243 : Int)), .va (toD (width_244 : Int)), .va (toD (length_227 : Int)), .va (toD (k_231 : Int)), .un]) (fun _ => rfl) (fun table_258 => (sb_one (sb_asg (em_I0 (em_var 2 value_243 rfl) (em_int 1)) (ag_name 2) (fun value_261 => [.va (toD (lengths_here_219 : (List Int))), .ol (List.map toD (table_258 : (List (Option (List Int))))), .va (toD (value_261 : Int)), .va (toD (width_244 : Int)), .va (toD (length_227 : Int)), .va (toD (k_231 : Int)), .un]) (fun _ => rfl) (fun value_261 => (sb_next (table_258, value_261, width_244) (.same (.same (.same (.same (.same (.drop (.same .nil))))))))))))))))) (sb_next (st_230.1, st_230.2.1, st_230.2.2) (.same (.same (.same (.same (.same (.drop (.same .nil)))))))))) (fun st_230 => (sb_next (st_230.1, st_230.2.1, st_230.2.2) (.same (.same (.same (.same (.drop (.same (.same .nil)))))))))))) (fun st_226 => (sb_frz (i := 1) rfl ([.va (toD (lengths_here_219 : (List Int))), .va (toD (st_226.1 : (List (Option (List Int))))), .va (toD (st_226.2.1 : Int)), .va (toD (st_226.2.2 : Int)), .un, .un, .un]) rfl (sb_ret (em_var 1 st_226.1 rfl)))))))))))
theorem sc_law : FnScope ["_law_script", "_law_many", "_law_lengths_here", "_law_told", "_law_given", "_law_due", "_law_found", "_law_a", "_law_b"] ["_law_script"] (defScope s_law) := ⟨rfl, rfl, rfl, by decide +kernel, rfl, by decide +kernel, by decide +kernel⟩
theorem ok_law : FnOk P w cf.K mg base CX0 3 T.a_law T.d_law ["_law_script"] (SpP cf 1 (sp1 f_law)) := by
  refine fn1 (k := 2) (S := Unit) (enc := fun _ => [.un, .un, .un, .un, .un, .un, .un, .un, .un]) T.F_law sc_law rfl b_law (fun script_267 => [.va (toD (script_267 : Scr)), .un, .un, .un, .un, .un, .un, .un, .un]) (fun _ => rfl) fun cdv A outer s H E hr => ?_
  refine ⟨_, (pss_cons (ps_set (i := 1) sc_law.nd rfl (.inl rfl) (pe_op op_add pe_int (pe_op op_mod (pe_call (ok__law_cell T) (hr.mono (by decide)) (by rfl) T.g__law_cell T.F__law_cell.kp T.b__law_cell .nil pass0 (pa_cons (pv 0) (pa_cons pe_int pa_nil))) pe_int))) (pss_cons (ps_set (i := 2) sc_law.nd rfl (.inl rfl) (pe_call (ok__law_lengths T) (hr.mono (by decide)) (by rfl) T.g__law_lengths T.F__law_lengths.kp T.b__law_lengths .nil pass0 (pa_cons (pv 0) (pa_cons pe_int (pa_cons (pv 1) pa_nil))))) (pss_cons (ps_set (i := 3) sc_law.nd rfl (.inl rfl) (pe_call (ok_is_code T) (hr.mono (by decide)) (by rfl) T.g_is_code T.F_is_code.kp T.b_is_code .nil pass0 (pa_cons (pe_callTy (listK cf.K rfl) (by rfl) T.n_list (by decide +kernel) (pa_cons (pv 2) pa_nil)) pa_nil))) (pss_cons (ps_if (PW.pt (pw_or (pt_cmpR op_ne (pe_call (ok_room T) (hr.mono (by decide)) (by rfl) T.g_room T.F_room.kp T.b_room .nil pass0 (pa_cons (pe_callTy (listK cf.K rfl) (by rfl) T.n_list (by decide +kernel) (pa_cons (pv 2) pa_nil)) pa_nil)) (pe_call (ok__law_room T) (hr.mono (by decide)) (by rfl) T.g__law_room T.F__law_room.kp T.b__law_room .nil pass0 (pa_cons (pv 2) pa_nil)) (nomark _)) (pw_or1 (pt_not (pt_val (pe_callB (isTyK cf.K rfl) (by rfl) T.n_isinstance (by decide +kernel) (pa_cons (pv 3) (pa_cons (pe_bltn (v := .ty "bool") (by rfl) T.n_bool (by decide +kernel) rfl) pa_nil)))))))) (pss_one (ps_ret pe_bl)) pss_nil) (pss_cons (ps_if (pt_cmpR op_ne (pv 3) (pe_and (pe_cmpR op_ge (pe_call (ok__law_room T) (hr.mono (by decide)) (by rfl) T.g__law_room T.F__law_room.kp T.b__law_room .nil pass0 (pa_cons (pv 2) pa_nil)) pe_int (nomark _)) (pe_one (pe_cmpR op_gt (pe_callB (maxK cf.K rfl rfl) (by rfl) T.n_max (by decide +kernel) (pa_cons (pv 2) pa_nil)) pe_int (nomark _)))) (nomark _)) (pss_one (ps_ret pe_bl)) pss_nil) (pss_cons (ps_set (i := 2) sc_law.nd rfl (.inl rfl) (pe_call (ok__law_fitting T) (hr.mono (by decide)) (by rfl) T.g__law_fitting T.F__law_fitting.kp T.b__law_fitting .nil pass0 (pa_cons (pv 2) pa_nil))) (pss_cons (ps_set (i := 4) sc_law.nd rfl (.inl rfl) (pe_callTy (listK cf.K rfl) (by rfl) T.n_list (by decide +kernel) (pa_cons (pv 2) pa_nil))) (pss_cons (ps_if (PW.pt (pw_or (pt_not (pt_val (pe_call (ok_is_code T) (hr.mono (by decide)) (by rfl) T.g_is_code T.F_is_code.kp T.b_is_code .nil pass0 (pa_cons (pv 4) pa_nil)))) (pw_or1 (pt_cmpR op_ne (pe_call (ok_room T) (hr.mono (by decide)) (by rfl) T.g_room T.F_room.kp T.b_room .nil pass0 (pa_cons (pv 4) pa_nil)) (pe_call (ok__law_room T) (hr.mono (by decide)) (by rfl) T.g__law_room T.F__law_room.kp T.b__law_room .nil pass0 (pa_cons (pv 2) pa_nil)) (nomark _))))) (pss_one (ps_ret pe_bl)) pss_nil) (pss_cons (ps_set (i := 5) sc_law.nd rfl (.inl rfl) (pe_call (ok__law_words T) (hr.mono (by decide)) (by rfl) T.g__law_words T.F__law_words.kp T.b__law_words .nil pass0 (pa_cons (pv 2) pa_nil))) (pss_cons (ps_set (i := 6) sc_law.nd rfl (.inl rfl) (pe_call (ok_words T) (hr.mono (by decide)) (by rfl) T.g_words T.F_words.kp T.b_words .nil pass0 (pa_cons (pv 4) pa_nil))) (pss_cons (ps_if (PW.pt (pw_or (pt_cmpR (neDK cf.K rfl hr.units) (pv 4) (pv 2) (nomark _)) (pw_or (pt_not (pt_val (pe_callB (isTyK cf.K rfl) (by rfl) T.n_isinstance (by decide +kernel) (pa_cons (pv 6) (pa_cons (pe_bltn (v := .ty "list") (by rfl) T.n_list (by decide +kernel) rfl) pa_nil))))) (pw_or1 (pt_cmpR (neDK cf.K rfl hr.units) (pv 6) (pv 5) (nomark _)))))) (pss_one (ps_ret pe_bl)) pss_nil) (pss_cons (ps_for PassesOwn.never rfl (pi_range1 (by rfl) T.n_range (pa_cons (pv 1) pa_nil)) (pg_name (i := 7) sc_law.nd rfl (.inl rfl)) (pss_cons (ps_for PassesOwn.never rfl (pi_range1 (by rfl) T.n_range (pa_cons (pv 1) pa_nil)) (pg_name (i := 8) sc_law.nd rfl (.inl rfl)) (pss_one (ps_if (PW.pt (pw_and (pt_cmpR op_ne (pv 7) (pv 8) (nomark _)) (pw_and (pt_cmpR op_notN (pe_ix (ix_listK cf.K rfl) (pv 5) (pv 7) (fun _ _ => rfl)) pe_non (nomark _)) (pw_and (pt_cmpR op_notN (pe_ix (ix_listK cf.K rfl) (pv 5) (pv 8) (fun _ _ => rfl)) pe_non (nomark _)) (pw_and1 (pt_cmpR (eqDK cf.K rfl hr.units) (pe_slice (sl_listK cf.K rfl) (pe_ix (ix_listK cf.K rfl) (pv 5) (pv 8) (fun _ _ => rfl)) po_none (po_some (pe_callB (lenK cf.K rfl) (by rfl) T.n_len (by decide +kernel) (pa_cons (pe_ix (ix_listK cf.K rfl) (pv 5) (pv 7) (fun _ _ => rfl)) pa_nil)))) (pe_ix (ix_listK cf.K rfl) (pv 5) (pv 7) (fun _ _ => rfl)) (nomark _))))))) (pss_one (ps_ret pe_bl)) pss_nil))) (pss_one (ps_if (pt_cmpR op_notN (pe_ix (ix_listK cf.K rfl) (pv 6) (pv 7) (fun _ _ => rfl)) pe_non (nomark _)) (pss_one (ps_expr (pe_bm PySem.F.plainAttrs_list PySem.F.slot_list_append PySem.F.type_list_append mt_append (pe_ix (ix_listK cf.K rfl) (pv 6) (pv 7) (fun _ _ => rfl)) (pa_cons pe_int pa_nil)))) pss_nil)))) (pss_one (ps_ret (pe_cmpR (eqDK cf.K rfl hr.units) (pe_call (ok_words T) (hr.mono (by decide)) (by rfl) T.g_words T.F_words.kp T.b_words .nil pass0 (pa_cons (pv 4) pa_nil)) (pv 5) (nomark _)))))))))))))))), fun script_267 => ?_⟩
  unfold b_law
  exact (sb_asg (em_I0 (em_int 1) (em_mod (em_call2 (em_var 0 script_267 rfl) (em_int 0)) (em_int 24))) (ag_name 1) (fun many_274 => [.va (toD (script_267 : Scr)), .va (toD (many_274 : Int)), .un, .un, .un, .un, .un, .un, .un]) (fun _ => rfl) (fun many_274 => (sb_asg (em_call3 (em_var 0 script_267 rfl) (em_int 1) (em_var 1 many_274 rfl)) (ag_name 2) (fun lengths_here_278 => [.va (toD (script_267 : Scr)), .va (toD (many_274 : Int)), .va (toD (lengths_here_278 : (List Int))), .un, .un, .un, .un, .un, .un]) (fun _ => rfl) (fun lengths_here_278 => (sb_asg (em_call1 (EF.toM (ef_list (EM.toS (em_var 2 lengths_here_278 rfl))))) (ag_name 3) (fun told_280 => [.va (toD (script_267 : Scr)), .va (toD (many_274 : Int)), .va (toD (lengths_here_278 : (List Int))), .va (toD (told_280 : Bool)), .un, .un, .un, .un, .un]) (fun _ => rfl) (fun told_280 => (sb_if (eb_or (eb_test (em_neI (em_call1 (EF.toM (ef_list (EM.toS (em_var 2 lengths_here_278 rfl))))) (em_call1 (em_var 2 lengths_here_278 rfl)))) (eb_not (eb_B (em_isT_bool (em_var 3 told_280 rfl))))) (sb_ret2 (em_bl false)) (sb_skip (sb_if (eb_test (em_neB (em_var 3 told_280 rfl) (em_and (em_B0 (em_call1 (em_var 2 lengths_here_278 rfl)) (em_int 0)) (em_B0 (em_max (EM.toS (em_var 2 lengths_here_278 rfl))) (em_int 0))))) (sb_ret2 (em_bl false)) (sb_skip (sb_asg (em_call1 (em_var 2 lengths_here_278 rfl)) (ag_name 2) (fun lengths_here_301 => [.va (toD (script_267 : Scr)), .va (toD (many_274 : Int)), .va (toD (lengths_here_301 : (List Int))), .va (toD (told_280 : Bool)), .un, .un, .un, .un, .un]) (fun _ => rfl) (fun lengths_here_301 => (sb_asg (EF.toM (ef_list (EM.toS (em_var 2 lengths_here_301 rfl)))) (ag_name 4) (fun given_302 => [.va (toD (script_267 : Scr)), .va (toD (many_274 : Int)), .va (toD (lengths_here_301 : (List Int))), .va (toD (told_280 : Bool)), .va (toD (given_302 : (List Int))), .un, .un, .un, .un]) (fun _ => rfl) (fun given_302 => (sb_if (eb_or (eb_not (eb_B (em_call1 (em_var 4 given_302 rfl)))) (eb_test (em_neI (em_call1 (em_var 4 given_302 rfl)) (em_call1 (em_var 2 lengths_here_301 rfl))))) (sb_ret2 (em_bl false)) (sb_skip (sb_asg (em_call1 (em_var 2 lengths_here_301 rfl)) (ag_name 5) (fun due_313 => [.va (toD (script_267 : Scr)), .va (toD (many_274 : Int)), .va (toD (lengths_here_301 : (List Int))), .va (toD (told_280 : Bool)), .va (toD (given_302 : (List Int))), .va (toD (due_313 : (List (Option (List Int))))), .un, .un, .un]) (fun _ => rfl) (fun due_313 => (sb_wl (i := 6) (ja := 7) (j := 4) given_302 rfl rfl (by decide) (by show 6 < 9; decide) (fun found_315 => (eb_or (eb_test (em_neD (EM.toE (em_var 4 given_302 rfl)) (EM.toE (em_var 2 lengths_here_301 rfl)))) (eb_or (eb_not (eb_B (em_isT_list (em_var 6 found_315 rfl)))) (eb_test (em_neD (EM.toE (em_var 6 found_315 rfl)) (EM.toE (em_var 5 due_313 rfl))))))) (fun vP => (ig_range1 (em_var 1 many_274 rfl))) (fun vP a_325 => (sb_one (sb_for (T := Unit) (encL := fun st_327 => [.va (toD (script_267 : Scr)), .va (toD (many_274 : Int)), .va (toD (lengths_here_301 : (List Int))), .va (toD (told_280 : Bool)), .va (toD (given_302 : (List Int))), .va (toD (due_313 : (List (Option (List Int))))), .pv vP, .va (toD (a_325 : Int)), .un]) (ig_range1 (em_var 1 many_274 rfl)) (ag_name 8) () (.same (.same (.same (.same (.same (.same (.same (.same (.same .nil))))))))) (fun st_327 b_328 => [.va (toD (script_267 : Scr)), .va (toD (many_274 : Int)), .va (toD (lengths_here_301 : (List Int))), .va (toD (told_280 : Bool)), .va (toD (given_302 : (List Int))), .va (toD (due_313 : (List (Option (List Int))))), .pv vP, .va (toD (a_325 : Int)), .va (toD (b_328 : Int))]) (fun _ _ => rfl) (fun st_327 b_328 => (sb_ifL (eb_and (eb_test (em_neI (em_var 7 a_325 rfl) (em_var 8 b_328 rfl))) (eb_and (eb_test (em_notN (em_ixL (EM.toS (em_var 5 due_313 rfl)) (em_var 7 a_325 rfl)))) (eb_and (eb_test (em_notN (em_ixL (EM.toS (em_var 5 due_313 rfl)) (em_var 8 b_328 rfl)))) (eb_test (em_eqD (EM.toE (EF.toM (ef_sl (EM.toS (EM.get (em_ixL (EM.toS (em_var 5 due_313 rfl)) (em_var 8 b_328 rfl)))) eo_none (eo_some (em_len (EM.toS (EM.get (em_ixL (EM.toS (em_var 5 due_313 rfl)) (em_var 7 a_325 rfl))))))))) (EM.toE (em_ixL (EM.toS (em_var 5 due_313 rfl)) (em_var 7 a_325 rfl)))))))) (sb_ret (em_bl false)) (sb_next () (.same (.same (.same (.same (.same (.same (.same (.same (.drop .nil)))))))))))) (fun st_327 => (sb_next () (.same (.same (.same (.same (.same (.same (.same (.same (.same .nil)))))))))))))) (fun vP => (sb_ret (em_eqD (EM.toE (em_call1 (em_var 4 given_302 rfl))) (EM.toE (em_var 5 due_313 rfl))))))))))))))))))))))))
end
end Kx

namespace Kx
open PySem PySem.Spec PyProof.Rows L2 Kr
open Enc (toD)
theorem cell_eq (ns : List Int) (k : Int) (hk : 0 ≤ k) : f__law_cell ⟨ns⟩ k = .ok (ns.getD k.toNat 0) := by
  unfold f__law_cell b__law_cell
  simp only [R.ok_bind, R.ok_pu, R.er_bind, R.bad_bind, R.ok_map, finR_rt, seqF_nx, seqF_rt, R.bind_ok, R.bind_bind, decide_eq_true_eq, Bool.not_eq_true', decide_eq_false_iff_not, Bool.false_eq_true, if_true, if_false, ite_nx]
  by_cases h : k < (ns.length : Int)
  · rw [if_pos h, idxR_ok hk h]
    simp only [R.ok_bind, R.ok_pu, R.er_bind, R.bad_bind, R.ok_map, finR_rt, seqF_nx, seqF_rt, R.bind_ok, R.bind_bind, decide_eq_true_eq, Bool.not_eq_true', decide_eq_false_iff_not, Bool.false_eq_true, if_true, if_false, ite_nx]
    rw [List.getD_eq_getElem?_getD, List.getElem?_eq_getElem (by omega)]
    rfl
  · rw [if_neg h]
    simp only [R.ok_bind, R.ok_pu, R.er_bind, R.bad_bind, R.ok_map, finR_rt, seqF_nx, seqF_rt, R.bind_ok, R.bind_bind, decide_eq_true_eq, Bool.not_eq_true', decide_eq_false_iff_not, Bool.false_eq_true, if_true, if_false, ite_nx]
    rw [List.getD_eq_getElem?_getD, List.getElem?_eq_none (by omega)]
    rfl
/-! ### room -/
theorem pw_nat (k : Nat) : ((2 ^ k : Nat) : Int) = 2 ^ k := by simp
theorem pw_le {n m : Nat} (h : n ≤ m) : (2 : Int) ^ n ≤ 2 ^ m := by
  rw [← pw_nat, ← pw_nat]
  exact Int.ofNat_le.mpr (Nat.pow_le_pow_right (by decide) h)
def p2 (l : Int) : Int := 2 ^ (20 - l).toNat
theorem p2_pos (l : Int) : 0 < p2 l := Int.pow_pos (by decide)
theorem p2_le (l : Int) (h : 0 ≤ l) : p2 l ≤ 1048576 := by
  have : (2 : Int) ^ (20 - l).toNat ≤ 2 ^ 20 := pw_le (by omega)
  exact this
theorem pow_lt64 {n : Nat} (h : n ≤ 40) : (1 : Int) * 2 ^ n < 2 ^ 41 := by
  have : (2 : Int) ^ n ≤ 2 ^ 40 := pw_le h
  omega
theorem p2_div (l : Int) (h : 0 ≤ l ∧ l ≤ 20) : (1048576 : Int) / (1 * 2 ^ l.toNat) = p2 l := by
  have e : (1048576 : Int) = p2 l * 2 ^ l.toNat := by
    unfold p2
    rw [← Int.pow_add, show (20 - l).toNat + l.toNat = 20 by omega]
    rfl
  rw [Int.one_mul, e, Int.mul_ediv_cancel _ (Int.ne_of_gt (Int.pow_pos (by decide)))]
def kr (ls : List Int) : Int := ((ls.filter fun l => decide (0 < l)).map p2).sum
theorem kr_nil : kr [] = 0 := rfl
theorem kr_snoc (ls : List Int) (l : Int) : kr (ls ++ [l]) = kr ls + if 0 < l then p2 l else 0 := by
  unfold kr
  rw [List.filter_append, List.map_append, List.sum_append]
  by_cases h : 0 < l
  · rw [List.filter_cons_of_pos (by simpa using h), if_pos h]
    simp
  · rw [List.filter_cons_of_neg (by simpa using h), if_neg h]
    simp
theorem sum_nonneg : ∀ (xs : List Int), (∀ x ∈ xs, 0 ≤ x) → 0 ≤ xs.sum
  | [], _ => Int.le_refl 0
  | x :: r, h => by
    rw [List.sum_cons]
    have h1 := h x (by simp)
    have h2 := sum_nonneg r fun y hy => h y (by simp [hy])
    omega
def Ok20 (ls : List Int) : Prop := ∀ l ∈ ls, 0 ≤ l ∧ l ≤ 20
theorem room_eq (ls : List Int) (h : Ok20 ls) (hn : ls.length ≤ 1000) : f_room ls = .ok (1048576 - kr ls) := by
  unfold f_room b_room
  simp only [R.ok_bind, R.ok_pu, R.er_bind, R.bad_bind, R.ok_map, finR_rt, seqF_nx, seqF_rt, R.bind_ok, R.bind_bind, decide_eq_true_eq, Bool.not_eq_true', decide_eq_false_iff_not, Bool.false_eq_true, if_true, if_false, ite_nx, shlR_ok (show -(2 ^ 64) < (1 : Int) ∧ (1 : Int) < 2 ^ 64 by decide) (show (0 : Int) ≤ 20 ∧ (20 : Int) ≤ 1000000 by decide)]
  rw [lcR_ok (fun l => decide (0 < l)) p2 (by omega) (fun x _ => rfl) fun x hx hp => by
    have := h x hx
    rw [shlR_ok (by decide) (by omega), Int.one_mul]
    rfl]
  simp only [R.ok_bind, R.ok_pu, R.er_bind, R.bad_bind, R.ok_map, finR_rt, seqF_nx, seqF_rt, R.bind_ok, R.bind_bind, decide_eq_true_eq, Bool.not_eq_true', decide_eq_false_iff_not, Bool.false_eq_true, if_true, if_false, ite_nx]
  rfl
theorem law_room_eq (ls : List Int) (h : Ok20 ls) (hn : ls.length ≤ 1000) : f__law_room ls = .ok (1048576 - kr ls) := by
  unfold f__law_room b__law_room
  simp only [R.ok_bind, R.ok_pu, R.er_bind, R.bad_bind, R.ok_map, finR_rt, seqF_nx, seqF_rt, R.bind_ok, R.bind_bind, decide_eq_true_eq, Bool.not_eq_true', decide_eq_false_iff_not, Bool.false_eq_true, if_true, if_false, ite_nx]
  refine forR_elim (P := fun r => finR r = R.ok (1048576 - kr ls)) (fun i (s : Int) => s = 1048576 - kr (ls.take i)) ?_ (fun i hi s hI => ?_) (fun s hI => ?_)
  · rfl
  · have hx := h ls[i] (List.getElem_mem hi)
    refine ⟨1048576 - kr (ls.take (i + 1)), ?_, rfl⟩
    rw [List.take_add_one, List.getElem?_eq_getElem hi]
    show _ = R.ok (Fl.nx (1048576 - kr (ls.take i ++ [ls[i]])))
    rw [kr_snoc, hI]
    by_cases hp : 0 < ls[i]
    · rw [if_pos hp, if_pos hp, shlR_ok (by decide) (by omega), R.ok_bind, divR_ok (by rw [Int.one_mul]; exact Int.pow_pos (by decide)) (by have := pow_lt64 (n := ls[i].toNat) (by omega); omega), p2_div _ hx]
      simp only [R.ok_bind, R.ok_pu, R.er_bind, R.bad_bind, R.ok_map, finR_rt, seqF_nx, seqF_rt, R.bind_ok, R.bind_bind, decide_eq_true_eq, Bool.not_eq_true', decide_eq_false_iff_not, Bool.false_eq_true, if_true, if_false, ite_nx]
      rw [Int.sub_sub]
    · rw [if_neg hp, if_neg hp, Int.add_zero]
  · rw [hI, List.take_length, finR_rt]
theorem maxR_ok {ls : List Int} (h : ls ≠ []) : ∃ m, maxR ls = .ok m ∧ m ∈ ls ∧ ∀ l ∈ ls, l ≤ m := by
  cases ls with
  | nil => exact absurd rfl h
  | cons x r =>
    refine ⟨_, rfl, ?_⟩
    clear h
    have key : ∀ (r : List Int) (x : Int), (r.foldl max x = x ∨ r.foldl max x ∈ r) ∧ x ≤ r.foldl max x ∧ ∀ l ∈ r, l ≤ r.foldl max x := fun r => by
      induction r with
      | nil => exact fun x => ⟨.inl rfl, Int.le_refl _, fun l hl => nomatch hl⟩
      | cons y r ih =>
        intro x
        obtain ⟨h1, h2, h3⟩ := ih (max x y)
        show (r.foldl max (max x y) = x ∨ r.foldl max (max x y) ∈ y :: r) ∧ x ≤ r.foldl max (max x y) ∧ ∀ l ∈ y :: r, l ≤ r.foldl max (max x y)
        refine ⟨?_, by omega, fun l hl => ?_⟩
        · rcases h1 with h1 | h1
          · rw [h1]
            by_cases hxy : x ≤ y
            · rw [Int.max_eq_right hxy]
              exact .inr (by simp)
            · rw [Int.max_eq_left (by omega)]
              exact .inl rfl
          · exact .inr (by simp [h1])
        · rcases List.mem_cons.mp hl with rfl | hl
          · omega
          · exact h3 l hl
    obtain ⟨h1, h2, h3⟩ := key r x
    refine ⟨?_, fun l hl => ?_⟩
    · rcases h1 with h1 | h1
      · rw [h1]
        exact List.mem_cons_self ..
      · exact List.mem_cons_of_mem _ h1
    · rcases List.mem_cons.mp hl with rfl | hl
      · exact h2
      · exact h3 l hl
theorem is_code_eq (ls : List Int) (h : Ok20 ls) (hn : ls.length ≤ 1000) (m : Int) (hm : maxR ls = .ok m) : f_is_code ls = .ok (if 0 ≤ 1048576 - kr ls then decide (0 < m) else false) := by
  unfold f_is_code b_is_code
  simp only [R.ok_bind, R.ok_pu, R.er_bind, R.bad_bind, R.ok_map, finR_rt, seqF_nx, seqF_rt, R.bind_ok, R.bind_bind, decide_eq_true_eq, Bool.not_eq_true', decide_eq_false_iff_not, Bool.false_eq_true, if_true, if_false, ite_nx, room_eq ls h hn, hm, R.ok_pu]
  by_cases e : 0 ≤ 1048576 - kr ls
  · rw [if_pos e, if_pos e, R.ok_bind, finR_rt]
  · rw [if_neg e, if_neg e, R.ok_bind, finR_rt]
theorem lengths_eq (ns : List Int) (many : Nat) (hm : many ≤ 1000) : ∃ ls, f__law_lengths ⟨ns⟩ 1 many = .ok ls ∧ ls.length = many ∧ Ok20 ls := by
  unfold f__law_lengths b__law_lengths
  simp only [R.ok_bind, R.ok_pu, R.er_bind, R.bad_bind, R.ok_map, finR_rt, seqF_nx, seqF_rt, R.bind_ok, R.bind_bind, decide_eq_true_eq, Bool.not_eq_true', decide_eq_false_iff_not, Bool.false_eq_true, if_true, if_false, ite_nx, szR_nil, rng1_nat (show many ≤ 1000000 by omega)]
  refine forR_elim (P := fun r => ∃ ls : List Int, finR r = R.ok ls ∧ ls.length = many ∧ Ok20 ls) (fun i (s : List Int) => s.length = i ∧ Ok20 s) ?_ (fun i hi s hI => ?_) (fun s hI => ?_)
  · exact ⟨rfl, fun w hw => (nomatch hw)⟩
  rotate_left
  · exact ⟨s, finR_rt s, by rw [hI.1, seqI_len], hI.2⟩
  rw [seqI_at hi, cell_eq ns _ (by omega)]
  rw [seqI_len] at hi
  generalize ns.getD (1 + (0 + (i : Int))).toNat 0 = c
  simp only [R.ok_bind, R.ok_pu, R.er_bind, R.bad_bind, R.ok_map, finR_rt, seqF_nx, seqF_rt, R.bind_ok, R.bind_bind, decide_eq_true_eq, Bool.not_eq_true', decide_eq_false_iff_not, Bool.false_eq_true, if_true, if_false, ite_nx, modR_ok (show (0 : Int) < 6 by decide), modR_ok (show (0 : Int) < 7 by decide), modR_ok (show (0 : Int) < 41 by decide), modR_ok (show (0 : Int) < 20 by decide), divR_ok (show (0 : Int) < 41 by decide) (by decide)]
  simp only [szR_snoc (show s.length < 1000000 by omega), R.ok_bind, R.ok_pu, R.er_bind, R.bad_bind, R.ok_map, finR_rt, seqF_nx, seqF_rt, R.bind_ok, R.bind_bind, decide_eq_true_eq, Bool.not_eq_true', decide_eq_false_iff_not, Bool.false_eq_true, if_true, if_false, ite_nx, R.ok_pu]
  refine ⟨_, rfl, by rw [List.length_append, hI.1]; rfl, fun w hw => ?_⟩
  rcases List.mem_append.mp hw with hw | hw
  · exact hI.2 w hw
  · rw [List.mem_singleton.mp hw]
    split
    · omega
    · split <;> omega
theorem kr_nonneg (ls : List Int) : 0 ≤ kr ls := sum_nonneg _ fun x hx => by
  obtain ⟨l, _, rfl⟩ := List.mem_map.mp hx
  exact Int.le_of_lt (p2_pos l)
theorem kr_zero (ls : List Int) (h : ∀ l ∈ ls, l = 0) : kr ls = 0 := by
  unfold kr
  rw [List.filter_eq_nil_iff.mpr fun l hl => by rw [h l hl]; decide]
  rfl
theorem fitting_eq (ls : List Int) (h : Ok20 ls) (hn : ls.length ≤ 1000) (h0 : ls ≠ []) : ∃ fs, f__law_fitting ls = .ok fs ∧ fs.length = ls.length ∧ Ok20 fs ∧ 0 ≤ 1048576 - kr fs ∧ ∃ l ∈ fs, 0 < l := by
  unfold f__law_fitting b__law_fitting
  simp only [R.ok_bind, R.ok_pu, R.er_bind, R.bad_bind, R.ok_map, finR_rt, seqF_nx, seqF_rt, R.bind_ok, R.bind_bind, decide_eq_true_eq, Bool.not_eq_true', decide_eq_false_iff_not, Bool.false_eq_true, if_true, if_false, ite_nx, szR_nil]
  refine forR_elim (P := fun r => ∃ fs : List Int, finR r = R.ok fs ∧ fs.length = ls.length ∧ Ok20 fs ∧ 0 ≤ 1048576 - kr fs ∧ ∃ l ∈ fs, 0 < l) (fun i (s : List Int × Int) => s.1.length = i ∧ Ok20 s.1 ∧ s.2 = 1048576 - kr s.1 ∧ 0 ≤ s.2) ?_ (fun i hi s hI => ?_) (fun s hI => ?_)
  · exact ⟨rfl, fun w hw => (nomatch hw), rfl, by decide⟩
  · have hx := h ls[i] (List.getElem_mem hi)
    obtain ⟨i1, i2, i3, i4⟩ := hI
    have hq : ∀ l : Int, 0 ≤ l → l ≤ 20 → shlR 1 l = .ok (1 * 2 ^ l.toNat) ∧ divR 1048576 (1 * 2 ^ l.toNat) = .ok (p2 l) := fun l h1 h2 => by
      refine ⟨shlR_ok (by decide) (by omega), ?_⟩
      rw [divR_ok (by rw [Int.one_mul]; exact Int.pow_pos (by decide)) (by have := pow_lt64 (n := l.toNat) (by omega); omega), p2_div _ ⟨h1, h2⟩]
    rw [rng1_ok (by decide) (by decide), R.ok_bind]
    refine forR_elim (P := fun r => ∃ s' : List Int × Int, r = R.ok (Fl.nx s') ∧ s'.1.length = i + 1 ∧ Ok20 s'.1 ∧ s'.2 = 1048576 - kr s'.1 ∧ 0 ≤ s'.2) (fun j (l : Int) => 0 ≤ l ∧ l ≤ 20) hx (fun j hj l hl => ?_) (fun l hl => ?_)
    · by_cases c1 : 0 < l
      · by_cases c2 : l < 20
        · simp only [c1, c2, decide_true, if_true, R.ok_bind, (hq l hl.1 hl.2).1, (hq l hl.1 hl.2).2, decide_eq_true_eq]
          refine ⟨_, rfl, ?_⟩
          split <;> omega
        · simp only [c1, c2, decide_true, decide_false, if_true, R.ok_bind, Bool.false_eq_true, if_false]
          exact ⟨_, rfl, hl⟩
      · simp only [c1, decide_false, R.ok_bind, Bool.false_eq_true, if_false]
        exact ⟨_, rfl, hl⟩
    · simp only [(hq l hl.1 hl.2).1, (hq l hl.1 hl.2).2, R.ok_bind]
      by_cases c1 : 0 < l
      · simp only [c1, decide_true, if_true, R.ok_bind, decide_eq_true_eq]
        by_cases c2 : s.2 < p2 l
        · simp only [c2, if_true, R.ok_bind, R.ok_pu, R.er_bind, R.bad_bind, R.ok_map, finR_rt, seqF_nx, seqF_rt, R.bind_ok, R.bind_bind, decide_eq_true_eq, Bool.not_eq_true', decide_eq_false_iff_not, Bool.false_eq_true, if_true, if_false, ite_nx, Int.lt_irrefl, szR_snoc (show s.1.length < 1000000 by omega)]
          refine ⟨_, rfl, by rw [List.length_append, i1]; rfl, fun w hw => ?_, ?_, i4⟩
          · rcases List.mem_append.mp hw with hw | hw
            · exact i2 w hw
            · rw [List.mem_singleton.mp hw]
              decide
          · show s.2 = 1048576 - kr (s.1 ++ [0])
            rw [kr_snoc, i3]
            simp
        · simp only [c2, if_false, R.ok_bind, R.ok_pu, R.er_bind, R.bad_bind, R.ok_map, finR_rt, seqF_nx, seqF_rt, R.bind_ok, R.bind_bind, decide_eq_true_eq, Bool.not_eq_true', decide_eq_false_iff_not, Bool.false_eq_true, if_true, if_false, ite_nx, c1, if_true, (hq l hl.1 hl.2).1, (hq l hl.1 hl.2).2, szR_snoc (show s.1.length < 1000000 by omega)]
          refine ⟨_, rfl, by rw [List.length_append, i1]; rfl, fun w hw => ?_, ?_, ?_⟩
          · rcases List.mem_append.mp hw with hw | hw
            · exact i2 w hw
            · rw [List.mem_singleton.mp hw]
              exact hl
          · show s.2 - p2 l = 1048576 - kr (s.1 ++ [l])
            rw [kr_snoc, i3, if_pos c1]
            omega
          · show 0 ≤ s.2 - p2 l
            omega
      · simp only [c1, decide_false, R.ok_bind, Bool.false_eq_true, if_false, R.ok_bind, R.ok_pu, R.er_bind, R.bad_bind, R.ok_map, finR_rt, seqF_nx, seqF_rt, R.bind_ok, R.bind_bind, decide_eq_true_eq, Bool.not_eq_true', decide_eq_false_iff_not, Bool.false_eq_true, if_true, if_false, ite_nx, szR_snoc (show s.1.length < 1000000 by omega)]
        refine ⟨_, rfl, by rw [List.length_append, i1]; rfl, fun w hw => ?_, ?_, i4⟩
        · rcases List.mem_append.mp hw with hw | hw
          · exact i2 w hw
          · rw [List.mem_singleton.mp hw]
            exact hl
        · show s.2 = 1048576 - kr (s.1 ++ [l])
          rw [kr_snoc, i3, if_neg c1]
          omega
  · obtain ⟨i1, i2, i3, i4⟩ := hI
    have hne : s.1 ≠ [] := fun z => by
      rw [z] at i1
      exact h0 (List.length_eq_zero_iff.mp i1.symm)
    obtain ⟨m, hm, hmm, hml⟩ := maxR_ok hne
    simp only [hm, R.ok_bind, decide_eq_true_eq]
    have h0l : (0 : Int) < s.1.length := by
      have := List.length_pos_iff.mpr hne
      omega
    by_cases c : m = 0
    · simp only [c, if_true, setR_ok (Int.le_refl 0) h0l, R.ok_bind, R.ok_pu, R.er_bind, R.bad_bind, R.ok_map, finR_rt, seqF_nx, seqF_rt, R.bind_ok, R.bind_bind, decide_eq_true_eq, Bool.not_eq_true', decide_eq_false_iff_not, Bool.false_eq_true, if_true, if_false, ite_nx]
      have hz : ∀ l ∈ s.1, l = 0 := fun l hl => by
        have := hml l hl
        have := (i2 l hl).1
        omega
      refine ⟨_, rfl, by rw [List.length_set, i1], fun w hw => ?_, ?_, 3, ?_, by decide⟩
      · rcases List.mem_or_eq_of_mem_set hw with hw | hw
        · exact i2 w hw
        · rw [hw]
          decide
      · cases e : s.1 with
        | nil => exact absurd e hne
        | cons x r =>
          show 0 ≤ 1048576 - kr (3 :: r)
          have : kr (3 :: r) = p2 3 + kr r := by
            unfold kr
            rw [List.filter_cons_of_pos (by decide), List.map_cons, List.sum_cons]
          rw [this, kr_zero r fun l hl => hz l (by rw [e]; simp [hl])]
          decide
      · cases e : s.1 with
        | nil => exact absurd e hne
        | cons x r => simp
    · simp only [c, if_false, R.ok_bind, R.ok_pu, R.er_bind, R.bad_bind, R.ok_map, finR_rt, seqF_nx, seqF_rt, R.bind_ok, R.bind_bind, decide_eq_true_eq, Bool.not_eq_true', decide_eq_false_iff_not, Bool.false_eq_true, if_true, if_false, ite_nx]
      refine ⟨_, rfl, i1, i2, by omega, m, hmm, ?_⟩
      have := (i2 m hmm).1
      omega
end Kx

namespace Kx
open PySem PySem.Spec PyProof.Rows L2 Kr
open Enc (toD)
/-! ### bits -/
def bw (w v : Int) : List Int := (seqI 0 w.toNat).map fun j => v / 2 ^ (w - 1 - j).toNat % 2
theorem and_one (x : Int) (h : 0 ≤ x) : Builtin.bitAnd x 1 = x % 2 := by
  unfold Builtin.bitAnd
  rw [decide_eq_true h, decide_eq_true (show (0 : Int) ≤ 1 by decide)]
  show ((x.toNat &&& (1 : Int).toNat : Nat) : Int) = x % 2
  rw [show (1 : Int).toNat = 1 from rfl, Nat.and_one_is_mod]
  omega
theorem seqC_down (w : Int) (h : 0 ≤ w) : seqC (w - 1) (-1) w.toNat = (seqI 0 w.toNat).map fun j => w - 1 - j := by
  unfold seqC seqI
  rw [List.map_map]
  refine List.map_congr_left fun i _ => ?_
  show w - 1 + (i : Int) * -1 = w - 1 - (0 + (i : Int))
  omega
theorem field_bits_eq (w v : Int) (h : 0 ≤ w ∧ w ≤ 1000) (hv : 0 ≤ v) : f_field_bits w v = .ok (bw w v) := by
  unfold f_field_bits b_field_bits
  simp only [R.ok_bind, R.ok_pu, R.er_bind, R.bad_bind, R.ok_map, finR_rt, seqF_nx, seqF_rt, R.bind_ok, R.bind_bind, decide_eq_true_eq, Bool.not_eq_true', decide_eq_false_iff_not, Bool.false_eq_true, if_true, if_false, ite_nx]
  have e : rng3R (w - 1) (-1) (-1) = .ok ((seqI 0 w.toNat).map fun j => w - 1 - j) := by
    unfold rng3R
    rw [if_pos (by omega), if_pos rfl, ← seqC_down w h.1, show (w - 1 - -1) = w by omega]
  rw [e, R.ok_bind, lcR_map (fun s => v / 2 ^ s.toNat % 2) (by rw [List.length_map, seqI_len]; omega) fun s hs => by
    obtain ⟨j, hj, rfl⟩ := List.mem_map.mp hs
    have := mem_seqI.mp hj
    rw [shrR_ok (by omega), R.ok_bind, and_one _ (Int.ediv_nonneg hv (Int.le_of_lt (Int.pow_pos (by decide))))]]
  simp only [R.ok_bind, R.ok_pu, R.er_bind, R.bad_bind, R.ok_map, finR_rt, seqF_nx, seqF_rt, R.bind_ok, R.bind_bind, decide_eq_true_eq, Bool.not_eq_true', decide_eq_false_iff_not, Bool.false_eq_true, if_true, if_false, ite_nx, List.map_map]
  rfl
theorem bw_len (w v : Int) : (bw w v).length = w.toNat := by
  unfold bw
  rw [List.length_map, seqI_len]
theorem bw_get (w v : Int) (j : Nat) (h : j < (bw w v).length) : (bw w v)[j] = v / 2 ^ (w - 1 - (j : Int)).toNat % 2 := by
  simp only [bw, List.getElem_map]
  rw [seqI_at (by rw [bw_len] at h; rw [seqI_len]; exact h), show (0 : Int) + (j : Int) = j by omega]
theorem bw_bit (w v : Int) : ∀ x ∈ bw w v, x = 0 ∨ x = 1 := fun x hx => by
  unfold bw at hx
  obtain ⟨j, _, rfl⟩ := List.mem_map.mp hx
  omega
theorem bw_snoc (w v : Int) (h : 0 ≤ w) : bw (w + 1) v = bw w (v / 2) ++ [v % 2] := by
  refine List.ext_getElem (by rw [List.length_append, bw_len, bw_len]; simp; omega) fun j h1 h2 => ?_
  rw [bw_get]
  rw [bw_len] at h1
  by_cases hj : j < (bw w (v / 2)).length
  · rw [List.getElem_append_left hj, bw_get]
    rw [bw_len] at hj
    rw [Int.ediv_ediv_of_nonneg (show (0 : Int) ≤ 2 by decide), show (w + 1 - 1 - (j : Int)).toNat = (w - 1 - (j : Int)).toNat + 1 by omega, Int.pow_succ, Int.mul_comm]
  · rw [List.getElem_append_right (by omega)]
    rw [bw_len] at hj
    rw [show (w + 1 - 1 - (j : Int)).toNat = 0 by omega]
    simp
theorem bw_inj : ∀ (n : Nat) (x y : Int), 0 ≤ x → x < 2 ^ n → 0 ≤ y → y < 2 ^ n → bw n x = bw n y → x = y
  | 0, x, y, h1, h2, h3, h4, _ => by
    have : (2 : Int) ^ 0 = 1 := rfl
    omega
  | n + 1, x, y, h1, h2, h3, h4, e => by
    have hp : (2 : Int) ^ (n + 1) = 2 ^ n * 2 := Int.pow_succ ..
    rw [show ((n + 1 : Nat) : Int) = (n : Int) + 1 by omega, bw_snoc _ _ (by omega), bw_snoc _ _ (by omega)] at e
    obtain ⟨e1, e2⟩ := List.append_inj' e rfl
    have := bw_inj n (x / 2) (y / 2) (by omega) (by omega) (by omega) (by omega) e1
    injection e2 with e2
    omega
theorem bw_take (n m : Nat) (v : Int) : (bw ((n + m : Nat) : Int) v).take n = bw n (v / 2 ^ m) := by
  refine List.ext_getElem (by rw [List.length_take, bw_len, bw_len]; omega) fun j h1 h2 => ?_
  rw [List.getElem_take, bw_get, bw_get]
  rw [bw_len] at h2
  rw [Int.ediv_ediv_of_nonneg (Int.le_of_lt (Int.pow_pos (by decide))), ← Int.pow_add, show (((n + m : Nat) : Int) - 1 - (j : Int)).toNat = m + ((n : Int) - 1 - (j : Int)).toNat by omega]
/-! ### the table -/
abbrev Tb := List (Option (List Int))
def tst (s : Tb × Int) (e : Int × Int) : Tb × Int := (s.1.set e.2.toNat (some (bw e.1 (s.2 / p2 e.1))), s.2 + p2 e.1)
def tb (s : Tb × Int) (M : List (Int × Int)) : Tb × Int := M.foldl tst s
theorem tb_snoc (s : Tb × Int) (M : List (Int × Int)) (e : Int × Int) : tb s (M ++ [e]) = tst (tb s M) e := by
  unfold tb
  rw [List.foldl_append]
  rfl
def PM (M : List (Int × Int)) : Int := (M.map fun e => p2 e.1).sum
theorem tb_P : ∀ (M : List (Int × Int)) (s : Tb × Int), (tb s M).2 = s.2 + PM M
  | [], s => (Int.add_zero _).symm
  | e :: r, s => by
    show (tb (tst s e) r).2 = _
    rw [tb_P r]
    show s.2 + p2 e.1 + PM r = s.2 + ((e :: r).map fun e => p2 e.1).sum
    rw [List.map_cons, List.sum_cons, Int.add_assoc]
    rfl
theorem tb_len : ∀ (M : List (Int × Int)) (s : Tb × Int), (tb s M).1.length = s.1.length
  | [], s => rfl
  | e :: r, s => by
    show (tb (tst s e) r).1.length = _
    rw [tb_len r]
    exact List.length_set
/-- every entry of the table -/
theorem tb_get : ∀ (M : List (Int × Int)) (s : Tb × Int) (k : Nat) (w : List Int), (∀ e ∈ M, 0 ≤ e.2) → (tb s M).1[k]? = some (some w) → s.1[k]? = some (some w) ∨ ∃ (i : Nat) (h : i < M.length), (M[i].2 = (k : Int)) ∧ w = bw M[i].1 ((s.2 + PM (M.take i)) / p2 M[i].1)
  | [], s, k, w, _, h => .inl h
  | e :: r, s, k, w, hp, h => by
    rcases tb_get r (tst s e) k w (fun x hx => hp x (by simp [hx])) h with q | ⟨i, hi, q1, q2⟩
    · have q' : (s.1.set e.2.toNat (some (bw e.1 (s.2 / p2 e.1))))[k]? = some (some w) := q
      by_cases hk : e.2.toNat = k
      · refine .inr ⟨0, by simp, ?_, ?_⟩
        · have := hp e (by simp)
          show e.2 = (k : Int)
          omega
        · subst hk
          by_cases hl : e.2.toNat < s.1.length
          · rw [List.getElem?_set_self hl] at q'
            injection q' with q'
            injection q' with q'
            rw [← q']
            show _ = bw e.1 ((s.2 + 0) / p2 e.1)
            rw [Int.add_zero]
          · rw [List.getElem?_eq_none (by rw [List.length_set]; omega)] at q'
            cases q'
      · rw [List.getElem?_set_ne hk] at q'
        exact .inl q'
    · refine .inr ⟨i + 1, by simp; omega, q1, ?_⟩
      rw [q2]
      show bw r[i].1 ((s.2 + p2 e.1 + PM (r.take i)) / p2 r[i].1) = bw r[i].1 ((s.2 + PM ((e :: r).take (i + 1))) / p2 r[i].1)
      rw [List.take_succ_cons]
      show _ = bw r[i].1 ((s.2 + ((e :: r.take i).map fun e => p2 e.1).sum) / p2 r[i].1)
      rw [List.map_cons, List.sum_cons, Int.add_assoc]
      rfl
/-! ### the entries, in order -/
def Ej (ls : List Int) (l : Int) (j : Nat) : List (Int × Int) := ((seqI 0 j).filter fun k => decide (gW ls k = l)).map fun k => (l, k)
def Es (ls : List Int) (i : Nat) : List (Int × Int) := (seqI 1 i).flatMap fun l => Ej ls l ls.length
theorem Ej_succ (ls : List Int) (l : Int) (j : Nat) : Ej ls l (j + 1) = Ej ls l j ++ if gW ls j = l then [(l, (j : Int))] else [] := by
  unfold Ej
  rw [seqI_succ, List.filter_append, List.map_append, show (0 : Int) + (j : Int) = j by omega]
  by_cases h : gW ls j = l
  · rw [if_pos h, List.filter_cons_of_pos (by simpa using h)]
    rfl
  · rw [if_neg h, List.filter_cons_of_neg (by simpa using h)]
    rfl
theorem Es_succ (ls : List Int) (i : Nat) : Es ls (i + 1) = Es ls i ++ Ej ls (1 + (i : Int)) ls.length := by
  unfold Es
  rw [seqI_succ, List.flatMap_append]
  simp
theorem mem_Ej {ls : List Int} {l : Int} {j : Nat} {e : Int × Int} : e ∈ Ej ls l j ↔ e.1 = l ∧ 0 ≤ e.2 ∧ e.2 < (j : Int) ∧ gW ls e.2 = l := by
  unfold Ej
  rw [List.mem_map]
  constructor
  · rintro ⟨k, hk, rfl⟩
    rw [List.mem_filter, mem_seqI, decide_eq_true_eq] at hk
    exact ⟨rfl, hk.1.1, by omega, hk.2⟩
  · rintro ⟨h1, h2, h3, h4⟩
    refine ⟨e.2, ?_, by rw [← h1]⟩
    rw [List.mem_filter, mem_seqI, decide_eq_true_eq]
    exact ⟨⟨h2, by omega⟩, h4⟩
theorem mem_Es {ls : List Int} {i : Nat} {e : Int × Int} : e ∈ Es ls i ↔ 1 ≤ e.1 ∧ e.1 < 1 + (i : Int) ∧ 0 ≤ e.2 ∧ e.2 < (ls.length : Int) ∧ gW ls e.2 = e.1 := by
  unfold Es
  rw [List.mem_flatMap]
  constructor
  · rintro ⟨l, hl, he⟩
    have := mem_seqI.mp hl
    obtain ⟨h1, h2, h3, h4⟩ := mem_Ej.mp he
    exact ⟨by omega, by omega, h2, h3, by rw [h4, h1]⟩
  · rintro ⟨h1, h2, h3, h4, h5⟩
    exact ⟨e.1, mem_seqI.mpr ⟨h1, h2⟩, mem_Ej.mpr ⟨rfl, h3, h4, h5⟩⟩
def lt2 (a b : Int × Int) : Prop := a.1 < b.1 ∨ (a.1 = b.1 ∧ a.2 < b.2)
theorem seqI_lt (lo : Int) (n : Nat) : (seqI lo n).Pairwise (· < ·) := by
  unfold seqI
  exact List.Pairwise.map _ (fun a b (h : a < b) => by omega) List.pairwise_lt_range
theorem Ej_lt (ls : List Int) (l : Int) (j : Nat) : (Ej ls l j).Pairwise lt2 := by
  unfold Ej
  exact List.Pairwise.map _ (fun a b (h : a < b) => .inr ⟨rfl, h⟩) ((seqI_lt 0 j).filter _)
theorem Es_lt (ls : List Int) (i : Nat) : (Es ls i).Pairwise lt2 := by
  unfold Es
  rw [List.pairwise_flatMap]
  refine ⟨fun l _ => Ej_lt ls l _, (seqI_lt 1 i).imp fun {a b} h x hx y hy => ?_⟩
  rw [mem_Ej] at hx hy
  exact .inl (by omega)
theorem sort_eq (ls : List Int) (h : Ok20 ls) : ((((seqI 0 ls.length).filter fun k => decide (0 < gW ls k)).map fun k => (gW ls k, k)).mergeSort leD) = Es ls 20 := by
  have hp : (((seqI 0 ls.length).filter fun k => decide (0 < gW ls k)).map fun k => (gW ls k, k)).Perm (Es ls 20) := by
    refine (List.perm_ext_iff_of_nodup ?_ ?_).mpr fun e => ?_
    · exact List.Pairwise.map _ (fun a b (hab : a ≠ b) q => hab (congrArg Prod.snd q)) ((seqI_nodup 0 ls.length).filter _)
    · refine (Es_lt ls 20).imp fun {a b} q e => ?_
      subst e
      unfold lt2 at q
      omega
    · rw [mem_Es, List.mem_map]
      constructor
      · rintro ⟨k, hk, rfl⟩
        rw [List.mem_filter, mem_seqI, decide_eq_true_eq] at hk
        have h20 : gW ls k ≤ 20 := by
          have e := idxR_gW (ws := ls) (k := k) (by omega) (by omega)
          rw [idxR_ok (by omega) (by omega)] at e
          rw [← R.ok.inj e]
          exact (h _ (List.getElem_mem _)).2
        exact ⟨by show 1 ≤ gW ls k; omega, by show gW ls k < 1 + ((20 : Nat) : Int); omega, hk.1.1, by show k < (ls.length : Int); omega, rfl⟩
      · rintro ⟨h1, h2, h3, h4, h5⟩
        refine ⟨e.2, ?_, by rw [h5]⟩
        rw [List.mem_filter, mem_seqI, decide_eq_true_eq, h5]
        exact ⟨⟨h3, by omega⟩, by omega⟩
  refine List.Perm.eq_of_pairwise (le := fun a b => leD a b = true) (fun a b _ _ h1 h2 => ?_) (List.pairwise_mergeSort leD_trans leD_total _) ((Es_lt ls 20).imp fun {a b} q => ?_) ((List.mergeSort_perm _ _).trans hp)
  · rw [leD_ii, decide_eq_true_eq] at h1 h2
    exact Prod.ext (by omega) (by omega)
  · rw [leD_ii, decide_eq_true_eq]
    unfold lt2 at q
    omega
end Kx

namespace Kx
open PySem PySem.Spec PyProof.Rows L2 Kr
open Enc (toD)
theorem p2_mul (l w : Int) (h : w ≤ l) (h' : l ≤ 20) : 2 ^ (l - w).toNat * p2 l = p2 w := by
  unfold p2
  rw [← Int.pow_add, show (l - w).toNat + (20 - l).toNat = (20 - w).toNat by omega]
/-- one step of value and width -/
theorem stp {v w l p : Int} (hv : v * p2 w = p) (h : w ≤ l) (h' : l ≤ 20) : v * 2 ^ (l - w).toNat = p / p2 l ∧ (v * 2 ^ (l - w).toNat + 1) * p2 l = p + p2 l := by
  have e : v * 2 ^ (l - w).toNat * p2 l = p := by rw [Int.mul_assoc, p2_mul l w h h', hv]
  refine ⟨?_, by rw [Int.add_mul, e, Int.one_mul]⟩
  rw [← e, Int.mul_ediv_cancel _ (Int.ne_of_gt (p2_pos l))]
theorem stp_le {v w p : Int} (hv : v * p2 w = p) (h0 : 0 ≤ v) : v ≤ p := by
  have h1 := p2_pos w
  have : v * 1 ≤ v * p2 w := Int.mul_le_mul_of_nonneg_left (by omega) h0
  omega
theorem PM_snoc (M : List (Int × Int)) (e : Int × Int) : PM (M ++ [e]) = PM M + p2 e.1 := by
  unfold PM
  rw [List.map_append, List.sum_append]
  simp
theorem PM_app (M N : List (Int × Int)) : PM (M ++ N) = PM M + PM N := by
  unfold PM
  rw [List.map_append, List.sum_append]
theorem PM_nonneg (M : List (Int × Int)) : 0 ≤ PM M := sum_nonneg _ fun x hx => by
  obtain ⟨l, _, rfl⟩ := List.mem_map.mp hx
  exact Int.le_of_lt (p2_pos _)
theorem enum_gW (ls : List Int) : enumL ls = (seqI 0 ls.length).map fun k => (k, gW ls k) := by
  refine List.ext_getElem? fun i => ?_
  rw [enumL_get, List.getElem?_map, seqI_get]
  by_cases h : i < ls.length
  · rw [if_pos h, List.getElem?_eq_getElem h]
    show some ((i : Int), ls[i]) = some ((0 : Int) + (i : Int), gW ls (0 + (i : Int)))
    have e := idxR_gW (ws := ls) (k := (i : Int)) (by omega) (by omega)
    rw [idxR_nat h] at e
    rw [show (0 : Int) + (i : Int) = i by omega, R.ok.inj e]
  · rw [if_neg h, List.getElem?_eq_none (by omega)]
    rfl
def T0 (n : Nat) : Tb × Int := (List.replicate n none, 0)
/-- the words of the lengths -/
def wds (ls : List Int) : Tb := (tb (T0 ls.length) (Es ls 20)).1
theorem words_eq (ls : List Int) (h : Ok20 ls) (hn : ls.length ≤ 1000) (h0 : ∃ l ∈ ls, 0 < l) : f_words ls = .ok (wds ls) := by
  have hne : Es ls 20 ≠ [] := by
    obtain ⟨l, hl, hp⟩ := h0
    obtain ⟨k, hk, rfl⟩ := List.getElem_of_mem hl
    have e := idxR_gW (ws := ls) (k := (k : Int)) (by omega) (by omega)
    rw [idxR_nat hk] at e
    have hm : ((ls[k], (k : Int)) : Int × Int) ∈ Es ls 20 := mem_Es.mpr ⟨by show 1 ≤ ls[k]; omega, by have := (h _ hl).2; show ls[k] < 1 + ((20 : Nat) : Int); omega, by show (0 : Int) ≤ k; omega, by show (k : Int) < ls.length; omega, (R.ok.inj e).symm⟩
    intro z
    rw [z] at hm
    cases hm
  have hpos : 0 < (Es ls 20).length := List.length_pos_iff.mpr hne
  have hEn : (Es ls 20).length ≤ ls.length := by
    rw [← sort_eq ls h, List.length_mergeSort, List.length_map]
    exact Nat.le_trans (List.length_filter_le _ _) (by rw [seqI_len]; exact Nat.le_refl _)
  have hrep : repR [(none : Option (List Int))] (ls.length : Int) = .ok (List.replicate ls.length none) := by
    unfold repR
    rw [if_pos (by simp; omega)]
    simp
  unfold f_words b_words
  simp only [R.ok_bind, R.ok_pu, R.er_bind, R.bad_bind, R.ok_map, finR_rt, seqF_nx, seqF_rt, R.bind_ok, R.bind_bind, decide_eq_true_eq, Bool.not_eq_true', decide_eq_false_iff_not, Bool.false_eq_true, if_true, if_false, ite_nx, szR_ok (show [(none : Option (List Int))].length ≤ 1000000 by simp), hrep]
  rw [lcR_ok (ft := fun s : Int × Int => R.ok (decide (0 < s.2))) (fe := fun s : Int × Int => R.ok (s.2, s.1)) (fun s => decide (0 < s.2)) (fun s => (s.2, s.1)) (by unfold enumL; rw [List.length_map, List.length_zipIdx]; omega) (fun x _ => rfl) (fun x _ _ => rfl), R.ok_bind, enum_gW, List.filter_map, List.map_map]
  rw [show ((fun (s : Int × Int) => (s.2, s.1)) ∘ fun k => (k, gW ls k)) = fun k => (gW ls k, k) from rfl, show ((fun (s : Int × Int) => decide (0 < s.2)) ∘ fun k => (k, gW ls k)) = fun k => decide (0 < gW ls k) from rfl]
  rw [sortR_ok (by rw [List.length_map]; exact Nat.le_trans (List.length_filter_le _ _) (by rw [seqI_len]; omega)), sort_eq ls h, R.ok_bind, idxR_ok (Int.le_refl 0) (by omega)]
  simp only [R.ok_bind]
  have hE : ∀ e ∈ Es ls 20, 1 ≤ e.1 ∧ e.1 ≤ 20 ∧ 0 ≤ e.2 ∧ e.2 < (ls.length : Int) := fun e he => by
    have := mem_Es.mp he
    omega
  refine forR_elim (P := fun r => finR r = R.ok (wds ls)) (fun i (s : Tb × Int × Int) => s.1 = (tb (T0 ls.length) ((Es ls 20).take i)).1 ∧ s.2.1 * p2 s.2.2 = PM ((Es ls 20).take i) ∧ 0 ≤ s.2.1 ∧ 1 ≤ s.2.2 ∧ s.2.2 ≤ 20 ∧ (∀ e ∈ (Es ls 20).drop i, s.2.2 ≤ e.1) ∧ PM ((Es ls 20).take i) ≤ 1048576 * i) ?_ (fun i hi s hI => ?_) (fun s hI => ?_)
  · have h1 := hE _ (List.getElem_mem hpos)
    refine ⟨rfl, Int.zero_mul _, Int.le_refl 0, h1.1, h1.2.1, fun e he => ?_, by rw [List.take_zero]; decide⟩
    rw [List.drop_zero] at he
    obtain ⟨k, hk, rfl⟩ := List.getElem_of_mem he
    show (Es ls 20)[0].1 ≤ (Es ls 20)[k].1
    rcases Nat.eq_zero_or_pos k with z | z
    · subst z
      exact Int.le_refl _
    · have := List.pairwise_iff_getElem.mp (Es_lt ls 20) 0 k hpos hk z
      unfold lt2 at this
      omega
  · obtain ⟨i1, i2, i3, i4, i5, i6, i7⟩ := hI
    obtain ⟨e1, e2, e3, e4⟩ := hE _ (List.getElem_mem hi)
    have hw : s.2.2 ≤ (Es ls 20)[i].1 := i6 _ (by rw [List.drop_eq_getElem_cons hi]; exact List.mem_cons_self ..)
    have hv := stp_le i2 i3
    obtain ⟨q1, q2⟩ := stp i2 hw e2
    have hlen : s.1.length = ls.length := by rw [i1, tb_len]; exact List.length_replicate
    have ht : (Es ls 20).take (i + 1) = (Es ls 20).take i ++ [(Es ls 20)[i]] := by rw [List.take_add_one, List.getElem?_eq_getElem hi]; rfl
    have hpn := PM_nonneg ((Es ls 20).take i)
    have hdn : 0 ≤ PM ((Es ls 20).take i) / p2 (Es ls 20)[i].1 := Int.ediv_nonneg hpn (Int.le_of_lt (p2_pos _))
    rw [shlR_ok (by omega) (by omega), R.ok_bind, q1, field_bits_eq _ _ (by omega) hdn, R.ok_pu, R.ok_bind, setR_ok e3 (by rw [hlen]; exact e4)]
    refine ⟨_, rfl, ?_, ?_, ?_, e1, e2, fun e he => ?_, ?_⟩
    · show s.1.set _ _ = _
      rw [ht, tb_snoc]
      unfold tst
      rw [tb_P, ← i1]
      show _ = s.1.set _ (some (bw _ ((0 + PM _) / _)))
      rw [Int.zero_add]
    · show (PM ((Es ls 20).take i) / p2 (Es ls 20)[i].1 + 1) * p2 (Es ls 20)[i].1 = _
      rw [ht, PM_snoc, ← q1, q2]
    · show 0 ≤ PM ((Es ls 20).take i) / p2 (Es ls 20)[i].1 + 1
      omega
    · obtain ⟨k, hk, rfl⟩ := List.getElem_of_mem he
      rw [List.getElem_drop]
      rw [List.length_drop] at hk
      have := List.pairwise_iff_getElem.mp (Es_lt ls 20) i (i + 1 + k) hi (by omega) (by omega)
      unfold lt2 at this
      show (Es ls 20)[i].1 ≤ _
      omega
    · rw [ht, PM_snoc]
      have := p2_le (Es ls 20)[i].1 (by omega)
      omega
  · rw [hI.1, List.take_length, finR_rt]
    rfl
theorem law_words_eq (ls : List Int) (h : Ok20 ls) (hn : ls.length ≤ 1000) : f__law_words ls = .ok (wds ls) := by
  unfold f__law_words b__law_words
  rw [R.ok_bind, lcR_map (fun _ => none) (by omega) (fun x _ => rfl)]
  simp only [R.ok_bind, R.ok_pu, R.er_bind, R.bad_bind, R.ok_map, finR_rt, seqF_nx, seqF_rt, R.bind_ok, R.bind_bind, decide_eq_true_eq, Bool.not_eq_true', decide_eq_false_iff_not, Bool.false_eq_true, if_true, if_false, ite_nx]
  rw [rng2_ok (by decide), R.ok_bind]
  refine forR_elim (P := fun r => finR r = R.ok (wds ls)) (fun i (s : Tb × Int × Int) => s.1 = (tb (T0 ls.length) (Es ls i)).1 ∧ s.2.1 * p2 s.2.2 = PM (Es ls i) ∧ 0 ≤ s.2.1 ∧ 0 ≤ s.2.2 ∧ s.2.2 ≤ i ∧ PM (Es ls i) ≤ 1048576 * (1000 * i)) ?_ (fun i hi s hI => ?_) (fun s hI => ?_)
  · refine ⟨?_, Int.zero_mul _, Int.le_refl 0, Int.le_refl 0, Int.le_refl 0, show (0 : Int) ≤ 1048576 * (1000 * ((0 : Nat) : Int)) by decide⟩
    show ls.map (fun _ => none) = List.replicate ls.length none
    rw [List.map_const']
  · rw [seqI_at hi]
    rw [seqI_len] at hi
    have hi20 : i < 20 := hi
    rw [rng1_nat (show ls.length ≤ 1000000 by omega), R.ok_bind]
    refine forR_elim (P := fun r => ∃ s' : Tb × Int × Int, r = R.ok (Fl.nx s') ∧ s'.1 = (tb (T0 ls.length) (Es ls (i + 1))).1 ∧ s'.2.1 * p2 s'.2.2 = PM (Es ls (i + 1)) ∧ 0 ≤ s'.2.1 ∧ 0 ≤ s'.2.2 ∧ s'.2.2 ≤ ((i + 1 : Nat) : Int) ∧ PM (Es ls (i + 1)) ≤ 1048576 * (1000 * ((i + 1 : Nat) : Int))) (fun j (s : Tb × Int × Int) => s.1 = (tb (T0 ls.length) (Es ls i ++ Ej ls (1 + (i : Int)) j)).1 ∧ s.2.1 * p2 s.2.2 = PM (Es ls i ++ Ej ls (1 + (i : Int)) j) ∧ 0 ≤ s.2.1 ∧ 0 ≤ s.2.2 ∧ s.2.2 ≤ 1 + (i : Int) ∧ PM (Es ls i ++ Ej ls (1 + (i : Int)) j) ≤ 1048576 * (1000 * i + j)) ?_ (fun j hj s hI => ?_) (fun s hI => ?_)
    · obtain ⟨i1, i2, i3, i4, i5, i6⟩ := hI
      have e0 : Ej ls (1 + (i : Int)) 0 = [] := rfl
      rw [e0, List.append_nil]
      exact ⟨i1, i2, i3, i4, by show s.2.2 ≤ _; omega, by omega⟩
    · obtain ⟨i1, i2, i3, i4, i5, i6⟩ := hI
      rw [seqI_at hj]
      rw [seqI_len] at hj
      have e0 : (0 : Int) + (j : Int) = j := by omega
      rw [e0, idxR_gW (by omega) (by omega)]
      rw [Ej_succ]
      by_cases hc : gW ls j = 1 + (i : Int)
      · rw [if_pos hc, ← List.append_assoc]
        have hv := stp_le i2 i3
        obtain ⟨q1, q2⟩ := stp i2 i5 (by omega)
        have hlen : s.1.length = ls.length := by rw [i1, tb_len]; exact List.length_replicate
        have hpn := PM_nonneg (Es ls i ++ Ej ls (1 + (i : Int)) j)
        have h2n : (1 : Int) * 2 ^ (1 + (i : Int) - s.2.2).toNat < 2 ^ 41 := pow_lt64 (by omega)
        have h2p : (0 : Int) < 2 ^ (1 + (i : Int) - s.2.2).toNat := Int.pow_pos (by decide)
        have hdn : 0 ≤ PM (Es ls i ++ Ej ls (1 + (i : Int)) j) / p2 (1 + (i : Int)) := Int.ediv_nonneg hpn (Int.le_of_lt (p2_pos _))
        simp only [R.ok_bind, hc, decide_true, if_true]
        rw [shlR_ok (by decide) (by omega), R.ok_bind, mulR_ok (by omega) (by omega), Int.one_mul, q1]
        have hb : lcR (fun _ : Int => R.ok true) (fun j_246 => (R.bind (shlR 1 (1 + (i : Int) - 1 - j_246)) fun b_254 => R.bind (divR (PM (Es ls i ++ Ej ls (1 + (i : Int)) j) / p2 (1 + (i : Int))) b_254) fun a_255 => modR a_255 2)) (seqI 0 (1 + (i : Int)).toNat) = .ok (bw (1 + (i : Int)) (PM (Es ls i ++ Ej ls (1 + (i : Int)) j) / p2 (1 + (i : Int)))) := by
          rw [lcR_map (fun jj => PM (Es ls i ++ Ej ls (1 + (i : Int)) j) / p2 (1 + (i : Int)) / 2 ^ (1 + (i : Int) - 1 - jj).toNat % 2) (by rw [seqI_len]; omega) fun x hx => by
            have := mem_seqI.mp hx
            have h2n : (1 : Int) * 2 ^ (1 + (i : Int) - 1 - x).toNat < 2 ^ 41 := pow_lt64 (by omega)
            rw [shlR_ok (by decide) (by omega), R.ok_bind, divR_ok (by rw [Int.one_mul]; exact Int.pow_pos (by decide)) (by omega), R.ok_bind, modR_ok (by decide), Int.one_mul]]
          rfl
        rw [rng1_ok (by omega) (by omega), R.ok_bind]
        simp only [hb, R.ok_bind]
        rw [setR_ok (by omega) (by rw [hlen]; omega)]
        refine ⟨_, rfl, ?_, ?_, ?_, ?_, Int.le_refl _, ?_⟩
        · show s.1.set _ _ = _
          rw [tb_snoc]
          unfold tst
          rw [tb_P, ← i1]
          show _ = s.1.set _ (some (bw _ ((0 + PM _) / _)))
          rw [Int.zero_add]
        · show (PM (Es ls i ++ Ej ls (1 + (i : Int)) j) / p2 (1 + (i : Int)) + 1) * p2 (1 + (i : Int)) = _
          rw [PM_snoc, ← q1, q2]
        · show 0 ≤ PM (Es ls i ++ Ej ls (1 + (i : Int)) j) / p2 (1 + (i : Int)) + 1
          omega
        · show 0 ≤ 1 + (i : Int)
          omega
        · rw [PM_snoc]
          have := p2_le (1 + (i : Int)) (by omega)
          show _ + p2 (1 + (i : Int)) ≤ _
          omega
      · rw [if_neg hc, List.append_nil]
        simp only [R.ok_bind, hc, decide_false, Bool.false_eq_true, if_false]
        exact ⟨_, rfl, i1, i2, i3, i4, i5, by omega⟩
    · obtain ⟨i1, i2, i3, i4, i5, i6⟩ := hI
      rw [seqI_len] at i1 i2 i6
      rw [← Es_succ] at i1 i2 i6
      exact ⟨_, rfl, i1, i2, i3, i4, by show s.2.2 ≤ _; omega, by omega⟩
  · have e : (seqI 1 ((21 : Int) - 1).toNat).length = 20 := by rw [seqI_len]; rfl
    rw [e] at hI
    rw [hI.1, finR_rt]
    rfl
end Kx

namespace Kx
open PySem PySem.Spec PyProof.Rows L2 Kr
open Enc (toD)
theorem PM_Es (ls : List Int) (h : Ok20 ls) : PM (Es ls 20) = kr ls := by
  rw [← sort_eq ls h]
  unfold PM
  rw [sum_perm ((List.mergeSort_perm _ leD).map _), List.map_map]
  have e : kr ls = kr ((seqI 0 ls.length).map (gW ls)) := by rw [map_gW]
  rw [e]
  unfold kr
  rw [List.filter_map, List.map_map]
  rfl
theorem wds_len (ls : List Int) : (wds ls).length = ls.length := by
  unfold wds
  rw [tb_len]
  exact List.length_replicate
theorem wds_get (ls : List Int) (k : Nat) (w : List Int) (h : (wds ls)[k]? = some (some w)) : ∃ (i : Nat) (h : i < (Es ls 20).length), (Es ls 20)[i].2 = (k : Int) ∧ w = bw (Es ls 20)[i].1 (PM ((Es ls 20).take i) / p2 (Es ls 20)[i].1) := by
  rcases tb_get (Es ls 20) (T0 ls.length) k w (fun e he => (mem_Es.mp he).2.2.1) h with q | ⟨i, hi, q1, q2⟩
  · have q' : (List.replicate ls.length (none : Option (List Int)))[k]? = some (some w) := q
    rw [List.getElem?_replicate] at q'
    split at q' <;> cases q'
  · refine ⟨i, hi, q1, ?_⟩
    rw [q2]
    show bw _ ((0 + _) / _) = _
    rw [Int.zero_add]
theorem PM_mono (M : List (Int × Int)) {i j : Nat} (h : i ≤ j) : PM (M.take i) ≤ PM (M.take j) := by
  have e : M.take j = M.take i ++ (M.take j).drop i := by
    have := List.take_append_drop i (M.take j)
    rw [List.take_take, Nat.min_eq_left h] at this
    exact this.symm
  rw [e, PM_app]
  have := PM_nonneg ((M.take j).drop i)
  omega
theorem PM_at (M : List (Int × Int)) {i : Nat} (h : i < M.length) : PM (M.take (i + 1)) = PM (M.take i) + p2 M[i].1 := by
  rw [List.take_add_one, List.getElem?_eq_getElem h]
  exact PM_snoc _ _
theorem PM_lt (M : List (Int × Int)) {i j : Nat} (h : i < j) (hj : j < M.length) : PM (M.take i) + p2 (M[i]'(by omega)).1 ≤ PM (M.take j) := by
  rw [← PM_at M (by omega)]
  exact PM_mono M h
theorem PM_end (M : List (Int × Int)) {i : Nat} (h : i < M.length) : PM (M.take i) + p2 M[i].1 ≤ PM M := by
  rw [← PM_at M h]
  have := PM_mono M (show i + 1 ≤ M.length by omega)
  rw [List.take_length] at this
  exact this
theorem div_step {x y l : Int} (h : x + p2 l ≤ y) : x / p2 l + 1 ≤ y / p2 l := by
  have h1 := Int.add_mul_ediv_right x 1 (Int.ne_of_gt (p2_pos l))
  rw [Int.one_mul] at h1
  rw [← h1]
  exact Int.ediv_le_ediv (p2_pos l) h
theorem div_small {x l : Int} (h : x < 1048576) (hl : 0 ≤ l ∧ l ≤ 20) : x / p2 l < 2 ^ l.toNat := by
  refine Int.ediv_lt_of_lt_mul (p2_pos l) ?_
  have : (2 : Int) ^ l.toNat * p2 l = 1048576 := by
    unfold p2
    rw [← Int.pow_add, show l.toNat + (20 - l).toNat = 20 by omega]
    rfl
  omega
/-- no word is the beginning of another one -/
theorem npre (ls : List Int) (hk : 0 ≤ 1048576 - kr ls) (h : Ok20 ls) (a b : Nat) (hab : a ≠ b) (wa wb : List Int) (ha : (wds ls)[a]? = some (some wa)) (hb : (wds ls)[b]? = some (some wb)) : wb.take wa.length ≠ wa := by
  obtain ⟨i, hi, ei, rfl⟩ := wds_get ls a wa ha
  obtain ⟨j, hj, ej, rfl⟩ := wds_get ls b wb hb
  have hij : i ≠ j := fun z => by
    subst z
    omega
  have mi := mem_Es.mp (List.getElem_mem hi)
  have mj := mem_Es.mp (List.getElem_mem hj)
  have ti := PM_end (Es ls 20) hi
  have tj := PM_end (Es ls 20) hj
  rw [PM_Es ls h] at ti tj
  have pi := p2_pos (Es ls 20)[i].1
  have pj := p2_pos (Es ls 20)[j].1
  have ni := PM_nonneg ((Es ls 20).take i)
  have nj := PM_nonneg ((Es ls 20).take j)
  have hlt : ∀ (x y : Nat) (hx : x < (Es ls 20).length) (hy : y < (Es ls 20).length), x < y → (Es ls 20)[x].1 ≤ (Es ls 20)[y].1 := fun x y hx hy hxy => by
    have := List.pairwise_iff_getElem.mp (Es_lt ls 20) x y hx hy hxy
    unfold lt2 at this
    omega
  generalize hA : (Es ls 20)[i].1 = la at *
  generalize hB : (Es ls 20)[j].1 = lb at *
  intro e
  by_cases hl : lb < la
  · have := congrArg List.length e
    rw [List.length_take, bw_len, bw_len] at this
    omega
  · obtain ⟨m, hm⟩ : ∃ m : Nat, lb = la + (m : Int) := ⟨(lb - la).toNat, by omega⟩
    obtain ⟨n, hn⟩ : ∃ n : Nat, la = (n : Int) := ⟨la.toNat, by omega⟩
    rw [bw_len, show lb = ((n + m : Nat) : Int) by omega, show la.toNat = n by omega, bw_take, show la = (n : Int) from hn] at e
    rw [Int.ediv_ediv_of_nonneg (Int.le_of_lt (p2_pos _))] at e
    have ep : p2 ((n + m : Nat) : Int) * 2 ^ m = p2 (n : Int) := by
      unfold p2
      rw [← Int.pow_add, show (20 - ((n + m : Nat) : Int)).toNat + m = (20 - (n : Int)).toNat by omega]
    rw [ep] at e
    have s1 : PM ((Es ls 20).take j) / p2 (n : Int) < 2 ^ n := by
      have := div_small (x := PM ((Es ls 20).take j)) (l := (n : Int)) (by omega) (by omega)
      rw [show ((n : Int)).toNat = n by omega] at this
      exact this
    have s2 : PM ((Es ls 20).take i) / p2 (n : Int) < 2 ^ n := by
      have := div_small (x := PM ((Es ls 20).take i)) (l := (n : Int)) (by omega) (by omega)
      rw [show ((n : Int)).toNat = n by omega] at this
      exact this
    have eq := bw_inj n _ _ (Int.ediv_nonneg nj (Int.le_of_lt (p2_pos _))) s1 (Int.ediv_nonneg ni (Int.le_of_lt (p2_pos _))) s2 e
    rcases Nat.lt_or_gt_of_ne hij with hlt' | hlt'
    · have q := PM_lt (Es ls 20) hlt' hj
      rw [hA, hn] at q
      have := div_step q
      omega
    · have q := PM_lt (Es ls 20) hlt' hi
      have := hlt j i hj hi hlt'
      rw [hA, hB] at this
      rw [hB, show lb = (n : Int) by omega] at q
      have := div_step q
      omega
theorem gW_len (ls : List Int) (k : Nat) (h : k < ls.length) : gW ls k = ls[k] := by
  have e := idxR_gW (ws := ls) (k := (k : Int)) (by omega) (by omega)
  rw [idxR_nat h] at e
  exact (R.ok.inj e).symm
theorem wl_ok (ls : List Int) (h : Ok20 ls) (h0 : ls ≠ []) : wlOk ls (wds ls) = true := by
  unfold wlOk
  rw [Bool.and_eq_true]
  refine ⟨?_, List.all_eq_true.mpr fun o ho => ?_⟩
  · rw [Bool.not_eq_true']
    cases e : wds ls with
    | nil =>
      have := wds_len ls
      rw [e] at this
      exact absurd (List.length_eq_zero_iff.mp this.symm) h0
    | cons x r => rfl
  · cases o with
    | none => rfl
    | some w =>
      obtain ⟨k, hk, e⟩ := List.getElem_of_mem ho
      obtain ⟨i, hi, ei, rfl⟩ := wds_get ls k w (by rw [List.getElem?_eq_getElem hk, e])
      have mi := mem_Es.mp (List.getElem_mem hi)
      rw [wds_len] at hk
      rw [ei, gW_len ls k hk] at mi
      have hl : (bw (Es ls 20)[i].1 (PM ((Es ls 20).take i) / p2 (Es ls 20)[i].1)).length ≤ 1000 := by
        rw [bw_len]
        omega
      show (!decide _ && decide _) = true
      rw [decide_eq_true hl, Bool.and_true, Bool.not_eq_true', decide_eq_false_iff_not]
      intro z
      have hz := bw_bit (Es ls 20)[i].1 (PM ((Es ls 20).take i) / p2 (Es ls 20)[i].1) ls[k] (by
        rw [z]
        exact List.getElem_mem hk)
      have hlen := congrArg List.length z
      rw [bw_len] at hlen
      have h1 : ls.length = 1 := by omega
      have hE1 : (Es ls 20)[i].1 = 1 := by omega
      have hi0 : i = 0 := by
        rcases Nat.eq_zero_or_pos i with q | q
        · exact q
        · have := List.pairwise_iff_getElem.mp (Es_lt ls 20) 0 i (by omega) hi q
          have m0 := mem_Es.mp (List.getElem_mem (show 0 < (Es ls 20).length by omega))
          unfold lt2 at this
          omega
      subst hi0
      rw [hE1] at z
      have hb : bw 1 (PM ((Es ls 20).take 0) / p2 1) = [0] := by
        rw [List.take_zero]
        decide +kernel
      rw [hb] at z
      have : ls[k] = 0 := by
        have hm : ls[k] ∈ ls := List.getElem_mem hk
        generalize ls[k] = q at hm
        rw [← z] at hm
        simpa using hm
      omega
def dW (ds : Tb) (k : Int) : Option (List Int) := (ds[k.toNat]?).getD none
theorem idxR_dW {ds : Tb} {k : Int} (h : 0 ≤ k) (h' : k < ds.length) : idxR ds k = .ok (dW ds k) := by
  rw [idxR_ok h h']
  unfold dW
  rw [List.getElem?_eq_getElem (by omega)]
  rfl
theorem dW_some {ds : Tb} {k : Int} {w : List Int} (h : dW ds k = some w) : ds[k.toNat]? = some (some w) := by
  unfold dW at h
  cases e : ds[k.toNat]? with
  | none =>
    rw [e] at h
    cases h
  | some o =>
    rw [e] at h
    have h' : o = some w := h
    rw [h']
theorem cut_take (xs : List Int) (n : Nat) : cut xs none (some (n : Int)) = xs.take n := by
  unfold cut
  rw [HT.sIx_none, HT.sIx_nat, List.drop_zero, Nat.sub_zero]
  rcases Nat.le_total n xs.length with h | h
  · rw [Nat.min_eq_left h]
  · rw [Nat.min_eq_right h, List.take_length, List.take_of_length_le h]
theorem law_true (ns : List Int) : f_law ⟨ns⟩ = .ok true := by
  have eL : ∀ xs ys : List Int, eqR xs ys = .ok (decide (xs = ys)) := fun xs ys => eqR_eq xs ys
  have eT : ∀ xs ys : Tb, eqR xs ys = .ok (decide (xs = ys)) := fun xs ys => eqR_eq xs ys
  have eO : ∀ (xs : List Int) (ys : Option (List Int)), eqR xs ys = .ok (decide (some xs = ys)) := fun xs ys => eqR_eq (some xs) ys
  unfold f_law b_law
  simp only [R.ok_bind, R.ok_pu, R.er_bind, R.bad_bind, R.ok_map, finR_rt, seqF_nx, seqF_rt, R.bind_ok, R.bind_bind, decide_eq_true_eq, Bool.not_eq_true', decide_eq_false_iff_not, Bool.false_eq_true, if_true, if_false, ite_nx, cell_eq ns 0 (by decide), modR_ok (show (0 : Int) < 24 by decide), R.ok_pu]
  generalize ns.getD (0 : Int).toNat 0 = c0
  obtain ⟨m, hm⟩ : ∃ m : Nat, 1 + c0 % 24 = (m : Int) := ⟨(1 + c0 % 24).toNat, by omega⟩
  have hmb : 1 ≤ m ∧ m ≤ 24 := by omega
  rw [hm]
  obtain ⟨ls, hl, hll, hlo⟩ := lengths_eq ns m (by omega)
  have hne : ls ≠ [] := fun z => by
    rw [z] at hll
    simp at hll
    omega
  obtain ⟨mx, hmx, hmm, hml⟩ := maxR_ok hne
  obtain ⟨fs, hf, hfl, hfo, hfk, l0, hl0, hl0p⟩ := fitting_eq ls hlo (by omega) hne
  have hfne : fs ≠ [] := fun z => by
    rw [z] at hl0
    cases hl0
  obtain ⟨fx, hfx, hfm, hfmx⟩ := maxR_ok hfne
  have hfx0 : 0 < fx := by
    have := hfmx l0 hl0
    omega
  have hwd := wds_len fs
  have hdue := law_words_eq fs hfo (by omega)
  have hfound := words_eq fs hfo (by omega) ⟨l0, hl0, hl0p⟩
  simp only [hl, R.ok_bind, R.ok_pu, R.er_bind, R.bad_bind, R.ok_map, finR_rt, seqF_nx, seqF_rt, R.bind_ok, R.bind_bind, decide_eq_true_eq, Bool.not_eq_true', decide_eq_false_iff_not, Bool.false_eq_true, if_true, if_false, ite_nx, R.ok_pu, is_code_eq ls hlo (by omega) mx hmx, room_eq ls hlo (by omega), law_room_eq ls hlo (by omega), hmx, decide_true, Bool.not_true]
  have hb : (if 0 ≤ 1048576 - kr ls then R.ok (decide (0 < mx)) else R.ok false : R Bool) = .ok (if 0 ≤ 1048576 - kr ls then decide (0 < mx) else false) := by split <;> rfl
  simp only [hb, R.ok_bind, R.ok_pu, R.er_bind, R.bad_bind, R.ok_map, finR_rt, seqF_nx, seqF_rt, R.bind_ok, R.bind_bind, decide_eq_true_eq, Bool.not_eq_true', decide_eq_false_iff_not, Bool.false_eq_true, if_true, if_false, ite_nx, decide_true, Bool.not_true, hf, R.ok_pu, is_code_eq fs hfo (by omega) fx hfx, room_eq fs hfo (by omega), law_room_eq fs hfo (by omega), hfk, hfx0, hdue, hfound, wl_ok fs hfo hfne, eL, eT, rng1_nat (show m ≤ 1000000 by omega)]
  simp only [not_true_eq_false, if_false, Bool.true_eq_false, R.ok_bind, Bool.false_eq_true]
  rw [if_pos (by rw [seqI_len]; omega), forR_fold (fun _ _ => ()) (seqI 0 m) () fun _ a ha => ?_]
  · exact finR_rt true
  · have ha := mem_seqI.mp ha
    rw [idxR_dW ha.1 (by rw [hwd]; omega)]
    rw [forR_fold (fun _ _ => ()) (seqI 0 m) () fun _ b hb => ?_]
    · rw [seqF_nx, R.ok_bind]
    · have hb := mem_seqI.mp hb
      rw [idxR_dW hb.1 (by rw [hwd]; omega)]
      by_cases hab : a = b
      · rw [if_neg (fun z => z hab)]
        rfl
      · rw [if_pos hab, R.ok_bind]
        cases ea : dW (wds fs) a with
        | none => rfl
        | some wa =>
          rw [if_pos (show (some wa).isSome = true from rfl), R.ok_bind]
          cases eb : dW (wds fs) b with
          | none => rfl
          | some wb =>
            rw [if_pos (show (some wb).isSome = true from rfl)]
            show ((eqR (cut wb none (some (wa.length : Int))) (some wa)).bind _) = _
            rw [eO, cut_take]
            have := npre fs hfk hfo a.toNat b.toNat (by omega) wa wb (dW_some ea) (dW_some eb)
            rw [decide_eq_false (fun z => this (Option.some.inj z))]
            rfl
theorem law_all : ∀ ns : List Int, ns.length ≤ 63 → f_law ⟨ns⟩ = .ok true := fun ns _ => law_true ns
end Kx

namespace Kx
open PySem PySem.Spec PyProof.Rows L2 Kr
open Enc (toD)
def cfK (K : PySem.W.Frag) : Cf := ⟨K, fun _ => 0, fun _ => ""⟩
theorem all_mk {l : PySem.W.OpenLaw} {w : World} {K : PySem.W.Frag} {h : Heap} {mg : Str → Option Value} {fa : Addr} (X : K.In h) (G : h.Ns mainGlobals mg) (hfa : mg "law" = some (.ref fa))
    {ad_room : Addr} {od_room an_room : Option Addr} {sl_room : Array (Option Value)} {oc_room kV_room dc_room pm_room cd_room ct_room : Value}
    (a_room : PySem.W.nsIn K mainGlobals "room" = some (some (.ref ad_room)))
    (l_room : K.lookup ad_room = some ⟨oc_room, od_room, .func (PySem.W.fnOf "room" "room" (defArgs s_room) (defBody s_room) (defScope s_room) .none kV_room dc_room pm_room an_room cd_room ct_room), sl_room⟩)
    (c_room : PySem.W.codeIn K cd_room "room" = true) (k_room : PySem.W.keepIn K (.ref ad_room) = true)
    {ad_is_code : Addr} {od_is_code an_is_code : Option Addr} {sl_is_code : Array (Option Value)} {oc_is_code kV_is_code dc_is_code pm_is_code cd_is_code ct_is_code : Value}
    (a_is_code : PySem.W.nsIn K mainGlobals "is_code" = some (some (.ref ad_is_code)))
    (l_is_code : K.lookup ad_is_code = some ⟨oc_is_code, od_is_code, .func (PySem.W.fnOf "is_code" "is_code" (defArgs s_is_code) (defBody s_is_code) (defScope s_is_code) .none kV_is_code dc_is_code pm_is_code an_is_code cd_is_code ct_is_code), sl_is_code⟩)
    (c_is_code : PySem.W.codeIn K cd_is_code "is_code" = true) (k_is_code : PySem.W.keepIn K (.ref ad_is_code) = true)
    {ad_field_bits : Addr} {od_field_bits an_field_bits : Option Addr} {sl_field_bits : Array (Option Value)} {oc_field_bits kV_field_bits dc_field_bits pm_field_bits cd_field_bits ct_field_bits : Value}
    (a_field_bits : PySem.W.nsIn K mainGlobals "field_bits" = some (some (.ref ad_field_bits)))
    (l_field_bits : K.lookup ad_field_bits = some ⟨oc_field_bits, od_field_bits, .func (PySem.W.fnOf "field_bits" "field_bits" (defArgs s_field_bits) (defBody s_field_bits) (defScope s_field_bits) .none kV_field_bits dc_field_bits pm_field_bits an_field_bits cd_field_bits ct_field_bits), sl_field_bits⟩)
    (c_field_bits : PySem.W.codeIn K cd_field_bits "field_bits" = true) (k_field_bits : PySem.W.keepIn K (.ref ad_field_bits) = true)
    {ad_words : Addr} {od_words an_words : Option Addr} {sl_words : Array (Option Value)} {oc_words kV_words dc_words pm_words cd_words ct_words : Value}
    (a_words : PySem.W.nsIn K mainGlobals "words" = some (some (.ref ad_words)))
    (l_words : K.lookup ad_words = some ⟨oc_words, od_words, .func (PySem.W.fnOf "words" "words" (defArgs s_words) (defBody s_words) (defScope s_words) .none kV_words dc_words pm_words an_words cd_words ct_words), sl_words⟩)
    (c_words : PySem.W.codeIn K cd_words "words" = true) (k_words : PySem.W.keepIn K (.ref ad_words) = true)
    {ad__law_cell : Addr} {od__law_cell an__law_cell : Option Addr} {sl__law_cell : Array (Option Value)} {oc__law_cell kV__law_cell dc__law_cell pm__law_cell cd__law_cell ct__law_cell : Value}
    (a__law_cell : PySem.W.nsIn K mainGlobals "_law_cell" = some (some (.ref ad__law_cell)))
    (l__law_cell : K.lookup ad__law_cell = some ⟨oc__law_cell, od__law_cell, .func (PySem.W.fnOf "_law_cell" "_law_cell" (defArgs s__law_cell) (defBody s__law_cell) (defScope s__law_cell) .none kV__law_cell dc__law_cell pm__law_cell an__law_cell cd__law_cell ct__law_cell), sl__law_cell⟩)
    (c__law_cell : PySem.W.codeIn K cd__law_cell "_law_cell" = true) (k__law_cell : PySem.W.keepIn K (.ref ad__law_cell) = true)
    {ad__law_lengths : Addr} {od__law_lengths an__law_lengths : Option Addr} {sl__law_lengths : Array (Option Value)} {oc__law_lengths kV__law_lengths dc__law_lengths pm__law_lengths cd__law_lengths ct__law_lengths : Value}
    (a__law_lengths : PySem.W.nsIn K mainGlobals "_law_lengths" = some (some (.ref ad__law_lengths)))
    (l__law_lengths : K.lookup ad__law_lengths = some ⟨oc__law_lengths, od__law_lengths, .func (PySem.W.fnOf "_law_lengths" "_law_lengths" (defArgs s__law_lengths) (defBody s__law_lengths) (defScope s__law_lengths) .none kV__law_lengths dc__law_lengths pm__law_lengths an__law_lengths cd__law_lengths ct__law_lengths), sl__law_lengths⟩)
    (c__law_lengths : PySem.W.codeIn K cd__law_lengths "_law_lengths" = true) (k__law_lengths : PySem.W.keepIn K (.ref ad__law_lengths) = true)
    {ad__law_room : Addr} {od__law_room an__law_room : Option Addr} {sl__law_room : Array (Option Value)} {oc__law_room kV__law_room dc__law_room pm__law_room cd__law_room ct__law_room : Value}
    (a__law_room : PySem.W.nsIn K mainGlobals "_law_room" = some (some (.ref ad__law_room)))
    (l__law_room : K.lookup ad__law_room = some ⟨oc__law_room, od__law_room, .func (PySem.W.fnOf "_law_room" "_law_room" (defArgs s__law_room) (defBody s__law_room) (defScope s__law_room) .none kV__law_room dc__law_room pm__law_room an__law_room cd__law_room ct__law_room), sl__law_room⟩)
    (c__law_room : PySem.W.codeIn K cd__law_room "_law_room" = true) (k__law_room : PySem.W.keepIn K (.ref ad__law_room) = true)
    {ad__law_fitting : Addr} {od__law_fitting an__law_fitting : Option Addr} {sl__law_fitting : Array (Option Value)} {oc__law_fitting kV__law_fitting dc__law_fitting pm__law_fitting cd__law_fitting ct__law_fitting : Value}
    (a__law_fitting : PySem.W.nsIn K mainGlobals "_law_fitting" = some (some (.ref ad__law_fitting)))
    (l__law_fitting : K.lookup ad__law_fitting = some ⟨oc__law_fitting, od__law_fitting, .func (PySem.W.fnOf "_law_fitting" "_law_fitting" (defArgs s__law_fitting) (defBody s__law_fitting) (defScope s__law_fitting) .none kV__law_fitting dc__law_fitting pm__law_fitting an__law_fitting cd__law_fitting ct__law_fitting), sl__law_fitting⟩)
    (c__law_fitting : PySem.W.codeIn K cd__law_fitting "_law_fitting" = true) (k__law_fitting : PySem.W.keepIn K (.ref ad__law_fitting) = true)
    {ad__law_words : Addr} {od__law_words an__law_words : Option Addr} {sl__law_words : Array (Option Value)} {oc__law_words kV__law_words dc__law_words pm__law_words cd__law_words ct__law_words : Value}
    (a__law_words : PySem.W.nsIn K mainGlobals "_law_words" = some (some (.ref ad__law_words)))
    (l__law_words : K.lookup ad__law_words = some ⟨oc__law_words, od__law_words, .func (PySem.W.fnOf "_law_words" "_law_words" (defArgs s__law_words) (defBody s__law_words) (defScope s__law_words) .none kV__law_words dc__law_words pm__law_words an__law_words cd__law_words ct__law_words), sl__law_words⟩)
    (c__law_words : PySem.W.codeIn K cd__law_words "_law_words" = true) (k__law_words : PySem.W.keepIn K (.ref ad__law_words) = true)
    {ad_law : Addr} {od_law an_law : Option Addr} {sl_law : Array (Option Value)} {oc_law kV_law dc_law pm_law cd_law ct_law : Value}
    (a_law : PySem.W.nsIn K mainGlobals "law" = some (some (.ref ad_law)))
    (l_law : K.lookup ad_law = some ⟨oc_law, od_law, .func (PySem.W.fnOf "law" "law" (defArgs s_law) (defBody s_law) (defScope s_law) .none kV_law dc_law pm_law an_law cd_law ct_law), sl_law⟩)
    (c_law : PySem.W.codeIn K cd_law "law" = true) (k_law : PySem.W.keepIn K (.ref ad_law) = true)
    (z_bool : PySem.W.nsIn K mainGlobals "bool" = some none)
    (z_enumerate : PySem.W.nsIn K mainGlobals "enumerate" = some none)
    (z_int : PySem.W.nsIn K mainGlobals "int" = some none)
    (z_isinstance : PySem.W.nsIn K mainGlobals "isinstance" = some none)
    (z_len : PySem.W.nsIn K mainGlobals "len" = some none)
    (z_list : PySem.W.nsIn K mainGlobals "list" = some none)
    (z_max : PySem.W.nsIn K mainGlobals "max" = some none)
    (z_range : PySem.W.nsIn K mainGlobals "range" = some none)
    (z_sorted : PySem.W.nsIn K mainGlobals "sorted" = some none)
    (z_sum : PySem.W.nsIn K mainGlobals "sum" = some none)
    {t_GREATEST : Tok} (y_GREATEST : PySem.W.nsIn K mainGlobals "GREATEST" = some (some (.int 20 t_GREATEST)))
    : ∃ fd : FuncData, (∀ (s : Shared) (v : Value), BindsTo s fd ⟨[v], []⟩ [("_law_script", v)]) ∧
      ∀ base : Heap, K.In base → base.Ns mainGlobals mg → FnOk l.prog w K mg base CX0 3 fa fd ["_law_script"] (SpP (cfK K) 1 (sp1 f_law)) := by
  have e := hfa.symm.trans (PySem.W.mg_of X G a_law)
  cases e
  let T : Txt (cfK K) mg := {
    a_room := ad_room
    d_room := PySem.W.fnOf "room" "room" (defArgs s_room) (defBody s_room) (defScope s_room) .none kV_room dc_room pm_room an_room cd_room ct_room
    F_room := fun_mk (st := s_room) l_room c_room k_room
    b_room := (fun_mk (st := s_room) l_room c_room k_room).binds (ps := ["lengths"]) fun _ _ _ _ _ _ us hl => match us, hl with | [_], _ => rfl
    g_room := PySem.W.mg_of X G a_room
    a_is_code := ad_is_code
    d_is_code := PySem.W.fnOf "is_code" "is_code" (defArgs s_is_code) (defBody s_is_code) (defScope s_is_code) .none kV_is_code dc_is_code pm_is_code an_is_code cd_is_code ct_is_code
    F_is_code := fun_mk (st := s_is_code) l_is_code c_is_code k_is_code
    b_is_code := (fun_mk (st := s_is_code) l_is_code c_is_code k_is_code).binds (ps := ["lengths"]) fun _ _ _ _ _ _ us hl => match us, hl with | [_], _ => rfl
    g_is_code := PySem.W.mg_of X G a_is_code
    a_field_bits := ad_field_bits
    d_field_bits := PySem.W.fnOf "field_bits" "field_bits" (defArgs s_field_bits) (defBody s_field_bits) (defScope s_field_bits) .none kV_field_bits dc_field_bits pm_field_bits an_field_bits cd_field_bits ct_field_bits
    F_field_bits := fun_mk (st := s_field_bits) l_field_bits c_field_bits k_field_bits
    b_field_bits := (fun_mk (st := s_field_bits) l_field_bits c_field_bits k_field_bits).binds (ps := ["width", "value"]) fun _ _ _ _ _ _ us hl => match us, hl with | [_, _], _ => rfl
    g_field_bits := PySem.W.mg_of X G a_field_bits
    a_words := ad_words
    d_words := PySem.W.fnOf "words" "words" (defArgs s_words) (defBody s_words) (defScope s_words) .none kV_words dc_words pm_words an_words cd_words ct_words
    F_words := fun_mk (st := s_words) l_words c_words k_words
    b_words := (fun_mk (st := s_words) l_words c_words k_words).binds (ps := ["lengths"]) fun _ _ _ _ _ _ us hl => match us, hl with | [_], _ => rfl
    g_words := PySem.W.mg_of X G a_words
    a__law_cell := ad__law_cell
    d__law_cell := PySem.W.fnOf "_law_cell" "_law_cell" (defArgs s__law_cell) (defBody s__law_cell) (defScope s__law_cell) .none kV__law_cell dc__law_cell pm__law_cell an__law_cell cd__law_cell ct__law_cell
    F__law_cell := fun_mk (st := s__law_cell) l__law_cell c__law_cell k__law_cell
    b__law_cell := (fun_mk (st := s__law_cell) l__law_cell c__law_cell k__law_cell).binds (ps := ["_law_script", "_law_k"]) fun _ _ _ _ _ _ us hl => match us, hl with | [_, _], _ => rfl
    g__law_cell := PySem.W.mg_of X G a__law_cell
    a__law_lengths := ad__law_lengths
    d__law_lengths := PySem.W.fnOf "_law_lengths" "_law_lengths" (defArgs s__law_lengths) (defBody s__law_lengths) (defScope s__law_lengths) .none kV__law_lengths dc__law_lengths pm__law_lengths an__law_lengths cd__law_lengths ct__law_lengths
    F__law_lengths := fun_mk (st := s__law_lengths) l__law_lengths c__law_lengths k__law_lengths
    b__law_lengths := (fun_mk (st := s__law_lengths) l__law_lengths c__law_lengths k__law_lengths).binds (ps := ["_law_script", "_law_first", "_law_many"]) fun _ _ _ _ _ _ us hl => match us, hl with | [_, _, _], _ => rfl
    g__law_lengths := PySem.W.mg_of X G a__law_lengths
    a__law_room := ad__law_room
    d__law_room := PySem.W.fnOf "_law_room" "_law_room" (defArgs s__law_room) (defBody s__law_room) (defScope s__law_room) .none kV__law_room dc__law_room pm__law_room an__law_room cd__law_room ct__law_room
    F__law_room := fun_mk (st := s__law_room) l__law_room c__law_room k__law_room
    b__law_room := (fun_mk (st := s__law_room) l__law_room c__law_room k__law_room).binds (ps := ["_law_lengths_here"]) fun _ _ _ _ _ _ us hl => match us, hl with | [_], _ => rfl
    g__law_room := PySem.W.mg_of X G a__law_room
    a__law_fitting := ad__law_fitting
    d__law_fitting := PySem.W.fnOf "_law_fitting" "_law_fitting" (defArgs s__law_fitting) (defBody s__law_fitting) (defScope s__law_fitting) .none kV__law_fitting dc__law_fitting pm__law_fitting an__law_fitting cd__law_fitting ct__law_fitting
    F__law_fitting := fun_mk (st := s__law_fitting) l__law_fitting c__law_fitting k__law_fitting
    b__law_fitting := (fun_mk (st := s__law_fitting) l__law_fitting c__law_fitting k__law_fitting).binds (ps := ["_law_lengths_here"]) fun _ _ _ _ _ _ us hl => match us, hl with | [_], _ => rfl
    g__law_fitting := PySem.W.mg_of X G a__law_fitting
    a__law_words := ad__law_words
    d__law_words := PySem.W.fnOf "_law_words" "_law_words" (defArgs s__law_words) (defBody s__law_words) (defScope s__law_words) .none kV__law_words dc__law_words pm__law_words an__law_words cd__law_words ct__law_words
    F__law_words := fun_mk (st := s__law_words) l__law_words c__law_words k__law_words
    b__law_words := (fun_mk (st := s__law_words) l__law_words c__law_words k__law_words).binds (ps := ["_law_lengths_here"]) fun _ _ _ _ _ _ us hl => match us, hl with | [_], _ => rfl
    g__law_words := PySem.W.mg_of X G a__law_words
    a_law := fa
    d_law := PySem.W.fnOf "law" "law" (defArgs s_law) (defBody s_law) (defScope s_law) .none kV_law dc_law pm_law an_law cd_law ct_law
    F_law := fun_mk (st := s_law) l_law c_law k_law
    b_law := (fun_mk (st := s_law) l_law c_law k_law).binds (ps := ["_law_script"]) fun _ _ _ _ _ _ us hl => match us, hl with | [_], _ => rfl
    g_law := PySem.W.mg_of X G a_law
    n_bool := PySem.W.mg_none_of X G z_bool
    n_enumerate := PySem.W.mg_none_of X G z_enumerate
    n_int := PySem.W.mg_none_of X G z_int
    n_isinstance := PySem.W.mg_none_of X G z_isinstance
    n_len := PySem.W.mg_none_of X G z_len
    n_list := PySem.W.mg_none_of X G z_list
    n_max := PySem.W.mg_none_of X G z_max
    n_range := PySem.W.mg_none_of X G z_range
    n_sorted := PySem.W.mg_none_of X G z_sorted
    n_sum := PySem.W.mg_none_of X G z_sum
    k_GREATEST := t_GREATEST
    c_GREATEST := PySem.W.mg_of X G y_GREATEST }
  exact ⟨T.d_law, fun s v => .of_eq rfl, fun base _ _ => ok_law (P := l.prog) (w := w) (cf := cfK K) (mg := mg) (base := base) T⟩
theorem law_end {K : PySem.W.Frag} {H : Hp} {a : Addr} {ns : List Int} {E : XK} (hl : ns.length ≤ 63) (hS : SqL K H a (ns.map V.int)) (hlaw : ∀ ns : List Int, ns.length ≤ 63 → f_law ⟨ns⟩ = .ok true) : SpP (cfK K) 1 (sp1 f_law) [.ref a] H (fun v _ => v = .bl true) E :=
  ⟨rfl, H, fun _ => none, [toD (Scr.mk ns)], toD true, ⟨Le.refl H, fun _ _ e => (nomatch e), fun _ _ => rfl⟩, .cons (.scr hS) .nil, ⟨⟨ns⟩, rfl, by rw [hlaw ns hl]; rfl⟩, fun v F' H' _ _ r => dr_bl (i := true) r⟩
end Kx
open PySem PySem.W PyProof.Rows
set_option maxHeartbeats 0 in
theorem PySem.Challenge.cw_kraftroom_k01_words_of_a_code_holds : PySem.Challenge.rw_kraftroom_k01_words_of_a_code.Holds := by
  w_on; o_law; k_head; (case hw => w_witness2)
  k_fill
  refine L2.walk_of (l := PySem.Challenge.rw_kraftroom_k01_words_of_a_code) (n := 63) (k := 3) (x := "_law_script") (CX := fun _ => L2.CX0) (sp := fun w => Kr.SpP (Kx.cfK _) 1 (Kr.sp1 Kx.f_law)) rfl (by decide) rfl ⟨rfl, by decide, by decide⟩ (fun w h Y => PySem.W.kIn_of Y) ?F (fun _ _ a ns hl _ hS => Kx.law_end hl hS Kx.law_all) (fun _ _ _ _ _ h => h)
  case F =>
    intro w mg fa h KX G hmg
    refine' Kx.all_mk KX G hmg ?a_room ?l_room ?c_room ?k_room ?a_is_code ?l_is_code ?c_is_code ?k_is_code ?a_field_bits ?l_field_bits ?c_field_bits ?k_field_bits ?a_words ?l_words ?c_words ?k_words ?a__law_cell ?l__law_cell ?c__law_cell ?k__law_cell ?a__law_lengths ?l__law_lengths ?c__law_lengths ?k__law_lengths ?a__law_room ?l__law_room ?c__law_room ?k__law_room ?a__law_fitting ?l__law_fitting ?c__law_fitting ?k__law_fitting ?a__law_words ?l__law_words ?c__law_words ?k__law_words ?a_law ?l_law ?c_law ?k_law ?z_bool ?z_enumerate ?z_int ?z_isinstance ?z_len ?z_list ?z_max ?z_range ?z_sorted ?z_sum ?y_GREATEST
    (case a_room => k_is); (case l_room => k_is); (case c_room => k_is); (case k_room => k_is); (case a_is_code => k_is); (case l_is_code => k_is); (case c_is_code => k_is); (case k_is_code => k_is); (case a_field_bits => k_is); (case l_field_bits => k_is); (case c_field_bits => k_is); (case k_field_bits => k_is); (case a_words => k_is); (case l_words => k_is); (case c_words => k_is); (case k_words => k_is); (case a__law_cell => k_is); (case l__law_cell => k_is); (case c__law_cell => k_is); (case k__law_cell => k_is); (case a__law_lengths => k_is); (case l__law_lengths => k_is); (case c__law_lengths => k_is); (case k__law_lengths => k_is); (case a__law_room => k_is); (case l__law_room => k_is); (case c__law_room => k_is); (case k__law_room => k_is); (case a__law_fitting => k_is); (case l__law_fitting => k_is); (case c__law_fitting => k_is); (case k__law_fitting => k_is); (case a__law_words => k_is); (case l__law_words => k_is); (case c__law_words => k_is); (case k__law_words => k_is); (case a_law => k_is); (case l_law => k_is); (case c_law => k_is); (case k_law => k_is); (case z_bool => k_is); (case z_enumerate => k_is); (case z_int => k_is); (case z_isinstance => k_is); (case z_len => k_is); (case z_list => k_is); (case z_max => k_is); (case z_range => k_is); (case z_sorted => k_is); (case z_sum => k_is); (case y_GREATEST => k_is)
