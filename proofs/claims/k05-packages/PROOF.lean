import PyProof.Rows.All
import Wide.All
import OpenK.AllK
import Wide.FinOn
import HandS.ForMost
import HandS.Exc
import HandS.WordsExc
import HandS.Wide
import HandS.WideBits
import HandS.RevRange
import HandS.Style
import KE.SortData
import HandS.Zip
import HandS.ExcInit
import HandS.ExcSuper
import HandS.ExcField
import HandS.ClsMeth
import HandS.Defaults
import KE.RegKSuper
import HandS.Nested
import KE.KSuper
import KE.KExcSuper
import HandS.TryMany
import HandS.CallSlots
import HandS.IsInst
import HandS.Deep
import HandS.Dict
import HandS.Conv
import HandS.DictEq
import KE.LtSeq
import KE.KDictDisplayH
import KE.KDictSum
import PySem.Challenge.RW_kraftroom_k05_whole_packages
set_option Elab.async false
set_option linter.all false
set_option maxRecDepth 100000
set_option maxHeartbeats 4000000
/-! KrA: results, data, what a value stands for, the judgements of expressions and statements by data. -/
namespace Kr
open PySem PySem.Spec PyProof.Rows L2

/-! ### results -/
inductive R (α : Type) where
  | ok (a : α)
  | er (c : Nat) (p : Int)
  | bad
def R.bind {α β : Type} : R α → (α → R β) → R β
  | .ok a, f => f a
  | .er c p, _ => .er c p
  | .bad, _ => .bad
/-- of a def that raises nothing -/
def R.pu {α : Type} : R α → R α
  | .ok a => .ok a
  | _ => .bad
def R.map {α β : Type} (f : α → β) : R α → R β
  | .ok a => .ok (f a)
  | .er c p => .er c p
  | .bad => .bad
section
variable {α β γ : Type}
theorem R.ok_bind (a : α) (f : α → R β) : (R.ok a).bind f = f a := (fun (m : R α) (e : m = .ok a) => show m.bind f = f a by rw [e]; rfl) _ rfl
theorem R.er_bind (c : Nat) (p : Int) (f : α → R β) : (R.er c p : R α).bind f = .er c p := (fun (m : R α) (e : m = .er c p) => show m.bind f = .er c p by rw [e]; rfl) _ rfl
theorem R.bad_bind (f : α → R β) : (R.bad : R α).bind f = .bad := (fun (m : R α) (e : m = .bad) => show m.bind f = .bad by rw [e]; rfl) _ rfl
theorem R.ok_pu (a : α) : (R.ok a).pu = .ok a := (fun (m : R α) (e : m = .ok a) => show m.pu = .ok a by rw [e]; rfl) _ rfl
theorem R.ok_map (f : α → β) (a : α) : (R.ok a).map f = .ok (f a) := (fun (m : R α) (e : m = .ok a) => show m.map f = .ok (f a) by rw [e]; rfl) _ rfl
theorem R.bind_ok (m : R α) : m.bind .ok = m := by cases m <;> rfl
theorem R.bind_bind (m : R α) (f : α → R β) (g : β → R γ) : (m.bind f).bind g = m.bind fun a => (f a).bind g := by cases m <;> rfl
theorem R.ite_bind (c : Prop) [Decidable c] (m n : R α) (f : α → R β) : (if c then m else n).bind f = if c then m.bind f else n.bind f := by split <;> rfl
theorem R.bind_nb {m : R α} {f : α → R β} (h : m.bind f ≠ .bad) : m ≠ .bad := fun e => h (by rw [e]; rfl)
theorem R.bind_okd {m : R α} {f : α → R β} {b : β} (h : m.bind f = .ok b) : ∃ a, m = .ok a ∧ f a = .ok b := by
  cases m with
  | ok a => exact ⟨a, rfl, h⟩
  | er c p => cases h
  | bad => cases h
end

/-! ### data -/
inductive Dt where
  | non | bl (b : Bool) | int (i : Int) | str (x : Str) | lst (xs : List Dt) | tup (xs : List Dt)
  /-- the script -/
  | scr (ns : List Int)
  /-- a dict whose keys are tuples of ints -/
  | dct (kvs : List (List Int × Dt))

mutual
/-- in F the value v stands for the data -/
inductive Dr (K : PySem.W.Frag) (F : Hp) : V → Dt → Prop
  | non : Dr K F .non .non
  | bl (b : Bool) : Dr K F (.bl b) (.bl b)
  | int (i : Int) : Dr K F (.int i) (.int i)
  | str (x : Str) : Dr K F (.str x) (.str x)
  | lst {a : Addr} {vs : List V} {ds : List Dt} : F a = some (.lst vs) → DrA K F vs ds → Dr K F (.ref a) (.lst ds)
  | tup {a : Addr} {vs : List V} {ds : List Dt} : F a = some (.tup vs) → DrA K F vs ds → Dr K F (.ref a) (.tup ds)
  | scr {a : Addr} {ns : List Int} : SqL K F a (ns.map V.int) → Dr K F (.ref a) (.scr ns)
  | dct {a : Addr} {ks : List (List Key × V)} {kvs : List (List Int × Dt)} : F a = some (.dT ks) → DrK K F ks kvs → Dr K F (.ref a) (.dct kvs)
inductive DrA (K : PySem.W.Frag) (F : Hp) : List V → List Dt → Prop
  | nil : DrA K F [] []
  | cons {v : V} {vs : List V} {d : Dt} {ds : List Dt} : Dr K F v d → DrA K F vs ds → DrA K F (v :: vs) (d :: ds)
inductive DrK (K : PySem.W.Frag) (F : Hp) : List (List Key × V) → List (List Int × Dt) → Prop
  | nil : DrK K F [] []
  | cons {k : List Int} {v : V} {d : Dt} {ks : List (List Key × V)} {kvs : List (List Int × Dt)} : Dr K F v d → DrK K F ks kvs → DrK K F ((k.map Sum.inl, v) :: ks) ((k, d) :: kvs)
end

def Le (H H' : Hp) : Prop := ∀ a o, H a = some o → H' a = some o
theorem Le.refl (H : Hp) : Le H H := fun _ _ h => h
theorem Le.trans {H H1 H2 : Hp} (a : Le H H1) (b : Le H1 H2) : Le H H2 := fun x o h => b x o (a x o h)
theorem Le.new {H : Hp} {p : Addr} {o : HO} (h : H p = none) : Le H (upd H p o) := fun a u e => by
  rw [upd_ne (ne_of_none e h)]
  exact e
theorem Le.seq {K : PySem.W.Frag} {H H' : Hp} {a : Addr} {xs : List V} (e : Le H H') (h : SqL K H a xs) : SqL K H' a xs := by
  rcases h with (h | ⟨o, h⟩) | h
  · exact .inl (.inl (e _ _ h))
  · exact .inl (.inr ⟨o, e _ _ h⟩)
  · exact .inr h
theorem Le.free {H H' : Hp} (e : Le H H') {l : Addr} (h : H' l = none) : H l = none := by
  cases q : H l with
  | none => rfl
  | some o =>
    rw [e l o q] at h
    cases h
section
variable {K : PySem.W.Frag} {F F' : Hp}
mutual
theorem Dr.mono (e : Le F F') : ∀ {v : V} {d : Dt}, Dr K F v d → Dr K F' v d
  | _, _, .non => .non
  | _, _, .bl b => .bl b
  | _, _, .int i => .int i
  | _, _, .str x => .str x
  | _, _, .lst h r => .lst (e _ _ h) (DrA.mono e r)
  | _, _, .tup h r => .tup (e _ _ h) (DrA.mono e r)
  | _, _, .scr h => .scr (e.seq h)
  | _, _, .dct h r => .dct (e _ _ h) (DrK.mono e r)
theorem DrA.mono (e : Le F F') : ∀ {vs : List V} {ds : List Dt}, DrA K F vs ds → DrA K F' vs ds
  | _, _, .nil => .nil
  | _, _, .cons r t => .cons (Dr.mono e r) (DrA.mono e t)
theorem DrK.mono (e : Le F F') : ∀ {ks : List (List Key × V)} {kvs : List (List Int × Dt)}, DrK K F ks kvs → DrK K F' ks kvs
  | _, _, .nil => .nil
  | _, _, .cons r t => .cons (Dr.mono e r) (DrK.mono e t)
end
theorem DrA.length : ∀ {vs : List V} {ds : List Dt}, DrA K F vs ds → vs.length = ds.length
  | _, _, .nil => rfl
  | _, _, .cons _ t => by rw [List.length_cons, List.length_cons, DrA.length t]
theorem DrA.get : ∀ {vs : List V} {ds : List Dt} {i : Nat} {d : Dt}, DrA K F vs ds → ds[i]? = some d → ∃ v, vs[i]? = some v ∧ Dr K F v d
  | _, _, _, _, .nil, h => by simp at h
  | _, _, 0, _, .cons (v := v) r _, h => by
    simp at h
    subst h
    exact ⟨v, rfl, r⟩
  | _, _, i + 1, _, .cons _ t, h => by
    obtain ⟨v, h1, h2⟩ := DrA.get (i := i) t (by simpa using h)
    exact ⟨v, by simpa using h1, h2⟩
theorem DrA.getV : ∀ {vs : List V} {ds : List Dt} {i : Nat} {v : V}, DrA K F vs ds → vs[i]? = some v → ∃ d, ds[i]? = some d ∧ Dr K F v d
  | _, _, _, _, .nil, h => by simp at h
  | _, _, 0, _, .cons (d := d) r _, h => by
    simp at h
    subst h
    exact ⟨d, rfl, r⟩
  | _, _, i + 1, _, .cons _ t, h => by
    obtain ⟨d, h1, h2⟩ := DrA.getV (i := i) t (by simpa using h)
    exact ⟨d, by simpa using h1, h2⟩
theorem DrA.append : ∀ {vs ws : List V} {ds es : List Dt}, DrA K F vs ds → DrA K F ws es → DrA K F (vs ++ ws) (ds ++ es)
  | _, _, _, _, .nil, s => s
  | _, _, _, _, .cons r t, s => .cons r (DrA.append t s)
theorem DrA.set {v : V} {d : Dt} (r : Dr K F v d) : ∀ {vs : List V} {ds : List Dt} (i : Nat), DrA K F vs ds → DrA K F (vs.set i v) (ds.set i d)
  | _, _, _, .nil => .nil
  | _, _, 0, .cons _ t => .cons r t
  | _, _, i + 1, .cons q t => .cons q (DrA.set r i t)
theorem DrA.take : ∀ {vs : List V} {ds : List Dt} (n : Nat), DrA K F vs ds → DrA K F (vs.take n) (ds.take n)
  | _, _, 0, _ => .nil
  | _, _, _ + 1, .nil => .nil
  | _, _, n + 1, .cons r t => .cons r (DrA.take n t)
theorem DrA.drop : ∀ {vs : List V} {ds : List Dt} (n : Nat), DrA K F vs ds → DrA K F (vs.drop n) (ds.drop n)
  | _, _, 0, r => r
  | _, _, _ + 1, .nil => .nil
  | _, _, n + 1, .cons _ t => DrA.drop n t
theorem DrA.dropLast {vs : List V} {ds : List Dt} (h : DrA K F vs ds) : DrA K F vs.dropLast ds.dropLast := by
  rw [List.dropLast_eq_take, List.dropLast_eq_take, h.length]
  exact h.take _
theorem DrA.reverse : ∀ {vs : List V} {ds : List Dt}, DrA K F vs ds → DrA K F vs.reverse ds.reverse
  | _, _, .nil => .nil
  | _, _, .cons r t => by
    rw [List.reverse_cons, List.reverse_cons]
    exact (DrA.reverse t).append (.cons r .nil)
theorem DrA.rep {vs : List V} {ds : List Dt} (h : DrA K F vs ds) : ∀ k : Nat, DrA K F (List.replicate k vs).flatten (List.replicate k ds).flatten
  | 0 => .nil
  | k + 1 => by
    rw [List.replicate_succ, List.replicate_succ, List.flatten_cons, List.flatten_cons]
    exact h.append (DrA.rep h k)
end

theorem dr_non {K : PySem.W.Frag} {F : Hp} {v : V} (h : Dr K F v .non) : v = .non := by cases h; rfl
theorem dr_int {K : PySem.W.Frag} {F : Hp} {v : V} {i : Int} (h : Dr K F v (.int i)) : v = .int i := by cases h; rfl
theorem dr_bl {K : PySem.W.Frag} {F : Hp} {v : V} {i : Bool} (h : Dr K F v (.bl i)) : v = .bl i := by cases h; rfl
theorem dr_str {K : PySem.W.Frag} {F : Hp} {v : V} {i : Str} (h : Dr K F v (.str i)) : v = .str i := by cases h; rfl
theorem dr_lst {K : PySem.W.Frag} {F : Hp} {v : V} {ds : List Dt} (h : Dr K F v (.lst ds)) : ∃ a vs, v = .ref a ∧ F a = some (.lst vs) ∧ DrA K F vs ds := by
  cases h with
  | lst h1 h2 => exact ⟨_, _, rfl, h1, h2⟩
theorem dr_tup {K : PySem.W.Frag} {F : Hp} {v : V} {ds : List Dt} (h : Dr K F v (.tup ds)) : ∃ a vs, v = .ref a ∧ F a = some (.tup vs) ∧ DrA K F vs ds := by
  cases h with
  | tup h1 h2 => exact ⟨_, _, rfl, h1, h2⟩
theorem dr_scr {K : PySem.W.Frag} {F : Hp} {v : V} {ns : List Int} (h : Dr K F v (.scr ns)) : ∃ a, v = .ref a ∧ SqL K F a (ns.map V.int) := by
  cases h with
  | scr h1 => exact ⟨_, rfl, h1⟩
theorem dr_dct {K : PySem.W.Frag} {F : Hp} {v : V} {kvs : List (List Int × Dt)} (h : Dr K F v (.dct kvs)) : ∃ a ks, v = .ref a ∧ F a = some (.dT ks) ∧ DrK K F ks kvs := by
  cases h with
  | dct h1 h2 => exact ⟨_, _, rfl, h1, h2⟩
theorem drA_nil {K : PySem.W.Frag} {F : Hp} {vs : List V} (h : DrA K F vs []) : vs = [] := by cases h; rfl
theorem drA_cons {K : PySem.W.Frag} {F : Hp} {vs : List V} {d : Dt} {ds : List Dt} (h : DrA K F vs (d :: ds)) : ∃ v r, vs = v :: r ∧ Dr K F v d ∧ DrA K F r ds := by
  cases h with
  | cons h1 h2 => exact ⟨_, _, rfl, h1, h2⟩

/-- typed data -/
class Enc (α : Type) where
  toD : α → Dt
open Enc (toD)

structure T3 (α β γ : Type) where
  a : α
  b : β
  c : γ
  deriving DecidableEq
structure Scr where
  ns : List Int
/-- a dict by tuples of ints -/
structure Dct (α : Type) where
  kvs : List (List Int × α)
instance : Enc Int := ⟨.int⟩
instance : Enc Bool := ⟨.bl⟩
instance : Enc Str := ⟨.str⟩
instance : Enc Unit := ⟨fun _ => .non⟩
instance : Enc Scr := ⟨fun s => .scr s.ns⟩
instance {α : Type} [Enc α] : Enc (List α) := ⟨fun xs => .lst (xs.map toD)⟩
instance {α β : Type} [Enc α] [Enc β] : Enc (α × β) := ⟨fun p => .tup [toD p.1, toD p.2]⟩
instance {α β γ : Type} [Enc α] [Enc β] [Enc γ] : Enc (T3 α β γ) := ⟨fun p => .tup [toD p.a, toD p.b, toD p.c]⟩
instance {α : Type} [Enc α] : Enc (Option α) := ⟨fun o => match o with | none => .non | some a => toD a⟩
instance {α β : Type} [Enc α] [Enc β] : Enc (α ⊕ β) := ⟨fun o => match o with | .inl a => toD a | .inr a => toD a⟩
instance {α : Type} [Enc α] : Enc (Dct α) := ⟨fun d => .dct (d.kvs.map fun p => (p.1, toD p.2))⟩
/-- never None -/
class NN (α : Type) [Enc α] : Prop where
  nn : ∀ a : α, toD a ≠ .non
instance : NN Int := ⟨fun _ h => nomatch h⟩
instance : NN Bool := ⟨fun _ h => nomatch h⟩
instance {α : Type} [Enc α] : NN (List α) := ⟨fun _ h => nomatch h⟩
instance {α β : Type} [Enc α] [Enc β] : NN (α × β) := ⟨fun _ h => nomatch h⟩
instance {α β γ : Type} [Enc α] [Enc β] [Enc γ] : NN (T3 α β γ) := ⟨fun _ h => nomatch h⟩

/-! ### the state by data -/

/-- what the text says of classes: the written part; the error classes by number, their names -/
structure Cf where
  K : PySem.W.Frag
  cls : Nat → Addr
  nm : Nat → Str
  /-- the classes of models -/
  mc : Nat → Addr := fun _ => 0
/-- the heap H holds F (never changed) and O (what is owned) -/
structure Fm (F O H : Hp) : Prop where
  f : Le F H
  o : Le O H
  ds : ∀ p, F p ≠ none → O p = none
  /-- what is owned is no tuple -/
  nt : ∀ p vs, O p ≠ some (.tup vs)
theorem Fm.fnone {F O H : Hp} (h : Fm F O H) {p : Addr} (e : H p = none) : F p = none := h.f.free e
theorem Fm.onone {F O H : Hp} (h : Fm F O H) {p : Addr} (e : H p = none) : O p = none := h.o.free e
theorem Fm.own {F O H : Hp} (h : Fm F O H) {p : Addr} {o : HO} (e : O p = some o) : F p = none := by
  cases q : F p with
  | none => rfl
  | some u =>
    rw [h.ds p (by rw [q]; simp)] at e
    cases e
/-- a new object, never changed from now on -/
theorem Fm.newF {F O H : Hp} (h : Fm F O H) {p : Addr} {o : HO} (e : H p = none) : Fm (upd F p o) O (upd H p o) := by
  refine ⟨fun a u q => ?_, fun a u q => ?_, fun a q => ?_, h.nt⟩
  · by_cases ha : a = p
    · subst ha
      rw [upd_same] at q ⊢
      exact q
    · rw [upd_ne ha] at q ⊢
      exact h.f a u q
  · exact Le.new e a u (h.o a u q)
  · by_cases ha : a = p
    · subst ha
      exact h.onone e
    · rw [upd_ne ha] at q
      exact h.ds a q
/-- a new object that nobody owns as yet -/
theorem Fm.newH {F O H : Hp} (h : Fm F O H) {p : Addr} {o : HO} (e : H p = none) : Fm F O (upd H p o) := ⟨h.f.trans (Le.new e), h.o.trans (Le.new e), h.ds, h.nt⟩

/-! ### what is owned -/
/-- a tree of objects that may change; its leaves are data -/
inductive Tr where
  | d (d : Dt)
  | l (ts : List Tr)
  | o (C : Addr) (fs : List (Str × Tr))
  | k (kvs : List (Str × Tr))
  /-- just at this value -/
  | at (v : V) (t : Tr)
  /-- a value; what is behind it is elsewhere -/
  | hole (v : V)
abbrev HR := Addr → HO → Prop
mutual
/-- v stands for the tree, its objects by R; fp: where they stand -/
inductive Own (K : PySem.W.Frag) (F : Hp) (R : HR) : V → Tr → List Addr → Prop
  | d {v : V} {d : Dt} : Dr K F v d → Own K F R v (.d d) []
  | l {a : Addr} {vs : List V} {ts : List Tr} {fp : List Addr} : R a (.lst vs) → OwnA K F R vs ts fp → Own K F R (.ref a) (.l ts) (a :: fp)
  | o {a C dx : Addr} {fvs : List (Str × V)} {fs : List (Str × Tr)} {fp : List Addr} : R a (.ins C dx fvs) → R dx (.own a) → OwnF K F R fvs fs fp → Own K F R (.ref a) (.o C fs) (a :: dx :: fp)
  | k {a : Addr} {kvs' : List (Key × V)} {kvs : List (Str × Tr)} {fp : List Addr} : R a (.dK kvs') → OwnK K F R kvs' kvs fp → Own K F R (.ref a) (.k kvs) (a :: fp)
  | pin {v : V} {t : Tr} {fp : List Addr} : Own K F R v t fp → Own K F R v (.at v t) fp
  | hole {v : V} : Own K F R v (.hole v) []
inductive OwnA (K : PySem.W.Frag) (F : Hp) (R : HR) : List V → List Tr → List Addr → Prop
  | nil : OwnA K F R [] [] []
  | cons {v : V} {t : Tr} {vs : List V} {ts : List Tr} {fp fq : List Addr} : Own K F R v t fp → OwnA K F R vs ts fq → OwnA K F R (v :: vs) (t :: ts) (fp ++ fq)
inductive OwnF (K : PySem.W.Frag) (F : Hp) (R : HR) : List (Str × V) → List (Str × Tr) → List Addr → Prop
  | nil : OwnF K F R [] [] []
  | cons {x : Str} {v : V} {t : Tr} {vs : List (Str × V)} {ts : List (Str × Tr)} {fp fq : List Addr} : Own K F R v t fp → OwnF K F R vs ts fq → OwnF K F R ((x, v) :: vs) ((x, t) :: ts) (fp ++ fq)
inductive OwnK (K : PySem.W.Frag) (F : Hp) (R : HR) : List (Key × V) → List (Str × Tr) → List Addr → Prop
  | nil : OwnK K F R [] [] []
  | cons {x : Str} {v : V} {t : Tr} {vs : List (Key × V)} {ts : List (Str × Tr)} {fp fq : List Addr} : Own K F R v t fp → OwnK K F R vs ts fq → OwnK K F R ((Sum.inr x, v) :: vs) ((x, t) :: ts) (fp ++ fq)
end
section
variable {K : PySem.W.Frag} {F F' : Hp} {R R' : HR}
theorem mem_l {p : Addr} {fp fq : List Addr} (h : p ∈ fp) : p ∈ fp ++ fq := List.mem_append_left _ h
theorem mem_r {p : Addr} {fp fq : List Addr} (h : p ∈ fq) : p ∈ fp ++ fq := List.mem_append_right _ h
mutual
theorem Own.mono (e : Le F F') : ∀ {v : V} {t : Tr} {fp : List Addr}, (∀ p ∈ fp, ∀ o, R p o → R' p o) → Own K F R v t fp → Own K F' R' v t fp
  | _, _, _, _, .d r => .d (r.mono e)
  | _, _, _, h, .l a r => .l (h _ List.mem_cons_self _ a) (OwnA.mono e (fun p q => h p (List.mem_cons_of_mem _ q)) r)
  | _, _, _, h, .o a b r => .o (h _ List.mem_cons_self _ a) (h _ (List.mem_cons_of_mem _ List.mem_cons_self) _ b) (OwnF.mono e (fun p q => h p (List.mem_cons_of_mem _ (List.mem_cons_of_mem _ q))) r)
  | _, _, _, h, .k a r => .k (h _ List.mem_cons_self _ a) (OwnK.mono e (fun p q => h p (List.mem_cons_of_mem _ q)) r)
  | _, _, _, h, .pin r => .pin (Own.mono e h r)
  | _, _, _, h, .hole => .hole
theorem OwnA.mono (e : Le F F') : ∀ {v : List V} {t : List Tr} {fp : List Addr}, (∀ p ∈ fp, ∀ o, R p o → R' p o) → OwnA K F R v t fp → OwnA K F' R' v t fp
  | _, _, _, _, .nil => .nil
  | _, _, _, h, .cons r s => .cons (Own.mono e (fun p q => h p (mem_l q)) r) (OwnA.mono e (fun p q => h p (mem_r q)) s)
theorem OwnF.mono (e : Le F F') : ∀ {v : List (Str × V)} {t : List (Str × Tr)} {fp : List Addr}, (∀ p ∈ fp, ∀ o, R p o → R' p o) → OwnF K F R v t fp → OwnF K F' R' v t fp
  | _, _, _, _, .nil => .nil
  | _, _, _, h, .cons r s => .cons (Own.mono e (fun p q => h p (mem_l q)) r) (OwnF.mono e (fun p q => h p (mem_r q)) s)
theorem OwnK.mono (e : Le F F') : ∀ {v : List (Key × V)} {t : List (Str × Tr)} {fp : List Addr}, (∀ p ∈ fp, ∀ o, R p o → R' p o) → OwnK K F R v t fp → OwnK K F' R' v t fp
  | _, _, _, _, .nil => .nil
  | _, _, _, h, .cons r s => .cons (Own.mono e (fun p q => h p (mem_l q)) r) (OwnK.mono e (fun p q => h p (mem_r q)) s)
end
mutual
theorem Own.at : ∀ {v : V} {t : Tr} {fp : List Addr}, Own K F R v t fp → ∀ p ∈ fp, ∃ o, R p o
  | _, _, _, .d _, p, h => by cases h
  | _, _, _, .l a r, p, h => by
    rcases List.mem_cons.mp h with rfl | h
    · exact ⟨_, a⟩
    · exact OwnA.at r p h
  | _, _, _, .o a b r, p, h => by
    rcases List.mem_cons.mp h with rfl | h
    · exact ⟨_, a⟩
    · rcases List.mem_cons.mp h with rfl | h
      · exact ⟨_, b⟩
      · exact OwnF.at r p h
  | _, _, _, .k a r, p, h => by
    rcases List.mem_cons.mp h with rfl | h
    · exact ⟨_, a⟩
    · exact OwnK.at r p h
  | _, _, _, .pin r, p, h => Own.at r p h
  | _, _, _, .hole, p, h => by cases h
theorem OwnA.at : ∀ {v : List V} {t : List Tr} {fp : List Addr}, OwnA K F R v t fp → ∀ p ∈ fp, ∃ o, R p o
  | _, _, _, .nil, p, h => by cases h
  | _, _, _, .cons r s, p, h => (List.mem_append.mp h).elim (Own.at r p) (OwnA.at s p)
theorem OwnF.at : ∀ {v : List (Str × V)} {t : List (Str × Tr)} {fp : List Addr}, OwnF K F R v t fp → ∀ p ∈ fp, ∃ o, R p o
  | _, _, _, .nil, p, h => by cases h
  | _, _, _, .cons r s, p, h => (List.mem_append.mp h).elim (Own.at r p) (OwnF.at s p)
theorem OwnK.at : ∀ {v : List (Key × V)} {t : List (Str × Tr)} {fp : List Addr}, OwnK K F R v t fp → ∀ p ∈ fp, ∃ o, R p o
  | _, _, _, .nil, p, h => by cases h
  | _, _, _, .cons r s, p, h => (List.mem_append.mp h).elim (Own.at r p) (OwnK.at s p)
end
end
def inO (O : Hp) : HR := fun p o => O p = some o
def inFO (F O : Hp) : HR := fun p o => F p = some o ∨ O p = some o
theorem Own.toFO {K : PySem.W.Frag} {F O : Hp} {v : V} {t : Tr} {fp : List Addr} (h : Own K F (inO O) v t fp) : Own K F (inFO F O) v t fp := h.mono (Le.refl F) fun _ _ _ q => .inr q
theorem Own.monoF {K : PySem.W.Frag} {F F' O : Hp} (e : Le F F') {v : V} {t : Tr} {fp : List Addr} (h : Own K F (inO O) v t fp) : Own K F' (inO O) v t fp := h.mono e fun _ _ _ q => q
theorem Own.monoFO {K : PySem.W.Frag} {F F' O O' : Hp} (e : Le F F') (e' : Le O O') {v : V} {t : Tr} {fp : List Addr} (h : Own K F (inFO F O) v t fp) : Own K F' (inFO F' O') v t fp := h.mono e fun p _ o q => q.imp (e p o) (e' p o)
inductive Sl where
  | un
  | va (d : Dt)
  | ol (ds : List Dt)
  | od (kvs : List (List Int × Dt))
  /-- just this value -/
  | pv (v : V)
  /-- owned; lent from without; lent from within (till something owned changes) -/
  | ow (t : Tr)
  | bo (t : Tr)
  | vo (t : Tr)
/-- kept while other slots are stored to -/
def Sl.own : Sl → Bool
  | .ol _ => true
  | .od _ => true
  | .ow _ => true
  | .bo _ => true
  | _ => false
def Sl.vol : Sl → Bool
  | .vo _ => true
  | _ => false
def noVo (G : List Sl) : Bool := G.all fun s => !s.vol
def SlOk (K : PySem.W.Frag) (F O : Hp) (x : Option (Option V)) : Sl → Prop
  | .un => True
  | .va d => ∃ v, x = some (some v) ∧ Dr K F v d
  | .ol ds => ∃ a vs, x = some (some (.ref a)) ∧ O a = some (.lst vs) ∧ DrA K F vs ds
  | .od kvs => ∃ a ks, x = some (some (.ref a)) ∧ O a = some (.dT ks) ∧ DrK K F ks kvs
  | .pv v => x = some (some v)
  | .ow t => ∃ v fp, x = some (some v) ∧ Own K F (inO O) v t fp
  | .bo t => ∃ v fp, x = some (some v) ∧ Own K F (inFO F O) v t fp
  | .vo t => ∃ v fp, x = some (some v) ∧ Own K F (inFO F O) v t fp
theorem SlOk.mono {K : PySem.W.Frag} {F F' O : Hp} {x : Option (Option V)} (e : Le F F') : ∀ {s : Sl}, SlOk K F O x s → SlOk K F' O x s
  | .un, _ => trivial
  | .va _, ⟨v, h1, h2⟩ => ⟨v, h1, h2.mono e⟩
  | .ol _, ⟨a, vs, h1, h2, h3⟩ => ⟨a, vs, h1, h2, h3.mono e⟩
  | .od _, ⟨a, vs, h1, h2, h3⟩ => ⟨a, vs, h1, h2, h3.mono e⟩
  | .pv _, h => h
  | .ow _, ⟨v, fp, h1, h2⟩ => ⟨v, fp, h1, h2.monoF e⟩
  | .bo _, ⟨v, fp, h1, h2⟩ => ⟨v, fp, h1, h2.monoFO e (Le.refl O)⟩
  | .vo _, ⟨v, fp, h1, h2⟩ => ⟨v, fp, h1, h2.monoFO e (Le.refl O)⟩
structure Er (K : PySem.W.Frag) (F O : Hp) (σ : L2.St) (G : List Sl) : Prop where
  len : σ.length = G.length
  at' : ∀ (i : Nat) (s : Sl), G[i]? = some s → SlOk K F O σ[i]? s
theorem Er.mono {K : PySem.W.Frag} {F F' O : Hp} {σ : L2.St} {G : List Sl} (h : Er K F O σ G) (e : Le F F') : Er K F' O σ G := ⟨h.len, fun i s q => (h.at' i s q).mono e⟩

/-- what a def returns: data, or new objects -/
class Rs (ρ : Type) where
  res : Cf → Hp → Hp → Hp → V → ρ → Prop
instance {α : Type} [Enc α] : Rs α := ⟨fun cf F _ _ v a => Dr cf.K F v (toD a)⟩
/-- what an exception of the class c leaves -/
def xdO (cf : Cf) (c : Nat) (p : Int) : HO := .xd [("name", .str (cf.nm c)), ("place", .int p)]
/-- the reading t gives m's outcome, by rel -/
def EG {α ρ : Type} (cf : Cf) (E : XK) (t : L2.St → Hp → (ρ → Hp → Prop) → Prop) (G : List Sl) (m : R α) (rel : Hp → Hp → Hp → ρ → α → Prop) : Prop :=
  ∀ (F O H : Hp) (σ : L2.St) (Q : ρ → Hp → Prop), Fm F O H → Er cf.K F O σ G → m ≠ .bad →
    (∀ a r F' H', m = .ok a → Le F F' → Fm F' O H' → rel F' O H' r a → Q r H') →
    (∀ c p d F' H', m = .er c p → Le F F' → Fm F' O H' → F' d = some (xdO cf c p) → E (.ref (cf.cls c)) (some d) H') → t σ H Q
section
variable (cf : Cf)
/-- never changed data -/
def RM {α : Type} [Enc α] (F O H : Hp) (v : V) (a : α) : Prop := Dr cf.K F v (toD a)
def RB (F O H : Hp) (b : Bool) (a : Bool) : Prop := b = a
def RA (F O H : Hp) (vs : List V) (ds : List Dt) : Prop := DrA cf.K F vs ds
def RO (F O H : Hp) (o : Option Int) (a : Option Int) : Prop := o = a
/-- a list that may be read -/
def RL {α : Type} [Enc α] (F O H : Hp) (v : V) (xs : List α) : Prop := ∃ a vs, v = .ref a ∧ (F a = some (.lst vs) ∨ O a = some (.lst vs)) ∧ DrA cf.K F vs (xs.map toD)
/-- .. or the script -/
def RS {α : Type} [Enc α] (F O H : Hp) (v : V) (xs : List α) : Prop := ∃ a vs, v = .ref a ∧ (SqL cf.K F a vs ∨ O a = some (.lst vs)) ∧ DrA cf.K F vs (xs.map toD)
/-- a new list that nobody owns -/
def RF {α : Type} [Enc α] (F O H : Hp) (v : V) (xs : List α) : Prop := ∃ a vs, v = .ref a ∧ F a = none ∧ O a = none ∧ H a = some (.lst vs) ∧ DrA cf.K F vs (xs.map toD)
abbrev EM {α : Type} [Enc α] (E : XK) (t : TE) (G : List Sl) (m : R α) : Prop := EG cf E t G m (RM cf)
abbrev EB (E : XK) (t : TT) (G : List Sl) (m : R Bool) : Prop := EG cf E t G m RB
abbrev EA (E : XK) (t : TA) (G : List Sl) (m : R (List Dt)) : Prop := EG cf E t G m (RA cf)
abbrev EO (E : XK) (t : TO) (G : List Sl) (m : R (Option Int)) : Prop := EG cf E t G m RO
abbrev EL {α : Type} [Enc α] (E : XK) (t : TE) (G : List Sl) (m : R (List α)) : Prop := EG cf E t G m (RL cf)
abbrev ES {α : Type} [Enc α] (E : XK) (t : TE) (G : List Sl) (m : R (List α)) : Prop := EG cf E t G m (RS cf)
abbrev EF {α : Type} [Enc α] (E : XK) (t : TE) (G : List Sl) (m : R (List α)) : Prop := EG cf E t G m (RF cf)
end
section
variable {cf : Cf} {E : XK} {G : List Sl} {α β γ ρ τ : Type}
/-- one reading, then another -/
theorem EG.bind {t : L2.St → Hp → (ρ → Hp → Prop) → Prop} {u : ρ → L2.St → Hp → (τ → Hp → Prop) → Prop} {m : R α} {f : α → R β} {rel : Hp → Hp → Hp → ρ → α → Prop} {rel' : Hp → Hp → Hp → τ → β → Prop}
    (h : EG cf E t G m rel) (k : ∀ (F O H : Hp) (σ : L2.St) (Q : τ → Hp → Prop) (a : α) (r : ρ), Fm F O H → Er cf.K F O σ G → rel F O H r a → f a ≠ .bad →
      (∀ b r' F' H', f a = .ok b → Le F F' → Fm F' O H' → rel' F' O H' r' b → Q r' H') →
      (∀ c p d F' H', f a = .er c p → Le F F' → Fm F' O H' → F' d = some (xdO cf c p) → E (.ref (cf.cls c)) (some d) H') → u r σ H Q) :
    EG cf E (fun σ H Q => t σ H fun r H1 => u r σ H1 Q) G (m.bind f) rel' := fun F O H σ Q hf he nb ko ke => by
  refine h F O H σ _ hf he (R.bind_nb nb) (fun a r F' H' ea le hf' hr => ?_) (fun c p d F' H' ea le hf' hd => ke c p d F' H' (by rw [ea]; rfl) le hf' hd)
  subst ea
  exact k F' O H' σ Q a r hf' (he.mono le) hr nb (fun b r' F'' H'' e le' => ko b r' F'' H'' e (le.trans le')) (fun c p d F'' H'' e le' => ke c p d F'' H'' e (le.trans le'))
theorem EG.imp {t : L2.St → Hp → (ρ → Hp → Prop) → Prop} {m : R α} {rel rel' : Hp → Hp → Hp → ρ → α → Prop} (h : EG cf E t G m rel) (w : ∀ F O H r a, Fm F O H → rel F O H r a → rel' F O H r a) : EG cf E t G m rel' :=
  fun F O H σ Q hf he nb ko ke => h F O H σ Q hf he nb (fun a r F' H' e le hf' hr => ko a r F' H' e le hf' (w F' O H' r a hf' hr)) ke
/-- conclude a reading that gives a value at once -/
theorem EG.fin {t : L2.St → Hp → (ρ → Hp → Prop) → Prop} {a : α} {rel : Hp → Hp → Hp → ρ → α → Prop} (h : ∀ (F O H : Hp) (σ : L2.St) (Q : ρ → Hp → Prop), Fm F O H → Er cf.K F O σ G → (∀ r F' H', Le F F' → Fm F' O H' → rel F' O H' r a → Q r H') → t σ H Q) : EG cf E t G (.ok a) rel :=
  fun F O H σ Q hf he _ ko _ => h F O H σ Q hf he fun r F' H' le hf' hr => ko a r F' H' rfl le hf' hr
theorem EG.cast {t : L2.St → Hp → (ρ → Hp → Prop) → Prop} {m n : R α} {rel : Hp → Hp → Hp → ρ → α → Prop} (h : EG cf E t G m rel) (e : m = n) : EG cf E t G n rel := e ▸ h
/-- a fresh list is let go: data -/
theorem EF.toM [Enc α] {t : TE} {m : R (List α)} (h : EF cf E t G m) : EM cf E t G m := fun F O H σ Q hf he nb ko ke => by
  refine h F O H σ Q hf he nb (fun xs v F' H' e le hf' hr => ?_) ke
  obtain ⟨a, vs, rfl, hFa, hOa, hHa, r⟩ := hr
  have le2 : Le F' (upd F' a (.lst vs)) := Le.new hFa
  refine ko xs _ (upd F' a (.lst vs)) H' e (le.trans le2) ⟨fun b o q => ?_, hf'.o, fun b q => ?_, hf'.nt⟩ (.lst upd_same (r.mono le2))
  · by_cases hb : b = a
    · subst hb
      rw [upd_same] at q
      rw [hHa]
      exact q
    · rw [upd_ne hb] at q
      exact hf'.f b o q
  · by_cases hb : b = a
    · subst hb
      exact hOa
    · rw [upd_ne hb] at q
      exact hf'.ds b q
theorem EM.toL [Enc α] {t : TE} {m : R (List α)} (h : EM cf E t G m) : EL cf E t G m := EG.imp h fun F O H v xs _ r => by
  obtain ⟨a, vs, e, h1, h2⟩ := dr_lst r
  exact ⟨a, vs, e, .inl h1, h2⟩
theorem EL.toS [Enc α] {t : TE} {m : R (List α)} (h : EL cf E t G m) : ES cf E t G m := EG.imp h fun F O H v xs _ r => by
  obtain ⟨a, vs, e, h1, h2⟩ := r
  rcases h1 with h1 | h1
  · exact ⟨a, vs, e, .inl (SqL.of h1), h2⟩
  · exact ⟨a, vs, e, .inr h1, h2⟩
theorem EM.toS [Enc α] {t : TE} {m : R (List α)} (h : EM cf E t G m) : ES cf E t G m := EL.toS (EM.toL h)
theorem EF.toL [Enc α] {t : TE} {m : R (List α)} (h : EF cf E t G m) : EL cf E t G m := EM.toL (EF.toM h)
theorem EF.toS [Enc α] {t : TE} {m : R (List α)} (h : EF cf E t G m) : ES cf E t G m := EM.toS (EF.toM h)
theorem drA_ints {K : PySem.W.Frag} {F : Hp} : ∀ ns : List Int, DrA K F (ns.map V.int) (ns.map toD)
  | [] => .nil
  | n :: r => .cons (.int n) (drA_ints r)
theorem ints_of_drA {K : PySem.W.Frag} {F : Hp} : ∀ {ns : List Int} {vs : List V}, DrA K F vs (ns.map toD) → vs = ns.map V.int
  | [], _, h => by rw [drA_nil h]; rfl
  | n :: r, _, h => by
    obtain ⟨v, q, rfl, h1, h2⟩ := drA_cons h
    rw [ints_of_drA h2, dr_int (i := n) h1]
    rfl
theorem bls_of_drA {K : PySem.W.Frag} {F : Hp} : ∀ {ns : List Bool} {vs : List V}, DrA K F vs (ns.map toD) → vs = ns.map V.bl
  | [], _, h => by rw [drA_nil h]; rfl
  | n :: r, _, h => by
    obtain ⟨v, q, rfl, h1, h2⟩ := drA_cons h
    rw [bls_of_drA h2, dr_bl (i := n) h1]
    rfl
/-- the script as a list of ints -/
theorem EM.scr {t : TE} {m : R Scr} (h : EM cf E t G m) : ES cf E t G (m.bind fun s => .ok s.ns) := fun F O H σ Q hf he nb ko ke => by
  refine h F O H σ Q hf he (R.bind_nb nb) (fun s v F' H' e le hf' hr => ?_) (fun c p d F' H' e => ke c p d F' H' (by rw [e]; rfl))
  obtain ⟨a, ea, hs⟩ := dr_scr (ns := s.ns) hr
  exact ko s.ns _ F' H' (by rw [e]; rfl) le hf' ⟨a, _, ea, .inl hs, drA_ints s.ns⟩

/-! ### names, constants -/
theorem em_var [Enc α] (i : Nat) (a : α) (h : G[i]? = some (.va (toD a))) : EM cf E (tVar i) G (.ok a) := EG.fin fun F O H σ Q hf he ko => by
  obtain ⟨v, e, r⟩ := he.at' i _ h
  exact ⟨v, e, ko v F H (Le.refl F) hf r⟩
theorem el_own [Enc α] (i : Nat) (xs : List α) (h : G[i]? = some (.ol (xs.map toD))) : EL cf E (tVar i) G (.ok xs) := EG.fin fun F O H σ Q hf he ko => by
  obtain ⟨a, vs, e, h1, r⟩ := he.at' i _ h
  exact ⟨_, e, ko _ F H (Le.refl F) hf ⟨a, vs, rfl, .inr h1, r⟩⟩
theorem em_int (i : Int) : EM cf E (tC (.int i)) G (.ok i) := EG.fin fun F O H σ Q hf he ko => ko _ F H (Le.refl F) hf (.int i)
theorem em_bl (i : Bool) : EM cf E (tC (.bl i)) G (.ok i) := EG.fin fun F O H σ Q hf he ko => ko _ F H (Le.refl F) hf (.bl i)
theorem em_str (i : Str) : EM cf E (tC (.str i)) G (.ok i) := EG.fin fun F O H σ Q hf he ko => ko _ F H (Le.refl F) hf (.str i)
theorem em_none [Enc α] : EM cf E (tC .non) G (.ok (none : Option α)) := EG.fin fun F O H σ Q hf he ko => ko _ F H (Le.refl F) hf .non
theorem em_unit : EM cf E (tC .non) G (.ok ()) := EG.fin fun F O H σ Q hf he ko => ko _ F H (Le.refl F) hf .non
/-- a value where a value or None may be -/
theorem EM.just [Enc α] {t : TE} {m : R α} (h : EM cf E t G m) : EM cf E t G (m.bind fun a => .ok (some a)) := fun F O H σ Q hf he nb ko ke =>
  h F O H σ Q hf he (R.bind_nb nb) (fun a v F' H' e le hf' hr => ko (some a) v F' H' (by rw [e]; rfl) le hf' hr) (fun c p d F' H' e => ke c p d F' H' (by rw [e]; rfl))
theorem EM.inl [Enc α] [Enc β] {t : TE} {m : R α} (h : EM cf E t G m) : EM cf E t G (m.bind fun a => .ok (Sum.inl a : α ⊕ β)) := fun F O H σ Q hf he nb ko ke =>
  h F O H σ Q hf he (R.bind_nb nb) (fun a v F' H' e le hf' hr => ko (.inl a) v F' H' (by rw [e]; rfl) le hf' hr) (fun c p d F' H' e => ke c p d F' H' (by rw [e]; rfl))
theorem EM.inr [Enc α] [Enc β] {t : TE} {m : R β} (h : EM cf E t G m) : EM cf E t G (m.bind fun a => .ok (Sum.inr a : α ⊕ β)) := fun F O H σ Q hf he nb ko ke =>
  h F O H σ Q hf he (R.bind_nb nb) (fun a v F' H' e le hf' hr => ko (.inr a) v F' H' (by rw [e]; rfl) le hf' hr) (fun c p d F' H' e => ke c p d F' H' (by rw [e]; rfl))
end
end Kr

/-! KrB: operators, calls of built-ins, lists, tuples by data. -/
namespace Kr
open PySem PySem.Spec PyProof.Rows L2
open Enc (toD)

section
variable {cf : Cf} {E : XK} {G : List Sl} {α β γ δ ρ ρ' τ : Type}
theorem EG.bind2 {t1 : L2.St → Hp → (ρ → Hp → Prop) → Prop} {t2 : L2.St → Hp → (ρ' → Hp → Prop) → Prop} {m1 : R α} {m2 : R β} {f : α → β → R γ} {rel1 : Hp → Hp → Hp → ρ → α → Prop} {rel2 : Hp → Hp → Hp → ρ' → β → Prop} {rel3 : Hp → Hp → Hp → τ → γ → Prop}
    {u : ρ → ρ' → Hp → (τ → Hp → Prop) → Prop} (h1 : EG cf E t1 G m1 rel1) (h2 : EG cf E t2 G m2 rel2) (mono : ∀ F O H F' H' r a, Le F F' → Fm F' O H' → rel1 F O H r a → rel1 F' O H' r a)
    (k : ∀ (F O H : Hp) (Q : τ → Hp → Prop) (a : α) (r : ρ) (b : β) (s : ρ'), Fm F O H → rel1 F O H r a → rel2 F O H s b → f a b ≠ .bad → (∀ c x F' H', f a b = .ok c → Le F F' → Fm F' O H' → rel3 F' O H' x c → Q x H') → u r s H Q) :
    EG cf E (fun σ H Q => t1 σ H fun r H1 => t2 σ H1 fun s H2 => u r s H2 Q) G (m1.bind fun a => m2.bind fun b => f a b) rel3 :=
  EG.bind (u := fun r σ H Q => t2 σ H fun s H2 => u r s H2 Q) h1 fun F O H σ Q a r hf he hr nb ko ke =>
    h2 F O H σ _ hf he (R.bind_nb nb) (fun b s F' H' eb le hf' hs => k F' O H' Q a r b s hf' (mono F O H F' H' r a le hf' hr) hs (by rw [eb] at nb; exact nb) fun c x F'' H'' e le' => ko c x F'' H'' (by rw [eb]; exact e) (le.trans le'))
      fun c p d F' H' e => ke c p d F' H' (by rw [e]; rfl)
/-- one reading, then a step that raises nothing -/
theorem EG.bind1 {t1 : L2.St → Hp → (ρ → Hp → Prop) → Prop} {m1 : R α} {f : α → R γ} {rel1 : Hp → Hp → Hp → ρ → α → Prop} {rel3 : Hp → Hp → Hp → τ → γ → Prop}
    {u : ρ → Hp → (τ → Hp → Prop) → Prop} (h1 : EG cf E t1 G m1 rel1)
    (k : ∀ (F O H : Hp) (Q : τ → Hp → Prop) (a : α) (r : ρ), Fm F O H → rel1 F O H r a → f a ≠ .bad → (∀ c x F' H', f a = .ok c → Le F F' → Fm F' O H' → rel3 F' O H' x c → Q x H') → u r H Q) :
    EG cf E (fun σ H Q => t1 σ H fun r H1 => u r H1 Q) G (m1.bind f) rel3 :=
  EG.bind (u := fun r σ H Q => u r H Q) h1 fun F O H σ Q a r hf he hr nb ko ke => k F O H Q a r hf hr nb ko
theorem EG.bind3 {ρ'' : Type} {t1 : L2.St → Hp → (ρ → Hp → Prop) → Prop} {t2 : L2.St → Hp → (ρ' → Hp → Prop) → Prop} {t3 : L2.St → Hp → (ρ'' → Hp → Prop) → Prop} {m1 : R α} {m2 : R β} {m3 : R γ} {f : α → β → γ → R δ}
    {rel1 : Hp → Hp → Hp → ρ → α → Prop} {rel2 : Hp → Hp → Hp → ρ' → β → Prop} {rel3 : Hp → Hp → Hp → ρ'' → γ → Prop} {rel4 : Hp → Hp → Hp → τ → δ → Prop}
    {u : ρ → ρ' → ρ'' → Hp → (τ → Hp → Prop) → Prop} (h1 : EG cf E t1 G m1 rel1) (h2 : EG cf E t2 G m2 rel2) (h3 : EG cf E t3 G m3 rel3)
    (mono1 : ∀ F O H F' H' r a, Le F F' → Fm F' O H' → rel1 F O H r a → rel1 F' O H' r a) (mono2 : ∀ F O H F' H' r a, Le F F' → Fm F' O H' → rel2 F O H r a → rel2 F' O H' r a)
    (k : ∀ (F O H : Hp) (Q : τ → Hp → Prop) (a : α) (r : ρ) (b : β) (s : ρ') (c : γ) (t : ρ''), Fm F O H → rel1 F O H r a → rel2 F O H s b → rel3 F O H t c → f a b c ≠ .bad → (∀ d x F' H', f a b c = .ok d → Le F F' → Fm F' O H' → rel4 F' O H' x d → Q x H') → u r s t H Q) :
    EG cf E (fun σ H Q => t1 σ H fun r H1 => t2 σ H1 fun s H2 => t3 σ H2 fun t H3 => u r s t H3 Q) G (m1.bind fun a => m2.bind fun b => m3.bind fun c => f a b c) rel4 :=
  EG.bind (u := fun r σ H Q => t2 σ H fun s H2 => t3 σ H2 fun t H3 => u r s t H3 Q) h1 fun F O H σ Q a r hf he hr nb ko ke =>
    h2 F O H σ _ hf he (R.bind_nb nb) (fun b s F' H' eb le hf' hs => by
      rw [eb, R.ok_bind] at nb ko ke
      exact h3 F' O H' σ _ hf' (he.mono le) (R.bind_nb nb) (fun c t F'' H'' ec le' hf'' ht => k F'' O H'' Q a r b s c t hf'' (mono1 F O H F'' H'' r a (le.trans le') hf'' hr) (mono2 F' O H' F'' H'' s b le' hf'' hs) ht (by rw [ec] at nb; exact nb)
        fun d x F3 H3 e le3 => ko d x F3 H3 (by rw [ec]; exact e) ((le.trans le').trans le3)) fun c p d F'' H'' e le' => ke c p d F'' H'' (by rw [e]; rfl) (le.trans le'))
      fun c p d F' H' e => ke c p d F' H' (by rw [e]; rfl)
theorem rm_mono [Enc α] (F O H F' H' : Hp) (r : V) (a : α) (le : Le F F') (_ : Fm F' O H') (h : RM cf F O H r a) : RM cf F' O H' r a := Dr.mono le h
theorem rl_mono [Enc α] (F O H F' H' : Hp) (r : V) (a : List α) (le : Le F F') (_ : Fm F' O H') (h : RL cf F O H r a) : RL cf F' O H' r a := by
  obtain ⟨a, vs, e, h1, h2⟩ := h
  exact ⟨a, vs, e, h1.imp (le _ _) id, h2.mono le⟩
theorem rs_mono [Enc α] (F O H F' H' : Hp) (r : V) (a : List α) (le : Le F F') (_ : Fm F' O H') (h : RS cf F O H r a) : RS cf F' O H' r a := by
  obtain ⟨a, vs, e, h1, h2⟩ := h
  exact ⟨a, vs, e, h1.imp le.seq id, h2.mono le⟩
theorem RS.seq [Enc α] {F O H : Hp} {v : V} {xs : List α} (h : RS cf F O H v xs) (hf : Fm F O H) : ∃ a vs, v = .ref a ∧ SqL cf.K H a vs ∧ DrA cf.K F vs (xs.map toD) := by
  obtain ⟨a, vs, e, h1, h2⟩ := h
  rcases h1 with h1 | h1
  · exact ⟨a, vs, e, hf.f.seq h1, h2⟩
  · exact ⟨a, vs, e, SqL.of (hf.o _ _ h1), h2⟩
theorem RL.at [Enc α] {F O H : Hp} {v : V} {xs : List α} (h : RL cf F O H v xs) (hf : Fm F O H) : ∃ a vs, v = .ref a ∧ H a = some (.lst vs) ∧ DrA cf.K F vs (xs.map toD) := by
  obtain ⟨a, vs, e, h1, h2⟩ := h
  rcases h1 with h1 | h1
  · exact ⟨a, vs, e, hf.f _ _ h1, h2⟩
  · exact ⟨a, vs, e, hf.o _ _ h1, h2⟩

/-! ### numbers -/
variable {ta tb tc : TE}
theorem em_I0 {g : Int → Int → Int} {ma mb : R Int} (ha : EM cf E ta G ma) (hb : EM cf E tb G mb) : EM cf E (tOp (rI0 fun i j => .int (g i j)) ta tb) G (ma.bind fun a => mb.bind fun b => .ok (g a b)) :=
  EG.bind2 (u := fun x y H Q => rI0 (fun i j => .int (g i j)) x y H Q) ha hb rm_mono fun F O H Q a r b s hf h1 h2 _ ko => ⟨a, b, dr_int h1, dr_int h2, ko _ _ F H rfl (Le.refl F) hf (.int _)⟩
theorem em_B0 {g : Int → Int → Bool} {ma mb : R Int} (ha : EM cf E ta G ma) (hb : EM cf E tb G mb) : EM cf E (tOp (rI0 fun i j => .bl (g i j)) ta tb) G (ma.bind fun a => mb.bind fun b => .ok (g a b)) :=
  EG.bind2 (u := fun x y H Q => rI0 (fun i j => .bl (g i j)) x y H Q) ha hb rm_mono fun F O H Q a r b s hf h1 h2 _ ko => ⟨a, b, dr_int h1, dr_int h2, ko _ _ F H rfl (Le.refl F) hf (.bl _)⟩
/-- an operation on two ints under a condition -/
theorem em_IC {C : Int → Int → Prop} {g : Int → Int → Int} {f : Int → Int → R Int} (hC : ∀ a b, f a b ≠ .bad → C a b ∧ f a b = .ok (g a b)) {ma mb : R Int} (ha : EM cf E ta G ma) (hb : EM cf E tb G mb) :
    EM cf E (tOp (rI C fun i j => .int (g i j)) ta tb) G (ma.bind fun a => mb.bind fun b => f a b) :=
  EG.bind2 (u := fun x y H Q => rI C (fun i j => .int (g i j)) x y H Q) ha hb rm_mono fun F O H Q a r b s hf h1 h2 nb ko => ⟨a, b, dr_int h1, dr_int h2, (hC a b nb).1, ko _ _ F H (hC a b nb).2 (Le.refl F) hf (.int _)⟩
theorem em_neg {ma : R Int} (ha : EM cf E ta G ma) : EM cf E (tUn (rU fun i => .int (-i)) ta) G (ma.bind fun a => .ok (-a)) :=
  EG.bind1 (u := fun x H Q => rU (fun i => .int (-i)) x H Q) ha fun F O H Q a r hf h1 _ ko => ⟨a, dr_int h1, ko _ _ F H rfl (Le.refl F) hf (.int _)⟩
/-- * -/
def mulR (a b : Int) : R Int := if (Builtin.Int.intBits a : Int) + (Builtin.Int.intBits b : Int) ≤ 134217728 then .ok (a * b) else .bad
def divR (a b : Int) : R Int := if 0 < b ∧ b.natAbs.log2 < 9000 then .ok (a / b) else .bad
def modR (a b : Int) : R Int := if 0 < b then .ok (a % b) else .bad
def shlR (a b : Int) : R Int := if 0 ≤ b ∧ (Builtin.Int.intBits a : Int) + b ≤ 134217728 then .ok (a * 2 ^ b.toNat) else .bad
def shrR (a b : Int) : R Int := if 0 ≤ b then .ok (a / 2 ^ b.toNat) else .bad
theorem em_mul {ma mb : R Int} (ha : EM cf E ta G ma) (hb : EM cf E tb G mb) : EM cf E (tOp (rI CMulX fun i j => .int (i * j)) ta tb) G (ma.bind fun a => mb.bind fun b => mulR a b) := em_IC (f := mulR) (g := fun a b => a * b) (fun a b h => by
  unfold mulR at *
  split at h
  · rename_i c
    rw [if_pos c]
    exact ⟨c, rfl⟩
  · exact absurd rfl h) ha hb
theorem em_div {ma mb : R Int} (ha : EM cf E ta G ma) (hb : EM cf E tb G mb) : EM cf E (tOp (rI CDivW fun i j => .int (i / j)) ta tb) G (ma.bind fun a => mb.bind fun b => divR a b) := em_IC (f := divR) (g := fun a b => a / b) (fun a b h => by
  unfold divR at *
  split at h
  · rename_i c
    rw [if_pos c]
    exact ⟨c, rfl⟩
  · exact absurd rfl h) ha hb
theorem em_mod {ma mb : R Int} (ha : EM cf E ta G ma) (hb : EM cf E tb G mb) : EM cf E (tOp (rI (fun _ j => 0 < j) fun i j => .int (i % j)) ta tb) G (ma.bind fun a => mb.bind fun b => modR a b) := em_IC (f := modR) (g := fun a b => a % b) (fun a b h => by
  unfold modR at *
  split at h
  · rename_i c
    rw [if_pos c]
    exact ⟨c, rfl⟩
  · exact absurd rfl h) ha hb
theorem em_shl {ma mb : R Int} (ha : EM cf E ta G ma) (hb : EM cf E tb G mb) : EM cf E (tOp (rI CShl fun i j => .int (i * 2 ^ j.toNat)) ta tb) G (ma.bind fun a => mb.bind fun b => shlR a b) := em_IC (f := shlR) (g := fun a b => a * 2 ^ b.toNat) (fun a b h => by
  unfold shlR at *
  split at h
  · rename_i c
    rw [if_pos c]
    exact ⟨c, rfl⟩
  · exact absurd rfl h) ha hb
theorem em_shr {ma mb : R Int} (ha : EM cf E ta G ma) (hb : EM cf E tb G mb) : EM cf E (tOp (rI (fun _ j => 0 ≤ j) fun i j => .int (i / 2 ^ j.toNat)) ta tb) G (ma.bind fun a => mb.bind fun b => shrR a b) := em_IC (f := shrR) (g := fun a b => a / 2 ^ b.toNat) (fun a b h => by
  unfold shrR at *
  split at h
  · rename_i c
    rw [if_pos c]
    exact ⟨c, rfl⟩
  · exact absurd rfl h) ha hb
theorem em_bits {ma : R Int} (ha : EM cf E ta G ma) : EM cf E (tBits ta) G (ma.bind fun a => .ok ((Builtin.Int.intBits a : Nat) : Int)) :=
  EG.bind1 (u := fun (x : V) H Q => ∃ i, x = .int i ∧ Q (V.int (Builtin.Int.intBits i : Nat)) H) ha fun F O H Q a r hf h1 _ ko => ⟨a, dr_int h1, ko _ _ F H rfl (Le.refl F) hf (.int _)⟩

/-! ### comparisons of scalars, None, tests -/
theorem dr_scal {K : PySem.W.Frag} {F : Hp} {i : Int} {v : V} (h : Dr K F v (.int i)) : v = .int i := dr_int h
theorem em_eqI {ma mb : R Int} (ha : EM cf E ta G ma) (hb : EM cf E tb G mb) : EM cf E (tOp rEq ta tb) G (ma.bind fun a => mb.bind fun b => .ok (decide (a = b))) :=
  EG.bind2 (u := fun x y H Q => rEq x y H Q) ha hb rm_mono fun F O H Q a r b s hf h1 h2 _ ko => by
    rw [dr_int (i := a) h1, dr_int (i := b) h2]
    refine ⟨rfl, ?_⟩
    rw [show decide (V.int a = V.int b) = decide (a = b) by by_cases e : a = b <;> simp [e]]
    exact ko _ _ F H rfl (Le.refl F) hf (.bl _)
theorem em_neI {ma mb : R Int} (ha : EM cf E ta G ma) (hb : EM cf E tb G mb) : EM cf E (tOp rNe ta tb) G (ma.bind fun a => mb.bind fun b => .ok (!decide (a = b))) :=
  EG.bind2 (u := fun x y H Q => rNe x y H Q) ha hb rm_mono fun F O H Q a r b s hf h1 h2 _ ko => by
    rw [dr_int (i := a) h1, dr_int (i := b) h2]
    refine ⟨rfl, ?_⟩
    rw [show decide (V.int a = V.int b) = decide (a = b) by by_cases e : a = b <;> simp [e]]
    exact ko _ _ F H rfl (Le.refl F) hf (.bl _)
theorem em_eqB {ma mb : R Bool} (ha : EM cf E ta G ma) (hb : EM cf E tb G mb) : EM cf E (tOp rEq ta tb) G (ma.bind fun a => mb.bind fun b => .ok (decide (a = b))) :=
  EG.bind2 (u := fun x y H Q => rEq x y H Q) ha hb rm_mono fun F O H Q a r b s hf h1 h2 _ ko => by
    rw [dr_bl (i := a) h1, dr_bl (i := b) h2]
    refine ⟨rfl, ?_⟩
    rw [show decide (V.bl a = V.bl b) = decide (a = b) by by_cases e : a = b <;> simp [e]]
    exact ko _ _ F H rfl (Le.refl F) hf (.bl _)
theorem em_neB {ma mb : R Bool} (ha : EM cf E ta G ma) (hb : EM cf E tb G mb) : EM cf E (tOp rNe ta tb) G (ma.bind fun a => mb.bind fun b => .ok (!decide (a = b))) :=
  EG.bind2 (u := fun x y H Q => rNe x y H Q) ha hb rm_mono fun F O H Q a r b s hf h1 h2 _ ko => by
    rw [dr_bl (i := a) h1, dr_bl (i := b) h2]
    refine ⟨rfl, ?_⟩
    rw [show decide (V.bl a = V.bl b) = decide (a = b) by by_cases e : a = b <;> simp [e]]
    exact ko _ _ F H rfl (Le.refl F) hf (.bl _)
theorem isNone_of [Enc α] [NN α] {K : PySem.W.Frag} {F : Hp} {v : V} {o : Option α} (h : Dr K F v (toD o)) : decide (v = .non) = o.isNone := by
  cases o with
  | none =>
    rw [dr_non h]
    rfl
  | some a =>
    refine decide_eq_false fun e => ?_
    subst e
    have h' : Dr K F .non (toD a) := h
    generalize q : toD a = d at h'
    cases h'
    exact NN.nn a q
theorem em_isN [Enc α] [NN α] {ma : R (Option α)} (ha : EM cf E ta G ma) : EM cf E (tOp (fun x y H Q => y = .non ∧ Q (.bl (decide (x = .non))) H) ta (tC .non)) G (ma.bind fun a => .ok a.isNone) :=
  EG.bind1 (u := fun (x : V) (H : Hp) (Q : VK) => (V.non = V.non ∧ Q (V.bl (decide (x = V.non))) H)) ha fun F O H Q a r hf h1 _ ko => by
    rw [isNone_of h1]
    exact ⟨rfl, ko _ _ F H rfl (Le.refl F) hf (.bl _)⟩
theorem em_notN [Enc α] [NN α] {ma : R (Option α)} (ha : EM cf E ta G ma) : EM cf E (tOp (fun x y H Q => y = .non ∧ Q (.bl (!decide (x = .non))) H) ta (tC .non)) G (ma.bind fun a => .ok a.isSome) :=
  EG.bind1 (u := fun (x : V) (H : Hp) (Q : VK) => (V.non = V.non ∧ Q (V.bl (!decide (x = V.non))) H)) ha fun F O H Q a r hf h1 _ ko => by
    rw [isNone_of h1]
    exact ⟨rfl, ko _ _ F H rfl (Le.refl F) hf (by cases a <;> exact .bl _)⟩
theorem eb_test {ma : R Bool} (ha : EM cf E ta G ma) : EB cf E (tTest ta) G ma := fun F O H σ Q hf he nb ko ke =>
  ha F O H σ _ hf he nb (fun a v F' H' e le hf' hr => ⟨a, dr_bl hr, ko a a F' H' e le hf' rfl⟩) ke
theorem eb_B {ma : R Bool} (ha : EM cf E ta G ma) : EB cf E (tB ta) G ma := fun F O H σ Q hf he nb ko ke =>
  ha F O H σ _ hf he nb (fun a v F' H' e le hf' hr => ⟨a, dr_bl hr, ko a a F' H' e le hf' rfl⟩) ke
variable {t u : TT}
theorem eb_and {ma mb : R Bool} (ha : EB cf E t G ma) (hb : EB cf E u G mb) : EB cf E (tAnd t u) G (ma.bind fun a => if a = true then mb else .ok false) :=
  EG.bind (u := fun c σ H Q => if c = true then u σ H Q else Q false H) ha fun F O H σ Q a r hf he hr nb ko ke => by
    obtain rfl : r = a := hr
    cases r with
    | true => exact hb F O H σ Q hf he nb ko ke
    | false => exact ko false false F H rfl (Le.refl F) hf rfl
theorem eb_or {ma mb : R Bool} (ha : EB cf E t G ma) (hb : EB cf E u G mb) : EB cf E (tOr t u) G (ma.bind fun a => if a = true then .ok true else mb) :=
  EG.bind (u := fun c σ H Q => if c = true then Q true H else u σ H Q) ha fun F O H σ Q a r hf he hr nb ko ke => by
    obtain rfl : r = a := hr
    cases r with
    | true => exact ko true true F H rfl (Le.refl F) hf rfl
    | false => exact hb F O H σ Q hf he nb ko ke
theorem eb_not {ma : R Bool} (ha : EB cf E t G ma) : EB cf E (tNot t) G (ma.bind fun a => .ok (!a)) :=
  EG.bind1 (u := fun c H Q => Q (!c) H) ha fun F O H Q a r hf hr _ ko => by
    obtain rfl : r = a := hr
    exact ko _ _ F H rfl (Le.refl F) hf rfl
theorem em_and {ma mb : R Bool} (ha : EM cf E ta G ma) (hb : EM cf E tb G mb) : EM cf E (tAndV ta tb) G (ma.bind fun a => if a = true then mb else .ok false) :=
  EG.bind (u := fun (x : V) σ H (Q : VK) => ∃ c, x = V.bl c ∧ if c = true then tb σ H Q else Q (.bl false) H) ha fun F O H σ Q a r hf he hr nb ko ke => ⟨a, dr_bl hr, by
    cases a with
    | true => exact hb F O H σ Q hf he nb ko ke
    | false => exact ko false _ F H rfl (Le.refl F) hf (.bl false)⟩
theorem em_or {ma mb : R Bool} (ha : EM cf E ta G ma) (hb : EM cf E tb G mb) : EM cf E (tOrV ta tb) G (ma.bind fun a => if a = true then .ok true else mb) :=
  EG.bind (u := fun (x : V) σ H (Q : VK) => ∃ c, x = V.bl c ∧ if c = true then Q (.bl true) H else tb σ H Q) ha fun F O H σ Q a r hf he hr nb ko ke => ⟨a, dr_bl hr, by
    cases a with
    | true => exact ko true _ F H rfl (Le.refl F) hf (.bl true)
    | false => exact hb F O H σ Q hf he nb ko ke⟩
theorem em_not {ma : R Bool} (ha : EM cf E ta G ma) : EM cf E (tNotV ta) G (ma.bind fun a => .ok (!a)) :=
  EG.bind1 (u := fun (x : V) H (Q : VK) => ∃ c, x = V.bl c ∧ Q (V.bl (!c)) H) ha fun F O H Q a r hf hr _ ko => ⟨a, dr_bl hr, ko _ _ F H rfl (Le.refl F) hf (.bl _)⟩
theorem em_if [Enc α] {mt : R Bool} {ma mb : R α} (ht : EB cf E t G mt) (ha : EM cf E ta G ma) (hb : EM cf E tb G mb) : EM cf E (tIf t ta tb) G (mt.bind fun c => if c = true then ma else mb) :=
  EG.bind (u := fun c σ H Q => if c = true then ta σ H Q else tb σ H Q) ht fun F O H σ Q a r hf he hr nb ko ke => by
    obtain rfl : r = a := hr
    cases r with
    | true => exact ha F O H σ Q hf he nb ko ke
    | false => exact hb F O H σ Q hf he nb ko ke
end
end Kr

/-! KrC: lists, tuples, built-in calls by data. -/
namespace Kr
open PySem PySem.Spec PyProof.Rows L2
open Enc (toD)

section
variable {cf : Cf} {E : XK} {G : List Sl} {α β γ δ : Type} {ta tb tc : TE}
/-! ### chains -/
theorem em_chain {g g' : Int → Int → Bool} {ma mb mc : R Int} (ha : EM cf E ta G ma) (hb : EM cf E tb G mb) (hc : EM cf E tc G mc) :
    EM cf E (tChain (rI0 fun i j => .bl (g i j)) (rI0 fun i j => .bl (g' i j)) ta tb tc) G (ma.bind fun a => mb.bind fun b => if g a b = true then mc.bind fun c => .ok (g' b c) else .ok false) :=
  EG.bind (u := fun x σ H Q => tb σ H fun y H2 => rI0 (fun i j => .bl (g i j)) x y H2 fun z H3 => ∃ k, z = .bl k ∧ (if k = true then tc σ H3 fun w' H4 => rI0 (fun i j => .bl (g' i j)) y w' H4 Q else Q (.bl false) H3)) ha fun F O H σ Q a x hf he hx nb ko ke =>
    hb F O H σ _ hf he (R.bind_nb nb) (fun b y F' H' eb le hf' hy => ⟨a, b, dr_int hx, dr_int hy, g a b, rfl, by
      rw [eb, R.ok_bind] at nb ko ke
      cases hg : g a b with
      | true =>
        rw [hg, if_pos rfl] at nb ko ke
        rw [if_pos rfl]
        exact hc F' O H' σ _ hf' (he.mono le) (R.bind_nb nb) (fun c w' F'' H'' ec le' hf'' hw => ⟨b, c, dr_int hy, dr_int hw, ko _ _ F'' H'' (by rw [ec]; rfl) (le.trans le') hf'' (.bl _)⟩) fun c p d F'' H'' e le' => ke c p d F'' H'' (by rw [e]; rfl) (le.trans le')
      | false =>
        rw [hg, if_neg Bool.false_ne_true] at ko
        rw [if_neg Bool.false_ne_true]
        exact ko _ _ F' H' rfl le hf' (.bl _)⟩) fun c p d F' H' e => ke c p d F' H' (by rw [e]; rfl)

/-! ### arguments, displays -/
theorem ea_nil : EA cf E tNil G (.ok []) := EG.fin fun F O H σ Q hf he ko => ko _ F H (Le.refl F) hf .nil
theorem ea_cons [Enc α] {t : TE} {tr : TA} {m : R α} {mr : R (List Dt)} (h : EM cf E t G m) (hr : EA cf E tr G mr) : EA cf E (tCons t tr) G (m.bind fun a => mr.bind fun ds => .ok (toD a :: ds)) :=
  EG.bind2 (u := fun x xs H Q => Q (x :: xs) H) h hr rm_mono fun F O H Q a r b s hf h1 h2 _ ko => ko _ _ F H rfl (Le.refl F) hf (.cons h1 h2)
/-- arguments of one type -/
def EAs [Enc α] (cf : Cf) (E : XK) (t : TA) (G : List Sl) (m : R (List α)) : Prop := EG cf E t G m fun F _ _ vs xs => DrA cf.K F vs (xs.map toD)
theorem eas_nil [Enc α] : EAs cf E tNil G (.ok ([] : List α)) := EG.fin fun F O H σ Q hf he ko => ko _ F H (Le.refl F) hf .nil
theorem eas_cons [Enc α] {t : TE} {tr : TA} {m : R α} {mr : R (List α)} (h : EM cf E t G m) (hr : EAs cf E tr G mr) : EAs cf E (tCons t tr) G (m.bind fun a => mr.bind fun ds => .ok (a :: ds)) :=
  EG.bind2 (u := fun x xs H Q => Q (x :: xs) H) h hr rm_mono fun F O H Q a r b s hf h1 h2 _ ko => ko _ _ F H rfl (Le.refl F) hf (.cons h1 h2)
theorem sz_of {n : Nat} (h : n ≤ 100000) : n ≤ sizeLine := Nat.le_trans h (by decide)
theorem sz_lt {n : Nat} (h : n < 100000) : n < sizeLine := Nat.lt_of_lt_of_le h (by decide)
/-- a list that does not grow too long -/
def szR (xs : List α) : R (List α) := if xs.length ≤ 1000000 then .ok xs else .bad
theorem szR_ok {xs : List α} (h : xs.length ≤ 1000000) : szR xs = .ok xs := if_pos h
theorem szR_nb {xs : List α} (h : szR xs ≠ .bad) : xs.length ≤ 1000000 ∧ szR xs = .ok xs := by
  unfold szR at *
  split at h
  · rename_i c
    exact ⟨c, if_pos c⟩
  · exact absurd rfl h
theorem sz_le {n : Nat} (h : n ≤ 1000000) : n ≤ sizeLine := Nat.le_trans h (by decide)
theorem sz_ltM {n : Nat} (h : n ≤ 1000000) : n < sizeLine := Nat.lt_of_le_of_lt h (by decide)
theorem ef_lst [Enc α] {t : TA} {m : R (List α)} (h : EAs cf E t G m) : EF cf E (tLst t) G (m.bind szR) :=
  EG.bind1 (u := fun (vs : List V) (H : Hp) (Q : VK) => vs.length ≤ sizeLine ∧ ∀ p, H p = none → Q (.ref p) (upd H p (.lst vs))) h fun F O H Q a r hf h1 nb ko => by
    obtain ⟨c, e⟩ := szR_nb nb
    refine ⟨?_, fun p hp => ko _ _ F _ e (Le.refl F) (hf.newH hp) ⟨p, r, rfl, hf.fnone hp, hf.onone hp, upd_same, h1⟩⟩
    rw [DrA.length h1, List.length_map]
    exact sz_le c
theorem em_tup2 [Enc α] [Enc β] {m : R α} {n : R β} (h : EM cf E ta G m) (h' : EM cf E tb G n) : EM cf E (tTup (tCons ta (tCons tb tNil))) G (m.bind fun a => n.bind fun b => .ok (a, b)) :=
  EG.bind2 (u := fun (x y : V) (H : Hp) (Q : VK) => 2 ≤ sizeLine ∧ ∀ p, H p = none → Q (.ref p) (upd H p (.tup [x, y]))) h h' rm_mono fun F O H Q a r b s hf h1 h2 _ ko =>
    ⟨by decide, fun p hp => ko _ _ (upd F p (.tup [r, s])) _ rfl (Le.new (hf.fnone hp)) (hf.newF hp) (.tup upd_same (.cons (Dr.mono (Le.new (hf.fnone hp)) h1) (.cons (Dr.mono (Le.new (hf.fnone hp)) h2) .nil)))⟩
theorem em_tup3 [Enc α] [Enc β] [Enc γ] {m : R α} {n : R β} {l : R γ} (h : EM cf E ta G m) (h' : EM cf E tb G n) (h'' : EM cf E tc G l) : EM cf E (tTup (tCons ta (tCons tb (tCons tc tNil)))) G (m.bind fun a => n.bind fun b => l.bind fun c => .ok (T3.mk a b c)) :=
  EG.bind3 (u := fun (x y z : V) (H : Hp) (Q : VK) => 3 ≤ sizeLine ∧ ∀ p, H p = none → Q (.ref p) (upd H p (.tup [x, y, z]))) h h' h'' rm_mono rm_mono fun F O H Q a r b s c t hf h1 h2 h3 _ ko =>
    ⟨by decide, fun p hp => ko _ _ (upd F p (.tup [r, s, t])) _ rfl (Le.new (hf.fnone hp)) (hf.newF hp) (.tup upd_same (.cons (Dr.mono (Le.new (hf.fnone hp)) h1) (.cons (Dr.mono (Le.new (hf.fnone hp)) h2) (.cons (Dr.mono (Le.new (hf.fnone hp)) h3) .nil))))⟩

/-! ### subscripts, slices -/
def idxR (xs : List α) (i : Int) : R α := match atI xs i with
  | some a => .ok a
  | none => .bad
theorem atI_map {β : Type} (f : α → β) (xs : List α) (i : Int) : atI (xs.map f) i = (atI xs i).map f := by
  unfold atI
  rw [List.length_map]
  cases ixN xs.length i with
  | none => rfl
  | some j => simp
theorem atI_drA {K : PySem.W.Frag} {F : Hp} {vs : List V} {ds : List Dt} {i : Int} {d : Dt} (h : DrA K F vs ds) (e : atI ds i = some d) : ∃ v, atI vs i = some v ∧ Dr K F v d := by
  unfold atI at *
  rw [h.length]
  cases q : ixN ds.length i with
  | none =>
    rw [q] at e
    cases e
  | some j =>
    rw [q] at e
    exact h.get e
theorem em_ixL [Enc α] {m : R (List α)} {n : R Int} (h : ES cf E ta G m) (h' : EM cf E tb G n) : EM cf E (tOp (rIxL cf.K) ta tb) G (m.bind fun xs => n.bind fun i => idxR xs i) :=
  EG.bind2 (u := fun x y H Q => rIxL cf.K x y H Q) h h' rs_mono fun F O H Q xs r i s hf h1 h2 nb ko => by
    obtain ⟨a, vs, e, hs, hr⟩ := RS.seq h1 hf
    unfold idxR at nb ko
    cases q : atI xs i with
    | none =>
      rw [q] at nb
      exact absurd rfl nb
    | some x =>
      rw [q] at ko
      obtain ⟨v, ev, rv⟩ := atI_drA hr (show atI (xs.map toD) i = some (toD x) by rw [atI_map, q]; rfl)
      exact ⟨a, vs, i, v, e, dr_int h2, hs, ev, ko x v F H rfl (Le.refl F) hf rv⟩
theorem em_fst [Enc α] [Enc β] {m : R (α × β)} (h : EM cf E ta G m) : EM cf E (tOp (rIxT cf.K) ta (tC (.int 0))) G (m.bind fun p => .ok p.1) :=
  EG.bind1 (u := fun x H Q => rIxT cf.K x (.int 0) H Q) h fun F O H Q a r hf h1 _ ko => by
    obtain ⟨p, vs, e, ht, hr⟩ := dr_tup (ds := [toD a.1, toD a.2]) h1
    obtain ⟨v, ev, rv⟩ := atI_drA hr (show atI [toD a.1, toD a.2] 0 = some (toD a.1) from rfl)
    exact ⟨p, vs, 0, v, e, rfl, SqT.of (hf.f _ _ ht), ev, ko _ v F H rfl (Le.refl F) hf rv⟩
theorem em_snd [Enc α] [Enc β] {m : R (α × β)} (h : EM cf E ta G m) : EM cf E (tOp (rIxT cf.K) ta (tC (.int 1))) G (m.bind fun p => .ok p.2) :=
  EG.bind1 (u := fun x H Q => rIxT cf.K x (.int 1) H Q) h fun F O H Q a r hf h1 _ ko => by
    obtain ⟨p, vs, e, ht, hr⟩ := dr_tup (ds := [toD a.1, toD a.2]) h1
    obtain ⟨v, ev, rv⟩ := atI_drA hr (show atI [toD a.1, toD a.2] 1 = some (toD a.2) from rfl)
    exact ⟨p, vs, 1, v, e, rfl, SqT.of (hf.f _ _ ht), ev, ko _ v F H rfl (Le.refl F) hf rv⟩
theorem em_t30 [Enc α] [Enc β] [Enc γ] {m : R (T3 α β γ)} (h : EM cf E ta G m) : EM cf E (tOp (rIxT cf.K) ta (tC (.int 0))) G (m.bind fun p => .ok p.a) :=
  EG.bind1 (u := fun x H Q => rIxT cf.K x (.int 0) H Q) h fun F O H Q a r hf h1 _ ko => by
    obtain ⟨p, vs, e, ht, hr⟩ := dr_tup (ds := [toD a.a, toD a.b, toD a.c]) h1
    obtain ⟨v, ev, rv⟩ := atI_drA hr (show atI [toD a.a, toD a.b, toD a.c] 0 = some (toD a.a) from rfl)
    exact ⟨p, vs, 0, v, e, rfl, SqT.of (hf.f _ _ ht), ev, ko _ v F H rfl (Le.refl F) hf rv⟩
theorem em_t31 [Enc α] [Enc β] [Enc γ] {m : R (T3 α β γ)} (h : EM cf E ta G m) : EM cf E (tOp (rIxT cf.K) ta (tC (.int 1))) G (m.bind fun p => .ok p.b) :=
  EG.bind1 (u := fun x H Q => rIxT cf.K x (.int 1) H Q) h fun F O H Q a r hf h1 _ ko => by
    obtain ⟨p, vs, e, ht, hr⟩ := dr_tup (ds := [toD a.a, toD a.b, toD a.c]) h1
    obtain ⟨v, ev, rv⟩ := atI_drA hr (show atI [toD a.a, toD a.b, toD a.c] 1 = some (toD a.b) from rfl)
    exact ⟨p, vs, 1, v, e, rfl, SqT.of (hf.f _ _ ht), ev, ko _ v F H rfl (Le.refl F) hf rv⟩
theorem em_t32 [Enc α] [Enc β] [Enc γ] {m : R (T3 α β γ)} (h : EM cf E ta G m) : EM cf E (tOp (rIxT cf.K) ta (tC (.int 2))) G (m.bind fun p => .ok p.c) :=
  EG.bind1 (u := fun x H Q => rIxT cf.K x (.int 2) H Q) h fun F O H Q a r hf h1 _ ko => by
    obtain ⟨p, vs, e, ht, hr⟩ := dr_tup (ds := [toD a.a, toD a.b, toD a.c]) h1
    obtain ⟨v, ev, rv⟩ := atI_drA hr (show atI [toD a.a, toD a.b, toD a.c] 2 = some (toD a.c) from rfl)
    exact ⟨p, vs, 2, v, e, rfl, SqT.of (hf.f _ _ ht), ev, ko _ v F H rfl (Le.refl F) hf rv⟩
/-- xs[lo:hi] -/
def cut (xs : List α) (lo hi : Option Int) : List α := (xs.drop (HT.sIx xs.length 0 lo)).take (HT.sIx xs.length xs.length hi - HT.sIx xs.length 0 lo)
theorem cut_map {β : Type} (f : α → β) (xs : List α) (lo hi : Option Int) : cut (xs.map f) lo hi = (cut xs lo hi).map f := by
  unfold cut
  rw [List.length_map, List.map_take, List.map_drop]
theorem cut_drA {K : PySem.W.Frag} {F : Hp} {vs : List V} {ds : List Dt} (lo hi : Option Int) (h : DrA K F vs ds) : DrA K F (cutV vs lo hi) (cut ds lo hi) := by
  unfold cutV cut
  rw [h.length]
  exact (h.drop _).take _
theorem eo_none : EO cf E tNoPart G (.ok none) := EG.fin fun F O H σ Q hf he ko => ko _ F H (Le.refl F) hf rfl
theorem eo_some {m : R Int} (h : EM cf E ta G m) : EO cf E (tPart ta) G (m.bind fun i => .ok (some i)) :=
  EG.bind1 (u := fun (x : V) (H : Hp) (Q : Option Int → Hp → Prop) => ∃ i, x = .int i ∧ Q (some i) H) h fun F O H Q a r hf h1 _ ko => ⟨a, dr_int h1, ko _ _ F H rfl (Le.refl F) hf rfl⟩
theorem ef_sl [Enc α] {tl th : TO} {m : R (List α)} {ml mh : R (Option Int)} (h : ES cf E ta G m) (hl : EO cf E tl G ml) (hh : EO cf E th G mh) :
    EF cf E (tSl (rSlL cf.K) ta tl th) G (m.bind fun xs => ml.bind fun lo => mh.bind fun hi => .ok (cut xs lo hi)) :=
  EG.bind3 (u := fun x lo hi H Q => rSlL cf.K x lo hi H Q) h hl hh rs_mono (fun _ _ _ _ _ _ _ _ _ h => h) fun F O H Q xs r lo lo' hi hi' hf h1 h2 h3 _ ko => by
    obtain ⟨a, vs, e, hs, hr⟩ := RS.seq h1 hf
    obtain rfl : lo' = lo := h2
    obtain rfl : hi' = hi := h3
    exact ⟨a, vs, e, hs, fun p hp => ko _ _ F _ rfl (Le.refl F) (hf.newH hp) ⟨p, _, rfl, hf.fnone hp, hf.onone hp, upd_same, by
      rw [← cut_map]
      exact cut_drA lo' hi' hr⟩⟩

/-! ### operators on lists -/
theorem ef_cat [Enc α] {m n : R (List α)} (h : EL cf E ta G m) (h' : EL cf E tb G n) : EF cf E (tOp rCat ta tb) G (m.bind fun xs => n.bind fun ys => szR (xs ++ ys)) :=
  EG.bind2 (u := fun x y H Q => rCat x y H Q) h h' rl_mono fun F O H Q xs r ys s hf h1 h2 nb ko => by
    obtain ⟨c, ec⟩ := szR_nb nb
    obtain ⟨a, vs, e, ha, hr⟩ := RL.at h1 hf
    obtain ⟨b, ws, e', hb, hr'⟩ := RL.at h2 hf
    refine ⟨a, b, vs, ws, e, e', ha, hb, ?_, fun p hp => ko _ _ F _ ec (Le.refl F) (hf.newH hp) ⟨p, _, rfl, hf.fnone hp, hf.onone hp, upd_same, by
      rw [List.map_append]
      exact hr.append hr'⟩⟩
    rw [hr.length, hr'.length, List.length_map, List.length_map, ← List.length_append]
    exact sz_le c
def repR (xs : List α) (k : Int) : R (List α) := if -(2 ^ 63) ≤ k ∧ k < 2 ^ 63 ∧ xs.length * k.toNat ≤ 1000000 then .ok (List.replicate k.toNat xs).flatten else .bad
theorem repR_nb {xs : List α} {k : Int} (h : repR xs k ≠ .bad) : (-(2 ^ 63) ≤ k ∧ k < 2 ^ 63 ∧ xs.length * k.toNat ≤ 1000000) ∧ repR xs k = .ok (List.replicate k.toNat xs).flatten := by
  unfold repR at *
  split at h
  · rename_i c
    exact ⟨c, if_pos c⟩
  · exact absurd rfl h
theorem map_rep {β : Type} (f : α → β) (xs : List α) (k : Nat) : (List.replicate k xs).flatten.map f = (List.replicate k (xs.map f)).flatten := by
  rw [List.map_flatten, List.map_replicate]
theorem ef_rep [Enc α] {m : R (List α)} {n : R Int} (h : EL cf E ta G m) (h' : EM cf E tb G n) : EF cf E (tOp rRep ta tb) G (m.bind fun xs => n.bind fun k => repR xs k) :=
  EG.bind2 (u := fun x y H Q => rRep x y H Q) h h' rl_mono fun F O H Q xs r k s hf h1 h2 nb ko => by
    obtain ⟨⟨c1, c2, c3⟩, ec⟩ := repR_nb nb
    obtain ⟨a, vs, e, ha, hr⟩ := RL.at h1 hf
    refine ⟨a, k, vs, e, dr_int h2, ha, c1, c2, ?_, fun p hp => ko _ _ F _ ec (Le.refl F) (hf.newH hp) ⟨p, _, rfl, hf.fnone hp, hf.onone hp, upd_same, by
      rw [map_rep]
      exact hr.rep _⟩⟩
    rw [hr.length, List.length_map]
    exact sz_le c3

/-! ### built-ins -/
/-- a call of one argument -/
theorem EG.call1 {τ ρ : Type} {rel1 : Hp → Hp → Hp → V → α → Prop} {rel3 : Hp → Hp → Hp → τ → γ → Prop} {m : R α} {f : α → R γ} {u : List V → Hp → (τ → Hp → Prop) → Prop} (h : EG cf E ta G m rel1)
    (k : ∀ (F O H : Hp) (Q : τ → Hp → Prop) (a : α) (r : V), Fm F O H → rel1 F O H r a → f a ≠ .bad → (∀ c x F' H', f a = .ok c → Le F F' → Fm F' O H' → rel3 F' O H' x c → Q x H') → u [r] H Q) :
    EG cf E (fun σ H Q => tCons ta tNil σ H fun vs H1 => u vs H1 Q) G (m.bind f) rel3 := EG.bind1 (u := fun r H Q => u [r] H Q) h k
theorem EG.call2 {τ ρ : Type} {rel1 : Hp → Hp → Hp → V → α → Prop} {rel2 : Hp → Hp → Hp → V → β → Prop} {rel3 : Hp → Hp → Hp → τ → γ → Prop} {m : R α} {n : R β} {f : α → β → R γ} {u : List V → Hp → (τ → Hp → Prop) → Prop} (h : EG cf E ta G m rel1) (h' : EG cf E tb G n rel2)
    (mono : ∀ F O H F' H' r a, Le F F' → Fm F' O H' → rel1 F O H r a → rel1 F' O H' r a)
    (k : ∀ (F O H : Hp) (Q : τ → Hp → Prop) (a : α) (r : V) (b : β) (s : V), Fm F O H → rel1 F O H r a → rel2 F O H s b → f a b ≠ .bad → (∀ c x F' H', f a b = .ok c → Le F F' → Fm F' O H' → rel3 F' O H' x c → Q x H') → u [r, s] H Q) :
    EG cf E (fun σ H Q => tCons ta (tCons tb tNil) σ H fun vs H1 => u vs H1 Q) G (m.bind fun a => n.bind fun b => f a b) rel3 := EG.bind2 (u := fun r s H Q => u [r, s] H Q) h h' mono k
def rLenS (K : PySem.W.Frag) : List V → Hp → VK → Prop := fun xs H Q => ∃ p ys, xs = [.ref p] ∧ (SqL K H p ys ∨ SqT K H p ys) ∧ Q (.int ys.length) H
theorem em_len [Enc α] {m : R (List α)} (h : ES cf E ta G m) : EM cf E (tCB (rLenS cf.K) (tCons ta tNil)) G (m.bind fun xs => .ok (xs.length : Int)) :=
  EG.call1 (ρ := Unit) h fun F O H Q xs r hf h1 _ ko => by
    obtain ⟨a, vs, e, hs, hr⟩ := RS.seq h1 hf
    refine ⟨a, vs, by rw [e], .inl hs, ?_⟩
    rw [hr.length, List.length_map]
    exact ko _ _ F H rfl (Le.refl F) hf (.int _)
theorem em_sum {m : R (List Int)} (h : ES cf E ta G m) : EM cf E (tCB (rSum cf.K) (tCons ta tNil)) G (m.bind fun xs => .ok xs.sum) :=
  EG.call1 (ρ := Unit) h fun F O H Q xs r hf h1 _ ko => by
    obtain ⟨a, vs, e, hs, hr⟩ := RS.seq h1 hf
    rw [ints_of_drA hr] at hs
    exact ⟨a, xs, by rw [e], hs, ko _ _ F H rfl (Le.refl F) hf (.int _)⟩
def maxR (xs : List Int) : R Int := match xs with
  | [] => .bad
  | x :: r => .ok (r.foldl max x)
def minR (xs : List Int) : R Int := match xs with
  | [] => .bad
  | x :: r => .ok (r.foldl min x)
theorem foldl_max_mem : ∀ (r : List Int) (x : Int), r.foldl max x ∈ x :: r ∧ ∀ y ∈ x :: r, y ≤ r.foldl max x
  | [], x => ⟨by simp, by simp⟩
  | y :: r, x => by
    obtain ⟨h1, h2⟩ := foldl_max_mem r (max x y)
    rw [List.foldl_cons]
    refine ⟨?_, fun z hz => ?_⟩
    · rcases List.mem_cons.mp h1 with e | h1
      · rw [e]
        by_cases c : x ≤ y
        · rw [Int.max_eq_right c]; simp
        · rw [Int.max_eq_left (by omega)]; simp
      · simp [h1]
    · have hm := h2 (max x y) (by simp)
      rcases List.mem_cons.mp hz with e | hz
      · subst e
        exact Int.le_trans (Int.le_max_left _ _) hm
      · rcases List.mem_cons.mp hz with e | hz
        · subst e
          exact Int.le_trans (Int.le_max_right _ _) hm
        · exact h2 z (by simp [hz])
theorem foldl_min_mem : ∀ (r : List Int) (x : Int), r.foldl min x ∈ x :: r ∧ ∀ y ∈ x :: r, r.foldl min x ≤ y
  | [], x => ⟨by simp, by simp⟩
  | y :: r, x => by
    obtain ⟨h1, h2⟩ := foldl_min_mem r (min x y)
    rw [List.foldl_cons]
    refine ⟨?_, fun z hz => ?_⟩
    · rcases List.mem_cons.mp h1 with e | h1
      · rw [e]
        by_cases c : x ≤ y
        · rw [Int.min_eq_left c]; simp
        · rw [Int.min_eq_right (by omega)]; simp
      · simp [h1]
    · have hm := h2 (min x y) (by simp)
      rcases List.mem_cons.mp hz with e | hz
      · subst e
        exact Int.le_trans hm (Int.min_le_left _ _)
      · rcases List.mem_cons.mp hz with e | hz
        · subst e
          exact Int.le_trans hm (Int.min_le_right _ _)
        · exact h2 z (by simp [hz])
theorem em_max {m : R (List Int)} (h : ES cf E ta G m) : EM cf E (tCB (rMax cf.K) (tCons ta tNil)) G (m.bind maxR) :=
  EG.call1 (ρ := Unit) h fun F O H Q xs r hf h1 nb ko => by
    obtain ⟨a, vs, e, hs, hr⟩ := RS.seq h1 hf
    rw [ints_of_drA hr] at hs
    cases xs with
    | nil => exact absurd rfl nb
    | cons x q =>
      refine ⟨a, x :: q, by rw [e], hs, by simp, fun y hy hle => ?_⟩
      obtain ⟨g1, g2⟩ := foldl_max_mem q x
      have e2 : y = q.foldl max x := Int.le_antisymm (g2 y hy) (hle _ g1)
      rw [e2]
      exact ko _ _ F H rfl (Le.refl F) hf (.int _)
theorem em_min {m : R (List Int)} (h : ES cf E ta G m) : EM cf E (tCB (rMin cf.K) (tCons ta tNil)) G (m.bind minR) :=
  EG.call1 (ρ := Unit) h fun F O H Q xs r hf h1 nb ko => by
    obtain ⟨a, vs, e, hs, hr⟩ := RS.seq h1 hf
    rw [ints_of_drA hr] at hs
    cases xs with
    | nil => exact absurd rfl nb
    | cons x q =>
      refine ⟨a, x :: q, by rw [e], hs, by simp, fun y hy hle => ?_⟩
      obtain ⟨g1, g2⟩ := foldl_min_mem q x
      have e2 : y = q.foldl min x := Int.le_antisymm (hle _ g1) (g2 y hy)
      rw [e2]
      exact ko _ _ F H rfl (Le.refl F) hf (.int _)
def rMax2 : List V → Hp → VK → Prop := fun xs H Q => ∃ i j, xs = [.int i, .int j] ∧ Q (.int (if j > i then j else i)) H
def rMin2 : List V → Hp → VK → Prop := fun xs H Q => ∃ i j, xs = [.int i, .int j] ∧ Q (.int (if j < i then j else i)) H
theorem em_max2 {m n : R Int} (h : EM cf E ta G m) (h' : EM cf E tb G n) : EM cf E (tCB rMax2 (tCons ta (tCons tb tNil))) G (m.bind fun a => n.bind fun b => .ok (max a b)) :=
  EG.call2 (ρ := Unit) h h' rm_mono fun F O H Q a r b s hf h1 h2 _ ko => ⟨a, b, by rw [dr_int (i := a) h1, dr_int (i := b) h2], by
    rw [show (if b > a then b else a) = max a b by split <;> omega]
    exact ko _ _ F H rfl (Le.refl F) hf (.int _)⟩
theorem em_min2 {m n : R Int} (h : EM cf E ta G m) (h' : EM cf E tb G n) : EM cf E (tCB rMin2 (tCons ta (tCons tb tNil))) G (m.bind fun a => n.bind fun b => .ok (min a b)) :=
  EG.call2 (ρ := Unit) h h' rm_mono fun F O H Q a r b s hf h1 h2 _ ko => ⟨a, b, by rw [dr_int (i := a) h1, dr_int (i := b) h2], by
    rw [show (if b < a then b else a) = min a b by split <;> omega]
    exact ko _ _ F H rfl (Le.refl F) hf (.int _)⟩
def rInt1 : List V → Hp → VK → Prop := fun xs H Q => (∃ i, xs = [.int i] ∧ Q (.int i) H) ∨ ∃ k, xs = [.bl k] ∧ Q (.int (if k then 1 else 0)) H
theorem em_intI {m : R Int} (h : EM cf E ta G m) : EM cf E (tCB rInt1 (tCons ta tNil)) G m := EG.cast (EG.call1 (ρ := Unit) h fun F O H Q a r hf h1 _ ko => .inl ⟨a, by rw [dr_int (i := a) h1], ko a _ F H rfl (Le.refl F) hf (.int a)⟩) (R.bind_ok m)
theorem em_intB {m : R Bool} (h : EM cf E ta G m) : EM cf E (tCB rInt1 (tCons ta tNil)) G (m.bind fun b => .ok (if b then (1 : Int) else 0)) := EG.call1 (ρ := Unit) h fun F O H Q a r hf h1 _ ko => .inr ⟨a, by rw [dr_bl (i := a) h1], ko _ _ F H rfl (Le.refl F) hf (.int _)⟩
def rListS (K : PySem.W.Frag) : List V → Hp → VK → Prop := fun xs H Q => ∃ p ys, xs = [.ref p] ∧ (SqL K H p ys ∨ SqT K H p ys) ∧ ∀ l, H l = none → Q (.ref l) (upd H l (.lst ys))
theorem ef_list [Enc α] {m : R (List α)} (h : ES cf E ta G m) : EF cf E (tCB (rListS cf.K) (tCons ta tNil)) G m := EG.cast (EG.call1 (ρ := Unit) h fun F O H Q xs r hf h1 _ ko => by
    obtain ⟨a, vs, e, hs, hr⟩ := RS.seq h1 hf
    exact ⟨a, vs, by rw [e], .inl hs, fun p hp => ko xs _ F _ rfl (Le.refl F) (hf.newH hp) ⟨p, vs, rfl, hf.fnone hp, hf.onone hp, upd_same, hr⟩⟩) (R.bind_ok m)
theorem em_any {m : R (List Bool)} (h : ES cf E ta G m) : EM cf E (tCB (rAny cf.K) (tCons ta tNil)) G (m.bind fun xs => .ok (xs.any id)) :=
  EG.call1 (ρ := Unit) h fun F O H Q xs r hf h1 _ ko => by
    obtain ⟨a, vs, e, hs, hr⟩ := RS.seq h1 hf
    rw [bls_of_drA hr] at hs
    exact ⟨a, xs, by rw [e], hs, ko _ _ F H rfl (Le.refl F) hf (.bl _)⟩

/-! ### == of data -/
mutual
def Dt.py : Dt → PyData
  | .non => .none
  | .bl b => .bool b
  | .int i => .int i
  | .str x => .str x
  | .lst xs => .list (Dt.pyA xs)
  | .tup xs => .tuple (Dt.pyA xs)
  | .scr ns => .list (ns.map .int)
  | .dct _ => .dict []
def Dt.pyA : List Dt → List PyData
  | [] => []
  | d :: r => d.py :: Dt.pyA r
end
mutual
/-- no dict within -/
def Dt.nd : Dt → Bool
  | .lst xs => Dt.ndA xs
  | .tup xs => Dt.ndA xs
  | .dct _ => false
  | _ => true
def Dt.ndA : List Dt → Bool
  | [] => true
  | d :: r => d.nd && Dt.ndA r
end
theorem dpAll_ints {K : PySem.W.Frag} {H : Hp} : ∀ ns : List Int, DpAll K H (ns.map V.int) (ns.map PyData.int)
  | [] => .nil
  | n :: r => .cons (.int n) (dpAll_ints r)
mutual
theorem Dr.dp {K : PySem.W.Frag} {F H : Hp} (e : Le F H) : ∀ {v : V} {d : Dt}, Dr K F v d → d.nd = true → Dp K H v d.py
  | _, _, .non, _ => .non
  | _, _, .bl b, _ => .bl b
  | _, _, .int i, _ => .int i
  | _, _, .str x, _ => .str x
  | _, _, .lst h r, n => .lst (SqL.of (e _ _ h)) (DrA.dp e r n)
  | _, _, .tup h r, n => .tup (SqT.of (e _ _ h)) (DrA.dp e r n)
  | _, _, .scr h, _ => .lst (e.seq h) (dpAll_ints _)
  | _, _, .dct _ _, n => Bool.noConfusion n
theorem DrA.dp {K : PySem.W.Frag} {F H : Hp} (e : Le F H) : ∀ {vs : List V} {ds : List Dt}, DrA K F vs ds → Dt.ndA ds = true → DpAll K H vs (Dt.pyA ds)
  | _, _, .nil, _ => .nil
  | _, _, .cons r t, n => .cons (Dr.dp e r (Bool.and_eq_true_iff.mp n).1) (DrA.dp e t (Bool.and_eq_true_iff.mp n).2)
end
/-- a == b -/
def eqR [Enc α] [Enc β] (a : α) (b : β) : R Bool := if (toD a).nd = true ∧ (toD b).nd = true ∧ SeqAt.shaped (toD a).py = true ∧ SeqAt.shaped (toD b).py = true then .ok (PyData.eqv (toD a).py (toD b).py) else .bad
theorem eqR_nb [Enc α] [Enc β] {a : α} {b : β} (h : eqR a b ≠ .bad) : ((toD a).nd = true ∧ (toD b).nd = true ∧ SeqAt.shaped (toD a).py = true ∧ SeqAt.shaped (toD b).py = true) ∧ eqR a b = .ok (PyData.eqv (toD a).py (toD b).py) := by
  unfold eqR at *
  split at h
  · rename_i c
    exact ⟨c, if_pos c⟩
  · exact absurd rfl h
/-- lists too, owned or not -/
def RE [Enc α] (cf : Cf) (F O H : Hp) (v : V) (a : α) : Prop := (toD a).nd = true → Dp cf.K H v (toD a).py
abbrev EE [Enc α] (cf : Cf) (E : XK) (t : TE) (G : List Sl) (m : R α) : Prop := EG cf E t G m fun F O H v a => ∀ F' H', Le F F' → Fm F' O H' → (toD a).nd = true → Dp cf.K H' v (toD a).py
theorem EM.toE [Enc α] {m : R α} (h : EM cf E ta G m) : EE cf E ta G m := EG.imp h fun F O H v a hf r F' H' le hf' n => Dr.dp (le.trans hf'.f) r n
theorem EL.toE [Enc α] {m : R (List α)} (h : EL cf E ta G m) : EE cf E ta G m := EG.imp h fun F O H v xs hf r F' H' le hf' n => by
  obtain ⟨a, vs, e, ha, hr⟩ := RL.at (rl_mono F O H F' H' v xs le hf' r) hf'
  rw [e]
  exact .lst (SqL.of ha) (DrA.dp hf'.f hr n)
theorem em_eqD [Enc α] [Enc β] {m : R α} {n : R β} (h : EE cf E ta G m) (h' : EE cf E tb G n) : EM cf E (tOp (rEqD cf.K) ta tb) G (m.bind fun a => n.bind fun b => eqR a b) :=
  EG.bind2 (u := fun x y H Q => rEqD cf.K x y H Q) h h' (fun F O H F' H' r a le hf' h F'' H'' le' hf'' => h F'' H'' (le.trans le') hf'') fun F O H Q a r b s hf h1 h2 nb ko => by
    obtain ⟨⟨c1, c2, c3, c4⟩, ec⟩ := eqR_nb nb
    exact ⟨_, _, h1 F H (Le.refl F) hf c1, h2 F H (Le.refl F) hf c2, c3, c4, ko _ _ F H ec (Le.refl F) hf (.bl _)⟩
theorem em_neD [Enc α] [Enc β] {m : R α} {n : R β} (h : EE cf E ta G m) (h' : EE cf E tb G n) : EM cf E (tOp (rNeD cf.K) ta tb) G (m.bind fun a => n.bind fun b => (eqR a b).bind fun c => .ok (!c)) :=
  EG.bind2 (f := fun a b => (eqR a b).bind fun c => .ok (!c)) (u := fun x y H Q => rNeD cf.K x y H Q) h h' (fun F O H F' H' r a le hf' h F'' H'' le' hf'' => h F'' H'' (le.trans le') hf'') fun F O H Q a r b s hf h1 h2 nb ko => by
    obtain ⟨⟨c1, c2, c3, c4⟩, ec⟩ := eqR_nb (R.bind_nb nb)
    rw [ec] at ko
    exact ⟨_, _, h1 F H (Le.refl F) hf c1, h2 F H (Le.refl F) hf c2, c3, c4, ko _ _ F H rfl (Le.refl F) hf (.bl _)⟩
end
end Kr

/-! KrD: what is walked, comprehensions, statements by data. -/
namespace Kr
open PySem PySem.Spec PyProof.Rows L2
open Enc (toD)

/-! ### what is walked -/
/-- J gives the items xs, one after the other -/
def Itm {α : Type} [Enc α] (cf : Cf) (J : It) (F1 : Hp) (xs : List α) : Prop := ∀ (i : Nat) (F O H : Hp), Le F1 F → Fm F O H →
  (∀ x, xs[i]? = some x → J.go i H ∧ ∀ v H', J.yld i H v H' → ∃ F', Le F F' ∧ Fm F' O H' ∧ Dr cf.K F' v (toD x)) ∧ (xs.length ≤ i → J.stop i H)
def IG {α : Type} [Enc α] (cf : Cf) (E : XK) (wi : TI) (G : List Sl) (m : R (List α)) : Prop :=
  ∀ (F O H : Hp) (σ : L2.St) (Q : It → Hp → Prop), Fm F O H → Er cf.K F O σ G → m ≠ .bad →
    (∀ xs J F' H', m = .ok xs → Le F F' → Fm F' O H' → Itm cf J F' xs → Q J H') →
    (∀ c p d F' H', m = .er c p → Le F F' → Fm F' O H' → F' d = some (xdO cf c p) → E (.ref (cf.cls c)) (some d) H') → wi σ H Q
section
variable {cf : Cf} {E : XK} {G : List Sl} {α β γ δ : Type} {ta tb : TE}
/-- a list that stays as it is -/
def RZ [Enc α] (cf : Cf) (F O H : Hp) (v : V) (xs : List α) : Prop := ∃ a vs, v = .ref a ∧ SqL cf.K F a vs ∧ DrA cf.K F vs (xs.map toD)
abbrev EZ [Enc α] (cf : Cf) (E : XK) (t : TE) (G : List Sl) (m : R (List α)) : Prop := EG cf E t G m (RZ cf)
theorem rz_mono [Enc α] (F O H F' H' : Hp) (r : V) (a : List α) (le : Le F F') (_ : Fm F' O H') (h : RZ cf F O H r a) : RZ cf F' O H' r a := by
  obtain ⟨a, vs, e, h1, h2⟩ := h
  exact ⟨a, vs, e, le.seq h1, h2.mono le⟩
theorem EM.toZ [Enc α] {m : R (List α)} (h : EM cf E ta G m) : EZ cf E ta G m := EG.imp h fun F O H v xs _ r => by
  obtain ⟨a, vs, e, h1, h2⟩ := dr_lst r
  exact ⟨a, vs, e, SqL.of h1, h2⟩
theorem EF.toZ [Enc α] {m : R (List α)} (h : EF cf E ta G m) : EZ cf E ta G m := EM.toZ (EF.toM h)
theorem EM.scrZ {t : TE} {m : R Scr} (h : EM cf E t G m) : EZ cf E t G (m.bind fun s => .ok s.ns) := fun F O H σ Q hf he nb ko ke => by
  refine h F O H σ Q hf he (R.bind_nb nb) (fun s v F' H' e le hf' hr => ?_) (fun c p d F' H' e => ke c p d F' H' (by rw [e]; rfl))
  obtain ⟨a, ea, hs⟩ := dr_scr (ns := s.ns) hr
  exact ko s.ns _ F' H' (by rw [e]; rfl) le hf' ⟨a, _, ea, hs, drA_ints s.ns⟩
theorem drA_at [Enc α] {K : PySem.W.Frag} {F : Hp} {vs : List V} {xs : List α} (h : DrA K F vs (xs.map toD)) {i : Nat} {x : α} (e : xs[i]? = some x) : ∃ v, vs[i]? = some v ∧ Dr K F v (toD x) := h.get (by rw [List.getElem?_map, e]; rfl)
theorem ig_list [Enc α] {m : R (List α)} (h : EZ cf E ta G m) : IG cf E (iList cf.K ta) G m := fun F O H σ Q hf he nb ko ke =>
  h F O H σ _ hf he nb (fun xs v F' H' e le hf' hr => by
    obtain ⟨a, vs, ev, hs, hd⟩ := hr
    refine ⟨a, ev, ⟨vs, hf'.f.seq hs⟩, ko xs _ F' H' e le hf' fun i F2 O2 H2 le2 hf2 => ⟨fun x hx => ?_, fun hi => ⟨vs, (le2.trans hf2.f).seq hs, ?_⟩⟩⟩
    · obtain ⟨w', hw, rw'⟩ := drA_at hd hx
      exact ⟨⟨vs, w', (le2.trans hf2.f).seq hs, hw⟩, fun v H3 hy => ⟨F2, Le.refl F2, by rw [hy.1]; exact hf2, by
        have q := hy.2 vs ((le2.trans hf2.f).seq hs)
        rw [hw] at q
        rw [← Option.some.inj q]
        exact rw'.mono le2⟩⟩
    · rw [hd.length, List.length_map]
      exact hi) ke
/-- lo, lo + 1, .. -/
def seqI (lo : Int) (n : Nat) : List Int := (List.range n).map fun (i : Nat) => lo + (i : Int)
/-- lo, lo + c, .. -/
def seqC (lo c : Int) (n : Nat) : List Int := (List.range n).map fun (i : Nat) => lo + (i : Int) * c
theorem seqI_get (lo : Int) (n i : Nat) : (seqI lo n)[i]? = if i < n then some (lo + (i : Int)) else none := by
  unfold seqI
  rw [List.getElem?_map]
  by_cases h : i < n
  · rw [if_pos h, List.getElem?_range h]
    rfl
  · rw [if_neg h, List.getElem?_eq_none (by rw [List.length_range]; omega)]
    rfl
theorem seqC_get (lo c : Int) (n i : Nat) : (seqC lo c n)[i]? = if i < n then some (lo + (i : Int) * c) else none := by
  unfold seqC
  rw [List.getElem?_map]
  by_cases h : i < n
  · rw [if_pos h, List.getElem?_range h]
    rfl
  · rw [if_neg h, List.getElem?_eq_none (by rw [List.length_range]; omega)]
    rfl
theorem seqI_len (lo : Int) (n : Nat) : (seqI lo n).length = n := by simp [seqI]
theorem seqC_len (lo c : Int) (n : Nat) : (seqC lo c n).length = n := by simp [seqC]
theorem itm_seqI (F1 : Hp) (lo : Int) (n : Nat) : Itm cf (Itr lo n) F1 (seqI lo n) := fun i F O H le hf => ⟨fun x hx => by
    rw [seqI_get] at hx
    split at hx
    · rename_i c
      cases hx
      exact ⟨c, fun v H' hy => ⟨F, Le.refl F, by rw [hy.1]; exact hf, by rw [hy.2]; exact .int _⟩⟩
    · exact (nomatch hx),
  fun hi => by
    rw [seqI_len] at hi
    exact hi⟩
theorem itm_seqC (F1 : Hp) (lo c : Int) (n : Nat) : Itm cf (Itc lo c n) F1 (seqC lo c n) := fun i F O H le hf => ⟨fun x hx => by
    rw [seqC_get] at hx
    split at hx
    · rename_i c
      cases hx
      exact ⟨c, fun v H' hy => ⟨F, Le.refl F, by rw [hy.1]; exact hf, by rw [hy.2]; exact .int _⟩⟩
    · exact (nomatch hx),
  fun hi => by
    rw [seqC_len] at hi
    exact hi⟩
def rng1R (n : Int) : R (List Int) := if -(2 ^ 62) ≤ n ∧ n < 2 ^ 62 then .ok (seqI 0 n.toNat) else .bad
def rng2R (a b : Int) : R (List Int) := if -(2 ^ 62) ≤ a ∧ a < 2 ^ 62 ∧ -(2 ^ 62) ≤ b ∧ b < 2 ^ 62 then .ok (seqI a (b - a).toNat) else .bad
theorem ig_range1 {m : R Int} (h : EM cf E ta G m) : IG cf E (iRng1 (tCons ta tNil)) G (m.bind rng1R) := fun F O H σ Q hf he nb ko ke =>
  h F O H σ _ hf he (R.bind_nb nb) (fun n v F' H' e le hf' hr => by
    rw [e, R.ok_bind] at nb ko
    unfold rng1R at nb ko
    split at nb
    · rename_i c
      rw [if_pos c] at ko
      exact ⟨n, by rw [dr_int (i := n) hr], c.1, c.2, ko _ _ F' H' rfl le hf' (itm_seqI F' 0 n.toNat)⟩
    · exact absurd rfl nb) fun c p d F' H' e => ke c p d F' H' (by rw [e]; rfl)
theorem ig_range2 {m n : R Int} (h : EM cf E ta G m) (h' : EM cf E tb G n) : IG cf E (iRng2 (tCons ta (tCons tb tNil))) G (m.bind fun a => n.bind fun b => rng2R a b) := fun F O H σ Q hf he nb ko ke =>
  EG.bind2 (f := fun a b => rng2R a b) (rel3 := fun F' O' H' J xs => Itm cf J F' xs) (u := fun x y H Q => ∃ i j : Int, [x, y] = [V.int i, V.int j] ∧ (-(2 ^ 62) ≤ i ∧ i < 2 ^ 62 ∧ -(2 ^ 62) ≤ j ∧ j < 2 ^ 62) ∧ Q (Itr i (j - i).toNat) H) h h' rm_mono
    (fun F O H Q a r b s hf h1 h2 nb ko => by
      unfold rng2R at nb ko
      split at nb
      · rename_i c
        rw [if_pos c] at ko
        exact ⟨a, b, by rw [dr_int (i := a) h1, dr_int (i := b) h2], c, ko _ _ F H rfl (Le.refl F) hf (itm_seqI F a _)⟩
      · exact absurd rfl nb) F O H σ Q hf he nb (fun xs J F' H' => ko xs J F' H') ke
/-- range(a, b, c), c written: 1 or more, or -1 -/
def rng3R (a b c : Int) : R (List Int) := if -(2 ^ 62) ≤ a ∧ a < 2 ^ 62 ∧ -(2 ^ 62) ≤ b ∧ b < 2 ^ 62 then (if c = -1 then .ok (seqC a (-1) (a - b).toNat) else
    if 0 < c ∧ c < 1073741824 ∧ Builtin.Range.small a b c = true then .ok (seqC a c (Builtin.Range.rangeSize a b c).toNat) else .bad) else .bad
theorem rangeSize_nn (a b c : Int) (h : 0 < c) : 0 ≤ Builtin.Range.rangeSize a b c := by
  unfold Builtin.Range.rangeSize
  split
  · split
    · have : 0 ≤ (b - a - 1) / c := Int.ediv_nonneg (by omega) (by omega)
      omega
    · exact Int.le_refl 0
  · omega
theorem rgC_of {a b c : Int} {xs : List Int} (h : rng3R a b c = .ok xs) : ∃ n, RgC a b c n ∧ xs = seqC a c n := by
  unfold rng3R at h
  split at h
  · rename_i q
    split at h
    · rename_i e
      subst e
      cases h
      exact ⟨_, RgC.neg q.1 q.2.1 q.2.2.1 q.2.2.2, rfl⟩
    · split at h
      · rename_i q2
        cases h
        refine ⟨_, ⟨by omega, by omega, q2.2.2, ?_⟩, rfl⟩
        have := rangeSize_nn a b c q2.1
        omega
      · cases h
  · cases h
theorem ig_range3 {tc : TE} {m n l : R Int} (h : EM cf E ta G m) (h' : EM cf E tb G n) (h'' : EM cf E tc G l) : IG cf E (iRng3 (tCons ta (tCons tb (tCons tc tNil)))) G (m.bind fun a => n.bind fun b => l.bind fun c => rng3R a b c) := fun F O H σ Q hf he nb ko ke =>
  EG.bind3 (f := fun a b c => rng3R a b c) (rel4 := fun F' O' H' J xs => Itm cf J F' xs) (u := fun x y z H Q => ∃ (i j c : Int) (n : Nat), [x, y, z] = [V.int i, V.int j, V.int c] ∧ RgC i j c n ∧ Q (Itc i c n) H) h h' h'' rm_mono rm_mono
    (fun F O H Q a r b s c t hf h1 h2 h3 nb ko => by
      cases q : rng3R a b c with
      | bad => exact absurd q nb
      | er c p =>
        unfold rng3R at q
        split at q
        · split at q
          · cases q
          · split at q <;> cases q
        · cases q
      | ok xs =>
        obtain ⟨n, hn, hx⟩ := rgC_of q
        refine ⟨a, b, c, n, by rw [dr_int (i := a) h1, dr_int (i := b) h2, dr_int (i := c) h3], hn, ko xs _ F H q (Le.refl F) hf ?_⟩
        rw [hx]
        exact itm_seqC F a c n) F O H σ Q hf he nb (fun xs J F' H' => ko xs J F' H') ke
/-- the pairs (0, x0), (1, x1), .. -/
def enumL (xs : List α) : List (Int × α) := xs.zipIdx.map fun p => ((p.2 : Int), p.1)
theorem enumL_get (xs : List α) (i : Nat) : (enumL xs)[i]? = xs[i]?.map fun x => ((i : Int), x) := by
  unfold enumL
  rw [List.getElem?_map, List.getElem?_zipIdx]
  cases xs[i]? <;> simp
theorem enumL_len (xs : List α) : (enumL xs).length = xs.length := by simp [enumL]
theorem ig_enum [Enc α] {m : R (List α)} (h : EZ cf E ta G m) : IG cf E (iEnum cf.K (tCons ta tNil)) G (m.bind fun xs => .ok (enumL xs)) := fun F O H σ Q hf he nb ko ke =>
  h F O H σ _ hf he (R.bind_nb nb) (fun xs v F' H' e le hf' hr => by
    rw [e, R.ok_bind] at ko
    obtain ⟨a, vs, ev, hs, hd⟩ := hr
    refine ⟨a, vs, by rw [ev], hf'.f.seq hs, ko _ _ F' H' rfl le hf' fun i F2 O2 H2 le2 hf2 => ⟨fun x hx => ?_, fun hi => ⟨vs, (le2.trans hf2.f).seq hs, ?_⟩⟩⟩
    · rw [enumL_get] at hx
      cases q : xs[i]? with
      | none =>
        rw [q] at hx
        cases hx
      | some y =>
        rw [q] at hx
        cases hx
        obtain ⟨w', hw, rw'⟩ := drA_at hd q
        refine ⟨⟨vs, w', (le2.trans hf2.f).seq hs, hw⟩, fun v H3 hy => ?_⟩
        obtain ⟨T, x, ev, hT, rfl, hx⟩ := hy
        have q2 := hx vs ((le2.trans hf2.f).seq hs)
        rw [hw] at q2
        have e2 := Option.some.inj q2
        subst e2
        subst ev
        exact ⟨upd F2 T (.tup [.int (i : Nat), w']), Le.new (hf2.fnone hT), hf2.newF hT, .tup upd_same (.cons (.int _) (.cons (rw'.mono (le2.trans (Le.new (hf2.fnone hT)))) .nil))⟩
    · rw [enumL_len] at hi
      rw [hd.length, List.length_map]
      exact hi) fun c p d F' H' e => ke c p d F' H' (by rw [e]; rfl)
theorem ig_zip [Enc α] [Enc β] {m : R (List α)} {n : R (List β)} (h : EZ cf E ta G m) (h' : EZ cf E tb G n) : IG cf E (iZip cf.K (tCons ta (tCons tb tNil))) G (m.bind fun xs => n.bind fun ys => .ok (xs.zip ys)) := fun F O H σ Q hf he nb ko ke =>
  EG.bind2 (f := fun (xs : List α) (ys : List β) => R.ok (xs.zip ys)) (rel3 := fun F' O' H' J xs => Itm cf J F' xs) (u := fun x y H Q => ∃ a b xs ys, [x, y] = [V.ref a, V.ref b] ∧ SqL cf.K H a xs ∧ SqL cf.K H b ys ∧ Q (Itz cf.K a b) H) h h' rz_mono
    (fun F O H Q xs r ys s hf h1 h2 nb ko => by
      obtain ⟨a, vs, ev, hs, hd⟩ := h1
      obtain ⟨b, ws, ew, hs', hd'⟩ := h2
      refine ⟨a, b, vs, ws, by rw [ev, ew], hf.f.seq hs, hf.f.seq hs', ko _ _ F H rfl (Le.refl F) hf fun i F2 O2 H2 le2 hf2 => ⟨fun x hx => ?_, fun hi => ⟨vs, ws, (le2.trans hf2.f).seq hs, (le2.trans hf2.f).seq hs', ?_⟩⟩⟩
      · rw [List.getElem?_zip_eq_some] at hx
        obtain ⟨v1, hv1, r1⟩ := drA_at hd hx.1
        obtain ⟨v2, hv2, r2⟩ := drA_at hd' hx.2
        refine ⟨⟨vs, ws, v1, v2, (le2.trans hf2.f).seq hs, (le2.trans hf2.f).seq hs', hv1, hv2⟩, fun v H3 hy => ?_⟩
        obtain ⟨T, x1, x2, ev, hT, rfl, hx1, hx2⟩ := hy
        have q1 := hx1 vs ((le2.trans hf2.f).seq hs)
        have q2 := hx2 ws ((le2.trans hf2.f).seq hs')
        rw [hv1] at q1
        rw [hv2] at q2
        obtain rfl := Option.some.inj q1
        obtain rfl := Option.some.inj q2
        subst ev
        have l3 := le2.trans (Le.new (o := .tup [v1, v2]) (hf2.fnone hT))
        exact ⟨upd F2 T (.tup [v1, v2]), Le.new (hf2.fnone hT), hf2.newF hT, .tup upd_same (.cons (r1.mono l3) (.cons (r2.mono l3) .nil))⟩
      · rw [List.length_zip] at hi
        rw [hd.length, List.length_map, hd'.length, List.length_map]
        omega) F O H σ Q hf he nb (fun xs J F' H' => ko xs J F' H') ke
theorem ig_rev [Enc α] {m : R (List α)} (h : EZ cf E ta G m) : IG cf E (iRev cf.K (tCons ta tNil)) G (m.bind fun xs => .ok xs.reverse) := fun F O H σ Q hf he nb ko ke =>
  h F O H σ _ hf he (R.bind_nb nb) (fun xs v F' H' e le hf' hr => by
    rw [e, R.ok_bind] at ko
    obtain ⟨a, vs, ev, hs, hd⟩ := hr
    have hl : vs.length = xs.length := by rw [hd.length, List.length_map]
    refine ⟨a, vs, by rw [ev], hf'.f.seq hs, ko _ _ F' H' rfl le hf' fun i F2 O2 H2 le2 hf2 => ⟨fun x hx => ?_, fun hi => ?_⟩⟩
    · have hi : i < xs.length := by
        have := (List.getElem?_eq_some_iff.mp hx).1
        rw [List.length_reverse] at this
        exact this
      rw [List.getElem?_reverse hi] at hx
      obtain ⟨w', hw, rw'⟩ := drA_at hd hx
      rw [← hl] at hw
      refine ⟨⟨by omega, vs, w', (le2.trans hf2.f).seq hs, hw⟩, fun v H3 hy => ⟨F2, Le.refl F2, by rw [hy.1]; exact hf2, ?_⟩⟩
      have q2 := hy.2 vs ((le2.trans hf2.f).seq hs)
      rw [hw] at q2
      rw [← Option.some.inj q2]
      exact rw'.mono le2
    · rw [List.length_reverse] at hi
      show vs.length ≤ i
      omega) fun c p d F' H' e => ke c p d F' H' (by rw [e]; rfl)

/-! ### targets -/
/-- the target stores the data: the slots behind it; js: the slots it stores to -/
def AG [Enc α] (cf : Cf) (g : TG) (up : α → List Sl → List Sl) (js : List Nat) : Prop :=
  ∀ (F O H : Hp) (σ : L2.St) (G : List Sl) (v : V) (a : α) (Q : L2.St → Hp → Prop), Fm F O H → Er cf.K F O σ G → Dr cf.K F v (toD a) →
    (∀ σ', Er cf.K F O σ' (up a G) → (∀ (i : Nat) (s : Sl), (up a G)[i]? = some s → s.own = true → G[i]? = some s ∧ σ'[i]? = σ[i]?) → (∀ vs : List Nat, (∀ j ∈ js, j ∈ vs) → wipe σ' vs = wipe σ vs) → Q σ' H) → g v σ H Q
theorem wipe_set {σ : L2.St} {j : Nat} {y : Option V} : ∀ {vs : List Nat}, j ∈ vs → wipe (σ.set j y) vs = wipe σ vs
  | [], h => by cases h
  | v :: vs, h => by
    show (wipe (σ.set j y) vs).set v none = (wipe σ vs).set v none
    by_cases hj : j ∈ vs
    · rw [wipe_set hj]
    · have e : j = v := by
        rcases List.mem_cons.mp h with e | e
        · exact e
        · exact absurd e hj
      subst e
      have key : ∀ (ws : List Nat), j ∉ ws → wipe (σ.set j y) ws = (wipe σ ws).set j y := by
        intro ws
        induction ws with
        | nil => intro _; rfl
        | cons w ws ih =>
          intro hw
          show (wipe (σ.set j y) ws).set w none = ((wipe σ ws).set w none).set j y
          rw [ih fun z => hw (List.mem_cons_of_mem _ z)]
          exact List.set_comm _ _ fun z => hw (by rw [z]; exact List.mem_cons_self ..)
      rw [key vs hj, List.set_set]
theorem er_set {K : PySem.W.Frag} {F O : Hp} {σ : L2.St} {G : List Sl} (h : Er K F O σ G) (i : Nat) {v : V} {d : Dt} (r : Dr K F v d) : Er K F O (σ.set i (some v)) (G.set i (.va d)) := by
  refine ⟨by rw [List.length_set, List.length_set, h.len], fun j s e => ?_⟩
  by_cases hj : i = j
  · subst hj
    by_cases hl : i < G.length
    · rw [List.getElem?_set_self hl] at e
      cases e
      rw [List.getElem?_set_self (by rw [h.len]; exact hl)]
      exact ⟨v, rfl, r⟩
    · rw [List.getElem?_eq_none (by rw [List.length_set]; omega)] at e
      cases e
  · rw [List.getElem?_set_ne hj] at e ⊢
    exact h.at' j s e
theorem own_set {σ : L2.St} {G : List Sl} {i : Nat} {d : Dt} {y : Option V} {j : Nat} {s : Sl} (e : (G.set i (.va d))[j]? = some s) (o : s.own = true) : G[j]? = some s ∧ (σ.set i y)[j]? = σ[j]? := by
  by_cases hj : i = j
  · subst hj
    by_cases hl : i < G.length
    · rw [List.getElem?_set_self hl] at e
      cases e
      cases o
    · rw [List.getElem?_eq_none (by rw [List.length_set]; omega)] at e
      cases e
  · rw [List.getElem?_set_ne hj] at e
    exact ⟨e, List.getElem?_set_ne hj⟩
theorem ag_name [Enc α] (i : Nat) : AG cf (gName i) (fun (a : α) G => G.set i (.va (toD a))) [i] := fun F O H σ G v a Q hf he r k =>
  k _ (er_set he i r) (fun j s e o => own_set e o) fun vs h => wipe_set (h i (by simp))
theorem ag_t2 [Enc α] [Enc β] {g1 g2 : TG} {u1 : α → List Sl → List Sl} {u2 : β → List Sl → List Sl} {j1 j2 : List Nat} (h1 : AG cf g1 u1 j1) (h2 : AG cf g2 u2 j2) :
    AG cf (gTup cf.K 2 (gCons g1 (gCons g2 gNil))) (fun (p : α × β) G => u2 p.2 (u1 p.1 G)) (j1 ++ j2) := fun F O H σ G v p Q hf he r k => by
  obtain ⟨a, vs, rfl, ht, hd⟩ := dr_tup (ds := [toD p.1, toD p.2]) r
  obtain ⟨v1, r1, rfl, d1, hd⟩ := drA_cons hd
  obtain ⟨v2, r2, rfl, d2, hd⟩ := drA_cons hd
  rw [drA_nil hd] at ht
  refine ⟨a, [v1, v2], rfl, SqT.of (hf.f _ _ ht), rfl, v1, [v2], rfl, h1 F O H σ G v1 p.1 _ hf he d1 fun σ1 e1 o1 w1 => ⟨v2, [], rfl, h2 F O H σ1 _ v2 p.2 _ hf e1 d2 fun σ2 e2 o2 w2 => ⟨rfl, k σ2 e2 (fun i s e o => ?_) fun vs hv => ?_⟩⟩⟩
  · obtain ⟨q1, q2⟩ := o2 i s e o
    obtain ⟨q3, q4⟩ := o1 i s q1 o
    exact ⟨q3, q2.trans q4⟩
  · rw [w2 vs fun j hj => hv j (by simp [hj]), w1 vs fun j hj => hv j (by simp [hj])]
theorem ag_t3 [Enc α] [Enc β] [Enc γ] {g1 g2 g3 : TG} {u1 : α → List Sl → List Sl} {u2 : β → List Sl → List Sl} {u3 : γ → List Sl → List Sl} {j1 j2 j3 : List Nat} (h1 : AG cf g1 u1 j1) (h2 : AG cf g2 u2 j2) (h3 : AG cf g3 u3 j3) :
    AG cf (gTup cf.K 3 (gCons g1 (gCons g2 (gCons g3 gNil)))) (fun (p : T3 α β γ) G => u3 p.c (u2 p.b (u1 p.a G))) (j1 ++ (j2 ++ j3)) := fun F O H σ G v p Q hf he r k => by
  obtain ⟨a, vs, rfl, ht, hd⟩ := dr_tup (ds := [toD p.a, toD p.b, toD p.c]) r
  obtain ⟨v1, r1, rfl, d1, hd⟩ := drA_cons hd
  obtain ⟨v2, r2, rfl, d2, hd⟩ := drA_cons hd
  obtain ⟨v3, r3, rfl, d3, hd⟩ := drA_cons hd
  rw [drA_nil hd] at ht
  refine ⟨a, [v1, v2, v3], rfl, SqT.of (hf.f _ _ ht), rfl, v1, [v2, v3], rfl, h1 F O H σ G v1 p.a _ hf he d1 fun σ1 e1 o1 w1 => ⟨v2, [v3], rfl, h2 F O H σ1 _ v2 p.b _ hf e1 d2 fun σ2 e2 o2 w2 => ⟨v3, [], rfl, h3 F O H σ2 _ v3 p.c _ hf e2 d3 fun σ3 e3 o3 w3 => ⟨rfl, k σ3 e3 (fun i s e o => ?_) fun vs hv => ?_⟩⟩⟩⟩
  · obtain ⟨q1, q2⟩ := o3 i s e o
    obtain ⟨q3, q4⟩ := o2 i s q1 o
    obtain ⟨q5, q6⟩ := o1 i s q3 o
    exact ⟨q5, q2.trans (q4.trans q6)⟩
  · rw [w3 vs fun j hj => hv j (by simp [hj]), w2 vs fun j hj => hv j (by simp [hj]), w1 vs fun j hj => hv j (by simp [hj])]

/-! ### comprehensions -/
def compR (ft : α → R Bool) (fe : α → R β) : List α → R (List β)
  | [] => .ok []
  | x :: r => (ft x).pu.bind fun b => if b = true then (fe x).pu.bind fun y => (compR ft fe r).bind fun ys => .ok (y :: ys) else compR ft fe r
def lcR (ft : α → R Bool) (fe : α → R β) (xs : List α) : R (List β) := (szR xs).bind fun xs => compR ft fe xs
def wipeG (G : List Sl) : List Nat → List Sl
  | [] => G
  | v :: vs => (wipeG G vs).set v .un
theorem er_wipe {K : PySem.W.Frag} {F O : Hp} {σ : L2.St} {G : List Sl} (h : Er K F O σ G) : ∀ vs : List Nat, Er K F O (wipe σ vs) (wipeG G vs)
  | [] => h
  | v :: vs => by
    have ih := er_wipe h vs
    refine ⟨by show ((wipe σ vs).set v none).length = ((wipeG G vs).set v .un).length; rw [List.length_set, List.length_set, ih.len], fun j s e => ?_⟩
    have e' : ((wipeG G vs).set v .un)[j]? = some s := e
    show SlOk K F O ((wipe σ vs).set v none)[j]? s
    by_cases hj : v = j
    · subst hj
      by_cases hl : v < (wipeG G vs).length
      · rw [List.getElem?_set_self hl] at e'
        cases e'
        exact trivial
      · rw [List.getElem?_eq_none (by rw [List.length_set]; omega)] at e'
        cases e'
    · rw [List.getElem?_set_ne hj] at e' ⊢
      exact ih.at' j s e'
theorem SlOk.monoO {K : PySem.W.Frag} {F O O' : Hp} {x : Option (Option V)} (e : Le O O') : ∀ {s : Sl}, SlOk K F O x s → SlOk K F O' x s
  | .un, _ => trivial
  | .va _, h => h
  | .ol _, ⟨a, vs, h1, h2, h3⟩ => ⟨a, vs, h1, e _ _ h2, h3⟩
  | .od _, ⟨a, vs, h1, h2, h3⟩ => ⟨a, vs, h1, e _ _ h2, h3⟩
  | .pv _, h => h
  | .ow _, ⟨v, fp, h1, h2⟩ => ⟨v, fp, h1, h2.mono (Le.refl F) fun p _ o q => e p o q⟩
  | .bo _, ⟨v, fp, h1, h2⟩ => ⟨v, fp, h1, h2.monoFO (Le.refl F) e⟩
  | .vo _, ⟨v, fp, h1, h2⟩ => ⟨v, fp, h1, h2.monoFO (Le.refl F) e⟩
theorem Er.monoO {K : PySem.W.Frag} {F O O' : Hp} {σ : L2.St} {G : List Sl} (h : Er K F O σ G) (e : Le O O') : Er K F O' σ G := ⟨h.len, fun i s q => (h.at' i s q).monoO e⟩
theorem Fm.weak {F O O' H : Hp} (h : Fm F O' H) (e : Le O O') : Fm F O H := ⟨h.f, e.trans h.o, fun p q => e.free (h.ds p q), fun p vs q => h.nt p vs (e p _ q)⟩
theorem nt_upd {O : Hp} {p : Addr} {o : HO} (h : ∀ p vs, O p ≠ some (.tup vs)) (ho : ∀ vs, o ≠ .tup vs) : ∀ q vs, upd O p o q ≠ some (.tup vs) := fun q vs e => by
  by_cases c : q = p
  · subst c
    rw [upd_same] at e
    exact ho vs (Option.some.inj e)
  · rw [upd_ne c] at e
    exact h q vs e
/-- a new object that is ours -/
theorem Fm.newO {F O H : Hp} (h : Fm F O H) {p : Addr} {o : HO} (e : H p = none) (ho : ∀ vs, o ≠ .tup vs := by intro _ z; cases z) : Fm F (upd O p o) (upd H p o) := by
  refine ⟨h.f.trans (Le.new e), fun a u q => ?_, fun a q => ?_, nt_upd h.nt ho⟩
  · by_cases ha : a = p
    · subst ha
      rw [upd_same] at q ⊢
      exact q
    · rw [upd_ne ha] at q ⊢
      exact h.o a u q
  · have ha : a ≠ p := fun z => q (by rw [z]; exact h.fnone e)
    rw [upd_ne ha]
    exact h.ds a q
/-- what is ours changes -/
theorem Fm.wr {F O H : Hp} (h : Fm F O H) {p : Addr} {o u : HO} (e : O p = some u) (ho : ∀ vs, o ≠ .tup vs := by intro _ z; cases z) : Fm F (upd O p o) (upd H p o) := by
  have hF := h.own e
  refine ⟨fun a v q => ?_, fun a v q => ?_, fun a q => ?_, nt_upd h.nt ho⟩
  · rw [upd_ne (ne_of_none q hF)]
    exact h.f a v q
  · by_cases ha : a = p
    · subst ha
      rw [upd_same] at q ⊢
      exact q
    · rw [upd_ne ha] at q ⊢
      exact h.o a v q
  · have ha : a ≠ p := fun z => q (by rw [z]; exact hF)
    rw [upd_ne ha]
    exact h.ds a q
theorem pu_ok {m : R α} {a : α} (h : m.pu = .ok a) : m = .ok a := by
  cases m with
  | ok b => exact congrArg R.ok (R.ok.inj h)
  | er c p => cases h
  | bad => cases h
theorem pu_nb {m : R α} (h : m.pu ≠ .bad) : ∃ a, m = .ok a := by
  cases m with
  | ok b => exact ⟨b, rfl⟩
  | er c p => exact absurd rfl h
  | bad => exact absurd rfl h
/-- [e for target in .. if t] -/
theorem ef_lc [Enc α] [Enc β] {wi : TI} {g : TG} {tt : TT} {te : TE} {vs js : List Nat} {m : R (List α)} {ft : α → R Bool} {fe : α → R β} {up : α → List Sl → List Sl} {Gi : α → List Sl} (hi : IG cf E wi G m) (hg : AG cf g up js)
    (hj : ∀ j ∈ js, j ∈ vs) (hG : ∀ a, up a (wipeG G vs) = Gi a) (ht : ∀ a, EB cf E0 tt (Gi a) (ft a)) (he : ∀ a, EM cf E0 te (Gi a) (fe a)) : EF cf E (tLc wi g tt te vs) G (m.bind (lcR ft fe)) := fun F O H σ Q hf hE nb ko ke =>
  hi F O H σ _ hf hE (R.bind_nb nb) (fun xs J F1 H1 em le1 hf1 hJ D hD => by
    rw [em, R.ok_bind] at nb ko
    obtain ⟨hz, ez⟩ := szR_nb (R.bind_nb nb)
    have etot : lcR ft fe xs = compR ft fe xs := by
      unfold lcR
      rw [ez]
      rfl
    rw [etot] at nb ko
    have hE1 : Er cf.K F1 O σ G := hE.mono le1
    let W : Nat → Nat → Hp → Prop := fun i mm H => mm = xs.length - i ∧ i ≤ xs.length ∧ ∃ (F2 : Hp) (ws : List V) (acc : List β), Le F1 F2 ∧ Fm F2 (upd O D (.lst ws)) H ∧ DrA cf.K F2 ws (acc.map toD) ∧ acc.length ≤ i ∧ (compR ft fe (xs.drop i)).bind (fun ys => .ok (acc ++ ys)) = compR ft fe xs
    refine ⟨W, ⟨xs.length, by simp, Nat.zero_le _, F1, [], [], Le.refl F1, hf1.newO hD, .nil, Nat.le_refl _, by rw [List.drop_zero]; simp only [List.nil_append]; exact R.bind_ok _⟩, ?_⟩
    rintro i mm H2 ⟨rfl, hi, F2, ws, acc, le2, hf2, hd, hacc, tot⟩
    have hO1 : O D = none := hf1.onone hD
    have leO : Le O (upd O D (.lst ws)) := Le.new hO1
    by_cases hlt : i < xs.length
    · have hx : xs[i]? = some xs[i] := List.getElem?_eq_getElem hlt
      rw [List.drop_eq_getElem_cons hlt] at tot
      rw [← tot] at nb
      have nbc := R.bind_nb nb
      obtain ⟨b, eb⟩ := pu_nb (R.bind_nb nbc)
      obtain ⟨hgo, hyl⟩ := (hJ i F2 (upd O D (.lst ws)) H2 le2 hf2).1 _ hx
      refine .inr ⟨hgo, fun H' => W (i + 1) (xs.length - (i + 1)) H', fun H' h' => ⟨_, by omega, h'⟩, fun v H3 hy => ?_⟩
      obtain ⟨F3, le3, hf3, hv⟩ := hyl v H3 hy
      refine hg F3 _ H3 _ _ v xs[i] _ hf3 (er_wipe ((hE1.mono (le2.trans le3)).monoO leO) vs) hv fun σ2 e2 _ w2 => ⟨?_, ?_⟩
      · rw [w2 vs hj]
        have key : ∀ (us : List Nat) (τ : L2.St), (∀ u ∈ us, u ∈ vs) → wipe (wipe σ us) vs = wipe σ vs := by
          intro us
          induction us with
          | nil => intro _ _; rfl
          | cons u us ih =>
            intro τ hu
            show wipe ((wipe σ us).set u none) vs = wipe σ vs
            rw [wipe_set (hu u (by simp)), ih τ fun z hz => hu z (by simp [hz])]
        exact key vs σ fun u hu => hu
      · rw [hG] at e2
        refine ht xs[i] F3 _ H3 σ2 _ hf3 e2 (by rw [eb]; intro z; cases z) (fun b' r F4 H4 eb' le4 hf4 hr => ?_) (fun c p d F4 H4 e => by rw [eb] at e; cases e)
        rw [eb] at eb'
        cases eb'
        obtain rfl : r = b := hr
        rw [show compR ft fe (xs[i] :: xs.drop (i + 1)) = (ft xs[i]).pu.bind fun b => if b = true then (fe xs[i]).pu.bind fun y => (compR ft fe (xs.drop (i + 1))).bind fun ys => .ok (y :: ys) else compR ft fe (xs.drop (i + 1)) from rfl, eb, R.ok_pu, R.ok_bind] at tot nbc
        cases r with
        | false =>
          rw [if_neg Bool.false_ne_true] at tot
          rw [if_neg Bool.false_ne_true]
          exact ⟨rfl, hlt, F4, ws, acc, (le2.trans le3).trans le4, hf4, hd.mono (le3.trans le4), by omega, tot⟩
        | true =>
          rw [if_pos rfl] at tot nbc
          rw [if_pos rfl]
          obtain ⟨y, ey⟩ := pu_nb (R.bind_nb nbc)
          refine he xs[i] F4 _ H4 σ2 _ hf4 (e2.mono le4) (by rw [ey]; intro z; cases z) (fun y' u F5 H5 ey' le5 hf5 hu => ?_) (fun c p d F5 H5 e => by rw [ey] at e; cases e)
          rw [ey] at ey'
          cases ey'
          rw [ey, R.ok_pu, R.ok_bind] at tot
          refine ⟨ws, hf5.o D _ upd_same, ?_, rfl, hlt, F5, ws ++ [u], acc ++ [y], ((le2.trans le3).trans le4).trans le5, ?_, ?_, by rw [List.length_append]; simp; omega, ?_⟩
          · rw [hd.length, List.length_map]
            exact sz_ltM (by omega)
          · have q := hf5.wr (o := .lst (ws ++ [u])) upd_same
            rw [upd_upd] at q
            exact q
          · rw [List.map_append]
            exact (hd.mono ((le3.trans le4).trans le5)).append (.cons hu .nil)
          · rw [← tot, R.bind_bind]
            simp only [R.ok_bind, List.append_assoc, List.cons_append, List.nil_append]
    · have e : i = xs.length := by omega
      subst e
      rw [List.drop_length] at tot
      have tot2 : compR ft fe xs = .ok acc := by
        rw [← tot]
        show R.ok (acc ++ []) = _
        rw [List.append_nil]
      have hFD : F2 D = none := hf2.own (o := .lst ws) upd_same
      exact .inl ⟨(hJ _ F2 (upd O D (.lst ws)) H2 le2 hf2).2 (Nat.le_refl _), ko acc _ F2 H2 tot2 (le1.trans le2) (hf2.weak leO) ⟨D, ws, rfl, hFD, hO1, hf2.o D _ upd_same, hd⟩⟩) fun c p d F' H' e => ke c p d F' H' (by rw [e]; rfl)
theorem eb_yes : EB cf E tYes G (.ok true) := EG.fin fun F O H σ Q hf he ko => ko _ F H (Le.refl F) hf rfl
end
end Kr

/-! KrE: statements by data, defs' promises. -/
namespace Kr
open PySem PySem.Spec PyProof.Rows L2
open Enc (toD)

/-- how a block ends: behind it, by break, by return -/
inductive Fl (S ρ : Type) where
  | nx (s : S)
  | bk (s : S)
  | rt (r : ρ)
def seqF {S T ρ : Type} (m : R (Fl S ρ)) (k : S → R (Fl T ρ)) : R (Fl T ρ) := m.bind fun
  | .nx s => k s
  | .bk _ => .bad
  | .rt r => .ok (.rt r)
/-- where a slot's own objects stand -/
def Fps (K : PySem.W.Frag) (F O : Hp) (x : Option (Option V)) : Option Sl → List Addr → Prop
  | some (.ol _), fp => ∃ a, x = some (some (.ref a)) ∧ fp = [a]
  | some (.od _), fp => ∃ a, x = some (some (.ref a)) ∧ fp = [a]
  | some (.ow t), fp => ∃ v, x = some (some v) ∧ Own K F (inO O) v t fp ∧ fp.Nodup
  | _, fp => fp = []
structure OwsF (K : PySem.W.Frag) (F O O' : Hp) (σ : L2.St) (G : List Sl) (fp : Nat → List Addr) : Prop where
  at' : ∀ i, Fps K F O' σ[i]? G[i]? (fp i)
  out : ∀ i p, p ∈ fp i → O p = none
  sep : ∀ i j p, i ≠ j → p ∈ fp i → p ∈ fp j → False
  bo : ∀ (i : Nat) (t : Tr), G[i]? = some (Sl.bo t) → SlOk K F O σ[i]? (Sl.bo t)
def Ows (K : PySem.W.Frag) (F O O' : Hp) (σ : L2.St) (G : List Sl) : Prop := ∃ fp, OwsF K F O O' σ G fp
theorem Fps.mono {K : PySem.W.Frag} {F F' O O' : Hp} {x : Option (Option V)} {fp : List Addr} (e : Le F F') : ∀ {s : Option Sl}, (∀ p ∈ fp, ∀ o, O p = some o → O' p = some o) → Fps K F O x s fp → Fps K F' O' x s fp
  | none, _, h => h
  | some (.un), _, h => h
  | some (.va _), _, h => h
  | some (.pv _), _, h => h
  | some (.bo _), _, h => h
  | some (.vo _), _, h => h
  | some (.ol _), _, h => h
  | some (.od _), _, h => h
  | some (.ow _), k, ⟨v, h1, h2, h3⟩ => ⟨v, h1, h2.mono e k, h3⟩
theorem Ows.mono {K : PySem.W.Frag} {F F' O O' : Hp} {σ : L2.St} {G : List Sl} (h : Ows K F O O' σ G) (e : Le F F') : Ows K F' O O' σ G := by
  obtain ⟨fp, h⟩ := h
  exact ⟨fp, fun i => (h.at' i).mono e fun _ _ _ q => q, h.out, h.sep, fun i t q => (h.bo i t q).mono e⟩
/-- the kept slots are as they were -/
theorem Ows.keep {K : PySem.W.Frag} {F O O' : Hp} {σ σ' : L2.St} {G G' : List Sl} (h : Ows K F O O' σ G) (k : ∀ (i : Nat) (s : Sl), G'[i]? = some s → s.own = true → G[i]? = some s ∧ σ'[i]? = σ[i]?) : Ows K F O O' σ' G' := by
  obtain ⟨fp, h⟩ := h
  have sub : ∀ i p, p ∈ (match G'[i]? with | some s => if s.own = true then fp i else [] | none => []) → p ∈ fp i := fun i p q => by
    split at q
    · split at q
      · exact q
      · cases q
    · cases q
  refine ⟨fun i => match G'[i]? with | some s => if s.own = true then fp i else [] | none => [], fun i => ?_, fun i p q => h.out i p (sub i p q), fun i j p hij q q' => h.sep i j p hij (sub i p q) (sub j p q'), fun i t q => ?_⟩
  · cases e : G'[i]? with
    | none => rfl
    | some s =>
      show Fps K F O' σ'[i]? (some s) (if s.own = true then fp i else [])
      by_cases c : s.own = true
      · rw [if_pos c]
        obtain ⟨h1, h2⟩ := k i s e c
        rw [h2, ← h1]
        exact h.at' i
      · rw [if_neg c]
        cases s <;> first | rfl | exact absurd rfl c
  · obtain ⟨h1, h2⟩ := k i _ q rfl
    rw [h2]
    exact h.bo i t h1
theorem OwsF.inO {K : PySem.W.Frag} {F O O' : Hp} {σ : L2.St} {G : List Sl} {fp : Nat → List Addr} (h : OwsF K F O O' σ G fp) (he : Er K F O' σ G) {i : Nat} {p : Addr} (q : p ∈ fp i) : ∃ o, O' p = some o := by
  have h1 := h.at' i
  cases e : G[i]? with
  | none =>
    rw [e] at h1
    rw [show fp i = [] from h1] at q
    cases q
  | some s =>
    rw [e] at h1
    have h2 := he.at' i s e
    cases s with
    | ol ds =>
      obtain ⟨a, e1, e2⟩ := h1
      obtain ⟨b, vs, e3, e4, _⟩ := h2
      rw [e1] at e3
      cases e3
      rw [e2] at q
      rw [List.mem_singleton.mp q]
      exact ⟨_, e4⟩
    | od ds =>
      obtain ⟨a, e1, e2⟩ := h1
      obtain ⟨b, vs, e3, e4, _⟩ := h2
      rw [e1] at e3
      cases e3
      rw [e2] at q
      rw [List.mem_singleton.mp q]
      exact ⟨_, e4⟩
    | ow t =>
      obtain ⟨v, e1, e2, _⟩ := h1
      exact e2.at p q
    | un => rw [show fp i = [] from h1] at q; cases q
    | va d => rw [show fp i = [] from h1] at q; cases q
    | pv v => rw [show fp i = [] from h1] at q; cases q
    | bo t => rw [show fp i = [] from h1] at q; cases q
    | vo t => rw [show fp i = [] from h1] at q; cases q
def Mt (K : PySem.W.Frag) (F O H : Hp) (σ : L2.St) (G : List Sl) : Prop := ∃ O', Le O O' ∧ Fm F O' H ∧ Er K F O' σ G ∧ Ows K F O O' σ G
theorem Mt.fm {K : PySem.W.Frag} {F O H : Hp} {σ : L2.St} {G : List Sl} (h : Mt K F O H σ G) : Fm F O H := let ⟨_, l, f, _⟩ := h; f.weak l
def SB {S ρ : Type} [Rs ρ] (cf : Cf) (E : XK) (ts : TS) (G : List Sl) (enc : S → List Sl) (m : R (Fl S ρ)) : Prop :=
  ∀ (F O H : Hp) (σ : L2.St) (D : Ends), Mt cf.K F O H σ G → m ≠ .bad →
    (∀ s F' H' σ', m = .ok (.nx s) → Le F F' → Mt cf.K F' O H' σ' (enc s) → D.nx σ' H') →
    (∀ s F' H' σ', m = .ok (.bk s) → Le F F' → Mt cf.K F' O H' σ' (enc s) → D.bk σ' H') →
    (∀ r v F' H', m = .ok (.rt r) → Le F F' → Fm F' O H' → Rs.res cf F' O H' v r → D.rt v H') →
    (∀ c p d F' H', m = .er c p → Le F F' → Fm F' O H' → F' d = some (xdO cf c p) → E (.ref (cf.cls c)) (some d) H') → ts D σ H
section
variable {cf : Cf} {E : XK} {G G' : List Sl} {S T α β γ ρ : Type} [Rs ρ] {ta tb te : TE} {t u : TS} {tc : TT} {enc : S → List Sl} {D : Ends}
theorem SB.cast {m n : R (Fl S ρ)} (h : SB cf E t G enc m) (e : m = n) : SB cf E t G enc n := e ▸ h
/-- an expression, then what comes with its value -/
theorem sb_of {α τ : Type} {r : L2.St → Hp → (τ → Hp → Prop) → Prop} {m : R α} {rel : Hp → Hp → Hp → τ → α → Prop} {f : α → R (Fl S ρ)} {k : τ → TS} (h : EG cf E r G m rel)
    (hk : ∀ (F O O' H : Hp) (σ : L2.St) (D : Ends) (a : α) (v : τ), Le O O' → Fm F O' H → Er cf.K F O' σ G →
      Ows cf.K F O O' σ G →
      rel F O' H v a → f a ≠ .bad →
      (∀ s F' H' σ', f a = .ok (.nx s) → Le F F' → Mt cf.K F' O H' σ' (enc s) → D.nx σ' H') →
      (∀ s F' H' σ', f a = .ok (.bk s) → Le F F' → Mt cf.K F' O H' σ' (enc s) → D.bk σ' H') →
      (∀ r v F' H', f a = .ok (.rt r) → Le F F' → Fm F' O H' → Rs.res cf F' O H' v r → D.rt v H') →
      (∀ c p d F' H', f a = .er c p → Le F F' → Fm F' O H' → F' d = some (xdO cf c p) → E (.ref (cf.cls c)) (some d) H') → k v D σ H) :
    SB cf E (fun D σ H => r σ H fun v H1 => k v D σ H1) G enc (m.bind f) := fun F O H σ D hM nb kn kb kr ke => by
  obtain ⟨O', lo, hf, he, ow⟩ := hM
  refine h F O' H σ _ hf he (R.bind_nb nb) (fun a v F' H' ea le hf' hr => ?_) (fun c p d F' H' e le hf' hd => ke c p d F' H' (by rw [e]; rfl) le (hf'.weak lo) hd)
  rw [ea, R.ok_bind] at nb kn kb kr ke
  exact hk F' O O' H' σ D a v lo hf' (he.mono le) (ow.mono le) hr nb (fun s F'' H'' σ' e le' => kn s F'' H'' σ' e (le.trans le')) (fun s F'' H'' σ' e le' => kb s F'' H'' σ' e (le.trans le')) (fun r v F'' H'' e le' => kr r v F'' H'' e (le.trans le'))
    fun c p d F'' H'' e le' => ke c p d F'' H'' e (le.trans le')
theorem sb_one {m : R (Fl S ρ)} (h : SB cf E (tSeq t tNext) G enc m) : SB cf E t G enc m := h
theorem sb_assoc {w' : TS} {m : R (Fl S ρ)} (h : SB cf E (tSeq t (tSeq u w')) G enc m) : SB cf E (tSeq (tSeq t u) w') G enc m := h
/-- what is known less -/
inductive Sub : List Sl → List Sl → Prop
  | nil : Sub [] []
  | same {s : Sl} {G G' : List Sl} : Sub G G' → Sub (s :: G) (s :: G')
  | drop {s : Sl} {G G' : List Sl} : Sub G G' → Sub (s :: G) (.un :: G')
theorem Sub.len : ∀ {G G' : List Sl}, Sub G G' → G.length = G'.length
  | _, _, .nil => rfl
  | _, _, .same h => by rw [List.length_cons, List.length_cons, Sub.len h]
  | _, _, .drop h => by rw [List.length_cons, List.length_cons, Sub.len h]
theorem Sub.at : ∀ {G G' : List Sl}, Sub G G' → ∀ (i : Nat) (s : Sl), G'[i]? = some s → s = .un ∨ G[i]? = some s
  | _, _, .nil, i, s, h => by simp at h
  | _, _, .same _, 0, s, h => .inr h
  | _, _, .same q, i + 1, s, h => by
    rcases Sub.at q i s (by simpa using h) with e | e
    · exact .inl e
    · exact .inr (by simpa using e)
  | _, _, .drop _, 0, s, h => by
    simp at h
    exact .inl h.symm
  | _, _, .drop q, i + 1, s, h => by
    rcases Sub.at q i s (by simpa using h) with e | e
    · exact .inl e
    · exact .inr (by simpa using e)
theorem Mt.sub {K : PySem.W.Frag} {F O H : Hp} {σ : L2.St} (q : Sub G G') (h : Mt K F O H σ G) : Mt K F O H σ G' := by
  obtain ⟨O', lo, hf, he, ow⟩ := h
  refine ⟨O', lo, hf, ⟨he.len.trans q.len, fun i s e => ?_⟩, ow.keep fun i s e o => ?_⟩
  · rcases q.at i s e with z | z
    · rw [z]
      exact trivial
    · exact he.at' i s z
  · rcases q.at i s e with z | z
    · rw [z] at o
      cases o
    · exact ⟨z, rfl⟩
theorem sb_sub {m : R (Fl S ρ)} (q : Sub G G') (h : SB cf E t G' enc m) : SB cf E t G enc m := fun F O H σ D hM => h F O H σ D (hM.sub q)
theorem sb_next (s : S) (q : Sub G (enc s)) : SB cf E tNext G enc (.ok (.nx s) : R (Fl S ρ)) := fun F O H σ D hM _ kn _ _ _ => kn s F H σ rfl (Le.refl F) (hM.sub q)
theorem sb_break (s : S) (q : Sub G (enc s)) : SB cf E tBreak G enc (.ok (.bk s) : R (Fl S ρ)) := fun F O H σ D hM _ _ kb _ _ => kb s F H σ rfl (Le.refl F) (hM.sub q)
theorem sb_break2 (s : S) (q : Sub G (enc s)) : SB cf E (tSeq tBreak u) G enc (.ok (.bk s) : R (Fl S ρ)) := fun F O H σ D hM _ _ kb _ _ => kb s F H σ rfl (Le.refl F) (hM.sub q)
theorem sb_ret {ρ : Type} [Enc ρ] {m : R ρ} (h : EM cf E te G m) : SB cf E (tRet te) G enc (m.bind fun r => .ok (.rt r)) :=
  sb_of (k := fun v D σ H => D.rt v H) h fun F O O' H σ D a v lo hf he ow hr nb kn kb kr ke => kr a v F H rfl (Le.refl F) (hf.weak lo) hr
theorem sb_ret2 {ρ : Type} [Enc ρ] {m : R ρ} (h : EM cf E te G m) : SB cf E (tSeq (tRet te) u) G enc (m.bind fun r => .ok (.rt r)) :=
  sb_of (k := fun v D σ H => D.rt v H) h fun F O O' H σ D a v lo hf he ow hr nb kn kb kr ke => kr a v F H rfl (Le.refl F) (hf.weak lo) hr
/-- target = e, then u -/
theorem sb_asg [Enc α] {g : TG} {up : α → List Sl → List Sl} {js : List Nat} {m : R α} {f : α → R (Fl S ρ)} (h : EM cf E te G m) (hg : AG cf g up js) (G' : α → List Sl) (hG : ∀ a, up a G = G' a) (hk : ∀ a, SB cf E u (G' a) enc (f a)) :
    SB cf E (tSeq (tAsg te g) u) G enc (m.bind f) :=
  sb_of (k := fun v D σ H => g v σ H (u D)) h fun F O O' H σ D a v lo hf he ow hr nb kn kb kr ke => hg F O' H σ G v a _ hf he hr fun σ' e' own _ => by
    rw [hG] at e' own
    exact hk a F O H σ' D ⟨O', lo, hf, e', ow.keep own⟩ nb kn kb kr ke
theorem aug_eq {i : Nat} {ti : TIp} : tAug i te ti = tAsg (tOp ti (tVar i) te) (gName i) := rfl
theorem sb_aug [Enc α] {i : Nat} {ti : TIp} {m : R α} {f : α → R (Fl S ρ)} (h : EM cf E (tOp ti (tVar i) te) G m) (G' : α → List Sl) (hG : ∀ a, G.set i (.va (toD a)) = G' a) (hk : ∀ a, SB cf E u (G' a) enc (f a)) :
    SB cf E (tSeq (tAug i te ti) u) G enc (m.bind f) := sb_asg h (ag_name i) G' hG hk
/-- x = a new list, owned -/
theorem er_own {K : PySem.W.Frag} {F O : Hp} {σ : L2.St} (h : Er K F O σ G) (i : Nat) {v : V} {s : Sl} (r : SlOk K F O (some (some v)) s) : Er K F O (σ.set i (some v)) (G.set i s) := by
  refine ⟨by rw [List.length_set, List.length_set, h.len], fun j t e => ?_⟩
  by_cases hj : i = j
  · subst hj
    by_cases hl : i < G.length
    · rw [List.getElem?_set_self hl] at e
      cases e
      rw [List.getElem?_set_self (by rw [h.len]; exact hl)]
      exact r
    · rw [List.getElem?_eq_none (by rw [List.length_set]; omega)] at e
      cases e
  · rw [List.getElem?_set_ne hj] at e ⊢
    exact h.at' j t e
theorem get_set {A : Type} {l : List A} {i j : Nat} {x y : A} (h : (l.set i x)[j]? = some y) : (i = j ∧ y = x ∧ i < l.length) ∨ (i ≠ j ∧ l[j]? = some y) := by
  by_cases hj : i = j
  · subst hj
    by_cases hl : i < l.length
    · rw [List.getElem?_set_self hl] at h
      cases h
      exact .inl ⟨rfl, rfl, hl⟩
    · rw [List.getElem?_eq_none (by rw [List.length_set]; omega)] at h
      cases h
  · rw [List.getElem?_set_ne hj] at h
    exact .inr ⟨hj, h⟩
/-- the slot i owns new objects -/
theorem mt_newG {K : PySem.W.Frag} {F O O' O2 H : Hp} {σ : L2.St} {i : Nat} {v : V} {s : Sl} {fpn : List Addr} (lo : Le O O') (l2 : Le O' O2) (hf : Fm F O2 H) (he : Er K F O' σ G) (ow : Ows K F O O' σ G)
    (hn : ∀ p ∈ fpn, O' p = none) (hs : SlOk K F O2 (some (some v)) s) (hp : Fps K F O2 (some (some v)) (some s) fpn) (hb : ∀ t, s ≠ .bo t) : Mt K F O H (σ.set i (some v)) (G.set i s) := by
  obtain ⟨fp, w⟩ := ow
  have nin : ∀ j p, p ∈ fp j → p ∉ fpn := fun j p q q' => by
    obtain ⟨o, e⟩ := w.inO he q
    rw [hn p q'] at e
    cases e
  refine ⟨O2, lo.trans l2, hf, er_own (he.monoO l2) i hs, fun j => if j = i then (if i < G.length then fpn else []) else fp j, fun j => ?_, fun j p q => ?_, fun j l p hjl q q' => ?_, fun j t e => ?_⟩
  · by_cases hj : i = j
    · subst hj
      rw [if_pos rfl]
      by_cases hl : i < G.length
      · rw [if_pos hl, List.getElem?_set_self hl, List.getElem?_set_self (by rw [he.len]; exact hl)]
        exact hp
      · rw [if_neg hl, List.getElem?_eq_none (by rw [List.length_set]; omega : (G.set i s).length ≤ i)]
        rfl
    · rw [if_neg (fun z => hj z.symm), List.getElem?_set_ne hj, List.getElem?_set_ne hj]
      exact (w.at' j).mono (Le.refl F) fun p _ o q => l2 p o q
  · by_cases hj : j = i
    · rw [if_pos hj] at q
      split at q
      · exact lo.free (hn p q)
      · cases q
    · rw [if_neg hj] at q
      exact w.out j p q
  · by_cases hj : j = i
    · rw [if_pos hj] at q
      rw [if_neg (fun z => hjl (hj.trans z.symm))] at q'
      split at q
      · exact nin l p q' q
      · cases q
    · rw [if_neg hj] at q
      by_cases hl : l = i
      · rw [if_pos hl] at q'
        split at q'
        · exact nin j p q q'
        · cases q'
      · rw [if_neg hl] at q'
        exact w.sep j l p hjl q q'
  · rcases get_set e with ⟨rfl, e1, _⟩ | ⟨hj, e1⟩
    · exact absurd e1.symm (hb t)
    · rw [List.getElem?_set_ne hj]
      exact w.bo j t e1
/-- the slot i owns a new object at a -/
theorem mt_new {K : PySem.W.Frag} {F O O' H : Hp} {σ : L2.St} {i : Nat} {a : Addr} {o : HO} {s : Sl} (lo : Le O O') (hf : Fm F O' H) (he : Er K F O' σ G) (ow : Ows K F O O' σ G)
    (hF : F a = none) (hO : O' a = none) (hH : H a = some o) (hs : SlOk K F (upd O' a o) (some (some (.ref a))) s) (hp : Fps K F (upd O' a o) (some (some (.ref a))) (some s) [a]) (hb : ∀ t, s ≠ .bo t) (ho : ∀ vs, o ≠ .tup vs := by intro _ z; cases z) : Mt K F O H (σ.set i (some (.ref a))) (G.set i s) := by
  have hf2 : Fm F (upd O' a o) H := by
    refine ⟨hf.f, fun b u q => ?_, fun b q => ?_, nt_upd hf.nt ho⟩
    · by_cases hb : b = a
      · subst hb
        rw [upd_same] at q
        rw [hH]
        exact q
      · rw [upd_ne hb] at q
        exact hf.o b u q
    · have hb : b ≠ a := fun z => q (by rw [z]; exact hF)
      rw [upd_ne hb]
      exact hf.ds b q
  exact mt_newG lo (Le.new hO) hf2 he ow (fun p q => by rw [List.mem_singleton.mp q]; exact hO) hs hp hb
theorem sb_asgO [Enc α] {i : Nat} {m : R (List α)} {f : List α → R (Fl S ρ)} (h : EF cf E te G m) (G' : List α → List Sl) (hG : ∀ xs : List α, G.set i (.ol (xs.map toD)) = G' xs) (hk : ∀ xs, SB cf E u (G' xs) enc (f xs)) :
    SB cf E (tSeq (tAsg te (gName i)) u) G enc (m.bind f) :=
  sb_of (k := fun v D σ H => u D (σ.set i (some v)) H) h fun F O O' H σ D xs v lo hf he ow hr nb kn kb kr ke => by
    obtain ⟨a, vs, rfl, hF, hO, hH, hd⟩ := hr
    refine hk xs F O H _ D ?_ nb kn kb kr ke
    rw [← hG]
    exact mt_new lo hf he ow hF hO hH ⟨a, vs, rfl, upd_same, hd⟩ ⟨a, rfl, rfl⟩ (fun _ z => nomatch z)
/-- the own objects of the slot i change -/
theorem mt_wrG {K : PySem.W.Frag} {F O O' O2 H2 : Hp} {σ : L2.St} {i : Nat} {s : Sl} {fp : Nat → List Addr} {fp2 : List Addr} (lo : Le O O') (he : Er K F O' σ G) (w : OwsF K F O O' σ G fp) (nv : noVo G = true) (hi : i < G.length)
    (keep : ∀ p, p ∉ fp i → ∀ o, O' p = some o → O2 p = some o) (hf : Fm F O2 H2) (hs : SlOk K F O2 σ[i]? s) (hp : Fps K F O2 σ[i]? (some s) fp2) (hn : ∀ p ∈ fp2, p ∈ fp i ∨ O' p = none) (hb : ∀ t, s ≠ .bo t) : Mt K F O H2 σ (G.set i s) := by
  have lo2 : Le O O2 := fun p o q => keep p (fun z => by
    rw [w.out i p z] at q
    cases q) o (lo p o q)
  refine ⟨O2, lo2, hf, ⟨by rw [List.length_set, he.len], fun j t e => ?_⟩, fun j => if j = i then fp2 else fp j, fun j => ?_, fun j p q => ?_, fun j l p hjl q q' => ?_, fun j t e => ?_⟩
  · rcases get_set e with ⟨rfl, rfl, _⟩ | ⟨hj, e⟩
    · exact hs
    · have h1 := he.at' j t e
      have h2 := w.at' j
      rw [e] at h2
      have nin : ∀ p, p ∈ fp j → p ∉ fp i := fun p q q' => w.sep i j p hj q' q
      cases t with
      | un => trivial
      | pv v => exact h1
      | va d => exact h1
      | ol ds =>
        obtain ⟨b, vs, e1, e2, e3⟩ := h1
        obtain ⟨b', e4, e5⟩ := h2
        rw [e1] at e4
        cases e4
        exact ⟨b, vs, e1, keep b (nin b (by rw [e5]; exact List.mem_singleton.mpr rfl)) _ e2, e3⟩
      | od ds =>
        obtain ⟨b, vs, e1, e2, e3⟩ := h1
        obtain ⟨b', e4, e5⟩ := h2
        rw [e1] at e4
        cases e4
        exact ⟨b, vs, e1, keep b (nin b (by rw [e5]; exact List.mem_singleton.mpr rfl)) _ e2, e3⟩
      | ow t =>
        obtain ⟨v, e1, e2, _⟩ := h2
        exact ⟨v, fp j, e1, e2.mono (Le.refl F) fun p q o z => keep p (nin p q) o z⟩
      | bo t =>
        exact (w.bo j t e).monoO lo2
      | vo t =>
        have := List.all_eq_true.mp nv _ (List.mem_of_getElem? e)
        cases this
  · by_cases hj : j = i
    · subst hj
      rw [if_pos rfl, List.getElem?_set_self hi]
      exact hp
    · rw [if_neg hj, List.getElem?_set_ne (fun z => hj z.symm)]
      exact (w.at' j).mono (Le.refl F) fun p q o z => keep p (fun q' => w.sep i j p (fun z => hj z.symm) q' q) o z
  · by_cases hj : j = i
    · rw [if_pos hj] at q
      rcases hn p q with z | z
      · exact w.out i p z
      · exact lo.free z
    · rw [if_neg hj] at q
      exact w.out j p q
  · have key : ∀ l, l ≠ i → p ∈ fp2 → p ∈ fp l → False := fun l hl z z' => by
      rcases hn p z with y | y
      · exact w.sep i l p (fun q => hl q.symm) y z'
      · obtain ⟨o, e⟩ := w.inO he z'
        rw [y] at e
        cases e
    by_cases hj : j = i
    · rw [if_pos hj] at q
      have hl : l ≠ i := fun z => hjl (hj.trans z.symm)
      rw [if_neg hl] at q'
      exact key l hl q q'
    · rw [if_neg hj] at q
      by_cases hl : l = i
      · rw [if_pos hl] at q'
        exact key j hj q' q
      · rw [if_neg hl] at q'
        exact w.sep j l p hjl q q'
  · rcases get_set e with ⟨rfl, e1, _⟩ | ⟨hj, e1⟩
    · exact absurd e1.symm (hb t)
    · exact w.bo j t e1
/-- the owned object of the slot i changes -/
theorem mt_wr {K : PySem.W.Frag} {F O O' H : Hp} {σ : L2.St} {i : Nat} {a : Addr} {o u : HO} {s s0 : Sl} (lo : Le O O') (hf : Fm F O' H) (he : Er K F O' σ G) (ow : Ows K F O O' σ G) (nv : noVo G = true)
    (h0 : G[i]? = some s0) (w0 : (∃ ds, s0 = .ol ds) ∨ ∃ ds, s0 = .od ds) (hσ : σ[i]? = some (some (.ref a))) (hO : O' a = some u) (hs : SlOk K F (upd O' a o) (some (some (.ref a))) s) (hp : Fps K F (upd O' a o) (some (some (.ref a))) (some s) [a]) (hb : ∀ t, s ≠ .bo t) (ho : ∀ vs, o ≠ .tup vs := by intro _ z; cases z) : Mt K F O (upd H a o) σ (G.set i s) := by
  obtain ⟨fp, w⟩ := ow
  have hfp : fp i = [a] := by
    have h1 := w.at' i
    rw [h0] at h1
    rcases w0 with ⟨ds, rfl⟩ | ⟨ds, rfl⟩
    · obtain ⟨b, e1, e2⟩ := h1
      rw [hσ] at e1
      cases e1
      exact e2
    · obtain ⟨b, e1, e2⟩ := h1
      rw [hσ] at e1
      cases e1
      exact e2
  refine mt_wrG (fp2 := [a]) lo he w nv (List.getElem?_eq_some_iff.mp h0).1 (fun p hpn x q => ?_) (hf.wr hO ho) (by rw [hσ]; exact hs) (by rw [hσ]; exact hp) (fun p q => .inl (by rw [hfp]; exact q)) hb
  rw [hfp, List.mem_singleton] at hpn
  rw [upd_ne hpn]
  exact q
/-- x.append(e), x owned -/
theorem sb_app [Enc α] {i : Nat} {m : R α} {xs : List α} {f : List α → R (Fl S ρ)} (h0 : G[i]? = some (.ol (xs.map toD))) (h : EM cf E te G m) (G' : List α → List Sl) (hG : ∀ xs : List α, G.set i (.ol (xs.map toD)) = G' xs) (hk : ∀ xs, SB cf E u (G' xs) enc (f xs)) (nv : noVo G = true := by rfl) :
    SB cf E (tSeq (tDrop (tBM cf.K "list" rAppend (tVar i) (tCons te tNil))) u) G enc (m.bind fun a => (szR (xs ++ [a])).bind f) := fun F O H σ D hM nb kn kb kr ke => by
  obtain ⟨O', lo, hf, he, ow⟩ := hM
  obtain ⟨a, vs, eσ, eO, hd⟩ := he.at' i _ h0
  refine ⟨_, eσ, .inl ⟨rfl, vs, SqL.of (hf.o _ _ eO)⟩, ?_⟩
  refine h F O' H σ _ hf he (R.bind_nb nb) (fun x v F' H' ex le hf' hr => ?_) (fun c p d F' H' e le hf' hd => ke c p d F' H' (by rw [e]; rfl) le (hf'.weak lo) hd)
  rw [ex, R.ok_bind] at nb kn kb kr ke
  obtain ⟨c, ec⟩ := szR_nb (R.bind_nb nb)
  rw [ec, R.ok_bind] at nb kn kb kr ke
  refine ⟨a, vs, v, rfl, rfl, hf'.o _ _ eO, ?_, ?_⟩
  · rw [hd.length, List.length_map]
    rw [List.length_append] at c
    exact sz_ltM (by omega)
  · refine hk _ F' O _ σ D ?_ nb (fun s F'' H'' σ' e le' => kn s F'' H'' σ' e (le.trans le')) (fun s F'' H'' σ' e le' => kb s F'' H'' σ' e (le.trans le')) (fun r v F'' H'' e le' => kr r v F'' H'' e (le.trans le')) fun c p d F'' H'' e le' => ke c p d F'' H'' e (le.trans le')
    rw [← hG]
    exact mt_wr lo hf' (he.mono le) (ow.mono le) nv h0 (.inl ⟨_, rfl⟩) eσ eO (hp := ⟨a, rfl, rfl⟩) (hb := fun _ z => nomatch z) <| ⟨a, _, rfl, upd_same, by
      rw [List.map_append]
      exact (hd.mono le).append (.cons hr .nil)⟩
/-- x.extend(e), x owned -/
theorem sb_ext [Enc α] {i : Nat} {m : R (List α)} {xs : List α} {f : List α → R (Fl S ρ)} (h0 : G[i]? = some (.ol (xs.map toD))) (h : EL cf E te G m) (G' : List α → List Sl) (hG : ∀ xs : List α, G.set i (.ol (xs.map toD)) = G' xs) (hk : ∀ xs, SB cf E u (G' xs) enc (f xs)) (nv : noVo G = true := by rfl) :
    SB cf E (tSeq (tDrop (tBM cf.K "list" rExtend (tVar i) (tCons te tNil))) u) G enc (m.bind fun ys => (szR (xs ++ ys)).bind f) := fun F O H σ D hM nb kn kb kr ke => by
  obtain ⟨O', lo, hf, he, ow⟩ := hM
  obtain ⟨a, vs, eσ, eO, hd⟩ := he.at' i _ h0
  refine ⟨_, eσ, .inl ⟨rfl, vs, SqL.of (hf.o _ _ eO)⟩, ?_⟩
  refine h F O' H σ _ hf he (R.bind_nb nb) (fun ys v F' H' ex le hf' hr => ?_) (fun c p d F' H' e le hf' hd => ke c p d F' H' (by rw [e]; rfl) le (hf'.weak lo) hd)
  rw [ex, R.ok_bind] at nb kn kb kr ke
  obtain ⟨c, ec⟩ := szR_nb (R.bind_nb nb)
  rw [ec, R.ok_bind] at nb kn kb kr ke
  obtain ⟨b, ws, eb, hb, hw⟩ := RL.at hr hf'
  refine ⟨a, b, vs, ws, rfl, by rw [eb], hf'.o _ _ eO, hb, ?_, ?_⟩
  · rw [hd.length, hw.length, List.length_map, List.length_map, ← List.length_append]
    exact sz_le c
  · refine hk _ F' O _ σ D ?_ nb (fun s F'' H'' σ' e le' => kn s F'' H'' σ' e (le.trans le')) (fun s F'' H'' σ' e le' => kb s F'' H'' σ' e (le.trans le')) (fun r v F'' H'' e le' => kr r v F'' H'' e (le.trans le')) fun c p d F'' H'' e le' => ke c p d F'' H'' e (le.trans le')
    rw [← hG]
    exact mt_wr lo hf' (he.mono le) (ow.mono le) nv h0 (.inl ⟨_, rfl⟩) eσ eO (hp := ⟨a, rfl, rfl⟩) (hb := fun _ z => nomatch z) <| ⟨a, _, rfl, upd_same, by
      rw [List.map_append]
      exact (hd.mono le).append hw⟩
/-- x.reverse(), x owned -/
theorem sb_rev [Enc α] {i : Nat} {xs : List α} {m : R (Fl S ρ)} (h0 : G[i]? = some (.ol (xs.map toD))) (G' : List Sl) (hG : G.set i (.ol (xs.reverse.map toD)) = G') (hk : SB cf E u G' enc m) (nv : noVo G = true := by rfl) :
    SB cf E (tSeq (tDrop (tBM0 cf.K "list" rReverse (tVar i))) u) G enc m := fun F O H σ D hM nb kn kb kr ke => by
  obtain ⟨O', lo, hf, he, ow⟩ := hM
  obtain ⟨a, vs, eσ, eO, hd⟩ := he.at' i _ h0
  refine ⟨_, eσ, .inl ⟨rfl, vs, SqL.of (hf.o _ _ eO)⟩, a, vs, rfl, rfl, hf.o _ _ eO, ?_⟩
  refine hk F O _ σ D ?_ nb kn kb kr ke
  rw [← hG]
  exact mt_wr lo hf he ow nv h0 (.inl ⟨_, rfl⟩) eσ eO (hp := ⟨a, rfl, rfl⟩) (hb := fun _ z => nomatch z) <| ⟨a, _, rfl, upd_same, by
    rw [List.map_reverse]
    exact hd.reverse⟩
/-- target = x.pop(), x owned -/
def popR (xs : List α) : R (List α × α) := match xs.getLast? with
  | some x => .ok (xs.dropLast, x)
  | none => .bad
theorem sb_pop [Enc α] {i : Nat} {g : TG} {up : α → List Sl → List Sl} {js : List Nat} {xs : List α} {f : List α × α → R (Fl S ρ)} (h0 : G[i]? = some (.ol (xs.map toD))) (hg : AG cf g up js) (G' : List α × α → List Sl)
    (hG : ∀ p : List α × α, up p.2 (G.set i (.ol (p.1.map toD))) = G' p) (hk : ∀ p, SB cf E u (G' p) enc (f p)) (nv : noVo G = true := by rfl) :
    SB cf E (tSeq (tAsg (tBM0 cf.K "list" rPop (tVar i)) g) u) G enc ((popR xs).bind f) := fun F O H σ D hM nb kn kb kr ke => by
  obtain ⟨O', lo, hf, he, ow⟩ := hM
  obtain ⟨a, vs, eσ, eO, hd⟩ := he.at' i _ h0
  cases hl : xs.getLast? with
  | none =>
    unfold popR at nb
    rw [hl] at nb
    exact absurd rfl nb
  | some x =>
    have ep : popR xs = .ok (xs.dropLast, x) := by
      unfold popR
      rw [hl]
    rw [ep, R.ok_bind] at nb kn kb kr ke
    rw [List.getLast?_eq_getElem?] at hl
    obtain ⟨v, hv, hr⟩ := hd.get (show (xs.map toD)[xs.length - 1]? = some (toD x) by rw [List.getElem?_map, hl]; rfl)
    have hlen : vs.length = xs.length := by rw [hd.length, List.length_map]
    refine ⟨_, eσ, .inl ⟨rfl, vs, SqL.of (hf.o _ _ eO)⟩, a, vs, v, rfl, rfl, hf.o _ _ eO, by rw [hlen]; exact hv, ?_⟩
    have hM2 : Mt cf.K F O (upd H a (.lst vs.dropLast)) σ (G.set i (.ol (xs.dropLast.map toD))) := mt_wr lo hf he ow nv h0 (.inl ⟨_, rfl⟩) eσ eO (hp := ⟨a, rfl, rfl⟩) (hb := fun _ z => nomatch z) <| ⟨a, _, rfl, upd_same, by
      rw [List.map_dropLast]
      exact hd.dropLast⟩
    obtain ⟨O2, lo2, hf2, he2, ow2⟩ := hM2
    refine hg F O2 _ σ _ v x _ hf2 he2 hr fun σ' e' own _ => ?_
    have hG' := hG (xs.dropLast, x)
    rw [hG'] at e' own
    exact hk _ F O _ σ' D ⟨O2, lo2, hf2, e', ow2.keep own⟩ nb kn kb kr ke
/-- x[k] = e, x owned -/
def setR (xs : List α) (k : Int) (a : α) : R (List α) := match ixN xs.length k with
  | some j => .ok (xs.set j a)
  | none => .bad
theorem sb_setL [Enc α] {i : Nat} {tk : TE} {m : R α} {n : R Int} {xs : List α} {f : List α → R (Fl S ρ)} (h0 : G[i]? = some (.ol (xs.map toD))) (h : EM cf E te G m) (hi : EM cf E tk G n) (G' : List α → List Sl) (hG : ∀ xs : List α, G.set i (.ol (xs.map toD)) = G' xs) (hk : ∀ xs, SB cf E u (G' xs) enc (f xs)) (nv : noVo G = true := by rfl) :
    SB cf E (tSeq (tAsg te (gSub (tVar i) tk rSetL)) u) G enc (m.bind fun a => n.bind fun k => (setR xs k a).bind f) := fun F O H σ D hM nb kn kb kr ke => by
  obtain ⟨O', lo, hf, he, ow⟩ := hM
  obtain ⟨a, vs, eσ, eO, hd⟩ := he.at' i _ h0
  refine h F O' H σ _ hf he (R.bind_nb nb) (fun x v F1 H1 ex le1 hf1 hr => ?_) (fun c p d F' H' e le hf' hd => ke c p d F' H' (by rw [e]; rfl) le (hf'.weak lo) hd)
  rw [ex, R.ok_bind] at nb kn kb kr ke
  refine ⟨_, eσ, ?_⟩
  refine hi F1 O' H1 σ _ hf1 (he.mono le1) (R.bind_nb nb) (fun k w' F' H' ek le2 hf' hw => ?_) (fun c p d F' H' e le hf' hd => ke c p d F' H' (by rw [e]; rfl) (le1.trans le) (hf'.weak lo) hd)
  rw [ek, R.ok_bind] at nb kn kb kr ke
  cases hx : ixN xs.length k with
  | none =>
    unfold setR at nb
    rw [hx] at nb
    exact absurd rfl nb
  | some j =>
    have es : setR xs k x = .ok (xs.set j x) := by
      unfold setR
      rw [hx]
    rw [es, R.ok_bind] at nb kn kb kr ke
    have le := le1.trans le2
    refine ⟨a, vs, k, j, rfl, dr_int hw, hf'.o _ _ eO, by rw [hd.length, List.length_map]; exact hx, ?_⟩
    refine hk _ F' O _ σ D ?_ nb (fun s F'' H'' σ' e le' => kn s F'' H'' σ' e (le.trans le')) (fun s F'' H'' σ' e le' => kb s F'' H'' σ' e (le.trans le')) (fun r v F'' H'' e le' => kr r v F'' H'' e (le.trans le')) fun c p d F'' H'' e le' => ke c p d F'' H'' e (le.trans le')
    rw [← hG]
    exact mt_wr lo hf' (he.mono le) (ow.mono le) nv h0 (.inl ⟨_, rfl⟩) eσ eO (hp := ⟨a, rfl, rfl⟩) (hb := fun _ z => nomatch z) <| ⟨a, _, rfl, upd_same, by
      rw [List.map_set]
      exact (hd.mono le).set (hr.mono le2) j⟩
def era (H : Hp) (a : Addr) : Hp := fun b => if b = a then none else H b
theorem era_ne {H : Hp} {a b : Addr} (h : b ≠ a) : era H a b = H b := if_neg h
theorem era_same {H : Hp} {a : Addr} : era H a a = none := if_pos rfl
/-- what is owned becomes data -/
theorem sb_frz {i : Nat} {ds : List Dt} {m : R (Fl S ρ)} (h0 : G[i]? = some (.ol ds)) (G' : List Sl) (hG : G.set i (.va (.lst ds)) = G') (h : SB cf E t G' enc m) : SB cf E t G enc m := fun F O H σ D hM nb kn kb kr ke => by
  obtain ⟨O', lo, hf, he, fp, w⟩ := hM
  obtain ⟨a, vs, eσ, eO, hd⟩ := he.at' i _ h0
  have hF : F a = none := hf.own eO
  have hfp : fp i = [a] := by
    have h1 := w.at' i
    rw [h0] at h1
    obtain ⟨b, e1, e2⟩ := h1
    rw [eσ] at e1
    cases e1
    exact e2
  have hOa : O a = none := w.out i a (by rw [hfp]; exact List.mem_singleton.mpr rfl)
  have le : Le F (upd F a (.lst vs)) := Le.new hF
  have hdel : ∀ b o, b ≠ a → O' b = some o → era O' a b = some o := fun b o hb q => by rw [era_ne hb]; exact q
  have lo2 : Le O (era O' a) := fun b x q => hdel b x (ne_of_none q hOa) (lo b x q)
  have nin : ∀ j, j ≠ i → ∀ p, p ∈ fp j → p ≠ a := fun j hj p q z => w.sep j i p hj q (by rw [hfp, z]; exact List.mem_singleton.mpr rfl)
  have hM2 : Mt cf.K (upd F a (.lst vs)) O H σ G' := by
    refine ⟨era O' a, lo2, ⟨fun b x q => ?_, fun b x q => ?_, fun b q => ?_, fun b vs q => ?_⟩, ⟨?_, fun j s e => ?_⟩, fun j => if j = i then [] else fp j, fun j => ?_, fun j p q => ?_, fun j l p hjl q q' => ?_, fun j t e => ?_⟩
    · by_cases hb : b = a
      · subst hb
        rw [upd_same] at q
        rw [hf.o _ _ eO]
        exact q
      · rw [upd_ne hb] at q
        exact hf.f b x q
    · by_cases hb : b = a
      · subst hb
        rw [era_same] at q
        cases q
      · rw [era_ne hb] at q
        exact hf.o b x q
    · by_cases hb : b = a
      · subst hb
        exact era_same
      · rw [upd_ne hb] at q
        rw [era_ne hb]
        exact hf.ds b q
    · by_cases hb : b = a
      · subst hb
        rw [era_same] at q
        cases q
      · rw [era_ne hb] at q
        exact hf.nt b vs q
    · rw [← hG, List.length_set, he.len]
    · rw [← hG] at e
      rcases get_set e with ⟨rfl, rfl, _⟩ | ⟨hj, e⟩
      · exact ⟨_, eσ, .lst upd_same (hd.mono le)⟩
      · have h1 := (he.at' j s e).mono le
        have h2 := w.at' j
        rw [e] at h2
        cases s with
        | un => trivial
        | va d => exact h1
        | pv v => exact h1
        | ol es =>
          obtain ⟨b, ws, e1, e2, e3⟩ := h1
          obtain ⟨b', e4, e5⟩ := h2
          rw [e1] at e4
          cases e4
          exact ⟨b, ws, e1, hdel b _ (nin j (fun z => hj z.symm) b (by rw [e5]; exact List.mem_singleton.mpr rfl)) e2, e3⟩
        | od es =>
          obtain ⟨b, ws, e1, e2, e3⟩ := h1
          obtain ⟨b', e4, e5⟩ := h2
          rw [e1] at e4
          cases e4
          exact ⟨b, ws, e1, hdel b _ (nin j (fun z => hj z.symm) b (by rw [e5]; exact List.mem_singleton.mpr rfl)) e2, e3⟩
        | ow t =>
          obtain ⟨v, e1, e2, _⟩ := h2
          exact ⟨v, fp j, e1, e2.mono le fun p q o z => hdel p o (nin j (fun z => hj z.symm) p q) z⟩
        | bo t => exact ((w.bo j t e).mono le).monoO lo2
        | vo t =>
          obtain ⟨v, fq, e1, e2⟩ := he.at' j _ e
          refine ⟨v, fq, e1, e2.mono le fun p _ o q => ?_⟩
          rcases q with q | q
          · exact .inl (le p o q)
          · by_cases hb : p = a
            · subst hb
              rw [eO] at q
              cases q
              exact .inl upd_same
            · exact .inr (hdel p o hb q)
    · rw [← hG]
      by_cases hj : j = i
      · subst hj
        rw [if_pos rfl, List.getElem?_set_self (List.getElem?_eq_some_iff.mp h0).1]
        rfl
      · rw [if_neg hj, List.getElem?_set_ne (fun z => hj z.symm)]
        exact (w.at' j).mono le fun p q o z => hdel p o (nin j hj p q) z
    · by_cases hj : j = i
      · rw [if_pos hj] at q
        cases q
      · rw [if_neg hj] at q
        exact w.out j p q
    · by_cases hj : j = i
      · rw [if_pos hj] at q
        cases q
      · by_cases hl : l = i
        · rw [if_pos hl] at q'
          cases q'
        · rw [if_neg hj] at q
          rw [if_neg hl] at q'
          exact w.sep j l p hjl q q'
    · rw [← hG] at e
      rcases get_set e with ⟨_, e1, _⟩ | ⟨_, e⟩
      · cases e1
      · exact (w.bo j t e).mono le
  exact h _ O H σ D hM2 nb (fun s F'' H'' σ' e le' => kn s F'' H'' σ' e (le.trans le')) (fun s F'' H'' σ' e le' => kb s F'' H'' σ' e (le.trans le')) (fun r v F'' H'' e le' => kr r v F'' H'' e (le.trans le')) fun c p d F'' H'' e le' => ke c p d F'' H'' e (le.trans le')

/-! ### ifs, blocks -/
theorem sb_if {w' : TS} {mc : R Bool} {m1 m2 : R (Fl S ρ)} (hc : EB cf E tc G mc) (h1 : SB cf E (tSeq t w') G enc m1) (h2 : SB cf E (tSeq u w') G enc m2) : SB cf E (tSeq (tIfS tc t u) w') G enc (mc.bind fun c => if c = true then m1 else m2) :=
  sb_of (k := fun b D σ H => if b = true then t { D with nx := w' D } σ H else u { D with nx := w' D } σ H) hc fun F O O' H σ D a v lo hf he ow hr nb kn kb kr ke => by
    obtain rfl : v = a := hr
    cases v with
    | true => exact h1 F O H σ D ⟨O', lo, hf, he, ow⟩ nb kn kb kr ke
    | false => exact h2 F O H σ D ⟨O', lo, hf, he, ow⟩ nb kn kb kr ke
/-- the last statement of a block -/
theorem sb_ifL {mc : R Bool} {m1 m2 : R (Fl S ρ)} (hc : EB cf E tc G mc) (h1 : SB cf E t G enc m1) (h2 : SB cf E u G enc m2) : SB cf E (tIfS tc t u) G enc (mc.bind fun c => if c = true then m1 else m2) := sb_if (w' := tNext) hc h1 h2
/-- a block, then the rest -/
theorem sb_seq {enc1 : T → List Sl} {m : R (Fl T ρ)} {k : T → R (Fl S ρ)} (h : SB cf E t G enc1 m) (hk : ∀ s, SB cf E u (enc1 s) enc (k s)) : SB cf E (tSeq t u) G enc (seqF m k) := fun F O H σ D hM nb kn kb kr ke =>
  h F O H σ { D with nx := u D } hM (R.bind_nb nb) (fun s F' H' σ' e le hM' => by
      unfold seqF at nb kn kb kr ke
      rw [e, R.ok_bind] at nb kn kb kr ke
      exact hk s F' O H' σ' D hM' nb (fun s F'' H'' σ' e le' => kn s F'' H'' σ' e (le.trans le')) (fun s F'' H'' σ' e le' => kb s F'' H'' σ' e (le.trans le')) (fun r v F'' H'' e le' => kr r v F'' H'' e (le.trans le')) fun c p d F'' H'' e le' => ke c p d F'' H'' e (le.trans le'))
    (fun s F' H' σ' e le hM' => by
      unfold seqF at nb
      rw [e, R.ok_bind] at nb
      exact absurd rfl nb)
    (fun r v F' H' e le hf hr => kr r v F' H' (by unfold seqF; rw [e]; rfl) le hf hr) fun c p d F' H' e le hf hd => ke c p d F' H' (by unfold seqF; rw [e]; rfl) le hf hd

/-! ### loops -/
def forR (step : T → α → R (Fl T ρ)) (k : T → R (Fl S ρ)) : List α → T → R (Fl S ρ)
  | [], s => k s
  | x :: r, s => (step s x).bind fun
    | .nx s' => forR step k r s'
    | .bk s' => k s'
    | .rt v => .ok (.rt v)
theorem sb_for [Enc α] {wi : TI} {g : TG} {tb : TS} {up : α → List Sl → List Sl} {js : List Nat} {m : R (List α)} {encL : T → List Sl} {step : T → α → R (Fl T ρ)} {k : T → R (Fl S ρ)} (hi : IG cf E wi G m) (hg : AG cf g up js) (s0 : T) (h0 : Sub G (encL s0))
    (Gi : T → α → List Sl) (hG : ∀ s a, up a (encL s) = Gi s a) (hb : ∀ s a, SB cf E tb (Gi s a) encL (step s a)) (hk : ∀ s, SB cf E u (encL s) enc (k s)) :
    SB cf E (tSeq (tFor wi g tb) u) G enc (m.bind fun xs => forR step k xs s0) := fun F O H σ D hM nb kn kb kr ke => by
  obtain ⟨O0, lo, hf, he, ow⟩ := hM
  refine hi F O0 H σ _ hf he (R.bind_nb nb) (fun xs J F1 H1 em le1 hf1 hJ => ?_) (fun c p d F' H' e le hf' hd => ke c p d F' H' (by rw [e]; rfl) le (hf'.weak lo) hd)
  rw [em, R.ok_bind] at nb kn kb kr ke
  have hM1 : Mt cf.K F1 O H1 σ G := ⟨O0, lo, hf1, he.mono le1, ow.mono le1⟩
  let W : Nat → Nat → L2.St → Hp → Prop := fun i mm σ H => mm = xs.length - i ∧ i ≤ xs.length ∧ ∃ (F2 : Hp) (s : T), Le F1 F2 ∧ Mt cf.K F2 O H σ (encL s) ∧ forR step k (xs.drop i) s = forR step k xs s0
  refine ⟨W, ⟨xs.length, by simp, Nat.zero_le _, F1, s0, Le.refl F1, hM1.sub h0, by rw [List.drop_zero]⟩, ?_⟩
  rintro i mm σ2 H2 ⟨rfl, hi, F2, s, le2, hM2, tot⟩
  by_cases hlt : i < xs.length
  · have hx : xs[i]? = some xs[i] := List.getElem?_eq_getElem hlt
    rw [List.drop_eq_getElem_cons hlt] at tot
    rw [← tot] at nb kn kb kr ke
    obtain ⟨O2, lo2, hf2, he2, ow2⟩ := hM2
    obtain ⟨hgo, hyl⟩ := (hJ i F2 O2 H2 le2 hf2).1 _ hx
    refine .inr ⟨hgo, fun σ H => W (i + 1) (xs.length - (i + 1)) σ H, fun σ' H' h' => ⟨_, by omega, h'⟩, fun v H3 hy => ?_⟩
    obtain ⟨F3, le3, hf3, hv⟩ := hyl v H3 hy
    refine hg F3 O2 H3 σ2 _ v xs[i] _ hf3 (he2.mono le3) hv fun σ3 e3 own _ => ?_
    rw [hG] at e3 own
    have hM3 : Mt cf.K F3 O H3 σ3 (Gi s xs[i]) := ⟨O2, lo2, hf3, e3, (ow2.mono le3).keep own⟩
    have le13 := (le1.trans le2).trans le3
    refine hb s xs[i] F3 O H3 σ3 _ hM3 (R.bind_nb nb) (fun s' F4 H4 σ4 e le4 hM4 => ?_) (fun s' F4 H4 σ4 e le4 hM4 => ?_) (fun r v F4 H4 e le4 hf4 hr => ?_) (fun c p d F4 H4 e le4 hf4 hd => ?_)
    · refine ⟨rfl, hlt, F4, s', (le2.trans le3).trans le4, hM4, ?_⟩
      rw [← tot]
      show _ = (step s xs[i]).bind _
      rw [e]
      rfl
    · have en : forR step k (xs[i] :: xs.drop (i + 1)) s = k s' := by
        show (step s xs[i]).bind _ = _
        rw [e]
        rfl
      rw [en] at nb kn kb kr ke
      have le14 := le13.trans le4
      exact hk s' F4 O H4 σ4 D hM4 nb (fun s F'' H'' σ' e le' => kn s F'' H'' σ' e (le14.trans le')) (fun s F'' H'' σ' e le' => kb s F'' H'' σ' e (le14.trans le')) (fun r v F'' H'' e le' => kr r v F'' H'' e (le14.trans le')) fun c p d F'' H'' e le' => ke c p d F'' H'' e (le14.trans le')
    · exact kr r v F4 H4 (by show (step s xs[i]).bind _ = _; rw [e]; rfl) (le13.trans le4) hf4 hr
    · exact ke c p d F4 H4 (by show (step s xs[i]).bind _ = _; rw [e]; rfl) (le13.trans le4) hf4 hd
  · have e : i = xs.length := by omega
    subst e
    rw [List.drop_length] at tot
    have tot2 : forR step k xs s0 = k s := tot.symm
    rw [tot2] at nb kn kb kr ke
    obtain ⟨O2, lo2, hf2, he2, ow2⟩ := id hM2
    have le12 := le1.trans le2
    exact .inl ⟨(hJ _ F2 O2 H2 le2 hf2).2 (Nat.le_refl _), hk s F2 O H2 σ2 D hM2 nb (fun s F'' H'' σ' e le' => kn s F'' H'' σ' e (le12.trans le')) (fun s F'' H'' σ' e le' => kb s F'' H'' σ' e (le12.trans le')) (fun r v F'' H'' e le' => kr r v F'' H'' e (le12.trans le')) fun c p d F'' H'' e le' => ke c p d F'' H'' e (le12.trans le')⟩
/-- while: fuel, what is tested, the body -/
def whileR (c : T → R Bool) (step : T → R (Fl T ρ)) (k : T → R (Fl S ρ)) : Nat → T → R (Fl S ρ)
  | 0, _ => .bad
  | n + 1, s => (c s).bind fun b => if b = true then (step s).bind fun
      | .nx s' => whileR c step k n s'
      | .bk s' => k s'
      | .rt v => .ok (.rt v) else k s
theorem sb_while {tb : TS} {encL : T → List Sl} {c : T → R Bool} {step : T → R (Fl T ρ)} {k : T → R (Fl S ρ)} (n : Nat) (s0 : T) (h0 : Sub G (encL s0)) (hc : ∀ s, EB cf E tc (encL s) (c s)) (hb : ∀ s, SB cf E tb (encL s) encL (step s)) (hk : ∀ s, SB cf E u (encL s) enc (k s)) :
    SB cf E (tSeq (tWhile tc tb) u) G enc (whileR c step k n s0) := fun F O H σ D hM nb kn kb kr ke => by
  let W : Nat → L2.St → Hp → Prop := fun mm σ H => ∃ (F2 : Hp) (s : T), Le F F2 ∧ Mt cf.K F2 O H σ (encL s) ∧ whileR c step k mm s = whileR c step k n s0
  refine ⟨W, ⟨n, F, s0, Le.refl F, hM.sub h0, rfl⟩, ?_⟩
  rintro mm σ2 H2 ⟨F2, s, le2, hM2, tot⟩
  rw [← tot] at nb kn kb kr ke
  cases mm with
  | zero => exact absurd rfl nb
  | succ mm =>
    obtain ⟨O2, lo2, hf2, he2, ow2⟩ := hM2
    refine hc s F2 O2 H2 σ2 _ hf2 he2 (R.bind_nb nb) (fun b r F3 H3 e le3 hf3 hr => ?_) (fun c' p d F' H' e le hf' hd => ke c' p d F' H' (by show (c s).bind _ = _; rw [e]; rfl) (le2.trans le) (hf'.weak lo2) hd)
    obtain rfl : r = b := hr
    have hM3 : Mt cf.K F3 O H3 σ2 (encL s) := ⟨O2, lo2, hf3, he2.mono le3, ow2.mono le3⟩
    have le13 := le2.trans le3
    cases r with
    | false =>
      have en : whileR c step k (mm + 1) s = k s := by
        show (c s).bind _ = _
        rw [e]
        rfl
      rw [en] at nb kn kb kr ke
      exact hk s F3 O H3 σ2 D hM3 nb (fun s F'' H'' σ' e le' => kn s F'' H'' σ' e (le13.trans le')) (fun s F'' H'' σ' e le' => kb s F'' H'' σ' e (le13.trans le')) (fun r v F'' H'' e le' => kr r v F'' H'' e (le13.trans le')) fun c p d F'' H'' e le' => ke c p d F'' H'' e (le13.trans le')
    | true =>
      have en : whileR c step k (mm + 1) s = (step s).bind fun
          | .nx s' => whileR c step k mm s'
          | .bk s' => k s'
          | .rt v => .ok (.rt v) := by
        show (c s).bind _ = _
        rw [e]
        rfl
      rw [en] at nb kn kb kr ke
      refine ⟨fun σ H => W mm σ H, fun σ' H' h' => ⟨mm, Nat.lt_succ_self _, h'⟩, ?_⟩
      refine hb s F3 O H3 σ2 _ hM3 (R.bind_nb nb) (fun s' F4 H4 σ4 e4 le4 hM4 => ?_) (fun s' F4 H4 σ4 e4 le4 hM4 => ?_) (fun r v F4 H4 e4 le4 hf4 hr => kr r v F4 H4 (by rw [e4]; rfl) (le13.trans le4) hf4 hr) (fun c p d F4 H4 e4 le4 hf4 hd => ke c p d F4 H4 (by rw [e4]; rfl) (le13.trans le4) hf4 hd)
      · refine ⟨F4, s', le13.trans le4, hM4, ?_⟩
        rw [← tot, en, e4]
        rfl
      · rw [e4, R.ok_bind] at nb kn kb kr ke
        have le14 := le13.trans le4
        exact hk s' F4 O H4 σ4 D hM4 nb (fun s F'' H'' σ' e le' => kn s F'' H'' σ' e (le14.trans le')) (fun s F'' H'' σ' e le' => kb s F'' H'' σ' e (le14.trans le')) (fun r v F'' H'' e le' => kr r v F'' H'' e (le14.trans le')) fun c p d F'' H'' e le' => ke c p d F'' H'' e (le14.trans le')
end
end Kr

/-! KrF: what a def promises by data, its call, its body. -/
namespace Kr
open PySem PySem.Spec PyProof.Rows L2
open Enc (toD)

/-- called with values of the data ds, it returns what the relation says; it raises nothing -/
def SpP (cf : Cf) (n : Nat) (spec : List Dt → R Dt → Prop) : Sp := fun vs H Q _ => vs.length = n ∧ ∃ (F O : Hp) (ds : List Dt) (d : Dt), Fm F O H ∧ DrA cf.K F vs ds ∧ spec ds (.ok d) ∧ ∀ v F' H', Le F F' → Fm F' O H' → Dr cf.K F' v d → Q v H'
theorem SpP.len {cf : Cf} {n : Nat} {spec : List Dt → R Dt → Prop} {ps : List Str} (h : ps.length = n := by rfl) : ∀ vs H Q E, SpP cf n spec vs H Q E → vs.length = ps.length := fun vs H Q E q => by rw [h]; exact q.1
/-- what a body gives, as a value -/
def finR {S ρ : Type} (m : R (Fl S ρ)) : R ρ := m.bind fun
  | .rt r => .ok r
  | _ => .bad
/-- of a def without return -/
def finN {S : Type} (m : R (Fl S Unit)) : R Unit := m.bind fun
  | .rt r => .ok r
  | .nx _ => .ok ()
  | _ => .bad
theorem er_start {K : PySem.W.Frag} {F O : Hp} {N : List Str} {vs : List V} {ds : List Dt} (h : DrA K F vs ds) : Er K F O (L2.start N vs) (ds.map Sl.va ++ List.replicate (N.length - ds.length) .un) := by
  have hl := h.length
  refine ⟨?_, fun i s e => ?_⟩
  · unfold L2.start
    rw [List.length_append, List.length_append, List.length_map, List.length_map, List.length_replicate, List.length_replicate, hl]
  · by_cases hi : i < ds.length
    · rw [List.getElem?_append_left (by rw [List.length_map]; exact hi), List.getElem?_map] at e
      cases q : ds[i]? with
      | none =>
        rw [q] at e
        cases e
      | some d =>
        rw [q] at e
        cases e
        obtain ⟨v, hv, r⟩ := h.get q
        refine ⟨v, ?_, r⟩
        unfold L2.start
        rw [List.getElem?_append_left (by rw [List.length_map, hl]; exact hi), List.getElem?_map, hv]
        rfl
    · rw [List.getElem?_append_right (by rw [List.length_map]; omega)] at e
      have e2 := List.getElem?_replicate (n := N.length - ds.length) (a := Sl.un) (i := i - (ds.map Sl.va).length)
      rw [e2] at e
      split at e
      · cases e
        exact trivial
      · cases e
/-- nothing is owned at the start -/
theorem ows_none {K : PySem.W.Frag} {F O : Hp} {σ : L2.St} {G : List Sl} (he : Er K F O σ G) (h : ∀ s ∈ G, (∀ ds, s ≠ .ol ds) ∧ (∀ ds, s ≠ .od ds) ∧ (∀ t, s ≠ .ow t)) : Ows K F O O σ G := by
  refine ⟨fun _ => [], fun i => ?_, fun i p q => absurd q List.not_mem_nil, fun i j p _ q => absurd q List.not_mem_nil, fun i t q => he.at' i _ q⟩
  cases e : G[i]? with
  | none => rfl
  | some s =>
    obtain ⟨h1, h2, h3⟩ := h s (List.mem_of_getElem? e)
    cases s with
    | ol ds => exact absurd rfl (h1 ds)
    | od ds => exact absurd rfl (h2 ds)
    | ow t => exact absurd rfl (h3 t)
    | un => rfl
    | va d => rfl
    | pv v => rfl
    | bo t => rfl
    | vo t => rfl
theorem mt_start {K : PySem.W.Frag} {F O H : Hp} {N : List Str} {vs : List V} {ds : List Dt} (hf : Fm F O H) (h : DrA K F vs ds) : Mt K F O H (L2.start N vs) (ds.map Sl.va ++ List.replicate (N.length - ds.length) .un) := by
  refine ⟨O, Le.refl O, hf, er_start h, ows_none (er_start h) fun s hm => ?_⟩
  rcases List.mem_append.mp hm with hm | hm
  · obtain ⟨d, _, rfl⟩ := List.mem_map.mp hm
    exact ⟨fun _ z => (nomatch z), fun _ z => (nomatch z), fun _ z => (nomatch z)⟩
  · rw [List.eq_of_mem_replicate hm]
    exact ⟨fun _ z => (nomatch z), fun _ z => (nomatch z), fun _ z => (nomatch z)⟩
section
variable {cf : Cf} {E : XK} {G : List Sl} {S ρ : Type} [Enc ρ]
/-- the promise from the body's run -/
theorem run_of {t : TS} {N : List Str} {vs : List V} {H : Hp} {Q : VK} {n : Nat} {spec : List Dt → R Dt → Prop} {enc : S → List Sl} (h : SpP cf n spec vs H Q E)
    (hb : ∀ ds d, spec ds (.ok d) → ∃ m : R (Fl S ρ), SB cf E0 t (ds.map Sl.va ++ List.replicate (N.length - ds.length) .un) enc m ∧ ∃ r, finR m = .ok r ∧ d = toD r) : t { nx := fun _ H' => Q .non H', rt := Q } (L2.start N vs) H := by
  obtain ⟨_, F, O, ds, d, hf, hr, hs, q⟩ := h
  obtain ⟨m, hm, r, er, ed⟩ := hb ds d hs
  have em : m = .ok (.rt r) := by
    cases m with
    | ok x =>
      cases x with
      | nx s => cases er
      | bk s => cases er
      | rt r' => cases er; rfl
    | er c p => cases er
    | bad => cases er
  subst em
  refine hm F O H _ _ (mt_start hf hr) (fun z => nomatch z) (fun _ _ _ _ z => nomatch z) (fun _ _ _ _ z => nomatch z) (fun r' v F' H' e le hf' hr' => ?_) (fun _ _ _ _ _ z => nomatch z)
  cases e
  rw [ed] at q
  exact q v F' H' le hf' hr'
theorem run_ofN {t : TS} {N : List Str} {vs : List V} {H : Hp} {Q : VK} {n : Nat} {spec : List Dt → R Dt → Prop} {enc : S → List Sl} (h : SpP cf n spec vs H Q E)
    (hb : ∀ ds d, spec ds (.ok d) → ∃ m : R (Fl S Unit), SB cf E0 t (ds.map Sl.va ++ List.replicate (N.length - ds.length) .un) enc m ∧ ∃ r, finN m = .ok r ∧ d = toD r) : t { nx := fun _ H' => Q .non H', rt := Q } (L2.start N vs) H := by
  obtain ⟨_, F, O, ds, d, hf, hr, hs, q⟩ := h
  obtain ⟨m, hm, r, er, ed⟩ := hb ds d hs
  have ed' : d = .non := ed
  subst ed'
  refine hm F O H _ _ (mt_start hf hr) (fun z => by rw [z] at er; cases er) (fun s F' H' σ' e le hM => q .non F' H' le hM.fm .non) (fun s F' H' σ' e => by rw [e] at er; cases er) (fun r' v F' H' e le hf' hr' => q v F' H' le hf' hr') (fun c p d F' H' e => by rw [e] at er; cases er)
end

section
variable {α τ : Type} [Enc α] [Enc τ]
def sp1 (g : α → R τ) : List Dt → R Dt → Prop := fun ds r => ∃ (a : α), ds = [toD a] ∧ r = (g a).map toD
theorem em_call1 {cf : Cf} {E : XK} {G : List Sl} {t0 : TE} {m0 : R α} {g : α → R τ} (h0 : EM cf E t0 G m0) : EM cf E (tCall (SpP cf 1 (sp1 g)) [] E0 (tCons t0 tNil)) G (m0.bind fun a => (g a).pu) := fun F O H σ Q hf he nb ko ke => by
  refine h0 F O H σ _ hf he (R.bind_nb nb) (fun a v0 F1 H1 e0 l1 hf1 r0 => ?_) (fun c p d F' H' e le hf' hd => ke c p d F' H' (by rw [e]; rfl) (le) hf' hd)
  rw [e0, R.ok_bind] at nb ko ke
  have le1 := l1
  obtain ⟨y, ey⟩ := pu_nb nb
  exact ⟨rfl, F1, O, _, toD y, hf1, (.cons r0 .nil), ⟨a, rfl, by rw [ey]; rfl⟩, fun v F' H' le hf' hr => ko y v F' H' (by rw [ey]; rfl) (le1.trans le) hf' hr⟩
theorem fn1 {P : Program} {w : World} {cf : Cf} {mg : Str → Option Value} {base : Heap} {x qual : Str} {st : Stmt} {f0 : Addr} {fd : FuncData} {N ps : List Str} {k : Nat} {S : Type} {enc : S → List Sl} (F : Fun cf.K x qual st f0 fd) (sc : FnScope N ps (defScope st)) (hp : ps.length = 1) (g : α → R (Fl S τ))
    (G0 : α → List Sl) (hG : ∀ a, [.va (toD a)] ++ List.replicate (N.length - 1) .un = G0 a)
    (h : ∀ (cdv : Value) (A : Around) (outer : List Env) (s : Shared) (H : Hp) (E : XK), Room k (A.deeper (envOfC qual (defScope st) s.heap.objs.size f0 cdv)) →
      ∃ t, PSs (cxOf CX0 P w cf.K mg base N qual (defScope st) f0 cdv A outer s H E).nox (defBody st) t ∧ ∀ a, SB cf E0 t (G0 a) enc (g a)) :
    FnOk P w cf.K mg base CX0 (k + 1) f0 fd ps (SpP cf 1 (sp1 fun a => finR (g a))) := by
  refine F.ok sc (SpP.len hp) (fun cdv A outer s H vs Q E hr hq => ?_)
  obtain ⟨t, ht, hb⟩ := h cdv A outer s H E hr
  refine ⟨t, ht, run_of (ρ := τ) (S := S) (enc := enc) hq fun ds dd hs => ?_⟩
  obtain ⟨a, rfl, er⟩ := hs
  refine ⟨g a, by have q := hb a; rw [← hG] at q; exact q, ?_⟩
  replace er : R.ok dd = (finR (g a)).map toD := er
  generalize q : finR (g a) = z at er
  cases z with
  | ok r => exact ⟨r, rfl, R.ok.inj er⟩
  | er c p => cases er
  | bad => cases er
end

section
variable {α β τ : Type} [Enc α] [Enc β] [Enc τ]
def sp2 (g : α → β → R τ) : List Dt → R Dt → Prop := fun ds r => ∃ (a : α) (b : β), ds = [toD a, toD b] ∧ r = (g a b).map toD
theorem em_call2 {cf : Cf} {E : XK} {G : List Sl} {t0 t1 : TE} {m0 : R α} {m1 : R β} {g : α → β → R τ} (h0 : EM cf E t0 G m0) (h1 : EM cf E t1 G m1) : EM cf E (tCall (SpP cf 2 (sp2 g)) [] E0 (tCons t0 (tCons t1 tNil))) G (m0.bind fun a => m1.bind fun b => (g a b).pu) := fun F O H σ Q hf he nb ko ke => by
  refine h0 F O H σ _ hf he (R.bind_nb nb) (fun a v0 F1 H1 e0 l1 hf1 r0 => ?_) (fun c p d F' H' e le hf' hd => ke c p d F' H' (by rw [e]; rfl) (le) hf' hd)
  rw [e0, R.ok_bind] at nb ko ke
  have le1 := l1
  refine h1 F1 O H1 σ _ hf1 (he.mono le1) (R.bind_nb nb) (fun b v1 F2 H2 e1 l2 hf2 r1 => ?_) (fun c p d F' H' e le hf' hd => ke c p d F' H' (by rw [e]; rfl) (le1.trans le) hf' hd)
  rw [e1, R.ok_bind] at nb ko ke
  have le2 := le1.trans l2
  obtain ⟨y, ey⟩ := pu_nb nb
  exact ⟨rfl, F2, O, _, toD y, hf2, (.cons (Dr.mono (l2) r0) (.cons r1 .nil)), ⟨a, b, rfl, by rw [ey]; rfl⟩, fun v F' H' le hf' hr => ko y v F' H' (by rw [ey]; rfl) (le2.trans le) hf' hr⟩
theorem fn2 {P : Program} {w : World} {cf : Cf} {mg : Str → Option Value} {base : Heap} {x qual : Str} {st : Stmt} {f0 : Addr} {fd : FuncData} {N ps : List Str} {k : Nat} {S : Type} {enc : S → List Sl} (F : Fun cf.K x qual st f0 fd) (sc : FnScope N ps (defScope st)) (hp : ps.length = 2) (g : α → β → R (Fl S τ))
    (G0 : α → β → List Sl) (hG : ∀ a b, [.va (toD a), .va (toD b)] ++ List.replicate (N.length - 2) .un = G0 a b)
    (h : ∀ (cdv : Value) (A : Around) (outer : List Env) (s : Shared) (H : Hp) (E : XK), Room k (A.deeper (envOfC qual (defScope st) s.heap.objs.size f0 cdv)) →
      ∃ t, PSs (cxOf CX0 P w cf.K mg base N qual (defScope st) f0 cdv A outer s H E).nox (defBody st) t ∧ ∀ a b, SB cf E0 t (G0 a b) enc (g a b)) :
    FnOk P w cf.K mg base CX0 (k + 1) f0 fd ps (SpP cf 2 (sp2 fun a b => finR (g a b))) := by
  refine F.ok sc (SpP.len hp) (fun cdv A outer s H vs Q E hr hq => ?_)
  obtain ⟨t, ht, hb⟩ := h cdv A outer s H E hr
  refine ⟨t, ht, run_of (ρ := τ) (S := S) (enc := enc) hq fun ds dd hs => ?_⟩
  obtain ⟨a, b, rfl, er⟩ := hs
  refine ⟨g a b, by have q := hb a b; rw [← hG] at q; exact q, ?_⟩
  replace er : R.ok dd = (finR (g a b)).map toD := er
  generalize q : finR (g a b) = z at er
  cases z with
  | ok r => exact ⟨r, rfl, R.ok.inj er⟩
  | er c p => cases er
  | bad => cases er
end

section
variable {α β γ τ : Type} [Enc α] [Enc β] [Enc γ] [Enc τ]
def sp3 (g : α → β → γ → R τ) : List Dt → R Dt → Prop := fun ds r => ∃ (a : α) (b : β) (c : γ), ds = [toD a, toD b, toD c] ∧ r = (g a b c).map toD
theorem em_call3 {cf : Cf} {E : XK} {G : List Sl} {t0 t1 t2 : TE} {m0 : R α} {m1 : R β} {m2 : R γ} {g : α → β → γ → R τ} (h0 : EM cf E t0 G m0) (h1 : EM cf E t1 G m1) (h2 : EM cf E t2 G m2) : EM cf E (tCall (SpP cf 3 (sp3 g)) [] E0 (tCons t0 (tCons t1 (tCons t2 tNil)))) G (m0.bind fun a => m1.bind fun b => m2.bind fun c => (g a b c).pu) := fun F O H σ Q hf he nb ko ke => by
  refine h0 F O H σ _ hf he (R.bind_nb nb) (fun a v0 F1 H1 e0 l1 hf1 r0 => ?_) (fun c p d F' H' e le hf' hd => ke c p d F' H' (by rw [e]; rfl) (le) hf' hd)
  rw [e0, R.ok_bind] at nb ko ke
  have le1 := l1
  refine h1 F1 O H1 σ _ hf1 (he.mono le1) (R.bind_nb nb) (fun b v1 F2 H2 e1 l2 hf2 r1 => ?_) (fun c p d F' H' e le hf' hd => ke c p d F' H' (by rw [e]; rfl) (le1.trans le) hf' hd)
  rw [e1, R.ok_bind] at nb ko ke
  have le2 := le1.trans l2
  refine h2 F2 O H2 σ _ hf2 (he.mono le2) (R.bind_nb nb) (fun c v2 F3 H3 e2 l3 hf3 r2 => ?_) (fun c p d F' H' e le hf' hd => ke c p d F' H' (by rw [e]; rfl) (le2.trans le) hf' hd)
  rw [e2, R.ok_bind] at nb ko ke
  have le3 := le2.trans l3
  obtain ⟨y, ey⟩ := pu_nb nb
  exact ⟨rfl, F3, O, _, toD y, hf3, (.cons (Dr.mono ((l2).trans l3) r0) (.cons (Dr.mono (l3) r1) (.cons r2 .nil))), ⟨a, b, c, rfl, by rw [ey]; rfl⟩, fun v F' H' le hf' hr => ko y v F' H' (by rw [ey]; rfl) (le3.trans le) hf' hr⟩
theorem fn3 {P : Program} {w : World} {cf : Cf} {mg : Str → Option Value} {base : Heap} {x qual : Str} {st : Stmt} {f0 : Addr} {fd : FuncData} {N ps : List Str} {k : Nat} {S : Type} {enc : S → List Sl} (F : Fun cf.K x qual st f0 fd) (sc : FnScope N ps (defScope st)) (hp : ps.length = 3) (g : α → β → γ → R (Fl S τ))
    (G0 : α → β → γ → List Sl) (hG : ∀ a b c, [.va (toD a), .va (toD b), .va (toD c)] ++ List.replicate (N.length - 3) .un = G0 a b c)
    (h : ∀ (cdv : Value) (A : Around) (outer : List Env) (s : Shared) (H : Hp) (E : XK), Room k (A.deeper (envOfC qual (defScope st) s.heap.objs.size f0 cdv)) →
      ∃ t, PSs (cxOf CX0 P w cf.K mg base N qual (defScope st) f0 cdv A outer s H E).nox (defBody st) t ∧ ∀ a b c, SB cf E0 t (G0 a b c) enc (g a b c)) :
    FnOk P w cf.K mg base CX0 (k + 1) f0 fd ps (SpP cf 3 (sp3 fun a b c => finR (g a b c))) := by
  refine F.ok sc (SpP.len hp) (fun cdv A outer s H vs Q E hr hq => ?_)
  obtain ⟨t, ht, hb⟩ := h cdv A outer s H E hr
  refine ⟨t, ht, run_of (ρ := τ) (S := S) (enc := enc) hq fun ds dd hs => ?_⟩
  obtain ⟨a, b, c, rfl, er⟩ := hs
  refine ⟨g a b c, by have q := hb a b c; rw [← hG] at q; exact q, ?_⟩
  replace er : R.ok dd = (finR (g a b c)).map toD := er
  generalize q : finR (g a b c) = z at er
  cases z with
  | ok r => exact ⟨r, rfl, R.ok.inj er⟩
  | er c p => cases er
  | bad => cases er
end

section
variable {α β γ δ τ : Type} [Enc α] [Enc β] [Enc γ] [Enc δ] [Enc τ]
def sp4 (g : α → β → γ → δ → R τ) : List Dt → R Dt → Prop := fun ds r => ∃ (a : α) (b : β) (c : γ) (d : δ), ds = [toD a, toD b, toD c, toD d] ∧ r = (g a b c d).map toD
theorem em_call4 {cf : Cf} {E : XK} {G : List Sl} {t0 t1 t2 t3 : TE} {m0 : R α} {m1 : R β} {m2 : R γ} {m3 : R δ} {g : α → β → γ → δ → R τ} (h0 : EM cf E t0 G m0) (h1 : EM cf E t1 G m1) (h2 : EM cf E t2 G m2) (h3 : EM cf E t3 G m3) : EM cf E (tCall (SpP cf 4 (sp4 g)) [] E0 (tCons t0 (tCons t1 (tCons t2 (tCons t3 tNil))))) G (m0.bind fun a => m1.bind fun b => m2.bind fun c => m3.bind fun d => (g a b c d).pu) := fun F O H σ Q hf he nb ko ke => by
  refine h0 F O H σ _ hf he (R.bind_nb nb) (fun a v0 F1 H1 e0 l1 hf1 r0 => ?_) (fun c p d F' H' e le hf' hd => ke c p d F' H' (by rw [e]; rfl) (le) hf' hd)
  rw [e0, R.ok_bind] at nb ko ke
  have le1 := l1
  refine h1 F1 O H1 σ _ hf1 (he.mono le1) (R.bind_nb nb) (fun b v1 F2 H2 e1 l2 hf2 r1 => ?_) (fun c p d F' H' e le hf' hd => ke c p d F' H' (by rw [e]; rfl) (le1.trans le) hf' hd)
  rw [e1, R.ok_bind] at nb ko ke
  have le2 := le1.trans l2
  refine h2 F2 O H2 σ _ hf2 (he.mono le2) (R.bind_nb nb) (fun c v2 F3 H3 e2 l3 hf3 r2 => ?_) (fun c p d F' H' e le hf' hd => ke c p d F' H' (by rw [e]; rfl) (le2.trans le) hf' hd)
  rw [e2, R.ok_bind] at nb ko ke
  have le3 := le2.trans l3
  refine h3 F3 O H3 σ _ hf3 (he.mono le3) (R.bind_nb nb) (fun d v3 F4 H4 e3 l4 hf4 r3 => ?_) (fun c p d F' H' e le hf' hd => ke c p d F' H' (by rw [e]; rfl) (le3.trans le) hf' hd)
  rw [e3, R.ok_bind] at nb ko ke
  have le4 := le3.trans l4
  obtain ⟨y, ey⟩ := pu_nb nb
  exact ⟨rfl, F4, O, _, toD y, hf4, (.cons (Dr.mono (((l2).trans l3).trans l4) r0) (.cons (Dr.mono ((l3).trans l4) r1) (.cons (Dr.mono (l4) r2) (.cons r3 .nil)))), ⟨a, b, c, d, rfl, by rw [ey]; rfl⟩, fun v F' H' le hf' hr => ko y v F' H' (by rw [ey]; rfl) (le4.trans le) hf' hr⟩
theorem fn4 {P : Program} {w : World} {cf : Cf} {mg : Str → Option Value} {base : Heap} {x qual : Str} {st : Stmt} {f0 : Addr} {fd : FuncData} {N ps : List Str} {k : Nat} {S : Type} {enc : S → List Sl} (F : Fun cf.K x qual st f0 fd) (sc : FnScope N ps (defScope st)) (hp : ps.length = 4) (g : α → β → γ → δ → R (Fl S τ))
    (G0 : α → β → γ → δ → List Sl) (hG : ∀ a b c d, [.va (toD a), .va (toD b), .va (toD c), .va (toD d)] ++ List.replicate (N.length - 4) .un = G0 a b c d)
    (h : ∀ (cdv : Value) (A : Around) (outer : List Env) (s : Shared) (H : Hp) (E : XK), Room k (A.deeper (envOfC qual (defScope st) s.heap.objs.size f0 cdv)) →
      ∃ t, PSs (cxOf CX0 P w cf.K mg base N qual (defScope st) f0 cdv A outer s H E).nox (defBody st) t ∧ ∀ a b c d, SB cf E0 t (G0 a b c d) enc (g a b c d)) :
    FnOk P w cf.K mg base CX0 (k + 1) f0 fd ps (SpP cf 4 (sp4 fun a b c d => finR (g a b c d))) := by
  refine F.ok sc (SpP.len hp) (fun cdv A outer s H vs Q E hr hq => ?_)
  obtain ⟨t, ht, hb⟩ := h cdv A outer s H E hr
  refine ⟨t, ht, run_of (ρ := τ) (S := S) (enc := enc) hq fun ds dd hs => ?_⟩
  obtain ⟨a, b, c, d, rfl, er⟩ := hs
  refine ⟨g a b c d, by have q := hb a b c d; rw [← hG] at q; exact q, ?_⟩
  replace er : R.ok dd = (finR (g a b c d)).map toD := er
  generalize q : finR (g a b c d) = z at er
  cases z with
  | ok r => exact ⟨r, rfl, R.ok.inj er⟩
  | er c p => cases er
  | bad => cases er
end

section
variable {α β γ δ ε τ : Type} [Enc α] [Enc β] [Enc γ] [Enc δ] [Enc ε] [Enc τ]
def sp5 (g : α → β → γ → δ → ε → R τ) : List Dt → R Dt → Prop := fun ds r => ∃ (a : α) (b : β) (c : γ) (d : δ) (e : ε), ds = [toD a, toD b, toD c, toD d, toD e] ∧ r = (g a b c d e).map toD
theorem em_call5 {cf : Cf} {E : XK} {G : List Sl} {t0 t1 t2 t3 t4 : TE} {m0 : R α} {m1 : R β} {m2 : R γ} {m3 : R δ} {m4 : R ε} {g : α → β → γ → δ → ε → R τ} (h0 : EM cf E t0 G m0) (h1 : EM cf E t1 G m1) (h2 : EM cf E t2 G m2) (h3 : EM cf E t3 G m3) (h4 : EM cf E t4 G m4) : EM cf E (tCall (SpP cf 5 (sp5 g)) [] E0 (tCons t0 (tCons t1 (tCons t2 (tCons t3 (tCons t4 tNil)))))) G (m0.bind fun a => m1.bind fun b => m2.bind fun c => m3.bind fun d => m4.bind fun e => (g a b c d e).pu) := fun F O H σ Q hf he nb ko ke => by
  refine h0 F O H σ _ hf he (R.bind_nb nb) (fun a v0 F1 H1 e0 l1 hf1 r0 => ?_) (fun c p d F' H' e le hf' hd => ke c p d F' H' (by rw [e]; rfl) (le) hf' hd)
  rw [e0, R.ok_bind] at nb ko ke
  have le1 := l1
  refine h1 F1 O H1 σ _ hf1 (he.mono le1) (R.bind_nb nb) (fun b v1 F2 H2 e1 l2 hf2 r1 => ?_) (fun c p d F' H' e le hf' hd => ke c p d F' H' (by rw [e]; rfl) (le1.trans le) hf' hd)
  rw [e1, R.ok_bind] at nb ko ke
  have le2 := le1.trans l2
  refine h2 F2 O H2 σ _ hf2 (he.mono le2) (R.bind_nb nb) (fun c v2 F3 H3 e2 l3 hf3 r2 => ?_) (fun c p d F' H' e le hf' hd => ke c p d F' H' (by rw [e]; rfl) (le2.trans le) hf' hd)
  rw [e2, R.ok_bind] at nb ko ke
  have le3 := le2.trans l3
  refine h3 F3 O H3 σ _ hf3 (he.mono le3) (R.bind_nb nb) (fun d v3 F4 H4 e3 l4 hf4 r3 => ?_) (fun c p d F' H' e le hf' hd => ke c p d F' H' (by rw [e]; rfl) (le3.trans le) hf' hd)
  rw [e3, R.ok_bind] at nb ko ke
  have le4 := le3.trans l4
  refine h4 F4 O H4 σ _ hf4 (he.mono le4) (R.bind_nb nb) (fun e v4 F5 H5 e4 l5 hf5 r4 => ?_) (fun c p d F' H' e le hf' hd => ke c p d F' H' (by rw [e]; rfl) (le4.trans le) hf' hd)
  rw [e4, R.ok_bind] at nb ko ke
  have le5 := le4.trans l5
  obtain ⟨y, ey⟩ := pu_nb nb
  exact ⟨rfl, F5, O, _, toD y, hf5, (.cons (Dr.mono ((((l2).trans l3).trans l4).trans l5) r0) (.cons (Dr.mono (((l3).trans l4).trans l5) r1) (.cons (Dr.mono ((l4).trans l5) r2) (.cons (Dr.mono (l5) r3) (.cons r4 .nil))))), ⟨a, b, c, d, e, rfl, by rw [ey]; rfl⟩, fun v F' H' le hf' hr => ko y v F' H' (by rw [ey]; rfl) (le5.trans le) hf' hr⟩
theorem fn5 {P : Program} {w : World} {cf : Cf} {mg : Str → Option Value} {base : Heap} {x qual : Str} {st : Stmt} {f0 : Addr} {fd : FuncData} {N ps : List Str} {k : Nat} {S : Type} {enc : S → List Sl} (F : Fun cf.K x qual st f0 fd) (sc : FnScope N ps (defScope st)) (hp : ps.length = 5) (g : α → β → γ → δ → ε → R (Fl S τ))
    (G0 : α → β → γ → δ → ε → List Sl) (hG : ∀ a b c d e, [.va (toD a), .va (toD b), .va (toD c), .va (toD d), .va (toD e)] ++ List.replicate (N.length - 5) .un = G0 a b c d e)
    (h : ∀ (cdv : Value) (A : Around) (outer : List Env) (s : Shared) (H : Hp) (E : XK), Room k (A.deeper (envOfC qual (defScope st) s.heap.objs.size f0 cdv)) →
      ∃ t, PSs (cxOf CX0 P w cf.K mg base N qual (defScope st) f0 cdv A outer s H E).nox (defBody st) t ∧ ∀ a b c d e, SB cf E0 t (G0 a b c d e) enc (g a b c d e)) :
    FnOk P w cf.K mg base CX0 (k + 1) f0 fd ps (SpP cf 5 (sp5 fun a b c d e => finR (g a b c d e))) := by
  refine F.ok sc (SpP.len hp) (fun cdv A outer s H vs Q E hr hq => ?_)
  obtain ⟨t, ht, hb⟩ := h cdv A outer s H E hr
  refine ⟨t, ht, run_of (ρ := τ) (S := S) (enc := enc) hq fun ds dd hs => ?_⟩
  obtain ⟨a, b, c, d, e, rfl, er⟩ := hs
  refine ⟨g a b c d e, by have q := hb a b c d e; rw [← hG] at q; exact q, ?_⟩
  replace er : R.ok dd = (finR (g a b c d e)).map toD := er
  generalize q : finR (g a b c d e) = z at er
  cases z with
  | ok r => exact ⟨r, rfl, R.ok.inj er⟩
  | er c p => cases er
  | bad => cases er
end

section
variable {α β γ δ ε ζ τ : Type} [Enc α] [Enc β] [Enc γ] [Enc δ] [Enc ε] [Enc ζ] [Enc τ]
def sp6 (g : α → β → γ → δ → ε → ζ → R τ) : List Dt → R Dt → Prop := fun ds r => ∃ (a : α) (b : β) (c : γ) (d : δ) (e : ε) (f : ζ), ds = [toD a, toD b, toD c, toD d, toD e, toD f] ∧ r = (g a b c d e f).map toD
theorem em_call6 {cf : Cf} {E : XK} {G : List Sl} {t0 t1 t2 t3 t4 t5 : TE} {m0 : R α} {m1 : R β} {m2 : R γ} {m3 : R δ} {m4 : R ε} {m5 : R ζ} {g : α → β → γ → δ → ε → ζ → R τ} (h0 : EM cf E t0 G m0) (h1 : EM cf E t1 G m1) (h2 : EM cf E t2 G m2) (h3 : EM cf E t3 G m3) (h4 : EM cf E t4 G m4) (h5 : EM cf E t5 G m5) : EM cf E (tCall (SpP cf 6 (sp6 g)) [] E0 (tCons t0 (tCons t1 (tCons t2 (tCons t3 (tCons t4 (tCons t5 tNil))))))) G (m0.bind fun a => m1.bind fun b => m2.bind fun c => m3.bind fun d => m4.bind fun e => m5.bind fun f => (g a b c d e f).pu) := fun F O H σ Q hf he nb ko ke => by
  refine h0 F O H σ _ hf he (R.bind_nb nb) (fun a v0 F1 H1 e0 l1 hf1 r0 => ?_) (fun c p d F' H' e le hf' hd => ke c p d F' H' (by rw [e]; rfl) (le) hf' hd)
  rw [e0, R.ok_bind] at nb ko ke
  have le1 := l1
  refine h1 F1 O H1 σ _ hf1 (he.mono le1) (R.bind_nb nb) (fun b v1 F2 H2 e1 l2 hf2 r1 => ?_) (fun c p d F' H' e le hf' hd => ke c p d F' H' (by rw [e]; rfl) (le1.trans le) hf' hd)
  rw [e1, R.ok_bind] at nb ko ke
  have le2 := le1.trans l2
  refine h2 F2 O H2 σ _ hf2 (he.mono le2) (R.bind_nb nb) (fun c v2 F3 H3 e2 l3 hf3 r2 => ?_) (fun c p d F' H' e le hf' hd => ke c p d F' H' (by rw [e]; rfl) (le2.trans le) hf' hd)
  rw [e2, R.ok_bind] at nb ko ke
  have le3 := le2.trans l3
  refine h3 F3 O H3 σ _ hf3 (he.mono le3) (R.bind_nb nb) (fun d v3 F4 H4 e3 l4 hf4 r3 => ?_) (fun c p d F' H' e le hf' hd => ke c p d F' H' (by rw [e]; rfl) (le3.trans le) hf' hd)
  rw [e3, R.ok_bind] at nb ko ke
  have le4 := le3.trans l4
  refine h4 F4 O H4 σ _ hf4 (he.mono le4) (R.bind_nb nb) (fun e v4 F5 H5 e4 l5 hf5 r4 => ?_) (fun c p d F' H' e le hf' hd => ke c p d F' H' (by rw [e]; rfl) (le4.trans le) hf' hd)
  rw [e4, R.ok_bind] at nb ko ke
  have le5 := le4.trans l5
  refine h5 F5 O H5 σ _ hf5 (he.mono le5) (R.bind_nb nb) (fun f v5 F6 H6 e5 l6 hf6 r5 => ?_) (fun c p d F' H' e le hf' hd => ke c p d F' H' (by rw [e]; rfl) (le5.trans le) hf' hd)
  rw [e5, R.ok_bind] at nb ko ke
  have le6 := le5.trans l6
  obtain ⟨y, ey⟩ := pu_nb nb
  exact ⟨rfl, F6, O, _, toD y, hf6, (.cons (Dr.mono (((((l2).trans l3).trans l4).trans l5).trans l6) r0) (.cons (Dr.mono ((((l3).trans l4).trans l5).trans l6) r1) (.cons (Dr.mono (((l4).trans l5).trans l6) r2) (.cons (Dr.mono ((l5).trans l6) r3) (.cons (Dr.mono (l6) r4) (.cons r5 .nil)))))), ⟨a, b, c, d, e, f, rfl, by rw [ey]; rfl⟩, fun v F' H' le hf' hr => ko y v F' H' (by rw [ey]; rfl) (le6.trans le) hf' hr⟩
theorem fn6 {P : Program} {w : World} {cf : Cf} {mg : Str → Option Value} {base : Heap} {x qual : Str} {st : Stmt} {f0 : Addr} {fd : FuncData} {N ps : List Str} {k : Nat} {S : Type} {enc : S → List Sl} (F : Fun cf.K x qual st f0 fd) (sc : FnScope N ps (defScope st)) (hp : ps.length = 6) (g : α → β → γ → δ → ε → ζ → R (Fl S τ))
    (G0 : α → β → γ → δ → ε → ζ → List Sl) (hG : ∀ a b c d e f, [.va (toD a), .va (toD b), .va (toD c), .va (toD d), .va (toD e), .va (toD f)] ++ List.replicate (N.length - 6) .un = G0 a b c d e f)
    (h : ∀ (cdv : Value) (A : Around) (outer : List Env) (s : Shared) (H : Hp) (E : XK), Room k (A.deeper (envOfC qual (defScope st) s.heap.objs.size f0 cdv)) →
      ∃ t, PSs (cxOf CX0 P w cf.K mg base N qual (defScope st) f0 cdv A outer s H E).nox (defBody st) t ∧ ∀ a b c d e f, SB cf E0 t (G0 a b c d e f) enc (g a b c d e f)) :
    FnOk P w cf.K mg base CX0 (k + 1) f0 fd ps (SpP cf 6 (sp6 fun a b c d e f => finR (g a b c d e f))) := by
  refine F.ok sc (SpP.len hp) (fun cdv A outer s H vs Q E hr hq => ?_)
  obtain ⟨t, ht, hb⟩ := h cdv A outer s H E hr
  refine ⟨t, ht, run_of (ρ := τ) (S := S) (enc := enc) hq fun ds dd hs => ?_⟩
  obtain ⟨a, b, c, d, e, f, rfl, er⟩ := hs
  refine ⟨g a b c d e f, by have q := hb a b c d e f; rw [← hG] at q; exact q, ?_⟩
  replace er : R.ok dd = (finR (g a b c d e f)).map toD := er
  generalize q : finR (g a b c d e f) = z at er
  cases z with
  | ok r => exact ⟨r, rfl, R.ok.inj er⟩
  | er c p => cases er
  | bad => cases er
end
end Kr

/-! KrG: further rules by data: in, isinstance, sorted, a, b = .., is True. -/
namespace Kr
open PySem PySem.Spec PyProof.Rows L2
open Enc (toD)

/-! ### rules whose reading names the written part itself -/
section
variable {X : Cx} (K : PySem.W.Frag) (h : X.K = K)
include h
theorem ix_listK : IxR X (rIxL K) := h ▸ ix_list
theorem ix_tupK : IxR X (rIxT K) := h ▸ ix_tup
theorem sl_listK : SlR X (rSlL K) := h ▸ sl_list
theorem lenK : CallR X (.builtin "len") (rLenS K) := h ▸ call_len_seq
theorem listK : CallR X (.type "list") (rListS K) := h ▸ call_list_of
theorem sumK (hc : X.calm = true) : CallR X (.builtin "sum") (rSum K) := h ▸ cr_sum hc
theorem maxK (hc : X.calm = true) : CallR X (.builtin "max") (rMax K) := h ▸ cr_max hc
theorem minK (hc : X.calm = true) : CallR X (.builtin "min") (rMin K) := h ▸ cr_min hc
theorem anyK (hc : X.calm = true) : CallR X (.builtin "any") (rAny K) := h ▸ cr_any hc
theorem inK : OpR X (compareOp .In) (rIn K false) := h ▸ op_in_seq
theorem notInK : OpR X (compareOp .NotIn) (rIn K true) := h ▸ op_notIn_seq
theorem eqDK (hu : X.A.units + 64 < cLine) : OpR X (compareOp .Eq) (rEqD K) := h ▸ op_eqD hu
theorem neDK (hu : X.A.units + 64 < cLine) : OpR X (compareOp .NotEq) (rNeD K) := h ▸ op_neD hu
theorem tupK {es : List Expr} {k : Nat} {t : TGs} {pos : Pos} (n : Nat) (hc : X.calm = true) (hp : PGs X es t)
    (hn : (assignEach es X.env).length = n := by rfl) (hst : (assignEach es X.env).findIdx? (·.1) = none := by rfl) : PG X (.Tuple es k pos) (gTup K n t) := h ▸ pg_tup hc hp hn hst
theorem listI {tg l : Expr} {tl : TE} (hl : PE X l tl) : PI X tg l (iList K tl) := h ▸ pi_list hl
theorem enumI {e : Expr} {ta : TA} {p pos tpos : Pos} {elts : List Expr} {kk : Nat} (hg : Gl X "enumerate") (hm : X.mg "enumerate" = none) (ha : PA X [e] ta) (hs : starEach [e] X.env = [(false, eval e X.env)] := by rfl) :
    PI X (.Tuple elts kk tpos) (.Call (.Name "enumerate" p) [e] [] pos) (iEnum K ta) := h ▸ pi_enum hg hm ha hs
theorem zipI {e e2 : Expr} {ta : TA} {p pos tpos : Pos} {elts : List Expr} {kk : Nat} (hg : Gl X "zip") (hm : X.mg "zip" = none) (ha : PA X [e, e2] ta)
    (hs : starEach [e, e2] X.env = (false, eval e X.env) :: starEach [e2] X.env := by rfl) (hpl : (backTo pos (starEach [e2] X.env)).any (·.1) = false := by rfl) :
    PI X (.Tuple elts kk tpos) (.Call (.Name "zip" p) [e, e2] [] pos) (iZip K ta) := h ▸ pi_zip hg hm ha hs hpl
theorem revI {tg e : Expr} {ta : TA} {p pos : Pos} (hg : Gl X "reversed") (hm : X.mg "reversed" = none) (ha : PA X [e] ta) (hs : starEach [e] X.env = [(false, eval e X.env)] := by rfl) : PI X tg (.Call (.Name "reversed" p) [e] [] pos) (iRev K ta) := h ▸ pi_reversed hg hm ha hs
end
section
variable {cf : Cf} {E : XK} {G : List Sl} {S α β γ δ ρ : Type} [Rs ρ] {ta tb tc te : TE} {t u : TS} {enc : S → List Sl}
theorem sb_skip {m : R (Fl S ρ)} (h : SB cf E u G enc m) : SB cf E (tSeq tNext u) G enc m := h
theorem sb_bad : SB cf E u G enc (.bad : R (Fl S ρ)) := fun _ _ _ _ _ _ nb => absurd rfl nb
theorem sb_retN : SB cf E tRetN G enc (.ok (.rt ()) : R (Fl S Unit)) := fun F O H σ D hM _ _ _ kr _ => kr () .non F H rfl (Le.refl F) hM.fm .non
theorem sb_retN2 : SB cf E (tSeq tRetN u) G enc (.ok (.rt ()) : R (Fl S Unit)) := fun F O H σ D hM _ _ _ kr _ => kr () .non F H rfl (Le.refl F) hM.fm .non
/-! ### a, b = e1, e2 -/
theorem mt_set {K : PySem.W.Frag} {F O H : Hp} {σ : L2.St} (h : Mt K F O H σ G) (i : Nat) {v : V} {d : Dt} (r : Dr K F v d) : Mt K F O H (σ.set i (some v)) (G.set i (.va d)) := by
  obtain ⟨O', lo, hf, he, ow⟩ := h
  exact ⟨O', lo, hf, er_set he i r, ow.keep fun j s q o => own_set q o⟩
theorem sb_par2 [Enc α] [Enc β] {i j : Nat} {m : R α} {n : R β} {f : α → β → R (Fl S ρ)} (h : EM cf E ta G m) (h' : EM cf E tb G n) (G' : α → β → List Sl) (hG : ∀ a b, (G.set i (.va (toD a))).set j (.va (toD b)) = G' a b) (hk : ∀ a b, SB cf E u (G' a b) enc (f a b)) :
    SB cf E (tSeq (tPar i j (tCons ta (tCons tb tNil))) u) G enc (m.bind fun a => n.bind fun b => f a b) := fun F O H σ D hM nb kn kb kr ke => by
  obtain ⟨O', lo, hf, he, ow⟩ := hM
  refine h F O' H σ _ hf he (R.bind_nb nb) (fun a v F1 H1 ea le1 hf1 hr => ?_) (fun c p d F' H' e le hf' hd => ke c p d F' H' (by rw [e]; rfl) le (hf'.weak lo) hd)
  rw [ea, R.ok_bind] at nb kn kb kr ke
  refine h' F1 O' H1 σ _ hf1 (he.mono le1) (R.bind_nb nb) (fun b w' F2 H2 eb le2 hf2 hw => ?_) (fun c p d F' H' e le hf' hd => ke c p d F' H' (by rw [e]; rfl) (le1.trans le) (hf'.weak lo) hd)
  rw [eb, R.ok_bind] at nb kn kb kr ke
  have le := le1.trans le2
  have hM2 : Mt cf.K F2 O H2 σ G := ⟨O', lo, hf2, he.mono le, ow.mono le⟩
  have hM3 := mt_set (mt_set hM2 i (hr.mono le2)) j hw
  rw [hG] at hM3
  exact ⟨v, w', rfl, hk a b F2 O H2 _ D hM3 nb (fun s F'' H'' σ' e le' => kn s F'' H'' σ' e (le.trans le')) (fun s F'' H'' σ' e le' => kb s F'' H'' σ' e (le.trans le')) (fun r v F'' H'' e le' => kr r v F'' H'' e (le.trans le')) fun c p d F'' H'' e le' => ke c p d F'' H'' e (le.trans le')⟩
theorem sb_par3 [Enc α] [Enc β] [Enc γ] {i j l : Nat} {m : R α} {n : R β} {o : R γ} {f : α → β → γ → R (Fl S ρ)} (h : EM cf E ta G m) (h' : EM cf E tb G n) (h'' : EM cf E tc G o) (G' : α → β → γ → List Sl)
    (hG : ∀ a b c, ((G.set i (.va (toD a))).set j (.va (toD b))).set l (.va (toD c)) = G' a b c) (hk : ∀ a b c, SB cf E u (G' a b c) enc (f a b c)) :
    SB cf E (tSeq (tPar3 i j l (tCons ta (tCons tb (tCons tc tNil)))) u) G enc (m.bind fun a => n.bind fun b => o.bind fun c => f a b c) := fun F O H σ D hM nb kn kb kr ke => by
  obtain ⟨O', lo, hf, he, ow⟩ := hM
  refine h F O' H σ _ hf he (R.bind_nb nb) (fun a v F1 H1 ea le1 hf1 hr => ?_) (fun c p d F' H' e le hf' hd => ke c p d F' H' (by rw [e]; rfl) le (hf'.weak lo) hd)
  rw [ea, R.ok_bind] at nb kn kb kr ke
  refine h' F1 O' H1 σ _ hf1 (he.mono le1) (R.bind_nb nb) (fun b w' F2 H2 eb le2 hf2 hw => ?_) (fun c p d F' H' e le hf' hd => ke c p d F' H' (by rw [e]; rfl) (le1.trans le) (hf'.weak lo) hd)
  rw [eb, R.ok_bind] at nb kn kb kr ke
  have le12 := le1.trans le2
  refine h'' F2 O' H2 σ _ hf2 (he.mono le12) (R.bind_nb nb) (fun c z F3 H3 ec le3 hf3 hz => ?_) (fun c p d F' H' e le hf' hd => ke c p d F' H' (by rw [e]; rfl) (le12.trans le) (hf'.weak lo) hd)
  rw [ec, R.ok_bind] at nb kn kb kr ke
  have le := le12.trans le3
  have hM2 : Mt cf.K F3 O H3 σ G := ⟨O', lo, hf3, he.mono le, ow.mono le⟩
  have hM3 := mt_set (mt_set (mt_set hM2 i (hr.mono (le2.trans le3))) j (hw.mono le3)) l hz
  rw [hG] at hM3
  exact ⟨v, w', z, rfl, hk a b c F3 O H3 _ D hM3 nb (fun s F'' H'' σ' e le' => kn s F'' H'' σ' e (le.trans le')) (fun s F'' H'' σ' e le' => kb s F'' H'' σ' e (le.trans le')) (fun r v F'' H'' e le' => kr r v F'' H'' e (le.trans le')) fun c p d F'' H'' e le' => ke c p d F'' H'' e (le.trans le')⟩
/-- a value that is not None -/
def getR (o : Option α) : R α := match o with
  | some a => .ok a
  | none => .bad
theorem EM.get [Enc α] {m : R (Option α)} (h : EM cf E ta G m) : EM cf E ta G (m.bind getR) := fun F O H σ Q hf he nb ko ke =>
  h F O H σ Q hf he (R.bind_nb nb) (fun o v F' H' e le hf' hr => by
    rw [e, R.ok_bind] at nb ko
    cases o with
    | none => exact absurd rfl nb
    | some a => exact ko a v F' H' rfl le hf' hr) (fun c p d F' H' e => ke c p d F' H' (by rw [e]; rfl))
/-! ### is True, in, isinstance -/
theorem em_isB {ma mb : R Bool} (ha : EM cf E ta G ma) (hb : EM cf E tb G mb) : EM cf E (tOp rIsB ta tb) G (ma.bind fun a => mb.bind fun b => .ok (decide (a = b))) :=
  EG.bind2 (u := fun x y H Q => rIsB x y H Q) ha hb rm_mono fun F O H Q a r b s hf h1 h2 _ ko => ⟨a, b, dr_bl h1, dr_bl h2, ko _ _ F H rfl (Le.refl F) hf (.bl _)⟩
theorem em_notB {ma mb : R Bool} (ha : EM cf E ta G ma) (hb : EM cf E tb G mb) : EM cf E (tOp rNotB ta tb) G (ma.bind fun a => mb.bind fun b => .ok (!decide (a = b))) :=
  EG.bind2 (u := fun x y H Q => rNotB x y H Q) ha hb rm_mono fun F O H Q a r b s hf h1 h2 _ ko => ⟨a, b, dr_bl h1, dr_bl h2, ko _ _ F H rfl (Le.refl F) hf (.bl _)⟩
theorem inV_int (a : Int) : ∀ xs : List Int, inV (.int a) (xs.map V.int) = xs.contains a
  | [] => rfl
  | x :: r => by
    have ih := inV_int a r
    unfold inV at ih ⊢
    rw [List.map_cons, List.any_cons, ih, List.contains_cons]
    congr 1
    show eqV (.int x) (.int a) = (a == x)
    unfold eqV
    by_cases e : x = a
    · subst e
      simp
    · have e' : ¬ a = x := fun z => e z.symm
      show (x == a) = (a == x)
      rw [beq_eq_false_iff_ne.mpr e, beq_eq_false_iff_ne.mpr e']
theorem flat_int (xs : List Int) : (xs.map V.int).all flatV = true := by
  rw [List.all_eq_true]
  intro x hx
  obtain ⟨i, _, rfl⟩ := List.mem_map.mp hx
  rfl
theorem em_inI {ma : R Int} {mb : R (List Int)} (ha : EM cf E ta G ma) (hb : ES cf E tb G mb) : EM cf E (tOp (rIn cf.K false) ta tb) G (ma.bind fun a => mb.bind fun b => .ok (b.contains a)) :=
  EG.bind2 (u := fun x y H Q => rIn cf.K false x y H Q) ha hb rm_mono fun F O H Q a r b s hf h1 h2 _ ko => by
    obtain ⟨p, vs, e, hs, hr⟩ := RS.seq h2 hf
    rw [ints_of_drA hr] at hs
    rw [dr_int (i := a) h1]
    refine ⟨p, _, e, .inl hs, rfl, flat_int b, ?_⟩
    rw [inV_int]
    exact ko _ _ F H rfl (Le.refl F) hf (.bl _)
theorem em_niI {ma : R Int} {mb : R (List Int)} (ha : EM cf E ta G ma) (hb : ES cf E tb G mb) : EM cf E (tOp (rIn cf.K true) ta tb) G (ma.bind fun a => mb.bind fun b => .ok (!b.contains a)) :=
  EG.bind2 (u := fun x y H Q => rIn cf.K true x y H Q) ha hb rm_mono fun F O H Q a r b s hf h1 h2 _ ko => by
    obtain ⟨p, vs, e, hs, hr⟩ := RS.seq h2 hf
    rw [ints_of_drA hr] at hs
    rw [dr_int (i := a) h1]
    refine ⟨p, _, e, .inl hs, rfl, flat_int b, ?_⟩
    rw [inV_int]
    exact ko _ _ F H rfl (Le.refl F) hf (.bl _)
/-- isinstance(x, T), x of the type T itself -/
def rIsTyK (K : PySem.W.Frag) : List V → Hp → VK → Prop := fun xs H Q => ∃ (x : V) (T : String), xs = [x, .ty T] ∧ TyOf K H x (.type T) ∧ Q (.bl true) H
theorem call_isTyK {X : Cx} : CallR X (.builtin "isinstance") (rIsTyK X.K) := by
  intro pins s σ H xs us Q I r h
  obtain ⟨x, T, rfl, t, q⟩ := h
  cases r with
  | cons rx rr =>
    cases rr with
    | cons rt rr =>
      cases rr
      cases rt
      have e : PySem.W.kitOne X.K (.type T) (.type T) = some true := if_pos (beq_self_eq_true _)
      exact isinst_ok I rx t e fun tk => ⟨.bl true, H, I.kept (t' := tk) fun _ _ z => z, rfl, q⟩
theorem em_isT (T : String) [Enc α] (hT : ∀ (F H : Hp) (v : V) (a : α), Le F H → Dr cf.K F v (toD a) → TyOf cf.K H v (.type T)) {m : R α} (h : EM cf E ta G m) : EM cf E (tCB (rIsTyK cf.K) (tCons ta (tCons (tC (.ty T)) tNil))) G (m.bind fun _ => .ok true) :=
  EG.bind1 (u := fun r H Q => rIsTyK cf.K [r, .ty T] H Q) h fun F O H Q a r hf h1 _ ko => ⟨r, T, rfl, hT F H r a hf.f h1, ko _ _ F H rfl (Le.refl F) hf (.bl _)⟩
theorem em_isT_bool {m : R Bool} (h : EM cf E ta G m) : EM cf E (tCB (rIsTyK cf.K) (tCons ta (tCons (tC (.ty "bool")) tNil))) G (m.bind fun _ => .ok true) := em_isT "bool" (fun F H v a le r => by
  rw [dr_bl (i := a) r]
  exact .bl a) h
theorem em_isT_list [Enc α] {m : R (List α)} (h : EM cf E ta G m) : EM cf E (tCB (rIsTyK cf.K) (tCons ta (tCons (tC (.ty "list")) tNil))) G (m.bind fun _ => .ok true) := em_isT "list" (fun F H v a le r => by
  obtain ⟨p, vs, e, h1, _⟩ := dr_lst r
  rw [e]
  exact .lst (le _ _ h1)) h
theorem em_isT_tuple [Enc α] [Enc β] {m : R (α × β)} (h : EM cf E ta G m) : EM cf E (tCB (rIsTyK cf.K) (tCons ta (tCons (tC (.ty "tuple")) tNil))) G (m.bind fun _ => .ok true) := em_isT "tuple" (fun F H v a le r => by
  obtain ⟨p, vs, e, h1, _⟩ := dr_tup (ds := [toD a.1, toD a.2]) r
  rw [e]
  exact .tup (le _ _ h1)) h

/-! ### sorted -/
/-- data that Python sorts -/
class Sbl (α : Type) [Enc α] : Prop where
  al : ∀ a b : α, PySem.W.alike (toD a).py (toD b).py = true
  so : (∀ a : α, ∃ x r, (toD a).py = .tuple (x :: r)) ∨ ∀ a : α, (toD a).py ≠ .none ∧ ∀ xs, (toD a).py ≠ .tuple xs
  dp : ∀ a : α, (toD a).py.depth ≤ 8
  nd : ∀ a : α, (toD a).nd = true
/-- Python's a <= b -/
def leD [Enc α] (a b : α) : Bool := PySem.W.dataLe false (fun x : α => (toD x).py) a b
def sortR [Enc α] (xs : List α) : R (List α) := (szR xs).bind fun xs => .ok (xs.mergeSort leD)
def rSortedD (K : PySem.W.Frag) : List V → Hp → VK → Prop := fun vs H Q => ∃ (a : Addr) (zs : List (V × PyData)), vs = [V.ref a] ∧ SqL K H a (zs.map (·.1)) ∧ (∀ z ∈ zs, Dp K H z.1 z.2) ∧ PySem.W.AllAlike (zs.map (·.2)) ∧ PySem.W.Sortable (zs.map (·.2)) ∧ (∀ z ∈ zs, z.2.depth ≤ 8) ∧
  ∀ p, H p = none → Q (.ref p) (upd H p (.lst ((zs.mergeSort (PySem.W.dataLe false fun z : V × PyData => z.2)).map (·.1))))
theorem relV_unique {v : V} {u u' : Value} : True := trivial
theorem eachIs_of {α β : Type} {R : α → β → Prop} : ∀ {as : List α} {bs : List β}, as.length = bs.length → (∀ (i : Nat) a b, as[i]? = some a → bs[i]? = some b → R a b) → PySem.W.EachIs R as bs
  | [], [], _, _ => .nil
  | [], _ :: _, h, _ => by simp at h
  | _ :: _, [], h, _ => by simp at h
  | a :: as, b :: bs, h, k => .cons (k 0 a b rfl rfl) (eachIs_of (by simpa using h) fun i x y e e' => k (i + 1) x y (by simpa using e) (by simpa using e'))
theorem vals_of_each {β : Type} {f : β → V} : ∀ {us : List Value} {bs : List β}, PySem.W.EachIs (fun u b => RelV (f b) u) us bs → Vals (bs.map f) us
  | _, _, .nil => .nil
  | _, _, .cons r t => .cons r (vals_of_each t)
theorem cr_sortedD {X : Cx} (hu : X.A.units + 64 < cLine) : CallR X (.builtin "sorted") (rSortedD X.K) := by
  intro pins s σ H vs us Q I r h
  obtain ⟨a, zs, rfl, hs, hd, hal, hso, hdp, q⟩ := h
  obtain ⟨its, rv, hl, hz⟩ := I.list hs
  obtain ⟨u, rfl, ru⟩ := vals1 r
  obtain rfl : u = Value.ref a := ru
  have hlen : its.length = zs.length := by rw [← rv.length, List.length_map]
  have rel : ∀ (i : Nat) (u : Value) (z : V × PyData), its[i]? = some u → zs[i]? = some z → RelV z.1 u := fun i u z e1 e2 => by
    obtain ⟨u', h1, h2⟩ := rv.get (show (zs.map (·.1))[i]? = some z.1 by rw [List.getElem?_map, e2]; rfl)
    rw [e1] at h1
    cases h1
    exact h2
  have er : PySem.W.EachIs (fun u z => RelV z.1 u) its zs := eachIs_of hlen rel
  have er2 : PySem.W.EachIs (fun u z => ∃ as, Reads s.heap u (z : V × PyData).2 as) its zs := eachIs_of hlen fun i u z e1 e2 => Dp.reads I z.2 z.1 u (hd z (List.mem_of_getElem? e2)) (rel i u z e1 e2)
  refine PySem.W.sorted_data (enc := fun z : V × PyData => z.2) hl.isList er er2 hal hso (by rw [← hlen, ← rv.length]; exact hz) (fun z hm => by have := hdp z hm; omega) fun out ho eo => ?_
  obtain ⟨c, hc⟩ := sortedAll_at s.heap its out.toArray
  have hf : H (s.heap.objs.size + 1) = none := I.hok.fresh (Nat.le_succ _)
  refine ⟨.ref (s.heap.objs.size + 1), _, I.laid (t' := s.toks) (o := .lst ((zs.mergeSort (PySem.W.dataLe false fun z : V × PyData => z.2)).map (·.1))) (h' := sortedAll s.heap its out.toArray) (fun b o e => sortedAll_old e) (Nat.le_succ _) ⟨?_, out, c, vals_of_each eo, hc⟩, rfl, q _ hf⟩
  rw [List.length_map, List.length_mergeSort, ← hlen, ← rv.length]
  exact hz
theorem zip_fst {A B : Type} : ∀ {xs : List A} {ys : List B}, xs.length = ys.length → (xs.zip ys).map (·.1) = xs
  | [], [], _ => rfl
  | [], _ :: _, h => by simp at h
  | _ :: _, [], h => by simp at h
  | x :: xs, y :: ys, h => by rw [List.zip_cons_cons, List.map_cons, zip_fst (by simpa using h)]
theorem zip_snd {A B : Type} : ∀ {xs : List A} {ys : List B}, xs.length = ys.length → (xs.zip ys).map (·.2) = ys
  | [], [], _ => rfl
  | [], _ :: _, h => by simp at h
  | _ :: _, [], h => by simp at h
  | x :: xs, y :: ys, h => by rw [List.zip_cons_cons, List.map_cons, zip_snd (by simpa using h)]
theorem drA_zip [Enc α] {K : PySem.W.Frag} {F : Hp} : ∀ {vs : List V} {xs : List α}, DrA K F vs (xs.map toD) → ∀ z ∈ vs.zip xs, Dr K F z.1 (toD z.2)
  | [], _, _, z, hz => by simp at hz
  | _ :: _, [], _, z, hz => by simp at hz
  | v :: vs, x :: xs, h, z, hz => by
    obtain ⟨v', r', e, h1, h2⟩ := drA_cons h
    cases e
    rw [List.zip_cons_cons] at hz
    rcases List.mem_cons.mp hz with e | hz
    · subst e
      exact h1
    · exact drA_zip h2 z hz
theorem drA_of [Enc α] {K : PySem.W.Frag} {F : Hp} : ∀ {zs : List (V × α)}, (∀ z ∈ zs, Dr K F z.1 (toD z.2)) → DrA K F (zs.map (·.1)) ((zs.map (·.2)).map toD)
  | [], _ => .nil
  | z :: zs, h => .cons (h z (by simp)) (drA_of fun y hy => h y (by simp [hy]))
theorem ef_sorted [Enc α] [Sbl α] {m : R (List α)} (h : ES cf E ta G m) : EF cf E (tCB (rSortedD cf.K) (tCons ta tNil)) G (m.bind sortR) :=
  EG.call1 (ρ := Unit) h fun F O H Q xs r hf h1 nb ko => by
    obtain ⟨p, vs, e, hs, hr⟩ := RS.seq h1 hf
    obtain ⟨hz, ez⟩ := szR_nb (R.bind_nb nb)
    have es : sortR xs = .ok (xs.mergeSort leD) := by
      unfold sortR
      rw [ez]
      rfl
    have hl : vs.length = xs.length := by rw [hr.length, List.length_map]
    let zs : List (V × α) := vs.zip xs
    let ws : List (V × PyData) := zs.map fun z => (z.1, (toD z.2).py)
    have e1 : ws.map (·.1) = vs := by
      show (zs.map _).map _ = vs
      rw [List.map_map]
      exact zip_fst hl
    have hw : ∀ w' ∈ ws, ∃ v a, (v, a) ∈ zs ∧ w' = (v, (toD a).py) := fun w' hm => by
      obtain ⟨z, hz, rfl⟩ := List.mem_map.mp hm
      exact ⟨z.1, z.2, hz, rfl⟩
    refine ⟨p, ws, by rw [e], by rw [e1]; exact hs, fun w' hm => ?_, fun d hd d' hd' => ?_, ?_, fun w' hm => ?_, fun q hq => ?_⟩
    · obtain ⟨v, a, hz, rfl⟩ := hw w' hm
      exact Dr.dp hf.f (drA_zip hr _ hz) (Sbl.nd a)
    · obtain ⟨w1, hm, rfl⟩ := List.mem_map.mp hd
      obtain ⟨w2, hm', rfl⟩ := List.mem_map.mp hd'
      obtain ⟨v, a, _, rfl⟩ := hw w1 hm
      obtain ⟨v', a', _, rfl⟩ := hw w2 hm'
      exact Sbl.al a a'
    · rcases Sbl.so (α := α) with k | k
      · refine .inl fun d hd => ?_
        obtain ⟨w1, hm, rfl⟩ := List.mem_map.mp hd
        obtain ⟨v, a, _, rfl⟩ := hw w1 hm
        exact k a
      · refine .inr fun d hd => ?_
        obtain ⟨w1, hm, rfl⟩ := List.mem_map.mp hd
        obtain ⟨v, a, _, rfl⟩ := hw w1 hm
        exact k a
    · obtain ⟨v, a, _, rfl⟩ := hw w' hm
      exact Sbl.dp a
    · refine ko _ _ F _ es (Le.refl F) (hf.newH hq) ⟨q, _, rfl, hf.fnone hq, hf.onone hq, upd_same, ?_⟩
      have k1 : ws.mergeSort (PySem.W.dataLe false fun z : V × PyData => z.2) = (zs.mergeSort fun x y => leD x.2 y.2).map fun z => (z.1, (toD z.2).py) := by
        show (zs.map _).mergeSort _ = _
        exact (List.map_mergeSort (r := fun x y : V × α => leD x.2 y.2) (s := PySem.W.dataLe false fun z : V × PyData => z.2) (f := fun z : V × α => (z.1, (toD z.2).py)) (l := zs) (fun a _ b _ => rfl)).symm
      have k2 : (zs.mergeSort fun x y => leD x.2 y.2).map (·.2) = xs.mergeSort leD := by
        have q := List.map_mergeSort (r := fun x y : V × α => leD x.2 y.2) (s := leD) (f := fun z : V × α => z.2) (l := zs) (fun a _ b _ => rfl)
        rw [q]
        congr 1
        exact zip_snd hl
      rw [k1, ← k2, List.map_map]
      exact drA_of fun z hz => drA_zip hr z ((List.mergeSort_perm zs _).mem_iff.mp hz)
end
instance : Sbl Int := ⟨fun a b => by show PySem.W.alike (.int a) (.int b) = true; simp only [PySem.W.alike], .inr fun a => ⟨fun h => (nomatch h), fun _ h => (nomatch h)⟩, fun a => Nat.zero_le _, fun a => rfl⟩
instance : Sbl (Int × Int) := ⟨fun a b => by
    show PySem.W.alike (.tuple [.int a.1, .int a.2]) (.tuple [.int b.1, .int b.2]) = true
    simp [PySem.W.alike, PySem.W.alikeAll], .inl fun a => ⟨_, _, rfl⟩, fun a => by
    show PyData.depth (.tuple [.int a.1, .int a.2]) ≤ 8
    simp [PyData.depth, PyData.depthAll], fun a => rfl⟩
instance : Sbl (T3 Int Int Int) := ⟨fun a b => by
    show PySem.W.alike (.tuple [.int a.a, .int a.b, .int a.c]) (.tuple [.int b.a, .int b.b, .int b.c]) = true
    simp [PySem.W.alike, PySem.W.alikeAll], .inl fun a => ⟨_, _, rfl⟩, fun a => by
    show PyData.depth (.tuple [.int a.a, .int a.b, .int a.c]) ≤ 8
    simp [PyData.depth, PyData.depthAll], fun a => rfl⟩
theorem pyA_ints : ∀ ns : List Int, Dt.pyA (ns.map toD) = ns.map PyData.int
  | [] => rfl
  | n :: r => by
    show PyData.int n :: Dt.pyA (r.map toD) = _
    rw [pyA_ints r]
    rfl
theorem ndA_ints : ∀ ns : List Int, Dt.ndA (ns.map toD) = true
  | [] => rfl
  | n :: r => by
    show (true && Dt.ndA (r.map toD)) = true
    rw [ndA_ints r]
    rfl
instance : Sbl (Int × List Int) := ⟨fun a b => by
    show PySem.W.alike (.tuple [.int a.1, .list (Dt.pyA (a.2.map toD))]) (.tuple [.int b.1, .list (Dt.pyA (b.2.map toD))]) = true
    rw [pyA_ints, pyA_ints]
    simp [PySem.W.alike, PySem.W.alikeAll, PySem.W.alike_ints], .inl fun a => ⟨_, _, rfl⟩, fun a => by
    show PyData.depth (.tuple [.int a.1, .list (Dt.pyA (a.2.map toD))]) ≤ 8
    rw [pyA_ints]
    simp [PyData.depth, PyData.depthAll, PySem.W.depth_ints], fun a => by
    show (true && (Dt.ndA (a.2.map toD) && true)) = true
    rw [ndA_ints]
    rfl⟩
section
variable {X : Cx} (K : PySem.W.Frag) (h : X.K = K)
include h
theorem sortedK (hu : X.A.units + 64 < cLine) : CallR X (.builtin "sorted") (rSortedD K) := h ▸ cr_sortedD hu
theorem isTyK : CallR X (.builtin "isinstance") (rIsTyK K) := h ▸ call_isTyK
end
end Kr

/-! KrX: methods that begin with super().__init__(..). -/
namespace Kr
open PySem PySem.Spec PyProof.Rows L2 NdefX
section
variable {CX : CXT} {P : Program} {w : World} {K : PySem.W.Frag} {mg : Str → Option Value} {base : Heap} {k : Nat} {f cc cda D : Addr} {name qual : Str} {params : Arguments} {body : List Stmt} {scope : Scope} {dV kV doc pm ct oc cl : Value} {an od cld : Option Addr} {osl csl : Array (Option Value)} {N ps : List Str} {sp : Sp}
theorem fn_sup (lk : K.lookup f = some ⟨oc, od, .func (PySem.W.ksFn name qual params body scope dV kV doc pm an (.ref cda) ct cc), osl⟩) (hcd : PySem.W.codeIn K (.ref cda) qual = true)
    (hcc : K.lookup cc = some ⟨cl, cld, .cell (some (.ref D)), csl⟩) (S : NScope N ps ["__class__"] scope) (len : ∀ vs H Q E, sp vs H Q E → vs.length = ps.length)
    (hbody : ∀ (A : Around) (outer : List Env) (s s1 : Shared) (H : Hp) (vs : List V) (Q : VK) (E : XK), Room k (A.deeper (envF ⟨name, qual, params, body, scope, [("__class__", cc)], cda⟩ f s.heap.objs.size)) → sp vs H Q E →
      Inv (ncx CX P w K mg base N ⟨name, qual, params, body, scope, [("__class__", cc)], cda⟩ f A outer s H E) [] (startF N vs [none]) H s1 →
      _root_.PySem.wpAt (model P w) (A.deeper (envF ⟨name, qual, params, body, scope, [("__class__", cc)], cda⟩ f s.heap.objs.size)) (.func body (envF ⟨name, qual, params, body, scope, [("__class__", cc)], cda⟩ f s.heap.objs.size)) (execs body (envF ⟨name, qual, params, body, scope, [("__class__", cc)], cda⟩ f s.heap.objs.size))
        (L2.SP (ncx CX P w K mg base N ⟨name, qual, params, body, scope, [("__class__", cc)], cda⟩ f A outer s H E) [] { nx := fun _ H' => Q .non H', rt := Q }) (ncx CX P w K mg base N ⟨name, qual, params, body, scope, [("__class__", cc)], cda⟩ f A outer s H E).xe s1) :
    FnOk P w K mg base CX (k + 1) f (PySem.W.ksFn name qual params body scope dV kV doc pm an (.ref cda) ct cc) ps sp := by
  refine ⟨len, fun A outer s H args us vs Q E hr e0 hb r hsp => ?_⟩
  have hl := len _ _ _ _ hsp
  have lim : s.heap.NoLimit := e0.mod.nolimit.keeps fun b o e => (e0.bs b o e).1
  have KX : K.In s.heap := e0.mod.kin.keeps fun b o e => (e0.bs b o e).1
  have C : CellsAt [("__class__", cc)] ["__class__"] [none] s.heap H := by
    have one : ∀ (y : Str) (c : Addr), ([("__class__", cc)] : List (Str × Addr)).lookup y = some c → y = "__class__" ∧ c = cc := fun y c e => by
      by_cases hy : y = "__class__"
      · subst hy
        exact ⟨rfl, (Option.some.inj e).symm⟩
      · have : ([("__class__", cc)] : List (Str × Addr)).lookup y = none := by
          have hb : (y == ("__class__" : Str)) = false := beq_eq_false_iff_ne.mpr hy
          show (match y == ("__class__" : Str) with | true => some cc | false => List.lookup y []) = none
          rw [hb]
          rfl
        rw [this] at e
        cases e
    have at' := e0.bs _ _ (e0.mod.kin _ _ hcc)
    refine ⟨rfl, fun y c e => ?_, fun x y c e e' => (one x c e).1.trans (one y c e').1.symm, fun i y e => ?_⟩
    · obtain ⟨_, rfl⟩ := one y c e
      exact ⟨at'.2, _, _, at'.1, rfl⟩
    · cases i with
      | zero =>
        cases e
        exact ⟨cc, rfl, fun v h => nomatch h⟩
      | succ i => simp at e
  refine PySem.ks_codeAny_call_defAt (fd := PySem.W.ksFn name qual params body scope dV kV doc pm an (.ref cda) ct cc) (body := body) (binds := ps.zip us) hr.depth (KX _ _ lk) rfl lim (PySem.W.codeRec_of KX hcd) rfl hb S.nocell (fun ⟨n, _⟩ hy => S.par n (List.of_mem_zip hy).1) (fun h₁ hns kp => ?_) S.co S.gen S.kind
  have I := inv_startN (CX := CX) (F := ⟨name, qual, params, body, scope, [("__class__", cc)], cda⟩) (f := f) (E := E) (tk := s.toks + (ps.zip us).length) S hr.hd e0 hl r C hns kp
  refine PySem.ks_wpAt_mono (hbody A outer s _ H vs Q E (hr.deeper _) hsp I) (fun fl s' hs => ?_) fun e s' hs => hs
  have fin : ∀ {σ' : L2.St} {H' : Hp} {v : V} {u : Value}, Inv (ncx CX P w K mg base N ⟨name, qual, params, body, scope, [("__class__", cc)], cda⟩ f A outer s H E) [] σ' H' s' → L2.RelV v u → Q v H' → CE outer P w H s Q u s' :=
    fun {σ' H' v u} J rv q => ⟨v, H', J.os, J.bare, J.base, J.hok, rv, q⟩
  cases fl with
  | ret u =>
    obtain ⟨v, σ', H', J, rv, q⟩ := hs
    exact fin J rv q
  | next =>
    obtain ⟨σ', H', J, q⟩ := hs
    exact fin (v := V.non) (u := Value.none) J rfl q
  | brk =>
    obtain ⟨_, _, _, q⟩ := hs
    exact False.elim q
  | cont =>
    obtain ⟨_, _, _, q⟩ := hs
    exact False.elim q
end
/-! ### the first statement: super().__init__(..) -/
/-- what the written part says of the method at f that says super() for a self of the class at C -/
structure SupF (K : PySem.W.Frag) (P : Program) (f cda cc D C : Addr) (me : Str) : Prop where
  fn : ∃ oc od osl fd ar, K.lookup f = some ⟨oc, od, .func fd, osl⟩ ∧ (fd.params.posonlyargs ++ fd.params.args).head? = some ar ∧ ar.arg = me
  code : ∃ ccl cdd vs ccs file tf, K.lookup cda = some ⟨ccl, cdd, .fields vs, ccs⟩ ∧ vs[2]? = some (.str file tf) ∧ ((P.main.file : Str) == file) = true
  cell : ∃ cl cld csl, K.lookup cc = some ⟨cl, cld, .cell (some (.ref D)), csl⟩
  cls : ∃ cd, PySem.W.clsIn K D = some cd
  sub : PySem.W.mroIn K C (.ref D) = some true
  top : (P.main.scope.names.lookup ("super" : Str)).isSome = false
theorem sup_first {X : Cx} {pins : List (Addr × Obj)} {σ : L2.St} {H : Hp} {s : Shared} (I : L2.Inv X pins σ H s) {body : List Stmt} {p0 p1 p2 p3 p4 : Pos} {args : List Expr} {f cda cc D C a : Addr} {ox : Obj} {me : Str} {pl : Sem Bool} {Q : Flow → Shared → Prop}
    (hfn : X.env.func = some f) (hco : X.env.code = .ref cda) (hcl : X.env.cells.lookup ("__class__" : Str) = some cc) (SF : SupF X.K X.prog f cda cc D C me) (hsuper : X.mg "super" = none)
    (ks : X.env.kindOf "super" = some .globalImplicit) (kc : X.env.kindOf "__class__" = some .free) (ka : X.env.kindOf me = some .local) (hN : X.N[0]? = some me) (hσ : σ[0]? = some (some (.ref a)))
    (ho : s.heap.get? a = some ox) (hcls : ox.cls = .ref C) (hnc : ∀ c, ox.data ≠ .cls c)
    (h : ∀ so s2, L2.Inv X pins σ H s2 → s2.heap.get? so = some (PySem.W.ks_superObj D a C) → (∀ b o, s.heap.get? b = some o → s2.heap.get? b = some o) →
      wpAny (model X.prog X.w) X.A (getMethod (.ref so) "__init__" pl) (fun fx s3 => wpAny (model X.prog X.w) X.A (callWith p3 fx.1 fx.2 (backTo p3 (starEach args X.env)) []) (fun _ s4 => Q .next s4) X.xe s3) X.xe s2)
    (he : eval (.Call (.Attribute (.Call (.Name "super" p0) [] [] p1) "__init__" p2) args [] p3) X.env = (do
      let ov ← attributeBase (.Call (.Name "super" p0) [] [] p1) "__init__" X.env (eval (.Call (.Name "super" p0) [] [] p1) X.env)
      standAt p2.atName
      let (f, first) ← holding [ov] (getMethod ov "__init__" pl)
      callWith p3 f first (backTo p3 (starEach args X.env)) []) := by rfl) :
    _root_.PySem.wpAt (model X.prog X.w) X.A (.func body X.env) (exec (.Expr (.Call (.Attribute (.Call (.Name "super" p0) [] [] p1) "__init__" p2) args [] p3) p4) X.env) Q X.xe s := by
  obtain ⟨oc, od, osl, fd, ar, lk, hp, rfl⟩ := SF.fn
  obtain ⟨ccl, cdd, vs, ccs, file, tf, hcode, hvs, hfile⟩ := SF.code
  obtain ⟨cl, cld, csl, hcell⟩ := SF.cell
  obtain ⟨cdD, hD⟩ := SF.cls
  have KX := I.kIn
  obtain ⟨oD, hD1, hD2⟩ : ∃ oD, s.heap.get? D = some oD ∧ oD.data = .cls cdD := by
    unfold PySem.W.clsIn at hD
    split at hD
    · rename_i c d cd' sl ho'
      cases hD
      exact ⟨_, KX _ _ ho', rfl⟩
    · cases hD
  obtain ⟨mb, b1, b2⟩ := I.mod.blt
  obtain ⟨m, hn, hl⟩ := I.loc
  refine PySem.ks_wpAt_Expr_any (PySem.ks_wpAt_MethodCall ?_ he) I.quiet
  refine PySem.ks_wpAt_super_base ks kc (by decide) hfn (KX _ _ lk) rfl hp hco (KX _ _ hcode) rfl hvs hfile SF.top ?_
  refine PySem.W.ks_loadName_global I.ok.kind ks (Calls.loadGlobal_builtin (by rw [I.ok.glob]; exact I.mod.glob.keeps I.bk) hsuper (by rw [I.ok.blt]; exact b1.keeps I.bk) ((b2 _ (by decide)).trans (by first | rfl | kernel_rfl)) ⟨rfl, ?_⟩)
  refine wpAny_loadName_free I.ok.kind kc hcl ⟨_, KX _ _ hcell, rfl⟩ ?_
  obtain ⟨u, ru, lu⟩ := hl 0 _ _ hN hσ (.inl ka)
  have hu : m ar.arg = some (.ref a) := by
    rcases lu with ⟨_, e⟩ | ⟨e, _⟩
    · rw [e]
      exact congrArg some ru
    · rw [ka] at e
      rcases e with e | e <;> cases e
  refine wpAny_loadName_local I.ok.kind ka hn hu ?_
  refine PySem.ks_wpAny_isType_cls hD1 hD2 ⟨rfl, ?_⟩
  refine PySem.ks_wpAny_call_super hD1 hD2 ho hcls hnc (PySem.W.looks_mroIn KX SF.sub) (fun h' e kp => ?_)
  exact h _ _ (I.kept (t' := s.toks) kp) e kp
/-! ### .. to a def of the program -/
section
variable {X : Cx} {pins : List (Addr × Obj)} {σ : L2.St} {H : Hp} {s : Shared} {so a C D f2 : Addr} {ox : Obj} {odx : Option Obj} {pos : Pos} {e : Expr} {es : List Expr} {ta : TA} {pl : Sem Bool}
theorem sup_own {CX : CXT} {k : Nat} {sp : Sp} {E : XK} {Q : VK} {Q' : Shared → Prop} (I : L2.Inv X pins σ H s) (hso : s.heap.get? so = some (PySem.W.ks_superObj D a C)) (J : PySem.W.InstAt s.heap a ox C odx)
    (hm : PySem.W.ks_superIn X.K C D "__init__" = some (some (.ref f2))) (ht : PySem.W.typeIn X.K (.ref f2) = some (.type "function")) (hth : PySem.W.nsIn X.K PySem.cStatics "thirdparty.any" = some none) (hf : PySem.W.fnIn X.K f2 = true)
    (F : FnR X.prog X.w X.K X.mg X.base CX k f2 sp) (hr : Room k X.A) (hx : Passes CX X E) (ha : PA X (e :: es) ta) (h : ta σ H fun vs H1 => sp (.ref a :: vs) H1 Q E) (hQ : ∀ v s4, L2.EP X pins σ Q v s4 → Q' s4)
    (hst : starEach (e :: es) X.env = (false, eval e X.env) :: starEach es X.env := by rfl) (hpl : (backTo pos (starEach es X.env)).any (·.1) = false := by rfl) :
    wpAny (model X.prog X.w) X.A (getMethod (.ref so) "__init__" pl) (fun fx s3 => wpAny (model X.prog X.w) X.A (callWith pos fx.1 fx.2 (backTo pos (starEach (e :: es) X.env)) []) (fun _ s4 => Q' s4) X.xe s3) X.xe s := by
  have KX := I.kIn
  cases hc : PySem.W.clsIn X.K C with
  | none =>
    unfold PySem.W.ks_superIn at hm
    rw [hc] at hm
    cases hm
  | some cd =>
    unfold PySem.W.ks_superIn at hm
    rw [hc] at hm
    obtain ⟨of, hof, hofc⟩ : ∃ of, s.heap.get? f2 = some of ∧ of.cls = .type "function" := by
      have ht' : (X.K.lookup f2).map (·.cls) = some (.type "function") := ht
      cases z : X.K.lookup f2 with
      | none =>
        rw [z] at ht'
        cases ht'
      | some of =>
        rw [z] at ht'
        exact ⟨of, KX _ _ z, Option.some.inj ht'⟩
    have mro : PySem.W.Looks (model X.prog X.w) s.heap (mroOf (.ref C)) cd.mro := fun A Q E s k q => wpAny_bind ((PySem.W.looks_clsIn KX hc) A _ E s k (wpAny_pure q))
    refine PySem.ks_wpAny_getMethod_super hso (PySem.W.looks_opaque KX hth) mro rfl KX hm hof hofc (PySem.W.ks_ne KX J hc) (by decide) ?_
    have I2 := ClX.met_new (g := f2) (C := a) I
    have hb := ClX.base_none I (Nat.le_refl s.heap.objs.size)
    refine ClX.callwith_cm I2 hb hf (L2.thn (ha.run pos _ _ σ H _ I2 h) fun us s1 ⟨vs, H1, I1, r, q⟩ => ⟨⟨ClX.pin_at I1, I1.kIn⟩, L2.thn (ClX.run_cm F hr hx I1 r q) hQ⟩) hst hpl
end
/-! ### .. to ValueError.__init__ -/
section
open PySem.W PySem.Calls
variable {prog : Program} {w : World} {A : Around} {E : Value → Shared → Prop} {h : Heap} {g : Array GenState} {d : Drawn} {t : Nat} {os : OsState}
variable {nm q : Str} {C N : Addr} {bs bm : List Value} {hdct : Bool} {sn : List Str} {sub : List Value} {ab : Bool} {col : Option Bool} {dd : Option Addr} {k0 k1 k2 k3 k5 : Option Value}
theorem call_mw {u x t0 : Addr} {more : List Value} {Q : Value → Shared → Prop}
    (hC : h.get? C = some (excClassObj nm q C N bs bm hdct sn sub ab col dd k0 k1 k2 k3 k5 "ValueError.__new__")) (hx : h.get? x = some ({ cls := .ref C, dict := none, data := .fields #[.ref t0, .none, .none, .none, .bool false, .none] } : Obj)) (hu : h.get? u = some (kxs_mw "ValueError.__init__" x)) (hz : more.length ≤ sizeLine)
    (hq : ∀ h' t1, (∀ b o, b ≠ x → h.get? b = some o → h'.get? b = some o) → h'.get? x = some ({ cls := .ref C, dict := none, data := .fields #[.ref t1, .none, .none, .none, .bool false, .none] } : Obj) → Q .none ⟨h', g, d, t, os⟩) :
    wpAny (model prog w) A (call (.ref u) more) Q E ⟨h, g, d, t, os⟩ := by
  refine wpAny_call (codeAny_of_tree ?_)
  show wpAny (model prog w) A.in1 (callAny (.ref u) ⟨more, []⟩) _ _ _
  unfold callAny
  refine wpAny_bind (wpAny_load hu ?_)
  have two : (Value.type "method-wrapper" == Value.type "method" || Value.type "method-wrapper" == Value.type "builtin_function_or_method" || Value.type "method-wrapper" == Value.type "method-wrapper") = true := by decide
  simp only [kxs_mw, two, if_true]
  refine PySem.W.KFB.if_so (by decide) ?_
  refine wpAny_bind (check_bound_init PySem.F.excBase_ValueError.toExcCallFacts hC hx rfl ?_)
  refine wpAny_bind (wpAny_pure (wpAny_pure ?_))
  refine ⟨plainId_quiet PySem.F.excBase_ValueError.init.plain _, codeAny_builtin PySem.F.excBase_ValueError.initEntry ?_⟩
  exact exc_init_tree (cls := .ref C) (t0 := t0) (dv := none) (c2 := .none) (c3 := .none) (b4 := .bool false) hx hz fun h' k' e' _ => hq h' _ k' e'
end
section
variable {X : Cx} {pins : List (Addr × Obj)} {σ : L2.St} {H : Hp} {s : Shared} {so a C D : Addr} {pos : Pos} {e : Expr} {es : List Expr} {ta : TA} {pl : Sem Bool}
theorem sup_ve {R : Hp → Prop} {Q' : Shared → Prop} (I : L2.Inv X pins σ H s) (hso : s.heap.get? so = some (PySem.W.ks_superObj D a C)) (T : OexC X.K C) (ea : H a = some (exo a C none))
    (hm : PySem.W.ks_superIn X.K C D "__init__" = some (some (.builtin "ValueError.__init__"))) (hB : PySem.W.subIn X.K (.ref C) (.type "ValueError") = some true) (hth : PySem.W.nsIn X.K PySem.cStatics "thirdparty.any" = some none)
    (ha : PA X (e :: es) ta) (h : ta σ H fun vs H1 => vs.length ≤ 1000 ∧ H1 a = some (exo a C none) ∧ R H1) (hQ : ∀ s4 H', L2.Inv X pins σ H' s4 → R H' → Q' s4)
    (hst : starEach (e :: es) X.env = (false, eval e X.env) :: starEach es X.env := by rfl) (hpl : (backTo pos (starEach es X.env)).any (·.1) = false := by rfl) :
    wpAny (model X.prog X.w) X.A (getMethod (.ref so) "__init__" pl) (fun fx s3 => wpAny (model X.prog X.w) X.A (callWith pos fx.1 fx.2 (backTo pos (starEach (e :: es) X.env)) []) (fun _ s4 => Q' s4) X.xe s3) X.xe s := by
  have KX := I.kIn
  obtain ⟨t1, hob⟩ := exo_at I.hok ea
  have J : PySem.W.InstAt s.heap a _ C none := ⟨hob, rfl, rfl, trivial⟩
  cases hc : PySem.W.clsIn X.K C with
  | none =>
    unfold PySem.W.ks_superIn at hm
    rw [hc] at hm
    cases hm
  | some cd =>
    unfold PySem.W.ks_superIn at hm
    rw [hc] at hm
    have mro : PySem.W.Looks (model X.prog X.w) s.heap (mroOf (.ref C)) cd.mro := fun A Q E s k q => wpAny_bind ((PySem.W.looks_clsIn KX hc) A _ E s k (wpAny_pure q))
    refine PySem.W.kxs_getMethod PySem.W.kxs_ValueError hso (PySem.W.looks_opaque KX hth) mro rfl KX hm (J.type.andThen (PySem.W.looks_subIn KX hB)) (PySem.W.ks_ne KX J hc) (by decide) ?_
    have I2 : L2.Inv X ((s.heap.objs.size, PySem.W.kxs_mw "ValueError.__init__" a) :: pins) σ H { s with heap := s.heap.push (PySem.W.kxs_mw "ValueError.__init__" a), toks := s.toks + 1 } :=
      ClX.pin_new I (fun _ _ z => Heap.get?_push_of_some _ z) (Nat.le_refl _) (Heap.get?_push_size s.heap rfl) (fun v z => nomatch z)
    rw [hst]
    refine PySem.W.kxs_callWith (i := "ValueError.__init__") (x := a) (by show (false || (backTo pos (starEach es X.env)).any (·.1)) = false; rw [hpl]; rfl) ?_
    have hrun := ha.run pos _ _ σ H _ I2 h
    rw [hst] at hrun
    refine PySem.Calls.evalArgs_plain (L2.thn hrun fun us s1 ⟨vs, H1, I1, r, hz, e1, q⟩ => ⟨ClX.pin_at I1, ?_⟩)
    obtain ⟨nm, qq, N, bs, bm, sn, sub, ab, col, dd, k0, k1, k2, k3, k5, hC, hbm⟩ := T.cls
    obtain ⟨t2, ho2⟩ := exo_at I1.hok e1
    have hu := ClX.pin_at I1
    have hus : us.length ≤ sizeLine := by
      rw [← Paired.length r, sizeLine_eq]
      omega
    obtain ⟨hh, g, dr, tk, os⟩ := s1
    refine call_mw (I1.kIn _ _ hC) ho2 hu hus fun h' t3 kp e3 => ?_
    have J1 := (ClX.unpin I1).write (t' := tk) (x := a) (e := a) (o := exo a C none) (by rw [e1]; exact True.intro) (.inl rfl) kp ⟨_, e3⟩ (exo_ok e3)
    have eu : upd H1 a (exo a C none) = H1 := by
      funext b
      by_cases hb : b = a
      · rw [hb, upd_same, e1]
      · rw [upd_ne hb]
    rw [eu] at J1
    exact hQ _ _ J1 q
end
/-! ### the error classes -/
/-- behind the making: the exception's dict -/
def h3 (H : Hp) (a C dx : Addr) (p : Int) (n : Str) : Hp := upd (upd (upd H dx (exd dx [("place", .int p)])) a (exo a C (some dx))) dx (exd dx [("name", .str n), ("place", .int p)])
/-- what the written part says of an error class C below the base class -/
structure KErr (K : PySem.W.Frag) (P : Program) (fK cdaK ccK DK C : Addr) : Prop where
  oex : OexC K C
  sf : SupF K P fK cdaK ccK DK C "self"
  up : PySem.W.ks_superIn K C DK "__init__" = some (some (.builtin "ValueError.__init__"))
  ve : PySem.W.subIn K (.ref C) (.type "ValueError") = some true
  np : PySem.W.findIn K (.ref C) "place" = some none
  nn : PySem.W.findIn K (.ref C) "name" = some none
def SpI (K : PySem.W.Frag) (P : Program) (fK cdaK ccK DK : Addr) : Sp := fun vs H Q _ => ∃ a C p n, vs = [.ref a, .int p, .str n] ∧ KErr K P fK cdaK ccK DK C ∧ H a = some (exo a C none) ∧ ∀ dx, H dx = none → dx ≠ a → Q .non (h3 H a C dx p n)
section
variable {CX : CXT} {P : Program} {w : World} {K : PySem.W.Frag} {mg : Str → Option Value} {base : Heap} {f cc cda D : Addr} {name qual : Str} {params : Arguments} {body rest : List Stmt} {scope : Scope} {dV kV doc pm ct oc cl : Value} {an od cld : Option Addr} {osl csl : Array (Option Value)} {x1 : Str} {p0 p1 p2 p3 p4 q0 q1 q2 q3 q4 q5 q6 q7 q8 : Pos} {pl : Sem Bool}
theorem ok_kinit (lk : K.lookup f = some ⟨oc, od, .func (PySem.W.ksFn name qual params body scope dV kV doc pm an (.ref cda) ct cc), osl⟩) (hcd : PySem.W.codeIn K (.ref cda) qual = true)
    (hcc : K.lookup cc = some ⟨cl, cld, .cell (some (.ref D)), csl⟩) (S : NScope ["self", "place", "name", "__class__"] ["self", "place", "name"] ["__class__"] scope) (hsup : scope.names.lookup ("super" : Str) = some NameKind.globalImplicit) (hs : mg "super" = none) (hth : PySem.W.nsIn K PySem.cStatics "thirdparty.any" = some none)
    (hb : body = .Expr (.Call (.Attribute (.Call (.Name "super" p0) [] [] p1) "__init__" p2) [.Name "place" q0] [] p3) p4 :: [.Assign [.Attribute (.Name "self" q1) "place" q2] (.Name "place" q3) q4, .Assign [.Attribute (.Name "self" q5) "name" q6] (.Name "name" q7) q8])
    (he : ∀ env : Env, eval (.Call (.Attribute (.Call (.Name "super" p0) [] [] p1) "__init__" p2) [.Name "place" q0] [] p3) env = (do
      let ov ← attributeBase (.Call (.Name "super" p0) [] [] p1) "__init__" env (eval (.Call (.Name "super" p0) [] [] p1) env)
      standAt p2.atName
      let (f, first) ← holding [ov] (getMethod ov "__init__" pl)
      callWith p3 f first (backTo p3 (starEach [.Name "place" q0] env)) [])) :
    FnOk P w K mg base CX 1 f (PySem.W.ksFn name qual params body scope dV kV doc pm an (.ref cda) ct cc) ["self", "place", "name"] (SpI K P f cda cc D) := by
  subst hb
  refine fn_sup lk hcd hcc S (fun vs H Q E h => by obtain ⟨a, C, p, n, rfl, _⟩ := h; rfl) fun A outer s s1 H vs Q E hr hsp I => ?_
  obtain ⟨a, C, p, n, rfl, ke, ea, hq⟩ := hsp
  refine PySem.ks_wpAt_execs_cons ?_
  obtain ⟨t1, hob⟩ := exo_at I.hok ea
  refine sup_first I rfl rfl rfl ke.sf hs hsup (S.frk _ (by simp)) (S.par _ (by simp)) rfl rfl hob rfl (fun c z => nomatch z) (fun so s2 I2 hso kp => ?_) (he _)
  refine sup_ve (R := fun H' => H' = H) I2 hso ke.oex ea ke.up ke.ve hth (pa_cons (pv 1 rfl (.inl (S.par _ (by simp)))) pa_nil) ⟨_, rfl, (by show 1 ≤ 1000; decide), ea, rfl⟩ fun s4 H4 I4 e4 => ?_
  subst e4
  refine PySem.wpAt_of_wpAny ?_
  refine (pss_cons (ps_ost (pv 0 rfl (.inl (S.par _ (by simp)))) (pv 1 rfl (.inl (S.par _ (by simp))))) (pss_one (ps_ost (pv 0 rfl (.inl (S.par _ (by simp)))) (pv 2 rfl (.inl (S.par _ (by simp))))))).run [] s4 _ _ _ I4 ?_
  refine ⟨_, rfl, _, rfl, a, C, rfl, ke.oex, ke.np, .inl ⟨ea, fun dx hd hne => ?_⟩⟩
  refine ⟨_, rfl, _, rfl, a, C, rfl, ke.oex, ke.nn, .inr ⟨dx, [("place", .int p)], upd_same, ?_, (by show 1 ≤ 900; decide), hq dx hd hne⟩⟩
  rw [upd_ne hne, upd_same]
end
/-- the __init__ of an error class: super().__init__(place, its name) -/
def SpE (C : Addr) (n : Str) : Sp := fun vs H Q _ => ∃ a p, vs = [.ref a, .int p] ∧ H a = some (exo a C none) ∧ ∀ dx, H dx = none → dx ≠ a → Q .non (h3 H a C dx p n)
section
variable {P : Program} {w : World} {K : PySem.W.Frag} {mg : Str → Option Value} {base : Heap} {f cc cda C fK cdaK ccK DK : Addr} {name qual : Str} {params : Arguments} {body rest : List Stmt} {scope : Scope} {dV kV doc pm ct oc cl : Value} {an od cld : Option Addr} {osl csl : Array (Option Value)} {p0 p1 p2 p3 p4 q0 q1 q2 q3 : Pos} {pl : Sem Bool} {n : Str} {kd : Nat} {fd : FuncData}
theorem ok_tinit (lk : K.lookup f = some ⟨oc, od, .func (PySem.W.ksFn name qual params body scope dV kV doc pm an (.ref cda) ct cc), osl⟩) (hcd : PySem.W.codeIn K (.ref cda) qual = true)
    (hcc : K.lookup cc = some ⟨cl, cld, .cell (some (.ref C)), csl⟩) (S : NScope ["self", "place", "__class__"] ["self", "place"] ["__class__"] scope) (hsup : scope.names.lookup ("super" : Str) = some NameKind.globalImplicit) (hs : mg "super" = none) (hth : PySem.W.nsIn K PySem.cStatics "thirdparty.any" = some none)
    (sf : SupF K P f cda cc C C "self") (ke : KErr K P fK cdaK ccK DK C) (hm : PySem.W.ks_superIn K C C "__init__" = some (some (.ref fK))) (ht : PySem.W.typeIn K (.ref fK) = some (.type "function")) (hf : PySem.W.fnIn K fK = true)
    (FK : FnOk P w K mg base CX0 1 fK fd ["self", "place", "name"] (SpI K P fK cdaK ccK DK)) (bK : Binds K fd ["self", "place", "name"] [])
    (hb : body = .Expr (.Call (.Attribute (.Call (.Name "super" p0) [] [] p1) "__init__" p2) [.Name "place" q0, .Constant (.str n) kd q1] [] p3) p4 :: [])
    (he : ∀ env : Env, eval (.Call (.Attribute (.Call (.Name "super" p0) [] [] p1) "__init__" p2) [.Name "place" q0, .Constant (.str n) kd q1] [] p3) env = (do
      let ov ← attributeBase (.Call (.Name "super" p0) [] [] p1) "__init__" env (eval (.Call (.Name "super" p0) [] [] p1) env)
      standAt p2.atName
      let (f, first) ← holding [ov] (getMethod ov "__init__" pl)
      callWith p3 f first (backTo p3 (starEach [.Name "place" q0, .Constant (.str n) kd q1] env)) [])) :
    FnOk P w K mg base CX0 2 f (PySem.W.ksFn name qual params body scope dV kV doc pm an (.ref cda) ct cc) ["self", "place"] (SpE C n) := by
  subst hb
  refine fn_sup lk hcd hcc S (fun vs H Q E h => by obtain ⟨a, p, rfl, _⟩ := h; rfl) fun A outer s s1 H vs Q E hr hsp I => ?_
  obtain ⟨a, p, rfl, ea, hq⟩ := hsp
  refine PySem.ks_wpAt_execs_cons ?_
  obtain ⟨t1, hob⟩ := exo_at I.hok ea
  refine sup_first I rfl rfl rfl sf hs hsup (S.frk _ (by simp)) (S.par _ (by simp)) rfl rfl hob rfl (fun c z => nomatch z) (fun so s2 I2 hso kp => ?_) (he _)
  obtain ⟨t2, hob2⟩ := exo_at I2.hok ea
  have J : PySem.W.InstAt s2.heap a _ C none := ⟨hob2, rfl, rfl, trivial⟩
  refine sup_own (k := 1) (E := E0) (Q := fun v H' => Q .non H') I2 hso J hm ht hth hf (FK.raw bK .nil) hr pass0 (pa_cons (pv 1 rfl (.inl (S.par _ (by simp)))) (pa_cons pe_str pa_nil)) ⟨_, rfl, ⟨a, C, p, n, rfl, ke, ea, hq⟩⟩ fun v s4 h4 => ?_
  obtain ⟨v', H', I4, _, q⟩ := h4
  exact PySem.wpAt_of_wpAny ((pss_nil (X := ncx CX0 P w K mg base ["self", "place", "__class__"] ⟨name, qual, params, _, scope, [("__class__", cc)], cda⟩ f A outer s H E)).run [] s4 _ _ _ I4 q)
end
end Kr

/-! KrY: raising, defs that may raise. -/
namespace Kr
open PySem PySem.Spec PyProof.Rows L2
open Enc (toD)
section
variable {cf : Cf} {E : XK} {G : List Sl} {S ρ : Type} [Rs ρ] {te : TE} {u : TS} {enc : S → List Sl}
/-- raise X(e) -/
def tRs (cf : Cf) (c : Nat) (E : XK) (te : TE) : TS := fun _ σ H => tMkO (cf.cls c) (SpE (cf.cls c) (cf.nm c)) [] (tCons te tNil) σ H fun cls d H' => E cls d H'
theorem rs_heap {H : Hp} {a C dx : Addr} {p : Int} {n : Str} (ha : H a = none) : upd (del (h3 (upd H a (exo a C none)) a C dx p n) a) dx (.xd [("name", .str n), ("place", .int p)]) = upd H dx (.xd [("name", .str n), ("place", .int p)]) := by
  funext b
  by_cases hb : b = dx
  · rw [hb, upd_same, upd_same]
  · rw [upd_ne hb, upd_ne hb]
    by_cases hba : b = a
    · rw [hba, del_same, ha]
    · rw [del_ne hba]
      unfold h3
      rw [upd_ne hb, upd_ne hba, upd_ne hb, upd_ne hba]
theorem rs_at {m : R Int} {c : Nat} (h : EM cf E te G m) (F O H : Hp) (σ : L2.St) (hf : Fm F O H) (he : Er cf.K F O σ G) (nb : m ≠ .bad) (ke : ∀ c' p d F' H', (m.bind fun p => (.er c p : R Int)) = .er c' p → Le F F' → Fm F' O H' → F' d = some (xdO cf c' p) → E (.ref (cf.cls c')) (some d) H') (D : Ends) : tRs cf c E te D σ H := by
  refine h F O H σ _ hf he nb (fun p v F' H' e le hf' hr => ?_) (fun c' p d F' H' e le hf' hd => ke c' p d F' H' (by rw [e]; rfl) le hf' hd)
  obtain rfl : v = .int p := dr_int hr
  refine ⟨by show 1 ≤ 1000; decide, fun a ha => ⟨a, p, rfl, upd_same, fun dx hd hne => ⟨rfl, dx, [("name", .str (cf.nm c)), ("place", .int p)], ?_, upd_same, ?_, ?_⟩⟩⟩
  · unfold h3
    rw [upd_ne (Ne.symm hne), upd_same]
  · rw [upd_ne hne] at hd
    exact hd
  · rw [upd_ne hne] at hd
    rw [rs_heap ha]
    exact ke c p dx (upd F' dx (xdO cf c p)) _ (by rw [e]; rfl) (le.trans (Le.new (hf'.fnone hd))) (hf'.newF hd) upd_same
theorem sb_raise {m : R Int} {c : Nat} (h : EM cf E te G m) : SB cf E (tRs cf c E te) G enc (m.bind fun p => (.er c p : R (Fl S ρ))) := fun F O H σ D hM nb kn kb kr ke => by
  obtain ⟨O', lo, hf, he, ow⟩ := hM
  refine rs_at h F O' H σ hf he (R.bind_nb nb) (fun c' p d F' H' e le hf' hd => ke c' p d F' H' ?_ le (hf'.weak lo) hd) D
  cases m with
  | ok a => cases e; rfl
  | er c2 p2 => cases e; rfl
  | bad => cases e
theorem sb_raise2 {m : R Int} {c : Nat} (h : EM cf E te G m) : SB cf E (tSeq (tRs cf c E te) u) G enc (m.bind fun p => (.er c p : R (Fl S ρ))) := fun F O H σ D hM nb kn kb kr ke => sb_raise (enc := enc) h F O H σ { D with nx := u D } hM nb (fun s F' H' σ' e => by
    cases m <;> cases e) (fun s F' H' σ' e => by
    cases m <;> cases e) (fun r v F' H' e => by
    cases m <;> cases e) ke
end
/-- the term: raise X(e) -/
theorem ps_rs {X : Cx} {P : Program} {cf : Cf} {c : Nat} {E : XK} {x : Str} {fI : Addr} {fd : FuncData} {e : Expr} {te : TE} {p pos pos' : Pos} (hP : X.prog = P) (hK : X.K = cf.K) (hc : X.calm = true) (tk : Takes X (fun cls d σ H => E cls d H)) (T : OexC X.K (cf.cls c))
    (iC : PySem.W.findIn X.K (.ref (cf.cls c)) "__init__" = some (some (.ref fI))) (tI : PySem.W.typeIn X.K (.ref fI) = some (.type "function")) (F1 : FnOk X.prog X.w X.K X.mg X.base CX0 2 fI fd ["self", "place"] (SpE (cf.cls c) (cf.nm c)))
    (hr : Room 3 X.A) (hb : Binds X.K fd ["self", "place"] []) (hg : Gl X x) (hm : X.mg x = some (.ref (cf.cls c))) (ha : PE X e te) (hdb : (x == ("__debug__" : Str)) = false := by decide)
    (he : starEach [e] X.env = (false, eval e X.env) :: starEach [] X.env := by rfl) : PS X (.Raise (some (.Call (.Name x p) [e] [] pos)) none pos') (tRs cf c E te) :=
  ps_raise hc tk (pmk_oex T iC tI F1 hr hb .nil pass0 hg hm (pa_cons ha pa_nil (hs := he)) hdb he rfl)

/-- called with values of the data ds, it returns or raises what the relation says -/
def SpX (cf : Cf) (n : Nat) (spec : List Dt → R Dt → Prop) : Sp := fun vs H Q E => vs.length = n ∧ ∃ (F O : Hp) (ds : List Dt) (r : R Dt), Fm F O H ∧ DrA cf.K F vs ds ∧ spec ds r ∧ r ≠ .bad ∧
  (∀ d v F' H', r = .ok d → Le F F' → Fm F' O H' → Dr cf.K F' v d → Q v H') ∧ (∀ c p d F' H', r = .er c p → Le F F' → Fm F' O H' → F' d = some (xdO cf c p) → E (.ref (cf.cls c)) (some d) H')
theorem SpX.len {cf : Cf} {n : Nat} {spec : List Dt → R Dt → Prop} {ps : List Str} (h : ps.length = n := by rfl) : ∀ vs H Q E, SpX cf n spec vs H Q E → vs.length = ps.length := fun vs H Q E q => by rw [h]; exact q.1
theorem map_nb {α β : Type} {f : α → β} {m : R α} (h : m ≠ .bad) : m.map f ≠ .bad := by
  cases m with
  | ok a => exact fun z => nomatch z
  | er c p => exact fun z => nomatch z
  | bad => exact absurd rfl h
theorem map_okd {α β : Type} {f : α → β} {m : R α} {b : β} (h : m.map f = .ok b) : ∃ a, m = .ok a ∧ f a = b := by
  cases m with
  | ok a => exact ⟨a, rfl, R.ok.inj h⟩
  | er c p => cases h
  | bad => cases h
theorem map_erd {α β : Type} {f : α → β} {m : R α} {c : Nat} {p : Int} (h : m.map f = .er c p) : m = .er c p := by
  cases m with
  | ok a => cases h
  | er c p => cases h; rfl
  | bad => cases h
theorem run_ofX {cf : Cf} {E : XK} {S ρ : Type} [Enc ρ] {t : TS} {N : List Str} {vs : List V} {H : Hp} {Q : VK} {n : Nat} {spec : List Dt → R Dt → Prop} {enc : S → List Sl} (h : SpX cf n spec vs H Q E)
    (hb : ∀ ds r, spec ds r → r ≠ .bad → ∃ m : R (Fl S ρ), SB cf E t (ds.map Sl.va ++ List.replicate (N.length - ds.length) .un) enc m ∧ r = (finR m).map toD) : t { nx := fun _ H' => Q .non H', rt := Q } (L2.start N vs) H := by
  obtain ⟨_, F, O, ds, r, hf, hr, hs, nb, ko, ke⟩ := h
  obtain ⟨m, hm, er⟩ := hb ds r hs nb
  subst er
  refine hm F O H _ _ (mt_start hf hr) (fun z => ?_) (fun s F' H' σ' e => ?_) (fun s F' H' σ' e => ?_) (fun r' v F' H' e le hf' hr' => ?_) (fun c p d F' H' e le hf' hd => ?_)
  · rw [z] at nb
    exact nb rfl
  · rw [e] at nb
    exact absurd rfl nb
  · rw [e] at nb
    exact absurd rfl nb
  · exact ko (toD r') v F' H' (by rw [e]; rfl) le hf' hr'
  · exact ke c p d F' H' (by rw [e]; rfl) le hf' hd

section
variable {α τ : Type} [Enc α] [Enc τ]
theorem em_callX1 {cf : Cf} {E : XK} {G : List Sl} {t0 : TE} {m0 : R α} {g : α → R τ} (h0 : EM cf E t0 G m0) : EM cf E (tCall (SpX cf 1 (sp1 g)) [] E (tCons t0 tNil)) G (m0.bind fun a => g a) := fun F O H σ Q hf he nb ko ke => by
  have le0 : Le F F := Le.refl F
  refine h0 F O H σ _ hf (he.mono le0) (R.bind_nb nb) (fun a v0 F1 H1 e0 l0 hf1 r0 => ?_) (fun c' p d' F' H' e' le hf' hd => ke c' p d' F' H' (by rw [e']; rfl) (le0.trans le) hf' hd)
  rw [e0, R.ok_bind] at nb ko ke
  have le1 := le0.trans l0
  exact ⟨rfl, F1, O, _, (g a).map toD, hf1, (.cons r0 .nil), ⟨a, rfl, rfl⟩, map_nb nb, fun d' v F' H' e' le hf' hr => by
    obtain ⟨y, ey, ed⟩ := map_okd e'
    subst ed
    exact ko y v F' H' ey (le1.trans le) hf' hr, fun c' p d' F' H' e' le hf' hd => ke c' p d' F' H' (map_erd e') (le1.trans le) hf' hd⟩
theorem em_callP1 {cf : Cf} {E : XK} {G : List Sl} {t0 : TE} {m0 : R α} {g : α → R τ} (h0 : EM cf E t0 G m0) : EM cf E (tCall (SpX cf 1 (sp1 g)) [] E0 (tCons t0 tNil)) G (m0.bind fun a => (g a).pu) := fun F O H σ Q hf he nb ko ke => by
  have le0 : Le F F := Le.refl F
  refine h0 F O H σ _ hf (he.mono le0) (R.bind_nb nb) (fun a v0 F1 H1 e0 l0 hf1 r0 => ?_) (fun c' p d' F' H' e' le hf' hd => ke c' p d' F' H' (by rw [e']; rfl) (le0.trans le) hf' hd)
  rw [e0, R.ok_bind] at nb ko ke
  have le1 := le0.trans l0
  obtain ⟨y, ey⟩ := pu_nb nb
  exact ⟨rfl, F1, O, _, .ok (toD y), hf1, (.cons r0 .nil), ⟨a, rfl, by rw [ey]; rfl⟩, fun z => (nomatch z), fun d' v F' H' e' le hf' hr => by
    cases e'
    exact ko y v F' H' (by rw [ey]; rfl) (le1.trans le) hf' hr, fun _ _ _ _ _ z => (nomatch z)⟩
theorem fnX1 {P : Program} {w : World} {cf : Cf} {mg : Str → Option Value} {base : Heap} {x qual : Str} {st : Stmt} {f0 : Addr} {fd : FuncData} {N ps : List Str} {k : Nat} {S : Type} {enc : S → List Sl} (F : Fun cf.K x qual st f0 fd) (sc : FnScope N ps (defScope st)) (hp : ps.length = 1) (g : α → R (Fl S τ))
    (G0 : α → List Sl) (hG : ∀ a, [.va (toD a)] ++ List.replicate (N.length - 1) .un = G0 a)
    (h : ∀ (cdv : Value) (A : Around) (outer : List Env) (s : Shared) (H : Hp) (E : XK), Room k (A.deeper (envOfC qual (defScope st) s.heap.objs.size f0 cdv)) →
      ∃ t, PSs (cxOf (L2.CX P w) P w cf.K mg base N qual (defScope st) f0 cdv A outer s H E) (defBody st) t ∧ ∀ a, SB cf E t (G0 a) enc (g a)) :
    FnOk P w cf.K mg base (L2.CX P w) (k + 1) f0 fd ps (SpX cf 1 (sp1 fun a => finR (g a))) := by
  refine F.okX sc (SpX.len hp) (fun cdv A outer s H vs Q E hr hq => ?_)
  obtain ⟨t, ht, hb⟩ := h cdv A outer s H E hr
  refine ⟨t, ht, run_ofX (ρ := τ) (S := S) (enc := enc) hq fun ds r hs nb => ?_⟩
  obtain ⟨a, rfl, er⟩ := hs
  exact ⟨g a, by have q := hb a; rw [← hG] at q; exact q, er⟩
end

section
variable {α β τ : Type} [Enc α] [Enc β] [Enc τ]
theorem em_callX2 {cf : Cf} {E : XK} {G : List Sl} {t0 t1 : TE} {m0 : R α} {m1 : R β} {g : α → β → R τ} (h0 : EM cf E t0 G m0) (h1 : EM cf E t1 G m1) : EM cf E (tCall (SpX cf 2 (sp2 g)) [] E (tCons t0 (tCons t1 tNil))) G (m0.bind fun a => m1.bind fun b => g a b) := fun F O H σ Q hf he nb ko ke => by
  have le0 : Le F F := Le.refl F
  refine h0 F O H σ _ hf (he.mono le0) (R.bind_nb nb) (fun a v0 F1 H1 e0 l0 hf1 r0 => ?_) (fun c' p d' F' H' e' le hf' hd => ke c' p d' F' H' (by rw [e']; rfl) (le0.trans le) hf' hd)
  rw [e0, R.ok_bind] at nb ko ke
  have le1 := le0.trans l0
  refine h1 F1 O H1 σ _ hf1 (he.mono le1) (R.bind_nb nb) (fun b v1 F2 H2 e1 l1 hf2 r1 => ?_) (fun c' p d' F' H' e' le hf' hd => ke c' p d' F' H' (by rw [e']; rfl) (le1.trans le) hf' hd)
  rw [e1, R.ok_bind] at nb ko ke
  have le2 := le1.trans l1
  exact ⟨rfl, F2, O, _, (g a b).map toD, hf2, (.cons (Dr.mono l1 r0) (.cons r1 .nil)), ⟨a, b, rfl, rfl⟩, map_nb nb, fun d' v F' H' e' le hf' hr => by
    obtain ⟨y, ey, ed⟩ := map_okd e'
    subst ed
    exact ko y v F' H' ey (le2.trans le) hf' hr, fun c' p d' F' H' e' le hf' hd => ke c' p d' F' H' (map_erd e') (le2.trans le) hf' hd⟩
theorem em_callP2 {cf : Cf} {E : XK} {G : List Sl} {t0 t1 : TE} {m0 : R α} {m1 : R β} {g : α → β → R τ} (h0 : EM cf E t0 G m0) (h1 : EM cf E t1 G m1) : EM cf E (tCall (SpX cf 2 (sp2 g)) [] E0 (tCons t0 (tCons t1 tNil))) G (m0.bind fun a => m1.bind fun b => (g a b).pu) := fun F O H σ Q hf he nb ko ke => by
  have le0 : Le F F := Le.refl F
  refine h0 F O H σ _ hf (he.mono le0) (R.bind_nb nb) (fun a v0 F1 H1 e0 l0 hf1 r0 => ?_) (fun c' p d' F' H' e' le hf' hd => ke c' p d' F' H' (by rw [e']; rfl) (le0.trans le) hf' hd)
  rw [e0, R.ok_bind] at nb ko ke
  have le1 := le0.trans l0
  refine h1 F1 O H1 σ _ hf1 (he.mono le1) (R.bind_nb nb) (fun b v1 F2 H2 e1 l1 hf2 r1 => ?_) (fun c' p d' F' H' e' le hf' hd => ke c' p d' F' H' (by rw [e']; rfl) (le1.trans le) hf' hd)
  rw [e1, R.ok_bind] at nb ko ke
  have le2 := le1.trans l1
  obtain ⟨y, ey⟩ := pu_nb nb
  exact ⟨rfl, F2, O, _, .ok (toD y), hf2, (.cons (Dr.mono l1 r0) (.cons r1 .nil)), ⟨a, b, rfl, by rw [ey]; rfl⟩, fun z => (nomatch z), fun d' v F' H' e' le hf' hr => by
    cases e'
    exact ko y v F' H' (by rw [ey]; rfl) (le2.trans le) hf' hr, fun _ _ _ _ _ z => (nomatch z)⟩
theorem fnX2 {P : Program} {w : World} {cf : Cf} {mg : Str → Option Value} {base : Heap} {x qual : Str} {st : Stmt} {f0 : Addr} {fd : FuncData} {N ps : List Str} {k : Nat} {S : Type} {enc : S → List Sl} (F : Fun cf.K x qual st f0 fd) (sc : FnScope N ps (defScope st)) (hp : ps.length = 2) (g : α → β → R (Fl S τ))
    (G0 : α → β → List Sl) (hG : ∀ a b, [.va (toD a), .va (toD b)] ++ List.replicate (N.length - 2) .un = G0 a b)
    (h : ∀ (cdv : Value) (A : Around) (outer : List Env) (s : Shared) (H : Hp) (E : XK), Room k (A.deeper (envOfC qual (defScope st) s.heap.objs.size f0 cdv)) →
      ∃ t, PSs (cxOf (L2.CX P w) P w cf.K mg base N qual (defScope st) f0 cdv A outer s H E) (defBody st) t ∧ ∀ a b, SB cf E t (G0 a b) enc (g a b)) :
    FnOk P w cf.K mg base (L2.CX P w) (k + 1) f0 fd ps (SpX cf 2 (sp2 fun a b => finR (g a b))) := by
  refine F.okX sc (SpX.len hp) (fun cdv A outer s H vs Q E hr hq => ?_)
  obtain ⟨t, ht, hb⟩ := h cdv A outer s H E hr
  refine ⟨t, ht, run_ofX (ρ := τ) (S := S) (enc := enc) hq fun ds r hs nb => ?_⟩
  obtain ⟨a, b, rfl, er⟩ := hs
  exact ⟨g a b, by have q := hb a b; rw [← hG] at q; exact q, er⟩
end

section
variable {α β γ τ : Type} [Enc α] [Enc β] [Enc γ] [Enc τ]
theorem em_callX3 {cf : Cf} {E : XK} {G : List Sl} {t0 t1 t2 : TE} {m0 : R α} {m1 : R β} {m2 : R γ} {g : α → β → γ → R τ} (h0 : EM cf E t0 G m0) (h1 : EM cf E t1 G m1) (h2 : EM cf E t2 G m2) : EM cf E (tCall (SpX cf 3 (sp3 g)) [] E (tCons t0 (tCons t1 (tCons t2 tNil)))) G (m0.bind fun a => m1.bind fun b => m2.bind fun c => g a b c) := fun F O H σ Q hf he nb ko ke => by
  have le0 : Le F F := Le.refl F
  refine h0 F O H σ _ hf (he.mono le0) (R.bind_nb nb) (fun a v0 F1 H1 e0 l0 hf1 r0 => ?_) (fun c' p d' F' H' e' le hf' hd => ke c' p d' F' H' (by rw [e']; rfl) (le0.trans le) hf' hd)
  rw [e0, R.ok_bind] at nb ko ke
  have le1 := le0.trans l0
  refine h1 F1 O H1 σ _ hf1 (he.mono le1) (R.bind_nb nb) (fun b v1 F2 H2 e1 l1 hf2 r1 => ?_) (fun c' p d' F' H' e' le hf' hd => ke c' p d' F' H' (by rw [e']; rfl) (le1.trans le) hf' hd)
  rw [e1, R.ok_bind] at nb ko ke
  have le2 := le1.trans l1
  refine h2 F2 O H2 σ _ hf2 (he.mono le2) (R.bind_nb nb) (fun c v2 F3 H3 e2 l2 hf3 r2 => ?_) (fun c' p d' F' H' e' le hf' hd => ke c' p d' F' H' (by rw [e']; rfl) (le2.trans le) hf' hd)
  rw [e2, R.ok_bind] at nb ko ke
  have le3 := le2.trans l2
  exact ⟨rfl, F3, O, _, (g a b c).map toD, hf3, (.cons (Dr.mono l2 (Dr.mono l1 r0)) (.cons (Dr.mono l2 r1) (.cons r2 .nil))), ⟨a, b, c, rfl, rfl⟩, map_nb nb, fun d' v F' H' e' le hf' hr => by
    obtain ⟨y, ey, ed⟩ := map_okd e'
    subst ed
    exact ko y v F' H' ey (le3.trans le) hf' hr, fun c' p d' F' H' e' le hf' hd => ke c' p d' F' H' (map_erd e') (le3.trans le) hf' hd⟩
theorem em_callP3 {cf : Cf} {E : XK} {G : List Sl} {t0 t1 t2 : TE} {m0 : R α} {m1 : R β} {m2 : R γ} {g : α → β → γ → R τ} (h0 : EM cf E t0 G m0) (h1 : EM cf E t1 G m1) (h2 : EM cf E t2 G m2) : EM cf E (tCall (SpX cf 3 (sp3 g)) [] E0 (tCons t0 (tCons t1 (tCons t2 tNil)))) G (m0.bind fun a => m1.bind fun b => m2.bind fun c => (g a b c).pu) := fun F O H σ Q hf he nb ko ke => by
  have le0 : Le F F := Le.refl F
  refine h0 F O H σ _ hf (he.mono le0) (R.bind_nb nb) (fun a v0 F1 H1 e0 l0 hf1 r0 => ?_) (fun c' p d' F' H' e' le hf' hd => ke c' p d' F' H' (by rw [e']; rfl) (le0.trans le) hf' hd)
  rw [e0, R.ok_bind] at nb ko ke
  have le1 := le0.trans l0
  refine h1 F1 O H1 σ _ hf1 (he.mono le1) (R.bind_nb nb) (fun b v1 F2 H2 e1 l1 hf2 r1 => ?_) (fun c' p d' F' H' e' le hf' hd => ke c' p d' F' H' (by rw [e']; rfl) (le1.trans le) hf' hd)
  rw [e1, R.ok_bind] at nb ko ke
  have le2 := le1.trans l1
  refine h2 F2 O H2 σ _ hf2 (he.mono le2) (R.bind_nb nb) (fun c v2 F3 H3 e2 l2 hf3 r2 => ?_) (fun c' p d' F' H' e' le hf' hd => ke c' p d' F' H' (by rw [e']; rfl) (le2.trans le) hf' hd)
  rw [e2, R.ok_bind] at nb ko ke
  have le3 := le2.trans l2
  obtain ⟨y, ey⟩ := pu_nb nb
  exact ⟨rfl, F3, O, _, .ok (toD y), hf3, (.cons (Dr.mono l2 (Dr.mono l1 r0)) (.cons (Dr.mono l2 r1) (.cons r2 .nil))), ⟨a, b, c, rfl, by rw [ey]; rfl⟩, fun z => (nomatch z), fun d' v F' H' e' le hf' hr => by
    cases e'
    exact ko y v F' H' (by rw [ey]; rfl) (le3.trans le) hf' hr, fun _ _ _ _ _ z => (nomatch z)⟩
theorem fnX3 {P : Program} {w : World} {cf : Cf} {mg : Str → Option Value} {base : Heap} {x qual : Str} {st : Stmt} {f0 : Addr} {fd : FuncData} {N ps : List Str} {k : Nat} {S : Type} {enc : S → List Sl} (F : Fun cf.K x qual st f0 fd) (sc : FnScope N ps (defScope st)) (hp : ps.length = 3) (g : α → β → γ → R (Fl S τ))
    (G0 : α → β → γ → List Sl) (hG : ∀ a b c, [.va (toD a), .va (toD b), .va (toD c)] ++ List.replicate (N.length - 3) .un = G0 a b c)
    (h : ∀ (cdv : Value) (A : Around) (outer : List Env) (s : Shared) (H : Hp) (E : XK), Room k (A.deeper (envOfC qual (defScope st) s.heap.objs.size f0 cdv)) →
      ∃ t, PSs (cxOf (L2.CX P w) P w cf.K mg base N qual (defScope st) f0 cdv A outer s H E) (defBody st) t ∧ ∀ a b c, SB cf E t (G0 a b c) enc (g a b c)) :
    FnOk P w cf.K mg base (L2.CX P w) (k + 1) f0 fd ps (SpX cf 3 (sp3 fun a b c => finR (g a b c))) := by
  refine F.okX sc (SpX.len hp) (fun cdv A outer s H vs Q E hr hq => ?_)
  obtain ⟨t, ht, hb⟩ := h cdv A outer s H E hr
  refine ⟨t, ht, run_ofX (ρ := τ) (S := S) (enc := enc) hq fun ds r hs nb => ?_⟩
  obtain ⟨a, b, c, rfl, er⟩ := hs
  exact ⟨g a b c, by have q := hb a b c; rw [← hG] at q; exact q, er⟩
end

section
variable {α β γ δ τ : Type} [Enc α] [Enc β] [Enc γ] [Enc δ] [Enc τ]
theorem em_callX4 {cf : Cf} {E : XK} {G : List Sl} {t0 t1 t2 t3 : TE} {m0 : R α} {m1 : R β} {m2 : R γ} {m3 : R δ} {g : α → β → γ → δ → R τ} (h0 : EM cf E t0 G m0) (h1 : EM cf E t1 G m1) (h2 : EM cf E t2 G m2) (h3 : EM cf E t3 G m3) : EM cf E (tCall (SpX cf 4 (sp4 g)) [] E (tCons t0 (tCons t1 (tCons t2 (tCons t3 tNil))))) G (m0.bind fun a => m1.bind fun b => m2.bind fun c => m3.bind fun d => g a b c d) := fun F O H σ Q hf he nb ko ke => by
  have le0 : Le F F := Le.refl F
  refine h0 F O H σ _ hf (he.mono le0) (R.bind_nb nb) (fun a v0 F1 H1 e0 l0 hf1 r0 => ?_) (fun c' p d' F' H' e' le hf' hd => ke c' p d' F' H' (by rw [e']; rfl) (le0.trans le) hf' hd)
  rw [e0, R.ok_bind] at nb ko ke
  have le1 := le0.trans l0
  refine h1 F1 O H1 σ _ hf1 (he.mono le1) (R.bind_nb nb) (fun b v1 F2 H2 e1 l1 hf2 r1 => ?_) (fun c' p d' F' H' e' le hf' hd => ke c' p d' F' H' (by rw [e']; rfl) (le1.trans le) hf' hd)
  rw [e1, R.ok_bind] at nb ko ke
  have le2 := le1.trans l1
  refine h2 F2 O H2 σ _ hf2 (he.mono le2) (R.bind_nb nb) (fun c v2 F3 H3 e2 l2 hf3 r2 => ?_) (fun c' p d' F' H' e' le hf' hd => ke c' p d' F' H' (by rw [e']; rfl) (le2.trans le) hf' hd)
  rw [e2, R.ok_bind] at nb ko ke
  have le3 := le2.trans l2
  refine h3 F3 O H3 σ _ hf3 (he.mono le3) (R.bind_nb nb) (fun d v3 F4 H4 e3 l3 hf4 r3 => ?_) (fun c' p d' F' H' e' le hf' hd => ke c' p d' F' H' (by rw [e']; rfl) (le3.trans le) hf' hd)
  rw [e3, R.ok_bind] at nb ko ke
  have le4 := le3.trans l3
  exact ⟨rfl, F4, O, _, (g a b c d).map toD, hf4, (.cons (Dr.mono l3 (Dr.mono l2 (Dr.mono l1 r0))) (.cons (Dr.mono l3 (Dr.mono l2 r1)) (.cons (Dr.mono l3 r2) (.cons r3 .nil)))), ⟨a, b, c, d, rfl, rfl⟩, map_nb nb, fun d' v F' H' e' le hf' hr => by
    obtain ⟨y, ey, ed⟩ := map_okd e'
    subst ed
    exact ko y v F' H' ey (le4.trans le) hf' hr, fun c' p d' F' H' e' le hf' hd => ke c' p d' F' H' (map_erd e') (le4.trans le) hf' hd⟩
theorem em_callP4 {cf : Cf} {E : XK} {G : List Sl} {t0 t1 t2 t3 : TE} {m0 : R α} {m1 : R β} {m2 : R γ} {m3 : R δ} {g : α → β → γ → δ → R τ} (h0 : EM cf E t0 G m0) (h1 : EM cf E t1 G m1) (h2 : EM cf E t2 G m2) (h3 : EM cf E t3 G m3) : EM cf E (tCall (SpX cf 4 (sp4 g)) [] E0 (tCons t0 (tCons t1 (tCons t2 (tCons t3 tNil))))) G (m0.bind fun a => m1.bind fun b => m2.bind fun c => m3.bind fun d => (g a b c d).pu) := fun F O H σ Q hf he nb ko ke => by
  have le0 : Le F F := Le.refl F
  refine h0 F O H σ _ hf (he.mono le0) (R.bind_nb nb) (fun a v0 F1 H1 e0 l0 hf1 r0 => ?_) (fun c' p d' F' H' e' le hf' hd => ke c' p d' F' H' (by rw [e']; rfl) (le0.trans le) hf' hd)
  rw [e0, R.ok_bind] at nb ko ke
  have le1 := le0.trans l0
  refine h1 F1 O H1 σ _ hf1 (he.mono le1) (R.bind_nb nb) (fun b v1 F2 H2 e1 l1 hf2 r1 => ?_) (fun c' p d' F' H' e' le hf' hd => ke c' p d' F' H' (by rw [e']; rfl) (le1.trans le) hf' hd)
  rw [e1, R.ok_bind] at nb ko ke
  have le2 := le1.trans l1
  refine h2 F2 O H2 σ _ hf2 (he.mono le2) (R.bind_nb nb) (fun c v2 F3 H3 e2 l2 hf3 r2 => ?_) (fun c' p d' F' H' e' le hf' hd => ke c' p d' F' H' (by rw [e']; rfl) (le2.trans le) hf' hd)
  rw [e2, R.ok_bind] at nb ko ke
  have le3 := le2.trans l2
  refine h3 F3 O H3 σ _ hf3 (he.mono le3) (R.bind_nb nb) (fun d v3 F4 H4 e3 l3 hf4 r3 => ?_) (fun c' p d' F' H' e' le hf' hd => ke c' p d' F' H' (by rw [e']; rfl) (le3.trans le) hf' hd)
  rw [e3, R.ok_bind] at nb ko ke
  have le4 := le3.trans l3
  obtain ⟨y, ey⟩ := pu_nb nb
  exact ⟨rfl, F4, O, _, .ok (toD y), hf4, (.cons (Dr.mono l3 (Dr.mono l2 (Dr.mono l1 r0))) (.cons (Dr.mono l3 (Dr.mono l2 r1)) (.cons (Dr.mono l3 r2) (.cons r3 .nil)))), ⟨a, b, c, d, rfl, by rw [ey]; rfl⟩, fun z => (nomatch z), fun d' v F' H' e' le hf' hr => by
    cases e'
    exact ko y v F' H' (by rw [ey]; rfl) (le4.trans le) hf' hr, fun _ _ _ _ _ z => (nomatch z)⟩
theorem fnX4 {P : Program} {w : World} {cf : Cf} {mg : Str → Option Value} {base : Heap} {x qual : Str} {st : Stmt} {f0 : Addr} {fd : FuncData} {N ps : List Str} {k : Nat} {S : Type} {enc : S → List Sl} (F : Fun cf.K x qual st f0 fd) (sc : FnScope N ps (defScope st)) (hp : ps.length = 4) (g : α → β → γ → δ → R (Fl S τ))
    (G0 : α → β → γ → δ → List Sl) (hG : ∀ a b c d, [.va (toD a), .va (toD b), .va (toD c), .va (toD d)] ++ List.replicate (N.length - 4) .un = G0 a b c d)
    (h : ∀ (cdv : Value) (A : Around) (outer : List Env) (s : Shared) (H : Hp) (E : XK), Room k (A.deeper (envOfC qual (defScope st) s.heap.objs.size f0 cdv)) →
      ∃ t, PSs (cxOf (L2.CX P w) P w cf.K mg base N qual (defScope st) f0 cdv A outer s H E) (defBody st) t ∧ ∀ a b c d, SB cf E t (G0 a b c d) enc (g a b c d)) :
    FnOk P w cf.K mg base (L2.CX P w) (k + 1) f0 fd ps (SpX cf 4 (sp4 fun a b c d => finR (g a b c d))) := by
  refine F.okX sc (SpX.len hp) (fun cdv A outer s H vs Q E hr hq => ?_)
  obtain ⟨t, ht, hb⟩ := h cdv A outer s H E hr
  refine ⟨t, ht, run_ofX (ρ := τ) (S := S) (enc := enc) hq fun ds r hs nb => ?_⟩
  obtain ⟨a, b, c, d, rfl, er⟩ := hs
  exact ⟨g a b c d, by have q := hb a b c d; rw [← hG] at q; exact q, er⟩
end

section
variable {α β γ δ ε τ : Type} [Enc α] [Enc β] [Enc γ] [Enc δ] [Enc ε] [Enc τ]
theorem em_callX5 {cf : Cf} {E : XK} {G : List Sl} {t0 t1 t2 t3 t4 : TE} {m0 : R α} {m1 : R β} {m2 : R γ} {m3 : R δ} {m4 : R ε} {g : α → β → γ → δ → ε → R τ} (h0 : EM cf E t0 G m0) (h1 : EM cf E t1 G m1) (h2 : EM cf E t2 G m2) (h3 : EM cf E t3 G m3) (h4 : EM cf E t4 G m4) : EM cf E (tCall (SpX cf 5 (sp5 g)) [] E (tCons t0 (tCons t1 (tCons t2 (tCons t3 (tCons t4 tNil)))))) G (m0.bind fun a => m1.bind fun b => m2.bind fun c => m3.bind fun d => m4.bind fun e => g a b c d e) := fun F O H σ Q hf he nb ko ke => by
  have le0 : Le F F := Le.refl F
  refine h0 F O H σ _ hf (he.mono le0) (R.bind_nb nb) (fun a v0 F1 H1 e0 l0 hf1 r0 => ?_) (fun c' p d' F' H' e' le hf' hd => ke c' p d' F' H' (by rw [e']; rfl) (le0.trans le) hf' hd)
  rw [e0, R.ok_bind] at nb ko ke
  have le1 := le0.trans l0
  refine h1 F1 O H1 σ _ hf1 (he.mono le1) (R.bind_nb nb) (fun b v1 F2 H2 e1 l1 hf2 r1 => ?_) (fun c' p d' F' H' e' le hf' hd => ke c' p d' F' H' (by rw [e']; rfl) (le1.trans le) hf' hd)
  rw [e1, R.ok_bind] at nb ko ke
  have le2 := le1.trans l1
  refine h2 F2 O H2 σ _ hf2 (he.mono le2) (R.bind_nb nb) (fun c v2 F3 H3 e2 l2 hf3 r2 => ?_) (fun c' p d' F' H' e' le hf' hd => ke c' p d' F' H' (by rw [e']; rfl) (le2.trans le) hf' hd)
  rw [e2, R.ok_bind] at nb ko ke
  have le3 := le2.trans l2
  refine h3 F3 O H3 σ _ hf3 (he.mono le3) (R.bind_nb nb) (fun d v3 F4 H4 e3 l3 hf4 r3 => ?_) (fun c' p d' F' H' e' le hf' hd => ke c' p d' F' H' (by rw [e']; rfl) (le3.trans le) hf' hd)
  rw [e3, R.ok_bind] at nb ko ke
  have le4 := le3.trans l3
  refine h4 F4 O H4 σ _ hf4 (he.mono le4) (R.bind_nb nb) (fun e v4 F5 H5 e4 l4 hf5 r4 => ?_) (fun c' p d' F' H' e' le hf' hd => ke c' p d' F' H' (by rw [e']; rfl) (le4.trans le) hf' hd)
  rw [e4, R.ok_bind] at nb ko ke
  have le5 := le4.trans l4
  exact ⟨rfl, F5, O, _, (g a b c d e).map toD, hf5, (.cons (Dr.mono l4 (Dr.mono l3 (Dr.mono l2 (Dr.mono l1 r0)))) (.cons (Dr.mono l4 (Dr.mono l3 (Dr.mono l2 r1))) (.cons (Dr.mono l4 (Dr.mono l3 r2)) (.cons (Dr.mono l4 r3) (.cons r4 .nil))))), ⟨a, b, c, d, e, rfl, rfl⟩, map_nb nb, fun d' v F' H' e' le hf' hr => by
    obtain ⟨y, ey, ed⟩ := map_okd e'
    subst ed
    exact ko y v F' H' ey (le5.trans le) hf' hr, fun c' p d' F' H' e' le hf' hd => ke c' p d' F' H' (map_erd e') (le5.trans le) hf' hd⟩
theorem em_callP5 {cf : Cf} {E : XK} {G : List Sl} {t0 t1 t2 t3 t4 : TE} {m0 : R α} {m1 : R β} {m2 : R γ} {m3 : R δ} {m4 : R ε} {g : α → β → γ → δ → ε → R τ} (h0 : EM cf E t0 G m0) (h1 : EM cf E t1 G m1) (h2 : EM cf E t2 G m2) (h3 : EM cf E t3 G m3) (h4 : EM cf E t4 G m4) : EM cf E (tCall (SpX cf 5 (sp5 g)) [] E0 (tCons t0 (tCons t1 (tCons t2 (tCons t3 (tCons t4 tNil)))))) G (m0.bind fun a => m1.bind fun b => m2.bind fun c => m3.bind fun d => m4.bind fun e => (g a b c d e).pu) := fun F O H σ Q hf he nb ko ke => by
  have le0 : Le F F := Le.refl F
  refine h0 F O H σ _ hf (he.mono le0) (R.bind_nb nb) (fun a v0 F1 H1 e0 l0 hf1 r0 => ?_) (fun c' p d' F' H' e' le hf' hd => ke c' p d' F' H' (by rw [e']; rfl) (le0.trans le) hf' hd)
  rw [e0, R.ok_bind] at nb ko ke
  have le1 := le0.trans l0
  refine h1 F1 O H1 σ _ hf1 (he.mono le1) (R.bind_nb nb) (fun b v1 F2 H2 e1 l1 hf2 r1 => ?_) (fun c' p d' F' H' e' le hf' hd => ke c' p d' F' H' (by rw [e']; rfl) (le1.trans le) hf' hd)
  rw [e1, R.ok_bind] at nb ko ke
  have le2 := le1.trans l1
  refine h2 F2 O H2 σ _ hf2 (he.mono le2) (R.bind_nb nb) (fun c v2 F3 H3 e2 l2 hf3 r2 => ?_) (fun c' p d' F' H' e' le hf' hd => ke c' p d' F' H' (by rw [e']; rfl) (le2.trans le) hf' hd)
  rw [e2, R.ok_bind] at nb ko ke
  have le3 := le2.trans l2
  refine h3 F3 O H3 σ _ hf3 (he.mono le3) (R.bind_nb nb) (fun d v3 F4 H4 e3 l3 hf4 r3 => ?_) (fun c' p d' F' H' e' le hf' hd => ke c' p d' F' H' (by rw [e']; rfl) (le3.trans le) hf' hd)
  rw [e3, R.ok_bind] at nb ko ke
  have le4 := le3.trans l3
  refine h4 F4 O H4 σ _ hf4 (he.mono le4) (R.bind_nb nb) (fun e v4 F5 H5 e4 l4 hf5 r4 => ?_) (fun c' p d' F' H' e' le hf' hd => ke c' p d' F' H' (by rw [e']; rfl) (le4.trans le) hf' hd)
  rw [e4, R.ok_bind] at nb ko ke
  have le5 := le4.trans l4
  obtain ⟨y, ey⟩ := pu_nb nb
  exact ⟨rfl, F5, O, _, .ok (toD y), hf5, (.cons (Dr.mono l4 (Dr.mono l3 (Dr.mono l2 (Dr.mono l1 r0)))) (.cons (Dr.mono l4 (Dr.mono l3 (Dr.mono l2 r1))) (.cons (Dr.mono l4 (Dr.mono l3 r2)) (.cons (Dr.mono l4 r3) (.cons r4 .nil))))), ⟨a, b, c, d, e, rfl, by rw [ey]; rfl⟩, fun z => (nomatch z), fun d' v F' H' e' le hf' hr => by
    cases e'
    exact ko y v F' H' (by rw [ey]; rfl) (le5.trans le) hf' hr, fun _ _ _ _ _ z => (nomatch z)⟩
theorem fnX5 {P : Program} {w : World} {cf : Cf} {mg : Str → Option Value} {base : Heap} {x qual : Str} {st : Stmt} {f0 : Addr} {fd : FuncData} {N ps : List Str} {k : Nat} {S : Type} {enc : S → List Sl} (F : Fun cf.K x qual st f0 fd) (sc : FnScope N ps (defScope st)) (hp : ps.length = 5) (g : α → β → γ → δ → ε → R (Fl S τ))
    (G0 : α → β → γ → δ → ε → List Sl) (hG : ∀ a b c d e, [.va (toD a), .va (toD b), .va (toD c), .va (toD d), .va (toD e)] ++ List.replicate (N.length - 5) .un = G0 a b c d e)
    (h : ∀ (cdv : Value) (A : Around) (outer : List Env) (s : Shared) (H : Hp) (E : XK), Room k (A.deeper (envOfC qual (defScope st) s.heap.objs.size f0 cdv)) →
      ∃ t, PSs (cxOf (L2.CX P w) P w cf.K mg base N qual (defScope st) f0 cdv A outer s H E) (defBody st) t ∧ ∀ a b c d e, SB cf E t (G0 a b c d e) enc (g a b c d e)) :
    FnOk P w cf.K mg base (L2.CX P w) (k + 1) f0 fd ps (SpX cf 5 (sp5 fun a b c d e => finR (g a b c d e))) := by
  refine F.okX sc (SpX.len hp) (fun cdv A outer s H vs Q E hr hq => ?_)
  obtain ⟨t, ht, hb⟩ := h cdv A outer s H E hr
  refine ⟨t, ht, run_ofX (ρ := τ) (S := S) (enc := enc) hq fun ds r hs nb => ?_⟩
  obtain ⟨a, b, c, d, e, rfl, er⟩ := hs
  exact ⟨g a b c d e, by have q := hb a b c d e; rw [← hG] at q; exact q, er⟩
end

section
variable {α β γ δ ε ζ τ : Type} [Enc α] [Enc β] [Enc γ] [Enc δ] [Enc ε] [Enc ζ] [Enc τ]
theorem em_callX6 {cf : Cf} {E : XK} {G : List Sl} {t0 t1 t2 t3 t4 t5 : TE} {m0 : R α} {m1 : R β} {m2 : R γ} {m3 : R δ} {m4 : R ε} {m5 : R ζ} {g : α → β → γ → δ → ε → ζ → R τ} (h0 : EM cf E t0 G m0) (h1 : EM cf E t1 G m1) (h2 : EM cf E t2 G m2) (h3 : EM cf E t3 G m3) (h4 : EM cf E t4 G m4) (h5 : EM cf E t5 G m5) : EM cf E (tCall (SpX cf 6 (sp6 g)) [] E (tCons t0 (tCons t1 (tCons t2 (tCons t3 (tCons t4 (tCons t5 tNil))))))) G (m0.bind fun a => m1.bind fun b => m2.bind fun c => m3.bind fun d => m4.bind fun e => m5.bind fun f => g a b c d e f) := fun F O H σ Q hf he nb ko ke => by
  have le0 : Le F F := Le.refl F
  refine h0 F O H σ _ hf (he.mono le0) (R.bind_nb nb) (fun a v0 F1 H1 e0 l0 hf1 r0 => ?_) (fun c' p d' F' H' e' le hf' hd => ke c' p d' F' H' (by rw [e']; rfl) (le0.trans le) hf' hd)
  rw [e0, R.ok_bind] at nb ko ke
  have le1 := le0.trans l0
  refine h1 F1 O H1 σ _ hf1 (he.mono le1) (R.bind_nb nb) (fun b v1 F2 H2 e1 l1 hf2 r1 => ?_) (fun c' p d' F' H' e' le hf' hd => ke c' p d' F' H' (by rw [e']; rfl) (le1.trans le) hf' hd)
  rw [e1, R.ok_bind] at nb ko ke
  have le2 := le1.trans l1
  refine h2 F2 O H2 σ _ hf2 (he.mono le2) (R.bind_nb nb) (fun c v2 F3 H3 e2 l2 hf3 r2 => ?_) (fun c' p d' F' H' e' le hf' hd => ke c' p d' F' H' (by rw [e']; rfl) (le2.trans le) hf' hd)
  rw [e2, R.ok_bind] at nb ko ke
  have le3 := le2.trans l2
  refine h3 F3 O H3 σ _ hf3 (he.mono le3) (R.bind_nb nb) (fun d v3 F4 H4 e3 l3 hf4 r3 => ?_) (fun c' p d' F' H' e' le hf' hd => ke c' p d' F' H' (by rw [e']; rfl) (le3.trans le) hf' hd)
  rw [e3, R.ok_bind] at nb ko ke
  have le4 := le3.trans l3
  refine h4 F4 O H4 σ _ hf4 (he.mono le4) (R.bind_nb nb) (fun e v4 F5 H5 e4 l4 hf5 r4 => ?_) (fun c' p d' F' H' e' le hf' hd => ke c' p d' F' H' (by rw [e']; rfl) (le4.trans le) hf' hd)
  rw [e4, R.ok_bind] at nb ko ke
  have le5 := le4.trans l4
  refine h5 F5 O H5 σ _ hf5 (he.mono le5) (R.bind_nb nb) (fun f v5 F6 H6 e5 l5 hf6 r5 => ?_) (fun c' p d' F' H' e' le hf' hd => ke c' p d' F' H' (by rw [e']; rfl) (le5.trans le) hf' hd)
  rw [e5, R.ok_bind] at nb ko ke
  have le6 := le5.trans l5
  exact ⟨rfl, F6, O, _, (g a b c d e f).map toD, hf6, (.cons (Dr.mono l5 (Dr.mono l4 (Dr.mono l3 (Dr.mono l2 (Dr.mono l1 r0))))) (.cons (Dr.mono l5 (Dr.mono l4 (Dr.mono l3 (Dr.mono l2 r1)))) (.cons (Dr.mono l5 (Dr.mono l4 (Dr.mono l3 r2))) (.cons (Dr.mono l5 (Dr.mono l4 r3)) (.cons (Dr.mono l5 r4) (.cons r5 .nil)))))), ⟨a, b, c, d, e, f, rfl, rfl⟩, map_nb nb, fun d' v F' H' e' le hf' hr => by
    obtain ⟨y, ey, ed⟩ := map_okd e'
    subst ed
    exact ko y v F' H' ey (le6.trans le) hf' hr, fun c' p d' F' H' e' le hf' hd => ke c' p d' F' H' (map_erd e') (le6.trans le) hf' hd⟩
theorem em_callP6 {cf : Cf} {E : XK} {G : List Sl} {t0 t1 t2 t3 t4 t5 : TE} {m0 : R α} {m1 : R β} {m2 : R γ} {m3 : R δ} {m4 : R ε} {m5 : R ζ} {g : α → β → γ → δ → ε → ζ → R τ} (h0 : EM cf E t0 G m0) (h1 : EM cf E t1 G m1) (h2 : EM cf E t2 G m2) (h3 : EM cf E t3 G m3) (h4 : EM cf E t4 G m4) (h5 : EM cf E t5 G m5) : EM cf E (tCall (SpX cf 6 (sp6 g)) [] E0 (tCons t0 (tCons t1 (tCons t2 (tCons t3 (tCons t4 (tCons t5 tNil))))))) G (m0.bind fun a => m1.bind fun b => m2.bind fun c => m3.bind fun d => m4.bind fun e => m5.bind fun f => (g a b c d e f).pu) := fun F O H σ Q hf he nb ko ke => by
  have le0 : Le F F := Le.refl F
  refine h0 F O H σ _ hf (he.mono le0) (R.bind_nb nb) (fun a v0 F1 H1 e0 l0 hf1 r0 => ?_) (fun c' p d' F' H' e' le hf' hd => ke c' p d' F' H' (by rw [e']; rfl) (le0.trans le) hf' hd)
  rw [e0, R.ok_bind] at nb ko ke
  have le1 := le0.trans l0
  refine h1 F1 O H1 σ _ hf1 (he.mono le1) (R.bind_nb nb) (fun b v1 F2 H2 e1 l1 hf2 r1 => ?_) (fun c' p d' F' H' e' le hf' hd => ke c' p d' F' H' (by rw [e']; rfl) (le1.trans le) hf' hd)
  rw [e1, R.ok_bind] at nb ko ke
  have le2 := le1.trans l1
  refine h2 F2 O H2 σ _ hf2 (he.mono le2) (R.bind_nb nb) (fun c v2 F3 H3 e2 l2 hf3 r2 => ?_) (fun c' p d' F' H' e' le hf' hd => ke c' p d' F' H' (by rw [e']; rfl) (le2.trans le) hf' hd)
  rw [e2, R.ok_bind] at nb ko ke
  have le3 := le2.trans l2
  refine h3 F3 O H3 σ _ hf3 (he.mono le3) (R.bind_nb nb) (fun d v3 F4 H4 e3 l3 hf4 r3 => ?_) (fun c' p d' F' H' e' le hf' hd => ke c' p d' F' H' (by rw [e']; rfl) (le3.trans le) hf' hd)
  rw [e3, R.ok_bind] at nb ko ke
  have le4 := le3.trans l3
  refine h4 F4 O H4 σ _ hf4 (he.mono le4) (R.bind_nb nb) (fun e v4 F5 H5 e4 l4 hf5 r4 => ?_) (fun c' p d' F' H' e' le hf' hd => ke c' p d' F' H' (by rw [e']; rfl) (le4.trans le) hf' hd)
  rw [e4, R.ok_bind] at nb ko ke
  have le5 := le4.trans l4
  refine h5 F5 O H5 σ _ hf5 (he.mono le5) (R.bind_nb nb) (fun f v5 F6 H6 e5 l5 hf6 r5 => ?_) (fun c' p d' F' H' e' le hf' hd => ke c' p d' F' H' (by rw [e']; rfl) (le5.trans le) hf' hd)
  rw [e5, R.ok_bind] at nb ko ke
  have le6 := le5.trans l5
  obtain ⟨y, ey⟩ := pu_nb nb
  exact ⟨rfl, F6, O, _, .ok (toD y), hf6, (.cons (Dr.mono l5 (Dr.mono l4 (Dr.mono l3 (Dr.mono l2 (Dr.mono l1 r0))))) (.cons (Dr.mono l5 (Dr.mono l4 (Dr.mono l3 (Dr.mono l2 r1)))) (.cons (Dr.mono l5 (Dr.mono l4 (Dr.mono l3 r2))) (.cons (Dr.mono l5 (Dr.mono l4 r3)) (.cons (Dr.mono l5 r4) (.cons r5 .nil)))))), ⟨a, b, c, d, e, f, rfl, by rw [ey]; rfl⟩, fun z => (nomatch z), fun d' v F' H' e' le hf' hr => by
    cases e'
    exact ko y v F' H' (by rw [ey]; rfl) (le6.trans le) hf' hr, fun _ _ _ _ _ z => (nomatch z)⟩
theorem fnX6 {P : Program} {w : World} {cf : Cf} {mg : Str → Option Value} {base : Heap} {x qual : Str} {st : Stmt} {f0 : Addr} {fd : FuncData} {N ps : List Str} {k : Nat} {S : Type} {enc : S → List Sl} (F : Fun cf.K x qual st f0 fd) (sc : FnScope N ps (defScope st)) (hp : ps.length = 6) (g : α → β → γ → δ → ε → ζ → R (Fl S τ))
    (G0 : α → β → γ → δ → ε → ζ → List Sl) (hG : ∀ a b c d e f, [.va (toD a), .va (toD b), .va (toD c), .va (toD d), .va (toD e), .va (toD f)] ++ List.replicate (N.length - 6) .un = G0 a b c d e f)
    (h : ∀ (cdv : Value) (A : Around) (outer : List Env) (s : Shared) (H : Hp) (E : XK), Room k (A.deeper (envOfC qual (defScope st) s.heap.objs.size f0 cdv)) →
      ∃ t, PSs (cxOf (L2.CX P w) P w cf.K mg base N qual (defScope st) f0 cdv A outer s H E) (defBody st) t ∧ ∀ a b c d e f, SB cf E t (G0 a b c d e f) enc (g a b c d e f)) :
    FnOk P w cf.K mg base (L2.CX P w) (k + 1) f0 fd ps (SpX cf 6 (sp6 fun a b c d e f => finR (g a b c d e f))) := by
  refine F.okX sc (SpX.len hp) (fun cdv A outer s H vs Q E hr hq => ?_)
  obtain ⟨t, ht, hb⟩ := h cdv A outer s H E hr
  refine ⟨t, ht, run_ofX (ρ := τ) (S := S) (enc := enc) hq fun ds r hs nb => ?_⟩
  obtain ⟨a, b, c, d, e, f, rfl, er⟩ := hs
  exact ⟨g a b c d e f, by have q := hb a b c d e f; rw [← hG] at q; exact q, er⟩
end
/-! ### what the text says of an error class -/
structure XErr (P : Program) (w : World) (cf : Cf) (mg : Str → Option Value) (base : Heap) (c : Nat) (x : Str) where
  fI : Addr
  fd : FuncData
  T : OexC cf.K (cf.cls c)
  iC : PySem.W.findIn cf.K (.ref (cf.cls c)) "__init__" = some (some (.ref fI))
  tI : PySem.W.typeIn cf.K (.ref fI) = some (.type "function")
  F1 : FnOk P w cf.K mg base CX0 2 fI fd ["self", "place"] (SpE (cf.cls c) (cf.nm c))
  hb : Binds cf.K fd ["self", "place"] []
  hm : mg x = some (.ref (cf.cls c))
end Kr

/-! KrZ: try with several clauses, each with or without a name. -/
namespace Kr
open PySem PySem.Spec PyProof.Rows L2
/-- the ends behind a named clause: the name is gone -/
def gone (D : Ends) (i : Nat) : Ends := { nx := fun σ' H' => D.nx (σ'.set i none) H', rt := D.rt, bk := fun σ' H' => D.bk (σ'.set i none) H', ct := fun σ' H' => D.ct (σ'.set i none) H' }
abbrev Clz : Type := Value × Option Nat × (Addr → Value → Option Addr → TS)
def wA (K : PySem.W.Frag) (Wout : WX) (D : Ends) : List Clz → WX
  | [] => Wout
  | (c, o, ts) :: r => fun cls d σ H => ∃ b, PySem.W.exmOne K cls c = some b ∧ (b = true → ∀ a, H a = none → match o with
      | none => ts a cls d D σ H
      | some i => ts a cls d (gone D i) (σ.set i (some (.ref a))) H) ∧ (b = false → wA K Wout D r cls d σ H)
inductive HdsA (X : Cx) : List ExceptHandler → List Clz → Prop
  | nil : HdsA X [] []
  | plain {x : Str} {c : Value} {ts : Addr → Value → Option Addr → TS} {b₀ : Stmt} {more : List Stmt} {np pos' : Pos} {hds : List ExceptHandler} {l : List Clz} (hc : Names X x c)
      (hsu : ∀ (a : Addr) (oe : Obj) (cls : Value) (d : Option Addr) (pn : List (Addr × Obj)), Zc cls d oe → (∃ vs, oe.data = .fields vs) → PSs (X.suite a ((a, oe) :: pn)) (b₀ :: more) (ts a cls d)) (r : HdsA X hds l) :
      HdsA X (.ExceptHandler (some (.Name x np)) none (b₀ :: more) pos' :: hds) ((c, none, ts) :: l)
  | named {x n : Str} {i : Nat} {c : Value} {ts : Addr → Value → Option Addr → TS} {b₀ : Stmt} {more : List Stmt} {np pos' : Pos} {hds : List ExceptHandler} {l : List Clz} (hc : Names X x c) (hi : X.N[i]? = some n) (hln : X.env.kindOf n = some .local)
      (hsu : ∀ (a : Addr) (oe : Obj) (cls : Value) (d : Option Addr) (pn : List (Addr × Obj)), Zc cls d oe → (∃ vs, oe.data = .fields vs) → PSs (X.suite a ((a, oe) :: pn)) (b₀ :: more) (ts a cls d)) (r : HdsA X hds l) :
      HdsA X (.ExceptHandler (some (.Name x np)) (some n) (b₀ :: more) pos' :: hds) ((c, some i, ts) :: l)
section
variable {X : Cx} {body : List Stmt} {h₀ : ExceptHandler} {hds : List ExceptHandler} {l : List Clz} {pos : Pos} {tb : WX → TS} {Wout : WX}
theorem ps_try_all (hs : X.stack = X.env :: X.outer) (hf : X.env.frame = some X.env.locals) (hN : X.N.Nodup) (tk : Takes X Wout)
    (hb : ∀ (W : WX) (pn : List (Addr × Obj)) (xe : Value → Shared → Prop), Takes (X.tr pn xe) W → PassesOwn (model X.prog X.w) X.A X.env xe → PSs (X.tr pn xe) body (tb W))
    (hh : HdsA X (h₀ :: hds) l) : PS X (.Try body (h₀ :: hds) [] [] pos) (fun D σ H => tb (wA X.K Wout D l) D σ H) := by
  refine ⟨fun pins s σ H D I h => ?_⟩
  have ok := I.ok
  have hfr : X.A.frames = some (X.env :: X.outer) := by rw [ok.frames, hs]
  refine wpAny_Try_except ?_
  let xe0 : Value → Shared → Prop := fun e s₁ => wpAny (model X.prog X.w) X.A (noteFrame e X.env) (fun _ s₂ => wpAny (model X.prog X.w) X.A (setFlight e none) (fun _ s₃ => wpAny (model X.prog X.w) X.A (handleBy e X.env (h₀ :: hds)) (L2.SP X pins D) X.xe s₃) X.xe s₂) X.xe s₁
  refine wpAny_mono ((hb (wA X.K Wout D l) (X.pn ++ pins) xe0 (fun u s' xx => ?_) PassesOwn.looking).run [] s σ H D (I.toTry _) h) (fun f s1 hsp => ?_) (fun e s1 he => he)
  · obtain ⟨a, B, sI, pins', σ', H', cls, d, rfl, J', nb, up, sky, na, os, ag, w⟩ := xx
    have J : L2.Inv X pins σ' H' sI := J'.ofTry ok
    have sk2 : Sky B (X.env :: X.outer) a (Zc cls d) X.env.locals s'.heap := by rw [← hs]; exact sky
    show wpAny (model X.prog X.w) X.A (noteFrame (.ref a) X.env) _ _ _
    refine Sky.land Zc.steady hfr hf sk2 fun h3 fl3 up3 => ?_
    have J3 : L2.Inv X pins σ' H' { s' with heap := h3 } := J.landed nb fl3.1 (up.trans up3) os ag
    obtain ⟨oe3, vs3, he3, hz3, hd3⟩ := fl3.there
    have nfr : a ∉ frs (X.env :: X.outer) := fun hm => by
      obtain ⟨_, o', e', hnf⟩ := (fl3.2.2.1).mem hm
      rw [he3] at e'
      cases e'
      exact hnf _ hd3
    have nL : a ≠ X.env.locals := fun z => nfr (List.mem_filterMap.mpr ⟨X.env, List.mem_cons_self, by rw [hf, z]⟩)
    have nF : a ∉ X.fs := fun hm => by
      obtain ⟨e, he, q⟩ := List.mem_filterMap.mp hm
      exact nfr (List.mem_filterMap.mpr ⟨e, List.mem_cons_of_mem _ he, q⟩)
    have S3 := J3.suite he3 hd3 na nL nF
    have LT : PySem.W.Looks (model X.prog X.w) h3 (typeOf (.ref a)) cls := fun A Q E s k q => wpAny_typeOf_ref (k _ _ he3) (by rw [hz3.1]; exact q)
    have test : ∀ {x : Str} {c : Value} {np : Pos} {Q : Value → Shared → Prop} {E : Value → Shared → Prop}, Names X x c → Q c { s' with heap := h3 } → wpAny (model X.prog X.w) (X.A.mark (some (.ref a))) (eval (.Name x np) X.env) Q E { s' with heap := h3 } := fun hc q => by
      obtain ⟨hg, hdbg, hm | ⟨hm, hv, hnn⟩⟩ := hc
      · exact ld_glob (X := X.suite a ((a, oe3) :: (X.pn ++ pins))) S3 hg hm q hdbg
      · exact ld_blt (X := X.suite a ((a, oe3) :: (X.pn ++ pins))) S3 hg hm hv q hnn hdbg
    have go : ∀ {hds' : List ExceptHandler} {l' : List Clz}, HdsA X hds' l' → wA X.K Wout D l' cls d σ' H' →
        wpAny (model X.prog X.w) X.A (handleBy (.ref a) X.env hds') (L2.SP X pins D) X.xe { s' with heap := h3 } := by
      intro hds' l' hk
      induction hk with
      | nil =>
        intro w
        refine wpAny_handleBy_nil ?_
        obtain ⟨k1, k2, k3, oe, vs, T, oT, ts', he, hz, hd, h1, hr⟩ := id fl3
        unfold PySem.passOn
        refine wpAny_bind (wpAny_field he hd h1 ?_)
        rw [if_neg (show ¬ ((Value.ref T == Value.none) = true) from by simp)]
        have fin : wpAny (model X.prog X.w) X.A (setFlight (.ref a) X.env.frame) (fun _ s4 => wpAny (model X.prog X.w) X.A (throw (.ref a) : Sem Flow) (L2.SP X pins D) X.xe s4) X.xe { s' with heap := h3 } := by
          rw [hf]
          refine HandSPX.setFlight_upZ fl3 fun h4 hh4 up4 => wpAny_throw (tk _ _ ?_)
          exact ⟨a, B, sI, pins, σ', H', cls, d, rfl, J, nb, (up.trans up3).trans up4, .inr (.inr (by rw [hs]; exact hh4)), na, os, ag, w⟩
        first
          | exact wpAny_bind (wpAny_pure (wpAny_bind fin))
          | exact wpAny_bind fin
      | @plain x c ts b₀ more np pos' hds2 l2 hc hsu r ih =>
        intro w
        obtain ⟨b, hb1, hyes, hno⟩ := w
        refine wpAny_handleBy_cons (codeAny_handlers_test ?_) (by intro q; cases q)
        refine test hc ((PySem.W.exm_one (M := model X.prog X.w) J3.kIn LT hb1).here ?_)
        cases b with
        | true =>
          refine codeAny_handlers_suite ?_
          refine HandSPX.lands_againZ fl3 fun h4 fl4 up4 => ?_
          have J4 : L2.Inv X pins σ' H' { s' with heap := h4 } := J.landed nb fl4.1 ((up.trans up3).trans up4) os ag
          obtain ⟨oe4, vs4, he4, hz4, hd4⟩ := fl4.there
          refine wpAny_mono ((hsu a oe4 cls d (X.pn ++ pins) hz4 ⟨_, hd4⟩).run [] _ _ H' _ (J4.suite he4 hd4 na nL nF) (hyes rfl a na)) (fun f s6 hsp => ?_) (fun _ _ z => False.elim z)
          cases f with
          | ret u =>
            obtain ⟨v6, σ6, H6, S6, r6, q6⟩ := hsp
            exact ⟨_, _, _, S6.unsuite ok, r6, q6⟩
          | next => exact let ⟨_, _, S6, q6⟩ := hsp; ⟨_, _, S6.unsuite ok, q6⟩
          | brk => exact let ⟨_, _, S6, q6⟩ := hsp; ⟨_, _, S6.unsuite ok, q6⟩
          | cont => exact let ⟨_, _, S6, q6⟩ := hsp; ⟨_, _, S6.unsuite ok, q6⟩
        | false => exact ih (hno rfl)
      | @named x n i c ts b₀ more np pos' hds2 l2 hc hi hln hsu r ih =>
        intro w
        obtain ⟨b, hb1, hyes, hno⟩ := w
        refine wpAny_handleBy_cons (codeAny_handlers_test ?_) (by intro q; cases q)
        refine test hc ((PySem.W.exm_one (M := model X.prog X.w) J3.kIn LT hb1).here ?_)
        cases b with
        | true =>
          refine codeAny_handlers_suite_as ?_
          refine HandSPX.lands_againZ fl3 fun h4 fl4 up4 => ?_
          have J4 : L2.Inv X pins σ' H' { s' with heap := h4 } := J.landed nb fl4.1 ((up.trans up3).trans up4) os ag
          obtain ⟨oe4, vs4, he4, hz4, hd4⟩ := fl4.there
          refine store_ok (X := X.suite a ((a, oe4) :: (X.pn ++ pins))) (v := .ref a) (J4.suite he4 hd4 na nL nF) hN hi (.inl hln) rfl (fun s5 S5 => ?_) (.inr hln)
          refine wpAny_mono ((hsu a oe4 cls d (X.pn ++ pins) hz4 ⟨_, hd4⟩).run [] s5 _ H' _ S5 (hyes rfl a na)) (fun f s6 hsp => ?_) (fun _ _ z => False.elim z)
          have off : ∀ {σ6 : L2.St} {H6 : Hp} {Q : Shared → Prop}, L2.Inv (X.suite a ((a, oe4) :: (X.pn ++ pins))) [] σ6 H6 s6 → (∀ s7, L2.Inv X pins (σ6.set i none) H6 s7 → Q s7) →
              wpAny (model X.prog X.w) X.A (do bindName X.env n .none; unbindBehindTheSuite X.env n pos') (fun _ s7 => Q s7) X.xe s6 := fun {σ6 H6 Q} S6 hq => gone_ok (S6.unsuite ok) hN hi hln hq
          cases f with
          | ret u =>
            obtain ⟨v6, σ6, H6, S6, r6, q6⟩ := hsp
            exact off S6 fun s7 J7 => ⟨_, _, _, J7, r6, q6⟩
          | next => exact let ⟨_, _, S6, q6⟩ := hsp; off S6 fun s7 J7 => ⟨_, _, J7, q6⟩
          | brk => exact let ⟨_, _, S6, q6⟩ := hsp; off S6 fun s7 J7 => ⟨_, _, J7, q6⟩
          | cont => exact let ⟨_, _, S6, q6⟩ := hsp; off S6 fun s7 J7 => ⟨_, _, J7, q6⟩
        | false => exact ih (hno rfl)
    exact go hh w
  · cases f with
    | ret u =>
      obtain ⟨v, σ', H', J', r, q⟩ := hsp
      exact ⟨v, σ', H', J'.ofTry ok, r, q⟩
    | next => exact let ⟨_, _, J', q⟩ := hsp; wpAny_execs_nil ⟨_, _, J'.ofTry ok, q⟩
    | brk => exact let ⟨_, _, J', q⟩ := hsp; ⟨_, _, J'.ofTry ok, q⟩
    | cont => exact let ⟨_, _, J', q⟩ := hsp; ⟨_, _, J'.ofTry ok, q⟩
end
end Kr

/-! KrT: try by data. -/
namespace Kr
open PySem PySem.Spec PyProof.Rows L2
open Enc (toD)
/-- the outcome of a body, its errors taken by the suites -/
def tryR {S ρ : Type} (m : R (Fl S ρ)) (hs : Nat → Int → R (Fl S ρ)) : R (Fl S ρ) := match m with
  | .ok x => .ok x
  | .er c p => hs c p
  | .bad => .bad
section
variable {cf : Cf} {E : XK} {G : List Sl} {S ρ : Type} [Rs ρ] {enc : S → List Sl} {l : List Clz} {tb : WX → TS} {t : XK → TS} {m : R (Fl S ρ)} {hs : Nat → Int → R (Fl S ρ)}
/-- body: whatever is wished of its errors; the clauses: what they do with an error of the class c at the place p -/
theorem sb_try (hG : ∀ s ∈ G, (∃ t, s = .bo t) ∨ (s.own = false ∧ s.vol = false)) (hb : ∀ E', SB cf E' (t E') G enc m) (heq : ∀ W D σ H, tb W D σ H = t (fun cls d H' => W cls d σ H') D σ H)
    (hh : ∀ (c : Nat) (p : Int) (F O H : Hp) (σ : L2.St) (D : Ends) (d : Addr), Mt cf.K F O H σ G → F d = some (xdO cf c p) → hs c p ≠ .bad →
      (∀ s F' H' σ', hs c p = .ok (.nx s) → Le F F' → Mt cf.K F' O H' σ' (enc s) → D.nx σ' H') →
      (∀ s F' H' σ', hs c p = .ok (.bk s) → Le F F' → Mt cf.K F' O H' σ' (enc s) → D.bk σ' H') →
      (∀ r v F' H', hs c p = .ok (.rt r) → Le F F' → Fm F' O H' → Rs.res cf F' O H' v r → D.rt v H') →
      (∀ c' p' d' F' H', hs c p = .er c' p' → Le F F' → Fm F' O H' → F' d' = some (xdO cf c' p') → E (.ref (cf.cls c')) (some d') H') →
      wA cf.K (fun cls d σ H => E cls d H) D l (.ref (cf.cls c)) (some d) σ H) :
    SB cf E (fun D σ H => tb (wA cf.K (fun cls d σ H => E cls d H) D l) D σ H) G enc (tryR m hs) := fun F O H σ D hM nb kn kb kr ke => by
  have nb1 : m ≠ .bad := fun z => nb (by rw [z]; rfl)
  show tb _ D σ H
  rw [heq]
  refine hb _ F O H σ D hM nb1 (fun s F' H' σ' e => kn s F' H' σ' (by rw [e]; rfl)) (fun s F' H' σ' e => kb s F' H' σ' (by rw [e]; rfl)) (fun r v F' H' e => kr r v F' H' (by rw [e]; rfl)) fun c p d F' H' e le hf' hd => ?_
  have et : tryR m hs = hs c p := by rw [e]; rfl
  rw [et] at nb kn kb kr ke
  obtain ⟨O', lo, hf, he, fp, w⟩ := hM
  have hM' : Mt cf.K F' O H' σ G := by
    have he2 : Er cf.K F' O σ G := ⟨he.len, fun i s q => by
      have h1 := (he.at' i s q).mono le
      rcases hG s (List.mem_of_getElem? q) with ⟨t, rfl⟩ | ⟨h2, h3⟩
      · exact (w.bo i t q).mono le
      · cases s with
        | un => trivial
        | va d => exact h1
        | pv v => exact h1
        | ol ds => cases h2
        | od ds => cases h2
        | ow t => cases h2
        | bo t => cases h2
        | vo t => cases h3⟩
    refine ⟨O, Le.refl O, hf', he2, ows_none he2 fun s hs => ?_⟩
    rcases hG s hs with ⟨t, rfl⟩ | ⟨h2, h3⟩
    · exact ⟨fun _ z => (nomatch z), fun _ z => (nomatch z), fun _ z => (nomatch z)⟩
    · refine ⟨fun _ z => ?_, fun _ z => ?_, fun _ z => ?_⟩ <;> · rw [z] at h2; cases h2
  exact hh c p F' O H' σ D d hM' hd nb (fun s F'' H'' σ' e le' => kn s F'' H'' σ' e (le.trans le')) (fun s F'' H'' σ' e le' => kb s F'' H'' σ' e (le.trans le')) (fun r v F'' H'' e le' => kr r v F'' H'' e (le.trans le')) fun c' p' d' F'' H'' e le' => ke c' p' d' F'' H'' e (le.trans le')
end
/-- except X as n: return (n.name, n.place) -/
def tNP (i : Nat) (C : Addr) : Addr → Value → Option Addr → TS := fun a cls d => tRet (tTup (tCons (tXf a cls d C "name" (tVar i)) (tCons (tXf a cls d C "place" (tVar i)) tNil)))
theorem np_ret {cf : Cf} {G : List Sl} {F O H : Hp} {σ : L2.St} {D : Ends} {c i : Nat} {p : Int} {a d : Addr} (hM : Mt cf.K F O H σ G) (hd : F d = some (xdO cf c p)) (hi : i < G.length)
    (kr : ∀ v F' H', Le F F' → Fm F' O H' → Dr cf.K F' v (.tup [.str (cf.nm c), .int p]) → D.rt v H') : tNP i (cf.cls c) a (.ref (cf.cls c)) (some d) (gone D i) (σ.set i (some (.ref a))) H := by
  have hl : σ.length = G.length := by
    obtain ⟨O', _, _, he, _⟩ := hM
    exact he.len
  have hs : (σ.set i (some (V.ref a)))[i]? = some (some (.ref a)) := List.getElem?_set_self (by omega)
  have hH : H d = some (xdO cf c p) := hM.fm.f _ _ hd
  refine ⟨_, hs, rfl, rfl, d, _, .str (cf.nm c), rfl, hH, rfl, _, hs, rfl, rfl, d, _, .int p, rfl, hH, rfl, (by show 2 ≤ sizeLine; decide), fun q hq => ?_⟩
  have hn := hM.fm.fnone hq
  exact kr _ (upd F q (.tup [.str (cf.nm c), .int p])) _ (Le.new hn) (hM.fm.newF hq) (.tup upd_same (.cons (.str _) (.cons (.int _) .nil)))
end Kr

/-! KrU: data of two kinds, isinstance, casts. -/
namespace Kr
open PySem PySem.Spec PyProof.Rows L2
open Enc (toD)
section
variable {cf : Cf} {E : XK} {G : List Sl} {α β γ : Type} {ta : TE}
/-- the same data by another type -/
theorem EM.conv [Enc α] [Enc β] (f : α → β) (hf : ∀ a, toD (f a) = toD a) {m : R α} (h : EM cf E ta G m) : EM cf E ta G (m.bind fun a => .ok (f a)) := fun F O H σ Q hF he nb ko ke =>
  h F O H σ Q hF he (R.bind_nb nb) (fun a v F' H' e le hf' hr => ko (f a) v F' H' (by rw [e]; rfl) le hf' (by show Dr _ _ _ _; rw [hf]; exact hr)) (fun c p d F' H' e => ke c p d F' H' (by rw [e]; rfl))
def getA (s : α ⊕ β) : R α := match s with
  | .inl a => .ok a
  | .inr _ => .bad
def getB (s : α ⊕ β) : R β := match s with
  | .inl _ => .bad
  | .inr b => .ok b
theorem EM.getA [Enc α] [Enc β] {m : R (α ⊕ β)} (h : EM cf E ta G m) : EM cf E ta G (m.bind getA) := fun F O H σ Q hf he nb ko ke =>
  h F O H σ Q hf he (R.bind_nb nb) (fun a v F' H' e le hf' hr => by
    rw [e, R.ok_bind] at nb ko
    cases a with
    | inl a => exact ko a v F' H' rfl le hf' hr
    | inr b => exact absurd rfl nb) (fun c p d F' H' e => ke c p d F' H' (by rw [e]; rfl))
theorem EM.getB [Enc α] [Enc β] {m : R (α ⊕ β)} (h : EM cf E ta G m) : EM cf E ta G (m.bind getB) := fun F O H σ Q hf he nb ko ke =>
  h F O H σ Q hf he (R.bind_nb nb) (fun a v F' H' e le hf' hr => by
    rw [e, R.ok_bind] at nb ko
    cases a with
    | inl a => exact absurd rfl nb
    | inr b => exact ko b v F' H' rfl le hf' hr) (fun c p d F' H' e => ke c p d F' H' (by rw [e]; rfl))
/-- data of a known type -/
class Tyd (α : Type) [Enc α] where
  nm : α → String
  ok : ∀ (K : PySem.W.Frag) (F H : Hp) (v : V) (a : α), Le F H → Dr K F v (toD a) → TyOf K H v (.type (nm a))
instance : Tyd Int := ⟨fun _ => "int", fun K F H v a le r => by rw [dr_int (i := a) r]; exact .int a⟩
instance : Tyd Bool := ⟨fun _ => "bool", fun K F H v a le r => by rw [dr_bl (i := a) r]; exact .bl a⟩
instance : Tyd Str := ⟨fun _ => "str", fun K F H v a le r => by rw [dr_str (i := a) r]; exact .str a⟩
instance [Enc α] : Tyd (List α) := ⟨fun _ => "list", fun K F H v a le r => by
  obtain ⟨p, vs, e, h1, _⟩ := dr_lst r
  rw [e]
  exact .lst (le _ _ h1)⟩
instance [Enc α] [Enc β] : Tyd (α × β) := ⟨fun _ => "tuple", fun K F H v a le r => by
  obtain ⟨p, vs, e, h1, _⟩ := dr_tup (ds := [toD a.1, toD a.2]) r
  rw [e]
  exact .tup (le _ _ h1)⟩
instance [Enc α] [Enc β] [Enc γ] : Tyd (T3 α β γ) := ⟨fun _ => "tuple", fun K F H v a le r => by
  obtain ⟨p, vs, e, h1, _⟩ := dr_tup (ds := [toD a.a, toD a.b, toD a.c]) r
  rw [e]
  exact .tup (le _ _ h1)⟩
instance [Enc α] [Enc β] [ha : Tyd α] [hb : Tyd β] : Tyd (α ⊕ β) := ⟨fun s => match s with
  | .inl a => ha.nm a
  | .inr b => hb.nm b, fun K F H v s le r => match s, r with
  | .inl a, r => ha.ok K F H v a le r
  | .inr b, r => hb.ok K F H v b le r⟩
def isA : α ⊕ β → Bool
  | .inl _ => true
  | .inr _ => false
theorem em_isi [Enc α] [t : Tyd α] (T : String) (f : α → Bool) (hk : ∀ a, kitB (t.nm a) T = some (f a)) {m : R α} (h : EM cf E ta G m) : EM cf E (tCB (rIsi cf.K) (tCons ta (tCons (tC (.ty T)) tNil))) G (m.bind fun a => .ok (f a)) :=
  EG.bind1 (u := fun r H Q => rIsi cf.K [r, .ty T] H Q) h fun F O H Q a r hf h1 _ ko => ⟨r, .ty T, .type (t.nm a), .type T, f a, rfl, .ty T, .base (t.ok cf.K F H r a hf.f h1), kit_ty (hk a), ko _ _ F H rfl (Le.refl F) hf (.bl _)⟩
theorem em_isiA [Enc α] [Enc β] [ha : Tyd α] [hb : Tyd β] (T : String) (h1 : ∀ a : α, kitB (ha.nm a) T = some true) (h2 : ∀ b : β, kitB (hb.nm b) T = some false) {m : R (α ⊕ β)} (h : EM cf E ta G m) : EM cf E (tCB (rIsi cf.K) (tCons ta (tCons (tC (.ty T)) tNil))) G (m.bind fun a => .ok (isA a)) :=
  em_isi T isA (fun s => match s with
    | .inl a => h1 a
    | .inr b => h2 b) h
theorem em_isiB [Enc α] [Enc β] [ha : Tyd α] [hb : Tyd β] (T : String) (h1 : ∀ a : α, kitB (ha.nm a) T = some false) (h2 : ∀ b : β, kitB (hb.nm b) T = some true) {m : R (α ⊕ β)} (h : EM cf E ta G m) : EM cf E (tCB (rIsi cf.K) (tCons ta (tCons (tC (.ty T)) tNil))) G (m.bind fun a => .ok (!isA a)) :=
  em_isi T (fun s => !isA s) (fun s => match s with
    | .inl a => h1 a
    | .inr b => h2 b) h
theorem kit_int_int : kitB "int" "int" = some true := by decide +kernel
theorem kit_int_str : kitB "int" "str" = some false := by decide +kernel
theorem kit_int_list : kitB "int" "list" = some false := by decide +kernel
theorem kit_int_tuple : kitB "int" "tuple" = some false := by decide +kernel
theorem kit_str_int : kitB "str" "int" = some false := by decide +kernel
theorem kit_str_str : kitB "str" "str" = some true := by decide +kernel
theorem kit_str_list : kitB "str" "list" = some false := by decide +kernel
theorem kit_str_tuple : kitB "str" "tuple" = some false := by decide +kernel
theorem kit_list_int : kitB "list" "int" = some false := by decide +kernel
theorem kit_list_str : kitB "list" "str" = some false := by decide +kernel
theorem kit_list_list : kitB "list" "list" = some true := by decide +kernel
theorem kit_list_tuple : kitB "list" "tuple" = some false := by decide +kernel
theorem kit_tuple_int : kitB "tuple" "int" = some false := by decide +kernel
theorem kit_tuple_str : kitB "tuple" "str" = some false := by decide +kernel
theorem kit_tuple_list : kitB "tuple" "list" = some false := by decide +kernel
theorem kit_tuple_tuple : kitB "tuple" "tuple" = some true := by decide +kernel
theorem isiK {X : Cx} (K : PySem.W.Frag) (h : X.K = K) : CallR X (.builtin "isinstance") (rIsi K) := h ▸ call_isi
end
def tTryA (tb : WX → TS) (K : PySem.W.Frag) (Wout : WX) (l : List Clz) : TS := fun D σ H => tb (wA K Wout D l) D σ H
theorem ps_tryA {X : Cx} {K : PySem.W.Frag} {body : List Stmt} {h₀ : ExceptHandler} {hds : List ExceptHandler} {l : List Clz} {pos : Pos} {tb : WX → TS} (Wout : WX) (hK : X.K = K) (hs : X.stack = X.env :: X.outer) (hf : X.env.frame = some X.env.locals) (hN : X.N.Nodup) (tk : Takes X Wout)
    (hb : ∀ (W : WX) (pn : List (Addr × Obj)) (xe : Value → Shared → Prop), Takes (X.tr pn xe) W → PassesOwn (model X.prog X.w) X.A X.env xe → PSs (X.tr pn xe) body (tb W))
    (hh : HdsA X (h₀ :: hds) l) : PS X (.Try body (h₀ :: hds) [] [] pos) (tTryA tb K Wout l) := hK ▸ ps_try_all hs hf hN tk hb hh
/-- the body's reading with the wish at the slots, and the one with a fixed wish, are the same -/
def SameT (tb : WX → TS) (t : XK → TS) : Prop := ∀ (W : WX) (D D' : Ends) (σ : L2.St) (H : Hp), D.rt = D'.rt → (∀ H', D.nx σ H' = D'.nx σ H') → tb W D σ H = t (fun cls d H' => W cls d σ H') D' σ H
def SameE (tb : WX → TE) (t : XK → TE) : Prop := ∀ (W : WX) (σ : L2.St) (H : Hp) (Q : VK), tb W σ H Q = t (fun cls d H' => W cls d σ H') σ H Q
theorem hq_if {tc : TT} {t1 t2 : WX → TS} {u1 u2 : XK → TS} (h1 : SameT t1 u1) (h2 : SameT t2 u2) : SameT (fun W => tIfS tc (t1 W) (t2 W)) (fun E => tIfS tc (u1 E) (u2 E)) := fun W D D' σ H e1 e2 => by
  show tc σ H _ = tc σ H _
  congr 1
  funext b H1
  rw [h1 W D D' σ H1 e1 e2, h2 W D D' σ H1 e1 e2]
theorem hq_seq {t1 t2 : WX → TS} {u1 u2 : XK → TS} (h1 : SameT t1 u1) (h2 : SameT t2 u2) : SameT (fun W => tSeq (t1 W) (t2 W)) (fun E => tSeq (u1 E) (u2 E)) := fun W D D' σ H e1 e2 =>
  h1 W { D with nx := t2 W D } { D' with nx := u2 (fun cls d H' => W cls d σ H') D' } σ H e1 fun H' => h2 W D D' σ H' e1 e2
theorem hq_next : SameT (fun _ => tNext) (fun _ => tNext) := fun W D D' σ H e1 e2 => e2 H
theorem hq_ret {te : WX → TE} {tf : XK → TE} (h : SameE te tf) : SameT (fun W => tRet (te W)) (fun E => tRet (tf E)) := fun W D D' σ H e1 e2 => by
  show te W σ H D.rt = tf _ σ H D'.rt
  rw [h W σ H D.rt, e1]
theorem se_call {sp : Sp} {dvs : List V} {ta : TA} : SameE (fun W => tCallSD sp dvs (WE W) ta) (fun E => tCall sp dvs E ta) := fun _ _ _ _ => rfl
def tryOk : Sl → Bool
  | .bo _ => true
  | s => !s.own && !s.vol
theorem sb_tryA {cf : Cf} {E : XK} {G : List Sl} {S ρ : Type} [Rs ρ] {enc : S → List Sl} {l : List Clz} {tb : WX → TS} {t : XK → TS} {m : R (Fl S ρ)} {hs : Nat → Int → R (Fl S ρ)} (hG : (G.all tryOk) = true) (hb : ∀ E', SB cf E' (t E') G enc m) (heq : SameT tb t)
    (hh : ∀ (c : Nat) (p : Int) (F O H : Hp) (σ : L2.St) (D : Ends) (d : Addr), Mt cf.K F O H σ G → F d = some (xdO cf c p) → hs c p ≠ .bad →
      (∀ s F' H' σ', hs c p = .ok (.nx s) → Le F F' → Mt cf.K F' O H' σ' (enc s) → D.nx σ' H') →
      (∀ s F' H' σ', hs c p = .ok (.bk s) → Le F F' → Mt cf.K F' O H' σ' (enc s) → D.bk σ' H') →
      (∀ r v F' H', hs c p = .ok (.rt r) → Le F F' → Fm F' O H' → Rs.res cf F' O H' v r → D.rt v H') →
      (∀ c' p' d' F' H', hs c p = .er c' p' → Le F F' → Fm F' O H' → F' d' = some (xdO cf c' p') → E (.ref (cf.cls c')) (some d') H') →
      wA cf.K (fun cls d σ H => E cls d H) D l (.ref (cf.cls c)) (some d) σ H) :
    SB cf E (tTryA tb cf.K (fun cls d σ H => E cls d H) l) G enc (tryR m hs) := sb_try (fun s h => by
      have h1 := List.all_eq_true.mp hG s h
      cases s with
      | bo t => exact .inl ⟨t, rfl⟩
      | _ => first | exact .inr ⟨rfl, rfl⟩ | cases h1) hb (fun W D σ H => heq W D D σ H rfl fun _ => rfl) hh
/-- a caught error's place alone, or behind a text -/
def tPl (i : Nat) (C : Addr) : Addr → Value → Option Addr → TS := fun a cls d => tRet (tXf a cls d C "place" (tVar i))
def tCP (i : Nat) (C : Addr) (x : Str) : Addr → Value → Option Addr → TS := fun a cls d => tRet (tTup (tCons (tC (.str x)) (tCons (tXf a cls d C "place" (tVar i)) tNil)))
theorem pl_ret {cf : Cf} {G : List Sl} {F O H : Hp} {σ : L2.St} {D : Ends} {c i : Nat} {p : Int} {a d : Addr} (hM : Mt cf.K F O H σ G) (hd : F d = some (xdO cf c p)) (hi : i < G.length)
    (kr : ∀ v F' H', Le F F' → Fm F' O H' → Dr cf.K F' v (.int p) → D.rt v H') : tPl i (cf.cls c) a (.ref (cf.cls c)) (some d) (gone D i) (σ.set i (some (.ref a))) H := by
  have hl : σ.length = G.length := by
    obtain ⟨O', _, _, he, _⟩ := hM
    exact he.len
  have hs : (σ.set i (some (V.ref a)))[i]? = some (some (.ref a)) := List.getElem?_set_self (by omega)
  have hH : H d = some (xdO cf c p) := hM.fm.f _ _ hd
  exact ⟨_, hs, rfl, rfl, d, _, .int p, rfl, hH, rfl, kr _ F _ (Le.refl F) hM.fm (.int _)⟩
theorem cp_ret {cf : Cf} {G : List Sl} {F O H : Hp} {σ : L2.St} {D : Ends} {c i : Nat} {p : Int} {a d : Addr} {x : Str} (hM : Mt cf.K F O H σ G) (hd : F d = some (xdO cf c p)) (hi : i < G.length)
    (kr : ∀ v F' H', Le F F' → Fm F' O H' → Dr cf.K F' v (.tup [.str x, .int p]) → D.rt v H') : tCP i (cf.cls c) x a (.ref (cf.cls c)) (some d) (gone D i) (σ.set i (some (.ref a))) H := by
  have hl : σ.length = G.length := by
    obtain ⟨O', _, _, he, _⟩ := hM
    exact he.len
  have hs : (σ.set i (some (V.ref a)))[i]? = some (some (.ref a)) := List.getElem?_set_self (by omega)
  have hH : H d = some (xdO cf c p) := hM.fm.f _ _ hd
  refine ⟨_, hs, rfl, rfl, d, _, .int p, rfl, hH, rfl, (by show 2 ≤ sizeLine; decide), fun q hq => ?_⟩
  have hn := hM.fm.fnone hq
  exact kr _ (upd F q (.tup [.str x, .int p])) _ (Le.new hn) (hM.fm.newF hq) (.tup upd_same (.cons (.str _) (.cons (.int _) .nil)))
/-- what catching an error class needs -/
structure XCat (K : PySem.W.Frag) (C : Addr) : Prop where
  xf : XfC K C
  nn : PySem.W.findIn K (.ref C) "name" = some none
  np : PySem.W.findIn K (.ref C) "place" = some none
end Kr

/-! KrM: the mathematics of results: loops, comprehensions, equality of data. -/
namespace Kr
open PySem PySem.Spec PyProof.Rows L2
open Enc (toD)
variable {α β γ S T ρ : Type}
theorem finR_rt (r : ρ) : finR (.ok (.rt r) : R (Fl S ρ)) = .ok r := (fun (m : R (Fl S ρ)) (e : m = .ok (.rt r)) => show finR m = .ok r by rw [e]; rfl) _ rfl
theorem seqF_nx (s : S) (k : S → R (Fl T ρ)) : seqF (.ok (.nx s)) k = k s := (fun (m : R (Fl S ρ)) (e : m = .ok (.nx s)) => show seqF m k = k s by rw [e]; rfl) _ rfl
theorem seqF_rt (r : ρ) (k : S → R (Fl T ρ)) : seqF (.ok (.rt r)) k = .ok (.rt r) := (fun (m : R (Fl S ρ)) (e : m = .ok (.rt r)) => show seqF m k = .ok (.rt r) by rw [e]; rfl) _ rfl
theorem seqF_ite (c : Prop) [Decidable c] (a b : R (Fl S ρ)) (k : S → R (Fl T ρ)) : seqF (if c then a else b) k = if c then seqF a k else seqF b k := by split <;> rfl
theorem ite_nx (c : Prop) [Decidable c] (a b : S) : (if c then (.ok (.nx a) : R (Fl S ρ)) else .ok (.nx b)) = .ok (.nx (if c then a else b)) := by split <;> rfl
theorem ite_ok (c : Prop) [Decidable c] (a b : α) : (if c then (.ok a : R α) else .ok b) = .ok (if c then a else b) := by split <;> rfl
theorem okB (b : Bool) (x y : R α) (c : Prop) [Decidable c] (h : b = decide c) : (if b = true then x else y) = if c then x else y := by subst h; simp
/-- a loop that runs through -/
theorem forR_run {step : T → α → R (Fl T ρ)} {k : T → R (Fl S ρ)} : ∀ (xs : List α) (s : T) (I : Nat → T → Prop), I 0 s → (∀ (i : Nat) (h : i < xs.length) (s : T), I i s → ∃ s', step s xs[i] = .ok (.nx s') ∧ I (i + 1) s') →
    ∃ s', I xs.length s' ∧ forR step k xs s = k s'
  | [], s, I, h0, _ => ⟨s, h0, rfl⟩
  | x :: r, s, I, h0, hs => by
    obtain ⟨s1, e1, h1⟩ := hs 0 (by simp) s h0
    obtain ⟨s2, h2, e2⟩ := forR_run (step := step) (k := k) r s1 (fun i => I (i + 1)) h1 fun i hi s' hI => hs (i + 1) (by simpa using hi) s' hI
    refine ⟨s2, h2, ?_⟩
    show (step s x).bind _ = _
    rw [show step s x = .ok (.nx s1) from e1]
    exact e2
/-- .. as a rule for a goal -/
theorem forR_elim {P : R (Fl S ρ) → Prop} {step : T → α → R (Fl T ρ)} {k : T → R (Fl S ρ)} {xs : List α} {s : T} (I : Nat → T → Prop) (h0 : I 0 s) (hs : ∀ (i : Nat) (h : i < xs.length) (s : T), I i s → ∃ s', step s xs[i] = .ok (.nx s') ∧ I (i + 1) s')
    (hP : ∀ s', I xs.length s' → P (k s')) : P (forR step k xs s) := by
  obtain ⟨s', h1, h2⟩ := forR_run (step := step) (k := k) xs s I h0 hs
  rw [h2]
  exact hP s' h1
theorem szR_nil : szR ([] : List α) = .ok [] := if_pos (Nat.zero_le _)
theorem forR_fold {step : T → α → R (Fl T ρ)} {k : T → R (Fl S ρ)} (f : T → α → T) : ∀ (xs : List α) (s : T), (∀ s x, x ∈ xs → step s x = .ok (.nx (f s x))) → forR step k xs s = k (xs.foldl f s)
  | [], s, _ => rfl
  | x :: r, s, h => by
    show (step s x).bind _ = _
    rw [h s x (by simp)]
    exact forR_fold f r (f s x) fun s y hy => h s y (by simp [hy])
theorem forR_cons (step : T → α → R (Fl T ρ)) (k : T → R (Fl S ρ)) (x : α) (r : List α) (s : T) : forR step k (x :: r) s = (step s x).bind fun
    | .nx s' => forR step k r s'
    | .bk s' => k s'
    | .rt v => .ok (.rt v) := rfl
/-- a comprehension that runs through -/
theorem lcR_ok {ft : α → R Bool} {fe : α → R β} {xs : List α} (p : α → Bool) (g : α → β) (hz : xs.length ≤ 1000000) (ht : ∀ x ∈ xs, ft x = .ok (p x)) (he : ∀ x ∈ xs, p x = true → fe x = .ok (g x)) : lcR ft fe xs = .ok ((xs.filter p).map g) := by
  unfold lcR
  rw [szR_ok hz, R.ok_bind]
  clear hz
  induction xs with
  | nil => rfl
  | cons x r ih =>
    have ih' := ih (fun y hy => ht y (by simp [hy])) fun y hy => he y (by simp [hy])
    show ((ft x).pu.bind _) = _
    rw [ht x (by simp), R.ok_pu, R.ok_bind]
    cases hp : p x with
    | false =>
      rw [if_neg Bool.false_ne_true, ih', List.filter_cons, if_neg (by rw [hp]; decide)]
    | true =>
      rw [if_pos rfl, he x (by simp) hp, R.ok_pu, R.ok_bind, ih', List.filter_cons, if_pos hp]
      rfl
theorem lcR_map {fe : α → R β} {xs : List α} (g : α → β) (hz : xs.length ≤ 1000000) (he : ∀ x ∈ xs, fe x = .ok (g x)) : lcR (fun _ => .ok true) fe xs = .ok (xs.map g) := by
  rw [lcR_ok (fun _ => true) g hz (fun _ _ => rfl) fun x hx _ => he x hx, List.filter_eq_self.mpr fun _ _ => rfl]
/-! ### ranges, items -/
theorem mem_seqI {lo x : Int} {n : Nat} : x ∈ seqI lo n ↔ lo ≤ x ∧ x < lo + (n : Int) := by
  unfold seqI
  rw [List.mem_map]
  constructor
  · rintro ⟨i, hi, rfl⟩
    have := List.mem_range.mp hi
    omega
  · rintro ⟨h1, h2⟩
    exact ⟨(x - lo).toNat, List.mem_range.mpr (by omega), by omega⟩
theorem seqI_at {lo : Int} {n i : Nat} (h : i < (seqI lo n).length) : (seqI lo n)[i] = lo + (i : Int) := by
  have e := seqI_get lo n i
  rw [List.getElem?_eq_getElem h, if_pos (by rw [seqI_len] at h; exact h)] at e
  exact Option.some.inj e
theorem seqI_succ (lo : Int) (n : Nat) : seqI lo (n + 1) = seqI lo n ++ [lo + (n : Int)] := by
  unfold seqI
  rw [List.range_succ, List.map_append]
  rfl
theorem rng1_ok {n : Int} (h : n < 2 ^ 62) (h' : -(2 ^ 62) ≤ n) : rng1R n = .ok (seqI 0 n.toNat) := if_pos ⟨h', h⟩
theorem rng1_nat {n : Nat} (h : n ≤ 1000000) : rng1R (n : Int) = .ok (seqI 0 n) := by
  rw [rng1_ok (by omega) (by omega)]
  rfl
theorem rng2_ok {a b : Int} (h : -1000000 ≤ a ∧ a ≤ 1000000 ∧ -1000000 ≤ b ∧ b ≤ 1000000) : rng2R a b = .ok (seqI a (b - a).toNat) := if_pos (by omega)
theorem ixN_ok {n : Nat} {i : Int} (h : 0 ≤ i) (h' : i < n) : ixN n i = some i.toNat := by
  unfold ixN
  rw [if_pos h, if_pos h']
theorem idxR_ok {xs : List α} {i : Int} (h : 0 ≤ i) (h' : i < xs.length) : idxR xs i = .ok (xs[i.toNat]'(by omega)) := by
  unfold idxR atI
  rw [ixN_ok h h', Option.bind_some, List.getElem?_eq_getElem (by omega)]
theorem idxR_nat {xs : List α} {i : Nat} (h : i < xs.length) : idxR xs (i : Int) = .ok xs[i] := by
  rw [idxR_ok (by omega) (by omega)]
  rfl
theorem idxR_of {xs : List α} {i : Int} {a : α} (h : 0 ≤ i) (e : xs[i.toNat]? = some a) : idxR xs i = .ok a := by
  obtain ⟨hl, e'⟩ := List.getElem?_eq_some_iff.mp e
  rw [idxR_ok h (by omega), e']
theorem setR_ok {xs : List α} {i : Int} {a : α} (h : 0 ≤ i) (h' : i < xs.length) : setR xs i a = .ok (xs.set i.toNat a) := by
  unfold setR
  rw [ixN_ok h h']
/-! ### numbers -/
theorem modR_ok {a b : Int} (h : 0 < b) : modR a b = .ok (a % b) := if_pos h
theorem divR_ok {a b : Int} (h : 0 < b) (h' : b < 2 ^ 64) : divR a b = .ok (a / b) := if_pos ⟨h, by
  have h1 : b.natAbs < 2 ^ 64 := by omega
  have h2 := PySem.Flt.log2_lt_of (by decide) h1
  omega⟩
theorem divR_big {a b : Int} {n : Nat} (h : 0 < b) (h' : b.natAbs < 2 ^ n) (h0 : 0 < n) (h9 : n ≤ 9000) : divR a b = .ok (a / b) := if_pos (wide_div (i := a) h h' h0 h9)
theorem bits_le {x : Int} {n : Nat} (h : x.natAbs < 2 ^ n) (h0 : 0 < n) : Builtin.Int.intBits x ≤ n := by
  have := PySem.Flt.log2_lt_of h0 h
  unfold Builtin.Int.intBits
  split <;> omega
theorem mulR_big {a b : Int} {n m : Nat} (ha : a.natAbs < 2 ^ n) (hb : b.natAbs < 2 ^ m) (hn : 0 < n) (hm : 0 < m) (h : n + m ≤ 134217728) : mulR a b = .ok (a * b) := if_pos (by
  have h1 := bits_le ha hn
  have h2 := bits_le hb hm
  omega)
theorem mulR_ok {a b : Int} (ha : -(2 ^ 64) < a ∧ a < 2 ^ 64) (hb : -(2 ^ 64) < b ∧ b < 2 ^ 64) : mulR a b = .ok (a * b) := mulR_big (n := 64) (m := 64) (by omega) (by omega) (by decide) (by decide) (by decide)
theorem shlR_ok {a b : Int} (ha : -(2 ^ 64) < a ∧ a < 2 ^ 64) (hb : 0 ≤ b ∧ b ≤ 1000000) : shlR a b = .ok (a * 2 ^ b.toNat) := if_pos ⟨hb.1, by
  have h1 := bits_le (x := a) (n := 64) (by omega) (by decide)
  omega⟩
theorem shrR_ok {a b : Int} (hb : 0 ≤ b) : shrR a b = .ok (a / 2 ^ b.toNat) := if_pos hb
/-! ### equality of data -/
/-- data whose == is equality -/
class Eqd (α : Type) [Enc α] where
  n : Nat
  nd : ∀ a : α, (toD a).nd = true
  lay : ∀ a : α, (toD a).py.canLay0 = true
  dp : ∀ a : α, (toD a).py.depth ≤ n
  ev : ∀ a b : α, PyData.eqv (toD a).py (toD b).py = true ↔ a = b
theorem eqR_eq [Enc α] [q : Eqd α] [DecidableEq α] (a b : α) (h : q.n ≤ 64 := by decide) : eqR a b = .ok (decide (a = b)) := by
  unfold eqR
  have sh : ∀ a : α, SeqAt.shaped (toD a).py = true := fun a => by
    unfold SeqAt.shaped
    rw [Eqd.lay a, Bool.true_and]
    exact decide_eq_true (Nat.le_trans (Eqd.dp a) h)
  rw [if_pos ⟨Eqd.nd a, Eqd.nd b, sh a, sh b⟩]
  congr 1
  by_cases e : a = b
  · rw [decide_eq_true e, (Eqd.ev a b).mpr e]
  · rw [decide_eq_false e]
    cases q : PyData.eqv (toD a).py (toD b).py with
    | false => rfl
    | true => exact absurd ((Eqd.ev a b).mp q) e
instance : Eqd Int := ⟨0, fun _ => rfl, fun _ => rfl, fun _ => Nat.le_refl _, fun a b => by show (a == b) = true ↔ _; simp⟩
instance : Eqd Bool := ⟨0, fun _ => rfl, fun _ => rfl, fun _ => Nat.le_refl _, fun a b => by show (a == b) = true ↔ _; simp⟩
section
variable [Enc α] [q : Eqd α]
theorem eqd_ndA : ∀ xs : List α, Dt.ndA (xs.map toD) = true
  | [] => rfl
  | x :: r => by
    show (Dt.nd (toD x) && Dt.ndA (r.map toD)) = true
    rw [Eqd.nd x, eqd_ndA r]
    rfl
theorem eqd_layA : ∀ xs : List α, PyData.canLayAll0 (Dt.pyA (xs.map toD)) = true
  | [] => rfl
  | x :: r => by
    show (PyData.canLay0 (toD x).py && PyData.canLayAll0 (Dt.pyA (r.map toD))) = true
    rw [Eqd.lay x, eqd_layA r]
    rfl
theorem eqd_dpA : ∀ xs : List α, PyData.depthAll (Dt.pyA (xs.map toD)) ≤ q.n
  | [] => Nat.zero_le _
  | x :: r => by
    show max (PyData.depth (toD x).py) (PyData.depthAll (Dt.pyA (r.map toD))) ≤ _
    exact Nat.max_le.mpr ⟨Eqd.dp x, eqd_dpA r⟩
theorem eqd_evA : ∀ xs ys : List α, PyData.eqvAll (Dt.pyA (xs.map toD)) (Dt.pyA (ys.map toD)) = true ↔ xs = ys
  | [], [] => by simp [Dt.pyA, PyData.eqvAll]
  | [], _ :: _ => by simp [Dt.pyA, PyData.eqvAll]
  | _ :: _, [] => by simp [Dt.pyA, PyData.eqvAll]
  | x :: xs, y :: ys => by
    show (PyData.eqv (toD x).py (toD y).py && PyData.eqvAll (Dt.pyA (xs.map toD)) (Dt.pyA (ys.map toD))) = true ↔ _
    rw [Bool.and_eq_true, Eqd.ev x y, eqd_evA xs ys]
    simp
instance : Eqd (List α) := ⟨q.n + 1, fun xs => eqd_ndA xs, fun xs => eqd_layA xs, fun xs => by
  show PyData.depthAll (Dt.pyA (xs.map toD)) + 1 ≤ _
  exact Nat.succ_le_succ (eqd_dpA xs), fun xs ys => eqd_evA xs ys⟩
theorem eqv_none_l {d : PyData} (h : d ≠ .none) : PyData.eqv .none d = false := by cases d <;> first | rfl | exact absurd rfl h
theorem eqv_none_r {d : PyData} (h : d ≠ .none) : PyData.eqv d .none = false := by cases d <;> first | rfl | exact absurd rfl h
theorem py_non {d : Dt} (h : d.py = .none) : d = .non := by cases d <;> first | rfl | exact absurd h (fun z => nomatch z)
instance [NN α] : Eqd (Option α) := ⟨q.n, fun o => match o with
  | none => rfl
  | some a => Eqd.nd (α := α) a, fun o => match o with
  | none => rfl
  | some a => Eqd.lay (α := α) a, fun o => match o with
  | none => Nat.zero_le _
  | some a => Eqd.dp (α := α) a, fun a b => by
  have ne : ∀ a : α, (toD a).py ≠ .none := fun a h => NN.nn a (py_non h)
  cases a with
  | none =>
    cases b with
    | none => simp [PyData.eqv, toD, Enc.toD, Dt.py]
    | some b =>
      show PyData.eqv .none (toD b).py = true ↔ _
      rw [eqv_none_l (ne b)]
      simp
  | some a =>
    cases b with
    | none =>
      show PyData.eqv (toD a).py .none = true ↔ _
      rw [eqv_none_r (ne a)]
      simp
    | some b =>
      show PyData.eqv (toD a).py (toD b).py = true ↔ _
      rw [Eqd.ev a b]
      simp⟩
variable [Enc β] [p : Eqd β] [Enc γ] [o : Eqd γ]
instance : Eqd (α × β) := ⟨q.n + p.n + 1, fun a => by
    show (Dt.nd (toD a.1) && (Dt.nd (toD a.2) && true)) = true
    rw [Eqd.nd, Eqd.nd]
    rfl, fun a => by
    show (PyData.canLay0 (toD a.1).py && (PyData.canLay0 (toD a.2).py && true)) = true
    rw [Eqd.lay, Eqd.lay]
    rfl, fun a => by
    show max (toD a.1).py.depth (max (toD a.2).py.depth 0) + 1 ≤ _
    have h1 := Eqd.dp a.1
    have h2 := Eqd.dp a.2
    omega, fun a b => by
    show (PyData.eqv (toD a.1).py (toD b.1).py && (PyData.eqv (toD a.2).py (toD b.2).py && true)) = true ↔ _
    rw [Bool.and_true, Bool.and_eq_true, Eqd.ev, Eqd.ev]
    exact Prod.ext_iff.symm⟩
instance : Eqd (T3 α β γ) := ⟨q.n + p.n + o.n + 1, fun a => by
    show (Dt.nd (toD a.a) && (Dt.nd (toD a.b) && (Dt.nd (toD a.c) && true))) = true
    rw [Eqd.nd, Eqd.nd, Eqd.nd]
    rfl, fun a => by
    show (PyData.canLay0 (toD a.a).py && (PyData.canLay0 (toD a.b).py && (PyData.canLay0 (toD a.c).py && true))) = true
    rw [Eqd.lay, Eqd.lay, Eqd.lay]
    rfl, fun a => by
    show max (toD a.a).py.depth (max (toD a.b).py.depth (max (toD a.c).py.depth 0)) + 1 ≤ _
    have h1 := Eqd.dp a.a
    have h2 := Eqd.dp a.b
    have h3 := Eqd.dp a.c
    omega, fun a b => by
    show (PyData.eqv (toD a.a).py (toD b.a).py && (PyData.eqv (toD a.b).py (toD b.b).py && (PyData.eqv (toD a.c).py (toD b.c).py && true))) = true ↔ _
    rw [Bool.and_true, Bool.and_eq_true, Bool.and_eq_true, Eqd.ev, Eqd.ev, Eqd.ev]
    cases a
    cases b
    simp⟩
end
/-! ### sorted -/
theorem leD_int (a b : Int) : leD a b = decide (a ≤ b) := by
  show PySem.W.dataLe false (fun x : Int => PyData.int x) a b = _
  rw [PySem.W.dataLe_int (fun x : Int => x)]
theorem leD_ii (p q : Int × Int) : leD p q = decide (p.1 < q.1 ∨ (p.1 = q.1 ∧ p.2 ≤ q.2)) := by
  show PySem.W.dataLe false (fun x : Int × Int => PyData.tuple [.int x.1, .int x.2]) p q = _
  rw [PySem.W.dataLe_ii (fun x : Int × Int => x.1) (fun x : Int × Int => x.2)]
theorem sortR_ok [Enc α] {xs : List α} (h : xs.length ≤ 1000000) : sortR xs = .ok (xs.mergeSort leD) := by
  unfold sortR
  rw [szR_ok h]
  rfl
end Kr

/-! KrV: equality of texts and of data of two kinds; lists of bits. -/
namespace Kr
open PySem PySem.Spec PyProof.Rows L2
open Enc (toD)
/-- data whose == is equality, if its texts are proper -/
class Eqq (α : Type) [Enc α] where
  n : Nat
  ok : α → Bool
  nd : ∀ a : α, (toD a).nd = true
  lay : ∀ a : α, ok a = true → (toD a).py.canLay0 = true
  dp : ∀ a : α, (toD a).py.depth ≤ n
  ev : ∀ a b : α, PyData.eqv (toD a).py (toD b).py = true ↔ a = b
theorem eqR_q [Enc α] [q : Eqq α] [DecidableEq α] (a b : α) (ha : q.ok a = true) (hb : q.ok b = true) (h : q.n ≤ 64 := by decide) : eqR a b = .ok (decide (a = b)) := by
  unfold eqR
  have sh : ∀ a : α, q.ok a = true → SeqAt.shaped (toD a).py = true := fun a k => by
    unfold SeqAt.shaped
    rw [Eqq.lay a k, Bool.true_and]
    exact decide_eq_true (Nat.le_trans (Eqq.dp a) h)
  rw [if_pos ⟨Eqq.nd a, Eqq.nd b, sh a ha, sh b hb⟩]
  congr 1
  by_cases e : a = b
  · rw [decide_eq_true e, (Eqq.ev a b).mpr e]
  · rw [decide_eq_false e]
    cases q : PyData.eqv (toD a).py (toD b).py with
    | false => rfl
    | true => exact absurd ((Eqq.ev a b).mp q) e
instance (priority := low) {α : Type} [Enc α] [q : Eqd α] : Eqq α := ⟨q.n, fun _ => true, q.nd, fun a _ => q.lay a, q.dp, q.ev⟩
instance : Eqq Str := ⟨0, fun s => PyData.strOk s, fun _ => rfl, fun _ h => h, fun _ => Nat.le_refl _, fun a b => by show (a == b) = true ↔ _; simp⟩
/-- never equal -/
class Dj (α β : Type) [Enc α] [Enc β] : Prop where
  l : ∀ (a : α) (b : β), PyData.eqv (toD a).py (toD b).py = false
  r : ∀ (a : α) (b : β), PyData.eqv (toD b).py (toD a).py = false
instance : Dj Int Str := ⟨fun _ _ => rfl, fun _ _ => rfl⟩
instance {α : Type} [Enc α] : Dj (List α) Str := ⟨fun _ _ => rfl, fun _ _ => rfl⟩
instance {α β γ : Type} [Enc α] [Enc β] [Enc γ] : Dj (List γ) (α × β) := ⟨fun _ _ => rfl, fun _ _ => rfl⟩
instance {α β γ : Type} [Enc α] [Enc β] [Enc γ] : Dj (α × β) (List γ) := ⟨fun _ _ => rfl, fun _ _ => rfl⟩
instance {α β γ δ ε : Type} [Enc α] [Enc β] [Enc γ] [Enc δ] [Enc ε] : Dj (T3 α β γ) (δ × ε) := ⟨fun a b => by
  show (PyData.eqv _ _ && (PyData.eqv _ _ && false)) = false
  simp, fun a b => by
  show (PyData.eqv _ _ && (PyData.eqv _ _ && false)) = false
  simp⟩
instance {α β : Type} [Enc α] [Enc β] : Dj Int (α × β) := ⟨fun _ _ => rfl, fun _ _ => rfl⟩
instance {α β : Type} [Enc α] [Enc β] [q : Eqq α] [p : Eqq β] [d : Dj α β] : Eqq (α ⊕ β) := ⟨max q.n p.n, fun s => match s with
  | .inl a => q.ok a
  | .inr b => p.ok b, fun s => match s with
  | .inl a => Eqq.nd a
  | .inr b => Eqq.nd b, fun s h => match s, h with
  | .inl a, h => Eqq.lay a h
  | .inr b, h => Eqq.lay b h, fun s => match s with
  | .inl a => Nat.le_trans (Eqq.dp a) (Nat.le_max_left _ _)
  | .inr b => Nat.le_trans (Eqq.dp b) (Nat.le_max_right _ _), fun s t => match s, t with
  | .inl a, .inl b => by
    show PyData.eqv (toD a).py (toD b).py = true ↔ _
    rw [Eqq.ev]
    simp
  | .inr a, .inr b => by
    show PyData.eqv (toD a).py (toD b).py = true ↔ _
    rw [Eqq.ev]
    simp
  | .inl a, .inr b => by
    show PyData.eqv (toD a).py (toD b).py = true ↔ _
    rw [d.l]
    simp
  | .inr b, .inl a => by
    show PyData.eqv (toD b).py (toD a).py = true ↔ _
    rw [d.r]
    simp⟩
instance {α β : Type} [Enc α] [Enc β] [q : Eqq α] [p : Eqq β] : Eqq (α × β) := ⟨q.n + p.n + 1, fun a => q.ok a.1 && p.ok a.2, fun a => by
    show (Dt.nd (toD a.1) && (Dt.nd (toD a.2) && true)) = true
    rw [Eqq.nd, Eqq.nd]
    rfl, fun a h => by
    obtain ⟨h1, h2⟩ := Bool.and_eq_true_iff.mp h
    show (PyData.canLay0 (toD a.1).py && (PyData.canLay0 (toD a.2).py && true)) = true
    rw [Eqq.lay _ h1, Eqq.lay _ h2]
    rfl, fun a => by
    show max (toD a.1).py.depth (max (toD a.2).py.depth 0) + 1 ≤ _
    have h1 := Eqq.dp a.1
    have h2 := Eqq.dp a.2
    omega, fun a b => by
    show (PyData.eqv (toD a.1).py (toD b.1).py && (PyData.eqv (toD a.2).py (toD b.2).py && true)) = true ↔ _
    rw [Bool.and_true, Bool.and_eq_true, Eqq.ev, Eqq.ev]
    exact Prod.ext_iff.symm⟩
instance {α β γ : Type} [Enc α] [Enc β] [Enc γ] [q : Eqq α] [p : Eqq β] [o : Eqq γ] : Eqq (T3 α β γ) := ⟨q.n + p.n + o.n + 1, fun a => q.ok a.a && (p.ok a.b && o.ok a.c), fun a => by
    show (Dt.nd (toD a.a) && (Dt.nd (toD a.b) && (Dt.nd (toD a.c) && true))) = true
    rw [Eqq.nd, Eqq.nd, Eqq.nd]
    rfl, fun a h => by
    obtain ⟨h1, h⟩ := Bool.and_eq_true_iff.mp h
    obtain ⟨h2, h3⟩ := Bool.and_eq_true_iff.mp h
    show (PyData.canLay0 (toD a.a).py && (PyData.canLay0 (toD a.b).py && (PyData.canLay0 (toD a.c).py && true))) = true
    rw [Eqq.lay _ h1, Eqq.lay _ h2, Eqq.lay _ h3]
    rfl, fun a => by
    show max (toD a.a).py.depth (max (toD a.b).py.depth (max (toD a.c).py.depth 0)) + 1 ≤ _
    have h1 := Eqq.dp a.a
    have h2 := Eqq.dp a.b
    have h3 := Eqq.dp a.c
    omega, fun a b => by
    show (PyData.eqv (toD a.a).py (toD b.a).py && (PyData.eqv (toD a.b).py (toD b.b).py && (PyData.eqv (toD a.c).py (toD b.c).py && true))) = true ↔ _
    rw [Bool.and_true, Bool.and_eq_true, Bool.and_eq_true, Eqq.ev, Eqq.ev, Eqq.ev]
    cases a
    cases b
    simp⟩
instance {α : Type} [Enc α] [NN α] [q : Eqq α] : Eqq (Option α) := ⟨q.n, fun o => match o with
  | none => true
  | some a => q.ok a, fun o => match o with
  | none => rfl
  | some a => Eqq.nd (α := α) a, fun o h => match o, h with
  | none, _ => rfl
  | some a, h => Eqq.lay (α := α) a h, fun o => match o with
  | none => Nat.zero_le _
  | some a => Eqq.dp (α := α) a, fun a b => by
  have ne : ∀ a : α, (toD a).py ≠ .none := fun a h => NN.nn a (py_non h)
  cases a with
  | none =>
    cases b with
    | none => simp [PyData.eqv, toD, Enc.toD, Dt.py]
    | some b =>
      show PyData.eqv .none (toD b).py = true ↔ _
      rw [eqv_none_l (ne b)]
      simp
  | some a =>
    cases b with
    | none =>
      show PyData.eqv (toD a).py .none = true ↔ _
      rw [eqv_none_r (ne a)]
      simp
    | some b =>
      show PyData.eqv (toD a).py (toD b).py = true ↔ _
      rw [Eqq.ev a b]
      simp⟩
instance {α β : Type} [Enc α] [Enc β] [NN α] [NN β] : NN (α ⊕ β) := ⟨fun s h => match s, h with
  | .inl a, h => NN.nn a h
  | .inr b, h => NN.nn b h⟩
instance : NN Str := ⟨fun _ h => nomatch h⟩
end Kr

/-! KrW: data in a list of data, its place. -/
namespace Kr
open PySem PySem.Spec PyProof.Rows L2
open Enc (toD)
section
variable {cf : Cf} {E : XK} {G : List Sl} {α β : Type} {ta tb : TE}
def inC [Enc α] [Enc β] (a : α) (xs : List β) : Prop := (toD a).nd = true ∧ (toD xs).nd = true ∧ SeqAt.shaped (toD a).py = true ∧ SeqAt.shaped (toD xs).py = true
instance [Enc α] [Enc β] (a : α) (xs : List β) : Decidable (inC a xs) := by unfold inC; exact inferInstance
def inDR [Enc α] [Enc β] (a : α) (xs : List β) : R Bool := if inC a xs then .ok ((Dt.pyA (xs.map toD)).any fun z => PyData.eqv z (toD a).py) else .bad
theorem inDR_nb [Enc α] [Enc β] {a : α} {xs : List β} (h : inDR a xs ≠ .bad) : inC a xs ∧ inDR a xs = .ok ((Dt.pyA (xs.map toD)).any fun z => PyData.eqv z (toD a).py) := by
  unfold inDR at *
  split at h
  · rename_i c
    exact ⟨c, if_pos c⟩
  · exact absurd rfl h
theorem em_inD [Enc α] [Enc β] {m : R α} {n : R (List β)} (h : EE cf E ta G m) (h' : EE cf E tb G n) : EM cf E (tOp (rInD cf.K) ta tb) G (m.bind fun a => n.bind fun b => inDR a b) :=
  EG.bind2 (u := fun x y H Q => rInD cf.K x y H Q) h h' (fun F O H F' H' r a le hf' h F'' H'' le' hf'' => h F'' H'' (le.trans le') hf'') fun F O H Q a r b s hf h1 h2 nb ko => by
    obtain ⟨⟨c1, c2, c3, c4⟩, ec⟩ := inDR_nb nb
    exact ⟨_, _, h1 F H (Le.refl F) hf c1, h2 F H (Le.refl F) hf c2, c3, c4, ko _ _ F H ec (Le.refl F) hf (.bl _)⟩
theorem em_niD [Enc α] [Enc β] {m : R α} {n : R (List β)} (h : EE cf E ta G m) (h' : EE cf E tb G n) : EM cf E (tOp (rNotInD cf.K) ta tb) G (m.bind fun a => n.bind fun b => (inDR a b).bind fun c => .ok (!c)) :=
  EG.bind2 (f := fun a b => (inDR a b).bind fun c => .ok (!c)) (u := fun x y H Q => rNotInD cf.K x y H Q) h h' (fun F O H F' H' r a le hf' h F'' H'' le' hf'' => h F'' H'' (le.trans le') hf'') fun F O H Q a r b s hf h1 h2 nb ko => by
    obtain ⟨⟨c1, c2, c3, c4⟩, ec⟩ := inDR_nb (R.bind_nb nb)
    rw [ec] at ko
    exact ⟨_, _, h1 F H (Le.refl F) hf c1, h2 F H (Le.refl F) hf c2, c3, c4, ko _ _ F H rfl (Le.refl F) hf (.bl _)⟩
def indexDR [Enc α] [Enc β] (xs : List β) (a : α) : R Int := if inC a xs then (match (Dt.pyA (xs.map toD)).findIdx? fun z => PyData.eqv z (toD a).py with
  | some j => .ok (j : Nat)
  | none => .bad) else .bad
theorem indexDR_nb [Enc α] [Enc β] {a : α} {xs : List β} (h : indexDR xs a ≠ .bad) : inC a xs ∧ ∃ j, (Dt.pyA (xs.map toD)).findIdx? (fun z => PyData.eqv z (toD a).py) = some j ∧ indexDR xs a = .ok (j : Nat) := by
  unfold indexDR at *
  split at h
  · rename_i c
    rw [if_pos c]
    cases q : (Dt.pyA (xs.map toD)).findIdx? fun z => PyData.eqv z (toD a).py with
    | some j => exact ⟨c, j, rfl, rfl⟩
    | none =>
      rw [q] at h
      exact absurd rfl h
  · exact absurd rfl h
theorem em_indexD [Enc α] [Enc β] {m : R (List β)} {n : R α} (h : EM cf E ta G m) (h' : EE cf E tb G n) : EM cf E (tBM cf.K "list" (rIndexD cf.K) ta (tCons tb tNil)) G (m.bind fun xs => n.bind fun a => indexDR xs a) := fun F O H σ Q hf he nb ko ke => by
  refine h F O H σ _ hf he (R.bind_nb nb) (fun xs v F1 H1 e1 l1 hf1 r1 => ?_) (fun c p d F' H' e le hf' hd => ke c p d F' H' (by rw [e]; rfl) le hf' hd)
  rw [e1, R.ok_bind] at nb ko ke
  obtain ⟨p, vs, rfl, hp, hv⟩ := dr_lst r1
  refine ⟨.inl ⟨rfl, vs, SqL.of (hf1.f _ _ hp)⟩, ?_⟩
  refine h' F1 O H1 σ _ hf1 (he.mono l1) (R.bind_nb nb) (fun a w F2 H2 e2 l2 hf2 r2 => ?_) (fun c p d F' H' e le hf' hd => ke c p d F' H' (by rw [e]; rfl) (l1.trans le) hf' hd)
  rw [e2, R.ok_bind] at nb ko ke
  obtain ⟨⟨c1, c2, c3, c4⟩, j, hj, ec⟩ := indexDR_nb nb
  have hd : Dp cf.K H2 (.ref p) (toD xs).py := Dr.dp (l2.trans hf2.f) r1 c2
  obtain ⟨hlt, hz, hno⟩ := List.findIdx?_eq_some_iff_getElem.mp hj
  exact ⟨p, w, _, _, j, _, rfl, rfl, hd, r2 F2 H2 (Le.refl F2) hf2 c1, c4, c3, List.getElem?_eq_getElem hlt, hz, fun i z' hi hz' => by
    obtain ⟨hl', e'⟩ := List.getElem?_eq_some_iff.mp hz'
    rw [← e']
    exact eq_false_of_ne_true (hno i hi), ko _ _ F2 H2 ec (l1.trans l2) hf2 (.int _)⟩
theorem _root_.L2.Room.units1 {k : Nat} {A : Around} (r : Room k A) : A.units + 65 < cLine := by have := r.un; omega
theorem inDK {X : Cx} (K : PySem.W.Frag) (h : X.K = K) (hu : X.A.units + 65 < cLine) : OpR X (compareOp .In) (rInD K) := h ▸ op_inD hu
theorem ninDK {X : Cx} (K : PySem.W.Frag) (h : X.K = K) (hu : X.A.units + 65 < cLine) : OpR X (compareOp .NotIn) (rNotInD K) := h ▸ op_notInD hu
theorem indexDK {X : Cx} (K : PySem.W.Frag) (h : X.K = K) (hu : X.A.units + 65 < cLine) : MtR X "list.index" (rIndexD K) := h ▸ mt_indexD hu
end
end Kr

/-! KrO: models as objects, arguments and results of any kind. -/
namespace Kr
open PySem PySem.Spec PyProof.Rows L2
open Enc (toD)
/-! ### trees of models -/
inductive Mdl where
  | c (ws : List Int)
  | l (ws : List Int) (st li : Int)
  | x (rows : List (List Int)) (cur st li : Int)
/-- a list of ints that is lent -/
structure Bl where
  xs : List Int
def lI (xs : List Int) : Tr := .l (xs.map fun n => .d (.int n))
/-- the classes' places: Counts, Learner, Context -/
structure Mc where
  c0 : Addr
  c1 : Addr
  c2 : Addr
def tL (c1 : Addr) (ws : List Int) (st li : Int) : Tr := .o c1 [("weights", lI ws), ("step", .d (.int st)), ("limit", .d (.int li))]
def tM (cf : Cf) : Mdl → Tr
  | .c ws => .o (cf.mc 0) [("weights", lI ws)]
  | .l ws st li => tL (cf.mc 1) ws st li
  | .x rows cur st li => .o (cf.mc 2) [("step", .d (.int st)), ("limit", .d (.int li)), ("learners", .l (rows.map fun ws => tL (cf.mc 1) ws st li)), ("current", .d (.int cur))]
/-- things with a tree -/
class Tre (α : Type) where
  tr : Cf → α → Tr
instance : Tre Mdl := ⟨tM⟩
instance : Tre Bl := ⟨fun _ b => lI b.xs⟩
section
variable {α : Type} [Tre α]
/-- lent -/
def RT (cf : Cf) (F O _H : Hp) (v : V) (a : α) : Prop := ∃ fp, Own cf.K F (inFO F O) v (Tre.tr cf a) fp
/-- new -/
def RN (cf : Cf) (F O H : Hp) (v : V) (a : α) : Prop := ∃ fp, Own cf.K F (inO H) v (Tre.tr cf a) fp ∧ fp.Nodup ∧ ∀ p ∈ fp, F p = none ∧ O p = none
end
/-! ### arguments -/
class Ag (α : Type) where
  rel : Cf → Hp → Hp → V → α → Prop
  mono : ∀ {cf : Cf} {F F' O : Hp} {v : V} {a : α}, rel cf F O v a → Le F F' → rel cf F' O v a
  sl : Cf → α → Sl
  ok : ∀ {cf : Cf} {F O : Hp} {v : V} {a : α}, rel cf F O v a → SlOk cf.K F O (some (some v)) (sl cf a)
  no : ∀ (cf : Cf) (a : α), (∀ ds, sl cf a ≠ .ol ds) ∧ (∀ ds, sl cf a ≠ .od ds) ∧ (∀ t, sl cf a ≠ .ow t)
instance {α : Type} [Enc α] : Ag α := ⟨fun cf F _ v a => Dr cf.K F v (toD a), fun h e => Dr.mono e h, fun _ a => .va (toD a), fun h => ⟨_, rfl, h⟩, fun _ _ => ⟨fun _ z => (nomatch z), fun _ z => (nomatch z), fun _ z => (nomatch z)⟩⟩
theorem rt_mono {α : Type} [Tre α] {cf : Cf} {F F' O H H' : Hp} {v : V} {a : α} (h : RT cf F O H v a) (e : Le F F') : RT cf F' O H' v a := let ⟨fp, h⟩ := h; ⟨fp, h.monoFO e (Le.refl O)⟩
instance : Ag Mdl := ⟨fun cf F O v a => RT cf F O F v a, fun h e => rt_mono h e, fun cf a => .bo (tM cf a), fun ⟨fp, h⟩ => ⟨_, fp, rfl, h⟩, fun _ _ => ⟨fun _ z => (nomatch z), fun _ z => (nomatch z), fun _ z => (nomatch z)⟩⟩
instance : Ag Bl := ⟨fun cf F O v a => RT cf F O F v a, fun h e => rt_mono h e, fun _ a => .bo (lI a.xs), fun ⟨fp, h⟩ => ⟨_, fp, rfl, h⟩, fun _ _ => ⟨fun _ z => (nomatch z), fun _ z => (nomatch z), fun _ z => (nomatch z)⟩⟩
instance : Rs Mdl := ⟨fun cf F O H v a => RN cf F O H v a⟩
/-! ### a def's start -/
theorem er_startG {K : PySem.W.Frag} {F O : Hp} {N : List Str} {vs : List V} {ss : List Sl} (h : ∀ (i : Nat) (s : Sl), ss[i]? = some s → ∃ v, vs[i]? = some v ∧ SlOk K F O (some (some v)) s) (hl : vs.length = ss.length) : Er K F O (L2.start N vs) (ss ++ List.replicate (N.length - ss.length) .un) := by
  refine ⟨?_, fun i s e => ?_⟩
  · unfold L2.start
    rw [List.length_append, List.length_append, List.length_map, List.length_replicate, List.length_replicate, hl]
  · by_cases hi : i < ss.length
    · rw [List.getElem?_append_left hi] at e
      obtain ⟨v, hv, r⟩ := h i s e
      unfold L2.start
      rw [List.getElem?_append_left (by rw [List.length_map, hl]; exact hi), List.getElem?_map, hv]
      exact r
    · rw [List.getElem?_append_right (by omega)] at e
      have e2 := List.getElem?_replicate (n := N.length - ss.length) (a := Sl.un) (i := i - ss.length)
      rw [e2] at e
      split at e
      · cases e
        exact trivial
      · cases e
theorem mt_startG {K : PySem.W.Frag} {F O H : Hp} {N : List Str} {vs : List V} {ss : List Sl} (hf : Fm F O H) (h : ∀ (i : Nat) (s : Sl), ss[i]? = some s → ∃ v, vs[i]? = some v ∧ SlOk K F O (some (some v)) s)
    (hno : ∀ s ∈ ss, (∀ ds, s ≠ .ol ds) ∧ (∀ ds, s ≠ .od ds) ∧ (∀ t, s ≠ .ow t)) (hl : vs.length = ss.length) : Mt K F O H (L2.start N vs) (ss ++ List.replicate (N.length - ss.length) .un) := by
  refine ⟨O, Le.refl O, hf, er_startG h hl, ows_none (er_startG h hl) fun s hm => ?_⟩
  rcases List.mem_append.mp hm with hm | hm
  · exact hno s hm
  · rw [List.eq_of_mem_replicate hm]
    exact ⟨fun _ z => (nomatch z), fun _ z => (nomatch z), fun _ z => (nomatch z)⟩
end Kr

/-! KrP: what defs promise whose arguments may be lent objects (printed by genO.py). -/
namespace Kr
open PySem PySem.Spec PyProof.Rows L2
open Enc (toD)
theorem slots_ok1 {K : PySem.W.Frag} {F O : Hp} {v0 : V} {s0 : Sl} (h0 : SlOk K F O (some (some v0)) s0) : ∀ (i : Nat) (s : Sl), ([s0] : List Sl)[i]? = some s → ∃ v, ([v0] : List V)[i]? = some v ∧ SlOk K F O (some (some v)) s := fun i s e => match i, e with
  | 0, rfl => ⟨_, rfl, h0⟩
theorem slots_ok2 {K : PySem.W.Frag} {F O : Hp} {v0 v1 : V} {s0 s1 : Sl} (h0 : SlOk K F O (some (some v0)) s0) (h1 : SlOk K F O (some (some v1)) s1) : ∀ (i : Nat) (s : Sl), ([s0, s1] : List Sl)[i]? = some s → ∃ v, ([v0, v1] : List V)[i]? = some v ∧ SlOk K F O (some (some v)) s := fun i s e => match i, e with
  | 0, rfl => ⟨_, rfl, h0⟩
  | 1, rfl => ⟨_, rfl, h1⟩
theorem slots_ok3 {K : PySem.W.Frag} {F O : Hp} {v0 v1 v2 : V} {s0 s1 s2 : Sl} (h0 : SlOk K F O (some (some v0)) s0) (h1 : SlOk K F O (some (some v1)) s1) (h2 : SlOk K F O (some (some v2)) s2) : ∀ (i : Nat) (s : Sl), ([s0, s1, s2] : List Sl)[i]? = some s → ∃ v, ([v0, v1, v2] : List V)[i]? = some v ∧ SlOk K F O (some (some v)) s := fun i s e => match i, e with
  | 0, rfl => ⟨_, rfl, h0⟩
  | 1, rfl => ⟨_, rfl, h1⟩
  | 2, rfl => ⟨_, rfl, h2⟩
theorem slots_ok4 {K : PySem.W.Frag} {F O : Hp} {v0 v1 v2 v3 : V} {s0 s1 s2 s3 : Sl} (h0 : SlOk K F O (some (some v0)) s0) (h1 : SlOk K F O (some (some v1)) s1) (h2 : SlOk K F O (some (some v2)) s2) (h3 : SlOk K F O (some (some v3)) s3) : ∀ (i : Nat) (s : Sl), ([s0, s1, s2, s3] : List Sl)[i]? = some s → ∃ v, ([v0, v1, v2, v3] : List V)[i]? = some v ∧ SlOk K F O (some (some v)) s := fun i s e => match i, e with
  | 0, rfl => ⟨_, rfl, h0⟩
  | 1, rfl => ⟨_, rfl, h1⟩
  | 2, rfl => ⟨_, rfl, h2⟩
  | 3, rfl => ⟨_, rfl, h3⟩
theorem slots_ok5 {K : PySem.W.Frag} {F O : Hp} {v0 v1 v2 v3 v4 : V} {s0 s1 s2 s3 s4 : Sl} (h0 : SlOk K F O (some (some v0)) s0) (h1 : SlOk K F O (some (some v1)) s1) (h2 : SlOk K F O (some (some v2)) s2) (h3 : SlOk K F O (some (some v3)) s3) (h4 : SlOk K F O (some (some v4)) s4) : ∀ (i : Nat) (s : Sl), ([s0, s1, s2, s3, s4] : List Sl)[i]? = some s → ∃ v, ([v0, v1, v2, v3, v4] : List V)[i]? = some v ∧ SlOk K F O (some (some v)) s := fun i s e => match i, e with
  | 0, rfl => ⟨_, rfl, h0⟩
  | 1, rfl => ⟨_, rfl, h1⟩
  | 2, rfl => ⟨_, rfl, h2⟩
  | 3, rfl => ⟨_, rfl, h3⟩
  | 4, rfl => ⟨_, rfl, h4⟩
theorem slots_ok6 {K : PySem.W.Frag} {F O : Hp} {v0 v1 v2 v3 v4 v5 : V} {s0 s1 s2 s3 s4 s5 : Sl} (h0 : SlOk K F O (some (some v0)) s0) (h1 : SlOk K F O (some (some v1)) s1) (h2 : SlOk K F O (some (some v2)) s2) (h3 : SlOk K F O (some (some v3)) s3) (h4 : SlOk K F O (some (some v4)) s4) (h5 : SlOk K F O (some (some v5)) s5) : ∀ (i : Nat) (s : Sl), ([s0, s1, s2, s3, s4, s5] : List Sl)[i]? = some s → ∃ v, ([v0, v1, v2, v3, v4, v5] : List V)[i]? = some v ∧ SlOk K F O (some (some v)) s := fun i s e => match i, e with
  | 0, rfl => ⟨_, rfl, h0⟩
  | 1, rfl => ⟨_, rfl, h1⟩
  | 2, rfl => ⟨_, rfl, h2⟩
  | 3, rfl => ⟨_, rfl, h3⟩
  | 4, rfl => ⟨_, rfl, h4⟩
  | 5, rfl => ⟨_, rfl, h5⟩
section
variable {α τ : Type} [Ag α] [Rs τ]
def spG1 (cf : Cf) (g : α → R τ) : Sp := fun vs H Q _ => ∃ (F O : Hp) (v0 : V) (x0 : α) (r : τ), vs = [v0] ∧ Fm F O H ∧ Ag.rel cf F O v0 x0 ∧ g x0 = .ok r ∧ ∀ w F' H', Le F F' → Fm F' O H' → Rs.res cf F' O H' w r → Q w H'
def spGX1 (cf : Cf) (g : α → R τ) : Sp := fun vs H Q E => ∃ (F O : Hp) (v0 : V) (x0 : α), vs = [v0] ∧ Fm F O H ∧ Ag.rel cf F O v0 x0 ∧ g x0 ≠ .bad ∧ (∀ r w F' H', g x0 = .ok r → Le F F' → Fm F' O H' → Rs.res cf F' O H' w r → Q w H') ∧ (∀ c p d F' H', g x0 = .er c p → Le F F' → Fm F' O H' → F' d = some (xdO cf c p) → E (.ref (cf.cls c)) (some d) H')
theorem spG1.len {cf : Cf} {g : α → R τ} {ps : List Str} (h : ps.length = 1 := by rfl) : ∀ vs H Q E, spG1 cf g vs H Q E → vs.length = ps.length := fun vs H Q E q => by
  rw [h]
  obtain ⟨F, O, v0, x0, r, q, _⟩ := q
  rw [q]
  rfl
theorem spGX1.len {cf : Cf} {g : α → R τ} {ps : List Str} (h : ps.length = 1 := by rfl) : ∀ vs H Q E, spGX1 cf g vs H Q E → vs.length = ps.length := fun vs H Q E q => by
  rw [h]
  obtain ⟨F, O, v0, x0, q, _⟩ := q
  rw [q]
  rfl
theorem em_callG1 {cf : Cf} {E : XK} {G : List Sl} {t0 : TE} {m0 : R α} {g : α → R τ} (h0 : EG cf E t0 G m0 fun F O _ v a => Ag.rel cf F O v a) : EG cf E (tCall (spG1 cf g) [] E0 (tCons t0 tNil)) G (m0.bind fun x0 => (g x0).pu) (Rs.res cf) := fun F O H σ Q hf he nb ko ke => by
  have le0 : Le F F := Le.refl F
  refine h0 F O H σ _ hf (he.mono le0) (R.bind_nb nb) (fun x0 v0 F1 H1 e0 l0 hf1 r0 => ?_) (fun c' p d' F' H' e' le hf' hd => ke c' p d' F' H' (by rw [e']; rfl) (le0.trans le) hf' hd)
  rw [e0, R.ok_bind] at nb ko ke
  have le1 := le0.trans l0
  obtain ⟨y, ey⟩ := pu_nb nb
  exact ⟨F1, O, v0, x0, y, rfl, hf1, r0, ey, fun w F' H' le hf' hr => ko y w F' H' (by rw [ey]; rfl) (le1.trans le) hf' hr⟩
theorem em_callGX1 {cf : Cf} {E : XK} {G : List Sl} {t0 : TE} {m0 : R α} {g : α → R τ} (h0 : EG cf E t0 G m0 fun F O _ v a => Ag.rel cf F O v a) : EG cf E (tCall (spGX1 cf g) [] E (tCons t0 tNil)) G (m0.bind fun x0 => g x0) (Rs.res cf) := fun F O H σ Q hf he nb ko ke => by
  have le0 : Le F F := Le.refl F
  refine h0 F O H σ _ hf (he.mono le0) (R.bind_nb nb) (fun x0 v0 F1 H1 e0 l0 hf1 r0 => ?_) (fun c' p d' F' H' e' le hf' hd => ke c' p d' F' H' (by rw [e']; rfl) (le0.trans le) hf' hd)
  rw [e0, R.ok_bind] at nb ko ke
  have le1 := le0.trans l0
  exact ⟨F1, O, v0, x0, rfl, hf1, r0, nb, fun r w F' H' e le hf' hr => ko r w F' H' e (le1.trans le) hf' hr, fun c' p d' F' H' e' le hf' hd => ke c' p d' F' H' e' (le1.trans le) hf' hd⟩
theorem em_callGP1 {cf : Cf} {E : XK} {G : List Sl} {t0 : TE} {m0 : R α} {g : α → R τ} (h0 : EG cf E t0 G m0 fun F O _ v a => Ag.rel cf F O v a) : EG cf E (tCall (spGX1 cf g) [] E0 (tCons t0 tNil)) G (m0.bind fun x0 => (g x0).pu) (Rs.res cf) := fun F O H σ Q hf he nb ko ke => by
  have le0 : Le F F := Le.refl F
  refine h0 F O H σ _ hf (he.mono le0) (R.bind_nb nb) (fun x0 v0 F1 H1 e0 l0 hf1 r0 => ?_) (fun c' p d' F' H' e' le hf' hd => ke c' p d' F' H' (by rw [e']; rfl) (le0.trans le) hf' hd)
  rw [e0, R.ok_bind] at nb ko ke
  have le1 := le0.trans l0
  obtain ⟨y, ey⟩ := pu_nb nb
  exact ⟨F1, O, v0, x0, rfl, hf1, r0, fun z => by rw [ey] at z; (cases z), fun r w F' H' e le hf' hr => ko r w F' H' (by rw [e]; rfl) (le1.trans le) hf' hr, fun c' p d' F' H' e' => by rw [ey] at e'; cases e'⟩
theorem fnG1 {P : Program} {w : World} {cf : Cf} {mg : Str → Option Value} {base : Heap} {x qual : Str} {st : Stmt} {f0 : Addr} {fd : FuncData} {N ps : List Str} {k : Nat} {S : Type} {enc : S → List Sl} (F : Fun cf.K x qual st f0 fd) (sc : FnScope N ps (defScope st)) (hp : ps.length = 1) (g : α → R (Fl S τ))
    (G0 : α → List Sl) (hG : ∀ x0, [Ag.sl cf x0] ++ List.replicate (N.length - 1) .un = G0 x0)
    (h : ∀ (cdv : Value) (A : Around) (outer : List Env) (s : Shared) (H : Hp) (E : XK), Room k (A.deeper (envOfC qual (defScope st) s.heap.objs.size f0 cdv)) →
      ∃ t, PSs (cxOf CX0 P w cf.K mg base N qual (defScope st) f0 cdv A outer s H E).nox (defBody st) t ∧ ∀ x0, SB cf E0 t (G0 x0) enc (g x0)) :
    FnOk P w cf.K mg base CX0 (k + 1) f0 fd ps (spG1 cf fun x0 => finR (g x0)) := by
  refine F.ok sc (spG1.len hp) (fun cdv A outer s H vs Q E hr hq => ?_)
  obtain ⟨t, ht, hb⟩ := h cdv A outer s H E hr
  refine ⟨t, ht, ?_⟩
  obtain ⟨F, O, v0, x0, r, rfl, hf, q0, eg, k⟩ := hq
  have hb1 := hb x0
  rw [← hG] at hb1
  replace eg : finR (g x0) = R.ok r := eg
  refine hb1 F O H _ _ (mt_startG (N := N) hf (by exact slots_ok1 (Ag.ok q0)) ?_ ?_) ?_ ?_ ?_ ?_ ?_
  · exact fun s hs => by
      simp only [List.mem_cons, List.not_mem_nil, or_false] at hs
      rcases hs with rfl
      · exact Ag.no cf x0
  · rfl
  · exact fun z => by rw [z] at eg; cases eg
  · exact fun s F' H' σ' e => by rw [e] at eg; cases eg
  · exact fun s F' H' σ' e => by rw [e] at eg; cases eg
  · exact fun r' v F' H' e le hf' hr' => by
      rw [e] at eg
      cases eg
      exact k v F' H' le hf' hr'
  · exact fun c p d F' H' e => by rw [e] at eg; cases eg
theorem fnGX1 {P : Program} {w : World} {cf : Cf} {mg : Str → Option Value} {base : Heap} {x qual : Str} {st : Stmt} {f0 : Addr} {fd : FuncData} {N ps : List Str} {k : Nat} {S : Type} {enc : S → List Sl} (F : Fun cf.K x qual st f0 fd) (sc : FnScope N ps (defScope st)) (hp : ps.length = 1) (g : α → R (Fl S τ))
    (G0 : α → List Sl) (hG : ∀ x0, [Ag.sl cf x0] ++ List.replicate (N.length - 1) .un = G0 x0)
    (h : ∀ (cdv : Value) (A : Around) (outer : List Env) (s : Shared) (H : Hp) (E : XK), Room k (A.deeper (envOfC qual (defScope st) s.heap.objs.size f0 cdv)) →
      ∃ t, PSs (cxOf (L2.CX P w) P w cf.K mg base N qual (defScope st) f0 cdv A outer s H E) (defBody st) t ∧ ∀ x0, SB cf E t (G0 x0) enc (g x0)) :
    FnOk P w cf.K mg base (L2.CX P w) (k + 1) f0 fd ps (spGX1 cf fun x0 => finR (g x0)) := by
  refine F.okX sc (spGX1.len hp) (fun cdv A outer s H vs Q E hr hq => ?_)
  obtain ⟨t, ht, hb⟩ := h cdv A outer s H E hr
  refine ⟨t, ht, ?_⟩
  obtain ⟨F, O, v0, x0, rfl, hf, q0, nb, ko, ke⟩ := hq
  have hb1 := hb x0
  rw [← hG] at hb1
  replace nb : finR (g x0) ≠ R.bad := nb
  replace ko : ∀ (r : τ) (w : V) (F' H' : Hp), finR (g x0) = R.ok r → Le F F' → Fm F' O H' → Rs.res cf F' O H' w r → Q w H' := ko
  replace ke : ∀ (c : Nat) (p : Int) (d : Addr) (F' H' : Hp), finR (g x0) = R.er c p → Le F F' → Fm F' O H' → F' d = some (xdO cf c p) → E (Value.ref (cf.cls c)) (some d) H' := ke
  refine hb1 F O H _ _ (mt_startG (N := N) hf (by exact slots_ok1 (Ag.ok q0)) ?_ ?_) ?_ ?_ ?_ ?_ ?_
  · exact fun s hs => by
      simp only [List.mem_cons, List.not_mem_nil, or_false] at hs
      rcases hs with rfl
      · exact Ag.no cf x0
  · rfl
  · exact fun z => nb (by rw [z]; rfl)
  · exact fun s F' H' σ' e => absurd (by rw [e]; rfl) nb
  · exact fun s F' H' σ' e => absurd (by rw [e]; rfl) nb
  · exact fun r' v F' H' e le hf' hr' => ko r' v F' H' (by rw [e]; rfl) le hf' hr'
  · exact fun c p d F' H' e le hf' hd => ke c p d F' H' (by rw [e]; rfl) le hf' hd
end
section
variable {α β τ : Type} [Ag α] [Ag β] [Rs τ]
def spG2 (cf : Cf) (g : α → β → R τ) : Sp := fun vs H Q _ => ∃ (F O : Hp) (v0 v1 : V) (x0 : α) (x1 : β) (r : τ), vs = [v0, v1] ∧ Fm F O H ∧ Ag.rel cf F O v0 x0 ∧ Ag.rel cf F O v1 x1 ∧ g x0 x1 = .ok r ∧ ∀ w F' H', Le F F' → Fm F' O H' → Rs.res cf F' O H' w r → Q w H'
def spGX2 (cf : Cf) (g : α → β → R τ) : Sp := fun vs H Q E => ∃ (F O : Hp) (v0 v1 : V) (x0 : α) (x1 : β), vs = [v0, v1] ∧ Fm F O H ∧ Ag.rel cf F O v0 x0 ∧ Ag.rel cf F O v1 x1 ∧ g x0 x1 ≠ .bad ∧ (∀ r w F' H', g x0 x1 = .ok r → Le F F' → Fm F' O H' → Rs.res cf F' O H' w r → Q w H') ∧ (∀ c p d F' H', g x0 x1 = .er c p → Le F F' → Fm F' O H' → F' d = some (xdO cf c p) → E (.ref (cf.cls c)) (some d) H')
theorem spG2.len {cf : Cf} {g : α → β → R τ} {ps : List Str} (h : ps.length = 2 := by rfl) : ∀ vs H Q E, spG2 cf g vs H Q E → vs.length = ps.length := fun vs H Q E q => by
  rw [h]
  obtain ⟨F, O, v0, v1, x0, x1, r, q, _⟩ := q
  rw [q]
  rfl
theorem spGX2.len {cf : Cf} {g : α → β → R τ} {ps : List Str} (h : ps.length = 2 := by rfl) : ∀ vs H Q E, spGX2 cf g vs H Q E → vs.length = ps.length := fun vs H Q E q => by
  rw [h]
  obtain ⟨F, O, v0, v1, x0, x1, q, _⟩ := q
  rw [q]
  rfl
theorem em_callG2 {cf : Cf} {E : XK} {G : List Sl} {t0 t1 : TE} {m0 : R α} {m1 : R β} {g : α → β → R τ} (h0 : EG cf E t0 G m0 fun F O _ v a => Ag.rel cf F O v a) (h1 : EG cf E t1 G m1 fun F O _ v a => Ag.rel cf F O v a) : EG cf E (tCall (spG2 cf g) [] E0 (tCons t0 (tCons t1 tNil))) G (m0.bind fun x0 => m1.bind fun x1 => (g x0 x1).pu) (Rs.res cf) := fun F O H σ Q hf he nb ko ke => by
  have le0 : Le F F := Le.refl F
  refine h0 F O H σ _ hf (he.mono le0) (R.bind_nb nb) (fun x0 v0 F1 H1 e0 l0 hf1 r0 => ?_) (fun c' p d' F' H' e' le hf' hd => ke c' p d' F' H' (by rw [e']; rfl) (le0.trans le) hf' hd)
  rw [e0, R.ok_bind] at nb ko ke
  have le1 := le0.trans l0
  refine h1 F1 O H1 σ _ hf1 (he.mono le1) (R.bind_nb nb) (fun x1 v1 F2 H2 e1 l1 hf2 r1 => ?_) (fun c' p d' F' H' e' le hf' hd => ke c' p d' F' H' (by rw [e']; rfl) (le1.trans le) hf' hd)
  rw [e1, R.ok_bind] at nb ko ke
  have le2 := le1.trans l1
  obtain ⟨y, ey⟩ := pu_nb nb
  exact ⟨F2, O, v0, v1, x0, x1, y, rfl, hf2, (Ag.mono r0 l1), r1, ey, fun w F' H' le hf' hr => ko y w F' H' (by rw [ey]; rfl) (le2.trans le) hf' hr⟩
theorem em_callGX2 {cf : Cf} {E : XK} {G : List Sl} {t0 t1 : TE} {m0 : R α} {m1 : R β} {g : α → β → R τ} (h0 : EG cf E t0 G m0 fun F O _ v a => Ag.rel cf F O v a) (h1 : EG cf E t1 G m1 fun F O _ v a => Ag.rel cf F O v a) : EG cf E (tCall (spGX2 cf g) [] E (tCons t0 (tCons t1 tNil))) G (m0.bind fun x0 => m1.bind fun x1 => g x0 x1) (Rs.res cf) := fun F O H σ Q hf he nb ko ke => by
  have le0 : Le F F := Le.refl F
  refine h0 F O H σ _ hf (he.mono le0) (R.bind_nb nb) (fun x0 v0 F1 H1 e0 l0 hf1 r0 => ?_) (fun c' p d' F' H' e' le hf' hd => ke c' p d' F' H' (by rw [e']; rfl) (le0.trans le) hf' hd)
  rw [e0, R.ok_bind] at nb ko ke
  have le1 := le0.trans l0
  refine h1 F1 O H1 σ _ hf1 (he.mono le1) (R.bind_nb nb) (fun x1 v1 F2 H2 e1 l1 hf2 r1 => ?_) (fun c' p d' F' H' e' le hf' hd => ke c' p d' F' H' (by rw [e']; rfl) (le1.trans le) hf' hd)
  rw [e1, R.ok_bind] at nb ko ke
  have le2 := le1.trans l1
  exact ⟨F2, O, v0, v1, x0, x1, rfl, hf2, (Ag.mono r0 l1), r1, nb, fun r w F' H' e le hf' hr => ko r w F' H' e (le2.trans le) hf' hr, fun c' p d' F' H' e' le hf' hd => ke c' p d' F' H' e' (le2.trans le) hf' hd⟩
theorem em_callGP2 {cf : Cf} {E : XK} {G : List Sl} {t0 t1 : TE} {m0 : R α} {m1 : R β} {g : α → β → R τ} (h0 : EG cf E t0 G m0 fun F O _ v a => Ag.rel cf F O v a) (h1 : EG cf E t1 G m1 fun F O _ v a => Ag.rel cf F O v a) : EG cf E (tCall (spGX2 cf g) [] E0 (tCons t0 (tCons t1 tNil))) G (m0.bind fun x0 => m1.bind fun x1 => (g x0 x1).pu) (Rs.res cf) := fun F O H σ Q hf he nb ko ke => by
  have le0 : Le F F := Le.refl F
  refine h0 F O H σ _ hf (he.mono le0) (R.bind_nb nb) (fun x0 v0 F1 H1 e0 l0 hf1 r0 => ?_) (fun c' p d' F' H' e' le hf' hd => ke c' p d' F' H' (by rw [e']; rfl) (le0.trans le) hf' hd)
  rw [e0, R.ok_bind] at nb ko ke
  have le1 := le0.trans l0
  refine h1 F1 O H1 σ _ hf1 (he.mono le1) (R.bind_nb nb) (fun x1 v1 F2 H2 e1 l1 hf2 r1 => ?_) (fun c' p d' F' H' e' le hf' hd => ke c' p d' F' H' (by rw [e']; rfl) (le1.trans le) hf' hd)
  rw [e1, R.ok_bind] at nb ko ke
  have le2 := le1.trans l1
  obtain ⟨y, ey⟩ := pu_nb nb
  exact ⟨F2, O, v0, v1, x0, x1, rfl, hf2, (Ag.mono r0 l1), r1, fun z => by rw [ey] at z; (cases z), fun r w F' H' e le hf' hr => ko r w F' H' (by rw [e]; rfl) (le2.trans le) hf' hr, fun c' p d' F' H' e' => by rw [ey] at e'; cases e'⟩
theorem fnG2 {P : Program} {w : World} {cf : Cf} {mg : Str → Option Value} {base : Heap} {x qual : Str} {st : Stmt} {f0 : Addr} {fd : FuncData} {N ps : List Str} {k : Nat} {S : Type} {enc : S → List Sl} (F : Fun cf.K x qual st f0 fd) (sc : FnScope N ps (defScope st)) (hp : ps.length = 2) (g : α → β → R (Fl S τ))
    (G0 : α → β → List Sl) (hG : ∀ x0 x1, [Ag.sl cf x0, Ag.sl cf x1] ++ List.replicate (N.length - 2) .un = G0 x0 x1)
    (h : ∀ (cdv : Value) (A : Around) (outer : List Env) (s : Shared) (H : Hp) (E : XK), Room k (A.deeper (envOfC qual (defScope st) s.heap.objs.size f0 cdv)) →
      ∃ t, PSs (cxOf CX0 P w cf.K mg base N qual (defScope st) f0 cdv A outer s H E).nox (defBody st) t ∧ ∀ x0 x1, SB cf E0 t (G0 x0 x1) enc (g x0 x1)) :
    FnOk P w cf.K mg base CX0 (k + 1) f0 fd ps (spG2 cf fun x0 x1 => finR (g x0 x1)) := by
  refine F.ok sc (spG2.len hp) (fun cdv A outer s H vs Q E hr hq => ?_)
  obtain ⟨t, ht, hb⟩ := h cdv A outer s H E hr
  refine ⟨t, ht, ?_⟩
  obtain ⟨F, O, v0, v1, x0, x1, r, rfl, hf, q0, q1, eg, k⟩ := hq
  have hb1 := hb x0 x1
  rw [← hG] at hb1
  replace eg : finR (g x0 x1) = R.ok r := eg
  refine hb1 F O H _ _ (mt_startG (N := N) hf (by exact slots_ok2 (Ag.ok q0) (Ag.ok q1)) ?_ ?_) ?_ ?_ ?_ ?_ ?_
  · exact fun s hs => by
      simp only [List.mem_cons, List.not_mem_nil, or_false] at hs
      rcases hs with rfl | rfl
      · exact Ag.no cf x0
      · exact Ag.no cf x1
  · rfl
  · exact fun z => by rw [z] at eg; cases eg
  · exact fun s F' H' σ' e => by rw [e] at eg; cases eg
  · exact fun s F' H' σ' e => by rw [e] at eg; cases eg
  · exact fun r' v F' H' e le hf' hr' => by
      rw [e] at eg
      cases eg
      exact k v F' H' le hf' hr'
  · exact fun c p d F' H' e => by rw [e] at eg; cases eg
theorem fnGX2 {P : Program} {w : World} {cf : Cf} {mg : Str → Option Value} {base : Heap} {x qual : Str} {st : Stmt} {f0 : Addr} {fd : FuncData} {N ps : List Str} {k : Nat} {S : Type} {enc : S → List Sl} (F : Fun cf.K x qual st f0 fd) (sc : FnScope N ps (defScope st)) (hp : ps.length = 2) (g : α → β → R (Fl S τ))
    (G0 : α → β → List Sl) (hG : ∀ x0 x1, [Ag.sl cf x0, Ag.sl cf x1] ++ List.replicate (N.length - 2) .un = G0 x0 x1)
    (h : ∀ (cdv : Value) (A : Around) (outer : List Env) (s : Shared) (H : Hp) (E : XK), Room k (A.deeper (envOfC qual (defScope st) s.heap.objs.size f0 cdv)) →
      ∃ t, PSs (cxOf (L2.CX P w) P w cf.K mg base N qual (defScope st) f0 cdv A outer s H E) (defBody st) t ∧ ∀ x0 x1, SB cf E t (G0 x0 x1) enc (g x0 x1)) :
    FnOk P w cf.K mg base (L2.CX P w) (k + 1) f0 fd ps (spGX2 cf fun x0 x1 => finR (g x0 x1)) := by
  refine F.okX sc (spGX2.len hp) (fun cdv A outer s H vs Q E hr hq => ?_)
  obtain ⟨t, ht, hb⟩ := h cdv A outer s H E hr
  refine ⟨t, ht, ?_⟩
  obtain ⟨F, O, v0, v1, x0, x1, rfl, hf, q0, q1, nb, ko, ke⟩ := hq
  have hb1 := hb x0 x1
  rw [← hG] at hb1
  replace nb : finR (g x0 x1) ≠ R.bad := nb
  replace ko : ∀ (r : τ) (w : V) (F' H' : Hp), finR (g x0 x1) = R.ok r → Le F F' → Fm F' O H' → Rs.res cf F' O H' w r → Q w H' := ko
  replace ke : ∀ (c : Nat) (p : Int) (d : Addr) (F' H' : Hp), finR (g x0 x1) = R.er c p → Le F F' → Fm F' O H' → F' d = some (xdO cf c p) → E (Value.ref (cf.cls c)) (some d) H' := ke
  refine hb1 F O H _ _ (mt_startG (N := N) hf (by exact slots_ok2 (Ag.ok q0) (Ag.ok q1)) ?_ ?_) ?_ ?_ ?_ ?_ ?_
  · exact fun s hs => by
      simp only [List.mem_cons, List.not_mem_nil, or_false] at hs
      rcases hs with rfl | rfl
      · exact Ag.no cf x0
      · exact Ag.no cf x1
  · rfl
  · exact fun z => nb (by rw [z]; rfl)
  · exact fun s F' H' σ' e => absurd (by rw [e]; rfl) nb
  · exact fun s F' H' σ' e => absurd (by rw [e]; rfl) nb
  · exact fun r' v F' H' e le hf' hr' => ko r' v F' H' (by rw [e]; rfl) le hf' hr'
  · exact fun c p d F' H' e le hf' hd => ke c p d F' H' (by rw [e]; rfl) le hf' hd
end
section
variable {α β γ τ : Type} [Ag α] [Ag β] [Ag γ] [Rs τ]
def spG3 (cf : Cf) (g : α → β → γ → R τ) : Sp := fun vs H Q _ => ∃ (F O : Hp) (v0 v1 v2 : V) (x0 : α) (x1 : β) (x2 : γ) (r : τ), vs = [v0, v1, v2] ∧ Fm F O H ∧ Ag.rel cf F O v0 x0 ∧ Ag.rel cf F O v1 x1 ∧ Ag.rel cf F O v2 x2 ∧ g x0 x1 x2 = .ok r ∧ ∀ w F' H', Le F F' → Fm F' O H' → Rs.res cf F' O H' w r → Q w H'
def spGX3 (cf : Cf) (g : α → β → γ → R τ) : Sp := fun vs H Q E => ∃ (F O : Hp) (v0 v1 v2 : V) (x0 : α) (x1 : β) (x2 : γ), vs = [v0, v1, v2] ∧ Fm F O H ∧ Ag.rel cf F O v0 x0 ∧ Ag.rel cf F O v1 x1 ∧ Ag.rel cf F O v2 x2 ∧ g x0 x1 x2 ≠ .bad ∧ (∀ r w F' H', g x0 x1 x2 = .ok r → Le F F' → Fm F' O H' → Rs.res cf F' O H' w r → Q w H') ∧ (∀ c p d F' H', g x0 x1 x2 = .er c p → Le F F' → Fm F' O H' → F' d = some (xdO cf c p) → E (.ref (cf.cls c)) (some d) H')
theorem spG3.len {cf : Cf} {g : α → β → γ → R τ} {ps : List Str} (h : ps.length = 3 := by rfl) : ∀ vs H Q E, spG3 cf g vs H Q E → vs.length = ps.length := fun vs H Q E q => by
  rw [h]
  obtain ⟨F, O, v0, v1, v2, x0, x1, x2, r, q, _⟩ := q
  rw [q]
  rfl
theorem spGX3.len {cf : Cf} {g : α → β → γ → R τ} {ps : List Str} (h : ps.length = 3 := by rfl) : ∀ vs H Q E, spGX3 cf g vs H Q E → vs.length = ps.length := fun vs H Q E q => by
  rw [h]
  obtain ⟨F, O, v0, v1, v2, x0, x1, x2, q, _⟩ := q
  rw [q]
  rfl
theorem em_callG3 {cf : Cf} {E : XK} {G : List Sl} {t0 t1 t2 : TE} {m0 : R α} {m1 : R β} {m2 : R γ} {g : α → β → γ → R τ} (h0 : EG cf E t0 G m0 fun F O _ v a => Ag.rel cf F O v a) (h1 : EG cf E t1 G m1 fun F O _ v a => Ag.rel cf F O v a) (h2 : EG cf E t2 G m2 fun F O _ v a => Ag.rel cf F O v a) : EG cf E (tCall (spG3 cf g) [] E0 (tCons t0 (tCons t1 (tCons t2 tNil)))) G (m0.bind fun x0 => m1.bind fun x1 => m2.bind fun x2 => (g x0 x1 x2).pu) (Rs.res cf) := fun F O H σ Q hf he nb ko ke => by
  have le0 : Le F F := Le.refl F
  refine h0 F O H σ _ hf (he.mono le0) (R.bind_nb nb) (fun x0 v0 F1 H1 e0 l0 hf1 r0 => ?_) (fun c' p d' F' H' e' le hf' hd => ke c' p d' F' H' (by rw [e']; rfl) (le0.trans le) hf' hd)
  rw [e0, R.ok_bind] at nb ko ke
  have le1 := le0.trans l0
  refine h1 F1 O H1 σ _ hf1 (he.mono le1) (R.bind_nb nb) (fun x1 v1 F2 H2 e1 l1 hf2 r1 => ?_) (fun c' p d' F' H' e' le hf' hd => ke c' p d' F' H' (by rw [e']; rfl) (le1.trans le) hf' hd)
  rw [e1, R.ok_bind] at nb ko ke
  have le2 := le1.trans l1
  refine h2 F2 O H2 σ _ hf2 (he.mono le2) (R.bind_nb nb) (fun x2 v2 F3 H3 e2 l2 hf3 r2 => ?_) (fun c' p d' F' H' e' le hf' hd => ke c' p d' F' H' (by rw [e']; rfl) (le2.trans le) hf' hd)
  rw [e2, R.ok_bind] at nb ko ke
  have le3 := le2.trans l2
  obtain ⟨y, ey⟩ := pu_nb nb
  exact ⟨F3, O, v0, v1, v2, x0, x1, x2, y, rfl, hf3, (Ag.mono (Ag.mono r0 l1) l2), (Ag.mono r1 l2), r2, ey, fun w F' H' le hf' hr => ko y w F' H' (by rw [ey]; rfl) (le3.trans le) hf' hr⟩
theorem em_callGX3 {cf : Cf} {E : XK} {G : List Sl} {t0 t1 t2 : TE} {m0 : R α} {m1 : R β} {m2 : R γ} {g : α → β → γ → R τ} (h0 : EG cf E t0 G m0 fun F O _ v a => Ag.rel cf F O v a) (h1 : EG cf E t1 G m1 fun F O _ v a => Ag.rel cf F O v a) (h2 : EG cf E t2 G m2 fun F O _ v a => Ag.rel cf F O v a) : EG cf E (tCall (spGX3 cf g) [] E (tCons t0 (tCons t1 (tCons t2 tNil)))) G (m0.bind fun x0 => m1.bind fun x1 => m2.bind fun x2 => g x0 x1 x2) (Rs.res cf) := fun F O H σ Q hf he nb ko ke => by
  have le0 : Le F F := Le.refl F
  refine h0 F O H σ _ hf (he.mono le0) (R.bind_nb nb) (fun x0 v0 F1 H1 e0 l0 hf1 r0 => ?_) (fun c' p d' F' H' e' le hf' hd => ke c' p d' F' H' (by rw [e']; rfl) (le0.trans le) hf' hd)
  rw [e0, R.ok_bind] at nb ko ke
  have le1 := le0.trans l0
  refine h1 F1 O H1 σ _ hf1 (he.mono le1) (R.bind_nb nb) (fun x1 v1 F2 H2 e1 l1 hf2 r1 => ?_) (fun c' p d' F' H' e' le hf' hd => ke c' p d' F' H' (by rw [e']; rfl) (le1.trans le) hf' hd)
  rw [e1, R.ok_bind] at nb ko ke
  have le2 := le1.trans l1
  refine h2 F2 O H2 σ _ hf2 (he.mono le2) (R.bind_nb nb) (fun x2 v2 F3 H3 e2 l2 hf3 r2 => ?_) (fun c' p d' F' H' e' le hf' hd => ke c' p d' F' H' (by rw [e']; rfl) (le2.trans le) hf' hd)
  rw [e2, R.ok_bind] at nb ko ke
  have le3 := le2.trans l2
  exact ⟨F3, O, v0, v1, v2, x0, x1, x2, rfl, hf3, (Ag.mono (Ag.mono r0 l1) l2), (Ag.mono r1 l2), r2, nb, fun r w F' H' e le hf' hr => ko r w F' H' e (le3.trans le) hf' hr, fun c' p d' F' H' e' le hf' hd => ke c' p d' F' H' e' (le3.trans le) hf' hd⟩
theorem em_callGP3 {cf : Cf} {E : XK} {G : List Sl} {t0 t1 t2 : TE} {m0 : R α} {m1 : R β} {m2 : R γ} {g : α → β → γ → R τ} (h0 : EG cf E t0 G m0 fun F O _ v a => Ag.rel cf F O v a) (h1 : EG cf E t1 G m1 fun F O _ v a => Ag.rel cf F O v a) (h2 : EG cf E t2 G m2 fun F O _ v a => Ag.rel cf F O v a) : EG cf E (tCall (spGX3 cf g) [] E0 (tCons t0 (tCons t1 (tCons t2 tNil)))) G (m0.bind fun x0 => m1.bind fun x1 => m2.bind fun x2 => (g x0 x1 x2).pu) (Rs.res cf) := fun F O H σ Q hf he nb ko ke => by
  have le0 : Le F F := Le.refl F
  refine h0 F O H σ _ hf (he.mono le0) (R.bind_nb nb) (fun x0 v0 F1 H1 e0 l0 hf1 r0 => ?_) (fun c' p d' F' H' e' le hf' hd => ke c' p d' F' H' (by rw [e']; rfl) (le0.trans le) hf' hd)
  rw [e0, R.ok_bind] at nb ko ke
  have le1 := le0.trans l0
  refine h1 F1 O H1 σ _ hf1 (he.mono le1) (R.bind_nb nb) (fun x1 v1 F2 H2 e1 l1 hf2 r1 => ?_) (fun c' p d' F' H' e' le hf' hd => ke c' p d' F' H' (by rw [e']; rfl) (le1.trans le) hf' hd)
  rw [e1, R.ok_bind] at nb ko ke
  have le2 := le1.trans l1
  refine h2 F2 O H2 σ _ hf2 (he.mono le2) (R.bind_nb nb) (fun x2 v2 F3 H3 e2 l2 hf3 r2 => ?_) (fun c' p d' F' H' e' le hf' hd => ke c' p d' F' H' (by rw [e']; rfl) (le2.trans le) hf' hd)
  rw [e2, R.ok_bind] at nb ko ke
  have le3 := le2.trans l2
  obtain ⟨y, ey⟩ := pu_nb nb
  exact ⟨F3, O, v0, v1, v2, x0, x1, x2, rfl, hf3, (Ag.mono (Ag.mono r0 l1) l2), (Ag.mono r1 l2), r2, fun z => by rw [ey] at z; (cases z), fun r w F' H' e le hf' hr => ko r w F' H' (by rw [e]; rfl) (le3.trans le) hf' hr, fun c' p d' F' H' e' => by rw [ey] at e'; cases e'⟩
theorem fnG3 {P : Program} {w : World} {cf : Cf} {mg : Str → Option Value} {base : Heap} {x qual : Str} {st : Stmt} {f0 : Addr} {fd : FuncData} {N ps : List Str} {k : Nat} {S : Type} {enc : S → List Sl} (F : Fun cf.K x qual st f0 fd) (sc : FnScope N ps (defScope st)) (hp : ps.length = 3) (g : α → β → γ → R (Fl S τ))
    (G0 : α → β → γ → List Sl) (hG : ∀ x0 x1 x2, [Ag.sl cf x0, Ag.sl cf x1, Ag.sl cf x2] ++ List.replicate (N.length - 3) .un = G0 x0 x1 x2)
    (h : ∀ (cdv : Value) (A : Around) (outer : List Env) (s : Shared) (H : Hp) (E : XK), Room k (A.deeper (envOfC qual (defScope st) s.heap.objs.size f0 cdv)) →
      ∃ t, PSs (cxOf CX0 P w cf.K mg base N qual (defScope st) f0 cdv A outer s H E).nox (defBody st) t ∧ ∀ x0 x1 x2, SB cf E0 t (G0 x0 x1 x2) enc (g x0 x1 x2)) :
    FnOk P w cf.K mg base CX0 (k + 1) f0 fd ps (spG3 cf fun x0 x1 x2 => finR (g x0 x1 x2)) := by
  refine F.ok sc (spG3.len hp) (fun cdv A outer s H vs Q E hr hq => ?_)
  obtain ⟨t, ht, hb⟩ := h cdv A outer s H E hr
  refine ⟨t, ht, ?_⟩
  obtain ⟨F, O, v0, v1, v2, x0, x1, x2, r, rfl, hf, q0, q1, q2, eg, k⟩ := hq
  have hb1 := hb x0 x1 x2
  rw [← hG] at hb1
  replace eg : finR (g x0 x1 x2) = R.ok r := eg
  refine hb1 F O H _ _ (mt_startG (N := N) hf (by exact slots_ok3 (Ag.ok q0) (Ag.ok q1) (Ag.ok q2)) ?_ ?_) ?_ ?_ ?_ ?_ ?_
  · exact fun s hs => by
      simp only [List.mem_cons, List.not_mem_nil, or_false] at hs
      rcases hs with rfl | rfl | rfl
      · exact Ag.no cf x0
      · exact Ag.no cf x1
      · exact Ag.no cf x2
  · rfl
  · exact fun z => by rw [z] at eg; cases eg
  · exact fun s F' H' σ' e => by rw [e] at eg; cases eg
  · exact fun s F' H' σ' e => by rw [e] at eg; cases eg
  · exact fun r' v F' H' e le hf' hr' => by
      rw [e] at eg
      cases eg
      exact k v F' H' le hf' hr'
  · exact fun c p d F' H' e => by rw [e] at eg; cases eg
theorem fnGX3 {P : Program} {w : World} {cf : Cf} {mg : Str → Option Value} {base : Heap} {x qual : Str} {st : Stmt} {f0 : Addr} {fd : FuncData} {N ps : List Str} {k : Nat} {S : Type} {enc : S → List Sl} (F : Fun cf.K x qual st f0 fd) (sc : FnScope N ps (defScope st)) (hp : ps.length = 3) (g : α → β → γ → R (Fl S τ))
    (G0 : α → β → γ → List Sl) (hG : ∀ x0 x1 x2, [Ag.sl cf x0, Ag.sl cf x1, Ag.sl cf x2] ++ List.replicate (N.length - 3) .un = G0 x0 x1 x2)
    (h : ∀ (cdv : Value) (A : Around) (outer : List Env) (s : Shared) (H : Hp) (E : XK), Room k (A.deeper (envOfC qual (defScope st) s.heap.objs.size f0 cdv)) →
      ∃ t, PSs (cxOf (L2.CX P w) P w cf.K mg base N qual (defScope st) f0 cdv A outer s H E) (defBody st) t ∧ ∀ x0 x1 x2, SB cf E t (G0 x0 x1 x2) enc (g x0 x1 x2)) :
    FnOk P w cf.K mg base (L2.CX P w) (k + 1) f0 fd ps (spGX3 cf fun x0 x1 x2 => finR (g x0 x1 x2)) := by
  refine F.okX sc (spGX3.len hp) (fun cdv A outer s H vs Q E hr hq => ?_)
  obtain ⟨t, ht, hb⟩ := h cdv A outer s H E hr
  refine ⟨t, ht, ?_⟩
  obtain ⟨F, O, v0, v1, v2, x0, x1, x2, rfl, hf, q0, q1, q2, nb, ko, ke⟩ := hq
  have hb1 := hb x0 x1 x2
  rw [← hG] at hb1
  replace nb : finR (g x0 x1 x2) ≠ R.bad := nb
  replace ko : ∀ (r : τ) (w : V) (F' H' : Hp), finR (g x0 x1 x2) = R.ok r → Le F F' → Fm F' O H' → Rs.res cf F' O H' w r → Q w H' := ko
  replace ke : ∀ (c : Nat) (p : Int) (d : Addr) (F' H' : Hp), finR (g x0 x1 x2) = R.er c p → Le F F' → Fm F' O H' → F' d = some (xdO cf c p) → E (Value.ref (cf.cls c)) (some d) H' := ke
  refine hb1 F O H _ _ (mt_startG (N := N) hf (by exact slots_ok3 (Ag.ok q0) (Ag.ok q1) (Ag.ok q2)) ?_ ?_) ?_ ?_ ?_ ?_ ?_
  · exact fun s hs => by
      simp only [List.mem_cons, List.not_mem_nil, or_false] at hs
      rcases hs with rfl | rfl | rfl
      · exact Ag.no cf x0
      · exact Ag.no cf x1
      · exact Ag.no cf x2
  · rfl
  · exact fun z => nb (by rw [z]; rfl)
  · exact fun s F' H' σ' e => absurd (by rw [e]; rfl) nb
  · exact fun s F' H' σ' e => absurd (by rw [e]; rfl) nb
  · exact fun r' v F' H' e le hf' hr' => ko r' v F' H' (by rw [e]; rfl) le hf' hr'
  · exact fun c p d F' H' e le hf' hd => ke c p d F' H' (by rw [e]; rfl) le hf' hd
end
section
variable {α β γ δ τ : Type} [Ag α] [Ag β] [Ag γ] [Ag δ] [Rs τ]
def spG4 (cf : Cf) (g : α → β → γ → δ → R τ) : Sp := fun vs H Q _ => ∃ (F O : Hp) (v0 v1 v2 v3 : V) (x0 : α) (x1 : β) (x2 : γ) (x3 : δ) (r : τ), vs = [v0, v1, v2, v3] ∧ Fm F O H ∧ Ag.rel cf F O v0 x0 ∧ Ag.rel cf F O v1 x1 ∧ Ag.rel cf F O v2 x2 ∧ Ag.rel cf F O v3 x3 ∧ g x0 x1 x2 x3 = .ok r ∧ ∀ w F' H', Le F F' → Fm F' O H' → Rs.res cf F' O H' w r → Q w H'
def spGX4 (cf : Cf) (g : α → β → γ → δ → R τ) : Sp := fun vs H Q E => ∃ (F O : Hp) (v0 v1 v2 v3 : V) (x0 : α) (x1 : β) (x2 : γ) (x3 : δ), vs = [v0, v1, v2, v3] ∧ Fm F O H ∧ Ag.rel cf F O v0 x0 ∧ Ag.rel cf F O v1 x1 ∧ Ag.rel cf F O v2 x2 ∧ Ag.rel cf F O v3 x3 ∧ g x0 x1 x2 x3 ≠ .bad ∧ (∀ r w F' H', g x0 x1 x2 x3 = .ok r → Le F F' → Fm F' O H' → Rs.res cf F' O H' w r → Q w H') ∧ (∀ c p d F' H', g x0 x1 x2 x3 = .er c p → Le F F' → Fm F' O H' → F' d = some (xdO cf c p) → E (.ref (cf.cls c)) (some d) H')
theorem spG4.len {cf : Cf} {g : α → β → γ → δ → R τ} {ps : List Str} (h : ps.length = 4 := by rfl) : ∀ vs H Q E, spG4 cf g vs H Q E → vs.length = ps.length := fun vs H Q E q => by
  rw [h]
  obtain ⟨F, O, v0, v1, v2, v3, x0, x1, x2, x3, r, q, _⟩ := q
  rw [q]
  rfl
theorem spGX4.len {cf : Cf} {g : α → β → γ → δ → R τ} {ps : List Str} (h : ps.length = 4 := by rfl) : ∀ vs H Q E, spGX4 cf g vs H Q E → vs.length = ps.length := fun vs H Q E q => by
  rw [h]
  obtain ⟨F, O, v0, v1, v2, v3, x0, x1, x2, x3, q, _⟩ := q
  rw [q]
  rfl
theorem em_callG4 {cf : Cf} {E : XK} {G : List Sl} {t0 t1 t2 t3 : TE} {m0 : R α} {m1 : R β} {m2 : R γ} {m3 : R δ} {g : α → β → γ → δ → R τ} (h0 : EG cf E t0 G m0 fun F O _ v a => Ag.rel cf F O v a) (h1 : EG cf E t1 G m1 fun F O _ v a => Ag.rel cf F O v a) (h2 : EG cf E t2 G m2 fun F O _ v a => Ag.rel cf F O v a) (h3 : EG cf E t3 G m3 fun F O _ v a => Ag.rel cf F O v a) : EG cf E (tCall (spG4 cf g) [] E0 (tCons t0 (tCons t1 (tCons t2 (tCons t3 tNil))))) G (m0.bind fun x0 => m1.bind fun x1 => m2.bind fun x2 => m3.bind fun x3 => (g x0 x1 x2 x3).pu) (Rs.res cf) := fun F O H σ Q hf he nb ko ke => by
  have le0 : Le F F := Le.refl F
  refine h0 F O H σ _ hf (he.mono le0) (R.bind_nb nb) (fun x0 v0 F1 H1 e0 l0 hf1 r0 => ?_) (fun c' p d' F' H' e' le hf' hd => ke c' p d' F' H' (by rw [e']; rfl) (le0.trans le) hf' hd)
  rw [e0, R.ok_bind] at nb ko ke
  have le1 := le0.trans l0
  refine h1 F1 O H1 σ _ hf1 (he.mono le1) (R.bind_nb nb) (fun x1 v1 F2 H2 e1 l1 hf2 r1 => ?_) (fun c' p d' F' H' e' le hf' hd => ke c' p d' F' H' (by rw [e']; rfl) (le1.trans le) hf' hd)
  rw [e1, R.ok_bind] at nb ko ke
  have le2 := le1.trans l1
  refine h2 F2 O H2 σ _ hf2 (he.mono le2) (R.bind_nb nb) (fun x2 v2 F3 H3 e2 l2 hf3 r2 => ?_) (fun c' p d' F' H' e' le hf' hd => ke c' p d' F' H' (by rw [e']; rfl) (le2.trans le) hf' hd)
  rw [e2, R.ok_bind] at nb ko ke
  have le3 := le2.trans l2
  refine h3 F3 O H3 σ _ hf3 (he.mono le3) (R.bind_nb nb) (fun x3 v3 F4 H4 e3 l3 hf4 r3 => ?_) (fun c' p d' F' H' e' le hf' hd => ke c' p d' F' H' (by rw [e']; rfl) (le3.trans le) hf' hd)
  rw [e3, R.ok_bind] at nb ko ke
  have le4 := le3.trans l3
  obtain ⟨y, ey⟩ := pu_nb nb
  exact ⟨F4, O, v0, v1, v2, v3, x0, x1, x2, x3, y, rfl, hf4, (Ag.mono (Ag.mono (Ag.mono r0 l1) l2) l3), (Ag.mono (Ag.mono r1 l2) l3), (Ag.mono r2 l3), r3, ey, fun w F' H' le hf' hr => ko y w F' H' (by rw [ey]; rfl) (le4.trans le) hf' hr⟩
theorem em_callGX4 {cf : Cf} {E : XK} {G : List Sl} {t0 t1 t2 t3 : TE} {m0 : R α} {m1 : R β} {m2 : R γ} {m3 : R δ} {g : α → β → γ → δ → R τ} (h0 : EG cf E t0 G m0 fun F O _ v a => Ag.rel cf F O v a) (h1 : EG cf E t1 G m1 fun F O _ v a => Ag.rel cf F O v a) (h2 : EG cf E t2 G m2 fun F O _ v a => Ag.rel cf F O v a) (h3 : EG cf E t3 G m3 fun F O _ v a => Ag.rel cf F O v a) : EG cf E (tCall (spGX4 cf g) [] E (tCons t0 (tCons t1 (tCons t2 (tCons t3 tNil))))) G (m0.bind fun x0 => m1.bind fun x1 => m2.bind fun x2 => m3.bind fun x3 => g x0 x1 x2 x3) (Rs.res cf) := fun F O H σ Q hf he nb ko ke => by
  have le0 : Le F F := Le.refl F
  refine h0 F O H σ _ hf (he.mono le0) (R.bind_nb nb) (fun x0 v0 F1 H1 e0 l0 hf1 r0 => ?_) (fun c' p d' F' H' e' le hf' hd => ke c' p d' F' H' (by rw [e']; rfl) (le0.trans le) hf' hd)
  rw [e0, R.ok_bind] at nb ko ke
  have le1 := le0.trans l0
  refine h1 F1 O H1 σ _ hf1 (he.mono le1) (R.bind_nb nb) (fun x1 v1 F2 H2 e1 l1 hf2 r1 => ?_) (fun c' p d' F' H' e' le hf' hd => ke c' p d' F' H' (by rw [e']; rfl) (le1.trans le) hf' hd)
  rw [e1, R.ok_bind] at nb ko ke
  have le2 := le1.trans l1
  refine h2 F2 O H2 σ _ hf2 (he.mono le2) (R.bind_nb nb) (fun x2 v2 F3 H3 e2 l2 hf3 r2 => ?_) (fun c' p d' F' H' e' le hf' hd => ke c' p d' F' H' (by rw [e']; rfl) (le2.trans le) hf' hd)
  rw [e2, R.ok_bind] at nb ko ke
  have le3 := le2.trans l2
  refine h3 F3 O H3 σ _ hf3 (he.mono le3) (R.bind_nb nb) (fun x3 v3 F4 H4 e3 l3 hf4 r3 => ?_) (fun c' p d' F' H' e' le hf' hd => ke c' p d' F' H' (by rw [e']; rfl) (le3.trans le) hf' hd)
  rw [e3, R.ok_bind] at nb ko ke
  have le4 := le3.trans l3
  exact ⟨F4, O, v0, v1, v2, v3, x0, x1, x2, x3, rfl, hf4, (Ag.mono (Ag.mono (Ag.mono r0 l1) l2) l3), (Ag.mono (Ag.mono r1 l2) l3), (Ag.mono r2 l3), r3, nb, fun r w F' H' e le hf' hr => ko r w F' H' e (le4.trans le) hf' hr, fun c' p d' F' H' e' le hf' hd => ke c' p d' F' H' e' (le4.trans le) hf' hd⟩
theorem em_callGP4 {cf : Cf} {E : XK} {G : List Sl} {t0 t1 t2 t3 : TE} {m0 : R α} {m1 : R β} {m2 : R γ} {m3 : R δ} {g : α → β → γ → δ → R τ} (h0 : EG cf E t0 G m0 fun F O _ v a => Ag.rel cf F O v a) (h1 : EG cf E t1 G m1 fun F O _ v a => Ag.rel cf F O v a) (h2 : EG cf E t2 G m2 fun F O _ v a => Ag.rel cf F O v a) (h3 : EG cf E t3 G m3 fun F O _ v a => Ag.rel cf F O v a) : EG cf E (tCall (spGX4 cf g) [] E0 (tCons t0 (tCons t1 (tCons t2 (tCons t3 tNil))))) G (m0.bind fun x0 => m1.bind fun x1 => m2.bind fun x2 => m3.bind fun x3 => (g x0 x1 x2 x3).pu) (Rs.res cf) := fun F O H σ Q hf he nb ko ke => by
  have le0 : Le F F := Le.refl F
  refine h0 F O H σ _ hf (he.mono le0) (R.bind_nb nb) (fun x0 v0 F1 H1 e0 l0 hf1 r0 => ?_) (fun c' p d' F' H' e' le hf' hd => ke c' p d' F' H' (by rw [e']; rfl) (le0.trans le) hf' hd)
  rw [e0, R.ok_bind] at nb ko ke
  have le1 := le0.trans l0
  refine h1 F1 O H1 σ _ hf1 (he.mono le1) (R.bind_nb nb) (fun x1 v1 F2 H2 e1 l1 hf2 r1 => ?_) (fun c' p d' F' H' e' le hf' hd => ke c' p d' F' H' (by rw [e']; rfl) (le1.trans le) hf' hd)
  rw [e1, R.ok_bind] at nb ko ke
  have le2 := le1.trans l1
  refine h2 F2 O H2 σ _ hf2 (he.mono le2) (R.bind_nb nb) (fun x2 v2 F3 H3 e2 l2 hf3 r2 => ?_) (fun c' p d' F' H' e' le hf' hd => ke c' p d' F' H' (by rw [e']; rfl) (le2.trans le) hf' hd)
  rw [e2, R.ok_bind] at nb ko ke
  have le3 := le2.trans l2
  refine h3 F3 O H3 σ _ hf3 (he.mono le3) (R.bind_nb nb) (fun x3 v3 F4 H4 e3 l3 hf4 r3 => ?_) (fun c' p d' F' H' e' le hf' hd => ke c' p d' F' H' (by rw [e']; rfl) (le3.trans le) hf' hd)
  rw [e3, R.ok_bind] at nb ko ke
  have le4 := le3.trans l3
  obtain ⟨y, ey⟩ := pu_nb nb
  exact ⟨F4, O, v0, v1, v2, v3, x0, x1, x2, x3, rfl, hf4, (Ag.mono (Ag.mono (Ag.mono r0 l1) l2) l3), (Ag.mono (Ag.mono r1 l2) l3), (Ag.mono r2 l3), r3, fun z => by rw [ey] at z; (cases z), fun r w F' H' e le hf' hr => ko r w F' H' (by rw [e]; rfl) (le4.trans le) hf' hr, fun c' p d' F' H' e' => by rw [ey] at e'; cases e'⟩
theorem fnG4 {P : Program} {w : World} {cf : Cf} {mg : Str → Option Value} {base : Heap} {x qual : Str} {st : Stmt} {f0 : Addr} {fd : FuncData} {N ps : List Str} {k : Nat} {S : Type} {enc : S → List Sl} (F : Fun cf.K x qual st f0 fd) (sc : FnScope N ps (defScope st)) (hp : ps.length = 4) (g : α → β → γ → δ → R (Fl S τ))
    (G0 : α → β → γ → δ → List Sl) (hG : ∀ x0 x1 x2 x3, [Ag.sl cf x0, Ag.sl cf x1, Ag.sl cf x2, Ag.sl cf x3] ++ List.replicate (N.length - 4) .un = G0 x0 x1 x2 x3)
    (h : ∀ (cdv : Value) (A : Around) (outer : List Env) (s : Shared) (H : Hp) (E : XK), Room k (A.deeper (envOfC qual (defScope st) s.heap.objs.size f0 cdv)) →
      ∃ t, PSs (cxOf CX0 P w cf.K mg base N qual (defScope st) f0 cdv A outer s H E).nox (defBody st) t ∧ ∀ x0 x1 x2 x3, SB cf E0 t (G0 x0 x1 x2 x3) enc (g x0 x1 x2 x3)) :
    FnOk P w cf.K mg base CX0 (k + 1) f0 fd ps (spG4 cf fun x0 x1 x2 x3 => finR (g x0 x1 x2 x3)) := by
  refine F.ok sc (spG4.len hp) (fun cdv A outer s H vs Q E hr hq => ?_)
  obtain ⟨t, ht, hb⟩ := h cdv A outer s H E hr
  refine ⟨t, ht, ?_⟩
  obtain ⟨F, O, v0, v1, v2, v3, x0, x1, x2, x3, r, rfl, hf, q0, q1, q2, q3, eg, k⟩ := hq
  have hb1 := hb x0 x1 x2 x3
  rw [← hG] at hb1
  replace eg : finR (g x0 x1 x2 x3) = R.ok r := eg
  refine hb1 F O H _ _ (mt_startG (N := N) hf (by exact slots_ok4 (Ag.ok q0) (Ag.ok q1) (Ag.ok q2) (Ag.ok q3)) ?_ ?_) ?_ ?_ ?_ ?_ ?_
  · exact fun s hs => by
      simp only [List.mem_cons, List.not_mem_nil, or_false] at hs
      rcases hs with rfl | rfl | rfl | rfl
      · exact Ag.no cf x0
      · exact Ag.no cf x1
      · exact Ag.no cf x2
      · exact Ag.no cf x3
  · rfl
  · exact fun z => by rw [z] at eg; cases eg
  · exact fun s F' H' σ' e => by rw [e] at eg; cases eg
  · exact fun s F' H' σ' e => by rw [e] at eg; cases eg
  · exact fun r' v F' H' e le hf' hr' => by
      rw [e] at eg
      cases eg
      exact k v F' H' le hf' hr'
  · exact fun c p d F' H' e => by rw [e] at eg; cases eg
theorem fnGX4 {P : Program} {w : World} {cf : Cf} {mg : Str → Option Value} {base : Heap} {x qual : Str} {st : Stmt} {f0 : Addr} {fd : FuncData} {N ps : List Str} {k : Nat} {S : Type} {enc : S → List Sl} (F : Fun cf.K x qual st f0 fd) (sc : FnScope N ps (defScope st)) (hp : ps.length = 4) (g : α → β → γ → δ → R (Fl S τ))
    (G0 : α → β → γ → δ → List Sl) (hG : ∀ x0 x1 x2 x3, [Ag.sl cf x0, Ag.sl cf x1, Ag.sl cf x2, Ag.sl cf x3] ++ List.replicate (N.length - 4) .un = G0 x0 x1 x2 x3)
    (h : ∀ (cdv : Value) (A : Around) (outer : List Env) (s : Shared) (H : Hp) (E : XK), Room k (A.deeper (envOfC qual (defScope st) s.heap.objs.size f0 cdv)) →
      ∃ t, PSs (cxOf (L2.CX P w) P w cf.K mg base N qual (defScope st) f0 cdv A outer s H E) (defBody st) t ∧ ∀ x0 x1 x2 x3, SB cf E t (G0 x0 x1 x2 x3) enc (g x0 x1 x2 x3)) :
    FnOk P w cf.K mg base (L2.CX P w) (k + 1) f0 fd ps (spGX4 cf fun x0 x1 x2 x3 => finR (g x0 x1 x2 x3)) := by
  refine F.okX sc (spGX4.len hp) (fun cdv A outer s H vs Q E hr hq => ?_)
  obtain ⟨t, ht, hb⟩ := h cdv A outer s H E hr
  refine ⟨t, ht, ?_⟩
  obtain ⟨F, O, v0, v1, v2, v3, x0, x1, x2, x3, rfl, hf, q0, q1, q2, q3, nb, ko, ke⟩ := hq
  have hb1 := hb x0 x1 x2 x3
  rw [← hG] at hb1
  replace nb : finR (g x0 x1 x2 x3) ≠ R.bad := nb
  replace ko : ∀ (r : τ) (w : V) (F' H' : Hp), finR (g x0 x1 x2 x3) = R.ok r → Le F F' → Fm F' O H' → Rs.res cf F' O H' w r → Q w H' := ko
  replace ke : ∀ (c : Nat) (p : Int) (d : Addr) (F' H' : Hp), finR (g x0 x1 x2 x3) = R.er c p → Le F F' → Fm F' O H' → F' d = some (xdO cf c p) → E (Value.ref (cf.cls c)) (some d) H' := ke
  refine hb1 F O H _ _ (mt_startG (N := N) hf (by exact slots_ok4 (Ag.ok q0) (Ag.ok q1) (Ag.ok q2) (Ag.ok q3)) ?_ ?_) ?_ ?_ ?_ ?_ ?_
  · exact fun s hs => by
      simp only [List.mem_cons, List.not_mem_nil, or_false] at hs
      rcases hs with rfl | rfl | rfl | rfl
      · exact Ag.no cf x0
      · exact Ag.no cf x1
      · exact Ag.no cf x2
      · exact Ag.no cf x3
  · rfl
  · exact fun z => nb (by rw [z]; rfl)
  · exact fun s F' H' σ' e => absurd (by rw [e]; rfl) nb
  · exact fun s F' H' σ' e => absurd (by rw [e]; rfl) nb
  · exact fun r' v F' H' e le hf' hr' => ko r' v F' H' (by rw [e]; rfl) le hf' hr'
  · exact fun c p d F' H' e le hf' hd => ke c p d F' H' (by rw [e]; rfl) le hf' hd
end
section
variable {α β γ δ ε τ : Type} [Ag α] [Ag β] [Ag γ] [Ag δ] [Ag ε] [Rs τ]
def spG5 (cf : Cf) (g : α → β → γ → δ → ε → R τ) : Sp := fun vs H Q _ => ∃ (F O : Hp) (v0 v1 v2 v3 v4 : V) (x0 : α) (x1 : β) (x2 : γ) (x3 : δ) (x4 : ε) (r : τ), vs = [v0, v1, v2, v3, v4] ∧ Fm F O H ∧ Ag.rel cf F O v0 x0 ∧ Ag.rel cf F O v1 x1 ∧ Ag.rel cf F O v2 x2 ∧ Ag.rel cf F O v3 x3 ∧ Ag.rel cf F O v4 x4 ∧ g x0 x1 x2 x3 x4 = .ok r ∧ ∀ w F' H', Le F F' → Fm F' O H' → Rs.res cf F' O H' w r → Q w H'
def spGX5 (cf : Cf) (g : α → β → γ → δ → ε → R τ) : Sp := fun vs H Q E => ∃ (F O : Hp) (v0 v1 v2 v3 v4 : V) (x0 : α) (x1 : β) (x2 : γ) (x3 : δ) (x4 : ε), vs = [v0, v1, v2, v3, v4] ∧ Fm F O H ∧ Ag.rel cf F O v0 x0 ∧ Ag.rel cf F O v1 x1 ∧ Ag.rel cf F O v2 x2 ∧ Ag.rel cf F O v3 x3 ∧ Ag.rel cf F O v4 x4 ∧ g x0 x1 x2 x3 x4 ≠ .bad ∧ (∀ r w F' H', g x0 x1 x2 x3 x4 = .ok r → Le F F' → Fm F' O H' → Rs.res cf F' O H' w r → Q w H') ∧ (∀ c p d F' H', g x0 x1 x2 x3 x4 = .er c p → Le F F' → Fm F' O H' → F' d = some (xdO cf c p) → E (.ref (cf.cls c)) (some d) H')
theorem spG5.len {cf : Cf} {g : α → β → γ → δ → ε → R τ} {ps : List Str} (h : ps.length = 5 := by rfl) : ∀ vs H Q E, spG5 cf g vs H Q E → vs.length = ps.length := fun vs H Q E q => by
  rw [h]
  obtain ⟨F, O, v0, v1, v2, v3, v4, x0, x1, x2, x3, x4, r, q, _⟩ := q
  rw [q]
  rfl
theorem spGX5.len {cf : Cf} {g : α → β → γ → δ → ε → R τ} {ps : List Str} (h : ps.length = 5 := by rfl) : ∀ vs H Q E, spGX5 cf g vs H Q E → vs.length = ps.length := fun vs H Q E q => by
  rw [h]
  obtain ⟨F, O, v0, v1, v2, v3, v4, x0, x1, x2, x3, x4, q, _⟩ := q
  rw [q]
  rfl
theorem em_callG5 {cf : Cf} {E : XK} {G : List Sl} {t0 t1 t2 t3 t4 : TE} {m0 : R α} {m1 : R β} {m2 : R γ} {m3 : R δ} {m4 : R ε} {g : α → β → γ → δ → ε → R τ} (h0 : EG cf E t0 G m0 fun F O _ v a => Ag.rel cf F O v a) (h1 : EG cf E t1 G m1 fun F O _ v a => Ag.rel cf F O v a) (h2 : EG cf E t2 G m2 fun F O _ v a => Ag.rel cf F O v a) (h3 : EG cf E t3 G m3 fun F O _ v a => Ag.rel cf F O v a) (h4 : EG cf E t4 G m4 fun F O _ v a => Ag.rel cf F O v a) : EG cf E (tCall (spG5 cf g) [] E0 (tCons t0 (tCons t1 (tCons t2 (tCons t3 (tCons t4 tNil)))))) G (m0.bind fun x0 => m1.bind fun x1 => m2.bind fun x2 => m3.bind fun x3 => m4.bind fun x4 => (g x0 x1 x2 x3 x4).pu) (Rs.res cf) := fun F O H σ Q hf he nb ko ke => by
  have le0 : Le F F := Le.refl F
  refine h0 F O H σ _ hf (he.mono le0) (R.bind_nb nb) (fun x0 v0 F1 H1 e0 l0 hf1 r0 => ?_) (fun c' p d' F' H' e' le hf' hd => ke c' p d' F' H' (by rw [e']; rfl) (le0.trans le) hf' hd)
  rw [e0, R.ok_bind] at nb ko ke
  have le1 := le0.trans l0
  refine h1 F1 O H1 σ _ hf1 (he.mono le1) (R.bind_nb nb) (fun x1 v1 F2 H2 e1 l1 hf2 r1 => ?_) (fun c' p d' F' H' e' le hf' hd => ke c' p d' F' H' (by rw [e']; rfl) (le1.trans le) hf' hd)
  rw [e1, R.ok_bind] at nb ko ke
  have le2 := le1.trans l1
  refine h2 F2 O H2 σ _ hf2 (he.mono le2) (R.bind_nb nb) (fun x2 v2 F3 H3 e2 l2 hf3 r2 => ?_) (fun c' p d' F' H' e' le hf' hd => ke c' p d' F' H' (by rw [e']; rfl) (le2.trans le) hf' hd)
  rw [e2, R.ok_bind] at nb ko ke
  have le3 := le2.trans l2
  refine h3 F3 O H3 σ _ hf3 (he.mono le3) (R.bind_nb nb) (fun x3 v3 F4 H4 e3 l3 hf4 r3 => ?_) (fun c' p d' F' H' e' le hf' hd => ke c' p d' F' H' (by rw [e']; rfl) (le3.trans le) hf' hd)
  rw [e3, R.ok_bind] at nb ko ke
  have le4 := le3.trans l3
  refine h4 F4 O H4 σ _ hf4 (he.mono le4) (R.bind_nb nb) (fun x4 v4 F5 H5 e4 l4 hf5 r4 => ?_) (fun c' p d' F' H' e' le hf' hd => ke c' p d' F' H' (by rw [e']; rfl) (le4.trans le) hf' hd)
  rw [e4, R.ok_bind] at nb ko ke
  have le5 := le4.trans l4
  obtain ⟨y, ey⟩ := pu_nb nb
  exact ⟨F5, O, v0, v1, v2, v3, v4, x0, x1, x2, x3, x4, y, rfl, hf5, (Ag.mono (Ag.mono (Ag.mono (Ag.mono r0 l1) l2) l3) l4), (Ag.mono (Ag.mono (Ag.mono r1 l2) l3) l4), (Ag.mono (Ag.mono r2 l3) l4), (Ag.mono r3 l4), r4, ey, fun w F' H' le hf' hr => ko y w F' H' (by rw [ey]; rfl) (le5.trans le) hf' hr⟩
theorem em_callGX5 {cf : Cf} {E : XK} {G : List Sl} {t0 t1 t2 t3 t4 : TE} {m0 : R α} {m1 : R β} {m2 : R γ} {m3 : R δ} {m4 : R ε} {g : α → β → γ → δ → ε → R τ} (h0 : EG cf E t0 G m0 fun F O _ v a => Ag.rel cf F O v a) (h1 : EG cf E t1 G m1 fun F O _ v a => Ag.rel cf F O v a) (h2 : EG cf E t2 G m2 fun F O _ v a => Ag.rel cf F O v a) (h3 : EG cf E t3 G m3 fun F O _ v a => Ag.rel cf F O v a) (h4 : EG cf E t4 G m4 fun F O _ v a => Ag.rel cf F O v a) : EG cf E (tCall (spGX5 cf g) [] E (tCons t0 (tCons t1 (tCons t2 (tCons t3 (tCons t4 tNil)))))) G (m0.bind fun x0 => m1.bind fun x1 => m2.bind fun x2 => m3.bind fun x3 => m4.bind fun x4 => g x0 x1 x2 x3 x4) (Rs.res cf) := fun F O H σ Q hf he nb ko ke => by
  have le0 : Le F F := Le.refl F
  refine h0 F O H σ _ hf (he.mono le0) (R.bind_nb nb) (fun x0 v0 F1 H1 e0 l0 hf1 r0 => ?_) (fun c' p d' F' H' e' le hf' hd => ke c' p d' F' H' (by rw [e']; rfl) (le0.trans le) hf' hd)
  rw [e0, R.ok_bind] at nb ko ke
  have le1 := le0.trans l0
  refine h1 F1 O H1 σ _ hf1 (he.mono le1) (R.bind_nb nb) (fun x1 v1 F2 H2 e1 l1 hf2 r1 => ?_) (fun c' p d' F' H' e' le hf' hd => ke c' p d' F' H' (by rw [e']; rfl) (le1.trans le) hf' hd)
  rw [e1, R.ok_bind] at nb ko ke
  have le2 := le1.trans l1
  refine h2 F2 O H2 σ _ hf2 (he.mono le2) (R.bind_nb nb) (fun x2 v2 F3 H3 e2 l2 hf3 r2 => ?_) (fun c' p d' F' H' e' le hf' hd => ke c' p d' F' H' (by rw [e']; rfl) (le2.trans le) hf' hd)
  rw [e2, R.ok_bind] at nb ko ke
  have le3 := le2.trans l2
  refine h3 F3 O H3 σ _ hf3 (he.mono le3) (R.bind_nb nb) (fun x3 v3 F4 H4 e3 l3 hf4 r3 => ?_) (fun c' p d' F' H' e' le hf' hd => ke c' p d' F' H' (by rw [e']; rfl) (le3.trans le) hf' hd)
  rw [e3, R.ok_bind] at nb ko ke
  have le4 := le3.trans l3
  refine h4 F4 O H4 σ _ hf4 (he.mono le4) (R.bind_nb nb) (fun x4 v4 F5 H5 e4 l4 hf5 r4 => ?_) (fun c' p d' F' H' e' le hf' hd => ke c' p d' F' H' (by rw [e']; rfl) (le4.trans le) hf' hd)
  rw [e4, R.ok_bind] at nb ko ke
  have le5 := le4.trans l4
  exact ⟨F5, O, v0, v1, v2, v3, v4, x0, x1, x2, x3, x4, rfl, hf5, (Ag.mono (Ag.mono (Ag.mono (Ag.mono r0 l1) l2) l3) l4), (Ag.mono (Ag.mono (Ag.mono r1 l2) l3) l4), (Ag.mono (Ag.mono r2 l3) l4), (Ag.mono r3 l4), r4, nb, fun r w F' H' e le hf' hr => ko r w F' H' e (le5.trans le) hf' hr, fun c' p d' F' H' e' le hf' hd => ke c' p d' F' H' e' (le5.trans le) hf' hd⟩
theorem em_callGP5 {cf : Cf} {E : XK} {G : List Sl} {t0 t1 t2 t3 t4 : TE} {m0 : R α} {m1 : R β} {m2 : R γ} {m3 : R δ} {m4 : R ε} {g : α → β → γ → δ → ε → R τ} (h0 : EG cf E t0 G m0 fun F O _ v a => Ag.rel cf F O v a) (h1 : EG cf E t1 G m1 fun F O _ v a => Ag.rel cf F O v a) (h2 : EG cf E t2 G m2 fun F O _ v a => Ag.rel cf F O v a) (h3 : EG cf E t3 G m3 fun F O _ v a => Ag.rel cf F O v a) (h4 : EG cf E t4 G m4 fun F O _ v a => Ag.rel cf F O v a) : EG cf E (tCall (spGX5 cf g) [] E0 (tCons t0 (tCons t1 (tCons t2 (tCons t3 (tCons t4 tNil)))))) G (m0.bind fun x0 => m1.bind fun x1 => m2.bind fun x2 => m3.bind fun x3 => m4.bind fun x4 => (g x0 x1 x2 x3 x4).pu) (Rs.res cf) := fun F O H σ Q hf he nb ko ke => by
  have le0 : Le F F := Le.refl F
  refine h0 F O H σ _ hf (he.mono le0) (R.bind_nb nb) (fun x0 v0 F1 H1 e0 l0 hf1 r0 => ?_) (fun c' p d' F' H' e' le hf' hd => ke c' p d' F' H' (by rw [e']; rfl) (le0.trans le) hf' hd)
  rw [e0, R.ok_bind] at nb ko ke
  have le1 := le0.trans l0
  refine h1 F1 O H1 σ _ hf1 (he.mono le1) (R.bind_nb nb) (fun x1 v1 F2 H2 e1 l1 hf2 r1 => ?_) (fun c' p d' F' H' e' le hf' hd => ke c' p d' F' H' (by rw [e']; rfl) (le1.trans le) hf' hd)
  rw [e1, R.ok_bind] at nb ko ke
  have le2 := le1.trans l1
  refine h2 F2 O H2 σ _ hf2 (he.mono le2) (R.bind_nb nb) (fun x2 v2 F3 H3 e2 l2 hf3 r2 => ?_) (fun c' p d' F' H' e' le hf' hd => ke c' p d' F' H' (by rw [e']; rfl) (le2.trans le) hf' hd)
  rw [e2, R.ok_bind] at nb ko ke
  have le3 := le2.trans l2
  refine h3 F3 O H3 σ _ hf3 (he.mono le3) (R.bind_nb nb) (fun x3 v3 F4 H4 e3 l3 hf4 r3 => ?_) (fun c' p d' F' H' e' le hf' hd => ke c' p d' F' H' (by rw [e']; rfl) (le3.trans le) hf' hd)
  rw [e3, R.ok_bind] at nb ko ke
  have le4 := le3.trans l3
  refine h4 F4 O H4 σ _ hf4 (he.mono le4) (R.bind_nb nb) (fun x4 v4 F5 H5 e4 l4 hf5 r4 => ?_) (fun c' p d' F' H' e' le hf' hd => ke c' p d' F' H' (by rw [e']; rfl) (le4.trans le) hf' hd)
  rw [e4, R.ok_bind] at nb ko ke
  have le5 := le4.trans l4
  obtain ⟨y, ey⟩ := pu_nb nb
  exact ⟨F5, O, v0, v1, v2, v3, v4, x0, x1, x2, x3, x4, rfl, hf5, (Ag.mono (Ag.mono (Ag.mono (Ag.mono r0 l1) l2) l3) l4), (Ag.mono (Ag.mono (Ag.mono r1 l2) l3) l4), (Ag.mono (Ag.mono r2 l3) l4), (Ag.mono r3 l4), r4, fun z => by rw [ey] at z; (cases z), fun r w F' H' e le hf' hr => ko r w F' H' (by rw [e]; rfl) (le5.trans le) hf' hr, fun c' p d' F' H' e' => by rw [ey] at e'; cases e'⟩
theorem fnG5 {P : Program} {w : World} {cf : Cf} {mg : Str → Option Value} {base : Heap} {x qual : Str} {st : Stmt} {f0 : Addr} {fd : FuncData} {N ps : List Str} {k : Nat} {S : Type} {enc : S → List Sl} (F : Fun cf.K x qual st f0 fd) (sc : FnScope N ps (defScope st)) (hp : ps.length = 5) (g : α → β → γ → δ → ε → R (Fl S τ))
    (G0 : α → β → γ → δ → ε → List Sl) (hG : ∀ x0 x1 x2 x3 x4, [Ag.sl cf x0, Ag.sl cf x1, Ag.sl cf x2, Ag.sl cf x3, Ag.sl cf x4] ++ List.replicate (N.length - 5) .un = G0 x0 x1 x2 x3 x4)
    (h : ∀ (cdv : Value) (A : Around) (outer : List Env) (s : Shared) (H : Hp) (E : XK), Room k (A.deeper (envOfC qual (defScope st) s.heap.objs.size f0 cdv)) →
      ∃ t, PSs (cxOf CX0 P w cf.K mg base N qual (defScope st) f0 cdv A outer s H E).nox (defBody st) t ∧ ∀ x0 x1 x2 x3 x4, SB cf E0 t (G0 x0 x1 x2 x3 x4) enc (g x0 x1 x2 x3 x4)) :
    FnOk P w cf.K mg base CX0 (k + 1) f0 fd ps (spG5 cf fun x0 x1 x2 x3 x4 => finR (g x0 x1 x2 x3 x4)) := by
  refine F.ok sc (spG5.len hp) (fun cdv A outer s H vs Q E hr hq => ?_)
  obtain ⟨t, ht, hb⟩ := h cdv A outer s H E hr
  refine ⟨t, ht, ?_⟩
  obtain ⟨F, O, v0, v1, v2, v3, v4, x0, x1, x2, x3, x4, r, rfl, hf, q0, q1, q2, q3, q4, eg, k⟩ := hq
  have hb1 := hb x0 x1 x2 x3 x4
  rw [← hG] at hb1
  replace eg : finR (g x0 x1 x2 x3 x4) = R.ok r := eg
  refine hb1 F O H _ _ (mt_startG (N := N) hf (by exact slots_ok5 (Ag.ok q0) (Ag.ok q1) (Ag.ok q2) (Ag.ok q3) (Ag.ok q4)) ?_ ?_) ?_ ?_ ?_ ?_ ?_
  · exact fun s hs => by
      simp only [List.mem_cons, List.not_mem_nil, or_false] at hs
      rcases hs with rfl | rfl | rfl | rfl | rfl
      · exact Ag.no cf x0
      · exact Ag.no cf x1
      · exact Ag.no cf x2
      · exact Ag.no cf x3
      · exact Ag.no cf x4
  · rfl
  · exact fun z => by rw [z] at eg; cases eg
  · exact fun s F' H' σ' e => by rw [e] at eg; cases eg
  · exact fun s F' H' σ' e => by rw [e] at eg; cases eg
  · exact fun r' v F' H' e le hf' hr' => by
      rw [e] at eg
      cases eg
      exact k v F' H' le hf' hr'
  · exact fun c p d F' H' e => by rw [e] at eg; cases eg
theorem fnGX5 {P : Program} {w : World} {cf : Cf} {mg : Str → Option Value} {base : Heap} {x qual : Str} {st : Stmt} {f0 : Addr} {fd : FuncData} {N ps : List Str} {k : Nat} {S : Type} {enc : S → List Sl} (F : Fun cf.K x qual st f0 fd) (sc : FnScope N ps (defScope st)) (hp : ps.length = 5) (g : α → β → γ → δ → ε → R (Fl S τ))
    (G0 : α → β → γ → δ → ε → List Sl) (hG : ∀ x0 x1 x2 x3 x4, [Ag.sl cf x0, Ag.sl cf x1, Ag.sl cf x2, Ag.sl cf x3, Ag.sl cf x4] ++ List.replicate (N.length - 5) .un = G0 x0 x1 x2 x3 x4)
    (h : ∀ (cdv : Value) (A : Around) (outer : List Env) (s : Shared) (H : Hp) (E : XK), Room k (A.deeper (envOfC qual (defScope st) s.heap.objs.size f0 cdv)) →
      ∃ t, PSs (cxOf (L2.CX P w) P w cf.K mg base N qual (defScope st) f0 cdv A outer s H E) (defBody st) t ∧ ∀ x0 x1 x2 x3 x4, SB cf E t (G0 x0 x1 x2 x3 x4) enc (g x0 x1 x2 x3 x4)) :
    FnOk P w cf.K mg base (L2.CX P w) (k + 1) f0 fd ps (spGX5 cf fun x0 x1 x2 x3 x4 => finR (g x0 x1 x2 x3 x4)) := by
  refine F.okX sc (spGX5.len hp) (fun cdv A outer s H vs Q E hr hq => ?_)
  obtain ⟨t, ht, hb⟩ := h cdv A outer s H E hr
  refine ⟨t, ht, ?_⟩
  obtain ⟨F, O, v0, v1, v2, v3, v4, x0, x1, x2, x3, x4, rfl, hf, q0, q1, q2, q3, q4, nb, ko, ke⟩ := hq
  have hb1 := hb x0 x1 x2 x3 x4
  rw [← hG] at hb1
  replace nb : finR (g x0 x1 x2 x3 x4) ≠ R.bad := nb
  replace ko : ∀ (r : τ) (w : V) (F' H' : Hp), finR (g x0 x1 x2 x3 x4) = R.ok r → Le F F' → Fm F' O H' → Rs.res cf F' O H' w r → Q w H' := ko
  replace ke : ∀ (c : Nat) (p : Int) (d : Addr) (F' H' : Hp), finR (g x0 x1 x2 x3 x4) = R.er c p → Le F F' → Fm F' O H' → F' d = some (xdO cf c p) → E (Value.ref (cf.cls c)) (some d) H' := ke
  refine hb1 F O H _ _ (mt_startG (N := N) hf (by exact slots_ok5 (Ag.ok q0) (Ag.ok q1) (Ag.ok q2) (Ag.ok q3) (Ag.ok q4)) ?_ ?_) ?_ ?_ ?_ ?_ ?_
  · exact fun s hs => by
      simp only [List.mem_cons, List.not_mem_nil, or_false] at hs
      rcases hs with rfl | rfl | rfl | rfl | rfl
      · exact Ag.no cf x0
      · exact Ag.no cf x1
      · exact Ag.no cf x2
      · exact Ag.no cf x3
      · exact Ag.no cf x4
  · rfl
  · exact fun z => nb (by rw [z]; rfl)
  · exact fun s F' H' σ' e => absurd (by rw [e]; rfl) nb
  · exact fun s F' H' σ' e => absurd (by rw [e]; rfl) nb
  · exact fun r' v F' H' e le hf' hr' => ko r' v F' H' (by rw [e]; rfl) le hf' hr'
  · exact fun c p d F' H' e le hf' hd => ke c p d F' H' (by rw [e]; rfl) le hf' hd
end
section
variable {α β γ δ ε ζ τ : Type} [Ag α] [Ag β] [Ag γ] [Ag δ] [Ag ε] [Ag ζ] [Rs τ]
def spG6 (cf : Cf) (g : α → β → γ → δ → ε → ζ → R τ) : Sp := fun vs H Q _ => ∃ (F O : Hp) (v0 v1 v2 v3 v4 v5 : V) (x0 : α) (x1 : β) (x2 : γ) (x3 : δ) (x4 : ε) (x5 : ζ) (r : τ), vs = [v0, v1, v2, v3, v4, v5] ∧ Fm F O H ∧ Ag.rel cf F O v0 x0 ∧ Ag.rel cf F O v1 x1 ∧ Ag.rel cf F O v2 x2 ∧ Ag.rel cf F O v3 x3 ∧ Ag.rel cf F O v4 x4 ∧ Ag.rel cf F O v5 x5 ∧ g x0 x1 x2 x3 x4 x5 = .ok r ∧ ∀ w F' H', Le F F' → Fm F' O H' → Rs.res cf F' O H' w r → Q w H'
def spGX6 (cf : Cf) (g : α → β → γ → δ → ε → ζ → R τ) : Sp := fun vs H Q E => ∃ (F O : Hp) (v0 v1 v2 v3 v4 v5 : V) (x0 : α) (x1 : β) (x2 : γ) (x3 : δ) (x4 : ε) (x5 : ζ), vs = [v0, v1, v2, v3, v4, v5] ∧ Fm F O H ∧ Ag.rel cf F O v0 x0 ∧ Ag.rel cf F O v1 x1 ∧ Ag.rel cf F O v2 x2 ∧ Ag.rel cf F O v3 x3 ∧ Ag.rel cf F O v4 x4 ∧ Ag.rel cf F O v5 x5 ∧ g x0 x1 x2 x3 x4 x5 ≠ .bad ∧ (∀ r w F' H', g x0 x1 x2 x3 x4 x5 = .ok r → Le F F' → Fm F' O H' → Rs.res cf F' O H' w r → Q w H') ∧ (∀ c p d F' H', g x0 x1 x2 x3 x4 x5 = .er c p → Le F F' → Fm F' O H' → F' d = some (xdO cf c p) → E (.ref (cf.cls c)) (some d) H')
theorem spG6.len {cf : Cf} {g : α → β → γ → δ → ε → ζ → R τ} {ps : List Str} (h : ps.length = 6 := by rfl) : ∀ vs H Q E, spG6 cf g vs H Q E → vs.length = ps.length := fun vs H Q E q => by
  rw [h]
  obtain ⟨F, O, v0, v1, v2, v3, v4, v5, x0, x1, x2, x3, x4, x5, r, q, _⟩ := q
  rw [q]
  rfl
theorem spGX6.len {cf : Cf} {g : α → β → γ → δ → ε → ζ → R τ} {ps : List Str} (h : ps.length = 6 := by rfl) : ∀ vs H Q E, spGX6 cf g vs H Q E → vs.length = ps.length := fun vs H Q E q => by
  rw [h]
  obtain ⟨F, O, v0, v1, v2, v3, v4, v5, x0, x1, x2, x3, x4, x5, q, _⟩ := q
  rw [q]
  rfl
theorem em_callG6 {cf : Cf} {E : XK} {G : List Sl} {t0 t1 t2 t3 t4 t5 : TE} {m0 : R α} {m1 : R β} {m2 : R γ} {m3 : R δ} {m4 : R ε} {m5 : R ζ} {g : α → β → γ → δ → ε → ζ → R τ} (h0 : EG cf E t0 G m0 fun F O _ v a => Ag.rel cf F O v a) (h1 : EG cf E t1 G m1 fun F O _ v a => Ag.rel cf F O v a) (h2 : EG cf E t2 G m2 fun F O _ v a => Ag.rel cf F O v a) (h3 : EG cf E t3 G m3 fun F O _ v a => Ag.rel cf F O v a) (h4 : EG cf E t4 G m4 fun F O _ v a => Ag.rel cf F O v a) (h5 : EG cf E t5 G m5 fun F O _ v a => Ag.rel cf F O v a) : EG cf E (tCall (spG6 cf g) [] E0 (tCons t0 (tCons t1 (tCons t2 (tCons t3 (tCons t4 (tCons t5 tNil))))))) G (m0.bind fun x0 => m1.bind fun x1 => m2.bind fun x2 => m3.bind fun x3 => m4.bind fun x4 => m5.bind fun x5 => (g x0 x1 x2 x3 x4 x5).pu) (Rs.res cf) := fun F O H σ Q hf he nb ko ke => by
  have le0 : Le F F := Le.refl F
  refine h0 F O H σ _ hf (he.mono le0) (R.bind_nb nb) (fun x0 v0 F1 H1 e0 l0 hf1 r0 => ?_) (fun c' p d' F' H' e' le hf' hd => ke c' p d' F' H' (by rw [e']; rfl) (le0.trans le) hf' hd)
  rw [e0, R.ok_bind] at nb ko ke
  have le1 := le0.trans l0
  refine h1 F1 O H1 σ _ hf1 (he.mono le1) (R.bind_nb nb) (fun x1 v1 F2 H2 e1 l1 hf2 r1 => ?_) (fun c' p d' F' H' e' le hf' hd => ke c' p d' F' H' (by rw [e']; rfl) (le1.trans le) hf' hd)
  rw [e1, R.ok_bind] at nb ko ke
  have le2 := le1.trans l1
  refine h2 F2 O H2 σ _ hf2 (he.mono le2) (R.bind_nb nb) (fun x2 v2 F3 H3 e2 l2 hf3 r2 => ?_) (fun c' p d' F' H' e' le hf' hd => ke c' p d' F' H' (by rw [e']; rfl) (le2.trans le) hf' hd)
  rw [e2, R.ok_bind] at nb ko ke
  have le3 := le2.trans l2
  refine h3 F3 O H3 σ _ hf3 (he.mono le3) (R.bind_nb nb) (fun x3 v3 F4 H4 e3 l3 hf4 r3 => ?_) (fun c' p d' F' H' e' le hf' hd => ke c' p d' F' H' (by rw [e']; rfl) (le3.trans le) hf' hd)
  rw [e3, R.ok_bind] at nb ko ke
  have le4 := le3.trans l3
  refine h4 F4 O H4 σ _ hf4 (he.mono le4) (R.bind_nb nb) (fun x4 v4 F5 H5 e4 l4 hf5 r4 => ?_) (fun c' p d' F' H' e' le hf' hd => ke c' p d' F' H' (by rw [e']; rfl) (le4.trans le) hf' hd)
  rw [e4, R.ok_bind] at nb ko ke
  have le5 := le4.trans l4
  refine h5 F5 O H5 σ _ hf5 (he.mono le5) (R.bind_nb nb) (fun x5 v5 F6 H6 e5 l5 hf6 r5 => ?_) (fun c' p d' F' H' e' le hf' hd => ke c' p d' F' H' (by rw [e']; rfl) (le5.trans le) hf' hd)
  rw [e5, R.ok_bind] at nb ko ke
  have le6 := le5.trans l5
  obtain ⟨y, ey⟩ := pu_nb nb
  exact ⟨F6, O, v0, v1, v2, v3, v4, v5, x0, x1, x2, x3, x4, x5, y, rfl, hf6, (Ag.mono (Ag.mono (Ag.mono (Ag.mono (Ag.mono r0 l1) l2) l3) l4) l5), (Ag.mono (Ag.mono (Ag.mono (Ag.mono r1 l2) l3) l4) l5), (Ag.mono (Ag.mono (Ag.mono r2 l3) l4) l5), (Ag.mono (Ag.mono r3 l4) l5), (Ag.mono r4 l5), r5, ey, fun w F' H' le hf' hr => ko y w F' H' (by rw [ey]; rfl) (le6.trans le) hf' hr⟩
theorem em_callGX6 {cf : Cf} {E : XK} {G : List Sl} {t0 t1 t2 t3 t4 t5 : TE} {m0 : R α} {m1 : R β} {m2 : R γ} {m3 : R δ} {m4 : R ε} {m5 : R ζ} {g : α → β → γ → δ → ε → ζ → R τ} (h0 : EG cf E t0 G m0 fun F O _ v a => Ag.rel cf F O v a) (h1 : EG cf E t1 G m1 fun F O _ v a => Ag.rel cf F O v a) (h2 : EG cf E t2 G m2 fun F O _ v a => Ag.rel cf F O v a) (h3 : EG cf E t3 G m3 fun F O _ v a => Ag.rel cf F O v a) (h4 : EG cf E t4 G m4 fun F O _ v a => Ag.rel cf F O v a) (h5 : EG cf E t5 G m5 fun F O _ v a => Ag.rel cf F O v a) : EG cf E (tCall (spGX6 cf g) [] E (tCons t0 (tCons t1 (tCons t2 (tCons t3 (tCons t4 (tCons t5 tNil))))))) G (m0.bind fun x0 => m1.bind fun x1 => m2.bind fun x2 => m3.bind fun x3 => m4.bind fun x4 => m5.bind fun x5 => g x0 x1 x2 x3 x4 x5) (Rs.res cf) := fun F O H σ Q hf he nb ko ke => by
  have le0 : Le F F := Le.refl F
  refine h0 F O H σ _ hf (he.mono le0) (R.bind_nb nb) (fun x0 v0 F1 H1 e0 l0 hf1 r0 => ?_) (fun c' p d' F' H' e' le hf' hd => ke c' p d' F' H' (by rw [e']; rfl) (le0.trans le) hf' hd)
  rw [e0, R.ok_bind] at nb ko ke
  have le1 := le0.trans l0
  refine h1 F1 O H1 σ _ hf1 (he.mono le1) (R.bind_nb nb) (fun x1 v1 F2 H2 e1 l1 hf2 r1 => ?_) (fun c' p d' F' H' e' le hf' hd => ke c' p d' F' H' (by rw [e']; rfl) (le1.trans le) hf' hd)
  rw [e1, R.ok_bind] at nb ko ke
  have le2 := le1.trans l1
  refine h2 F2 O H2 σ _ hf2 (he.mono le2) (R.bind_nb nb) (fun x2 v2 F3 H3 e2 l2 hf3 r2 => ?_) (fun c' p d' F' H' e' le hf' hd => ke c' p d' F' H' (by rw [e']; rfl) (le2.trans le) hf' hd)
  rw [e2, R.ok_bind] at nb ko ke
  have le3 := le2.trans l2
  refine h3 F3 O H3 σ _ hf3 (he.mono le3) (R.bind_nb nb) (fun x3 v3 F4 H4 e3 l3 hf4 r3 => ?_) (fun c' p d' F' H' e' le hf' hd => ke c' p d' F' H' (by rw [e']; rfl) (le3.trans le) hf' hd)
  rw [e3, R.ok_bind] at nb ko ke
  have le4 := le3.trans l3
  refine h4 F4 O H4 σ _ hf4 (he.mono le4) (R.bind_nb nb) (fun x4 v4 F5 H5 e4 l4 hf5 r4 => ?_) (fun c' p d' F' H' e' le hf' hd => ke c' p d' F' H' (by rw [e']; rfl) (le4.trans le) hf' hd)
  rw [e4, R.ok_bind] at nb ko ke
  have le5 := le4.trans l4
  refine h5 F5 O H5 σ _ hf5 (he.mono le5) (R.bind_nb nb) (fun x5 v5 F6 H6 e5 l5 hf6 r5 => ?_) (fun c' p d' F' H' e' le hf' hd => ke c' p d' F' H' (by rw [e']; rfl) (le5.trans le) hf' hd)
  rw [e5, R.ok_bind] at nb ko ke
  have le6 := le5.trans l5
  exact ⟨F6, O, v0, v1, v2, v3, v4, v5, x0, x1, x2, x3, x4, x5, rfl, hf6, (Ag.mono (Ag.mono (Ag.mono (Ag.mono (Ag.mono r0 l1) l2) l3) l4) l5), (Ag.mono (Ag.mono (Ag.mono (Ag.mono r1 l2) l3) l4) l5), (Ag.mono (Ag.mono (Ag.mono r2 l3) l4) l5), (Ag.mono (Ag.mono r3 l4) l5), (Ag.mono r4 l5), r5, nb, fun r w F' H' e le hf' hr => ko r w F' H' e (le6.trans le) hf' hr, fun c' p d' F' H' e' le hf' hd => ke c' p d' F' H' e' (le6.trans le) hf' hd⟩
theorem em_callGP6 {cf : Cf} {E : XK} {G : List Sl} {t0 t1 t2 t3 t4 t5 : TE} {m0 : R α} {m1 : R β} {m2 : R γ} {m3 : R δ} {m4 : R ε} {m5 : R ζ} {g : α → β → γ → δ → ε → ζ → R τ} (h0 : EG cf E t0 G m0 fun F O _ v a => Ag.rel cf F O v a) (h1 : EG cf E t1 G m1 fun F O _ v a => Ag.rel cf F O v a) (h2 : EG cf E t2 G m2 fun F O _ v a => Ag.rel cf F O v a) (h3 : EG cf E t3 G m3 fun F O _ v a => Ag.rel cf F O v a) (h4 : EG cf E t4 G m4 fun F O _ v a => Ag.rel cf F O v a) (h5 : EG cf E t5 G m5 fun F O _ v a => Ag.rel cf F O v a) : EG cf E (tCall (spGX6 cf g) [] E0 (tCons t0 (tCons t1 (tCons t2 (tCons t3 (tCons t4 (tCons t5 tNil))))))) G (m0.bind fun x0 => m1.bind fun x1 => m2.bind fun x2 => m3.bind fun x3 => m4.bind fun x4 => m5.bind fun x5 => (g x0 x1 x2 x3 x4 x5).pu) (Rs.res cf) := fun F O H σ Q hf he nb ko ke => by
  have le0 : Le F F := Le.refl F
  refine h0 F O H σ _ hf (he.mono le0) (R.bind_nb nb) (fun x0 v0 F1 H1 e0 l0 hf1 r0 => ?_) (fun c' p d' F' H' e' le hf' hd => ke c' p d' F' H' (by rw [e']; rfl) (le0.trans le) hf' hd)
  rw [e0, R.ok_bind] at nb ko ke
  have le1 := le0.trans l0
  refine h1 F1 O H1 σ _ hf1 (he.mono le1) (R.bind_nb nb) (fun x1 v1 F2 H2 e1 l1 hf2 r1 => ?_) (fun c' p d' F' H' e' le hf' hd => ke c' p d' F' H' (by rw [e']; rfl) (le1.trans le) hf' hd)
  rw [e1, R.ok_bind] at nb ko ke
  have le2 := le1.trans l1
  refine h2 F2 O H2 σ _ hf2 (he.mono le2) (R.bind_nb nb) (fun x2 v2 F3 H3 e2 l2 hf3 r2 => ?_) (fun c' p d' F' H' e' le hf' hd => ke c' p d' F' H' (by rw [e']; rfl) (le2.trans le) hf' hd)
  rw [e2, R.ok_bind] at nb ko ke
  have le3 := le2.trans l2
  refine h3 F3 O H3 σ _ hf3 (he.mono le3) (R.bind_nb nb) (fun x3 v3 F4 H4 e3 l3 hf4 r3 => ?_) (fun c' p d' F' H' e' le hf' hd => ke c' p d' F' H' (by rw [e']; rfl) (le3.trans le) hf' hd)
  rw [e3, R.ok_bind] at nb ko ke
  have le4 := le3.trans l3
  refine h4 F4 O H4 σ _ hf4 (he.mono le4) (R.bind_nb nb) (fun x4 v4 F5 H5 e4 l4 hf5 r4 => ?_) (fun c' p d' F' H' e' le hf' hd => ke c' p d' F' H' (by rw [e']; rfl) (le4.trans le) hf' hd)
  rw [e4, R.ok_bind] at nb ko ke
  have le5 := le4.trans l4
  refine h5 F5 O H5 σ _ hf5 (he.mono le5) (R.bind_nb nb) (fun x5 v5 F6 H6 e5 l5 hf6 r5 => ?_) (fun c' p d' F' H' e' le hf' hd => ke c' p d' F' H' (by rw [e']; rfl) (le5.trans le) hf' hd)
  rw [e5, R.ok_bind] at nb ko ke
  have le6 := le5.trans l5
  obtain ⟨y, ey⟩ := pu_nb nb
  exact ⟨F6, O, v0, v1, v2, v3, v4, v5, x0, x1, x2, x3, x4, x5, rfl, hf6, (Ag.mono (Ag.mono (Ag.mono (Ag.mono (Ag.mono r0 l1) l2) l3) l4) l5), (Ag.mono (Ag.mono (Ag.mono (Ag.mono r1 l2) l3) l4) l5), (Ag.mono (Ag.mono (Ag.mono r2 l3) l4) l5), (Ag.mono (Ag.mono r3 l4) l5), (Ag.mono r4 l5), r5, fun z => by rw [ey] at z; (cases z), fun r w F' H' e le hf' hr => ko r w F' H' (by rw [e]; rfl) (le6.trans le) hf' hr, fun c' p d' F' H' e' => by rw [ey] at e'; cases e'⟩
theorem fnG6 {P : Program} {w : World} {cf : Cf} {mg : Str → Option Value} {base : Heap} {x qual : Str} {st : Stmt} {f0 : Addr} {fd : FuncData} {N ps : List Str} {k : Nat} {S : Type} {enc : S → List Sl} (F : Fun cf.K x qual st f0 fd) (sc : FnScope N ps (defScope st)) (hp : ps.length = 6) (g : α → β → γ → δ → ε → ζ → R (Fl S τ))
    (G0 : α → β → γ → δ → ε → ζ → List Sl) (hG : ∀ x0 x1 x2 x3 x4 x5, [Ag.sl cf x0, Ag.sl cf x1, Ag.sl cf x2, Ag.sl cf x3, Ag.sl cf x4, Ag.sl cf x5] ++ List.replicate (N.length - 6) .un = G0 x0 x1 x2 x3 x4 x5)
    (h : ∀ (cdv : Value) (A : Around) (outer : List Env) (s : Shared) (H : Hp) (E : XK), Room k (A.deeper (envOfC qual (defScope st) s.heap.objs.size f0 cdv)) →
      ∃ t, PSs (cxOf CX0 P w cf.K mg base N qual (defScope st) f0 cdv A outer s H E).nox (defBody st) t ∧ ∀ x0 x1 x2 x3 x4 x5, SB cf E0 t (G0 x0 x1 x2 x3 x4 x5) enc (g x0 x1 x2 x3 x4 x5)) :
    FnOk P w cf.K mg base CX0 (k + 1) f0 fd ps (spG6 cf fun x0 x1 x2 x3 x4 x5 => finR (g x0 x1 x2 x3 x4 x5)) := by
  refine F.ok sc (spG6.len hp) (fun cdv A outer s H vs Q E hr hq => ?_)
  obtain ⟨t, ht, hb⟩ := h cdv A outer s H E hr
  refine ⟨t, ht, ?_⟩
  obtain ⟨F, O, v0, v1, v2, v3, v4, v5, x0, x1, x2, x3, x4, x5, r, rfl, hf, q0, q1, q2, q3, q4, q5, eg, k⟩ := hq
  have hb1 := hb x0 x1 x2 x3 x4 x5
  rw [← hG] at hb1
  replace eg : finR (g x0 x1 x2 x3 x4 x5) = R.ok r := eg
  refine hb1 F O H _ _ (mt_startG (N := N) hf (by exact slots_ok6 (Ag.ok q0) (Ag.ok q1) (Ag.ok q2) (Ag.ok q3) (Ag.ok q4) (Ag.ok q5)) ?_ ?_) ?_ ?_ ?_ ?_ ?_
  · exact fun s hs => by
      simp only [List.mem_cons, List.not_mem_nil, or_false] at hs
      rcases hs with rfl | rfl | rfl | rfl | rfl | rfl
      · exact Ag.no cf x0
      · exact Ag.no cf x1
      · exact Ag.no cf x2
      · exact Ag.no cf x3
      · exact Ag.no cf x4
      · exact Ag.no cf x5
  · rfl
  · exact fun z => by rw [z] at eg; cases eg
  · exact fun s F' H' σ' e => by rw [e] at eg; cases eg
  · exact fun s F' H' σ' e => by rw [e] at eg; cases eg
  · exact fun r' v F' H' e le hf' hr' => by
      rw [e] at eg
      cases eg
      exact k v F' H' le hf' hr'
  · exact fun c p d F' H' e => by rw [e] at eg; cases eg
theorem fnGX6 {P : Program} {w : World} {cf : Cf} {mg : Str → Option Value} {base : Heap} {x qual : Str} {st : Stmt} {f0 : Addr} {fd : FuncData} {N ps : List Str} {k : Nat} {S : Type} {enc : S → List Sl} (F : Fun cf.K x qual st f0 fd) (sc : FnScope N ps (defScope st)) (hp : ps.length = 6) (g : α → β → γ → δ → ε → ζ → R (Fl S τ))
    (G0 : α → β → γ → δ → ε → ζ → List Sl) (hG : ∀ x0 x1 x2 x3 x4 x5, [Ag.sl cf x0, Ag.sl cf x1, Ag.sl cf x2, Ag.sl cf x3, Ag.sl cf x4, Ag.sl cf x5] ++ List.replicate (N.length - 6) .un = G0 x0 x1 x2 x3 x4 x5)
    (h : ∀ (cdv : Value) (A : Around) (outer : List Env) (s : Shared) (H : Hp) (E : XK), Room k (A.deeper (envOfC qual (defScope st) s.heap.objs.size f0 cdv)) →
      ∃ t, PSs (cxOf (L2.CX P w) P w cf.K mg base N qual (defScope st) f0 cdv A outer s H E) (defBody st) t ∧ ∀ x0 x1 x2 x3 x4 x5, SB cf E t (G0 x0 x1 x2 x3 x4 x5) enc (g x0 x1 x2 x3 x4 x5)) :
    FnOk P w cf.K mg base (L2.CX P w) (k + 1) f0 fd ps (spGX6 cf fun x0 x1 x2 x3 x4 x5 => finR (g x0 x1 x2 x3 x4 x5)) := by
  refine F.okX sc (spGX6.len hp) (fun cdv A outer s H vs Q E hr hq => ?_)
  obtain ⟨t, ht, hb⟩ := h cdv A outer s H E hr
  refine ⟨t, ht, ?_⟩
  obtain ⟨F, O, v0, v1, v2, v3, v4, v5, x0, x1, x2, x3, x4, x5, rfl, hf, q0, q1, q2, q3, q4, q5, nb, ko, ke⟩ := hq
  have hb1 := hb x0 x1 x2 x3 x4 x5
  rw [← hG] at hb1
  replace nb : finR (g x0 x1 x2 x3 x4 x5) ≠ R.bad := nb
  replace ko : ∀ (r : τ) (w : V) (F' H' : Hp), finR (g x0 x1 x2 x3 x4 x5) = R.ok r → Le F F' → Fm F' O H' → Rs.res cf F' O H' w r → Q w H' := ko
  replace ke : ∀ (c : Nat) (p : Int) (d : Addr) (F' H' : Hp), finR (g x0 x1 x2 x3 x4 x5) = R.er c p → Le F F' → Fm F' O H' → F' d = some (xdO cf c p) → E (Value.ref (cf.cls c)) (some d) H' := ke
  refine hb1 F O H _ _ (mt_startG (N := N) hf (by exact slots_ok6 (Ag.ok q0) (Ag.ok q1) (Ag.ok q2) (Ag.ok q3) (Ag.ok q4) (Ag.ok q5)) ?_ ?_) ?_ ?_ ?_ ?_ ?_
  · exact fun s hs => by
      simp only [List.mem_cons, List.not_mem_nil, or_false] at hs
      rcases hs with rfl | rfl | rfl | rfl | rfl | rfl
      · exact Ag.no cf x0
      · exact Ag.no cf x1
      · exact Ag.no cf x2
      · exact Ag.no cf x3
      · exact Ag.no cf x4
      · exact Ag.no cf x5
  · rfl
  · exact fun z => nb (by rw [z]; rfl)
  · exact fun s F' H' σ' e => absurd (by rw [e]; rfl) nb
  · exact fun s F' H' σ' e => absurd (by rw [e]; rfl) nb
  · exact fun r' v F' H' e le hf' hr' => ko r' v F' H' (by rw [e]; rfl) le hf' hr'
  · exact fun c p d F' H' e le hf' hd => ke c p d F' H' (by rw [e]; rfl) le hf' hd
end
end Kr

/-! KrQ: models read, their methods called, models made, owned models. -/
namespace Kr
open PySem PySem.Spec PyProof.Rows L2
open Enc (toD)
/-! ### inversions -/
section
variable {K : PySem.W.Frag} {F : Hp} {R : HR}
theorem own_d {v : V} {d : Dt} {fp : List Addr} (h : Own K F R v (.d d) fp) : Dr K F v d ∧ fp = [] := by
  cases h with
  | d h => exact ⟨h, rfl⟩
theorem own_l {v : V} {ts : List Tr} {fp : List Addr} (h : Own K F R v (.l ts) fp) : ∃ a vs fq, v = .ref a ∧ R a (.lst vs) ∧ OwnA K F R vs ts fq ∧ fp = a :: fq := by
  cases h with
  | l h1 h2 => exact ⟨_, _, _, rfl, h1, h2, rfl⟩
theorem own_o {v : V} {C : Addr} {fs : List (Str × Tr)} {fp : List Addr} (h : Own K F R v (.o C fs) fp) : ∃ a dx fvs fq, v = .ref a ∧ R a (.ins C dx fvs) ∧ R dx (.own a) ∧ OwnF K F R fvs fs fq ∧ fp = a :: dx :: fq := by
  cases h with
  | o h1 h2 h3 => exact ⟨_, _, _, _, rfl, h1, h2, h3, rfl⟩
theorem ownF_nil {fvs : List (Str × V)} {fp : List Addr} (h : OwnF K F R fvs [] fp) : fvs = [] ∧ fp = [] := by
  cases h
  exact ⟨rfl, rfl⟩
theorem ownF_cons {fvs : List (Str × V)} {x : Str} {t : Tr} {fs : List (Str × Tr)} {fp : List Addr} (h : OwnF K F R fvs ((x, t) :: fs) fp) : ∃ v r f1 f2, fvs = (x, v) :: r ∧ Own K F R v t f1 ∧ OwnF K F R r fs f2 ∧ fp = f1 ++ f2 := by
  cases h with
  | cons h1 h2 => exact ⟨_, _, _, _, rfl, h1, h2, rfl⟩
theorem ownA_nil {vs : List V} {fp : List Addr} (h : OwnA K F R vs [] fp) : vs = [] ∧ fp = [] := by
  cases h
  exact ⟨rfl, rfl⟩
theorem ownA_cons {vs : List V} {t : Tr} {ts : List Tr} {fp : List Addr} (h : OwnA K F R vs (t :: ts) fp) : ∃ v r f1 f2, vs = v :: r ∧ Own K F R v t f1 ∧ OwnA K F R r ts f2 ∧ fp = f1 ++ f2 := by
  cases h with
  | cons h1 h2 => exact ⟨_, _, _, _, rfl, h1, h2, rfl⟩
theorem ownA_ints : ∀ {xs : List Int} {vs : List V} {fp : List Addr}, OwnA K F R vs (xs.map fun n => .d (.int n)) fp → DrA K F vs (xs.map toD) ∧ fp = []
  | [], _, _, h => by
    obtain ⟨rfl, rfl⟩ := ownA_nil h
    exact ⟨.nil, rfl⟩
  | x :: xs, _, _, h => by
    obtain ⟨v, r, f1, f2, rfl, h1, h2, rfl⟩ := ownA_cons h
    obtain ⟨d1, rfl⟩ := own_d h1
    obtain ⟨d2, rfl⟩ := ownA_ints h2
    exact ⟨.cons d1 d2, rfl⟩
theorem ints_ownA : ∀ {xs : List Int} {vs : List V}, DrA K F vs (xs.map toD) → OwnA K F R vs (xs.map fun n => .d (.int n)) []
  | [], _, h => by
    rw [drA_nil h]
    exact .nil
  | x :: xs, _, h => by
    obtain ⟨v, r, rfl, h1, h2⟩ := drA_cons h
    exact .cons (fp := []) (fq := []) (.d h1) (ints_ownA h2)
theorem own_lI {v : V} {xs : List Int} {fp : List Addr} (h : Own K F R v (lI xs) fp) : ∃ a vs, v = .ref a ∧ R a (.lst vs) ∧ DrA K F vs (xs.map toD) ∧ fp = [a] := by
  obtain ⟨a, vs, fq, e, h1, h2, rfl⟩ := own_l h
  obtain ⟨h3, rfl⟩ := ownA_ints h2
  exact ⟨a, vs, e, h1, h3, rfl⟩
theorem lI_own {a : Addr} {xs : List Int} {vs : List V} (h : R a (.lst vs)) (r : DrA K F vs (xs.map toD)) : Own K F R (.ref a) (lI xs) [a] := .l h (ints_ownA r)
theorem ownA_len : ∀ {ts : List Tr} {vs : List V} {fp : List Addr}, OwnA K F R vs ts fp → vs.length = ts.length
  | [], _, _, h => by rw [(ownA_nil h).1]; rfl
  | t :: ts, _, _, h => by
    obtain ⟨v, r, f1, f2, rfl, h1, h2, _⟩ := ownA_cons h
    rw [List.length_cons, List.length_cons, ownA_len h2]
theorem ownA_get : ∀ {ts : List Tr} {vs : List V} {fp : List Addr} {j : Nat} {t : Tr}, OwnA K F R vs ts fp → ts[j]? = some t → ∃ v fq, vs[j]? = some v ∧ Own K F R v t fq ∧ ∀ p ∈ fq, p ∈ fp
  | [], _, _, _, _, _, e => by simp at e
  | t :: ts, _, _, 0, _, h, e => by
    obtain ⟨v, r, f1, f2, rfl, h1, h2, rfl⟩ := ownA_cons h
    cases e
    exact ⟨v, f1, rfl, h1, fun p q => mem_l q⟩
  | t :: ts, _, _, j + 1, _, h, e => by
    obtain ⟨v, r, f1, f2, rfl, h1, h2, rfl⟩ := ownA_cons h
    obtain ⟨w, fq, e1, e2, e3⟩ := ownA_get (j := j) h2 (by simpa using e)
    exact ⟨w, fq, by simpa using e1, e2, fun p q => mem_r (e3 p q)⟩
theorem ownF_names : ∀ {fs : List (Str × Tr)} {fvs : List (Str × V)} {fp : List Addr}, OwnF K F R fvs fs fp → fvs.map (·.1) = fs.map (·.1)
  | [], _, _, h => by rw [(ownF_nil h).1]; rfl
  | (x, t) :: fs, _, _, h => by
    obtain ⟨v, r, f1, f2, rfl, h1, h2, _⟩ := ownF_cons h
    rw [List.map_cons, List.map_cons, ownF_names h2]
theorem lookup_none {A : Type} {m : Str} : ∀ {fvs : List (Str × A)}, m ∉ fvs.map (·.1) → fvs.lookup m = none
  | [], _ => rfl
  | (x, v) :: r, h => by
    rw [List.map_cons, List.mem_cons, not_or] at h
    have hb : (m == x) = false := beq_eq_false_iff_ne.mpr h.1
    show (match m == x with | true => some v | false => List.lookup m r) = none
    rw [hb]
    exact lookup_none h.2
theorem lookup_hd {A : Type} {x : Str} {v : A} {r : List (Str × A)} : List.lookup x ((x, v) :: r) = some v := by
  show (match x == x with | true => some v | false => List.lookup x r) = _
  rw [beq_self_eq_true]
theorem lookup_tl {A : Type} {x m : Str} {v : A} {r : List (Str × A)} (h : (m == x) = false) : List.lookup m ((x, v) :: r) = List.lookup m r := by
  show (match m == x with | true => some v | false => List.lookup m r) = _
  rw [h]
end
theorem fo_at {F O H : Hp} (hf : Fm F O H) {p : Addr} {o : HO} (h : inFO F O p o) : H p = some o := h.elim (hf.f p o) (hf.o p o)
/-- facts about the classes -/
structure CF (cf : Cf) : Prop where
  c0 : Cls cf.K (cf.mc 0)
  c1 : Cls cf.K (cf.mc 1)
  c2 : Cls cf.K (cf.mc 2)
  w0 : NoAttr cf.K (cf.mc 0) "weights"
  w1 : NoAttr cf.K (cf.mc 1) "weights"
  s1 : NoAttr cf.K (cf.mc 1) "step"
  l1 : NoAttr cf.K (cf.mc 1) "limit"
  s2 : NoAttr cf.K (cf.mc 2) "step"
  l2 : NoAttr cf.K (cf.mc 2) "limit"
  n2 : NoAttr cf.K (cf.mc 2) "learners"
  u2 : NoAttr cf.K (cf.mc 2) "current"
section
variable {cf : Cf} {E : XK} {G : List Sl} {α β γ : Type} {ta tb : TE}
/-! ### slots -/
theorem et_bo [Tre α] (i : Nat) (a : α) (h : G[i]? = some (.bo (Tre.tr cf a))) : EG cf E (tVar i) G (.ok a) (RT cf) := EG.fin fun F O H σ Q hf he ko => by
  obtain ⟨v, fp, e, r⟩ := he.at' i _ h
  exact ⟨v, e, ko v F H (Le.refl F) hf ⟨fp, r⟩⟩
theorem et_vo [Tre α] (i : Nat) (a : α) (h : G[i]? = some (.vo (Tre.tr cf a))) : EG cf E (tVar i) G (.ok a) (RT cf) := EG.fin fun F O H σ Q hf he ko => by
  obtain ⟨v, fp, e, r⟩ := he.at' i _ h
  exact ⟨v, e, ko v F H (Le.refl F) hf ⟨fp, r⟩⟩
theorem et_ow [Tre α] (i : Nat) (a : α) (h : G[i]? = some (.ow (Tre.tr cf a))) : EG cf E (tVar i) G (.ok a) (RT cf) := EG.fin fun F O H σ Q hf he ko => by
  obtain ⟨v, fp, e, r⟩ := he.at' i _ h
  exact ⟨v, e, ko v F H (Le.refl F) hf ⟨fp, r.toFO⟩⟩
/-- as arguments -/
theorem et_argM {m : R Mdl} (h : EG cf E ta G m (RT cf)) : EG cf E ta G m fun F O _ v a => Ag.rel cf F O v a := h
theorem et_argB {m : R Bl} (h : EG cf E ta G m (RT cf)) : EG cf E ta G m fun F O _ v a => Ag.rel cf F O v a := h
theorem em_arg [Enc α] {m : R α} (h : EM cf E ta G m) : EG cf E ta G m fun F O _ v a => Ag.rel cf F O v a := h
/-- lists of ints lent -/
theorem EL.toB {m : R (List Int)} (h : EL cf E ta G m) : EG cf E ta G (m.bind fun xs => .ok (Bl.mk xs)) (RT cf) := fun F O H σ Q hf he nb ko ke =>
  h F O H σ Q hf he (R.bind_nb nb) (fun xs v F' H' e le hf' hr => by
    obtain ⟨a, vs, rfl, h1, h2⟩ := hr
    exact ko ⟨xs⟩ _ F' H' (by rw [e]; rfl) le hf' ⟨[a], lI_own h1 h2⟩) (fun c p d F' H' e => ke c p d F' H' (by rw [e]; rfl))
theorem EB.toL {m : R Bl} (h : EG cf E ta G m (RT cf)) : EL cf E ta G (m.bind fun b => .ok b.xs) := fun F O H σ Q hf he nb ko ke =>
  h F O H σ Q hf he (R.bind_nb nb) (fun b v F' H' e le hf' hr => by
    obtain ⟨fp, r⟩ := hr
    obtain ⟨a, vs, rfl, h1, h2, _⟩ := own_lI r
    exact ko b.xs _ F' H' (by rw [e]; rfl) le hf' ⟨a, vs, rfl, h1, h2⟩) (fun c p d F' H' e => ke c p d F' H' (by rw [e]; rfl))
/-! ### fields -/
def wsR : Mdl → R (List Int)
  | .c ws => .ok ws
  | .l ws _ _ => .ok ws
  | .x .. => .bad
def stR : Mdl → R Int
  | .c _ => .bad
  | .l _ st _ => .ok st
  | .x _ _ st _ => .ok st
def liR : Mdl → R Int
  | .c _ => .bad
  | .l _ _ li => .ok li
  | .x _ _ _ li => .ok li
def cuR : Mdl → R Int
  | .x _ cu _ _ => .ok cu
  | _ => .bad
def rowsR : Mdl → R (List (List Int))
  | .x rows .. => .ok rows
  | _ => .bad
/-- what is at an object's field -/
theorem fld_of {m : R Mdl} {f : Str} {Q' : Mdl → R β} {rel : Hp → Hp → Hp → V → β → Prop} (h : EG cf E ta G m (RT cf))
    (k : ∀ (F O H : Hp) (M : Mdl) (v : V), Fm F O H → RT cf F O H v M → Q' M ≠ .bad → ∃ a C dx fvs w b, v = .ref a ∧ H a = some (.ins C dx fvs) ∧ Cls cf.K C ∧ NoAttr cf.K C f ∧ fvs.lookup f = some w ∧ Q' M = .ok b ∧ rel F O H w b) :
    EG cf E (tFld cf.K ta f) G (m.bind Q') rel := fun F O H σ Q hf he nb ko ke => by
  refine h F O H σ _ hf he (R.bind_nb nb) (fun M v F' H' e le hf' hr => ?_) (fun c p d F' H' e => ke c p d F' H' (by rw [e]; rfl))
  rw [e, R.ok_bind] at nb ko
  obtain ⟨a, C, dx, fvs, w, b, rfl, ha, hC, hN, hl, hb, hr2⟩ := k F' O H' M v hf' hr nb
  exact ⟨a, C, dx, fvs, w, rfl, ha, hC, hN, hl, ko b w F' H' hb le hf' hr2⟩
theorem ne_sw : (("step" : Str) == ("weights" : Str)) = false := by decide +kernel
theorem ne_lw : (("limit" : Str) == ("weights" : Str)) = false := by decide +kernel
theorem ne_ls : (("limit" : Str) == ("step" : Str)) = false := by decide +kernel
theorem ne_ns : (("learners" : Str) == ("step" : Str)) = false := by decide +kernel
theorem ne_nl : (("learners" : Str) == ("limit" : Str)) = false := by decide +kernel
theorem ne_us : (("current" : Str) == ("step" : Str)) = false := by decide +kernel
theorem ne_ul : (("current" : Str) == ("limit" : Str)) = false := by decide +kernel
theorem ne_un : (("current" : Str) == ("learners" : Str)) = false := by decide +kernel
/-- a learner's fields -/
theorem own_L {K : PySem.W.Frag} {F : Hp} {R : HR} {v : V} {c1 : Addr} {ws : List Int} {st li : Int} {fp : List Addr} (h : Own K F R v (tL c1 ws st li) fp) :
    ∃ a dx l vs, v = .ref a ∧ R a (.ins c1 dx [("weights", .ref l), ("step", .int st), ("limit", .int li)]) ∧ R dx (.own a) ∧ R l (.lst vs) ∧ DrA K F vs (ws.map toD) ∧ fp = [a, dx, l] := by
  obtain ⟨a, dx, fvs, fq, e, h1, h2, h3, rfl⟩ := own_o h
  obtain ⟨v1, r1, f1, g1, rfl, q1, k1, rfl⟩ := ownF_cons h3
  obtain ⟨v2, r2, f2, g2, rfl, q2, k2, rfl⟩ := ownF_cons k1
  obtain ⟨v3, r3, f3, g3, rfl, q3, k3, rfl⟩ := ownF_cons k2
  obtain ⟨rfl, rfl⟩ := ownF_nil k3
  obtain ⟨l, vs, rfl, hl, hd, rfl⟩ := own_lI q1
  obtain ⟨d2, rfl⟩ := own_d q2
  obtain ⟨d3, rfl⟩ := own_d q3
  cases dr_int d2
  cases dr_int d3
  exact ⟨a, dx, l, vs, e, h1, h2, hl, hd, rfl⟩
theorem own_C {K : PySem.W.Frag} {F : Hp} {R : HR} {v : V} {c0 : Addr} {ws : List Int} {fp : List Addr} (h : Own K F R v (.o c0 [("weights", lI ws)]) fp) :
    ∃ a dx l vs, v = .ref a ∧ R a (.ins c0 dx [("weights", .ref l)]) ∧ R dx (.own a) ∧ R l (.lst vs) ∧ DrA K F vs (ws.map toD) ∧ fp = [a, dx, l] := by
  obtain ⟨a, dx, fvs, fq, e, h1, h2, h3, rfl⟩ := own_o h
  obtain ⟨v1, r1, f1, g1, rfl, q1, k1, rfl⟩ := ownF_cons h3
  obtain ⟨rfl, rfl⟩ := ownF_nil k1
  obtain ⟨l, vs, rfl, hl, hd, rfl⟩ := own_lI q1
  exact ⟨a, dx, l, vs, e, h1, h2, hl, hd, rfl⟩
theorem own_X {cf : Cf} {F : Hp} {R : HR} {v : V} {rows : List (List Int)} {cur st li : Int} {fp : List Addr} (h : Own cf.K F R v (tM cf (.x rows cur st li)) fp) :
    ∃ a dx l vs fq, v = .ref a ∧ R a (.ins (cf.mc 2) dx [("step", .int st), ("limit", .int li), ("learners", .ref l), ("current", .int cur)]) ∧ R dx (.own a) ∧ R l (.lst vs) ∧ OwnA cf.K F R vs (rows.map fun ws => tL (cf.mc 1) ws st li) fq ∧ fp = a :: dx :: l :: fq := by
  obtain ⟨a, dx, fvs, fq, e, h1, h2, h3, rfl⟩ := own_o h
  obtain ⟨v1, r1, f1, g1, rfl, q1, k1, rfl⟩ := ownF_cons h3
  obtain ⟨v2, r2, f2, g2, rfl, q2, k2, rfl⟩ := ownF_cons k1
  obtain ⟨v3, r3, f3, g3, rfl, q3, k3, rfl⟩ := ownF_cons k2
  obtain ⟨v4, r4, f4, g4, rfl, q4, k4, rfl⟩ := ownF_cons k3
  obtain ⟨rfl, rfl⟩ := ownF_nil k4
  obtain ⟨d1, rfl⟩ := own_d q1
  obtain ⟨d2, rfl⟩ := own_d q2
  obtain ⟨d4, rfl⟩ := own_d q4
  obtain ⟨l, vs, fq, rfl, hl, hA, rfl⟩ := own_l q3
  cases dr_int d1
  cases dr_int d2
  cases dr_int d4
  exact ⟨a, dx, l, vs, fq, e, h1, h2, hl, hA, by simp⟩
theorem el_weights (T : CF cf) {m : R Mdl} (h : EG cf E ta G m (RT cf)) : EL cf E (tFld cf.K ta "weights") G (m.bind wsR) := fld_of h fun F O H M v hf hr nb => by
  obtain ⟨fp, r⟩ := hr
  cases M with
  | c ws =>
    obtain ⟨a, dx, l, vs, rfl, h1, h2, h3, h4, _⟩ := own_C r
    exact ⟨a, _, dx, _, _, ws, rfl, fo_at hf h1, T.c0, T.w0, lookup_hd, rfl, l, vs, rfl, h3, h4⟩
  | l ws st li =>
    obtain ⟨a, dx, l, vs, rfl, h1, h2, h3, h4, _⟩ := own_L r
    exact ⟨a, _, dx, _, _, ws, rfl, fo_at hf h1, T.c1, T.w1, lookup_hd, rfl, l, vs, rfl, h3, h4⟩
  | x rows cur st li => exact absurd rfl nb
theorem em_step (T : CF cf) {m : R Mdl} (h : EG cf E ta G m (RT cf)) : EM cf E (tFld cf.K ta "step") G (m.bind stR) := fld_of h fun F O H M v hf hr nb => by
  obtain ⟨fp, r⟩ := hr
  cases M with
  | c ws => exact absurd rfl nb
  | l ws st li =>
    obtain ⟨a, dx, l, vs, rfl, h1, h2, h3, h4, _⟩ := own_L r
    exact ⟨a, _, dx, _, _, st, rfl, fo_at hf h1, T.c1, T.s1, by rw [lookup_tl ne_sw, lookup_hd], rfl, .int _⟩
  | x rows cur st li =>
    obtain ⟨a, dx, l, vs, fq, rfl, h1, h2, h3, h4, _⟩ := own_X r
    exact ⟨a, _, dx, _, _, st, rfl, fo_at hf h1, T.c2, T.s2, lookup_hd, rfl, .int _⟩
theorem em_limit (T : CF cf) {m : R Mdl} (h : EG cf E ta G m (RT cf)) : EM cf E (tFld cf.K ta "limit") G (m.bind liR) := fld_of h fun F O H M v hf hr nb => by
  obtain ⟨fp, r⟩ := hr
  cases M with
  | c ws => exact absurd rfl nb
  | l ws st li =>
    obtain ⟨a, dx, l, vs, rfl, h1, h2, h3, h4, _⟩ := own_L r
    exact ⟨a, _, dx, _, _, li, rfl, fo_at hf h1, T.c1, T.l1, by rw [lookup_tl ne_lw, lookup_tl ne_ls, lookup_hd], rfl, .int _⟩
  | x rows cur st li =>
    obtain ⟨a, dx, l, vs, fq, rfl, h1, h2, h3, h4, _⟩ := own_X r
    exact ⟨a, _, dx, _, _, li, rfl, fo_at hf h1, T.c2, T.l2, by rw [lookup_tl ne_ls, lookup_hd], rfl, .int _⟩
theorem em_current (T : CF cf) {m : R Mdl} (h : EG cf E ta G m (RT cf)) : EM cf E (tFld cf.K ta "current") G (m.bind cuR) := fld_of h fun F O H M v hf hr nb => by
  obtain ⟨fp, r⟩ := hr
  cases M with
  | c ws => exact absurd rfl nb
  | l ws st li => exact absurd rfl nb
  | x rows cur st li =>
    obtain ⟨a, dx, l, vs, fq, rfl, h1, h2, h3, h4, _⟩ := own_X r
    exact ⟨a, _, dx, _, _, cur, rfl, fo_at hf h1, T.c2, T.u2, by rw [lookup_tl ne_us, lookup_tl ne_ul, lookup_tl ne_un, lookup_hd], rfl, .int _⟩
/-- the learners, lent -/
def RLs (cf : Cf) (st li : Int) (F O _H : Hp) (v : V) (rows : List (List Int)) : Prop := ∃ a vs fq, v = .ref a ∧ inFO F O a (.lst vs) ∧ OwnA cf.K F (inFO F O) vs (rows.map fun ws => tL (cf.mc 1) ws st li) fq
def RLx (cf : Cf) (F O H : Hp) (v : V) (p : List (List Int) × Int × Int) : Prop := RLs cf p.2.1 p.2.2 F O H v p.1
def lsR : Mdl → R (List (List Int) × Int × Int)
  | .x rows _ st li => .ok (rows, st, li)
  | _ => .bad
theorem ex_learners (T : CF cf) {m : R Mdl} (h : EG cf E ta G m (RT cf)) : EG cf E (tFld cf.K ta "learners") G (m.bind lsR) (RLx cf) := fld_of h fun F O H M v hf hr nb => by
  obtain ⟨fp, r⟩ := hr
  cases M with
  | c ws => exact absurd rfl nb
  | l ws st li => exact absurd rfl nb
  | x rows cur st li =>
    obtain ⟨a, dx, l, vs, fq, rfl, h1, h2, h3, h4, _⟩ := own_X r
    exact ⟨a, _, dx, _, _, (rows, st, li), rfl, fo_at hf h1, T.c2, T.n2, by rw [lookup_tl ne_ns, lookup_tl ne_nl, lookup_hd], rfl, l, vs, fq, rfl, h3, h4⟩
theorem em_lenX {m : R (List (List Int) × Int × Int)} (h : EG cf E ta G m (RLx cf)) : EM cf E (tCB (rLenS cf.K) (tCons ta tNil)) G (m.bind fun p => .ok (p.1.length : Int)) := fun F O H σ Q hf he nb ko ke => by
  refine h F O H σ _ hf he (R.bind_nb nb) (fun p v F' H' e le hf' hr => ?_) (fun c p d F' H' e => ke c p d F' H' (by rw [e]; rfl))
  rw [e, R.ok_bind] at ko
  obtain ⟨a, vs, fq, rfl, h1, h2⟩ := hr
  refine ⟨a, vs, rfl, .inl (SqL.of (fo_at hf' h1)), ?_⟩
  rw [ownA_len h2, List.length_map]
  exact ko _ _ F' H' rfl le hf' (.int _)
theorem et_ixX {m : R (List (List Int) × Int × Int)} {n : R Int} (h : EG cf E ta G m (RLx cf)) (h' : EM cf E tb G n) : EG cf E (tOp (rIxL cf.K) ta tb) G (m.bind fun p => n.bind fun i => (idxR p.1 i).bind fun ws => .ok (Mdl.l ws p.2.1 p.2.2)) (RT cf) := fun F O H σ Q hf he nb ko ke => by
  refine h F O H σ _ hf he (R.bind_nb nb) (fun p v F1 H1 e1 l1 hf1 r1 => ?_) (fun c p d F' H' e => ke c p d F' H' (by rw [e]; rfl))
  rw [e1, R.ok_bind] at nb ko ke
  refine h' F1 O H1 σ _ hf1 (he.mono l1) (R.bind_nb nb) (fun i w F2 H2 e2 l2 hf2 r2 => ?_) (fun c p d F' H' e le hf' hd => ke c p d F' H' (by rw [e]; rfl) (l1.trans le) hf' hd)
  rw [e2, R.ok_bind] at nb ko ke
  obtain ⟨a, vs, fq, rfl, h1, h2⟩ := r1
  unfold idxR at nb ko
  cases q : atI p.1 i with
  | none =>
    rw [q] at nb
    exact absurd rfl nb
  | some ws =>
    rw [q] at ko
    have q2 : atI (p.1.map fun ws => tL (cf.mc 1) ws p.2.1 p.2.2) i = some (tL (cf.mc 1) ws p.2.1 p.2.2) := by
      rw [atI_map, q]
      rfl
    have hx : ∃ x fr, atI vs i = some x ∧ Own cf.K F1 (inFO F1 O) x (tL (cf.mc 1) ws p.2.1 p.2.2) fr := by
      unfold atI at q2 ⊢
      rw [ownA_len h2]
      cases q3 : ixN (p.1.map fun ws => tL (cf.mc 1) ws p.2.1 p.2.2).length i with
      | none =>
        rw [q3] at q2
        cases q2
      | some j =>
        rw [q3] at q2
        obtain ⟨x, fr, e1, e2, _⟩ := ownA_get h2 q2
        exact ⟨x, fr, e1, e2⟩
    obtain ⟨x, fr, ex, rx⟩ := hx
    exact ⟨a, vs, i, x, rfl, dr_int r2, SqL.of (fo_at hf2 (h1.imp (l2 _ _) id)), ex, ko _ x F2 H2 rfl (l1.trans l2) hf2 ⟨fr, rx.monoFO l2 (Le.refl O)⟩⟩
/-! ### methods -/
def kM : Mdl → Nat
  | .c _ => 0
  | .l .. => 1
  | .x .. => 2
def mnames : List Str := ["weights", "step", "limit", "learners", "current"]
theorem meth_base {F O H : Hp} {v : V} {M : Mdl} {n : Str} (hf : Fm F O H) (h : RT cf F O H v M) (hn : n ∉ mnames) : ∃ a dx fvs, v = .ref a ∧ H a = some (.ins (cf.mc (kM M)) dx fvs) ∧ fvs.lookup n = none := by
  obtain ⟨fp, r⟩ := h
  unfold mnames at hn
  cases M with
  | c ws =>
    obtain ⟨a, dx, fvs, fq, e, h1, h2, h3, _⟩ := own_o r
    refine ⟨a, dx, fvs, e, fo_at hf h1, lookup_none ?_⟩
    rw [ownF_names h3]
    exact fun z => hn (by simp at z; simp [z])
  | l ws st li =>
    obtain ⟨a, dx, fvs, fq, e, h1, h2, h3, _⟩ := own_o r
    refine ⟨a, dx, fvs, e, fo_at hf h1, lookup_none ?_⟩
    rw [ownF_names h3]
    exact fun z => hn (by simp at z; rcases z with z | z | z <;> simp [z])
  | x rows cur st li =>
    obtain ⟨a, dx, fvs, fq, e, h1, h2, h3, _⟩ := own_o r
    refine ⟨a, dx, fvs, e, fo_at hf h1, lookup_none ?_⟩
    rw [ownF_names h3]
    exact fun z => hn (by simp at z; rcases z with z | z | z | z <;> simp [z])
def t3 (t0 t1 t2 : TE) : TE := fun σ H Q => t0 σ H Q ∨ t1 σ H Q ∨ t2 σ H Q
theorem pe_or3 {X : Cx} {e : Expr} {t0 t1 t2 : TE} (h0 : PE X e t0) (h1 : PE X e t1) (h2 : PE X e t2) : PE X e (t3 t0 t1 t2) := ⟨fun pins s σ H Q I h => h.elim (h0.run pins s σ H Q I) fun h => h.elim (h1.run pins s σ H Q I) (h2.run pins s σ H Q I)⟩
def dsp {τ : Type} (g0 g1 g2 : Mdl → τ) (M : Mdl) : τ := match M with
  | .c ws => g0 (.c ws)
  | .l ws st li => g1 (.l ws st li)
  | .x rows cur st li => g2 (.x rows cur st li)
theorem em_meth0k {τ : Type} [Rs τ] {g : Mdl → R τ} {n : Str} {M : Mdl} {F O H : Hp} {σ : L2.St} {Q : VK} (k : Nat) (hk : kM M = k) (hn : n ∉ mnames) (h : EG cf E ta G (.ok M) (RT cf)) (hf : Fm F O H) (he : Er cf.K F O σ G) (nb : (g M).pu ≠ .bad)
    (ko : ∀ a r F' H', (g M).pu = .ok a → Le F F' → Fm F' O H' → Rs.res cf F' O H' r a → Q r H') : tMeth (cf.mc k) n (spG1 cf g) [] E0 ta tNil σ H Q := by
  refine h F O H σ _ hf he (fun z => nomatch z) (fun M' v F1 H1 e1 l1 hf1 r1 => ?_) (fun c p d F' H' e => nomatch e)
  cases e1
  obtain ⟨a, dx, fvs, rfl, ha, hl⟩ := meth_base hf1 r1 hn
  obtain ⟨y, ey⟩ := pu_nb nb
  exact ⟨a, dx, fvs, rfl, by rw [← hk]; exact ha, hl, F1, O, _, M, y, rfl, hf1, r1, ey, fun w F' H' le hf' hr => ko y w F' H' (by rw [ey]; rfl) (l1.trans le) hf' hr⟩
/-- o.m() -/
theorem em_meth0 {τ : Type} [Rs τ] {m : R Mdl} {g0 g1 g2 : Mdl → R τ} {n : Str} (hn : n ∉ mnames) (h : EG cf E ta G m (RT cf)) :
    EG cf E (t3 (tMeth (cf.mc 0) n (spG1 cf g0) [] E0 ta tNil) (tMeth (cf.mc 1) n (spG1 cf g1) [] E0 ta tNil) (tMeth (cf.mc 2) n (spG1 cf g2) [] E0 ta tNil)) G (m.bind fun M => (dsp g0 g1 g2 M).pu) (Rs.res cf) := fun F O H σ Q hf he nb ko ke => by
  cases m with
  | ok M =>
    rw [R.ok_bind] at nb ko
    cases M with
    | c ws => exact .inl (em_meth0k 0 rfl hn h hf he nb ko)
    | l ws st li => exact .inr (.inl (em_meth0k 1 rfl hn h hf he nb ko))
    | x rows cur st li => exact .inr (.inr (em_meth0k 2 rfl hn h hf he nb ko))
  | er c p => exact .inl (h F O H σ _ hf he (fun z => nomatch z) (fun _ _ _ _ e => nomatch e) fun c p d F' H' e => ke c p d F' H' (by cases e; rfl))
  | bad => exact absurd rfl nb
theorem em_meth1k {τ : Type} [Ag α] [Rs τ] {g : Mdl → α → R τ} {n : Str} {M : Mdl} {m1 : R α} {F O H : Hp} {σ : L2.St} {Q : VK} (k : Nat) (hk : kM M = k) (hn : n ∉ mnames) (h : EG cf E ta G (.ok M) (RT cf)) (h1 : EG cf E tb G m1 fun F O _ v a => Ag.rel cf F O v a) (hf : Fm F O H) (he : Er cf.K F O σ G) (nb : (m1.bind fun a => (g M a).pu) ≠ .bad)
    (ko : ∀ a r F' H', (m1.bind fun a => (g M a).pu) = .ok a → Le F F' → Fm F' O H' → Rs.res cf F' O H' r a → Q r H')
    (ke : ∀ c p d F' H', (m1.bind fun a => (g M a).pu) = .er c p → Le F F' → Fm F' O H' → F' d = some (xdO cf c p) → E (.ref (cf.cls c)) (some d) H') : tMeth (cf.mc k) n (spG2 cf g) [] E0 ta (tCons tb tNil) σ H Q := by
  refine h F O H σ _ hf he (fun z => nomatch z) (fun M' v F1 H1 e1 l1 hf1 r1 => ?_) (fun c p d F' H' e => nomatch e)
  cases e1
  obtain ⟨a, dx, fvs, rfl, ha, hl⟩ := meth_base hf1 r1 hn
  refine ⟨a, dx, fvs, rfl, by rw [← hk]; exact ha, hl, ?_⟩
  refine h1 F1 O H1 σ _ hf1 (he.mono l1) (R.bind_nb nb) (fun b w F2 H2 e2 l2 hf2 r2 => ?_) (fun c p d F' H' e le hf' hd => ke c p d F' H' (by rw [e]; rfl) (l1.trans le) hf' hd)
  rw [e2, R.ok_bind] at nb ko ke
  obtain ⟨y, ey⟩ := pu_nb nb
  exact ⟨F2, O, _, _, M, b, y, rfl, hf2, rt_mono r1 l2, r2, ey, fun w F' H' le hf' hr => ko y w F' H' (by rw [ey]; rfl) ((l1.trans l2).trans le) hf' hr⟩
/-- o.m(e) -/
theorem em_meth1 {τ : Type} [Ag α] [Rs τ] {m : R Mdl} {m1 : R α} {g0 g1 g2 : Mdl → α → R τ} {n : Str} (hn : n ∉ mnames) (h : EG cf E ta G m (RT cf)) (h1 : EG cf E tb G m1 fun F O _ v a => Ag.rel cf F O v a) :
    EG cf E (t3 (tMeth (cf.mc 0) n (spG2 cf g0) [] E0 ta (tCons tb tNil)) (tMeth (cf.mc 1) n (spG2 cf g1) [] E0 ta (tCons tb tNil)) (tMeth (cf.mc 2) n (spG2 cf g2) [] E0 ta (tCons tb tNil))) G (m.bind fun M => m1.bind fun a => (dsp g0 g1 g2 M a).pu) (Rs.res cf) := fun F O H σ Q hf he nb ko ke => by
  cases m with
  | ok M =>
    rw [R.ok_bind] at nb ko ke
    cases M with
    | c ws => exact .inl (em_meth1k 0 rfl hn h h1 hf he nb ko ke)
    | l ws st li => exact .inr (.inl (em_meth1k 1 rfl hn h h1 hf he nb ko ke))
    | x rows cur st li => exact .inr (.inr (em_meth1k 2 rfl hn h h1 hf he nb ko ke))
  | er c p => exact .inl (h F O H σ _ hf he (fun z => nomatch z) (fun _ _ _ _ e => nomatch e) fun c p d F' H' e => ke c p d F' H' (by cases e; rfl))
  | bad => exact absurd rfl nb
end
end Kr

/-! KrS: models made, kept, taught. -/
namespace Kr
open PySem PySem.Spec PyProof.Rows L2
open Enc (toD)
/-- no tuple is owned -/
def NTu (R : HR) (p : Addr) : Prop := ∃ o, R p o ∧ ∀ vs, o ≠ .tup vs
section
variable {K : PySem.W.Frag} {F : Hp} {R : HR}
mutual
theorem Own.nt : ∀ {v : V} {t : Tr} {fp : List Addr}, Own K F R v t fp → ∀ p ∈ fp, NTu R p
  | _, _, _, .d _, p, h => by cases h
  | _, _, _, .l a r, p, h => by
    rcases List.mem_cons.mp h with rfl | h
    · exact ⟨_, a, fun _ z => nomatch z⟩
    · exact OwnA.nt r p h
  | _, _, _, .o a b r, p, h => by
    rcases List.mem_cons.mp h with rfl | h
    · exact ⟨_, a, fun _ z => nomatch z⟩
    · rcases List.mem_cons.mp h with rfl | h
      · exact ⟨_, b, fun _ z => nomatch z⟩
      · exact OwnF.nt r p h
  | _, _, _, .k a r, p, h => by
    rcases List.mem_cons.mp h with rfl | h
    · exact ⟨_, a, fun _ z => nomatch z⟩
    · exact OwnK.nt r p h
  | _, _, _, .pin r, p, h => Own.nt r p h
  | _, _, _, .hole, p, h => by cases h
theorem OwnA.nt : ∀ {v : List V} {t : List Tr} {fp : List Addr}, OwnA K F R v t fp → ∀ p ∈ fp, NTu R p
  | _, _, _, .nil, p, h => by cases h
  | _, _, _, .cons r s, p, h => (List.mem_append.mp h).elim (Own.nt r p) (OwnA.nt s p)
theorem OwnF.nt : ∀ {v : List (Str × V)} {t : List (Str × Tr)} {fp : List Addr}, OwnF K F R v t fp → ∀ p ∈ fp, NTu R p
  | _, _, _, .nil, p, h => by cases h
  | _, _, _, .cons r s, p, h => (List.mem_append.mp h).elim (Own.nt r p) (OwnF.nt s p)
theorem OwnK.nt : ∀ {v : List (Key × V)} {t : List (Str × Tr)} {fp : List Addr}, OwnK K F R v t fp → ∀ p ∈ fp, NTu R p
  | _, _, _, .nil, p, h => by cases h
  | _, _, _, .cons r s, p, h => (List.mem_append.mp h).elim (Own.nt r p) (OwnK.nt s p)
end
end
theorem own_ntH {K : PySem.W.Frag} {F H : Hp} {v : V} {t : Tr} {fp : List Addr} (h : Own K F (inO H) v t fp) : ∀ p ∈ fp, ∀ vs, H p ≠ some (.tup vs) := fun p q vs e => by
  obtain ⟨o, h1, h2⟩ := h.nt p q
  have h1 : H p = some o := h1
  rw [e] at h1
  exact h2 vs (Option.some.inj h1).symm
section
variable {cf : Cf} {E : XK} {G : List Sl} {α β γ δ S ρ : Type} [Rs ρ] {ta tb te : TE} {u : TS} {enc : S → List Sl}
/-! ### new objects are let go: they are never changed from now on -/
theorem fm_frz {F O H : Hp} {fp : List Addr} (hf : Fm F O H) (h : ∀ p ∈ fp, F p = none ∧ O p = none) : ∃ F', Le F F' ∧ Fm F' O H ∧ ∀ p ∈ fp, ∀ o, H p = some o → F' p = some o := by
  refine ⟨fun p => if p ∈ fp then H p else F p, fun p o e => ?_, ⟨fun p o e => ?_, hf.o, fun p e => ?_, hf.nt⟩, fun p q o e => ?_⟩
  · show (if p ∈ fp then H p else F p) = some o
    rw [if_neg]
    · exact e
    · intro z
      rw [(h p z).1] at e
      cases e
  · have e' : (if p ∈ fp then H p else F p) = some o := e
    by_cases c : p ∈ fp
    · rw [if_pos c] at e'
      exact e'
    · rw [if_neg c] at e'
      exact hf.f p o e'
  · have e' : (if p ∈ fp then H p else F p) ≠ none := e
    by_cases c : p ∈ fp
    · exact (h p c).2
    · rw [if_neg c] at e'
      exact hf.ds p e'
  · show (if p ∈ fp then H p else F p) = some o
    rw [if_pos q]
    exact e
theorem EN.toT [Tre α] {m : R α} (h : EG cf E ta G m (RN cf)) : EG cf E ta G m (RT cf) := fun F O H σ Q hf he nb ko ke =>
  h F O H σ Q hf he nb (fun a v F' H' e le hf' hr => by
    obtain ⟨fp, r, _, hn⟩ := hr
    obtain ⟨F2, le2, hf2, k⟩ := fm_frz hf' hn
    exact ko a v F2 H' e (le.trans le2) hf2 ⟨fp, r.mono le2 fun p q o e => .inl (k p q o e)⟩) ke
/-! ### a slot owns what is new -/
theorem mt_newN [Tre α] {K : PySem.W.Frag} {F O O' H : Hp} {σ : L2.St} {i : Nat} {v : V} {t : Tr} {fp : List Addr} (lo : Le O O') (hf : Fm F O' H) (he : Er K F O' σ G) (ow : Ows K F O O' σ G)
    (r : Own K F (inO H) v t fp) (nd : fp.Nodup) (hn : ∀ p ∈ fp, F p = none ∧ O' p = none) : Mt K F O H (σ.set i (some v)) (G.set i (.ow t)) := by
  have l2 : Le O' (fun p => if p ∈ fp then H p else O' p) := fun p o e => by
    show (if p ∈ fp then H p else O' p) = some o
    rw [if_neg]
    · exact e
    · intro z
      rw [(hn p z).2] at e
      cases e
  have r2 : Own K F (inO fun p => if p ∈ fp then H p else O' p) v t fp := r.mono (Le.refl F) fun p q o e => by
    show (if p ∈ fp then H p else O' p) = some o
    rw [if_pos q]
    exact e
  refine mt_newG (O2 := fun p => if p ∈ fp then H p else O' p) lo l2 ⟨hf.f, fun p o e => ?_, fun p e => ?_, fun p vs e => by
    have e' : (if p ∈ fp then H p else O' p) = some (.tup vs) := e
    by_cases c : p ∈ fp
    · rw [if_pos c] at e'
      exact own_ntH r p c vs e'
    · rw [if_neg c] at e'
      exact hf.nt p vs e'⟩ he ow (fun p q => (hn p q).2) ⟨v, fp, rfl, r2⟩ ⟨v, rfl, r2, nd⟩ (fun _ z => nomatch z)
  · have e' : (if p ∈ fp then H p else O' p) = some o := e
    by_cases c : p ∈ fp
    · rw [if_pos c] at e'
      exact e'
    · rw [if_neg c] at e'
      exact hf.o p o e'
  · show (if p ∈ fp then H p else O' p) = none
    by_cases c : p ∈ fp
    · exact absurd (hn p c).1 e
    · rw [if_neg c]
      exact hf.ds p e
theorem sb_asgN [Tre α] {i : Nat} {m : R α} {f : α → R (Fl S ρ)} (h : EG cf E te G m (RN cf)) (G' : α → List Sl) (hG : ∀ a : α, G.set i (.ow (Tre.tr cf a)) = G' a) (hk : ∀ a, SB cf E u (G' a) enc (f a)) :
    SB cf E (tSeq (tAsg te (gName i)) u) G enc (m.bind f) :=
  sb_of (k := fun v D σ H => u D (σ.set i (some v)) H) h fun F O O' H σ D a v lo hf he ow hr nb kn kb kr ke => by
    obtain ⟨fp, r, nd, hn⟩ := hr
    refine hk a F O H _ D ?_ nb kn kb kr ke
    rw [← hG]
    exact mt_newN (α := α) lo hf he ow r nd hn
/-- what is lent from within is stored -/
theorem sb_asgV [Tre α] {i : Nat} {m : R α} {f : α → R (Fl S ρ)} (h : EG cf E te G m (RT cf)) (G' : α → List Sl) (hG : ∀ a : α, G.set i (.vo (Tre.tr cf a)) = G' a) (hk : ∀ a, SB cf E u (G' a) enc (f a)) :
    SB cf E (tSeq (tAsg te (gName i)) u) G enc (m.bind f) :=
  sb_of (k := fun v D σ H => u D (σ.set i (some v)) H) h fun F O O' H σ D a v lo hf he ow hr nb kn kb kr ke => by
    obtain ⟨fp, r⟩ := hr
    refine hk a F O H _ D ?_ nb kn kb kr ke
    rw [← hG]
    refine ⟨O', lo, hf, er_own he i ⟨v, fp, rfl, r⟩, ow.keep fun j s e o => ?_⟩
    rcases get_set e with ⟨rfl, rfl, _⟩ | ⟨hj, e⟩
    · cases o
    · exact ⟨e, List.getElem?_set_ne hj⟩
/-- return e, new objects -/
theorem sb_retN_ {m : R Mdl} (h : EG cf E te G m (RN cf)) : SB cf E (tRet te) G enc (m.bind fun r => (.ok (.rt r) : R (Fl S Mdl))) :=
  sb_of (k := fun v D σ H => D.rt v H) h fun F O O' H σ D a v lo hf he ow hr nb kn kb kr ke => kr a v F H rfl (Le.refl F) (hf.weak lo) (by
    obtain ⟨fp, r, nd, hn⟩ := hr
    exact ⟨fp, r, nd, fun p q => ⟨(hn p q).1, lo.free (hn p q).2⟩⟩)
theorem sb_retN2_ {m : R Mdl} (h : EG cf E te G m (RN cf)) : SB cf E (tSeq (tRet te) u) G enc (m.bind fun r => (.ok (.rt r) : R (Fl S Mdl))) :=
  sb_of (k := fun v D σ H => D.rt v H) h fun F O O' H σ D a v lo hf he ow hr nb kn kb kr ke => kr a v F H rfl (Le.refl F) (hf.weak lo) (by
    obtain ⟨fp, r, nd, hn⟩ := hr
    exact ⟨fp, r, nd, fun p q => ⟨(hn p q).1, lo.free (hn p q).2⟩⟩)
/-! ### making -/
def spI1 [Ag α] (cf : Cf) (k : Nat) (g : α → R Mdl) : Sp := fun vs H Q _ => ∃ (F O : Hp) (x dx : Addr) (v0 : V) (x0 : α) (M : Mdl), vs = [.ref x, v0] ∧ Fm F O H ∧ H x = some (.ins (cf.mc k) dx []) ∧ H dx = some (.own x) ∧ dx ≠ x ∧ (F x = none ∧ O x = none) ∧ (F dx = none ∧ O dx = none) ∧ Ag.rel cf F O v0 x0 ∧ g x0 = .ok M ∧
  ∀ F' H', Le F F' → Fm F' O H' → RN cf F' O H' (.ref x) M → Q .non H'
def spI3 [Ag α] [Ag β] [Ag γ] (cf : Cf) (k : Nat) (g : α → β → γ → R Mdl) : Sp := fun vs H Q _ => ∃ (F O : Hp) (x dx : Addr) (v0 v1 v2 : V) (x0 : α) (x1 : β) (x2 : γ) (M : Mdl), vs = [.ref x, v0, v1, v2] ∧ Fm F O H ∧ H x = some (.ins (cf.mc k) dx []) ∧ H dx = some (.own x) ∧ dx ≠ x ∧ (F x = none ∧ O x = none) ∧ (F dx = none ∧ O dx = none) ∧ Ag.rel cf F O v0 x0 ∧ Ag.rel cf F O v1 x1 ∧ Ag.rel cf F O v2 x2 ∧ g x0 x1 x2 = .ok M ∧
  ∀ F' H', Le F F' → Fm F' O H' → RN cf F' O H' (.ref x) M → Q .non H'
theorem mk_fm {F O H : Hp} {x dx C : Addr} (hf : Fm F O H) (hx : H x = none) (hd : H dx = none) (ne : dx ≠ x) : Fm F O (upd (upd H dx (.own x)) x (.ins C dx [])) := hf.newH hd |>.newH (by rw [upd_ne (Ne.symm ne)]; exact hx)
theorem em_make1 [Ag α] {k : Nat} {m0 : R α} {g : α → R Mdl} (h0 : EG cf E ta G m0 fun F O _ v a => Ag.rel cf F O v a) : EG cf E (tMake (cf.mc k) (spI1 cf k g) [] E0 (tCons ta tNil)) G (m0.bind fun a => (g a).pu) (RN cf) := fun F O H σ Q hf he nb ko ke => by
  refine h0 F O H σ _ hf he (R.bind_nb nb) (fun a v F1 H1 e1 l1 hf1 r1 => ?_) (fun c p d F' H' e => ke c p d F' H' (by rw [e]; rfl))
  rw [e1, R.ok_bind] at nb ko
  obtain ⟨y, ey⟩ := pu_nb nb
  intro x dx hx hd ne
  exact ⟨F1, O, x, dx, v, a, y, rfl, mk_fm hf1 hx hd ne, upd_same, by rw [upd_ne ne, upd_same], ne, ⟨hf1.fnone hx, hf1.onone hx⟩, ⟨hf1.fnone hd, hf1.onone hd⟩, r1, ey, fun F' H' le hf' hr => ⟨rfl, ko y _ F' H' (by rw [ey]; rfl) (l1.trans le) hf' hr⟩⟩
theorem em_make3 [Ag α] [Ag β] [Ag γ] {tc : TE} {k : Nat} {m0 : R α} {m1 : R β} {m2 : R γ} {g : α → β → γ → R Mdl} (h0 : EG cf E ta G m0 fun F O _ v a => Ag.rel cf F O v a) (h1 : EG cf E tb G m1 fun F O _ v a => Ag.rel cf F O v a) (h2 : EG cf E tc G m2 fun F O _ v a => Ag.rel cf F O v a) :
    EG cf E (tMake (cf.mc k) (spI3 cf k g) [] E0 (tCons ta (tCons tb (tCons tc tNil)))) G (m0.bind fun a => m1.bind fun b => m2.bind fun c => (g a b c).pu) (RN cf) := fun F O H σ Q hf he nb ko ke => by
  refine h0 F O H σ _ hf he (R.bind_nb nb) (fun a v F1 H1 e1 l1 hf1 r1 => ?_) (fun c p d F' H' e => ke c p d F' H' (by rw [e]; rfl))
  rw [e1, R.ok_bind] at nb ko ke
  refine h1 F1 O H1 σ _ hf1 (he.mono l1) (R.bind_nb nb) (fun b v2 F2 H2 e2 l2 hf2 r2 => ?_) (fun c p d F' H' e le => ke c p d F' H' (by rw [e]; rfl) (l1.trans le))
  rw [e2, R.ok_bind] at nb ko ke
  refine h2 F2 O H2 σ _ hf2 (he.mono (l1.trans l2)) (R.bind_nb nb) (fun c v3 F3 H3 e3 l3 hf3 r3 => ?_) (fun c p d F' H' e le => ke c p d F' H' (by rw [e]; rfl) ((l1.trans l2).trans le))
  rw [e3, R.ok_bind] at nb ko ke
  obtain ⟨y, ey⟩ := pu_nb nb
  intro x dx hx hd ne
  exact ⟨F3, O, x, dx, v, v2, v3, a, b, c, y, rfl, mk_fm hf3 hx hd ne, upd_same, by rw [upd_ne ne, upd_same], ne, ⟨hf3.fnone hx, hf3.onone hx⟩, ⟨hf3.fnone hd, hf3.onone hd⟩, Ag.mono (Ag.mono r1 l2) l3, Ag.mono r2 l3, r3, ey, fun F' H' le hf' hr => ⟨rfl, ko y _ F' H' (by rw [ey]; rfl) (((l1.trans l2).trans l3).trans le) hf' hr⟩⟩
/-! ### teaching -/
/-- of a method that changes its object: what the object is behind it; it returns None -/
def spL [Tre α] [Ag β] (cf : Cf) (g : α → β → R α) : Sp := fun vs H Q _ => ∃ (F O : Hp) (v w : V) (M M' : α) (b : β) (fp : List Addr), vs = [v, w] ∧ Fm F O H ∧ Own cf.K F (inO O) v (Tre.tr cf M) fp ∧ fp.Nodup ∧ Ag.rel cf F O w b ∧ g M b = .ok M' ∧
  ∀ F' O2 H' fp2, Le F F' → Fm F' O2 H' → (∀ p, p ∉ fp → ∀ o, O p = some o → O2 p = some o) → Own cf.K F' (inO O2) v (Tre.tr cf M') fp2 → fp2.Nodup → (∀ p ∈ fp2, p ∈ fp ∨ O p = none) → Q .non H'
/-- o.m(e) as a statement: o in a slot that owns it -/
theorem sb_learn [Ag β] {i : Nat} {M : Mdl} {g0 g1 g2 : Mdl → β → R Mdl} {n : Str} {m1 : R β} {f : Mdl → R (Fl S ρ)} (h0 : G[i]? = some (.ow (tM cf M))) (hn : n ∉ mnames) (h1 : EG cf E tb G m1 fun F O _ v a => Ag.rel cf F O v a) (G' : Mdl → List Sl) (hG : ∀ a : Mdl, G.set i (.ow (tM cf a)) = G' a) (hk : ∀ a, SB cf E u (G' a) enc (f a)) (nv : noVo G = true := by rfl) :
    SB cf E (tSeq (tDrop (t3 (tMeth (cf.mc 0) n (spL cf g0) [] E0 (tVar i) (tCons tb tNil)) (tMeth (cf.mc 1) n (spL cf g1) [] E0 (tVar i) (tCons tb tNil)) (tMeth (cf.mc 2) n (spL cf g2) [] E0 (tVar i) (tCons tb tNil)))) u) G enc (m1.bind fun b => (dsp g0 g1 g2 M b).pu.bind f) := fun F O H σ D hM nb kn kb kr ke => by
  obtain ⟨O', lo, hf, he, fp, w⟩ := hM
  have hi := w.at' i
  rw [h0] at hi
  obtain ⟨v, ev, rv, ndv⟩ := hi
  have hlen : i < G.length := (List.getElem?_eq_some_iff.mp h0).1
  have main : ∀ (k : Nat) (g : Mdl → β → R Mdl), kM M = k → dsp g0 g1 g2 M = g M → tMeth (cf.mc k) n (spL cf g) [] E0 (tVar i) (tCons tb tNil) σ H (fun _ H1 => u D σ H1) := fun k g hkM hd => by
    rw [hd] at nb kn kb kr ke
    obtain ⟨a, dx, fvs, rfl, ha, hl⟩ := meth_base (n := n) hf ⟨fp i, rv.toFO⟩ hn
    refine ⟨_, ev, a, dx, fvs, rfl, by rw [← hkM]; exact ha, hl, ?_⟩
    refine h1 F O' H σ _ hf he (R.bind_nb nb) (fun b x F1 H1 e1 l1 hf1 r1 => ?_) (fun c p d F' H' e le hf' hd => ke c p d F' H' (by rw [e]; rfl) le (hf'.weak lo) hd)
    rw [e1, R.ok_bind] at nb kn kb kr ke
    obtain ⟨y, ey⟩ := pu_nb (R.bind_nb nb)
    have epu : (g M b).pu = .ok y := by rw [ey]; rfl
    rw [epu, R.ok_bind] at nb kn kb kr ke
    refine ⟨F1, O', _, x, M, y, b, fp i, rfl, hf1, rv.monoF l1, ndv, r1, ey, fun F' O2 H' fp2 le hf' keep r2 nd2 hn2 => ?_⟩
    have le2 := l1.trans le
    have w2 : OwsF cf.K F' O O' σ G fp := ⟨fun i => (w.at' i).mono le2 fun _ _ _ q => q, w.out, w.sep, fun i t q => (w.bo i t q).mono le2⟩
    have hM2 : Mt cf.K F' O H' σ (G.set i (.ow (tM cf y))) := mt_wrG (fp2 := fp2) lo (he.mono le2) w2 nv hlen keep hf' (by rw [ev]; exact ⟨_, fp2, rfl, r2⟩) (by rw [ev]; exact ⟨_, rfl, r2, nd2⟩) hn2 (fun _ z => nomatch z)
    rw [hG] at hM2
    exact hk y F' O H' σ D hM2 nb (fun s F'' H'' σ' e le' => kn s F'' H'' σ' e (le2.trans le')) (fun s F'' H'' σ' e le' => kb s F'' H'' σ' e (le2.trans le')) (fun r v F'' H'' e le' => kr r v F'' H'' e (le2.trans le')) fun c p d F'' H'' e le' => ke c p d F'' H'' e (le2.trans le')
  show t3 _ _ _ σ H (fun _ H1 => u D σ H1)
  cases hm : M with
  | c ws => exact .inl (main 0 g0 (by rw [hm]; rfl) (by rw [hm]; rfl))
  | l ws st li => exact .inr (.inl (main 1 g1 (by rw [hm]; rfl) (by rw [hm]; rfl)))
  | x rows cur st li => exact .inr (.inr (main 2 g2 (by rw [hm]; rfl) (by rw [hm]; rfl)))
end
end Kr

/-! KrI: the classes' own defs that make or change: what they compute. -/
namespace Kr
open PySem PySem.Spec PyProof.Rows L2
open Enc (toD)
/-- an object that nobody knows changes -/
theorem Fm.chg {F O H : Hp} (h : Fm F O H) {p : Addr} {o : HO} (h1 : F p = none) (h2 : O p = none) : Fm F O (upd H p o) :=
  ⟨fun a u q => by rw [upd_ne (ne_of_none q h1)]; exact h.f a u q, fun a u q => by rw [upd_ne (ne_of_none q h2)]; exact h.o a u q, h.ds, h.nt⟩
section
variable {cf : Cf} {N : List Str} {H : Hp} {Q : VK} {E : XK} {vs : List V}
theorem spI1.len {α : Type} [Ag α] {k : Nat} {g : α → R Mdl} {ps : List Str} (h : ps.length = 2 := by rfl) : ∀ vs H Q E, spI1 cf k g vs H Q E → vs.length = ps.length := fun vs H Q E q => by
  rw [h]
  obtain ⟨F, O, x, dx, v0, x0, M, q, _⟩ := q
  rw [q]
  rfl
theorem spI3.len {α β γ : Type} [Ag α] [Ag β] [Ag γ] {k : Nat} {g : α → β → γ → R Mdl} {ps : List Str} (h : ps.length = 4 := by rfl) : ∀ vs H Q E, spI3 cf k g vs H Q E → vs.length = ps.length := fun vs H Q E q => by
  rw [h]
  obtain ⟨F, O, x, dx, v0, v1, v2, x0, x1, x2, M, q, _⟩ := q
  rw [q]
  rfl
theorem spL.len {α β : Type} [Tre α] [Ag β] {g : α → β → R α} {ps : List Str} (h : ps.length = 2 := by rfl) : ∀ vs H Q E, spL cf g vs H Q E → vs.length = ps.length := fun vs H Q E q => by
  rw [h]
  obtain ⟨F, O, v, w, M, M', b, fp, q, _⟩ := q
  rw [q]
  rfl
/-! ### Counts -/
def initC (b : Bl) : R Mdl := .ok (.c b.xs)
theorem nodup3 {a b c : Addr} (h1 : a ≠ b) (h2 : a ≠ c) (h3 : b ≠ c) : [a, b, c].Nodup := by simp [h1, h2, h3]
theorem init_counts (T : CF cf) (h : spI1 cf 0 initC vs H Q E) : sFld cf.K (tVar 0) (tCB (rListS cf.K) (tCons (tVar 1) tNil)) "weights" { nx := fun _ H' => Q .non H', rt := Q } (L2.start ["self", "weights"] vs) H := by
  obtain ⟨F, O, x, dx, v0, b, M, rfl, hf, hx, hd, ne, ⟨x1, x2⟩, ⟨d1, d2⟩, hb, hg, k⟩ := h
  cases hg
  obtain ⟨fp, r⟩ := hb
  obtain ⟨a, ys, rfl, ha, hr, _⟩ := own_lI r
  refine ⟨_, rfl, a, ys, rfl, .inl (SqL.of (fo_at hf ha)), fun l hl => ?_⟩
  have nlx : l ≠ x := fun z => by rw [z, hx] at hl; cases hl
  have nld : l ≠ dx := fun z => by rw [z, hd] at hl; cases hl
  refine ⟨_, rfl, x, cf.mc 0, dx, [], rfl, by rw [upd_ne (Ne.symm nlx)]; exact hx, T.c0, T.w0, by show 0 < 1000; decide, ?_⟩
  have hf2 : Fm F O (upd (upd H l (.lst ys)) x (.ins (cf.mc 0) dx (putF "weights" (.ref l) []))) := (hf.newH hl).chg x1 x2
  refine k F _ (Le.refl F) hf2 ⟨[x, dx, l], ?_, nodup3 (Ne.symm ne) (Ne.symm nlx) (Ne.symm nld), fun p q => ?_⟩
  · refine Own.o (fvs := [("weights", .ref l)]) (fp := [l]) upd_same ?_ (.cons (fp := [l]) (fq := []) (lI_own ?_ hr) .nil)
    · show upd _ x _ dx = some (.own x)
      rw [upd_ne ne, upd_ne (Ne.symm nld)]
      exact hd
    · show upd _ x _ l = some (.lst ys)
      rw [upd_ne nlx, upd_same]
  · simp only [List.mem_cons, List.not_mem_nil, or_false] at q
    rcases q with rfl | rfl | rfl
    · exact ⟨x1, x2⟩
    · exact ⟨d1, d2⟩
    · exact ⟨hf.fnone hl, hf.onone hl⟩
def learnC (M : Mdl) (_ : Int) : R Mdl := .ok M
theorem learn_counts (h : spL cf learnC vs H Q E) : tRet (tC .non) { nx := fun _ H' => Q .non H', rt := Q } (L2.start N vs) H := by
  obtain ⟨F, O, v, w, M, M', b, fp, rfl, hf, r, nd, hb, hg, k⟩ := h
  cases hg
  exact k F O H fp (Le.refl F) hf (fun _ _ _ q => q) r nd fun p q => .inl q
end
end Kr

/-! KrJ: defs that change their own object: statements over an owned self. -/
namespace Kr
open PySem PySem.Spec PyProof.Rows L2
open Enc (toD)
/-! ### xs[i] read, i from 0 -/
def rIx0 (K : PySem.W.Frag) : V → V → Hp → VK → Prop := fun x y H Q => ∃ p xs i v, x = .ref p ∧ y = .int i ∧ SqL K H p xs ∧ 0 ≤ i ∧ xs[i.toNat]? = some v ∧ Q v H
theorem get_list {X : Cx} {K : PySem.W.Frag} (hK : X.K = K) : PGet X (rIx0 K) := by
  subst hK
  intro pins s σ H x y v u Q I rx ry h
  obtain ⟨p, xs, i, z, rfl, rfl, hq, h0, he, q⟩ := h
  cases rx
  obtain ⟨t, rfl⟩ := ry
  obtain ⟨its, r, pl, hz⟩ := I.list hq
  obtain ⟨w, ew, rw'⟩ := r.get he
  have hl := r.length
  have hn := line63
  have hi := (List.getElem?_eq_some_iff.mp he).1
  exact wpAny_getItem_list pl.isList h0 (by omega) (by simpa using ew) ⟨z, H, I, rw', q⟩
theorem FnOk.weak {P : Program} {w : World} {K : PySem.W.Frag} {mg : Str → Option Value} {base : Heap} {CX : CXT} {k : Nat} {f : Addr} {fd : FuncData} {ps : List Str} {sp sp' : Sp} (F : FnOk P w K mg base CX k f fd ps sp) (h : ∀ vs H Q E, sp' vs H Q E → sp vs H Q E) : FnOk P w K mg base CX k f fd ps sp' :=
  ⟨fun vs H Q E q => F.len vs H Q E (h vs H Q E q), fun A outer s H args us vs Q E hr e0 hb r q => F.run A outer s H args us vs Q E hr e0 hb r (h vs H Q E q)⟩
/-- a tree, at a told value or anywhere -/
def pn (o : Option V) (t : Tr) : Tr := match o with
  | none => t
  | some v => .at v t
theorem own_pn {K : PySem.W.Frag} {F : Hp} {R : HR} {o : Option V} {v : V} {t : Tr} {fp : List Addr} (h : Own K F R v (pn o t) fp) : Own K F R v t fp ∧ ∀ w, o = some w → v = w := by
  cases o with
  | none => exact ⟨h, fun w e => nomatch e⟩
  | some w =>
    have h' : Own K F R v (.at w t) fp := h
    cases h' with
    | pin h => exact ⟨h, fun w e => Option.some.inj e⟩
theorem pn_own {K : PySem.W.Frag} {F : Hp} {R : HR} {o : Option V} {v : V} {t : Tr} {fp : List Addr} (h : Own K F R v t fp) (e : ∀ w, o = some w → v = w) : Own K F R v (pn o t) fp := by
  cases o with
  | none => exact h
  | some w =>
    have := e w rfl
    subst this
    exact .pin h
section
variable {cf : Cf} {E : XK} {G : List Sl} {α β γ S ρ : Type} [Rs ρ] {pin : Option V} {ta tb tc te : TE} {u : TS} {enc : S → List Sl}
/-! ### an owned learner's parts in the heap -/
theorem getD_list {G : List Sl} {i : Nat} (hi : i < G.length) {s : Sl} : (G.set i s)[i]? = some s := List.getElem?_set_self hi
/-- what is behind a change of the own objects of the slot i -/
theorem sb_chg {i : Nat} {F O O' O2 H2 : Hp} {σ : L2.St} {fp : Nat → List Addr} {fp2 : List Addr} {t' : Tr} (v : V) (lo : Le O O') (he : Er cf.K F O' σ G) (w : OwsF cf.K F O O' σ G fp) (nv : noVo G = true) (hi : i < G.length) (ev : σ[i]? = some (some v))
    (keep : ∀ p, p ∉ fp i → ∀ o, O' p = some o → O2 p = some o) (hf : Fm F O2 H2) (r : Own cf.K F (inO O2) v t' fp2) (nd : fp2.Nodup) (hn : ∀ p ∈ fp2, p ∈ fp i ∨ O' p = none) : Mt cf.K F O H2 σ (G.set i (.ow t')) :=
  mt_wrG (fp2 := fp2) lo he w nv hi keep hf (by rw [ev]; exact ⟨v, fp2, rfl, r⟩) (by rw [ev]; exact ⟨v, rfl, r, nd⟩) hn (fun _ z => nomatch z)
theorem OwsF.mono {K : PySem.W.Frag} {F F' O O' : Hp} {σ : L2.St} {G : List Sl} {fp : Nat → List Addr} (h : OwsF K F O O' σ G fp) (e : Le F F') : OwsF K F' O O' σ G fp := ⟨fun i => (h.at' i).mono e fun _ _ _ q => q, h.out, h.sep, fun i t q => (h.bo i t q).mono e⟩
def ix0R (ws : List Int) (k : Int) : R Int := if 0 ≤ k ∧ k < ws.length then .ok (ws.getD k.toNat 0) else .bad
theorem ix0R_nb {ws : List Int} {k : Int} (h : ix0R ws k ≠ .bad) : (0 ≤ k ∧ k < ws.length) ∧ ix0R ws k = .ok (ws.getD k.toNat 0) := by
  unfold ix0R at *
  split at h
  · rename_i c
    exact ⟨c, if_pos c⟩
  · exact absurd rfl h
theorem ixN_nn {n : Nat} {k : Int} (h : 0 ≤ k ∧ k < n) : ixN n k = some k.toNat := by
  unfold ixN
  rw [if_pos h.1, if_pos h.2]
/-- the heap with a list changed -/
theorem fm_upd {F O H : Hp} {p : Addr} {o u : HO} (hf : Fm F O H) (e : O p = some u) (ho : ∀ vs, o ≠ .tup vs := by intro _ z; cases z) : Fm F (upd O p o) (upd H p o) := hf.wr e ho
/-- self.weights[k] += e -/
theorem sb_augW (T : CF cf) {i : Nat} {ws : List Int} {st li : Int} {mk me : R Int} {f : List Int → R (Fl S ρ)} (h0 : G[i]? = some (.ow (pn pin (tL (cf.mc 1) ws st li)))) (hk : EM cf E tb G mk) (hx : EM cf E te G me) (G' : List Int → List Sl) (hG : ∀ ws', G.set i (.ow (pn pin (tL (cf.mc 1) ws' st li))) = G' ws')
    (hu : ∀ ws', SB cf E u (G' ws') enc (f ws')) (nv : noVo G = true := by rfl) :
    SB cf E (tSeq (tAugS (tFld cf.K (tVar i) "weights") tb te (rIx0 cf.K) (rI0 fun a b => .int (a + b)) rSetL) u) G enc (mk.bind fun k => (ix0R ws k).bind fun w => me.bind fun x => f (ws.set k.toNat (w + x))) := fun F O H σ D hM nb kn kb kr ke => by
  obtain ⟨O', lo, hf, he, fp, w⟩ := hM
  have hi := w.at' i
  rw [h0] at hi
  obtain ⟨v, ev, rv0, ndv⟩ := hi
  obtain ⟨rv, hpin⟩ := own_pn rv0
  have hlen : i < G.length := (List.getElem?_eq_some_iff.mp h0).1
  obtain ⟨a, dx, l, vs, rfl, p1, p2, p3, p4, efp⟩ := own_L rv
  refine ⟨_, ev, a, _, dx, _, .ref l, rfl, hf.o _ _ p1, T.c1, T.w1, lookup_hd, ?_⟩
  refine hk F O' H σ _ hf he (R.bind_nb nb) (fun k kv F1 H1 e1 l1 hf1 r1 => ?_) (fun c p d F' H' e le hf' hd => ke c p d F' H' (by rw [e]; rfl) le (hf'.weak lo) hd)
  rw [e1, R.ok_bind] at nb kn kb kr ke
  obtain ⟨hb, ei⟩ := ix0R_nb (R.bind_nb nb)
  rw [ei, R.ok_bind] at nb kn kb kr ke
  obtain rfl : kv = .int k := dr_int r1
  have hvl : vs.length = ws.length := by rw [p4.length, List.length_map]
  have hw : (ws.map toD)[k.toNat]? = some (.int (ws.getD k.toNat 0)) := by
    rw [List.getElem?_map, List.getD_eq_getElem?_getD, List.getElem?_eq_getElem (by omega)]
    rfl
  obtain ⟨wv, hwv, rwv⟩ := p4.get hw
  obtain rfl : wv = .int _ := dr_int rwv
  refine ⟨l, vs, k, _, rfl, rfl, SqL.of (hf1.o _ _ p3), hb.1, hwv, ?_⟩
  refine hx F1 O' H1 σ _ hf1 (he.mono l1) (R.bind_nb nb) (fun x xv F2 H2 e2 l2 hf2 r2 => ?_) (fun c p d F' H' e le hf' hd => ke c p d F' H' (by rw [e]; rfl) (l1.trans le) (hf'.weak lo) hd)
  rw [e2, R.ok_bind] at nb kn kb kr ke
  obtain rfl : xv = .int x := dr_int r2
  refine ⟨_, _, rfl, rfl, l, vs, k, k.toNat, rfl, rfl, hf2.o _ _ p3, ixN_nn (by omega), ?_⟩
  have le := l1.trans l2
  have hla : l ≠ a := ne_of p3 p1 (by intro q; cases q)
  have hld : l ≠ dx := ne_of p3 p2 (by intro q; cases q)
  have r3 : Own cf.K F2 (inO (upd O' l (.lst (vs.set k.toNat (.int (ws.getD k.toNat 0 + x)))))) (.ref a) (tL (cf.mc 1) (ws.set k.toNat (ws.getD k.toNat 0 + x)) st li) [a, dx, l] := by
    refine Own.o (fvs := [("weights", .ref l), ("step", .int st), ("limit", .int li)]) (fp := [l]) ?_ ?_ (.cons (fp := [l]) (fq := []) (lI_own upd_same ?_) (.cons (fp := []) (fq := []) (.d (.int _)) (.cons (fp := []) (fq := []) (.d (.int _)) .nil)))
    · show upd O' l _ a = _
      rw [upd_ne (Ne.symm hla)]
      exact p1
    · show upd O' l _ dx = _
      rw [upd_ne (Ne.symm hld)]
      exact p2
    · have := DrA.set (Dr.int (K := cf.K) (F := F2) (ws.getD k.toNat 0 + x)) k.toNat (p4.mono le)
      rw [List.map_set]
      exact this
  have hM2 := sb_chg (t' := pn pin (tL (cf.mc 1) (ws.set k.toNat (ws.getD k.toNat 0 + x)) st li)) (.ref a) lo (he.mono le) (w.mono le) nv hlen ev (fun p hp o e => by
      have hpl : p ≠ l := fun z => hp (by rw [efp, z]; simp)
      rw [upd_ne hpl]
      exact e) (hf2.wr p3) (pn_own r3 hpin) (by rw [efp] at ndv; exact ndv) (fun p q => .inl (by rw [efp]; exact q))
  rw [hG] at hM2
  exact hu _ F2 O _ σ D hM2 nb (fun s F'' H'' σ' e le' => kn s F'' H'' σ' e (le.trans le')) (fun s F'' H'' σ' e le' => kb s F'' H'' σ' e (le.trans le')) (fun r v F'' H'' e le' => kr r v F'' H'' e (le.trans le')) fun c p d F'' H'' e le' => ke c p d F'' H'' e (le.trans le')
theorem putF_hd {f : Str} {v x : V} {r : List (Str × V)} : putF f v ((f, x) :: r) = (f, v) :: r := by
  show (if f = f then _ else _) = _
  rw [if_pos rfl]
theorem putF_tl {f g : Str} {v x : V} {r : List (Str × V)} (h : g ≠ f) : putF f v ((g, x) :: r) = (g, x) :: putF f v r := by
  show (if g = f then _ else _) = _
  rw [if_neg h]
/-- self.weights = a new list -/
theorem sb_setW (T : CF cf) {i : Nat} {ws : List Int} {st li : Int} {m : R (List Int)} {f : List Int → R (Fl S ρ)} (h0 : G[i]? = some (.ow (pn pin (tL (cf.mc 1) ws st li)))) (h : EF cf E te G m) (G' : List Int → List Sl) (hG : ∀ ws', G.set i (.ow (pn pin (tL (cf.mc 1) ws' st li))) = G' ws')
    (hu : ∀ ws', SB cf E u (G' ws') enc (f ws')) (nv : noVo G = true := by rfl) : SB cf E (tSeq (sFld cf.K (tVar i) te "weights") u) G enc (m.bind f) := fun F O H σ D hM nb kn kb kr ke => by
  obtain ⟨O', lo, hf, he, fp, w⟩ := hM
  have hi := w.at' i
  rw [h0] at hi
  obtain ⟨v, ev, rv0, ndv⟩ := hi
  obtain ⟨rv, hpin⟩ := own_pn rv0
  have hlen : i < G.length := (List.getElem?_eq_some_iff.mp h0).1
  obtain ⟨a, dx, l, vs, rfl, p1, p2, p3, p4, efp⟩ := own_L rv
  refine h F O' H σ _ hf he (R.bind_nb nb) (fun xs y F1 H1 e1 l1 hf1 r1 => ?_) (fun c p d F' H' e le hf' hd => ke c p d F' H' (by rw [e]; rfl) le (hf'.weak lo) hd)
  rw [e1, R.ok_bind] at nb kn kb kr ke
  obtain ⟨n, ys, rfl, q1, q2, q3, q4⟩ := r1
  refine ⟨_, ev, a, _, dx, _, rfl, hf1.o _ _ p1, T.c1, T.w1, by show 3 < 1000; decide, ?_⟩
  rw [putF_hd]
  have hna : n ≠ a := fun z => by rw [z, p1] at q2; cases q2
  have hnd : n ≠ dx := fun z => by rw [z, p2] at q2; cases q2
  have had : a ≠ dx := ne_of p1 p2 (by intro q; cases q)
  have hf2 : Fm F1 (upd (upd O' n (.lst ys)) a (.ins (cf.mc 1) dx [("weights", .ref n), ("step", .int st), ("limit", .int li)])) (upd H1 a (.ins (cf.mc 1) dx [("weights", .ref n), ("step", .int st), ("limit", .int li)])) := by
    have h1 : Fm F1 (upd O' n (.lst ys)) H1 := by
      refine ⟨hf1.f, fun b o e => ?_, fun b e => ?_, nt_upd hf1.nt (fun _ z => nomatch z)⟩
      · by_cases hb : b = n
        · rw [hb, upd_same] at e
          rw [hb, q3]
          exact e
        · rw [upd_ne hb] at e
          exact hf1.o b o e
      · have hb : b ≠ n := fun z => e (by rw [z]; exact q1)
        rw [upd_ne hb]
        exact hf1.ds b e
    exact h1.wr (u := .ins (cf.mc 1) dx [("weights", .ref l), ("step", .int st), ("limit", .int li)]) (by rw [upd_ne (Ne.symm hna)]; exact p1)
  have r3 : Own cf.K F1 (inO (upd (upd O' n (.lst ys)) a (.ins (cf.mc 1) dx [("weights", .ref n), ("step", .int st), ("limit", .int li)]))) (.ref a) (tL (cf.mc 1) xs st li) [a, dx, n] := by
    refine Own.o (fvs := [("weights", .ref n), ("step", .int st), ("limit", .int li)]) (fp := [n]) upd_same ?_ (.cons (fp := [n]) (fq := []) (lI_own ?_ q4) (.cons (fp := []) (fq := []) (.d (.int _)) (.cons (fp := []) (fq := []) (.d (.int _)) .nil)))
    · show upd (upd O' n _) a _ dx = _
      rw [upd_ne (Ne.symm had), upd_ne (Ne.symm hnd)]
      exact p2
    · show upd (upd O' n _) a _ n = _
      rw [upd_ne hna, upd_same]
  have hM2 := sb_chg (t' := pn pin (tL (cf.mc 1) xs st li)) (.ref a) lo (he.mono l1) (w.mono l1) nv hlen ev (fun p hp o e => by
      have hpa : p ≠ a := fun z => hp (by rw [efp, z]; simp)
      have hpn : p ≠ n := fun z => by rw [z, q2] at e; cases e
      rw [upd_ne hpa, upd_ne hpn]
      exact e) hf2 (pn_own r3 hpin) (nodup3 had (Ne.symm hna) (Ne.symm hnd)) (fun p q => by
      simp only [List.mem_cons, List.not_mem_nil, or_false] at q
      rcases q with rfl | rfl | rfl
      · exact .inl (by rw [efp]; simp)
      · exact .inl (by rw [efp]; simp)
      · exact .inr q2)
  rw [hG] at hM2
  exact hu _ F1 O _ σ D hM2 nb (fun s F'' H'' σ' e le' => kn s F'' H'' σ' e (l1.trans le')) (fun s F'' H'' σ' e le' => kb s F'' H'' σ' e (l1.trans le')) (fun r v F'' H'' e le' => kr r v F'' H'' e (l1.trans le')) fun c p d F'' H'' e le' => ke c p d F'' H'' e (l1.trans le')
theorem dxs : (("step" : Str) ≠ "current") := by decide +kernel
theorem dxl : (("limit" : Str) ≠ "current") := by decide +kernel
theorem dxn : (("learners" : Str) ≠ "current") := by decide +kernel
/-- self.current = e -/
theorem sb_setC (T : CF cf) {i : Nat} {rows : List (List Int)} {cur st li : Int} {m : R Int} {f : Int → R (Fl S ρ)} (h0 : G[i]? = some (.ow (pn pin (tM cf (.x rows cur st li))))) (h : EM cf E te G m) (G' : Int → List Sl) (hG : ∀ c, G.set i (.ow (pn pin (tM cf (.x rows c st li)))) = G' c)
    (hu : ∀ c, SB cf E u (G' c) enc (f c)) (nv : noVo G = true := by rfl) : SB cf E (tSeq (sFld cf.K (tVar i) te "current") u) G enc (m.bind f) := fun F O H σ D hM nb kn kb kr ke => by
  obtain ⟨O', lo, hf, he, fp, w⟩ := hM
  have hi := w.at' i
  rw [h0] at hi
  obtain ⟨v, ev, rv0, ndv⟩ := hi
  obtain ⟨rv, hpin⟩ := own_pn rv0
  have hlen : i < G.length := (List.getElem?_eq_some_iff.mp h0).1
  obtain ⟨a, dx, l, vs, fq, rfl, p1, p2, p3, p4, efp⟩ := own_X rv
  refine h F O' H σ _ hf he (R.bind_nb nb) (fun c y F1 H1 e1 l1 hf1 r1 => ?_) (fun c p d F' H' e le hf' hd => ke c p d F' H' (by rw [e]; rfl) le (hf'.weak lo) hd)
  rw [e1, R.ok_bind] at nb kn kb kr ke
  obtain rfl : y = .int c := dr_int r1
  refine ⟨_, ev, a, _, dx, _, rfl, hf1.o _ _ p1, T.c2, T.u2, by show 4 < 1000; decide, ?_⟩
  rw [putF_tl dxs, putF_tl dxl, putF_tl dxn, putF_hd]
  have had : a ≠ dx := ne_of p1 p2 (by intro q; cases q)
  have hal : a ≠ l := ne_of p1 p3 (by intro q; cases q)
  have nda : a ∉ fq := by
    rw [efp] at ndv
    have := List.nodup_cons.mp ndv
    exact fun z => this.1 (by simp [z])
  have r3 : Own cf.K F1 (inO (upd O' a (.ins (cf.mc 2) dx [("step", .int st), ("limit", .int li), ("learners", .ref l), ("current", .int c)]))) (.ref a) (tM cf (.x rows c st li)) (a :: dx :: l :: fq) := by
    have hl : Own cf.K F1 (inO (upd O' a (.ins (cf.mc 2) dx [("step", .int st), ("limit", .int li), ("learners", .ref l), ("current", .int c)]))) (.ref l) (.l (rows.map fun ws => tL (cf.mc 1) ws st li)) (l :: fq) := by
      refine .l (vs := vs) ?_ (p4.mono l1 fun p q o e => ?_)
      · show upd O' a _ l = _
        rw [upd_ne (Ne.symm hal)]
        exact p3
      · show upd O' a _ p = _
        rw [upd_ne (fun z => nda (by rw [← z]; exact q))]
        exact e
    have := Own.o (K := cf.K) (F := F1) (R := inO (upd O' a (.ins (cf.mc 2) dx [("step", .int st), ("limit", .int li), ("learners", .ref l), ("current", .int c)]))) (C := cf.mc 2) (a := a) (dx := dx) (fvs := [("step", .int st), ("limit", .int li), ("learners", .ref l), ("current", .int c)]) upd_same (by show upd O' a _ dx = _; rw [upd_ne (Ne.symm had)]; exact p2)
      (.cons (fp := []) (.d (.int st)) (.cons (fp := []) (.d (.int li)) (.cons (fp := l :: fq) hl (.cons (fp := []) (fq := []) (.d (.int c)) .nil))))
    simp only [List.nil_append, List.append_nil] at this
    exact this
  have hM2 := sb_chg (t' := pn pin (tM cf (.x rows c st li))) (.ref a) lo (he.mono l1) (w.mono l1) nv hlen ev (fun p hp o e => by
      have hpa : p ≠ a := fun z => hp (by rw [efp, z]; simp)
      rw [upd_ne hpa]
      exact e) (hf1.wr p1) (pn_own r3 hpin) (by rw [← efp]; exact ndv) (fun p q => .inl (by rw [efp]; exact q))
  rw [hG] at hM2
  exact hu _ F1 O _ σ D hM2 nb (fun s F'' H'' σ' e le' => kn s F'' H'' σ' e (l1.trans le')) (fun s F'' H'' σ' e le' => kb s F'' H'' σ' e (l1.trans le')) (fun r v F'' H'' e le' => kr r v F'' H'' e (l1.trans le')) fun c p d F'' H'' e le' => ke c p d F'' H'' e (l1.trans le')
/-! ### a learner of a context is taught -/
theorem ownA_app {K : PySem.W.Frag} {F : Hp} {R : HR} : ∀ {vs vs' : List V} {ts ts' : List Tr} {f1 f2 : List Addr}, OwnA K F R vs ts f1 → OwnA K F R vs' ts' f2 → OwnA K F R (vs ++ vs') (ts ++ ts') (f1 ++ f2)
  | _, _, _, _, _, _, .nil, h => h
  | _, _, _, _, _, _, .cons (fp := fp) (fq := fq) h1 h2, h => by
    have := OwnA.cons h1 (ownA_app h2 h)
    rw [← List.append_assoc] at this
    exact this
theorem ownA_split {K : PySem.W.Frag} {F : Hp} {R : HR} : ∀ {ts : List Tr} {vs : List V} {fp : List Addr} {j : Nat} {t : Tr}, OwnA K F R vs ts fp → ts[j]? = some t → ∃ v f1 f2 f3, vs[j]? = some v ∧ fp = f1 ++ (f2 ++ f3) ∧ OwnA K F R (vs.take j) (ts.take j) f1 ∧ Own K F R v t f2 ∧ OwnA K F R (vs.drop (j + 1)) (ts.drop (j + 1)) f3
  | [], _, _, _, _, _, e => by simp at e
  | t :: ts, _, _, 0, _, h, e => by
    obtain ⟨v, r, f1, f2, rfl, h1, h2, rfl⟩ := ownA_cons h
    cases e
    exact ⟨v, [], f1, f2, rfl, rfl, .nil, h1, h2⟩
  | t :: ts, _, _, j + 1, _, h, e => by
    obtain ⟨v, r, f1, f2, rfl, h1, h2, rfl⟩ := ownA_cons h
    obtain ⟨w, g1, g2, g3, e1, rfl, a1, a2, a3⟩ := ownA_split (j := j) h2 (by simpa using e)
    exact ⟨w, f1 ++ g1, g2, g3, by simpa using e1, by simp, .cons h1 a1, a2, a3⟩
def rowR (rows : List (List Int)) (cur : Int) : R (Nat × List Int) := match ixN rows.length cur with
  | some j => (match rows[j]? with
    | some ws => .ok (j, ws)
    | none => .bad)
  | none => .bad
def asL (st li : Int) : Mdl → R (List Int)
  | .l ws st' li' => if st' = st ∧ li' = li then .ok ws else .bad
  | _ => .bad
theorem rowR_ok {rows : List (List Int)} {cur : Int} {p : Nat × List Int} (h : rowR rows cur = .ok p) : ixN rows.length cur = some p.1 ∧ rows[p.1]? = some p.2 := by
  unfold rowR at h
  cases q : ixN rows.length cur with
  | none =>
    rw [q] at h
    cases h
  | some j =>
    rw [q] at h
    cases q2 : rows[j]? with
    | none =>
      simp only [q2] at h
      cases h
    | some ws =>
      simp only [q2] at h
      cases h
      exact ⟨rfl, q2⟩
theorem rowR_er {rows : List (List Int)} {cur : Int} (h : rowR rows cur ≠ .bad) : ∃ p, rowR rows cur = .ok p := by
  unfold rowR at *
  cases q : ixN rows.length cur with
  | none =>
    rw [q] at h
    exact absurd rfl h
  | some j =>
    rw [q] at h
    cases q2 : rows[j]? with
    | none =>
      simp only [q2] at h
      exact absurd rfl h
    | some ws => exact ⟨(j, ws), by simp only [q2]⟩
/-- self.learners[self.current].m(e) -/
theorem sb_lrnX [Ag β] (T : CF cf) {n : Str} (hn : n ∉ mnames) {i : Nat} {rows : List (List Int)} {cur st li : Int} {g1 : Mdl → β → R Mdl} {mb : R β} {f : List (List Int) → R (Fl S ρ)} (h0 : G[i]? = some (.ow (pn pin (tM cf (.x rows cur st li))))) (h1 : EG cf E tb G mb fun F O _ v a => Ag.rel cf F O v a) (G' : List (List Int) → List Sl) (hG : ∀ r, G.set i (.ow (pn pin (tM cf (.x r cur st li)))) = G' r)
    (hu : ∀ r, SB cf E u (G' r) enc (f r)) (nv : noVo G = true := by rfl) :
    SB cf E (tSeq (tDrop (tMeth (cf.mc 1) n (spL cf g1) [] E0 (tOp (rIxL cf.K) (tFld cf.K (tVar i) "learners") (tFld cf.K (tVar i) "current")) (tCons tb tNil))) u) G enc
      ((rowR rows cur).bind fun p => mb.bind fun b => (g1 (.l p.2 st li) b).pu.bind fun M' => (asL st li M').bind fun ws' => f (rows.set p.1 ws')) := fun F O H σ D hM nb kn kb kr ke => by
  obtain ⟨O', lo, hf, he, fp, w⟩ := hM
  have hi := w.at' i
  rw [h0] at hi
  obtain ⟨v, ev, rv0, ndv⟩ := hi
  obtain ⟨rv, hpin⟩ := own_pn rv0
  have hlen : i < G.length := (List.getElem?_eq_some_iff.mp h0).1
  obtain ⟨a, dx, l, vs, fq, rfl, p1, p2, p3, p4, efp⟩ := own_X rv
  obtain ⟨p, ep⟩ := rowR_er (R.bind_nb nb)
  obtain ⟨hj, hw⟩ := rowR_ok ep
  rw [ep, R.ok_bind] at nb kn kb kr ke
  have hts : (rows.map fun ws => tL (cf.mc 1) ws st li)[p.1]? = some (tL (cf.mc 1) p.2 st li) := by
    rw [List.getElem?_map, hw]
    rfl
  obtain ⟨x, f1, f2, f3, ex, efq, a1, a2, a3⟩ := ownA_split p4 hts
  have hvl : vs.length = rows.length := by rw [ownA_len p4, List.length_map]
  obtain ⟨xa, xdx, xl, xvs, rfl, b1, b2, b3, b4, ef2⟩ := own_L a2
  refine ⟨_, ev, a, _, dx, _, .ref l, rfl, hf.o _ _ p1, T.c2, T.n2, by rw [lookup_tl ne_ns, lookup_tl ne_nl, lookup_hd], ?_⟩
  refine ⟨_, ev, a, _, dx, _, .int cur, rfl, hf.o _ _ p1, T.c2, T.u2, by rw [lookup_tl ne_us, lookup_tl ne_ul, lookup_tl ne_un, lookup_hd], ?_⟩
  refine ⟨l, vs, cur, .ref xa, rfl, rfl, SqL.of (hf.o _ _ p3), by unfold atI; rw [hvl, hj]; exact ex, ?_⟩
  refine ⟨xa, xdx, _, rfl, hf.o _ _ b1, lookup_none (fun z => hn (by unfold mnames; simp at z; rcases z with z | z | z <;> simp [z])), ?_⟩
  refine h1 F O' H σ _ hf he (R.bind_nb nb) (fun b y F1 H1 e1 l1 hf1 r1 => ?_) (fun c p d F' H' e le hf' hd => ke c p d F' H' (by rw [e]; rfl) le (hf'.weak lo) hd)
  rw [e1, R.ok_bind] at nb kn kb kr ke
  obtain ⟨M', eM⟩ := pu_nb (R.bind_nb nb)
  have epu : (g1 (.l p.2 st li) b).pu = .ok M' := by rw [eM]; rfl
  rw [epu, R.ok_bind] at nb kn kb kr ke
  obtain ⟨ws', eL, eM'⟩ : ∃ ws', asL st li M' = .ok ws' ∧ M' = .l ws' st li := by
    have h := R.bind_nb nb
    unfold asL at *
    cases M' with
    | l ws s' l' =>
      by_cases c : s' = st ∧ l' = li
      · exact ⟨ws, if_pos c, by rw [c.1, c.2]⟩
      · exact absurd (if_neg c) h
    | c ws => exact absurd rfl h
    | x a b c d => exact absurd rfl h
  rw [eL, R.ok_bind] at nb kn kb kr ke
  subst eM'
  rw [efp] at ndv
  have nd2 : f2.Nodup := by
    rw [efq] at ndv
    have h := (List.nodup_cons.mp (List.nodup_cons.mp (List.nodup_cons.mp ndv).2).2).2
    exact (List.nodup_append.mp (List.nodup_append.mp h).2.1).1
  refine ⟨F1, O', .ref xa, y, .l p.2 st li, .l ws' st li, b, f2, rfl, hf1, a2.monoF l1, nd2, r1, eM, fun F' O2 H' g2 le hf' keep r2 ndg hg => ?_⟩
  have le2 := l1.trans le
  -- where the parts stand
  have ndA := List.nodup_cons.mp ndv
  have ndD := List.nodup_cons.mp ndA.2
  have ndL := List.nodup_cons.mp ndD.2
  have ndq := ndL.2
  rw [efq] at ndq
  have nd1 := List.nodup_append.mp ndq
  have nd3 := List.nodup_append.mp nd1.2.1
  have in2 : ∀ q ∈ f2, q ∈ fq := fun q h => by rw [efq]; simp [h]
  have ka : a ∉ f2 := fun z => ndA.1 (by simp [in2 _ z])
  have kd : dx ∉ f2 := fun z => ndD.1 (by simp [in2 _ z])
  have kl : l ∉ f2 := fun z => ndL.1 (in2 _ z)
  have k1 : ∀ q ∈ f1, q ∉ f2 := fun q h z => nd1.2.2 q h q (by simp [z]) rfl
  have k3 : ∀ q ∈ f3, q ∉ f2 := fun q h z => nd3.2.2 q z q h rfl
  have inO' : ∀ q, q ∈ a :: dx :: l :: fq → ∃ o, O' q = some o := fun q h => rv.at q (by rw [efp]; exact h)
  have hvl2 : vs = vs.take p.1 ++ (.ref xa :: vs.drop (p.1 + 1)) := by
    obtain ⟨hlt, e⟩ := List.getElem?_eq_some_iff.mp ex
    rw [← e, ← List.drop_eq_getElem_cons hlt, List.take_append_drop]
  have hrows : (rows.set p.1 ws').map (fun ws => tL (cf.mc 1) ws st li) = (rows.map fun ws => tL (cf.mc 1) ws st li).take p.1 ++ (tL (cf.mc 1) ws' st li :: (rows.map fun ws => tL (cf.mc 1) ws st li).drop (p.1 + 1)) := by
    have hlt := (List.getElem?_eq_some_iff.mp hw).1
    rw [List.map_set, List.set_eq_take_append_cons_drop, if_pos (by rw [List.length_map]; exact hlt)]
  have hA : OwnA cf.K F' (inO O2) vs ((rows.set p.1 ws').map fun ws => tL (cf.mc 1) ws st li) (f1 ++ (g2 ++ f3)) := by
    rw [hrows]
    conv => arg 4; rw [hvl2]
    exact ownA_app (a1.mono le2 fun q h o e => keep q (k1 q h) o e) (.cons r2 (a3.mono le2 fun q h o e => keep q (k3 q h) o e))
  have r3 : Own cf.K F' (inO O2) (.ref a) (tM cf (.x (rows.set p.1 ws') cur st li)) (a :: dx :: l :: (f1 ++ (g2 ++ f3))) := by
    have hl : Own cf.K F' (inO O2) (.ref l) (.l ((rows.set p.1 ws').map fun ws => tL (cf.mc 1) ws st li)) (l :: (f1 ++ (g2 ++ f3))) := .l (vs := vs) (keep l kl _ p3) hA
    have := Own.o (K := cf.K) (F := F') (R := inO O2) (C := cf.mc 2) (a := a) (dx := dx) (fvs := [("step", .int st), ("limit", .int li), ("learners", .ref l), ("current", .int cur)]) (keep a ka _ p1) (keep dx kd _ p2)
      (.cons (fp := []) (.d (.int st)) (.cons (fp := []) (.d (.int li)) (.cons (fp := l :: (f1 ++ (g2 ++ f3))) hl (.cons (fp := []) (fq := []) (.d (.int cur)) .nil))))
    simp only [List.nil_append, List.append_nil] at this
    exact this
  have gnew : ∀ q ∈ g2, q ∉ f2 → O' q = none := fun q h z => (hg q h).elim (fun y => absurd y z) id
  have ng : ∀ q, q ∈ a :: dx :: l :: fq → q ∉ f2 → q ∉ g2 := fun q h z y => by
    obtain ⟨o, e⟩ := inO' q h
    rw [gnew q y z] at e
    cases e
  have ndn : (a :: dx :: l :: (f1 ++ (g2 ++ f3))).Nodup := by
    have i1 : ∀ q ∈ f1, q ∈ fq := fun q h => by rw [efq]; simp [h]
    have i3 : ∀ q ∈ f3, q ∈ fq := fun q h => by rw [efq]; simp [h]
    have main : ∀ q, q ∈ a :: dx :: l :: fq → q ∉ f2 → q ∈ f1 ++ (g2 ++ f3) → q ∈ fq := fun q h z y => by
      rcases List.mem_append.mp y with y | y
      · exact i1 q y
      · rcases List.mem_append.mp y with y | y
        · exact absurd y (ng q h z)
        · exact i3 q y
    refine List.nodup_cons.mpr ⟨fun z => ?_, List.nodup_cons.mpr ⟨fun z => ?_, List.nodup_cons.mpr ⟨fun z => ?_, List.nodup_append.mpr ⟨nd1.1, List.nodup_append.mpr ⟨ndg, nd3.2.1, fun q h r h' e => ?_⟩, fun q h r h' e => ?_⟩⟩⟩⟩
    · rcases List.mem_cons.mp z with z | z
      · exact ndA.1 (by simp [z])
      · rcases List.mem_cons.mp z with z | z
        · exact ndA.1 (by simp [z])
        · exact ndA.1 (by simp [main a (by simp) ka z])
    · rcases List.mem_cons.mp z with z | z
      · exact ndD.1 (by simp [z])
      · exact ndD.1 (by simp [main dx (by simp) kd z])
    · exact ndL.1 (main l (by simp) kl z)
    · subst e
      exact ng q (by simp [i3 q h']) (k3 q h') h
    · subst e
      rcases List.mem_append.mp h' with h' | h'
      · exact ng q (by simp [i1 q h]) (k1 q h) h'
      · exact nd1.2.2 q h q (by simp [h']) rfl
  have hM2 := sb_chg (t' := pn pin (tM cf (.x (rows.set p.1 ws') cur st li))) (.ref a) lo (he.mono le2) (w.mono le2) nv hlen ev (fun q hq o e => by
      refine keep q (fun z => hq ?_) o e
      rw [efp]
      simp [in2 q z]) hf' (pn_own r3 hpin) ndn (fun q h => by
      rcases List.mem_cons.mp h with rfl | h
      · exact .inl (by rw [efp]; simp)
      · rcases List.mem_cons.mp h with rfl | h
        · exact .inl (by rw [efp]; simp)
        · rcases List.mem_cons.mp h with rfl | h
          · exact .inl (by rw [efp]; simp)
          · rcases List.mem_append.mp h with h | h
            · exact .inl (by rw [efp, efq]; simp [h])
            · rcases List.mem_append.mp h with h | h
              · rcases hg q h with y | y
                · exact .inl (by rw [efp, efq]; simp [y])
                · exact .inr y
              · exact .inl (by rw [efp, efq]; simp [h]))
  rw [hG] at hM2
  exact hu _ F' O H' σ D hM2 nb (fun s F'' H'' σ' e le' => kn s F'' H'' σ' e (le2.trans le')) (fun s F'' H'' σ' e le' => kb s F'' H'' σ' e (le2.trans le')) (fun r v F'' H'' e le' => kr r v F'' H'' e (le2.trans le')) fun c p d F'' H'' e le' => ke c p d F'' H'' e (le2.trans le')
end
/-! ### a def that changes its first argument: from its body -/
/-- what the body gives: the object behind it -/
def finM {ρ : Type} (m : R (Fl Mdl ρ)) : R Mdl := m.bind fun
  | .nx M => .ok M
  | _ => .bad
theorem fnL {β : Type} [Enc β] {P : Program} {w : World} {cf : Cf} {mg : Str → Option Value} {base : Heap} {x qual : Str} {st : Stmt} {f0 : Addr} {fd : FuncData} {N ps : List Str} {k : Nat} {enc : V → Mdl → List Sl} (F : Fun cf.K x qual st f0 fd) (sc : FnScope N ps (defScope st)) (hp : ps.length = 2) (g : Mdl → β → R (Fl Mdl Unit))
    (G0 : V → Mdl → β → List Sl) (hG : ∀ v M b, [.ow (.at v (tM cf M)), .va (toD b)] ++ List.replicate (N.length - 2) .un = G0 v M b) (hE : ∀ v M, (enc v M)[0]? = some (.ow (.at v (tM cf M))))
    (h : ∀ (cdv : Value) (A : Around) (outer : List Env) (s : Shared) (H : Hp) (E : XK), Room k (A.deeper (envOfC qual (defScope st) s.heap.objs.size f0 cdv)) →
      ∃ t, PSs (cxOf CX0 P w cf.K mg base N qual (defScope st) f0 cdv A outer s H E).nox (defBody st) t ∧ ∀ v M b, SB cf E0 t (G0 v M b) (enc v) (g M b)) :
    FnOk P w cf.K mg base CX0 (k + 1) f0 fd ps (spL cf fun M b => finM (g M b)) := by
  refine F.ok sc (spL.len hp) (fun cdv A outer s H vs Q E hr hq => ?_)
  obtain ⟨t, ht, hb⟩ := h cdv A outer s H E hr
  refine ⟨t, ht, ?_⟩
  obtain ⟨F, O, v, w, M, M', b, fp, rfl, hf, r, nd, hbw, hg, kk⟩ := hq
  have hg2 : g M b = .ok (.nx M') := by
    have hg' : finM (g M b) = .ok M' := hg
    cases e : g M b with
    | ok x =>
      rw [e] at hg'
      cases x with
      | nx s => cases hg'; rfl
      | bk s => cases hg'
      | rt r => cases hg'
    | er c p =>
      rw [e] at hg'
      cases hg'
    | bad =>
      rw [e] at hg'
      cases hg'
  have hb1 := hb v M b
  rw [← hG] at hb1
  have lo : Le (fun p => if p ∈ fp then none else O p) O := fun p o e => by
    have e' : (if p ∈ fp then none else O p) = some o := e
    by_cases c : p ∈ fp
    · rw [if_pos c] at e'
      cases e'
    · rw [if_neg c] at e'
      exact e'
  have hlen : ([Sl.ow (.at v (tM cf M)), .va (toD b)] ++ List.replicate (N.length - 2) Sl.un).length = (L2.start N [v, w]).length := by
    unfold L2.start
    simp
  have he : Er cf.K F O (L2.start N [v, w]) ([.ow (.at v (tM cf M)), .va (toD b)] ++ List.replicate (N.length - 2) .un) := er_startG (ss := [.ow (.at v (tM cf M)), .va (toD b)]) (fun i s e => match i, e with
    | 0, rfl => ⟨_, rfl, _, fp, rfl, .pin r⟩
    | 1, rfl => ⟨_, rfl, _, rfl, hbw⟩) rfl
  have hM : Mt cf.K F (fun p => if p ∈ fp then none else O p) H (L2.start N [v, w]) ([.ow (.at v (tM cf M)), .va (toD b)] ++ List.replicate (N.length - 2) .un) := by
    refine ⟨O, lo, hf, he, fun i => if i = 0 then fp else [], fun i => ?_, fun i p q => ?_, fun i j p hij q q' => ?_, fun i t e => ?_⟩
    · match i with
      | 0 => exact ⟨v, rfl, .pin r, nd⟩
      | 1 => rfl
      | i + 2 =>
        have e : (([.ow (.at v (tM cf M)), .va (toD b)] : List Sl) ++ List.replicate (N.length - 2) Sl.un)[i + 2]? = (List.replicate (N.length - 2) Sl.un)[i]? := by simp
        rw [e, List.getElem?_replicate]
        split <;> rfl
    · by_cases c : i = 0
      · rw [if_pos c] at q
        show (if p ∈ fp then none else O p) = none
        rw [if_pos q]
      · rw [if_neg c] at q
        cases q
    · by_cases c : i = 0
      · rw [if_neg (fun z => hij (c.trans z.symm))] at q'
        cases q'
      · rw [if_neg c] at q
        cases q
    · match i, e with
      | 0, e => cases e
      | 1, e => cases e
      | i + 2, e =>
        have e' : (([.ow (.at v (tM cf M)), .va (toD b)] : List Sl) ++ List.replicate (N.length - 2) Sl.un)[i + 2]? = (List.replicate (N.length - 2) Sl.un)[i]? := by simp
        rw [e', List.getElem?_replicate] at e
        split at e <;> cases e
  refine hb1 F _ H _ _ hM (fun z => by rw [hg2] at z; cases z) (fun s F' H' σ' e le hM2 => ?_) (fun s F' H' σ' e => by rw [hg2] at e; cases e) (fun r' v F' H' e => by rw [hg2] at e; cases e) (fun c p d F' H' e => by rw [hg2] at e; cases e)
  rw [hg2] at e
  cases e
  obtain ⟨O2, lo2, hf2, he2, fp2, w2⟩ := hM2
  have h0 := w2.at' 0
  rw [hE] at h0
  obtain ⟨v', ev', rv', ndv'⟩ := h0
  obtain ⟨rv, hv⟩ := own_pn (o := some v) rv'
  have := hv v rfl
  subst this
  refine kk F' O2 H' (fp2 0) le hf2 (fun p hp o e => lo2 p o ?_) rv ndv' (fun p q => ?_)
  · show (if p ∈ fp then none else O p) = some o
    rw [if_neg hp]
    exact e
  · have := w2.out 0 p q
    have this : (if p ∈ fp then none else O p) = none := this
    by_cases c : p ∈ fp
    · exact .inl c
    · rw [if_neg c] at this
      exact .inr this
end Kr

/-! KrK: Learner.__init__ (super().__init__) and Context.__init__ (a list of new learners). -/
namespace Kr
open PySem PySem.Spec PyProof.Rows L2 NdefX
open Enc (toD)
/-! ### Counts.__init__, for an object of any class -/
def spC0 (cf : Cf) : Sp := fun vs H Q _ => ∃ (x dx C p : Addr) (ys : List V), vs = [.ref x, .ref p] ∧ H x = some (.ins C dx []) ∧ Cls cf.K C ∧ NoAttr cf.K C "weights" ∧ SqL cf.K H p ys ∧ ∀ l, H l = none → Q .non (upd (upd H l (.lst ys)) x (.ins C dx [("weights", .ref l)]))
section
variable {cf : Cf} {N : List Str} {H : Hp} {Q : VK} {E : XK} {vs : List V}
theorem spC0.len {ps : List Str} (h : ps.length = 2 := by rfl) : ∀ vs H Q E, spC0 cf vs H Q E → vs.length = ps.length := fun vs H Q E q => by
  rw [h]
  obtain ⟨x, dx, C, p, ys, q, _⟩ := q
  rw [q]
  rfl
theorem init_c0 (h : spC0 cf vs H Q E) : sFld cf.K (tVar 0) (tCB (rListS cf.K) (tCons (tVar 1) tNil)) "weights" { nx := fun _ H' => Q .non H', rt := Q } (L2.start ["self", "weights"] vs) H := by
  obtain ⟨x, dx, C, p, ys, rfl, hx, c, na, hq, k⟩ := h
  refine ⟨_, rfl, p, ys, rfl, .inl hq, fun l hl => ?_⟩
  have nlx : l ≠ x := fun z => by rw [z, hx] at hl; cases hl
  exact ⟨_, rfl, x, C, dx, [], rfl, by rw [upd_ne (Ne.symm nlx)]; exact hx, c, na, by show 0 < 1000; decide, k l hl⟩
theorem spC0_of (T : CF cf) : ∀ vs H Q E, spI1 cf 0 initC vs H Q E → spC0 cf vs H Q E := fun vs H Q E h => by
  obtain ⟨F, O, x, dx, v0, b, M, rfl, hf, hx, hd, ne, ⟨x1, x2⟩, ⟨d1, d2⟩, hb, hg, k⟩ := h
  cases hg
  obtain ⟨fp, r⟩ := hb
  obtain ⟨a, ys, rfl, ha, hr, _⟩ := own_lI r
  refine ⟨x, dx, cf.mc 0, a, ys, rfl, hx, T.c0, T.w0, SqL.of (fo_at hf ha), fun l hl => ?_⟩
  have nlx : l ≠ x := fun z => by rw [z, hx] at hl; cases hl
  have nld : l ≠ dx := fun z => by rw [z, hd] at hl; cases hl
  have hf2 : Fm F O (upd (upd H l (.lst ys)) x (.ins (cf.mc 0) dx (putF "weights" (.ref l) []))) := (hf.newH hl).chg x1 x2
  refine k F _ (Le.refl F) hf2 ⟨[x, dx, l], ?_, nodup3 (Ne.symm ne) (Ne.symm nlx) (Ne.symm nld), fun p q => ?_⟩
  · refine Own.o (fvs := [("weights", .ref l)]) (fp := [l]) upd_same ?_ (.cons (fp := [l]) (fq := []) (lI_own ?_ hr) .nil)
    · show upd _ x _ dx = some (.own x)
      rw [upd_ne ne, upd_ne (Ne.symm nld)]
      exact hd
    · show upd _ x _ l = some (.lst ys)
      rw [upd_ne nlx, upd_same]
  · simp only [List.mem_cons, List.not_mem_nil, or_false] at q
    rcases q with rfl | rfl | rfl
    · exact ⟨x1, x2⟩
    · exact ⟨d1, d2⟩
    · exact ⟨hf.fnone hl, hf.onone hl⟩
end
/-! ### Learner.__init__ -/
def initL (size st li : Int) : R Mdl := (repR [(1 : Int)] size).bind fun ws => .ok (.l ws st li)
theorem spI3_len {cf : Cf} {α β γ : Type} [Ag α] [Ag β] [Ag γ] {k : Nat} {g : α → β → γ → R Mdl} : ∀ vs H Q E, spI3 cf k g vs H Q E → vs.length = ["self", "size", "step", "limit"].length := fun vs H Q E q => by
  obtain ⟨F, O, x, dx, v0, v1, v2, x0, x1, x2, M, q, _⟩ := q
  rw [q]
  rfl
theorem er_linit {cf : Cf} {F O : Hp} {x : Addr} {v0 v1 v2 : V} {size st li : Int} (h0 : Dr cf.K F v0 (toD size)) (h1 : Dr cf.K F v1 (toD st)) (h2 : Dr cf.K F v2 (toD li)) : Er cf.K F O (startF ["self", "size", "step", "limit", "__class__"] [.ref x, v0, v1, v2] [none]) [.un, .va (toD size), .va (toD st), .va (toD li), .un] :=
  ⟨rfl, fun i s e => match i, e with
    | 0, rfl => trivial
    | 1, rfl => ⟨_, rfl, h0⟩
    | 2, rfl => ⟨_, rfl, h1⟩
    | 3, rfl => ⟨_, rfl, h2⟩
    | 4, rfl => trivial⟩
theorem linit_read {cf : Cf} (T : CF cf) {H : Hp} {Q : VK} {E : XK} {vs : List V} (h : spI3 cf 1 initL vs H Q E) : ∃ x dx, vs.head? = some (.ref x) ∧ H x = some (.ins (cf.mc 1) dx []) ∧
    tCons (tOp rRep (tLst (tCons (tC (.int 1)) tNil)) (tVar 1)) tNil (startF ["self", "size", "step", "limit", "__class__"] vs [none]) H fun us H1 => spC0 cf (.ref x :: us) H1 (fun _ H' => tSeq (sFld cf.K (tVar 0) (tVar 2) "step") (sFld cf.K (tVar 0) (tVar 3) "limit") { nx := fun _ H' => Q .non H', rt := Q } (startF ["self", "size", "step", "limit", "__class__"] vs [none]) H') E0 := by
  obtain ⟨F, O, x, dx, v0, v1, v2, size, st, li, M, rfl, hf, hx, hd, ne, ⟨x1, x2⟩, ⟨d1, d2⟩, h0, h1, h2, hg, k⟩ := h
  refine ⟨x, dx, rfl, hx, ?_⟩
  have lo : Le O (upd (upd O dx (.own x)) x (.ins (cf.mc 1) dx [])) := fun p o e => by
    rw [upd_ne (ne_of_none e x2), upd_ne (ne_of_none e d2)]
    exact e
  have hf2 : Fm F (upd (upd O dx (.own x)) x (.ins (cf.mc 1) dx [])) H := by
    refine ⟨hf.f, fun p o e => ?_, fun p e => ?_, nt_upd (nt_upd hf.nt (fun _ z => nomatch z)) (fun _ z => nomatch z)⟩
    · by_cases hp : p = x
      · rw [hp, upd_same] at e
        rw [hp, hx]
        exact e
      · rw [upd_ne hp] at e
        by_cases hq : p = dx
        · rw [hq, upd_same] at e
          rw [hq, hd]
          exact e
        · rw [upd_ne hq] at e
          exact hf.o p o e
    · have hp : p ≠ x := fun z => e (by rw [z]; exact x1)
      have hq : p ≠ dx := fun z => e (by rw [z]; exact d1)
      rw [upd_ne hp, upd_ne hq]
      exact hf.ds p e
  have hE := ef_rep (cf := cf) (E := E0) (EF.toL (ef_lst (eas_cons (em_int (G := [.un, .va (toD size), .va (toD st), .va (toD li), .un]) 1) eas_nil))) (em_var 1 size rfl)
  have em : ((((R.ok 1).bind fun a => (R.ok []).bind fun ds => R.ok (a :: ds)).bind szR).bind fun xs => (R.ok size).bind fun k => repR xs k) = repR [(1 : Int)] size := by
    show ((szR [(1 : Int)]).bind fun xs => (R.ok size).bind fun k => repR xs k) = _
    unfold szR
    rw [if_pos (by decide)]
    rfl
  rw [em] at hE
  obtain ⟨ws, ew, eM⟩ : ∃ ws, repR [(1 : Int)] size = .ok ws ∧ M = .l ws st li := by
    unfold initL at hg
    cases e : repR [(1 : Int)] size with
    | ok ws =>
      rw [e] at hg
      cases hg
      exact ⟨ws, rfl, rfl⟩
    | er c p =>
      rw [e] at hg
      cases hg
    | bad =>
      rw [e] at hg
      cases hg
  subst eM
  refine hE F _ H _ _ hf2 (er_linit h0 h1 h2) (by rw [ew]; exact fun z => nomatch z) (fun ws' y F1 H1 e1 l1 hf1 r1 => ?_) (fun c p d F' H' e => by rw [ew] at e; cases e)
  rw [ew] at e1
  cases e1
  obtain ⟨n, ys, rfl, q1, q2, q3, q4⟩ := r1
  have ox : (upd (upd O dx (.own x)) x (.ins (cf.mc 1) dx [])) x = some (.ins (cf.mc 1) dx []) := upd_same
  have od : (upd (upd O dx (.own x)) x (.ins (cf.mc 1) dx [])) dx = some (.own x) := by rw [upd_ne ne, upd_same]
  have x1' : F1 x = none := hf1.own ox
  have d1' : F1 dx = none := hf1.own od
  refine ⟨x, dx, cf.mc 1, n, ys, rfl, hf1.o _ _ ox, T.c1, T.w1, SqL.of q3, fun l hl => ?_⟩
  have nlx : l ≠ x := fun z => by rw [z, hf1.o _ _ ox] at hl; cases hl
  have nld : l ≠ dx := fun z => by rw [z, hf1.o _ _ od] at hl; cases hl
  obtain rfl : v1 = .int st := dr_int h1
  obtain rfl : v2 = .int li := dr_int h2
  refine ⟨_, rfl, _, rfl, x, cf.mc 1, dx, _, rfl, upd_same, T.c1, T.s1, by show 1 < 1000; decide, ?_⟩
  refine ⟨_, rfl, _, rfl, x, cf.mc 1, dx, _, rfl, upd_same, T.c1, T.l1, by show 2 < 1000; decide, ?_⟩
  have hf3 : Fm F1 O (upd H1 l (.lst ys)) := (hf1.weak lo).newH hl
  refine k F1 _ l1 (((hf3.chg x1' x2).chg x1' x2).chg x1' x2) ⟨[x, dx, l], ?_, nodup3 (Ne.symm ne) (Ne.symm nlx) (Ne.symm nld), fun p q => ?_⟩
  · refine Own.o (fvs := [("weights", .ref l), ("step", .int st), ("limit", .int li)]) (fp := [l]) upd_same ?_ (.cons (fp := [l]) (fq := []) (lI_own ?_ q4) (.cons (fp := []) (fq := []) (.d (.int _)) (.cons (fp := []) (fq := []) (.d (.int _)) .nil)))
    · show upd _ x _ dx = some (.own x)
      rw [upd_ne ne, upd_ne ne, upd_ne ne, upd_ne (Ne.symm nld)]
      exact hf1.o _ _ od
    · show upd _ x _ l = some (.lst ys)
      rw [upd_ne nlx, upd_ne nlx, upd_ne nlx, upd_same]
  · simp only [List.mem_cons, List.not_mem_nil, or_false] at q
    rcases q with rfl | rfl | rfl
    · exact ⟨x1', x2⟩
    · exact ⟨d1', d2⟩
    · exact ⟨hf1.fnone hl, lo.free (hf1.onone hl)⟩
section
variable {P : Program} {w : World} {cf : Cf} {mg : Str → Option Value} {base : Heap} {f cc cda fC : Addr} {name qual : Str} {params : Arguments} {body rest : List Stmt} {scope : Scope} {dV kV doc pm ct oc cl : Value} {an od cld : Option Addr} {osl csl : Array (Option Value)} {p0 p1 p2 p3 p4 a0 a1 a2 a3 q1 q2 q3 q4 q5 q6 q7 q8 : Pos} {pl : Sem Bool} {kd : Nat} {fd : FuncData}
theorem ok_linit (T : CF cf) (lk : cf.K.lookup f = some ⟨oc, od, .func (PySem.W.ksFn name qual params body scope dV kV doc pm an (.ref cda) ct cc), osl⟩) (hcd : PySem.W.codeIn cf.K (.ref cda) qual = true)
    (hcc : cf.K.lookup cc = some ⟨cl, cld, .cell (some (.ref (cf.mc 1))), csl⟩) (S : NScope ["self", "size", "step", "limit", "__class__"] ["self", "size", "step", "limit"] ["__class__"] scope) (hsup : scope.names.lookup ("super" : Str) = some NameKind.globalImplicit) (hs : mg "super" = none) (hth : PySem.W.nsIn cf.K PySem.cStatics "thirdparty.any" = some none)
    (sf : SupF cf.K P f cda cc (cf.mc 1) (cf.mc 1) "self") (hm : PySem.W.ks_superIn cf.K (cf.mc 1) (cf.mc 1) "__init__" = some (some (.ref fC))) (ht : PySem.W.typeIn cf.K (.ref fC) = some (.type "function")) (hf : PySem.W.fnIn cf.K fC = true)
    (FC : FnOk P w cf.K mg base CX0 1 fC fd ["self", "weights"] (spC0 cf)) (bC : Binds cf.K fd ["self", "weights"] [])
    (hb : body = .Expr (.Call (.Attribute (.Call (.Name "super" p0) [] [] p1) "__init__" p2) [.BinOp (.List [.Constant (.int 1) kd a0] a1) .Mult (.Name "size" a2) a3] [] p3) p4 :: [.Assign [.Attribute (.Name "self" q1) "step" q2] (.Name "step" q3) q4, .Assign [.Attribute (.Name "self" q5) "limit" q6] (.Name "limit" q7) q8])
    (he : ∀ env : Env, eval (.Call (.Attribute (.Call (.Name "super" p0) [] [] p1) "__init__" p2) [.BinOp (.List [.Constant (.int 1) kd a0] a1) .Mult (.Name "size" a2) a3] [] p3) env = (do
      let ov ← attributeBase (.Call (.Name "super" p0) [] [] p1) "__init__" env (eval (.Call (.Name "super" p0) [] [] p1) env)
      standAt p2.atName
      let (f, first) ← holding [ov] (getMethod ov "__init__" pl)
      callWith p3 f first (backTo p3 (starEach [.BinOp (.List [.Constant (.int 1) kd a0] a1) .Mult (.Name "size" a2) a3] env)) [])) :
    FnOk P w cf.K mg base CX0 2 f (PySem.W.ksFn name qual params body scope dV kV doc pm an (.ref cda) ct cc) ["self", "size", "step", "limit"] (spI3 cf 1 initL) := by
  subst hb
  refine fn_sup lk hcd hcc S spI3_len fun A outer s s1 H vs Q E hr hsp I => ?_
  obtain ⟨x, dx, hv, hx, hread⟩ := linit_read T hsp
  obtain ⟨r, rfl⟩ : ∃ r, vs = .ref x :: r := by
    cases vs with
    | nil => cases hv
    | cons y r =>
      cases hv
      exact ⟨r, rfl⟩
  refine PySem.ks_wpAt_execs_cons ?_
  obtain ⟨mA, hob, _⟩ := ins_get I.hok hx
  obtain ⟨od1, J, _⟩ := hob.look
  refine sup_first I rfl rfl rfl sf hs hsup (S.frk _ (by simp)) (S.par _ (by simp)) rfl rfl J.at_ rfl (fun c z => nomatch z) (fun so s2 I2 hso kp => ?_) (he _)
  obtain ⟨mA2, hob2, _⟩ := ins_get I2.hok hx
  obtain ⟨od2, J2, _⟩ := hob2.look
  refine sup_own (k := 1) (E := E0) I2 hso J2 hm ht hth hf (FC.raw bC .nil) hr pass0 (pa_cons (pe_op op_rep (pe_lst (pa_cons pe_int pa_nil)) (pv 1 rfl (.inl (S.par _ (by simp))))) pa_nil) hread fun v s4 h4 => ?_
  obtain ⟨v', H', I4, _, q⟩ := h4
  exact PySem.wpAt_of_wpAny ((pss_cons (ps_fld (pv 0 rfl (.inl (S.par _ (by simp)))) (pv 2 rfl (.inl (S.par _ (by simp)))) rfl) (pss_one (ps_fld (pv 0 rfl (.inl (S.par _ (by simp)))) (pv 3 rfl (.inl (S.par _ (by simp)))) rfl))).run [] s4 _ _ _ I4 q)
end
/-! ### a list of new models -/
instance {β : Type} [Tre β] : Tre (List β) := ⟨fun cf xs => .l (xs.map (Tre.tr cf))⟩
theorem fm_take {F O H : Hp} {fp : List Addr} (hf : Fm F O H) (hn : ∀ p ∈ fp, F p = none ∧ O p = none) (hq : ∀ p ∈ fp, ∀ vs, H p ≠ some (.tup vs)) : Fm F (fun p => if p ∈ fp then H p else O p) H ∧ Le O (fun p => if p ∈ fp then H p else O p) := by
  refine ⟨⟨hf.f, fun p o e => ?_, fun p e => ?_, fun p vs e => by
    have e' : (if p ∈ fp then H p else O p) = some (.tup vs) := e
    by_cases c : p ∈ fp
    · rw [if_pos c] at e'
      exact hq p c vs e'
    · rw [if_neg c] at e'
      exact hf.nt p vs e'⟩, fun p o e => ?_⟩
  · have e' : (if p ∈ fp then H p else O p) = some o := e
    by_cases c : p ∈ fp
    · rw [if_pos c] at e'
      exact e'
    · rw [if_neg c] at e'
      exact hf.o p o e'
  · show (if p ∈ fp then H p else O p) = none
    by_cases c : p ∈ fp
    · exact absurd (hn p c).1 e
    · rw [if_neg c]
      exact hf.ds p e
  · show (if p ∈ fp then H p else O p) = some o
    rw [if_neg]
    · exact e
    · intro z
      rw [(hn p z).2] at e
      cases e
section
variable {cf : Cf} {E : XK} {G : List Sl} {α : Type}
theorem ef_lcN {β : Type} [Tre β] [Enc α] {wi : TI} {g : TG} {tt : TT} {te : TE} {vs js : List Nat} {m : R (List α)} {ft : α → R Bool} {fe : α → R β} {up : α → List Sl → List Sl} {Gi : α → List Sl} (hi : IG cf E wi G m) (hg : AG cf g up js)
    (hj : ∀ j ∈ js, j ∈ vs) (hG : ∀ a, up a (wipeG G vs) = Gi a) (ht : ∀ a, EB cf E0 tt (Gi a) (ft a)) (he : ∀ a, EG cf E0 te (Gi a) (fe a) (RN cf)) : EG cf E (tLc wi g tt te vs) G (m.bind (lcR ft fe)) (RN cf) := fun F O H σ Q hf hE nb ko ke =>
  hi F O H σ _ hf hE (R.bind_nb nb) (fun xs J F1 H1 em le1 hf1 hJ D hD => by
    rw [em, R.ok_bind] at nb ko
    obtain ⟨hz, ez⟩ := szR_nb (R.bind_nb nb)
    have etot : lcR ft fe xs = compR ft fe xs := by
      unfold lcR
      rw [ez]
      rfl
    rw [etot] at nb ko
    have hE1 : Er cf.K F1 O σ G := hE.mono le1
    let W : Nat → Nat → Hp → Prop := fun i mm H => mm = xs.length - i ∧ i ≤ xs.length ∧ ∃ (F2 O2 : Hp) (ws : List V) (acc : List β) (fp : List Addr), Le F1 F2 ∧ Le O O2 ∧ Fm F2 O2 H ∧ O2 D = some (.lst ws) ∧ OwnA cf.K F2 (inO O2) ws (acc.map (Tre.tr cf)) fp ∧ (D :: fp).Nodup ∧ (∀ p ∈ D :: fp, O p = none) ∧ acc.length ≤ i ∧ (compR ft fe (xs.drop i)).bind (fun ys => .ok (acc ++ ys)) = compR ft fe xs
    have hO1 : O D = none := hf1.onone hD
    refine ⟨W, ⟨xs.length, by simp, Nat.zero_le _, F1, upd O D (.lst []), [], [], [], Le.refl F1, Le.new hO1, hf1.newO hD, upd_same, .nil, by simp, fun p q => by rw [List.mem_singleton.mp q]; exact hO1, Nat.le_refl _, by rw [List.drop_zero]; simp only [List.nil_append]; exact R.bind_ok _⟩, ?_⟩
    rintro i mm H2 ⟨rfl, hi, F2, O2, ws, acc, fp, le2, leO, hf2, hD2, hd, hnd, hnew, hacc, tot⟩
    by_cases hlt : i < xs.length
    · have hx : xs[i]? = some xs[i] := List.getElem?_eq_getElem hlt
      rw [List.drop_eq_getElem_cons hlt] at tot
      rw [← tot] at nb
      have nbc := R.bind_nb nb
      obtain ⟨b, eb⟩ := pu_nb (R.bind_nb nbc)
      obtain ⟨hgo, hyl⟩ := (hJ i F2 O2 H2 le2 hf2).1 _ hx
      refine .inr ⟨hgo, fun H' => W (i + 1) (xs.length - (i + 1)) H', fun H' h' => ⟨_, by omega, h'⟩, fun v H3 hy => ?_⟩
      obtain ⟨F3, le3, hf3, hv⟩ := hyl v H3 hy
      refine hg F3 _ H3 _ _ v xs[i] _ hf3 (er_wipe ((hE1.mono (le2.trans le3)).monoO leO) vs) hv fun σ2 e2 _ w2 => ⟨?_, ?_⟩
      · rw [w2 vs hj]
        have key : ∀ (us : List Nat) (τ : L2.St), (∀ u ∈ us, u ∈ vs) → wipe (wipe σ us) vs = wipe σ vs := by
          intro us
          induction us with
          | nil => intro _ _; rfl
          | cons u us ih =>
            intro τ hu
            show wipe ((wipe σ us).set u none) vs = wipe σ vs
            rw [wipe_set (hu u (by simp)), ih τ fun z hz => hu z (by simp [hz])]
        exact key vs σ fun u hu => hu
      · rw [hG] at e2
        refine ht xs[i] F3 _ H3 σ2 _ hf3 e2 (by rw [eb]; intro z; cases z) (fun b' r F4 H4 eb' le4 hf4 hr => ?_) (fun c p d F4 H4 e => by rw [eb] at e; cases e)
        rw [eb] at eb'
        cases eb'
        obtain rfl : r = b := hr
        rw [show compR ft fe (xs[i] :: xs.drop (i + 1)) = (ft xs[i]).pu.bind fun b => if b = true then (fe xs[i]).pu.bind fun y => (compR ft fe (xs.drop (i + 1))).bind fun ys => .ok (y :: ys) else compR ft fe (xs.drop (i + 1)) from rfl, eb, R.ok_pu, R.ok_bind] at tot nbc
        cases r with
        | false =>
          rw [if_neg Bool.false_ne_true] at tot
          rw [if_neg Bool.false_ne_true]
          exact ⟨rfl, hlt, F4, O2, ws, acc, fp, (le2.trans le3).trans le4, leO, hf4, hD2, hd.mono (le3.trans le4) fun _ _ _ q => q, hnd, hnew, by omega, tot⟩
        | true =>
          rw [if_pos rfl] at tot nbc
          rw [if_pos rfl]
          obtain ⟨y, ey⟩ := pu_nb (R.bind_nb nbc)
          refine he xs[i] F4 _ H4 σ2 _ hf4 (e2.mono le4) (by rw [ey]; intro z; cases z) (fun y' u F5 H5 ey' le5 hf5 hu => ?_) (fun c p d F5 H5 e => by rw [ey] at e; cases e)
          rw [ey] at ey'
          cases ey'
          rw [ey, R.ok_pu, R.ok_bind] at tot
          obtain ⟨fu, ru, ndu, hnu⟩ := hu
          obtain ⟨hf6, leT⟩ := fm_take hf5 hnu (own_ntH ru)
          have hDfu : D ∉ fu := fun z => by
            have := (hnu D z).2
            rw [hD2] at this
            cases this
          have hDT : (fun p => if p ∈ fu then H5 p else O2 p) D = some (.lst ws) := leT _ _ hD2
          have ndc := List.nodup_cons.mp hnd
          have hfpO : ∀ p ∈ fp, ∃ o, O2 p = some o := fun p hp => hd.at p hp
          refine ⟨ws, hf5.o D _ hD2, ?_, rfl, hlt, F5, upd (fun p => if p ∈ fu then H5 p else O2 p) D (.lst (ws ++ [u])), ws ++ [u], acc ++ [y], fp ++ fu, ((le2.trans le3).trans le4).trans le5, fun p o e => ?_, hf6.wr hDT, upd_same, ?_, ?_, fun p hp => ?_, by rw [List.length_append]; simp; omega, ?_⟩
          · rw [ownA_len hd, List.length_map]
            exact sz_ltM (by omega)
          · rw [upd_ne (ne_of_none e hO1)]
            exact leT _ _ (leO _ _ e)
          · rw [List.map_append]
            refine ownA_app (hd.mono ((le3.trans le4).trans le5) fun p hp o e => ?_) ?_
            · show upd _ D _ p = some o
              rw [upd_ne (fun z => ndc.1 (by rw [← z]; exact hp))]
              exact leT _ _ e
            · have := OwnA.cons (K := cf.K) (F := F5) (R := inO (upd (fun p => if p ∈ fu then H5 p else O2 p) D (.lst (ws ++ [u])))) (v := u) (t := Tre.tr cf y) (fp := fu) (fq := []) (ru.mono (Le.refl F5) fun p hp o e => by
                show upd _ D _ p = some o
                rw [upd_ne (fun z => hDfu (by rw [← z]; exact hp))]
                show (if p ∈ fu then H5 p else O2 p) = some o
                rw [if_pos hp]
                exact e) .nil
              rw [List.append_nil] at this
              exact this
          · refine List.nodup_cons.mpr ⟨fun z => ?_, List.nodup_append.mpr ⟨ndc.2, ndu, fun a ha b hb e => ?_⟩⟩
            · rcases List.mem_append.mp z with z | z
              · exact ndc.1 z
              · exact hDfu z
            · subst e
              obtain ⟨o, eo⟩ := hfpO a ha
              rw [(hnu a hb).2] at eo
              cases eo
          · rcases List.mem_cons.mp hp with rfl | hp
            · exact hO1
            · rcases List.mem_append.mp hp with hp | hp
              · exact hnew p (List.mem_cons_of_mem _ hp)
              · exact leO.free (hnu p hp).2
          · rw [← tot, R.bind_bind]
            simp only [R.ok_bind, List.append_assoc, List.cons_append, List.nil_append]
    · have e : i = xs.length := by omega
      subst e
      rw [List.drop_length] at tot
      have tot2 : compR ft fe xs = .ok acc := by
        rw [← tot]
        show R.ok (acc ++ []) = _
        rw [List.append_nil]
      refine .inl ⟨(hJ _ F2 O2 H2 le2 hf2).2 (Nat.le_refl _), ko acc _ F2 H2 tot2 (le1.trans le2) (hf2.weak leO) ⟨D :: fp, .l (vs := ws) (hf2.o _ _ hD2) (hd.mono (Le.refl F2) fun p _ o e => hf2.o _ _ e), hnd, fun p hp => ⟨?_, hnew p hp⟩⟩⟩
      rcases List.mem_cons.mp hp with rfl | hp
      · exact hf2.own hD2
      · obtain ⟨o, eo⟩ := hd.at p hp
        exact hf2.own eo) fun c p d F' H' e => ke c p d F' H' (by rw [e]; rfl)
end
/-! ### Context.__init__ -/
def rowsOf (st li : Int) : List Mdl → R (List (List Int))
  | [] => .ok []
  | .l ws s l :: r => if s = st ∧ l = li then (rowsOf st li r).bind fun q => .ok (ws :: q) else .bad
  | .c _ :: _ => .bad
  | .x _ _ _ _ :: _ => .bad
theorem rowsOf_tr {cf : Cf} {st li : Int} : ∀ {ls : List Mdl} {rows : List (List Int)}, rowsOf st li ls = .ok rows → ls.map (tM cf) = rows.map fun ws => tL (cf.mc 1) ws st li
  | [], rows, h => by
    cases h
    rfl
  | .l ws s l :: r, rows, h => by
    unfold rowsOf at h
    split at h
    · rename_i c
      cases e : rowsOf st li r with
      | ok q =>
        rw [e] at h
        cases h
        rw [List.map_cons, List.map_cons, rowsOf_tr e, c.1, c.2]
        rfl
      | er c p =>
        rw [e] at h
        cases h
      | bad =>
        rw [e] at h
        cases h
    · cases h
def initX (mx : Int → Int → Int → R (List Mdl)) (size st li : Int) : R Mdl := (mx size st li).bind fun ls => (rowsOf st li ls).bind fun rows => .ok (.x rows 0 st li)
theorem init_context {cf : Cf} (T : CF cf) {tx : TE} {mx : Int → Int → Int → R (List Mdl)} (hc : ∀ size st li : Int, EG cf E0 tx [.un, .va (toD size), .va (toD st), .va (toD li), .un] (mx size st li) (RN cf)) {H : Hp} {Q : VK} {E : XK} {vs : List V} (h : spI3 cf 2 (initX mx) vs H Q E) :
    tSeq (sFld cf.K (tVar 0) (tVar 2) "step") (tSeq (sFld cf.K (tVar 0) (tVar 3) "limit") (tSeq (sFld cf.K (tVar 0) tx "learners") (sFld cf.K (tVar 0) (tC (.int 0)) "current"))) { nx := fun _ H' => Q .non H', rt := Q } (L2.start ["self", "size", "step", "limit", "k"] vs) H := by
  obtain ⟨F, O, x, dx, v0, v1, v2, size, st, li, M, rfl, hf, hx, hd, ne, ⟨x1, x2⟩, ⟨d1, d2⟩, h0, h1, h2, hg, k⟩ := h
  obtain rfl : v1 = .int st := dr_int h1
  obtain rfl : v2 = .int li := dr_int h2
  refine ⟨_, rfl, _, rfl, x, cf.mc 2, dx, _, rfl, hx, T.c2, T.s2, by show 0 < 1000; decide, ?_⟩
  refine ⟨_, rfl, _, rfl, x, cf.mc 2, dx, _, rfl, upd_same, T.c2, T.l2, by show 1 < 1000; decide, ?_⟩
  show tSeq (sFld cf.K (tVar 0) tx "learners") (sFld cf.K (tVar 0) (tC (.int 0)) "current") _ _ (upd (upd H x (.ins (cf.mc 2) dx [("step", .int st)])) x (.ins (cf.mc 2) dx [("step", .int st), ("limit", .int li)]))
  rw [upd_upd]
  let oo : HO := .ins (cf.mc 2) dx [("step", .int st), ("limit", .int li)]
  have lo : Le O (upd (upd O dx (.own x)) x oo) := fun p o e => by
    rw [upd_ne (ne_of_none e x2), upd_ne (ne_of_none e d2)]
    exact e
  have hf2 : Fm F (upd (upd O dx (.own x)) x oo) (upd H x oo) := by
    have hfa := hf.chg (o := oo) x1 x2
    refine ⟨hfa.f, fun p o e => ?_, fun p e => ?_, nt_upd (nt_upd hf.nt (fun _ z => nomatch z)) (fun _ z => nomatch z)⟩
    · by_cases hp : p = x
      · rw [hp, upd_same] at e ⊢
        exact e
      · rw [upd_ne hp] at e ⊢
        by_cases hq : p = dx
        · rw [hq, upd_same] at e
          rw [hq, hd]
          exact e
        · rw [upd_ne hq] at e
          exact hf.o p o e
    · have hp : p ≠ x := fun z => e (by rw [z]; exact x1)
      have hq : p ≠ dx := fun z => e (by rw [z]; exact d1)
      rw [upd_ne hp, upd_ne hq]
      exact hf.ds p e
  have ox : (upd (upd O dx (.own x)) x oo) x = some oo := upd_same
  have od : (upd (upd O dx (.own x)) x oo) dx = some (.own x) := by rw [upd_ne ne, upd_same]
  obtain ⟨ls, rows, el, er, eM⟩ : ∃ ls rows, mx size st li = .ok ls ∧ rowsOf st li ls = .ok rows ∧ M = .x rows 0 st li := by
    unfold initX at hg
    cases e : mx size st li with
    | ok ls =>
      rw [e] at hg
      cases e2 : rowsOf st li ls with
      | ok rows =>
        rw [R.ok_bind, e2] at hg
        cases hg
        exact ⟨ls, rows, rfl, e2, rfl⟩
      | er c p =>
        rw [R.ok_bind, e2] at hg
        cases hg
      | bad =>
        rw [R.ok_bind, e2] at hg
        cases hg
    | er c p =>
      rw [e] at hg
      cases hg
    | bad =>
      rw [e] at hg
      cases hg
  subst eM
  have hE : Er cf.K F (upd (upd O dx (.own x)) x oo) (L2.start ["self", "size", "step", "limit", "k"] [.ref x, v0, .int st, .int li]) [.un, .va (toD size), .va (toD st), .va (toD li), .un] := ⟨rfl, fun i s e => match i, e with
    | 0, rfl => trivial
    | 1, rfl => ⟨_, rfl, h0⟩
    | 2, rfl => ⟨_, rfl, .int _⟩
    | 3, rfl => ⟨_, rfl, .int _⟩
    | 4, rfl => trivial⟩
  refine hc size st li F _ _ _ _ hf2 hE (by rw [el]; exact fun z => nomatch z) (fun ls' y F1 H1 e1 l1 hf1 r1 => ?_) (fun c p d F' H' e => by rw [el] at e; cases e)
  rw [el] at e1
  cases e1
  obtain ⟨fp, r, nd, hn⟩ := r1
  have rt : Own cf.K F1 (inO H1) y (.l (rows.map fun ws => tL (cf.mc 1) ws st li)) fp := by
    rw [← rowsOf_tr er]
    exact r
  have x1' : F1 x = none := hf1.own ox
  have d1' : F1 dx = none := hf1.own od
  have nx : x ∉ fp := fun z => by
    have := (hn x z).2
    rw [ox] at this
    cases this
  have ndx : dx ∉ fp := fun z => by
    have := (hn dx z).2
    rw [od] at this
    cases this
  refine ⟨_, rfl, x, cf.mc 2, dx, _, rfl, hf1.o _ _ ox, T.c2, T.n2, by show 2 < 1000; decide, ?_⟩
  refine ⟨_, rfl, x, cf.mc 2, dx, _, rfl, upd_same, T.c2, T.u2, by show 3 < 1000; decide, ?_⟩
  have hf3 : Fm F1 O H1 := hf1.weak lo
  have e1 : putF "learners" y [("step", V.int st), ("limit", .int li)] = ([("step", .int st), ("limit", .int li), ("learners", y)] : List (Str × V)) := rfl
  have e2 : putF "current" (.int 0) [("step", V.int st), ("limit", .int li), ("learners", y)] = ([("step", .int st), ("limit", .int li), ("learners", y), ("current", .int 0)] : List (Str × V)) := rfl
  refine k F1 _ l1 ((hf3.chg x1' x2).chg x1' x2) ⟨x :: dx :: (fp ++ []), ?_, ?_, fun p q => ?_⟩
  · rw [e1, e2]
    refine Own.o (fvs := [("step", .int st), ("limit", .int li), ("learners", y), ("current", .int 0)]) (fp := fp ++ []) upd_same ?_ (.cons (fp := []) (fq := fp ++ []) (.d (.int _)) (.cons (fp := []) (fq := fp ++ []) (.d (.int _)) (.cons (fp := fp) (fq := []) (rt.mono (Le.refl F1) fun p hp o e => ?_) (.cons (fp := []) (fq := []) (.d (.int _)) .nil))))
    · show upd _ x _ dx = some (.own x)
      rw [upd_ne ne, upd_ne ne]
      exact hf1.o _ _ od
    · show upd _ x _ p = some o
      have hp' : p ≠ x := fun z => nx (by rw [← z]; exact hp)
      rw [upd_ne hp', upd_ne hp']
      exact e
  · rw [List.append_nil]
    refine List.nodup_cons.mpr ⟨fun z => ?_, List.nodup_cons.mpr ⟨ndx, nd⟩⟩
    rcases List.mem_cons.mp z with z | z
    · exact ne z.symm
    · exact nx z
  · rw [List.append_nil] at q
    rcases List.mem_cons.mp q with rfl | q
    · exact ⟨x1', x2⟩
    · rcases List.mem_cons.mp q with rfl | q
      · exact ⟨d1', d2⟩
      · exact ⟨(hn p q).1, lo.free (hn p q).2⟩
end Kr

/-! KrL: receivers that are known to be learners; pinned slots. -/
namespace Kr
open PySem PySem.Spec PyProof.Rows L2
open Enc (toD)
section
variable {cf : Cf} {E : XK} {G : List Sl} {α β γ S ρ : Type} [Rs ρ] {ta tb te : TE} {u : TS} {enc : S → List Sl}
/-- a slot that owns a tree at a told value -/
theorem et_at [Tre α] (i : Nat) {w : V} (a : α) (h : G[i]? = some (.ow (.at w (Tre.tr cf a)))) : EG cf E (tVar i) G (.ok a) (RT cf) := EG.fin fun F O H σ Q hf he ko => by
  obtain ⟨v, fp, e, r⟩ := he.at' i _ h
  obtain ⟨r', _⟩ := own_pn (o := some w) r
  exact ⟨v, e, ko v F H (Le.refl F) hf ⟨fp, r'.toFO⟩⟩
def onL {τ : Type} (g : Mdl → R τ) : Mdl → R τ
  | .l ws st li => g (.l ws st li)
  | _ => .bad
def onL1 {τ : Type} (g : Mdl → α → R τ) : Mdl → α → R τ
  | .l ws st li => g (.l ws st li)
  | _ => fun _ => .bad
/-- o.m() of a learner -/
theorem em_meth0L {τ : Type} [Rs τ] {m : R Mdl} {g1 : Mdl → R τ} {n : Str} (hn : n ∉ mnames) (h : EG cf E ta G m (RT cf)) :
    EG cf E (tMeth (cf.mc 1) n (spG1 cf g1) [] E0 ta tNil) G (m.bind fun M => (onL g1 M).pu) (Rs.res cf) := fun F O H σ Q hf he nb ko ke => by
  cases m with
  | ok M =>
    rw [R.ok_bind] at nb ko
    cases M with
    | c ws => exact absurd rfl nb
    | l ws st li => exact em_meth0k 1 rfl hn h hf he nb ko
    | x rows cur st li => exact absurd rfl nb
  | er c p => exact h F O H σ _ hf he (fun z => nomatch z) (fun _ _ _ _ e => nomatch e) fun c p d F' H' e => ke c p d F' H' (by cases e; rfl)
  | bad => exact absurd rfl nb
theorem R.bind_bad {m : R α} : (m.bind fun _ => (.bad : R β)) = .bad ∨ ∃ c p, m = .er c p := by
  cases m with
  | ok a => exact .inl rfl
  | er c p => exact .inr ⟨c, p, rfl⟩
  | bad => exact .inl rfl
/-- o.m(e) of a learner -/
theorem em_meth1L {τ : Type} [Ag α] [Rs τ] {m1 : R α} {g1 : Mdl → α → R τ} {n : Str} (hn : n ∉ mnames) {m : R Mdl} (h : EG cf E ta G m (RT cf)) (h1 : EG cf E tb G m1 fun F O _ v a => Ag.rel cf F O v a) :
    EG cf E (tMeth (cf.mc 1) n (spG2 cf g1) [] E0 ta (tCons tb tNil)) G (m.bind fun M => if kM M = 1 then m1.bind fun a => (onL1 g1 M a).pu else .bad) (Rs.res cf) := fun F O H σ Q hf he nb ko ke => by
  cases m with
  | ok M =>
    rw [R.ok_bind] at nb ko ke
    cases M with
    | c ws => exact absurd rfl nb
    | l ws st li => exact em_meth1k 1 rfl hn h h1 hf he nb ko ke
    | x rows cur st li => exact absurd rfl nb
  | er c p => exact h F O H σ _ hf he (fun z => nomatch z) (fun _ _ _ _ e => nomatch e) fun c p d F' H' e => ke c p d F' H' (by cases e; rfl)
  | bad => exact absurd rfl nb
/-! ### walks over a list that is owned or lent: nothing changes it on the way -/
def ItmO {α : Type} [Enc α] (cf : Cf) (J : It) (F1 O1 : Hp) (xs : List α) : Prop := ∀ (i : Nat) (F O H : Hp), Le F1 F → Le O1 O → Fm F O H →
  (∀ x, xs[i]? = some x → J.go i H ∧ ∀ v H', J.yld i H v H' → ∃ F', Le F F' ∧ Fm F' O H' ∧ Dr cf.K F' v (toD x)) ∧ (xs.length ≤ i → J.stop i H)
def IGo {α : Type} [Enc α] (cf : Cf) (E : XK) (wi : TI) (G : List Sl) (m : R (List α)) : Prop :=
  ∀ (F O H : Hp) (σ : L2.St) (Q : It → Hp → Prop), Fm F O H → Er cf.K F O σ G → m ≠ .bad →
    (∀ xs J F' H', m = .ok xs → Le F F' → Fm F' O H' → ItmO cf J F' O xs → Q J H') →
    (∀ c p d F' H', m = .er c p → Le F F' → Fm F' O H' → F' d = some (xdO cf c p) → E (.ref (cf.cls c)) (some d) H') → wi σ H Q
theorem igo_list [Enc α] {m : R (List α)} (h : EL cf E ta G m) : IGo cf E (iList cf.K ta) G m := fun F O H σ Q hf he nb ko ke =>
  h F O H σ _ hf he nb (fun xs v F' H' e le hf' hr => by
    obtain ⟨a, vs, ev, hs, hd⟩ := hr
    have at' : ∀ F2 O2 H2, Le F' F2 → Le O O2 → Fm F2 O2 H2 → H2 a = some (.lst vs) := fun F2 O2 H2 le2 lo2 hf2 => by
      rcases hs with hs | hs
      · exact hf2.f _ _ (le2 _ _ hs)
      · exact hf2.o _ _ (lo2 _ _ hs)
    refine ⟨a, ev, ⟨vs, SqL.of (at' F' O H' (Le.refl _) (Le.refl _) hf')⟩, ko xs _ F' H' e le hf' fun i F2 O2 H2 le2 lo2 hf2 => ⟨fun x hx => ?_, fun hi => ⟨vs, SqL.of (at' F2 O2 H2 le2 lo2 hf2), ?_⟩⟩⟩
    · obtain ⟨w', hw, rw'⟩ := drA_at hd hx
      exact ⟨⟨vs, w', SqL.of (at' F2 O2 H2 le2 lo2 hf2), hw⟩, fun v H3 hy => ⟨F2, Le.refl F2, by rw [hy.1]; exact hf2, by
        have q := hy.2 vs (SqL.of (at' F2 O2 H2 le2 lo2 hf2))
        rw [hw] at q
        rw [← Option.some.inj q]
        exact rw'.mono le2⟩⟩
    · rw [hd.length, List.length_map]
      exact hi) ke
theorem ef_lcO [Enc α] [Enc β] {wi : TI} {g : TG} {tt : TT} {te : TE} {vs js : List Nat} {m : R (List α)} {ft : α → R Bool} {fe : α → R β} {up : α → List Sl → List Sl} {Gi : α → List Sl} (hi : IGo cf E wi G m) (hg : AG cf g up js)
    (hj : ∀ j ∈ js, j ∈ vs) (hG : ∀ a, up a (wipeG G vs) = Gi a) (ht : ∀ a, EB cf E0 tt (Gi a) (ft a)) (he : ∀ a, EM cf E0 te (Gi a) (fe a)) : EF cf E (tLc wi g tt te vs) G (m.bind (lcR ft fe)) := fun F O H σ Q hf hE nb ko ke =>
  hi F O H σ _ hf hE (R.bind_nb nb) (fun xs J F1 H1 em le1 hf1 hJ D hD => by
    rw [em, R.ok_bind] at nb ko
    obtain ⟨hz, ez⟩ := szR_nb (R.bind_nb nb)
    have etot : lcR ft fe xs = compR ft fe xs := by
      unfold lcR
      rw [ez]
      rfl
    rw [etot] at nb ko
    have hE1 : Er cf.K F1 O σ G := hE.mono le1
    let W : Nat → Nat → Hp → Prop := fun i mm H => mm = xs.length - i ∧ i ≤ xs.length ∧ ∃ (F2 : Hp) (ws : List V) (acc : List β), Le F1 F2 ∧ Fm F2 (upd O D (.lst ws)) H ∧ DrA cf.K F2 ws (acc.map toD) ∧ acc.length ≤ i ∧ (compR ft fe (xs.drop i)).bind (fun ys => .ok (acc ++ ys)) = compR ft fe xs
    refine ⟨W, ⟨xs.length, by simp, Nat.zero_le _, F1, [], [], Le.refl F1, hf1.newO hD, .nil, Nat.le_refl _, by rw [List.drop_zero]; simp only [List.nil_append]; exact R.bind_ok _⟩, ?_⟩
    rintro i mm H2 ⟨rfl, hi, F2, ws, acc, le2, hf2, hd, hacc, tot⟩
    have hO1 : O D = none := hf1.onone hD
    have leO : Le O (upd O D (.lst ws)) := Le.new hO1
    by_cases hlt : i < xs.length
    · have hx : xs[i]? = some xs[i] := List.getElem?_eq_getElem hlt
      rw [List.drop_eq_getElem_cons hlt] at tot
      rw [← tot] at nb
      have nbc := R.bind_nb nb
      obtain ⟨b, eb⟩ := pu_nb (R.bind_nb nbc)
      obtain ⟨hgo, hyl⟩ := (hJ i F2 (upd O D (.lst ws)) H2 le2 leO hf2).1 _ hx
      refine .inr ⟨hgo, fun H' => W (i + 1) (xs.length - (i + 1)) H', fun H' h' => ⟨_, by omega, h'⟩, fun v H3 hy => ?_⟩
      obtain ⟨F3, le3, hf3, hv⟩ := hyl v H3 hy
      refine hg F3 _ H3 _ _ v xs[i] _ hf3 (er_wipe ((hE1.mono (le2.trans le3)).monoO leO) vs) hv fun σ2 e2 _ w2 => ⟨?_, ?_⟩
      · rw [w2 vs hj]
        have key : ∀ (us : List Nat) (τ : L2.St), (∀ u ∈ us, u ∈ vs) → wipe (wipe σ us) vs = wipe σ vs := by
          intro us
          induction us with
          | nil => intro _ _; rfl
          | cons u us ih =>
            intro τ hu
            show wipe ((wipe σ us).set u none) vs = wipe σ vs
            rw [wipe_set (hu u (by simp)), ih τ fun z hz => hu z (by simp [hz])]
        exact key vs σ fun u hu => hu
      · rw [hG] at e2
        refine ht xs[i] F3 _ H3 σ2 _ hf3 e2 (by rw [eb]; intro z; cases z) (fun b' r F4 H4 eb' le4 hf4 hr => ?_) (fun c p d F4 H4 e => by rw [eb] at e; cases e)
        rw [eb] at eb'
        cases eb'
        obtain rfl : r = b := hr
        rw [show compR ft fe (xs[i] :: xs.drop (i + 1)) = (ft xs[i]).pu.bind fun b => if b = true then (fe xs[i]).pu.bind fun y => (compR ft fe (xs.drop (i + 1))).bind fun ys => .ok (y :: ys) else compR ft fe (xs.drop (i + 1)) from rfl, eb, R.ok_pu, R.ok_bind] at tot nbc
        cases r with
        | false =>
          rw [if_neg Bool.false_ne_true] at tot
          rw [if_neg Bool.false_ne_true]
          exact ⟨rfl, hlt, F4, ws, acc, (le2.trans le3).trans le4, hf4, hd.mono (le3.trans le4), by omega, tot⟩
        | true =>
          rw [if_pos rfl] at tot nbc
          rw [if_pos rfl]
          obtain ⟨y, ey⟩ := pu_nb (R.bind_nb nbc)
          refine he xs[i] F4 _ H4 σ2 _ hf4 (e2.mono le4) (by rw [ey]; intro z; cases z) (fun y' u F5 H5 ey' le5 hf5 hu => ?_) (fun c p d F5 H5 e => by rw [ey] at e; cases e)
          rw [ey] at ey'
          cases ey'
          rw [ey, R.ok_pu, R.ok_bind] at tot
          refine ⟨ws, hf5.o D _ upd_same, ?_, rfl, hlt, F5, ws ++ [u], acc ++ [y], ((le2.trans le3).trans le4).trans le5, ?_, ?_, by rw [List.length_append]; simp; omega, ?_⟩
          · rw [hd.length, List.length_map]
            exact sz_ltM (by omega)
          · have q := hf5.wr (o := .lst (ws ++ [u])) upd_same
            rw [upd_upd] at q
            exact q
          · rw [List.map_append]
            exact (hd.mono ((le3.trans le4).trans le5)).append (.cons hu .nil)
          · rw [← tot, R.bind_bind]
            simp only [R.ok_bind, List.append_assoc, List.cons_append, List.nil_append]
    · have e : i = xs.length := by omega
      subst e
      rw [List.drop_length] at tot
      have tot2 : compR ft fe xs = .ok acc := by
        rw [← tot]
        show R.ok (acc ++ []) = _
        rw [List.append_nil]
      have hFD : F2 D = none := hf2.own (o := .lst ws) upd_same
      exact .inl ⟨(hJ _ F2 (upd O D (.lst ws)) H2 le2 leO hf2).2 (Nat.le_refl _), ko acc _ F2 H2 tot2 (le1.trans le2) (hf2.weak leO) ⟨D, ws, rfl, hFD, hO1, hf2.o D _ upd_same, hd⟩⟩) fun c p d F' H' e => ke c p d F' H' (by rw [e]; rfl)
end
end Kr

/-! KrH: the law's own state of a model: a dict with lists in it. -/
namespace Kr
open PySem PySem.Spec PyProof.Rows L2
open Enc (toD)
structure Stt where
  rows : List (List Int)
  now : Int
  st : Int
  li : Int
  kind : Int
def tSx (rs : List Tr) (s : Stt) : Tr := .k [("rows", .l rs), ("now", .d (.int s.now)), ("step", .d (.int s.st)), ("limit", .d (.int s.li)), ("kind", .d (.int s.kind))]
def tS (s : Stt) : Tr := tSx (s.rows.map lI) s
/-- .. of which the row j is elsewhere -/
def tH (j : Nat) (u : V) (s : Stt) : Tr := tSx ((s.rows.map lI).set j (.hole u)) s
instance : Tre Stt := ⟨fun _ s => tS s⟩
instance : Ag Stt := ⟨fun cf F O v a => RT cf F O F v a, fun h e => rt_mono h e, fun cf a => .bo (tS a), fun ⟨fp, h⟩ => ⟨_, fp, rfl, h⟩, fun _ _ => ⟨fun _ z => (nomatch z), fun _ z => (nomatch z), fun _ z => (nomatch z)⟩⟩
instance : Rs Stt := ⟨fun cf F O H v a => RN cf F O H v a⟩
instance : Rs Bl := ⟨fun cf F O H v a => RT cf F O H v a⟩
section
variable {K : PySem.W.Frag} {F : Hp} {R : HR}
theorem own_k {v : V} {ts : List (Str × Tr)} {fp : List Addr} (h : Own K F R v (.k ts) fp) : ∃ a kvs fq, v = .ref a ∧ R a (.dK kvs) ∧ OwnK K F R kvs ts fq ∧ fp = a :: fq := by
  cases h with
  | k h1 h2 => exact ⟨_, _, _, rfl, h1, h2, rfl⟩
theorem ownK_nil {kvs : List (Key × V)} {fp : List Addr} (h : OwnK K F R kvs [] fp) : kvs = [] ∧ fp = [] := by
  cases h
  exact ⟨rfl, rfl⟩
theorem ownK_cons {kvs : List (Key × V)} {x : Str} {t : Tr} {ts : List (Str × Tr)} {fp : List Addr} (h : OwnK K F R kvs ((x, t) :: ts) fp) : ∃ v r f1 f2, kvs = (.inr x, v) :: r ∧ Own K F R v t f1 ∧ OwnK K F R r ts f2 ∧ fp = f1 ++ f2 := by
  cases h with
  | cons h1 h2 => exact ⟨_, _, _, _, rfl, h1, h2, rfl⟩
/-- the entries -/
def kS (l : V) (s : Stt) : List (Key × V) := [(.inr "rows", l), (.inr "now", .int s.now), (.inr "step", .int s.st), (.inr "limit", .int s.li), (.inr "kind", .int s.kind)]
theorem own_S {v : V} {rs : List Tr} {s : Stt} {fp : List Addr} (h : Own K F R v (tSx rs s) fp) : ∃ a l vs fq, v = .ref a ∧ R a (.dK (kS (.ref l) s)) ∧ R l (.lst vs) ∧ OwnA K F R vs rs fq ∧ fp = a :: l :: fq := by
  obtain ⟨a, kvs, fq, e, h1, h2, rfl⟩ := own_k h
  obtain ⟨v1, r1, f1, g1, rfl, q1, k1, rfl⟩ := ownK_cons h2
  obtain ⟨v2, r2, f2, g2, rfl, q2, k2, rfl⟩ := ownK_cons k1
  obtain ⟨v3, r3, f3, g3, rfl, q3, k3, rfl⟩ := ownK_cons k2
  obtain ⟨v4, r4, f4, g4, rfl, q4, k4, rfl⟩ := ownK_cons k3
  obtain ⟨v5, r5, f5, g5, rfl, q5, k5, rfl⟩ := ownK_cons k4
  obtain ⟨rfl, rfl⟩ := ownK_nil k5
  obtain ⟨d2, rfl⟩ := own_d q2
  obtain ⟨d3, rfl⟩ := own_d q3
  obtain ⟨d4, rfl⟩ := own_d q4
  obtain ⟨d5, rfl⟩ := own_d q5
  obtain ⟨l, vs, fq, rfl, hl, hA, rfl⟩ := own_l q1
  cases dr_int d2
  cases dr_int d3
  cases dr_int d4
  cases dr_int d5
  exact ⟨a, l, vs, fq, e, h1, hl, hA, by simp⟩
theorem S_own {a l : Addr} {vs : List V} {rs : List Tr} {s : Stt} {fq : List Addr} (h1 : R a (.dK (kS (.ref l) s))) (h2 : R l (.lst vs)) (h3 : OwnA K F R vs rs fq) : Own K F R (.ref a) (tSx rs s) (a :: l :: fq) := by
  have := Own.k (K := K) (F := F) (R := R) (a := a) h1 (.cons (fp := l :: fq) (.l h2 h3) (.cons (fp := []) (.d (.int s.now)) (.cons (fp := []) (.d (.int s.st)) (.cons (fp := []) (.d (.int s.li)) (.cons (fp := []) (fq := []) (.d (.int s.kind)) .nil)))))
  simp only [List.nil_append, List.append_nil] at this
  exact this
end
theorem kn_rn : ¬ ((Sum.inr "rows" : Key) = .inr "now") := by decide +kernel
theorem kn_rs : ¬ ((Sum.inr "rows" : Key) = .inr "step") := by decide +kernel
theorem kn_rl : ¬ ((Sum.inr "rows" : Key) = .inr "limit") := by decide +kernel
theorem kn_rk : ¬ ((Sum.inr "rows" : Key) = .inr "kind") := by decide +kernel
theorem kn_ns : ¬ ((Sum.inr "now" : Key) = .inr "step") := by decide +kernel
theorem kn_nl : ¬ ((Sum.inr "now" : Key) = .inr "limit") := by decide +kernel
theorem kn_nk : ¬ ((Sum.inr "now" : Key) = .inr "kind") := by decide +kernel
theorem kn_sl : ¬ ((Sum.inr "step" : Key) = .inr "limit") := by decide +kernel
theorem kn_sk : ¬ ((Sum.inr "step" : Key) = .inr "kind") := by decide +kernel
theorem kn_lk : ¬ ((Sum.inr "limit" : Key) = .inr "kind") := by decide +kernel
theorem kS_rows {l : V} {s : Stt} : valV (kS l s) (.inr "rows") = some l := valV_pos rfl
theorem kS_now {l : V} {s : Stt} : valV (kS l s) (.inr "now") = some (.int s.now) := (valV_neg kn_rn).trans (valV_pos rfl)
theorem kS_step {l : V} {s : Stt} : valV (kS l s) (.inr "step") = some (.int s.st) := (valV_neg kn_rs).trans ((valV_neg kn_ns).trans (valV_pos rfl))
theorem kS_limit {l : V} {s : Stt} : valV (kS l s) (.inr "limit") = some (.int s.li) := (valV_neg kn_rl).trans ((valV_neg kn_nl).trans ((valV_neg kn_sl).trans (valV_pos rfl)))
theorem kS_kind {l : V} {s : Stt} : valV (kS l s) (.inr "kind") = some (.int s.kind) := (valV_neg kn_rk).trans ((valV_neg kn_nk).trans ((valV_neg kn_sk).trans ((valV_neg kn_lk).trans (valV_pos rfl))))
theorem kS_put {l : V} {s : Stt} {n : Int} : putK (kS l s) (.inr "now") (.int n) = kS l { s with now := n } := by
  unfold putK kS
  rw [if_pos (by simp)]
  simp only [List.map_cons, List.map_nil, if_neg kn_rn, if_true, if_neg (Ne.symm kn_ns), if_neg (Ne.symm kn_nl), if_neg (Ne.symm kn_nk)]
section
variable {cf : Cf} {E : XK} {G : List Sl} {α β γ S ρ : Type} [Rs ρ] {ta tb te : TE} {u : TS} {enc : S → List Sl}
/-! ### reading a state -/
theorem sfld_of {m : R Stt} {n : Str} {Q' : Stt → R β} {rel : Hp → Hp → Hp → V → β → Prop} (h : EG cf E ta G m (RT cf))
    (k : ∀ (F O H : Hp) (s : Stt) (v : V), Fm F O H → RT cf F O H v s → ∃ a kvs w b, v = .ref a ∧ H a = some (.dK kvs) ∧ valV kvs (.inr n) = some w ∧ Q' s = .ok b ∧ rel F O H w b) :
    EG cf E (tDGet ta (tC (.str n))) G (m.bind Q') rel := fun F O H σ Q hf he nb ko ke => by
  refine h F O H σ _ hf he (R.bind_nb nb) (fun s v F' H' e le hf' hr => ?_) (fun c p d F' H' e => ke c p d F' H' (by rw [e]; rfl))
  rw [e, R.ok_bind] at nb ko
  obtain ⟨a, kvs, w, b, rfl, ha, hl, hb, hr2⟩ := k F' O H' s v hf' hr
  have g := DGet.k (k := .inr n) ha
  rw [hl] at g
  exact ⟨a, w, rfl, g, ko b w F' H' hb le hf' hr2⟩
theorem es_now {m : R Stt} (h : EG cf E ta G m (RT cf)) : EM cf E (tDGet ta (tC (.str "now"))) G (m.bind fun s => .ok s.now) := sfld_of h fun F O H s v hf hr => by
  obtain ⟨fp, r⟩ := hr
  obtain ⟨a, l, vs, fq, rfl, h1, _⟩ := own_S r
  exact ⟨a, _, _, _, rfl, fo_at hf h1, kS_now, rfl, .int _⟩
theorem es_step {m : R Stt} (h : EG cf E ta G m (RT cf)) : EM cf E (tDGet ta (tC (.str "step"))) G (m.bind fun s => .ok s.st) := sfld_of h fun F O H s v hf hr => by
  obtain ⟨fp, r⟩ := hr
  obtain ⟨a, l, vs, fq, rfl, h1, _⟩ := own_S r
  exact ⟨a, _, _, _, rfl, fo_at hf h1, kS_step, rfl, .int _⟩
theorem es_limit {m : R Stt} (h : EG cf E ta G m (RT cf)) : EM cf E (tDGet ta (tC (.str "limit"))) G (m.bind fun s => .ok s.li) := sfld_of h fun F O H s v hf hr => by
  obtain ⟨fp, r⟩ := hr
  obtain ⟨a, l, vs, fq, rfl, h1, _⟩ := own_S r
  exact ⟨a, _, _, _, rfl, fo_at hf h1, kS_limit, rfl, .int _⟩
theorem es_kind {m : R Stt} (h : EG cf E ta G m (RT cf)) : EM cf E (tDGet ta (tC (.str "kind"))) G (m.bind fun s => .ok s.kind) := sfld_of h fun F O H s v hf hr => by
  obtain ⟨fp, r⟩ := hr
  obtain ⟨a, l, vs, fq, rfl, h1, _⟩ := own_S r
  exact ⟨a, _, _, _, rfl, fo_at hf h1, kS_kind, rfl, .int _⟩
theorem es_rows {m : R Stt} (h : EG cf E ta G m (RT cf)) : EG cf E (tDGet ta (tC (.str "rows"))) G (m.bind fun s => .ok (s.rows.map Bl.mk)) (RT cf) := sfld_of h fun F O H s v hf hr => by
  obtain ⟨fp, r⟩ := hr
  obtain ⟨a, l, vs, fq, rfl, h1, h2, h3, _⟩ := own_S r
  refine ⟨a, _, _, _, rfl, fo_at hf h1, kS_rows, rfl, l :: fq, .l h2 ?_⟩
  rw [List.map_map]
  exact h3
/-- a lent list of trees, read at an index -/
theorem et_ixT [Tre β] {m : R (List β)} {n : R Int} (h : EG cf E ta G m (RT cf)) (h' : EM cf E tb G n) : EG cf E (tOp (rIxL cf.K) ta tb) G (m.bind fun xs => n.bind fun i => idxR xs i) (RT cf) := fun F O H σ Q hf he nb ko ke => by
  refine h F O H σ _ hf he (R.bind_nb nb) (fun p v F1 H1 e1 l1 hf1 r1 => ?_) (fun c p d F' H' e => ke c p d F' H' (by rw [e]; rfl))
  rw [e1, R.ok_bind] at nb ko ke
  refine h' F1 O H1 σ _ hf1 (he.mono l1) (R.bind_nb nb) (fun i w F2 H2 e2 l2 hf2 r2 => ?_) (fun c p d F' H' e le hf' hd => ke c p d F' H' (by rw [e]; rfl) (l1.trans le) hf' hd)
  rw [e2, R.ok_bind] at nb ko ke
  obtain ⟨fp, r1⟩ := r1
  obtain ⟨a, vs, fq, rfl, h1, h2, _⟩ := own_l r1
  unfold idxR at nb ko
  cases q : atI p i with
  | none =>
    rw [q] at nb
    exact absurd rfl nb
  | some ws =>
    rw [q] at ko
    have q2 : atI (p.map (Tre.tr cf)) i = some (Tre.tr cf ws) := by
      rw [atI_map, q]
      rfl
    have hx : ∃ x fr, atI vs i = some x ∧ Own cf.K F1 (inFO F1 O) x (Tre.tr cf ws) fr := by
      unfold atI at q2 ⊢
      rw [ownA_len h2]
      cases q3 : ixN (p.map (Tre.tr cf)).length i with
      | none =>
        rw [q3] at q2
        cases q2
      | some j =>
        rw [q3] at q2
        obtain ⟨x, fr, e1, e2, _⟩ := ownA_get h2 q2
        exact ⟨x, fr, e1, e2⟩
    obtain ⟨x, fr, ex, rx⟩ := hx
    exact ⟨a, vs, i, x, rfl, dr_int r2, SqL.of (fo_at hf2 (h1.imp (l2 _ _) id)), ex, ko _ x F2 H2 rfl (l1.trans l2) hf2 ⟨fr, rx.monoFO l2 (Le.refl O)⟩⟩
/-- return of what was lent to the def -/
def onlyB (G : List Sl) : Bool := G.all fun s => match s with
  | .un => true
  | .va _ => true
  | .bo _ => true
  | _ => false
theorem sb_retT {m : R Bl} (hB : onlyB G = true) (h : EG cf E te G m (RT cf)) : SB cf E (tRet te) G enc (m.bind fun r => (.ok (.rt r) : R (Fl S Bl))) := fun F O H σ D hM nb kn kb kr ke => by
  obtain ⟨O', lo, hf, he, fp, w⟩ := hM
  have he2 : Er cf.K F O σ G := ⟨he.len, fun i s e => by
    have hs := List.all_eq_true.mp hB s (List.mem_of_getElem? e)
    have h1 := he.at' i s e
    cases s with
    | un => trivial
    | va d => exact h1
    | bo t => exact w.bo i t e
    | ol _ => cases hs
    | od _ => cases hs
    | pv _ => cases hs
    | ow _ => cases hs
    | vo _ => cases hs⟩
  exact h F O H σ _ (hf.weak lo) he2 (R.bind_nb nb) (fun a v F' H' e le hf' hr => kr a v F' H' (by rw [e]; rfl) le hf' hr) (fun c p d F' H' e le hf' hd => ke c p d F' H' (by rw [e]; rfl) le hf' hd)
/-! ### a state that is changed: its row is taken out, and put back -/
/-- the ints of a state whose row is elsewhere -/
theorem hfld_of {i j : Nat} {vS w : V} {s : Stt} {n : Str} {b : Int} (h0 : G[i]? = some (.ow (.at vS (tH j w s)))) (k : ∀ l, valV (kS l s) (.inr n) = some (.int b)) : EM cf E (tDGet (tVar i) (tC (.str n))) G (.ok b) := EG.fin fun F O H σ Q hf he ko => by
  obtain ⟨v, fp, e, r⟩ := he.at' i _ h0
  obtain ⟨r', _⟩ := own_pn (o := some vS) r
  obtain ⟨a, l, vs, fq, rfl, h1, _⟩ := own_S r'
  have g := DGet.k (k := .inr n) (hf.o _ _ h1)
  rw [k] at g
  exact ⟨_, e, a, _, rfl, g, ko _ F H (Le.refl F) hf (.int b)⟩
theorem sb_take {i0 i : Nat} {vS : V} {s : Stt} {f : Nat × List Int → R (Fl S ρ)} (h0 : G[i0]? = some (.ow (.at vS (tS s)))) (hne : i0 ≠ i) (hun : G[i]? = some .un) (G' : V → Nat × List Int → List Sl) (hG : ∀ w p, (G.set i0 (.ow (.at vS (tH p.1 w s)))).set i (.ow (.at w (lI p.2))) = G' w p)
    (hk : ∀ w p, SB cf E u (G' w p) enc (f p)) : SB cf E (tSeq (tAsg (tOp (rIxL cf.K) (tDGet (tVar i0) (tC (.str "rows"))) (tDGet (tVar i0) (tC (.str "now")))) (gName i)) u) G enc ((rowR s.rows s.now).bind f) := fun F O H σ D hM nb kn kb kr ke => by
  obtain ⟨O', lo, hf, he, fp, w⟩ := hM
  have hi := w.at' i0
  rw [h0] at hi
  obtain ⟨v, ev, rv0, ndv⟩ := hi
  obtain ⟨rv, hpin⟩ := own_pn (o := some vS) rv0
  obtain rfl := hpin vS rfl
  obtain ⟨p, ep⟩ := rowR_er (R.bind_nb nb)
  obtain ⟨hj, hw⟩ := rowR_ok ep
  rw [ep, R.ok_bind] at nb kn kb kr ke
  obtain ⟨a, l, vs, fq, rfl, p1, p3, p4, efp⟩ := own_S rv
  have hts : (s.rows.map lI)[p.1]? = some (lI p.2) := by
    rw [List.getElem?_map, hw]
    rfl
  obtain ⟨x, f1, f2, f3, ex, efq, a1, a2, a3⟩ := ownA_split p4 hts
  have hvl : vs.length = s.rows.length := by rw [ownA_len p4, List.length_map]
  have g1 := DGet.k (k := .inr "rows") (hf.o _ _ p1)
  rw [kS_rows] at g1
  have g2 := DGet.k (k := .inr "now") (hf.o _ _ p1)
  rw [kS_now] at g2
  refine ⟨_, ev, a, _, rfl, g1, ?_⟩
  refine ⟨_, ev, a, _, rfl, g2, ?_⟩
  refine ⟨l, vs, s.now, x, rfl, rfl, SqL.of (hf.o _ _ p3), by unfold atI; rw [hvl, hj]; exact ex, ?_⟩
  have hlen0 : i0 < G.length := (List.getElem?_eq_some_iff.mp h0).1
  have hlen : i < G.length := (List.getElem?_eq_some_iff.mp hun).1
  have hσ : i < σ.length := by rw [he.len]; exact hlen
  rw [efp, efq] at ndv
  have ndA := List.nodup_cons.mp ndv
  have ndL := List.nodup_cons.mp ndA.2
  have nd1 := List.nodup_append.mp ndL.2
  have nd3 := List.nodup_append.mp nd1.2.1
  have hvl2 : vs = vs.take p.1 ++ (x :: vs.drop (p.1 + 1)) := by
    obtain ⟨hlt, e⟩ := List.getElem?_eq_some_iff.mp ex
    rw [← e, ← List.drop_eq_getElem_cons hlt, List.take_append_drop]
  have hA : OwnA cf.K F (inO O') vs ((s.rows.map lI).set p.1 (.hole x)) (f1 ++ f3) := by
    rw [List.set_eq_take_append_cons_drop, if_pos (List.getElem?_eq_some_iff.mp hts).1]
    conv => arg 4; rw [hvl2]
    exact ownA_app a1 (.cons (fp := []) .hole a3)
  have r1 : Own cf.K F (inO O') (.ref a) (.at (.ref a) (tH p.1 x s)) (a :: l :: (f1 ++ f3)) := .pin (S_own p1 p3 hA)
  have r2 : Own cf.K F (inO O') x (.at x (lI p.2)) f2 := .pin a2
  have nd1' : (a :: l :: (f1 ++ f3)).Nodup := List.nodup_cons.mpr ⟨fun z => ndA.1 (by
      simp only [List.mem_cons, List.mem_append] at z ⊢
      rcases z with z | z | z <;> simp [z]), List.nodup_cons.mpr ⟨fun z => ndL.1 (by
      simp only [List.mem_append] at z ⊢
      rcases z with z | z <;> simp [z]), List.nodup_append.mpr ⟨nd1.1, nd3.2.1, fun q h r h' => nd1.2.2 q h r (by simp [h'])⟩⟩⟩
  have in1 : ∀ q, q ∈ a :: l :: (f1 ++ f3) → q ∈ fp i0 := fun q h => by
    rw [efp, efq]
    simp only [List.mem_cons, List.mem_append] at h ⊢
    rcases h with h | h | h | h <;> simp [h]
  have in2 : ∀ q, q ∈ f2 → q ∈ fp i0 := fun q h => by
    rw [efp, efq]
    simp [h]
  have sep12 : ∀ q, q ∈ a :: l :: (f1 ++ f3) → q ∈ f2 → False := fun q h h' => by
    simp only [List.mem_cons, List.mem_append] at h
    rcases h with h | h | h | h
    · exact ndA.1 (by rw [← h]; simp [h'])
    · exact ndL.1 (by rw [← h]; simp [h'])
    · exact nd1.2.2 q h q (by simp [h']) rfl
    · exact nd3.2.2 q h' q h rfl
  refine hk x p F O H _ D ?_ nb kn kb kr ke
  rw [← hG]
  have hget : ∀ (j : Nat), ((G.set i0 (.ow (.at (.ref a) (tH p.1 x s)))).set i (.ow (.at x (lI p.2))))[j]? = if j = i then some (.ow (.at x (lI p.2))) else if j = i0 then some (.ow (.at (.ref a) (tH p.1 x s))) else G[j]? := fun j => by
    by_cases h1 : j = i
    · rw [if_pos h1, h1, List.getElem?_set_self (by rw [List.length_set]; exact hlen)]
    · rw [if_neg h1, List.getElem?_set_ne (Ne.symm h1)]
      by_cases h2 : j = i0
      · rw [if_pos h2, h2, List.getElem?_set_self hlen0]
      · rw [if_neg h2, List.getElem?_set_ne (Ne.symm h2)]
  have hsg : ∀ (j : Nat), (σ.set i (some x))[j]? = if j = i then some (some x) else σ[j]? := fun j => by
    by_cases h1 : j = i
    · rw [if_pos h1, h1, List.getElem?_set_self hσ]
    · rw [if_neg h1, List.getElem?_set_ne (Ne.symm h1)]
  refine ⟨O', lo, hf, ⟨by rw [List.length_set, List.length_set, List.length_set, he.len], fun j t e => ?_⟩, fun j => if j = i then f2 else if j = i0 then a :: l :: (f1 ++ f3) else fp j, fun j => ?_, fun j q h => ?_, fun j m q hjm h h' => ?_, fun j t e => ?_⟩
  · rw [hget] at e
    rw [hsg]
    by_cases h1 : j = i
    · rw [if_pos h1] at e ⊢
      cases e
      exact ⟨x, f2, rfl, r2⟩
    · rw [if_neg h1] at e ⊢
      by_cases h2 : j = i0
      · rw [if_pos h2] at e
        cases e
        exact ⟨_, _, by rw [h2]; exact ev, r1⟩
      · rw [if_neg h2] at e
        exact he.at' j t e
  · rw [hget, hsg]
    by_cases h1 : j = i
    · rw [if_pos h1, if_pos h1, if_pos h1]
      exact ⟨x, rfl, r2, nd3.1⟩
    · rw [if_neg h1, if_neg h1, if_neg h1]
      by_cases h2 : j = i0
      · rw [if_pos h2, if_pos h2, h2]
        exact ⟨_, ev, r1, nd1'⟩
      · rw [if_neg h2, if_neg h2]
        exact w.at' j
  · by_cases h1 : j = i
    · rw [if_pos h1] at h
      exact w.out i0 q (in2 q h)
    · rw [if_neg h1] at h
      by_cases h2 : j = i0
      · rw [if_pos h2] at h
        exact w.out i0 q (in1 q h)
      · rw [if_neg h2] at h
        exact w.out j q h
  · have key : ∀ k q, (k ≠ i → k ≠ i0 → True) → q ∈ (if k = i then f2 else if k = i0 then a :: l :: (f1 ++ f3) else fp k) → q ∈ fp k ∨ q ∈ fp i0 := fun k q _ h => by
      by_cases h1 : k = i
      · rw [if_pos h1] at h
        exact .inr (in2 q h)
      · rw [if_neg h1] at h
        by_cases h2 : k = i0
        · rw [if_pos h2] at h
          exact .inr (in1 q h)
        · rw [if_neg h2] at h
          exact .inl h
    have h : q ∈ (if j = i then f2 else if j = i0 then a :: l :: (f1 ++ f3) else fp j) := h
    have h' : q ∈ (if m = i then f2 else if m = i0 then a :: l :: (f1 ++ f3) else fp m) := h'
    by_cases h1 : j = i
    · rw [if_pos h1] at h
      have hm : m ≠ i := fun z => hjm (h1.trans z.symm)
      rw [if_neg hm] at h'
      by_cases h2 : m = i0
      · rw [if_pos h2] at h'
        exact sep12 q h' h
      · rw [if_neg h2] at h'
        exact w.sep i0 m q (Ne.symm h2) (in2 q h) h'
    · rw [if_neg h1] at h
      by_cases h2 : j = i0
      · rw [if_pos h2] at h
        by_cases h3 : m = i
        · rw [if_pos h3] at h'
          exact sep12 q h h'
        · rw [if_neg h3, if_neg (fun z => hjm (h2.trans z.symm))] at h'
          exact w.sep i0 m q (fun z => hjm (h2.trans z)) (in1 q h) h'
      · rw [if_neg h2] at h
        by_cases h3 : m = i
        · rw [if_pos h3] at h'
          exact w.sep j i0 q h2 h (in2 q h')
        · rw [if_neg h3] at h'
          by_cases h4 : m = i0
          · rw [if_pos h4] at h'
            exact w.sep j i0 q h2 h (in1 q h')
          · rw [if_neg h4] at h'
            exact w.sep j m q hjm h h'
  · rw [hget] at e
    rw [hsg]
    by_cases h1 : j = i
    · rw [if_pos h1] at e
      cases e
    · rw [if_neg h1] at e ⊢
      by_cases h2 : j = i0
      · rw [if_pos h2] at e
        cases e
      · rw [if_neg h2] at e
        exact w.bo j t e
/-- row[k] = e, the row known by its place -/
theorem sb_setP {i : Nat} {tk : TE} {w0 : V} {m : R Int} {n : R Int} {xs : List Int} {f : List Int → R (Fl S ρ)} (h0 : G[i]? = some (.ow (.at w0 (lI xs)))) (h : EM cf E te G m) (hi : EM cf E tk G n) (G' : List Int → List Sl) (hG : ∀ xs : List Int, G.set i (.ow (.at w0 (lI xs))) = G' xs) (hk : ∀ xs, SB cf E u (G' xs) enc (f xs)) (nv : noVo G = true := by rfl) :
    SB cf E (tSeq (tAsg te (gSub (tVar i) tk rSetL)) u) G enc (m.bind fun a => n.bind fun k => (setR xs k a).bind f) := fun F O H σ D hM nb kn kb kr ke => by
  obtain ⟨O', lo, hf, he, fp, w⟩ := hM
  have hi' := w.at' i
  rw [h0] at hi'
  obtain ⟨v, ev, rv0, ndv⟩ := hi'
  obtain ⟨rv, hpin⟩ := own_pn (o := some w0) rv0
  obtain rfl := hpin w0 rfl
  have hlen : i < G.length := (List.getElem?_eq_some_iff.mp h0).1
  obtain ⟨a, vs, rfl, eO, hd, efp⟩ := own_lI rv
  refine h F O' H σ _ hf he (R.bind_nb nb) (fun x v F1 H1 ex le1 hf1 hr => ?_) (fun c p d F' H' e le hf' hd => ke c p d F' H' (by rw [e]; rfl) le (hf'.weak lo) hd)
  rw [ex, R.ok_bind] at nb kn kb kr ke
  refine ⟨_, ev, ?_⟩
  refine hi F1 O' H1 σ _ hf1 (he.mono le1) (R.bind_nb nb) (fun k w' F' H' ek le2 hf' hw => ?_) (fun c p d F' H' e le hf' hd => ke c p d F' H' (by rw [e]; rfl) (le1.trans le) (hf'.weak lo) hd)
  rw [ek, R.ok_bind] at nb kn kb kr ke
  cases hx : ixN xs.length k with
  | none =>
    unfold setR at nb
    rw [hx] at nb
    exact absurd rfl nb
  | some j =>
    have es : setR xs k x = .ok (xs.set j x) := by
      unfold setR
      rw [hx]
    rw [es, R.ok_bind] at nb kn kb kr ke
    have le := le1.trans le2
    refine ⟨a, vs, k, j, rfl, dr_int hw, hf'.o _ _ eO, by rw [hd.length, List.length_map]; exact hx, ?_⟩
    refine hk _ F' O _ σ D ?_ nb (fun s F'' H'' σ' e le' => kn s F'' H'' σ' e (le.trans le')) (fun s F'' H'' σ' e le' => kb s F'' H'' σ' e (le.trans le')) (fun r v F'' H'' e le' => kr r v F'' H'' e (le.trans le')) fun c p d F'' H'' e le' => ke c p d F'' H'' e (le.trans le')
    rw [← hG]
    refine sb_chg (fp2 := [a]) (.ref a) lo (he.mono le) (w.mono le) nv hlen ev (fun p hp o e => ?_) (hf'.wr (o := .lst (vs.set j v)) eO) (.pin (lI_own upd_same ?_)) (by simp) (fun p q => .inl (by rw [efp]; exact q))
    · rw [upd_ne (fun z => hp (by rw [efp, z]; simp))]
      exact e
    · rw [List.map_set]
      exact (hd.mono le).set (hr.mono le2) j
/-- state['now'] = e -/
theorem sb_setNow {i j : Nat} {vS w0 : V} {s : Stt} {m : R Int} {f : Int → R (Fl S ρ)} (h0 : G[i]? = some (.ow (.at vS (tH j w0 s)))) (h : EM cf E te G m) (G' : Int → List Sl) (hG : ∀ n : Int, G.set i (.ow (.at vS (tH j w0 { s with now := n }))) = G' n) (hk : ∀ n, SB cf E u (G' n) enc (f n)) (nv : noVo G = true := by rfl) :
    SB cf E (tSeq (sDPut (tVar i) (tC (.str "now")) te) u) G enc (m.bind f) := fun F O H σ D hM nb kn kb kr ke => by
  obtain ⟨O', lo, hf, he, fp, w⟩ := hM
  have hi' := w.at' i
  rw [h0] at hi'
  obtain ⟨v, ev, rv0, ndv⟩ := hi'
  obtain ⟨rv, hpin⟩ := own_pn (o := some vS) rv0
  obtain rfl := hpin vS rfl
  have hlen : i < G.length := (List.getElem?_eq_some_iff.mp h0).1
  obtain ⟨a, l, vs, fq, rfl, p1, p3, p4, efp⟩ := own_S rv
  refine h F O' H σ _ hf he (R.bind_nb nb) (fun x y F1 H1 ex le1 hf1 hr => ?_) (fun c p d F' H' e le hf' hd => ke c p d F' H' (by rw [e]; rfl) le (hf'.weak lo) hd)
  rw [ex, R.ok_bind] at nb kn kb kr ke
  obtain rfl : y = .int x := dr_int hr
  have g := DPut.k (k := .inr "now") (v := .int x) (hf1.o _ _ p1) (by show 5 < sizeLine; decide)
  rw [kS_put] at g
  refine ⟨_, ev, a, _, rfl, g, ?_⟩
  refine hk _ F1 O _ σ D ?_ nb (fun s F'' H'' σ' e le' => kn s F'' H'' σ' e (le1.trans le')) (fun s F'' H'' σ' e le' => kb s F'' H'' σ' e (le1.trans le')) (fun r v F'' H'' e le' => kr r v F'' H'' e (le1.trans le')) fun c p d F'' H'' e le' => ke c p d F'' H'' e (le1.trans le')
  rw [← hG]
  rw [efp] at ndv
  have nda := (List.nodup_cons.mp ndv).1
  refine sb_chg (fp2 := a :: l :: fq) (.ref a) lo (he.mono le1) (w.mono le1) nv hlen ev (fun p hp o e => ?_) (hf1.wr p1) (.pin (S_own upd_same ?_ (p4.mono le1 fun p hp o e => ?_))) ndv (fun p q => .inl (by rw [efp]; exact q))
  · rw [upd_ne (fun z => hp (by rw [efp, z]; simp))]
    exact e
  · show upd O' a _ l = _
    rw [upd_ne (fun z => nda (by rw [← z]; simp))]
    exact p3
  · show upd O' a _ p = some o
    rw [upd_ne (fun z => nda (by rw [← z]; simp [hp]))]
    exact e
/-- the row is put back -/
theorem mt_join {i0 i j : Nat} {vS w0 : V} {s : Stt} {ws : List Int} {F O H : Hp} {σ : L2.St} (h0 : G[i0]? = some (.ow (.at vS (tH j w0 s)))) (h1 : G[i]? = some (.ow (.at w0 (lI ws)))) (hne : i0 ≠ i) (hM : Mt cf.K F O H σ G) :
    Mt cf.K F O H σ ((G.set i0 (.ow (.at vS (tS { s with rows := s.rows.set j ws })))).set i .un) := by
  obtain ⟨O', lo, hf, he, fp, w⟩ := hM
  have hi0 := w.at' i0
  rw [h0] at hi0
  obtain ⟨v, ev, rv0, ndv⟩ := hi0
  obtain ⟨rv, hpin⟩ := own_pn (o := some vS) rv0
  obtain rfl := hpin vS rfl
  have hi1 := w.at' i
  rw [h1] at hi1
  obtain ⟨v1, ev1, ru0, ndu⟩ := hi1
  obtain ⟨ru, hpin1⟩ := own_pn (o := some w0) ru0
  obtain rfl := hpin1 w0 rfl
  have hlen0 : i0 < G.length := (List.getElem?_eq_some_iff.mp h0).1
  have hlen : i < G.length := (List.getElem?_eq_some_iff.mp h1).1
  obtain ⟨a, l, vs, fq, rfl, p1, p3, p4, efp⟩ := own_S rv
  have sep : ∀ q, q ∈ fp i0 → q ∈ fp i → False := fun q h h' => w.sep i0 i q hne h h'
  obtain ⟨fr, hA, hin, hnd⟩ : ∃ fr, OwnA cf.K F (inO O') vs ((s.rows.set j ws).map lI) fr ∧ (∀ q ∈ fr, q ∈ fq ∨ q ∈ fp i) ∧ fr.Nodup := by
    have ndq : fq.Nodup := by
      rw [efp] at ndv
      exact (List.nodup_cons.mp (List.nodup_cons.mp ndv).2).2
    by_cases hj : j < s.rows.length
    · have hts : ((s.rows.map lI).set j (.hole v1))[j]? = some (.hole v1) := List.getElem?_set_self (by rw [List.length_map]; exact hj)
      obtain ⟨x, f1, f2, f3, ex, efq, a1, a2, a3⟩ := ownA_split p4 hts
      obtain ⟨rfl, rfl⟩ : x = v1 ∧ f2 = [] := by
        cases a2
        exact ⟨rfl, rfl⟩
      rw [List.nil_append] at efq
      have hvl2 : vs = vs.take j ++ (x :: vs.drop (j + 1)) := by
        obtain ⟨hlt, e⟩ := List.getElem?_eq_some_iff.mp ex
        rw [← e, ← List.drop_eq_getElem_cons hlt, List.take_append_drop]
      refine ⟨f1 ++ (fp i ++ f3), ?_, fun q h => ?_, ?_⟩
      · rw [List.map_set, List.set_eq_take_append_cons_drop, if_pos (by rw [List.length_map]; exact hj)]
        rw [List.take_set_of_le (Nat.le_refl _)] at a1
        rw [List.drop_set_of_lt (by omega)] at a3
        conv => arg 4; rw [hvl2]
        exact ownA_app a1 (.cons ru a3)
      · rw [efq]
        simp only [List.mem_append] at h ⊢
        rcases h with h | h | h <;> simp [h]
      · rw [efq] at ndq
        have nd1 := List.nodup_append.mp ndq
        have s1 : ∀ q, q ∈ fq → q ∈ fp i → False := fun q h h' => sep q (by rw [efp]; simp [h]) h'
        refine List.nodup_append.mpr ⟨nd1.1, List.nodup_append.mpr ⟨ndu, nd1.2.1, fun q h r h' e => ?_⟩, fun q h r h' e => ?_⟩
        · subst e
          exact s1 q (by rw [efq]; simp [h']) h
        · subst e
          rcases List.mem_append.mp h' with h' | h'
          · exact s1 q (by rw [efq]; simp [h]) h'
          · exact nd1.2.2 q h q h' rfl
    · refine ⟨fq, ?_, fun q h => .inl h, ndq⟩
      rw [List.set_eq_of_length_le (by rw [List.length_map]; omega)] at p4
      rw [List.set_eq_of_length_le (by omega)]
      exact p4
  have r1 : Own cf.K F (inO O') (.ref a) (.at (.ref a) (tS { s with rows := s.rows.set j ws })) (a :: l :: fr) := .pin (S_own p1 p3 hA)
  have ndn : (a :: l :: fr).Nodup := by
    rw [efp] at ndv
    have ndA := List.nodup_cons.mp ndv
    have ndL := List.nodup_cons.mp ndA.2
    refine List.nodup_cons.mpr ⟨fun z => ?_, List.nodup_cons.mpr ⟨fun z => ?_, hnd⟩⟩
    · rcases List.mem_cons.mp z with z | z
      · exact ndA.1 (by simp [z])
      · rcases hin a z with z | z
        · exact ndA.1 (by simp [z])
        · exact sep a (by rw [efp]; simp) z
    · rcases hin l z with z | z
      · exact ndL.1 z
      · exact sep l (by rw [efp]; simp) z
  have inn : ∀ q, q ∈ a :: l :: fr → q ∈ fp i0 ∨ q ∈ fp i := fun q h => by
    rw [efp]
    rcases List.mem_cons.mp h with h | h
    · exact .inl (by simp [h])
    · rcases List.mem_cons.mp h with h | h
      · exact .inl (by simp [h])
      · exact (hin q h).imp (fun z => by simp [z]) id
  have hget : ∀ (k : Nat), ((G.set i0 (.ow (.at (.ref a) (tS { s with rows := s.rows.set j ws })))).set i .un)[k]? = if k = i then some .un else if k = i0 then some (.ow (.at (.ref a) (tS { s with rows := s.rows.set j ws }))) else G[k]? := fun k => by
    by_cases h1 : k = i
    · rw [if_pos h1, h1, List.getElem?_set_self (by rw [List.length_set]; exact hlen)]
    · rw [if_neg h1, List.getElem?_set_ne (Ne.symm h1)]
      by_cases h2 : k = i0
      · rw [if_pos h2, h2, List.getElem?_set_self hlen0]
      · rw [if_neg h2, List.getElem?_set_ne (Ne.symm h2)]
  refine ⟨O', lo, hf, ⟨by rw [List.length_set, List.length_set, he.len], fun k t e => ?_⟩, fun k => if k = i then [] else if k = i0 then a :: l :: fr else fp k, fun k => ?_, fun k q h => ?_, fun k m q hjm h h' => ?_, fun k t e => ?_⟩
  · rw [hget] at e
    by_cases h1 : k = i
    · rw [if_pos h1] at e
      cases e
      trivial
    · rw [if_neg h1] at e
      by_cases h2 : k = i0
      · rw [if_pos h2] at e
        cases e
        exact ⟨_, _, by rw [h2]; exact ev, r1⟩
      · rw [if_neg h2] at e
        exact he.at' k t e
  · rw [hget]
    by_cases h1 : k = i
    · rw [if_pos h1, if_pos h1]
      rfl
    · rw [if_neg h1, if_neg h1]
      by_cases h2 : k = i0
      · rw [if_pos h2, if_pos h2, h2]
        exact ⟨_, ev, r1, ndn⟩
      · rw [if_neg h2, if_neg h2]
        exact w.at' k
  · have h : q ∈ (if k = i then [] else if k = i0 then a :: l :: fr else fp k) := h
    by_cases h1 : k = i
    · rw [if_pos h1] at h
      cases h
    · rw [if_neg h1] at h
      by_cases h2 : k = i0
      · rw [if_pos h2] at h
        exact (inn q h).elim (w.out i0 q) (w.out i q)
      · rw [if_neg h2] at h
        exact w.out k q h
  · have h : q ∈ (if k = i then [] else if k = i0 then a :: l :: fr else fp k) := h
    have h' : q ∈ (if m = i then [] else if m = i0 then a :: l :: fr else fp m) := h'
    by_cases h1 : k = i
    · rw [if_pos h1] at h
      cases h
    · by_cases h3 : m = i
      · rw [if_pos h3] at h'
        cases h'
      · rw [if_neg h1] at h
        rw [if_neg h3] at h'
        by_cases h2 : k = i0
        · rw [if_pos h2] at h
          have h4 : m ≠ i0 := fun z => hjm (h2.trans z.symm)
          rw [if_neg h4] at h'
          rcases inn q h with z | z
          · exact w.sep i0 m q (Ne.symm h4) z h'
          · exact w.sep i m q (Ne.symm h3) z h'
        · rw [if_neg h2] at h
          by_cases h4 : m = i0
          · rw [if_pos h4] at h'
            rcases inn q h' with z | z
            · exact w.sep k i0 q h2 h z
            · exact w.sep k i q h1 h z
          · rw [if_neg h4] at h'
            exact w.sep k m q hjm h h'
  · rw [hget] at e
    by_cases h1 : k = i
    · rw [if_pos h1] at e
      cases e
    · rw [if_neg h1] at e
      by_cases h2 : k = i0
      · rw [if_pos h2] at e
        cases e
      · rw [if_neg h2] at e
        exact w.bo k t e
theorem sb_join {i0 i j : Nat} {vS w0 : V} {s : Stt} {ws : List Int} (x : S) (h0 : G[i0]? = some (.ow (.at vS (tH j w0 s)))) (h1 : G[i]? = some (.ow (.at w0 (lI ws)))) (hne : i0 ≠ i)
    (q : Sub ((G.set i0 (.ow (.at vS (tS { s with rows := s.rows.set j ws })))).set i .un) (enc x)) : SB cf E tNext G enc (.ok (.nx x) : R (Fl S ρ)) := fun F O H σ D hM _ kn _ _ _ => kn x F H σ rfl (Le.refl F) ((mt_join h0 h1 hne hM).sub q)
/-- if o.m(e) is not None: .. : it is None -/
theorem sb_learnNN [Ag β] {ub : TS} {i : Nat} {M : Mdl} {g0 g1 g2 : Mdl → β → R Mdl} {n : Str} {m1 : R β} {f : Mdl → R (Fl S ρ)} (h0 : G[i]? = some (.ow (tM cf M))) (hn : n ∉ mnames) (h1 : EG cf E tb G m1 fun F O _ v a => Ag.rel cf F O v a) (G' : Mdl → List Sl) (hG : ∀ a : Mdl, G.set i (.ow (tM cf a)) = G' a) (hk : ∀ a, SB cf E u (G' a) enc (f a)) (nv : noVo G = true := by rfl) :
    SB cf E (tSeq (tIfS (tTest (tOp (fun x y H Q => y = .non ∧ Q (.bl (!decide (x = .non))) H) (t3 (tMeth (cf.mc 0) n (spL cf g0) [] E0 (tVar i) (tCons tb tNil)) (tMeth (cf.mc 1) n (spL cf g1) [] E0 (tVar i) (tCons tb tNil)) (tMeth (cf.mc 2) n (spL cf g2) [] E0 (tVar i) (tCons tb tNil))) (tC .non))) ub tNext) u) G enc (m1.bind fun b => (dsp g0 g1 g2 M b).pu.bind f) := fun F O H σ D hM nb kn kb kr ke => by
  obtain ⟨O', lo, hf, he, fp, w⟩ := hM
  have hi := w.at' i
  rw [h0] at hi
  obtain ⟨v, ev, rv, ndv⟩ := hi
  have hlen : i < G.length := (List.getElem?_eq_some_iff.mp h0).1
  have main : ∀ (k : Nat) (g : Mdl → β → R Mdl), kM M = k → dsp g0 g1 g2 M = g M → tMeth (cf.mc k) n (spL cf g) [] E0 (tVar i) (tCons tb tNil) σ H (fun x H1 => V.non = .non ∧ ∃ k, V.bl (!decide (x = .non)) = .bl k ∧ if k = true then ub { D with nx := u D } σ H1 else tNext { D with nx := u D } σ H1) := fun k g hkM hd => by
    rw [hd] at nb kn kb kr ke
    obtain ⟨a, dx, fvs, rfl, ha, hl⟩ := meth_base (n := n) hf ⟨fp i, rv.toFO⟩ hn
    refine ⟨_, ev, a, dx, fvs, rfl, by rw [← hkM]; exact ha, hl, ?_⟩
    refine h1 F O' H σ _ hf he (R.bind_nb nb) (fun b x F1 H1 e1 l1 hf1 r1 => ?_) (fun c p d F' H' e le hf' hd => ke c p d F' H' (by rw [e]; rfl) le (hf'.weak lo) hd)
    rw [e1, R.ok_bind] at nb kn kb kr ke
    obtain ⟨y, ey⟩ := pu_nb (R.bind_nb nb)
    have epu : (g M b).pu = .ok y := by rw [ey]; rfl
    rw [epu, R.ok_bind] at nb kn kb kr ke
    refine ⟨F1, O', _, x, M, y, b, fp i, rfl, hf1, rv.monoF l1, ndv, r1, ey, fun F' O2 H' fp2 le hf' keep r2 nd2 hn2 => ?_⟩
    have le2 := l1.trans le
    have w2 : OwsF cf.K F' O O' σ G fp := ⟨fun i => (w.at' i).mono le2 fun _ _ _ q => q, w.out, w.sep, fun i t q => (w.bo i t q).mono le2⟩
    have hM2 : Mt cf.K F' O H' σ (G.set i (.ow (tM cf y))) := mt_wrG (fp2 := fp2) lo (he.mono le2) w2 nv hlen keep hf' (by rw [ev]; exact ⟨_, fp2, rfl, r2⟩) (by rw [ev]; exact ⟨_, rfl, r2, nd2⟩) hn2 (fun _ z => nomatch z)
    rw [hG] at hM2
    refine ⟨rfl, false, by rw [decide_eq_true rfl]; rfl, ?_⟩
    rw [if_neg Bool.false_ne_true]
    exact hk y F' O H' σ D hM2 nb (fun s F'' H'' σ' e le' => kn s F'' H'' σ' e (le2.trans le')) (fun s F'' H'' σ' e le' => kb s F'' H'' σ' e (le2.trans le')) (fun r v F'' H'' e le' => kr r v F'' H'' e (le2.trans le')) fun c p d F'' H'' e le' => ke c p d F'' H'' e (le2.trans le')
  show t3 _ _ _ σ H (fun x H1 => V.non = .non ∧ ∃ k, V.bl (!decide (x = .non)) = .bl k ∧ if k = true then ub { D with nx := u D } σ H1 else tNext { D with nx := u D } σ H1)
  cases hm : M with
  | c ws => exact .inl (main 0 g0 (by rw [hm]; rfl) (by rw [hm]; rfl))
  | l ws st li => exact .inr (.inl (main 1 g1 (by rw [hm]; rfl) (by rw [hm]; rfl)))
  | x rows cur st li => exact .inr (.inr (main 2 g2 (by rw [hm]; rfl) (by rw [hm]; rfl)))
/-! ### a call that changes its first argument -/
theorem sb_callL [Tre α] [Ag β] {i : Nat} {M : α} {g : α → β → R α} {m1 : R β} {f : α → R (Fl S ρ)} (h0 : G[i]? = some (.ow (Tre.tr cf M))) (h1 : EG cf E tb G m1 fun F O _ v a => Ag.rel cf F O v a) (G' : α → List Sl) (hG : ∀ a : α, G.set i (.ow (Tre.tr cf a)) = G' a) (hk : ∀ a, SB cf E u (G' a) enc (f a)) (nv : noVo G = true := by rfl) :
    SB cf E (tSeq (tDrop (tCall (spL cf g) [] E0 (tCons (tVar i) (tCons tb tNil)))) u) G enc (m1.bind fun b => (g M b).pu.bind f) := fun F O H σ D hM nb kn kb kr ke => by
  obtain ⟨O', lo, hf, he, fp, w⟩ := hM
  have hi := w.at' i
  rw [h0] at hi
  obtain ⟨v, ev, rv, ndv⟩ := hi
  have hlen : i < G.length := (List.getElem?_eq_some_iff.mp h0).1
  refine ⟨_, ev, ?_⟩
  refine h1 F O' H σ _ hf he (R.bind_nb nb) (fun b x F1 H1 e1 l1 hf1 r1 => ?_) (fun c p d F' H' e le hf' hd => ke c p d F' H' (by rw [e]; rfl) le (hf'.weak lo) hd)
  rw [e1, R.ok_bind] at nb kn kb kr ke
  obtain ⟨y, ey⟩ := pu_nb (R.bind_nb nb)
  have epu : (g M b).pu = .ok y := by rw [ey]; rfl
  rw [epu, R.ok_bind] at nb kn kb kr ke
  refine ⟨F1, O', _, x, M, y, b, fp i, rfl, hf1, rv.monoF l1, ndv, r1, ey, fun F' O2 H' fp2 le hf' keep r2 nd2 hn2 => ?_⟩
  have le2 := l1.trans le
  have w2 : OwsF cf.K F' O O' σ G fp := ⟨fun i => (w.at' i).mono le2 fun _ _ _ q => q, w.out, w.sep, fun i t q => (w.bo i t q).mono le2⟩
  have hM2 : Mt cf.K F' O H' σ (G.set i (.ow (Tre.tr cf y))) := mt_wrG (fp2 := fp2) lo (he.mono le2) w2 nv hlen keep hf' (by rw [ev]; exact ⟨_, fp2, rfl, r2⟩) (by rw [ev]; exact ⟨_, rfl, r2, nd2⟩) hn2 (fun _ z => nomatch z)
  rw [hG] at hM2
  exact hk y F' O H' σ D hM2 nb (fun s F'' H'' σ' e le' => kn s F'' H'' σ' e (le2.trans le')) (fun s F'' H'' σ' e le' => kb s F'' H'' σ' e (le2.trans le')) (fun r v F'' H'' e le' => kr r v F'' H'' e (le2.trans le')) fun c p d F'' H'' e le' => ke c p d F'' H'' e (le2.trans le')
end
/-- what the body gives: the object behind it -/
def finT {α ρ : Type} (m : R (Fl α ρ)) : R α := m.bind fun
  | .nx M => .ok M
  | _ => .bad
theorem fnLT {α β : Type} [Tre α] [Enc β] {P : Program} {w : World} {cf : Cf} {mg : Str → Option Value} {base : Heap} {x qual : Str} {st : Stmt} {f0 : Addr} {fd : FuncData} {N ps : List Str} {k : Nat} {enc : V → α → List Sl} (F : Fun cf.K x qual st f0 fd) (sc : FnScope N ps (defScope st)) (hp : ps.length = 2) (g : α → β → R (Fl α Unit))
    (G0 : V → α → β → List Sl) (hG : ∀ v M b, [.ow (.at v (Tre.tr cf M)), .va (toD b)] ++ List.replicate (N.length - 2) .un = G0 v M b) (hE : ∀ v M, (enc v M)[0]? = some (.ow (.at v (Tre.tr cf M))))
    (h : ∀ (cdv : Value) (A : Around) (outer : List Env) (s : Shared) (H : Hp) (E : XK), Room k (A.deeper (envOfC qual (defScope st) s.heap.objs.size f0 cdv)) →
      ∃ t, PSs (cxOf CX0 P w cf.K mg base N qual (defScope st) f0 cdv A outer s H E).nox (defBody st) t ∧ ∀ v M b, SB cf E0 t (G0 v M b) (enc v) (g M b)) :
    FnOk P w cf.K mg base CX0 (k + 1) f0 fd ps (spL cf fun M b => finT (g M b)) := by
  refine F.ok sc (spL.len hp) (fun cdv A outer s H vs Q E hr hq => ?_)
  obtain ⟨t, ht, hb⟩ := h cdv A outer s H E hr
  refine ⟨t, ht, ?_⟩
  obtain ⟨F, O, v, w, M, M', b, fp, rfl, hf, r, nd, hbw, hg, kk⟩ := hq
  have hg2 : g M b = .ok (.nx M') := by
    have hg' : finT (g M b) = .ok M' := hg
    cases e : g M b with
    | ok x =>
      rw [e] at hg'
      cases x with
      | nx s => cases hg'; rfl
      | bk s => cases hg'
      | rt r => cases hg'
    | er c p =>
      rw [e] at hg'
      cases hg'
    | bad =>
      rw [e] at hg'
      cases hg'
  have hb1 := hb v M b
  rw [← hG] at hb1
  have lo : Le (fun p => if p ∈ fp then none else O p) O := fun p o e => by
    have e' : (if p ∈ fp then none else O p) = some o := e
    by_cases c : p ∈ fp
    · rw [if_pos c] at e'
      cases e'
    · rw [if_neg c] at e'
      exact e'
  have hlen : ([Sl.ow (.at v (Tre.tr cf M)), .va (toD b)] ++ List.replicate (N.length - 2) Sl.un).length = (L2.start N [v, w]).length := by
    unfold L2.start
    simp
  have he : Er cf.K F O (L2.start N [v, w]) ([.ow (.at v (Tre.tr cf M)), .va (toD b)] ++ List.replicate (N.length - 2) .un) := er_startG (ss := [.ow (.at v (Tre.tr cf M)), .va (toD b)]) (fun i s e => match i, e with
    | 0, rfl => ⟨_, rfl, _, fp, rfl, .pin r⟩
    | 1, rfl => ⟨_, rfl, _, rfl, hbw⟩) rfl
  have hM : Mt cf.K F (fun p => if p ∈ fp then none else O p) H (L2.start N [v, w]) ([.ow (.at v (Tre.tr cf M)), .va (toD b)] ++ List.replicate (N.length - 2) .un) := by
    refine ⟨O, lo, hf, he, fun i => if i = 0 then fp else [], fun i => ?_, fun i p q => ?_, fun i j p hij q q' => ?_, fun i t e => ?_⟩
    · match i with
      | 0 => exact ⟨v, rfl, .pin r, nd⟩
      | 1 => rfl
      | i + 2 =>
        have e : (([.ow (.at v (Tre.tr cf M)), .va (toD b)] : List Sl) ++ List.replicate (N.length - 2) Sl.un)[i + 2]? = (List.replicate (N.length - 2) Sl.un)[i]? := by simp
        rw [e, List.getElem?_replicate]
        split <;> rfl
    · by_cases c : i = 0
      · rw [if_pos c] at q
        show (if p ∈ fp then none else O p) = none
        rw [if_pos q]
      · rw [if_neg c] at q
        cases q
    · by_cases c : i = 0
      · rw [if_neg (fun z => hij (c.trans z.symm))] at q'
        cases q'
      · rw [if_neg c] at q
        cases q
    · match i, e with
      | 0, e => cases e
      | 1, e => cases e
      | i + 2, e =>
        have e' : (([.ow (.at v (Tre.tr cf M)), .va (toD b)] : List Sl) ++ List.replicate (N.length - 2) Sl.un)[i + 2]? = (List.replicate (N.length - 2) Sl.un)[i]? := by simp
        rw [e', List.getElem?_replicate] at e
        split at e <;> cases e
  refine hb1 F _ H _ _ hM (fun z => by rw [hg2] at z; cases z) (fun s F' H' σ' e le hM2 => ?_) (fun s F' H' σ' e => by rw [hg2] at e; cases e) (fun r' v F' H' e => by rw [hg2] at e; cases e) (fun c p d F' H' e => by rw [hg2] at e; cases e)
  rw [hg2] at e
  cases e
  obtain ⟨O2, lo2, hf2, he2, fp2, w2⟩ := hM2
  have h0 := w2.at' 0
  rw [hE] at h0
  obtain ⟨v', ev', rv', ndv'⟩ := h0
  obtain ⟨rv, hv⟩ := own_pn (o := some v) rv'
  have := hv v rfl
  subst this
  refine kk F' O2 H' (fp2 0) le hf2 (fun p hp o e => lo2 p o ?_) rv ndv' (fun p q => ?_)
  · show (if p ∈ fp then none else O p) = some o
    rw [if_neg hp]
    exact e
  · have := w2.out 0 p q
    have this : (if p ∈ fp then none else O p) = none := this
    by_cases c : p ∈ fp
    · exact .inl c
    · rw [if_neg c] at this
      exact .inr this
/-! ### a new state -/
section
variable {cf : Cf} {E : XK} {G : List Sl} {α β γ S : Type} {ta tb te t1 t2 t3 t4 : TE} {u : TS} {enc : S → List Sl}
/-- a list of lists, taken out of a slot or new -/
def EX (cf : Cf) (te : TE) (G : List Sl) (rows : List (List Int)) : Prop := ∀ (F O O' H : Hp) (σ : L2.St) (Q : V → Hp → Prop), Le O O' → Fm F O' H → Er cf.K F O' σ G → Ows cf.K F O O' σ G →
  (∀ v F' O2 H' fq, Le F F' → Le O' O2 → Fm F' O2 H' → Own cf.K F' (inO O2) v (.l (rows.map lI)) fq → fq.Nodup → (∀ p ∈ fq, O p = none) → Q v H') → te σ H Q
theorem ex_name {i : Nat} {rows : List Bl} (h0 : G[i]? = some (.ow (Tre.tr cf rows))) : EX cf (tVar i) G (rows.map Bl.xs) := fun F O O' H σ Q lo hf he ⟨fp, w⟩ k => by
  have hi := w.at' i
  rw [h0] at hi
  obtain ⟨v, ev, rv, ndv⟩ := hi
  refine ⟨v, ev, k v F O' H (fp i) (Le.refl F) (Le.refl O') hf ?_ ndv (w.out i)⟩
  rw [List.map_map]
  exact rv
theorem ex_lst {i : Nat} {xs : List Int} (h0 : G[i]? = some (.ol (xs.map toD))) : EX cf (tLst (tCons (tVar i) tNil)) G [xs] := fun F O O' H σ Q lo hf he ⟨fp, w⟩ k => by
  obtain ⟨a, vs, ev, eO, hd⟩ := he.at' i _ h0
  have hi := w.at' i
  rw [h0] at hi
  obtain ⟨a', ev', efp⟩ := hi
  obtain rfl : a = a' := by
    rw [ev] at ev'
    cases ev'
    rfl
  refine ⟨_, ev, by show 1 ≤ sizeLine; decide, fun q hq => ?_⟩
  have hqa : a ≠ q := fun z => by
    rw [← z, hf.o _ _ eO] at hq
    cases hq
  refine k (.ref q) F (upd O' q (.lst [.ref a])) _ [q, a] (Le.refl F) (Le.new (hf.onone hq)) (hf.newO hq) (.l (vs := [.ref a]) (fp := [a]) upd_same (.cons (fp := [a]) (fq := []) (lI_own ?_ hd) .nil)) (by simp [Ne.symm hqa]) (fun p z => ?_)
  · show upd O' q _ a = _
    rw [upd_ne hqa]
    exact eO
  · rcases List.mem_cons.mp z with rfl | z
    · exact lo.free (hf.onone hq)
    · rw [List.mem_singleton.mp z]
      exact w.out i a (by rw [efp]; simp)
theorem ownLL {K : PySem.W.Frag} {F O : Hp} : ∀ {rows : List (List Int)} {vs : List V} {fq : List Addr}, OwnA K F (inO O) vs (rows.map lI) fq → ∀ p ∈ fq, ∃ xs, O p = some (.lst xs)
  | [], _, _, h, p, hp => by
    rw [(ownA_nil h).2] at hp
    cases hp
  | x :: rows, _, _, h, p, hp => by
    obtain ⟨v, r, f1, f2, rfl, h1, h2, rfl⟩ := ownA_cons h
    obtain ⟨a, ys, rfl, ha, _, rfl⟩ := own_lI h1
    rcases List.mem_append.mp hp with hp | hp
    · rw [List.mem_singleton.mp hp]
      exact ⟨ys, ha⟩
    · exact ownLL h2 p hp
theorem kS_merge {l : V} {s : Stt} : mergeK [] (kS l s) = kS l s := by
  simp only [mergeK, kS, List.foldl_cons, List.foldl_nil, putK, List.any_nil, List.any_cons, Bool.false_eq_true, if_false, List.nil_append, List.cons_append, decide_eq_false kn_rn, decide_eq_false kn_rs, decide_eq_false kn_rl, decide_eq_false kn_rk, decide_eq_false kn_ns, decide_eq_false kn_nl, decide_eq_false kn_nk, decide_eq_false kn_sl, decide_eq_false kn_sk, decide_eq_false kn_lk, Bool.or_false, Bool.or_self]
theorem sb_retS {rows : List (List Int)} {m1 m2 m3 m4 : R Int} (h0 : EX cf te G rows) (h1 : EM cf E t1 G m1) (h2 : EM cf E t2 G m2) (h3 : EM cf E t3 G m3) (h4 : EM cf E t4 G m4) :
    SB cf E (tRet (tDisp [(tC (.str "rows"), te), (tC (.str "now"), t1), (tC (.str "step"), t2), (tC (.str "limit"), t3), (tC (.str "kind"), t4)])) G enc (m1.bind fun n1 => m2.bind fun n2 => m3.bind fun n3 => m4.bind fun n4 => (.ok (.rt (Stt.mk rows n1 n2 n3 n4)) : R (Fl S Stt))) := fun F O H σ D hM nb kn kb kr ke => by
  obtain ⟨O', lo, hf, he, fp, w⟩ := hM
  intro p hp
  have hOp : O' p = none := hf.onone hp
  have l1 : Le O' (upd O' p (.dK [])) := Le.new hOp
  have hw : OwsF cf.K F O (upd O' p (.dK [])) σ G fp := ⟨fun i => (w.at' i).mono (Le.refl F) fun q _ o e => l1 q o e, w.out, w.sep, w.bo⟩
  refine h0 F O (upd O' p (.dK [])) _ σ _ (lo.trans l1) (hf.newO hp) (he.monoO l1) ⟨fp, hw⟩ fun v F1 O2 H1 fq le1 lo2 hf1 rv nd hn => ?_
  have he1 : Er cf.K F1 O2 σ G := (he.mono le1).monoO (l1.trans lo2)
  have loO : Le O O2 := lo.trans (l1.trans lo2)
  refine h1 F1 O2 H1 σ _ hf1 he1 (R.bind_nb nb) (fun n1 v1 F2 H2 e1 le2 hf2 r1 => ?_) (fun c p d F' H' e le hf' hd => ke c p d F' H' (by rw [e]; rfl) (le1.trans le) (hf'.weak loO) hd)
  rw [e1, R.ok_bind] at nb kr ke
  obtain rfl : v1 = .int n1 := dr_int r1
  refine h2 F2 O2 H2 σ _ hf2 (he1.mono le2) (R.bind_nb nb) (fun n2 v2 F3 H3 e2 le3 hf3 r2 => ?_) (fun c p d F' H' e le hf' hd => ke c p d F' H' (by rw [e]; rfl) ((le1.trans le2).trans le) (hf'.weak loO) hd)
  rw [e2, R.ok_bind] at nb kr ke
  obtain rfl : v2 = .int n2 := dr_int r2
  refine h3 F3 O2 H3 σ _ hf3 ((he1.mono le2).mono le3) (R.bind_nb nb) (fun n3 v3 F4 H4 e3 le4 hf4 r3 => ?_) (fun c p d F' H' e le hf' hd => ke c p d F' H' (by rw [e]; rfl) (((le1.trans le2).trans le3).trans le) (hf'.weak loO) hd)
  rw [e3, R.ok_bind] at nb kr ke
  obtain rfl : v3 = .int n3 := dr_int r3
  refine h4 F4 O2 H4 σ _ hf4 (((he1.mono le2).mono le3).mono le4) (R.bind_nb nb) (fun n4 v4 F5 H5 e4 le5 hf5 r4 => ?_) (fun c p d F' H' e le hf' hd => ke c p d F' H' (by rw [e]; rfl) ((((le1.trans le2).trans le3).trans le4).trans le) (hf'.weak loO) hd)
  rw [e4, R.ok_bind] at nb kr ke
  obtain rfl : v4 = .int n4 := dr_int r4
  have lf : Le F1 F5 := ((le2.trans le3).trans le4).trans le5
  have hp2 : O2 p = some (.dK []) := lo2 _ _ upd_same
  obtain ⟨l, vs, fr, rfl, q1, q2, efq⟩ := own_l rv
  let s : Stt := ⟨rows, n1, n2, n3, n4⟩
  refine ⟨hf5.o _ _ hp2, kS (.ref l) s, rfl, by show 5 ≤ 15; decide, ?_⟩
  rw [kS_merge]
  have hf6 : Fm F5 (upd O2 p (.dK (kS (.ref l) s))) (upd H5 p (.dK (kS (.ref l) s))) := hf5.wr hp2
  have np : p ∉ fr := fun z => by
    obtain ⟨xs, e⟩ := ownLL q2 p z
    rw [hp2] at e
    cases e
  have nl : l ≠ p := fun z => by
    have q1 : O2 l = some (.lst vs) := q1
    rw [z, hp2] at q1
    cases q1
  have lo6 : Le O (upd O2 p (.dK (kS (.ref l) s))) := fun q o e => by
    rw [upd_ne (ne_of_none e (lo.free hOp))]
    exact loO q o e
  rw [efq] at nd hn
  refine kr s (.ref p) F5 _ rfl (le1.trans lf) (hf6.weak lo6) ⟨p :: l :: fr, S_own upd_same ?_ (q2.mono lf fun q hq o e => ?_), List.nodup_cons.mpr ⟨fun z => ?_, nd⟩, fun q hq => ?_⟩
  · show upd H5 p _ l = _
    rw [upd_ne nl]
    exact hf5.o _ _ q1
  · show upd H5 p _ q = some o
    rw [upd_ne (fun z => np (by rw [← z]; exact hq))]
    exact hf5.o _ _ e
  · rcases List.mem_cons.mp z with z | z
    · exact nl z.symm
    · exact np z
  · rcases List.mem_cons.mp hq with rfl | hq
    · exact ⟨hf5.own hp2, lo.free hOp⟩
    · refine ⟨?_, hn q hq⟩
      rcases List.mem_cons.mp hq with rfl | hq
      · exact hf5.own q1
      · obtain ⟨o, e⟩ := q2.at q hq
        exact hf5.own e
theorem sb_retS2 {rows : List (List Int)} {m1 m2 m3 m4 : R Int} (h0 : EX cf te G rows) (h1 : EM cf E t1 G m1) (h2 : EM cf E t2 G m2) (h3 : EM cf E t3 G m3) (h4 : EM cf E t4 G m4) :
    SB cf E (tSeq (tRet (tDisp [(tC (.str "rows"), te), (tC (.str "now"), t1), (tC (.str "step"), t2), (tC (.str "limit"), t3), (tC (.str "kind"), t4)])) u) G enc (m1.bind fun n1 => m2.bind fun n2 => m3.bind fun n3 => m4.bind fun n4 => (.ok (.rt (Stt.mk rows n1 n2 n3 n4)) : R (Fl S Stt))) := fun F O H σ D hM nb kn kb kr ke =>
  sb_retS (enc := enc) h0 h1 h2 h3 h4 F O H σ D hM nb kn kb kr ke
theorem et_argS {m : R Stt} (h : EG cf E ta G m (RT cf)) : EG cf E ta G m fun F O _ v a => Ag.rel cf F O v a := h
theorem _root_.L2.Room.units2 {k : Nat} {A : Around} (r : Room k A) : A.units + 1 < cLine := by
  have := r.units1
  omega
/-! ### fresh lists as trees -/
theorem EF.toN {m : R (List Int)} (h : EF cf E ta G m) : EG cf E ta G (m.bind fun xs => .ok (Bl.mk xs)) (RN cf) := fun F O H σ Q hf he nb ko ke =>
  h F O H σ Q hf he (R.bind_nb nb) (fun xs v F' H' e le hf' hr => by
    obtain ⟨a, vs, rfl, h1, h2, h3, h4⟩ := hr
    refine ko ⟨xs⟩ _ F' H' (by rw [e]; rfl) le hf' ⟨[a], lI_own h3 h4, by simp, fun p hp => ?_⟩
    rw [List.mem_singleton.mp hp]
    exact ⟨h1, h2⟩) (fun c p d F' H' e => ke c p d F' H' (by rw [e]; rfl))
/-- [e], e new -/
theorem en_lst1 [Tre α] {m : R α} (h : EG cf E ta G m (RN cf)) : EG cf E (tLst (tCons ta tNil)) G (m.bind fun x => .ok [x]) (RN cf) := fun F O H σ Q hf he nb ko ke => by
  refine h F O H σ _ hf he (R.bind_nb nb) (fun x v F' H' e le hf' hr => ?_) (fun c p d F' H' e => ke c p d F' H' (by rw [e]; rfl))
  obtain ⟨fp, r, nd, hn⟩ := hr
  refine ⟨by show 1 ≤ sizeLine; decide, fun q hq => ?_⟩
  have nq : q ∉ fp := fun z => by
    obtain ⟨o, eo⟩ := r.at q z
    have eo : H' q = some o := eo
    rw [hq] at eo
    cases eo
  have rl := Own.l (K := cf.K) (F := F') (R := inO (upd H' q (.lst [v]))) (a := q) (vs := [v]) (ts := [Tre.tr cf x]) (fp := fp ++ []) upd_same (.cons (r.mono (Le.refl F') fun p hp o eo => by
    show upd H' q _ p = some o
    rw [upd_ne (fun z => nq (by rw [← z]; exact hp))]
    exact eo) .nil)
  rw [List.append_nil] at rl
  refine ko [x] _ F' _ (by rw [e]; rfl) le (hf'.newH hq) ⟨q :: fp, rl, List.nodup_cons.mpr ⟨nq, nd⟩, fun p hp => ?_⟩
  rcases List.mem_cons.mp hp with rfl | hp
  · exact ⟨hf'.fnone hq, hf'.onone hq⟩
  · exact hn p hp
/-! ### x in (a, b) -/
theorem em_inP {ma : R Int} {mb : R (Int × Int)} (ha : EM cf E ta G ma) (hb : EM cf E tb G mb) : EM cf E (tOp (rIn cf.K false) ta tb) G (ma.bind fun a => mb.bind fun b => .ok ([b.1, b.2].contains a)) :=
  EG.bind2 (u := fun x y H Q => rIn cf.K false x y H Q) ha hb rm_mono fun F O H Q a r b s hf h1 h2 _ ko => by
    obtain ⟨p, vs, e, ht, hr⟩ := dr_tup (ds := [toD b.1, toD b.2]) h2
    have hv : vs = [b.1, b.2].map V.int := ints_of_drA hr
    rw [dr_int (i := a) h1]
    refine ⟨p, vs, e, .inr (SqT.of (hf.f _ _ ht)), rfl, by rw [hv]; exact flat_int _, ?_⟩
    rw [hv, inV_int]
    exact ko _ _ F H rfl (Le.refl F) hf (.bl _)
theorem em_niP {ma : R Int} {mb : R (Int × Int)} (ha : EM cf E ta G ma) (hb : EM cf E tb G mb) : EM cf E (tOp (rIn cf.K true) ta tb) G (ma.bind fun a => mb.bind fun b => .ok (![b.1, b.2].contains a)) :=
  EG.bind2 (u := fun x y H Q => rIn cf.K true x y H Q) ha hb rm_mono fun F O H Q a r b s hf h1 h2 _ ko => by
    obtain ⟨p, vs, e, ht, hr⟩ := dr_tup (ds := [toD b.1, toD b.2]) h2
    have hv : vs = [b.1, b.2].map V.int := ints_of_drA hr
    rw [dr_int (i := a) h1]
    refine ⟨p, vs, e, .inr (SqT.of (hf.f _ _ ht)), rfl, by rw [hv]; exact flat_int _, ?_⟩
    rw [hv, inV_int]
    exact ko _ _ F H rfl (Le.refl F) hf (.bl _)
end
end Kr

/-! KrDa: dicts whose keys are tuples of ints, by data. -/
namespace Kr
open PySem PySem.Spec PyProof.Rows L2
open Enc (toD)
/-! ### keys -/
class Tk (κ : Type) [Enc κ] where
  ks : κ → List Int
  eq : ∀ k : κ, toD k = .tup ((ks k).map toD)
  inj : ∀ {a b : κ}, ks a = ks b → a = b
instance : Tk (Int × Int) := ⟨fun p => [p.1, p.2], fun _ => rfl, fun {a b} h => by
  injection h with h1 h2
  injection h2 with h2 _
  exact Prod.ext h1 h2⟩
instance : Tk (T3 Int Int Int) := ⟨fun p => [p.a, p.b, p.c], fun _ => rfl, fun {a b} h => by
  injection h with h1 h2
  injection h2 with h2 h3
  injection h3 with h3 _
  cases a
  cases b
  dsimp only at h1 h2 h3
  rw [h1, h2, h3]⟩
structure Dc (κ α : Type) where
  kvs : List (κ × α)
section
variable {κ α β γ : Type} [Enc κ] [Tk κ] [DecidableEq κ] [Enc α] [Enc β]
def Dc.ent (d : Dc κ α) : List (List Int × Dt) := d.kvs.map fun p => (Tk.ks p.1, toD p.2)
instance : Enc (Dc κ α) := ⟨fun d => .dct d.ent⟩
def kI (k : κ) : List Key := (Tk.ks k).map Sum.inl
theorem kI_inj {a b : κ} (h : kI a = kI b) : a = b := by
  have key : ∀ (xs ys : List Int), xs.map (Sum.inl : Int → Key) = ys.map Sum.inl → xs = ys := by
    intro xs
    induction xs with
    | nil =>
      intro ys e
      cases ys with
      | nil => rfl
      | cons y ys => cases e
    | cons x xs ih =>
      intro ys e
      cases ys with
      | nil => cases e
      | cons y ys =>
        injection e with e1 e2
        injection e1 with e1
        rw [e1, ih ys e2]
  exact Tk.inj (key _ _ h)
theorem kI_V (k : κ) : (kI k).map kV = (Tk.ks k).map V.int := by
  unfold kI
  rw [List.map_map]
  rfl
def getK {κ α : Type} [DecidableEq κ] : List (κ × α) → κ → Option α
  | [], _ => none
  | p :: r, k => if p.1 = k then some p.2 else getK r k
def putD {κ α : Type} [DecidableEq κ] (kvs : List (κ × α)) (k : κ) (a : α) : List (κ × α) := if (getK kvs k).isSome = true then kvs.map (fun p => if p.1 = k then (p.1, a) else p) else kvs ++ [(k, a)]
theorem putD_len (kvs : List (κ × α)) (k : κ) (a : α) : (putD kvs k a).length ≤ kvs.length + 1 := by
  unfold putD
  split
  · rw [List.length_map]
    omega
  · rw [List.length_append]
    exact Nat.le_refl _
/-! ### what they stand for -/
theorem drK_get {K : PySem.W.Frag} {F : Hp} (k : κ) : ∀ {ks : List (List Key × V)} {kvs : List (κ × α)}, DrK K F ks (kvs.map fun p => (Tk.ks p.1, toD p.2)) → match getK kvs k with
    | none => valV ks (kI k) = none
    | some a => ∃ v, valV ks (kI k) = some v ∧ Dr K F v (toD a)
  | ks, [], h => by
    cases h
    rfl
  | ks, p :: r, h => by
    have h : DrK K F ks ((Tk.ks p.1, toD p.2) :: r.map fun p => (Tk.ks p.1, toD p.2)) := h
    cases h with
    | @cons _ v _ ks' _ h1 h2 =>
      have ih := drK_get k h2
      unfold getK
      by_cases c : p.1 = k
      · rw [if_pos c]
        exact ⟨v, valV_pos (p := (kI p.1, v)) (by rw [c]), h1⟩
      · rw [if_neg c]
        have hn : ¬ kI p.1 = kI k := fun z => c (kI_inj z)
        have e : valV ((kI p.1, v) :: ks') (kI k) = valV ks' (kI k) := valV_neg (p := (kI p.1, v)) hn
        show match getK r k with
          | none => valV ((kI p.1, v) :: ks') (kI k) = none
          | some a => ∃ v', valV ((kI p.1, v) :: ks') (kI k) = some v' ∧ Dr K F v' (toD a)
        rw [e]
        exact ih
theorem drK_some {K : PySem.W.Frag} {F : Hp} {k : κ} {ks : List (List Key × V)} {kvs : List (κ × α)} {a : α} (h : DrK K F ks (kvs.map fun p => (Tk.ks p.1, toD p.2))) (e : getK kvs k = some a) : ∃ v, valV ks (kI k) = some v ∧ Dr K F v (toD a) := by
  have := drK_get k h
  rw [e] at this
  exact this
theorem drK_none {K : PySem.W.Frag} {F : Hp} {k : κ} {ks : List (List Key × V)} {kvs : List (κ × α)} (h : DrK K F ks (kvs.map fun p => (Tk.ks p.1, toD p.2))) (e : getK kvs k = none) : valV ks (kI k) = none := by
  have := drK_get k h
  rw [e] at this
  exact this
theorem drK_isSome {K : PySem.W.Frag} {F : Hp} (k : κ) {ks : List (List Key × V)} {kvs : List (κ × α)} (h : DrK K F ks (kvs.map fun p => (Tk.ks p.1, toD p.2))) : (valV ks (kI k)).isSome = (getK kvs k).isSome := by
  cases e : getK kvs k with
  | none => rw [drK_none h e]; rfl
  | some a =>
    obtain ⟨v, ev, _⟩ := drK_some h e
    rw [ev]
    rfl
theorem drK_len {K : PySem.W.Frag} {F : Hp} : ∀ {ks : List (List Key × V)} {kvs : List (List Int × Dt)}, DrK K F ks kvs → ks.length = kvs.length
  | _, _, .nil => rfl
  | _, _, .cons _ t => by rw [List.length_cons, List.length_cons, drK_len t]
theorem drK_app {K : PySem.W.Frag} {F : Hp} {ks2 : List (List Key × V)} {kvs2 : List (List Int × Dt)} (h2 : DrK K F ks2 kvs2) : ∀ {ks : List (List Key × V)} {kvs : List (List Int × Dt)}, DrK K F ks kvs → DrK K F (ks ++ ks2) (kvs ++ kvs2)
  | _, _, .nil => h2
  | _, _, .cons r t => .cons r (drK_app h2 t)
theorem drK_map {K : PySem.W.Frag} {F : Hp} {k : κ} {a : α} {v : V} (hv : Dr K F v (toD a)) : ∀ {ks : List (List Key × V)} {kvs : List (κ × α)}, DrK K F ks (kvs.map fun p => (Tk.ks p.1, toD p.2)) →
    DrK K F (ks.map fun kv => if kv.1 = kI k then (kv.1, v) else kv) ((kvs.map fun p => if p.1 = k then (p.1, a) else p).map fun p => (Tk.ks p.1, toD p.2))
  | ks, [], h => by
    cases h
    exact .nil
  | ks, p :: r, h => by
    have h : DrK K F ks ((Tk.ks p.1, toD p.2) :: r.map fun p => (Tk.ks p.1, toD p.2)) := h
    cases h with
    | @cons _ v' _ ks' _ h1 h2 =>
      have ih := drK_map (k := k) hv h2
      rw [List.map_cons, List.map_cons, List.map_cons]
      by_cases c : p.1 = k
      · rw [if_pos c, if_pos (show ((Tk.ks p.1).map Sum.inl : List Key) = kI k by rw [← c]; rfl)]
        exact .cons hv ih
      · rw [if_neg c, if_neg (show ¬ ((Tk.ks p.1).map Sum.inl : List Key) = kI k from fun z => c (kI_inj z))]
        exact .cons h1 ih
theorem drK_put {K : PySem.W.Frag} {F : Hp} {k : κ} {a : α} {v : V} {ks : List (List Key × V)} {kvs : List (κ × α)} (h : DrK K F ks (kvs.map fun p => (Tk.ks p.1, toD p.2))) (hv : Dr K F v (toD a)) :
    DrK K F (putK ks (kI k) v) ((putD kvs k a).map fun p => (Tk.ks p.1, toD p.2)) := by
  unfold putK putD
  rw [valV_any, drK_isSome k h]
  by_cases c : (getK kvs k).isSome = true
  · rw [if_pos c, if_pos c]
    exact drK_map hv h
  · rw [if_neg c, if_neg c, List.map_append]
    exact drK_app (.cons hv .nil) h
/-- a dict that may be read -/
def RD (cf : Cf) (F O _H : Hp) (v : V) (d : Dc κ α) : Prop := ∃ a ks, v = .ref a ∧ (F a = some (.dT ks) ∨ O a = some (.dT ks)) ∧ DrK cf.K F ks (d.kvs.map fun p => (Tk.ks p.1, toD p.2))
/-- a new dict that nobody owns -/
def RND (cf : Cf) (F O H : Hp) (v : V) (d : Dc κ α) : Prop := ∃ a ks, v = .ref a ∧ F a = none ∧ O a = none ∧ H a = some (.dT ks) ∧ DrK cf.K F ks (d.kvs.map fun p => (Tk.ks p.1, toD p.2))
theorem RD.at {cf : Cf} {F O H : Hp} {v : V} {d : Dc κ α} (h : RD cf F O H v d) (hf : Fm F O H) : ∃ a ks, v = .ref a ∧ H a = some (.dT ks) ∧ DrK cf.K F ks (d.kvs.map fun p => (Tk.ks p.1, toD p.2)) := by
  obtain ⟨a, ks, e, h1, h2⟩ := h
  exact ⟨a, ks, e, h1.elim (hf.f _ _) (hf.o _ _), h2⟩
theorem rd_mono {cf : Cf} : ∀ (F O H F' H' : Hp) (v : V) (d : Dc κ α), Le F F' → Fm F' O H' → RD cf F O H v d → RD cf F' O H' v d := fun F O H F' H' v d le _ ⟨a, ks, e, h1, h2⟩ => ⟨a, ks, e, h1.imp (le _ _) id, h2.mono le⟩
section
variable {cf : Cf} {E : XK} {G : List Sl} {S ρ τ : Type} [Rs ρ] {ta tb te tk : TE} {u : TS} {enc : S → List Sl}
abbrev ED (cf : Cf) (E : XK) (t : TE) (G : List Sl) (m : R (Dc κ α)) : Prop := EG cf E t G m (RD cf)
abbrev END (cf : Cf) (E : XK) (t : TE) (G : List Sl) (m : R (Dc κ α)) : Prop := EG cf E t G m (RND cf)
theorem EM.toRD {t : TE} {m : R (Dc κ α)} (h : EM cf E t G m) : ED cf E t G m := EG.imp h fun F O H v d _ r => by
  obtain ⟨a, ks, e, h1, h2⟩ := dr_dct (kvs := d.ent) r
  exact ⟨a, ks, e, .inl h1, h2⟩
theorem ed_own (i : Nat) (d : Dc κ α) (h : G[i]? = some (.od d.ent)) : ED cf E (tVar i) G (.ok d) := EG.fin fun F O H σ Q hf he ko => by
  obtain ⟨a, ks, e, h1, r⟩ := he.at' i _ h
  exact ⟨_, e, ko _ F H (Le.refl F) hf ⟨a, ks, rfl, .inr h1, r⟩⟩
/-- a new dict is let go: data -/
theorem END.toM {t : TE} {m : R (Dc κ α)} (h : END cf E t G m) : EM cf E t G m := fun F O H σ Q hf he nb ko ke => by
  refine h F O H σ Q hf he nb (fun d v F' H' e le hf' hr => ?_) ke
  obtain ⟨a, ks, rfl, hFa, hOa, hHa, r⟩ := hr
  have le2 : Le F' (upd F' a (.dT ks)) := Le.new hFa
  refine ko d _ (upd F' a (.dT ks)) H' e (le.trans le2) ⟨fun b o q => ?_, hf'.o, fun b q => ?_, hf'.nt⟩ (.dct upd_same (r.mono le2))
  · by_cases hb : b = a
    · subst hb
      rw [upd_same] at q
      rw [hHa]
      exact q
    · rw [upd_ne hb] at q
      exact hf'.f b o q
  · by_cases hb : b = a
    · subst hb
      exact hOa
    · rw [upd_ne hb] at q
      exact hf'.ds b q
/-- {} -/
theorem end_nil : END cf E tDNewT G (.ok (⟨[]⟩ : Dc κ α)) := EG.fin fun F O H σ Q hf he ko => fun p hp => ko _ F _ (Le.refl F) (hf.newH hp) ⟨p, [], rfl, hf.fnone hp, hf.onone hp, upd_same, .nil⟩
theorem key_at {F O H : Hp} {s : V} {k : κ} (hf : Fm F O H) (h : Dr cf.K F s (toD k)) : ∃ b, s = .ref b ∧ H b = some (.tup ((kI k).map kV)) := by
  rw [Tk.eq] at h
  obtain ⟨b, vs, e, h1, h2⟩ := dr_tup h
  refine ⟨b, e, ?_⟩
  rw [kI_V, ← ints_of_drA h2]
  exact hf.f _ _ h1
/-- d[k] -/
def dgR (d : Dc κ α) (k : κ) : R α := match getK d.kvs k with
  | some a => .ok a
  | none => .bad
theorem em_dget {m : R (Dc κ α)} {n : R κ} (h : ED cf E ta G m) (h' : EM cf E tb G n) : EM cf E (tDGet ta tb) G (m.bind fun d => n.bind fun k => dgR d k) :=
  EG.bind2 (f := fun (d : Dc κ α) (k : κ) => dgR d k) (u := fun x y H Q => ∃ a v, x = V.ref a ∧ DGet H a y (some v) ∧ Q v H) h h' rd_mono fun F O H Q d r k s hf h1 h2 nb ko => by
    obtain ⟨a, ks, rfl, ha, hr⟩ := h1.at hf
    obtain ⟨b, rfl, hb⟩ := key_at hf h2
    unfold dgR at nb ko
    cases q : getK d.kvs k with
    | none =>
      rw [q] at nb
      exact absurd rfl nb
    | some x =>
      rw [q] at ko
      obtain ⟨v, ev, rv⟩ := drK_some hr q
      exact ⟨a, v, rfl, by rw [← ev]; exact DGet.t ha hb, ko x v F H rfl (Le.refl F) hf rv⟩
/-- k in d -/
theorem em_din {m : R (Dc κ α)} {n : R κ} (h' : EM cf E tb G n) (h : ED cf E ta G m) : EM cf E (tDIn tb ta) G (n.bind fun k => m.bind fun d => .ok (getK d.kvs k).isSome) :=
  EG.bind2 (f := fun (k : κ) (d : Dc κ α) => R.ok (getK d.kvs k).isSome) (u := fun y x H Q => ∃ a o, x = V.ref a ∧ DGet H a y o ∧ Q (V.bl o.isSome) H) h' h rm_mono fun F O H Q k s d r hf h2 h1 nb ko => by
    obtain ⟨a, ks, rfl, ha, hr⟩ := h1.at hf
    obtain ⟨b, rfl, hb⟩ := key_at hf h2
    refine ⟨a, _, rfl, DGet.t ha hb, ?_⟩
    rw [drK_isSome k hr]
    exact ko _ _ F H rfl (Le.refl F) hf (.bl _)
theorem em_dnin {m : R (Dc κ α)} {n : R κ} (h' : EM cf E tb G n) (h : ED cf E ta G m) : EM cf E (tDNotIn tb ta) G (n.bind fun k => m.bind fun d => .ok (!(getK d.kvs k).isSome)) :=
  EG.bind2 (f := fun (k : κ) (d : Dc κ α) => R.ok (!(getK d.kvs k).isSome)) (u := fun y x H Q => ∃ a o, x = V.ref a ∧ DGet H a y o ∧ Q (V.bl (!o.isSome)) H) h' h rm_mono fun F O H Q k s d r hf h2 h1 nb ko => by
    obtain ⟨a, ks, rfl, ha, hr⟩ := h1.at hf
    obtain ⟨b, rfl, hb⟩ := key_at hf h2
    refine ⟨a, _, rfl, DGet.t ha hb, ?_⟩
    rw [drK_isSome k hr]
    exact ko _ _ F H rfl (Le.refl F) hf (.bl _)
/-- d[k] = e, d owned -/
def dpR (d : Dc κ α) (k : κ) (a : α) : R (Dc κ α) := if d.kvs.length ≤ 1000000 then .ok ⟨putD d.kvs k a⟩ else .bad
theorem dpR_nb {d : Dc κ α} {k : κ} {a : α} (h : dpR d k a ≠ .bad) : d.kvs.length ≤ 1000000 ∧ dpR d k a = .ok ⟨putD d.kvs k a⟩ := by
  unfold dpR at *
  split at h
  · rename_i c
    exact ⟨c, if_pos c⟩
  · exact absurd rfl h
theorem sb_dput {i : Nat} {m : R α} {n : R κ} {d : Dc κ α} {f : Dc κ α → R (Fl S ρ)} (h0 : G[i]? = some (.od d.ent)) (h : EM cf E te G m) (hi : EM cf E tk G n) (G' : Dc κ α → List Sl) (hG : ∀ d : Dc κ α, G.set i (.od d.ent) = G' d) (hk : ∀ d, SB cf E u (G' d) enc (f d)) (nv : noVo G = true := by rfl) :
    SB cf E (tSeq (sDPut (tVar i) tk te) u) G enc (m.bind fun a => n.bind fun k => (dpR d k a).bind f) := fun F O H σ D hM nb kn kb kr ke => by
  obtain ⟨O', lo, hf, he, ow⟩ := hM
  obtain ⟨a, ks, eσ, eO, hd⟩ := he.at' i _ h0
  refine h F O' H σ _ hf he (R.bind_nb nb) (fun x v F1 H1 ex le1 hf1 hr => ?_) (fun c p d F' H' e le hf' hd => ke c p d F' H' (by rw [e]; rfl) le (hf'.weak lo) hd)
  rw [ex, R.ok_bind] at nb kn kb kr ke
  refine ⟨_, eσ, ?_⟩
  refine hi F1 O' H1 σ _ hf1 (he.mono le1) (R.bind_nb nb) (fun k w' F' H' ek le2 hf' hw => ?_) (fun c p d F' H' e le hf' hd => ke c p d F' H' (by rw [e]; rfl) (le1.trans le) (hf'.weak lo) hd)
  rw [ek, R.ok_bind] at nb kn kb kr ke
  obtain ⟨c, ec⟩ := dpR_nb (R.bind_nb nb)
  rw [ec, R.ok_bind] at nb kn kb kr ke
  obtain ⟨b, rfl, hb⟩ := key_at hf' hw
  have le := le1.trans le2
  have hd' : DrK cf.K F' ks (d.kvs.map fun p => (Tk.ks p.1, toD p.2)) := hd.mono le
  have hl : ks.length ≤ 1000000 := by
    rw [drK_len hd', List.length_map]
    exact c
  refine ⟨a, _, rfl, DPut.t (hf'.o _ _ eO) hb (sz_ltM hl), ?_⟩
  refine hk _ F' O _ σ D ?_ nb (fun s F'' H'' σ' e le' => kn s F'' H'' σ' e (le.trans le')) (fun s F'' H'' σ' e le' => kb s F'' H'' σ' e (le.trans le')) (fun r v F'' H'' e le' => kr r v F'' H'' e (le.trans le')) fun c p d F'' H'' e le' => ke c p d F'' H'' e (le.trans le')
  rw [← hG]
  exact mt_wr lo hf' (he.mono le) (ow.mono le) nv h0 (.inr ⟨_, rfl⟩) eσ eO (hp := ⟨a, rfl, rfl⟩) (hb := fun _ z => nomatch z) <| ⟨a, _, rfl, upd_same, drK_put hd' (hr.mono le2)⟩
/-- x = a new dict, owned -/
theorem sb_asgD {i : Nat} {m : R (Dc κ α)} {f : Dc κ α → R (Fl S ρ)} (h : END cf E te G m) (G' : Dc κ α → List Sl) (hG : ∀ d : Dc κ α, G.set i (.od d.ent) = G' d) (hk : ∀ d, SB cf E u (G' d) enc (f d)) :
    SB cf E (tSeq (tAsg te (gName i)) u) G enc (m.bind f) :=
  sb_of (k := fun v D σ H => u D (σ.set i (some v)) H) h fun F O O' H σ D d v lo hf he ow hr nb kn kb kr ke => by
    obtain ⟨a, ks, rfl, hF, hO, hH, hd⟩ := hr
    refine hk d F O H _ D ?_ nb kn kb kr ke
    rw [← hG]
    exact mt_new lo hf he ow hF hO hH ⟨a, ks, rfl, upd_same, hd⟩ ⟨a, rfl, rfl⟩ (fun _ z => nomatch z)
/-- an owned dict becomes data -/
theorem sb_frzD {i : Nat} {ds : List (List Int × Dt)} {m : R (Fl S ρ)} (h0 : G[i]? = some (.od ds)) (G' : List Sl) (hG : G.set i (.va (.dct ds)) = G') (h : SB cf E t G' enc m) : SB cf E t G enc m := fun F O H σ D hM nb kn kb kr ke => by
  obtain ⟨O', lo, hf, he, fp, w⟩ := hM
  obtain ⟨a, vs, eσ, eO, hd⟩ := he.at' i _ h0
  have hF : F a = none := hf.own eO
  have hfp : fp i = [a] := by
    have h1 := w.at' i
    rw [h0] at h1
    obtain ⟨b, e1, e2⟩ := h1
    rw [eσ] at e1
    cases e1
    exact e2
  have hOa : O a = none := w.out i a (by rw [hfp]; exact List.mem_singleton.mpr rfl)
  have le : Le F (upd F a (.dT vs)) := Le.new hF
  have hdel : ∀ b o, b ≠ a → O' b = some o → era O' a b = some o := fun b o hb q => by rw [era_ne hb]; exact q
  have lo2 : Le O (era O' a) := fun b x q => hdel b x (ne_of_none q hOa) (lo b x q)
  have nin : ∀ j, j ≠ i → ∀ p, p ∈ fp j → p ≠ a := fun j hj p q z => w.sep j i p hj q (by rw [hfp, z]; exact List.mem_singleton.mpr rfl)
  have hM2 : Mt cf.K (upd F a (.dT vs)) O H σ G' := by
    refine ⟨era O' a, lo2, ⟨fun b x q => ?_, fun b x q => ?_, fun b q => ?_, fun b vs q => ?_⟩, ⟨?_, fun j s e => ?_⟩, fun j => if j = i then [] else fp j, fun j => ?_, fun j p q => ?_, fun j l p hjl q q' => ?_, fun j t e => ?_⟩
    · by_cases hb : b = a
      · subst hb
        rw [upd_same] at q
        rw [hf.o _ _ eO]
        exact q
      · rw [upd_ne hb] at q
        exact hf.f b x q
    · by_cases hb : b = a
      · subst hb
        rw [era_same] at q
        cases q
      · rw [era_ne hb] at q
        exact hf.o b x q
    · by_cases hb : b = a
      · subst hb
        exact era_same
      · rw [upd_ne hb] at q
        rw [era_ne hb]
        exact hf.ds b q
    · by_cases hb : b = a
      · subst hb
        rw [era_same] at q
        cases q
      · rw [era_ne hb] at q
        exact hf.nt b vs q
    · rw [← hG, List.length_set, he.len]
    · rw [← hG] at e
      rcases get_set e with ⟨rfl, rfl, _⟩ | ⟨hj, e⟩
      · exact ⟨_, eσ, .dct upd_same (hd.mono le)⟩
      · have h1 := (he.at' j s e).mono le
        have h2 := w.at' j
        rw [e] at h2
        cases s with
        | un => trivial
        | va d => exact h1
        | pv v => exact h1
        | ol es =>
          obtain ⟨b, ws, e1, e2, e3⟩ := h1
          obtain ⟨b', e4, e5⟩ := h2
          rw [e1] at e4
          cases e4
          exact ⟨b, ws, e1, hdel b _ (nin j (fun z => hj z.symm) b (by rw [e5]; exact List.mem_singleton.mpr rfl)) e2, e3⟩
        | od es =>
          obtain ⟨b, ws, e1, e2, e3⟩ := h1
          obtain ⟨b', e4, e5⟩ := h2
          rw [e1] at e4
          cases e4
          exact ⟨b, ws, e1, hdel b _ (nin j (fun z => hj z.symm) b (by rw [e5]; exact List.mem_singleton.mpr rfl)) e2, e3⟩
        | ow t =>
          obtain ⟨v, e1, e2, _⟩ := h2
          exact ⟨v, fp j, e1, e2.mono le fun p q o z => hdel p o (nin j (fun z => hj z.symm) p q) z⟩
        | bo t => exact ((w.bo j t e).mono le).monoO lo2
        | vo t =>
          obtain ⟨v, fq, e1, e2⟩ := he.at' j _ e
          refine ⟨v, fq, e1, e2.mono le fun p _ o q => ?_⟩
          rcases q with q | q
          · exact .inl (le p o q)
          · by_cases hb : p = a
            · subst hb
              rw [eO] at q
              cases q
              exact .inl upd_same
            · exact .inr (hdel p o hb q)
    · rw [← hG]
      by_cases hj : j = i
      · subst hj
        rw [if_pos rfl, List.getElem?_set_self (List.getElem?_eq_some_iff.mp h0).1]
        rfl
      · rw [if_neg hj, List.getElem?_set_ne (fun z => hj z.symm)]
        exact (w.at' j).mono le fun p q o z => hdel p o (nin j hj p q) z
    · by_cases hj : j = i
      · rw [if_pos hj] at q
        cases q
      · rw [if_neg hj] at q
        exact w.out j p q
    · by_cases hj : j = i
      · rw [if_pos hj] at q
        cases q
      · by_cases hl : l = i
        · rw [if_pos hl] at q'
          cases q'
        · rw [if_neg hj] at q
          rw [if_neg hl] at q'
          exact w.sep j l p hjl q q'
    · rw [← hG] at e
      rcases get_set e with ⟨_, e1, _⟩ | ⟨_, e⟩
      · cases e1
      · exact (w.bo j t e).mono le
  exact h _ O H σ D hM2 nb (fun s F'' H'' σ' e le' => kn s F'' H'' σ' e (le.trans le')) (fun s F'' H'' σ' e le' => kb s F'' H'' σ' e (le.trans le')) (fun r v F'' H'' e le' => kr r v F'' H'' e (le.trans le')) fun c p d F'' H'' e le' => ke c p d F'' H'' e (le.trans le')
end
end
end Kr

/-! KrDb: == of dicts whose keys are tuples, sorted(d), dicts as results. -/
namespace PySem.W
open Lean Elab Tactic Meta PySem PySem.Calls PyProof.Rows PyProof.V PySem.Spec
section
variable {prog : Program} {w : World} {K : Type} [DecidableEq K] {knd : HeapKind prog w K} {A : Around} {E : Value → Shared → Prop} {s : Shared}
inductive HitsH {K : Type} [DecidableEq K] (prog : Program) (w : World) (A : Around) (s : Shared) (ys : List (K × Addr × Value)) : List (K × Addr × Value) → Bool → Prop
  | nil : HitsH prog w A s ys [] true
  | miss {k : K} {p : Addr × Value} {r : List (K × Addr × Value)} : atKey ys k = none → HitsH prog w A s ys ((k, p) :: r) false
  | hit {k : K} {p q : Addr × Value} {r : List (K × Addr × Value)} {e b : Bool} : atKey ys k = some q → SeqAt.EqP prog w A s p.2 q.2 e → HitsH prog w A s ys r b → HitsH prog w A s ys ((k, p) :: r) (e && b)
theorem HitsH.inv {ys : List (K × Addr × Value)} {k : K} {p : Addr × Value} {r : List (K × Addr × Value)} {b : Bool} (h : HitsH prog w A s ys ((k, p) :: r) b) :
    (atKey ys k = none ∧ b = false) ∨ ∃ q e b', atKey ys k = some q ∧ SeqAt.EqP prog w A s p.2 q.2 e ∧ HitsH prog w A s ys r b' ∧ b = (e && b') := by
  cases h with
  | miss hn => exact .inl ⟨hn, rfl⟩
  | hit hy he hr => exact .inr ⟨_, _, _, hy, he, hr, rfl⟩
theorem samePairsH {nm : String} {a b : Addr} {xs ys : List (K × Addr × Value)} {r : Bool} {Q : Bool → Shared → Prop} (ha : (a == sysModules) = false) (hb : (b == sysModules) = false)
    (da : s.heap.DictOfH knd a xs) (db : s.heap.DictOfH knd b ys) (hu : knd.room A) (hits : xs.length = ys.length → HitsH prog w A s ys xs r) (h : Q (xs.length == ys.length && r) s) :
    wpAny (model prog w) A (Builtin.Dict.samePairs nm a b) Q E s := by
  obtain ⟨oa, es, ep, hoa, _, hda, hea, hisa, hna⟩ := da
  obtain ⟨ob, es', ep', hob, _, hdb, heb, hisb, hnb⟩ := db
  have hla : xs.length = es.size := (size_of_entries hea).symm
  have hlb : ys.length = es'.size := (size_of_entries heb).symm
  rw [hla, hlb] at h
  unfold Builtin.Dict.samePairs Builtin.Dict.showsAll
  rw [if_neg (show ¬ (a == sysModules) = true by rw [ha]; exact Bool.false_ne_true), if_neg (show ¬ (b == sysModules) = true by rw [hb]; exact Bool.false_ne_true)]
  refine wpAny_bind (wpAny_pure (wpAny_bind (wpAny_pure ?_)))
  refine wpAny_bind (wpAny_dictEntries hoa hda ?_)
  dsimp only
  refine wpAny_bind (wpAny_dictEntries hob hdb ?_)
  by_cases hsz : es.size = es'.size
  case neg =>
    rw [if_pos (by simpa using hsz)]
    have hbf : (es.size == es'.size) = false := by simpa using hsz
    rw [hbf, Bool.false_and] at h
    exact wpAny_bind (wpAny_rule (wpAny_pure h))
  case pos =>
    have h' : Q r s := by simpa [hsz] using h
    have hits' := hits (by rw [hla, hlb]; exact hsz)
    rw [if_neg (by rw [hsz]; simp)]
    refine wpAny_bind (wpAny_dictEpoch hoa hda ?_)
    refine wpAny_bind ?_
    rw [Std.Legacy.Range.forIn_eq_forIn_range']
    simp only [Std.Legacy.Range.size, Nat.sub_zero, Nat.add_sub_cancel, Nat.div_one]
    refine wpAny_forIn_list _
      (fun rest q s' => s' = s ∧ q = (none, ()) ∧ ∃ i, rest = List.range' i (es.size - i) ∧ i ≤ es.size ∧ HitsH prog w A s ys (xs.drop i) r)
      _ ?_ ?_ _ _ ⟨rfl, rfl, 0, by simp, Nat.zero_le _, hits'⟩
    · rintro x rest q s' ⟨rfl, rfl, i, hr, hi, hpre⟩
      have hlt : i < es.size := by
        rcases Nat.lt_or_ge i es.size with h | h
        · exact h
        · rw [Nat.sub_eq_zero_of_le h] at hr; simp at hr
      obtain ⟨rfl, hrest⟩ : x = i ∧ rest = List.range' (i + 1) (es.size - (i + 1)) := by
        have e : es.size - i = (es.size - (i + 1)) + 1 := by omega
        rw [e, List.range'_succ] at hr
        injection hr with h1 h2
        exact ⟨h1, h2⟩
      refine wpAny_bind (wpAny_dictEntries hoa hda ?_)
      have hlt' : x < xs.length := by rw [hla]; exact hlt
      obtain ⟨⟨k, p⟩, hkv⟩ : ∃ y, xs[x] = y := ⟨_, rfl⟩
      have hxk : xs[x]? = some (k, p) := by rw [List.getElem?_eq_getElem hlt', hkv]
      have hdrop : xs.drop x = (k, p) :: xs.drop (x + 1) := by rw [← hkv]; exact List.drop_eq_getElem_cons hlt'
      have hex : es[x]? = some ⟨knd.hash k, .ref p.1, p.2⟩ := by
        rw [entry_at hea x, hxk]
        rfl
      rw [hex]
      have hka : knd.is s'.heap k p.1 := hisa (k, p) (List.mem_of_getElem? hxk)
      rw [hdrop] at hpre
      dsimp only
      refine wpAny_bind (wpAny_holding (wpAny_bind (wpAny_dictFind_heap hu hka hob hdb heb hisb hnb ?_ ?_)))
      · intro hno
        have hn := atKey_none_of_get hno
        rcases hpre.inv with ⟨_, er⟩ | ⟨q, _, _, hy, _⟩
        · rw [er] at h'
          refine wpAny_pure ?_
          show wpAny _ _ (if (!false) = true then _ else _) _ _ _
          rw [if_pos (by decide)]
          exact wpAny_pure (wpAny_pure h')
        · rw [hn] at hy
          exact nomatch hy
      · intro j q hj
        have hq := atKey_of_get hnb hj
        refine wpAny_bind (wpAny_dictEntries hob hdb ?_)
        have hej : es'[j]? = some ⟨knd.hash k, .ref q.1, q.2⟩ := by
          rw [entry_at heb j, hj]
          rfl
        rw [hej]
        rcases hpre.inv with ⟨hn, _⟩ | ⟨q', e, b', hy, he, hrr, er⟩
        · rw [hq] at hn
          exact nomatch hn
        · have ey : q = q' := Option.some.inj (hq.symm.trans hy)
          rw [← ey] at he
          refine wpAny_holding (he _ _ ?_)
          cases e with
          | false =>
            rw [er, Bool.false_and] at h'
            show wpAny _ _ (if (!false) = true then _ else _) _ _ _
            rw [if_pos (by decide)]
            exact wpAny_pure (wpAny_pure h')
          | true =>
            rw [Bool.true_and] at er
            rw [← er] at hrr
            show wpAny _ _ (if (!true) = true then _ else _) _ _ _
            rw [if_neg (by decide)]
            refine wpAny_bind (wpAny_dictEpoch hoa hda ?_)
            rw [if_neg (by simp)]
            exact wpAny_pure ⟨rfl, rfl, x + 1, hrest, hlt, hrr⟩
    · rintro q s' ⟨rfl, rfl, i, hr, hi, hpre⟩
      have hin : i = es.size := by
        rcases Nat.lt_or_ge i es.size with h | h
        · have e : es.size - i = (es.size - (i + 1)) + 1 := by omega
          rw [e, List.range'_succ] at hr; exact nomatch hr
        · exact Nat.le_antisymm hi h
      refine wpAny_pure ?_
      rw [hin, ← hla, List.drop_length] at hpre
      cases hpre
      exact h'
theorem eqDictsH {a b : Addr} {xs ys : List (K × Addr × Value)} {r : Bool} {Q : Value → Shared → Prop} (ha : (a == sysModules) = false) (hb : (b == sysModules) = false)
    (da : s.heap.DictOfH knd a xs) (db : s.heap.DictOfH knd b ys) (hu : A.units < cLine) (hr : knd.room A.in1) (hits : xs.length = ys.length → HitsH prog w A.in1 s ys xs r) (h : Q (.bool (xs.length == ys.length && r)) s) :
    wpAny (model prog w) A (compareOp .Eq (.ref a) (.ref b)) Q E s := by
  refine wpAny_richCompare_same_room (op := .Eq) da.typeIs db.typeIs PySem.F.slot_dict_eq (wpAny_call_entry PySem.F.slot_dict_eq da.typeIs PySem.F.entry_dict_eq ?_ (PySem.F.args_dict_eq_2 _ _)) hu
  show wpAny _ _ (Builtin.Dict.dictSlotArgs "__eq__" ⟨[.ref a, .ref b], []⟩ >>= _) _ _ s
  refine wpAny_bind ?_
  unfold Builtin.Dict.dictSlotArgs
  refine wpAny_bind (wpAny_notOrdered_dict da.typeIs ?_)
  show wpAny _ _ (pure (Value.ref a, Value.ref b)) _ _ s
  refine wpAny_pure ?_
  refine wpAny_bind (wpAny_isInstance (T := "dict") db.typeIs PySem.F.sub_dict_dict ?_)
  simp only [Bool.not_true, Bool.false_eq_true, if_false]
  refine wpAny_bind (wpAny_pure (wpAny_bind (wpAny_pure ?_)))
  refine wpAny_bind (samePairsH ha hb da db hr hits ?_)
  refine wpAny_pure ⟨_, rfl, ?_, ?_⟩
  · exact fun x => nomatch x
  · simpa using h
theorem neDictsH {a b : Addr} {xs ys : List (K × Addr × Value)} {r : Bool} {Q : Value → Shared → Prop} (ha : (a == sysModules) = false) (hb : (b == sysModules) = false)
    (da : s.heap.DictOfH knd a xs) (db : s.heap.DictOfH knd b ys) (hu : A.units < cLine) (hr : knd.room A.in1) (hits : xs.length = ys.length → HitsH prog w A.in1 s ys xs r) (h : Q (.bool (!(xs.length == ys.length && r))) s) :
    wpAny (model prog w) A (compareOp .NotEq (.ref a) (.ref b)) Q E s := by
  refine wpAny_richCompare_same_room (op := .NotEq) da.typeIs db.typeIs PySem.F.slot_dict_ne (wpAny_call_entry PySem.F.slot_dict_ne da.typeIs PySem.F.entry_dict_ne ?_ (PySem.F.args_dict_ne_2 _ _)) hu
  show wpAny _ _ (Builtin.Dict.dictSlotArgs "__ne__" ⟨[.ref a, .ref b], []⟩ >>= _) _ _ s
  refine wpAny_bind ?_
  unfold Builtin.Dict.dictSlotArgs
  refine wpAny_bind (wpAny_notOrdered_dict da.typeIs ?_)
  show wpAny _ _ (pure (Value.ref a, Value.ref b)) _ _ s
  refine wpAny_pure ?_
  refine wpAny_bind (wpAny_isInstance (T := "dict") db.typeIs PySem.F.sub_dict_dict ?_)
  simp only [Bool.not_true, Bool.false_eq_true, if_false]
  refine wpAny_bind (wpAny_pure (wpAny_bind (wpAny_pure ?_)))
  refine wpAny_bind (samePairsH ha hb da db hr hits ?_)
  refine wpAny_pure ⟨_, rfl, ?_, ?_⟩
  · exact fun x => nomatch x
  · simpa using h
end
end PySem.W
namespace Kr
open PySem PySem.Spec PyProof.Rows L2
open Enc (toD)
/-! ### == of dicts -/
inductive HitsT (K : PySem.W.Frag) (H : Hp) (ls : List (List Key × V)) : List (List Key × V) → Bool → Prop
  | nil : HitsT K H ls [] true
  | miss {k : List Key} {v : V} {r : List (List Key × V)} : valV ls k = none → HitsT K H ls ((k, v) :: r) false
  | hit {k : List Key} {v y : V} {d e : PyData} {r : List (List Key × V)} {b : Bool} : valV ls k = some y → Dp K H v d → Dp K H y e → SeqAt.shaped d = true → SeqAt.shaped e = true → HitsT K H ls r b → HitsT K H ls ((k, v) :: r) (PyData.eqv d e && b)
def rEqDT (K : PySem.W.Frag) : R2 := fun x y H Q => ∃ (a b : Addr) (ks ls : List (List Key × V)) (r : Bool), x = .ref a ∧ y = .ref b ∧ H a = some (.dT ks) ∧ H b = some (.dT ls) ∧ (ks.length = ls.length → HitsT K H ls ks r) ∧ Q (.bl (ks.length == ls.length && r)) H
def rNeDT (K : PySem.W.Frag) : R2 := fun x y H Q => ∃ (a b : Addr) (ks ls : List (List Key × V)) (r : Bool), x = .ref a ∧ y = .ref b ∧ H a = some (.dT ks) ∧ H b = some (.dT ls) ∧ (ks.length = ls.length → HitsT K H ls ks r) ∧ Q (.bl (!(ks.length == ls.length && r))) H
section
variable {X : Cx} {pins : List (Addr × Obj)} {σ : L2.St} {H : Hp} {s : Shared}
theorem hits_of (I : Inv X pins σ H s) {A : Around} (hu : A.in1.units + 64 < cLine) {ls : List (List Key × V)} {ys : List (List Key × Addr × Value)} (ry : KT H ls ys) :
    ∀ {ks : List (List Key × V)} {xs : List (List Key × Addr × Value)} {r : Bool}, KT H ks xs → HitsT X.K H ls ks r → PySem.W.HitsH X.prog X.w A.in1 s ys xs r := by
  intro ks xs r rx
  induction rx generalizing r with
  | nil =>
    intro h
    cases h
    exact .nil
  | @cons p q ps qs hp t ih =>
    obtain ⟨e1, _, e3⟩ := hp
    obtain ⟨k, v⟩ := p
    obtain ⟨k', pq⟩ := q
    cases e1
    intro h
    cases h with
    | miss hn =>
      refine .miss ?_
      have := (ry.val k).isSome_eq
      rw [hn, Option.isSome_map] at this
      cases e : atKey ys k with
      | none => rfl
      | some z => rw [e] at this; cases this
    | hit hy d1 d2 s1 s2 hr =>
      obtain ⟨w', hw, rw'⟩ := RelO.some_of (v := _) (o := (atKey ys k).map (·.2)) (by rw [← hy]; exact ry.val k)
      obtain ⟨z, hz, ez⟩ := Option.map_eq_some_iff.mp hw
      obtain ⟨as, r1⟩ := Dp.reads I _ _ _ d1 e3
      obtain ⟨bs, r2⟩ := Dp.reads I _ _ _ d2 rw'
      refine .hit hz ?_ (ih hr)
      rw [ez]
      exact (PySem.W.keq_at r1 r2 s1 s2 hu).eqP
theorem op_eqDT (hu : X.A.units + 65 < cLine) : OpR X (compareOp .Eq) (rEqDT X.K) := by
  intro pins s σ H x y v u Q I rx ry h
  obtain ⟨a, b, ks, ls, r, rfl, rfl, ha, hb, hits, q⟩ := h
  cases rx
  cases ry
  obtain ⟨_, na, xs, kx, dx⟩ := dt_of I.hok ha
  obtain ⟨_, nb, ys, ky, dy⟩ := dt_of I.hok hb
  have hu1 : X.A.in1.units + 64 < cLine := by show X.A.units + 1 + 64 < cLine; omega
  have el1 := Paired.length kx
  have el2 := Paired.length ky
  refine PySem.W.eqDictsH na nb dx dy (by omega) (tupleKind_room_in1 (by omega)) (fun hl => hits_of I hu1 ky kx (hits (by omega))) ?_
  rw [← el1, ← el2]
  exact ⟨.bl _, H, I, rfl, q⟩
theorem op_neDT (hu : X.A.units + 65 < cLine) : OpR X (compareOp .NotEq) (rNeDT X.K) := by
  intro pins s σ H x y v u Q I rx ry h
  obtain ⟨a, b, ks, ls, r, rfl, rfl, ha, hb, hits, q⟩ := h
  cases rx
  cases ry
  obtain ⟨_, na, xs, kx, dx⟩ := dt_of I.hok ha
  obtain ⟨_, nb, ys, ky, dy⟩ := dt_of I.hok hb
  have hu1 : X.A.in1.units + 64 < cLine := by show X.A.units + 1 + 64 < cLine; omega
  have el1 := Paired.length kx
  have el2 := Paired.length ky
  refine PySem.W.neDictsH na nb dx dy (by omega) (tupleKind_room_in1 (by omega)) (fun hl => hits_of I hu1 ky kx (hits (by omega))) ?_
  rw [← el1, ← el2]
  exact ⟨.bl _, H, I, rfl, q⟩
theorem eqDTK (K : PySem.W.Frag) (h : X.K = K) (hu : X.A.units + 65 < cLine) : OpR X (compareOp .Eq) (rEqDT K) := h ▸ op_eqDT hu
theorem neDTK (K : PySem.W.Frag) (h : X.K = K) (hu : X.A.units + 65 < cLine) : OpR X (compareOp .NotEq) (rNeDT K) := h ▸ op_neDT hu
end
section
variable {κ α : Type} [Enc κ] [Tk κ] [DecidableEq κ] [Enc α] [Eqd α] [DecidableEq α] {cf : Cf} {E : XK} {G : List Sl} {S ρ τ : Type} [Rs ρ] {ta tb te tk : TE} {u : TS} {enc : S → List Sl}
/-- a == b of dicts -/
def eqKV (ys : List (κ × α)) : List (κ × α) → Bool
  | [] => true
  | p :: r => match getK ys p.1 with
    | none => false
    | some y => decide (p.2 = y) && eqKV ys r
def eqDk (a b : Dc κ α) : Bool := (a.kvs.length == b.kvs.length) && eqKV b.kvs a.kvs
theorem eqv_dec (a b : α) : PyData.eqv (toD a).py (toD b).py = decide (a = b) := by
  by_cases e : a = b
  · rw [decide_eq_true e]
    exact (Eqd.ev a b).mpr e
  · rw [decide_eq_false e]
    cases q : PyData.eqv (toD a).py (toD b).py with
    | false => rfl
    | true => exact absurd ((Eqd.ev a b).mp q) e
theorem hitsT_of (hn : (inferInstance : Eqd α).n ≤ 64) {F H : Hp} (le : Le F H) {ls : List (List Key × V)} {ys : List (κ × α)} (hy : DrK cf.K F ls (ys.map fun p => (Tk.ks p.1, toD p.2))) :
    ∀ {ks : List (List Key × V)} {xs : List (κ × α)}, DrK cf.K F ks (xs.map fun p => (Tk.ks p.1, toD p.2)) → HitsT cf.K H ls ks (eqKV ys xs)
  | ks, [], h => by
    cases h
    exact .nil
  | ks, p :: r, h => by
    have h : DrK cf.K F ks ((Tk.ks p.1, toD p.2) :: r.map fun p => (Tk.ks p.1, toD p.2)) := h
    have sh : ∀ a : α, SeqAt.shaped (toD a).py = true := fun a => by
      unfold SeqAt.shaped
      rw [Eqd.lay a, Bool.true_and]
      exact decide_eq_true (Nat.le_trans (Eqd.dp a) hn)
    cases h with
    | @cons _ v _ ks' _ h1 h2 =>
      have ih := hitsT_of hn le hy h2
      unfold eqKV
      cases e : getK ys p.1 with
      | none => exact .miss (drK_none hy e)
      | some y =>
        obtain ⟨v', ev, rv⟩ := drK_some hy e
        show HitsT cf.K H ls _ (decide (p.2 = y) && eqKV ys r)
        rw [← eqv_dec]
        exact .hit ev (h1.dp le (Eqd.nd _)) (rv.dp le (Eqd.nd _)) (sh _) (sh _) ih
theorem em_eqDT {m n : R (Dc κ α)} (h : ED cf E ta G m) (h' : ED cf E tb G n) (hn : (inferInstance : Eqd α).n ≤ 64 := by decide) : EM cf E (tOp (rEqDT cf.K) ta tb) G (m.bind fun a => n.bind fun b => .ok (eqDk a b)) :=
  EG.bind2 (f := fun (a b : Dc κ α) => R.ok (eqDk a b)) (u := fun x y H Q => rEqDT cf.K x y H Q) h h' rd_mono fun F O H Q a r b s hf h1 h2 nb ko => by
    obtain ⟨p, ks, rfl, hp, hr⟩ := h1.at hf
    obtain ⟨q, ls, rfl, hq, hs⟩ := h2.at hf
    refine ⟨p, q, ks, ls, eqKV b.kvs a.kvs, rfl, rfl, hp, hq, fun _ => hitsT_of hn hf.f hs hr, ?_⟩
    rw [drK_len hr, drK_len hs, List.length_map, List.length_map]
    exact ko _ _ F H rfl (Le.refl F) hf (.bl _)
theorem em_neDT {m n : R (Dc κ α)} (h : ED cf E ta G m) (h' : ED cf E tb G n) (hn : (inferInstance : Eqd α).n ≤ 64 := by decide) : EM cf E (tOp (rNeDT cf.K) ta tb) G (m.bind fun a => n.bind fun b => .ok (!eqDk a b)) :=
  EG.bind2 (f := fun (a b : Dc κ α) => R.ok (!eqDk a b)) (u := fun x y H Q => rNeDT cf.K x y H Q) h h' rd_mono fun F O H Q a r b s hf h1 h2 nb ko => by
    obtain ⟨p, ks, rfl, hp, hr⟩ := h1.at hf
    obtain ⟨q, ls, rfl, hq, hs⟩ := h2.at hf
    refine ⟨p, q, ks, ls, eqKV b.kvs a.kvs, rfl, rfl, hp, hq, fun _ => hitsT_of hn hf.f hs hr, ?_⟩
    rw [drK_len hr, drK_len hs, List.length_map, List.length_map]
    exact ko _ _ F H rfl (Le.refl F) hf (.bl _)
end
/-! ### dicts as results -/
/-- a new dict -/
structure Nd (κ α : Type) where
  d : Dc κ α
section
variable {κ α : Type} [Enc κ] [Tk κ] [DecidableEq κ] [Enc α] {cf : Cf} {E : XK} {G : List Sl} {S : Type} {ta tb te tk : TE} {u : TS} {enc : S → List Sl}
instance : Rs (Nd κ α) := ⟨fun cf F O H v a => RND cf F O H v a.d⟩
theorem END.of {t : TE} {m : R (Nd κ α)} (h : EG cf E t G m fun F O H v a => Rs.res cf F O H v a) : END cf E t G (m.bind fun a => .ok a.d) := fun F O H σ Q hf he nb ko ke =>
  h F O H σ Q hf he (R.bind_nb nb) (fun a v F' H' e le hf' hr => ko a.d v F' H' (by rw [e]; rfl) le hf' hr) fun c p d F' H' e => ke c p d F' H' (by rw [e]; rfl)
/-- return x, an owned dict -/
theorem sb_retD {i : Nat} {d : Dc κ α} (h0 : G[i]? = some (.od d.ent)) : SB cf E (tRet (tVar i)) G enc (.ok (.rt ⟨d⟩) : R (Fl S (Nd κ α))) := fun F O H σ D hM nb kn kb kr ke => by
  have hfm := hM.fm
  obtain ⟨O', lo, hf, he, fp, w⟩ := hM
  obtain ⟨a, ks, eσ, eO, hd⟩ := he.at' i _ h0
  have hfp : fp i = [a] := by
    have h1 := w.at' i
    rw [h0] at h1
    obtain ⟨b, e1, e2⟩ := h1
    rw [eσ] at e1
    cases e1
    exact e2
  have hOa : O a = none := w.out i a (by rw [hfp]; exact List.mem_singleton.mpr rfl)
  exact ⟨_, eσ, kr ⟨d⟩ _ F H rfl (Le.refl F) hfm ⟨a, ks, rfl, hf.own eO, hOa, hf.o _ _ eO, hd⟩⟩
theorem sb_retD2 {i : Nat} {d : Dc κ α} (h0 : G[i]? = some (.od d.ent)) : SB cf E (tSeq (tRet (tVar i)) u) G enc (.ok (.rt ⟨d⟩) : R (Fl S (Nd κ α))) := fun F O H σ D hM nb kn kb kr ke => sb_retD (enc := enc) h0 F O H σ D hM nb kn kb kr ke
end
end Kr

/-! KrDc: comprehensions with two fors. -/
namespace Kr
open PySem PySem.Spec PyProof.Rows L2
open Enc (toD)
section
variable {cf : Cf} {E : XK} {G : List Sl} {α β γ : Type}
def comp2R (ft : α → R Bool) (mi : α → R (List β)) (ft1 : α → β → R Bool) (fe : α → β → R γ) : List α → R (List γ)
  | [] => .ok []
  | x :: r => (ft x).pu.bind fun b => if b = true then (mi x).pu.bind fun ys => (compR (ft1 x) (fe x) ys).bind fun zs => (comp2R ft mi ft1 fe r).bind fun us => .ok (zs ++ us) else comp2R ft mi ft1 fe r
def lc2R (ft : α → R Bool) (mi : α → R (List β)) (ft1 : α → β → R Bool) (fe : α → β → R γ) (xs : List α) : R (List γ) := (comp2R ft mi ft1 fe xs).bind szR
theorem wipe_wipe (vs : List Nat) (σ : L2.St) : wipe (wipe σ vs) vs = wipe σ vs := by
  have key : ∀ (us : List Nat), (∀ u ∈ us, u ∈ vs) → wipe (wipe σ us) vs = wipe σ vs := by
    intro us
    induction us with
    | nil => intro _; rfl
    | cons u us ih =>
      intro hu
      show wipe ((wipe σ us).set u none) vs = wipe σ vs
      rw [wipe_set (hu u (by simp)), ih fun z hz => hu z (by simp [hz])]
  exact key vs fun u hu => hu
theorem ef_lc2 [Enc α] [Enc β] [Enc γ] {wi wi1 : TI} {g g1 : TG} {tt tt1 : TT} {te : TE} {vs vs1 js js1 : List Nat} {m : R (List α)} {ft : α → R Bool} {mi : α → R (List β)} {ft1 : α → β → R Bool} {fe : α → β → R γ} {up : α → List Sl → List Sl} {up1 : β → List Sl → List Sl} {Gi : α → List Sl} {Gj : α → β → List Sl}
    (hi : IG cf E wi G m) (hg : AG cf g up js) (hj : ∀ j ∈ js, j ∈ vs) (hG : ∀ a, up a (wipeG G vs) = Gi a) (ht : ∀ a, EB cf E0 tt (Gi a) (ft a))
    (hi1 : ∀ a, IG cf E0 wi1 (Gi a) (mi a)) (hg1 : AG cf g1 up1 js1) (hj1 : ∀ j ∈ js1, j ∈ vs1) (hG1 : ∀ a b, up1 b (wipeG (Gi a) vs1) = Gj a b) (ht1 : ∀ a b, EB cf E0 tt1 (Gj a b) (ft1 a b)) (he : ∀ a b, EM cf E0 te (Gj a b) (fe a b)) :
    EF cf E (tLc2 wi g tt wi1 g1 tt1 te vs vs1) G (m.bind (lc2R ft mi ft1 fe)) := fun F O H σ Q hf hE nb ko ke =>
  hi F O H σ _ hf hE (R.bind_nb nb) (fun xs J F1 H1 em le1 hf1 hJ D hD => by
    rw [em, R.ok_bind] at nb ko
    have nb0 := R.bind_nb nb
    have htot : ∃ tot, comp2R ft mi ft1 fe xs = .ok tot := by
      cases q : comp2R ft mi ft1 fe xs with
      | ok tot => exact ⟨tot, rfl⟩
      | bad => exact absurd q nb0
      | er c p =>
        have : ∀ ys : List α, comp2R ft mi ft1 fe ys ≠ .er c p := by
          intro ys
          induction ys with
          | nil => intro z; cases z
          | cons y r ih =>
            intro z
            have z : ((ft y).pu.bind fun b => if b = true then (mi y).pu.bind fun ys => (compR (ft1 y) (fe y) ys).bind fun zs => (comp2R ft mi ft1 fe r).bind fun us => R.ok (zs ++ us) else comp2R ft mi ft1 fe r) = .er c p := z
            have ce : ∀ zs : List β, compR (ft1 y) (fe y) zs ≠ .er c p := by
              intro zs
              induction zs with
              | nil => intro z; cases z
              | cons u s ih2 =>
                intro z
                have z : ((ft1 y u).pu.bind fun b => if b = true then (fe y u).pu.bind fun v => (compR (ft1 y) (fe y) s).bind fun ys => R.ok (v :: ys) else compR (ft1 y) (fe y) s) = .er c p := z
                cases q1 : ft1 y u with
                | er c' p' => rw [q1] at z; cases z
                | bad => rw [q1] at z; cases z
                | ok b =>
                  rw [q1, R.ok_pu, R.ok_bind] at z
                  cases b with
                  | false => exact ih2 z
                  | true =>
                    rw [if_pos rfl] at z
                    cases q2 : fe y u with
                    | er c' p' => rw [q2] at z; cases z
                    | bad => rw [q2] at z; cases z
                    | ok v =>
                      rw [q2, R.ok_pu, R.ok_bind] at z
                      cases q3 : compR (ft1 y) (fe y) s with
                      | ok w => rw [q3] at z; cases z
                      | bad => rw [q3] at z; cases z
                      | er c' p' => rw [q3] at z; cases z; exact ih2 q3
            cases q1 : ft y with
            | er c' p' => rw [q1] at z; cases z
            | bad => rw [q1] at z; cases z
            | ok b =>
              rw [q1, R.ok_pu, R.ok_bind] at z
              cases b with
              | false => exact ih z
              | true =>
                rw [if_pos rfl] at z
                cases q2 : mi y with
                | er c' p' => rw [q2] at z; cases z
                | bad => rw [q2] at z; cases z
                | ok v =>
                  rw [q2, R.ok_pu, R.ok_bind] at z
                  cases q3 : compR (ft1 y) (fe y) v with
                  | bad => rw [q3] at z; cases z
                  | er c' p' => rw [q3] at z; cases z; exact ce v q3
                  | ok w =>
                    rw [q3, R.ok_bind] at z
                    cases q4 : comp2R ft mi ft1 fe r with
                    | ok w => rw [q4] at z; cases z
                    | bad => rw [q4] at z; cases z
                    | er c' p' => rw [q4] at z; cases z; exact ih q4
        exact absurd q (this xs)
    obtain ⟨tot, etot⟩ := htot
    have elc : lc2R ft mi ft1 fe xs = szR tot := by
      unfold lc2R
      rw [etot, R.ok_bind]
    rw [elc] at nb ko
    obtain ⟨hz, ez⟩ := szR_nb nb
    rw [ez] at ko
    clear nb nb0 elc ez
    have hE1 : Er cf.K F1 O σ G := hE.mono le1
    let W : Nat → Nat → Hp → Prop := fun i mm H => mm = xs.length - i ∧ i ≤ xs.length ∧ ∃ (F2 : Hp) (ws : List V) (acc : List γ), Le F1 F2 ∧ Fm F2 (upd O D (.lst ws)) H ∧ DrA cf.K F2 ws (acc.map toD) ∧ (comp2R ft mi ft1 fe (xs.drop i)).bind (fun ys => .ok (acc ++ ys)) = .ok tot
    refine ⟨W, ⟨xs.length, by simp, Nat.zero_le _, F1, [], [], Le.refl F1, hf1.newO hD, .nil, by rw [List.drop_zero, etot]; rfl⟩, ?_⟩
    rintro i mm H2 ⟨rfl, hi, F2, ws, acc, le2, hf2, hd, tt2⟩
    have hO1 : O D = none := hf1.onone hD
    have leO : ∀ ws, Le O (upd O D (.lst ws)) := fun ws => Le.new hO1
    by_cases hlt : i < xs.length
    · have hx : xs[i]? = some xs[i] := List.getElem?_eq_getElem hlt
      rw [List.drop_eq_getElem_cons hlt] at tt2
      have nbc : comp2R ft mi ft1 fe (xs[i] :: xs.drop (i + 1)) ≠ .bad := fun z => by rw [z] at tt2; cases tt2
      obtain ⟨b, eb⟩ := pu_nb (R.bind_nb nbc)
      obtain ⟨hgo, hyl⟩ := (hJ i F2 (upd O D (.lst ws)) H2 le2 hf2).1 _ hx
      refine .inr ⟨hgo, fun H' => W (i + 1) (xs.length - (i + 1)) H', fun H' h' => ⟨_, by omega, h'⟩, fun v H3 hy => ?_⟩
      obtain ⟨F3, le3, hf3, hv⟩ := hyl v H3 hy
      refine hg F3 O H3 _ _ v xs[i] _ (hf3.weak (leO ws)) (er_wipe (hE1.mono (le2.trans le3)) vs) hv fun σ2 e20 _ w2 => ⟨?_, ?_⟩
      · rw [w2 vs hj]
        exact wipe_wipe vs σ
      · rw [hG] at e20
        have e2 := e20.monoO (leO ws)
        refine ht xs[i] F3 _ H3 σ2 _ hf3 e2 (by rw [eb]; intro z; cases z) (fun b' r F4 H4 eb' le4 hf4 hr => ?_) (fun c p d F4 H4 e => by rw [eb] at e; cases e)
        rw [eb] at eb'
        cases eb'
        obtain rfl : r = b := hr
        rw [show comp2R ft mi ft1 fe (xs[i] :: xs.drop (i + 1)) = (ft xs[i]).pu.bind fun b => if b = true then (mi xs[i]).pu.bind fun ys => (compR (ft1 xs[i]) (fe xs[i]) ys).bind fun zs => (comp2R ft mi ft1 fe (xs.drop (i + 1))).bind fun us => .ok (zs ++ us) else comp2R ft mi ft1 fe (xs.drop (i + 1)) from rfl, eb, R.ok_pu, R.ok_bind] at tt2 nbc
        cases r with
        | false =>
          rw [if_neg Bool.false_ne_true] at tt2
          rw [if_neg Bool.false_ne_true]
          exact ⟨rfl, hlt, F4, ws, acc, (le2.trans le3).trans le4, hf4, hd.mono (le3.trans le4), tt2⟩
        | true =>
          rw [if_pos rfl] at tt2 nbc
          rw [if_pos rfl]
          obtain ⟨ys, ey⟩ := pu_nb (R.bind_nb nbc)
          refine hi1 xs[i] F4 _ H4 σ2 _ hf4 (e2.mono le4) (by rw [ey]; intro z; cases z) (fun ys' J1 F5 H5 ey' le5 hf5 hJ1 => ?_) (fun c p d F5 H5 e => by rw [ey] at e; cases e)
          rw [ey] at ey'
          cases ey'
          rw [ey, R.ok_pu, R.ok_bind] at tt2
          have le15 := (((le2.trans le3).trans le4).trans le5)
          let rest := comp2R ft mi ft1 fe (xs.drop (i + 1))
          let W1 : Nat → Nat → Hp → Prop := fun j k H => k = ys.length - j ∧ j ≤ ys.length ∧ ∃ (F6 : Hp) (ws : List V) (acc : List γ), Le F5 F6 ∧ Fm F6 (upd O D (.lst ws)) H ∧ DrA cf.K F6 ws (acc.map toD) ∧ (compR (ft1 xs[i]) (fe xs[i]) (ys.drop j)).bind (fun zs => rest.bind fun us => .ok (acc ++ (zs ++ us))) = .ok tot
          refine ⟨W1, ⟨ys.length, by simp, Nat.zero_le _, F5, ws, acc, Le.refl F5, hf5, hd.mono ((le3.trans le4).trans le5), ?_⟩, ?_⟩
          · rw [List.drop_zero, ← tt2, R.bind_bind]
            congr 1
            funext zs
            rw [R.bind_bind]
            rfl
          rintro j k H6 ⟨rfl, hjl, F6, ws', acc', le6, hf6, hd6, tt6⟩
          by_cases hlt1 : j < ys.length
          · have hy1 : ys[j]? = some ys[j] := List.getElem?_eq_getElem hlt1
            rw [List.drop_eq_getElem_cons hlt1] at tt6
            have nbd : compR (ft1 xs[i]) (fe xs[i]) (ys[j] :: ys.drop (j + 1)) ≠ .bad := fun z => by rw [z] at tt6; cases tt6
            obtain ⟨b1, eb1⟩ := pu_nb (R.bind_nb nbd)
            obtain ⟨hgo1, hyl1⟩ := (hJ1 j F6 (upd O D (.lst ws')) H6 le6 hf6).1 _ hy1
            refine .inr ⟨hgo1, fun H' => W1 (j + 1) (ys.length - (j + 1)) H', fun H' h' => ⟨_, by omega, h'⟩, fun v1 H7 hyv => ?_⟩
            obtain ⟨F7, le7, hf7, hv7⟩ := hyl1 v1 H7 hyv
            have e2' : Er cf.K F7 (upd O D (.lst ws')) σ2 (Gi xs[i]) := (e20.mono ((le4.trans le5).trans (le6.trans le7))).monoO (leO ws')
            refine hg1 F7 _ H7 _ _ v1 ys[j] _ hf7 (er_wipe e2' vs1) hv7 fun σ3 e3 _ w3 => ⟨?_, ?_⟩
            · rw [w3 vs1 hj1]
              exact wipe_wipe vs1 σ2
            · rw [hG1] at e3
              refine ht1 xs[i] ys[j] F7 _ H7 σ3 _ hf7 e3 (by rw [eb1]; intro z; cases z) (fun b' r F8 H8 eb' le8 hf8 hr => ?_) (fun c p d F8 H8 e => by rw [eb1] at e; cases e)
              rw [eb1] at eb'
              cases eb'
              obtain rfl : r = b1 := hr
              rw [show compR (ft1 xs[i]) (fe xs[i]) (ys[j] :: ys.drop (j + 1)) = (ft1 xs[i] ys[j]).pu.bind fun b => if b = true then (fe xs[i] ys[j]).pu.bind fun y => (compR (ft1 xs[i]) (fe xs[i]) (ys.drop (j + 1))).bind fun ys => .ok (y :: ys) else compR (ft1 xs[i]) (fe xs[i]) (ys.drop (j + 1)) from rfl, eb1, R.ok_pu, R.ok_bind] at tt6 nbd
              cases r with
              | false =>
                rw [if_neg Bool.false_ne_true] at tt6
                rw [if_neg Bool.false_ne_true]
                exact ⟨rfl, hlt1, F8, ws', acc', (le6.trans le7).trans le8, hf8, hd6.mono (le7.trans le8), tt6⟩
              | true =>
                rw [if_pos rfl] at tt6 nbd
                rw [if_pos rfl]
                obtain ⟨y, eyy⟩ := pu_nb (R.bind_nb nbd)
                refine he xs[i] ys[j] F8 _ H8 σ3 _ hf8 (e3.mono le8) (by rw [eyy]; intro z; cases z) (fun y' u F9 H9 ey' le9 hf9 hu => ?_) (fun c p d F9 H9 e => by rw [eyy] at e; cases e)
                rw [eyy] at ey'
                cases ey'
                rw [eyy, R.ok_pu, R.ok_bind] at tt6
                have hla : acc'.length ≤ tot.length := by
                  cases q1 : compR (ft1 xs[i]) (fe xs[i]) (ys.drop (j + 1)) with
                  | er c p => rw [q1] at tt6; cases tt6
                  | bad => rw [q1] at tt6; cases tt6
                  | ok zs =>
                    rw [q1, R.ok_bind, R.ok_bind] at tt6
                    cases q2 : rest with
                    | er c p => rw [q2] at tt6; cases tt6
                    | bad => rw [q2] at tt6; cases tt6
                    | ok us =>
                      rw [q2, R.ok_bind] at tt6
                      rw [← R.ok.inj tt6, List.length_append]
                      omega
                refine ⟨ws', hf9.o D _ upd_same, ?_, rfl, hlt1, F9, ws' ++ [u], acc' ++ [y], ((le6.trans le7).trans le8).trans le9, ?_, ?_, ?_⟩
                · rw [hd6.length, List.length_map]
                  exact sz_ltM (by omega)
                · have q := hf9.wr (o := .lst (ws' ++ [u])) upd_same
                  rw [upd_upd] at q
                  exact q
                · rw [List.map_append]
                  exact (hd6.mono ((le7.trans le8).trans le9)).append (.cons hu .nil)
                · rw [← tt6, R.bind_bind]
                  congr 1
                  funext zs
                  rw [R.ok_bind]
                  congr 1
                  funext us
                  simp only [List.append_assoc, List.cons_append, List.nil_append]
          · have e : j = ys.length := by omega
            subst e
            rw [List.drop_length] at tt6
            refine .inl ⟨(hJ1 _ F6 (upd O D (.lst ws')) H6 le6 hf6).2 (Nat.le_refl _), rfl, hlt, F6, ws', acc', le15.trans le6, hf6, hd6, ?_⟩
            rw [← tt6]
            rfl
    · have e : i = xs.length := by omega
      subst e
      rw [List.drop_length] at tt2
      have tot2 : acc = tot := by
        have := R.ok.inj (show R.ok (acc ++ []) = R.ok tot from tt2)
        rwa [List.append_nil] at this
      have hFD : F2 D = none := hf2.own (o := .lst ws) upd_same
      exact .inl ⟨(hJ _ F2 (upd O D (.lst ws)) H2 le2 hf2).2 (Nat.le_refl _), ko tot _ F2 H2 rfl (le1.trans le2) (hf2.weak (leO ws)) ⟨D, ws, rfl, hFD, hO1, hf2.o D _ upd_same, by rw [← tot2]; exact hd⟩⟩) fun c p d F' H' e => ke c p d F' H' (by rw [e]; rfl)
end
/-! ### a < b of lists of ints -/
def ltLx : List Int → List Int → Bool
  | [], [] => false
  | [], _ :: _ => true
  | _ :: _, [] => false
  | x :: xs, y :: ys => if x = y then ltLx xs ys else decide (x < y)
open PySem.SeqAt in
theorem firstLt_map (e r : Nat → Bool) (fin : Bool) : ∀ l : List Nat, firstLt e r fin (l.map Nat.succ) = firstLt (fun j => e (j + 1)) (fun j => r (j + 1)) fin l
  | [] => rfl
  | j :: l => by
    rw [List.map_cons]
    unfold firstLt
    rw [firstLt_map e r fin l]
open PySem.SeqAt in
theorem ltLx_first : ∀ ns ms : List Int, firstLt (fun j => ns.getD j 0 == ms.getD j 0) (fun j => decide (ns.getD j 0 < ms.getD j 0)) (decide (ns.length < ms.length)) (List.range (min ns.length ms.length)) = ltLx ns ms
  | [], [] => rfl
  | [], y :: ys => by
    rw [List.length_nil, Nat.zero_min, List.length_cons]
    show decide (0 < ys.length + 1) = true
    exact decide_eq_true (by omega)
  | x :: xs, [] => by
    rw [List.length_nil, Nat.min_zero, List.length_cons]
    show decide (xs.length + 1 < 0) = false
    exact decide_eq_false (by omega)
  | x :: xs, y :: ys => by
    have ih := ltLx_first xs ys
    rw [List.length_cons, List.length_cons, Nat.succ_min_succ, List.range_succ_eq_map]
    unfold firstLt ltLx
    rw [firstLt_map]
    have e0 : (x :: xs).getD 0 0 = x := rfl
    have e1 : (y :: ys).getD 0 0 = y := rfl
    rw [e0, e1, ← ih]
    by_cases c : x = y
    · rw [if_pos (by rw [c]; exact beq_self_eq_true y), if_pos c]
      have : decide (xs.length + 1 < ys.length + 1) = decide (xs.length < ys.length) := by
        by_cases q : xs.length < ys.length
        · rw [decide_eq_true q, decide_eq_true (by omega)]
        · rw [decide_eq_false q, decide_eq_false (by omega)]
      rw [this]
      rfl
    · rw [if_neg (by rw [beq_iff_eq]; exact c), if_neg c]
def ltLI (ns ms : List Int) : R Bool := .ok (ltLx ns ms)
def rLtL (K : PySem.W.Frag) : R2 := fun x y H Q => ∃ a b ns ms, x = .ref a ∧ y = .ref b ∧ SqL K H a (ns.map V.int) ∧ SqL K H b (ms.map V.int) ∧ Q (.bl (ltLx ns ms)) H
section
variable {X : Cx}
theorem intsAt {ns : List Int} {its : List Value} (r : Vals (ns.map V.int) its) (j : Nat) (h : j < its.toArray.size) : ∃ t, its.toArray[j] = .int (ns.getD j 0) t := by
  have hl : its.length = ns.length := by rw [← r.length, List.length_map]
  have hj : j < its.length := by rwa [List.size_toArray] at h
  obtain ⟨u, h1, h2⟩ := r.get (i := j) (x := V.int (ns.getD j 0)) (by
    rw [List.getElem?_map, List.getElem?_eq_getElem (by omega), List.getD_eq_getElem?_getD, List.getElem?_eq_getElem (by omega)]
    rfl)
  obtain ⟨t, rfl⟩ := h2
  refine ⟨t, ?_⟩
  rw [List.getElem_toArray]
  rw [List.getElem?_eq_getElem hj] at h1
  exact Option.some.inj h1
theorem op_ltLI (hu : X.A.units + 64 < cLine) : OpR X (compareOp .Lt) (rLtL X.K) := by
  intro pins s σ H x y v u Q I rx ry h
  obtain ⟨a, b, ns, ms, rfl, rfl, ha, hb, q⟩ := h
  cases rx
  cases ry
  obtain ⟨its, r1, l1, _⟩ := I.list ha
  obtain ⟨its2, r2, l2, _⟩ := I.list hb
  have e1 : its.toArray.size = ns.length := by rw [List.size_toArray, ← r1.length, List.length_map]
  have e2 : its2.toArray.size = ms.length := by rw [List.size_toArray, ← r2.length, List.length_map]
  refine PySem.SeqAt.RcLt.lists (e := fun j => ns.getD j 0 == ms.getD j 0) (r := fun j => decide (ns.getD j 0 < ms.getD j 0)) l1.isList l2.isList (by omega) (fun j h1 h2 => ?_) (fun j h1 h2 _ => ?_) X.prog X.w X.xe _ ?_
  · obtain ⟨t, et⟩ := intsAt r1 j h1
    obtain ⟨t', et'⟩ := intsAt r2 j h2
    rw [et, et']
    exact PySem.SeqAt.EqAt.int_int _ _ _ _
  · obtain ⟨t, et⟩ := intsAt r1 j h1
    obtain ⟨t', et'⟩ := intsAt r2 j h2
    rw [et, et']
    intro prog w E Q hq
    exact wpAny_lt_int hq
  · rw [e1, e2, ltLx_first]
    exact ⟨.bl _, H, I, rfl, q⟩
theorem ltLIK (K : PySem.W.Frag) (h : X.K = K) (hu : X.A.units + 64 < cLine) : OpR X (compareOp .Lt) (rLtL K) := h ▸ op_ltLI hu
end
section
variable {cf : Cf} {E : XK} {G : List Sl} {ta tb : TE}
/-- lists of ints, owned or not, that are read -/
theorem em_ltLI {m n : R (List Int)} (h : EL cf E ta G m) (h' : EL cf E tb G n) : EM cf E (tOp (rLtL cf.K) ta tb) G (m.bind fun a => n.bind fun b => ltLI a b) :=
  EG.bind2 (f := fun (a b : List Int) => ltLI a b) (u := fun x y H Q => rLtL cf.K x y H Q) h h' rl_mono fun F O H Q a r b s hf h1 h2 nb ko => by
    obtain ⟨p, vs, rfl, hp, hr⟩ := RL.at h1 hf
    obtain ⟨q, ws, rfl, hq, hs⟩ := RL.at h2 hf
    have e1 : vs = a.map V.int := ints_of_drA hr
    have e2 : ws = b.map V.int := ints_of_drA hs
    subst e1
    subst e2
    exact ⟨p, q, a, b, rfl, rfl, SqL.of hp, SqL.of hq, ko _ _ F H rfl (Le.refl F) hf (.bl _)⟩
end
end Kr

/-! KrDd: sorted(d), {k: v} with a tuple as key. -/
namespace Kr
open PySem PySem.Spec PyProof.Rows L2
open Enc (toD)
/-! ### sorted(d) -/
def rSortedDT (K : PySem.W.Frag) : List V → Hp → VK → Prop := fun vs H Q => ∃ (a : Addr) (kvs : List (List Key × V)) (es : List (List Int)), vs = [V.ref a] ∧ H a = some (.dT kvs) ∧ kvs.map (·.1) = es.map (List.map Sum.inl) ∧
  PySem.W.AllAlike (es.map fun ns => PyData.tuple (ns.map .int)) ∧ PySem.W.Sortable (es.map fun ns => PyData.tuple (ns.map .int)) ∧
  ∀ (bs : List Addr) (p : Addr), IsKeys H kvs bs → H p = none → Q (.ref p) (upd H p (.lst (((bs.zip (es.map fun ns => PyData.tuple (ns.map .int))).mergeSort (PySem.W.dataLe false fun z : Addr × PyData => z.2)).map fun z => V.ref z.1)))
theorem cr_sortedDT {X : Cx} (hc : X.calm = true) (hu : X.A.units + 64 < cLine) : CallR X (.builtin "sorted") (rSortedDT X.K) := by
  intro pins s σ H vs us Q I r h
  obtain ⟨d, kvs, es, rfl, hd, hes, hal, hso, q⟩ := h
  obtain ⟨u, rfl, rx⟩ := r.one
  cases rx
  obtain ⟨z, lo, ks, pr, o, es', ep, ho, hx, hdt, he, hn⟩ := (show ObjOk X.prog X.w H s.heap d (.dT kvs) from I.hok d _ hd)
  have l1 : es'.size = ks.length := size_of_entries he
  have l2 : kvs.length = ks.length := Paired.length pr
  have l3 : es.length = kvs.length := by
    have := congrArg List.length hes
    rw [List.length_map, List.length_map] at this
    exact this.symm
  refine Calls.call_function_entry PyProof.Rows.kind_sorted PyProof.Rows.plain_sorted PyProof.Rows.entry_sorted (PyProof.Rows.args_sorted1 _) ?_
  unfold Builtin.«sorted»
  refine wpAny_bind (m := checkCount "sorted" 1 1 _) (wpAny_pure ?_)
  refine wpAny_bind (PySem.W.kdu_collect (A := X.A.in1) (kdl_raw lo hx hdt) (I.ok.hd hc) ho (by omega) fun h' tk acc hk it => ?_)
  have ea : acc.toList = ks.map fun x => Value.ref x.2.1 := by
    have hl : acc.toList.length = ks.length := by rw [Array.length_toList, it.1]; exact l1
    apply List.ext_getElem?
    intro j
    rw [List.getElem?_map]
    cases hj : acc.toList[j]? with
    | none =>
      have h1 := List.getElem?_eq_none_iff.mp hj
      rw [List.getElem?_eq_none (by omega)]
      all_goals rfl
    | some v =>
      obtain ⟨en, hen, hv⟩ := it.2 j v (by rw [← Array.getElem?_toList]; exact hj)
      have qe := entry_at he j
      rw [hen] at qe
      cases hb : ks[j]? with
      | none =>
        rw [hb] at qe
        exact nomatch (show some en = none from qe)
      | some b =>
        rw [hb] at qe
        have e2 : en = entryOfKey (tupleKind (mixKind X.prog X.w)) b := Option.some.inj qe
        rw [hv, e2]
        all_goals rfl
  have I1 : Inv X pins σ H { s with heap := h', toks := tk } := I.kept hk
  generalize hbs : ks.map (fun x => x.2.1) = bs at *
  have eb : acc.toList = bs.map Value.ref := by rw [ea, ← hbs, List.map_map]; all_goals rfl
  have hbl : bs.length = kvs.length := by rw [← hbs, List.length_map, l2]
  have hik : IsKeys H kvs bs := by rw [← hbs]; exact isKeys_of pr
  let ds : List PyData := es.map fun ns => PyData.tuple (ns.map .int)
  have hdl : bs.length = ds.length := by
    show _ = (List.map _ es).length
    rw [List.length_map]
    omega
  let zs : List (Addr × PyData) := bs.zip ds
  have z1 : zs.map (·.1) = bs := zip_fst hdl
  have z2 : zs.map (·.2) = ds := zip_snd hdl
  have hzl : zs.length = bs.length := by
    have := congrArg List.length z1
    rwa [List.length_map] at this
  have al : acc.toList.length = bs.length := by rw [eb, List.length_map]
  refine wpAny_bind (wpAny_newList ?_ (by rw [al]; omega))
  have hoL : (h'.push (seqObj "list" acc.toList.toArray 0)).get? h'.objs.size = some (seqObj "list" acc.toList.toArray 0) := Heap.get?_push_size _ rfl
  show wpAny _ _ _ _ _ { s with heap := h'.push (seqObj "list" acc.toList.toArray 0), toks := tk }
  have er : PySem.W.EachIs (fun u (z : Addr × PyData) => u = Value.ref z.1) acc.toList zs := eachIs_of (by omega) fun i u z e1 e2 => by
    rw [eb, List.getElem?_map] at e1
    have e3 : (zs.map (·.1))[i]? = some z.1 := by rw [List.getElem?_map, e2]; rfl
    rw [z1] at e3
    rw [e3] at e1
    exact (Option.some.inj e1).symm
  have er2 : PySem.W.EachIs (fun u (z : Addr × PyData) => ∃ as, Reads h' u z.2 as) acc.toList zs := eachIs_of (by omega) fun i u z e1 e2 => by
    have e3 : (zs.map (·.1))[i]? = some z.1 := by rw [List.getElem?_map, e2]; rfl
    have e4 : (zs.map (·.2))[i]? = some z.2 := by rw [List.getElem?_map, e2]; rfl
    rw [z1] at e3
    rw [z2] at e4
    obtain ⟨ns, hns, ens⟩ : ∃ ns, es[i]? = some ns ∧ PyData.tuple (ns.map .int) = z.2 := by
      have e4 : (es.map fun ns => PyData.tuple (ns.map .int))[i]? = some z.2 := e4
      rw [List.getElem?_map] at e4
      exact Option.map_eq_some_iff.mp e4
    have hkv : ∃ p, kvs[i]? = some p ∧ p.1 = ns.map Sum.inl := by
      have : (kvs.map (·.1))[i]? = some (ns.map Sum.inl) := by rw [hes, List.getElem?_map, hns]; rfl
      rw [List.getElem?_map] at this
      obtain ⟨p, h1, h2⟩ := Option.map_eq_some_iff.mp this
      exact ⟨p, h1, h2⟩
    obtain ⟨p, hp, ep1⟩ := hkv
    have hHb : H z.1 = some (.tup (ns.map V.int)) := by
      have key : ∀ {l : List (List Key × V)} {m : List Addr}, IsKeys H l m → ∀ (i : Nat) (p : List Key × V) (b : Addr), l[i]? = some p → m[i]? = some b → H b = some (.tup (p.1.map kV)) := by
        intro l m hk
        unfold IsKeys at hk
        induction hk with
        | nil => intro i p b h1; simp at h1
        | cons hh t ih =>
          intro i p b h1 h2
          cases i with
          | zero =>
            simp at h1 h2
            subst h1
            subst h2
            exact hh
          | succ i => exact ih i p b (by simpa using h1) (by simpa using h2)
      have := key hik i p z.1 hp e3
      rw [ep1, List.map_map] at this
      exact this
    rw [← ens]
    have hu' : u = Value.ref z.1 := by
      rw [eb, List.getElem?_map, e3] at e1
      exact (Option.some.inj e1).symm
    rw [hu']
    have dp : Dp X.K H (V.ref z.1) (PyData.tuple (ns.map .int)) := .tup (SqT.of hHb) (dpAll_ints ns)
    exact Dp.reads I1 _ _ _ dp rfl
  have er' : PySem.W.EachIs (fun u (z : Addr × PyData) => ∃ as, Reads (PySem.W.sortingHeap (h'.push (seqObj "list" acc.toList.toArray 0)) h'.objs.size acc.toList) u z.2 as) acc.toList zs := er2.mono fun _ _ ⟨as, r⟩ => ⟨as, PyProof.Rows.Reads.keeps (fun b ob e => PySem.W.sortingHeap_old (Nat.ne_of_lt (Heap.lt_size e)) (Heap.get?_push_of_some _ e)) r⟩
  have hal' : PySem.W.AllAlike (zs.map fun z => z.2) := by rw [z2]; exact hal
  have hso' : PySem.W.Sortable (zs.map fun z => z.2) := by rw [z2]; exact hso
  have hdp : ∀ d ∈ zs.map (fun z => z.2), d.depth ≤ 8 := fun d hd => by
    rw [z2] at hd
    obtain ⟨ns, _, rfl⟩ := List.mem_map.mp hd
    show PyData.depth (.tuple (ns.map .int)) ≤ 8
    simp [PyData.depth, PySem.W.depth_ints]
  refine wpAny_bind (wpAny_holding (wpAny_call_entry PyProof.Rows.slot_list_sort ⟨_, hoL, rfl⟩ PyProof.Rows.entry_list_sort
    (PySem.W.list_sort_vals (s := { s with heap := h'.push (seqObj "list" acc.toList.toArray 0), toks := tk }) (κ := PySem.W.dataKind (PySem.W.sortingHeap (h'.push (seqObj "list" acc.toList.toArray 0)) h'.objs.size acc.toList) (zs.map fun z => z.2)) hoL
      (PySem.W.SortsAt.data (s := { s with heap := PySem.W.sortingHeap (h'.push (seqObj "list" acc.toList.toArray 0)) h'.objs.size acc.toList, toks := tk }) (PySem.W.each_map (R := fun v d => ∃ as, Reads (PySem.W.sortingHeap (h'.push (seqObj "list" acc.toList.toArray 0)) h'.objs.size acc.toList) v d as) (fun z : Addr × PyData => z.2) er') hal' hso' (fun d hd => by
        have := hdp d hd
        show X.A.units + 1 + 1 + d.depth < cLine
        omega)) (by rw [al]; omega) ⟨_, rfl, ?_⟩)
    (PyProof.Rows.args_list_sort _)))
  obtain ⟨c, hc2⟩ := PyProof.Rows.sortedHeap_at (vs := acc.toList) (out := (PySem.W.sortVals (PySem.W.dataKind (PySem.W.sortingHeap (h'.push (seqObj "list" acc.toList.toArray 0)) h'.objs.size acc.toList) (zs.map fun z => z.2)) false acc.toList acc.toList).toArray) hoL
  have eo := PySem.W.sortVals_data (h' := PySem.W.sortingHeap (h'.push (seqObj "list" acc.toList.toArray 0)) h'.objs.size acc.toList) (R := fun u (z : Addr × PyData) => u = Value.ref z.1) (enc := fun z : Addr × PyData => z.2) false er er' hal'
  have rv : Vals ((zs.mergeSort (PySem.W.dataLe false fun z : Addr × PyData => z.2)).map fun z => V.ref z.1) (PySem.W.sortVals (PySem.W.dataKind (PySem.W.sortingHeap (h'.push (seqObj "list" acc.toList.toArray 0)) h'.objs.size acc.toList) (zs.map fun z => z.2)) false acc.toList acc.toList) := vals_of_each (eo.mono fun u z e => by rw [e]; exact rfl)
  have hlen : ((zs.mergeSort (PySem.W.dataLe false fun z : Addr × PyData => z.2)).map fun z => V.ref z.1).length ≤ sizeLine := by
    rw [List.length_map, List.length_mergeSort]
    omega
  refine wpAny_pure ⟨_, rfl, .ref h'.objs.size, _, I1.laid (t' := tk) (o := .lst ((zs.mergeSort (PySem.W.dataLe false fun z : Addr × PyData => z.2)).map fun z => V.ref z.1)) (fun b u e => ?_) (Nat.le_refl _) ⟨hlen, _, c, rv, hc2⟩, rfl, q bs _ hik (I1.hok.fresh (Nat.le_refl _))⟩
  have hb : b < h'.objs.size := Heap.lt_size e
  rw [PyProof.Rows.sortedHeap_old (Nat.ne_of_lt hb) (by rw [size_push']; exact Nat.lt_succ_of_lt hb)]
  exact Heap.get?_push_of_some _ e
theorem sortedDTK {X : Cx} (K : PySem.W.Frag) (h : X.K = K) (hc : X.calm = true) (hu : X.A.units + 64 < cLine) : CallR X (.builtin "sorted") (rSortedDT K) := h ▸ cr_sortedDT hc hu
section
variable {κ α : Type} [Enc κ] [Tk κ] [DecidableEq κ] [Enc α] {cf : Cf} {E : XK} {G : List Sl} {ta tk tv : TE}
/-- tuples of ints that are sorted -/
class Tks (κ : Type) [Enc κ] [Tk κ] : Prop where
  al : ∀ a b : κ, PySem.W.alike (.tuple ((Tk.ks a).map .int)) (.tuple ((Tk.ks b).map .int)) = true
  ne : ∀ a : κ, ∃ x r, (Tk.ks a).map PyData.int = x :: r
instance : Tks (Int × Int) := ⟨fun a b => by
    show PySem.W.alike (.tuple [.int a.1, .int a.2]) (.tuple [.int b.1, .int b.2]) = true
    simp [PySem.W.alike, PySem.W.alikeAll], fun a => ⟨_, _, rfl⟩⟩
instance : Tks (T3 Int Int Int) := ⟨fun a b => by
    show PySem.W.alike (.tuple [.int a.a, .int a.b, .int a.c]) (.tuple [.int b.a, .int b.b, .int b.c]) = true
    simp [PySem.W.alike, PySem.W.alikeAll], fun a => ⟨_, _, rfl⟩⟩
theorem tk_py (k : κ) : (toD k).py = .tuple ((Tk.ks k).map .int) := by
  rw [Tk.eq]
  show PyData.tuple (Dt.pyA ((Tk.ks k).map toD)) = _
  rw [pyA_ints]
theorem fm_tups {F O H : Hp} (hf : Fm F O H) : ∀ (bs : List Addr) (es : List (List Int)), bs.length = es.length → (∀ (i : Nat) b ns, bs[i]? = some b → es[i]? = some ns → H b = some (.tup (ns.map V.int))) → ∃ F', Le F F' ∧ Fm F' O H ∧ ∀ (i : Nat) b ns, bs[i]? = some b → es[i]? = some ns → F' b = some (.tup (ns.map V.int))
  | [], [], _, _ => ⟨F, Le.refl F, hf, fun i b ns h => by simp at h⟩
  | [], _ :: _, h, _ => by simp at h
  | _ :: _, [], h, _ => by simp at h
  | b :: bs, ns :: es, h, k => by
    obtain ⟨F1, le1, hf1, k1⟩ := fm_tups hf bs es (by simpa using h) fun i x y e1 e2 => k (i + 1) x y (by simpa using e1) (by simpa using e2)
    have hb : H b = some (.tup (ns.map V.int)) := k 0 b ns rfl rfl
    have le2 : Le F1 (upd F1 b (.tup (ns.map V.int))) := fun p o e => by
      by_cases c : p = b
      · subst c
        rw [upd_same, ← hb]
        exact hf1.f _ _ e
      · rw [upd_ne c]
        exact e
    refine ⟨_, le1.trans le2, ⟨fun p o e => ?_, hf1.o, fun p e => ?_, hf1.nt⟩, fun i x y e1 e2 => ?_⟩
    · by_cases c : p = b
      · subst c
        rw [upd_same] at e
        rw [hb]
        exact e
      · rw [upd_ne c] at e
        exact hf1.f p o e
    · by_cases c : p = b
      · subst c
        cases q : O p with
        | none => rfl
        | some o =>
          have := hf1.o _ _ q
          rw [hb] at this
          cases this
          exact absurd q (hf1.nt p _)
      · rw [upd_ne c] at e
        exact hf1.ds p e
    · cases i with
      | zero =>
        simp at e1 e2
        subst e1
        subst e2
        exact upd_same
      | succ i => exact le2 _ _ (k1 i x y (by simpa using e1) (by simpa using e2))
theorem drK_keys {K : PySem.W.Frag} {F : Hp} : ∀ {ks : List (List Key × V)} {kvs : List (κ × α)}, DrK K F ks (kvs.map fun p => (Tk.ks p.1, toD p.2)) → ks.map (·.1) = (kvs.map fun p => Tk.ks p.1).map (List.map Sum.inl)
  | ks, [], h => by
    cases h
    rfl
  | ks, p :: r, h => by
    have h : DrK K F ks ((Tk.ks p.1, toD p.2) :: r.map fun p => (Tk.ks p.1, toD p.2)) := h
    cases h with
    | @cons _ v' _ ks' _ h1 h2 =>
      rw [List.map_cons, List.map_cons, List.map_cons, drK_keys h2]
theorem isKeys_at {H : Hp} {l : List (List Key × V)} {m : List Addr} (h : IsKeys H l m) : ∀ (i : Nat) (p : List Key × V) (b : Addr), l[i]? = some p → m[i]? = some b → H b = some (.tup (p.1.map kV)) := by
  unfold IsKeys at h
  induction h with
  | nil => intro i p b h1; simp at h1
  | cons hh t ih =>
    intro i p b h1 h2
    cases i with
    | zero =>
      simp at h1 h2
      subst h1
      subst h2
      exact hh
    | succ i => exact ih i p b (by simpa using h1) (by simpa using h2)
theorem isKeys_len {H : Hp} {l : List (List Key × V)} {m : List Addr} (h : IsKeys H l m) : l.length = m.length := by
  unfold IsKeys at h
  exact Paired.length h
/-- sorted(d) -/
theorem ef_sortedDT [Tks κ] {m : R (Dc κ α)} (h : ED cf E ta G m) : EF cf E (tCB (rSortedDT cf.K) (tCons ta tNil)) G (m.bind fun d => sortR (d.kvs.map fun p => p.1)) := fun F O H σ Q hf he nb ko ke => by
  refine h F O H σ _ hf he (R.bind_nb nb) (fun d v F1 H1 e1 l1 hf1 r1 => ?_) (fun c p d F' H' e => ke c p d F' H' (by rw [e]; rfl))
  rw [e1, R.ok_bind] at nb ko
  obtain ⟨hz, ez⟩ := szR_nb (R.bind_nb nb)
  have es : sortR (d.kvs.map fun p => p.1) = .ok ((d.kvs.map fun p => p.1).mergeSort leD) := by
    unfold sortR
    rw [ez]
    rfl
  obtain ⟨a, ks, rfl, ha, hr⟩ := r1.at hf1
  refine ⟨a, ks, d.kvs.map fun p => Tk.ks p.1, rfl, ha, drK_keys hr, ?_, ?_, fun bs p hk hp => ?_⟩
  · intro x hx y hy
    obtain ⟨n1, h1, rfl⟩ := List.mem_map.mp hx
    obtain ⟨n2, h2, rfl⟩ := List.mem_map.mp hy
    obtain ⟨p1, _, rfl⟩ := List.mem_map.mp h1
    obtain ⟨p2, _, rfl⟩ := List.mem_map.mp h2
    exact Tks.al _ _
  · refine .inl fun x hx => ?_
    obtain ⟨n1, h1, rfl⟩ := List.mem_map.mp hx
    obtain ⟨p1, _, rfl⟩ := List.mem_map.mp h1
    obtain ⟨y, r, e⟩ := Tks.ne p1.1
    exact ⟨y, r, by rw [e]⟩
  · have hbl : bs.length = d.kvs.length := by
      rw [← isKeys_len hk, drK_len hr, List.length_map]
    obtain ⟨F2, le2, hf2, kF⟩ := fm_tups hf1 bs (d.kvs.map fun p => Tk.ks p.1) (by rw [List.length_map]; exact hbl) (fun i b ns e1 e2 => by
      have e3 : (ks.map (·.1))[i]? = some (ns.map Sum.inl) := by rw [drK_keys hr, List.getElem?_map, e2]; rfl
      rw [List.getElem?_map] at e3
      obtain ⟨q, q1, q2⟩ := Option.map_eq_some_iff.mp e3
      have := isKeys_at hk i q b q1 e1
      rw [q2, List.map_map] at this
      exact this)
    let zs : List (Addr × κ) := bs.zip (d.kvs.map fun p => p.1)
    have hl2 : bs.length = (d.kvs.map fun p => p.1).length := by rw [List.length_map]; exact hbl
    have hzs : ∀ z ∈ zs, Dr cf.K F2 (.ref z.1) (toD z.2) := fun z hz => by
      obtain ⟨i, hi, ez⟩ := List.mem_iff_getElem.mp hz
      have e1 : (zs.map (·.1))[i]? = some z.1 := by rw [List.getElem?_map, List.getElem?_eq_getElem hi, ez]; rfl
      have e2 : (zs.map (·.2))[i]? = some z.2 := by rw [List.getElem?_map, List.getElem?_eq_getElem hi, ez]; rfl
      rw [show zs.map (·.1) = bs from zip_fst hl2] at e1
      rw [show zs.map (·.2) = d.kvs.map fun p => p.1 from zip_snd hl2] at e2
      have e3 : (d.kvs.map fun p => Tk.ks p.1)[i]? = some (Tk.ks z.2) := by
        rw [List.getElem?_map] at e2 ⊢
        obtain ⟨q, q1, q2⟩ := Option.map_eq_some_iff.mp e2
        rw [q1, ← q2]
        rfl
      have := kF i _ _ e1 e3
      rw [Tk.eq]
      exact .tup this (drA_ints _)
    have k1 : (bs.zip ((d.kvs.map fun p => Tk.ks p.1).map fun ns => PyData.tuple (ns.map .int))).mergeSort (PySem.W.dataLe false fun z : Addr × PyData => z.2) = (zs.mergeSort fun x y => leD x.2 y.2).map fun z => (z.1, (toD z.2).py) := by
      have ez : bs.zip ((d.kvs.map fun p => Tk.ks p.1).map fun ns => PyData.tuple (ns.map .int)) = zs.map fun z => (z.1, (toD z.2).py) := by
        have g : ∀ (xs : List Addr) (ys : List (κ × α)), xs.zip ((ys.map fun p => Tk.ks p.1).map fun ns => PyData.tuple (ns.map .int)) = (xs.zip (ys.map fun p => p.1)).map fun z => (z.1, (toD z.2).py) := by
          intro xs
          induction xs with
          | nil => intro ys; rfl
          | cons x xs ih =>
            intro ys
            cases ys with
            | nil => rfl
            | cons y ys =>
              simp only [List.map_cons, List.zip_cons_cons]
              rw [ih ys, tk_py]
        exact g bs d.kvs
      rw [ez]
      exact (List.map_mergeSort (r := fun x y : Addr × κ => leD x.2 y.2) (s := PySem.W.dataLe false fun z : Addr × PyData => z.2) (f := fun z : Addr × κ => (z.1, (toD z.2).py)) (l := zs) (fun a _ b _ => rfl)).symm
    have k2 : (zs.mergeSort fun x y => leD x.2 y.2).map (·.2) = (d.kvs.map fun p => p.1).mergeSort leD := by
      have q := List.map_mergeSort (r := fun x y : Addr × κ => leD x.2 y.2) (s := leD) (f := fun z : Addr × κ => z.2) (l := zs) (fun a _ b _ => rfl)
      rw [q]
      congr 1
      exact zip_snd hl2
    refine ko _ _ F2 _ es (l1.trans le2) (hf2.newH hp) ⟨p, _, rfl, hf2.fnone hp, hf2.onone hp, upd_same, ?_⟩
    rw [k1, ← k2, List.map_map]
    have := drA_of (K := cf.K) (F := F2) (zs := (zs.mergeSort fun x y => leD x.2 y.2).map fun z => (V.ref z.1, z.2)) (fun z hz => by
      obtain ⟨y, hy, rfl⟩ := List.mem_map.mp hz
      exact hzs y ((List.mergeSort_perm zs _).mem_iff.mp hy))
    have e1 : ((zs.mergeSort fun x y => leD x.2 y.2).map fun z => (V.ref z.1, z.2)).map (·.1) = (zs.mergeSort fun x y => leD x.2 y.2).map ((fun z : Addr × PyData => V.ref z.1) ∘ fun z => (z.1, (toD z.2).py)) := by rw [List.map_map]; rfl
    have e2 : ((zs.mergeSort fun x y => leD x.2 y.2).map fun z => (V.ref z.1, z.2)).map (·.2) = (zs.mergeSort fun x y => leD x.2 y.2).map (·.2) := by rw [List.map_map]; rfl
    rw [e1, e2] at this
    exact this
end
/-! ### {k: v}, k a tuple -/
def tDispT (tk tv : TE) : TE := fun σ H Q => ∀ p, H p = none → tk σ (upd H p (.dT [])) fun y H1 => tv σ H1 fun v H2 => ∃ b k, y = .ref b ∧ H2 p = some (.dT []) ∧ H2 b = some (.tup (k.map kV)) ∧ Q (.ref p) (upd H2 p (.dT [(k, v)]))
theorem pe_dispT {X : Cx} {pos : Pos} {k v : Expr} {tk tv : TE} (hu : X.A.units < cLine) (hk : PE X k tk) (hv : PE X v tv) : PE X (.Dict [some k] [v] pos) (tDispT tk tv) := by
  refine ⟨fun pins s σ H Q I q => ?_⟩
  have hn := I.hok.fresh (Nat.le_refl s.heap.objs.size)
  have I1 := I.laid (a := s.heap.objs.size) (o := .dT []) (h' := s.heap.push { cls := .type "dict", data := .dict #[] }) (t' := s.toks) (fun _ _ q => Heap.get?_push_of_some _ q) (Nat.le_refl _) (dt_empty s.heap I.big)
  have hz := zip_pairTrees [some k] [v] X.env pos rfl rfl
  rw [arm_eval_Dict, hz, dictDisplay_pairs (pairTrees [some k] [v] X.env pos) (fun z => nomatch z) (by show 1 < _; decide)]
  refine wpAny_bind (wpAny_standAt (wpAny_bind (wpAny_subDictH (knd := tupleKind (mixKind X.prog X.w)) (Q := fun d s' => wpAny (model X.prog X.w) X.A (pure (Value.ref d)) _ _ s') hu (by show 1 ≤ 15; decide) ?_)))
  refine pairTrees_cons_walk (thn (hk.run pins _ σ _ _ I1 (q _ hn)) fun u s1 ⟨y, H1, I2, ry, q1⟩ => thn (hv.run pins s1 σ H1 _ I2 q1) fun w2 s2 ⟨x, H2, I3, rx, b, ks, ey, e, eb, q2⟩ => pairTrees_nil_walk ?_)
  subst ey
  cases (show u = Value.ref b from ry)
  obtain ⟨z, lo, xs, kt, dd⟩ := dt_of I3.hok e
  cases kt
  refine ⟨[(ks, b, w2)], ⟨rfl, rfl, key_of I3.hok eb, trivial⟩, dd, fun h' tk hm hs => wpAny_pure ?_⟩
  obtain ⟨q', es, ep, hq, h2, h3, h4, _, h5⟩ := hm
  have hl : [((ks, x) : List Key × V)].length ≤ sizeLine := by show 1 ≤ sizeLine; decide
  refine ⟨.ref s.heap.objs.size, _, d_write (ob := .dT [(ks, x)]) (t' := tk) I3 (by rw [e]; exact True.intro) hs ⟨q', hq⟩ ⟨hl, lo, [(ks, b, w2)], ?_, q', es, ep, hq, h2, h3, h4, h5⟩, rfl, q2⟩
  refine Paired.cons ⟨rfl, ?_, rx⟩ Paired.nil
  show upd H2 s.heap.objs.size _ b = _
  rw [upd_ne (ne_of eb e (fun z => nomatch z))]
  exact eb
section
variable {κ α : Type} [Enc κ] [Tk κ] [DecidableEq κ] [Enc α] {cf : Cf} {E : XK} {G : List Sl} {tk tv : TE}
theorem end_dispT {m : R κ} {n : R α} (hk : EM cf E tk G m) (hv : EM cf E tv G n) : END cf E (tDispT tk tv) G (m.bind fun k => n.bind fun a => .ok (⟨[(k, a)]⟩ : Dc κ α)) := fun F O H σ Q hf he nb ko ke => by
  intro p hp
  have hOp := hf.onone hp
  have lo : Le O (upd O p (.dT [])) := Le.new hOp
  refine hk F (upd O p (.dT [])) _ σ _ (hf.newO hp) (he.monoO lo) (R.bind_nb nb) (fun k y F1 H1 e1 l1 hf1 r1 => ?_) (fun c x d F' H' e le hf' => ke c x d F' H' (by rw [e]; rfl) le (hf'.weak lo))
  rw [e1, R.ok_bind] at nb ko ke
  refine hv F1 (upd O p (.dT [])) H1 σ _ hf1 ((he.monoO lo).mono l1) (R.bind_nb nb) (fun a v F2 H2 e2 l2 hf2 r2 => ?_) (fun c x d F' H' e le hf' => ke c x d F' H' (by rw [e]; rfl) (l1.trans le) (hf'.weak lo))
  obtain ⟨b, rfl, hb⟩ := key_at hf2 (r1.mono l2)
  have hfp : F2 p = none := hf2.own (o := .dT []) upd_same
  refine ⟨b, kI k, rfl, hf2.o _ _ upd_same, hb, ?_⟩
  have hf3 := hf2.wr (o := .dT [(kI k, v)]) (u := .dT []) (p := p) upd_same
  rw [upd_upd] at hf3
  refine ko ⟨[(k, a)]⟩ _ F2 _ (by rw [e2]; rfl) (l1.trans l2) (hf3.weak (Le.new hOp)) ⟨p, _, rfl, hfp, hOp, upd_same, .cons r2 .nil⟩
end
end Kr

/-! KrEg: xs[k] += e of an owned list. -/
namespace Kr
open PySem PySem.Spec PyProof.Rows L2
open Enc (toD)
section
variable {cf : Cf} {E : XK} {G : List Sl} {S ρ : Type} [Rs ρ] {ta tb tc te : TE} {u : TS} {enc : S → List Sl}
theorem sb_augL {i : Nat} {xs : List Int} {mk me : R Int} {f : List Int → R (Fl S ρ)} (h0 : G[i]? = some (.ol (xs.map toD))) (hk : EM cf E tb G mk) (hx : EM cf E te G me) (G' : List Int → List Sl) (hG : ∀ xs : List Int, G.set i (.ol (xs.map toD)) = G' xs)
    (hu : ∀ xs, SB cf E u (G' xs) enc (f xs)) (nv : noVo G = true := by rfl) :
    SB cf E (tSeq (tAugS (tVar i) tb te (rIx0 cf.K) (rI0 fun a b => .int (a + b)) rSetL) u) G enc (mk.bind fun k => (ix0R xs k).bind fun w => me.bind fun x => f (xs.set k.toNat (w + x))) := fun F O H σ D hM nb kn kb kr ke => by
  obtain ⟨O', lo, hf, he, ow⟩ := hM
  obtain ⟨a, vs, eσ, eO, hd⟩ := he.at' i _ h0
  refine ⟨_, eσ, ?_⟩
  refine hk F O' H σ _ hf he (R.bind_nb nb) (fun k kv F1 H1 e1 l1 hf1 r1 => ?_) (fun c p d F' H' e le hf' hd => ke c p d F' H' (by rw [e]; rfl) le (hf'.weak lo) hd)
  rw [e1, R.ok_bind] at nb kn kb kr ke
  obtain ⟨hb, ei⟩ := ix0R_nb (R.bind_nb nb)
  rw [ei, R.ok_bind] at nb kn kb kr ke
  obtain rfl : kv = .int k := dr_int r1
  have hvl : vs.length = xs.length := by rw [hd.length, List.length_map]
  have hw : (xs.map toD)[k.toNat]? = some (.int (xs.getD k.toNat 0)) := by
    rw [List.getElem?_map, List.getD_eq_getElem?_getD, List.getElem?_eq_getElem (by omega)]
    rfl
  obtain ⟨wv, hwv, rwv⟩ := hd.get hw
  obtain rfl : wv = .int _ := dr_int rwv
  refine ⟨a, vs, k, _, rfl, rfl, SqL.of (hf1.o _ _ eO), hb.1, hwv, ?_⟩
  refine hx F1 O' H1 σ _ hf1 (he.mono l1) (R.bind_nb nb) (fun x xv F2 H2 e2 l2 hf2 r2 => ?_) (fun c p d F' H' e le hf' hd => ke c p d F' H' (by rw [e]; rfl) (l1.trans le) (hf'.weak lo) hd)
  rw [e2, R.ok_bind] at nb kn kb kr ke
  obtain rfl : xv = .int x := dr_int r2
  have le := l1.trans l2
  refine ⟨_, _, rfl, rfl, a, vs, k, k.toNat, rfl, rfl, hf2.o _ _ eO, ixN_nn (by omega), ?_⟩
  refine hu _ F2 O _ σ D ?_ nb (fun s F'' H'' σ' e le' => kn s F'' H'' σ' e (le.trans le')) (fun s F'' H'' σ' e le' => kb s F'' H'' σ' e (le.trans le')) (fun r v F'' H'' e le' => kr r v F'' H'' e (le.trans le')) fun c p d F'' H'' e le' => ke c p d F'' H'' e (le.trans le')
  rw [← hG]
  exact mt_wr lo hf2 (he.mono le) (ow.mono le) nv h0 (.inl ⟨_, rfl⟩) eσ eO (hp := ⟨a, rfl, rfl⟩) (hb := fun _ z => nomatch z) <| ⟨a, _, rfl, upd_same, by
    rw [List.map_set]
    exact (hd.mono le).set (Dr.int (K := cf.K) (F := F2) (xs.getD k.toNat 0 + x)) k.toNat⟩
end
end Kr

namespace Kx
open PySem PySem.Spec PyProof.Rows L2 Kr
open Enc (toD)
/-! ### the text by places -/
def topS (i : Nat) : Stmt := PySem.Challenge.pw_kraftroom_k05_whole_packages.main.body.getD i (.Pass ⟨0, 0, 0, 0⟩)
abbrev s_room : Stmt := topS 15
abbrev s_ranks : Stmt := topS 1
abbrev s_cost : Stmt := topS 2
abbrev s_rests : Stmt := topS 3
abbrev s_choices_by : Stmt := topS 4
abbrev s_choices : Stmt := topS 5
abbrev s_stages : Stmt := topS 6
abbrev s_values : Stmt := topS 7
abbrev s_best_choice : Stmt := topS 8
abbrev s_lengths_by : Stmt := topS 9
abbrev s_least_lengths : Stmt := topS 10
abbrev s_paired : Stmt := topS 11
abbrev s_packaged_lengths : Stmt := topS 12
abbrev s__law_cell : Stmt := topS 17
abbrev s__law_weights : Stmt := topS 18
abbrev s__law_least_limit : Stmt := topS 20
abbrev s__law_joined : Stmt := topS 22
abbrev s_law : Stmt := topS 23
/-- what the top has left -/
structure Txt (P : Program) (w : World) (cf : Cf) (mg : Str → Option Value) (base : Heap) where
  a_room : Addr
  d_room : FuncData
  F_room : Fun cf.K "room" "room" s_room a_room d_room
  b_room : Binds cf.K d_room ["lengths"] []
  g_room : mg "room" = some (.ref a_room)
  a_ranks : Addr
  d_ranks : FuncData
  F_ranks : Fun cf.K "ranks" "ranks" s_ranks a_ranks d_ranks
  b_ranks : Binds cf.K d_ranks ["weights"] []
  g_ranks : mg "ranks" = some (.ref a_ranks)
  a_cost : Addr
  d_cost : FuncData
  F_cost : Fun cf.K "cost" "cost" s_cost a_cost d_cost
  b_cost : Binds cf.K d_cost ["weights", "lengths"] []
  g_cost : mg "cost" = some (.ref a_cost)
  a_rests : Addr
  d_rests : FuncData
  F_rests : Fun cf.K "rests" "rests" s_rests a_rests d_rests
  b_rests : Binds cf.K d_rests ["weights"] []
  g_rests : mg "rests" = some (.ref a_rests)
  a_choices_by : Addr
  d_choices_by : FuncData
  F_choices_by : Fun cf.K "choices_by" "choices_by" s_choices_by a_choices_by d_choices_by
  b_choices_by : Binds cf.K d_choices_by ["sums", "limit", "stage"] []
  g_choices_by : mg "choices_by" = some (.ref a_choices_by)
  a_choices : Addr
  d_choices : FuncData
  F_choices : Fun cf.K "choices" "choices" s_choices a_choices d_choices
  b_choices : Binds cf.K d_choices ["weights", "limit", "stage"] []
  g_choices : mg "choices" = some (.ref a_choices)
  a_stages : Addr
  d_stages : FuncData
  F_stages : Fun cf.K "stages" "stages" s_stages a_stages d_stages
  b_stages : Binds cf.K d_stages ["sums", "limit"] []
  g_stages : mg "stages" = some (.ref a_stages)
  a_values : Addr
  d_values : FuncData
  F_values : Fun cf.K "values" "values" s_values a_values d_values
  b_values : Binds cf.K d_values ["weights", "limit"] []
  g_values : mg "values" = some (.ref a_values)
  a_best_choice : Addr
  d_best_choice : FuncData
  F_best_choice : Fun cf.K "best_choice" "best_choice" s_best_choice a_best_choice d_best_choice
  b_best_choice : Binds cf.K d_best_choice ["weights", "limit", "table", "stage"] []
  g_best_choice : mg "best_choice" = some (.ref a_best_choice)
  a_lengths_by : Addr
  d_lengths_by : FuncData
  F_lengths_by : Fun cf.K "lengths_by" "lengths_by" s_lengths_by a_lengths_by d_lengths_by
  b_lengths_by : Binds cf.K d_lengths_by ["weights", "limit", "table"] []
  g_lengths_by : mg "lengths_by" = some (.ref a_lengths_by)
  a_least_lengths : Addr
  d_least_lengths : FuncData
  F_least_lengths : Fun cf.K "least_lengths" "least_lengths" s_least_lengths a_least_lengths d_least_lengths
  b_least_lengths : Binds cf.K d_least_lengths ["weights", "limit"] []
  g_least_lengths : mg "least_lengths" = some (.ref a_least_lengths)
  a_paired : Addr
  d_paired : FuncData
  F_paired : Fun cf.K "paired" "paired" s_paired a_paired d_paired
  b_paired : Binds cf.K d_paired ["items"] []
  g_paired : mg "paired" = some (.ref a_paired)
  a_packaged_lengths : Addr
  d_packaged_lengths : FuncData
  F_packaged_lengths : Fun cf.K "packaged_lengths" "packaged_lengths" s_packaged_lengths a_packaged_lengths d_packaged_lengths
  b_packaged_lengths : Binds cf.K d_packaged_lengths ["weights", "limit"] []
  g_packaged_lengths : mg "packaged_lengths" = some (.ref a_packaged_lengths)
  a__law_cell : Addr
  d__law_cell : FuncData
  F__law_cell : Fun cf.K "_law_cell" "_law_cell" s__law_cell a__law_cell d__law_cell
  b__law_cell : Binds cf.K d__law_cell ["_law_script", "_law_k"] []
  g__law_cell : mg "_law_cell" = some (.ref a__law_cell)
  a__law_weights : Addr
  d__law_weights : FuncData
  F__law_weights : Fun cf.K "_law_weights" "_law_weights" s__law_weights a__law_weights d__law_weights
  b__law_weights : Binds cf.K d__law_weights ["_law_script", "_law_first", "_law_many"] []
  g__law_weights : mg "_law_weights" = some (.ref a__law_weights)
  a__law_least_limit : Addr
  d__law_least_limit : FuncData
  F__law_least_limit : Fun cf.K "_law_least_limit" "_law_least_limit" s__law_least_limit a__law_least_limit d__law_least_limit
  b__law_least_limit : Binds cf.K d__law_least_limit ["_law_many"] []
  g__law_least_limit : mg "_law_least_limit" = some (.ref a__law_least_limit)
  a__law_joined : Addr
  d__law_joined : FuncData
  F__law_joined : Fun cf.K "_law_joined" "_law_joined" s__law_joined a__law_joined d__law_joined
  b__law_joined : Binds cf.K d__law_joined ["_law_weights_here"] []
  g__law_joined : mg "_law_joined" = some (.ref a__law_joined)
  a_law : Addr
  d_law : FuncData
  F_law : Fun cf.K "law" "law" s_law a_law d_law
  b_law : Binds cf.K d_law ["_law_script"] []
  g_law : mg "law" = some (.ref a_law)
  n_enumerate : mg "enumerate" = none
  n_int : mg "int" = none
  n_len : mg "len" = none
  n_list : mg "list" = none
  n_max : mg "max" = none
  n_min : mg "min" = none
  n_range : mg "range" = none
  n_reversed : mg "reversed" = none
  n_sorted : mg "sorted" = none
  n_sum : mg "sum" = none
  n_zip : mg "zip" = none
  k_GREATEST : Tok
  c_GREATEST : mg "GREATEST" = some (.int 20 k_GREATEST)
/-! ### what the defs compute -/
def b_room (lengths_1 : (List Int)) : R (Fl Unit Int) :=
  (R.bind (R.bind (R.bind (R.ok (1 : Int)) fun a_2 => R.bind (R.ok 20) fun b_3 => shlR a_2 b_3) fun a_12 => R.bind (R.bind (R.bind (R.ok lengths_1) (lcR (fun length_4 => (R.bind (R.ok length_4) fun a_5 => R.bind (R.ok (0 : Int)) fun b_6 => R.ok (decide (b_6 < a_5)))) (fun length_4 => (R.bind (R.ok (1 : Int)) fun a_9 => R.bind (R.bind (R.ok 20) fun a_7 => R.bind (R.ok length_4) fun b_8 => R.ok (a_7 - b_8)) fun b_10 => shlR a_9 b_10)))) fun a_11 => R.ok (List.sum a_11)) fun b_13 => R.ok (a_12 - b_13)) fun a_14 => R.ok (Fl.rt a_14))
def f_room (lengths_1 : (List Int)) : R Int := finR (b_room lengths_1)
def b_ranks (weights_15 : (List Int)) : R (Fl Unit (List Int)) :=
  (R.bind (R.bind (R.bind (R.bind (R.bind (R.bind (R.ok weights_15) fun a_16 => R.ok (List.length a_16 : Int)) rng1R) (lcR (fun k_18 => (R.ok true)) (fun k_18 => (R.bind (R.bind (R.bind (R.ok weights_15) fun a_19 => R.bind (R.ok k_18) fun b_20 => idxR a_19 b_20) fun a_21 => R.ok (-a_21)) fun a_22 => R.bind (R.ok k_18) fun b_23 => R.ok (a_22, b_23))))) sortR) (lcR (fun weight_24 => (R.ok true)) (fun weight_24 => (R.ok weight_24.2)))) fun a_25 => R.ok (Fl.rt a_25))
def f_ranks (weights_15 : (List Int)) : R (List Int) := finR (b_ranks weights_15)
def b_cost (weights_26 : (List Int)) (lengths_27 : (List Int)) : R (Fl Unit Int) :=
  (R.bind (R.bind (R.bind (R.bind (R.ok weights_26) fun a_28 => R.bind (R.ok lengths_27) fun b_29 => R.ok (List.zip a_28 b_29)) (lcR (fun weight_30 => (R.ok true)) (fun weight_30 => (R.bind (R.ok weight_30.1) fun a_31 => R.bind (R.ok weight_30.2) fun b_32 => mulR a_31 b_32)))) fun a_33 => R.ok (List.sum a_33)) fun a_34 => R.ok (Fl.rt a_34))
def f_cost (weights_26 : (List Int)) (lengths_27 : (List Int)) : R Int := finR (b_cost weights_26 lengths_27)
def b_rests (weights_35 : (List Int)) : R (Fl Unit (List Int)) :=
  (R.bind (R.bind (R.ok weights_35) fun a_36 => R.ok (List.sum a_36)) fun total_37 => (R.bind (R.bind (R.bind (R.ok total_37) fun a_38 => R.bind (R.ok ([] : List Int)) fun b_39 => R.ok (a_38 :: b_39)) szR) fun result_40 => (R.bind (R.bind (R.ok weights_35) fun a_41 => R.pu (f_ranks a_41)) fun xs_52 => forR (fun (st_42 : (Int × (List Int))) (symbol_43 : Int) => ((R.bind (R.bind (R.ok st_42.1) fun a_46 => R.bind (R.bind (R.ok weights_35) fun a_44 => R.bind (R.ok symbol_43) fun b_45 => idxR a_44 b_45) fun b_47 => R.ok (a_46 - b_47)) fun total_48 => (R.bind (R.ok total_48) fun y_50 => R.bind (szR (st_42.2 ++ [y_50])) fun result_49 => (R.ok (Fl.nx (total_48, result_49))))) : R (Fl (Int × (List Int)) (List Int)))) (fun (st_42 : (Int × (List Int))) => (R.bind (R.ok st_42.2) fun a_51 => R.ok (Fl.rt a_51))) xs_52 (total_37, result_40))))
def f_rests (weights_35 : (List Int)) : R (List Int) := finR (b_rests weights_35)
def b_choices_by (sums_53 : (List Int)) (limit_54 : Int) (stage_55 : (T3 Int Int Int)) : R (Fl Unit (List (T3 Int Int (Option (T3 Int Int Int))))) :=
  (R.bind (R.ok stage_55) fun p_56 => (R.bind (R.bind (R.bind (R.bind (R.ok sums_53) fun a_57 => R.ok (List.length a_57 : Int)) fun a_58 => R.bind (R.ok (1 : Int)) fun b_59 => R.ok (a_58 - b_59)) fun a_60 => R.bind (R.ok p_56.b) fun b_61 => R.ok (a_60 - b_61)) fun left_62 => (R.bind (R.ok (0 : Int)) fun first_63 => (R.bind (R.bind (R.ok p_56.c) fun a_64 => R.bind (R.ok left_62) fun b_65 => R.ok (min a_64 b_65)) fun last_66 => (seqF ((R.bind (R.bind (R.ok p_56.a) fun a_67 => R.bind (R.ok (0 : Int)) fun b_68 => R.ok (decide (a_67 = b_68))) fun c_69 => if c_69 = true then (R.bind (R.ok (0 : Int)) fun last_72 => (R.ok (Fl.nx last_72))) else (R.ok (Fl.nx last_66))) : R (Fl Int (List (T3 Int Int (Option (T3 Int Int Int)))))) fun st_71 => (seqF ((R.bind (R.bind (R.ok p_56.a) fun a_73 => R.bind (R.ok limit_54) fun b_74 => R.ok (decide (a_73 = b_74))) fun c_75 => if c_75 = true then (R.bind (R.ok left_62) fun first_78 => (R.ok (Fl.nx first_78))) else (R.ok (Fl.nx first_63))) : R (Fl Int (List (T3 Int Int (Option (T3 Int Int Int)))))) fun st_77 => (R.bind (R.bind (R.ok ([] : List (T3 Int Int (Option (T3 Int Int Int))))) szR) fun result_79 => (R.bind (R.bind (R.ok st_77) fun a_82 => R.bind (R.bind (R.ok st_71) fun a_80 => R.bind (R.ok (1 : Int)) fun b_81 => R.ok (a_80 + b_81)) fun b_83 => rng2R a_82 b_83) fun xs_124 => forR (fun (st_84 : (List (T3 Int Int (Option (T3 Int Int Int))))) (taken_85 : Int) => ((R.bind (R.bind (R.ok taken_85) fun a_86 => R.bind (R.ok left_62) fun b_87 => R.ok (decide (a_86 = b_87))) fun c_88 => if c_88 = true then (R.bind (R.bind (R.ok taken_85) fun a_90 => R.bind (R.ok (0 : Int)) fun b_91 => R.bind (R.ok (none : (Option (T3 Int Int Int)))) fun c_92 => R.ok (T3.mk a_90 b_91 c_92)) fun y_93 => R.bind (szR (st_84 ++ [y_93])) fun result_89 => (R.ok (Fl.nx result_89))) else (R.bind (R.bind (R.ok taken_85) fun a_94 => R.bind (R.ok p_56.c) fun b_95 => R.ok (decide (a_94 < b_95))) fun c_96 => if c_96 = true then (R.bind (R.bind (R.bind (R.ok p_56.a) fun a_97 => R.bind (R.ok (1 : Int)) fun b_98 => R.ok (a_97 + b_98)) fun a_109 => R.bind (R.bind (R.ok p_56.b) fun a_99 => R.bind (R.ok taken_85) fun b_100 => R.ok (a_99 + b_100)) fun b_110 => R.bind (R.bind (R.bind (R.ok (2 : Int)) fun a_103 => R.bind (R.bind (R.ok p_56.c) fun a_101 => R.bind (R.ok taken_85) fun b_102 => R.ok (a_101 - b_102)) fun b_104 => mulR a_103 b_104) fun a_107 => R.bind (R.bind (R.ok left_62) fun a_105 => R.bind (R.ok taken_85) fun b_106 => R.ok (a_105 - b_106)) fun b_108 => R.ok (min a_107 b_108)) fun c_111 => R.ok (T3.mk a_109 b_110 c_111)) fun following_112 => (R.bind (R.bind (R.ok taken_85) fun a_119 => R.bind (R.bind (R.ok sums_53) fun a_116 => R.bind (R.bind (R.ok p_56.b) fun a_114 => R.bind (R.ok taken_85) fun b_115 => R.ok (a_114 + b_115)) fun b_117 => idxR a_116 b_117) fun b_120 => R.bind (R.bind (R.ok following_112) fun o_118 => R.ok (some o_118)) fun c_121 => R.ok (T3.mk a_119 b_120 c_121)) fun y_122 => R.bind (szR (st_84 ++ [y_122])) fun result_113 => (R.ok (Fl.nx result_113)))) else (R.ok (Fl.nx st_84)))) : R (Fl (List (T3 Int Int (Option (T3 Int Int Int)))) (List (T3 Int Int (Option (T3 Int Int Int))))))) (fun (st_84 : (List (T3 Int Int (Option (T3 Int Int Int))))) => (R.bind (R.ok st_84) fun a_123 => R.ok (Fl.rt a_123))) xs_124 result_79))))))))
def f_choices_by (sums_53 : (List Int)) (limit_54 : Int) (stage_55 : (T3 Int Int Int)) : R (List (T3 Int Int (Option (T3 Int Int Int)))) := finR (b_choices_by sums_53 limit_54 stage_55)
def b_choices (weights_125 : (List Int)) (limit_126 : Int) (stage_127 : (T3 Int Int Int)) : R (Fl Unit (List (T3 Int Int (Option (T3 Int Int Int))))) :=
  (R.bind (R.bind (R.bind (R.ok weights_125) fun a_128 => R.pu (f_rests a_128)) fun a_129 => R.bind (R.ok limit_126) fun b_130 => R.bind (R.ok stage_127) fun c_131 => R.pu (f_choices_by a_129 b_130 c_131)) fun a_132 => R.ok (Fl.rt a_132))
def f_choices (weights_125 : (List Int)) (limit_126 : Int) (stage_127 : (T3 Int Int Int)) : R (List (T3 Int Int (Option (T3 Int Int Int)))) := finR (b_choices weights_125 limit_126 stage_127)
def b_stages (sums_133 : (List Int)) (limit_134 : Int) : R (Fl Unit (List (T3 Int Int Int))) :=
  (R.bind (R.bind (R.bind (R.bind (R.ok (0 : Int)) fun a_135 => R.bind (R.ok (0 : Int)) fun b_136 => R.bind (R.ok (1 : Int)) fun c_137 => R.ok (T3.mk a_135 b_136 c_137)) fun a_138 => R.bind (R.ok ([] : List (T3 Int Int Int))) fun b_139 => R.ok (a_138 :: b_139)) szR) fun found_140 => (R.bind (R.bind (R.bind (R.ok (0 : Int)) fun a_141 => R.bind (R.ok (0 : Int)) fun b_142 => R.bind (R.ok (1 : Int)) fun c_143 => R.ok (T3.mk a_141 b_142 c_143)) fun a_144 => R.bind (R.ok true) fun b_145 => R.ok (Dc.mk [(a_144, b_145)])) fun known_146 => (R.bind (R.ok (0 : Int)) fun at_147 => (whileR (fun (st_148 : ((List (T3 Int Int Int)) × ((Dc (T3 Int Int Int) Bool) × Int))) => (R.bind (R.ok st_148.2.2) fun a_150 => R.bind (R.bind (R.ok st_148.1) fun a_149 => R.ok (List.length a_149 : Int)) fun b_151 => R.ok (decide (a_150 < b_151)))) (fun (st_148 : ((List (T3 Int Int Int)) × ((Dc (T3 Int Int Int) Bool) × Int))) => ((R.bind (R.bind (R.ok sums_133) fun a_154 => R.bind (R.ok limit_134) fun b_155 => R.bind (R.bind (R.ok st_148.1) fun a_152 => R.bind (R.ok st_148.2.2) fun b_153 => idxR a_152 b_153) fun c_156 => R.pu (f_choices_by a_154 b_155 c_156)) fun xs_172 => forR (fun (st_157 : ((List (T3 Int Int Int)) × (Dc (T3 Int Int Int) Bool))) (taken_158 : (T3 Int Int (Option (T3 Int Int Int)))) => ((R.bind (R.bind (R.bind (R.ok taken_158.c) fun a_159 => R.ok (Option.isSome a_159)) fun c_162 => if c_162 = true then (R.bind (R.bind (R.ok taken_158.c) getR) fun a_160 => R.bind (R.ok st_157.2) fun b_161 => R.ok (!(getK (Dc.kvs b_161) a_160).isSome)) else R.ok false) fun c_163 => if c_163 = true then (R.bind (R.ok true) fun a_167 => R.bind (R.bind (R.ok taken_158.c) getR) fun k_168 => R.bind (dpR st_157.2 k_168 a_167) fun known_164 => (R.bind (R.bind (R.ok taken_158.c) getR) fun y_166 => R.bind (szR (st_157.1 ++ [y_166])) fun found_165 => (R.ok (Fl.nx (found_165, known_164))))) else (R.ok (Fl.nx (st_157.1, st_157.2)))) : R (Fl ((List (T3 Int Int Int)) × (Dc (T3 Int Int Int) Bool)) (List (T3 Int Int Int))))) (fun (st_157 : ((List (T3 Int Int Int)) × (Dc (T3 Int Int Int) Bool))) => (R.bind (R.bind (R.ok st_148.2.2) fun a_169 => R.bind (R.ok (1 : Int)) fun b_170 => R.ok (a_169 + b_170)) fun at_171 => (R.ok (Fl.nx (st_157.1, st_157.2, at_171))))) xs_172 (st_148.1, st_148.2.1)) : R (Fl ((List (T3 Int Int Int)) × ((Dc (T3 Int Int Int) Bool) × Int)) (List (T3 Int Int Int))))) (fun (st_148 : ((List (T3 Int Int Int)) × ((Dc (T3 Int Int Int) Bool) × Int))) => (R.bind (R.ok st_148.1) fun a_173 => R.ok (Fl.rt a_173))) (100000) (found_140, known_146, at_147)))))
def f_stages (sums_133 : (List Int)) (limit_134 : Int) : R (List (T3 Int Int Int)) := finR (b_stages sums_133 limit_134)
def b_values (weights_174 : (List Int)) (limit_175 : Int) : R (Fl Unit (Nd (T3 Int Int Int) (Option Int))) :=
  (R.bind (R.ok (Dc.mk [] : (Dc (T3 Int Int Int) (Option Int)))) fun result_176 => (R.bind (R.bind (R.ok weights_174) fun a_177 => R.pu (f_rests a_177)) fun sums_178 => (R.bind (R.bind (R.bind (R.bind (R.ok sums_178) fun a_179 => R.bind (R.ok limit_175) fun b_180 => R.pu (f_stages a_179 b_180)) sortR) fun a_181 => R.ok (List.reverse a_181)) fun xs_213 => forR (fun (st_182 : (Dc (T3 Int Int Int) (Option Int))) (stage_183 : (T3 Int Int Int)) => ((R.bind (R.ok (none : (Option Int))) fun best_184 => (R.bind (R.bind (R.ok sums_178) fun a_185 => R.bind (R.ok limit_175) fun b_186 => R.bind (R.ok stage_183) fun c_187 => R.pu (f_choices_by a_185 b_186 c_187)) fun xs_212 => forR (fun (st_188 : (Option Int)) (taken_189 : (T3 Int Int (Option (T3 Int Int Int)))) => ((R.bind (R.bind (R.bind (R.ok taken_189.c) fun a_190 => R.ok (Option.isNone a_190)) fun c_194 => if c_194 = true then (R.bind (R.ok (0 : Int)) fun o_191 => R.ok (some o_191)) else (R.bind (R.ok st_182) fun a_192 => R.bind (R.bind (R.ok taken_189.c) getR) fun b_193 => dgR a_192 b_193)) fun behind_195 => (R.bind (R.bind (R.bind (R.ok behind_195) fun a_196 => R.ok (Option.isSome a_196)) fun c_203 => if c_203 = true then (R.bind (R.bind (R.ok st_188) fun a_197 => R.ok (Option.isNone a_197)) fun c_202 => if c_202 = true then R.ok true else (R.bind (R.bind (R.ok taken_189.b) fun a_198 => R.bind (R.bind (R.ok behind_195) getR) fun b_199 => R.ok (a_198 + b_199)) fun a_200 => R.bind (R.bind (R.ok st_188) getR) fun b_201 => R.ok (decide (a_200 < b_201)))) else R.ok false) fun c_204 => if c_204 = true then (R.bind (R.bind (R.bind (R.ok taken_189.b) fun a_205 => R.bind (R.bind (R.ok behind_195) getR) fun b_206 => R.ok (a_205 + b_206)) fun o_207 => R.ok (some o_207)) fun best_208 => (R.ok (Fl.nx best_208))) else (R.ok (Fl.nx st_188)))) : R (Fl (Option Int) (Nd (T3 Int Int Int) (Option Int))))) (fun (st_188 : (Option Int)) => (R.bind (R.ok st_188) fun a_210 => R.bind (R.ok stage_183) fun k_211 => R.bind (dpR st_182 k_211 a_210) fun result_209 => (R.ok (Fl.nx result_209)))) xs_212 best_184)) : R (Fl (Dc (T3 Int Int Int) (Option Int)) (Nd (T3 Int Int Int) (Option Int))))) (fun (st_182 : (Dc (T3 Int Int Int) (Option Int))) => (R.ok (Fl.rt (Nd.mk st_182)))) xs_213 result_176)))
def f_values (weights_174 : (List Int)) (limit_175 : Int) : R (Nd (T3 Int Int Int) (Option Int)) := finR (b_values weights_174 limit_175)
def b_best_choice (weights_214 : (List Int)) (limit_215 : Int) (table_216 : (Dc (T3 Int Int Int) (Option Int))) (stage_217 : (T3 Int Int Int)) : R (Fl Unit (Option (Int × (Option (T3 Int Int Int))))) :=
  (R.bind (R.ok (none : (Option (Int × (Option (T3 Int Int Int)))))) fun chosen_218 => (R.bind (R.bind (R.ok weights_214) fun a_219 => R.bind (R.ok limit_215) fun b_220 => R.bind (R.ok stage_217) fun c_221 => R.pu (f_choices a_219 b_220 c_221)) fun xs_244 => forR (fun (st_222 : (Option (Int × (Option (T3 Int Int Int))))) (taken_223 : (T3 Int Int (Option (T3 Int Int Int)))) => ((R.bind (R.bind (R.bind (R.ok taken_223.c) fun a_224 => R.ok (Option.isNone a_224)) fun c_228 => if c_228 = true then (R.bind (R.ok (0 : Int)) fun o_225 => R.ok (some o_225)) else (R.bind (R.ok table_216) fun a_226 => R.bind (R.bind (R.ok taken_223.c) getR) fun b_227 => dgR a_226 b_227)) fun behind_229 => (R.bind (R.bind (R.bind (R.ok behind_229) fun a_230 => R.ok (Option.isSome a_230)) fun c_237 => if c_237 = true then (R.bind (R.bind (R.ok taken_223.b) fun a_231 => R.bind (R.bind (R.ok behind_229) getR) fun b_232 => R.ok (a_231 + b_232)) fun a_235 => R.bind (R.bind (R.ok table_216) fun a_233 => R.bind (R.ok stage_217) fun b_234 => dgR a_233 b_234) fun b_236 => eqR a_235 b_236) else R.ok false) fun c_238 => if c_238 = true then (R.bind (R.bind (R.bind (R.ok taken_223.a) fun a_239 => R.bind (R.ok taken_223.c) fun b_240 => R.ok (a_239, b_240)) fun o_241 => R.ok (some o_241)) fun chosen_242 => (R.ok (Fl.nx chosen_242))) else (R.ok (Fl.nx st_222)))) : R (Fl (Option (Int × (Option (T3 Int Int Int)))) (Option (Int × (Option (T3 Int Int Int))))))) (fun (st_222 : (Option (Int × (Option (T3 Int Int Int))))) => (R.bind (R.ok st_222) fun a_243 => R.ok (Fl.rt a_243))) xs_244 chosen_218))
def f_best_choice (weights_214 : (List Int)) (limit_215 : Int) (table_216 : (Dc (T3 Int Int Int) (Option Int))) (stage_217 : (T3 Int Int Int)) : R (Option (Int × (Option (T3 Int Int Int)))) := finR (b_best_choice weights_214 limit_215 table_216 stage_217)
def b_lengths_by (weights_245 : (List Int)) (limit_246 : Int) (table_247 : (Dc (T3 Int Int Int) (Option Int))) : R (Fl Unit (List Int)) :=
  (R.bind (R.bind (R.ok weights_245) fun a_248 => R.pu (f_ranks a_248)) fun order_249 => (R.bind (R.bind (R.bind (R.bind (R.ok (0 : Int)) fun a_250 => R.bind (R.ok ([] : List Int)) fun b_251 => R.ok (a_250 :: b_251)) szR) fun a_253 => R.bind (R.bind (R.ok weights_245) fun a_252 => R.ok (List.length a_252 : Int)) fun b_254 => repR a_253 b_254) fun lengths_255 => (R.bind (R.bind (R.bind (R.ok (0 : Int)) fun a_256 => R.bind (R.ok (0 : Int)) fun b_257 => R.bind (R.ok (1 : Int)) fun c_258 => R.ok (T3.mk a_256 b_257 c_258)) fun o_259 => R.ok (some o_259)) fun stage_260 => (whileR (fun (st_261 : ((List Int) × (Option (T3 Int Int Int)))) => (R.bind (R.ok st_261.2) fun a_262 => R.ok (Option.isSome a_262))) (fun (st_261 : ((List Int) × (Option (T3 Int Int Int)))) => ((R.bind (R.bind (R.bind (R.ok weights_245) fun a_263 => R.bind (R.ok limit_246) fun b_264 => R.bind (R.ok table_247) fun c_265 => R.bind (R.bind (R.ok st_261.2) getR) fun d_266 => R.pu (f_best_choice a_263 b_264 c_265 d_266)) getR) fun p_267 => (R.bind (R.bind (R.bind (R.bind (R.ok st_261.2) getR) fun a_268 => R.ok a_268.b) fun a_272 => R.bind (R.bind (R.bind (R.bind (R.ok st_261.2) getR) fun a_269 => R.ok a_269.b) fun a_270 => R.bind (R.ok p_267.1) fun b_271 => R.ok (a_270 + b_271)) fun b_273 => rng2R a_272 b_273) fun xs_283 => forR (fun (st_274 : (List Int)) (rank_275 : Int) => ((R.bind (R.bind (R.bind (R.ok st_261.2) getR) fun a_276 => R.ok a_276.a) fun y_280 => R.bind (R.bind (R.ok order_249) fun a_277 => R.bind (R.ok rank_275) fun b_278 => idxR a_277 b_278) fun k_281 => R.bind (setR st_274 k_281 y_280) fun lengths_279 => (R.ok (Fl.nx lengths_279))) : R (Fl (List Int) (List Int)))) (fun (st_274 : (List Int)) => (R.bind (R.ok p_267.2) fun stage_282 => (R.ok (Fl.nx (st_274, stage_282))))) xs_283 st_261.1)) : R (Fl ((List Int) × (Option (T3 Int Int Int))) (List Int)))) (fun (st_261 : ((List Int) × (Option (T3 Int Int Int)))) => (R.bind (R.ok st_261.1) fun a_284 => R.ok (Fl.rt a_284))) (1000) (lengths_255, stage_260)))))
def f_lengths_by (weights_245 : (List Int)) (limit_246 : Int) (table_247 : (Dc (T3 Int Int Int) (Option Int))) : R (List Int) := finR (b_lengths_by weights_245 limit_246 table_247)
def b_least_lengths (weights_285 : (List Int)) (limit_286 : Int) : R (Fl Unit (List Int)) :=
  (R.bind (R.bind (R.ok weights_285) fun a_289 => R.bind (R.ok limit_286) fun b_290 => R.bind (R.bind (R.bind (R.ok weights_285) fun a_287 => R.bind (R.ok limit_286) fun b_288 => R.pu (f_values a_287 b_288)) fun d => R.ok (Nd.d d)) fun c_291 => R.pu (f_lengths_by a_289 b_290 c_291)) fun a_292 => R.ok (Fl.rt a_292))
def f_least_lengths (weights_285 : (List Int)) (limit_286 : Int) : R (List Int) := finR (b_least_lengths weights_285 limit_286)
def b_paired (items_293 : (List (Int × (List Int)))) : R (Fl Unit (List (Int × (List Int)))) :=
  (R.bind (R.bind (R.ok ([] : List (Int × (List Int)))) szR) fun packages_294 => (R.bind (R.bind (R.ok (0 : Int)) fun a_298 => R.bind (R.bind (R.bind (R.ok items_293) fun a_295 => R.ok (List.length a_295 : Int)) fun a_296 => R.bind (R.ok (1 : Int)) fun b_297 => R.ok (a_296 - b_297)) fun b_299 => R.bind (R.ok (2 : Int)) fun c_300 => rng3R a_298 b_299 c_300) fun xs_328 => forR (fun (st_301 : (List (Int × (List Int)))) (k_302 : Int) => ((R.bind (R.bind (R.bind (R.bind (R.bind (R.ok items_293) fun a_304 => R.bind (R.ok k_302) fun b_305 => idxR a_304 b_305) fun a_306 => R.ok a_306.1) fun a_312 => R.bind (R.bind (R.bind (R.ok items_293) fun a_309 => R.bind (R.bind (R.ok k_302) fun a_307 => R.bind (R.ok (1 : Int)) fun b_308 => R.ok (a_307 + b_308)) fun b_310 => idxR a_309 b_310) fun a_311 => R.ok a_311.1) fun b_313 => R.ok (a_312 + b_313)) fun a_324 => R.bind (R.bind (R.bind (R.bind (R.ok items_293) fun a_314 => R.bind (R.ok k_302) fun b_315 => idxR a_314 b_315) fun a_316 => R.ok a_316.2) fun a_322 => R.bind (R.bind (R.bind (R.ok items_293) fun a_319 => R.bind (R.bind (R.ok k_302) fun a_317 => R.bind (R.ok (1 : Int)) fun b_318 => R.ok (a_317 + b_318)) fun b_320 => idxR a_319 b_320) fun a_321 => R.ok a_321.2) fun b_323 => szR (a_322 ++ b_323)) fun b_325 => R.ok (a_324, b_325)) fun y_326 => R.bind (szR (st_301 ++ [y_326])) fun packages_303 => (R.ok (Fl.nx packages_303))) : R (Fl (List (Int × (List Int))) (List (Int × (List Int)))))) (fun (st_301 : (List (Int × (List Int)))) => (R.bind (R.ok st_301) fun a_327 => R.ok (Fl.rt a_327))) xs_328 packages_294))
def f_paired (items_293 : (List (Int × (List Int)))) : R (List (Int × (List Int))) := finR (b_paired items_293)
def b_packaged_lengths (weights_329 : (List Int)) (limit_330 : Int) : R (Fl Unit (List Int)) :=
  (R.bind (R.bind (R.bind (R.ok weights_329) fun a_331 => R.ok (enumL a_331)) (lcR (fun symbol_332 => (R.ok true)) (fun symbol_332 => (R.bind (R.ok symbol_332.2) fun a_335 => R.bind (R.bind (R.bind (R.ok symbol_332.1) fun a_333 => R.bind (R.ok ([] : List Int)) fun b_334 => R.ok (a_333 :: b_334)) szR) fun b_336 => R.ok (a_335, b_336))))) fun coins_337 => (R.bind (R.bind (R.ok coins_337) sortR) fun coins_338 => (R.bind (R.ok coins_338) fun items_339 => (R.bind (R.bind (R.bind (R.ok limit_330) fun a_340 => R.bind (R.ok (1 : Int)) fun b_341 => R.ok (a_340 - b_341)) rng1R) fun xs_375 => forR (fun (st_343 : (List (Int × (List Int)))) (k_344 : Int) => ((R.bind (R.bind (R.bind (R.ok coins_338) fun a_346 => R.bind (R.bind (R.ok st_343) fun a_345 => R.pu (f_paired a_345)) fun b_347 => szR (a_346 ++ b_347)) sortR) fun items_348 => (R.ok (Fl.nx items_348))) : R (Fl (List (Int × (List Int))) (List Int)))) (fun (st_343 : (List (Int × (List Int)))) => (R.bind (R.bind (R.bind (R.bind (R.ok (0 : Int)) fun a_349 => R.bind (R.ok ([] : List Int)) fun b_350 => R.ok (a_349 :: b_350)) szR) fun a_352 => R.bind (R.bind (R.ok weights_329) fun a_351 => R.ok (List.length a_351 : Int)) fun b_353 => repR a_352 b_353) fun lengths_354 => (R.bind (R.bind (R.ok st_343) fun xs_361 => R.bind (R.ok none) fun lo_362 => R.bind (R.bind (R.bind (R.bind (R.ok (2 : Int)) fun a_356 => R.bind (R.bind (R.ok weights_329) fun a_355 => R.ok (List.length a_355 : Int)) fun b_357 => mulR a_356 b_357) fun a_358 => R.bind (R.ok (2 : Int)) fun b_359 => R.ok (a_358 - b_359)) fun a_360 => R.ok (some a_360)) fun hi_363 => R.ok (cut xs_361 lo_362 hi_363)) fun xs_374 => forR (fun (st_364 : (List Int)) (weight_365 : (Int × (List Int))) => ((R.bind (R.ok weight_365.2) fun xs_372 => forR (fun (st_366 : (List Int)) (symbol_367 : Int) => ((R.bind (R.ok symbol_367) fun k_369 => R.bind (ix0R st_366 k_369) fun w_370 => R.bind (R.ok (1 : Int)) fun x_371 => (fun lengths_368 => (R.ok (Fl.nx lengths_368))) (List.set st_366 (Int.toNat k_369) (w_370 + x_371))) : R (Fl (List Int) (List Int)))) (fun (st_366 : (List Int)) => (R.ok (Fl.nx st_366))) xs_372 st_364) : R (Fl (List Int) (List Int)))) (fun (st_364 : (List Int)) => (R.bind (R.ok st_364) fun a_373 => R.ok (Fl.rt a_373))) xs_374 lengths_354))) xs_375 items_339))))
def f_packaged_lengths (weights_329 : (List Int)) (limit_330 : Int) : R (List Int) := finR (b_packaged_lengths weights_329 limit_330)
def b__law_cell (script_376 : Scr) (k_377 : Int) : R (Fl Unit Int) :=
  (R.bind (R.bind (R.ok k_377) fun a_379 => R.bind (R.bind (R.bind (R.ok script_376) fun z => R.ok z.ns) fun a_378 => R.ok (List.length a_378 : Int)) fun b_380 => R.ok (decide (a_379 < b_380))) fun c_381 => if c_381 = true then (R.bind (R.bind (R.bind (R.ok script_376) fun z => R.ok z.ns) fun a_382 => R.bind (R.ok k_377) fun b_383 => idxR a_382 b_383) fun a_384 => R.ok (Fl.rt a_384)) else (R.bind (R.ok (0 : Int)) fun a_385 => R.ok (Fl.rt a_385)))
def f__law_cell (script_376 : Scr) (k_377 : Int) : R Int := finR (b__law_cell script_376 k_377)
def b__law_weights (script_386 : Scr) (first_387 : Int) (many_388 : Int) : R (Fl Unit (List Int)) :=
  (R.bind (R.bind (R.ok ([] : List Int)) szR) fun weights_here_389 => (R.bind (R.bind (R.ok many_388) rng1R) fun xs_436 => forR (fun (st_391 : (List Int)) (k_392 : Int) => ((R.bind (R.bind (R.ok script_386) fun a_395 => R.bind (R.bind (R.ok first_387) fun a_393 => R.bind (R.ok k_392) fun b_394 => R.ok (a_393 + b_394)) fun b_396 => R.pu (f__law_cell a_395 b_396)) fun cell_here_397 => (R.bind (R.bind (R.ok cell_here_397) fun a_398 => R.bind (R.ok (9 : Int)) fun b_399 => modR a_398 b_399) fun weight_400 => (seqF ((R.bind (R.bind (R.bind (R.ok cell_here_397) fun a_401 => R.bind (R.ok (5 : Int)) fun b_402 => modR a_401 b_402) fun a_403 => R.bind (R.ok (1 : Int)) fun b_404 => R.ok (decide (a_403 = b_404))) fun c_405 => if c_405 = true then (R.bind (R.bind (R.bind (R.ok cell_here_397) fun a_412 => R.bind (R.ok (5 : Int)) fun b_413 => divR a_412 b_413) fun a_414 => R.bind (R.ok (100 : Int)) fun b_415 => modR a_414 b_415) fun weight_416 => (R.ok (Fl.nx weight_416))) else (R.ok (Fl.nx weight_400))) : R (Fl Int (List Int))) fun st_411 => (seqF ((R.bind (R.bind (R.bind (R.ok cell_here_397) fun a_417 => R.bind (R.ok (23 : Int)) fun b_418 => modR a_417 b_418) fun a_419 => R.bind (R.ok (7 : Int)) fun b_420 => R.ok (decide (a_419 = b_420))) fun c_421 => if c_421 = true then (R.bind (R.bind (R.bind (R.ok cell_here_397) fun a_428 => R.bind (R.ok (23 : Int)) fun b_429 => divR a_428 b_429) fun a_430 => R.bind (R.ok (1000001 : Int)) fun b_431 => modR a_430 b_431) fun weight_432 => (R.ok (Fl.nx weight_432))) else (R.ok (Fl.nx st_411))) : R (Fl Int (List Int))) fun st_427 => (R.bind (R.ok st_427) fun y_434 => R.bind (szR (st_391 ++ [y_434])) fun weights_here_433 => (R.ok (Fl.nx weights_here_433))))))) : R (Fl (List Int) (List Int)))) (fun (st_391 : (List Int)) => (R.bind (R.ok st_391) fun a_435 => R.ok (Fl.rt a_435))) xs_436 weights_here_389))
def f__law_weights (script_386 : Scr) (first_387 : Int) (many_388 : Int) : R (List Int) := finR (b__law_weights script_386 first_387 many_388)
def b__law_least_limit (many_437 : Int) : R (Fl Unit Int) :=
  (R.bind (R.ok (1 : Int)) fun limit_438 => (R.bind (R.bind (R.ok (6 : Int)) rng1R) fun xs_451 => forR (fun (st_440 : Int) (turn_441 : Int) => ((R.bind (R.bind (R.bind (R.ok (1 : Int)) fun a_442 => R.bind (R.ok st_440) fun b_443 => shlR a_442 b_443) fun a_444 => R.bind (R.ok many_437) fun b_445 => R.ok (decide (a_444 < b_445))) fun c_446 => if c_446 = true then (R.bind (R.bind (R.ok st_440) fun a_447 => R.bind (R.ok (1 : Int)) fun b_448 => R.ok (a_447 + b_448)) fun limit_449 => (R.ok (Fl.nx limit_449))) else (R.ok (Fl.nx st_440))) : R (Fl Int Int))) (fun (st_440 : Int) => (R.bind (R.ok st_440) fun a_450 => R.ok (Fl.rt a_450))) xs_451 limit_438))
def f__law_least_limit (many_437 : Int) : R Int := finR (b__law_least_limit many_437)
def b__law_joined (weights_here_452 : (List Int)) : R (Fl Unit Int) :=
  (R.bind (R.bind (R.ok weights_here_452) sortR) fun left_453 => (R.bind (R.ok (0 : Int)) fun price_454 => (R.bind (R.bind (R.bind (R.bind (R.ok weights_here_452) fun a_455 => R.ok (List.length a_455 : Int)) fun a_456 => R.bind (R.ok (1 : Int)) fun b_457 => R.ok (a_456 - b_457)) rng1R) fun xs_481 => forR (fun (st_459 : ((List Int) × Int)) (turn_460 : Int) => ((R.bind (R.bind (R.bind (R.ok st_459.1) fun a_461 => R.bind (R.ok (0 : Int)) fun b_462 => idxR a_461 b_462) fun a_465 => R.bind (R.bind (R.ok st_459.1) fun a_463 => R.bind (R.ok (1 : Int)) fun b_464 => idxR a_463 b_464) fun b_466 => R.ok (a_465 + b_466)) fun both_467 => (R.bind (R.bind (R.ok st_459.2) fun a_468 => R.bind (R.ok both_467) fun b_469 => R.ok (a_468 + b_469)) fun price_470 => (R.bind (R.bind (R.bind (R.bind (R.ok st_459.1) fun xs_472 => R.bind (R.bind (R.ok (2 : Int)) fun a_471 => R.ok (some a_471)) fun lo_473 => R.bind (R.ok none) fun hi_474 => R.ok (cut xs_472 lo_473 hi_474)) fun a_477 => R.bind (R.bind (R.bind (R.ok both_467) fun a_475 => R.bind (R.ok ([] : List Int)) fun b_476 => R.ok (a_475 :: b_476)) szR) fun b_478 => szR (a_477 ++ b_478)) sortR) fun left_479 => (R.ok (Fl.nx (left_479, price_470)))))) : R (Fl ((List Int) × Int) Int))) (fun (st_459 : ((List Int) × Int)) => (R.bind (R.ok st_459.2) fun a_480 => R.ok (Fl.rt a_480))) xs_481 (left_453, price_454))))
def f__law_joined (weights_here_452 : (List Int)) : R Int := finR (b__law_joined weights_here_452)
def b_law (script_482 : Scr) : R (Fl Unit Bool) :=
  (R.bind (R.bind (R.ok (2 : Int)) fun a_487 => R.bind (R.bind (R.bind (R.ok script_482) fun a_483 => R.bind (R.ok (0 : Int)) fun b_484 => R.pu (f__law_cell a_483 b_484)) fun a_485 => R.bind (R.ok (15 : Int)) fun b_486 => modR a_485 b_486) fun b_488 => R.ok (a_487 + b_488)) fun many_489 => (R.bind (R.bind (R.ok script_482) fun a_490 => R.bind (R.ok (2 : Int)) fun b_491 => R.bind (R.ok many_489) fun c_492 => R.pu (f__law_weights a_490 b_491 c_492)) fun weights_here_493 => (R.bind (R.bind (R.ok (16 : Int)) fun a_501 => R.bind (R.bind (R.bind (R.ok many_489) fun a_494 => R.pu (f__law_least_limit a_494)) fun a_499 => R.bind (R.bind (R.bind (R.ok script_482) fun a_495 => R.bind (R.ok (1 : Int)) fun b_496 => R.pu (f__law_cell a_495 b_496)) fun a_497 => R.bind (R.ok (4 : Int)) fun b_498 => modR a_497 b_498) fun b_500 => R.ok (a_499 + b_500)) fun b_502 => R.ok (min a_501 b_502)) fun limit_503 => (R.bind (R.ok weights_here_493) fun given_504 => (R.bind (R.bind (R.ok given_504) fun a_505 => R.bind (R.ok limit_503) fun b_506 => R.pu (f_packaged_lengths a_505 b_506)) fun found_507 => (R.bind (R.bind (R.bind (R.ok given_504) fun a_508 => R.bind (R.ok weights_here_493) fun b_509 => R.bind (eqR a_508 b_509) fun c => R.ok (!c)) fun c_523 => if c_523 = true then R.ok true else (R.bind (R.bind (R.bind (R.ok found_507) fun a_510 => R.ok (List.length a_510 : Int)) fun a_511 => R.bind (R.ok many_489) fun b_512 => R.ok (!decide (a_511 = b_512))) fun c_522 => if c_522 = true then R.ok true else (R.bind (R.bind (R.bind (R.ok found_507) fun a_513 => R.pu (f_room a_513)) fun a_514 => R.bind (R.ok (0 : Int)) fun b_515 => R.ok (decide (a_514 < b_515))) fun c_521 => if c_521 = true then R.ok true else (R.bind (R.bind (R.bind (R.ok found_507) minR) fun a_516 => R.bind (R.ok (1 : Int)) fun b_517 => R.ok (decide (a_516 < b_517))) fun c_520 => if c_520 = true then R.ok true else (R.bind (R.bind (R.ok found_507) maxR) fun a_518 => R.bind (R.ok limit_503) fun b_519 => R.ok (decide (b_519 < a_518))))))) fun c_524 => if c_524 = true then (R.bind (R.ok false) fun a_525 => R.ok (Fl.rt a_525)) else (R.bind (R.bind (R.bind (R.ok weights_here_493) fun a_526 => R.bind (R.ok found_507) fun b_527 => R.pu (f_cost a_526 b_527)) fun a_532 => R.bind (R.bind (R.ok weights_here_493) fun a_530 => R.bind (R.bind (R.ok weights_here_493) fun a_528 => R.bind (R.ok limit_503) fun b_529 => R.pu (f_least_lengths a_528 b_529)) fun b_531 => R.pu (f_cost a_530 b_531)) fun b_533 => R.ok (!decide (a_532 = b_533))) fun c_534 => if c_534 = true then (R.bind (R.ok false) fun a_535 => R.ok (Fl.rt a_535)) else (R.bind (R.bind (R.ok (2 : Int)) fun a_540 => R.bind (R.bind (R.bind (R.ok script_482) fun a_536 => R.bind (R.ok (18 : Int)) fun b_537 => R.pu (f__law_cell a_536 b_537)) fun a_538 => R.bind (R.ok (39 : Int)) fun b_539 => modR a_538 b_539) fun b_541 => R.ok (a_540 + b_541)) fun many_542 => (R.bind (R.bind (R.bind (R.ok many_542) rng1R) (lcR (fun k_544 => (R.ok true)) (fun k_544 => (R.bind (R.ok (1 : Int)) fun a_551 => R.bind (R.bind (R.bind (R.ok script_482) fun a_547 => R.bind (R.bind (R.ok (19 : Int)) fun a_545 => R.bind (R.ok k_544) fun b_546 => R.ok (a_545 + b_546)) fun b_548 => R.pu (f__law_cell a_547 b_548)) fun a_549 => R.bind (R.ok (200 : Int)) fun b_550 => modR a_549 b_550) fun b_552 => R.ok (a_551 + b_552))))) fun weights_here_553 => (R.bind (R.bind (R.ok weights_here_553) fun a_554 => R.bind (R.ok (20 : Int)) fun b_555 => R.pu (f_packaged_lengths a_554 b_555)) fun found_556 => (R.bind (R.bind (R.bind (R.bind (R.ok found_556) fun a_557 => R.ok (List.length a_557 : Int)) fun a_558 => R.bind (R.ok many_542) fun b_559 => R.ok (!decide (a_558 = b_559))) fun c_569 => if c_569 = true then R.ok true else (R.bind (R.bind (R.bind (R.ok found_556) fun a_560 => R.pu (f_room a_560)) fun a_561 => R.bind (R.ok (0 : Int)) fun b_562 => R.ok (decide (a_561 < b_562))) fun c_568 => if c_568 = true then R.ok true else (R.bind (R.bind (R.bind (R.ok found_556) minR) fun a_563 => R.bind (R.ok (1 : Int)) fun b_564 => R.ok (decide (a_563 < b_564))) fun c_567 => if c_567 = true then R.ok true else (R.bind (R.bind (R.ok found_556) maxR) fun a_565 => R.bind (R.ok (20 : Int)) fun b_566 => R.ok (decide (b_566 < a_565)))))) fun c_570 => if c_570 = true then (R.bind (R.ok false) fun a_571 => R.ok (Fl.rt a_571)) else (R.bind (R.bind (R.bind (R.ok weights_here_553) fun a_572 => R.bind (R.ok found_556) fun b_573 => R.pu (f_cost a_572 b_573)) fun a_575 => R.bind (R.bind (R.ok weights_here_553) fun a_574 => R.pu (f__law_joined a_574)) fun b_576 => R.ok (decide (a_575 = b_576))) fun a_577 => R.ok (Fl.rt a_577)))))))))))))
def f_law (script_482 : Scr) : R Bool := finR (b_law script_482)
/-! ### the defs compute it -/
section
variable {P : Program} {w : World} {cf : Cf} {mg : Str → Option Value} {base : Heap} (T : Txt P w cf mg base)
theorem sc_room : FnScope ["lengths", "length"] ["lengths"] (defScope s_room) := ⟨rfl, rfl, rfl, by decide +kernel, rfl, by decide +kernel, by decide +kernel⟩
theorem ok_room : FnOk P w cf.K mg base CX0 1 T.a_room T.d_room ["lengths"] (SpP cf 1 (sp1 f_room)) := by
  refine fn1 (k := 0) (S := Unit) (enc := fun _ => [.un, .un]) T.F_room sc_room rfl b_room (fun lengths_1 => [.va (toD (lengths_1 : (List Int))), .un]) (fun _ => rfl) fun cdv A outer s H E hr => ?_
  refine ⟨_, (pss_one (ps_ret (pe_op op_sub (pe_op op_shlW pe_int (pe_glob (v := .int 20) (by rfl) T.c_GREATEST ⟨_, rfl⟩)) (pe_callB (sumK cf.K rfl rfl) (by rfl) T.n_sum (by decide +kernel) (pa_cons (pe_lc (own := [("length", 1)]) rfl sc_room.nd (listI cf.K rfl (pv 0)) (blkOk_by (own := [("length", 1)]) (N := ["lengths", "length"]) (sc := defScope s_room) (by decide +kernel)) (fun _ _ _ _ _ => (pg_name (i := 1) sc_room.nd rfl (Or.inl rfl) (Or.inr rfl))) (fun _ _ _ _ _ => (pts_one (pt_cmpR op_gt (pv 1) pe_int (nomark _)))) (fun _ _ _ _ _ => (pe_op op_shlW pe_int (pe_op op_sub (pe_glob (v := .int 20) (by rfl) T.c_GREATEST ⟨_, rfl⟩) (pv 1))))) pa_nil))))), fun lengths_1 => ?_⟩
  unfold b_room
  exact (sb_ret (em_I0 (em_shl (em_int 1) (em_int 20)) (em_sum (EF.toS (ef_lc (vs := [1]) (Gi := fun length_4 => [.va (toD (lengths_1 : (List Int))), .va (toD (length_4 : Int))]) (ig_list (EM.toZ (em_var 0 lengths_1 rfl))) (ag_name 1) (by decide) (fun _ => rfl) (fun length_4 => (eb_test (em_B0 (em_var 1 length_4 rfl) (em_int 0)))) (fun length_4 => (em_shl (em_int 1) (em_I0 (em_int 20) (em_var 1 length_4 rfl)))))))))
theorem sc_ranks : FnScope ["weights", "weight", "symbol", "k"] ["weights"] (defScope s_ranks) := ⟨rfl, rfl, rfl, by decide +kernel, rfl, by decide +kernel, by decide +kernel⟩
theorem ok_ranks : FnOk P w cf.K mg base CX0 1 T.a_ranks T.d_ranks ["weights"] (SpP cf 1 (sp1 f_ranks)) := by
  refine fn1 (k := 0) (S := Unit) (enc := fun _ => [.un, .un, .un, .un]) T.F_ranks sc_ranks rfl b_ranks (fun weights_15 => [.va (toD (weights_15 : (List Int))), .un, .un, .un]) (fun _ => rfl) fun cdv A outer s H E hr => ?_
  refine ⟨_, (pss_one (ps_ret (pe_lc (own := [("weight", 1), ("symbol", 2)]) rfl sc_ranks.nd (listI cf.K rfl (pe_callB (sortedK cf.K rfl hr.units) (by rfl) T.n_sorted (by decide +kernel) (pa_cons (pe_lc (own := [("k", 3)]) rfl sc_ranks.nd (pi_range1 (by rfl) T.n_range (pa_cons (pe_callB (lenK cf.K rfl) (by rfl) T.n_len (by decide +kernel) (pa_cons (pv 0) pa_nil)) pa_nil)) (blkOk_by (own := [("k", 3)]) (N := ["weights", "weight", "symbol", "k"]) (sc := defScope s_ranks) (by decide +kernel)) (fun _ _ _ _ _ => (pg_name (i := 3) sc_ranks.nd rfl (Or.inl rfl) (Or.inr rfl))) (fun _ _ _ _ _ => pts_nil) (fun _ _ _ _ _ => (pe_tup (pa_cons (pe_un un_neg (pe_ix (ix_listK cf.K rfl) (pv 0) (pv 3) (fun _ _ => rfl))) (pa_cons (pv 3) pa_nil))))) pa_nil))) (blkOk_by (own := [("weight", 1), ("symbol", 2)]) (N := ["weights", "weight", "symbol", "k"]) (sc := defScope s_ranks) (by decide +kernel)) (fun _ _ _ _ _ => (tupK cf.K rfl 2 rfl (pgs_cons (pg_name (i := 1) sc_ranks.nd rfl (Or.inl rfl) (Or.inr rfl)) (pgs_cons (pg_name (i := 2) sc_ranks.nd rfl (Or.inl rfl) (Or.inr rfl)) pgs_nil)))) (fun _ _ _ _ _ => pts_nil) (fun _ _ _ _ _ => (pv 2))))), fun weights_15 => ?_⟩
  unfold b_ranks
  exact (sb_ret (EF.toM (ef_lc (vs := [1, 2]) (Gi := fun weight_24 => [.va (toD (weights_15 : (List Int))), .va (toD (weight_24.1 : Int)), .va (toD (weight_24.2 : Int)), .un]) (ig_list (EF.toZ (ef_sorted (EF.toS (ef_lc (vs := [3]) (Gi := fun k_18 => [.va (toD (weights_15 : (List Int))), .un, .un, .va (toD (k_18 : Int))]) (ig_range1 (em_len (EM.toS (em_var 0 weights_15 rfl)))) (ag_name 3) (by decide) (fun _ => rfl) (fun k_18 => eb_yes) (fun k_18 => (em_tup2 (em_neg (em_ixL (EM.toS (em_var 0 weights_15 rfl)) (em_var 3 k_18 rfl))) (em_var 3 k_18 rfl)))))))) (ag_t2 (ag_name 1) (ag_name 2)) (by decide) (fun _ => rfl) (fun weight_24 => eb_yes) (fun weight_24 => (em_var 2 weight_24.2 rfl)))))
theorem sc_cost : FnScope ["weights", "lengths", "weight", "length"] ["weights", "lengths"] (defScope s_cost) := ⟨rfl, rfl, rfl, by decide +kernel, rfl, by decide +kernel, by decide +kernel⟩
theorem ok_cost : FnOk P w cf.K mg base CX0 1 T.a_cost T.d_cost ["weights", "lengths"] (SpP cf 2 (sp2 f_cost)) := by
  refine fn2 (k := 0) (S := Unit) (enc := fun _ => [.un, .un, .un, .un]) T.F_cost sc_cost rfl b_cost (fun weights_26 lengths_27 => [.va (toD (weights_26 : (List Int))), .va (toD (lengths_27 : (List Int))), .un, .un]) (fun _ _ => rfl) fun cdv A outer s H E hr => ?_
  refine ⟨_, (pss_one (ps_ret (pe_callB (sumK cf.K rfl rfl) (by rfl) T.n_sum (by decide +kernel) (pa_cons (pe_lc (own := [("weight", 2), ("length", 3)]) rfl sc_cost.nd (zipI cf.K rfl (by rfl) T.n_zip (pa_cons (pv 0) (pa_cons (pv 1) pa_nil))) (blkOk_by (own := [("weight", 2), ("length", 3)]) (N := ["weights", "lengths", "weight", "length"]) (sc := defScope s_cost) (by decide +kernel)) (fun _ _ _ _ _ => (tupK cf.K rfl 2 rfl (pgs_cons (pg_name (i := 2) sc_cost.nd rfl (Or.inl rfl) (Or.inr rfl)) (pgs_cons (pg_name (i := 3) sc_cost.nd rfl (Or.inl rfl) (Or.inr rfl)) pgs_nil)))) (fun _ _ _ _ _ => pts_nil) (fun _ _ _ _ _ => (pe_op op_mulX (pv 2) (pv 3)))) pa_nil)))), fun weights_26 lengths_27 => ?_⟩
  unfold b_cost
  exact (sb_ret (em_sum (EF.toS (ef_lc (vs := [2, 3]) (Gi := fun weight_30 => [.va (toD (weights_26 : (List Int))), .va (toD (lengths_27 : (List Int))), .va (toD (weight_30.1 : Int)), .va (toD (weight_30.2 : Int))]) (ig_zip (EM.toZ (em_var 0 weights_26 rfl)) (EM.toZ (em_var 1 lengths_27 rfl))) (ag_t2 (ag_name 2) (ag_name 3)) (by decide) (fun _ => rfl) (fun weight_30 => eb_yes) (fun weight_30 => (em_mul (em_var 2 weight_30.1 rfl) (em_var 3 weight_30.2 rfl)))))))
theorem sc_rests : FnScope ["weights", "total", "result", "symbol"] ["weights"] (defScope s_rests) := ⟨rfl, rfl, rfl, by decide +kernel, rfl, by decide +kernel, by decide +kernel⟩
theorem ok_rests : FnOk P w cf.K mg base CX0 2 T.a_rests T.d_rests ["weights"] (SpP cf 1 (sp1 f_rests)) := by
  refine fn1 (k := 1) (S := Unit) (enc := fun _ => [.un, .un, .un, .un]) T.F_rests sc_rests rfl b_rests (fun weights_35 => [.va (toD (weights_35 : (List Int))), .un, .un, .un]) (fun _ => rfl) fun cdv A outer s H E hr => ?_
  refine ⟨_, (pss_cons (ps_set (i := 1) sc_rests.nd rfl (.inl rfl) (pe_callB (sumK cf.K rfl rfl) (by rfl) T.n_sum (by decide +kernel) (pa_cons (pv 0) pa_nil))) (pss_cons (ps_set (i := 2) sc_rests.nd rfl (.inl rfl) (pe_lst (pa_cons (pv 1) pa_nil))) (pss_cons (ps_for PassesOwn.never rfl (listI cf.K rfl (pe_call (ok_ranks T) (hr.mono (by decide)) (by rfl) T.g_ranks T.F_ranks.kp T.b_ranks .nil pass0 (pa_cons (pv 0) pa_nil))) (pg_name (i := 3) sc_rests.nd rfl (.inl rfl)) (pss_cons (ps_aug (i := 1) sc_rests.nd rfl (.inl rfl) (pe_ix (ix_listK cf.K rfl) (pv 0) (pv 3) (fun _ _ => rfl)) iop_sub) (pss_one (ps_expr (pe_bm PySem.F.plainAttrs_list PySem.F.slot_list_append PySem.F.type_list_append mt_append (pv 2) (pa_cons (pv 1) pa_nil)))))) (pss_one (ps_ret (pv 2)))))), fun weights_35 => ?_⟩
  unfold b_rests
  exact (sb_asg (em_sum (EM.toS (em_var 0 weights_35 rfl))) (ag_name 1) (fun total_37 => [.va (toD (weights_35 : (List Int))), .va (toD (total_37 : Int)), .un, .un]) (fun _ => rfl) (fun total_37 => (sb_asgO (ef_lst (eas_cons (em_var 1 total_37 rfl) (eas_nil (α := Int)))) (fun result_40 => [.va (toD (weights_35 : (List Int))), .va (toD (total_37 : Int)), .ol (List.map toD (result_40 : (List Int))), .un]) (fun _ => rfl) (fun result_40 => (sb_for (T := (Int × (List Int))) (encL := fun st_42 => [.va (toD (weights_35 : (List Int))), .va (toD (st_42.1 : Int)), .ol (List.map toD (st_42.2 : (List Int))), .un]) (ig_list (EM.toZ (em_call1 (em_var 0 weights_35 rfl)))) (ag_name 3) (total_37, result_40) (.same (.same (.same (.same .nil)))) (fun st_42 symbol_43 => [.va (toD (weights_35 : (List Int))), .va (toD (st_42.1 : Int)), .ol (List.map toD (st_42.2 : (List Int))), .va (toD (symbol_43 : Int))]) (fun _ _ => rfl) (fun st_42 symbol_43 => (sb_aug (em_I0 (em_var 1 st_42.1 rfl) (em_ixL (EM.toS (em_var 0 weights_35 rfl)) (em_var 3 symbol_43 rfl))) (fun total_48 => [.va (toD (weights_35 : (List Int))), .va (toD (total_48 : Int)), .ol (List.map toD (st_42.2 : (List Int))), .va (toD (symbol_43 : Int))]) (fun _ => rfl) (fun total_48 => (sb_one (sb_app (i := 2) (xs := st_42.2) rfl (em_var 1 total_48 rfl) (fun result_49 => [.va (toD (weights_35 : (List Int))), .va (toD (total_48 : Int)), .ol (List.map toD (result_49 : (List Int))), .va (toD (symbol_43 : Int))]) (fun _ => rfl) (fun result_49 => (sb_next (total_48, result_49) (.same (.same (.same (.drop .nil))))))))))) (fun st_42 => (sb_frz (i := 2) rfl ([.va (toD (weights_35 : (List Int))), .va (toD (st_42.1 : Int)), .va (toD (st_42.2 : (List Int))), .un]) rfl (sb_ret (em_var 2 st_42.2 rfl)))))))))
theorem sc_choices_by : FnScope ["sums", "limit", "stage", "left", "first", "last", "result", "taken", "depth", "done", "free", "following"] ["sums", "limit", "stage"] (defScope s_choices_by) := ⟨rfl, rfl, rfl, by decide +kernel, rfl, by decide +kernel, by decide +kernel⟩
theorem ok_choices_by : FnOk P w cf.K mg base CX0 1 T.a_choices_by T.d_choices_by ["sums", "limit", "stage"] (SpP cf 3 (sp3 f_choices_by)) := by
  refine fn3 (k := 0) (S := Unit) (enc := fun _ => [.un, .un, .un, .un, .un, .un, .un, .un, .un, .un, .un, .un]) T.F_choices_by sc_choices_by rfl b_choices_by (fun sums_53 limit_54 stage_55 => [.va (toD (sums_53 : (List Int))), .va (toD (limit_54 : Int)), .va (toD (stage_55 : (T3 Int Int Int))), .un, .un, .un, .un, .un, .un, .un, .un, .un]) (fun _ _ _ => rfl) fun cdv A outer s H E hr => ?_
  refine ⟨_, (pss_cons (ps_asg (pv 2) (tupK cf.K rfl 3 rfl (pgs_cons (pg_name (i := 8) sc_choices_by.nd rfl (.inl rfl)) (pgs_cons (pg_name (i := 9) sc_choices_by.nd rfl (.inl rfl)) (pgs_cons (pg_name (i := 10) sc_choices_by.nd rfl (.inl rfl)) pgs_nil))))) (pss_cons (ps_set (i := 3) sc_choices_by.nd rfl (.inl rfl) (pe_op op_sub (pe_op op_sub (pe_callB (lenK cf.K rfl) (by rfl) T.n_len (by decide +kernel) (pa_cons (pv 0) pa_nil)) pe_int) (pv 9))) (pss_cons (ps_set (i := 4) sc_choices_by.nd rfl (.inl rfl) pe_int) (pss_cons (ps_set (i := 5) sc_choices_by.nd rfl (.inl rfl) (pe_callB (call_min2 rfl) (by rfl) T.n_min (by decide +kernel) (pa_cons (pv 10) (pa_cons (pv 3) pa_nil)))) (pss_cons (ps_if (pt_cmpR op_eq (pv 8) pe_int (nomark _)) (pss_one (ps_set (i := 5) sc_choices_by.nd rfl (.inl rfl) pe_int)) pss_nil) (pss_cons (ps_if (pt_cmpR op_eq (pv 8) (pv 1) (nomark _)) (pss_one (ps_set (i := 4) sc_choices_by.nd rfl (.inl rfl) (pv 3))) pss_nil) (pss_cons (ps_set (i := 6) sc_choices_by.nd rfl (.inl rfl) (pe_lst pa_nil)) (pss_cons (ps_for PassesOwn.never rfl (pi_range2 (by rfl) T.n_range (pa_cons (pv 4) (pa_cons (pe_op op_add (pv 5) pe_int) pa_nil))) (pg_name (i := 7) sc_choices_by.nd rfl (.inl rfl)) (pss_one (ps_if (pt_cmpR op_eq (pv 7) (pv 3) (nomark _)) (pss_one (ps_expr (pe_bm PySem.F.plainAttrs_list PySem.F.slot_list_append PySem.F.type_list_append mt_append (pv 6) (pa_cons (pe_tup (pa_cons (pv 7) (pa_cons pe_int (pa_cons pe_non pa_nil)))) pa_nil)))) (pss_one (ps_if (pt_cmpR op_lt (pv 7) (pv 10) (nomark _)) (pss_cons (ps_set (i := 11) sc_choices_by.nd rfl (.inl rfl) (pe_tup (pa_cons (pe_op op_add (pv 8) pe_int) (pa_cons (pe_op op_add (pv 9) (pv 7)) (pa_cons (pe_callB (call_min2 rfl) (by rfl) T.n_min (by decide +kernel) (pa_cons (pe_op op_mulX pe_int (pe_op op_sub (pv 10) (pv 7))) (pa_cons (pe_op op_sub (pv 3) (pv 7)) pa_nil))) pa_nil))))) (pss_one (ps_expr (pe_bm PySem.F.plainAttrs_list PySem.F.slot_list_append PySem.F.type_list_append mt_append (pv 6) (pa_cons (pe_tup (pa_cons (pv 7) (pa_cons (pe_ix (ix_listK cf.K rfl) (pv 0) (pe_op op_add (pv 9) (pv 7)) (fun _ _ => rfl)) (pa_cons (pv 11) pa_nil)))) pa_nil))))) pss_nil))))) (pss_one (ps_ret (pv 6))))))))))), fun sums_53 limit_54 stage_55 => ?_⟩
  unfold b_choices_by
  exact (sb_asg (em_var 2 stage_55 rfl) (ag_t3 (ag_name 8) (ag_name 9) (ag_name 10)) (fun p_56 => [.va (toD (sums_53 : (List Int))), .va (toD (limit_54 : Int)), .va (toD (stage_55 : (T3 Int Int Int))), .un, .un, .un, .un, .un, .va (toD (p_56.a : Int)), .va (toD (p_56.b : Int)), .va (toD (p_56.c : Int)), .un]) (fun _ => rfl) (fun p_56 => (sb_asg (em_I0 (em_I0 (em_len (EM.toS (em_var 0 sums_53 rfl))) (em_int 1)) (em_var 9 p_56.b rfl)) (ag_name 3) (fun left_62 => [.va (toD (sums_53 : (List Int))), .va (toD (limit_54 : Int)), .va (toD (stage_55 : (T3 Int Int Int))), .va (toD (left_62 : Int)), .un, .un, .un, .un, .va (toD (p_56.a : Int)), .va (toD (p_56.b : Int)), .va (toD (p_56.c : Int)), .un]) (fun _ => rfl) (fun left_62 => (sb_asg (em_int 0) (ag_name 4) (fun first_63 => [.va (toD (sums_53 : (List Int))), .va (toD (limit_54 : Int)), .va (toD (stage_55 : (T3 Int Int Int))), .va (toD (left_62 : Int)), .va (toD (first_63 : Int)), .un, .un, .un, .va (toD (p_56.a : Int)), .va (toD (p_56.b : Int)), .va (toD (p_56.c : Int)), .un]) (fun _ => rfl) (fun first_63 => (sb_asg (em_min2 (em_var 10 p_56.c rfl) (em_var 3 left_62 rfl)) (ag_name 5) (fun last_66 => [.va (toD (sums_53 : (List Int))), .va (toD (limit_54 : Int)), .va (toD (stage_55 : (T3 Int Int Int))), .va (toD (left_62 : Int)), .va (toD (first_63 : Int)), .va (toD (last_66 : Int)), .un, .un, .va (toD (p_56.a : Int)), .va (toD (p_56.b : Int)), .va (toD (p_56.c : Int)), .un]) (fun _ => rfl) (fun last_66 => (sb_seq (T := Int) (enc1 := fun st_71 => [.va (toD (sums_53 : (List Int))), .va (toD (limit_54 : Int)), .va (toD (stage_55 : (T3 Int Int Int))), .va (toD (left_62 : Int)), .va (toD (first_63 : Int)), .va (toD (st_71 : Int)), .un, .un, .va (toD (p_56.a : Int)), .va (toD (p_56.b : Int)), .va (toD (p_56.c : Int)), .un]) (sb_ifL (eb_test (em_eqI (em_var 8 p_56.a rfl) (em_int 0))) (sb_one (sb_asg (em_int 0) (ag_name 5) (fun last_72 => [.va (toD (sums_53 : (List Int))), .va (toD (limit_54 : Int)), .va (toD (stage_55 : (T3 Int Int Int))), .va (toD (left_62 : Int)), .va (toD (first_63 : Int)), .va (toD (last_72 : Int)), .un, .un, .va (toD (p_56.a : Int)), .va (toD (p_56.b : Int)), .va (toD (p_56.c : Int)), .un]) (fun _ => rfl) (fun last_72 => (sb_next last_72 (.same (.same (.same (.same (.same (.same (.same (.same (.same (.same (.same (.same .nil)))))))))))))))) (sb_next last_66 (.same (.same (.same (.same (.same (.same (.same (.same (.same (.same (.same (.same .nil)))))))))))))) (fun st_71 => (sb_seq (T := Int) (enc1 := fun st_77 => [.va (toD (sums_53 : (List Int))), .va (toD (limit_54 : Int)), .va (toD (stage_55 : (T3 Int Int Int))), .va (toD (left_62 : Int)), .va (toD (st_77 : Int)), .va (toD (st_71 : Int)), .un, .un, .va (toD (p_56.a : Int)), .va (toD (p_56.b : Int)), .va (toD (p_56.c : Int)), .un]) (sb_ifL (eb_test (em_eqI (em_var 8 p_56.a rfl) (em_var 1 limit_54 rfl))) (sb_one (sb_asg (em_var 3 left_62 rfl) (ag_name 4) (fun first_78 => [.va (toD (sums_53 : (List Int))), .va (toD (limit_54 : Int)), .va (toD (stage_55 : (T3 Int Int Int))), .va (toD (left_62 : Int)), .va (toD (first_78 : Int)), .va (toD (st_71 : Int)), .un, .un, .va (toD (p_56.a : Int)), .va (toD (p_56.b : Int)), .va (toD (p_56.c : Int)), .un]) (fun _ => rfl) (fun first_78 => (sb_next first_78 (.same (.same (.same (.same (.same (.same (.same (.same (.same (.same (.same (.same .nil)))))))))))))))) (sb_next first_63 (.same (.same (.same (.same (.same (.same (.same (.same (.same (.same (.same (.same .nil)))))))))))))) (fun st_77 => (sb_asgO (ef_lst (eas_nil (α := (T3 Int Int (Option (T3 Int Int Int)))))) (fun result_79 => [.va (toD (sums_53 : (List Int))), .va (toD (limit_54 : Int)), .va (toD (stage_55 : (T3 Int Int Int))), .va (toD (left_62 : Int)), .va (toD (st_77 : Int)), .va (toD (st_71 : Int)), .ol (List.map toD (result_79 : (List (T3 Int Int (Option (T3 Int Int Int)))))), .un, .va (toD (p_56.a : Int)), .va (toD (p_56.b : Int)), .va (toD (p_56.c : Int)), .un]) (fun _ => rfl) (fun result_79 => (sb_for (T := (List (T3 Int Int (Option (T3 Int Int Int))))) (encL := fun st_84 => [.va (toD (sums_53 : (List Int))), .va (toD (limit_54 : Int)), .va (toD (stage_55 : (T3 Int Int Int))), .va (toD (left_62 : Int)), .va (toD (st_77 : Int)), .va (toD (st_71 : Int)), .ol (List.map toD (st_84 : (List (T3 Int Int (Option (T3 Int Int Int)))))), .un, .va (toD (p_56.a : Int)), .va (toD (p_56.b : Int)), .va (toD (p_56.c : Int)), .un]) (ig_range2 (em_var 4 st_77 rfl) (em_I0 (em_var 5 st_71 rfl) (em_int 1))) (ag_name 7) result_79 (.same (.same (.same (.same (.same (.same (.same (.same (.same (.same (.same (.same .nil)))))))))))) (fun st_84 taken_85 => [.va (toD (sums_53 : (List Int))), .va (toD (limit_54 : Int)), .va (toD (stage_55 : (T3 Int Int Int))), .va (toD (left_62 : Int)), .va (toD (st_77 : Int)), .va (toD (st_71 : Int)), .ol (List.map toD (st_84 : (List (T3 Int Int (Option (T3 Int Int Int)))))), .va (toD (taken_85 : Int)), .va (toD (p_56.a : Int)), .va (toD (p_56.b : Int)), .va (toD (p_56.c : Int)), .un]) (fun _ _ => rfl) (fun st_84 taken_85 => (sb_ifL (eb_test (em_eqI (em_var 7 taken_85 rfl) (em_var 3 left_62 rfl))) (sb_one (sb_app (i := 6) (xs := st_84) rfl (em_tup3 (em_var 7 taken_85 rfl) (em_int 0) (em_none (α := (T3 Int Int Int)))) (fun result_89 => [.va (toD (sums_53 : (List Int))), .va (toD (limit_54 : Int)), .va (toD (stage_55 : (T3 Int Int Int))), .va (toD (left_62 : Int)), .va (toD (st_77 : Int)), .va (toD (st_71 : Int)), .ol (List.map toD (result_89 : (List (T3 Int Int (Option (T3 Int Int Int)))))), .va (toD (taken_85 : Int)), .va (toD (p_56.a : Int)), .va (toD (p_56.b : Int)), .va (toD (p_56.c : Int)), .un]) (fun _ => rfl) (fun result_89 => (sb_next result_89 (.same (.same (.same (.same (.same (.same (.same (.drop (.same (.same (.same (.same .nil)))))))))))))))) (sb_ifL (eb_test (em_B0 (em_var 7 taken_85 rfl) (em_var 10 p_56.c rfl))) (sb_asg (em_tup3 (em_I0 (em_var 8 p_56.a rfl) (em_int 1)) (em_I0 (em_var 9 p_56.b rfl) (em_var 7 taken_85 rfl)) (em_min2 (em_mul (em_int 2) (em_I0 (em_var 10 p_56.c rfl) (em_var 7 taken_85 rfl))) (em_I0 (em_var 3 left_62 rfl) (em_var 7 taken_85 rfl)))) (ag_name 11) (fun following_112 => [.va (toD (sums_53 : (List Int))), .va (toD (limit_54 : Int)), .va (toD (stage_55 : (T3 Int Int Int))), .va (toD (left_62 : Int)), .va (toD (st_77 : Int)), .va (toD (st_71 : Int)), .ol (List.map toD (st_84 : (List (T3 Int Int (Option (T3 Int Int Int)))))), .va (toD (taken_85 : Int)), .va (toD (p_56.a : Int)), .va (toD (p_56.b : Int)), .va (toD (p_56.c : Int)), .va (toD (following_112 : (T3 Int Int Int)))]) (fun _ => rfl) (fun following_112 => (sb_one (sb_app (i := 6) (xs := st_84) rfl (em_tup3 (em_var 7 taken_85 rfl) (em_ixL (EM.toS (em_var 0 sums_53 rfl)) (em_I0 (em_var 9 p_56.b rfl) (em_var 7 taken_85 rfl))) (EM.just (em_var 11 following_112 rfl))) (fun result_113 => [.va (toD (sums_53 : (List Int))), .va (toD (limit_54 : Int)), .va (toD (stage_55 : (T3 Int Int Int))), .va (toD (left_62 : Int)), .va (toD (st_77 : Int)), .va (toD (st_71 : Int)), .ol (List.map toD (result_113 : (List (T3 Int Int (Option (T3 Int Int Int)))))), .va (toD (taken_85 : Int)), .va (toD (p_56.a : Int)), .va (toD (p_56.b : Int)), .va (toD (p_56.c : Int)), .va (toD (following_112 : (T3 Int Int Int)))]) (fun _ => rfl) (fun result_113 => (sb_next result_113 (.same (.same (.same (.same (.same (.same (.same (.drop (.same (.same (.same (.drop .nil)))))))))))))))))) (sb_next st_84 (.same (.same (.same (.same (.same (.same (.same (.drop (.same (.same (.same (.same .nil)))))))))))))))) (fun st_84 => (sb_frz (i := 6) rfl ([.va (toD (sums_53 : (List Int))), .va (toD (limit_54 : Int)), .va (toD (stage_55 : (T3 Int Int Int))), .va (toD (left_62 : Int)), .va (toD (st_77 : Int)), .va (toD (st_71 : Int)), .va (toD (st_84 : (List (T3 Int Int (Option (T3 Int Int Int)))))), .un, .va (toD (p_56.a : Int)), .va (toD (p_56.b : Int)), .va (toD (p_56.c : Int)), .un]) rfl (sb_ret (em_var 6 st_84 rfl)))))))))))))))))))
theorem sc_choices : FnScope ["weights", "limit", "stage"] ["weights", "limit", "stage"] (defScope s_choices) := ⟨rfl, rfl, rfl, by decide +kernel, rfl, by decide +kernel, by decide +kernel⟩
theorem ok_choices : FnOk P w cf.K mg base CX0 3 T.a_choices T.d_choices ["weights", "limit", "stage"] (SpP cf 3 (sp3 f_choices)) := by
  refine fn3 (k := 2) (S := Unit) (enc := fun _ => [.un, .un, .un]) T.F_choices sc_choices rfl b_choices (fun weights_125 limit_126 stage_127 => [.va (toD (weights_125 : (List Int))), .va (toD (limit_126 : Int)), .va (toD (stage_127 : (T3 Int Int Int)))]) (fun _ _ _ => rfl) fun cdv A outer s H E hr => ?_
  refine ⟨_, (pss_one (ps_ret (pe_call (ok_choices_by T) (hr.mono (by decide)) (by rfl) T.g_choices_by T.F_choices_by.kp T.b_choices_by .nil pass0 (pa_cons (pe_call (ok_rests T) (hr.mono (by decide)) (by rfl) T.g_rests T.F_rests.kp T.b_rests .nil pass0 (pa_cons (pv 0) pa_nil)) (pa_cons (pv 1) (pa_cons (pv 2) pa_nil)))))), fun weights_125 limit_126 stage_127 => ?_⟩
  unfold b_choices
  exact (sb_ret (em_call3 (em_call1 (em_var 0 weights_125 rfl)) (em_var 1 limit_126 rfl) (em_var 2 stage_127 rfl)))
theorem sc_stages : FnScope ["sums", "limit", "found", "known", "at", "taken", "price", "following"] ["sums", "limit"] (defScope s_stages) := ⟨rfl, rfl, rfl, by decide +kernel, rfl, by decide +kernel, by decide +kernel⟩
theorem ok_stages : FnOk P w cf.K mg base CX0 2 T.a_stages T.d_stages ["sums", "limit"] (SpP cf 2 (sp2 f_stages)) := by
  refine fn2 (k := 1) (S := Unit) (enc := fun _ => [.un, .un, .un, .un, .un, .un, .un, .un]) T.F_stages sc_stages rfl b_stages (fun sums_133 limit_134 => [.va (toD (sums_133 : (List Int))), .va (toD (limit_134 : Int)), .un, .un, .un, .un, .un, .un]) (fun _ _ => rfl) fun cdv A outer s H E hr => ?_
  refine ⟨_, (pss_cons (ps_set (i := 2) sc_stages.nd rfl (.inl rfl) (pe_lst (pa_cons (pe_tup (pa_cons pe_int (pa_cons pe_int (pa_cons pe_int pa_nil)))) pa_nil))) (pss_cons (ps_set (i := 3) sc_stages.nd rfl (.inl rfl) (pe_dispT (Nat.lt_of_succ_lt hr.units2) (pe_tup (pa_cons pe_int (pa_cons pe_int (pa_cons pe_int pa_nil)))) pe_bl)) (pss_cons (ps_set (i := 4) sc_stages.nd rfl (.inl rfl) pe_int) (pss_cons (ps_while PassesOwn.never (pt_cmpR op_lt (pv 4) (pe_callB (lenK cf.K rfl) (by rfl) T.n_len (by decide +kernel) (pa_cons (pv 2) pa_nil)) (nomark _)) (pss_cons (ps_for PassesOwn.never rfl (listI cf.K rfl (pe_call (ok_choices_by T) (hr.mono (by decide)) (by rfl) T.g_choices_by T.F_choices_by.kp T.b_choices_by .nil pass0 (pa_cons (pv 0) (pa_cons (pv 1) (pa_cons (pe_ix (ix_listK cf.K rfl) (pv 2) (pv 4) (fun _ _ => rfl)) pa_nil))))) (tupK cf.K rfl 3 rfl (pgs_cons (pg_name (i := 5) sc_stages.nd rfl (.inl rfl)) (pgs_cons (pg_name (i := 6) sc_stages.nd rfl (.inl rfl)) (pgs_cons (pg_name (i := 7) sc_stages.nd rfl (.inl rfl)) pgs_nil)))) (pss_one (ps_if (PW.pt (pw_and (pt_cmpR op_notN (pv 7) pe_non (nomark _)) (pw_and1 (pt_cmp (pc_dnotin hr.units2 (pv 7) (pv 3)))))) (pss_cons (ps_dput hr.units2 (pv 3) (pv 7) pe_bl rfl) (pss_one (ps_expr (pe_bm PySem.F.plainAttrs_list PySem.F.slot_list_append PySem.F.type_list_append mt_append (pv 2) (pa_cons (pv 7) pa_nil))))) pss_nil))) (pss_one (ps_aug (i := 4) sc_stages.nd rfl (.inl rfl) pe_int iop_add)))) (pss_one (ps_ret (pv 2))))))), fun sums_133 limit_134 => ?_⟩
  unfold b_stages
  exact (sb_asgO (ef_lst (eas_cons (em_tup3 (em_int 0) (em_int 0) (em_int 1)) (eas_nil (α := (T3 Int Int Int))))) (fun found_140 => [.va (toD (sums_133 : (List Int))), .va (toD (limit_134 : Int)), .ol (List.map toD (found_140 : (List (T3 Int Int Int)))), .un, .un, .un, .un, .un]) (fun _ => rfl) (fun found_140 => (sb_asgD (end_dispT (em_tup3 (em_int 0) (em_int 0) (em_int 1)) (em_bl true)) (fun known_146 => [.va (toD (sums_133 : (List Int))), .va (toD (limit_134 : Int)), .ol (List.map toD (found_140 : (List (T3 Int Int Int)))), .od (Dc.ent (known_146 : (Dc (T3 Int Int Int) Bool))), .un, .un, .un, .un]) (fun _ => rfl) (fun known_146 => (sb_asg (em_int 0) (ag_name 4) (fun at_147 => [.va (toD (sums_133 : (List Int))), .va (toD (limit_134 : Int)), .ol (List.map toD (found_140 : (List (T3 Int Int Int)))), .od (Dc.ent (known_146 : (Dc (T3 Int Int Int) Bool))), .va (toD (at_147 : Int)), .un, .un, .un]) (fun _ => rfl) (fun at_147 => (sb_while (T := ((List (T3 Int Int Int)) × ((Dc (T3 Int Int Int) Bool) × Int))) (encL := fun st_148 => [.va (toD (sums_133 : (List Int))), .va (toD (limit_134 : Int)), .ol (List.map toD (st_148.1 : (List (T3 Int Int Int)))), .od (Dc.ent (st_148.2.1 : (Dc (T3 Int Int Int) Bool))), .va (toD (st_148.2.2 : Int)), .un, .un, .un]) (100000) (found_140, known_146, at_147) (.same (.same (.same (.same (.same (.same (.same (.same .nil)))))))) (fun st_148 => (eb_test (em_B0 (em_var 4 st_148.2.2 rfl) (em_len (EL.toS (el_own 2 st_148.1 rfl)))))) (fun st_148 => (sb_for (T := ((List (T3 Int Int Int)) × (Dc (T3 Int Int Int) Bool))) (encL := fun st_157 => [.va (toD (sums_133 : (List Int))), .va (toD (limit_134 : Int)), .ol (List.map toD (st_157.1 : (List (T3 Int Int Int)))), .od (Dc.ent (st_157.2 : (Dc (T3 Int Int Int) Bool))), .va (toD (st_148.2.2 : Int)), .un, .un, .un]) (ig_list (EM.toZ (em_call3 (em_var 0 sums_133 rfl) (em_var 1 limit_134 rfl) (em_ixL (EL.toS (el_own 2 st_148.1 rfl)) (em_var 4 st_148.2.2 rfl))))) (ag_t3 (ag_name 5) (ag_name 6) (ag_name 7)) (st_148.1, st_148.2.1) (.same (.same (.same (.same (.same (.same (.same (.same .nil)))))))) (fun st_157 taken_158 => [.va (toD (sums_133 : (List Int))), .va (toD (limit_134 : Int)), .ol (List.map toD (st_157.1 : (List (T3 Int Int Int)))), .od (Dc.ent (st_157.2 : (Dc (T3 Int Int Int) Bool))), .va (toD (st_148.2.2 : Int)), .va (toD (taken_158.a : Int)), .va (toD (taken_158.b : Int)), .va (toD (taken_158.c : (Option (T3 Int Int Int))))]) (fun _ _ => rfl) (fun st_157 taken_158 => (sb_ifL (eb_and (eb_test (em_notN (em_var 7 taken_158.c rfl))) (eb_B (em_dnin (EM.get (em_var 7 taken_158.c rfl)) (ed_own 3 st_157.2 rfl)))) (sb_dput (i := 3) (d := st_157.2) rfl (em_bl true) (EM.get (em_var 7 taken_158.c rfl)) (fun known_164 => [.va (toD (sums_133 : (List Int))), .va (toD (limit_134 : Int)), .ol (List.map toD (st_157.1 : (List (T3 Int Int Int)))), .od (Dc.ent (known_164 : (Dc (T3 Int Int Int) Bool))), .va (toD (st_148.2.2 : Int)), .va (toD (taken_158.a : Int)), .va (toD (taken_158.b : Int)), .va (toD (taken_158.c : (Option (T3 Int Int Int))))]) (fun _ => rfl) (fun known_164 => (sb_one (sb_app (i := 2) (xs := st_157.1) rfl (EM.get (em_var 7 taken_158.c rfl)) (fun found_165 => [.va (toD (sums_133 : (List Int))), .va (toD (limit_134 : Int)), .ol (List.map toD (found_165 : (List (T3 Int Int Int)))), .od (Dc.ent (known_164 : (Dc (T3 Int Int Int) Bool))), .va (toD (st_148.2.2 : Int)), .va (toD (taken_158.a : Int)), .va (toD (taken_158.b : Int)), .va (toD (taken_158.c : (Option (T3 Int Int Int))))]) (fun _ => rfl) (fun found_165 => (sb_next (found_165, known_164) (.same (.same (.same (.same (.same (.drop (.drop (.drop .nil)))))))))))))) (sb_next (st_157.1, st_157.2) (.same (.same (.same (.same (.same (.drop (.drop (.drop .nil))))))))))) (fun st_157 => (sb_one (sb_aug (em_I0 (em_var 4 st_148.2.2 rfl) (em_int 1)) (fun at_171 => [.va (toD (sums_133 : (List Int))), .va (toD (limit_134 : Int)), .ol (List.map toD (st_157.1 : (List (T3 Int Int Int)))), .od (Dc.ent (st_157.2 : (Dc (T3 Int Int Int) Bool))), .va (toD (at_171 : Int)), .un, .un, .un]) (fun _ => rfl) (fun at_171 => (sb_next (st_157.1, st_157.2, at_171) (.same (.same (.same (.same (.same (.same (.same (.same .nil))))))))))))))) (fun st_148 => (sb_frz (i := 2) rfl ([.va (toD (sums_133 : (List Int))), .va (toD (limit_134 : Int)), .va (toD (st_148.1 : (List (T3 Int Int Int)))), .od (Dc.ent (st_148.2.1 : (Dc (T3 Int Int Int) Bool))), .va (toD (st_148.2.2 : Int)), .un, .un, .un]) rfl (sb_ret (em_var 2 st_148.1 rfl)))))))))))
theorem sc_values : FnScope ["weights", "limit", "result", "sums", "stage", "best", "taken", "price", "following", "behind"] ["weights", "limit"] (defScope s_values) := ⟨rfl, rfl, rfl, by decide +kernel, rfl, by decide +kernel, by decide +kernel⟩
theorem ok_values : FnOk P w cf.K mg base CX0 3 T.a_values T.d_values ["weights", "limit"] (spG2 cf f_values) := by
  refine fnG2 (k := 2) (S := Unit) (enc := fun _ => [.un, .un, .un, .un, .un, .un, .un, .un, .un, .un]) T.F_values sc_values rfl b_values (fun weights_174 limit_175 => [.va (toD (weights_174 : (List Int))), .va (toD (limit_175 : Int)), .un, .un, .un, .un, .un, .un, .un, .un]) (fun _ _ => rfl) fun cdv A outer s H E hr => ?_
  refine ⟨_, (pss_cons (ps_set (i := 2) sc_values.nd rfl (.inl rfl) pe_dnewT) (pss_cons (ps_set (i := 3) sc_values.nd rfl (.inl rfl) (pe_call (ok_rests T) (hr.mono (by decide)) (by rfl) T.g_rests T.F_rests.kp T.b_rests .nil pass0 (pa_cons (pv 0) pa_nil))) (pss_cons (ps_for PassesOwn.never rfl (revI cf.K rfl (by rfl) T.n_reversed (pa_cons (pe_callB (sortedK cf.K rfl hr.units) (by rfl) T.n_sorted (by decide +kernel) (pa_cons (pe_call (ok_stages T) (hr.mono (by decide)) (by rfl) T.g_stages T.F_stages.kp T.b_stages .nil pass0 (pa_cons (pv 3) (pa_cons (pv 1) pa_nil))) pa_nil)) pa_nil)) (pg_name (i := 4) sc_values.nd rfl (.inl rfl)) (pss_cons (ps_set (i := 5) sc_values.nd rfl (.inl rfl) pe_non) (pss_cons (ps_for PassesOwn.never rfl (listI cf.K rfl (pe_call (ok_choices_by T) (hr.mono (by decide)) (by rfl) T.g_choices_by T.F_choices_by.kp T.b_choices_by .nil pass0 (pa_cons (pv 3) (pa_cons (pv 1) (pa_cons (pv 4) pa_nil))))) (tupK cf.K rfl 3 rfl (pgs_cons (pg_name (i := 6) sc_values.nd rfl (.inl rfl)) (pgs_cons (pg_name (i := 7) sc_values.nd rfl (.inl rfl)) (pgs_cons (pg_name (i := 8) sc_values.nd rfl (.inl rfl)) pgs_nil)))) (pss_cons (ps_set (i := 9) sc_values.nd rfl (.inl rfl) (pe_ifExp (pt_cmpR op_isN (pv 8) pe_non (nomark _)) pe_int (pe_dget hr.units2 (pv 2) (pv 8) (fun _ _ => rfl)))) (pss_one (ps_if (PW.pt (pw_and (pt_cmpR op_notN (pv 9) pe_non (nomark _)) (pw_and1 (PW.pt (pw_or (pt_cmpR op_isN (pv 5) pe_non (nomark _)) (pw_or1 (pt_cmpR op_lt (pe_op op_add (pv 7) (pv 9)) (pv 5) (nomark _)))))))) (pss_one (ps_set (i := 5) sc_values.nd rfl (.inl rfl) (pe_op op_add (pv 7) (pv 9)))) pss_nil)))) (pss_one (ps_dput hr.units2 (pv 2) (pv 4) (pv 5) rfl))))) (pss_one (ps_ret (pv 2)))))), fun weights_174 limit_175 => ?_⟩
  unfold b_values
  exact (sb_asgD (end_nil (κ := (T3 Int Int Int)) (α := (Option Int))) (fun result_176 => [.va (toD (weights_174 : (List Int))), .va (toD (limit_175 : Int)), .od (Dc.ent (result_176 : (Dc (T3 Int Int Int) (Option Int)))), .un, .un, .un, .un, .un, .un, .un]) (fun _ => rfl) (fun result_176 => (sb_asg (em_call1 (em_var 0 weights_174 rfl)) (ag_name 3) (fun sums_178 => [.va (toD (weights_174 : (List Int))), .va (toD (limit_175 : Int)), .od (Dc.ent (result_176 : (Dc (T3 Int Int Int) (Option Int)))), .va (toD (sums_178 : (List Int))), .un, .un, .un, .un, .un, .un]) (fun _ => rfl) (fun sums_178 => (sb_for (T := (Dc (T3 Int Int Int) (Option Int))) (encL := fun st_182 => [.va (toD (weights_174 : (List Int))), .va (toD (limit_175 : Int)), .od (Dc.ent (st_182 : (Dc (T3 Int Int Int) (Option Int)))), .va (toD (sums_178 : (List Int))), .un, .un, .un, .un, .un, .un]) (ig_rev (EF.toZ (ef_sorted (EM.toS (em_call2 (em_var 3 sums_178 rfl) (em_var 1 limit_175 rfl)))))) (ag_name 4) result_176 (.same (.same (.same (.same (.same (.same (.same (.same (.same (.same .nil)))))))))) (fun st_182 stage_183 => [.va (toD (weights_174 : (List Int))), .va (toD (limit_175 : Int)), .od (Dc.ent (st_182 : (Dc (T3 Int Int Int) (Option Int)))), .va (toD (sums_178 : (List Int))), .va (toD (stage_183 : (T3 Int Int Int))), .un, .un, .un, .un, .un]) (fun _ _ => rfl) (fun st_182 stage_183 => (sb_asg (em_none (α := Int)) (ag_name 5) (fun best_184 => [.va (toD (weights_174 : (List Int))), .va (toD (limit_175 : Int)), .od (Dc.ent (st_182 : (Dc (T3 Int Int Int) (Option Int)))), .va (toD (sums_178 : (List Int))), .va (toD (stage_183 : (T3 Int Int Int))), .va (toD (best_184 : (Option Int))), .un, .un, .un, .un]) (fun _ => rfl) (fun best_184 => (sb_for (T := (Option Int)) (encL := fun st_188 => [.va (toD (weights_174 : (List Int))), .va (toD (limit_175 : Int)), .od (Dc.ent (st_182 : (Dc (T3 Int Int Int) (Option Int)))), .va (toD (sums_178 : (List Int))), .va (toD (stage_183 : (T3 Int Int Int))), .va (toD (st_188 : (Option Int))), .un, .un, .un, .un]) (ig_list (EM.toZ (em_call3 (em_var 3 sums_178 rfl) (em_var 1 limit_175 rfl) (em_var 4 stage_183 rfl)))) (ag_t3 (ag_name 6) (ag_name 7) (ag_name 8)) best_184 (.same (.same (.same (.same (.same (.same (.same (.same (.same (.same .nil)))))))))) (fun st_188 taken_189 => [.va (toD (weights_174 : (List Int))), .va (toD (limit_175 : Int)), .od (Dc.ent (st_182 : (Dc (T3 Int Int Int) (Option Int)))), .va (toD (sums_178 : (List Int))), .va (toD (stage_183 : (T3 Int Int Int))), .va (toD (st_188 : (Option Int))), .va (toD (taken_189.a : Int)), .va (toD (taken_189.b : Int)), .va (toD (taken_189.c : (Option (T3 Int Int Int)))), .un]) (fun _ _ => rfl) (fun st_188 taken_189 => (sb_asg (em_if (eb_test (em_isN (em_var 8 taken_189.c rfl))) (EM.just (em_int 0)) (em_dget (ed_own 2 st_182 rfl) (EM.get (em_var 8 taken_189.c rfl)))) (ag_name 9) (fun behind_195 => [.va (toD (weights_174 : (List Int))), .va (toD (limit_175 : Int)), .od (Dc.ent (st_182 : (Dc (T3 Int Int Int) (Option Int)))), .va (toD (sums_178 : (List Int))), .va (toD (stage_183 : (T3 Int Int Int))), .va (toD (st_188 : (Option Int))), .va (toD (taken_189.a : Int)), .va (toD (taken_189.b : Int)), .va (toD (taken_189.c : (Option (T3 Int Int Int)))), .va (toD (behind_195 : (Option Int)))]) (fun _ => rfl) (fun behind_195 => (sb_ifL (eb_and (eb_test (em_notN (em_var 9 behind_195 rfl))) (eb_or (eb_test (em_isN (em_var 5 st_188 rfl))) (eb_test (em_B0 (em_I0 (em_var 7 taken_189.b rfl) (EM.get (em_var 9 behind_195 rfl))) (EM.get (em_var 5 st_188 rfl)))))) (sb_one (sb_asg (EM.just (em_I0 (em_var 7 taken_189.b rfl) (EM.get (em_var 9 behind_195 rfl)))) (ag_name 5) (fun best_208 => [.va (toD (weights_174 : (List Int))), .va (toD (limit_175 : Int)), .od (Dc.ent (st_182 : (Dc (T3 Int Int Int) (Option Int)))), .va (toD (sums_178 : (List Int))), .va (toD (stage_183 : (T3 Int Int Int))), .va (toD (best_208 : (Option Int))), .va (toD (taken_189.a : Int)), .va (toD (taken_189.b : Int)), .va (toD (taken_189.c : (Option (T3 Int Int Int)))), .va (toD (behind_195 : (Option Int)))]) (fun _ => rfl) (fun best_208 => (sb_next best_208 (.same (.same (.same (.same (.same (.same (.drop (.drop (.drop (.drop .nil)))))))))))))) (sb_next st_188 (.same (.same (.same (.same (.same (.same (.drop (.drop (.drop (.drop .nil))))))))))))))) (fun st_188 => (sb_one (sb_dput (i := 2) (d := st_182) rfl (em_var 5 st_188 rfl) (em_var 4 stage_183 rfl) (fun result_209 => [.va (toD (weights_174 : (List Int))), .va (toD (limit_175 : Int)), .od (Dc.ent (result_209 : (Dc (T3 Int Int Int) (Option Int)))), .va (toD (sums_178 : (List Int))), .va (toD (stage_183 : (T3 Int Int Int))), .va (toD (st_188 : (Option Int))), .un, .un, .un, .un]) (fun _ => rfl) (fun result_209 => (sb_next result_209 (.same (.same (.same (.same (.drop (.drop (.same (.same (.same (.same .nil))))))))))))))))))) (fun st_182 => (sb_retD rfl)))))))
theorem sc_best_choice : FnScope ["weights", "limit", "table", "stage", "chosen", "taken", "price", "following", "behind"] ["weights", "limit", "table", "stage"] (defScope s_best_choice) := ⟨rfl, rfl, rfl, by decide +kernel, rfl, by decide +kernel, by decide +kernel⟩
theorem ok_best_choice : FnOk P w cf.K mg base CX0 4 T.a_best_choice T.d_best_choice ["weights", "limit", "table", "stage"] (SpP cf 4 (sp4 f_best_choice)) := by
  refine fn4 (k := 3) (S := Unit) (enc := fun _ => [.un, .un, .un, .un, .un, .un, .un, .un, .un]) T.F_best_choice sc_best_choice rfl b_best_choice (fun weights_214 limit_215 table_216 stage_217 => [.va (toD (weights_214 : (List Int))), .va (toD (limit_215 : Int)), .va (toD (table_216 : (Dc (T3 Int Int Int) (Option Int)))), .va (toD (stage_217 : (T3 Int Int Int))), .un, .un, .un, .un, .un]) (fun _ _ _ _ => rfl) fun cdv A outer s H E hr => ?_
  refine ⟨_, (pss_cons (ps_set (i := 4) sc_best_choice.nd rfl (.inl rfl) pe_non) (pss_cons (ps_for PassesOwn.never rfl (listI cf.K rfl (pe_call (ok_choices T) (hr.mono (by decide)) (by rfl) T.g_choices T.F_choices.kp T.b_choices .nil pass0 (pa_cons (pv 0) (pa_cons (pv 1) (pa_cons (pv 3) pa_nil))))) (tupK cf.K rfl 3 rfl (pgs_cons (pg_name (i := 5) sc_best_choice.nd rfl (.inl rfl)) (pgs_cons (pg_name (i := 6) sc_best_choice.nd rfl (.inl rfl)) (pgs_cons (pg_name (i := 7) sc_best_choice.nd rfl (.inl rfl)) pgs_nil)))) (pss_cons (ps_set (i := 8) sc_best_choice.nd rfl (.inl rfl) (pe_ifExp (pt_cmpR op_isN (pv 7) pe_non (nomark _)) pe_int (pe_dget hr.units2 (pv 2) (pv 7) (fun _ _ => rfl)))) (pss_one (ps_if (PW.pt (pw_and (pt_cmpR op_notN (pv 8) pe_non (nomark _)) (pw_and1 (pt_cmpR (eqDK cf.K rfl hr.units) (pe_op op_add (pv 6) (pv 8)) (pe_dget hr.units2 (pv 2) (pv 3) (fun _ _ => rfl)) (nomark _))))) (pss_one (ps_set (i := 4) sc_best_choice.nd rfl (.inl rfl) (pe_tup (pa_cons (pv 5) (pa_cons (pv 7) pa_nil))))) pss_nil)))) (pss_one (ps_ret (pv 4))))), fun weights_214 limit_215 table_216 stage_217 => ?_⟩
  unfold b_best_choice
  exact (sb_asg (em_none (α := (Int × (Option (T3 Int Int Int))))) (ag_name 4) (fun chosen_218 => [.va (toD (weights_214 : (List Int))), .va (toD (limit_215 : Int)), .va (toD (table_216 : (Dc (T3 Int Int Int) (Option Int)))), .va (toD (stage_217 : (T3 Int Int Int))), .va (toD (chosen_218 : (Option (Int × (Option (T3 Int Int Int)))))), .un, .un, .un, .un]) (fun _ => rfl) (fun chosen_218 => (sb_for (T := (Option (Int × (Option (T3 Int Int Int))))) (encL := fun st_222 => [.va (toD (weights_214 : (List Int))), .va (toD (limit_215 : Int)), .va (toD (table_216 : (Dc (T3 Int Int Int) (Option Int)))), .va (toD (stage_217 : (T3 Int Int Int))), .va (toD (st_222 : (Option (Int × (Option (T3 Int Int Int)))))), .un, .un, .un, .un]) (ig_list (EM.toZ (em_call3 (em_var 0 weights_214 rfl) (em_var 1 limit_215 rfl) (em_var 3 stage_217 rfl)))) (ag_t3 (ag_name 5) (ag_name 6) (ag_name 7)) chosen_218 (.same (.same (.same (.same (.same (.same (.same (.same (.same .nil))))))))) (fun st_222 taken_223 => [.va (toD (weights_214 : (List Int))), .va (toD (limit_215 : Int)), .va (toD (table_216 : (Dc (T3 Int Int Int) (Option Int)))), .va (toD (stage_217 : (T3 Int Int Int))), .va (toD (st_222 : (Option (Int × (Option (T3 Int Int Int)))))), .va (toD (taken_223.a : Int)), .va (toD (taken_223.b : Int)), .va (toD (taken_223.c : (Option (T3 Int Int Int)))), .un]) (fun _ _ => rfl) (fun st_222 taken_223 => (sb_asg (em_if (eb_test (em_isN (em_var 7 taken_223.c rfl))) (EM.just (em_int 0)) (em_dget (EM.toRD (em_var 2 table_216 rfl)) (EM.get (em_var 7 taken_223.c rfl)))) (ag_name 8) (fun behind_229 => [.va (toD (weights_214 : (List Int))), .va (toD (limit_215 : Int)), .va (toD (table_216 : (Dc (T3 Int Int Int) (Option Int)))), .va (toD (stage_217 : (T3 Int Int Int))), .va (toD (st_222 : (Option (Int × (Option (T3 Int Int Int)))))), .va (toD (taken_223.a : Int)), .va (toD (taken_223.b : Int)), .va (toD (taken_223.c : (Option (T3 Int Int Int)))), .va (toD (behind_229 : (Option Int)))]) (fun _ => rfl) (fun behind_229 => (sb_ifL (eb_and (eb_test (em_notN (em_var 8 behind_229 rfl))) (eb_test (em_eqD (EM.toE (em_I0 (em_var 6 taken_223.b rfl) (EM.get (em_var 8 behind_229 rfl)))) (EM.toE (em_dget (EM.toRD (em_var 2 table_216 rfl)) (em_var 3 stage_217 rfl)))))) (sb_one (sb_asg (EM.just (em_tup2 (em_var 5 taken_223.a rfl) (em_var 7 taken_223.c rfl))) (ag_name 4) (fun chosen_242 => [.va (toD (weights_214 : (List Int))), .va (toD (limit_215 : Int)), .va (toD (table_216 : (Dc (T3 Int Int Int) (Option Int)))), .va (toD (stage_217 : (T3 Int Int Int))), .va (toD (chosen_242 : (Option (Int × (Option (T3 Int Int Int)))))), .va (toD (taken_223.a : Int)), .va (toD (taken_223.b : Int)), .va (toD (taken_223.c : (Option (T3 Int Int Int)))), .va (toD (behind_229 : (Option Int)))]) (fun _ => rfl) (fun chosen_242 => (sb_next chosen_242 (.same (.same (.same (.same (.same (.drop (.drop (.drop (.drop .nil))))))))))))) (sb_next st_222 (.same (.same (.same (.same (.same (.drop (.drop (.drop (.drop .nil)))))))))))))) (fun st_222 => (sb_ret (em_var 4 st_222 rfl))))))
theorem sc_lengths_by : FnScope ["weights", "limit", "table", "order", "lengths", "stage", "rank", "taken", "following"] ["weights", "limit", "table"] (defScope s_lengths_by) := ⟨rfl, rfl, rfl, by decide +kernel, rfl, by decide +kernel, by decide +kernel⟩
theorem ok_lengths_by : FnOk P w cf.K mg base CX0 5 T.a_lengths_by T.d_lengths_by ["weights", "limit", "table"] (SpP cf 3 (sp3 f_lengths_by)) := by
  refine fn3 (k := 4) (S := Unit) (enc := fun _ => [.un, .un, .un, .un, .un, .un, .un, .un, .un]) T.F_lengths_by sc_lengths_by rfl b_lengths_by (fun weights_245 limit_246 table_247 => [.va (toD (weights_245 : (List Int))), .va (toD (limit_246 : Int)), .va (toD (table_247 : (Dc (T3 Int Int Int) (Option Int)))), .un, .un, .un, .un, .un, .un]) (fun _ _ _ => rfl) fun cdv A outer s H E hr => ?_
  refine ⟨_, (pss_cons (ps_set (i := 3) sc_lengths_by.nd rfl (.inl rfl) (pe_call (ok_ranks T) (hr.mono (by decide)) (by rfl) T.g_ranks T.F_ranks.kp T.b_ranks .nil pass0 (pa_cons (pv 0) pa_nil))) (pss_cons (ps_set (i := 4) sc_lengths_by.nd rfl (.inl rfl) (pe_op op_rep (pe_lst (pa_cons pe_int pa_nil)) (pe_callB (lenK cf.K rfl) (by rfl) T.n_len (by decide +kernel) (pa_cons (pv 0) pa_nil)))) (pss_cons (ps_set (i := 5) sc_lengths_by.nd rfl (.inl rfl) (pe_tup (pa_cons pe_int (pa_cons pe_int (pa_cons pe_int pa_nil))))) (pss_cons (ps_while PassesOwn.never (pt_cmpR op_notN (pv 5) pe_non (nomark _)) (pss_cons (ps_asg (pe_call (ok_best_choice T) (hr.mono (by decide)) (by rfl) T.g_best_choice T.F_best_choice.kp T.b_best_choice .nil pass0 (pa_cons (pv 0) (pa_cons (pv 1) (pa_cons (pv 2) (pa_cons (pv 5) pa_nil))))) (tupK cf.K rfl 2 rfl (pgs_cons (pg_name (i := 7) sc_lengths_by.nd rfl (.inl rfl)) (pgs_cons (pg_name (i := 8) sc_lengths_by.nd rfl (.inl rfl)) pgs_nil)))) (pss_cons (ps_for PassesOwn.never rfl (pi_range2 (by rfl) T.n_range (pa_cons (pe_ix (ix_tupK cf.K rfl) (pv 5) pe_int (fun _ _ => rfl)) (pa_cons (pe_op op_add (pe_ix (ix_tupK cf.K rfl) (pv 5) pe_int (fun _ _ => rfl)) (pv 7)) pa_nil))) (pg_name (i := 6) sc_lengths_by.nd rfl (.inl rfl)) (pss_one (ps_asg (pe_ix (ix_tupK cf.K rfl) (pv 5) pe_int (fun _ _ => rfl)) (pg_sub (pv 4) (pe_ix (ix_listK cf.K rfl) (pv 3) (pv 6) (fun _ _ => rfl)) set_list)))) (pss_one (ps_set (i := 5) sc_lengths_by.nd rfl (.inl rfl) (pv 8)))))) (pss_one (ps_ret (pv 4))))))), fun weights_245 limit_246 table_247 => ?_⟩
  unfold b_lengths_by
  exact (sb_asg (em_call1 (em_var 0 weights_245 rfl)) (ag_name 3) (fun order_249 => [.va (toD (weights_245 : (List Int))), .va (toD (limit_246 : Int)), .va (toD (table_247 : (Dc (T3 Int Int Int) (Option Int)))), .va (toD (order_249 : (List Int))), .un, .un, .un, .un, .un]) (fun _ => rfl) (fun order_249 => (sb_asgO (ef_rep (EF.toL (ef_lst (eas_cons (em_int 0) (eas_nil (α := Int))))) (em_len (EM.toS (em_var 0 weights_245 rfl)))) (fun lengths_255 => [.va (toD (weights_245 : (List Int))), .va (toD (limit_246 : Int)), .va (toD (table_247 : (Dc (T3 Int Int Int) (Option Int)))), .va (toD (order_249 : (List Int))), .ol (List.map toD (lengths_255 : (List Int))), .un, .un, .un, .un]) (fun _ => rfl) (fun lengths_255 => (sb_asg (EM.just (em_tup3 (em_int 0) (em_int 0) (em_int 1))) (ag_name 5) (fun stage_260 => [.va (toD (weights_245 : (List Int))), .va (toD (limit_246 : Int)), .va (toD (table_247 : (Dc (T3 Int Int Int) (Option Int)))), .va (toD (order_249 : (List Int))), .ol (List.map toD (lengths_255 : (List Int))), .va (toD (stage_260 : (Option (T3 Int Int Int)))), .un, .un, .un]) (fun _ => rfl) (fun stage_260 => (sb_while (T := ((List Int) × (Option (T3 Int Int Int)))) (encL := fun st_261 => [.va (toD (weights_245 : (List Int))), .va (toD (limit_246 : Int)), .va (toD (table_247 : (Dc (T3 Int Int Int) (Option Int)))), .va (toD (order_249 : (List Int))), .ol (List.map toD (st_261.1 : (List Int))), .va (toD (st_261.2 : (Option (T3 Int Int Int)))), .un, .un, .un]) (1000) (lengths_255, stage_260) (.same (.same (.same (.same (.same (.same (.same (.same (.same .nil))))))))) (fun st_261 => (eb_test (em_notN (em_var 5 st_261.2 rfl)))) (fun st_261 => (sb_asg (EM.get (em_call4 (em_var 0 weights_245 rfl) (em_var 1 limit_246 rfl) (em_var 2 table_247 rfl) (EM.get (em_var 5 st_261.2 rfl)))) (ag_t2 (ag_name 7) (ag_name 8)) (fun p_267 => [.va (toD (weights_245 : (List Int))), .va (toD (limit_246 : Int)), .va (toD (table_247 : (Dc (T3 Int Int Int) (Option Int)))), .va (toD (order_249 : (List Int))), .ol (List.map toD (st_261.1 : (List Int))), .va (toD (st_261.2 : (Option (T3 Int Int Int)))), .un, .va (toD (p_267.1 : Int)), .va (toD (p_267.2 : (Option (T3 Int Int Int))))]) (fun _ => rfl) (fun p_267 => (sb_for (T := (List Int)) (encL := fun st_274 => [.va (toD (weights_245 : (List Int))), .va (toD (limit_246 : Int)), .va (toD (table_247 : (Dc (T3 Int Int Int) (Option Int)))), .va (toD (order_249 : (List Int))), .ol (List.map toD (st_274 : (List Int))), .va (toD (st_261.2 : (Option (T3 Int Int Int)))), .un, .va (toD (p_267.1 : Int)), .va (toD (p_267.2 : (Option (T3 Int Int Int))))]) (ig_range2 (em_t31 (EM.get (em_var 5 st_261.2 rfl))) (em_I0 (em_t31 (EM.get (em_var 5 st_261.2 rfl))) (em_var 7 p_267.1 rfl))) (ag_name 6) st_261.1 (.same (.same (.same (.same (.same (.same (.same (.same (.same .nil))))))))) (fun st_274 rank_275 => [.va (toD (weights_245 : (List Int))), .va (toD (limit_246 : Int)), .va (toD (table_247 : (Dc (T3 Int Int Int) (Option Int)))), .va (toD (order_249 : (List Int))), .ol (List.map toD (st_274 : (List Int))), .va (toD (st_261.2 : (Option (T3 Int Int Int)))), .va (toD (rank_275 : Int)), .va (toD (p_267.1 : Int)), .va (toD (p_267.2 : (Option (T3 Int Int Int))))]) (fun _ _ => rfl) (fun st_274 rank_275 => (sb_one (sb_setL (i := 4) (xs := st_274) rfl (em_t30 (EM.get (em_var 5 st_261.2 rfl))) (em_ixL (EM.toS (em_var 3 order_249 rfl)) (em_var 6 rank_275 rfl)) (fun lengths_279 => [.va (toD (weights_245 : (List Int))), .va (toD (limit_246 : Int)), .va (toD (table_247 : (Dc (T3 Int Int Int) (Option Int)))), .va (toD (order_249 : (List Int))), .ol (List.map toD (lengths_279 : (List Int))), .va (toD (st_261.2 : (Option (T3 Int Int Int)))), .va (toD (rank_275 : Int)), .va (toD (p_267.1 : Int)), .va (toD (p_267.2 : (Option (T3 Int Int Int))))]) (fun _ => rfl) (fun lengths_279 => (sb_next lengths_279 (.same (.same (.same (.same (.same (.same (.drop (.same (.same .nil)))))))))))))) (fun st_274 => (sb_one (sb_asg (em_var 8 p_267.2 rfl) (ag_name 5) (fun stage_282 => [.va (toD (weights_245 : (List Int))), .va (toD (limit_246 : Int)), .va (toD (table_247 : (Dc (T3 Int Int Int) (Option Int)))), .va (toD (order_249 : (List Int))), .ol (List.map toD (st_274 : (List Int))), .va (toD (stage_282 : (Option (T3 Int Int Int)))), .un, .va (toD (p_267.1 : Int)), .va (toD (p_267.2 : (Option (T3 Int Int Int))))]) (fun _ => rfl) (fun stage_282 => (sb_next (st_274, stage_282) (.same (.same (.same (.same (.same (.same (.same (.drop (.drop .nil)))))))))))))))))) (fun st_261 => (sb_frz (i := 4) rfl ([.va (toD (weights_245 : (List Int))), .va (toD (limit_246 : Int)), .va (toD (table_247 : (Dc (T3 Int Int Int) (Option Int)))), .va (toD (order_249 : (List Int))), .va (toD (st_261.1 : (List Int))), .va (toD (st_261.2 : (Option (T3 Int Int Int)))), .un, .un, .un]) rfl (sb_ret (em_var 4 st_261.1 rfl)))))))))))
theorem sc_least_lengths : FnScope ["weights", "limit"] ["weights", "limit"] (defScope s_least_lengths) := ⟨rfl, rfl, rfl, by decide +kernel, rfl, by decide +kernel, by decide +kernel⟩
theorem ok_least_lengths : FnOk P w cf.K mg base CX0 6 T.a_least_lengths T.d_least_lengths ["weights", "limit"] (SpP cf 2 (sp2 f_least_lengths)) := by
  refine fn2 (k := 5) (S := Unit) (enc := fun _ => [.un, .un]) T.F_least_lengths sc_least_lengths rfl b_least_lengths (fun weights_285 limit_286 => [.va (toD (weights_285 : (List Int))), .va (toD (limit_286 : Int))]) (fun _ _ => rfl) fun cdv A outer s H E hr => ?_
  refine ⟨_, (pss_one (ps_ret (pe_call (ok_lengths_by T) (hr.mono (by decide)) (by rfl) T.g_lengths_by T.F_lengths_by.kp T.b_lengths_by .nil pass0 (pa_cons (pv 0) (pa_cons (pv 1) (pa_cons (pe_call (ok_values T) (hr.mono (by decide)) (by rfl) T.g_values T.F_values.kp T.b_values .nil pass0 (pa_cons (pv 0) (pa_cons (pv 1) pa_nil))) pa_nil)))))), fun weights_285 limit_286 => ?_⟩
  unfold b_least_lengths
  exact (sb_ret (em_call3 (em_var 0 weights_285 rfl) (em_var 1 limit_286 rfl) (END.toM (END.of (em_callG2 (em_arg (em_var 0 weights_285 rfl)) (em_arg (em_var 1 limit_286 rfl)))))))
theorem sc_paired : FnScope ["items", "packages", "k"] ["items"] (defScope s_paired) := ⟨rfl, rfl, rfl, by decide +kernel, rfl, by decide +kernel, by decide +kernel⟩
theorem ok_paired : FnOk P w cf.K mg base CX0 1 T.a_paired T.d_paired ["items"] (SpP cf 1 (sp1 f_paired)) := by
  refine fn1 (k := 0) (S := Unit) (enc := fun _ => [.un, .un, .un]) T.F_paired sc_paired rfl b_paired (fun items_293 => [.va (toD (items_293 : (List (Int × (List Int))))), .un, .un]) (fun _ => rfl) fun cdv A outer s H E hr => ?_
  refine ⟨_, (pss_cons (ps_set (i := 1) sc_paired.nd rfl (.inl rfl) (pe_lst pa_nil)) (pss_cons (ps_for PassesOwn.never rfl (pi_range3 (by rfl) T.n_range (pa_cons pe_int (pa_cons (pe_op op_sub (pe_callB (lenK cf.K rfl) (by rfl) T.n_len (by decide +kernel) (pa_cons (pv 0) pa_nil)) pe_int) (pa_cons pe_int pa_nil)))) (pg_name (i := 2) sc_paired.nd rfl (.inl rfl)) (pss_one (ps_expr (pe_bm PySem.F.plainAttrs_list PySem.F.slot_list_append PySem.F.type_list_append mt_append (pv 1) (pa_cons (pe_tup (pa_cons (pe_op op_add (pe_ix (ix_tupK cf.K rfl) (pe_ix (ix_listK cf.K rfl) (pv 0) (pv 2) (fun _ _ => rfl)) pe_int (fun _ _ => rfl)) (pe_ix (ix_tupK cf.K rfl) (pe_ix (ix_listK cf.K rfl) (pv 0) (pe_op op_add (pv 2) pe_int) (fun _ _ => rfl)) pe_int (fun _ _ => rfl))) (pa_cons (pe_op op_cat (pe_ix (ix_tupK cf.K rfl) (pe_ix (ix_listK cf.K rfl) (pv 0) (pv 2) (fun _ _ => rfl)) pe_int (fun _ _ => rfl)) (pe_ix (ix_tupK cf.K rfl) (pe_ix (ix_listK cf.K rfl) (pv 0) (pe_op op_add (pv 2) pe_int) (fun _ _ => rfl)) pe_int (fun _ _ => rfl))) pa_nil))) pa_nil))))) (pss_one (ps_ret (pv 1))))), fun items_293 => ?_⟩
  unfold b_paired
  exact (sb_asgO (ef_lst (eas_nil (α := (Int × (List Int))))) (fun packages_294 => [.va (toD (items_293 : (List (Int × (List Int))))), .ol (List.map toD (packages_294 : (List (Int × (List Int))))), .un]) (fun _ => rfl) (fun packages_294 => (sb_for (T := (List (Int × (List Int)))) (encL := fun st_301 => [.va (toD (items_293 : (List (Int × (List Int))))), .ol (List.map toD (st_301 : (List (Int × (List Int))))), .un]) (ig_range3 (em_int 0) (em_I0 (em_len (EM.toS (em_var 0 items_293 rfl))) (em_int 1)) (em_int 2)) (ag_name 2) packages_294 (.same (.same (.same .nil))) (fun st_301 k_302 => [.va (toD (items_293 : (List (Int × (List Int))))), .ol (List.map toD (st_301 : (List (Int × (List Int))))), .va (toD (k_302 : Int))]) (fun _ _ => rfl) (fun st_301 k_302 => (sb_one (sb_app (i := 1) (xs := st_301) rfl (em_tup2 (em_I0 (em_fst (em_ixL (EM.toS (em_var 0 items_293 rfl)) (em_var 2 k_302 rfl))) (em_fst (em_ixL (EM.toS (em_var 0 items_293 rfl)) (em_I0 (em_var 2 k_302 rfl) (em_int 1))))) (EF.toM (ef_cat (EM.toL (em_snd (em_ixL (EM.toS (em_var 0 items_293 rfl)) (em_var 2 k_302 rfl)))) (EM.toL (em_snd (em_ixL (EM.toS (em_var 0 items_293 rfl)) (em_I0 (em_var 2 k_302 rfl) (em_int 1)))))))) (fun packages_303 => [.va (toD (items_293 : (List (Int × (List Int))))), .ol (List.map toD (packages_303 : (List (Int × (List Int))))), .va (toD (k_302 : Int))]) (fun _ => rfl) (fun packages_303 => (sb_next packages_303 (.same (.same (.drop .nil)))))))) (fun st_301 => (sb_frz (i := 1) rfl ([.va (toD (items_293 : (List (Int × (List Int))))), .va (toD (st_301 : (List (Int × (List Int))))), .un]) rfl (sb_ret (em_var 1 st_301 rfl)))))))
theorem sc_packaged_lengths : FnScope ["weights", "limit", "coins", "items", "k", "lengths", "weight", "symbols", "symbol"] ["weights", "limit"] (defScope s_packaged_lengths) := ⟨rfl, rfl, rfl, by decide +kernel, rfl, by decide +kernel, by decide +kernel⟩
theorem ok_packaged_lengths : FnOk P w cf.K mg base CX0 2 T.a_packaged_lengths T.d_packaged_lengths ["weights", "limit"] (SpP cf 2 (sp2 f_packaged_lengths)) := by
  refine fn2 (k := 1) (S := Unit) (enc := fun _ => [.un, .un, .un, .un, .un, .un, .un, .un, .un]) T.F_packaged_lengths sc_packaged_lengths rfl b_packaged_lengths (fun weights_329 limit_330 => [.va (toD (weights_329 : (List Int))), .va (toD (limit_330 : Int)), .un, .un, .un, .un, .un, .un, .un]) (fun _ _ => rfl) fun cdv A outer s H E hr => ?_
  refine ⟨_, (pss_cons (ps_setLc (i := 2) (own := [("symbol", 8), ("weight", 6)]) rfl sc_packaged_lengths.nd rfl rfl (sw_true rfl rfl rfl (by decide +kernel)) (enumI cf.K rfl (by rfl) T.n_enumerate (pa_cons (pv 0) pa_nil)) (blkOk_by (own := [("symbol", 8), ("weight", 6)]) (N := ["weights", "limit", "coins", "items", "k", "lengths", "weight", "symbols", "symbol"]) (sc := defScope s_packaged_lengths) (by decide +kernel)) (fun _ _ _ _ _ => (tupK cf.K rfl 2 rfl (pgs_cons (pg_name (i := 8) sc_packaged_lengths.nd rfl (Or.inl rfl) (Or.inr rfl)) (pgs_cons (pg_name (i := 6) sc_packaged_lengths.nd rfl (Or.inl rfl) (Or.inr rfl)) pgs_nil)))) (fun _ _ _ _ _ => pts_nil) (fun _ _ _ _ _ => (pe_tup (pa_cons (pv 6) (pa_cons (pe_lst (pa_cons (pv 8) pa_nil)) pa_nil))))) (pss_cons (ps_set (i := 2) sc_packaged_lengths.nd rfl (.inl rfl) (pe_callB (sortedK cf.K rfl hr.units) (by rfl) T.n_sorted (by decide +kernel) (pa_cons (pv 2) pa_nil))) (pss_cons (ps_set (i := 3) sc_packaged_lengths.nd rfl (.inl rfl) (pv 2)) (pss_cons (ps_for PassesOwn.never rfl (pi_range1 (by rfl) T.n_range (pa_cons (pe_op op_sub (pv 1) pe_int) pa_nil)) (pg_name (i := 4) sc_packaged_lengths.nd rfl (.inl rfl)) (pss_one (ps_set (i := 3) sc_packaged_lengths.nd rfl (.inl rfl) (pe_callB (sortedK cf.K rfl hr.units) (by rfl) T.n_sorted (by decide +kernel) (pa_cons (pe_op op_cat (pv 2) (pe_call (ok_paired T) (hr.mono (by decide)) (by rfl) T.g_paired T.F_paired.kp T.b_paired .nil pass0 (pa_cons (pv 3) pa_nil))) pa_nil))))) (pss_cons (ps_set (i := 5) sc_packaged_lengths.nd rfl (.inl rfl) (pe_op op_rep (pe_lst (pa_cons pe_int pa_nil)) (pe_callB (lenK cf.K rfl) (by rfl) T.n_len (by decide +kernel) (pa_cons (pv 0) pa_nil)))) (pss_cons (ps_for PassesOwn.never rfl (listI cf.K rfl (pe_slice (sl_listK cf.K rfl) (pv 3) po_none (po_some (pe_op op_sub (pe_op op_mulX pe_int (pe_callB (lenK cf.K rfl) (by rfl) T.n_len (by decide +kernel) (pa_cons (pv 0) pa_nil))) pe_int)))) (tupK cf.K rfl 2 rfl (pgs_cons (pg_name (i := 6) sc_packaged_lengths.nd rfl (.inl rfl)) (pgs_cons (pg_name (i := 7) sc_packaged_lengths.nd rfl (.inl rfl)) pgs_nil))) (pss_one (ps_for PassesOwn.never rfl (listI cf.K rfl (pv 7)) (pg_name (i := 8) sc_packaged_lengths.nd rfl (.inl rfl)) (pss_one (ps_augS (pv 5) (pv 8) (get_list rfl) pe_int iop_add set_list))))) (pss_one (ps_ret (pv 5))))))))), fun weights_329 limit_330 => ?_⟩
  unfold b_packaged_lengths
  exact (sb_asg (EF.toM (ef_lc (vs := [8, 6]) (Gi := fun symbol_332 => [.va (toD (weights_329 : (List Int))), .va (toD (limit_330 : Int)), .un, .un, .un, .un, .va (toD (symbol_332.2 : Int)), .un, .va (toD (symbol_332.1 : Int))]) (ig_enum (EM.toZ (em_var 0 weights_329 rfl))) (ag_t2 (ag_name 8) (ag_name 6)) (by decide) (fun _ => rfl) (fun symbol_332 => eb_yes) (fun symbol_332 => (em_tup2 (em_var 6 symbol_332.2 rfl) (EF.toM (ef_lst (eas_cons (em_var 8 symbol_332.1 rfl) (eas_nil (α := Int))))))))) (ag_name 2) (fun coins_337 => [.va (toD (weights_329 : (List Int))), .va (toD (limit_330 : Int)), .va (toD (coins_337 : (List (Int × (List Int))))), .un, .un, .un, .un, .un, .un]) (fun _ => rfl) (fun coins_337 => (sb_asg (EF.toM (ef_sorted (EM.toS (em_var 2 coins_337 rfl)))) (ag_name 2) (fun coins_338 => [.va (toD (weights_329 : (List Int))), .va (toD (limit_330 : Int)), .va (toD (coins_338 : (List (Int × (List Int))))), .un, .un, .un, .un, .un, .un]) (fun _ => rfl) (fun coins_338 => (sb_asg (em_var 2 coins_338 rfl) (ag_name 3) (fun items_339 => [.va (toD (weights_329 : (List Int))), .va (toD (limit_330 : Int)), .va (toD (coins_338 : (List (Int × (List Int))))), .va (toD (items_339 : (List (Int × (List Int))))), .un, .un, .un, .un, .un]) (fun _ => rfl) (fun items_339 => (sb_for (T := (List (Int × (List Int)))) (encL := fun st_343 => [.va (toD (weights_329 : (List Int))), .va (toD (limit_330 : Int)), .va (toD (coins_338 : (List (Int × (List Int))))), .va (toD (st_343 : (List (Int × (List Int))))), .un, .un, .un, .un, .un]) (ig_range1 (em_I0 (em_var 1 limit_330 rfl) (em_int 1))) (ag_name 4) items_339 (.same (.same (.same (.same (.same (.same (.same (.same (.same .nil))))))))) (fun st_343 k_344 => [.va (toD (weights_329 : (List Int))), .va (toD (limit_330 : Int)), .va (toD (coins_338 : (List (Int × (List Int))))), .va (toD (st_343 : (List (Int × (List Int))))), .va (toD (k_344 : Int)), .un, .un, .un, .un]) (fun _ _ => rfl) (fun st_343 k_344 => (sb_one (sb_asg (EF.toM (ef_sorted (EF.toS (ef_cat (EM.toL (em_var 2 coins_338 rfl)) (EM.toL (em_call1 (em_var 3 st_343 rfl))))))) (ag_name 3) (fun items_348 => [.va (toD (weights_329 : (List Int))), .va (toD (limit_330 : Int)), .va (toD (coins_338 : (List (Int × (List Int))))), .va (toD (items_348 : (List (Int × (List Int))))), .va (toD (k_344 : Int)), .un, .un, .un, .un]) (fun _ => rfl) (fun items_348 => (sb_next items_348 (.same (.same (.same (.same (.drop (.same (.same (.same (.same .nil)))))))))))))) (fun st_343 => (sb_asgO (ef_rep (EF.toL (ef_lst (eas_cons (em_int 0) (eas_nil (α := Int))))) (em_len (EM.toS (em_var 0 weights_329 rfl)))) (fun lengths_354 => [.va (toD (weights_329 : (List Int))), .va (toD (limit_330 : Int)), .va (toD (coins_338 : (List (Int × (List Int))))), .va (toD (st_343 : (List (Int × (List Int))))), .un, .ol (List.map toD (lengths_354 : (List Int))), .un, .un, .un]) (fun _ => rfl) (fun lengths_354 => (sb_for (T := (List Int)) (encL := fun st_364 => [.va (toD (weights_329 : (List Int))), .va (toD (limit_330 : Int)), .va (toD (coins_338 : (List (Int × (List Int))))), .va (toD (st_343 : (List (Int × (List Int))))), .un, .ol (List.map toD (st_364 : (List Int))), .un, .un, .un]) (ig_list (EF.toZ (ef_sl (EM.toS (em_var 3 st_343 rfl)) eo_none (eo_some (em_I0 (em_mul (em_int 2) (em_len (EM.toS (em_var 0 weights_329 rfl)))) (em_int 2)))))) (ag_t2 (ag_name 6) (ag_name 7)) lengths_354 (.same (.same (.same (.same (.same (.same (.same (.same (.same .nil))))))))) (fun st_364 weight_365 => [.va (toD (weights_329 : (List Int))), .va (toD (limit_330 : Int)), .va (toD (coins_338 : (List (Int × (List Int))))), .va (toD (st_343 : (List (Int × (List Int))))), .un, .ol (List.map toD (st_364 : (List Int))), .va (toD (weight_365.1 : Int)), .va (toD (weight_365.2 : (List Int))), .un]) (fun _ _ => rfl) (fun st_364 weight_365 => (sb_one (sb_for (T := (List Int)) (encL := fun st_366 => [.va (toD (weights_329 : (List Int))), .va (toD (limit_330 : Int)), .va (toD (coins_338 : (List (Int × (List Int))))), .va (toD (st_343 : (List (Int × (List Int))))), .un, .ol (List.map toD (st_366 : (List Int))), .va (toD (weight_365.1 : Int)), .va (toD (weight_365.2 : (List Int))), .un]) (ig_list (EM.toZ (em_var 7 weight_365.2 rfl))) (ag_name 8) st_364 (.same (.same (.same (.same (.same (.same (.same (.same (.same .nil))))))))) (fun st_366 symbol_367 => [.va (toD (weights_329 : (List Int))), .va (toD (limit_330 : Int)), .va (toD (coins_338 : (List (Int × (List Int))))), .va (toD (st_343 : (List (Int × (List Int))))), .un, .ol (List.map toD (st_366 : (List Int))), .va (toD (weight_365.1 : Int)), .va (toD (weight_365.2 : (List Int))), .va (toD (symbol_367 : Int))]) (fun _ _ => rfl) (fun st_366 symbol_367 => (sb_one (sb_augL (i := 5) (xs := st_366) rfl (em_var 8 symbol_367 rfl) (em_int 1) (fun lengths_368 => [.va (toD (weights_329 : (List Int))), .va (toD (limit_330 : Int)), .va (toD (coins_338 : (List (Int × (List Int))))), .va (toD (st_343 : (List (Int × (List Int))))), .un, .ol (List.map toD (lengths_368 : (List Int))), .va (toD (weight_365.1 : Int)), .va (toD (weight_365.2 : (List Int))), .va (toD (symbol_367 : Int))]) (fun _ => rfl) (fun lengths_368 => (sb_next lengths_368 (.same (.same (.same (.same (.same (.same (.same (.same (.drop .nil)))))))))))))) (fun st_366 => (sb_next st_366 (.same (.same (.same (.same (.same (.same (.drop (.drop (.same .nil)))))))))))))) (fun st_364 => (sb_frz (i := 5) rfl ([.va (toD (weights_329 : (List Int))), .va (toD (limit_330 : Int)), .va (toD (coins_338 : (List (Int × (List Int))))), .va (toD (st_343 : (List (Int × (List Int))))), .un, .va (toD (st_364 : (List Int))), .un, .un, .un]) rfl (sb_ret (em_var 5 st_364 rfl)))))))))))))))
theorem sc__law_cell : FnScope ["_law_script", "_law_k"] ["_law_script", "_law_k"] (defScope s__law_cell) := ⟨rfl, rfl, rfl, by decide +kernel, rfl, by decide +kernel, by decide +kernel⟩
theorem ok__law_cell : FnOk P w cf.K mg base CX0 1 T.a__law_cell T.d__law_cell ["_law_script", "_law_k"] (SpP cf 2 (sp2 f__law_cell)) := by
  refine fn2 (k := 0) (S := Unit) (enc := fun _ => [.un, .un]) T.F__law_cell sc__law_cell rfl b__law_cell (fun script_376 k_377 => [.va (toD (script_376 : Scr)), .va (toD (k_377 : Int))]) (fun _ _ => rfl) fun cdv A outer s H E hr => ?_
  refine ⟨_, (pss_cons (ps_if (pt_cmpR op_lt (pv 1) (pe_callB (lenK cf.K rfl) (by rfl) T.n_len (by decide +kernel) (pa_cons (pv 0) pa_nil)) (nomark _)) (pss_one (ps_ret (pe_callTy call_int1 (by rfl) T.n_int (by decide +kernel) (pa_cons (pe_ix (ix_listK cf.K rfl) (pv 0) (pv 1) (fun _ _ => rfl)) pa_nil)))) pss_nil) (pss_one (ps_ret pe_int))), fun script_376 k_377 => ?_⟩
  unfold b__law_cell
  exact (sb_if (eb_test (em_B0 (em_var 1 k_377 rfl) (em_len (EM.scr (em_var 0 script_376 rfl))))) (sb_ret2 (em_intI (em_ixL (EM.scr (em_var 0 script_376 rfl)) (em_var 1 k_377 rfl)))) (sb_skip (sb_ret (em_int 0))))
theorem sc__law_weights : FnScope ["_law_script", "_law_first", "_law_many", "_law_weights_here", "_law_k", "_law_cell_here", "_law_weight"] ["_law_script", "_law_first", "_law_many"] (defScope s__law_weights) := ⟨rfl, rfl, rfl, by decide +kernel, rfl, by decide +kernel, by decide +kernel⟩
theorem ok__law_weights : FnOk P w cf.K mg base CX0 2 T.a__law_weights T.d__law_weights ["_law_script", "_law_first", "_law_many"] (SpP cf 3 (sp3 f__law_weights)) := by
  refine fn3 (k := 1) (S := Unit) (enc := fun _ => [.un, .un, .un, .un, .un, .un, .un]) T.F__law_weights sc__law_weights rfl b__law_weights (fun script_386 first_387 many_388 => [.va (toD (script_386 : Scr)), .va (toD (first_387 : Int)), .va (toD (many_388 : Int)), .un, .un, .un, .un]) (fun _ _ _ => rfl) fun cdv A outer s H E hr => ?_
  refine ⟨_, (pss_cons (ps_set (i := 3) sc__law_weights.nd rfl (.inl rfl) (pe_lst pa_nil)) (pss_cons (ps_for PassesOwn.never rfl (pi_range1 (by rfl) T.n_range (pa_cons (pv 2) pa_nil)) (pg_name (i := 4) sc__law_weights.nd rfl (.inl rfl)) (pss_cons (ps_set (i := 5) sc__law_weights.nd rfl (.inl rfl) (pe_call (ok__law_cell T) (hr.mono (by decide)) (by rfl) T.g__law_cell T.F__law_cell.kp T.b__law_cell .nil pass0 (pa_cons (pv 0) (pa_cons (pe_op op_add (pv 1) (pv 4)) pa_nil)))) (pss_cons (ps_set (i := 6) sc__law_weights.nd rfl (.inl rfl) (pe_op op_mod (pv 5) pe_int)) (pss_cons (ps_if (pt_cmpR op_eq (pe_op op_mod (pv 5) pe_int) pe_int (nomark _)) (pss_one (ps_set (i := 6) sc__law_weights.nd rfl (.inl rfl) (pe_op op_mod (pe_op op_fdivW (pv 5) pe_int) pe_int))) pss_nil) (pss_cons (ps_if (pt_cmpR op_eq (pe_op op_mod (pv 5) pe_int) pe_int (nomark _)) (pss_one (ps_set (i := 6) sc__law_weights.nd rfl (.inl rfl) (pe_op op_mod (pe_op op_fdivW (pv 5) pe_int) pe_int))) pss_nil) (pss_one (ps_expr (pe_bm PySem.F.plainAttrs_list PySem.F.slot_list_append PySem.F.type_list_append mt_append (pv 3) (pa_cons (pv 6) pa_nil))))))))) (pss_one (ps_ret (pv 3))))), fun script_386 first_387 many_388 => ?_⟩
  unfold b__law_weights
  exact (sb_asgO (ef_lst (eas_nil (α := Int))) (fun weights_here_389 => [.va (toD (script_386 : Scr)), .va (toD (first_387 : Int)), .va (toD (many_388 : Int)), .ol (List.map toD (weights_here_389 : (List Int))), .un, .un, .un]) (fun _ => rfl) (fun weights_here_389 => (sb_for (T := (List Int)) (encL := fun st_391 => [.va (toD (script_386 : Scr)), .va (toD (first_387 : Int)), .va (toD (many_388 : Int)), .ol (List.map toD (st_391 : (List Int))), .un, .un, .un]) (ig_range1 (em_var 2 many_388 rfl)) (ag_name 4) weights_here_389 (.same (.same (.same (.same (.same (.same (.same .nil))))))) (fun st_391 k_392 => [.va (toD (script_386 : Scr)), .va (toD (first_387 : Int)), .va (toD (many_388 : Int)), .ol (List.map toD (st_391 : (List Int))), .va (toD (k_392 : Int)), .un, .un]) (fun _ _ => rfl) (fun st_391 k_392 => (sb_asg (em_call2 (em_var 0 script_386 rfl) (em_I0 (em_var 1 first_387 rfl) (em_var 4 k_392 rfl))) (ag_name 5) (fun cell_here_397 => [.va (toD (script_386 : Scr)), .va (toD (first_387 : Int)), .va (toD (many_388 : Int)), .ol (List.map toD (st_391 : (List Int))), .va (toD (k_392 : Int)), .va (toD (cell_here_397 : Int)), .un]) (fun _ => rfl) (fun cell_here_397 => (sb_asg (em_mod (em_var 5 cell_here_397 rfl) (em_int 9)) (ag_name 6) (fun weight_400 => [.va (toD (script_386 : Scr)), .va (toD (first_387 : Int)), .va (toD (many_388 : Int)), .ol (List.map toD (st_391 : (List Int))), .va (toD (k_392 : Int)), .va (toD (cell_here_397 : Int)), .va (toD (weight_400 : Int))]) (fun _ => rfl) (fun weight_400 => (sb_seq (T := Int) (enc1 := fun st_411 => [.va (toD (script_386 : Scr)), .va (toD (first_387 : Int)), .va (toD (many_388 : Int)), .ol (List.map toD (st_391 : (List Int))), .va (toD (k_392 : Int)), .va (toD (cell_here_397 : Int)), .va (toD (st_411 : Int))]) (sb_ifL (eb_test (em_eqI (em_mod (em_var 5 cell_here_397 rfl) (em_int 5)) (em_int 1))) (sb_one (sb_asg (em_mod (em_div (em_var 5 cell_here_397 rfl) (em_int 5)) (em_int 100)) (ag_name 6) (fun weight_416 => [.va (toD (script_386 : Scr)), .va (toD (first_387 : Int)), .va (toD (many_388 : Int)), .ol (List.map toD (st_391 : (List Int))), .va (toD (k_392 : Int)), .va (toD (cell_here_397 : Int)), .va (toD (weight_416 : Int))]) (fun _ => rfl) (fun weight_416 => (sb_next weight_416 (.same (.same (.same (.same (.same (.same (.same .nil))))))))))) (sb_next weight_400 (.same (.same (.same (.same (.same (.same (.same .nil))))))))) (fun st_411 => (sb_seq (T := Int) (enc1 := fun st_427 => [.va (toD (script_386 : Scr)), .va (toD (first_387 : Int)), .va (toD (many_388 : Int)), .ol (List.map toD (st_391 : (List Int))), .va (toD (k_392 : Int)), .va (toD (cell_here_397 : Int)), .va (toD (st_427 : Int))]) (sb_ifL (eb_test (em_eqI (em_mod (em_var 5 cell_here_397 rfl) (em_int 23)) (em_int 7))) (sb_one (sb_asg (em_mod (em_div (em_var 5 cell_here_397 rfl) (em_int 23)) (em_int 1000001)) (ag_name 6) (fun weight_432 => [.va (toD (script_386 : Scr)), .va (toD (first_387 : Int)), .va (toD (many_388 : Int)), .ol (List.map toD (st_391 : (List Int))), .va (toD (k_392 : Int)), .va (toD (cell_here_397 : Int)), .va (toD (weight_432 : Int))]) (fun _ => rfl) (fun weight_432 => (sb_next weight_432 (.same (.same (.same (.same (.same (.same (.same .nil))))))))))) (sb_next st_411 (.same (.same (.same (.same (.same (.same (.same .nil))))))))) (fun st_427 => (sb_one (sb_app (i := 3) (xs := st_391) rfl (em_var 6 st_427 rfl) (fun weights_here_433 => [.va (toD (script_386 : Scr)), .va (toD (first_387 : Int)), .va (toD (many_388 : Int)), .ol (List.map toD (weights_here_433 : (List Int))), .va (toD (k_392 : Int)), .va (toD (cell_here_397 : Int)), .va (toD (st_427 : Int))]) (fun _ => rfl) (fun weights_here_433 => (sb_next weights_here_433 (.same (.same (.same (.same (.drop (.drop (.drop .nil)))))))))))))))))))) (fun st_391 => (sb_frz (i := 3) rfl ([.va (toD (script_386 : Scr)), .va (toD (first_387 : Int)), .va (toD (many_388 : Int)), .va (toD (st_391 : (List Int))), .un, .un, .un]) rfl (sb_ret (em_var 3 st_391 rfl)))))))
theorem sc__law_least_limit : FnScope ["_law_many", "_law_limit", "_law_turn"] ["_law_many"] (defScope s__law_least_limit) := ⟨rfl, rfl, rfl, by decide +kernel, rfl, by decide +kernel, by decide +kernel⟩
theorem ok__law_least_limit : FnOk P w cf.K mg base CX0 1 T.a__law_least_limit T.d__law_least_limit ["_law_many"] (SpP cf 1 (sp1 f__law_least_limit)) := by
  refine fn1 (k := 0) (S := Unit) (enc := fun _ => [.un, .un, .un]) T.F__law_least_limit sc__law_least_limit rfl b__law_least_limit (fun many_437 => [.va (toD (many_437 : Int)), .un, .un]) (fun _ => rfl) fun cdv A outer s H E hr => ?_
  refine ⟨_, (pss_cons (ps_set (i := 1) sc__law_least_limit.nd rfl (.inl rfl) pe_int) (pss_cons (ps_for PassesOwn.never rfl (pi_range1 (by rfl) T.n_range (pa_cons pe_int pa_nil)) (pg_name (i := 2) sc__law_least_limit.nd rfl (.inl rfl)) (pss_one (ps_if (pt_cmpR op_lt (pe_op op_shlW pe_int (pv 1)) (pv 0) (nomark _)) (pss_one (ps_set (i := 1) sc__law_least_limit.nd rfl (.inl rfl) (pe_op op_add (pv 1) pe_int))) pss_nil))) (pss_one (ps_ret (pv 1))))), fun many_437 => ?_⟩
  unfold b__law_least_limit
  exact (sb_asg (em_int 1) (ag_name 1) (fun limit_438 => [.va (toD (many_437 : Int)), .va (toD (limit_438 : Int)), .un]) (fun _ => rfl) (fun limit_438 => (sb_for (T := Int) (encL := fun st_440 => [.va (toD (many_437 : Int)), .va (toD (st_440 : Int)), .un]) (ig_range1 (em_int 6)) (ag_name 2) limit_438 (.same (.same (.same .nil))) (fun st_440 turn_441 => [.va (toD (many_437 : Int)), .va (toD (st_440 : Int)), .va (toD (turn_441 : Int))]) (fun _ _ => rfl) (fun st_440 turn_441 => (sb_ifL (eb_test (em_B0 (em_shl (em_int 1) (em_var 1 st_440 rfl)) (em_var 0 many_437 rfl))) (sb_one (sb_asg (em_I0 (em_var 1 st_440 rfl) (em_int 1)) (ag_name 1) (fun limit_449 => [.va (toD (many_437 : Int)), .va (toD (limit_449 : Int)), .va (toD (turn_441 : Int))]) (fun _ => rfl) (fun limit_449 => (sb_next limit_449 (.same (.same (.drop .nil))))))) (sb_next st_440 (.same (.same (.drop .nil)))))) (fun st_440 => (sb_ret (em_var 1 st_440 rfl))))))
theorem sc__law_joined : FnScope ["_law_weights_here", "_law_left", "_law_price", "_law_turn", "_law_both"] ["_law_weights_here"] (defScope s__law_joined) := ⟨rfl, rfl, rfl, by decide +kernel, rfl, by decide +kernel, by decide +kernel⟩
theorem ok__law_joined : FnOk P w cf.K mg base CX0 1 T.a__law_joined T.d__law_joined ["_law_weights_here"] (SpP cf 1 (sp1 f__law_joined)) := by
  refine fn1 (k := 0) (S := Unit) (enc := fun _ => [.un, .un, .un, .un, .un]) T.F__law_joined sc__law_joined rfl b__law_joined (fun weights_here_452 => [.va (toD (weights_here_452 : (List Int))), .un, .un, .un, .un]) (fun _ => rfl) fun cdv A outer s H E hr => ?_
  refine ⟨_, (pss_cons (ps_set (i := 1) sc__law_joined.nd rfl (.inl rfl) (pe_callB (sortedK cf.K rfl hr.units) (by rfl) T.n_sorted (by decide +kernel) (pa_cons (pv 0) pa_nil))) (pss_cons (ps_set (i := 2) sc__law_joined.nd rfl (.inl rfl) pe_int) (pss_cons (ps_for PassesOwn.never rfl (pi_range1 (by rfl) T.n_range (pa_cons (pe_op op_sub (pe_callB (lenK cf.K rfl) (by rfl) T.n_len (by decide +kernel) (pa_cons (pv 0) pa_nil)) pe_int) pa_nil)) (pg_name (i := 3) sc__law_joined.nd rfl (.inl rfl)) (pss_cons (ps_set (i := 4) sc__law_joined.nd rfl (.inl rfl) (pe_op op_add (pe_ix (ix_listK cf.K rfl) (pv 1) pe_int (fun _ _ => rfl)) (pe_ix (ix_listK cf.K rfl) (pv 1) pe_int (fun _ _ => rfl)))) (pss_cons (ps_set (i := 2) sc__law_joined.nd rfl (.inl rfl) (pe_op op_add (pv 2) (pv 4))) (pss_one (ps_set (i := 1) sc__law_joined.nd rfl (.inl rfl) (pe_callB (sortedK cf.K rfl hr.units) (by rfl) T.n_sorted (by decide +kernel) (pa_cons (pe_op op_cat (pe_slice (sl_listK cf.K rfl) (pv 1) (po_some pe_int) po_none) (pe_lst (pa_cons (pv 4) pa_nil))) pa_nil))))))) (pss_one (ps_ret (pv 2)))))), fun weights_here_452 => ?_⟩
  unfold b__law_joined
  exact (sb_asg (EF.toM (ef_sorted (EM.toS (em_var 0 weights_here_452 rfl)))) (ag_name 1) (fun left_453 => [.va (toD (weights_here_452 : (List Int))), .va (toD (left_453 : (List Int))), .un, .un, .un]) (fun _ => rfl) (fun left_453 => (sb_asg (em_int 0) (ag_name 2) (fun price_454 => [.va (toD (weights_here_452 : (List Int))), .va (toD (left_453 : (List Int))), .va (toD (price_454 : Int)), .un, .un]) (fun _ => rfl) (fun price_454 => (sb_for (T := ((List Int) × Int)) (encL := fun st_459 => [.va (toD (weights_here_452 : (List Int))), .va (toD (st_459.1 : (List Int))), .va (toD (st_459.2 : Int)), .un, .un]) (ig_range1 (em_I0 (em_len (EM.toS (em_var 0 weights_here_452 rfl))) (em_int 1))) (ag_name 3) (left_453, price_454) (.same (.same (.same (.same (.same .nil))))) (fun st_459 turn_460 => [.va (toD (weights_here_452 : (List Int))), .va (toD (st_459.1 : (List Int))), .va (toD (st_459.2 : Int)), .va (toD (turn_460 : Int)), .un]) (fun _ _ => rfl) (fun st_459 turn_460 => (sb_asg (em_I0 (em_ixL (EM.toS (em_var 1 st_459.1 rfl)) (em_int 0)) (em_ixL (EM.toS (em_var 1 st_459.1 rfl)) (em_int 1))) (ag_name 4) (fun both_467 => [.va (toD (weights_here_452 : (List Int))), .va (toD (st_459.1 : (List Int))), .va (toD (st_459.2 : Int)), .va (toD (turn_460 : Int)), .va (toD (both_467 : Int))]) (fun _ => rfl) (fun both_467 => (sb_asg (em_I0 (em_var 2 st_459.2 rfl) (em_var 4 both_467 rfl)) (ag_name 2) (fun price_470 => [.va (toD (weights_here_452 : (List Int))), .va (toD (st_459.1 : (List Int))), .va (toD (price_470 : Int)), .va (toD (turn_460 : Int)), .va (toD (both_467 : Int))]) (fun _ => rfl) (fun price_470 => (sb_one (sb_asg (EF.toM (ef_sorted (EF.toS (ef_cat (EF.toL (ef_sl (EM.toS (em_var 1 st_459.1 rfl)) (eo_some (em_int 2)) eo_none)) (EF.toL (ef_lst (eas_cons (em_var 4 both_467 rfl) (eas_nil (α := Int))))))))) (ag_name 1) (fun left_479 => [.va (toD (weights_here_452 : (List Int))), .va (toD (left_479 : (List Int))), .va (toD (price_470 : Int)), .va (toD (turn_460 : Int)), .va (toD (both_467 : Int))]) (fun _ => rfl) (fun left_479 => (sb_next (left_479, price_470) (.same (.same (.same (.drop (.drop .nil)))))))))))))) (fun st_459 => (sb_ret (em_var 2 st_459.2 rfl))))))))
theorem sc_law : FnScope ["_law_script", "_law_many", "_law_weights_here", "_law_limit", "_law_given", "_law_found", "_law_k"] ["_law_script"] (defScope s_law) := ⟨rfl, rfl, rfl, by decide +kernel, rfl, by decide +kernel, by decide +kernel⟩
theorem ok_law : FnOk P w cf.K mg base CX0 7 T.a_law T.d_law ["_law_script"] (SpP cf 1 (sp1 f_law)) := by
  refine fn1 (k := 6) (S := Unit) (enc := fun _ => [.un, .un, .un, .un, .un, .un, .un]) T.F_law sc_law rfl b_law (fun script_482 => [.va (toD (script_482 : Scr)), .un, .un, .un, .un, .un, .un]) (fun _ => rfl) fun cdv A outer s H E hr => ?_
  refine ⟨_, (pss_cons (ps_set (i := 1) sc_law.nd rfl (.inl rfl) (pe_op op_add pe_int (pe_op op_mod (pe_call (ok__law_cell T) (hr.mono (by decide)) (by rfl) T.g__law_cell T.F__law_cell.kp T.b__law_cell .nil pass0 (pa_cons (pv 0) (pa_cons pe_int pa_nil))) pe_int))) (pss_cons (ps_set (i := 2) sc_law.nd rfl (.inl rfl) (pe_call (ok__law_weights T) (hr.mono (by decide)) (by rfl) T.g__law_weights T.F__law_weights.kp T.b__law_weights .nil pass0 (pa_cons (pv 0) (pa_cons pe_int (pa_cons (pv 1) pa_nil))))) (pss_cons (ps_set (i := 3) sc_law.nd rfl (.inl rfl) (pe_callB (call_min2 rfl) (by rfl) T.n_min (by decide +kernel) (pa_cons pe_int (pa_cons (pe_op op_add (pe_call (ok__law_least_limit T) (hr.mono (by decide)) (by rfl) T.g__law_least_limit T.F__law_least_limit.kp T.b__law_least_limit .nil pass0 (pa_cons (pv 1) pa_nil)) (pe_op op_mod (pe_call (ok__law_cell T) (hr.mono (by decide)) (by rfl) T.g__law_cell T.F__law_cell.kp T.b__law_cell .nil pass0 (pa_cons (pv 0) (pa_cons pe_int pa_nil))) pe_int)) pa_nil)))) (pss_cons (ps_set (i := 4) sc_law.nd rfl (.inl rfl) (pe_callTy (listK cf.K rfl) (by rfl) T.n_list (by decide +kernel) (pa_cons (pv 2) pa_nil))) (pss_cons (ps_set (i := 5) sc_law.nd rfl (.inl rfl) (pe_call (ok_packaged_lengths T) (hr.mono (by decide)) (by rfl) T.g_packaged_lengths T.F_packaged_lengths.kp T.b_packaged_lengths .nil pass0 (pa_cons (pv 4) (pa_cons (pv 3) pa_nil)))) (pss_cons (ps_if (PW.pt (pw_or (pt_cmpR (neDK cf.K rfl hr.units) (pv 4) (pv 2) (nomark _)) (pw_or (pt_cmpR op_ne (pe_callB (lenK cf.K rfl) (by rfl) T.n_len (by decide +kernel) (pa_cons (pv 5) pa_nil)) (pv 1) (nomark _)) (pw_or (pt_cmpR op_lt (pe_call (ok_room T) (hr.mono (by decide)) (by rfl) T.g_room T.F_room.kp T.b_room .nil pass0 (pa_cons (pv 5) pa_nil)) pe_int (nomark _)) (pw_or (pt_cmpR op_lt (pe_callB (minK cf.K rfl rfl) (by rfl) T.n_min (by decide +kernel) (pa_cons (pv 5) pa_nil)) pe_int (nomark _)) (pw_or1 (pt_cmpR op_gt (pe_callB (maxK cf.K rfl rfl) (by rfl) T.n_max (by decide +kernel) (pa_cons (pv 5) pa_nil)) (pv 3) (nomark _)))))))) (pss_one (ps_ret pe_bl)) pss_nil) (pss_cons (ps_if (pt_cmpR op_ne (pe_call (ok_cost T) (hr.mono (by decide)) (by rfl) T.g_cost T.F_cost.kp T.b_cost .nil pass0 (pa_cons (pv 2) (pa_cons (pv 5) pa_nil))) (pe_call (ok_cost T) (hr.mono (by decide)) (by rfl) T.g_cost T.F_cost.kp T.b_cost .nil pass0 (pa_cons (pv 2) (pa_cons (pe_call (ok_least_lengths T) (hr.mono (by decide)) (by rfl) T.g_least_lengths T.F_least_lengths.kp T.b_least_lengths .nil pass0 (pa_cons (pv 2) (pa_cons (pv 3) pa_nil))) pa_nil))) (nomark _)) (pss_one (ps_ret pe_bl)) pss_nil) (pss_cons (ps_set (i := 1) sc_law.nd rfl (.inl rfl) (pe_op op_add pe_int (pe_op op_mod (pe_call (ok__law_cell T) (hr.mono (by decide)) (by rfl) T.g__law_cell T.F__law_cell.kp T.b__law_cell .nil pass0 (pa_cons (pv 0) (pa_cons pe_int pa_nil))) pe_int))) (pss_cons (ps_setLc (i := 2) (own := [("_law_k", 6)]) rfl sc_law.nd rfl rfl (sw_true rfl rfl rfl (by decide +kernel)) (pi_range1 (by rfl) T.n_range (pa_cons (pv 1) pa_nil)) (blkOk_by (own := [("_law_k", 6)]) (N := ["_law_script", "_law_many", "_law_weights_here", "_law_limit", "_law_given", "_law_found", "_law_k"]) (sc := defScope s_law) (by decide +kernel)) (fun _ _ _ _ _ => (pg_name (i := 6) sc_law.nd rfl (Or.inl rfl) (Or.inr rfl))) (fun _ _ _ _ _ => pts_nil) (fun _ _ _ _ _ => (pe_op op_add pe_int (pe_op op_mod (pe_call (ok__law_cell T) (hr.mono (by decide)) (by rfl) T.g__law_cell T.F__law_cell.kp T.b__law_cell .nil pass0 (pa_cons (pv 0) (pa_cons (pe_op op_add pe_int (pv 6)) pa_nil))) pe_int)))) (pss_cons (ps_set (i := 5) sc_law.nd rfl (.inl rfl) (pe_call (ok_packaged_lengths T) (hr.mono (by decide)) (by rfl) T.g_packaged_lengths T.F_packaged_lengths.kp T.b_packaged_lengths .nil pass0 (pa_cons (pe_callTy (listK cf.K rfl) (by rfl) T.n_list (by decide +kernel) (pa_cons (pv 2) pa_nil)) (pa_cons pe_int pa_nil)))) (pss_cons (ps_if (PW.pt (pw_or (pt_cmpR op_ne (pe_callB (lenK cf.K rfl) (by rfl) T.n_len (by decide +kernel) (pa_cons (pv 5) pa_nil)) (pv 1) (nomark _)) (pw_or (pt_cmpR op_lt (pe_call (ok_room T) (hr.mono (by decide)) (by rfl) T.g_room T.F_room.kp T.b_room .nil pass0 (pa_cons (pv 5) pa_nil)) pe_int (nomark _)) (pw_or (pt_cmpR op_lt (pe_callB (minK cf.K rfl rfl) (by rfl) T.n_min (by decide +kernel) (pa_cons (pv 5) pa_nil)) pe_int (nomark _)) (pw_or1 (pt_cmpR op_gt (pe_callB (maxK cf.K rfl rfl) (by rfl) T.n_max (by decide +kernel) (pa_cons (pv 5) pa_nil)) pe_int (nomark _))))))) (pss_one (ps_ret pe_bl)) pss_nil) (pss_one (ps_ret (pe_cmpR op_eq (pe_call (ok_cost T) (hr.mono (by decide)) (by rfl) T.g_cost T.F_cost.kp T.b_cost .nil pass0 (pa_cons (pv 2) (pa_cons (pv 5) pa_nil))) (pe_call (ok__law_joined T) (hr.mono (by decide)) (by rfl) T.g__law_joined T.F__law_joined.kp T.b__law_joined .nil pass0 (pa_cons (pv 2) pa_nil)) (nomark _))))))))))))))), fun script_482 => ?_⟩
  unfold b_law
  exact (sb_asg (em_I0 (em_int 2) (em_mod (em_call2 (em_var 0 script_482 rfl) (em_int 0)) (em_int 15))) (ag_name 1) (fun many_489 => [.va (toD (script_482 : Scr)), .va (toD (many_489 : Int)), .un, .un, .un, .un, .un]) (fun _ => rfl) (fun many_489 => (sb_asg (em_call3 (em_var 0 script_482 rfl) (em_int 2) (em_var 1 many_489 rfl)) (ag_name 2) (fun weights_here_493 => [.va (toD (script_482 : Scr)), .va (toD (many_489 : Int)), .va (toD (weights_here_493 : (List Int))), .un, .un, .un, .un]) (fun _ => rfl) (fun weights_here_493 => (sb_asg (em_min2 (em_int 16) (em_I0 (em_call1 (em_var 1 many_489 rfl)) (em_mod (em_call2 (em_var 0 script_482 rfl) (em_int 1)) (em_int 4)))) (ag_name 3) (fun limit_503 => [.va (toD (script_482 : Scr)), .va (toD (many_489 : Int)), .va (toD (weights_here_493 : (List Int))), .va (toD (limit_503 : Int)), .un, .un, .un]) (fun _ => rfl) (fun limit_503 => (sb_asg (EF.toM (ef_list (EM.toS (em_var 2 weights_here_493 rfl)))) (ag_name 4) (fun given_504 => [.va (toD (script_482 : Scr)), .va (toD (many_489 : Int)), .va (toD (weights_here_493 : (List Int))), .va (toD (limit_503 : Int)), .va (toD (given_504 : (List Int))), .un, .un]) (fun _ => rfl) (fun given_504 => (sb_asg (em_call2 (em_var 4 given_504 rfl) (em_var 3 limit_503 rfl)) (ag_name 5) (fun found_507 => [.va (toD (script_482 : Scr)), .va (toD (many_489 : Int)), .va (toD (weights_here_493 : (List Int))), .va (toD (limit_503 : Int)), .va (toD (given_504 : (List Int))), .va (toD (found_507 : (List Int))), .un]) (fun _ => rfl) (fun found_507 => (sb_if (eb_or (eb_test (em_neD (EM.toE (em_var 4 given_504 rfl)) (EM.toE (em_var 2 weights_here_493 rfl)))) (eb_or (eb_test (em_neI (em_len (EM.toS (em_var 5 found_507 rfl))) (em_var 1 many_489 rfl))) (eb_or (eb_test (em_B0 (em_call1 (em_var 5 found_507 rfl)) (em_int 0))) (eb_or (eb_test (em_B0 (em_min (EM.toS (em_var 5 found_507 rfl))) (em_int 1))) (eb_test (em_B0 (em_max (EM.toS (em_var 5 found_507 rfl))) (em_var 3 limit_503 rfl))))))) (sb_ret2 (em_bl false)) (sb_skip (sb_if (eb_test (em_neI (em_call2 (em_var 2 weights_here_493 rfl) (em_var 5 found_507 rfl)) (em_call2 (em_var 2 weights_here_493 rfl) (em_call2 (em_var 2 weights_here_493 rfl) (em_var 3 limit_503 rfl))))) (sb_ret2 (em_bl false)) (sb_skip (sb_asg (em_I0 (em_int 2) (em_mod (em_call2 (em_var 0 script_482 rfl) (em_int 18)) (em_int 39))) (ag_name 1) (fun many_542 => [.va (toD (script_482 : Scr)), .va (toD (many_542 : Int)), .va (toD (weights_here_493 : (List Int))), .va (toD (limit_503 : Int)), .va (toD (given_504 : (List Int))), .va (toD (found_507 : (List Int))), .un]) (fun _ => rfl) (fun many_542 => (sb_asg (EF.toM (ef_lc (vs := [6]) (Gi := fun k_544 => [.va (toD (script_482 : Scr)), .va (toD (many_542 : Int)), .va (toD (weights_here_493 : (List Int))), .va (toD (limit_503 : Int)), .va (toD (given_504 : (List Int))), .va (toD (found_507 : (List Int))), .va (toD (k_544 : Int))]) (ig_range1 (em_var 1 many_542 rfl)) (ag_name 6) (by decide) (fun _ => rfl) (fun k_544 => eb_yes) (fun k_544 => (em_I0 (em_int 1) (em_mod (em_call2 (em_var 0 script_482 rfl) (em_I0 (em_int 19) (em_var 6 k_544 rfl))) (em_int 200)))))) (ag_name 2) (fun weights_here_553 => [.va (toD (script_482 : Scr)), .va (toD (many_542 : Int)), .va (toD (weights_here_553 : (List Int))), .va (toD (limit_503 : Int)), .va (toD (given_504 : (List Int))), .va (toD (found_507 : (List Int))), .un]) (fun _ => rfl) (fun weights_here_553 => (sb_asg (em_call2 (EF.toM (ef_list (EM.toS (em_var 2 weights_here_553 rfl)))) (em_int 20)) (ag_name 5) (fun found_556 => [.va (toD (script_482 : Scr)), .va (toD (many_542 : Int)), .va (toD (weights_here_553 : (List Int))), .va (toD (limit_503 : Int)), .va (toD (given_504 : (List Int))), .va (toD (found_556 : (List Int))), .un]) (fun _ => rfl) (fun found_556 => (sb_if (eb_or (eb_test (em_neI (em_len (EM.toS (em_var 5 found_556 rfl))) (em_var 1 many_542 rfl))) (eb_or (eb_test (em_B0 (em_call1 (em_var 5 found_556 rfl)) (em_int 0))) (eb_or (eb_test (em_B0 (em_min (EM.toS (em_var 5 found_556 rfl))) (em_int 1))) (eb_test (em_B0 (em_max (EM.toS (em_var 5 found_556 rfl))) (em_int 20)))))) (sb_ret2 (em_bl false)) (sb_skip (sb_ret (em_eqI (em_call2 (em_var 2 weights_here_553 rfl) (em_var 5 found_556 rfl)) (em_call1 (em_var 2 weights_here_553 rfl))))))))))))))))))))))))))
end
end Kx

/-! KrR: ranks, rests, choices: plain lists. -/
namespace Kr
open PySem PySem.Spec PyProof.Rows L2
open Enc (toD)
variable {α β T ρ S : Type}
/-! ### loops that fill a list -/
theorem forR_fm {step : List β → α → R (Fl (List β) ρ)} {k : List β → R (Fl S ρ)} (f : α → Option β) : ∀ (xs : List α) (s0 : List β), s0.length + xs.length ≤ 1000000 → (∀ s x, x ∈ xs → s.length < 1000000 → step s x = .ok (.nx (s ++ (f x).toList))) →
    forR step k xs s0 = k (s0 ++ xs.filterMap f)
  | [], s0, _, _ => by
    rw [List.filterMap_nil, List.append_nil]
    rfl
  | x :: r, s0, hz, h => by
    rw [List.length_cons] at hz
    rw [forR_cons, h s0 x (by simp) (by omega), R.ok_bind]
    show forR step k r (s0 ++ (f x).toList) = _
    rw [forR_fm f r _ (by
      rw [List.length_append]
      have : (f x).toList.length ≤ 1 := by cases f x <;> simp
      omega) fun s y hy => h s y (by simp [hy])]
    cases e : f x with
    | none =>
      rw [List.filterMap_cons_none e]
      simp
    | some y =>
      rw [List.filterMap_cons_some e]
      simp
theorem forR_map {step : List β → α → R (Fl (List β) ρ)} {k : List β → R (Fl S ρ)} (g : α → β) (xs : List α) (s0 : List β) (hz : s0.length + xs.length ≤ 1000000) (h : ∀ s x, x ∈ xs → s.length < 1000000 → step s x = .ok (.nx (s ++ [g x]))) :
    forR step k xs s0 = k (s0 ++ xs.map g) := by
  rw [forR_fm (fun x => some (g x)) xs s0 hz fun s x hx hl => by rw [h s x hx hl]; rfl, List.filterMap_eq_map']
theorem szR_snoc {s : List β} {y : β} (h : s.length < 1000000) : szR (s ++ [y]) = .ok (s ++ [y]) := szR_ok (by
  rw [List.length_append]
  simp
  omega)
/-! ### ranks -/
def gW (ws : List Int) (k : Int) : Int := ws.getD k.toNat 0
theorem idxR_gW {ws : List Int} {k : Int} (h : 0 ≤ k) (h' : k < ws.length) : idxR ws k = .ok (gW ws k) := by
  rw [idxR_ok h h']
  unfold gW
  rw [List.getD_eq_getElem?_getD, List.getElem?_eq_getElem (by omega)]
  rfl
/-- a has a better rank than b -/
def bf (ws : List Int) (a b : Int) : Prop := gW ws b < gW ws a ∨ (gW ws a = gW ws b ∧ a < b)
instance (ws : List Int) (a b : Int) : Decidable (bf ws a b) := by unfold bf; exact inferInstance
def rk (ws : List Int) : List Int := (((seqI 0 ws.length).map fun k => (-(gW ws k), k)).mergeSort leD).map (·.2)
theorem leD_trans (a b c : Int × Int) (h : leD a b = true) (h' : leD b c = true) : leD a c = true := by
  rw [leD_ii, decide_eq_true_eq] at *
  omega
theorem leD_total (a b : Int × Int) : (leD a b || leD b a) = true := by
  rw [leD_ii, leD_ii, Bool.or_eq_true, decide_eq_true_eq, decide_eq_true_eq]
  omega
theorem seqI_nodup (lo : Int) (n : Nat) : (seqI lo n).Nodup := by
  unfold seqI
  exact List.Pairwise.map _ (fun a b h e => h (by omega)) List.nodup_range
theorem rk_perm (ws : List Int) : (rk ws).Perm (seqI 0 ws.length) := by
  have h := (List.mergeSort_perm ((seqI 0 ws.length).map fun k => (-(gW ws k), k)) leD).map (·.2)
  rw [List.map_map] at h
  have e : ((fun x : Int × Int => x.2) ∘ fun k => (-(gW ws k), k)) = id := rfl
  rw [e, List.map_id] at h
  exact h
theorem rk_len (ws : List Int) : (rk ws).length = ws.length := by rw [(rk_perm ws).length_eq, seqI_len]
theorem rk_nodup (ws : List Int) : (rk ws).Nodup := (rk_perm ws).nodup_iff.mpr (seqI_nodup 0 _)
theorem rk_mem (ws : List Int) (k : Int) : k ∈ rk ws ↔ 0 ≤ k ∧ k < ws.length := by
  rw [(rk_perm ws).mem_iff, mem_seqI]
  omega
theorem rk_sorted (ws : List Int) : (rk ws).Pairwise (bf ws) := by
  have h := List.pairwise_mergeSort leD_trans leD_total ((seqI 0 ws.length).map fun k => (-(gW ws k), k))
  have hn := rk_nodup ws
  unfold rk at hn ⊢
  rw [List.pairwise_map]
  rw [List.Nodup, List.pairwise_map] at hn
  have hm : ∀ p ∈ ((seqI 0 ws.length).map fun k => (-(gW ws k), k)).mergeSort leD, p.1 = -(gW ws p.2) := fun p hp => by
    obtain ⟨k, _, rfl⟩ := List.mem_map.mp ((List.mergeSort_perm _ _).mem_iff.mp hp)
    rfl
  refine List.Pairwise.imp_of_mem ?_ (h.and hn)
  intro p q hp hq ⟨h1, h2⟩
  rw [leD_ii, decide_eq_true_eq, hm p hp, hm q hq] at h1
  unfold bf
  omega
theorem bf_asymm {ws : List Int} {a b : Int} (h : bf ws a b) (h' : bf ws b a) : False := by
  unfold bf at *
  omega
/-- the next rank: the best of those that have none yet -/
theorem rk_next {ws : List Int} {i : Nat} (hi : i < ws.length) {b : Int} (hb : 0 ≤ b ∧ b < ws.length) (hn : b ∉ (rk ws).take i) (hbest : ∀ k : Int, 0 ≤ k → k < ws.length → k ∉ (rk ws).take i → k = b ∨ bf ws b k) : (rk ws)[i]? = some b := by
  have hl := rk_len ws
  have hi' : i < (rk ws).length := by omega
  have hsplit := List.take_append_drop i (rk ws)
  rw [List.getElem?_eq_getElem hi']
  congr 1
  have hbm : b ∈ (rk ws).drop i := by
    have := (rk_mem ws b).mpr hb
    rw [← hsplit] at this
    exact (List.mem_append.mp this).resolve_left hn
  have hd : (rk ws).drop i = (rk ws)[i] :: (rk ws).drop (i + 1) := List.drop_eq_getElem_cons hi'
  have hs := rk_sorted ws
  rw [← hsplit, List.pairwise_append] at hs
  have hnd := rk_nodup ws
  rw [← hsplit, List.nodup_append] at hnd
  have hnt : (rk ws)[i] ∉ (rk ws).take i := fun hm => hnd.2.2 _ hm (rk ws)[i] (by rw [hd]; exact List.mem_cons_self ..) rfl
  have hr := (rk_mem ws (rk ws)[i]).mp (List.getElem_mem hi')
  rcases hbest _ hr.1 hr.2 hnt with e | hbf
  · exact e
  · rw [hd] at hbm hs
    rcases List.mem_cons.mp hbm with e | hm
    · exact e.symm
    · exact (bf_asymm hbf ((List.pairwise_cons.mp hs.2.1).1 b hm)).elim
/-! ### rests -/
def suf : List Int → List Int
  | [] => [0]
  | w :: r => (w :: r).sum :: suf r
def rkW (ws : List Int) : List Int := (rk ws).map (gW ws)
theorem suf_len : ∀ l : List Int, (suf l).length = l.length + 1
  | [] => rfl
  | w :: r => by
    show (suf r).length + 1 = _
    rw [suf_len r]
    rfl
theorem suf_head : ∀ l : List Int, (suf l)[0]? = some l.sum
  | [] => rfl
  | w :: r => rfl
theorem sum_perm {l l' : List Int} (h : l.Perm l') : l.sum = l'.sum := by
  induction h with
  | nil => rfl
  | cons x _ ih => rw [List.sum_cons, List.sum_cons, ih]
  | swap x y l => simp only [List.sum_cons]; omega
  | trans _ _ h1 h2 => rw [h1, h2]
theorem map_gW (ws : List Int) : (seqI 0 ws.length).map (gW ws) = ws := by
  apply List.ext_getElem
  · rw [List.length_map, seqI_len]
  · intro i h1 h2
    rw [List.getElem_map, seqI_at (by rw [List.length_map] at h1; exact h1)]
    unfold gW
    rw [List.getD_eq_getElem?_getD, show ((0 : Int) + (i : Int)).toNat = i by omega, List.getElem?_eq_getElem h2]
    rfl
theorem sum_rkW (ws : List Int) : (rkW ws).sum = ws.sum := by
  have h := sum_perm ((rk_perm ws).map (gW ws))
  rw [map_gW] at h
  exact h
theorem rkW_at {ws : List Int} {i : Nat} (h : i < (rkW ws).length) (h' : i < (rk ws).length) : (rkW ws)[i] = gW ws (rk ws)[i] := List.getElem_map (gW ws)
def sums (ws : List Int) : List Int := suf (rkW ws)
theorem rkW_len (ws : List Int) : (rkW ws).length = ws.length := by
  unfold rkW
  rw [List.length_map, rk_len]
theorem sums_len (ws : List Int) : (sums ws).length = ws.length + 1 := by
  unfold sums
  rw [suf_len, rkW_len]
/-! ### choices -/
abbrev Stg := T3 Int Int Int
abbrev Cho := T3 Int Int (Option Stg)
/-- the choice a of a stage, if it is one -/
def item (sm : List Int) (lim : Int) (st : Stg) (a : Int) : Option Cho :=
  if (st.a = lim ∧ a = (sm.length : Int) - 1 - st.b) ∨ (st.a ≠ lim ∧ (0 < st.a ∨ a = 0)) then
    (if st.b + a = (sm.length : Int) - 1 then some ⟨a, 0, none⟩ else if a < st.c then some ⟨a, gW sm (st.b + a), some ⟨st.a + 1, st.b + a, min (2 * (st.c - a)) ((sm.length : Int) - 1 - st.b - a)⟩⟩ else none)
  else none
def chs (sm : List Int) (lim : Int) (st : Stg) : List Cho := (seqI 0 (min st.c ((sm.length : Int) - 1 - st.b) + 1).toNat).filterMap (item sm lim st)
theorem fm_none (f : Int → Option β) (lo : Int) (n : Nat) (h : ∀ x, lo ≤ x → x < lo + n → f x = none) : (seqI lo n).filterMap f = [] := List.filterMap_eq_nil_iff.mpr fun x hx => h x (mem_seqI.mp hx).1 (mem_seqI.mp hx).2
theorem seqI_split (lo : Int) (n m : Nat) : seqI lo (n + m) = seqI lo n ++ seqI (lo + n) m := by
  induction m with
  | zero => simp [seqI]
  | succ m ih => rw [← Nat.add_assoc, seqI_succ, ih, seqI_succ, List.append_assoc, show lo + ((n + m : Nat) : Int) = lo + n + (m : Int) by omega]
/-- the program's walk: from first to last -/
theorem chs_by (sm : List Int) (lim : Int) (st : Stg) (h0 : 0 ≤ st.a) (hl : st.a ≤ lim) (hl1 : 1 ≤ lim) (hm : 0 ≤ st.b ∧ st.b < (sm.length : Int) - 1) (hc : 1 ≤ st.c) :
    chs sm lim st = (seqI (if st.a = lim then (sm.length : Int) - 1 - st.b else 0) ((if st.a = 0 then 0 else min st.c ((sm.length : Int) - 1 - st.b)) + 1 - (if st.a = lim then (sm.length : Int) - 1 - st.b else 0)).toNat).filterMap (item sm lim st) := by
  unfold chs
  by_cases e1 : st.a = lim
  · rw [if_pos e1, if_neg (show ¬ st.a = 0 by omega)]
    have hno : ∀ x, x ≠ (sm.length : Int) - 1 - st.b → item sm lim st x = none := fun x hx => by
      unfold item
      rw [if_neg (by omega)]
    by_cases e2 : (sm.length : Int) - 1 - st.b ≤ st.c
    · rw [Int.min_eq_right e2, show ((sm.length : Int) - 1 - st.b + 1).toNat = ((sm.length : Int) - 1 - st.b).toNat + 1 by omega, seqI_split, List.filterMap_append, fm_none _ _ _ (fun x h1 h2 => hno x (by omega)), List.nil_append,
        show ((sm.length : Int) - 1 - st.b + 1 - ((sm.length : Int) - 1 - st.b)).toNat = 1 by omega, show (0 : Int) + (((sm.length : Int) - 1 - st.b).toNat : Int) = (sm.length : Int) - 1 - st.b by omega]
    · rw [Int.min_eq_left (by omega), show (st.c + 1 - ((sm.length : Int) - 1 - st.b)).toNat = 0 by omega, fm_none _ _ _ (fun x h1 h2 => hno x (by omega))]
      rfl
  · rw [if_neg e1]
    by_cases e3 : st.a = 0
    · rw [if_pos e3]
      have hno : ∀ x, x ≠ 0 → item sm lim st x = none := fun x hx => by
        unfold item
        rw [if_neg (by omega)]
      rw [show (min st.c ((sm.length : Int) - 1 - st.b) + 1).toNat = 1 + (min st.c ((sm.length : Int) - 1 - st.b)).toNat by omega, seqI_split, List.filterMap_append, fm_none _ ((0 : Int) + ((1 : Nat) : Int)) _ (fun x h1 h2 => hno x (by omega)), List.append_nil]
      rfl
    · rw [if_neg e3, Int.sub_zero]
end Kr

namespace Kx
open PySem PySem.Spec PyProof.Rows L2 Kr
open Enc (toD)
theorem cell_eq (ns : List Int) (k : Int) (hk : 0 ≤ k) : f__law_cell ⟨ns⟩ k = .ok (ns.getD k.toNat 0) := by
  unfold f__law_cell b__law_cell
  simp only [R.ok_bind, R.ok_pu, R.er_bind, R.bad_bind, R.ok_map, finR_rt, seqF_nx, seqF_rt, R.bind_ok, R.bind_bind, decide_eq_true_eq, Bool.not_eq_true', decide_eq_false_iff_not, Bool.false_eq_true, if_true, if_false, ite_nx]
  by_cases h : k < (ns.length : Int)
  · rw [if_pos h, idxR_ok hk h]
    simp only [R.ok_bind, R.ok_pu, R.er_bind, R.bad_bind, R.ok_map, finR_rt, seqF_nx, seqF_rt, R.bind_ok, R.bind_bind, decide_eq_true_eq, Bool.not_eq_true', decide_eq_false_iff_not, Bool.false_eq_true, if_true, if_false, ite_nx]
    rw [List.getD_eq_getElem?_getD, List.getElem?_eq_getElem (by omega)]
    rfl
  · rw [if_neg h]
    simp only [R.ok_bind, R.ok_pu, R.er_bind, R.bad_bind, R.ok_map, finR_rt, seqF_nx, seqF_rt, R.bind_ok, R.bind_bind, decide_eq_true_eq, Bool.not_eq_true', decide_eq_false_iff_not, Bool.false_eq_true, if_true, if_false, ite_nx]
    rw [List.getD_eq_getElem?_getD, List.getElem?_eq_none (by omega)]
    rfl
theorem weights_eq (ns : List Int) (first : Int) (many : Nat) (hf : 0 ≤ first) (hm : many ≤ 1000) : ∃ ws, f__law_weights ⟨ns⟩ first many = .ok ws ∧ ws.length = many ∧ ∀ w ∈ ws, 0 ≤ w ∧ w ≤ 1000000 := by
  unfold f__law_weights b__law_weights
  simp only [R.ok_bind, R.ok_pu, R.er_bind, R.bad_bind, R.ok_map, finR_rt, seqF_nx, seqF_rt, R.bind_ok, R.bind_bind, decide_eq_true_eq, Bool.not_eq_true', decide_eq_false_iff_not, Bool.false_eq_true, if_true, if_false, ite_nx, szR_nil, rng1_nat (show many ≤ 1000000 by omega)]
  refine forR_elim (P := fun r => ∃ ws : List Int, finR r = R.ok ws ∧ ws.length = many ∧ ∀ w ∈ ws, 0 ≤ w ∧ w ≤ 1000000) (fun i (s : List Int) => s.length = i ∧ ∀ w ∈ s, 0 ≤ w ∧ w ≤ 1000000) ?_ (fun i hi s hI => ?_) (fun s hI => ?_)
  · exact ⟨rfl, fun w hw => (nomatch hw)⟩
  rotate_left
  · exact ⟨s, finR_rt s, by rw [hI.1, seqI_len], hI.2⟩
  rw [seqI_at hi, cell_eq ns _ (by omega)]
  rw [seqI_len] at hi
  generalize ns.getD (first + (0 + (i : Int))).toNat 0 = c
  simp only [R.ok_bind, R.ok_pu, R.er_bind, R.bad_bind, R.ok_map, finR_rt, seqF_nx, seqF_rt, R.bind_ok, R.bind_bind, decide_eq_true_eq, Bool.not_eq_true', decide_eq_false_iff_not, Bool.false_eq_true, if_true, if_false, ite_nx, modR_ok (show (0 : Int) < 9 by decide), modR_ok (show (0 : Int) < 5 by decide), modR_ok (show (0 : Int) < 23 by decide), modR_ok (show (0 : Int) < 100 by decide), modR_ok (show (0 : Int) < 1000001 by decide), divR_ok (show (0 : Int) < 5 by decide) (by decide), divR_ok (show (0 : Int) < 23 by decide) (by decide)]
  simp only [szR_snoc (show s.length < 1000000 by omega), R.ok_bind, R.ok_pu, R.er_bind, R.bad_bind, R.ok_map, finR_rt, seqF_nx, seqF_rt, R.bind_ok, R.bind_bind, decide_eq_true_eq, Bool.not_eq_true', decide_eq_false_iff_not, Bool.false_eq_true, if_true, if_false, ite_nx]
  refine ⟨_, rfl, by rw [List.length_append, hI.1]; rfl, fun w hw => ?_⟩
  rcases List.mem_append.mp hw with hw | hw
  · exact hI.2 w hw
  · rw [List.mem_singleton.mp hw]
    split
    · omega
    · split <;> omega
theorem ranks_eq (ws : List Int) (h : ws.length ≤ 1000) : f_ranks ws = .ok (rk ws) := by
  unfold f_ranks b_ranks
  simp only [R.ok_bind, R.ok_pu, R.er_bind, R.bad_bind, R.ok_map, finR_rt, seqF_nx, seqF_rt, R.bind_ok, R.bind_bind, decide_eq_true_eq, Bool.not_eq_true', decide_eq_false_iff_not, Bool.false_eq_true, if_true, if_false, ite_nx, rng1_nat (show ws.length ≤ 1000000 by omega)]
  rw [lcR_map (fun k => (-(gW ws k), k)) (by rw [seqI_len]; omega) fun k hk => by
    have := mem_seqI.mp hk
    rw [idxR_gW (by omega) (by omega)]
    simp only [R.ok_bind, R.ok_pu, R.er_bind, R.bad_bind, R.ok_map, finR_rt, seqF_nx, seqF_rt, R.bind_ok, R.bind_bind, decide_eq_true_eq, Bool.not_eq_true', decide_eq_false_iff_not, Bool.false_eq_true, if_true, if_false, ite_nx]]
  rw [R.ok_bind, sortR_ok (by rw [List.length_map, seqI_len]; omega), R.ok_bind, lcR_map (fe := fun p : Int × Int => R.ok p.2) (fun p => p.2) (by rw [List.length_mergeSort, List.length_map, seqI_len]; omega) fun p hp => rfl]
  simp only [R.ok_bind, R.ok_pu, R.er_bind, R.bad_bind, R.ok_map, finR_rt, seqF_nx, seqF_rt, R.bind_ok, R.bind_bind, decide_eq_true_eq, Bool.not_eq_true', decide_eq_false_iff_not, Bool.false_eq_true, if_true, if_false, ite_nx]
  rfl
theorem cost_eq (ws ls : List Int) (h : ws.length ≤ 1000) (hw : ∀ w ∈ ws, 0 ≤ w ∧ w ≤ 1000000) (hl : ∀ l ∈ ls, 0 ≤ l ∧ l ≤ 1000) : f_cost ws ls = .ok ((ws.zip ls).map fun p => p.1 * p.2).sum := by
  unfold f_cost b_cost
  simp only [R.ok_bind, R.ok_pu, R.er_bind, R.bad_bind, R.ok_map, finR_rt, seqF_nx, seqF_rt, R.bind_ok, R.bind_bind, decide_eq_true_eq, Bool.not_eq_true', decide_eq_false_iff_not, Bool.false_eq_true, if_true, if_false, ite_nx]
  rw [lcR_map (fun p : Int × Int => p.1 * p.2) (by rw [List.length_zip]; omega) fun p hp => by
    have h1 := hw _ (List.of_mem_zip (show (p.1, p.2) ∈ ws.zip ls from hp)).1
    have h2 := hl _ (List.of_mem_zip (show (p.1, p.2) ∈ ws.zip ls from hp)).2
    exact mulR_ok (by omega) (by omega)]
  simp only [R.ok_bind, R.ok_pu, R.er_bind, R.bad_bind, R.ok_map, finR_rt, seqF_nx, seqF_rt, R.bind_ok, R.bind_bind, decide_eq_true_eq, Bool.not_eq_true', decide_eq_false_iff_not, Bool.false_eq_true, if_true, if_false, ite_nx]
theorem rests_eq (ws : List Int) (h : ws.length ≤ 1000) : f_rests ws = .ok (sums ws) := by
  unfold f_rests b_rests
  simp only [R.ok_bind, R.ok_pu, R.er_bind, R.bad_bind, R.ok_map, finR_rt, seqF_nx, seqF_rt, R.bind_ok, R.bind_bind, decide_eq_true_eq, Bool.not_eq_true', decide_eq_false_iff_not, Bool.false_eq_true, if_true, if_false, ite_nx, ranks_eq ws h, szR_ok (show [ws.sum].length ≤ 1000000 by simp)]
  refine forR_elim (P := fun r => finR r = R.ok (sums ws)) (fun i (s : Int × List Int) => s.1 = ((rkW ws).drop i).sum ∧ ∃ q, suf (rkW ws) = s.2 ++ q ∧ (suf ((rkW ws).drop i)) = s.1 :: q ∧ s.2.length = i + 1) ?_ (fun i hi s hI => ?_) (fun s hI => ?_)
  · refine ⟨?_, ?_⟩
    · rw [List.drop_zero, sum_rkW]
    · rw [List.drop_zero]
      cases e : rkW ws with
      | nil =>
        have := sum_rkW ws
        rw [e] at this
        exact ⟨[], by rw [← this]; rfl, by rw [← this]; rfl, rfl⟩
      | cons w r =>
        have := sum_rkW ws
        rw [e] at this
        exact ⟨suf r, by rw [← this]; rfl, by rw [← this]; rfl, rfl⟩
  · obtain ⟨h1, q, h2, h3, h4⟩ := hI
    have hm := (rk_mem ws (rk ws)[i]).mp (List.getElem_mem hi)
    rw [rk_len] at hi
    rw [idxR_gW hm.1 hm.2]
    have hiW : i < (rkW ws).length := by rw [rkW_len]; exact hi
    have hat : (rkW ws)[i] = gW ws (rk ws)[i] := rkW_at hiW (by rw [rk_len]; exact hi)
    have hd : (rkW ws).drop i = gW ws (rk ws)[i] :: (rkW ws).drop (i + 1) := by rw [List.drop_eq_getElem_cons hiW, hat]
    have hsum : s.1 - gW ws (rk ws)[i] = ((rkW ws).drop (i + 1)).sum := by
      rw [h1, hd, List.sum_cons]
      omega
    have hq : q = suf ((rkW ws).drop (i + 1)) := by
      rw [hd] at h3
      exact (List.cons.inj h3).2.symm
    have hsz : szR (s.2 ++ [s.1 - gW ws (rk ws)[i]]) = .ok (s.2 ++ [s.1 - gW ws (rk ws)[i]]) := szR_snoc (by omega)
    simp only [R.ok_bind, R.ok_pu, R.er_bind, R.bad_bind, R.ok_map, finR_rt, seqF_nx, seqF_rt, R.bind_ok, R.bind_bind, decide_eq_true_eq, Bool.not_eq_true', decide_eq_false_iff_not, Bool.false_eq_true, if_true, if_false, ite_nx, hsz]
    have hh : ∃ q', suf ((rkW ws).drop (i + 1)) = ((rkW ws).drop (i + 1)).sum :: q' := by
      cases (rkW ws).drop (i + 1) with
      | nil => exact ⟨[], rfl⟩
      | cons w r => exact ⟨suf r, rfl⟩
    obtain ⟨q', hq'⟩ := hh
    refine ⟨_, rfl, hsum, q', ?_, ?_, by rw [List.length_append, h4]; rfl⟩
    · rw [h2, hq, hq', hsum, List.append_assoc]
      rfl
    · rw [hq']
      show _ = (s.1 - gW ws (rk ws)[i]) :: q'
      rw [hsum]
  · obtain ⟨h1, q, h2, h3, h4⟩ := hI
    rw [rk_len] at h3 h4
    rw [List.drop_eq_nil_of_le (by rw [rkW_len]; exact Nat.le_refl _)] at h3
    have e : q = [] := (List.cons.inj h3).2.symm
    rw [e, List.append_nil] at h2
    simp only [R.ok_bind, R.ok_pu, R.er_bind, R.bad_bind, R.ok_map, finR_rt, seqF_nx, seqF_rt, R.bind_ok, R.bind_bind, decide_eq_true_eq, Bool.not_eq_true', decide_eq_false_iff_not, Bool.false_eq_true, if_true, if_false, ite_nx]
    unfold sums
    rw [h2]
/-- the program's choices -/
theorem choices_by_eq (sm : List Int) (lim : Int) (st : Stg) (hs : sm.length ≤ 1000) (h0 : 0 ≤ st.a) (hl : st.a ≤ lim) (hl1 : 1 ≤ lim) (hl2 : lim ≤ 1000) (hm : 0 ≤ st.b ∧ st.b < (sm.length : Int) - 1) (hc : 1 ≤ st.c) (hc2 : st.c ≤ 1000) :
    f_choices_by sm lim st = .ok (chs sm lim st) := by
  unfold f_choices_by b_choices_by
  simp only [R.ok_bind, R.ok_pu, R.er_bind, R.bad_bind, R.ok_map, finR_rt, seqF_nx, seqF_rt, R.bind_ok, R.bind_bind, decide_eq_true_eq, Bool.not_eq_true', decide_eq_false_iff_not, Bool.false_eq_true, if_true, if_false, ite_nx]
  rw [chs_by sm lim st h0 hl hl1 hm hc, szR_nil, R.ok_bind, rng2_ok (by split <;> split <;> omega), R.ok_bind]
  rw [forR_fm (item sm lim st) _ _ (by rw [seqI_len]; simp only [List.length_nil]; split <;> split <;> omega) fun s x hx hz => ?_]
  · rw [finR_rt, List.nil_append]
  · have hx := mem_seqI.mp hx
    have ha : (st.a = lim ∧ x = (sm.length : Int) - 1 - st.b) ∨ (st.a ≠ lim ∧ (0 < st.a ∨ x = 0)) := by
      by_cases e1 : st.a = lim <;> by_cases e2 : st.a = 0 <;> simp only [e1, e2, if_true, if_false] at hx ⊢ <;> first | omega | (simp at hx ⊢; omega)
    have hxb : 0 ≤ x ∧ x ≤ 1000 ∧ x ≤ (sm.length : Int) - 1 - st.b := by
      by_cases e1 : st.a = lim <;> by_cases e2 : st.a = 0 <;> simp only [e1, e2, if_true, if_false] at hx ⊢ <;> omega
    unfold item
    rw [if_pos ha]
    by_cases e1 : x = (sm.length : Int) - 1 - st.b
    · rw [if_pos e1, if_pos (show st.b + x = (sm.length : Int) - 1 by omega), szR_snoc hz]
      simp only [R.ok_bind, R.ok_pu, R.er_bind, R.bad_bind, R.ok_map, finR_rt, seqF_nx, seqF_rt, R.bind_ok, R.bind_bind, decide_eq_true_eq, Bool.not_eq_true', decide_eq_false_iff_not, Bool.false_eq_true, if_true, if_false, ite_nx]
      rfl
    · rw [if_neg e1, if_neg (show ¬ st.b + x = (sm.length : Int) - 1 by omega)]
      by_cases e2 : x < st.c
      · rw [if_pos e2, if_pos e2, mulR_ok (by omega) (by omega), idxR_gW (by omega) (by omega)]
        simp only [R.ok_bind, R.ok_pu, R.er_bind, R.bad_bind, R.ok_map, finR_rt, seqF_nx, seqF_rt, R.bind_ok, R.bind_bind, decide_eq_true_eq, Bool.not_eq_true', decide_eq_false_iff_not, Bool.false_eq_true, if_true, if_false, ite_nx]
        rw [szR_snoc hz]
        simp only [R.ok_bind, R.ok_pu, R.er_bind, R.bad_bind, R.ok_map, finR_rt, seqF_nx, seqF_rt, R.bind_ok, R.bind_bind, decide_eq_true_eq, Bool.not_eq_true', decide_eq_false_iff_not, Bool.false_eq_true, if_true, if_false, ite_nx]
        rfl
      · rw [if_neg e2, if_neg e2]
        simp
theorem limit_eq (many : Int) : ∃ l, f__law_least_limit many = .ok l ∧ 1 ≤ l ∧ l ≤ 7 := by
  unfold f__law_least_limit b__law_least_limit
  simp only [R.ok_bind, R.ok_pu, R.er_bind, R.bad_bind, R.ok_map, finR_rt, seqF_nx, seqF_rt, R.bind_ok, R.bind_bind, decide_eq_true_eq, Bool.not_eq_true', decide_eq_false_iff_not, Bool.false_eq_true, if_true, if_false, ite_nx]
  rw [rng1_ok (by decide) (by decide), R.ok_bind]
  refine forR_elim (P := fun r => ∃ l : Int, finR r = R.ok l ∧ 1 ≤ l ∧ l ≤ 7) (fun i (s : Int) => 1 ≤ s ∧ s ≤ 1 + i) ?_ (fun i hi s hI => ?_) (fun s hI => ?_)
  · exact ⟨Int.le_refl _, Int.le_refl _⟩
  · rw [seqI_len] at hi
    rw [shlR_ok (by decide) (by omega), R.ok_bind]
    refine ⟨_, rfl, ?_⟩
    split <;> omega
  · rw [seqI_len] at hI
    exact ⟨s, finR_rt s, hI.1, hI.2⟩
theorem zip_range (ws ls : List Int) (n : Nat) (h1 : ws.length = n) (h2 : ls.length = n) : (ws.zip ls).map (fun p => p.1 * p.2) = (seqI 0 n).map fun k => gW ws k * gW ls k := by
  refine List.ext_getElem (by rw [List.length_map, List.length_map, List.length_zip, seqI_len]; omega) fun i hi hi' => ?_
  rw [List.length_map, List.length_zip] at hi
  rw [List.getElem_map, List.getElem_map, List.getElem_zip, seqI_at (by rw [seqI_len]; omega)]
  have g : ∀ (xs : List Int) (h : i < xs.length), gW xs (0 + (i : Int)) = xs[i] := fun xs h => by
    have := idxR_gW (ws := xs) (k := 0 + (i : Int)) (by omega) (by omega)
    rw [show (0 : Int) + (i : Int) = (i : Int) by omega] at this ⊢
    rw [idxR_nat h] at this
    exact (R.ok.inj this).symm
  rw [g ws (by omega), g ls (by omega)]
theorem eqR_self {α : Type} [Enc α] [q : Eqd α] (a : α) (h : q.n ≤ 64 := by decide) : eqR a a = .ok true := by
  haveI := Classical.typeDecidableEq α
  rw [eqR_eq a a h, decide_eq_true rfl]
end Kx

/-! KrLa: stages, their values, the least code: plain mathematics. -/
namespace Kr
open PySem PySem.Spec PyProof.Rows L2
open Enc (toD)
variable {α β γ S T ρ : Type}
/-! ### the order of data -/
theorem leD_tr [Enc α] (a b c : α) (h : leD a b = true) (h' : leD b c = true) : leD a c = true := (PySem.W.sortLe_total (listOrd PyProof.Rows.itemOrd) false fun x : α => PySem.W.keyToks (toD x).py).trans a b c h h'
theorem leD_tot [Enc α] (a b : α) : (leD a b || leD b a) = true := by
  rcases (PySem.W.sortLe_total (listOrd PyProof.Rows.itemOrd) false fun x : α => PySem.W.keyToks (toD x).py).total a b with h | h
  · exact Bool.or_eq_true_iff.mpr (.inl h)
  · exact Bool.or_eq_true_iff.mpr (.inr h)
theorem leD_iii (p q : T3 Int Int Int) : leD p q = decide (p.a < q.a ∨ (p.a = q.a ∧ (p.b < q.b ∨ (p.b = q.b ∧ p.c ≤ q.c)))) := by
  show (!PySem.W.dataLt (.tuple [.int q.a, .int q.b, .int q.c]) (.tuple [.int p.a, .int p.b, .int p.c])) = _
  rw [PySem.W.dataLt_tuple, PySem.W.dataLt_cons (by simp [PySem.W.alike]), PySem.W.dataLt_cons (by simp [PySem.W.alike]), PySem.W.dataLt_cons (by simp [PySem.W.alike]), PySem.W.dataLt_int, PySem.W.dataLt_int, PySem.W.dataLt_int]
  have e : PyProof.Rows.lexLt PyProof.Rows.itemOrd (PySem.W.keyToksAll []) (PySem.W.keyToksAll []) = false := PyProof.Rows.lex_irrefl _
  rw [e]
  simp only [PyData.eqv, beq_iff_eq]
  have e2 : (if q.a = p.a then (if q.b = p.b then (if q.c = p.c then false else decide (q.c < p.c)) else decide (q.b < p.b)) else decide (q.a < p.a)) = decide (q.a < p.a ∨ (q.a = p.a ∧ (q.b < p.b ∨ (q.b = p.b ∧ q.c < p.c)))) := by
    by_cases h1 : q.a = p.a <;> by_cases h2 : q.b = p.b <;> by_cases h3 : q.c = p.c <;> simp [h1, h2, h3]
  rw [e2, ← decide_not]
  exact decide_eq_decide.mpr (by omega)
/-! ### lists -/
theorem seqI_cons (z : Int) (n : Nat) : seqI z (n + 1) = z :: seqI (z + 1) n := by
  refine List.ext_getElem? fun i => ?_
  cases i with
  | zero => rw [seqI_get]; simp
  | succ i =>
    rw [seqI_get, List.getElem?_cons_succ, seqI_get]
    by_cases h : i < n
    · rw [if_pos (by omega), if_pos h]
      congr 1
      omega
    · rw [if_neg (by omega), if_neg h]
theorem getK_map {κ α : Type} [DecidableEq κ] (g : κ → α) (q : κ) : ∀ L : List κ, getK (L.map fun p => (p, g p)) q = if q ∈ L then some (g q) else none
  | [] => by rw [if_neg List.not_mem_nil]; rfl
  | p :: L => by
    rw [List.map_cons]
    unfold getK
    rw [getK_map g q L]
    by_cases c : p = q
    · rw [if_pos c, if_pos (by rw [c]; exact List.mem_cons_self), c]
    · rw [if_neg c]
      by_cases d : q ∈ L
      · rw [if_pos d, if_pos (List.mem_cons_of_mem _ d)]
      · rw [if_neg d, if_neg (fun z => by
          rcases List.mem_cons.mp z with z | z
          · exact c z.symm
          · exact d z)]
theorem putD_new {κ α : Type} [DecidableEq κ] {kvs : List (κ × α)} {k : κ} (a : α) (h : getK kvs k = none) : putD kvs k a = kvs ++ [(k, a)] := by
  unfold putD
  rw [h]
  rfl
/-- a table that maps the keys L by g -/
def tb {κ α : Type} (g : κ → α) (L : List κ) : Dc κ α := ⟨L.map fun p => (p, g p)⟩
theorem tb_get {κ α : Type} [Enc κ] [DecidableEq κ] {g : κ → α} {L : List κ} {q : κ} (h : q ∈ L) : dgR (tb g L) q = .ok (g q) := by
  unfold dgR tb
  rw [getK_map g q L, if_pos h]
theorem tb_put {κ α : Type} [Enc κ] [DecidableEq κ] {g : κ → α} {L : List κ} {q : κ} (h : q ∉ L) (hl : L.length ≤ 1000000) : dpR (tb g L) q (g q) = .ok (tb g (L ++ [q])) := by
  unfold dpR tb
  rw [if_pos (by show (List.map _ L).length ≤ _; rw [List.length_map]; exact hl), putD_new _ (by rw [getK_map g q L, if_neg h]), List.map_append]
  rfl
theorem eqKV_map {κ α : Type} [Enc κ] [Tk κ] [DecidableEq κ] [Enc α] [Eqd α] [DecidableEq α] (g : κ → α) (L : List κ) : ∀ M : List κ, (∀ p ∈ M, p ∈ L) → eqKV (L.map fun p => (p, g p)) (M.map fun p => (p, g p)) = true
  | [], _ => rfl
  | p :: M, h => by
    rw [List.map_cons]
    unfold eqKV
    rw [getK_map g p L, if_pos (h p List.mem_cons_self)]
    show (decide (g p = g p) && eqKV _ _) = true
    rw [decide_eq_true rfl, eqKV_map g L M fun q hq => h q (List.mem_cons_of_mem _ hq)]
    rfl
theorem tb_eq {κ α : Type} [Enc κ] [Tk κ] [DecidableEq κ] [Enc α] [Eqd α] [DecidableEq α] (g : κ → α) {L M : List κ} (h : L.Perm M) : eqDk (tb g L) (tb g M) = true := by
  unfold eqDk tb
  show ((L.map _).length == (M.map _).length && eqKV (M.map _) (L.map _)) = true
  rw [List.length_map, List.length_map, h.length_eq, beq_self_eq_true, Bool.true_and]
  exact eqKV_map g M L fun p hp => h.mem_iff.mp hp
end Kr

/-! KrLb: values of stages, the least code: plain mathematics. -/
namespace Kr
open PySem PySem.Spec PyProof.Rows L2
open Enc (toD)
variable {α β γ S T ρ : Type}
/-! ### stages and choices -/
structure Vs (n lim : Int) (st : Stg) : Prop where
  a0 : 0 ≤ st.a
  al : st.a ≤ lim
  b0 : 0 ≤ st.b
  bn : st.b < n
  c1 : 1 ≤ st.c
  cn : st.c ≤ n
theorem item_a {sm : List Int} {lim : Int} {st : Stg} {x : Int} {c : Cho} (h : item sm lim st x = some c) : c.a = x := by
  unfold item at h
  split at h
  · split at h
    · injection h with h; rw [← h]
    · split at h
      · injection h with h; rw [← h]
      · cases h
  · cases h
theorem mem_chs {sm : List Int} {lim : Int} {st : Stg} {c : Cho} : c ∈ chs sm lim st ↔ 0 ≤ c.a ∧ c.a ≤ st.c ∧ c.a ≤ (sm.length : Int) - 1 - st.b ∧ item sm lim st c.a = some c := by
  unfold chs
  rw [List.mem_filterMap]
  constructor
  · rintro ⟨x, hx, e⟩
    have := mem_seqI.mp hx
    have ea := item_a e
    rw [ea]
    exact ⟨by omega, by omega, by omega, e⟩
  · rintro ⟨h1, h2, h3, h4⟩
    exact ⟨c.a, mem_seqI.mpr (by omega), h4⟩
/-- what a choice is -/
theorem chs_some {sm : List Int} {lim : Int} {st s : Stg} {c : Cho} (h : c ∈ chs sm lim st) (e : c.c = some s) : s = ⟨st.a + 1, st.b + c.a, min (2 * (st.c - c.a)) ((sm.length : Int) - 1 - st.b - c.a)⟩ ∧ c.b = gW sm (st.b + c.a) ∧ 0 ≤ c.a ∧ c.a < st.c ∧ st.b + c.a < (sm.length : Int) - 1 ∧ st.a ≠ lim ∧ (0 < st.a ∨ c.a = 0) := by
  obtain ⟨h1, h2, h3, h4⟩ := mem_chs.mp h
  unfold item at h4
  split at h4
  · rename_i q
    split at h4
    · injection h4 with h4
      rw [← h4] at e
      cases e
    · split at h4
      · injection h4 with h4
        have ec := congrArg T3.c h4
        have eb := congrArg T3.b h4
        rw [e] at ec
        injection ec with ec
        refine ⟨ec.symm, eb.symm, h1, by omega, by omega, ?_, ?_⟩
        · intro z
          omega
        · omega
      · cases h4
  · cases h4
theorem chs_none {sm : List Int} {lim : Int} {st : Stg} {c : Cho} (h : c ∈ chs sm lim st) (e : c.c = none) : c.b = 0 ∧ st.b + c.a = (sm.length : Int) - 1 ∧ 0 ≤ c.a ∧ c.a ≤ st.c ∧ (st.a = lim ∨ 0 < st.a ∨ c.a = 0) := by
  obtain ⟨h1, h2, h3, h4⟩ := mem_chs.mp h
  unfold item at h4
  split at h4
  · rename_i q
    split at h4
    · injection h4 with h4
      have eb := congrArg T3.b h4
      exact ⟨eb.symm, by omega, h1, h2, by omega⟩
    · split at h4
      · injection h4 with h4
        rw [← h4] at e
        cases e
      · cases h4
  · cases h4
theorem chs_vs {sm : List Int} {lim : Int} {st s : Stg} {c : Cho} (v : Vs ((sm.length : Int) - 1) lim st) (h : c ∈ chs sm lim st) (e : c.c = some s) : Vs ((sm.length : Int) - 1) lim s ∧ s.a = st.a + 1 := by
  obtain ⟨rfl, h2, h3, h4, h5, h6, h7⟩ := chs_some h e
  obtain ⟨v1, v2, v3, v4, v5, v6⟩ := v
  refine ⟨⟨?_, ?_, ?_, ?_, ?_, ?_⟩, rfl⟩
  · show 0 ≤ st.a + 1
    omega
  · show st.a + 1 ≤ lim
    omega
  · show 0 ≤ st.b + c.a
    omega
  · exact h5
  · show 1 ≤ min (2 * (st.c - c.a)) ((sm.length : Int) - 1 - st.b - c.a)
    omega
  · show min (2 * (st.c - c.a)) ((sm.length : Int) - 1 - st.b - c.a) ≤ _
    omega
/-! ### values -/
def behind (v : Stg → Option Int) (o : Option Stg) : Option Int := match o with
  | none => some 0
  | some s => v s
def cval (v : Stg → Option Int) (c : Cho) : Option Int := (behind v c.c).map (c.b + ·)
/-- the less of two, None is no value -/
def omin (x y : Option Int) : Option Int := match x, y with
  | none, y => y
  | some x, none => some x
  | some x, some y => some (if y < x then y else x)
def bst (v : Stg → Option Int) (cs : List Cho) : Option Int := cs.foldl (fun b c => omin b (cval v c)) none
theorem cval_congr {v w : Stg → Option Int} {c : Cho} (h : ∀ s, c.c = some s → v s = w s) : cval v c = cval w c := by
  unfold cval behind
  cases e : c.c with
  | none => rfl
  | some s =>
    show Option.map _ (v s) = Option.map _ (w s)
    rw [h s e]
theorem bst_congr {v w : Stg → Option Int} {cs : List Cho} (h : ∀ c ∈ cs, ∀ s, c.c = some s → v s = w s) : bst v cs = bst w cs := by
  unfold bst
  generalize (none : Option Int) = b0
  induction cs generalizing b0 with
  | nil => rfl
  | cons c cs ih =>
    rw [List.foldl_cons, List.foldl_cons, cval_congr (h c List.mem_cons_self), ih fun c' hc => h c' (List.mem_cons_of_mem _ hc)]
theorem omin_fold (v : Stg → Option Int) : ∀ (cs : List Cho) (b : Option Int), (∀ x, (b = some x ∨ ∃ c ∈ cs, cval v c = some x) → ∃ y, cs.foldl (fun b c => omin b (cval v c)) b = some y ∧ y ≤ x) ∧ (∀ y, cs.foldl (fun b c => omin b (cval v c)) b = some y → b = some y ∨ ∃ c ∈ cs, cval v c = some y)
  | [], b => by
    refine ⟨fun x h => ?_, fun y h => Or.inl h⟩
    rcases h with h | ⟨c, hc, _⟩
    · exact ⟨x, h, Int.le_refl _⟩
    · exact nomatch hc
  | c :: cs, b => by
    obtain ⟨i1, i2⟩ := omin_fold v cs (omin b (cval v c))
    rw [List.foldl_cons]
    constructor
    · intro x h
      have key : ∃ z, omin b (cval v c) = some z ∧ z ≤ x ∨ ∃ c ∈ cs, cval v c = some x := by
        rcases h with h | ⟨d, hd, e⟩
        · rw [h]
          cases cval v c with
          | none => exact ⟨x, .inl ⟨rfl, Int.le_refl _⟩⟩
          | some y => exact ⟨_, .inl ⟨rfl, by split <;> omega⟩⟩
        · rcases List.mem_cons.mp hd with hd | hd
          · rw [← hd, e]
            cases b with
            | none => exact ⟨x, .inl ⟨rfl, Int.le_refl _⟩⟩
            | some y => exact ⟨_, .inl ⟨rfl, by split <;> omega⟩⟩
          · exact ⟨0, .inr ⟨d, hd, e⟩⟩
      obtain ⟨z, ⟨e, l⟩ | q⟩ := key
      · obtain ⟨y, e1, e2⟩ := i1 z (.inl e)
        exact ⟨y, e1, by omega⟩
      · exact i1 x (.inr q)
    · intro y h
      rcases i2 y h with e | ⟨d, hd, e⟩
      · cases q : cval v c with
        | none =>
          rw [q] at e
          cases b with
          | none => cases e
          | some x => exact .inl e
        | some x =>
          rw [q] at e
          cases b with
          | none => exact .inr ⟨c, List.mem_cons_self, q.trans e⟩
          | some w =>
            unfold omin at e
            simp only [] at e
            split at e
            · exact .inr ⟨c, List.mem_cons_self, q.trans e⟩
            · exact .inl e
      · exact .inr ⟨d, List.mem_cons_of_mem _ hd, e⟩
theorem bst_le {v : Stg → Option Int} {cs : List Cho} {c : Cho} {x : Int} (h : c ∈ cs) (e : cval v c = some x) : ∃ y, bst v cs = some y ∧ y ≤ x := (omin_fold v cs none).1 x (.inr ⟨c, h, e⟩)
theorem bst_in {v : Stg → Option Int} {cs : List Cho} {y : Int} (h : bst v cs = some y) : ∃ c ∈ cs, cval v c = some y := by
  rcases (omin_fold v cs none).2 y h with e | e
  · cases e
  · exact e
def sF (sm : List Int) (lim : Int) : Nat → Stg → Option Int
  | 0, _ => none
  | k + 1, st => bst (sF sm lim k) (chs sm lim st)
def sV (sm : List Int) (lim : Int) (st : Stg) : Option Int := sF sm lim (lim - st.a + 1).toNat st
theorem sV_eq {sm : List Int} {lim : Int} {st : Stg} (v : Vs ((sm.length : Int) - 1) lim st) : sV sm lim st = bst (sV sm lim) (chs sm lim st) := by
  have e : (lim - st.a + 1).toNat = (lim - st.a).toNat + 1 := by
    have := v.al
    omega
  unfold sV
  rw [e]
  show bst (sF sm lim (lim - st.a).toNat) (chs sm lim st) = _
  refine bst_congr fun c hc s hs => ?_
  have h := (chs_vs v hc hs).2
  rw [show (lim - s.a + 1).toNat = (lim - st.a).toNat by omega]
/-- the choice that is taken: the last one that reaches the value -/
def lastR (p : α → Bool) (xs : List α) : Option α := xs.foldl (fun b x => if p x = true then some x else b) none
theorem lastR_gen (p : α → Bool) : ∀ (xs : List α) (b : Option α), (∀ x, xs.foldl (fun b x => if p x = true then some x else b) b = some x → b = some x ∨ (x ∈ xs ∧ p x = true)) ∧ (xs.foldl (fun b x => if p x = true then some x else b) b = none → b = none ∧ ∀ x ∈ xs, p x = false)
  | [], b => ⟨fun x h => .inl h, fun h => ⟨h, fun x hx => nomatch hx⟩⟩
  | x :: xs, b => by
    obtain ⟨h1, h2⟩ := lastR_gen p xs (if p x = true then some x else b)
    rw [List.foldl_cons]
    constructor
    · intro y hy
      rcases h1 y hy with e | ⟨e1, e2⟩
      · split at e
        · rename_i q
          injection e with e
          exact .inr ⟨by rw [e]; exact List.mem_cons_self, by rw [← e]; exact q⟩
        · exact .inl e
      · exact .inr ⟨List.mem_cons_of_mem _ e1, e2⟩
    · intro h
      obtain ⟨e1, e2⟩ := h2 h
      split at e1
      · cases e1
      · rename_i q
        refine ⟨e1, fun y hy => ?_⟩
        rcases List.mem_cons.mp hy with z | z
        · rw [z]; exact Bool.eq_false_iff.mpr q
        · exact e2 y z
theorem lastR_some {p : α → Bool} {xs : List α} {x : α} (h : lastR p xs = some x) : x ∈ xs ∧ p x = true := by
  rcases (lastR_gen p xs none).1 x h with e | e
  · cases e
  · exact e
theorem lastR_none {p : α → Bool} {xs : List α} (h : lastR p xs = none) : ∀ x ∈ xs, p x = false := ((lastR_gen p xs none).2 h).2
/-- the choice at a stage -/
def bc (sm : List Int) (lim : Int) (st : Stg) : Option Cho := lastR (fun c => decide ((cval (sV sm lim) c).isSome = true ∧ cval (sV sm lim) c = sV sm lim st)) (chs sm lim st)
theorem bc_some {sm : List Int} {lim : Int} {st : Stg} {v : Int} (h : Vs ((sm.length : Int) - 1) lim st) (e : sV sm lim st = some v) : ∃ c, bc sm lim st = some c ∧ c ∈ chs sm lim st ∧ cval (sV sm lim) c = some v := by
  unfold bc
  cases q : lastR (fun c => decide ((cval (sV sm lim) c).isSome = true ∧ cval (sV sm lim) c = sV sm lim st)) (chs sm lim st) with
  | none =>
    rw [sV_eq h] at e
    obtain ⟨c, hc, ec⟩ := bst_in e
    have := lastR_none q c hc
    rw [decide_eq_false_iff_not] at this
    exact (this ⟨by rw [ec]; rfl, by rw [ec, sV_eq h, e]⟩).elim
  | some c =>
    obtain ⟨h1, h2⟩ := lastR_some q
    rw [decide_eq_true_eq] at h2
    exact ⟨c, rfl, h1, h2.2.trans e⟩
/-! ### the lengths by rank -/
def ln (sm : List Int) (lim : Int) : Nat → Stg → List Int
  | 0, _ => []
  | k + 1, st => match bc sm lim st with
    | none => []
    | some c => List.replicate c.a.toNat st.a ++ (match c.c with
      | none => []
      | some s => ln sm lim k s)
def lnS (sm : List Int) (lim : Int) (st : Stg) : List Int := ln sm lim (lim - st.a + 1).toNat st
theorem lnS_eq {sm : List Int} {lim : Int} {st : Stg} {c : Cho} (v : Vs ((sm.length : Int) - 1) lim st) (h : bc sm lim st = some c) : lnS sm lim st = List.replicate c.a.toNat st.a ++ (match c.c with
      | none => []
      | some s => lnS sm lim s) := by
  have e : (lim - st.a + 1).toNat = (lim - st.a).toNat + 1 := by
    have := v.al
    omega
  unfold lnS
  rw [e]
  show (match bc sm lim st with
    | none => []
    | some c => _) = _
  rw [h]
  simp only []
  congr 1
  cases q : c.c with
  | none => rfl
  | some s =>
    have h := (chs_vs v (lastR_some h).1 q).2
    simp only []
    rw [show (lim - s.a + 1).toNat = (lim - st.a).toNat by omega]
end Kr

/-! KrLc: the least code is least: plain mathematics. -/
namespace Kr
open PySem PySem.Spec PyProof.Rows L2
open Enc (toD)
variable {α β γ S T ρ : Type}
/-! ### sums -/
theorem smI_le {f g : α → Int} : ∀ {xs : List α}, (∀ x ∈ xs, f x ≤ g x) → (xs.map f).sum ≤ (xs.map g).sum
  | [], _ => Int.le_refl _
  | x :: xs, h => by
    rw [List.map_cons, List.map_cons, List.sum_cons, List.sum_cons]
    have h1 := h x List.mem_cons_self
    have h2 := smI_le (xs := xs) fun y hy => h y (List.mem_cons_of_mem _ hy)
    omega
theorem smI_eq {f g : α → Int} {xs : List α} (h : ∀ x ∈ xs, f x = g x) : (xs.map f).sum = (xs.map g).sum := by rw [List.map_congr_left h]
theorem smI_add (f g : α → Int) : ∀ xs : List α, (xs.map f).sum + (xs.map g).sum = (xs.map fun x => f x + g x).sum
  | [] => rfl
  | x :: xs => by
    rw [List.map_cons, List.map_cons, List.map_cons, List.sum_cons, List.sum_cons, List.sum_cons, ← smI_add f g xs]
    omega
theorem smI_mul (f : α → Int) (c : Int) : ∀ xs : List α, (xs.map fun x => f x * c).sum = (xs.map f).sum * c
  | [] => by simp
  | x :: xs => by
    rw [List.map_cons, List.map_cons, List.sum_cons, List.sum_cons, smI_mul f c xs, Int.add_mul]
theorem smI_one : ∀ xs : List α, (xs.map fun _ => (1 : Int)).sum = xs.length
  | [] => rfl
  | x :: xs => by
    rw [List.map_cons, List.sum_cons, smI_one xs, List.length_cons]
    omega
theorem smI_zero : ∀ xs : List α, (xs.map fun _ => (0 : Int)).sum = 0
  | [] => rfl
  | x :: xs => by
    rw [List.map_cons, List.sum_cons, smI_zero xs]
    rfl
theorem smI_nn {f : α → Int} {xs : List α} (h : ∀ x ∈ xs, 0 ≤ f x) : 0 ≤ (xs.map f).sum := by
  have := smI_le (f := fun _ => (0 : Int)) h
  rw [smI_zero] at this
  exact this
theorem smI_z {f : α → Int} {xs : List α} (h : ∀ x ∈ xs, f x = 0) : (xs.map f).sum = 0 := by
  rw [← smI_zero xs]
  exact smI_eq h
theorem suf_get : ∀ (l : List Int) (i : Nat), i ≤ l.length → (suf l)[i]? = some (l.drop i).sum
  | l, 0, _ => by rw [List.drop_zero]; exact suf_head l
  | [], i + 1, h => by simp at h
  | w :: r, i + 1, h => by
    show (suf r)[i]? = _
    rw [List.drop_succ_cons, suf_get r i (by simpa using h)]
theorem gW_suf {l : List Int} {m : Int} (h : 0 ≤ m) (h' : m ≤ l.length) : gW (suf l) m = (l.drop m.toNat).sum := by
  unfold gW
  rw [List.getD_eq_getElem?_getD, suf_get l m.toNat (by omega)]
  rfl
/-! ### powers -/
def pw (lim l : Int) : Int := 2 ^ (lim - l).toNat
theorem pw_pos (lim l : Int) : 0 < pw lim l := by
  unfold pw
  exact Int.pow_pos (by decide)
theorem pw_step {lim l : Int} (h : l < lim) : pw lim l = 2 * pw lim (l + 1) := by
  unfold pw
  rw [show (lim - l).toNat = (lim - (l + 1)).toNat + 1 by omega, Int.pow_succ]
  omega
theorem pw_anti {lim a b : Int} (h : a ≤ b) : pw lim b ≤ pw lim a := by
  unfold pw
  have : 2 ^ (lim - b).toNat ≤ 2 ^ (lim - a).toNat := Nat.pow_le_pow_right (by decide) (by omega)
  exact_mod_cast this
/-! ### the least sums -/
theorem suf_least : ∀ (qs : List (Int × Int)) (p : Int × Int → Bool) (m : Nat), (∀ q ∈ qs, 0 ≤ q.1) → qs.Pairwise (fun a b => b.1 ≤ a.1) → (qs.length : Int) ≤ (qs.map fun q => if p q = true then (1 : Int) else 0).sum + m →
    ((qs.map fun q => q.1).drop m).sum ≤ (qs.map fun q => if p q = true then q.1 else 0).sum
  | [], p, m, _, _, _ => by simp
  | x :: r, p, m, h0, hs, hc => by
    have h0' : ∀ q ∈ r, 0 ≤ q.1 := fun q hq => h0 q (List.mem_cons_of_mem _ hq)
    obtain ⟨hx, hs'⟩ := List.pairwise_cons.mp hs
    have hx0 := h0 x List.mem_cons_self
    have hcnt : (r.map fun q => if p q = true then (1 : Int) else 0).sum ≤ r.length := by
      rw [← smI_one r]
      refine smI_le fun q hq => ?_
      split <;> decide
    rw [List.map_cons, List.sum_cons, List.length_cons] at hc
    rw [List.map_cons, List.map_cons, List.sum_cons]
    by_cases hp : p x = true
    · rw [if_pos hp] at hc ⊢
      cases m with
      | zero =>
        rw [List.drop_zero, List.sum_cons]
        have ih := suf_least r p 0 h0' hs' (by omega)
        rw [List.drop_zero] at ih
        omega
      | succ m =>
        rw [List.drop_succ_cons]
        by_cases hm : m < r.length
        · have ih := suf_least r p (m + 1) h0' hs' (by omega)
          rw [List.drop_eq_getElem_cons (by rw [List.length_map]; exact hm), List.sum_cons, List.getElem_map]
          have := hx r[m] (List.getElem_mem hm)
          omega
        · rw [List.drop_eq_nil_of_le (by rw [List.length_map]; omega)]
          have : (0 : Int) ≤ (r.map fun q => if p q = true then q.1 else 0).sum := by
            refine smI_nn fun q hq => ?_
            have := h0' q hq
            split <;> omega
          show (0 : Int) ≤ _
          omega
    · rw [if_neg hp] at hc ⊢
      cases m with
      | zero => omega
      | succ m =>
        rw [List.drop_succ_cons]
        have ih := suf_least r p m h0' hs' (by omega)
        omega
/-! ### no code costs less -/
theorem sV_leastS {qs : List (Int × Int)} {lim : Int} (h0 : ∀ q ∈ qs, 0 ≤ q.1 ∧ 1 ≤ q.2 ∧ q.2 ≤ lim) (hd : qs.Pairwise fun a b => b.1 ≤ a.1) (st : Stg) (v : Vs (qs.length : Int) lim st)
    (hb : st.b = (qs.map fun q => if q.2 < st.a then (1 : Int) else 0).sum) (hK : (qs.map fun q => if st.a ≤ q.2 then pw lim q.2 else 0).sum ≤ st.c * pw lim st.a)
    (ih : ∀ s : Stg, st.a < lim ∧ s.a = st.a + 1 → Vs (qs.length : Int) lim s → s.b = (qs.map fun q => if q.2 < s.a then (1 : Int) else 0).sum → (qs.map fun q => if s.a ≤ q.2 then pw lim q.2 else 0).sum ≤ s.c * pw lim s.a →
      ∃ v, sV (suf (qs.map fun q => q.1)) lim s = some v ∧ v ≤ (qs.map fun q => if s.a ≤ q.2 then q.1 * (q.2 - s.a) else 0).sum) :
    ∃ v, sV (suf (qs.map fun q => q.1)) lim st = some v ∧ v ≤ (qs.map fun q => if st.a ≤ q.2 then q.1 * (q.2 - st.a) else 0).sum := by
  obtain ⟨d, m, c⟩ := st
  simp only [] at hb hK ih ⊢
  have hl : ((suf (qs.map fun q => q.1)).length : Int) - 1 = qs.length := by
    rw [suf_len, List.length_map]
    omega
  have v' : Vs (((suf (qs.map fun q => q.1)).length : Int) - 1) lim ⟨d, m, c⟩ := by rw [hl]; exact v
  obtain ⟨v1, v2, v3, v4, v5, v6⟩ := v
  simp only [] at v1 v2 v3 v4 v5 v6
  -- how many at this depth, how many deeper
  obtain ⟨a, ha⟩ : ∃ a, a = (qs.map fun q => if q.2 = d then (1 : Int) else 0).sum := ⟨_, rfl⟩
  obtain ⟨r, hr⟩ : ∃ r, r = (qs.map fun q => if d + 1 ≤ q.2 then (1 : Int) else 0).sum := ⟨_, rfl⟩
  obtain ⟨K, hKd⟩ : ∃ K, K = (qs.map fun q => if d + 1 ≤ q.2 then pw lim q.2 else 0).sum := ⟨_, rfl⟩
  have a0 : 0 ≤ a := by
    rw [ha]
    refine smI_nn fun q _ => ?_
    split <;> decide
  have r0 : 0 ≤ r := by
    rw [hr]
    refine smI_nn fun q _ => ?_
    split <;> decide
  have hma : m + a = (qs.map fun q => if q.2 < d + 1 then (1 : Int) else 0).sum := by
    rw [hb, ha, smI_add]
    refine smI_eq fun q _ => ?_
    by_cases e1 : q.2 < d <;> by_cases e2 : q.2 = d <;> by_cases e3 : q.2 < d + 1 <;> simp only [e1, e2, e3, if_true, if_false] <;> omega
  have hmar : m + a + r = qs.length := by
    rw [hma, hr, smI_add, ← smI_one qs]
    refine smI_eq fun q _ => ?_
    by_cases e1 : q.2 < d + 1
    · rw [if_pos e1, if_neg (by omega)]
      rfl
    · rw [if_neg e1, if_pos (by omega)]
      rfl
  have hsplit : a * pw lim d + K ≤ c * pw lim d := by
    refine Int.le_trans (Int.le_of_eq ?_) hK
    rw [ha, hKd, ← smI_mul, smI_add]
    refine smI_eq fun q _ => ?_
    by_cases e1 : q.2 = d
    · rw [if_pos e1, if_neg (by omega), if_pos (by omega), e1]
      omega
    · rw [if_neg e1]
      by_cases e2 : d + 1 ≤ q.2
      · rw [if_pos e2, if_pos (by omega)]
        omega
      · rw [if_neg e2, if_neg (by omega)]
        omega
  have hrK : r ≤ K := by
    rw [hr, hKd]
    refine smI_le fun q _ => ?_
    have := pw_pos lim q.2
    split <;> omega
  have hpd := pw_pos lim d
  have hd0 : d = 0 → a = 0 := fun e => by
    rw [ha]
    refine smI_z fun q hq => ?_
    have := h0 q hq
    rw [if_neg (by omega)]
  have hlim : d = lim → r = 0 := fun e => by
    rw [hr]
    refine smI_z fun q hq => ?_
    have := h0 q hq
    rw [if_neg (by omega)]
  by_cases hr0 : r = 0
  · have hac : a ≤ c := Int.le_of_mul_le_mul_right (show a * pw lim d ≤ c * pw lim d by omega) hpd
    have hin : (⟨a, 0, none⟩ : Cho) ∈ chs (suf (qs.map fun q => q.1)) lim ⟨d, m, c⟩ := by
      rw [mem_chs]
      refine ⟨a0, hac, ?_, ?_⟩
      · rw [hl]
        show a ≤ (qs.length : Int) - m
        omega
      · unfold item
        rw [hl]
        simp only []
        rw [if_pos (by
          by_cases e : d = lim
          · exact .inl ⟨e, by omega⟩
          · exact .inr ⟨e, by
              by_cases e2 : d = 0
              · exact .inr (hd0 e2)
              · exact .inl (by omega)⟩), if_pos (by omega)]
    obtain ⟨y, e1, e2⟩ := bst_le (v := sV (suf (qs.map fun q => q.1)) lim) hin (show cval _ _ = some 0 from rfl)
    rw [sV_eq v']
    refine ⟨y, e1, Int.le_trans e2 ?_⟩
    refine smI_nn fun q hq => ?_
    have := h0 q hq
    split
    · exact Int.mul_nonneg this.1 (by omega)
    · exact Int.le_refl _
  · have hdl : d < lim := by
      rcases Int.lt_or_eq_of_le v2 with e | e
      · exact e
      · exact absurd (hlim e) hr0
    have hac : a < c := Int.lt_of_mul_lt_mul_right (show a * pw lim d < c * pw lim d by omega) (by omega)
    have hin : (⟨a, gW (suf (qs.map fun q => q.1)) (m + a), some ⟨d + 1, m + a, min (2 * (c - a)) ((qs.length : Int) - m - a)⟩⟩ : Cho) ∈ chs (suf (qs.map fun q => q.1)) lim ⟨d, m, c⟩ := by
      rw [mem_chs]
      refine ⟨a0, by show a ≤ c; omega, ?_, ?_⟩
      · rw [hl]
        show a ≤ (qs.length : Int) - m
        omega
      · unfold item
        rw [hl]
        simp only []
        rw [if_pos (by
          exact .inr ⟨by omega, by
              by_cases e2 : d = 0
              · exact .inr (hd0 e2)
              · exact .inl (by omega)⟩), if_neg (by omega), if_pos hac]
    have hvs := chs_vs v' hin rfl
    rw [hl] at hvs
    have hK1 : K ≤ (c - a) * pw lim d := by
      rw [Int.sub_mul]
      omega
    have hK2 : K ≤ r * pw lim (d + 1) := by
      rw [hKd, hr, ← smI_mul]
      refine smI_le fun q _ => ?_
      by_cases e : d + 1 ≤ q.2
      · rw [if_pos e, if_pos e, Int.one_mul]
        exact pw_anti e
      · rw [if_neg e, if_neg e, Int.zero_mul]
        exact Int.le_refl _
    have hKm : K ≤ min (2 * (c - a)) ((qs.length : Int) - m - a) * pw lim (d + 1) := by
      by_cases e : 2 * (c - a) ≤ (qs.length : Int) - m - a
      · rw [Int.min_eq_left e]
        rw [pw_step hdl] at hK1
        rw [Int.mul_comm 2, Int.mul_assoc]
        exact hK1
      · rw [Int.min_eq_right (by omega), show (qs.length : Int) - m - a = r by omega]
        exact hK2
    obtain ⟨w, e1, e2⟩ := ih ⟨d + 1, m + a, min (2 * (c - a)) ((qs.length : Int) - m - a)⟩ ⟨hdl, rfl⟩ hvs.1 hma (by rw [← hKd]; exact hKm)
    simp only [] at e2
    obtain ⟨y, f1, f2⟩ := bst_le (v := sV (suf (qs.map fun q => q.1)) lim) hin (show cval _ _ = some (gW (suf (qs.map fun q => q.1)) (m + a) + w) by
      show Option.map _ (sV _ _ _) = _
      rw [e1]
      rfl)
    rw [sV_eq v']
    refine ⟨y, f1, Int.le_trans f2 ?_⟩
    have hS : gW (suf (qs.map fun q => q.1)) (m + a) ≤ (qs.map fun q => if d + 1 ≤ q.2 then q.1 else 0).sum := by
      rw [gW_suf (by omega) (by rw [List.length_map]; omega)]
      have := suf_least qs (fun q => decide (d + 1 ≤ q.2)) (m + a).toNat (fun q hq => (h0 q hq).1) hd (by
        simp only [decide_eq_true_eq]
        rw [← hr]
        omega)
      simp only [decide_eq_true_eq] at this
      exact this
    refine Int.le_trans (Int.add_le_add hS e2) ?_
    rw [smI_add]
    refine smI_le fun q hq => ?_
    have := h0 q hq
    by_cases e : d + 1 ≤ q.2
    · rw [if_pos e, if_pos e, if_pos (by omega), show q.2 - d = (q.2 - (d + 1)) + 1 by omega, Int.mul_add]
      omega
    · rw [if_neg e, if_neg e]
      split
      · have := Int.mul_nonneg this.1 (show 0 ≤ q.2 - d by omega)
        omega
      · decide
theorem sV_least {qs : List (Int × Int)} {lim : Int} (h0 : ∀ q ∈ qs, 0 ≤ q.1 ∧ 1 ≤ q.2 ∧ q.2 ≤ lim) (hd : qs.Pairwise fun a b => b.1 ≤ a.1) : ∀ (k : Nat) (st : Stg), (lim - st.a).toNat = k → Vs (qs.length : Int) lim st →
    st.b = (qs.map fun q => if q.2 < st.a then (1 : Int) else 0).sum → (qs.map fun q => if st.a ≤ q.2 then pw lim q.2 else 0).sum ≤ st.c * pw lim st.a →
    ∃ v, sV (suf (qs.map fun q => q.1)) lim st = some v ∧ v ≤ (qs.map fun q => if st.a ≤ q.2 then q.1 * (q.2 - st.a) else 0).sum := by
  intro k
  induction k with
  | zero => exact fun st hk v hb hK => sV_leastS h0 hd st v hb hK fun s hs => by omega
  | succ k ih => exact fun st hk v hb hK => sV_leastS h0 hd st v hb hK fun s hs => ih s (by omega)
end Kr

/-! KrLd: the code that is chosen: plain mathematics. -/
namespace Kr
open PySem PySem.Spec PyProof.Rows L2
open Enc (toD)
variable {α β γ S T ρ : Type}
theorem zw_zero (d : Int) : ∀ (A : List Int) (a : Nat), A.length = a → (List.zipWith (fun w l => w * (l - d)) A (List.replicate a d)).sum = 0
  | [], _, _ => by simp
  | w :: A, 0, h => by simp at h
  | w :: A, a + 1, h => by
    rw [List.replicate_succ, List.zipWith_cons_cons, List.sum_cons, zw_zero d A a (by simpa using h), Int.sub_self, Int.mul_zero]
    rfl
theorem zw_shift (d : Int) : ∀ (A X : List Int), A.length = X.length → (List.zipWith (fun w l => w * (l - d)) A X).sum = (List.zipWith (fun w l => w * (l - (d + 1))) A X).sum + A.sum
  | [], [], _ => rfl
  | [], _ :: _, h => by simp at h
  | _ :: _, [], h => by simp at h
  | w :: A, x :: X, h => by
    rw [List.zipWith_cons_cons, List.zipWith_cons_cons, List.sum_cons, List.sum_cons, List.sum_cons, zw_shift d A X (by simpa using h), show x - d = (x - (d + 1)) + 1 by omega, Int.mul_add]
    omega
theorem sum_rep (f : Int → Int) (d : Int) : ∀ a : Nat, ((List.replicate a d).map f).sum = a * f d
  | 0 => by simp
  | a + 1 => by
    rw [List.replicate_succ, List.map_cons, List.sum_cons, sum_rep f d a, show ((a + 1 : Nat) : Int) = (a : Int) + 1 by omega, Int.add_mul]
    omega
theorem lnS_okS {W : List Int} {lim : Int} (h1 : 1 ≤ lim) (st : Stg) (vs : Vs (W.length : Int) lim st) (v : Int) (hv : sV (suf W) lim st = some v)
    (ih : ∀ s : Stg, st.a < lim ∧ s.a = st.a + 1 → Vs (W.length : Int) lim s → ∀ v, sV (suf W) lim s = some v →
      (lnS (suf W) lim s).length = ((W.length : Int) - s.b).toNat ∧ (List.zipWith (fun w l => w * (l - s.a)) (W.drop s.b.toNat) (lnS (suf W) lim s)).sum = v ∧ ((lnS (suf W) lim s).map (pw lim)).sum ≤ s.c * pw lim s.a ∧ ∀ l ∈ lnS (suf W) lim s, 1 ≤ l ∧ s.a ≤ l ∧ l ≤ lim) :
    (lnS (suf W) lim st).length = ((W.length : Int) - st.b).toNat ∧ (List.zipWith (fun w l => w * (l - st.a)) (W.drop st.b.toNat) (lnS (suf W) lim st)).sum = v ∧ ((lnS (suf W) lim st).map (pw lim)).sum ≤ st.c * pw lim st.a ∧ ∀ l ∈ lnS (suf W) lim st, 1 ≤ l ∧ st.a ≤ l ∧ l ≤ lim := by
  have hl : ((suf W).length : Int) - 1 = W.length := by
    rw [suf_len]
    omega
  have vs' : Vs (((suf W).length : Int) - 1) lim st := by rw [hl]; exact vs
  obtain ⟨c, hc1, hc2, hc3⟩ := bc_some vs' hv
  rw [lnS_eq vs' hc1]
  obtain ⟨v1, v2, v3, v4, v5, v6⟩ := vs
  cases e : c.c with
  | none =>
    obtain ⟨q1, q2, q3, q4, q5⟩ := chs_none hc2 e
    rw [hl] at q2
    have ev : v = 0 := by
      unfold cval behind at hc3
      rw [e, q1] at hc3
      exact (Option.some.inj hc3).symm
    simp only [List.append_nil]
    refine ⟨by rw [List.length_replicate]; omega, ?_, ?_, ?_⟩
    · rw [ev, zw_zero]
      rw [List.length_drop]
      omega
    · rw [sum_rep, Int.toNat_of_nonneg q3]
      exact Int.mul_le_mul_of_nonneg_right q4 (Int.le_of_lt (pw_pos _ _))
    · intro l hl'
      obtain ⟨z1, z2⟩ := List.mem_replicate.mp hl'
      subst z2
      refine ⟨?_, Int.le_refl _, v2⟩
      omega
  | some s =>
    obtain ⟨q1, q2, q3, q4, q5, q6, q7⟩ := chs_some hc2 e
    have hs := chs_vs vs' hc2 e
    rw [hl] at q5 hs
    have hvs : ∃ v', sV (suf W) lim s = some v' ∧ v = c.b + v' := by
      unfold cval behind at hc3
      rw [e] at hc3
      simp only [] at hc3
      cases z : sV (suf W) lim s with
      | none => rw [z] at hc3; cases hc3
      | some v' =>
        rw [z] at hc3
        exact ⟨v', rfl, (Option.some.inj hc3).symm⟩
    obtain ⟨v', hv', ev⟩ := hvs
    obtain ⟨i1, i2, i3, i4⟩ := ih s ⟨by omega, hs.2⟩ hs.1 v' hv'
    have esb : s.b = st.b + c.a := by rw [q1]
    have esc : s.c = min (2 * (st.c - c.a)) ((W.length : Int) - st.b - c.a) := by
      rw [q1]
      show min _ ((((suf W).length : Int) - 1) - st.b - c.a) = _
      rw [hl]
    simp only []
    have hdr : W.drop st.b.toNat = (W.drop st.b.toNat).take c.a.toNat ++ W.drop s.b.toNat := by
      have z := (List.take_append_drop c.a.toNat (W.drop st.b.toNat)).symm
      rw [List.drop_drop, show st.b.toNat + c.a.toNat = s.b.toNat by omega] at z
      exact z
    have htl : ((W.drop st.b.toNat).take c.a.toNat).length = c.a.toNat := by
      rw [List.length_take, List.length_drop]
      omega
    refine ⟨?_, ?_, ?_, ?_⟩
    · rw [List.length_append, List.length_replicate, i1]
      omega
    · rw [hdr, List.zipWith_append (by rw [htl, List.length_replicate]), List.sum_append, zw_zero _ _ _ htl, zw_shift st.a _ _ (by rw [i1, List.length_drop]; omega), ← hs.2, i2, ev, q2, gW_suf (by omega) (by omega), esb]
      omega
    · rw [List.map_append, List.sum_append, sum_rep, Int.toNat_of_nonneg q3]
      have h2 : s.c * pw lim s.a ≤ (st.c - c.a) * pw lim st.a := by
        rw [pw_step (show st.a < lim by omega), hs.2, ← Int.mul_assoc, Int.mul_comm (st.c - c.a) 2]
        refine Int.mul_le_mul_of_nonneg_right ?_ (Int.le_of_lt (pw_pos _ _))
        rw [esc]
        exact Int.min_le_left _ _
      rw [Int.sub_mul] at h2
      omega
    · intro l hl'
      rcases List.mem_append.mp hl' with z | z
      · obtain ⟨z1, z2⟩ := List.mem_replicate.mp z
        subst z2
        refine ⟨?_, Int.le_refl _, v2⟩
        omega
      · have := i4 l z
        omega
theorem lnS_ok {W : List Int} {lim : Int} (h1 : 1 ≤ lim) : ∀ (k : Nat) (st : Stg), (lim - st.a).toNat = k → Vs (W.length : Int) lim st → ∀ v, sV (suf W) lim st = some v →
    (lnS (suf W) lim st).length = ((W.length : Int) - st.b).toNat ∧ (List.zipWith (fun w l => w * (l - st.a)) (W.drop st.b.toNat) (lnS (suf W) lim st)).sum = v ∧ ((lnS (suf W) lim st).map (pw lim)).sum ≤ st.c * pw lim st.a ∧ ∀ l ∈ lnS (suf W) lim st, 1 ≤ l ∧ st.a ≤ l ∧ l ≤ lim := by
  intro k
  induction k with
  | zero => exact fun st hk v w hw => lnS_okS h1 st v w hw fun s hs => by omega
  | succ k ih => exact fun st hk v w hw => lnS_okS h1 st v w hw fun s hs => ih s (by omega)
/-! ### for weights -/
theorem zip_range (ws ls : List Int) (f : Int → Int → Int) (n : Nat) (h1 : ws.length = n) (h2 : ls.length = n) : (ws.zip ls).map (fun p => f p.1 p.2) = (seqI 0 n).map fun k => f (gW ws k) (gW ls k) := by
  refine List.ext_getElem (by rw [List.length_map, List.length_map, List.length_zip, seqI_len]; omega) fun i hi hi' => ?_
  rw [List.length_map, List.length_zip] at hi
  rw [List.getElem_map, List.getElem_map, List.getElem_zip, seqI_at (by rw [seqI_len]; omega)]
  have g : ∀ (xs : List Int) (h : i < xs.length), gW xs (0 + (i : Int)) = xs[i] := fun xs h => by
    have := idxR_gW (ws := xs) (k := 0 + (i : Int)) (by omega) (by omega)
    rw [show (0 : Int) + (i : Int) = (i : Int) by omega] at this ⊢
    rw [idxR_nat h] at this
    exact (R.ok.inj this).symm
  rw [g ws (by omega), g ls (by omega)]
theorem sum_zip (ws ls : List Int) (f : Int → Int → Int) (h : ls.length = ws.length) : ((ws.zip ls).map fun p => f p.1 p.2).sum = ((rk ws).map fun k => f (gW ws k) (gW ls k)).sum := by
  rw [zip_range ws ls f ws.length rfl h]
  exact (sum_perm ((rk_perm ws).map _)).symm
theorem sum_rk (ws ls : List Int) (f : Int → Int) (h : ls.length = ws.length) : (ls.map f).sum = ((rk ws).map fun k => f (gW ls k)).sum := by
  have e : ls.map f = (seqI 0 ws.length).map fun k => f (gW ls k) := by
    conv => lhs; rw [← map_gW ls, List.map_map, h]
    rfl
  rw [e]
  exact (sum_perm ((rk_perm ws).map _)).symm
theorem rk_inj {ws ls ls' : List Int} (h : ls.length = ws.length) (h' : ls'.length = ws.length) (e : (rk ws).map (gW ls) = (rk ws).map (gW ls')) : ls = ls' := by
  rw [← map_gW ls, ← map_gW ls', h, h']
  refine List.map_congr_left fun k hk => ?_
  have hk' : k ∈ rk ws := (rk_perm ws).mem_iff.mpr hk
  obtain ⟨i, hi, rfl⟩ := List.getElem_of_mem hk'
  have := congrArg (fun l => l[i]?) e
  simp only [List.getElem?_map, List.getElem?_eq_getElem hi, Option.map_some] at this
  exact Option.some.inj this
def st0 : Stg := ⟨0, 0, 1⟩
theorem vs0 {n lim : Int} (h : 1 ≤ n) (h' : 0 ≤ lim) : Vs n lim st0 := ⟨by decide, h', by decide, by show (0 : Int) < n; omega, by decide, h⟩
theorem rkW_desc (ws : List Int) : (rkW ws).Pairwise fun a b => b ≤ a := by
  unfold rkW
  rw [List.pairwise_map]
  exact (rk_sorted ws).imp fun h => by unfold bf at h; omega
/-- no code costs less than the value of the first stage -/
theorem least_le {ws ls : List Int} {lim : Int} (h1 : 1 ≤ ws.length) (hw : ∀ w ∈ ws, 0 ≤ w) (hl : 1 ≤ lim) (hls : ls.length = ws.length) (hr : ∀ l ∈ ls, 1 ≤ l ∧ l ≤ lim) (hK : (ls.map (pw lim)).sum ≤ pw lim 0) :
    ∃ v, sV (sums ws) lim st0 = some v ∧ v ≤ ((ws.zip ls).map fun p => p.1 * p.2).sum := by
  let qs := (rk ws).map fun k => (gW ws k, gW ls k)
  have eW : qs.map (fun q => q.1) = rkW ws := by
    show ((rk ws).map _).map _ = _
    rw [List.map_map]
    rfl
  have hmem : ∀ q ∈ qs, 0 ≤ q.1 ∧ 1 ≤ q.2 ∧ q.2 ≤ lim := fun q hq => by
    obtain ⟨k, hk, rfl⟩ := List.mem_map.mp hq
    have hk' := (rk_mem ws k).mp hk
    have g : ∀ (xs : List Int), xs.length = ws.length → gW xs k ∈ xs := fun xs h => by
      unfold gW
      rw [List.getD_eq_getElem?_getD, List.getElem?_eq_getElem (by omega)]
      exact List.getElem_mem _
    exact ⟨hw _ (g ws rfl), hr _ (g ls hls)⟩
  have hd : qs.Pairwise fun a b => b.1 ≤ a.1 := by
    have := rkW_desc ws
    rw [← eW, List.pairwise_map] at this
    exact this
  have hql : qs.length = ws.length := by
    show ((rk ws).map _).length = _
    rw [List.length_map, rk_len]
  have := sV_least hmem hd _ st0 rfl (by rw [hql]; exact vs0 (by omega) (by omega)) (by
      refine (smI_z fun q hq => ?_).symm
      have := hmem q hq
      exact if_neg (by show ¬ q.2 < 0; omega)) (by
      show _ ≤ 1 * pw lim 0
      rw [Int.one_mul]
      refine Int.le_trans (Int.le_of_eq ?_) hK
      rw [sum_rk ws ls (pw lim) hls]
      show (((rk ws).map _).map _).sum = _
      rw [List.map_map]
      refine smI_eq fun k hk => ?_
      have := hmem _ (List.mem_map.mpr ⟨k, hk, rfl⟩)
      exact if_pos (by show (0 : Int) ≤ gW ls k; have := this.2.1; simp only [] at this; omega))
  rw [eW] at this
  obtain ⟨v, e1, e2⟩ := this
  refine ⟨v, e1, Int.le_trans e2 (Int.le_of_eq ?_)⟩
  rw [sum_zip ws ls (fun a b => a * b) hls]
  show (((rk ws).map _).map _).sum = _
  rw [List.map_map]
  refine smI_eq fun k hk => ?_
  have := hmem _ (List.mem_map.mpr ⟨k, hk, rfl⟩)
  simp only [] at this
  show (if (0 : Int) ≤ gW ls k then gW ws k * (gW ls k - 0) else 0) = _
  rw [if_pos (by omega), Int.sub_zero]
/-- the code whose lengths by rank are those of the choices -/
theorem least_is {ws ls : List Int} {lim v : Int} (h1 : 1 ≤ ws.length) (hl : 1 ≤ lim) (hls : ls.length = ws.length) (hv : sV (sums ws) lim st0 = some v) (hX : (rk ws).map (gW ls) = lnS (sums ws) lim st0) :
    (∀ l ∈ ls, 1 ≤ l ∧ l ≤ lim) ∧ (ls.map (pw lim)).sum ≤ pw lim 0 ∧ ((ws.zip ls).map fun p => p.1 * p.2).sum = v := by
  obtain ⟨i1, i2, i3, i4⟩ := lnS_ok (W := rkW ws) hl _ st0 rfl (vs0 (by rw [rkW_len]; omega) (by omega)) v hv
  have i3 : ((lnS (sums ws) lim st0).map (pw lim)).sum ≤ 1 * pw lim 0 := i3
  have i2 : (List.zipWith (fun w l => w * (l - 0)) ((rkW ws).drop 0) (lnS (sums ws) lim st0)).sum = v := i2
  have i4 : ∀ l ∈ lnS (sums ws) lim st0, 1 ≤ l ∧ 0 ≤ l ∧ l ≤ lim := i4
  rw [← hX] at i2 i3 i4
  refine ⟨fun l hl' => ?_, ?_, ?_⟩
  · rw [← map_gW ls, hls] at hl'
    obtain ⟨k, hk, rfl⟩ := List.mem_map.mp hl'
    have := i4 _ (List.mem_map.mpr ⟨k, (rk_perm ws).mem_iff.mpr hk, rfl⟩)
    exact ⟨this.1, this.2.2⟩
  · rw [sum_rk ws ls (pw lim) hls]
    rw [List.map_map, Int.one_mul] at i3
    exact i3
  · rw [sum_zip ws ls (fun a b => a * b) hls, ← i2, List.drop_zero]
    unfold rkW
    rw [List.zipWith_map]
    congr 1
    rw [List.zipWith_self]
    refine List.map_congr_left fun k _ => ?_
    rw [Int.sub_zero]
/-- there is a code -/
theorem least_some {ws : List Int} {lim : Int} (h1 : 1 ≤ ws.length) (hw : ∀ w ∈ ws, 0 ≤ w) (hl : 1 ≤ lim) (h2 : (ws.length : Int) ≤ pw lim 0) : ∃ v, sV (sums ws) lim st0 = some v := by
  obtain ⟨v, e, _⟩ := least_le (ls := List.replicate ws.length lim) h1 hw hl (List.length_replicate) (fun l h => by
    obtain ⟨_, rfl⟩ := List.mem_replicate.mp h
    exact ⟨hl, Int.le_refl _⟩) (by
    rw [sum_rep]
    show _ * pw lim lim ≤ _
    have : pw lim lim = 1 := by
      unfold pw
      rw [Int.sub_self]
      rfl
    rw [this]
    omega)
  exact ⟨v, e⟩
end Kr

/-! KrLe: which stages there are; loops. -/
namespace Kr
open PySem PySem.Spec PyProof.Rows L2
open Enc (toD)
variable {α β γ S T ρ : Type}
theorem eqR_io (x : Int) (o : Option Int) : eqR x o = .ok (decide (some x = o)) := eqR_eq (some x) o
theorem eqR_oi (o : Option Int) (x : Int) : eqR o x = .ok (decide (o = some x)) := eqR_eq o (some x)
theorem repR_one (x : α) {n : Nat} (hn : n ≤ 1000000) : repR [x] n = .ok (List.replicate n x) := by
  unfold repR
  rw [if_pos ⟨by omega, by omega, by rw [Int.toNat_natCast, List.length_singleton]; omega⟩, Int.toNat_natCast]
  congr 1
  clear hn
  induction n with
  | zero => rfl
  | succ n ih => rw [List.replicate_succ, List.flatten_cons, ih, List.replicate_succ]; rfl
/-- a while loop with a count of its turns -/
theorem while_run {c : T → R Bool} {step : T → R (Fl T ρ)} {k : T → R (Fl S ρ)} (I : Nat → T → Prop) (B : Nat) (hB : ∀ m s, I m s → m ≤ B) (hs : ∀ m s, I m s → c s = .ok false ∨ (c s = .ok true ∧ ∃ s', step s = .ok (.nx s') ∧ I (m + 1) s')) :
    ∀ (fuel m : Nat) (s : T), B < m + fuel → I m s → ∃ m' s', I m' s' ∧ c s' = .ok false ∧ whileR c step k fuel s = k s'
  | 0, m, s, h, hI => absurd (hB m s hI) (by omega)
  | fuel + 1, m, s, h, hI => by
    rcases hs m s hI with e | ⟨e, s', es, hI'⟩
    · refine ⟨m, s, hI, e, ?_⟩
      show (c s).bind _ = _
      rw [e, R.ok_bind]
      exact if_neg (by decide)
    · obtain ⟨m2, s2, q1, q2, q3⟩ := while_run (k := k) I B hB hs fuel (m + 1) s' (by omega) hI'
      refine ⟨m2, s2, q1, q2, ?_⟩
      rw [← q3]
      show (c s).bind _ = _
      rw [e, R.ok_bind, if_pos rfl, es, R.ok_bind]
theorem while_elim {P : R (Fl S ρ) → Prop} {c : T → R Bool} {step : T → R (Fl T ρ)} {k : T → R (Fl S ρ)} {fuel : Nat} {s : T} (I : Nat → T → Prop) (B : Nat) (hf : B < fuel) (h0 : I 0 s) (hB : ∀ m s, I m s → m ≤ B) (hs : ∀ m s, I m s → c s = .ok false ∨ (c s = .ok true ∧ ∃ s', step s = .ok (.nx s') ∧ I (m + 1) s'))
    (hP : ∀ m s, I m s → c s = .ok false → P (k s)) : P (whileR c step k fuel s) := by
  obtain ⟨m, s', h1, h2, h3⟩ := while_run (k := k) I B hB hs fuel 0 s (by omega) h0
  rw [h3]
  exact hP m s' h1 h2
theorem getK_app {κ α : Type} [DecidableEq κ] (k : κ) : ∀ xs ys : List (κ × α), getK (xs ++ ys) k = match getK xs k with
    | some a => some a
    | none => getK ys k
  | [], ys => rfl
  | p :: xs, ys => by
    rw [List.cons_append]
    show (if p.1 = k then some p.2 else getK (xs ++ ys) k) = match (if p.1 = k then some p.2 else getK xs k) with
      | some a => some a
      | none => getK ys k
    by_cases c : p.1 = k
    · rw [if_pos c, if_pos c]
    · rw [if_neg c, if_neg c, getK_app k xs ys]
/-! ### stages -/
inductive Rch (sm : List Int) (lim : Int) : Stg → Prop
  | first : Rch sm lim st0
  | next {s t : Stg} {c : Cho} : Rch sm lim s → c ∈ chs sm lim s → c.c = some t → Rch sm lim t
theorem Rch.vs {sm : List Int} {lim : Int} (h : 1 ≤ (sm.length : Int) - 1) (h' : 0 ≤ lim) {s : Stg} (r : Rch sm lim s) : Vs ((sm.length : Int) - 1) lim s := by
  induction r with
  | first => exact vs0 h h'
  | next _ hc e ih => exact (chs_vs ih hc e).1
def allV (n lim : Nat) : List Stg := (seqI 0 (lim + 1)).flatMap fun a => (seqI 0 n).flatMap fun b => (seqI 1 n).map fun c => ⟨a, b, c⟩
theorem fm_len (f : α → List β) (m : Nat) : ∀ xs : List α, (∀ x ∈ xs, (f x).length = m) → (xs.flatMap f).length = xs.length * m
  | [], _ => by simp
  | x :: xs, h => by
    rw [List.flatMap_cons, List.length_append, h x List.mem_cons_self, fm_len f m xs fun y hy => h y (List.mem_cons_of_mem _ hy), List.length_cons, Nat.add_mul]
    omega
theorem allV_len (n lim : Nat) : (allV n lim).length = (lim + 1) * (n * n) := by
  unfold allV
  rw [fm_len _ (n * n) _ fun a _ => by
    rw [fm_len _ n _ fun b _ => by rw [List.length_map, seqI_len], seqI_len], seqI_len]
theorem mem_allV {n lim : Nat} {s : Stg} (h : Vs (n : Int) (lim : Int) s) : s ∈ allV n lim := by
  obtain ⟨h1, h2, h3, h4, h5, h6⟩ := h
  unfold allV
  exact List.mem_flatMap.mpr ⟨s.a, mem_seqI.mpr (by omega), List.mem_flatMap.mpr ⟨s.b, mem_seqI.mpr (by omega), List.mem_map.mpr ⟨s.c, mem_seqI.mpr (by omega), rfl⟩⟩⟩
theorem vs_few {n lim : Nat} {L : List Stg} (hn : n ≤ 16) (hl : lim ≤ 16) (hd : L.Nodup) (h : ∀ s ∈ L, Vs (n : Int) (lim : Int) s) : L.length ≤ 4352 := by
  have h1 := List.Nodup.length_le_of_subset hd (fun s hs => mem_allV (h s hs))
  rw [allV_len] at h1
  have h2 : (lim + 1) * (n * n) ≤ 17 * (16 * 16) := Nat.mul_le_mul (by omega) (Nat.mul_le_mul hn hn)
  omega
theorem nodup_one (x : α) : [x].Nodup := List.nodup_cons.mpr ⟨fun h => (nomatch h), List.nodup_nil⟩
/-- what is found so far -/
structure Bfs (sm : List Int) (lim : Int) (found : List Stg) (known : Dc Stg Bool) : Prop where
  nd : found.Nodup
  f0 : st0 ∈ found
  rc : ∀ s ∈ found, Rch sm lim s
  kn : ∀ s, (getK known.kvs s).isSome = true ↔ s ∈ found
  sz : known.kvs.length = found.length
theorem Bfs.new {sm : List Int} {lim : Int} : Bfs sm lim [st0] ⟨[(st0, true)]⟩ := ⟨nodup_one _, List.mem_singleton.mpr rfl, fun s hs => by rw [List.mem_singleton.mp hs]; exact .first, fun s => by
  show (if st0 = s then some true else none).isSome = true ↔ _
  rw [List.mem_singleton]
  by_cases c : st0 = s
  · rw [if_pos c]
    exact ⟨fun _ => c.symm, fun _ => rfl⟩
  · rw [if_neg c]
    exact ⟨fun z => (nomatch z), fun z => absurd z.symm c⟩, rfl⟩
theorem Bfs.add {sm : List Int} {lim : Int} {found : List Stg} {known : Dc Stg Bool} (h : Bfs sm lim found known) {s : Stg} (hs : s ∉ found) (hr : Rch sm lim s) : Bfs sm lim (found ++ [s]) ⟨putD known.kvs s true⟩ := by
  have e : getK known.kvs s = none := by
    cases q : getK known.kvs s with
    | none => rfl
    | some b => exact absurd ((h.kn s).mp (by rw [q]; rfl)) hs
  rw [putD_new true e]
  refine ⟨?_, List.mem_append_left _ h.f0, fun t ht => ?_, fun t => ?_, ?_⟩
  · rw [List.nodup_append]
    exact ⟨h.nd, nodup_one _, fun a ha b hb => by rw [List.mem_singleton.mp hb]; exact fun z => hs (z ▸ ha)⟩
  · rcases List.mem_append.mp ht with q | q
    · exact h.rc t q
    · rw [List.mem_singleton.mp q]; exact hr
  · show (getK (known.kvs ++ [(s, true)]) t).isSome = true ↔ _
    rw [getK_app, List.mem_append, List.mem_singleton, ← h.kn t]
    cases getK known.kvs t with
    | some b => simp
    | none =>
      show (if s = t then some true else none).isSome = true ↔ _
      by_cases c : s = t
      · rw [if_pos c]
        simp [c]
      · rw [if_neg c]
        simp
        exact fun z => c z.symm
  · show (known.kvs ++ [(s, true)]).length = _
    rw [List.length_append, List.length_append, h.sz]
    rfl
/-- all of the first m lead to what is found -/
def Cls (sm : List Int) (lim : Int) (found : List Stg) (m : Nat) : Prop := ∀ i x, i < m → found[i]? = some x → ∀ c ∈ chs sm lim x, ∀ s, c.c = some s → s ∈ found
theorem Cls.all {sm : List Int} {lim : Int} {found : List Stg} {known : Dc Stg Bool} (h : Bfs sm lim found known) (hc : Cls sm lim found found.length) {s : Stg} : s ∈ found ↔ Rch sm lim s := by
  refine ⟨h.rc s, fun r => ?_⟩
  induction r with
  | first => exact h.f0
  | next _ hcm e ih =>
    obtain ⟨i, hi, ei⟩ := List.getElem_of_mem ih
    exact hc i _ hi (by rw [List.getElem?_eq_getElem hi, ei]) _ hcm _ e
theorem Cls.mono {sm : List Int} {lim : Int} {found : List Stg} {m : Nat} (h : Cls sm lim found m) (hm : m ≤ found.length) (s : Stg) : Cls sm lim (found ++ [s]) m := fun i x hi ex c hc t ht => by
  rw [List.getElem?_append_left (by omega)] at ex
  exact List.mem_append_left _ (h i x hi ex c hc t ht)
/-- in a list that goes up by depth, what is deeper stands before -/
theorem take_deep {L : List Stg} (hs : L.Pairwise fun p q => q.a ≤ p.a) {i : Nat} (hi : i < L.length) {s : Stg} (hm : s ∈ L) (h : L[i].a < s.a) : s ∈ L.take i := by
  obtain ⟨j, hj, e⟩ := List.getElem_of_mem hm
  have hji : j < i := by
    rcases Nat.lt_trichotomy j i with c | c | c
    · exact c
    · subst c
      rw [e] at h
      omega
    · have := List.pairwise_iff_getElem.mp hs i j hi hj c
      rw [e] at this
      omega
  rw [← e]
  exact List.mem_take_iff_getElem.mpr ⟨j, by omega, rfl⟩
theorem rev_deep (L : List Stg) : ((L.mergeSort leD).reverse).Pairwise fun p q => q.a ≤ p.a := by
  rw [List.pairwise_reverse]
  refine (List.pairwise_mergeSort leD_tr leD_tot L).imp fun {p q} h => ?_
  rw [leD_iii, decide_eq_true_eq] at h
  omega
/-- the last of a walk -/
theorem fold_lastR (p : α → Bool) (g : α → β) (xs : List α) : xs.foldl (fun b x => if p x = true then some (g x) else b) none = (lastR p xs).map g := by
  unfold lastR
  have key : ∀ (xs : List α) (b : Option α), xs.foldl (fun b x => if p x = true then some (g x) else b) (b.map g) = (xs.foldl (fun b x => if p x = true then some x else b) b).map g := by
    intro xs
    induction xs with
    | nil => intro b; rfl
    | cons x xs ih =>
      intro b
      rw [List.foldl_cons, List.foldl_cons, ← ih]
      congr 1
      split <;> rfl
  exact key xs none
theorem take_set {l : List α} {i : Nat} (h : i < l.length) (d : α) : (l.set i d).take (i + 1) = l.take i ++ [d] := by
  rw [List.take_add_one, List.getElem?_set_self h, List.take_set_of_le (Nat.le_refl i)]
  rfl
theorem rk_set {ws ls : List Int} {i : Nat} (hl : ls.length = ws.length) (hi : i < (rk ws).length) (d : Int) : (rk ws).map (gW (ls.set (rk ws)[i].toNat d)) = ((rk ws).map (gW ls)).set i d := by
  refine List.ext_getElem (by rw [List.length_set, List.length_map, List.length_map]) fun j h1 h2 => ?_
  rw [List.length_map] at h1
  have hm : ∀ (j : Nat) (h : j < (rk ws).length), 0 ≤ (rk ws)[j] ∧ (rk ws)[j] < ws.length := fun j h => (rk_mem ws _).mp (List.getElem_mem h)
  rw [List.getElem_map, List.getElem_set]
  by_cases c : i = j
  · subst c
    rw [if_pos rfl]
    unfold gW
    rw [List.getD_eq_getElem?_getD, List.getElem?_set_self (by have := hm i hi; omega)]
    rfl
  · rw [if_neg c, List.getElem_map]
    have hne : (rk ws)[i] ≠ (rk ws)[j] := by
      have hp := List.pairwise_iff_getElem.mp (rk_nodup ws)
      rcases Nat.lt_or_gt_of_ne c with q | q
      · exact hp i j hi h1 q
      · exact fun z => hp j i h1 hi q z.symm
    unfold gW
    rw [List.getD_eq_getElem?_getD, List.getD_eq_getElem?_getD, List.getElem?_set_ne (by
      have := hm i hi
      have := hm j h1
      omega)]
/-- a stage of the walk: what stands of the lengths -/
def At (ws : List Int) (lim : Int) (X : List Int) (m : Nat) (ls : List Int) (o : Option Stg) : Prop := ls.length = ws.length ∧ match o with
  | none => (rk ws).map (gW ls) = X
  | some st => st.a = m ∧ Rch (sums ws) lim st ∧ (∃ v, sV (sums ws) lim st = some v) ∧ ((rk ws).map (gW ls)).take st.b.toNat ++ lnS (sums ws) lim st = X
theorem At.step {ws : List Int} {lim : Int} {X : List Int} {m : Nat} {ls ls' : List Int} {st : Stg} {c : Cho} (h1 : 1 ≤ ws.length) (hl : 1 ≤ lim) (h : At ws lim X m ls (some st)) (hc : bc (sums ws) lim st = some c) (hl' : ls'.length = ws.length) (e : ((rk ws).map (gW ls')).take (st.b.toNat + c.a.toNat) = ((rk ws).map (gW ls)).take st.b.toNat ++ List.replicate c.a.toNat st.a) :
    At ws lim X (m + 1) ls' c.c := by
  obtain ⟨q1, q2, q3, ⟨v, q4⟩, q5⟩ := h
  have hsm : ((sums ws).length : Int) - 1 = ws.length := by
    rw [sums_len]
    omega
  have hv := q3.vs (by omega) (by omega)
  have hcm := (lastR_some hc).1
  rw [lnS_eq hv hc, ← List.append_assoc, ← e] at q5
  refine ⟨hl', ?_⟩
  cases ec : c.c with
  | none =>
    obtain ⟨z1, z2, z3, z4, z5⟩ := chs_none hcm ec
    rw [ec, List.append_nil, List.take_of_length_le (by
      rw [List.length_map, rk_len]
      have := hv.b0
      omega)] at q5
    exact q5
  | some s =>
    obtain ⟨z1, z2, z3, z4, z5, z6, z7⟩ := chs_some hcm ec
    rw [ec] at q5
    have hb0 := hv.b0
    refine ⟨by rw [z1]; show st.a + 1 = _; omega, .next q3 hcm ec, ?_, ?_⟩
    · obtain ⟨c', w1, w2, w3⟩ := bc_some hv q4
      rw [hc] at w1
      rw [← Option.some.inj w1] at w3
      unfold cval behind at w3
      rw [ec] at w3
      cases q : sV (sums ws) lim s with
      | none => simp only [q] at w3; cases w3
      | some v => exact ⟨v, rfl⟩
    · rw [show s.b.toNat = st.b.toNat + c.a.toNat by
        rw [z1]
        show (st.b + c.a).toNat = _
        omega]
      exact q5
theorem At.first {ws : List Int} {lim v : Int} (hv : sV (sums ws) lim st0 = some v) {ls : List Int} (h : ls.length = ws.length) : At ws lim (lnS (sums ws) lim st0) 0 ls (some st0) := ⟨h, rfl, .first, ⟨v, hv⟩, rfl⟩
/-! ### dicts as sets -/
def keysD {κ α : Type} (d : Dc κ α) : List κ := d.kvs.map fun p => p.1
theorem getK_mem {κ α : Type} [DecidableEq κ] (k : κ) : ∀ kvs : List (κ × α), (getK kvs k).isSome = true ↔ k ∈ kvs.map fun p => p.1
  | [] => by
    constructor
    · intro h; cases h
    · intro h; cases h
  | p :: r => by
    rw [List.map_cons, List.mem_cons, ← getK_mem k r]
    show (if p.1 = k then some p.2 else getK r k).isSome = true ↔ _
    by_cases c : p.1 = k
    · rw [if_pos c]
      exact ⟨fun _ => .inl c.symm, fun _ => rfl⟩
    · rw [if_neg c]
      exact ⟨.inr, fun h => h.resolve_left fun z => c z.symm⟩
theorem putD_keys {κ α : Type} [DecidableEq κ] (kvs : List (κ × α)) (k : κ) (a : α) : ((putD kvs k a).map fun p => p.1) = if k ∈ (kvs.map fun p => p.1) then (kvs.map fun p => p.1) else (kvs.map fun p => p.1) ++ [k] := by
  unfold putD
  by_cases c : (getK kvs k).isSome = true
  · rw [if_pos c, if_pos ((getK_mem k kvs).mp c), List.map_map]
    refine List.map_congr_left fun p _ => ?_
    show (if p.1 = k then (p.1, a) else p).1 = p.1
    split <;> rfl
  · rw [if_neg c, if_neg (fun z => c ((getK_mem k kvs).mpr z)), List.map_append]
    rfl
/-- a set of stages -/
def SetD (d : Dc Stg Bool) (P : Stg → Prop) : Prop := (keysD d).Nodup ∧ ∀ s, s ∈ keysD d ↔ P s
theorem SetD.add {d : Dc Stg Bool} {P Q : Stg → Prop} (h : SetD d P) (u : Stg) (hQ : ∀ s, Q s ↔ P s ∨ s = u) : SetD ⟨putD d.kvs u true⟩ Q := by
  unfold SetD keysD at *
  rw [putD_keys]
  by_cases c : u ∈ (d.kvs.map fun p => p.1)
  · rw [if_pos c]
    refine ⟨h.1, fun s => ?_⟩
    rw [hQ, h.2]
    exact ⟨.inl, fun z => z.elim id fun e => by rw [e]; exact (h.2 u).mp c⟩
  · rw [if_neg c]
    refine ⟨?_, fun s => ?_⟩
    · rw [List.nodup_append]
      exact ⟨h.1, nodup_one _, fun a ha b hb => by rw [List.mem_singleton.mp hb]; exact fun z => c (z ▸ ha)⟩
    · rw [hQ, List.mem_append, List.mem_singleton, h.2]
theorem SetD.few {sm : List Int} {n lim : Nat} (hs : sm.length = n + 1) (h1 : 1 ≤ n) (hn : n ≤ 16) (hl : lim ≤ 16) {d : Dc Stg Bool} {P : Stg → Prop} (h : SetD d P) (hP : ∀ s, P s → Rch sm lim s) : d.kvs.length ≤ 4352 := by
  have := vs_few hn hl h.1 fun s hs' => by
    have := (hP s ((h.2 s).mp hs')).vs (by omega) (by omega)
    rw [show (sm.length : Int) - 1 = n by omega] at this
    exact this
  unfold keysD at this
  rw [List.length_map] at this
  exact this
theorem rch_zero {sm : List Int} {lim : Int} (h : 1 ≤ (sm.length : Int) - 1) (h' : 0 ≤ lim) (s : Stg) : (Rch sm lim s ∧ s.a = 0) ↔ s = st0 := by
  constructor
  · rintro ⟨r, e⟩
    cases r with
    | first => rfl
    | next r hc ec =>
      have h1 := (r.vs h h').a0
      have h2 := (chs_vs (r.vs h h') hc ec).2
      omega
  · rintro rfl
    exact ⟨.first, rfl⟩
theorem rch_succ {sm : List Int} {lim : Int} (h : 1 ≤ (sm.length : Int) - 1) (h' : 0 ≤ lim) (d : Int) (hd : 0 ≤ d) (s : Stg) : (Rch sm lim s ∧ s.a = d + 1) ↔ ∃ p, (Rch sm lim p ∧ p.a = d) ∧ ∃ c ∈ chs sm lim p, c.c = some s := by
  constructor
  · rintro ⟨r, e⟩
    cases r with
    | first => exact absurd e (by show ¬ (0 : Int) = d + 1; omega)
    | next r hc ec =>
      have h2 := (chs_vs (r.vs h h') hc ec).2
      exact ⟨_, ⟨r, by omega⟩, _, hc, ec⟩
  · rintro ⟨p, ⟨r, e⟩, c, hc, ec⟩
    have h2 := (chs_vs (r.vs h h') hc ec).2
    exact ⟨.next r hc ec, by omega⟩
/-! ### the least of many -/
theorem omin_foldG (g : α → Option Int) : ∀ (cs : List α) (b : Option Int), (∀ x, (b = some x ∨ ∃ c ∈ cs, g c = some x) → ∃ y, cs.foldl (fun b c => omin b (g c)) b = some y ∧ y ≤ x) ∧ (∀ y, cs.foldl (fun b c => omin b (g c)) b = some y → b = some y ∨ ∃ c ∈ cs, g c = some y)
  | [], b => by
    refine ⟨fun x h => ?_, fun y h => Or.inl h⟩
    rcases h with h | ⟨c, hc, _⟩
    · exact ⟨x, h, Int.le_refl _⟩
    · exact nomatch hc
  | c :: cs, b => by
    obtain ⟨i1, i2⟩ := omin_foldG g cs (omin b (g c))
    rw [List.foldl_cons]
    constructor
    · intro x h
      have key : ∃ z, omin b (g c) = some z ∧ z ≤ x ∨ ∃ c ∈ cs, g c = some x := by
        rcases h with h | ⟨d, hd, e⟩
        · rw [h]
          cases g c with
          | none => exact ⟨x, .inl ⟨rfl, Int.le_refl _⟩⟩
          | some y => exact ⟨_, .inl ⟨rfl, by split <;> omega⟩⟩
        · rcases List.mem_cons.mp hd with hd | hd
          · rw [← hd, e]
            cases b with
            | none => exact ⟨x, .inl ⟨rfl, Int.le_refl _⟩⟩
            | some y => exact ⟨_, .inl ⟨rfl, by split <;> omega⟩⟩
          · exact ⟨0, .inr ⟨d, hd, e⟩⟩
      obtain ⟨z, ⟨e, l⟩ | q⟩ := key
      · obtain ⟨y, e1, e2⟩ := i1 z (.inl e)
        exact ⟨y, e1, by omega⟩
      · exact i1 x (.inr q)
    · intro y h
      rcases i2 y h with e | ⟨d, hd, e⟩
      · cases q : g c with
        | none =>
          rw [q] at e
          cases b with
          | none => cases e
          | some x => exact .inl e
        | some x =>
          rw [q] at e
          cases b with
          | none => exact .inr ⟨c, List.mem_cons_self, q.trans e⟩
          | some w =>
            unfold omin at e
            simp only [] at e
            split at e
            · exact .inr ⟨c, List.mem_cons_self, q.trans e⟩
            · exact .inl e
      · exact .inr ⟨d, List.mem_cons_of_mem _ hd, e⟩
/-! ### all codes -/
def nxt (lim : Int) (p : List Int × Int) : List (List Int × Int) := (seqI 1 lim.toNat).filterMap fun l => if p.2 + pw lim l ≤ pw lim 0 then some (p.1 ++ [l], p.2 + pw lim l) else none
def rowsK (lim : Int) : Nat → List (List Int × Int)
  | 0 => [([], 0)]
  | k + 1 => (rowsK lim k).flatMap (nxt lim)
theorem mem_rowsK {lim : Int} (hl : 0 ≤ lim) : ∀ (k : Nat) (r : List Int × Int), r ∈ rowsK lim k ↔ r.1.length = k ∧ (∀ l ∈ r.1, 1 ≤ l ∧ l ≤ lim) ∧ r.2 = (r.1.map (pw lim)).sum ∧ r.2 ≤ pw lim 0
  | 0, r => by
    show r ∈ [([], 0)] ↔ _
    rw [List.mem_singleton]
    constructor
    · rintro rfl
      exact ⟨rfl, fun l h => (nomatch h), rfl, Int.le_of_lt (pw_pos _ _)⟩
    · rintro ⟨h1, h2, h3, h4⟩
      have e := List.eq_nil_of_length_eq_zero h1
      rw [e] at h3
      exact Prod.ext e h3
  | k + 1, r => by
    show r ∈ (rowsK lim k).flatMap (nxt lim) ↔ _
    rw [List.mem_flatMap]
    constructor
    · rintro ⟨p, hp, hr⟩
      obtain ⟨h1, h2, h3, h4⟩ := (mem_rowsK hl k p).mp hp
      obtain ⟨l, hl', e⟩ := List.mem_filterMap.mp hr
      have q := mem_seqI.mp hl'
      split at e
      · rename_i c
        injection e with e
        subst e
        refine ⟨by rw [List.length_append, h1]; rfl, fun x hx => ?_, ?_, c⟩
        · rcases List.mem_append.mp hx with z | z
          · exact h2 x z
          · rw [List.mem_singleton.mp z]
            omega
        · rw [List.map_append, List.sum_append, ← h3]
          simp
      · cases e
    · rintro ⟨h1, h2, h3, h4⟩
      obtain ⟨xs, u⟩ := r
      simp only [] at h1 h2 h3 h4
      have hne : xs ≠ [] := fun z => by rw [z] at h1; simp at h1
      have e := List.dropLast_concat_getLast hne
      have hlast := h2 _ (List.getLast_mem hne)
      have hsum : u = (xs.dropLast.map (pw lim)).sum + pw lim (xs.getLast hne) := by
        rw [h3]
        conv => lhs; rw [← e]
        rw [List.map_append, List.sum_append]
        simp
      have hpp := pw_pos lim (xs.getLast hne)
      refine ⟨(xs.dropLast, (xs.dropLast.map (pw lim)).sum), (mem_rowsK hl k _).mpr ⟨by rw [List.length_dropLast, h1]; rfl, fun l h => h2 l ((List.dropLast_sublist xs).subset h), rfl, by show (xs.dropLast.map (pw lim)).sum ≤ _; omega⟩, ?_⟩
      refine List.mem_filterMap.mpr ⟨xs.getLast hne, mem_seqI.mpr (by omega), ?_⟩
      show (if (xs.dropLast.map (pw lim)).sum + pw lim (xs.getLast hne) ≤ pw lim 0 then some (xs.dropLast ++ [xs.getLast hne], (xs.dropLast.map (pw lim)).sum + pw lim (xs.getLast hne)) else none) = _
      rw [if_pos (by omega), e, ← hsum]
theorem fm_le (f : α → List β) (m : Nat) : ∀ xs : List α, (∀ x ∈ xs, (f x).length ≤ m) → (xs.flatMap f).length ≤ xs.length * m
  | [], _ => by simp
  | x :: xs, h => by
    have h1 := h x List.mem_cons_self
    have h2 := fm_le f m xs fun y hy => h y (List.mem_cons_of_mem _ hy)
    rw [List.flatMap_cons, List.length_append, List.length_cons, Nat.add_mul]
    omega
theorem nxt_len (lim : Int) (p : List Int × Int) : (nxt lim p).length ≤ lim.toNat := by
  refine Nat.le_trans (List.length_filterMap_le _ _) ?_
  rw [seqI_len]
  exact Nat.le_refl _
theorem rowsK_len {lim : Int} (hl : lim ≤ 4) : ∀ k : Nat, (rowsK lim k).length ≤ 4 ^ k
  | 0 => Nat.le_refl _
  | k + 1 => by
    refine Nat.le_trans (fm_le (nxt lim) 4 (rowsK lim k) fun p _ => Nat.le_trans (nxt_len lim p) (by omega)) ?_
    rw [Nat.pow_succ]
    exact Nat.mul_le_mul_right _ (rowsK_len hl k)
end Kr

namespace Kx
open PySem PySem.Spec PyProof.Rows L2 Kr
open Enc (toD)
theorem stages_eq {sm : List Int} {n lim : Nat} (hs : sm.length = n + 1) (h1 : 1 ≤ n) (hn : n ≤ 16) (hl1 : 1 ≤ lim) (hl : lim ≤ 16) : ∃ L, f_stages sm lim = .ok L ∧ L.Nodup ∧ L.length ≤ 4352 ∧ ∀ s, s ∈ L ↔ Rch sm lim s := by
  have hb : ∀ {found known}, Bfs sm lim found known → found.length ≤ 4352 := fun h => vs_few hn hl h.nd fun s hs' => by
    have := (h.rc s hs').vs (by omega) (by omega)
    rw [show (sm.length : Int) - 1 = n by omega] at this
    exact this
  unfold f_stages b_stages
  simp only [R.ok_bind, R.ok_pu, R.er_bind, R.bad_bind, R.ok_map, finR_rt, seqF_nx, seqF_rt, R.bind_ok, R.bind_bind, decide_eq_true_eq, Bool.not_eq_true', decide_eq_false_iff_not, Bool.false_eq_true, if_true, if_false, ite_nx]
  rw [szR_ok (by simp), R.ok_bind]
  refine while_elim (P := fun r => ∃ L : List Stg, finR r = R.ok L ∧ L.Nodup ∧ L.length ≤ 4352 ∧ ∀ s, s ∈ L ↔ Rch sm lim s) (fun (m : Nat) (s : List Stg × Dc Stg Bool × Int) => s.2.2 = m ∧ m ≤ s.1.length ∧ Bfs sm lim s.1 s.2.1 ∧ Cls sm lim s.1 m) 4352 (by omega) ⟨rfl, Nat.zero_le _, Bfs.new, fun i x hi => by omega⟩ (fun m s hI => by
      have := hb hI.2.2.1
      omega) (fun m s hI => ?_) fun m s hI hc => ?_
  · obtain ⟨e, hm, hB, hC⟩ := hI
    rw [e]
    by_cases hlt : m < s.1.length
    · right
      refine ⟨by rw [decide_eq_true (by omega)], ?_⟩
      obtain ⟨x, hx⟩ : ∃ x, s.1[m]? = some x := ⟨_, List.getElem?_eq_getElem hlt⟩
      have hxm : x ∈ s.1 := List.mem_of_getElem? hx
      have hv := (hB.rc x hxm).vs (by omega) (by omega)
      rw [idxR_of (by omega) (show s.1[((m : Nat) : Int).toNat]? = some x from hx), R.ok_bind, choices_by_eq sm lim x (by omega) hv.a0 hv.al (by omega) (by omega) ⟨hv.b0, hv.bn⟩ hv.c1 (by have := hv.cn; omega), R.ok_pu, R.ok_bind]
      refine forR_elim (P := fun r => ∃ s' : List Stg × Dc Stg Bool × Int, r = R.ok (Fl.nx s') ∧ s'.2.2 = ((m + 1 : Nat) : Int) ∧ m + 1 ≤ s'.1.length ∧ Bfs sm lim s'.1 s'.2.1 ∧ Cls sm lim s'.1 (m + 1)) (fun j (t : List Stg × Dc Stg Bool) => m < t.1.length ∧ t.1[m]? = some x ∧ Bfs sm lim t.1 t.2 ∧ Cls sm lim t.1 m ∧ ∀ c ∈ (chs sm lim x).take j, ∀ u, c.c = some u → u ∈ t.1) ?_ (fun j hj t hI => ?_) (fun t hI => ?_)
      · exact ⟨hlt, hx, hB, hC, fun c hc => by simp at hc⟩
      · obtain ⟨i1, i2, i3, i4, i5⟩ := hI
        have hcm : (chs sm lim x)[j] ∈ chs sm lim x := List.getElem_mem hj
        have htk : ∀ (Q : Cho → Prop), (∀ c ∈ (chs sm lim x).take j, Q c) → Q (chs sm lim x)[j] → ∀ c ∈ (chs sm lim x).take (j + 1), Q c := fun Q h1 h2 c hc => by
          rw [List.take_add_one, List.getElem?_eq_getElem hj] at hc
          rcases List.mem_append.mp hc with q | q
          · exact h1 c q
          · rw [show c = (chs sm lim x)[j] by simpa using q]
            exact h2
        generalize (chs sm lim x)[j] = c at hcm htk ⊢
        cases ec : c.c with
        | none =>
          simp only [R.ok_bind, R.ok_pu, R.er_bind, R.bad_bind, R.ok_map, finR_rt, seqF_nx, seqF_rt, R.bind_ok, R.bind_bind, decide_eq_true_eq, Bool.not_eq_true', decide_eq_false_iff_not, Bool.false_eq_true, if_true, if_false, ite_nx, Option.isSome_none]
          exact ⟨t, rfl, i1, i2, i3, i4, htk _ i5 fun u hu => by rw [ec] at hu; cases hu⟩
        | some u =>
          simp only [R.ok_bind, R.ok_pu, R.er_bind, R.bad_bind, R.ok_map, finR_rt, seqF_nx, seqF_rt, R.bind_ok, R.bind_bind, decide_eq_true_eq, Bool.not_eq_true', decide_eq_false_iff_not, Bool.false_eq_true, if_true, if_false, ite_nx, Option.isSome_some, getR]
          by_cases hk : u ∈ t.1
          · have : (getK t.2.kvs u).isSome = true := (i3.kn u).mpr hk
            simp only [this, R.ok_bind, R.ok_pu, R.er_bind, R.bad_bind, R.ok_map, finR_rt, seqF_nx, seqF_rt, R.bind_ok, R.bind_bind, decide_eq_true_eq, Bool.not_eq_true', decide_eq_false_iff_not, Bool.false_eq_true, if_true, if_false, ite_nx]
            exact ⟨t, rfl, i1, i2, i3, i4, htk _ i5 fun u' hu => by
              rw [ec] at hu
              rw [← Option.some.inj hu]
              exact hk⟩
          · have : (getK t.2.kvs u).isSome = false := by
              rw [Bool.eq_false_iff]
              exact fun z => hk ((i3.kn u).mp z)
            have hsz := hb i3
            have hadd := i3.add hk (.next (hB.rc x hxm) hcm ec)
            simp only [this, R.ok_bind, R.ok_pu, R.er_bind, R.bad_bind, R.ok_map, finR_rt, seqF_nx, seqF_rt, R.bind_ok, R.bind_bind, decide_eq_true_eq, Bool.not_eq_true', decide_eq_false_iff_not, Bool.false_eq_true, if_true, if_false, ite_nx]
            rw [show dpR t.2 u true = .ok ⟨putD t.2.kvs u true⟩ from if_pos (by rw [i3.sz]; omega), R.ok_bind, szR_snoc (by omega), R.ok_bind]
            refine ⟨_, rfl, by rw [List.length_append]; omega, ?_, hadd, i4.mono (by omega) u, htk _ (fun c' hc' u' hu' => List.mem_append_left _ (i5 c' hc' u' hu')) fun u' hu => ?_⟩
            · rw [List.getElem?_append_left i1]
              exact i2
            · rw [ec] at hu
              rw [← Option.some.inj hu]
              exact List.mem_append_right _ (List.mem_singleton.mpr rfl)
      · obtain ⟨i1, i2, i3, i4, i5⟩ := hI
        refine ⟨_, rfl, ?_, i1, i3, fun i y hi ey c hc u hu => ?_⟩
        · show (m : Int) + 1 = _
          omega
        · by_cases q : i < m
          · exact i4 i y q ey c hc u hu
          · have : i = m := by omega
            subst this
            rw [i2] at ey
            rw [← Option.some.inj ey] at hc
            rw [List.take_length] at i5
            exact i5 c hc u hu
    · left
      rw [decide_eq_false (by omega)]
  · obtain ⟨e, hm, hB, hC⟩ := hI
    rw [e] at hc
    have hlen : m = s.1.length := by
      by_cases hlt : m < s.1.length
      · rw [decide_eq_true (by omega)] at hc
        cases hc
      · omega
    refine ⟨s.1, finR_rt _, hB.nd, hb hB, fun t => ?_⟩
    rw [hlen] at hC
    exact Cls.all hB hC
theorem values_eq {ws : List Int} {n lim : Nat} (hs : ws.length = n) (h1 : 1 ≤ n) (hn : n ≤ 16) (hl1 : 1 ≤ lim) (hl : lim ≤ 16) : ∃ L, f_values ws lim = .ok ⟨tb (sV (sums ws) lim) L⟩ ∧ L.Nodup ∧ L.length ≤ 4352 ∧ ∀ s, s ∈ L ↔ Rch (sums ws) lim s := by
  have hsm : (sums ws).length = n + 1 := by rw [sums_len, hs]
  obtain ⟨L, e1, e2, e3, e4⟩ := stages_eq hsm h1 hn hl1 hl
  refine ⟨(L.mergeSort leD).reverse, ?_, ?_, ?_, fun s => ?_⟩
  rotate_left
  · rw [((List.reverse_perm _).trans (List.mergeSort_perm L leD)).nodup_iff]
    exact e2
  · rw [List.length_reverse, List.length_mergeSort]
    exact e3
  · rw [List.mem_reverse, (List.mergeSort_perm L leD).mem_iff]
    exact e4 s
  have hdeep := rev_deep L
  have hmem : ∀ s, s ∈ (L.mergeSort leD).reverse ↔ Rch (sums ws) lim s := fun s => by
    rw [List.mem_reverse, (List.mergeSort_perm L leD).mem_iff]
    exact e4 s
  have hnd : ((L.mergeSort leD).reverse).Nodup := by
    rw [((List.reverse_perm _).trans (List.mergeSort_perm L leD)).nodup_iff]
    exact e2
  have hlen : ((L.mergeSort leD).reverse).length ≤ 4352 := by
    rw [List.length_reverse, List.length_mergeSort]
    exact e3
  unfold f_values b_values
  simp only [R.ok_bind, R.ok_pu, R.er_bind, R.bad_bind, R.ok_map, finR_rt, seqF_nx, seqF_rt, R.bind_ok, R.bind_bind, decide_eq_true_eq, Bool.not_eq_true', decide_eq_false_iff_not, Bool.false_eq_true, if_true, if_false, ite_nx, rests_eq ws (by omega), e1]
  rw [sortR_ok (by omega), R.ok_bind]
  generalize (L.mergeSort leD).reverse = M at hdeep hmem hnd hlen ⊢
  refine forR_elim (P := fun r => finR r = R.ok (Nd.mk (tb (sV (sums ws) lim) M))) (fun i (s : Dc Stg (Option Int)) => s = tb (sV (sums ws) lim) (M.take i)) rfl (fun i hi s hI => ?_) (fun s hI => ?_)
  · subst hI
    have hr := (hmem _).mp (List.getElem_mem hi)
    have hv := hr.vs (by omega) (by omega)
    have hdp := fun s => take_deep hdeep hi (s := s)
    have hnot : M[i] ∉ M.take i := fun hm => by
      have hnd' := hnd
      rw [← List.take_append_drop i M, List.nodup_append] at hnd'
      exact hnd'.2.2 _ hm M[i] (by rw [List.drop_eq_getElem_cons hi]; exact List.mem_cons_self) rfl
    have htk : M.take (i + 1) = M.take i ++ [M[i]] := by
      rw [List.take_add_one, List.getElem?_eq_getElem hi]
      rfl
    generalize M[i] = st at hr hv hdp hnot htk ⊢
    rw [choices_by_eq (sums ws) lim st (by omega) hv.a0 hv.al (by omega) (by omega) ⟨hv.b0, hv.bn⟩ hv.c1 (by have := hv.cn; omega), R.ok_pu, R.ok_bind]
    rw [forR_fold (fun b c => omin b (cval (sV (sums ws) lim) c)) _ _ fun b c hc => ?_]
    · rw [show (chs (sums ws) lim st).foldl (fun b c => omin b (cval (sV (sums ws) lim) c)) none = sV (sums ws) lim st from (sV_eq hv).symm, tb_put hnot (by rw [List.length_take]; omega), R.ok_bind, htk]
      exact ⟨_, rfl, rfl⟩
    · have hbh : (if c.c.isNone = true then (R.ok (some (0 : Int)) : R (Option Int)) else (R.bind (R.bind (R.ok c.c) getR) fun b => dgR (tb (sV (sums ws) lim) (M.take i)) b)) = .ok (behind (sV (sums ws) lim) c.c) := by
        cases ec : c.c with
        | none => rfl
        | some u =>
          have hu := chs_vs hv hc ec
          have hru := (hmem u).mpr (.next hr hc ec)
          have := hdp u hru (by omega)
          show dgR _ u = _
          rw [tb_get this]
          rfl
      simp only [R.ok_bind, R.ok_pu, R.er_bind, R.bad_bind, R.ok_map, finR_rt, seqF_nx, seqF_rt, R.bind_ok, R.bind_bind, decide_eq_true_eq, Bool.not_eq_true', decide_eq_false_iff_not, Bool.false_eq_true, if_true, if_false, ite_nx] at hbh ⊢
      rw [hbh, R.ok_bind]
      have ecv : cval (sV (sums ws) lim) c = (behind (sV (sums ws) lim) c.c).map (c.b + ·) := rfl
      rw [ecv]
      cases eb : behind (sV (sums ws) lim) c.c with
      | none =>
        simp only [R.ok_bind, R.ok_pu, R.er_bind, R.bad_bind, R.ok_map, finR_rt, seqF_nx, seqF_rt, R.bind_ok, R.bind_bind, decide_eq_true_eq, Bool.not_eq_true', decide_eq_false_iff_not, Bool.false_eq_true, if_true, if_false, ite_nx, Option.isSome_none]
        cases b <;> rfl
      | some y =>
        cases b with
        | none =>
          simp only [R.ok_bind, R.ok_pu, R.er_bind, R.bad_bind, R.ok_map, finR_rt, seqF_nx, seqF_rt, R.bind_ok, R.bind_bind, decide_eq_true_eq, Bool.not_eq_true', decide_eq_false_iff_not, Bool.false_eq_true, if_true, if_false, ite_nx, Option.isSome_some, Option.isNone_none, getR]
          rfl
        | some z =>
          simp only [R.ok_bind, R.ok_pu, R.er_bind, R.bad_bind, R.ok_map, finR_rt, seqF_nx, seqF_rt, R.bind_ok, R.bind_bind, decide_eq_true_eq, Bool.not_eq_true', decide_eq_false_iff_not, Bool.false_eq_true, if_true, if_false, ite_nx, Option.isSome_some, Option.isNone_some, getR]
          show _ = R.ok (Fl.nx (some (if c.b + y < z then c.b + y else z)))
          by_cases h : c.b + y < z
          · simp [h]
          · simp [h]
  · rw [hI, List.take_length, finR_rt]
end Kx

namespace Kx
open PySem PySem.Spec PyProof.Rows L2 Kr
open Enc (toD)
theorem choices_eq {ws : List Int} {lim : Nat} (hn : ws.length ≤ 16) (h1 : 1 ≤ ws.length) (hl1 : 1 ≤ lim) (hl : lim ≤ 16) {st : Stg} (hv : Vs ws.length lim st) : f_choices ws lim st = .ok (chs (sums ws) lim st) := by
  have hsm : ((sums ws).length : Int) - 1 = ws.length := by
    rw [sums_len]
    omega
  unfold f_choices b_choices
  simp only [R.ok_bind, R.ok_pu, R.er_bind, R.bad_bind, R.ok_map, finR_rt, seqF_nx, seqF_rt, R.bind_ok, R.bind_bind, decide_eq_true_eq, Bool.not_eq_true', decide_eq_false_iff_not, Bool.false_eq_true, if_true, if_false, ite_nx, rests_eq ws (by omega)]
  rw [choices_by_eq (sums ws) lim st (by rw [sums_len]; omega) hv.a0 hv.al (by omega) (by omega) ⟨hv.b0, by rw [hsm]; exact hv.bn⟩ hv.c1 (by have := hv.cn; omega)]
  simp only [R.ok_bind, R.ok_pu, R.er_bind, R.bad_bind, R.ok_map, finR_rt, seqF_nx, seqF_rt, R.bind_ok, R.bind_bind, decide_eq_true_eq, Bool.not_eq_true', decide_eq_false_iff_not, Bool.false_eq_true, if_true, if_false, ite_nx]
/-- a table that holds the values of the stages -/
theorem best_eq {ws : List Int} {lim : Nat} (hn : ws.length ≤ 16) (h1 : 1 ≤ ws.length) (hl1 : 1 ≤ lim) (hl : lim ≤ 16) {L : List Stg} (hL : ∀ s, s ∈ L ↔ Rch (sums ws) lim s) {st : Stg} (hr : Rch (sums ws) lim st) : f_best_choice ws lim (tb (sV (sums ws) lim) L) st = .ok ((bc (sums ws) lim st).map fun c => (c.a, c.c)) := by
  have hsm : ((sums ws).length : Int) - 1 = ws.length := by
    rw [sums_len]
    omega
  have hv := hr.vs (by omega) (by omega)
  unfold f_best_choice b_best_choice
  simp only [R.ok_bind, R.ok_pu, R.er_bind, R.bad_bind, R.ok_map, finR_rt, seqF_nx, seqF_rt, R.bind_ok, R.bind_bind, decide_eq_true_eq, Bool.not_eq_true', decide_eq_false_iff_not, Bool.false_eq_true, if_true, if_false, ite_nx]
  rw [choices_eq hn h1 hl1 hl (by rw [← hsm]; exact hv), R.ok_pu, R.ok_bind]
  rw [forR_fold (fun b c => if decide ((cval (sV (sums ws) lim) c).isSome = true ∧ cval (sV (sums ws) lim) c = sV (sums ws) lim st) = true then some (c.a, c.c) else b) _ _ fun b c hc => ?_]
  · rw [fold_lastR, finR_rt]
    rfl
  · have hbh : (if c.c.isNone = true then (R.ok (some (0 : Int)) : R (Option Int)) else (R.bind (R.bind (R.ok c.c) getR) fun b => dgR (tb (sV (sums ws) lim) L) b)) = .ok (behind (sV (sums ws) lim) c.c) := by
      cases ec : c.c with
      | none => rfl
      | some u =>
        show dgR _ u = _
        rw [tb_get ((hL u).mpr (.next hr hc ec))]
        rfl
    simp only [R.ok_bind, R.ok_pu, R.er_bind, R.bad_bind, R.ok_map, finR_rt, seqF_nx, seqF_rt, R.bind_ok, R.bind_bind, decide_eq_true_eq, Bool.not_eq_true', decide_eq_false_iff_not, Bool.false_eq_true, if_true, if_false, ite_nx] at hbh ⊢
    rw [hbh, R.ok_bind]
    have ecv : cval (sV (sums ws) lim) c = (behind (sV (sums ws) lim) c.c).map (c.b + ·) := rfl
    rw [ecv]
    cases eb : behind (sV (sums ws) lim) c.c with
    | none =>
      simp only [R.ok_bind, R.ok_pu, R.er_bind, R.bad_bind, R.ok_map, finR_rt, seqF_nx, seqF_rt, R.bind_ok, R.bind_bind, decide_eq_true_eq, Bool.not_eq_true', decide_eq_false_iff_not, Bool.false_eq_true, if_true, if_false, ite_nx, Option.isSome_none]
      simp
    | some y =>
      simp only [R.ok_bind, R.ok_pu, R.er_bind, R.bad_bind, R.ok_map, finR_rt, seqF_nx, seqF_rt, R.bind_ok, R.bind_bind, decide_eq_true_eq, Bool.not_eq_true', decide_eq_false_iff_not, Bool.false_eq_true, if_true, if_false, ite_nx, Option.isSome_some, getR]
      rw [tb_get ((hL st).mpr hr), R.ok_bind, eqR_io, R.ok_bind]
      simp only [Option.map_some, Option.isSome_some, true_and, decide_eq_true_eq]
theorem lengths_eq {ws : List Int} {lim : Nat} (hn : ws.length ≤ 16) (h1 : 1 ≤ ws.length) (hl1 : 1 ≤ lim) (hl : lim ≤ 16) {L : List Stg} (hL : ∀ s, s ∈ L ↔ Rch (sums ws) lim s) {v : Int} (hv : sV (sums ws) lim st0 = some v) :
    ∃ ls, f_lengths_by ws lim (tb (sV (sums ws) lim) L) = .ok ls ∧ ls.length = ws.length ∧ (rk ws).map (gW ls) = lnS (sums ws) lim st0 := by
  have hsm : ((sums ws).length : Int) - 1 = ws.length := by
    rw [sums_len]
    omega
  unfold f_lengths_by b_lengths_by
  simp only [R.ok_bind, R.ok_pu, R.er_bind, R.bad_bind, R.ok_map, finR_rt, seqF_nx, seqF_rt, R.bind_ok, R.bind_bind, decide_eq_true_eq, Bool.not_eq_true', decide_eq_false_iff_not, Bool.false_eq_true, if_true, if_false, ite_nx, ranks_eq ws (by omega)]
  rw [szR_ok (by simp), R.ok_bind, repR_one (0 : Int) (n := ws.length) (by omega), R.ok_bind]
  refine while_elim (P := fun r => ∃ ls : List Int, finR r = R.ok ls ∧ ls.length = ws.length ∧ (rk ws).map (gW ls) = lnS (sums ws) lim st0) (fun (m : Nat) (s : List Int × Option Stg) => m ≤ lim + 1 ∧ At ws lim (lnS (sums ws) lim st0) m s.1 s.2) (lim + 1) (by omega) ⟨Nat.zero_le _, At.first hv List.length_replicate⟩ (fun m s hI => hI.1) (fun m s hI => ?_) fun m s hI hc => ?_
  · obtain ⟨ls, o⟩ := s
    cases o with
    | none => exact .inl rfl
    | some st =>
      right
      refine ⟨rfl, ?_⟩
      obtain ⟨hm, hA⟩ := hI
      have hA0 := hA
      obtain ⟨q1, q2, q3, ⟨w, q4⟩, q5⟩ := hA
      have hvs := q3.vs (by omega) (by omega)
      obtain ⟨c, w1, w2, w3⟩ := bc_some hvs q4
      have hca : 0 ≤ c.a ∧ st.b + c.a ≤ ws.length := by
        cases ec : c.c with
        | none => have := chs_none w2 ec; omega
        | some u => have := chs_some w2 ec; omega
      have hb0 := hvs.b0
      simp only [R.ok_bind, R.ok_pu, R.er_bind, R.bad_bind, R.ok_map, finR_rt, seqF_nx, seqF_rt, R.bind_ok, R.bind_bind, decide_eq_true_eq, Bool.not_eq_true', decide_eq_false_iff_not, Bool.false_eq_true, if_true, if_false, ite_nx, getR, best_eq hn h1 hl1 hl hL q3, w1, Option.map_some]
      rw [rng2_ok (by omega), R.ok_bind]
      refine forR_elim (P := fun r => ∃ s' : List Int × Option Stg, r = R.ok (Fl.nx s') ∧ m + 1 ≤ lim + 1 ∧ At ws lim (lnS (sums ws) lim st0) (m + 1) s'.1 s'.2) (fun j (t : List Int) => t.length = ws.length ∧ ((rk ws).map (gW t)).take (st.b.toNat + j) = ((rk ws).map (gW ls)).take st.b.toNat ++ List.replicate j st.a) ?_ (fun j hj t hI => ?_) (fun t hI => ?_)
      · exact ⟨hA0.1, by rw [Nat.add_zero, List.replicate_zero, List.append_nil]⟩
      · rw [seqI_at hj]
        rw [seqI_len] at hj
        have hi : st.b.toNat + j < (rk ws).length := by rw [rk_len]; omega
        rw [idxR_of (i := st.b + (j : Int)) (a := (rk ws)[st.b.toNat + j]) (by omega) (by
          rw [show (st.b + (j : Int)).toNat = st.b.toNat + j by omega]
          exact List.getElem?_eq_getElem hi), R.ok_bind]
        have hk := (rk_mem ws _).mp (List.getElem_mem hi)
        rw [setR_ok hk.1 (by rw [hI.1]; exact hk.2), R.ok_bind]
        refine ⟨_, rfl, by rw [List.length_set, hI.1], ?_⟩
        rw [rk_set hI.1 hi, ← Nat.add_assoc, take_set (by rw [List.length_map]; exact hi), hI.2, List.append_assoc, List.replicate_succ']
      · rw [seqI_len, show (st.b + c.a - st.b).toNat = c.a.toNat by omega] at hI
        have hal := hvs.al
        exact ⟨_, rfl, by omega, At.step h1 (by omega) hA0 w1 hI.1 hI.2⟩
  · obtain ⟨ls, o⟩ := s
    cases o with
    | some st => exact nomatch hc
    | none => exact ⟨ls, finR_rt _, hI.2.1, hI.2.2⟩
/-- the least code -/
theorem least_eq {ws : List Int} {lim : Nat} (hn : ws.length ≤ 16) (h1 : 1 ≤ ws.length) (hl1 : 1 ≤ lim) (hl : lim ≤ 16) {v : Int} (hv : sV (sums ws) lim st0 = some v) :
    ∃ ls, f_least_lengths ws lim = .ok ls ∧ ls.length = ws.length ∧ (rk ws).map (gW ls) = lnS (sums ws) lim st0 := by
  obtain ⟨L, e1, e2, e3, e4⟩ := values_eq (ws := ws) rfl h1 hn hl1 hl
  obtain ⟨ls, f1, f2, f3⟩ := lengths_eq hn h1 hl1 hl e4 hv
  refine ⟨ls, ?_, f2, f3⟩
  unfold f_least_lengths b_least_lengths
  simp only [R.ok_bind, R.ok_pu, R.er_bind, R.bad_bind, R.ok_map, finR_rt, seqF_nx, seqF_rt, R.bind_ok, R.bind_bind, decide_eq_true_eq, Bool.not_eq_true', decide_eq_false_iff_not, Bool.false_eq_true, if_true, if_false, ite_nx, e1, f1]
end Kx

/-! KrPa: packages: plain mathematics. -/
namespace Kr
open PySem PySem.Spec PyProof.Rows L2
open Enc (toD)
variable {α β : Type}
/-! ### lists -/
theorem sub_perm {a b : List α} (h : a.Perm b) : ∀ {c : List α}, c.Sublist a → ∃ d : List α, d.Sublist b ∧ d.Perm c := by
  induction h with
  | nil => intro c hc; exact ⟨c, hc, .refl _⟩
  | cons x h ih =>
    intro c hc
    cases hc with
    | cons _ q =>
      obtain ⟨d, d1, d2⟩ := ih q
      exact ⟨d, .cons _ d1, d2⟩
    | cons_cons _ q =>
      obtain ⟨d, d1, d2⟩ := ih q
      exact ⟨_, .cons_cons _ d1, .cons _ d2⟩
  | swap x y l =>
    intro c hc
    cases hc with
    | cons _ q =>
      cases q with
      | cons _ q => exact ⟨c, .cons _ (.cons _ q), .refl _⟩
      | cons_cons _ q => exact ⟨_, .cons_cons _ (.cons _ q), .refl _⟩
    | cons_cons _ q =>
      cases q with
      | cons _ q => exact ⟨_, .cons _ (.cons_cons _ q), .refl _⟩
      | cons_cons _ q => exact ⟨_, .cons_cons _ (.cons_cons _ q), .swap _ _ _⟩
  | trans _ _ ih1 ih2 =>
    intro c hc
    obtain ⟨d, d1, d2⟩ := ih1 hc
    obtain ⟨e, e1, e2⟩ := ih2 d1
    exact ⟨e, e1, e2.trans d2⟩
theorem map_perm {f : α → β} : ∀ {a : List α} {b : List β}, (a.map f).Perm b → ∃ c : List α, c.Perm a ∧ c.map f = b := by
  intro a b h
  generalize e : a.map f = m at h
  induction h generalizing a with
  | nil =>
    cases a with
    | nil => exact ⟨[], .refl _, rfl⟩
    | cons x r => cases e
  | cons x h ih =>
    cases a with
    | nil => cases e
    | cons y r =>
      injection e with e1 e2
      obtain ⟨c, c1, c2⟩ := ih e2
      exact ⟨y :: c, .cons _ c1, by rw [List.map_cons, e1, c2]⟩
  | swap x y l =>
    cases a with
    | nil => cases e
    | cons p r =>
      cases r with
      | nil => cases e
      | cons q r =>
        injection e with e1 e2
        injection e2 with e2 e3
        exact ⟨q :: p :: r, .swap _ _ _, by rw [List.map_cons, List.map_cons, e1, e2, e3]⟩
  | trans _ _ ih1 ih2 =>
    obtain ⟨c, c1, c2⟩ := ih1 e
    obtain ⟨d, d1, d2⟩ := ih2 c2
    exact ⟨d, d1.trans c1, d2⟩
theorem perm_sum {a b : List Int} (h : a.Perm b) : a.sum = b.sum := by
  induction h with
  | nil => rfl
  | cons x h ih => rw [List.sum_cons, List.sum_cons, ih]
  | swap x y l =>
    rw [List.sum_cons, List.sum_cons, List.sum_cons, List.sum_cons]
    omega
  | trans _ _ h1 h2 => exact h1.trans h2
theorem sum_app (a b : List Int) : (a ++ b).sum = a.sum + b.sum := List.sum_append
/-! ### items -/
abbrev It := Int × List Int
theorem leD_it {p q : It} (h : leD p q = true) : p.1 ≤ q.1 := by
  have h : (!PySem.W.dataLt (.tuple [.int q.1, .list (Dt.pyA (q.2.map toD))]) (.tuple [.int p.1, .list (Dt.pyA (p.2.map toD))])) = true := h
  rw [PySem.W.dataLt_tuple, PySem.W.dataLt_cons (by simp [PySem.W.alike]), PySem.W.dataLt_int] at h
  simp only [PyData.eqv, beq_iff_eq] at h
  by_cases e : q.1 = p.1
  · omega
  · rw [if_neg e] at h
    simp at h
    omega
def srt (l : List It) : List It := l.mergeSort leD
theorem srt_perm (l : List It) : (srt l).Perm l := List.mergeSort_perm l leD
def Up (l : List It) : Prop := l.Pairwise fun a b => a.1 ≤ b.1
theorem srt_up (l : List It) : Up (srt l) := (List.pairwise_mergeSort leD_tr leD_tot l).imp fun h => leD_it h
theorem srt_srt (l : List It) : srt (srt l) = srt l := List.mergeSort_of_pairwise (List.pairwise_mergeSort leD_tr leD_tot l)
def prs : List It → List It
  | a :: b :: r => (a.1 + b.1, a.2 ++ b.2) :: prs r
  | _ => []
def wt (l : List It) : Int := (l.map fun p => p.1).sum
def fl (l : List It) : List Int := l.flatMap fun p => p.2
def ct (i : Int) (l : List It) : Nat := (fl l).count i
theorem wt_app (a b : List It) : wt (a ++ b) = wt a + wt b := by
  unfold wt
  rw [List.map_append, sum_app]
theorem wt_cons (a : It) (b : List It) : wt (a :: b) = a.1 + wt b := by
  unfold wt
  rw [List.map_cons, List.sum_cons]
theorem wt_perm {a b : List It} (h : a.Perm b) : wt a = wt b := perm_sum (h.map _)
theorem fl_app (a b : List It) : fl (a ++ b) = fl a ++ fl b := List.flatMap_append
theorem fl_cons (a : It) (b : List It) : fl (a :: b) = a.2 ++ fl b := List.flatMap_cons
theorem fl_perm {a b : List It} (h : a.Perm b) : (fl a).Perm (fl b) := by
  induction h with
  | nil => exact .refl _
  | cons x h ih =>
    rw [fl_cons, fl_cons]
    exact ih.append_left _
  | swap x y l =>
    rw [fl_cons, fl_cons, fl_cons, fl_cons, ← List.append_assoc, ← List.append_assoc]
    exact List.perm_append_comm.append_right _
  | trans _ _ h1 h2 => exact h1.trans h2
theorem ct_perm {a b : List It} (h : a.Perm b) (i : Int) : ct i a = ct i b := (fl_perm h).count_eq i
theorem ct_app (i : Int) (a b : List It) : ct i (a ++ b) = ct i a + ct i b := by
  unfold ct
  rw [fl_app, List.count_append]
theorem fl_sub {a b : List It} (h : a.Sublist b) : (fl a).Sublist (fl b) := by
  induction h with
  | slnil => exact .slnil
  | cons x h ih =>
    rw [fl_cons]
    exact List.sublist_append_of_sublist_right ih
  | cons_cons x h ih =>
    rw [fl_cons, fl_cons]
    exact (List.Sublist.refl _).append ih
theorem prs_even : ∀ (J : List It) (m : Nat), J.length = 2 * m → wt (prs J) = wt J ∧ fl (prs J) = fl J ∧ (prs J).length = m
  | [], m, h => ⟨rfl, rfl, by simp at h; show 0 = m; omega⟩
  | [x], m, h => by simp at h; omega
  | a :: b :: r, m, h => by
    obtain ⟨h1, h2, h3⟩ := prs_even r (m - 1) (by simp at h; omega)
    refine ⟨?_, ?_, ?_⟩
    · show wt ((a.1 + b.1, a.2 ++ b.2) :: prs r) = _
      rw [wt_cons, wt_cons, wt_cons, h1]
      show a.1 + b.1 + _ = _
      omega
    · show fl ((a.1 + b.1, a.2 ++ b.2) :: prs r) = _
      rw [fl_cons, fl_cons, fl_cons, h2, List.append_assoc]
    · show (prs r).length + 1 = m
      simp at h
      omega
theorem prs_take : ∀ (I : List It) (p : Nat), prs (I.take (2 * p)) = (prs I).take p
  | I, 0 => by
    rw [Nat.mul_zero, List.take_zero, List.take_zero]
    rfl
  | [], p + 1 => by
    rw [List.take_nil]
    rfl
  | [x], p + 1 => by
    rw [show 2 * (p + 1) = 2 * p + 1 + 1 by omega, List.take_succ_cons, List.take_nil]
    rfl
  | a :: b :: r, p + 1 => by
    rw [show 2 * (p + 1) = 2 * p + 1 + 1 by omega, List.take_succ_cons, List.take_succ_cons]
    show _ :: prs (r.take (2 * p)) = ((a.1 + b.1, a.2 ++ b.2) :: prs r).take (p + 1)
    rw [List.take_succ_cons, prs_take r p]
theorem prs_len : ∀ I : List It, (prs I).length = I.length / 2
  | [] => rfl
  | [x] => by
    show 0 = 1 / 2
    decide
  | a :: b :: r => by
    show (prs r).length + 1 = (r.length + 1 + 1) / 2
    rw [prs_len r]
    omega
theorem prs_sub : ∀ (I t : List It), t.Sublist (prs I) → ∃ J : List It, J.Sublist I ∧ t = prs J ∧ J.length = 2 * t.length
  | [], t, h => by
    cases h
    exact ⟨[], .slnil, rfl, rfl⟩
  | [x], t, h => by
    cases h
    exact ⟨[], List.nil_sublist _, rfl, rfl⟩
  | a :: b :: r, t, h => by
    have h : t.Sublist ((a.1 + b.1, a.2 ++ b.2) :: prs r) := h
    cases h with
    | cons _ q =>
      obtain ⟨J, j1, j2, j3⟩ := prs_sub r t q
      exact ⟨J, .cons _ (.cons _ j1), j2, j3⟩
    | cons_cons _ q =>
      rename_i t'
      obtain ⟨J, j1, j2, j3⟩ := prs_sub r t' q
      refine ⟨a :: b :: J, .cons_cons _ (.cons_cons _ j1), by rw [j2]; rfl, ?_⟩
      simp only [List.length_cons]
      omega
/-- the first of a sorted list weigh the least -/
theorem take_least : ∀ {s t : List It}, t.Sublist s → Up s → wt (s.take t.length) ≤ wt t := by
  intro s t h
  induction h with
  | slnil => intro _; exact Int.le_refl _
  | cons a h ih =>
    rename_i t s
    intro hp
    obtain ⟨hp1, hp2⟩ := List.pairwise_cons.mp hp
    have ih := ih hp2
    cases t with
    | nil => exact Int.le_refl _
    | cons x t =>
      have hl := h.length_le
      rw [List.length_cons] at hl ih ⊢
      rw [List.take_succ_cons, wt_cons]
      have hlt : t.length < s.length := by omega
      rw [List.take_add_one, List.getElem?_eq_getElem hlt, wt_app] at ih
      have := hp1 _ (List.getElem_mem hlt)
      have e : wt (some s[t.length]).toList = s[t.length].1 := by
        show wt [s[t.length]] = _
        rw [wt_cons]
        show _ + 0 = _
        omega
      rw [e] at ih
      omega
  | cons_cons a h ih =>
    intro hp
    obtain ⟨hp1, hp2⟩ := List.pairwise_cons.mp hp
    have ih := ih hp2
    rw [List.length_cons, List.take_succ_cons, wt_cons, wt_cons]
    omega
theorem wt_nn {l : List It} (h : ∀ p ∈ l, 0 ≤ p.1) : 0 ≤ wt l := smI_nn h
theorem wt_take_mono {l : List It} (h : ∀ p ∈ l, 0 ≤ p.1) {m k : Nat} (hm : m ≤ k) : wt (l.take m) ≤ wt (l.take k) := by
  have e : l.take k = l.take m ++ (l.take k).drop m := by
    have := List.take_append_drop m (l.take k)
    rw [List.take_take, Nat.min_eq_left hm] at this
    exact this.symm
  rw [e, wt_app]
  have : 0 ≤ wt ((l.take k).drop m) := wt_nn fun p hp => h p (List.mem_of_mem_take (List.mem_of_mem_drop hp))
  omega
/-! ### counting -/
theorem pick_sum (g : Int → Int) (s : Int) : ∀ l : List Int, l.Nodup → s ∈ l → (l.map fun i => if s = i then g i else 0).sum = g s
  | [], _, h => nomatch h
  | x :: l, hn, h => by
    obtain ⟨h1, h2⟩ := List.nodup_cons.mp hn
    rw [List.map_cons, List.sum_cons]
    by_cases e : s = x
    · subst e
      rw [if_pos rfl, smI_z fun i hi => if_neg (fun z : s = i => h1 (by rw [z]; exact hi))]
      omega
    · rw [if_neg e, pick_sum g s l h2 ((List.mem_cons.mp h).resolve_left e)]
      omega
theorem count_sum (g : Int → Int) {l : List Int} (hn : l.Nodup) : ∀ F : List Int, (∀ s ∈ F, s ∈ l) → (l.map fun i => g i * (F.count i : Int)).sum = (F.map g).sum
  | [], _ => by
    rw [List.map_nil]
    exact smI_z fun i _ => by simp
  | s :: F, h => by
    rw [List.map_cons, List.sum_cons, ← count_sum g hn F fun x hx => h x (List.mem_cons_of_mem _ hx), ← pick_sum g s l hn (h s List.mem_cons_self), smI_add]
    refine smI_eq fun i _ => ?_
    rw [List.count_cons]
    by_cases e : s = i
    · rw [if_pos e, e, beq_self_eq_true, if_pos rfl]
      have : ((List.count i F + 1 : Nat) : Int) = (List.count i F : Int) + 1 := by omega
      rw [this, Int.mul_add]
      omega
    · have : (s == i) = false := beq_false_of_ne e
      rw [if_neg e, this]
      simp
theorem filt_sum (p : Int → Bool) (g : Int → Int) : ∀ l : List Int, ((l.filter p).map g).sum = (l.map fun i => if p i = true then g i else 0).sum
  | [] => rfl
  | x :: l => by
    rw [List.filter_cons, List.map_cons, List.sum_cons, ← filt_sum p g l]
    split
    · rw [List.map_cons, List.sum_cons]
    · omega
theorem filt_len (p : Int → Bool) (l : List Int) : ((l.filter p).length : Int) = (l.map fun i => if p i = true then (1 : Int) else 0).sum := by
  rw [← filt_sum p (fun _ => 1) l, smI_one]
end Kr

/-! KrPb: the stages of packages, what the first of them weigh. -/
namespace Kr
open PySem PySem.Spec PyProof.Rows L2
open Enc (toD)
def pst (cs : List It) : Nat → List It
  | 0 => []
  | k + 1 => srt (cs ++ prs (pst cs k))
def coin (w : Int → Int) (i : Int) : It := (w i, [i])
/-- the coins of a level -/
structure Cn (w : Int → Int) (n : Nat) (cs : List It) : Prop where
  pm : cs.Perm ((seqI 0 n).map (coin w))
  nn : ∀ i ∈ seqI 0 n, 0 ≤ w i
theorem fl_coins (w : Int → Int) : ∀ l : List Int, fl (l.map (coin w)) = l
  | [] => rfl
  | x :: l => by
    rw [List.map_cons, fl_cons, fl_coins w l]
    rfl
theorem wt_coins (w : Int → Int) : ∀ l : List Int, wt (l.map (coin w)) = (l.map w).sum
  | [] => rfl
  | x :: l => by
    rw [List.map_cons, wt_cons, wt_coins w l, List.map_cons, List.sum_cons]
    rfl
theorem fl_one : ∀ t : List It, (∀ p ∈ t, p.2.length = 1) → (fl t).length = t.length
  | [], _ => rfl
  | p :: t, h => by
    rw [fl_cons, List.length_append, fl_one t fun q hq => h q (List.mem_cons_of_mem _ hq), h p List.mem_cons_self, List.length_cons]
    omega
theorem prs_all {P : It → Prop} (hj : ∀ a b : It, P a → P b → P (a.1 + b.1, a.2 ++ b.2)) : ∀ I : List It, (∀ p ∈ I, P p) → ∀ p ∈ prs I, P p
  | [], _, p, h => nomatch h
  | [x], _, p, h => nomatch h
  | a :: b :: r, h, p, hp => by
    have hp : p ∈ (a.1 + b.1, a.2 ++ b.2) :: prs r := hp
    rcases List.mem_cons.mp hp with rfl | hp
    · exact hj a b (h a List.mem_cons_self) (h b (List.mem_cons_of_mem _ List.mem_cons_self))
    · exact prs_all hj r (fun q hq => h q (List.mem_cons_of_mem _ (List.mem_cons_of_mem _ hq))) p hp
theorem two_pow_pos (k : Nat) : (1 : Int) ≤ 2 ^ k := by
  have : (0 : Int) < 2 ^ k := Int.pow_pos (by decide)
  omega
theorem two_pow_le {a b : Nat} (h : a ≤ b) : (2 : Int) ^ a ≤ 2 ^ b := by
  have : 2 ^ a ≤ 2 ^ b := Nat.pow_le_pow_right (by decide) h
  exact_mod_cast this
section
variable {w : Int → Int} {n : Nat} {cs : List It}
theorem Cn.mem (h : Cn w n cs) {p : It} (hp : p ∈ cs) : ∃ i ∈ seqI 0 n, p = coin w i := by
  obtain ⟨i, hi, e⟩ := List.mem_map.mp (h.pm.mem_iff.mp hp)
  exact ⟨i, hi, e.symm⟩
theorem Cn.len (h : Cn w n cs) : cs.length = n := by rw [h.pm.length_eq, List.length_map, seqI_len]
theorem Cn.fl (h : Cn w n cs) : (fl cs).Perm (seqI 0 n) := by
  have := fl_perm h.pm
  rwa [fl_coins] at this
theorem Cn.nd (h : Cn w n cs) : (Kr.fl cs).Nodup := h.fl.nodup_iff.mpr (seqI_nodup 0 n)
theorem Cn.sub (h : Cn w n cs) {t : List It} (s : t.Sublist cs) : (∀ i, ct i t ≤ 1) ∧ (Kr.fl t).length = t.length ∧ ∀ x ∈ Kr.fl t, x ∈ seqI 0 n := by
  refine ⟨fun i => ?_, fl_one t fun p hp => ?_, fun x hx => h.fl.mem_iff.mp ((fl_sub s).subset hx)⟩
  · exact List.nodup_iff_count.mp ((fl_sub s).nodup h.nd) i
  · obtain ⟨i, _, rfl⟩ := h.mem (s.subset hp)
    rfl
/-- what an item is -/
def ItOk (w : Int → Int) (n : Nat) (p : It) : Prop := 0 ≤ p.1 ∧ p.1 = (p.2.map w).sum ∧ ∀ s ∈ p.2, s ∈ seqI 0 n
theorem pst_items (h : Cn w n cs) : ∀ k, ∀ p ∈ pst cs k, ItOk w n p
  | 0, p, hp => nomatch hp
  | k + 1, p, hp => by
    rcases List.mem_append.mp ((srt_perm _).mem_iff.mp hp) with hp | hp
    · obtain ⟨i, hi, rfl⟩ := h.mem hp
      refine ⟨h.nn i hi, ?_, fun s hs => ?_⟩
      · show w i = [w i].sum
        simp
      · rw [List.mem_singleton.mp hs]
        exact hi
    · refine prs_all (fun a b ha hb => ⟨?_, ?_, fun s hs => ?_⟩) _ (pst_items h k) p hp
      · have := ha.1
        have := hb.1
        show 0 ≤ a.1 + b.1
        omega
      · show a.1 + b.1 = ((a.2 ++ b.2).map w).sum
        rw [List.map_append, sum_app, ← ha.2.1, ← hb.2.1]
      · rcases List.mem_append.mp hs with hs | hs
        · exact ha.2.2 s hs
        · exact hb.2.2 s hs
theorem pst_len (h : Cn w n cs) : ∀ k : Nat, 2 * (n : Int) * 2 ^ k ≤ ((pst cs k).length : Int) * 2 ^ k + 2 * n + 2 ^ k - 1
  | 0 => by
    show 2 * (n : Int) * 1 ≤ 0 * 1 + 2 * n + 1 - 1
    omega
  | k + 1 => by
    have ih := pst_len h k
    have e : (pst cs (k + 1)).length = n + (pst cs k).length / 2 := by
      show (srt (cs ++ prs (pst cs k))).length = _
      rw [(srt_perm _).length_eq, List.length_append, h.len, prs_len]
    rw [e, Int.pow_succ]
    generalize (pst cs k).length = q at ih ⊢
    have hP := two_pow_pos k
    generalize (2 : Int) ^ k = P at ih hP ⊢
    obtain ⟨j, hj⟩ : ∃ j, q / 2 = j := ⟨_, rfl⟩
    rw [hj]
    have h2 : (q : Int) * P ≤ (2 * (j : Int) + 1) * P := Int.mul_le_mul_of_nonneg_right (by omega) (by omega)
    have e1 : (2 * (j : Int) + 1) * P = 2 * ((j : Int) * P) + P := by grind
    have e2 : 2 * (n : Int) * (P * 2) = 4 * ((n : Int) * P) := by grind
    have e3 : ((n + j : Nat) : Int) * (P * 2) = 2 * ((n : Int) * P) + 2 * ((j : Int) * P) := by
      rw [Int.natCast_add]
      grind
    have e4 : 2 * (n : Int) * P = 2 * ((n : Int) * P) := by grind
    omega
/-- any items of a stage: how much they are worth by their symbols -/
theorem pst_upper (h : Cn w n cs) : ∀ (k : Nat) (t : List It), t.Sublist (pst cs k) → (∀ i, ct i t ≤ k) ∧ (t.length : Int) * 2 ^ k + 2 * ((seqI 0 n).map fun i => (2 : Int) ^ (k - ct i t)).sum ≤ 2 * (n : Int) * 2 ^ k
  | 0, t, s => by
    have : t = [] := by
      have := s.length_le
      exact List.length_eq_zero_iff.mp (Nat.le_zero.mp this)
    subst this
    refine ⟨fun i => Nat.le_refl _, ?_⟩
    have e : ((seqI 0 n).map fun i => (2 : Int) ^ (0 - ct i [])).sum = n := by
      rw [show ((seqI 0 n).map fun i => (2 : Int) ^ (0 - ct i [])) = (seqI 0 n).map fun _ => (1 : Int) from List.map_congr_left fun i _ => by rw [Nat.zero_sub]; rfl, smI_one, seqI_len]
    rw [e]
    show 0 * 1 + 2 * (n : Int) ≤ 2 * (n : Int) * 1
    omega
  | k + 1, t, s => by
    obtain ⟨d, d1, d2⟩ := sub_perm (srt_perm _) s
    obtain ⟨t1, t2, rfl, s1, s2⟩ := List.sublist_append_iff.mp d1
    obtain ⟨J, j1, rfl, j3⟩ := prs_sub _ _ s2
    obtain ⟨e1, e2, e3⟩ := prs_even J (prs J).length j3
    obtain ⟨a1, a2⟩ := pst_upper h k J j1
    obtain ⟨c1, c2, c3⟩ := h.sub s1
    have hct : ∀ i, ct i t = ct i t1 + ct i J := fun i => by
      rw [← ct_perm d2 i, ct_app]
      congr 1
      unfold ct
      rw [e2]
    have hlen : t.length = t1.length + (prs J).length := by rw [← d2.length_eq, List.length_append]
    refine ⟨fun i => by have := hct i; have := c1 i; have := a1 i; omega, ?_⟩
    have hA : ((seqI 0 n).map fun i => (ct i t1 : Int)).sum = t1.length := by
      have := count_sum (fun _ => 1) (seqI_nodup 0 n) (fl t1) c3
      rw [smI_one, c2] at this
      rw [← this]
      exact smI_eq fun i _ => by rw [Int.one_mul]; rfl
    have pt : ((seqI 0 n).map fun i => (ct i t1 : Int) * 2 ^ (k + 1) + 2 ^ (k + 1 - ct i t) * 2).sum ≤ ((seqI 0 n).map fun i => 2 ^ (k - ct i J) * 2 + 1 * 2 ^ (k + 1)).sum := by
      refine smI_le fun i _ => ?_
      rw [hct i]
      have h1 := c1 i
      have h2 := a1 i
      have hp := two_pow_pos (k - ct i J)
      have hm := two_pow_le (show k - ct i J ≤ k by omega)
      rcases Nat.le_one_iff_eq_zero_or_eq_one.mp h1 with q | q
      · rw [q, show k + 1 - (0 + ct i J) = (k - ct i J) + 1 by omega, Int.pow_succ, Int.pow_succ]
        show (0 : Int) * _ + _ ≤ _
        omega
      · rw [q, show k + 1 - (1 + ct i J) = k - ct i J by omega]
        show (1 : Int) * _ + _ ≤ _
        omega
    rw [← smI_add, ← smI_add, smI_mul, smI_mul, smI_mul, smI_mul, hA, smI_one, seqI_len] at pt
    rw [hlen]
    rw [j3] at a2
    generalize ((seqI 0 n).map fun i => (2 : Int) ^ (k + 1 - ct i t)).sum = X at pt ⊢
    generalize ((seqI 0 n).map fun i => (2 : Int) ^ (k - ct i J)).sum = Y at pt a2
    rw [Int.pow_succ] at pt ⊢
    generalize (2 : Int) ^ k = P at pt a2 ⊢
    generalize (prs J).length = B at a2 ⊢
    generalize t1.length = A at pt ⊢
    rw [Int.natCast_add]
    rw [Int.natCast_mul] at a2
    have q1 : ((A : Int) + B) * (P * 2) = 2 * ((A : Int) * P) + 2 * ((B : Int) * P) := by grind
    have q2 : 2 * (n : Int) * (P * 2) = 4 * ((n : Int) * P) := by grind
    have q3 : (A : Int) * (P * 2) = 2 * ((A : Int) * P) := by grind
    have q4 : (n : Int) * (P * 2) = 2 * ((n : Int) * P) := by grind
    have q5 : ((2 : Nat) : Int) * (B : Int) * P = 2 * ((B : Int) * P) := by
      show (2 : Int) * (B : Int) * P = _
      grind
    have q6 : 2 * (n : Int) * P = 2 * ((n : Int) * P) := by grind
    omega
/-- no code's coins weigh less than the first items -/
theorem pst_lower (h : Cn w n cs) : ∀ (k : Nat) (c : Int → Nat) (m : Nat), (∀ i ∈ seqI 0 n, c i ≤ k) → (m : Int) * 2 ^ k + 2 * ((seqI 0 n).map fun i => (2 : Int) ^ (k - c i)).sum ≤ 2 * (n : Int) * 2 ^ k → wt ((pst cs k).take m) ≤ ((seqI 0 n).map fun i => w i * (c i : Int)).sum
  | 0, c, m, hc, hm => by
    have e : ((seqI 0 n).map fun i => w i * (c i : Int)).sum = 0 := smI_z fun i hi => by
      have := hc i hi
      rw [show c i = 0 by omega]
      exact Int.mul_zero _
    rw [e]
    show wt (List.take m []) ≤ 0
    rw [List.take_nil]
    exact Int.le_refl _
  | k + 1, c, m, hc, hm => by
    obtain ⟨t1, s1, p1⟩ := sub_perm h.pm.symm (show (((seqI 0 n).filter fun i => decide (1 ≤ c i)).map (coin w)).Sublist ((seqI 0 n).map (coin w)) from List.filter_sublist.map _)
    have hw1 : wt t1 = ((seqI 0 n).map fun i => if decide (1 ≤ c i) = true then w i else 0).sum := by
      rw [wt_perm p1, wt_coins, filt_sum]
    have hl1 : (t1.length : Int) = ((seqI 0 n).map fun i => if decide (1 ≤ c i) = true then (1 : Int) else 0).sum := by
      rw [p1.length_eq, List.length_map, filt_len]
    have hX : ((seqI 0 n).map fun i => (2 : Int) ^ (k + 1 - c i) + (if decide (1 ≤ c i) = true then (1 : Int) else 0) * 2 ^ k).sum = ((seqI 0 n).map fun i => (2 : Int) ^ (k - (c i - 1)) + 1 * 2 ^ k).sum := smI_eq fun i hi => by
      have := hc i hi
      by_cases q : 1 ≤ c i
      · rw [decide_eq_true q, if_pos rfl, show k + 1 - c i = k - (c i - 1) by omega]
      · rw [decide_eq_false q, if_neg Bool.false_ne_true, show k + 1 - c i = k + 1 by omega, show k - (c i - 1) = k by omega, Int.pow_succ]
        omega
    rw [← smI_add, ← smI_add, smI_mul, smI_mul, ← hl1, smI_one, seqI_len] at hX
    have hY1 : (n : Int) ≤ ((seqI 0 n).map fun i => (2 : Int) ^ (k - (c i - 1))).sum := by
      have := smI_le (f := fun _ => (1 : Int)) (g := fun i => (2 : Int) ^ (k - (c i - 1))) (xs := seqI 0 n) fun i _ => two_pow_pos _
      rw [smI_one, seqI_len] at this
      exact this
    have hY2 : ((seqI 0 n).map fun i => (2 : Int) ^ (k - (c i - 1))).sum ≤ (n : Int) * 2 ^ k := by
      have := smI_le (f := fun i => (2 : Int) ^ (k - (c i - 1))) (g := fun _ => 1 * 2 ^ k) (xs := seqI 0 n) fun i _ => by rw [Int.one_mul]; exact two_pow_le (by omega)
      rw [smI_mul, smI_one, seqI_len] at this
      exact this
    have hlen := pst_len h k
    obtain ⟨a, ha⟩ : ∃ a, t1.length = a := ⟨_, rfl⟩
    rw [ha] at hX
    have key : ((2 * (m - a) : Nat) : Int) * 2 ^ k + 2 * ((seqI 0 n).map fun i => (2 : Int) ^ (k - (c i - 1))).sum ≤ 2 * (n : Int) * 2 ^ k ∧ 2 * (m - a) ≤ (pst cs k).length := by
      generalize ((seqI 0 n).map fun i => (2 : Int) ^ (k - (c i - 1))).sum = Y at hX hY1 hY2 ⊢
      generalize ((seqI 0 n).map fun i => (2 : Int) ^ (k + 1 - c i)).sum = X at hX hm
      rw [Int.pow_succ] at hm
      have hP := two_pow_pos k
      generalize (2 : Int) ^ k = P at hX hY1 hY2 hm hP hlen ⊢
      generalize (pst cs k).length = q at hlen ⊢
      have q1 : (m : Int) * (P * 2) = 2 * ((m : Int) * P) := by grind
      have q2 : 2 * (n : Int) * (P * 2) = 4 * ((n : Int) * P) := by grind
      have q3 : 2 * (n : Int) * P = 2 * ((n : Int) * P) := by grind
      obtain ⟨p, hp⟩ : ∃ p, m - a = p := ⟨_, rfl⟩
      rw [hp]
      have q4 : ((2 * p : Nat) : Int) * P = 2 * ((p : Int) * P) := by
        rw [Int.natCast_mul]
        show (2 : Int) * (p : Int) * P = _
        grind
      have first : ((2 * p : Nat) : Int) * P + 2 * Y ≤ 2 * (n : Int) * P := by
        by_cases hma : a ≤ m
        · have q5 : (p : Int) * P = (m : Int) * P - (a : Int) * P := by
            rw [← Int.sub_mul]
            congr 1
            omega
          omega
        · have : p = 0 := by omega
          subst this
          show 0 * P + 2 * Y ≤ _
          omega
      refine ⟨first, ?_⟩
      rcases Nat.lt_or_ge q (2 * p) with hlt | hge
      · have : ((q : Int) + 1) * P ≤ ((2 * p : Nat) : Int) * P := Int.mul_le_mul_of_nonneg_right (by omega) (by omega)
        have q6 : ((q : Int) + 1) * P = (q : Int) * P + P := by grind
        omega
      · exact hge
    obtain ⟨k1, k2⟩ := key
    obtain ⟨p, hp⟩ : ∃ p, m - a = p := ⟨_, rfl⟩
    rw [hp] at k1 k2
    have ih := pst_lower h k (fun i => c i - 1) (2 * p) (fun i hi => by have := hc i hi; show c i - 1 ≤ k; omega) k1
    have hlt : ((pst cs k).take (2 * p)).length = 2 * p := by
      rw [List.length_take]
      omega
    obtain ⟨e1, _, e3⟩ := prs_even _ p hlt
    rw [prs_take] at e1 e3
    obtain ⟨d, d1, d2⟩ := sub_perm (srt_perm (cs ++ prs (pst cs k))).symm (s1.append (List.take_sublist p (prs (pst cs k))))
    have hdl : d.length = a + p := by rw [d2.length_eq, List.length_append, ha, e3]
    have tl := take_least d1 (srt_up _)
    rw [wt_perm d2, wt_app, e1, hw1, hdl] at tl
    have mono : wt ((pst cs (k + 1)).take m) ≤ wt ((pst cs (k + 1)).take (a + p)) := wt_take_mono (fun q hq => (pst_items h _ q hq).1) (by omega)
    have tot : ((seqI 0 n).map fun i => (if decide (1 ≤ c i) = true then w i else 0) + w i * ((c i - 1 : Nat) : Int)).sum = ((seqI 0 n).map fun i => w i * (c i : Int)).sum := smI_eq fun i _ => by
      by_cases q : 1 ≤ c i
      · rw [decide_eq_true q, if_pos rfl, show (c i : Int) = ((c i - 1 : Nat) : Int) + 1 by omega, Int.mul_add]
        omega
      · rw [decide_eq_false q, if_neg Bool.false_ne_true, show c i = 0 by omega]
        simp
    rw [← smI_add] at tot
    have tl' : wt ((pst cs (k + 1)).take (a + p)) ≤ _ := tl
    omega
end
end Kr

/-! KrPc: the code of packages is a code, and no code costs less; joining the two least again and again. -/
namespace Kr
open PySem PySem.Spec PyProof.Rows L2
open Enc (toD)
section
variable {w : Int → Int} {n : Nat} {cs : List It}
theorem fl_wt : ∀ t : List It, (∀ p ∈ t, ItOk w n p) → wt t = ((fl t).map w).sum ∧ ∀ s ∈ fl t, s ∈ seqI 0 n
  | [], _ => ⟨rfl, fun s h => nomatch h⟩
  | p :: t, h => by
    obtain ⟨h1, h2⟩ := fl_wt t fun q hq => h q (List.mem_cons_of_mem _ hq)
    have hp := h p List.mem_cons_self
    refine ⟨?_, fun s hs => ?_⟩
    · rw [wt_cons, fl_cons, List.map_append, sum_app, h1, hp.2.1]
    · rw [fl_cons] at hs
      rcases List.mem_append.mp hs with hs | hs
      · exact hp.2.2 s hs
      · exact h2 s hs
structure Pk (w : Int → Int) (n L : Nat) (T : List It) : Prop where
  c1 : ∀ i ∈ seqI 0 n, 1 ≤ ct i T
  cL : ∀ i, ct i T ≤ L
  kr : ((seqI 0 n).map fun i => (2 : Int) ^ (L - ct i T)).sum ≤ 2 ^ L
  sy : ∀ s ∈ fl T, s ∈ seqI 0 n
  co : wt T = ((seqI 0 n).map fun i => w i * (ct i T : Int)).sum
  le : ∀ c : Int → Nat, (∀ i ∈ seqI 0 n, c i ≤ L) → ((seqI 0 n).map fun i => (2 : Int) ^ (L - c i)).sum ≤ 2 ^ L → wt T ≤ ((seqI 0 n).map fun i => w i * (c i : Int)).sum
theorem sum_one (f : Int → Int) {l : List Int} {x : Int} (h : ∀ y ∈ l, 1 ≤ f y) (hx : x ∈ l) : f x + l.length ≤ (l.map f).sum + 1 := by
  obtain ⟨a, b, rfl⟩ := List.append_of_mem hx
  have h1 := smI_le (f := fun _ => (1 : Int)) (g := f) (xs := a) fun y hy => h y (List.mem_append_left _ hy)
  have h2 := smI_le (f := fun _ => (1 : Int)) (g := f) (xs := b) fun y hy => h y (List.mem_append_right _ (List.mem_cons_of_mem _ hy))
  rw [smI_one] at h1 h2
  rw [List.map_append, List.map_cons, sum_app, List.sum_cons, List.length_append, List.length_cons]
  omega
theorem pack_ok (h : Cn w n cs) {L : Nat} (hn : 2 ≤ n) (hL : n ≤ 2 ^ L) : Pk w n L ((pst cs L).take (2 * n - 2)) := by
  have hP := two_pow_pos L
  have hLi : (n : Int) ≤ 2 ^ L := by exact_mod_cast hL
  have hlen := pst_len h L
  have hl : ((pst cs L).take (2 * n - 2)).length = 2 * n - 2 := by
    rw [List.length_take, Nat.min_eq_left]
    generalize (pst cs L).length = q at hlen
    generalize (2 : Int) ^ L = P at hlen hP hLi
    rcases Nat.lt_or_ge q (2 * n - 2) with hlt | hge
    · have h1 : ((q : Int) + 3) * P ≤ (2 * (n : Int)) * P := Int.mul_le_mul_of_nonneg_right (by omega) (by omega)
      have h2 : ((q : Int) + 3) * P = (q : Int) * P + 3 * P := by grind
      omega
    · exact hge
  obtain ⟨u1, u2⟩ := pst_upper h L _ (List.take_sublist (2 * n - 2) (pst cs L))
  rw [hl] at u2
  have kr : ((seqI 0 n).map fun i => (2 : Int) ^ (L - ct i ((pst cs L).take (2 * n - 2)))).sum ≤ 2 ^ L := by
    generalize ((seqI 0 n).map fun i => (2 : Int) ^ (L - ct i ((pst cs L).take (2 * n - 2)))).sum = X at u2 ⊢
    generalize (2 : Int) ^ L = P at u2 hP hLi ⊢
    have e : ((2 * n - 2 : Nat) : Int) * P = 2 * ((n : Int) * P) - 2 * P := by
      rw [show ((2 * n - 2 : Nat) : Int) = 2 * (n : Int) - 2 by omega]
      grind
    have e2 : 2 * (n : Int) * P = 2 * ((n : Int) * P) := by grind
    omega
  obtain ⟨f1, f2⟩ := fl_wt (w := w) (n := n) ((pst cs L).take (2 * n - 2)) fun p hp => pst_items h L p (List.mem_of_mem_take hp)
  refine ⟨fun i hi => ?_, u1, kr, f2, ?_, fun c hc hk => pst_lower h L c _ hc ?_⟩
  · rcases Nat.eq_zero_or_pos (ct i ((pst cs L).take (2 * n - 2))) with q | q
    · have := sum_one (fun i => (2 : Int) ^ (L - ct i ((pst cs L).take (2 * n - 2)))) (fun y _ => two_pow_pos _) hi
      rw [q, Nat.sub_zero, seqI_len] at this
      omega
    · exact q
  · rw [f1]
    exact (count_sum w (seqI_nodup 0 n) _ f2).symm
  · generalize ((seqI 0 n).map fun i => (2 : Int) ^ (L - c i)).sum = X at hk ⊢
    generalize (2 : Int) ^ L = P at hk ⊢
    have e : ((2 * n - 2 : Nat) : Int) * P = 2 * ((n : Int) * P) - 2 * P := by
      rw [show ((2 * n - 2 : Nat) : Int) = 2 * (n : Int) - 2 by omega]
      grind
    have e2 : 2 * (n : Int) * P = 2 * ((n : Int) * P) := by grind
    omega
theorem pst_fl (h : Cn w n cs) : ∀ k, (fl (pst cs k)).length ≤ n * k ∧ (pst cs k).length ≤ 2 * n
  | 0 => ⟨Nat.zero_le _, Nat.zero_le _⟩
  | k + 1 => by
    obtain ⟨ih1, ih2⟩ := pst_fl h k
    have e1 : (fl (pst cs (k + 1))).length = (fl cs).length + (fl (prs (pst cs k))).length := by
      show (fl (srt (cs ++ prs (pst cs k)))).length = _
      rw [(fl_perm (srt_perm _)).length_eq, fl_app, List.length_append]
    have e2 : (fl cs).length = n := by rw [h.fl.length_eq, seqI_len]
    have e3 : (fl (prs (pst cs k))).length ≤ (fl (pst cs k)).length := by
      obtain ⟨J, j1, j2, j3⟩ := prs_sub _ _ (List.Sublist.refl (prs (pst cs k)))
      rw [j2, (prs_even J _ j3).2.1]
      exact (fl_sub j1).length_le
    have e4 : (pst cs (k + 1)).length = n + (pst cs k).length / 2 := by
      show (srt (cs ++ prs (pst cs k))).length = _
      rw [(srt_perm _).length_eq, List.length_append, h.len, prs_len]
    rw [Nat.mul_succ]
    exact ⟨by omega, by omega⟩
end
/-! ### joining the two least weights -/
def srtI (l : List Int) : List Int := l.mergeSort leD
theorem srtI_perm (l : List Int) : (srtI l).Perm l := List.mergeSort_perm l leD
theorem srtI_up (l : List Int) : (srtI l).Pairwise fun a b => a ≤ b := (List.pairwise_mergeSort leD_tr leD_tot l).imp fun {a b} h => by
  rw [leD_int] at h
  exact of_decide_eq_true h
theorem srtI_len (l : List Int) : (srtI l).length = l.length := (srtI_perm l).length_eq
def hj : Nat → List Int → Int
  | k + 1, a :: b :: r => (a + b) + hj k (srtI (r ++ [a + b]))
  | _, _ => 0
/-- the cost of weights with lengths; the room that they take of 2 ^ M -/
def co (Q : List (Int × Nat)) : Int := (Q.map fun q => q.1 * (q.2 : Int)).sum
def kf (M : Nat) (Q : List (Int × Nat)) : Int := (Q.map fun q => (2 : Int) ^ (M - q.2)).sum
theorem co_cons (q : Int × Nat) (Q : List (Int × Nat)) : co (q :: Q) = q.1 * (q.2 : Int) + co Q := by
  unfold co
  rw [List.map_cons, List.sum_cons]
theorem kf_cons (M : Nat) (q : Int × Nat) (Q : List (Int × Nat)) : kf M (q :: Q) = 2 ^ (M - q.2) + kf M Q := by
  unfold kf
  rw [List.map_cons, List.sum_cons]
theorem co_perm {a b : List (Int × Nat)} (h : a.Perm b) : co a = co b := perm_sum (h.map _)
theorem kf_perm {M : Nat} {a b : List (Int × Nat)} (h : a.Perm b) : kf M a = kf M b := perm_sum (h.map _)
/-- weights up, lengths down -/
def ins (x : Nat) : List Nat → List Nat
  | [] => [x]
  | y :: r => if y ≤ x then x :: y :: r else y :: ins x r
def dn : List Nat → List Nat
  | [] => []
  | x :: r => ins x (dn r)
theorem ins_perm (x : Nat) : ∀ r : List Nat, (ins x r).Perm (x :: r)
  | [] => .refl _
  | y :: r => by
    unfold ins
    split
    · exact .refl _
    · exact ((ins_perm x r).cons y).trans (.swap _ _ _)
theorem dn_perm : ∀ r : List Nat, (dn r).Perm r
  | [] => .refl _
  | x :: r => (ins_perm x (dn r)).trans ((dn_perm r).cons x)
theorem ins_dn (x : Nat) : ∀ r : List Nat, r.Pairwise (fun a b => b ≤ a) → (ins x r).Pairwise fun a b => b ≤ a
  | [], _ => List.pairwise_singleton _ _
  | y :: r, h => by
    obtain ⟨h1, h2⟩ := List.pairwise_cons.mp h
    unfold ins
    split
    · rename_i c
      refine List.pairwise_cons.mpr ⟨fun z hz => ?_, h⟩
      rcases List.mem_cons.mp hz with rfl | hz
      · exact c
      · exact Nat.le_trans (h1 z hz) c
    · rename_i c
      refine List.pairwise_cons.mpr ⟨fun z hz => ?_, ins_dn x r h2⟩
      rcases List.mem_cons.mp ((ins_perm x r).mem_iff.mp hz) with rfl | hz
      · omega
      · exact h1 z hz
theorem dn_dn : ∀ r : List Nat, (dn r).Pairwise fun a b => b ≤ a
  | [] => .nil
  | x :: r => ins_dn x _ (dn_dn r)
def zs (W : List Int) (ls : List Nat) : Int := co (W.zip ls)
theorem zs_cons (a : Int) (W : List Int) (x : Nat) (ls : List Nat) : zs (a :: W) (x :: ls) = a * (x : Int) + zs W ls := by
  unfold zs
  rw [List.zip_cons_cons, co_cons]
theorem zs_ins (x : Nat) : ∀ (r : List Nat) (a : Int) (W : List Int), (a :: W).Pairwise (fun a b => a ≤ b) → W.length = r.length → zs (a :: W) (ins x r) ≤ a * (x : Int) + zs W r
  | [], a, W, _, _ => by
    show zs (a :: W) [x] ≤ _
    rw [zs_cons]
    exact Int.le_refl _
  | y :: r, a, [], _, h => nomatch h
  | y :: r, a, b :: W, hp, h => by
    obtain ⟨h1, h2⟩ := List.pairwise_cons.mp hp
    unfold ins
    split
    · rw [zs_cons]
      exact Int.le_refl _
    · rename_i c
      rw [zs_cons, zs_cons]
      have ih := zs_ins x r b W h2 (by simpa using h)
      have hab := h1 b List.mem_cons_self
      have : 0 ≤ (b - a) * ((y : Int) - (x : Int)) := Int.mul_nonneg (by omega) (by omega)
      have e : (b - a) * ((y : Int) - (x : Int)) = b * (y : Int) - b * (x : Int) - a * (y : Int) + a * (x : Int) := by grind
      omega
theorem zs_dn : ∀ (W : List Int) (ls : List Nat), W.Pairwise (fun a b => a ≤ b) → W.length = ls.length → zs W (dn ls) ≤ zs W ls
  | [], _, _, _ => by
    unfold zs
    rw [List.zip_nil_left, List.zip_nil_left]
    exact Int.le_refl _
  | a :: W, [], _, h => nomatch h
  | a :: W, x :: ls, hp, h => by
    obtain ⟨h1, h2⟩ := List.pairwise_cons.mp hp
    have ih := zs_dn W ls h2 (by simpa using h)
    have hl : W.length = (dn ls).length := by
      rw [(dn_perm ls).length_eq]
      simpa using h
    have := zs_ins x (dn ls) a W hp hl
    show zs (a :: W) (ins x (dn ls)) ≤ _
    rw [zs_cons]
    omega
theorem zs_pairs : ∀ Q : List (Int × Nat), zs (Q.map fun q => q.1) (Q.map fun q => q.2) = co Q
  | [] => rfl
  | q :: Q => by
    rw [List.map_cons, List.map_cons, zs_cons, zs_pairs Q, co_cons]
theorem kf_map (M : Nat) (Q : List (Int × Nat)) : kf M Q = ((Q.map fun q => q.2).map fun l => (2 : Int) ^ (M - l)).sum := by
  unfold kf
  rw [List.map_map]
  rfl
theorem pow_dvd_sum {M d : Nat} (hd : d ≤ M) : ∀ ls : List Nat, (∀ l ∈ ls, l ≤ d) → ∃ q : Int, (ls.map fun l => (2 : Int) ^ (M - l)).sum = q * 2 ^ (M - d)
  | [], _ => ⟨0, by simp⟩
  | l :: ls, h => by
    obtain ⟨q, e⟩ := pow_dvd_sum hd ls fun x hx => h x (List.mem_cons_of_mem _ hx)
    have hl := h l List.mem_cons_self
    refine ⟨2 ^ (d - l) + q, ?_⟩
    rw [List.map_cons, List.sum_cons, e, Int.add_mul, ← Int.pow_add]
    congr 2
    congr 1
    omega
end Kr

/-! KrPd: no code undercuts the joining; some code with the limit 20 costs as much. -/
namespace Kr
open PySem PySem.Spec PyProof.Rows L2
open Enc (toD)
theorem hj_zero (l : List Int) : hj 0 l = 0 := by
  cases l <;> rfl
theorem hj_succ (k : Nat) (a b : Int) (r : List Int) : hj (k + 1) (a :: b :: r) = (a + b) + hj k (srtI (r ++ [a + b])) := rfl
theorem two_of {α : Type} {k : Nat} {l : List α} (h : l.length = k + 2) : ∃ a b r, l = a :: b :: r ∧ r.length = k := by
  cases l with
  | nil => simp at h
  | cons a l =>
    cases l with
    | nil => simp at h
    | cons b r => exact ⟨a, b, r, rfl, by simpa using h⟩
theorem hj_le {M : Nat} : ∀ (k : Nat) (Q : List (Int × Nat)), Q.length = k + 1 → (∀ q ∈ Q, 0 ≤ q.1 ∧ q.2 ≤ M) → kf M Q ≤ 2 ^ M → hj k (srtI (Q.map fun q => q.1)) ≤ co Q
  | 0, Q, _, hQ, _ => by
    rw [hj_zero]
    exact smI_nn fun q hq => Int.mul_nonneg (hQ q hq).1 (by omega)
  | k + 1, Q, hl, hQ, hK => by
    obtain ⟨Q', p1, e⟩ := map_perm (srtI_perm (Q.map fun q => q.1)).symm
    have hWl : (srtI (Q.map fun q => q.1)).length = k + 2 := by rw [srtI_len, List.length_map, hl]
    have hup := srtI_up (Q.map fun q => q.1)
    obtain ⟨a, b, r, eW, hr⟩ := two_of hWl
    rw [eW] at e hup
    have hQ' : ∀ q ∈ Q', 0 ≤ q.1 ∧ q.2 ≤ M := fun q hq => hQ q (p1.mem_iff.mp hq)
    have hnn : ∀ v ∈ a :: b :: r, 0 ≤ v := fun v hv => by
      rw [← e] at hv
      obtain ⟨q, hq, rfl⟩ := List.mem_map.mp hv
      exact (hQ' q hq).1
    have ha := hnn a List.mem_cons_self
    have hb := hnn b (List.mem_cons_of_mem _ List.mem_cons_self)
    rw [← kf_perm p1, kf_map] at hK
    rw [← co_perm p1, ← zs_pairs Q', e]
    have hls : ∀ l ∈ Q'.map (fun q => q.2), l ≤ M := fun l h => by
      obtain ⟨q, hq, rfl⟩ := List.mem_map.mp h
      exact (hQ' q hq).2
    have hlen : (a :: b :: r).length = (Q'.map fun q => q.2).length := by rw [← e, List.length_map, List.length_map]
    generalize (Q'.map fun q => q.2) = ls at hK hls hlen ⊢
    have h1 := zs_dn (a :: b :: r) ls hup hlen
    have pd := dn_perm ls
    have dd := dn_dn ls
    have hK2 : ((dn ls).map fun l => (2 : Int) ^ (M - l)).sum ≤ 2 ^ M := by
      rw [perm_sum (pd.map _)]
      exact hK
    obtain ⟨x, y, s, ed, hs⟩ := two_of (show (dn ls).length = k + 2 by rw [pd.length_eq, ← hlen]; simp [hr])
    have hx : x ≤ M := hls x (pd.mem_iff.mp (by rw [ed]; exact List.mem_cons_self))
    rw [ed] at h1 dd hK2
    obtain ⟨d1, d2⟩ := List.pairwise_cons.mp dd
    obtain ⟨d3, d4⟩ := List.pairwise_cons.mp d2
    have hyx := d1 y List.mem_cons_self
    rw [zs_cons, zs_cons] at h1
    rw [List.map_cons, List.sum_cons] at hK2
    have hx1 := two_pow_pos (M - x)
    have hy1 : 1 ≤ y := by
      rcases Nat.eq_zero_or_pos y with q | q
      · rw [List.map_cons, List.sum_cons, q, Nat.sub_zero] at hK2
        have : 0 ≤ (s.map fun l => (2 : Int) ^ (M - l)).sum := smI_nn fun l _ => by have := two_pow_pos (M - l); omega
        omega
      · exact q
    obtain ⟨q, eq⟩ := pow_dvd_sum (M := M) (d := y) (by omega) (y :: s) fun l hl => by
      rcases List.mem_cons.mp hl with rfl | hl
      · exact Nat.le_refl _
      · exact d3 l hl
    have hMy : (2 : Int) ^ M = 2 ^ y * 2 ^ (M - y) := by
      rw [← Int.pow_add]
      congr 1
      omega
    have hKs : (2 : Int) ^ (M - y) + 2 ^ (M - y) + (s.map fun l => (2 : Int) ^ (M - l)).sum ≤ 2 ^ M := by
      rw [eq] at hK2
      have eq' := eq
      rw [List.map_cons, List.sum_cons] at eq'
      have hD := two_pow_pos (M - y)
      rw [hMy] at hK2 ⊢
      generalize (2 : Int) ^ (M - y) = D at *
      generalize (2 : Int) ^ y = E at *
      have hq : q < E := by
        rcases Int.lt_or_le q E with z | z
        · exact z
        · have := Int.mul_le_mul_of_nonneg_right z (show 0 ≤ D by omega)
          omega
      have : (q + 1) * D ≤ E * D := Int.mul_le_mul_of_nonneg_right (by omega) (by omega)
      have e3 : (q + 1) * D = q * D + D := by grind
      omega
    have ih := hj_le k (r.zip s ++ [(a + b, y - 1)]) (by rw [List.length_append, List.length_zip, hr, hs]; simp) (fun z hz => by
      rcases List.mem_append.mp hz with hz | hz
      · obtain ⟨z1, z2⟩ := z
        have m1 := (List.of_mem_zip hz).1
        have m2 := (List.of_mem_zip hz).2
        have := d3 z2 m2
        exact ⟨hnn z1 (List.mem_cons_of_mem _ (List.mem_cons_of_mem _ m1)), by show z2 ≤ M; omega⟩
      · rw [List.mem_singleton.mp hz]
        exact ⟨by show 0 ≤ a + b; omega, by show y - 1 ≤ M; omega⟩) (by
      rw [kf_map, List.map_append, List.map_snd_zip (by omega), List.map_append, sum_app]
      have : (2 : Int) ^ (M - (y - 1)) = 2 ^ (M - y) + 2 ^ (M - y) := by
        rw [show M - (y - 1) = (M - y) + 1 by omega, Int.pow_succ]
        omega
      show _ + ((2 : Int) ^ (M - (y - 1)) + 0) ≤ _
      omega)
    have ef : (r.zip s ++ [(a + b, y - 1)]).map (fun q => q.1) = r ++ [a + b] := by
      rw [List.map_append, List.map_fst_zip (by omega)]
      rfl
    have ec : co (r.zip s ++ [(a + b, y - 1)]) = zs r s + (a + b) * ((y - 1 : Nat) : Int) := by
      unfold zs co
      rw [List.map_append, sum_app]
      show _ + ((a + b) * ((y - 1 : Nat) : Int) + 0) = _
      omega
    rw [ef, ec] at ih
    rw [eW, hj_succ]
    have e4 : (a + b) * ((y - 1 : Nat) : Int) = a * (y : Int) + b * (y : Int) - a - b := by
      rw [show ((y - 1 : Nat) : Int) = (y : Int) - 1 by omega]
      grind
    have e5 : a * (y : Int) ≤ a * (x : Int) := Int.mul_le_mul_of_nonneg_left (by omega) ha
    omega
/-! ### how deep the joining goes -/
def gf : Nat → Int
  | 0 => 1
  | 1 => 2
  | n + 2 => gf (n + 1) + gf n
theorem gf_pos : ∀ n, 1 ≤ gf n ∧ gf n ≤ gf (n + 1)
  | 0 => ⟨by decide, by decide⟩
  | 1 => ⟨by decide, by decide⟩
  | n + 2 => by
    obtain ⟨h1, h2⟩ := gf_pos n
    obtain ⟨h3, h4⟩ := gf_pos (n + 1)
    have e1 : gf (n + 2) = gf (n + 1) + gf n := rfl
    have e2 : gf (n + 2 + 1) = gf (n + 2) + gf (n + 1) := rfl
    exact ⟨by omega, by omega⟩
theorem gf_big (h : Nat) : gf 19 ≤ gf (19 + h) := by
  induction h with
  | zero => exact Int.le_refl _
  | succ h ih => exact Int.le_trans ih (gf_pos (19 + h)).2
theorem gf_19 : gf 19 = 10946 := by decide +kernel
structure Iv2 (S : List (Int × Nat)) : Prop where
  a : ∀ x ∈ S, gf x.2 ≤ x.1
  b : ∀ x ∈ S, ∀ y ∈ S, 1 ≤ x.2 → gf (x.2 - 1) ≤ y.1
theorem Iv2.perm {S T : List (Int × Nat)} (h : Iv2 S) (p : T.Perm S) : Iv2 T := ⟨fun x hx => h.a x (p.mem_iff.mp hx), fun x hx y hy => h.b x (p.mem_iff.mp hx) y (p.mem_iff.mp hy)⟩
theorem gf_join {S : List (Int × Nat)} (h : Iv2 S) {x y : Int × Nat} (hx : x ∈ S) (hy : y ∈ S) (hh : y.2 ≤ x.2) : gf (1 + x.2) ≤ x.1 + y.1 := by
  have h1 := h.a x hx
  have h2 := h.a y hy
  rcases Nat.eq_zero_or_pos x.2 with q | q
  · rw [q] at h1 hh ⊢
    have : y.2 = 0 := by omega
    rw [this] at h2
    have e0 : gf 0 = 1 := rfl
    have e1 : gf (1 + 0) = 2 := rfl
    omega
  · have h3 := h.b x hx y hy q
    have e : gf (1 + x.2) = gf x.2 + gf (x.2 - 1) := by
      obtain ⟨m, hm⟩ : ∃ m, x.2 = m + 1 := ⟨x.2 - 1, by omega⟩
      rw [hm, show 1 + (m + 1) = m + 2 by omega]
      rfl
    omega
theorem Iv2.join {a b : Int} {ha hb : Nat} {R : List (Int × Nat)} (h : Iv2 ((a, ha) :: (b, hb) :: R)) (hab : a ≤ b) (hR : ∀ y ∈ R, b ≤ y.1) : Iv2 (R ++ [(a + b, 1 + max ha hb)]) := by
  have mA : (a, ha) ∈ (a, ha) :: (b, hb) :: R := List.mem_cons_self
  have mB : (b, hb) ∈ (a, ha) :: (b, hb) :: R := List.mem_cons_of_mem _ List.mem_cons_self
  have mR : ∀ {y}, y ∈ R → y ∈ (a, ha) :: (b, hb) :: R := fun q => List.mem_cons_of_mem _ (List.mem_cons_of_mem _ q)
  have p1 : gf ha ≤ a := h.a _ mA
  have p2 : gf hb ≤ b := h.a _ mB
  have q1 := (gf_pos ha).1
  have q2 := (gf_pos hb).1
  have hmx : gf (max ha hb) ≤ b := by
    rcases Nat.le_total ha hb with z | z
    · rw [Nat.max_eq_right z]
      exact p2
    · rw [Nat.max_eq_left z]
      omega
  refine ⟨fun x hx => ?_, fun x hx y hy h1 => ?_⟩
  · rcases List.mem_append.mp hx with hx | hx
    · exact h.a x (mR hx)
    · rw [List.mem_singleton.mp hx]
      show gf (1 + max ha hb) ≤ a + b
      rcases Nat.le_total ha hb with z | z
      · rw [Nat.max_eq_right z]
        have : gf (1 + hb) ≤ b + a := gf_join h mB mA z
        omega
      · rw [Nat.max_eq_left z]
        exact gf_join h mA mB z
  · rcases List.mem_append.mp hy with hy | hy
    · rcases List.mem_append.mp hx with hx | hx
      · exact h.b x (mR hx) y (mR hy) h1
      · rw [List.mem_singleton.mp hx]
        show gf (1 + max ha hb - 1) ≤ y.1
        rw [show 1 + max ha hb - 1 = max ha hb by omega]
        have := hR y hy
        omega
    · rw [List.mem_singleton.mp hy]
      show _ ≤ a + b
      rcases List.mem_append.mp hx with hx | hx
      · have : gf (x.2 - 1) ≤ a := h.b x (mR hx) _ mA h1
        omega
      · rw [List.mem_singleton.mp hx]
        show gf (1 + max ha hb - 1) ≤ _
        rw [show 1 + max ha hb - 1 = max ha hb by omega]
        omega
theorem hj_ex : ∀ (k : Nat) (S : List (Int × Nat)), S.length = k + 1 → Iv2 S → (S.map fun x => x.1).sum ≤ 8000 →
    ∃ Z : List ((Int × Nat) × Nat), (Z.map fun z => z.1).Perm S ∧ (∀ z ∈ Z, z.2 + z.1.2 ≤ 20) ∧ (Z.map fun z => (2 : Int) ^ (20 - z.2)).sum ≤ 2 ^ 20 ∧ (Z.map fun z => z.1.1 * (z.2 : Int)).sum = hj k (srtI (S.map fun x => x.1))
  | 0, S, hl, hI, hs => by
    obtain ⟨x, rfl⟩ := List.length_eq_one_iff.mp hl
    refine ⟨[(x, 0)], .refl _, fun z hz => ?_, by simp, ?_⟩
    · rw [List.mem_singleton.mp hz]
      show 0 + x.2 ≤ 20
      have h1 := hI.a x List.mem_cons_self
      have h2 : x.1 ≤ 8000 := by simpa using hs
      rcases Nat.lt_or_ge x.2 19 with q | q
      · omega
      · have := gf_big (x.2 - 19)
        rw [show 19 + (x.2 - 19) = x.2 by omega, gf_19] at this
        omega
    · rw [hj_zero]
      show x.1 * ((0 : Nat) : Int) + 0 = 0
      simp
  | k + 1, S, hl, hI, hs => by
    obtain ⟨S', p1, e⟩ := map_perm (srtI_perm (S.map fun x => x.1)).symm
    have hWl : (srtI (S.map fun x => x.1)).length = k + 2 := by rw [srtI_len, List.length_map, hl]
    have hup := srtI_up (S.map fun x => x.1)
    obtain ⟨a, b, r, eW, hr⟩ := two_of hWl
    obtain ⟨⟨a', ha⟩, ⟨b', hb⟩, R, eS, hR⟩ := two_of (show S'.length = k + 2 by rw [p1.length_eq, hl])
    subst eS
    rw [eW] at e hup
    injection e with e1 e
    injection e with e2 e3
    replace e1 : a' = a := e1
    replace e2 : b' = b := e2
    subst e1 e2
    obtain ⟨u1, u2⟩ := List.pairwise_cons.mp hup
    obtain ⟨u3, u4⟩ := List.pairwise_cons.mp u2
    have hI2 := Iv2.join (hI.perm p1) (u1 _ List.mem_cons_self) fun y hy => u3 y.1 (by rw [← e3]; exact List.mem_map.mpr ⟨y, hy, rfl⟩)
    have em : (R ++ [(a' + b', 1 + max ha hb)]).map (fun x => x.1) = r ++ [a' + b'] := by
      rw [List.map_append, e3]
      rfl
    have hsum : ((R ++ [(a' + b', 1 + max ha hb)]).map fun x => x.1).sum ≤ 8000 := by
      rw [← perm_sum (p1.map _)] at hs
      rw [em, sum_app, ← e3]
      rw [List.map_cons, List.map_cons, List.sum_cons, List.sum_cons] at hs
      replace hs : a' + (b' + (R.map fun x => x.1).sum) ≤ 8000 := hs
      show _ + (a' + b' + 0) ≤ _
      omega
    obtain ⟨Z2, z1, z2, z3, z4⟩ := hj_ex k _ (by rw [List.length_append, hR]; rfl) hI2 hsum
    obtain ⟨Z3, y1, y2⟩ := map_perm (z1.trans List.perm_append_comm)
    cases Z3 with
    | nil => cases y2
    | cons z Z4 =>
      obtain ⟨zx, l⟩ := z
      injection y2 with y2 y3
      replace y2 : zx = (a' + b', 1 + max ha hb) := y2
      subst y2
      replace y3 : Z4.map (fun z => z.1) = R := y3
      have hz := z2 _ (y1.mem_iff.mp List.mem_cons_self)
      replace hz : l + (1 + max ha hb) ≤ 20 := hz
      rw [← perm_sum (y1.map _), List.map_cons, List.sum_cons] at z3 z4
      replace z3 : (2 : Int) ^ (20 - l) + (Z4.map fun z => (2 : Int) ^ (20 - z.2)).sum ≤ 2 ^ 20 := z3
      replace z4 : (a' + b') * (l : Int) + (Z4.map fun z => z.1.1 * (z.2 : Int)).sum = _ := z4
      refine ⟨((a', ha), l + 1) :: ((b', hb), l + 1) :: Z4, ?_, fun z hz' => ?_, ?_, ?_⟩
      · rw [List.map_cons, List.map_cons, y3]
        exact p1
      · rcases List.mem_cons.mp hz' with rfl | hz'
        · show l + 1 + ha ≤ 20
          omega
        · rcases List.mem_cons.mp hz' with rfl | hz'
          · show l + 1 + hb ≤ 20
            omega
          · exact z2 z (y1.mem_iff.mp (List.mem_cons_of_mem _ hz'))
      · rw [List.map_cons, List.map_cons, List.sum_cons, List.sum_cons]
        show (2 : Int) ^ (20 - (l + 1)) + (2 ^ (20 - (l + 1)) + _) ≤ _
        rw [show 20 - l = (20 - (l + 1)) + 1 by omega, Int.pow_succ] at z3
        omega
      · rw [List.map_cons, List.map_cons, List.sum_cons, List.sum_cons, eW, hj_succ, ← em, ← z4]
        show a' * ((l + 1 : Nat) : Int) + (b' * ((l + 1 : Nat) : Int) + _) = _
        have e7 : a' * ((l + 1 : Nat) : Int) = a' * (l : Int) + a' := by
          rw [Int.natCast_add]
          show a' * ((l : Int) + 1) = _
          grind
        have e8 : b' * ((l + 1 : Nat) : Int) = b' * (l : Int) + b' := by
          rw [Int.natCast_add]
          show b' * ((l : Int) + 1) = _
          grind
        have e9 : (a' + b') * (l : Int) = a' * (l : Int) + b' * (l : Int) := by grind
        omega
end Kr

/-! KrPe: the code of packages, the joined cost, for lists of weights and lengths. -/
namespace Kr
open PySem PySem.Spec PyProof.Rows L2
open Enc (toD)
def cst (ws ls : List Int) : Int := ((ws.zip ls).map fun p => p.1 * p.2).sum
/-- a code for n symbols that keeps the limit -/
structure Code (n : Nat) (lim : Int) (ls : List Int) : Prop where
  len : ls.length = n
  bd : ∀ l ∈ ls, 1 ≤ l ∧ l ≤ lim
  kr : (ls.map (pw lim)).sum ≤ pw lim 0
def pkl (n : Nat) (T : List It) : List Int := (seqI 0 n).map fun i => (ct i T : Int)
theorem all_gW {ls : List Int} {n : Nat} (h : ls.length = n) : (seqI 0 n).map (gW ls) = ls := by
  have := zip_range ls ls (fun a _ => a) n h h
  have e : (seqI 0 n).map (gW ls) = (ls.zip ls).map fun p => p.1 := this.symm
  rw [e, List.map_fst_zip (Nat.le_refl _)]
theorem gW_map {n : Nat} (f : Int → Int) {i : Int} (h : i ∈ seqI 0 n) : gW ((seqI 0 n).map f) i = f i := by
  obtain ⟨h1, h2⟩ := mem_seqI.mp h
  unfold gW
  rw [List.getD_eq_getElem?_getD, List.getElem?_map, List.getElem?_eq_getElem (by rw [seqI_len]; omega), seqI_at (by rw [seqI_len]; omega)]
  show f (0 + (i.toNat : Int)) = f i
  congr 1
  omega
theorem cst_range {ws ls : List Int} {n : Nat} (h : ws.length = n) (h' : ls.length = n) : cst ws ls = ((seqI 0 n).map fun i => gW ws i * gW ls i).sum := by
  unfold cst
  rw [zip_range ws ls (fun a b => a * b) n h h']
theorem gW_mem {ls : List Int} {n : Nat} (h : ls.length = n) {i : Int} (hi : i ∈ seqI 0 n) : gW ls i ∈ ls := by
  have : gW ls i ∈ (seqI 0 n).map (gW ls) := List.mem_map.mpr ⟨i, hi, rfl⟩
  rwa [all_gW h] at this
theorem pw_nat (L c : Nat) : pw (L : Int) (c : Int) = 2 ^ (L - c) := by
  unfold pw
  congr 1
  omega
theorem pk_code {ws : List Int} {n L : Nat} {T : List It} (hn : ws.length = n) (h : Pk (gW ws) n L T) : Code n L (pkl n T) ∧ cst ws (pkl n T) = wt T ∧ ∀ ls, Code n L ls → wt T ≤ cst ws ls := by
  have hl : (pkl n T).length = n := by
    unfold pkl
    rw [List.length_map, seqI_len]
  refine ⟨⟨hl, fun l hl' => ?_, ?_⟩, ?_, fun ls c => ?_⟩
  · obtain ⟨i, hi, rfl⟩ := List.mem_map.mp hl'
    have := h.c1 i hi
    have := h.cL i
    omega
  · unfold pkl
    rw [List.map_map]
    have e : ((seqI 0 n).map ((pw (L : Int)) ∘ fun i => (ct i T : Int))).sum = ((seqI 0 n).map fun i => (2 : Int) ^ (L - ct i T)).sum := smI_eq fun i _ => pw_nat L (ct i T)
    rw [e]
    exact h.kr
  · rw [cst_range hn hl, h.co]
    refine smI_eq fun i hi => ?_
    unfold pkl
    rw [gW_map _ hi]
  · have hb : ∀ i ∈ seqI 0 n, 1 ≤ gW ls i ∧ gW ls i ≤ L := fun i hi => c.bd _ (gW_mem c.len hi)
    have e1 : ((seqI 0 n).map fun i => (2 : Int) ^ (L - (gW ls i).toNat)).sum = (ls.map (pw L)).sum := by
      conv => rhs; rw [← all_gW c.len, List.map_map]
      refine smI_eq fun i hi => ?_
      have := hb i hi
      show _ = pw (L : Int) (gW ls i)
      rw [← pw_nat, Int.toNat_of_nonneg (by omega)]
    have := h.le (fun i => (gW ls i).toNat) (fun i hi => by have := hb i hi; show (gW ls i).toNat ≤ L; omega) (by rw [e1]; exact c.kr)
    rw [cst_range hn c.len]
    refine Int.le_trans this (Int.le_of_eq (smI_eq fun i hi => ?_))
    have := hb i hi
    rw [Int.toNat_of_nonneg (by omega)]
theorem join_le {ws ls : List Int} {k M : Nat} (hk : ws.length = k + 1) (hw : ∀ w ∈ ws, 0 ≤ w) (c : Code (k + 1) M ls) : hj k (srtI ws) ≤ cst ws ls := by
  have hl : (ls.map Int.toNat).length = ws.length := by rw [List.length_map, c.len, hk]
  have e1 : (ws.zip (ls.map Int.toNat)).map (fun q => q.1) = ws := List.map_fst_zip (by omega)
  have e2 : (ws.zip (ls.map Int.toNat)).map (fun q => q.2) = ls.map Int.toNat := List.map_snd_zip (by omega)
  have h1 := hj_le (M := M) k (ws.zip (ls.map Int.toNat)) (by rw [List.length_zip, hl]; omega) (fun q hq => by
    obtain ⟨a, b⟩ := q
    have m1 := (List.of_mem_zip hq).1
    obtain ⟨l, hl', e⟩ := List.mem_map.mp (List.of_mem_zip hq).2
    have := c.bd l hl'
    have hb : b = l.toNat := e.symm
    exact ⟨hw a m1, by show b ≤ M; omega⟩) (by
    rw [kf_map, e2, List.map_map]
    have : (ls.map ((fun l => (2 : Int) ^ (M - l)) ∘ Int.toNat)).sum = (ls.map (pw (M : Int))).sum := smI_eq fun l hl' => by
      have := c.bd l hl'
      show (2 : Int) ^ (M - l.toNat) = pw (M : Int) l
      rw [← pw_nat, Int.toNat_of_nonneg (by omega)]
    rw [this]
    exact c.kr)
  rw [e1] at h1
  refine Int.le_trans h1 (Int.le_of_eq ?_)
  unfold co cst
  rw [List.zip_map_right, List.map_map]
  refine smI_eq fun p hp => ?_
  obtain ⟨a, l⟩ := p
  have := c.bd l (List.of_mem_zip hp).2
  show a * ((l.toNat : Nat) : Int) = a * l
  rw [Int.toNat_of_nonneg (by omega)]
theorem sum_one2 {α : Type} (f : α → Int) {l : List α} {x : α} (h : ∀ y ∈ l, 1 ≤ f y) (hx : x ∈ l) : f x + l.length ≤ (l.map f).sum + 1 := by
  obtain ⟨a, b, rfl⟩ := List.append_of_mem hx
  have h1 := smI_le (f := fun _ => (1 : Int)) (g := f) (xs := a) fun y hy => h y (List.mem_append_left _ hy)
  have h2 := smI_le (f := fun _ => (1 : Int)) (g := f) (xs := b) fun y hy => h y (List.mem_append_right _ (List.mem_cons_of_mem _ hy))
  rw [smI_one] at h1 h2
  rw [List.map_append, List.map_cons, sum_app, List.sum_cons, List.length_append, List.length_cons]
  omega
theorem join_ex {ws : List Int} {k : Nat} (hk : ws.length = k + 1) (h1 : 1 ≤ k) (hw : ∀ w ∈ ws, 1 ≤ w) (hs : ws.sum ≤ 8000) : ∃ ls, Code (k + 1) 20 ls ∧ cst ws ls = hj k (srtI ws) := by
  have em : (ws.map fun w => (w, 0)).map (fun x : Int × Nat => x.1) = ws := by
    rw [List.map_map]
    exact List.map_id _
  obtain ⟨Z, z1, z2, z3, z4⟩ := hj_ex k (ws.map fun w => (w, 0)) (by rw [List.length_map, hk]) ⟨fun x hx => by
    obtain ⟨v, hv, rfl⟩ := List.mem_map.mp hx
    exact hw v hv, fun x hx y hy h => by
    obtain ⟨v, hv, rfl⟩ := List.mem_map.mp hx
    exact absurd h (show ¬ 1 ≤ 0 by decide)⟩ (by rw [em]; exact hs)
  rw [em] at z4
  obtain ⟨Y, y1, y2⟩ := map_perm z1
  have hYl : Y.length = k + 1 := by
    have := congrArg List.length y2
    rw [List.length_map, List.length_map, hk] at this
    exact this
  rw [← perm_sum (y1.map _)] at z3 z4
  have hpos : ∀ z ∈ Y, 1 ≤ z.2 := fun z hz => by
    rcases Nat.eq_zero_or_pos z.2 with q | q
    · have := sum_one2 (fun z : (Int × Nat) × Nat => (2 : Int) ^ (20 - z.2)) (fun y _ => two_pow_pos _) hz
      rw [q, hYl] at this
      have e : (2 : Int) ^ (20 - 0) = 2 ^ 20 := rfl
      omega
    · exact q
  refine ⟨Y.map fun z => (z.2 : Int), ⟨by rw [List.length_map, hYl], fun l hl => ?_, ?_⟩, ?_⟩
  · obtain ⟨z, hz, rfl⟩ := List.mem_map.mp hl
    have := hpos z hz
    have := z2 z (y1.mem_iff.mp hz)
    omega
  · rw [List.map_map]
    have : (Y.map ((pw 20) ∘ fun z => (z.2 : Int))).sum = (Y.map fun z => (2 : Int) ^ (20 - z.2)).sum := smI_eq fun z _ => pw_nat 20 z.2
    rw [this]
    exact z3
  · rw [← z4]
    have ew : ws = Y.map fun z => z.1.1 := by
      have := congrArg (List.map fun x : Int × Nat => x.1) y2
      rw [em, List.map_map] at this
      exact this.symm
    unfold cst
    rw [ew, List.zip_map', List.map_map]
    rfl
/-- the joined cost, of packages with the limit 20 -/
theorem join_pack {ws : List Int} {k : Nat} {T : List It} (hk : ws.length = k + 1) (h1 : 1 ≤ k) (hw : ∀ w ∈ ws, 1 ≤ w) (hs : ws.sum ≤ 8000) (h : Pk (gW ws) (k + 1) 20 T) : cst ws (pkl (k + 1) T) = hj k (srtI ws) := by
  obtain ⟨c, e, le⟩ := pk_code hk h
  obtain ⟨ls, c2, e2⟩ := join_ex hk h1 hw hs
  have a1 := le ls c2
  have a2 := join_le hk (fun w h => by have := hw w h; omega) c
  omega
end Kr

namespace Kx
open PySem PySem.Spec PyProof.Rows L2 Kr
open Enc (toD)
theorem shl_pw {lim l : Int} (h : l ≤ lim) (h0 : 0 ≤ l) (h2 : lim ≤ 1000) : shlR 1 (lim - l) = .ok (pw lim l) := by
  rw [shlR_ok (by decide) (by omega), Int.one_mul]
  rfl

theorem pw_mul {lim l : Int} (h : l ≤ lim) (h' : lim ≤ 20) : pw 20 l = pw lim l * pw 20 lim := by
  unfold pw
  rw [← Int.pow_add]
  congr 1
  omega
theorem room_eq {ls : List Int} {lim : Int} (hl : lim ≤ 20) (hl0 : 0 ≤ lim) (hn : ls.length ≤ 1000) (h : ∀ l ∈ ls, 1 ≤ l ∧ l ≤ lim) : f_room ls = .ok ((pw lim 0 - (ls.map (pw lim)).sum) * pw 20 lim) := by
  unfold f_room b_room
  simp only [R.ok_bind, R.ok_pu, R.er_bind, R.bad_bind, R.ok_map, finR_rt, seqF_nx, seqF_rt, R.bind_ok, R.bind_bind, decide_eq_true_eq, Bool.not_eq_true', decide_eq_false_iff_not, Bool.false_eq_true, if_true, if_false, ite_nx]
  rw [show shlR 1 20 = .ok (pw 20 0) from rfl, R.ok_bind]
  rw [lcR_ok (fun l => decide (0 < l)) (fun l => pw 20 l) (by omega) (fun x _ => rfl) fun x hx _ => by
    have := h x hx
    exact shl_pw (lim := 20) (by omega) (by omega) (by decide), R.ok_bind, finR_rt]
  congr 1
  rw [List.filter_eq_self.mpr fun x hx => by
    have := h x hx
    exact decide_eq_true (by omega), Int.sub_mul, ← smI_mul, ← pw_mul hl0 hl]
  congr 1
  exact smI_eq fun x hx => pw_mul (h x hx).2 hl
theorem limit_ok {many : Int} (hm : many ≤ 64) : ∃ l : Nat, f__law_least_limit many = .ok (l : Int) ∧ 1 ≤ l ∧ l ≤ 7 ∧ many ≤ pw l 0 := by
  unfold f__law_least_limit b__law_least_limit
  simp only [R.ok_bind, R.ok_pu, R.er_bind, R.bad_bind, R.ok_map, finR_rt, seqF_nx, seqF_rt, R.bind_ok, R.bind_bind, decide_eq_true_eq, Bool.not_eq_true', decide_eq_false_iff_not, Bool.false_eq_true, if_true, if_false, ite_nx]
  rw [rng1_ok (by decide) (by decide), R.ok_bind]
  have hpw : ∀ s : Int, (1 : Int) * 2 ^ s.toNat = pw s 0 := fun s => by
    rw [Int.one_mul]
    unfold pw
    rw [Int.sub_zero]
  refine forR_elim (P := fun r => ∃ l : Nat, finR r = R.ok (l : Int) ∧ 1 ≤ l ∧ l ≤ 7 ∧ many ≤ pw l 0) (fun i (s : Int) => 1 ≤ s ∧ s ≤ 1 + i ∧ (many ≤ pw s 0 ∨ s = 1 + i)) ?_ (fun i hi s hI => ?_) (fun s hI => ?_)
  · exact ⟨Int.le_refl _, Int.le_refl _, .inr rfl⟩
  · rw [seqI_len] at hi
    rw [shlR_ok (by decide) (by omega), R.ok_bind, hpw]
    refine ⟨_, rfl, ?_⟩
    split
    · have := hI.2.1
      omega
    · exact ⟨hI.1, by have := hI.2.1; omega, .inl (by omega)⟩
  · rw [seqI_len] at hI
    refine ⟨s.toNat, by rw [finR_rt, Int.toNat_of_nonneg (by omega)], by have := hI.1; omega, by have := hI.2.1; simp at this; omega, ?_⟩
    rw [Int.toNat_of_nonneg (by have := hI.1; omega)]
    rcases hI.2.2 with h | h
    · exact h
    · rw [h]
      have : pw (1 + ((Int.toNat 6 : Nat) : Int)) 0 = 128 := rfl
      omega
theorem minR_in {xs : List Int} (h : xs ≠ []) : ∃ m, minR xs = .ok m ∧ m ∈ xs := by
  cases xs with
  | nil => exact absurd rfl h
  | cons x r => exact ⟨_, rfl, (foldl_min_mem r x).1⟩
theorem maxR_in {xs : List Int} (h : xs ≠ []) : ∃ m, maxR xs = .ok m ∧ m ∈ xs := by
  cases xs with
  | nil => exact absurd rfl h
  | cons x r => exact ⟨_, rfl, (foldl_max_mem r x).1⟩
theorem eqR_same {α : Type} [Enc α] [q : Eqd α] (a : α) (h : q.n ≤ 64 := by decide) : eqR a a = .ok true := by
  haveI := Classical.typeDecidableEq α
  rw [eqR_eq a a h, decide_eq_true rfl]
theorem pw_up {a b : Nat} (h : a ≤ b) : pw (a : Int) 0 ≤ pw (b : Int) 0 := by
  unfold pw
  have : 2 ^ ((a : Int) - 0).toNat ≤ 2 ^ ((b : Int) - 0).toNat := Nat.pow_le_pow_right (by decide) (by omega)
  exact_mod_cast this

/-! ### packages -/
theorem rng3_two {m : Nat} (hm : m ≤ 1000) : rng3R 0 ((m : Int) - 1) 2 = .ok ((seqI 0 (m / 2)).map fun i => i * 2) := by
  have hsz : Builtin.Range.rangeSize 0 ((m : Int) - 1) 2 = ((m / 2 : Nat) : Int) := by
    unfold Builtin.Range.rangeSize
    rw [if_pos (by omega)]
    split
    · omega
    · omega
  have fl : ∀ i : Int, -1000000 ≤ i → i ≤ 1000000 → Builtin.Range.rangeFitsLong i = true := fun i h1 h2 => by
    unfold Builtin.Range.rangeFitsLong
    rw [Bool.and_eq_true, decide_eq_true_eq, decide_eq_true_eq]
    omega
  have hsm : Builtin.Range.small 0 ((m : Int) - 1) 2 = true := by
    unfold Builtin.Range.small
    rw [hsz, fl 0 (by decide) (by decide), fl ((m : Int) - 1) (by omega) (by omega), fl 2 (by decide) (by decide), fl ((m / 2 : Nat) : Int) (by omega) (by omega), if_pos (by omega), fl ((m : Int) - 1 + (2 - 1)) (by omega) (by omega), Bool.or_true]
    rfl
  have e : seqC 0 2 (Builtin.Range.rangeSize 0 ((m : Int) - 1) 2).toNat = (seqI 0 (m / 2)).map fun i => i * 2 := by
    rw [hsz]
    unfold seqC seqI
    rw [List.map_map, Int.toNat_natCast]
    refine List.map_congr_left fun i _ => ?_
    show (0 : Int) + (i : Int) * 2 = (0 + (i : Int)) * 2
    rw [Int.zero_add, Int.zero_add]
  rw [← e]
  unfold rng3R
  rw [if_pos (by omega), if_neg (by omega), if_pos ⟨by omega, by omega, hsm⟩]
theorem prs_get : ∀ (I : List Kr.It) (j : Nat) (a b : Kr.It), I[2 * j]? = some a → I[2 * j + 1]? = some b → (prs I)[j]? = some (a.1 + b.1, a.2 ++ b.2)
  | [], j, a, b, h, _ => by simp at h
  | [x], j, a, b, _, h => by simp at h
  | x :: y :: r, 0, a, b, h, h' => by
    cases h
    cases h'
    rfl
  | x :: y :: r, j + 1, a, b, h, h' => by
    rw [show 2 * (j + 1) = 2 * j + 1 + 1 by omega, List.getElem?_cons_succ, List.getElem?_cons_succ] at h
    rw [show 2 * (j + 1) + 1 = 2 * j + 1 + 1 + 1 by omega, List.getElem?_cons_succ, List.getElem?_cons_succ] at h'
    show ((x.1 + y.1, x.2 ++ y.2) :: prs r)[j + 1]? = _
    rw [List.getElem?_cons_succ]
    exact prs_get r j a b h h'
theorem paired_eq {I : List Kr.It} (hl : I.length ≤ 1000) (hp : ∀ p ∈ I, p.2.length ≤ 100000) : f_paired I = .ok (prs I) := by
  unfold f_paired b_paired
  simp only [R.ok_bind, R.ok_pu, R.er_bind, R.bad_bind, R.ok_map, finR_rt, seqF_nx, seqF_rt, R.bind_ok, R.bind_bind, decide_eq_true_eq, Bool.not_eq_true', decide_eq_false_iff_not, Bool.false_eq_true, if_true, if_false, ite_nx, szR_nil, rng3_two hl]
  refine forR_elim (P := fun r => finR r = R.ok (prs I)) (fun j (s : List Kr.It) => s = (prs I).take j) rfl (fun j hj s hI => ?_) (fun s hI => ?_)
  · rw [List.length_map, seqI_len] at hj
    have e1 : ((seqI 0 (I.length / 2)).map fun i => i * 2)[j]'(by rw [List.length_map, seqI_len]; exact hj) = ((2 * j : Nat) : Int) := by
      rw [List.getElem_map, seqI_at (by rw [seqI_len]; exact hj)]
      omega
    rw [e1]
    have ga : I[2 * j]? = some I[2 * j] := List.getElem?_eq_getElem (by omega)
    have gb : I[2 * j + 1]? = some I[2 * j + 1] := List.getElem?_eq_getElem (by omega)
    have h1 := hp _ (List.mem_of_getElem? ga)
    have h2 := hp _ (List.mem_of_getElem? gb)
    have g := prs_get I j _ _ ga gb
    generalize I[2 * j] = a at ga g h1
    generalize I[2 * j + 1] = b at gb g h2
    have i1 : idxR I ((2 * j : Nat) : Int) = .ok a := idxR_of (by omega) (by rw [Int.toNat_natCast]; exact ga)
    have i2 : idxR I (((2 * j : Nat) : Int) + 1) = .ok b := idxR_of (by omega) (by rw [show (((2 * j : Nat) : Int) + 1).toNat = 2 * j + 1 by omega]; exact gb)
    have hsl : s.length ≤ 1000 := by
      rw [hI, List.length_take]
      have := prs_len I
      omega
    simp only [i1, i2, R.ok_bind]
    rw [szR_ok (by rw [List.length_append]; omega), R.ok_bind, szR_snoc (by omega), R.ok_bind]
    refine ⟨_, rfl, ?_⟩
    rw [hI, List.take_add_one, g]
    rfl
  · rw [List.length_map, seqI_len] at hI
    rw [hI, List.take_of_length_le (by rw [prs_len]; exact Nat.le_refl _), finR_rt]
/-- the counts of the symbols so far -/
def Ct (n : Nat) (F ls : List Int) : Prop := ls.length = n ∧ ∀ i ∈ seqI 0 n, gW ls i = (F.count i : Int)
theorem Ct.add {n : Nat} {F ls : List Int} (h : Ct n F ls) {s : Int} (hs : s ∈ seqI 0 n) : Ct n (F ++ [s]) (ls.set s.toNat (ls.getD s.toNat 0 + 1)) := by
  obtain ⟨h1, h2⟩ := mem_seqI.mp hs
  refine ⟨by rw [List.length_set]; exact h.1, fun i hi => ?_⟩
  obtain ⟨h3, h4⟩ := mem_seqI.mp hi
  have hc := h.2 i hi
  unfold gW at hc ⊢
  rw [List.getD_eq_getElem?_getD, List.getElem?_set, List.count_append]
  by_cases e : s = i
  · subst e
    rw [if_pos rfl, if_pos (by rw [h.1]; omega)]
    show ls.getD s.toNat 0 + 1 = _
    rw [hc]
    simp
  · rw [if_neg (by omega), ← List.getD_eq_getElem?_getD, hc]
    have : ([s].count i) = 0 := by
      rw [List.count_cons, List.count_nil, beq_false_of_ne e]
      rfl
    rw [this]
    rfl
theorem ct_all {n : Nat} {T : List Kr.It} {ls : List Int} (h : Ct n (fl T) ls) : ls = pkl n T := by
  rw [← all_gW h.1]
  exact List.map_congr_left h.2
def cns (ws : List Int) : List Kr.It := srt ((seqI 0 ws.length).map (coin (gW ws)))
theorem cns_ok {ws : List Int} (hw : ∀ w ∈ ws, 0 ≤ w) : Cn (gW ws) ws.length (cns ws) := ⟨srt_perm _, fun i hi => hw _ (gW_mem rfl hi)⟩
theorem cns_one (ws : List Int) : pst (cns ws) 1 = cns ws := by
  show srt (cns ws ++ []) = _
  rw [List.append_nil]
  exact srt_srt _
theorem fl_mem {I : List Kr.It} {p : Kr.It} (h : p ∈ I) : p.2.length ≤ (fl I).length := by
  obtain ⟨a, b, rfl⟩ := List.append_of_mem h
  rw [fl_app, fl_cons, List.length_append, List.length_append]
  omega
theorem cut_take {α : Type} (xs : List α) (n : Nat) : cut xs none (some (n : Int)) = xs.take n := by
  unfold cut
  rw [HT.sIx_none, HT.sIx_nat, List.drop_zero, Nat.sub_zero]
  by_cases h : n ≤ xs.length
  · rw [Nat.min_eq_left h]
  · rw [Nat.min_eq_right (by omega), List.take_of_length_le (Nat.le_refl _), List.take_of_length_le (by omega)]
theorem ct_zero (n : Nat) : Ct n [] (List.replicate n 0) := ⟨List.length_replicate, fun i hi => by
  obtain ⟨h1, h2⟩ := mem_seqI.mp hi
  unfold gW
  rw [List.getD_eq_getElem?_getD, List.getElem?_replicate, if_pos (by omega)]
  rfl⟩
theorem packaged_eq {ws : List Int} {L : Nat} (hw : ∀ w ∈ ws, 0 ≤ w) (hn : 2 ≤ ws.length ∧ ws.length ≤ 40) (hL : 1 ≤ L ∧ L ≤ 20) : f_packaged_lengths ws L = .ok (pkl ws.length ((pst (cns ws) L).take (2 * ws.length - 2))) := by
  have hC := cns_ok hw
  have hfl : ∀ k ≤ 20, (fl (pst (cns ws) k)).length ≤ 800 ∧ (pst (cns ws) k).length ≤ 80 := fun k hk => by
    obtain ⟨h1, h2⟩ := pst_fl hC k
    have : ws.length * k ≤ 40 * 20 := Nat.mul_le_mul hn.2 hk
    omega
  unfold f_packaged_lengths b_packaged_lengths
  simp only [R.ok_bind, R.ok_pu, R.er_bind, R.bad_bind, R.ok_map, finR_rt, seqF_nx, seqF_rt, R.bind_ok, R.bind_bind, decide_eq_true_eq, Bool.not_eq_true', decide_eq_false_iff_not, Bool.false_eq_true, if_true, if_false, ite_nx]
  rw [lcR_map (fun p : Int × Int => coin (fun _ => p.2) p.1) (by rw [enumL_len]; omega) fun p _ => by
    rw [szR_ok (by simp), R.ok_bind]
    rfl, R.ok_bind]
  have ec : (enumL ws).map (fun p : Int × Int => coin (fun _ => p.2) p.1) = (seqI 0 ws.length).map (coin (gW ws)) := by
    refine List.ext_getElem? fun i => ?_
    rw [List.getElem?_map, enumL_get, List.getElem?_map, seqI_get]
    by_cases h : i < ws.length
    · rw [List.getElem?_eq_getElem h, if_pos h]
      show some (ws[i], [(i : Int)]) = some (gW ws (0 + (i : Int)), [0 + (i : Int)])
      have : gW ws (0 + (i : Int)) = ws[i] := by
        unfold gW
        rw [List.getD_eq_getElem?_getD, show (0 + (i : Int)).toNat = i by omega, List.getElem?_eq_getElem h]
        rfl
      rw [this, Int.zero_add]
    · rw [List.getElem?_eq_none (by omega), if_neg h]
      rfl
  rw [ec, sortR_ok (by rw [List.length_map, seqI_len]; omega), R.ok_bind, show ((seqI 0 ws.length).map (coin (gW ws))).mergeSort leD = cns ws from rfl, show (L : Int) - 1 = ((L - 1 : Nat) : Int) by omega, rng1_nat (by omega), R.ok_bind]
  refine forR_elim (P := fun r => finR r = R.ok (pkl ws.length ((pst (cns ws) L).take (2 * ws.length - 2)))) (fun j (s : List Kr.It) => s = pst (cns ws) (j + 1)) (cns_one ws).symm (fun j hj s hI => ?_) (fun s hI => ?_)
  · rw [seqI_len] at hj
    have h1 := hfl (j + 1) (by omega)
    have h2 := prs_len (pst (cns ws) (j + 1))
    have h3 := hC.len
    rw [hI, paired_eq (by omega) fun p hp => by have := fl_mem hp; omega, R.ok_pu, R.ok_bind, szR_ok (by rw [List.length_append]; omega), R.ok_bind, sortR_ok (by rw [List.length_append]; omega), R.ok_bind]
    exact ⟨_, rfl, rfl⟩
  · rw [seqI_len, show L - 1 + 1 = L by omega] at hI
    subst hI
    have hsy := (fl_wt (w := gW ws) (n := ws.length) ((pst (cns ws) L).take (2 * ws.length - 2)) fun p hp => pst_items hC L p (List.mem_of_mem_take hp)).2
    rw [szR_ok (by simp), R.ok_bind, repR_one (0 : Int) (n := ws.length) (by omega), R.ok_bind, mulR_ok (by omega) (by omega), R.ok_bind, show (2 : Int) * (ws.length : Int) - 2 = ((2 * ws.length - 2 : Nat) : Int) by omega, cut_take]
    generalize (pst (cns ws) L).take (2 * ws.length - 2) = T at hsy ⊢
    refine forR_elim (P := fun r => finR r = R.ok (pkl ws.length T)) (fun j (s : List Int) => Ct ws.length (fl (T.take j)) s) (ct_zero _) (fun j hj s hI => ?_) (fun s hI => ?_)
    · have hm : ∀ x ∈ T[j].2, x ∈ seqI 0 ws.length := fun x hx => by
        refine hsy x ?_
        unfold fl
        exact List.mem_flatMap.mpr ⟨T[j], List.getElem_mem hj, hx⟩
      have ht : fl (T.take (j + 1)) = fl (T.take j) ++ T[j].2 := by
        rw [List.take_add_one, List.getElem?_eq_getElem hj, fl_app]
        congr 1
        show fl [T[j]] = _
        rw [fl_cons]
        exact List.append_nil _
      rw [ht]
      generalize T[j].2 = xs at hm ⊢
      refine forR_elim (P := fun r => ∃ s', r = R.ok (Fl.nx s') ∧ Ct ws.length (fl (T.take j) ++ xs) s') (fun i (s : List Int) => Ct ws.length (fl (T.take j) ++ xs.take i) s) (by rw [List.take_zero, List.append_nil]; exact hI) (fun i hi s hI => ?_) (fun s hI => ?_)
      · have hx := hm _ (List.getElem_mem hi)
        obtain ⟨h1, h2⟩ := mem_seqI.mp hx
        have he : ix0R s xs[i] = .ok (s.getD xs[i].toNat 0) := if_pos ⟨h1, by rw [hI.1]; omega⟩
        rw [he, R.ok_bind]
        refine ⟨_, rfl, ?_⟩
        rw [List.take_add_one, List.getElem?_eq_getElem hi, ← List.append_assoc]
        exact hI.add hx
      · rw [List.take_length] at hI
        exact ⟨s, rfl, hI⟩
    · rw [List.take_length] at hI
      rw [finR_rt, ct_all hI]
/-! ### the joined cost -/
theorem cut_from2 (a b : Int) (r : List Int) : cut (a :: b :: r) (some 2) none = r := by
  unfold cut
  rw [show (2 : Int) = ((2 : Nat) : Int) from rfl, HT.sIx_nat, HT.sIx_none]
  simp
theorem joined_eq {ws : List Int} {k : Nat} (hk : ws.length = k + 1) (hn : k ≤ 100) : f__law_joined ws = .ok (hj k (srtI ws)) := by
  unfold f__law_joined b__law_joined
  simp only [R.ok_bind, R.ok_pu, R.er_bind, R.bad_bind, R.ok_map, finR_rt, seqF_nx, seqF_rt, R.bind_ok, R.bind_bind, decide_eq_true_eq, Bool.not_eq_true', decide_eq_false_iff_not, Bool.false_eq_true, if_true, if_false, ite_nx, hk]
  rw [sortR_ok (by omega), R.ok_bind, show ((k + 1 : Nat) : Int) - 1 = (k : Int) by omega, rng1_nat (by omega), R.ok_bind]
  refine forR_elim (P := fun r => finR r = R.ok (hj k (srtI ws))) (fun j (s : List Int × Int) => j ≤ k ∧ s.1.length = k - j + 1 ∧ s.2 + hj (k - j) s.1 = hj k (srtI ws)) ⟨Nat.zero_le _, by show (srtI ws).length = _; rw [srtI_len]; exact hk, by show 0 + hj k (srtI ws) = _; omega⟩ (fun j hj' s hI => ?_) (fun s hI => ?_)
  · rw [seqI_len] at hj'
    obtain ⟨i1, i2, i3⟩ := hI
    obtain ⟨W, pr⟩ := s
    replace i2 : W.length = k - j + 1 := i2
    replace i3 : pr + hj (k - j) W = hj k (srtI ws) := i3
    obtain ⟨m, hm⟩ : ∃ m, k - j = m + 1 := ⟨k - j - 1, by omega⟩
    rw [hm] at i2 i3
    obtain ⟨a, b, r, rfl, hr⟩ := two_of i2
    rw [hj_succ] at i3
    have x0 : idxR (a :: b :: r) 0 = .ok a := idxR_of (by decide) rfl
    have x1 : idxR (a :: b :: r) 1 = .ok b := idxR_of (by decide) rfl
    dsimp only
    rw [x0, R.ok_bind, x1, R.ok_bind, cut_from2, szR_ok (by simp), R.ok_bind, szR_ok (by rw [List.length_append]; simp; omega), R.ok_bind, sortR_ok (by rw [List.length_append]; simp; omega), R.ok_bind]
    refine ⟨_, rfl, by omega, ?_, ?_⟩
    · show (srtI (r ++ [a + b])).length = _
      rw [srtI_len, List.length_append, hr]
      simp
      omega
    · show pr + (a + b) + hj (k - (j + 1)) (srtI (r ++ [a + b])) = _
      rw [show k - (j + 1) = m by omega]
      omega
  · rw [seqI_len, Nat.sub_self, hj_zero] at hI
    rw [finR_rt, ← hI.2.2, Int.add_zero]
end Kx

namespace Kx
open PySem PySem.Spec PyProof.Rows L2 Kr
open Enc (toD)
/-- what the program says of packages -/
theorem pk_parts {ws : List Int} {L : Nat} (hw : ∀ w ∈ ws, 0 ≤ w ∧ w ≤ 1000000) (hn : 2 ≤ ws.length ∧ ws.length ≤ 40) (hL : 1 ≤ L ∧ L ≤ 20) (hp : ws.length ≤ 2 ^ L) :
    ∃ ls r mi ma T, f_packaged_lengths ws L = .ok ls ∧ ls.length = ws.length ∧ f_room ls = .ok r ∧ 0 ≤ r ∧ minR ls = .ok mi ∧ 1 ≤ mi ∧ maxR ls = .ok ma ∧ ma ≤ L ∧ f_cost ws ls = .ok (cst ws ls) ∧ Pk (gW ws) ws.length L T ∧ ls = pkl ws.length T := by
  have hw0 : ∀ w ∈ ws, 0 ≤ w := fun w h => (hw w h).1
  have hP := pack_ok (cns_ok hw0) hn.1 hp
  obtain ⟨c, e, le⟩ := pk_code rfl hP
  have hpe := packaged_eq hw0 hn hL
  generalize (pst (cns ws) L).take (2 * ws.length - 2) = T at hP c e le hpe
  have hne : pkl ws.length T ≠ [] := fun z => by
    have := c.len
    rw [z] at this
    simp at this
    omega
  obtain ⟨mi, a1, a2⟩ := minR_in hne
  obtain ⟨ma, b1, b2⟩ := maxR_in hne
  have b3 := c.bd _ a2
  have b4 := c.bd _ b2
  refine ⟨_, _, mi, ma, T, hpe, c.len, room_eq (lim := L) (by omega) (by omega) (by rw [c.len]; omega) c.bd, ?_, a1, b3.1, b1, b4.2, cost_eq ws _ (by omega) hw fun l hl => by have := c.bd l hl; omega, hP, rfl⟩
  have := c.kr
  exact Int.mul_nonneg (by omega) (Int.le_of_lt (pw_pos 20 L))
theorem law_all (ns : List Int) (hn : ns.length ≤ 63) : f_law ⟨ns⟩ = .ok true := by
  generalize hc0 : ns.getD (0 : Int).toNat 0 = c0
  generalize hc1 : ns.getD (1 : Int).toNat 0 = c1
  generalize hc18 : ns.getD (18 : Int).toNat 0 = c18
  have k0 : f__law_cell ⟨ns⟩ 0 = .ok c0 := by rw [cell_eq ns 0 (by decide), hc0]
  have k1 : f__law_cell ⟨ns⟩ 1 = .ok c1 := by rw [cell_eq ns 1 (by decide), hc1]
  have k18 : f__law_cell ⟨ns⟩ 18 = .ok c18 := by rw [cell_eq ns 18 (by decide), hc18]
  -- the first weights
  obtain ⟨n1, hn1⟩ : ∃ n1 : Nat, (n1 : Int) = 2 + c0 % 15 := ⟨(2 + c0 % 15).toNat, by omega⟩
  have hn1' : 2 ≤ n1 ∧ n1 ≤ 16 := by omega
  obtain ⟨ws, w1, w2, w3⟩ := weights_eq ns 2 n1 (by decide) (by omega)
  obtain ⟨l1, q1, q2, q3, q4⟩ := limit_ok (many := (n1 : Int)) (by omega)
  obtain ⟨m1, hm1⟩ : ∃ m1 : Nat, (m1 : Int) = min 16 ((l1 : Int) + c1 % 4) := ⟨(min 16 ((l1 : Int) + c1 % 4)).toNat, by omega⟩
  have hm1' : 1 ≤ m1 ∧ m1 ≤ 16 ∧ l1 ≤ m1 := by omega
  have hp1 : (ws.length : Int) ≤ pw m1 0 := by
    have := pw_up hm1'.2.2
    omega
  have hp2 : ws.length ≤ 2 ^ m1 := by
    have e : pw (m1 : Int) 0 = 2 ^ m1 := by
      unfold pw
      congr 1
    rw [e] at hp1
    exact_mod_cast hp1
  obtain ⟨ls, r, mi, ma, T, a1, a2, a3, a4, a5, a6, a7, a8, a9, a10, a11⟩ := pk_parts (ws := ws) (L := m1) w3 (by omega) (by omega) hp2
  have w0 : ∀ w ∈ ws, 0 ≤ w := fun w h => (w3 w h).1
  obtain ⟨v, hv⟩ := least_some (ws := ws) (lim := m1) (by omega) w0 (by omega) hp1
  obtain ⟨ls0, d1, d2, d3⟩ := least_eq (ws := ws) (lim := m1) (by omega) (by omega) (by omega) (by omega) hv
  obtain ⟨e1, e2, e3⟩ := least_is (lim := m1) (by omega) (by omega) d2 hv d3
  have hc0 : f_cost ws ls0 = .ok (cst ws ls0) := cost_eq ws ls0 (by omega) w3 fun l hl => by have := e1 l hl; omega
  have same : cst ws ls = cst ws ls0 := by
    obtain ⟨c, f1, f2⟩ := pk_code rfl a10
    rw [← a11] at c f1
    obtain ⟨v', g1, g2⟩ := least_le (ws := ws) (ls := ls) (lim := m1) (by omega) w0 (by omega) c.len c.bd c.kr
    rw [hv] at g1
    cases g1
    have h1 := f2 ls0 ⟨d2, e1, e2⟩
    have h2 : cst ws ls0 = v := e3
    have h3 : v ≤ cst ws ls := g2
    omega
  -- the others
  obtain ⟨k, hk⟩ : ∃ k : Nat, ((k + 1 : Nat) : Int) = 2 + c18 % 39 := ⟨(1 + c18 % 39).toNat, by omega⟩
  have hk' : 1 ≤ k ∧ k ≤ 39 := by omega
  obtain ⟨us, hus⟩ : ∃ us, us = (seqI 0 (k + 1)).map fun i => 1 + ns.getD (19 + i).toNat 0 % 200 := ⟨_, rfl⟩
  have hul : us.length = k + 1 := by rw [hus, List.length_map, seqI_len]
  have hub : ∀ u ∈ us, 1 ≤ u ∧ u ≤ 200 := fun u h => by
    rw [hus] at h
    obtain ⟨i, _, rfl⟩ := List.mem_map.mp h
    omega
  have husum : us.sum ≤ 8000 := by
    have := smI_le (f := fun u : Int => u) (g := fun _ => 1 * 200) (xs := us) fun u h => by have := hub u h; omega
    rw [smI_mul, smI_one, List.map_id'] at this
    omega
  have hlc : lcR (fun (_ : Int) => R.ok true) (fun k_544 => (f__law_cell ⟨ns⟩ (19 + k_544)).pu.bind fun a => (modR a 200).bind fun b => R.ok (1 + b)) (seqI 0 (k + 1)) = .ok us := by
    rw [hus, lcR_map (fun i => 1 + ns.getD (19 + i).toNat 0 % 200) (by rw [seqI_len]; omega) fun i hi => by
      have := mem_seqI.mp hi
      rw [cell_eq ns _ (by omega), R.ok_pu, R.ok_bind, modR_ok (by decide), R.ok_bind]]
  obtain ⟨ls2, r2, mi2, ma2, T2, b1, b2, b3, b4, b5, b6, b7, b8, b9, b10, b11⟩ := pk_parts (ws := us) (L := 20) (fun u h => by have := hub u h; omega) (by omega) (by decide) (by rw [hul]; exact Nat.le_trans (show k + 1 ≤ 40 by omega) (by decide))
  have hj1 := joined_eq hul (by omega)
  have hj2 : cst us ls2 = hj k (srtI us) := by
    rw [b11, hul]
    rw [hul] at b10
    exact join_pack hul hk'.1 (fun u h => (hub u h).1) husum b10
  have t1 : ¬ mi < 1 := by omega
  have t2 : ¬ (m1 : Int) < ma := by omega
  have t3 : ¬ r < 0 := by omega
  have t4 : ¬ mi2 < 1 := by omega
  have t5 : ¬ (20 : Int) < ma2 := by
    have : ma2 ≤ ((20 : Nat) : Int) := b8
    omega
  have t6 : ¬ r2 < 0 := by omega
  have b1' : f_packaged_lengths us 20 = .ok ls2 := b1
  unfold f_law b_law
  simp only [R.ok_bind, R.ok_pu, R.er_bind, R.bad_bind, R.ok_map, finR_rt, seqF_nx, seqF_rt, R.bind_ok, R.bind_bind, decide_eq_true_eq, Bool.not_eq_true', decide_eq_false_iff_not, Bool.false_eq_true, if_true, if_false, ite_nx, k0, k1, k18]
  rw [modR_ok (by decide), R.ok_bind, ← hn1]
  simp only [R.ok_bind, R.ok_pu, R.er_bind, R.bad_bind, R.ok_map, finR_rt, seqF_nx, seqF_rt, R.bind_ok, R.bind_bind, decide_eq_true_eq, Bool.not_eq_true', decide_eq_false_iff_not, Bool.false_eq_true, if_true, if_false, ite_nx, w1, q1]
  rw [modR_ok (by decide), R.ok_bind, ← hm1]
  simp only [R.ok_bind, R.ok_pu, R.er_bind, R.bad_bind, R.ok_map, finR_rt, seqF_nx, seqF_rt, R.bind_ok, R.bind_bind, decide_eq_true_eq, Bool.not_eq_true', decide_eq_false_iff_not, Bool.false_eq_true, if_true, if_false, ite_nx, a1, a2, w2, a3, a5, a7, a9, d1, hc0]
  have s1 : eqR ws ws = .ok true := eqR_self ws
  rw [s1, R.ok_bind]
  simp only [t1, t2, t3, same, not_true_eq_false, if_false, Bool.true_eq_false, decide_false, R.ok_bind, Bool.false_eq_true]
  rw [modR_ok (by decide), R.ok_bind, ← hk, rng1_nat (by omega), R.ok_bind, hlc]
  have s2 : (ls2.length : Int) = ((k + 1 : Nat) : Int) := by rw [b2, hul]
  simp only [R.ok_bind, R.ok_pu, R.er_bind, R.bad_bind, R.ok_map, finR_rt, seqF_nx, seqF_rt, R.bind_ok, R.bind_bind, decide_eq_true_eq, Bool.not_eq_true', decide_eq_false_iff_not, Bool.false_eq_true, if_true, if_false, ite_nx, b1', s2, b3, b5, b7, b9, hj1, hj2, t4, t5, t6, not_true_eq_false, decide_false, decide_true, finR_rt]
end Kx

namespace Kx
open PySem PySem.Spec PyProof.Rows L2 Kr
open Enc (toD)
def cfK (K : PySem.W.Frag) (mc : Nat → Addr := fun _ => 0) : Cf := ⟨K, fun _ => 0, fun _ => "", mc⟩
theorem all_mk {l : PySem.W.OpenLaw} {w : World} {K : PySem.W.Frag} {h : Heap} {mg : Str → Option Value} {fa : Addr} (X : K.In h) (G : h.Ns mainGlobals mg) (hfa : mg "law" = some (.ref fa))
    {ad_room : Addr} {od_room an_room : Option Addr} {sl_room : Array (Option Value)} {oc_room kV_room dc_room pm_room cd_room ct_room : Value}
    (a_room : PySem.W.nsIn K mainGlobals "room" = some (some (.ref ad_room)))
    (l_room : K.lookup ad_room = some ⟨oc_room, od_room, .func (PySem.W.fnOf "room" "room" (defArgs s_room) (defBody s_room) (defScope s_room) .none kV_room dc_room pm_room an_room cd_room ct_room), sl_room⟩)
    (c_room : PySem.W.codeIn K cd_room "room" = true) (k_room : PySem.W.keepIn K (.ref ad_room) = true)
    {ad_ranks : Addr} {od_ranks an_ranks : Option Addr} {sl_ranks : Array (Option Value)} {oc_ranks kV_ranks dc_ranks pm_ranks cd_ranks ct_ranks : Value}
    (a_ranks : PySem.W.nsIn K mainGlobals "ranks" = some (some (.ref ad_ranks)))
    (l_ranks : K.lookup ad_ranks = some ⟨oc_ranks, od_ranks, .func (PySem.W.fnOf "ranks" "ranks" (defArgs s_ranks) (defBody s_ranks) (defScope s_ranks) .none kV_ranks dc_ranks pm_ranks an_ranks cd_ranks ct_ranks), sl_ranks⟩)
    (c_ranks : PySem.W.codeIn K cd_ranks "ranks" = true) (k_ranks : PySem.W.keepIn K (.ref ad_ranks) = true)
    {ad_cost : Addr} {od_cost an_cost : Option Addr} {sl_cost : Array (Option Value)} {oc_cost kV_cost dc_cost pm_cost cd_cost ct_cost : Value}
    (a_cost : PySem.W.nsIn K mainGlobals "cost" = some (some (.ref ad_cost)))
    (l_cost : K.lookup ad_cost = some ⟨oc_cost, od_cost, .func (PySem.W.fnOf "cost" "cost" (defArgs s_cost) (defBody s_cost) (defScope s_cost) .none kV_cost dc_cost pm_cost an_cost cd_cost ct_cost), sl_cost⟩)
    (c_cost : PySem.W.codeIn K cd_cost "cost" = true) (k_cost : PySem.W.keepIn K (.ref ad_cost) = true)
    {ad_rests : Addr} {od_rests an_rests : Option Addr} {sl_rests : Array (Option Value)} {oc_rests kV_rests dc_rests pm_rests cd_rests ct_rests : Value}
    (a_rests : PySem.W.nsIn K mainGlobals "rests" = some (some (.ref ad_rests)))
    (l_rests : K.lookup ad_rests = some ⟨oc_rests, od_rests, .func (PySem.W.fnOf "rests" "rests" (defArgs s_rests) (defBody s_rests) (defScope s_rests) .none kV_rests dc_rests pm_rests an_rests cd_rests ct_rests), sl_rests⟩)
    (c_rests : PySem.W.codeIn K cd_rests "rests" = true) (k_rests : PySem.W.keepIn K (.ref ad_rests) = true)
    {ad_choices_by : Addr} {od_choices_by an_choices_by : Option Addr} {sl_choices_by : Array (Option Value)} {oc_choices_by kV_choices_by dc_choices_by pm_choices_by cd_choices_by ct_choices_by : Value}
    (a_choices_by : PySem.W.nsIn K mainGlobals "choices_by" = some (some (.ref ad_choices_by)))
    (l_choices_by : K.lookup ad_choices_by = some ⟨oc_choices_by, od_choices_by, .func (PySem.W.fnOf "choices_by" "choices_by" (defArgs s_choices_by) (defBody s_choices_by) (defScope s_choices_by) .none kV_choices_by dc_choices_by pm_choices_by an_choices_by cd_choices_by ct_choices_by), sl_choices_by⟩)
    (c_choices_by : PySem.W.codeIn K cd_choices_by "choices_by" = true) (k_choices_by : PySem.W.keepIn K (.ref ad_choices_by) = true)
    {ad_choices : Addr} {od_choices an_choices : Option Addr} {sl_choices : Array (Option Value)} {oc_choices kV_choices dc_choices pm_choices cd_choices ct_choices : Value}
    (a_choices : PySem.W.nsIn K mainGlobals "choices" = some (some (.ref ad_choices)))
    (l_choices : K.lookup ad_choices = some ⟨oc_choices, od_choices, .func (PySem.W.fnOf "choices" "choices" (defArgs s_choices) (defBody s_choices) (defScope s_choices) .none kV_choices dc_choices pm_choices an_choices cd_choices ct_choices), sl_choices⟩)
    (c_choices : PySem.W.codeIn K cd_choices "choices" = true) (k_choices : PySem.W.keepIn K (.ref ad_choices) = true)
    {ad_stages : Addr} {od_stages an_stages : Option Addr} {sl_stages : Array (Option Value)} {oc_stages kV_stages dc_stages pm_stages cd_stages ct_stages : Value}
    (a_stages : PySem.W.nsIn K mainGlobals "stages" = some (some (.ref ad_stages)))
    (l_stages : K.lookup ad_stages = some ⟨oc_stages, od_stages, .func (PySem.W.fnOf "stages" "stages" (defArgs s_stages) (defBody s_stages) (defScope s_stages) .none kV_stages dc_stages pm_stages an_stages cd_stages ct_stages), sl_stages⟩)
    (c_stages : PySem.W.codeIn K cd_stages "stages" = true) (k_stages : PySem.W.keepIn K (.ref ad_stages) = true)
    {ad_values : Addr} {od_values an_values : Option Addr} {sl_values : Array (Option Value)} {oc_values kV_values dc_values pm_values cd_values ct_values : Value}
    (a_values : PySem.W.nsIn K mainGlobals "values" = some (some (.ref ad_values)))
    (l_values : K.lookup ad_values = some ⟨oc_values, od_values, .func (PySem.W.fnOf "values" "values" (defArgs s_values) (defBody s_values) (defScope s_values) .none kV_values dc_values pm_values an_values cd_values ct_values), sl_values⟩)
    (c_values : PySem.W.codeIn K cd_values "values" = true) (k_values : PySem.W.keepIn K (.ref ad_values) = true)
    {ad_best_choice : Addr} {od_best_choice an_best_choice : Option Addr} {sl_best_choice : Array (Option Value)} {oc_best_choice kV_best_choice dc_best_choice pm_best_choice cd_best_choice ct_best_choice : Value}
    (a_best_choice : PySem.W.nsIn K mainGlobals "best_choice" = some (some (.ref ad_best_choice)))
    (l_best_choice : K.lookup ad_best_choice = some ⟨oc_best_choice, od_best_choice, .func (PySem.W.fnOf "best_choice" "best_choice" (defArgs s_best_choice) (defBody s_best_choice) (defScope s_best_choice) .none kV_best_choice dc_best_choice pm_best_choice an_best_choice cd_best_choice ct_best_choice), sl_best_choice⟩)
    (c_best_choice : PySem.W.codeIn K cd_best_choice "best_choice" = true) (k_best_choice : PySem.W.keepIn K (.ref ad_best_choice) = true)
    {ad_lengths_by : Addr} {od_lengths_by an_lengths_by : Option Addr} {sl_lengths_by : Array (Option Value)} {oc_lengths_by kV_lengths_by dc_lengths_by pm_lengths_by cd_lengths_by ct_lengths_by : Value}
    (a_lengths_by : PySem.W.nsIn K mainGlobals "lengths_by" = some (some (.ref ad_lengths_by)))
    (l_lengths_by : K.lookup ad_lengths_by = some ⟨oc_lengths_by, od_lengths_by, .func (PySem.W.fnOf "lengths_by" "lengths_by" (defArgs s_lengths_by) (defBody s_lengths_by) (defScope s_lengths_by) .none kV_lengths_by dc_lengths_by pm_lengths_by an_lengths_by cd_lengths_by ct_lengths_by), sl_lengths_by⟩)
    (c_lengths_by : PySem.W.codeIn K cd_lengths_by "lengths_by" = true) (k_lengths_by : PySem.W.keepIn K (.ref ad_lengths_by) = true)
    {ad_least_lengths : Addr} {od_least_lengths an_least_lengths : Option Addr} {sl_least_lengths : Array (Option Value)} {oc_least_lengths kV_least_lengths dc_least_lengths pm_least_lengths cd_least_lengths ct_least_lengths : Value}
    (a_least_lengths : PySem.W.nsIn K mainGlobals "least_lengths" = some (some (.ref ad_least_lengths)))
    (l_least_lengths : K.lookup ad_least_lengths = some ⟨oc_least_lengths, od_least_lengths, .func (PySem.W.fnOf "least_lengths" "least_lengths" (defArgs s_least_lengths) (defBody s_least_lengths) (defScope s_least_lengths) .none kV_least_lengths dc_least_lengths pm_least_lengths an_least_lengths cd_least_lengths ct_least_lengths), sl_least_lengths⟩)
    (c_least_lengths : PySem.W.codeIn K cd_least_lengths "least_lengths" = true) (k_least_lengths : PySem.W.keepIn K (.ref ad_least_lengths) = true)
    {ad_paired : Addr} {od_paired an_paired : Option Addr} {sl_paired : Array (Option Value)} {oc_paired kV_paired dc_paired pm_paired cd_paired ct_paired : Value}
    (a_paired : PySem.W.nsIn K mainGlobals "paired" = some (some (.ref ad_paired)))
    (l_paired : K.lookup ad_paired = some ⟨oc_paired, od_paired, .func (PySem.W.fnOf "paired" "paired" (defArgs s_paired) (defBody s_paired) (defScope s_paired) .none kV_paired dc_paired pm_paired an_paired cd_paired ct_paired), sl_paired⟩)
    (c_paired : PySem.W.codeIn K cd_paired "paired" = true) (k_paired : PySem.W.keepIn K (.ref ad_paired) = true)
    {ad_packaged_lengths : Addr} {od_packaged_lengths an_packaged_lengths : Option Addr} {sl_packaged_lengths : Array (Option Value)} {oc_packaged_lengths kV_packaged_lengths dc_packaged_lengths pm_packaged_lengths cd_packaged_lengths ct_packaged_lengths : Value}
    (a_packaged_lengths : PySem.W.nsIn K mainGlobals "packaged_lengths" = some (some (.ref ad_packaged_lengths)))
    (l_packaged_lengths : K.lookup ad_packaged_lengths = some ⟨oc_packaged_lengths, od_packaged_lengths, .func (PySem.W.fnOf "packaged_lengths" "packaged_lengths" (defArgs s_packaged_lengths) (defBody s_packaged_lengths) (defScope s_packaged_lengths) .none kV_packaged_lengths dc_packaged_lengths pm_packaged_lengths an_packaged_lengths cd_packaged_lengths ct_packaged_lengths), sl_packaged_lengths⟩)
    (c_packaged_lengths : PySem.W.codeIn K cd_packaged_lengths "packaged_lengths" = true) (k_packaged_lengths : PySem.W.keepIn K (.ref ad_packaged_lengths) = true)
    {ad__law_cell : Addr} {od__law_cell an__law_cell : Option Addr} {sl__law_cell : Array (Option Value)} {oc__law_cell kV__law_cell dc__law_cell pm__law_cell cd__law_cell ct__law_cell : Value}
    (a__law_cell : PySem.W.nsIn K mainGlobals "_law_cell" = some (some (.ref ad__law_cell)))
    (l__law_cell : K.lookup ad__law_cell = some ⟨oc__law_cell, od__law_cell, .func (PySem.W.fnOf "_law_cell" "_law_cell" (defArgs s__law_cell) (defBody s__law_cell) (defScope s__law_cell) .none kV__law_cell dc__law_cell pm__law_cell an__law_cell cd__law_cell ct__law_cell), sl__law_cell⟩)
    (c__law_cell : PySem.W.codeIn K cd__law_cell "_law_cell" = true) (k__law_cell : PySem.W.keepIn K (.ref ad__law_cell) = true)
    {ad__law_weights : Addr} {od__law_weights an__law_weights : Option Addr} {sl__law_weights : Array (Option Value)} {oc__law_weights kV__law_weights dc__law_weights pm__law_weights cd__law_weights ct__law_weights : Value}
    (a__law_weights : PySem.W.nsIn K mainGlobals "_law_weights" = some (some (.ref ad__law_weights)))
    (l__law_weights : K.lookup ad__law_weights = some ⟨oc__law_weights, od__law_weights, .func (PySem.W.fnOf "_law_weights" "_law_weights" (defArgs s__law_weights) (defBody s__law_weights) (defScope s__law_weights) .none kV__law_weights dc__law_weights pm__law_weights an__law_weights cd__law_weights ct__law_weights), sl__law_weights⟩)
    (c__law_weights : PySem.W.codeIn K cd__law_weights "_law_weights" = true) (k__law_weights : PySem.W.keepIn K (.ref ad__law_weights) = true)
    {ad__law_least_limit : Addr} {od__law_least_limit an__law_least_limit : Option Addr} {sl__law_least_limit : Array (Option Value)} {oc__law_least_limit kV__law_least_limit dc__law_least_limit pm__law_least_limit cd__law_least_limit ct__law_least_limit : Value}
    (a__law_least_limit : PySem.W.nsIn K mainGlobals "_law_least_limit" = some (some (.ref ad__law_least_limit)))
    (l__law_least_limit : K.lookup ad__law_least_limit = some ⟨oc__law_least_limit, od__law_least_limit, .func (PySem.W.fnOf "_law_least_limit" "_law_least_limit" (defArgs s__law_least_limit) (defBody s__law_least_limit) (defScope s__law_least_limit) .none kV__law_least_limit dc__law_least_limit pm__law_least_limit an__law_least_limit cd__law_least_limit ct__law_least_limit), sl__law_least_limit⟩)
    (c__law_least_limit : PySem.W.codeIn K cd__law_least_limit "_law_least_limit" = true) (k__law_least_limit : PySem.W.keepIn K (.ref ad__law_least_limit) = true)
    {ad__law_joined : Addr} {od__law_joined an__law_joined : Option Addr} {sl__law_joined : Array (Option Value)} {oc__law_joined kV__law_joined dc__law_joined pm__law_joined cd__law_joined ct__law_joined : Value}
    (a__law_joined : PySem.W.nsIn K mainGlobals "_law_joined" = some (some (.ref ad__law_joined)))
    (l__law_joined : K.lookup ad__law_joined = some ⟨oc__law_joined, od__law_joined, .func (PySem.W.fnOf "_law_joined" "_law_joined" (defArgs s__law_joined) (defBody s__law_joined) (defScope s__law_joined) .none kV__law_joined dc__law_joined pm__law_joined an__law_joined cd__law_joined ct__law_joined), sl__law_joined⟩)
    (c__law_joined : PySem.W.codeIn K cd__law_joined "_law_joined" = true) (k__law_joined : PySem.W.keepIn K (.ref ad__law_joined) = true)
    {ad_law : Addr} {od_law an_law : Option Addr} {sl_law : Array (Option Value)} {oc_law kV_law dc_law pm_law cd_law ct_law : Value}
    (a_law : PySem.W.nsIn K mainGlobals "law" = some (some (.ref ad_law)))
    (l_law : K.lookup ad_law = some ⟨oc_law, od_law, .func (PySem.W.fnOf "law" "law" (defArgs s_law) (defBody s_law) (defScope s_law) .none kV_law dc_law pm_law an_law cd_law ct_law), sl_law⟩)
    (c_law : PySem.W.codeIn K cd_law "law" = true) (k_law : PySem.W.keepIn K (.ref ad_law) = true)
    (z_enumerate : PySem.W.nsIn K mainGlobals "enumerate" = some none)
    (z_int : PySem.W.nsIn K mainGlobals "int" = some none)
    (z_len : PySem.W.nsIn K mainGlobals "len" = some none)
    (z_list : PySem.W.nsIn K mainGlobals "list" = some none)
    (z_max : PySem.W.nsIn K mainGlobals "max" = some none)
    (z_min : PySem.W.nsIn K mainGlobals "min" = some none)
    (z_range : PySem.W.nsIn K mainGlobals "range" = some none)
    (z_reversed : PySem.W.nsIn K mainGlobals "reversed" = some none)
    (z_sorted : PySem.W.nsIn K mainGlobals "sorted" = some none)
    (z_sum : PySem.W.nsIn K mainGlobals "sum" = some none)
    (z_zip : PySem.W.nsIn K mainGlobals "zip" = some none)
    {t_GREATEST : Tok} (y_GREATEST : PySem.W.nsIn K mainGlobals "GREATEST" = some (some (.int 20 t_GREATEST)))
    : ∃ fd : FuncData, (∀ (s : Shared) (v : Value), BindsTo s fd ⟨[v], []⟩ [("_law_script", v)]) ∧
      ∀ base : Heap, K.In base → base.Ns mainGlobals mg → FnOk l.prog w K mg base CX0 7 fa fd ["_law_script"] (SpP (cfK K) 1 (sp1 f_law)) := by
  have e := hfa.symm.trans (PySem.W.mg_of X G a_law)
  cases e
  refine ⟨PySem.W.fnOf "law" "law" (defArgs s_law) (defBody s_law) (defScope s_law) .none kV_law dc_law pm_law an_law cd_law ct_law, fun s v => .of_eq rfl, fun base _ _ => ?_⟩
  let T : Txt l.prog w (cfK K) mg base := {
    a_room := ad_room
    d_room := PySem.W.fnOf "room" "room" (defArgs s_room) (defBody s_room) (defScope s_room) .none kV_room dc_room pm_room an_room cd_room ct_room
    F_room := fun_mk (st := s_room) l_room c_room k_room
    b_room := (fun_mk (st := s_room) l_room c_room k_room).binds (ps := ["lengths"]) fun _ _ _ _ _ _ us hl => match us, hl with | [_], _ => rfl
    g_room := PySem.W.mg_of X G a_room
    a_ranks := ad_ranks
    d_ranks := PySem.W.fnOf "ranks" "ranks" (defArgs s_ranks) (defBody s_ranks) (defScope s_ranks) .none kV_ranks dc_ranks pm_ranks an_ranks cd_ranks ct_ranks
    F_ranks := fun_mk (st := s_ranks) l_ranks c_ranks k_ranks
    b_ranks := (fun_mk (st := s_ranks) l_ranks c_ranks k_ranks).binds (ps := ["weights"]) fun _ _ _ _ _ _ us hl => match us, hl with | [_], _ => rfl
    g_ranks := PySem.W.mg_of X G a_ranks
    a_cost := ad_cost
    d_cost := PySem.W.fnOf "cost" "cost" (defArgs s_cost) (defBody s_cost) (defScope s_cost) .none kV_cost dc_cost pm_cost an_cost cd_cost ct_cost
    F_cost := fun_mk (st := s_cost) l_cost c_cost k_cost
    b_cost := (fun_mk (st := s_cost) l_cost c_cost k_cost).binds (ps := ["weights", "lengths"]) fun _ _ _ _ _ _ us hl => match us, hl with | [_, _], _ => rfl
    g_cost := PySem.W.mg_of X G a_cost
    a_rests := ad_rests
    d_rests := PySem.W.fnOf "rests" "rests" (defArgs s_rests) (defBody s_rests) (defScope s_rests) .none kV_rests dc_rests pm_rests an_rests cd_rests ct_rests
    F_rests := fun_mk (st := s_rests) l_rests c_rests k_rests
    b_rests := (fun_mk (st := s_rests) l_rests c_rests k_rests).binds (ps := ["weights"]) fun _ _ _ _ _ _ us hl => match us, hl with | [_], _ => rfl
    g_rests := PySem.W.mg_of X G a_rests
    a_choices_by := ad_choices_by
    d_choices_by := PySem.W.fnOf "choices_by" "choices_by" (defArgs s_choices_by) (defBody s_choices_by) (defScope s_choices_by) .none kV_choices_by dc_choices_by pm_choices_by an_choices_by cd_choices_by ct_choices_by
    F_choices_by := fun_mk (st := s_choices_by) l_choices_by c_choices_by k_choices_by
    b_choices_by := (fun_mk (st := s_choices_by) l_choices_by c_choices_by k_choices_by).binds (ps := ["sums", "limit", "stage"]) fun _ _ _ _ _ _ us hl => match us, hl with | [_, _, _], _ => rfl
    g_choices_by := PySem.W.mg_of X G a_choices_by
    a_choices := ad_choices
    d_choices := PySem.W.fnOf "choices" "choices" (defArgs s_choices) (defBody s_choices) (defScope s_choices) .none kV_choices dc_choices pm_choices an_choices cd_choices ct_choices
    F_choices := fun_mk (st := s_choices) l_choices c_choices k_choices
    b_choices := (fun_mk (st := s_choices) l_choices c_choices k_choices).binds (ps := ["weights", "limit", "stage"]) fun _ _ _ _ _ _ us hl => match us, hl with | [_, _, _], _ => rfl
    g_choices := PySem.W.mg_of X G a_choices
    a_stages := ad_stages
    d_stages := PySem.W.fnOf "stages" "stages" (defArgs s_stages) (defBody s_stages) (defScope s_stages) .none kV_stages dc_stages pm_stages an_stages cd_stages ct_stages
    F_stages := fun_mk (st := s_stages) l_stages c_stages k_stages
    b_stages := (fun_mk (st := s_stages) l_stages c_stages k_stages).binds (ps := ["sums", "limit"]) fun _ _ _ _ _ _ us hl => match us, hl with | [_, _], _ => rfl
    g_stages := PySem.W.mg_of X G a_stages
    a_values := ad_values
    d_values := PySem.W.fnOf "values" "values" (defArgs s_values) (defBody s_values) (defScope s_values) .none kV_values dc_values pm_values an_values cd_values ct_values
    F_values := fun_mk (st := s_values) l_values c_values k_values
    b_values := (fun_mk (st := s_values) l_values c_values k_values).binds (ps := ["weights", "limit"]) fun _ _ _ _ _ _ us hl => match us, hl with | [_, _], _ => rfl
    g_values := PySem.W.mg_of X G a_values
    a_best_choice := ad_best_choice
    d_best_choice := PySem.W.fnOf "best_choice" "best_choice" (defArgs s_best_choice) (defBody s_best_choice) (defScope s_best_choice) .none kV_best_choice dc_best_choice pm_best_choice an_best_choice cd_best_choice ct_best_choice
    F_best_choice := fun_mk (st := s_best_choice) l_best_choice c_best_choice k_best_choice
    b_best_choice := (fun_mk (st := s_best_choice) l_best_choice c_best_choice k_best_choice).binds (ps := ["weights", "limit", "table", "stage"]) fun _ _ _ _ _ _ us hl => match us, hl with | [_, _, _, _], _ => rfl
    g_best_choice := PySem.W.mg_of X G a_best_choice
    a_lengths_by := ad_lengths_by
    d_lengths_by := PySem.W.fnOf "lengths_by" "lengths_by" (defArgs s_lengths_by) (defBody s_lengths_by) (defScope s_lengths_by) .none kV_lengths_by dc_lengths_by pm_lengths_by an_lengths_by cd_lengths_by ct_lengths_by
    F_lengths_by := fun_mk (st := s_lengths_by) l_lengths_by c_lengths_by k_lengths_by
    b_lengths_by := (fun_mk (st := s_lengths_by) l_lengths_by c_lengths_by k_lengths_by).binds (ps := ["weights", "limit", "table"]) fun _ _ _ _ _ _ us hl => match us, hl with | [_, _, _], _ => rfl
    g_lengths_by := PySem.W.mg_of X G a_lengths_by
    a_least_lengths := ad_least_lengths
    d_least_lengths := PySem.W.fnOf "least_lengths" "least_lengths" (defArgs s_least_lengths) (defBody s_least_lengths) (defScope s_least_lengths) .none kV_least_lengths dc_least_lengths pm_least_lengths an_least_lengths cd_least_lengths ct_least_lengths
    F_least_lengths := fun_mk (st := s_least_lengths) l_least_lengths c_least_lengths k_least_lengths
    b_least_lengths := (fun_mk (st := s_least_lengths) l_least_lengths c_least_lengths k_least_lengths).binds (ps := ["weights", "limit"]) fun _ _ _ _ _ _ us hl => match us, hl with | [_, _], _ => rfl
    g_least_lengths := PySem.W.mg_of X G a_least_lengths
    a_paired := ad_paired
    d_paired := PySem.W.fnOf "paired" "paired" (defArgs s_paired) (defBody s_paired) (defScope s_paired) .none kV_paired dc_paired pm_paired an_paired cd_paired ct_paired
    F_paired := fun_mk (st := s_paired) l_paired c_paired k_paired
    b_paired := (fun_mk (st := s_paired) l_paired c_paired k_paired).binds (ps := ["items"]) fun _ _ _ _ _ _ us hl => match us, hl with | [_], _ => rfl
    g_paired := PySem.W.mg_of X G a_paired
    a_packaged_lengths := ad_packaged_lengths
    d_packaged_lengths := PySem.W.fnOf "packaged_lengths" "packaged_lengths" (defArgs s_packaged_lengths) (defBody s_packaged_lengths) (defScope s_packaged_lengths) .none kV_packaged_lengths dc_packaged_lengths pm_packaged_lengths an_packaged_lengths cd_packaged_lengths ct_packaged_lengths
    F_packaged_lengths := fun_mk (st := s_packaged_lengths) l_packaged_lengths c_packaged_lengths k_packaged_lengths
    b_packaged_lengths := (fun_mk (st := s_packaged_lengths) l_packaged_lengths c_packaged_lengths k_packaged_lengths).binds (ps := ["weights", "limit"]) fun _ _ _ _ _ _ us hl => match us, hl with | [_, _], _ => rfl
    g_packaged_lengths := PySem.W.mg_of X G a_packaged_lengths
    a__law_cell := ad__law_cell
    d__law_cell := PySem.W.fnOf "_law_cell" "_law_cell" (defArgs s__law_cell) (defBody s__law_cell) (defScope s__law_cell) .none kV__law_cell dc__law_cell pm__law_cell an__law_cell cd__law_cell ct__law_cell
    F__law_cell := fun_mk (st := s__law_cell) l__law_cell c__law_cell k__law_cell
    b__law_cell := (fun_mk (st := s__law_cell) l__law_cell c__law_cell k__law_cell).binds (ps := ["_law_script", "_law_k"]) fun _ _ _ _ _ _ us hl => match us, hl with | [_, _], _ => rfl
    g__law_cell := PySem.W.mg_of X G a__law_cell
    a__law_weights := ad__law_weights
    d__law_weights := PySem.W.fnOf "_law_weights" "_law_weights" (defArgs s__law_weights) (defBody s__law_weights) (defScope s__law_weights) .none kV__law_weights dc__law_weights pm__law_weights an__law_weights cd__law_weights ct__law_weights
    F__law_weights := fun_mk (st := s__law_weights) l__law_weights c__law_weights k__law_weights
    b__law_weights := (fun_mk (st := s__law_weights) l__law_weights c__law_weights k__law_weights).binds (ps := ["_law_script", "_law_first", "_law_many"]) fun _ _ _ _ _ _ us hl => match us, hl with | [_, _, _], _ => rfl
    g__law_weights := PySem.W.mg_of X G a__law_weights
    a__law_least_limit := ad__law_least_limit
    d__law_least_limit := PySem.W.fnOf "_law_least_limit" "_law_least_limit" (defArgs s__law_least_limit) (defBody s__law_least_limit) (defScope s__law_least_limit) .none kV__law_least_limit dc__law_least_limit pm__law_least_limit an__law_least_limit cd__law_least_limit ct__law_least_limit
    F__law_least_limit := fun_mk (st := s__law_least_limit) l__law_least_limit c__law_least_limit k__law_least_limit
    b__law_least_limit := (fun_mk (st := s__law_least_limit) l__law_least_limit c__law_least_limit k__law_least_limit).binds (ps := ["_law_many"]) fun _ _ _ _ _ _ us hl => match us, hl with | [_], _ => rfl
    g__law_least_limit := PySem.W.mg_of X G a__law_least_limit
    a__law_joined := ad__law_joined
    d__law_joined := PySem.W.fnOf "_law_joined" "_law_joined" (defArgs s__law_joined) (defBody s__law_joined) (defScope s__law_joined) .none kV__law_joined dc__law_joined pm__law_joined an__law_joined cd__law_joined ct__law_joined
    F__law_joined := fun_mk (st := s__law_joined) l__law_joined c__law_joined k__law_joined
    b__law_joined := (fun_mk (st := s__law_joined) l__law_joined c__law_joined k__law_joined).binds (ps := ["_law_weights_here"]) fun _ _ _ _ _ _ us hl => match us, hl with | [_], _ => rfl
    g__law_joined := PySem.W.mg_of X G a__law_joined
    a_law := fa
    d_law := PySem.W.fnOf "law" "law" (defArgs s_law) (defBody s_law) (defScope s_law) .none kV_law dc_law pm_law an_law cd_law ct_law
    F_law := fun_mk (st := s_law) l_law c_law k_law
    b_law := (fun_mk (st := s_law) l_law c_law k_law).binds (ps := ["_law_script"]) fun _ _ _ _ _ _ us hl => match us, hl with | [_], _ => rfl
    g_law := PySem.W.mg_of X G a_law
    n_enumerate := PySem.W.mg_none_of X G z_enumerate
    n_int := PySem.W.mg_none_of X G z_int
    n_len := PySem.W.mg_none_of X G z_len
    n_list := PySem.W.mg_none_of X G z_list
    n_max := PySem.W.mg_none_of X G z_max
    n_min := PySem.W.mg_none_of X G z_min
    n_range := PySem.W.mg_none_of X G z_range
    n_reversed := PySem.W.mg_none_of X G z_reversed
    n_sorted := PySem.W.mg_none_of X G z_sorted
    n_sum := PySem.W.mg_none_of X G z_sum
    n_zip := PySem.W.mg_none_of X G z_zip
    k_GREATEST := t_GREATEST
    c_GREATEST := PySem.W.mg_of X G y_GREATEST }
  exact ok_law T
theorem law_end {K : PySem.W.Frag} {H : Hp} {a : Addr} {ns : List Int} {E : XK} (hl : ns.length ≤ 63) (hS : SqL K H a (ns.map V.int)) (hlaw : ∀ ns : List Int, ns.length ≤ 63 → f_law ⟨ns⟩ = .ok true) : SpP (cfK K) 1 (sp1 f_law) [.ref a] H (fun v _ => v = .bl true) E :=
  ⟨rfl, H, fun _ => none, [toD (Scr.mk ns)], toD true, ⟨Le.refl H, fun _ _ e => (nomatch e), fun _ _ => rfl, fun _ _ e => (nomatch e)⟩, .cons (.scr hS) .nil, ⟨⟨ns⟩, rfl, by rw [hlaw ns hl]; rfl⟩, fun v F' H' _ _ r => dr_bl (i := true) r⟩
end Kx
open PySem PySem.W PyProof.Rows
set_option maxHeartbeats 0 in
theorem PySem.Challenge.cw_kraftroom_k05_whole_packages_holds : PySem.Challenge.rw_kraftroom_k05_whole_packages.Holds := by
  w_on; o_law; k_head; (case hw => w_witness2)
  k_fill
  refine L2.walk_of (l := PySem.Challenge.rw_kraftroom_k05_whole_packages) (n := 63) (k := 7) (x := "_law_script") (CX := fun _ => L2.CX0) (sp := fun w => Kr.SpP (Kx.cfK _) 1 (Kr.sp1 Kx.f_law)) rfl (by decide) rfl ⟨rfl, by decide, by decide⟩ (fun w h Y => PySem.W.kIn_of Y) ?F (fun _ _ a ns hl _ hS => Kx.law_end hl hS Kx.law_all) (fun _ _ _ _ _ h => h)
  case F =>
    intro w mg fa h KX G hmg
    refine' Kx.all_mk KX G hmg ?a_room ?l_room ?c_room ?k_room ?a_ranks ?l_ranks ?c_ranks ?k_ranks ?a_cost ?l_cost ?c_cost ?k_cost ?a_rests ?l_rests ?c_rests ?k_rests ?a_choices_by ?l_choices_by ?c_choices_by ?k_choices_by ?a_choices ?l_choices ?c_choices ?k_choices ?a_stages ?l_stages ?c_stages ?k_stages ?a_values ?l_values ?c_values ?k_values ?a_best_choice ?l_best_choice ?c_best_choice ?k_best_choice ?a_lengths_by ?l_lengths_by ?c_lengths_by ?k_lengths_by ?a_least_lengths ?l_least_lengths ?c_least_lengths ?k_least_lengths ?a_paired ?l_paired ?c_paired ?k_paired ?a_packaged_lengths ?l_packaged_lengths ?c_packaged_lengths ?k_packaged_lengths ?a__law_cell ?l__law_cell ?c__law_cell ?k__law_cell ?a__law_weights ?l__law_weights ?c__law_weights ?k__law_weights ?a__law_least_limit ?l__law_least_limit ?c__law_least_limit ?k__law_least_limit ?a__law_joined ?l__law_joined ?c__law_joined ?k__law_joined ?a_law ?l_law ?c_law ?k_law ?z_enumerate ?z_int ?z_len ?z_list ?z_max ?z_min ?z_range ?z_reversed ?z_sorted ?z_sum ?z_zip ?y_GREATEST
    (case a_room => k_is); (case a_ranks => k_is); (case a_cost => k_is); (case a_rests => k_is); (case a_choices_by => k_is); (case a_choices => k_is); (case a_stages => k_is); (case a_values => k_is); (case a_best_choice => k_is); (case a_lengths_by => k_is); (case a_least_lengths => k_is); (case a_paired => k_is); (case a_packaged_lengths => k_is); (case a__law_cell => k_is); (case a__law_weights => k_is); (case a__law_least_limit => k_is); (case a__law_joined => k_is); (case a_law => k_is); (case l_room => k_is); (case l_ranks => k_is); (case l_cost => k_is); (case l_rests => k_is); (case l_choices_by => k_is); (case l_choices => k_is); (case l_stages => k_is); (case l_values => k_is); (case l_best_choice => k_is); (case l_lengths_by => k_is); (case l_least_lengths => k_is); (case l_paired => k_is); (case l_packaged_lengths => k_is); (case l__law_cell => k_is); (case l__law_weights => k_is); (case l__law_least_limit => k_is); (case l__law_joined => k_is); (case l_law => k_is); (case c_room => k_is); (case k_room => k_is); (case c_ranks => k_is); (case k_ranks => k_is); (case c_cost => k_is); (case k_cost => k_is); (case c_rests => k_is); (case k_rests => k_is); (case c_choices_by => k_is); (case k_choices_by => k_is); (case c_choices => k_is); (case k_choices => k_is); (case c_stages => k_is); (case k_stages => k_is); (case c_values => k_is); (case k_values => k_is); (case c_best_choice => k_is); (case k_best_choice => k_is); (case c_lengths_by => k_is); (case k_lengths_by => k_is); (case c_least_lengths => k_is); (case k_least_lengths => k_is); (case c_paired => k_is); (case k_paired => k_is); (case c_packaged_lengths => k_is); (case k_packaged_lengths => k_is); (case c__law_cell => k_is); (case k__law_cell => k_is); (case c__law_weights => k_is); (case k__law_weights => k_is); (case c__law_least_limit => k_is); (case k__law_least_limit => k_is); (case c__law_joined => k_is); (case k__law_joined => k_is); (case c_law => k_is); (case k_law => k_is); (case z_enumerate => k_is); (case z_int => k_is); (case z_len => k_is); (case z_list => k_is); (case z_max => k_is); (case z_min => k_is); (case z_range => k_is); (case z_reversed => k_is); (case z_sorted => k_is); (case z_sum => k_is); (case z_zip => k_is); (case y_GREATEST => k_is)
