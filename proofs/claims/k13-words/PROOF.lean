import PyProof.Rows.All
import Wide.All
import OpenK.AllK
import Wide.FinOn
import HandS.ForMost
import HandS.Exc
import HandS.WordsExc
import HandS.Wide
import HandS.WideBits
import HandS.RevRange
import HandS.Style
import KE.SortData
import HandS.Zip
import HandS.ExcInit
import HandS.ExcSuper
import HandS.ExcField
import HandS.ClsMeth
import HandS.Defaults
import KE.RegKSuper
import HandS.Nested
import KE.KSuper
import KE.KExcSuper
import HandS.TryMany
import HandS.CallSlots
import HandS.IsInst
import HandS.Deep
import PySem.Challenge.RW_kraftroom_k13_whole_messages_in_words
set_option Elab.async false
set_option linter.all false
set_option maxRecDepth 100000
set_option maxHeartbeats 4000000
/-! KrA: results, data, what a value stands for, the judgements of expressions and statements by data. -/
namespace Kr
open PySem PySem.Spec PyProof.Rows L2

/-! ### results -/
inductive R (α : Type) where
  | ok (a : α)
  | er (c : Nat) (p : Int)
  | bad
def R.bind {α β : Type} : R α → (α → R β) → R β
  | .ok a, f => f a
  | .er c p, _ => .er c p
  | .bad, _ => .bad
/-- of a def that raises nothing -/
def R.pu {α : Type} : R α → R α
  | .ok a => .ok a
  | _ => .bad
def R.map {α β : Type} (f : α → β) : R α → R β
  | .ok a => .ok (f a)
  | .er c p => .er c p
  | .bad => .bad
section
variable {α β γ : Type}
theorem R.ok_bind (a : α) (f : α → R β) : (R.ok a).bind f = f a := (fun (m : R α) (e : m = .ok a) => show m.bind f = f a by rw [e]; rfl) _ rfl
theorem R.er_bind (c : Nat) (p : Int) (f : α → R β) : (R.er c p : R α).bind f = .er c p := (fun (m : R α) (e : m = .er c p) => show m.bind f = .er c p by rw [e]; rfl) _ rfl
theorem R.bad_bind (f : α → R β) : (R.bad : R α).bind f = .bad := (fun (m : R α) (e : m = .bad) => show m.bind f = .bad by rw [e]; rfl) _ rfl
theorem R.ok_pu (a : α) : (R.ok a).pu = .ok a := (fun (m : R α) (e : m = .ok a) => show m.pu = .ok a by rw [e]; rfl) _ rfl
theorem R.ok_map (f : α → β) (a : α) : (R.ok a).map f = .ok (f a) := (fun (m : R α) (e : m = .ok a) => show m.map f = .ok (f a) by rw [e]; rfl) _ rfl
theorem R.bind_ok (m : R α) : m.bind .ok = m := by cases m <;> rfl
theorem R.bind_bind (m : R α) (f : α → R β) (g : β → R γ) : (m.bind f).bind g = m.bind fun a => (f a).bind g := by cases m <;> rfl
theorem R.ite_bind (c : Prop) [Decidable c] (m n : R α) (f : α → R β) : (if c then m else n).bind f = if c then m.bind f else n.bind f := by split <;> rfl
theorem R.bind_nb {m : R α} {f : α → R β} (h : m.bind f ≠ .bad) : m ≠ .bad := fun e => h (by rw [e]; rfl)
theorem R.bind_okd {m : R α} {f : α → R β} {b : β} (h : m.bind f = .ok b) : ∃ a, m = .ok a ∧ f a = .ok b := by
  cases m with
  | ok a => exact ⟨a, rfl, h⟩
  | er c p => cases h
  | bad => cases h
end

/-! ### data -/
inductive Dt where
  | non | bl (b : Bool) | int (i : Int) | str (x : Str) | lst (xs : List Dt) | tup (xs : List Dt)
  /-- the script -/
  | scr (ns : List Int)
  /-- a dict whose keys are tuples of ints -/
  | dct (kvs : List (List Int × Dt))

mutual
/-- in F the value v stands for the data -/
inductive Dr (K : PySem.W.Frag) (F : Hp) : V → Dt → Prop
  | non : Dr K F .non .non
  | bl (b : Bool) : Dr K F (.bl b) (.bl b)
  | int (i : Int) : Dr K F (.int i) (.int i)
  | str (x : Str) : Dr K F (.str x) (.str x)
  | lst {a : Addr} {vs : List V} {ds : List Dt} : F a = some (.lst vs) → DrA K F vs ds → Dr K F (.ref a) (.lst ds)
  | tup {a : Addr} {vs : List V} {ds : List Dt} : F a = some (.tup vs) → DrA K F vs ds → Dr K F (.ref a) (.tup ds)
  | scr {a : Addr} {ns : List Int} : SqL K F a (ns.map V.int) → Dr K F (.ref a) (.scr ns)
  | dct {a : Addr} {ks : List (List Key × V)} {kvs : List (List Int × Dt)} : F a = some (.dT ks) → DrK K F ks kvs → Dr K F (.ref a) (.dct kvs)
inductive DrA (K : PySem.W.Frag) (F : Hp) : List V → List Dt → Prop
  | nil : DrA K F [] []
  | cons {v : V} {vs : List V} {d : Dt} {ds : List Dt} : Dr K F v d → DrA K F vs ds → DrA K F (v :: vs) (d :: ds)
inductive DrK (K : PySem.W.Frag) (F : Hp) : List (List Key × V) → List (List Int × Dt) → Prop
  | nil : DrK K F [] []
  | cons {k : List Int} {v : V} {d : Dt} {ks : List (List Key × V)} {kvs : List (List Int × Dt)} : Dr K F v d → DrK K F ks kvs → DrK K F ((k.map Sum.inl, v) :: ks) ((k, d) :: kvs)
end

def Le (H H' : Hp) : Prop := ∀ a o, H a = some o → H' a = some o
theorem Le.refl (H : Hp) : Le H H := fun _ _ h => h
theorem Le.trans {H H1 H2 : Hp} (a : Le H H1) (b : Le H1 H2) : Le H H2 := fun x o h => b x o (a x o h)
theorem Le.new {H : Hp} {p : Addr} {o : HO} (h : H p = none) : Le H (upd H p o) := fun a u e => by
  rw [upd_ne (ne_of_none e h)]
  exact e
theorem Le.seq {K : PySem.W.Frag} {H H' : Hp} {a : Addr} {xs : List V} (e : Le H H') (h : SqL K H a xs) : SqL K H' a xs := by
  rcases h with (h | ⟨o, h⟩) | h
  · exact .inl (.inl (e _ _ h))
  · exact .inl (.inr ⟨o, e _ _ h⟩)
  · exact .inr h
theorem Le.free {H H' : Hp} (e : Le H H') {l : Addr} (h : H' l = none) : H l = none := by
  cases q : H l with
  | none => rfl
  | some o =>
    rw [e l o q] at h
    cases h
section
variable {K : PySem.W.Frag} {F F' : Hp}
mutual
theorem Dr.mono (e : Le F F') : ∀ {v : V} {d : Dt}, Dr K F v d → Dr K F' v d
  | _, _, .non => .non
  | _, _, .bl b => .bl b
  | _, _, .int i => .int i
  | _, _, .str x => .str x
  | _, _, .lst h r => .lst (e _ _ h) (DrA.mono e r)
  | _, _, .tup h r => .tup (e _ _ h) (DrA.mono e r)
  | _, _, .scr h => .scr (e.seq h)
  | _, _, .dct h r => .dct (e _ _ h) (DrK.mono e r)
theorem DrA.mono (e : Le F F') : ∀ {vs : List V} {ds : List Dt}, DrA K F vs ds → DrA K F' vs ds
  | _, _, .nil => .nil
  | _, _, .cons r t => .cons (Dr.mono e r) (DrA.mono e t)
theorem DrK.mono (e : Le F F') : ∀ {ks : List (List Key × V)} {kvs : List (List Int × Dt)}, DrK K F ks kvs → DrK K F' ks kvs
  | _, _, .nil => .nil
  | _, _, .cons r t => .cons (Dr.mono e r) (DrK.mono e t)
end
theorem DrA.length : ∀ {vs : List V} {ds : List Dt}, DrA K F vs ds → vs.length = ds.length
  | _, _, .nil => rfl
  | _, _, .cons _ t => by rw [List.length_cons, List.length_cons, DrA.length t]
theorem DrA.get : ∀ {vs : List V} {ds : List Dt} {i : Nat} {d : Dt}, DrA K F vs ds → ds[i]? = some d → ∃ v, vs[i]? = some v ∧ Dr K F v d
  | _, _, _, _, .nil, h => by simp at h
  | _, _, 0, _, .cons (v := v) r _, h => by
    simp at h
    subst h
    exact ⟨v, rfl, r⟩
  | _, _, i + 1, _, .cons _ t, h => by
    obtain ⟨v, h1, h2⟩ := DrA.get (i := i) t (by simpa using h)
    exact ⟨v, by simpa using h1, h2⟩
theorem DrA.getV : ∀ {vs : List V} {ds : List Dt} {i : Nat} {v : V}, DrA K F vs ds → vs[i]? = some v → ∃ d, ds[i]? = some d ∧ Dr K F v d
  | _, _, _, _, .nil, h => by simp at h
  | _, _, 0, _, .cons (d := d) r _, h => by
    simp at h
    subst h
    exact ⟨d, rfl, r⟩
  | _, _, i + 1, _, .cons _ t, h => by
    obtain ⟨d, h1, h2⟩ := DrA.getV (i := i) t (by simpa using h)
    exact ⟨d, by simpa using h1, h2⟩
theorem DrA.append : ∀ {vs ws : List V} {ds es : List Dt}, DrA K F vs ds → DrA K F ws es → DrA K F (vs ++ ws) (ds ++ es)
  | _, _, _, _, .nil, s => s
  | _, _, _, _, .cons r t, s => .cons r (DrA.append t s)
theorem DrA.set {v : V} {d : Dt} (r : Dr K F v d) : ∀ {vs : List V} {ds : List Dt} (i : Nat), DrA K F vs ds → DrA K F (vs.set i v) (ds.set i d)
  | _, _, _, .nil => .nil
  | _, _, 0, .cons _ t => .cons r t
  | _, _, i + 1, .cons q t => .cons q (DrA.set r i t)
theorem DrA.take : ∀ {vs : List V} {ds : List Dt} (n : Nat), DrA K F vs ds → DrA K F (vs.take n) (ds.take n)
  | _, _, 0, _ => .nil
  | _, _, _ + 1, .nil => .nil
  | _, _, n + 1, .cons r t => .cons r (DrA.take n t)
theorem DrA.drop : ∀ {vs : List V} {ds : List Dt} (n : Nat), DrA K F vs ds → DrA K F (vs.drop n) (ds.drop n)
  | _, _, 0, r => r
  | _, _, _ + 1, .nil => .nil
  | _, _, n + 1, .cons _ t => DrA.drop n t
theorem DrA.dropLast {vs : List V} {ds : List Dt} (h : DrA K F vs ds) : DrA K F vs.dropLast ds.dropLast := by
  rw [List.dropLast_eq_take, List.dropLast_eq_take, h.length]
  exact h.take _
theorem DrA.reverse : ∀ {vs : List V} {ds : List Dt}, DrA K F vs ds → DrA K F vs.reverse ds.reverse
  | _, _, .nil => .nil
  | _, _, .cons r t => by
    rw [List.reverse_cons, List.reverse_cons]
    exact (DrA.reverse t).append (.cons r .nil)
theorem DrA.rep {vs : List V} {ds : List Dt} (h : DrA K F vs ds) : ∀ k : Nat, DrA K F (List.replicate k vs).flatten (List.replicate k ds).flatten
  | 0 => .nil
  | k + 1 => by
    rw [List.replicate_succ, List.replicate_succ, List.flatten_cons, List.flatten_cons]
    exact h.append (DrA.rep h k)
end

theorem dr_non {K : PySem.W.Frag} {F : Hp} {v : V} (h : Dr K F v .non) : v = .non := by cases h; rfl
theorem dr_int {K : PySem.W.Frag} {F : Hp} {v : V} {i : Int} (h : Dr K F v (.int i)) : v = .int i := by cases h; rfl
theorem dr_bl {K : PySem.W.Frag} {F : Hp} {v : V} {i : Bool} (h : Dr K F v (.bl i)) : v = .bl i := by cases h; rfl
theorem dr_str {K : PySem.W.Frag} {F : Hp} {v : V} {i : Str} (h : Dr K F v (.str i)) : v = .str i := by cases h; rfl
theorem dr_lst {K : PySem.W.Frag} {F : Hp} {v : V} {ds : List Dt} (h : Dr K F v (.lst ds)) : ∃ a vs, v = .ref a ∧ F a = some (.lst vs) ∧ DrA K F vs ds := by
  cases h with
  | lst h1 h2 => exact ⟨_, _, rfl, h1, h2⟩
theorem dr_tup {K : PySem.W.Frag} {F : Hp} {v : V} {ds : List Dt} (h : Dr K F v (.tup ds)) : ∃ a vs, v = .ref a ∧ F a = some (.tup vs) ∧ DrA K F vs ds := by
  cases h with
  | tup h1 h2 => exact ⟨_, _, rfl, h1, h2⟩
theorem dr_scr {K : PySem.W.Frag} {F : Hp} {v : V} {ns : List Int} (h : Dr K F v (.scr ns)) : ∃ a, v = .ref a ∧ SqL K F a (ns.map V.int) := by
  cases h with
  | scr h1 => exact ⟨_, rfl, h1⟩
theorem dr_dct {K : PySem.W.Frag} {F : Hp} {v : V} {kvs : List (List Int × Dt)} (h : Dr K F v (.dct kvs)) : ∃ a ks, v = .ref a ∧ F a = some (.dT ks) ∧ DrK K F ks kvs := by
  cases h with
  | dct h1 h2 => exact ⟨_, _, rfl, h1, h2⟩
theorem drA_nil {K : PySem.W.Frag} {F : Hp} {vs : List V} (h : DrA K F vs []) : vs = [] := by cases h; rfl
theorem drA_cons {K : PySem.W.Frag} {F : Hp} {vs : List V} {d : Dt} {ds : List Dt} (h : DrA K F vs (d :: ds)) : ∃ v r, vs = v :: r ∧ Dr K F v d ∧ DrA K F r ds := by
  cases h with
  | cons h1 h2 => exact ⟨_, _, rfl, h1, h2⟩

/-- typed data -/
class Enc (α : Type) where
  toD : α → Dt
open Enc (toD)

structure T3 (α β γ : Type) where
  a : α
  b : β
  c : γ
  deriving DecidableEq
structure Scr where
  ns : List Int
/-- a dict by tuples of ints -/
structure Dct (α : Type) where
  kvs : List (List Int × α)
instance : Enc Int := ⟨.int⟩
instance : Enc Bool := ⟨.bl⟩
instance : Enc Str := ⟨.str⟩
instance : Enc Unit := ⟨fun _ => .non⟩
instance : Enc Scr := ⟨fun s => .scr s.ns⟩
instance {α : Type} [Enc α] : Enc (List α) := ⟨fun xs => .lst (xs.map toD)⟩
instance {α β : Type} [Enc α] [Enc β] : Enc (α × β) := ⟨fun p => .tup [toD p.1, toD p.2]⟩
instance {α β γ : Type} [Enc α] [Enc β] [Enc γ] : Enc (T3 α β γ) := ⟨fun p => .tup [toD p.a, toD p.b, toD p.c]⟩
instance {α : Type} [Enc α] : Enc (Option α) := ⟨fun o => match o with | none => .non | some a => toD a⟩
instance {α β : Type} [Enc α] [Enc β] : Enc (α ⊕ β) := ⟨fun o => match o with | .inl a => toD a | .inr a => toD a⟩
instance {α : Type} [Enc α] : Enc (Dct α) := ⟨fun d => .dct (d.kvs.map fun p => (p.1, toD p.2))⟩
/-- never None -/
class NN (α : Type) [Enc α] : Prop where
  nn : ∀ a : α, toD a ≠ .non
instance : NN Int := ⟨fun _ h => nomatch h⟩
instance : NN Bool := ⟨fun _ h => nomatch h⟩
instance {α : Type} [Enc α] : NN (List α) := ⟨fun _ h => nomatch h⟩
instance {α β : Type} [Enc α] [Enc β] : NN (α × β) := ⟨fun _ h => nomatch h⟩
instance {α β γ : Type} [Enc α] [Enc β] [Enc γ] : NN (T3 α β γ) := ⟨fun _ h => nomatch h⟩

/-! ### the state by data -/

/-- what the text says of classes: the written part; the error classes by number, their names -/
structure Cf where
  K : PySem.W.Frag
  cls : Nat → Addr
  nm : Nat → Str
  /-- the classes of models -/
  mc : Nat → Addr := fun _ => 0
/-- the heap H holds F (never changed) and O (what is owned) -/
structure Fm (F O H : Hp) : Prop where
  f : Le F H
  o : Le O H
  ds : ∀ p, F p ≠ none → O p = none
theorem Fm.fnone {F O H : Hp} (h : Fm F O H) {p : Addr} (e : H p = none) : F p = none := h.f.free e
theorem Fm.onone {F O H : Hp} (h : Fm F O H) {p : Addr} (e : H p = none) : O p = none := h.o.free e
theorem Fm.own {F O H : Hp} (h : Fm F O H) {p : Addr} {o : HO} (e : O p = some o) : F p = none := by
  cases q : F p with
  | none => rfl
  | some u =>
    rw [h.ds p (by rw [q]; simp)] at e
    cases e
/-- a new object, never changed from now on -/
theorem Fm.newF {F O H : Hp} (h : Fm F O H) {p : Addr} {o : HO} (e : H p = none) : Fm (upd F p o) O (upd H p o) := by
  refine ⟨fun a u q => ?_, fun a u q => ?_, fun a q => ?_⟩
  · by_cases ha : a = p
    · subst ha
      rw [upd_same] at q ⊢
      exact q
    · rw [upd_ne ha] at q ⊢
      exact h.f a u q
  · exact Le.new e a u (h.o a u q)
  · by_cases ha : a = p
    · subst ha
      exact h.onone e
    · rw [upd_ne ha] at q
      exact h.ds a q
/-- a new object that nobody owns as yet -/
theorem Fm.newH {F O H : Hp} (h : Fm F O H) {p : Addr} {o : HO} (e : H p = none) : Fm F O (upd H p o) := ⟨h.f.trans (Le.new e), h.o.trans (Le.new e), h.ds⟩

/-! ### what is owned -/
/-- a tree of objects that may change; its leaves are data -/
inductive Tr where
  | d (d : Dt)
  | l (ts : List Tr)
  | o (C : Addr) (fs : List (Str × Tr))
  | k (kvs : List (Str × Tr))
abbrev HR := Addr → HO → Prop
mutual
/-- v stands for the tree, its objects by R; fp: where they stand -/
inductive Own (K : PySem.W.Frag) (F : Hp) (R : HR) : V → Tr → List Addr → Prop
  | d {v : V} {d : Dt} : Dr K F v d → Own K F R v (.d d) []
  | l {a : Addr} {vs : List V} {ts : List Tr} {fp : List Addr} : R a (.lst vs) → OwnA K F R vs ts fp → Own K F R (.ref a) (.l ts) (a :: fp)
  | o {a C dx : Addr} {fvs : List (Str × V)} {fs : List (Str × Tr)} {fp : List Addr} : R a (.ins C dx fvs) → R dx (.own a) → OwnF K F R fvs fs fp → Own K F R (.ref a) (.o C fs) (a :: dx :: fp)
  | k {a : Addr} {kvs' : List (Key × V)} {kvs : List (Str × Tr)} {fp : List Addr} : R a (.dK kvs') → OwnK K F R kvs' kvs fp → Own K F R (.ref a) (.k kvs) (a :: fp)
inductive OwnA (K : PySem.W.Frag) (F : Hp) (R : HR) : List V → List Tr → List Addr → Prop
  | nil : OwnA K F R [] [] []
  | cons {v : V} {t : Tr} {vs : List V} {ts : List Tr} {fp fq : List Addr} : Own K F R v t fp → OwnA K F R vs ts fq → OwnA K F R (v :: vs) (t :: ts) (fp ++ fq)
inductive OwnF (K : PySem.W.Frag) (F : Hp) (R : HR) : List (Str × V) → List (Str × Tr) → List Addr → Prop
  | nil : OwnF K F R [] [] []
  | cons {x : Str} {v : V} {t : Tr} {vs : List (Str × V)} {ts : List (Str × Tr)} {fp fq : List Addr} : Own K F R v t fp → OwnF K F R vs ts fq → OwnF K F R ((x, v) :: vs) ((x, t) :: ts) (fp ++ fq)
inductive OwnK (K : PySem.W.Frag) (F : Hp) (R : HR) : List (Key × V) → List (Str × Tr) → List Addr → Prop
  | nil : OwnK K F R [] [] []
  | cons {x : Str} {v : V} {t : Tr} {vs : List (Key × V)} {ts : List (Str × Tr)} {fp fq : List Addr} : Own K F R v t fp → OwnK K F R vs ts fq → OwnK K F R ((Sum.inr x, v) :: vs) ((x, t) :: ts) (fp ++ fq)
end
section
variable {K : PySem.W.Frag} {F F' : Hp} {R R' : HR}
theorem mem_l {p : Addr} {fp fq : List Addr} (h : p ∈ fp) : p ∈ fp ++ fq := List.mem_append_left _ h
theorem mem_r {p : Addr} {fp fq : List Addr} (h : p ∈ fq) : p ∈ fp ++ fq := List.mem_append_right _ h
mutual
theorem Own.mono (e : Le F F') : ∀ {v : V} {t : Tr} {fp : List Addr}, (∀ p ∈ fp, ∀ o, R p o → R' p o) → Own K F R v t fp → Own K F' R' v t fp
  | _, _, _, _, .d r => .d (r.mono e)
  | _, _, _, h, .l a r => .l (h _ List.mem_cons_self _ a) (OwnA.mono e (fun p q => h p (List.mem_cons_of_mem _ q)) r)
  | _, _, _, h, .o a b r => .o (h _ List.mem_cons_self _ a) (h _ (List.mem_cons_of_mem _ List.mem_cons_self) _ b) (OwnF.mono e (fun p q => h p (List.mem_cons_of_mem _ (List.mem_cons_of_mem _ q))) r)
  | _, _, _, h, .k a r => .k (h _ List.mem_cons_self _ a) (OwnK.mono e (fun p q => h p (List.mem_cons_of_mem _ q)) r)
theorem OwnA.mono (e : Le F F') : ∀ {v : List V} {t : List Tr} {fp : List Addr}, (∀ p ∈ fp, ∀ o, R p o → R' p o) → OwnA K F R v t fp → OwnA K F' R' v t fp
  | _, _, _, _, .nil => .nil
  | _, _, _, h, .cons r s => .cons (Own.mono e (fun p q => h p (mem_l q)) r) (OwnA.mono e (fun p q => h p (mem_r q)) s)
theorem OwnF.mono (e : Le F F') : ∀ {v : List (Str × V)} {t : List (Str × Tr)} {fp : List Addr}, (∀ p ∈ fp, ∀ o, R p o → R' p o) → OwnF K F R v t fp → OwnF K F' R' v t fp
  | _, _, _, _, .nil => .nil
  | _, _, _, h, .cons r s => .cons (Own.mono e (fun p q => h p (mem_l q)) r) (OwnF.mono e (fun p q => h p (mem_r q)) s)
theorem OwnK.mono (e : Le F F') : ∀ {v : List (Key × V)} {t : List (Str × Tr)} {fp : List Addr}, (∀ p ∈ fp, ∀ o, R p o → R' p o) → OwnK K F R v t fp → OwnK K F' R' v t fp
  | _, _, _, _, .nil => .nil
  | _, _, _, h, .cons r s => .cons (Own.mono e (fun p q => h p (mem_l q)) r) (OwnK.mono e (fun p q => h p (mem_r q)) s)
end
mutual
theorem Own.at : ∀ {v : V} {t : Tr} {fp : List Addr}, Own K F R v t fp → ∀ p ∈ fp, ∃ o, R p o
  | _, _, _, .d _, p, h => by cases h
  | _, _, _, .l a r, p, h => by
    rcases List.mem_cons.mp h with rfl | h
    · exact ⟨_, a⟩
    · exact OwnA.at r p h
  | _, _, _, .o a b r, p, h => by
    rcases List.mem_cons.mp h with rfl | h
    · exact ⟨_, a⟩
    · rcases List.mem_cons.mp h with rfl | h
      · exact ⟨_, b⟩
      · exact OwnF.at r p h
  | _, _, _, .k a r, p, h => by
    rcases List.mem_cons.mp h with rfl | h
    · exact ⟨_, a⟩
    · exact OwnK.at r p h
theorem OwnA.at : ∀ {v : List V} {t : List Tr} {fp : List Addr}, OwnA K F R v t fp → ∀ p ∈ fp, ∃ o, R p o
  | _, _, _, .nil, p, h => by cases h
  | _, _, _, .cons r s, p, h => (List.mem_append.mp h).elim (Own.at r p) (OwnA.at s p)
theorem OwnF.at : ∀ {v : List (Str × V)} {t : List (Str × Tr)} {fp : List Addr}, OwnF K F R v t fp → ∀ p ∈ fp, ∃ o, R p o
  | _, _, _, .nil, p, h => by cases h
  | _, _, _, .cons r s, p, h => (List.mem_append.mp h).elim (Own.at r p) (OwnF.at s p)
theorem OwnK.at : ∀ {v : List (Key × V)} {t : List (Str × Tr)} {fp : List Addr}, OwnK K F R v t fp → ∀ p ∈ fp, ∃ o, R p o
  | _, _, _, .nil, p, h => by cases h
  | _, _, _, .cons r s, p, h => (List.mem_append.mp h).elim (Own.at r p) (OwnK.at s p)
end
end
def inO (O : Hp) : HR := fun p o => O p = some o
def inFO (F O : Hp) : HR := fun p o => F p = some o ∨ O p = some o
theorem Own.toFO {K : PySem.W.Frag} {F O : Hp} {v : V} {t : Tr} {fp : List Addr} (h : Own K F (inO O) v t fp) : Own K F (inFO F O) v t fp := h.mono (Le.refl F) fun _ _ _ q => .inr q
theorem Own.monoF {K : PySem.W.Frag} {F F' O : Hp} (e : Le F F') {v : V} {t : Tr} {fp : List Addr} (h : Own K F (inO O) v t fp) : Own K F' (inO O) v t fp := h.mono e fun _ _ _ q => q
theorem Own.monoFO {K : PySem.W.Frag} {F F' O O' : Hp} (e : Le F F') (e' : Le O O') {v : V} {t : Tr} {fp : List Addr} (h : Own K F (inFO F O) v t fp) : Own K F' (inFO F' O') v t fp := h.mono e fun p _ o q => q.imp (e p o) (e' p o)
inductive Sl where
  | un
  | va (d : Dt)
  | ol (ds : List Dt)
  | od (kvs : List (List Int × Dt))
  /-- just this value -/
  | pv (v : V)
  /-- owned; lent from without; lent from within (till something owned changes) -/
  | ow (t : Tr)
  | bo (t : Tr)
  | vo (t : Tr)
/-- kept while other slots are stored to -/
def Sl.own : Sl → Bool
  | .ol _ => true
  | .od _ => true
  | .ow _ => true
  | .bo _ => true
  | _ => false
def Sl.vol : Sl → Bool
  | .vo _ => true
  | _ => false
def noVo (G : List Sl) : Bool := G.all fun s => !s.vol
def SlOk (K : PySem.W.Frag) (F O : Hp) (x : Option (Option V)) : Sl → Prop
  | .un => True
  | .va d => ∃ v, x = some (some v) ∧ Dr K F v d
  | .ol ds => ∃ a vs, x = some (some (.ref a)) ∧ O a = some (.lst vs) ∧ DrA K F vs ds
  | .od kvs => ∃ a ks, x = some (some (.ref a)) ∧ O a = some (.dT ks) ∧ DrK K F ks kvs
  | .pv v => x = some (some v)
  | .ow t => ∃ v fp, x = some (some v) ∧ Own K F (inO O) v t fp
  | .bo t => ∃ v fp, x = some (some v) ∧ Own K F (inFO F O) v t fp
  | .vo t => ∃ v fp, x = some (some v) ∧ Own K F (inFO F O) v t fp
theorem SlOk.mono {K : PySem.W.Frag} {F F' O : Hp} {x : Option (Option V)} (e : Le F F') : ∀ {s : Sl}, SlOk K F O x s → SlOk K F' O x s
  | .un, _ => trivial
  | .va _, ⟨v, h1, h2⟩ => ⟨v, h1, h2.mono e⟩
  | .ol _, ⟨a, vs, h1, h2, h3⟩ => ⟨a, vs, h1, h2, h3.mono e⟩
  | .od _, ⟨a, vs, h1, h2, h3⟩ => ⟨a, vs, h1, h2, h3.mono e⟩
  | .pv _, h => h
  | .ow _, ⟨v, fp, h1, h2⟩ => ⟨v, fp, h1, h2.monoF e⟩
  | .bo _, ⟨v, fp, h1, h2⟩ => ⟨v, fp, h1, h2.monoFO e (Le.refl O)⟩
  | .vo _, ⟨v, fp, h1, h2⟩ => ⟨v, fp, h1, h2.monoFO e (Le.refl O)⟩
structure Er (K : PySem.W.Frag) (F O : Hp) (σ : L2.St) (G : List Sl) : Prop where
  len : σ.length = G.length
  at' : ∀ (i : Nat) (s : Sl), G[i]? = some s → SlOk K F O σ[i]? s
theorem Er.mono {K : PySem.W.Frag} {F F' O : Hp} {σ : L2.St} {G : List Sl} (h : Er K F O σ G) (e : Le F F') : Er K F' O σ G := ⟨h.len, fun i s q => (h.at' i s q).mono e⟩

/-- what a def returns: data, or new objects -/
class Rs (ρ : Type) where
  res : Cf → Hp → Hp → Hp → V → ρ → Prop
instance {α : Type} [Enc α] : Rs α := ⟨fun cf F _ _ v a => Dr cf.K F v (toD a)⟩
/-- what an exception of the class c leaves -/
def xdO (cf : Cf) (c : Nat) (p : Int) : HO := .xd [("name", .str (cf.nm c)), ("place", .int p)]
/-- the reading t gives m's outcome, by rel -/
def EG {α ρ : Type} (cf : Cf) (E : XK) (t : L2.St → Hp → (ρ → Hp → Prop) → Prop) (G : List Sl) (m : R α) (rel : Hp → Hp → Hp → ρ → α → Prop) : Prop :=
  ∀ (F O H : Hp) (σ : L2.St) (Q : ρ → Hp → Prop), Fm F O H → Er cf.K F O σ G → m ≠ .bad →
    (∀ a r F' H', m = .ok a → Le F F' → Fm F' O H' → rel F' O H' r a → Q r H') →
    (∀ c p d F' H', m = .er c p → Le F F' → Fm F' O H' → F' d = some (xdO cf c p) → E (.ref (cf.cls c)) (some d) H') → t σ H Q
section
variable (cf : Cf)
/-- never changed data -/
def RM {α : Type} [Enc α] (F O H : Hp) (v : V) (a : α) : Prop := Dr cf.K F v (toD a)
def RB (F O H : Hp) (b : Bool) (a : Bool) : Prop := b = a
def RA (F O H : Hp) (vs : List V) (ds : List Dt) : Prop := DrA cf.K F vs ds
def RO (F O H : Hp) (o : Option Int) (a : Option Int) : Prop := o = a
/-- a list that may be read -/
def RL {α : Type} [Enc α] (F O H : Hp) (v : V) (xs : List α) : Prop := ∃ a vs, v = .ref a ∧ (F a = some (.lst vs) ∨ O a = some (.lst vs)) ∧ DrA cf.K F vs (xs.map toD)
/-- .. or the script -/
def RS {α : Type} [Enc α] (F O H : Hp) (v : V) (xs : List α) : Prop := ∃ a vs, v = .ref a ∧ (SqL cf.K F a vs ∨ O a = some (.lst vs)) ∧ DrA cf.K F vs (xs.map toD)
/-- a new list that nobody owns -/
def RF {α : Type} [Enc α] (F O H : Hp) (v : V) (xs : List α) : Prop := ∃ a vs, v = .ref a ∧ F a = none ∧ O a = none ∧ H a = some (.lst vs) ∧ DrA cf.K F vs (xs.map toD)
abbrev EM {α : Type} [Enc α] (E : XK) (t : TE) (G : List Sl) (m : R α) : Prop := EG cf E t G m (RM cf)
abbrev EB (E : XK) (t : TT) (G : List Sl) (m : R Bool) : Prop := EG cf E t G m RB
abbrev EA (E : XK) (t : TA) (G : List Sl) (m : R (List Dt)) : Prop := EG cf E t G m (RA cf)
abbrev EO (E : XK) (t : TO) (G : List Sl) (m : R (Option Int)) : Prop := EG cf E t G m RO
abbrev EL {α : Type} [Enc α] (E : XK) (t : TE) (G : List Sl) (m : R (List α)) : Prop := EG cf E t G m (RL cf)
abbrev ES {α : Type} [Enc α] (E : XK) (t : TE) (G : List Sl) (m : R (List α)) : Prop := EG cf E t G m (RS cf)
abbrev EF {α : Type} [Enc α] (E : XK) (t : TE) (G : List Sl) (m : R (List α)) : Prop := EG cf E t G m (RF cf)
end
section
variable {cf : Cf} {E : XK} {G : List Sl} {α β γ ρ τ : Type}
/-- one reading, then another -/
theorem EG.bind {t : L2.St → Hp → (ρ → Hp → Prop) → Prop} {u : ρ → L2.St → Hp → (τ → Hp → Prop) → Prop} {m : R α} {f : α → R β} {rel : Hp → Hp → Hp → ρ → α → Prop} {rel' : Hp → Hp → Hp → τ → β → Prop}
    (h : EG cf E t G m rel) (k : ∀ (F O H : Hp) (σ : L2.St) (Q : τ → Hp → Prop) (a : α) (r : ρ), Fm F O H → Er cf.K F O σ G → rel F O H r a → f a ≠ .bad →
      (∀ b r' F' H', f a = .ok b → Le F F' → Fm F' O H' → rel' F' O H' r' b → Q r' H') →
      (∀ c p d F' H', f a = .er c p → Le F F' → Fm F' O H' → F' d = some (xdO cf c p) → E (.ref (cf.cls c)) (some d) H') → u r σ H Q) :
    EG cf E (fun σ H Q => t σ H fun r H1 => u r σ H1 Q) G (m.bind f) rel' := fun F O H σ Q hf he nb ko ke => by
  refine h F O H σ _ hf he (R.bind_nb nb) (fun a r F' H' ea le hf' hr => ?_) (fun c p d F' H' ea le hf' hd => ke c p d F' H' (by rw [ea]; rfl) le hf' hd)
  subst ea
  exact k F' O H' σ Q a r hf' (he.mono le) hr nb (fun b r' F'' H'' e le' => ko b r' F'' H'' e (le.trans le')) (fun c p d F'' H'' e le' => ke c p d F'' H'' e (le.trans le'))
theorem EG.imp {t : L2.St → Hp → (ρ → Hp → Prop) → Prop} {m : R α} {rel rel' : Hp → Hp → Hp → ρ → α → Prop} (h : EG cf E t G m rel) (w : ∀ F O H r a, Fm F O H → rel F O H r a → rel' F O H r a) : EG cf E t G m rel' :=
  fun F O H σ Q hf he nb ko ke => h F O H σ Q hf he nb (fun a r F' H' e le hf' hr => ko a r F' H' e le hf' (w F' O H' r a hf' hr)) ke
/-- conclude a reading that gives a value at once -/
theorem EG.fin {t : L2.St → Hp → (ρ → Hp → Prop) → Prop} {a : α} {rel : Hp → Hp → Hp → ρ → α → Prop} (h : ∀ (F O H : Hp) (σ : L2.St) (Q : ρ → Hp → Prop), Fm F O H → Er cf.K F O σ G → (∀ r F' H', Le F F' → Fm F' O H' → rel F' O H' r a → Q r H') → t σ H Q) : EG cf E t G (.ok a) rel :=
  fun F O H σ Q hf he _ ko _ => h F O H σ Q hf he fun r F' H' le hf' hr => ko a r F' H' rfl le hf' hr
theorem EG.cast {t : L2.St → Hp → (ρ → Hp → Prop) → Prop} {m n : R α} {rel : Hp → Hp → Hp → ρ → α → Prop} (h : EG cf E t G m rel) (e : m = n) : EG cf E t G n rel := e ▸ h
/-- a fresh list is let go: data -/
theorem EF.toM [Enc α] {t : TE} {m : R (List α)} (h : EF cf E t G m) : EM cf E t G m := fun F O H σ Q hf he nb ko ke => by
  refine h F O H σ Q hf he nb (fun xs v F' H' e le hf' hr => ?_) ke
  obtain ⟨a, vs, rfl, hFa, hOa, hHa, r⟩ := hr
  have le2 : Le F' (upd F' a (.lst vs)) := Le.new hFa
  refine ko xs _ (upd F' a (.lst vs)) H' e (le.trans le2) ⟨fun b o q => ?_, hf'.o, fun b q => ?_⟩ (.lst upd_same (r.mono le2))
  · by_cases hb : b = a
    · subst hb
      rw [upd_same] at q
      rw [hHa]
      exact q
    · rw [upd_ne hb] at q
      exact hf'.f b o q
  · by_cases hb : b = a
    · subst hb
      exact hOa
    · rw [upd_ne hb] at q
      exact hf'.ds b q
theorem EM.toL [Enc α] {t : TE} {m : R (List α)} (h : EM cf E t G m) : EL cf E t G m := EG.imp h fun F O H v xs _ r => by
  obtain ⟨a, vs, e, h1, h2⟩ := dr_lst r
  exact ⟨a, vs, e, .inl h1, h2⟩
theorem EL.toS [Enc α] {t : TE} {m : R (List α)} (h : EL cf E t G m) : ES cf E t G m := EG.imp h fun F O H v xs _ r => by
  obtain ⟨a, vs, e, h1, h2⟩ := r
  rcases h1 with h1 | h1
  · exact ⟨a, vs, e, .inl (SqL.of h1), h2⟩
  · exact ⟨a, vs, e, .inr h1, h2⟩
theorem EM.toS [Enc α] {t : TE} {m : R (List α)} (h : EM cf E t G m) : ES cf E t G m := EL.toS (EM.toL h)
theorem EF.toL [Enc α] {t : TE} {m : R (List α)} (h : EF cf E t G m) : EL cf E t G m := EM.toL (EF.toM h)
theorem EF.toS [Enc α] {t : TE} {m : R (List α)} (h : EF cf E t G m) : ES cf E t G m := EM.toS (EF.toM h)
theorem drA_ints {K : PySem.W.Frag} {F : Hp} : ∀ ns : List Int, DrA K F (ns.map V.int) (ns.map toD)
  | [] => .nil
  | n :: r => .cons (.int n) (drA_ints r)
theorem ints_of_drA {K : PySem.W.Frag} {F : Hp} : ∀ {ns : List Int} {vs : List V}, DrA K F vs (ns.map toD) → vs = ns.map V.int
  | [], _, h => by rw [drA_nil h]; rfl
  | n :: r, _, h => by
    obtain ⟨v, q, rfl, h1, h2⟩ := drA_cons h
    rw [ints_of_drA h2, dr_int (i := n) h1]
    rfl
theorem bls_of_drA {K : PySem.W.Frag} {F : Hp} : ∀ {ns : List Bool} {vs : List V}, DrA K F vs (ns.map toD) → vs = ns.map V.bl
  | [], _, h => by rw [drA_nil h]; rfl
  | n :: r, _, h => by
    obtain ⟨v, q, rfl, h1, h2⟩ := drA_cons h
    rw [bls_of_drA h2, dr_bl (i := n) h1]
    rfl
/-- the script as a list of ints -/
theorem EM.scr {t : TE} {m : R Scr} (h : EM cf E t G m) : ES cf E t G (m.bind fun s => .ok s.ns) := fun F O H σ Q hf he nb ko ke => by
  refine h F O H σ Q hf he (R.bind_nb nb) (fun s v F' H' e le hf' hr => ?_) (fun c p d F' H' e => ke c p d F' H' (by rw [e]; rfl))
  obtain ⟨a, ea, hs⟩ := dr_scr (ns := s.ns) hr
  exact ko s.ns _ F' H' (by rw [e]; rfl) le hf' ⟨a, _, ea, .inl hs, drA_ints s.ns⟩

/-! ### names, constants -/
theorem em_var [Enc α] (i : Nat) (a : α) (h : G[i]? = some (.va (toD a))) : EM cf E (tVar i) G (.ok a) := EG.fin fun F O H σ Q hf he ko => by
  obtain ⟨v, e, r⟩ := he.at' i _ h
  exact ⟨v, e, ko v F H (Le.refl F) hf r⟩
theorem el_own [Enc α] (i : Nat) (xs : List α) (h : G[i]? = some (.ol (xs.map toD))) : EL cf E (tVar i) G (.ok xs) := EG.fin fun F O H σ Q hf he ko => by
  obtain ⟨a, vs, e, h1, r⟩ := he.at' i _ h
  exact ⟨_, e, ko _ F H (Le.refl F) hf ⟨a, vs, rfl, .inr h1, r⟩⟩
theorem em_int (i : Int) : EM cf E (tC (.int i)) G (.ok i) := EG.fin fun F O H σ Q hf he ko => ko _ F H (Le.refl F) hf (.int i)
theorem em_bl (i : Bool) : EM cf E (tC (.bl i)) G (.ok i) := EG.fin fun F O H σ Q hf he ko => ko _ F H (Le.refl F) hf (.bl i)
theorem em_str (i : Str) : EM cf E (tC (.str i)) G (.ok i) := EG.fin fun F O H σ Q hf he ko => ko _ F H (Le.refl F) hf (.str i)
theorem em_none [Enc α] : EM cf E (tC .non) G (.ok (none : Option α)) := EG.fin fun F O H σ Q hf he ko => ko _ F H (Le.refl F) hf .non
theorem em_unit : EM cf E (tC .non) G (.ok ()) := EG.fin fun F O H σ Q hf he ko => ko _ F H (Le.refl F) hf .non
/-- a value where a value or None may be -/
theorem EM.just [Enc α] {t : TE} {m : R α} (h : EM cf E t G m) : EM cf E t G (m.bind fun a => .ok (some a)) := fun F O H σ Q hf he nb ko ke =>
  h F O H σ Q hf he (R.bind_nb nb) (fun a v F' H' e le hf' hr => ko (some a) v F' H' (by rw [e]; rfl) le hf' hr) (fun c p d F' H' e => ke c p d F' H' (by rw [e]; rfl))
theorem EM.inl [Enc α] [Enc β] {t : TE} {m : R α} (h : EM cf E t G m) : EM cf E t G (m.bind fun a => .ok (Sum.inl a : α ⊕ β)) := fun F O H σ Q hf he nb ko ke =>
  h F O H σ Q hf he (R.bind_nb nb) (fun a v F' H' e le hf' hr => ko (.inl a) v F' H' (by rw [e]; rfl) le hf' hr) (fun c p d F' H' e => ke c p d F' H' (by rw [e]; rfl))
theorem EM.inr [Enc α] [Enc β] {t : TE} {m : R β} (h : EM cf E t G m) : EM cf E t G (m.bind fun a => .ok (Sum.inr a : α ⊕ β)) := fun F O H σ Q hf he nb ko ke =>
  h F O H σ Q hf he (R.bind_nb nb) (fun a v F' H' e le hf' hr => ko (.inr a) v F' H' (by rw [e]; rfl) le hf' hr) (fun c p d F' H' e => ke c p d F' H' (by rw [e]; rfl))
end
end Kr

/-! KrB: operators, calls of built-ins, lists, tuples by data. -/
namespace Kr
open PySem PySem.Spec PyProof.Rows L2
open Enc (toD)

section
variable {cf : Cf} {E : XK} {G : List Sl} {α β γ δ ρ ρ' τ : Type}
theorem EG.bind2 {t1 : L2.St → Hp → (ρ → Hp → Prop) → Prop} {t2 : L2.St → Hp → (ρ' → Hp → Prop) → Prop} {m1 : R α} {m2 : R β} {f : α → β → R γ} {rel1 : Hp → Hp → Hp → ρ → α → Prop} {rel2 : Hp → Hp → Hp → ρ' → β → Prop} {rel3 : Hp → Hp → Hp → τ → γ → Prop}
    {u : ρ → ρ' → Hp → (τ → Hp → Prop) → Prop} (h1 : EG cf E t1 G m1 rel1) (h2 : EG cf E t2 G m2 rel2) (mono : ∀ F O H F' H' r a, Le F F' → Fm F' O H' → rel1 F O H r a → rel1 F' O H' r a)
    (k : ∀ (F O H : Hp) (Q : τ → Hp → Prop) (a : α) (r : ρ) (b : β) (s : ρ'), Fm F O H → rel1 F O H r a → rel2 F O H s b → f a b ≠ .bad → (∀ c x F' H', f a b = .ok c → Le F F' → Fm F' O H' → rel3 F' O H' x c → Q x H') → u r s H Q) :
    EG cf E (fun σ H Q => t1 σ H fun r H1 => t2 σ H1 fun s H2 => u r s H2 Q) G (m1.bind fun a => m2.bind fun b => f a b) rel3 :=
  EG.bind (u := fun r σ H Q => t2 σ H fun s H2 => u r s H2 Q) h1 fun F O H σ Q a r hf he hr nb ko ke =>
    h2 F O H σ _ hf he (R.bind_nb nb) (fun b s F' H' eb le hf' hs => k F' O H' Q a r b s hf' (mono F O H F' H' r a le hf' hr) hs (by rw [eb] at nb; exact nb) fun c x F'' H'' e le' => ko c x F'' H'' (by rw [eb]; exact e) (le.trans le'))
      fun c p d F' H' e => ke c p d F' H' (by rw [e]; rfl)
/-- one reading, then a step that raises nothing -/
theorem EG.bind1 {t1 : L2.St → Hp → (ρ → Hp → Prop) → Prop} {m1 : R α} {f : α → R γ} {rel1 : Hp → Hp → Hp → ρ → α → Prop} {rel3 : Hp → Hp → Hp → τ → γ → Prop}
    {u : ρ → Hp → (τ → Hp → Prop) → Prop} (h1 : EG cf E t1 G m1 rel1)
    (k : ∀ (F O H : Hp) (Q : τ → Hp → Prop) (a : α) (r : ρ), Fm F O H → rel1 F O H r a → f a ≠ .bad → (∀ c x F' H', f a = .ok c → Le F F' → Fm F' O H' → rel3 F' O H' x c → Q x H') → u r H Q) :
    EG cf E (fun σ H Q => t1 σ H fun r H1 => u r H1 Q) G (m1.bind f) rel3 :=
  EG.bind (u := fun r σ H Q => u r H Q) h1 fun F O H σ Q a r hf he hr nb ko ke => k F O H Q a r hf hr nb ko
theorem EG.bind3 {ρ'' : Type} {t1 : L2.St → Hp → (ρ → Hp → Prop) → Prop} {t2 : L2.St → Hp → (ρ' → Hp → Prop) → Prop} {t3 : L2.St → Hp → (ρ'' → Hp → Prop) → Prop} {m1 : R α} {m2 : R β} {m3 : R γ} {f : α → β → γ → R δ}
    {rel1 : Hp → Hp → Hp → ρ → α → Prop} {rel2 : Hp → Hp → Hp → ρ' → β → Prop} {rel3 : Hp → Hp → Hp → ρ'' → γ → Prop} {rel4 : Hp → Hp → Hp → τ → δ → Prop}
    {u : ρ → ρ' → ρ'' → Hp → (τ → Hp → Prop) → Prop} (h1 : EG cf E t1 G m1 rel1) (h2 : EG cf E t2 G m2 rel2) (h3 : EG cf E t3 G m3 rel3)
    (mono1 : ∀ F O H F' H' r a, Le F F' → Fm F' O H' → rel1 F O H r a → rel1 F' O H' r a) (mono2 : ∀ F O H F' H' r a, Le F F' → Fm F' O H' → rel2 F O H r a → rel2 F' O H' r a)
    (k : ∀ (F O H : Hp) (Q : τ → Hp → Prop) (a : α) (r : ρ) (b : β) (s : ρ') (c : γ) (t : ρ''), Fm F O H → rel1 F O H r a → rel2 F O H s b → rel3 F O H t c → f a b c ≠ .bad → (∀ d x F' H', f a b c = .ok d → Le F F' → Fm F' O H' → rel4 F' O H' x d → Q x H') → u r s t H Q) :
    EG cf E (fun σ H Q => t1 σ H fun r H1 => t2 σ H1 fun s H2 => t3 σ H2 fun t H3 => u r s t H3 Q) G (m1.bind fun a => m2.bind fun b => m3.bind fun c => f a b c) rel4 :=
  EG.bind (u := fun r σ H Q => t2 σ H fun s H2 => t3 σ H2 fun t H3 => u r s t H3 Q) h1 fun F O H σ Q a r hf he hr nb ko ke =>
    h2 F O H σ _ hf he (R.bind_nb nb) (fun b s F' H' eb le hf' hs => by
      rw [eb, R.ok_bind] at nb ko ke
      exact h3 F' O H' σ _ hf' (he.mono le) (R.bind_nb nb) (fun c t F'' H'' ec le' hf'' ht => k F'' O H'' Q a r b s c t hf'' (mono1 F O H F'' H'' r a (le.trans le') hf'' hr) (mono2 F' O H' F'' H'' s b le' hf'' hs) ht (by rw [ec] at nb; exact nb)
        fun d x F3 H3 e le3 => ko d x F3 H3 (by rw [ec]; exact e) ((le.trans le').trans le3)) fun c p d F'' H'' e le' => ke c p d F'' H'' (by rw [e]; rfl) (le.trans le'))
      fun c p d F' H' e => ke c p d F' H' (by rw [e]; rfl)
theorem rm_mono [Enc α] (F O H F' H' : Hp) (r : V) (a : α) (le : Le F F') (_ : Fm F' O H') (h : RM cf F O H r a) : RM cf F' O H' r a := Dr.mono le h
theorem rl_mono [Enc α] (F O H F' H' : Hp) (r : V) (a : List α) (le : Le F F') (_ : Fm F' O H') (h : RL cf F O H r a) : RL cf F' O H' r a := by
  obtain ⟨a, vs, e, h1, h2⟩ := h
  exact ⟨a, vs, e, h1.imp (le _ _) id, h2.mono le⟩
theorem rs_mono [Enc α] (F O H F' H' : Hp) (r : V) (a : List α) (le : Le F F') (_ : Fm F' O H') (h : RS cf F O H r a) : RS cf F' O H' r a := by
  obtain ⟨a, vs, e, h1, h2⟩ := h
  exact ⟨a, vs, e, h1.imp le.seq id, h2.mono le⟩
theorem RS.seq [Enc α] {F O H : Hp} {v : V} {xs : List α} (h : RS cf F O H v xs) (hf : Fm F O H) : ∃ a vs, v = .ref a ∧ SqL cf.K H a vs ∧ DrA cf.K F vs (xs.map toD) := by
  obtain ⟨a, vs, e, h1, h2⟩ := h
  rcases h1 with h1 | h1
  · exact ⟨a, vs, e, hf.f.seq h1, h2⟩
  · exact ⟨a, vs, e, SqL.of (hf.o _ _ h1), h2⟩
theorem RL.at [Enc α] {F O H : Hp} {v : V} {xs : List α} (h : RL cf F O H v xs) (hf : Fm F O H) : ∃ a vs, v = .ref a ∧ H a = some (.lst vs) ∧ DrA cf.K F vs (xs.map toD) := by
  obtain ⟨a, vs, e, h1, h2⟩ := h
  rcases h1 with h1 | h1
  · exact ⟨a, vs, e, hf.f _ _ h1, h2⟩
  · exact ⟨a, vs, e, hf.o _ _ h1, h2⟩

/-! ### numbers -/
variable {ta tb tc : TE}
theorem em_I0 {g : Int → Int → Int} {ma mb : R Int} (ha : EM cf E ta G ma) (hb : EM cf E tb G mb) : EM cf E (tOp (rI0 fun i j => .int (g i j)) ta tb) G (ma.bind fun a => mb.bind fun b => .ok (g a b)) :=
  EG.bind2 (u := fun x y H Q => rI0 (fun i j => .int (g i j)) x y H Q) ha hb rm_mono fun F O H Q a r b s hf h1 h2 _ ko => ⟨a, b, dr_int h1, dr_int h2, ko _ _ F H rfl (Le.refl F) hf (.int _)⟩
theorem em_B0 {g : Int → Int → Bool} {ma mb : R Int} (ha : EM cf E ta G ma) (hb : EM cf E tb G mb) : EM cf E (tOp (rI0 fun i j => .bl (g i j)) ta tb) G (ma.bind fun a => mb.bind fun b => .ok (g a b)) :=
  EG.bind2 (u := fun x y H Q => rI0 (fun i j => .bl (g i j)) x y H Q) ha hb rm_mono fun F O H Q a r b s hf h1 h2 _ ko => ⟨a, b, dr_int h1, dr_int h2, ko _ _ F H rfl (Le.refl F) hf (.bl _)⟩
/-- an operation on two ints under a condition -/
theorem em_IC {C : Int → Int → Prop} {g : Int → Int → Int} {f : Int → Int → R Int} (hC : ∀ a b, f a b ≠ .bad → C a b ∧ f a b = .ok (g a b)) {ma mb : R Int} (ha : EM cf E ta G ma) (hb : EM cf E tb G mb) :
    EM cf E (tOp (rI C fun i j => .int (g i j)) ta tb) G (ma.bind fun a => mb.bind fun b => f a b) :=
  EG.bind2 (u := fun x y H Q => rI C (fun i j => .int (g i j)) x y H Q) ha hb rm_mono fun F O H Q a r b s hf h1 h2 nb ko => ⟨a, b, dr_int h1, dr_int h2, (hC a b nb).1, ko _ _ F H (hC a b nb).2 (Le.refl F) hf (.int _)⟩
theorem em_neg {ma : R Int} (ha : EM cf E ta G ma) : EM cf E (tUn (rU fun i => .int (-i)) ta) G (ma.bind fun a => .ok (-a)) :=
  EG.bind1 (u := fun x H Q => rU (fun i => .int (-i)) x H Q) ha fun F O H Q a r hf h1 _ ko => ⟨a, dr_int h1, ko _ _ F H rfl (Le.refl F) hf (.int _)⟩
/-- * -/
def mulR (a b : Int) : R Int := if (Builtin.Int.intBits a : Int) + (Builtin.Int.intBits b : Int) ≤ 134217728 then .ok (a * b) else .bad
def divR (a b : Int) : R Int := if 0 < b ∧ b.natAbs.log2 < 9000 then .ok (a / b) else .bad
def modR (a b : Int) : R Int := if 0 < b then .ok (a % b) else .bad
def shlR (a b : Int) : R Int := if 0 ≤ b ∧ (Builtin.Int.intBits a : Int) + b ≤ 134217728 then .ok (a * 2 ^ b.toNat) else .bad
def shrR (a b : Int) : R Int := if 0 ≤ b then .ok (a / 2 ^ b.toNat) else .bad
theorem em_mul {ma mb : R Int} (ha : EM cf E ta G ma) (hb : EM cf E tb G mb) : EM cf E (tOp (rI CMulX fun i j => .int (i * j)) ta tb) G (ma.bind fun a => mb.bind fun b => mulR a b) := em_IC (f := mulR) (g := fun a b => a * b) (fun a b h => by
  unfold mulR at *
  split at h
  · rename_i c
    rw [if_pos c]
    exact ⟨c, rfl⟩
  · exact absurd rfl h) ha hb
theorem em_div {ma mb : R Int} (ha : EM cf E ta G ma) (hb : EM cf E tb G mb) : EM cf E (tOp (rI CDivW fun i j => .int (i / j)) ta tb) G (ma.bind fun a => mb.bind fun b => divR a b) := em_IC (f := divR) (g := fun a b => a / b) (fun a b h => by
  unfold divR at *
  split at h
  · rename_i c
    rw [if_pos c]
    exact ⟨c, rfl⟩
  · exact absurd rfl h) ha hb
theorem em_mod {ma mb : R Int} (ha : EM cf E ta G ma) (hb : EM cf E tb G mb) : EM cf E (tOp (rI (fun _ j => 0 < j) fun i j => .int (i % j)) ta tb) G (ma.bind fun a => mb.bind fun b => modR a b) := em_IC (f := modR) (g := fun a b => a % b) (fun a b h => by
  unfold modR at *
  split at h
  · rename_i c
    rw [if_pos c]
    exact ⟨c, rfl⟩
  · exact absurd rfl h) ha hb
theorem em_shl {ma mb : R Int} (ha : EM cf E ta G ma) (hb : EM cf E tb G mb) : EM cf E (tOp (rI CShl fun i j => .int (i * 2 ^ j.toNat)) ta tb) G (ma.bind fun a => mb.bind fun b => shlR a b) := em_IC (f := shlR) (g := fun a b => a * 2 ^ b.toNat) (fun a b h => by
  unfold shlR at *
  split at h
  · rename_i c
    rw [if_pos c]
    exact ⟨c, rfl⟩
  · exact absurd rfl h) ha hb
theorem em_shr {ma mb : R Int} (ha : EM cf E ta G ma) (hb : EM cf E tb G mb) : EM cf E (tOp (rI (fun _ j => 0 ≤ j) fun i j => .int (i / 2 ^ j.toNat)) ta tb) G (ma.bind fun a => mb.bind fun b => shrR a b) := em_IC (f := shrR) (g := fun a b => a / 2 ^ b.toNat) (fun a b h => by
  unfold shrR at *
  split at h
  · rename_i c
    rw [if_pos c]
    exact ⟨c, rfl⟩
  · exact absurd rfl h) ha hb
theorem em_bits {ma : R Int} (ha : EM cf E ta G ma) : EM cf E (tBits ta) G (ma.bind fun a => .ok ((Builtin.Int.intBits a : Nat) : Int)) :=
  EG.bind1 (u := fun (x : V) H Q => ∃ i, x = .int i ∧ Q (V.int (Builtin.Int.intBits i : Nat)) H) ha fun F O H Q a r hf h1 _ ko => ⟨a, dr_int h1, ko _ _ F H rfl (Le.refl F) hf (.int _)⟩

/-! ### comparisons of scalars, None, tests -/
theorem dr_scal {K : PySem.W.Frag} {F : Hp} {i : Int} {v : V} (h : Dr K F v (.int i)) : v = .int i := dr_int h
theorem em_eqI {ma mb : R Int} (ha : EM cf E ta G ma) (hb : EM cf E tb G mb) : EM cf E (tOp rEq ta tb) G (ma.bind fun a => mb.bind fun b => .ok (decide (a = b))) :=
  EG.bind2 (u := fun x y H Q => rEq x y H Q) ha hb rm_mono fun F O H Q a r b s hf h1 h2 _ ko => by
    rw [dr_int (i := a) h1, dr_int (i := b) h2]
    refine ⟨rfl, ?_⟩
    rw [show decide (V.int a = V.int b) = decide (a = b) by by_cases e : a = b <;> simp [e]]
    exact ko _ _ F H rfl (Le.refl F) hf (.bl _)
theorem em_neI {ma mb : R Int} (ha : EM cf E ta G ma) (hb : EM cf E tb G mb) : EM cf E (tOp rNe ta tb) G (ma.bind fun a => mb.bind fun b => .ok (!decide (a = b))) :=
  EG.bind2 (u := fun x y H Q => rNe x y H Q) ha hb rm_mono fun F O H Q a r b s hf h1 h2 _ ko => by
    rw [dr_int (i := a) h1, dr_int (i := b) h2]
    refine ⟨rfl, ?_⟩
    rw [show decide (V.int a = V.int b) = decide (a = b) by by_cases e : a = b <;> simp [e]]
    exact ko _ _ F H rfl (Le.refl F) hf (.bl _)
theorem em_eqB {ma mb : R Bool} (ha : EM cf E ta G ma) (hb : EM cf E tb G mb) : EM cf E (tOp rEq ta tb) G (ma.bind fun a => mb.bind fun b => .ok (decide (a = b))) :=
  EG.bind2 (u := fun x y H Q => rEq x y H Q) ha hb rm_mono fun F O H Q a r b s hf h1 h2 _ ko => by
    rw [dr_bl (i := a) h1, dr_bl (i := b) h2]
    refine ⟨rfl, ?_⟩
    rw [show decide (V.bl a = V.bl b) = decide (a = b) by by_cases e : a = b <;> simp [e]]
    exact ko _ _ F H rfl (Le.refl F) hf (.bl _)
theorem em_neB {ma mb : R Bool} (ha : EM cf E ta G ma) (hb : EM cf E tb G mb) : EM cf E (tOp rNe ta tb) G (ma.bind fun a => mb.bind fun b => .ok (!decide (a = b))) :=
  EG.bind2 (u := fun x y H Q => rNe x y H Q) ha hb rm_mono fun F O H Q a r b s hf h1 h2 _ ko => by
    rw [dr_bl (i := a) h1, dr_bl (i := b) h2]
    refine ⟨rfl, ?_⟩
    rw [show decide (V.bl a = V.bl b) = decide (a = b) by by_cases e : a = b <;> simp [e]]
    exact ko _ _ F H rfl (Le.refl F) hf (.bl _)
theorem isNone_of [Enc α] [NN α] {K : PySem.W.Frag} {F : Hp} {v : V} {o : Option α} (h : Dr K F v (toD o)) : decide (v = .non) = o.isNone := by
  cases o with
  | none =>
    rw [dr_non h]
    rfl
  | some a =>
    refine decide_eq_false fun e => ?_
    subst e
    have h' : Dr K F .non (toD a) := h
    generalize q : toD a = d at h'
    cases h'
    exact NN.nn a q
theorem em_isN [Enc α] [NN α] {ma : R (Option α)} (ha : EM cf E ta G ma) : EM cf E (tOp (fun x y H Q => y = .non ∧ Q (.bl (decide (x = .non))) H) ta (tC .non)) G (ma.bind fun a => .ok a.isNone) :=
  EG.bind1 (u := fun (x : V) (H : Hp) (Q : VK) => (V.non = V.non ∧ Q (V.bl (decide (x = V.non))) H)) ha fun F O H Q a r hf h1 _ ko => by
    rw [isNone_of h1]
    exact ⟨rfl, ko _ _ F H rfl (Le.refl F) hf (.bl _)⟩
theorem em_notN [Enc α] [NN α] {ma : R (Option α)} (ha : EM cf E ta G ma) : EM cf E (tOp (fun x y H Q => y = .non ∧ Q (.bl (!decide (x = .non))) H) ta (tC .non)) G (ma.bind fun a => .ok a.isSome) :=
  EG.bind1 (u := fun (x : V) (H : Hp) (Q : VK) => (V.non = V.non ∧ Q (V.bl (!decide (x = V.non))) H)) ha fun F O H Q a r hf h1 _ ko => by
    rw [isNone_of h1]
    exact ⟨rfl, ko _ _ F H rfl (Le.refl F) hf (by cases a <;> exact .bl _)⟩
theorem eb_test {ma : R Bool} (ha : EM cf E ta G ma) : EB cf E (tTest ta) G ma := fun F O H σ Q hf he nb ko ke =>
  ha F O H σ _ hf he nb (fun a v F' H' e le hf' hr => ⟨a, dr_bl hr, ko a a F' H' e le hf' rfl⟩) ke
theorem eb_B {ma : R Bool} (ha : EM cf E ta G ma) : EB cf E (tB ta) G ma := fun F O H σ Q hf he nb ko ke =>
  ha F O H σ _ hf he nb (fun a v F' H' e le hf' hr => ⟨a, dr_bl hr, ko a a F' H' e le hf' rfl⟩) ke
variable {t u : TT}
theorem eb_and {ma mb : R Bool} (ha : EB cf E t G ma) (hb : EB cf E u G mb) : EB cf E (tAnd t u) G (ma.bind fun a => if a = true then mb else .ok false) :=
  EG.bind (u := fun c σ H Q => if c = true then u σ H Q else Q false H) ha fun F O H σ Q a r hf he hr nb ko ke => by
    obtain rfl : r = a := hr
    cases r with
    | true => exact hb F O H σ Q hf he nb ko ke
    | false => exact ko false false F H rfl (Le.refl F) hf rfl
theorem eb_or {ma mb : R Bool} (ha : EB cf E t G ma) (hb : EB cf E u G mb) : EB cf E (tOr t u) G (ma.bind fun a => if a = true then .ok true else mb) :=
  EG.bind (u := fun c σ H Q => if c = true then Q true H else u σ H Q) ha fun F O H σ Q a r hf he hr nb ko ke => by
    obtain rfl : r = a := hr
    cases r with
    | true => exact ko true true F H rfl (Le.refl F) hf rfl
    | false => exact hb F O H σ Q hf he nb ko ke
theorem eb_not {ma : R Bool} (ha : EB cf E t G ma) : EB cf E (tNot t) G (ma.bind fun a => .ok (!a)) :=
  EG.bind1 (u := fun c H Q => Q (!c) H) ha fun F O H Q a r hf hr _ ko => by
    obtain rfl : r = a := hr
    exact ko _ _ F H rfl (Le.refl F) hf rfl
theorem em_and {ma mb : R Bool} (ha : EM cf E ta G ma) (hb : EM cf E tb G mb) : EM cf E (tAndV ta tb) G (ma.bind fun a => if a = true then mb else .ok false) :=
  EG.bind (u := fun (x : V) σ H (Q : VK) => ∃ c, x = V.bl c ∧ if c = true then tb σ H Q else Q (.bl false) H) ha fun F O H σ Q a r hf he hr nb ko ke => ⟨a, dr_bl hr, by
    cases a with
    | true => exact hb F O H σ Q hf he nb ko ke
    | false => exact ko false _ F H rfl (Le.refl F) hf (.bl false)⟩
theorem em_or {ma mb : R Bool} (ha : EM cf E ta G ma) (hb : EM cf E tb G mb) : EM cf E (tOrV ta tb) G (ma.bind fun a => if a = true then .ok true else mb) :=
  EG.bind (u := fun (x : V) σ H (Q : VK) => ∃ c, x = V.bl c ∧ if c = true then Q (.bl true) H else tb σ H Q) ha fun F O H σ Q a r hf he hr nb ko ke => ⟨a, dr_bl hr, by
    cases a with
    | true => exact ko true _ F H rfl (Le.refl F) hf (.bl true)
    | false => exact hb F O H σ Q hf he nb ko ke⟩
theorem em_not {ma : R Bool} (ha : EM cf E ta G ma) : EM cf E (tNotV ta) G (ma.bind fun a => .ok (!a)) :=
  EG.bind1 (u := fun (x : V) H (Q : VK) => ∃ c, x = V.bl c ∧ Q (V.bl (!c)) H) ha fun F O H Q a r hf hr _ ko => ⟨a, dr_bl hr, ko _ _ F H rfl (Le.refl F) hf (.bl _)⟩
theorem em_if [Enc α] {mt : R Bool} {ma mb : R α} (ht : EB cf E t G mt) (ha : EM cf E ta G ma) (hb : EM cf E tb G mb) : EM cf E (tIf t ta tb) G (mt.bind fun c => if c = true then ma else mb) :=
  EG.bind (u := fun c σ H Q => if c = true then ta σ H Q else tb σ H Q) ht fun F O H σ Q a r hf he hr nb ko ke => by
    obtain rfl : r = a := hr
    cases r with
    | true => exact ha F O H σ Q hf he nb ko ke
    | false => exact hb F O H σ Q hf he nb ko ke
end
end Kr

/-! KrC: lists, tuples, built-in calls by data. -/
namespace Kr
open PySem PySem.Spec PyProof.Rows L2
open Enc (toD)

section
variable {cf : Cf} {E : XK} {G : List Sl} {α β γ δ : Type} {ta tb tc : TE}
/-! ### chains -/
theorem em_chain {g g' : Int → Int → Bool} {ma mb mc : R Int} (ha : EM cf E ta G ma) (hb : EM cf E tb G mb) (hc : EM cf E tc G mc) :
    EM cf E (tChain (rI0 fun i j => .bl (g i j)) (rI0 fun i j => .bl (g' i j)) ta tb tc) G (ma.bind fun a => mb.bind fun b => if g a b = true then mc.bind fun c => .ok (g' b c) else .ok false) :=
  EG.bind (u := fun x σ H Q => tb σ H fun y H2 => rI0 (fun i j => .bl (g i j)) x y H2 fun z H3 => ∃ k, z = .bl k ∧ (if k = true then tc σ H3 fun w' H4 => rI0 (fun i j => .bl (g' i j)) y w' H4 Q else Q (.bl false) H3)) ha fun F O H σ Q a x hf he hx nb ko ke =>
    hb F O H σ _ hf he (R.bind_nb nb) (fun b y F' H' eb le hf' hy => ⟨a, b, dr_int hx, dr_int hy, g a b, rfl, by
      rw [eb, R.ok_bind] at nb ko ke
      cases hg : g a b with
      | true =>
        rw [hg, if_pos rfl] at nb ko ke
        rw [if_pos rfl]
        exact hc F' O H' σ _ hf' (he.mono le) (R.bind_nb nb) (fun c w' F'' H'' ec le' hf'' hw => ⟨b, c, dr_int hy, dr_int hw, ko _ _ F'' H'' (by rw [ec]; rfl) (le.trans le') hf'' (.bl _)⟩) fun c p d F'' H'' e le' => ke c p d F'' H'' (by rw [e]; rfl) (le.trans le')
      | false =>
        rw [hg, if_neg Bool.false_ne_true] at ko
        rw [if_neg Bool.false_ne_true]
        exact ko _ _ F' H' rfl le hf' (.bl _)⟩) fun c p d F' H' e => ke c p d F' H' (by rw [e]; rfl)

/-! ### arguments, displays -/
theorem ea_nil : EA cf E tNil G (.ok []) := EG.fin fun F O H σ Q hf he ko => ko _ F H (Le.refl F) hf .nil
theorem ea_cons [Enc α] {t : TE} {tr : TA} {m : R α} {mr : R (List Dt)} (h : EM cf E t G m) (hr : EA cf E tr G mr) : EA cf E (tCons t tr) G (m.bind fun a => mr.bind fun ds => .ok (toD a :: ds)) :=
  EG.bind2 (u := fun x xs H Q => Q (x :: xs) H) h hr rm_mono fun F O H Q a r b s hf h1 h2 _ ko => ko _ _ F H rfl (Le.refl F) hf (.cons h1 h2)
/-- arguments of one type -/
def EAs [Enc α] (cf : Cf) (E : XK) (t : TA) (G : List Sl) (m : R (List α)) : Prop := EG cf E t G m fun F _ _ vs xs => DrA cf.K F vs (xs.map toD)
theorem eas_nil [Enc α] : EAs cf E tNil G (.ok ([] : List α)) := EG.fin fun F O H σ Q hf he ko => ko _ F H (Le.refl F) hf .nil
theorem eas_cons [Enc α] {t : TE} {tr : TA} {m : R α} {mr : R (List α)} (h : EM cf E t G m) (hr : EAs cf E tr G mr) : EAs cf E (tCons t tr) G (m.bind fun a => mr.bind fun ds => .ok (a :: ds)) :=
  EG.bind2 (u := fun x xs H Q => Q (x :: xs) H) h hr rm_mono fun F O H Q a r b s hf h1 h2 _ ko => ko _ _ F H rfl (Le.refl F) hf (.cons h1 h2)
theorem sz_of {n : Nat} (h : n ≤ 100000) : n ≤ sizeLine := Nat.le_trans h (by decide)
theorem sz_lt {n : Nat} (h : n < 100000) : n < sizeLine := Nat.lt_of_lt_of_le h (by decide)
/-- a list that does not grow too long -/
def szR (xs : List α) : R (List α) := if xs.length ≤ 1000000 then .ok xs else .bad
theorem szR_ok {xs : List α} (h : xs.length ≤ 1000000) : szR xs = .ok xs := if_pos h
theorem szR_nb {xs : List α} (h : szR xs ≠ .bad) : xs.length ≤ 1000000 ∧ szR xs = .ok xs := by
  unfold szR at *
  split at h
  · rename_i c
    exact ⟨c, if_pos c⟩
  · exact absurd rfl h
theorem sz_le {n : Nat} (h : n ≤ 1000000) : n ≤ sizeLine := Nat.le_trans h (by decide)
theorem sz_ltM {n : Nat} (h : n ≤ 1000000) : n < sizeLine := Nat.lt_of_le_of_lt h (by decide)
theorem ef_lst [Enc α] {t : TA} {m : R (List α)} (h : EAs cf E t G m) : EF cf E (tLst t) G (m.bind szR) :=
  EG.bind1 (u := fun (vs : List V) (H : Hp) (Q : VK) => vs.length ≤ sizeLine ∧ ∀ p, H p = none → Q (.ref p) (upd H p (.lst vs))) h fun F O H Q a r hf h1 nb ko => by
    obtain ⟨c, e⟩ := szR_nb nb
    refine ⟨?_, fun p hp => ko _ _ F _ e (Le.refl F) (hf.newH hp) ⟨p, r, rfl, hf.fnone hp, hf.onone hp, upd_same, h1⟩⟩
    rw [DrA.length h1, List.length_map]
    exact sz_le c
theorem em_tup2 [Enc α] [Enc β] {m : R α} {n : R β} (h : EM cf E ta G m) (h' : EM cf E tb G n) : EM cf E (tTup (tCons ta (tCons tb tNil))) G (m.bind fun a => n.bind fun b => .ok (a, b)) :=
  EG.bind2 (u := fun (x y : V) (H : Hp) (Q : VK) => 2 ≤ sizeLine ∧ ∀ p, H p = none → Q (.ref p) (upd H p (.tup [x, y]))) h h' rm_mono fun F O H Q a r b s hf h1 h2 _ ko =>
    ⟨by decide, fun p hp => ko _ _ (upd F p (.tup [r, s])) _ rfl (Le.new (hf.fnone hp)) (hf.newF hp) (.tup upd_same (.cons (Dr.mono (Le.new (hf.fnone hp)) h1) (.cons (Dr.mono (Le.new (hf.fnone hp)) h2) .nil)))⟩
theorem em_tup3 [Enc α] [Enc β] [Enc γ] {m : R α} {n : R β} {l : R γ} (h : EM cf E ta G m) (h' : EM cf E tb G n) (h'' : EM cf E tc G l) : EM cf E (tTup (tCons ta (tCons tb (tCons tc tNil)))) G (m.bind fun a => n.bind fun b => l.bind fun c => .ok (T3.mk a b c)) :=
  EG.bind3 (u := fun (x y z : V) (H : Hp) (Q : VK) => 3 ≤ sizeLine ∧ ∀ p, H p = none → Q (.ref p) (upd H p (.tup [x, y, z]))) h h' h'' rm_mono rm_mono fun F O H Q a r b s c t hf h1 h2 h3 _ ko =>
    ⟨by decide, fun p hp => ko _ _ (upd F p (.tup [r, s, t])) _ rfl (Le.new (hf.fnone hp)) (hf.newF hp) (.tup upd_same (.cons (Dr.mono (Le.new (hf.fnone hp)) h1) (.cons (Dr.mono (Le.new (hf.fnone hp)) h2) (.cons (Dr.mono (Le.new (hf.fnone hp)) h3) .nil))))⟩

/-! ### subscripts, slices -/
def idxR (xs : List α) (i : Int) : R α := match atI xs i with
  | some a => .ok a
  | none => .bad
theorem atI_map {β : Type} (f : α → β) (xs : List α) (i : Int) : atI (xs.map f) i = (atI xs i).map f := by
  unfold atI
  rw [List.length_map]
  cases ixN xs.length i with
  | none => rfl
  | some j => simp
theorem atI_drA {K : PySem.W.Frag} {F : Hp} {vs : List V} {ds : List Dt} {i : Int} {d : Dt} (h : DrA K F vs ds) (e : atI ds i = some d) : ∃ v, atI vs i = some v ∧ Dr K F v d := by
  unfold atI at *
  rw [h.length]
  cases q : ixN ds.length i with
  | none =>
    rw [q] at e
    cases e
  | some j =>
    rw [q] at e
    exact h.get e
theorem em_ixL [Enc α] {m : R (List α)} {n : R Int} (h : ES cf E ta G m) (h' : EM cf E tb G n) : EM cf E (tOp (rIxL cf.K) ta tb) G (m.bind fun xs => n.bind fun i => idxR xs i) :=
  EG.bind2 (u := fun x y H Q => rIxL cf.K x y H Q) h h' rs_mono fun F O H Q xs r i s hf h1 h2 nb ko => by
    obtain ⟨a, vs, e, hs, hr⟩ := RS.seq h1 hf
    unfold idxR at nb ko
    cases q : atI xs i with
    | none =>
      rw [q] at nb
      exact absurd rfl nb
    | some x =>
      rw [q] at ko
      obtain ⟨v, ev, rv⟩ := atI_drA hr (show atI (xs.map toD) i = some (toD x) by rw [atI_map, q]; rfl)
      exact ⟨a, vs, i, v, e, dr_int h2, hs, ev, ko x v F H rfl (Le.refl F) hf rv⟩
theorem em_fst [Enc α] [Enc β] {m : R (α × β)} (h : EM cf E ta G m) : EM cf E (tOp (rIxT cf.K) ta (tC (.int 0))) G (m.bind fun p => .ok p.1) :=
  EG.bind1 (u := fun x H Q => rIxT cf.K x (.int 0) H Q) h fun F O H Q a r hf h1 _ ko => by
    obtain ⟨p, vs, e, ht, hr⟩ := dr_tup (ds := [toD a.1, toD a.2]) h1
    obtain ⟨v, ev, rv⟩ := atI_drA hr (show atI [toD a.1, toD a.2] 0 = some (toD a.1) from rfl)
    exact ⟨p, vs, 0, v, e, rfl, SqT.of (hf.f _ _ ht), ev, ko _ v F H rfl (Le.refl F) hf rv⟩
theorem em_snd [Enc α] [Enc β] {m : R (α × β)} (h : EM cf E ta G m) : EM cf E (tOp (rIxT cf.K) ta (tC (.int 1))) G (m.bind fun p => .ok p.2) :=
  EG.bind1 (u := fun x H Q => rIxT cf.K x (.int 1) H Q) h fun F O H Q a r hf h1 _ ko => by
    obtain ⟨p, vs, e, ht, hr⟩ := dr_tup (ds := [toD a.1, toD a.2]) h1
    obtain ⟨v, ev, rv⟩ := atI_drA hr (show atI [toD a.1, toD a.2] 1 = some (toD a.2) from rfl)
    exact ⟨p, vs, 1, v, e, rfl, SqT.of (hf.f _ _ ht), ev, ko _ v F H rfl (Le.refl F) hf rv⟩
theorem em_t30 [Enc α] [Enc β] [Enc γ] {m : R (T3 α β γ)} (h : EM cf E ta G m) : EM cf E (tOp (rIxT cf.K) ta (tC (.int 0))) G (m.bind fun p => .ok p.a) :=
  EG.bind1 (u := fun x H Q => rIxT cf.K x (.int 0) H Q) h fun F O H Q a r hf h1 _ ko => by
    obtain ⟨p, vs, e, ht, hr⟩ := dr_tup (ds := [toD a.a, toD a.b, toD a.c]) h1
    obtain ⟨v, ev, rv⟩ := atI_drA hr (show atI [toD a.a, toD a.b, toD a.c] 0 = some (toD a.a) from rfl)
    exact ⟨p, vs, 0, v, e, rfl, SqT.of (hf.f _ _ ht), ev, ko _ v F H rfl (Le.refl F) hf rv⟩
theorem em_t31 [Enc α] [Enc β] [Enc γ] {m : R (T3 α β γ)} (h : EM cf E ta G m) : EM cf E (tOp (rIxT cf.K) ta (tC (.int 1))) G (m.bind fun p => .ok p.b) :=
  EG.bind1 (u := fun x H Q => rIxT cf.K x (.int 1) H Q) h fun F O H Q a r hf h1 _ ko => by
    obtain ⟨p, vs, e, ht, hr⟩ := dr_tup (ds := [toD a.a, toD a.b, toD a.c]) h1
    obtain ⟨v, ev, rv⟩ := atI_drA hr (show atI [toD a.a, toD a.b, toD a.c] 1 = some (toD a.b) from rfl)
    exact ⟨p, vs, 1, v, e, rfl, SqT.of (hf.f _ _ ht), ev, ko _ v F H rfl (Le.refl F) hf rv⟩
theorem em_t32 [Enc α] [Enc β] [Enc γ] {m : R (T3 α β γ)} (h : EM cf E ta G m) : EM cf E (tOp (rIxT cf.K) ta (tC (.int 2))) G (m.bind fun p => .ok p.c) :=
  EG.bind1 (u := fun x H Q => rIxT cf.K x (.int 2) H Q) h fun F O H Q a r hf h1 _ ko => by
    obtain ⟨p, vs, e, ht, hr⟩ := dr_tup (ds := [toD a.a, toD a.b, toD a.c]) h1
    obtain ⟨v, ev, rv⟩ := atI_drA hr (show atI [toD a.a, toD a.b, toD a.c] 2 = some (toD a.c) from rfl)
    exact ⟨p, vs, 2, v, e, rfl, SqT.of (hf.f _ _ ht), ev, ko _ v F H rfl (Le.refl F) hf rv⟩
/-- xs[lo:hi] -/
def cut (xs : List α) (lo hi : Option Int) : List α := (xs.drop (HT.sIx xs.length 0 lo)).take (HT.sIx xs.length xs.length hi - HT.sIx xs.length 0 lo)
theorem cut_map {β : Type} (f : α → β) (xs : List α) (lo hi : Option Int) : cut (xs.map f) lo hi = (cut xs lo hi).map f := by
  unfold cut
  rw [List.length_map, List.map_take, List.map_drop]
theorem cut_drA {K : PySem.W.Frag} {F : Hp} {vs : List V} {ds : List Dt} (lo hi : Option Int) (h : DrA K F vs ds) : DrA K F (cutV vs lo hi) (cut ds lo hi) := by
  unfold cutV cut
  rw [h.length]
  exact (h.drop _).take _
theorem eo_none : EO cf E tNoPart G (.ok none) := EG.fin fun F O H σ Q hf he ko => ko _ F H (Le.refl F) hf rfl
theorem eo_some {m : R Int} (h : EM cf E ta G m) : EO cf E (tPart ta) G (m.bind fun i => .ok (some i)) :=
  EG.bind1 (u := fun (x : V) (H : Hp) (Q : Option Int → Hp → Prop) => ∃ i, x = .int i ∧ Q (some i) H) h fun F O H Q a r hf h1 _ ko => ⟨a, dr_int h1, ko _ _ F H rfl (Le.refl F) hf rfl⟩
theorem ef_sl [Enc α] {tl th : TO} {m : R (List α)} {ml mh : R (Option Int)} (h : ES cf E ta G m) (hl : EO cf E tl G ml) (hh : EO cf E th G mh) :
    EF cf E (tSl (rSlL cf.K) ta tl th) G (m.bind fun xs => ml.bind fun lo => mh.bind fun hi => .ok (cut xs lo hi)) :=
  EG.bind3 (u := fun x lo hi H Q => rSlL cf.K x lo hi H Q) h hl hh rs_mono (fun _ _ _ _ _ _ _ _ _ h => h) fun F O H Q xs r lo lo' hi hi' hf h1 h2 h3 _ ko => by
    obtain ⟨a, vs, e, hs, hr⟩ := RS.seq h1 hf
    obtain rfl : lo' = lo := h2
    obtain rfl : hi' = hi := h3
    exact ⟨a, vs, e, hs, fun p hp => ko _ _ F _ rfl (Le.refl F) (hf.newH hp) ⟨p, _, rfl, hf.fnone hp, hf.onone hp, upd_same, by
      rw [← cut_map]
      exact cut_drA lo' hi' hr⟩⟩

/-! ### operators on lists -/
theorem ef_cat [Enc α] {m n : R (List α)} (h : EL cf E ta G m) (h' : EL cf E tb G n) : EF cf E (tOp rCat ta tb) G (m.bind fun xs => n.bind fun ys => szR (xs ++ ys)) :=
  EG.bind2 (u := fun x y H Q => rCat x y H Q) h h' rl_mono fun F O H Q xs r ys s hf h1 h2 nb ko => by
    obtain ⟨c, ec⟩ := szR_nb nb
    obtain ⟨a, vs, e, ha, hr⟩ := RL.at h1 hf
    obtain ⟨b, ws, e', hb, hr'⟩ := RL.at h2 hf
    refine ⟨a, b, vs, ws, e, e', ha, hb, ?_, fun p hp => ko _ _ F _ ec (Le.refl F) (hf.newH hp) ⟨p, _, rfl, hf.fnone hp, hf.onone hp, upd_same, by
      rw [List.map_append]
      exact hr.append hr'⟩⟩
    rw [hr.length, hr'.length, List.length_map, List.length_map, ← List.length_append]
    exact sz_le c
def repR (xs : List α) (k : Int) : R (List α) := if -(2 ^ 63) ≤ k ∧ k < 2 ^ 63 ∧ xs.length * k.toNat ≤ 1000000 then .ok (List.replicate k.toNat xs).flatten else .bad
theorem repR_nb {xs : List α} {k : Int} (h : repR xs k ≠ .bad) : (-(2 ^ 63) ≤ k ∧ k < 2 ^ 63 ∧ xs.length * k.toNat ≤ 1000000) ∧ repR xs k = .ok (List.replicate k.toNat xs).flatten := by
  unfold repR at *
  split at h
  · rename_i c
    exact ⟨c, if_pos c⟩
  · exact absurd rfl h
theorem map_rep {β : Type} (f : α → β) (xs : List α) (k : Nat) : (List.replicate k xs).flatten.map f = (List.replicate k (xs.map f)).flatten := by
  rw [List.map_flatten, List.map_replicate]
theorem ef_rep [Enc α] {m : R (List α)} {n : R Int} (h : EL cf E ta G m) (h' : EM cf E tb G n) : EF cf E (tOp rRep ta tb) G (m.bind fun xs => n.bind fun k => repR xs k) :=
  EG.bind2 (u := fun x y H Q => rRep x y H Q) h h' rl_mono fun F O H Q xs r k s hf h1 h2 nb ko => by
    obtain ⟨⟨c1, c2, c3⟩, ec⟩ := repR_nb nb
    obtain ⟨a, vs, e, ha, hr⟩ := RL.at h1 hf
    refine ⟨a, k, vs, e, dr_int h2, ha, c1, c2, ?_, fun p hp => ko _ _ F _ ec (Le.refl F) (hf.newH hp) ⟨p, _, rfl, hf.fnone hp, hf.onone hp, upd_same, by
      rw [map_rep]
      exact hr.rep _⟩⟩
    rw [hr.length, List.length_map]
    exact sz_le c3

/-! ### built-ins -/
/-- a call of one argument -/
theorem EG.call1 {τ ρ : Type} {rel1 : Hp → Hp → Hp → V → α → Prop} {rel3 : Hp → Hp → Hp → τ → γ → Prop} {m : R α} {f : α → R γ} {u : List V → Hp → (τ → Hp → Prop) → Prop} (h : EG cf E ta G m rel1)
    (k : ∀ (F O H : Hp) (Q : τ → Hp → Prop) (a : α) (r : V), Fm F O H → rel1 F O H r a → f a ≠ .bad → (∀ c x F' H', f a = .ok c → Le F F' → Fm F' O H' → rel3 F' O H' x c → Q x H') → u [r] H Q) :
    EG cf E (fun σ H Q => tCons ta tNil σ H fun vs H1 => u vs H1 Q) G (m.bind f) rel3 := EG.bind1 (u := fun r H Q => u [r] H Q) h k
theorem EG.call2 {τ ρ : Type} {rel1 : Hp → Hp → Hp → V → α → Prop} {rel2 : Hp → Hp → Hp → V → β → Prop} {rel3 : Hp → Hp → Hp → τ → γ → Prop} {m : R α} {n : R β} {f : α → β → R γ} {u : List V → Hp → (τ → Hp → Prop) → Prop} (h : EG cf E ta G m rel1) (h' : EG cf E tb G n rel2)
    (mono : ∀ F O H F' H' r a, Le F F' → Fm F' O H' → rel1 F O H r a → rel1 F' O H' r a)
    (k : ∀ (F O H : Hp) (Q : τ → Hp → Prop) (a : α) (r : V) (b : β) (s : V), Fm F O H → rel1 F O H r a → rel2 F O H s b → f a b ≠ .bad → (∀ c x F' H', f a b = .ok c → Le F F' → Fm F' O H' → rel3 F' O H' x c → Q x H') → u [r, s] H Q) :
    EG cf E (fun σ H Q => tCons ta (tCons tb tNil) σ H fun vs H1 => u vs H1 Q) G (m.bind fun a => n.bind fun b => f a b) rel3 := EG.bind2 (u := fun r s H Q => u [r, s] H Q) h h' mono k
def rLenS (K : PySem.W.Frag) : List V → Hp → VK → Prop := fun xs H Q => ∃ p ys, xs = [.ref p] ∧ (SqL K H p ys ∨ SqT K H p ys) ∧ Q (.int ys.length) H
theorem em_len [Enc α] {m : R (List α)} (h : ES cf E ta G m) : EM cf E (tCB (rLenS cf.K) (tCons ta tNil)) G (m.bind fun xs => .ok (xs.length : Int)) :=
  EG.call1 (ρ := Unit) h fun F O H Q xs r hf h1 _ ko => by
    obtain ⟨a, vs, e, hs, hr⟩ := RS.seq h1 hf
    refine ⟨a, vs, by rw [e], .inl hs, ?_⟩
    rw [hr.length, List.length_map]
    exact ko _ _ F H rfl (Le.refl F) hf (.int _)
theorem em_sum {m : R (List Int)} (h : ES cf E ta G m) : EM cf E (tCB (rSum cf.K) (tCons ta tNil)) G (m.bind fun xs => .ok xs.sum) :=
  EG.call1 (ρ := Unit) h fun F O H Q xs r hf h1 _ ko => by
    obtain ⟨a, vs, e, hs, hr⟩ := RS.seq h1 hf
    rw [ints_of_drA hr] at hs
    exact ⟨a, xs, by rw [e], hs, ko _ _ F H rfl (Le.refl F) hf (.int _)⟩
def maxR (xs : List Int) : R Int := match xs with
  | [] => .bad
  | x :: r => .ok (r.foldl max x)
def minR (xs : List Int) : R Int := match xs with
  | [] => .bad
  | x :: r => .ok (r.foldl min x)
theorem foldl_max_mem : ∀ (r : List Int) (x : Int), r.foldl max x ∈ x :: r ∧ ∀ y ∈ x :: r, y ≤ r.foldl max x
  | [], x => ⟨by simp, by simp⟩
  | y :: r, x => by
    obtain ⟨h1, h2⟩ := foldl_max_mem r (max x y)
    rw [List.foldl_cons]
    refine ⟨?_, fun z hz => ?_⟩
    · rcases List.mem_cons.mp h1 with e | h1
      · rw [e]
        by_cases c : x ≤ y
        · rw [Int.max_eq_right c]; simp
        · rw [Int.max_eq_left (by omega)]; simp
      · simp [h1]
    · have hm := h2 (max x y) (by simp)
      rcases List.mem_cons.mp hz with e | hz
      · subst e
        exact Int.le_trans (Int.le_max_left _ _) hm
      · rcases List.mem_cons.mp hz with e | hz
        · subst e
          exact Int.le_trans (Int.le_max_right _ _) hm
        · exact h2 z (by simp [hz])
theorem foldl_min_mem : ∀ (r : List Int) (x : Int), r.foldl min x ∈ x :: r ∧ ∀ y ∈ x :: r, r.foldl min x ≤ y
  | [], x => ⟨by simp, by simp⟩
  | y :: r, x => by
    obtain ⟨h1, h2⟩ := foldl_min_mem r (min x y)
    rw [List.foldl_cons]
    refine ⟨?_, fun z hz => ?_⟩
    · rcases List.mem_cons.mp h1 with e | h1
      · rw [e]
        by_cases c : x ≤ y
        · rw [Int.min_eq_left c]; simp
        · rw [Int.min_eq_right (by omega)]; simp
      · simp [h1]
    · have hm := h2 (min x y) (by simp)
      rcases List.mem_cons.mp hz with e | hz
      · subst e
        exact Int.le_trans hm (Int.min_le_left _ _)
      · rcases List.mem_cons.mp hz with e | hz
        · subst e
          exact Int.le_trans hm (Int.min_le_right _ _)
        · exact h2 z (by simp [hz])
theorem em_max {m : R (List Int)} (h : ES cf E ta G m) : EM cf E (tCB (rMax cf.K) (tCons ta tNil)) G (m.bind maxR) :=
  EG.call1 (ρ := Unit) h fun F O H Q xs r hf h1 nb ko => by
    obtain ⟨a, vs, e, hs, hr⟩ := RS.seq h1 hf
    rw [ints_of_drA hr] at hs
    cases xs with
    | nil => exact absurd rfl nb
    | cons x q =>
      refine ⟨a, x :: q, by rw [e], hs, by simp, fun y hy hle => ?_⟩
      obtain ⟨g1, g2⟩ := foldl_max_mem q x
      have e2 : y = q.foldl max x := Int.le_antisymm (g2 y hy) (hle _ g1)
      rw [e2]
      exact ko _ _ F H rfl (Le.refl F) hf (.int _)
theorem em_min {m : R (List Int)} (h : ES cf E ta G m) : EM cf E (tCB (rMin cf.K) (tCons ta tNil)) G (m.bind minR) :=
  EG.call1 (ρ := Unit) h fun F O H Q xs r hf h1 nb ko => by
    obtain ⟨a, vs, e, hs, hr⟩ := RS.seq h1 hf
    rw [ints_of_drA hr] at hs
    cases xs with
    | nil => exact absurd rfl nb
    | cons x q =>
      refine ⟨a, x :: q, by rw [e], hs, by simp, fun y hy hle => ?_⟩
      obtain ⟨g1, g2⟩ := foldl_min_mem q x
      have e2 : y = q.foldl min x := Int.le_antisymm (hle _ g1) (g2 y hy)
      rw [e2]
      exact ko _ _ F H rfl (Le.refl F) hf (.int _)
def rMax2 : List V → Hp → VK → Prop := fun xs H Q => ∃ i j, xs = [.int i, .int j] ∧ Q (.int (if j > i then j else i)) H
def rMin2 : List V → Hp → VK → Prop := fun xs H Q => ∃ i j, xs = [.int i, .int j] ∧ Q (.int (if j < i then j else i)) H
theorem em_max2 {m n : R Int} (h : EM cf E ta G m) (h' : EM cf E tb G n) : EM cf E (tCB rMax2 (tCons ta (tCons tb tNil))) G (m.bind fun a => n.bind fun b => .ok (max a b)) :=
  EG.call2 (ρ := Unit) h h' rm_mono fun F O H Q a r b s hf h1 h2 _ ko => ⟨a, b, by rw [dr_int (i := a) h1, dr_int (i := b) h2], by
    rw [show (if b > a then b else a) = max a b by split <;> omega]
    exact ko _ _ F H rfl (Le.refl F) hf (.int _)⟩
theorem em_min2 {m n : R Int} (h : EM cf E ta G m) (h' : EM cf E tb G n) : EM cf E (tCB rMin2 (tCons ta (tCons tb tNil))) G (m.bind fun a => n.bind fun b => .ok (min a b)) :=
  EG.call2 (ρ := Unit) h h' rm_mono fun F O H Q a r b s hf h1 h2 _ ko => ⟨a, b, by rw [dr_int (i := a) h1, dr_int (i := b) h2], by
    rw [show (if b < a then b else a) = min a b by split <;> omega]
    exact ko _ _ F H rfl (Le.refl F) hf (.int _)⟩
def rInt1 : List V → Hp → VK → Prop := fun xs H Q => (∃ i, xs = [.int i] ∧ Q (.int i) H) ∨ ∃ k, xs = [.bl k] ∧ Q (.int (if k then 1 else 0)) H
theorem em_intI {m : R Int} (h : EM cf E ta G m) : EM cf E (tCB rInt1 (tCons ta tNil)) G m := EG.cast (EG.call1 (ρ := Unit) h fun F O H Q a r hf h1 _ ko => .inl ⟨a, by rw [dr_int (i := a) h1], ko a _ F H rfl (Le.refl F) hf (.int a)⟩) (R.bind_ok m)
theorem em_intB {m : R Bool} (h : EM cf E ta G m) : EM cf E (tCB rInt1 (tCons ta tNil)) G (m.bind fun b => .ok (if b then (1 : Int) else 0)) := EG.call1 (ρ := Unit) h fun F O H Q a r hf h1 _ ko => .inr ⟨a, by rw [dr_bl (i := a) h1], ko _ _ F H rfl (Le.refl F) hf (.int _)⟩
def rListS (K : PySem.W.Frag) : List V → Hp → VK → Prop := fun xs H Q => ∃ p ys, xs = [.ref p] ∧ (SqL K H p ys ∨ SqT K H p ys) ∧ ∀ l, H l = none → Q (.ref l) (upd H l (.lst ys))
theorem ef_list [Enc α] {m : R (List α)} (h : ES cf E ta G m) : EF cf E (tCB (rListS cf.K) (tCons ta tNil)) G m := EG.cast (EG.call1 (ρ := Unit) h fun F O H Q xs r hf h1 _ ko => by
    obtain ⟨a, vs, e, hs, hr⟩ := RS.seq h1 hf
    exact ⟨a, vs, by rw [e], .inl hs, fun p hp => ko xs _ F _ rfl (Le.refl F) (hf.newH hp) ⟨p, vs, rfl, hf.fnone hp, hf.onone hp, upd_same, hr⟩⟩) (R.bind_ok m)
theorem em_any {m : R (List Bool)} (h : ES cf E ta G m) : EM cf E (tCB (rAny cf.K) (tCons ta tNil)) G (m.bind fun xs => .ok (xs.any id)) :=
  EG.call1 (ρ := Unit) h fun F O H Q xs r hf h1 _ ko => by
    obtain ⟨a, vs, e, hs, hr⟩ := RS.seq h1 hf
    rw [bls_of_drA hr] at hs
    exact ⟨a, xs, by rw [e], hs, ko _ _ F H rfl (Le.refl F) hf (.bl _)⟩

/-! ### == of data -/
mutual
def Dt.py : Dt → PyData
  | .non => .none
  | .bl b => .bool b
  | .int i => .int i
  | .str x => .str x
  | .lst xs => .list (Dt.pyA xs)
  | .tup xs => .tuple (Dt.pyA xs)
  | .scr ns => .list (ns.map .int)
  | .dct _ => .dict []
def Dt.pyA : List Dt → List PyData
  | [] => []
  | d :: r => d.py :: Dt.pyA r
end
mutual
/-- no dict within -/
def Dt.nd : Dt → Bool
  | .lst xs => Dt.ndA xs
  | .tup xs => Dt.ndA xs
  | .dct _ => false
  | _ => true
def Dt.ndA : List Dt → Bool
  | [] => true
  | d :: r => d.nd && Dt.ndA r
end
theorem dpAll_ints {K : PySem.W.Frag} {H : Hp} : ∀ ns : List Int, DpAll K H (ns.map V.int) (ns.map PyData.int)
  | [] => .nil
  | n :: r => .cons (.int n) (dpAll_ints r)
mutual
theorem Dr.dp {K : PySem.W.Frag} {F H : Hp} (e : Le F H) : ∀ {v : V} {d : Dt}, Dr K F v d → d.nd = true → Dp K H v d.py
  | _, _, .non, _ => .non
  | _, _, .bl b, _ => .bl b
  | _, _, .int i, _ => .int i
  | _, _, .str x, _ => .str x
  | _, _, .lst h r, n => .lst (SqL.of (e _ _ h)) (DrA.dp e r n)
  | _, _, .tup h r, n => .tup (SqT.of (e _ _ h)) (DrA.dp e r n)
  | _, _, .scr h, _ => .lst (e.seq h) (dpAll_ints _)
  | _, _, .dct _ _, n => Bool.noConfusion n
theorem DrA.dp {K : PySem.W.Frag} {F H : Hp} (e : Le F H) : ∀ {vs : List V} {ds : List Dt}, DrA K F vs ds → Dt.ndA ds = true → DpAll K H vs (Dt.pyA ds)
  | _, _, .nil, _ => .nil
  | _, _, .cons r t, n => .cons (Dr.dp e r (Bool.and_eq_true_iff.mp n).1) (DrA.dp e t (Bool.and_eq_true_iff.mp n).2)
end
/-- a == b -/
def eqR [Enc α] [Enc β] (a : α) (b : β) : R Bool := if (toD a).nd = true ∧ (toD b).nd = true ∧ SeqAt.shaped (toD a).py = true ∧ SeqAt.shaped (toD b).py = true then .ok (PyData.eqv (toD a).py (toD b).py) else .bad
theorem eqR_nb [Enc α] [Enc β] {a : α} {b : β} (h : eqR a b ≠ .bad) : ((toD a).nd = true ∧ (toD b).nd = true ∧ SeqAt.shaped (toD a).py = true ∧ SeqAt.shaped (toD b).py = true) ∧ eqR a b = .ok (PyData.eqv (toD a).py (toD b).py) := by
  unfold eqR at *
  split at h
  · rename_i c
    exact ⟨c, if_pos c⟩
  · exact absurd rfl h
/-- lists too, owned or not -/
def RE [Enc α] (cf : Cf) (F O H : Hp) (v : V) (a : α) : Prop := (toD a).nd = true → Dp cf.K H v (toD a).py
abbrev EE [Enc α] (cf : Cf) (E : XK) (t : TE) (G : List Sl) (m : R α) : Prop := EG cf E t G m fun F O H v a => ∀ F' H', Le F F' → Fm F' O H' → (toD a).nd = true → Dp cf.K H' v (toD a).py
theorem EM.toE [Enc α] {m : R α} (h : EM cf E ta G m) : EE cf E ta G m := EG.imp h fun F O H v a hf r F' H' le hf' n => Dr.dp (le.trans hf'.f) r n
theorem EL.toE [Enc α] {m : R (List α)} (h : EL cf E ta G m) : EE cf E ta G m := EG.imp h fun F O H v xs hf r F' H' le hf' n => by
  obtain ⟨a, vs, e, ha, hr⟩ := RL.at (rl_mono F O H F' H' v xs le hf' r) hf'
  rw [e]
  exact .lst (SqL.of ha) (DrA.dp hf'.f hr n)
theorem em_eqD [Enc α] [Enc β] {m : R α} {n : R β} (h : EE cf E ta G m) (h' : EE cf E tb G n) : EM cf E (tOp (rEqD cf.K) ta tb) G (m.bind fun a => n.bind fun b => eqR a b) :=
  EG.bind2 (u := fun x y H Q => rEqD cf.K x y H Q) h h' (fun F O H F' H' r a le hf' h F'' H'' le' hf'' => h F'' H'' (le.trans le') hf'') fun F O H Q a r b s hf h1 h2 nb ko => by
    obtain ⟨⟨c1, c2, c3, c4⟩, ec⟩ := eqR_nb nb
    exact ⟨_, _, h1 F H (Le.refl F) hf c1, h2 F H (Le.refl F) hf c2, c3, c4, ko _ _ F H ec (Le.refl F) hf (.bl _)⟩
theorem em_neD [Enc α] [Enc β] {m : R α} {n : R β} (h : EE cf E ta G m) (h' : EE cf E tb G n) : EM cf E (tOp (rNeD cf.K) ta tb) G (m.bind fun a => n.bind fun b => (eqR a b).bind fun c => .ok (!c)) :=
  EG.bind2 (f := fun a b => (eqR a b).bind fun c => .ok (!c)) (u := fun x y H Q => rNeD cf.K x y H Q) h h' (fun F O H F' H' r a le hf' h F'' H'' le' hf'' => h F'' H'' (le.trans le') hf'') fun F O H Q a r b s hf h1 h2 nb ko => by
    obtain ⟨⟨c1, c2, c3, c4⟩, ec⟩ := eqR_nb (R.bind_nb nb)
    rw [ec] at ko
    exact ⟨_, _, h1 F H (Le.refl F) hf c1, h2 F H (Le.refl F) hf c2, c3, c4, ko _ _ F H rfl (Le.refl F) hf (.bl _)⟩
end
end Kr

/-! KrD: what is walked, comprehensions, statements by data. -/
namespace Kr
open PySem PySem.Spec PyProof.Rows L2
open Enc (toD)

/-! ### what is walked -/
/-- J gives the items xs, one after the other -/
def Itm {α : Type} [Enc α] (cf : Cf) (J : It) (F1 : Hp) (xs : List α) : Prop := ∀ (i : Nat) (F O H : Hp), Le F1 F → Fm F O H →
  (∀ x, xs[i]? = some x → J.go i H ∧ ∀ v H', J.yld i H v H' → ∃ F', Le F F' ∧ Fm F' O H' ∧ Dr cf.K F' v (toD x)) ∧ (xs.length ≤ i → J.stop i H)
def IG {α : Type} [Enc α] (cf : Cf) (E : XK) (wi : TI) (G : List Sl) (m : R (List α)) : Prop :=
  ∀ (F O H : Hp) (σ : L2.St) (Q : It → Hp → Prop), Fm F O H → Er cf.K F O σ G → m ≠ .bad →
    (∀ xs J F' H', m = .ok xs → Le F F' → Fm F' O H' → Itm cf J F' xs → Q J H') →
    (∀ c p d F' H', m = .er c p → Le F F' → Fm F' O H' → F' d = some (xdO cf c p) → E (.ref (cf.cls c)) (some d) H') → wi σ H Q
section
variable {cf : Cf} {E : XK} {G : List Sl} {α β γ δ : Type} {ta tb : TE}
/-- a list that stays as it is -/
def RZ [Enc α] (cf : Cf) (F O H : Hp) (v : V) (xs : List α) : Prop := ∃ a vs, v = .ref a ∧ SqL cf.K F a vs ∧ DrA cf.K F vs (xs.map toD)
abbrev EZ [Enc α] (cf : Cf) (E : XK) (t : TE) (G : List Sl) (m : R (List α)) : Prop := EG cf E t G m (RZ cf)
theorem rz_mono [Enc α] (F O H F' H' : Hp) (r : V) (a : List α) (le : Le F F') (_ : Fm F' O H') (h : RZ cf F O H r a) : RZ cf F' O H' r a := by
  obtain ⟨a, vs, e, h1, h2⟩ := h
  exact ⟨a, vs, e, le.seq h1, h2.mono le⟩
theorem EM.toZ [Enc α] {m : R (List α)} (h : EM cf E ta G m) : EZ cf E ta G m := EG.imp h fun F O H v xs _ r => by
  obtain ⟨a, vs, e, h1, h2⟩ := dr_lst r
  exact ⟨a, vs, e, SqL.of h1, h2⟩
theorem EF.toZ [Enc α] {m : R (List α)} (h : EF cf E ta G m) : EZ cf E ta G m := EM.toZ (EF.toM h)
theorem EM.scrZ {t : TE} {m : R Scr} (h : EM cf E t G m) : EZ cf E t G (m.bind fun s => .ok s.ns) := fun F O H σ Q hf he nb ko ke => by
  refine h F O H σ Q hf he (R.bind_nb nb) (fun s v F' H' e le hf' hr => ?_) (fun c p d F' H' e => ke c p d F' H' (by rw [e]; rfl))
  obtain ⟨a, ea, hs⟩ := dr_scr (ns := s.ns) hr
  exact ko s.ns _ F' H' (by rw [e]; rfl) le hf' ⟨a, _, ea, hs, drA_ints s.ns⟩
theorem drA_at [Enc α] {K : PySem.W.Frag} {F : Hp} {vs : List V} {xs : List α} (h : DrA K F vs (xs.map toD)) {i : Nat} {x : α} (e : xs[i]? = some x) : ∃ v, vs[i]? = some v ∧ Dr K F v (toD x) := h.get (by rw [List.getElem?_map, e]; rfl)
theorem ig_list [Enc α] {m : R (List α)} (h : EZ cf E ta G m) : IG cf E (iList cf.K ta) G m := fun F O H σ Q hf he nb ko ke =>
  h F O H σ _ hf he nb (fun xs v F' H' e le hf' hr => by
    obtain ⟨a, vs, ev, hs, hd⟩ := hr
    refine ⟨a, ev, ⟨vs, hf'.f.seq hs⟩, ko xs _ F' H' e le hf' fun i F2 O2 H2 le2 hf2 => ⟨fun x hx => ?_, fun hi => ⟨vs, (le2.trans hf2.f).seq hs, ?_⟩⟩⟩
    · obtain ⟨w', hw, rw'⟩ := drA_at hd hx
      exact ⟨⟨vs, w', (le2.trans hf2.f).seq hs, hw⟩, fun v H3 hy => ⟨F2, Le.refl F2, by rw [hy.1]; exact hf2, by
        have q := hy.2 vs ((le2.trans hf2.f).seq hs)
        rw [hw] at q
        rw [← Option.some.inj q]
        exact rw'.mono le2⟩⟩
    · rw [hd.length, List.length_map]
      exact hi) ke
/-- lo, lo + 1, .. -/
def seqI (lo : Int) (n : Nat) : List Int := (List.range n).map fun (i : Nat) => lo + (i : Int)
/-- lo, lo + c, .. -/
def seqC (lo c : Int) (n : Nat) : List Int := (List.range n).map fun (i : Nat) => lo + (i : Int) * c
theorem seqI_get (lo : Int) (n i : Nat) : (seqI lo n)[i]? = if i < n then some (lo + (i : Int)) else none := by
  unfold seqI
  rw [List.getElem?_map]
  by_cases h : i < n
  · rw [if_pos h, List.getElem?_range h]
    rfl
  · rw [if_neg h, List.getElem?_eq_none (by rw [List.length_range]; omega)]
    rfl
theorem seqC_get (lo c : Int) (n i : Nat) : (seqC lo c n)[i]? = if i < n then some (lo + (i : Int) * c) else none := by
  unfold seqC
  rw [List.getElem?_map]
  by_cases h : i < n
  · rw [if_pos h, List.getElem?_range h]
    rfl
  · rw [if_neg h, List.getElem?_eq_none (by rw [List.length_range]; omega)]
    rfl
theorem seqI_len (lo : Int) (n : Nat) : (seqI lo n).length = n := by simp [seqI]
theorem seqC_len (lo c : Int) (n : Nat) : (seqC lo c n).length = n := by simp [seqC]
theorem itm_seqI (F1 : Hp) (lo : Int) (n : Nat) : Itm cf (Itr lo n) F1 (seqI lo n) := fun i F O H le hf => ⟨fun x hx => by
    rw [seqI_get] at hx
    split at hx
    · rename_i c
      cases hx
      exact ⟨c, fun v H' hy => ⟨F, Le.refl F, by rw [hy.1]; exact hf, by rw [hy.2]; exact .int _⟩⟩
    · exact (nomatch hx),
  fun hi => by
    rw [seqI_len] at hi
    exact hi⟩
theorem itm_seqC (F1 : Hp) (lo c : Int) (n : Nat) : Itm cf (Itc lo c n) F1 (seqC lo c n) := fun i F O H le hf => ⟨fun x hx => by
    rw [seqC_get] at hx
    split at hx
    · rename_i c
      cases hx
      exact ⟨c, fun v H' hy => ⟨F, Le.refl F, by rw [hy.1]; exact hf, by rw [hy.2]; exact .int _⟩⟩
    · exact (nomatch hx),
  fun hi => by
    rw [seqC_len] at hi
    exact hi⟩
def rng1R (n : Int) : R (List Int) := if -(2 ^ 62) ≤ n ∧ n < 2 ^ 62 then .ok (seqI 0 n.toNat) else .bad
def rng2R (a b : Int) : R (List Int) := if -(2 ^ 62) ≤ a ∧ a < 2 ^ 62 ∧ -(2 ^ 62) ≤ b ∧ b < 2 ^ 62 then .ok (seqI a (b - a).toNat) else .bad
theorem ig_range1 {m : R Int} (h : EM cf E ta G m) : IG cf E (iRng1 (tCons ta tNil)) G (m.bind rng1R) := fun F O H σ Q hf he nb ko ke =>
  h F O H σ _ hf he (R.bind_nb nb) (fun n v F' H' e le hf' hr => by
    rw [e, R.ok_bind] at nb ko
    unfold rng1R at nb ko
    split at nb
    · rename_i c
      rw [if_pos c] at ko
      exact ⟨n, by rw [dr_int (i := n) hr], c.1, c.2, ko _ _ F' H' rfl le hf' (itm_seqI F' 0 n.toNat)⟩
    · exact absurd rfl nb) fun c p d F' H' e => ke c p d F' H' (by rw [e]; rfl)
theorem ig_range2 {m n : R Int} (h : EM cf E ta G m) (h' : EM cf E tb G n) : IG cf E (iRng2 (tCons ta (tCons tb tNil))) G (m.bind fun a => n.bind fun b => rng2R a b) := fun F O H σ Q hf he nb ko ke =>
  EG.bind2 (f := fun a b => rng2R a b) (rel3 := fun F' O' H' J xs => Itm cf J F' xs) (u := fun x y H Q => ∃ i j : Int, [x, y] = [V.int i, V.int j] ∧ (-(2 ^ 62) ≤ i ∧ i < 2 ^ 62 ∧ -(2 ^ 62) ≤ j ∧ j < 2 ^ 62) ∧ Q (Itr i (j - i).toNat) H) h h' rm_mono
    (fun F O H Q a r b s hf h1 h2 nb ko => by
      unfold rng2R at nb ko
      split at nb
      · rename_i c
        rw [if_pos c] at ko
        exact ⟨a, b, by rw [dr_int (i := a) h1, dr_int (i := b) h2], c, ko _ _ F H rfl (Le.refl F) hf (itm_seqI F a _)⟩
      · exact absurd rfl nb) F O H σ Q hf he nb (fun xs J F' H' => ko xs J F' H') ke
/-- range(a, b, c), c written: 1 or more, or -1 -/
def rng3R (a b c : Int) : R (List Int) := if -(2 ^ 62) ≤ a ∧ a < 2 ^ 62 ∧ -(2 ^ 62) ≤ b ∧ b < 2 ^ 62 then (if c = -1 then .ok (seqC a (-1) (a - b).toNat) else
    if 0 < c ∧ c < 1073741824 ∧ Builtin.Range.small a b c = true then .ok (seqC a c (Builtin.Range.rangeSize a b c).toNat) else .bad) else .bad
theorem rangeSize_nn (a b c : Int) (h : 0 < c) : 0 ≤ Builtin.Range.rangeSize a b c := by
  unfold Builtin.Range.rangeSize
  split
  · split
    · have : 0 ≤ (b - a - 1) / c := Int.ediv_nonneg (by omega) (by omega)
      omega
    · exact Int.le_refl 0
  · omega
theorem rgC_of {a b c : Int} {xs : List Int} (h : rng3R a b c = .ok xs) : ∃ n, RgC a b c n ∧ xs = seqC a c n := by
  unfold rng3R at h
  split at h
  · rename_i q
    split at h
    · rename_i e
      subst e
      cases h
      exact ⟨_, RgC.neg q.1 q.2.1 q.2.2.1 q.2.2.2, rfl⟩
    · split at h
      · rename_i q2
        cases h
        refine ⟨_, ⟨by omega, by omega, q2.2.2, ?_⟩, rfl⟩
        have := rangeSize_nn a b c q2.1
        omega
      · cases h
  · cases h
theorem ig_range3 {tc : TE} {m n l : R Int} (h : EM cf E ta G m) (h' : EM cf E tb G n) (h'' : EM cf E tc G l) : IG cf E (iRng3 (tCons ta (tCons tb (tCons tc tNil)))) G (m.bind fun a => n.bind fun b => l.bind fun c => rng3R a b c) := fun F O H σ Q hf he nb ko ke =>
  EG.bind3 (f := fun a b c => rng3R a b c) (rel4 := fun F' O' H' J xs => Itm cf J F' xs) (u := fun x y z H Q => ∃ (i j c : Int) (n : Nat), [x, y, z] = [V.int i, V.int j, V.int c] ∧ RgC i j c n ∧ Q (Itc i c n) H) h h' h'' rm_mono rm_mono
    (fun F O H Q a r b s c t hf h1 h2 h3 nb ko => by
      cases q : rng3R a b c with
      | bad => exact absurd q nb
      | er c p =>
        unfold rng3R at q
        split at q
        · split at q
          · cases q
          · split at q <;> cases q
        · cases q
      | ok xs =>
        obtain ⟨n, hn, hx⟩ := rgC_of q
        refine ⟨a, b, c, n, by rw [dr_int (i := a) h1, dr_int (i := b) h2, dr_int (i := c) h3], hn, ko xs _ F H q (Le.refl F) hf ?_⟩
        rw [hx]
        exact itm_seqC F a c n) F O H σ Q hf he nb (fun xs J F' H' => ko xs J F' H') ke
/-- the pairs (0, x0), (1, x1), .. -/
def enumL (xs : List α) : List (Int × α) := xs.zipIdx.map fun p => ((p.2 : Int), p.1)
theorem enumL_get (xs : List α) (i : Nat) : (enumL xs)[i]? = xs[i]?.map fun x => ((i : Int), x) := by
  unfold enumL
  rw [List.getElem?_map, List.getElem?_zipIdx]
  cases xs[i]? <;> simp
theorem enumL_len (xs : List α) : (enumL xs).length = xs.length := by simp [enumL]
theorem ig_enum [Enc α] {m : R (List α)} (h : EZ cf E ta G m) : IG cf E (iEnum cf.K (tCons ta tNil)) G (m.bind fun xs => .ok (enumL xs)) := fun F O H σ Q hf he nb ko ke =>
  h F O H σ _ hf he (R.bind_nb nb) (fun xs v F' H' e le hf' hr => by
    rw [e, R.ok_bind] at ko
    obtain ⟨a, vs, ev, hs, hd⟩ := hr
    refine ⟨a, vs, by rw [ev], hf'.f.seq hs, ko _ _ F' H' rfl le hf' fun i F2 O2 H2 le2 hf2 => ⟨fun x hx => ?_, fun hi => ⟨vs, (le2.trans hf2.f).seq hs, ?_⟩⟩⟩
    · rw [enumL_get] at hx
      cases q : xs[i]? with
      | none =>
        rw [q] at hx
        cases hx
      | some y =>
        rw [q] at hx
        cases hx
        obtain ⟨w', hw, rw'⟩ := drA_at hd q
        refine ⟨⟨vs, w', (le2.trans hf2.f).seq hs, hw⟩, fun v H3 hy => ?_⟩
        obtain ⟨T, x, ev, hT, rfl, hx⟩ := hy
        have q2 := hx vs ((le2.trans hf2.f).seq hs)
        rw [hw] at q2
        have e2 := Option.some.inj q2
        subst e2
        subst ev
        exact ⟨upd F2 T (.tup [.int (i : Nat), w']), Le.new (hf2.fnone hT), hf2.newF hT, .tup upd_same (.cons (.int _) (.cons (rw'.mono (le2.trans (Le.new (hf2.fnone hT)))) .nil))⟩
    · rw [enumL_len] at hi
      rw [hd.length, List.length_map]
      exact hi) fun c p d F' H' e => ke c p d F' H' (by rw [e]; rfl)
theorem ig_zip [Enc α] [Enc β] {m : R (List α)} {n : R (List β)} (h : EZ cf E ta G m) (h' : EZ cf E tb G n) : IG cf E (iZip cf.K (tCons ta (tCons tb tNil))) G (m.bind fun xs => n.bind fun ys => .ok (xs.zip ys)) := fun F O H σ Q hf he nb ko ke =>
  EG.bind2 (f := fun (xs : List α) (ys : List β) => R.ok (xs.zip ys)) (rel3 := fun F' O' H' J xs => Itm cf J F' xs) (u := fun x y H Q => ∃ a b xs ys, [x, y] = [V.ref a, V.ref b] ∧ SqL cf.K H a xs ∧ SqL cf.K H b ys ∧ Q (Itz cf.K a b) H) h h' rz_mono
    (fun F O H Q xs r ys s hf h1 h2 nb ko => by
      obtain ⟨a, vs, ev, hs, hd⟩ := h1
      obtain ⟨b, ws, ew, hs', hd'⟩ := h2
      refine ⟨a, b, vs, ws, by rw [ev, ew], hf.f.seq hs, hf.f.seq hs', ko _ _ F H rfl (Le.refl F) hf fun i F2 O2 H2 le2 hf2 => ⟨fun x hx => ?_, fun hi => ⟨vs, ws, (le2.trans hf2.f).seq hs, (le2.trans hf2.f).seq hs', ?_⟩⟩⟩
      · rw [List.getElem?_zip_eq_some] at hx
        obtain ⟨v1, hv1, r1⟩ := drA_at hd hx.1
        obtain ⟨v2, hv2, r2⟩ := drA_at hd' hx.2
        refine ⟨⟨vs, ws, v1, v2, (le2.trans hf2.f).seq hs, (le2.trans hf2.f).seq hs', hv1, hv2⟩, fun v H3 hy => ?_⟩
        obtain ⟨T, x1, x2, ev, hT, rfl, hx1, hx2⟩ := hy
        have q1 := hx1 vs ((le2.trans hf2.f).seq hs)
        have q2 := hx2 ws ((le2.trans hf2.f).seq hs')
        rw [hv1] at q1
        rw [hv2] at q2
        obtain rfl := Option.some.inj q1
        obtain rfl := Option.some.inj q2
        subst ev
        have l3 := le2.trans (Le.new (o := .tup [v1, v2]) (hf2.fnone hT))
        exact ⟨upd F2 T (.tup [v1, v2]), Le.new (hf2.fnone hT), hf2.newF hT, .tup upd_same (.cons (r1.mono l3) (.cons (r2.mono l3) .nil))⟩
      · rw [List.length_zip] at hi
        rw [hd.length, List.length_map, hd'.length, List.length_map]
        omega) F O H σ Q hf he nb (fun xs J F' H' => ko xs J F' H') ke
theorem ig_rev [Enc α] {m : R (List α)} (h : EZ cf E ta G m) : IG cf E (iRev cf.K (tCons ta tNil)) G (m.bind fun xs => .ok xs.reverse) := fun F O H σ Q hf he nb ko ke =>
  h F O H σ _ hf he (R.bind_nb nb) (fun xs v F' H' e le hf' hr => by
    rw [e, R.ok_bind] at ko
    obtain ⟨a, vs, ev, hs, hd⟩ := hr
    have hl : vs.length = xs.length := by rw [hd.length, List.length_map]
    refine ⟨a, vs, by rw [ev], hf'.f.seq hs, ko _ _ F' H' rfl le hf' fun i F2 O2 H2 le2 hf2 => ⟨fun x hx => ?_, fun hi => ?_⟩⟩
    · have hi : i < xs.length := by
        have := (List.getElem?_eq_some_iff.mp hx).1
        rw [List.length_reverse] at this
        exact this
      rw [List.getElem?_reverse hi] at hx
      obtain ⟨w', hw, rw'⟩ := drA_at hd hx
      rw [← hl] at hw
      refine ⟨⟨by omega, vs, w', (le2.trans hf2.f).seq hs, hw⟩, fun v H3 hy => ⟨F2, Le.refl F2, by rw [hy.1]; exact hf2, ?_⟩⟩
      have q2 := hy.2 vs ((le2.trans hf2.f).seq hs)
      rw [hw] at q2
      rw [← Option.some.inj q2]
      exact rw'.mono le2
    · rw [List.length_reverse] at hi
      show vs.length ≤ i
      omega) fun c p d F' H' e => ke c p d F' H' (by rw [e]; rfl)

/-! ### targets -/
/-- the target stores the data: the slots behind it; js: the slots it stores to -/
def AG [Enc α] (cf : Cf) (g : TG) (up : α → List Sl → List Sl) (js : List Nat) : Prop :=
  ∀ (F O H : Hp) (σ : L2.St) (G : List Sl) (v : V) (a : α) (Q : L2.St → Hp → Prop), Fm F O H → Er cf.K F O σ G → Dr cf.K F v (toD a) →
    (∀ σ', Er cf.K F O σ' (up a G) → (∀ (i : Nat) (s : Sl), (up a G)[i]? = some s → s.own = true → G[i]? = some s ∧ σ'[i]? = σ[i]?) → (∀ vs : List Nat, (∀ j ∈ js, j ∈ vs) → wipe σ' vs = wipe σ vs) → Q σ' H) → g v σ H Q
theorem wipe_set {σ : L2.St} {j : Nat} {y : Option V} : ∀ {vs : List Nat}, j ∈ vs → wipe (σ.set j y) vs = wipe σ vs
  | [], h => by cases h
  | v :: vs, h => by
    show (wipe (σ.set j y) vs).set v none = (wipe σ vs).set v none
    by_cases hj : j ∈ vs
    · rw [wipe_set hj]
    · have e : j = v := by
        rcases List.mem_cons.mp h with e | e
        · exact e
        · exact absurd e hj
      subst e
      have key : ∀ (ws : List Nat), j ∉ ws → wipe (σ.set j y) ws = (wipe σ ws).set j y := by
        intro ws
        induction ws with
        | nil => intro _; rfl
        | cons w ws ih =>
          intro hw
          show (wipe (σ.set j y) ws).set w none = ((wipe σ ws).set w none).set j y
          rw [ih fun z => hw (List.mem_cons_of_mem _ z)]
          exact List.set_comm _ _ fun z => hw (by rw [z]; exact List.mem_cons_self ..)
      rw [key vs hj, List.set_set]
theorem er_set {K : PySem.W.Frag} {F O : Hp} {σ : L2.St} {G : List Sl} (h : Er K F O σ G) (i : Nat) {v : V} {d : Dt} (r : Dr K F v d) : Er K F O (σ.set i (some v)) (G.set i (.va d)) := by
  refine ⟨by rw [List.length_set, List.length_set, h.len], fun j s e => ?_⟩
  by_cases hj : i = j
  · subst hj
    by_cases hl : i < G.length
    · rw [List.getElem?_set_self hl] at e
      cases e
      rw [List.getElem?_set_self (by rw [h.len]; exact hl)]
      exact ⟨v, rfl, r⟩
    · rw [List.getElem?_eq_none (by rw [List.length_set]; omega)] at e
      cases e
  · rw [List.getElem?_set_ne hj] at e ⊢
    exact h.at' j s e
theorem own_set {σ : L2.St} {G : List Sl} {i : Nat} {d : Dt} {y : Option V} {j : Nat} {s : Sl} (e : (G.set i (.va d))[j]? = some s) (o : s.own = true) : G[j]? = some s ∧ (σ.set i y)[j]? = σ[j]? := by
  by_cases hj : i = j
  · subst hj
    by_cases hl : i < G.length
    · rw [List.getElem?_set_self hl] at e
      cases e
      cases o
    · rw [List.getElem?_eq_none (by rw [List.length_set]; omega)] at e
      cases e
  · rw [List.getElem?_set_ne hj] at e
    exact ⟨e, List.getElem?_set_ne hj⟩
theorem ag_name [Enc α] (i : Nat) : AG cf (gName i) (fun (a : α) G => G.set i (.va (toD a))) [i] := fun F O H σ G v a Q hf he r k =>
  k _ (er_set he i r) (fun j s e o => own_set e o) fun vs h => wipe_set (h i (by simp))
theorem ag_t2 [Enc α] [Enc β] {g1 g2 : TG} {u1 : α → List Sl → List Sl} {u2 : β → List Sl → List Sl} {j1 j2 : List Nat} (h1 : AG cf g1 u1 j1) (h2 : AG cf g2 u2 j2) :
    AG cf (gTup cf.K 2 (gCons g1 (gCons g2 gNil))) (fun (p : α × β) G => u2 p.2 (u1 p.1 G)) (j1 ++ j2) := fun F O H σ G v p Q hf he r k => by
  obtain ⟨a, vs, rfl, ht, hd⟩ := dr_tup (ds := [toD p.1, toD p.2]) r
  obtain ⟨v1, r1, rfl, d1, hd⟩ := drA_cons hd
  obtain ⟨v2, r2, rfl, d2, hd⟩ := drA_cons hd
  rw [drA_nil hd] at ht
  refine ⟨a, [v1, v2], rfl, SqT.of (hf.f _ _ ht), rfl, v1, [v2], rfl, h1 F O H σ G v1 p.1 _ hf he d1 fun σ1 e1 o1 w1 => ⟨v2, [], rfl, h2 F O H σ1 _ v2 p.2 _ hf e1 d2 fun σ2 e2 o2 w2 => ⟨rfl, k σ2 e2 (fun i s e o => ?_) fun vs hv => ?_⟩⟩⟩
  · obtain ⟨q1, q2⟩ := o2 i s e o
    obtain ⟨q3, q4⟩ := o1 i s q1 o
    exact ⟨q3, q2.trans q4⟩
  · rw [w2 vs fun j hj => hv j (by simp [hj]), w1 vs fun j hj => hv j (by simp [hj])]
theorem ag_t3 [Enc α] [Enc β] [Enc γ] {g1 g2 g3 : TG} {u1 : α → List Sl → List Sl} {u2 : β → List Sl → List Sl} {u3 : γ → List Sl → List Sl} {j1 j2 j3 : List Nat} (h1 : AG cf g1 u1 j1) (h2 : AG cf g2 u2 j2) (h3 : AG cf g3 u3 j3) :
    AG cf (gTup cf.K 3 (gCons g1 (gCons g2 (gCons g3 gNil)))) (fun (p : T3 α β γ) G => u3 p.c (u2 p.b (u1 p.a G))) (j1 ++ (j2 ++ j3)) := fun F O H σ G v p Q hf he r k => by
  obtain ⟨a, vs, rfl, ht, hd⟩ := dr_tup (ds := [toD p.a, toD p.b, toD p.c]) r
  obtain ⟨v1, r1, rfl, d1, hd⟩ := drA_cons hd
  obtain ⟨v2, r2, rfl, d2, hd⟩ := drA_cons hd
  obtain ⟨v3, r3, rfl, d3, hd⟩ := drA_cons hd
  rw [drA_nil hd] at ht
  refine ⟨a, [v1, v2, v3], rfl, SqT.of (hf.f _ _ ht), rfl, v1, [v2, v3], rfl, h1 F O H σ G v1 p.a _ hf he d1 fun σ1 e1 o1 w1 => ⟨v2, [v3], rfl, h2 F O H σ1 _ v2 p.b _ hf e1 d2 fun σ2 e2 o2 w2 => ⟨v3, [], rfl, h3 F O H σ2 _ v3 p.c _ hf e2 d3 fun σ3 e3 o3 w3 => ⟨rfl, k σ3 e3 (fun i s e o => ?_) fun vs hv => ?_⟩⟩⟩⟩
  · obtain ⟨q1, q2⟩ := o3 i s e o
    obtain ⟨q3, q4⟩ := o2 i s q1 o
    obtain ⟨q5, q6⟩ := o1 i s q3 o
    exact ⟨q5, q2.trans (q4.trans q6)⟩
  · rw [w3 vs fun j hj => hv j (by simp [hj]), w2 vs fun j hj => hv j (by simp [hj]), w1 vs fun j hj => hv j (by simp [hj])]

/-! ### comprehensions -/
def compR (ft : α → R Bool) (fe : α → R β) : List α → R (List β)
  | [] => .ok []
  | x :: r => (ft x).pu.bind fun b => if b = true then (fe x).pu.bind fun y => (compR ft fe r).bind fun ys => .ok (y :: ys) else compR ft fe r
def lcR (ft : α → R Bool) (fe : α → R β) (xs : List α) : R (List β) := (szR xs).bind fun xs => compR ft fe xs
def wipeG (G : List Sl) : List Nat → List Sl
  | [] => G
  | v :: vs => (wipeG G vs).set v .un
theorem er_wipe {K : PySem.W.Frag} {F O : Hp} {σ : L2.St} {G : List Sl} (h : Er K F O σ G) : ∀ vs : List Nat, Er K F O (wipe σ vs) (wipeG G vs)
  | [] => h
  | v :: vs => by
    have ih := er_wipe h vs
    refine ⟨by show ((wipe σ vs).set v none).length = ((wipeG G vs).set v .un).length; rw [List.length_set, List.length_set, ih.len], fun j s e => ?_⟩
    have e' : ((wipeG G vs).set v .un)[j]? = some s := e
    show SlOk K F O ((wipe σ vs).set v none)[j]? s
    by_cases hj : v = j
    · subst hj
      by_cases hl : v < (wipeG G vs).length
      · rw [List.getElem?_set_self hl] at e'
        cases e'
        exact trivial
      · rw [List.getElem?_eq_none (by rw [List.length_set]; omega)] at e'
        cases e'
    · rw [List.getElem?_set_ne hj] at e' ⊢
      exact ih.at' j s e'
theorem SlOk.monoO {K : PySem.W.Frag} {F O O' : Hp} {x : Option (Option V)} (e : Le O O') : ∀ {s : Sl}, SlOk K F O x s → SlOk K F O' x s
  | .un, _ => trivial
  | .va _, h => h
  | .ol _, ⟨a, vs, h1, h2, h3⟩ => ⟨a, vs, h1, e _ _ h2, h3⟩
  | .od _, ⟨a, vs, h1, h2, h3⟩ => ⟨a, vs, h1, e _ _ h2, h3⟩
  | .pv _, h => h
  | .ow _, ⟨v, fp, h1, h2⟩ => ⟨v, fp, h1, h2.mono (Le.refl F) fun p _ o q => e p o q⟩
  | .bo _, ⟨v, fp, h1, h2⟩ => ⟨v, fp, h1, h2.monoFO (Le.refl F) e⟩
  | .vo _, ⟨v, fp, h1, h2⟩ => ⟨v, fp, h1, h2.monoFO (Le.refl F) e⟩
theorem Er.monoO {K : PySem.W.Frag} {F O O' : Hp} {σ : L2.St} {G : List Sl} (h : Er K F O σ G) (e : Le O O') : Er K F O' σ G := ⟨h.len, fun i s q => (h.at' i s q).monoO e⟩
theorem Fm.weak {F O O' H : Hp} (h : Fm F O' H) (e : Le O O') : Fm F O H := ⟨h.f, e.trans h.o, fun p q => e.free (h.ds p q)⟩
/-- a new object that is ours -/
theorem Fm.newO {F O H : Hp} (h : Fm F O H) {p : Addr} {o : HO} (e : H p = none) : Fm F (upd O p o) (upd H p o) := by
  refine ⟨h.f.trans (Le.new e), fun a u q => ?_, fun a q => ?_⟩
  · by_cases ha : a = p
    · subst ha
      rw [upd_same] at q ⊢
      exact q
    · rw [upd_ne ha] at q ⊢
      exact h.o a u q
  · have ha : a ≠ p := fun z => q (by rw [z]; exact h.fnone e)
    rw [upd_ne ha]
    exact h.ds a q
/-- what is ours changes -/
theorem Fm.wr {F O H : Hp} (h : Fm F O H) {p : Addr} {o u : HO} (e : O p = some u) : Fm F (upd O p o) (upd H p o) := by
  have hF := h.own e
  refine ⟨fun a v q => ?_, fun a v q => ?_, fun a q => ?_⟩
  · rw [upd_ne (ne_of_none q hF)]
    exact h.f a v q
  · by_cases ha : a = p
    · subst ha
      rw [upd_same] at q ⊢
      exact q
    · rw [upd_ne ha] at q ⊢
      exact h.o a v q
  · have ha : a ≠ p := fun z => q (by rw [z]; exact hF)
    rw [upd_ne ha]
    exact h.ds a q
theorem pu_ok {m : R α} {a : α} (h : m.pu = .ok a) : m = .ok a := by
  cases m with
  | ok b => exact congrArg R.ok (R.ok.inj h)
  | er c p => cases h
  | bad => cases h
theorem pu_nb {m : R α} (h : m.pu ≠ .bad) : ∃ a, m = .ok a := by
  cases m with
  | ok b => exact ⟨b, rfl⟩
  | er c p => exact absurd rfl h
  | bad => exact absurd rfl h
/-- [e for target in .. if t] -/
theorem ef_lc [Enc α] [Enc β] {wi : TI} {g : TG} {tt : TT} {te : TE} {vs js : List Nat} {m : R (List α)} {ft : α → R Bool} {fe : α → R β} {up : α → List Sl → List Sl} {Gi : α → List Sl} (hi : IG cf E wi G m) (hg : AG cf g up js)
    (hj : ∀ j ∈ js, j ∈ vs) (hG : ∀ a, up a (wipeG G vs) = Gi a) (ht : ∀ a, EB cf E0 tt (Gi a) (ft a)) (he : ∀ a, EM cf E0 te (Gi a) (fe a)) : EF cf E (tLc wi g tt te vs) G (m.bind (lcR ft fe)) := fun F O H σ Q hf hE nb ko ke =>
  hi F O H σ _ hf hE (R.bind_nb nb) (fun xs J F1 H1 em le1 hf1 hJ D hD => by
    rw [em, R.ok_bind] at nb ko
    obtain ⟨hz, ez⟩ := szR_nb (R.bind_nb nb)
    have etot : lcR ft fe xs = compR ft fe xs := by
      unfold lcR
      rw [ez]
      rfl
    rw [etot] at nb ko
    have hE1 : Er cf.K F1 O σ G := hE.mono le1
    let W : Nat → Nat → Hp → Prop := fun i mm H => mm = xs.length - i ∧ i ≤ xs.length ∧ ∃ (F2 : Hp) (ws : List V) (acc : List β), Le F1 F2 ∧ Fm F2 (upd O D (.lst ws)) H ∧ DrA cf.K F2 ws (acc.map toD) ∧ acc.length ≤ i ∧ (compR ft fe (xs.drop i)).bind (fun ys => .ok (acc ++ ys)) = compR ft fe xs
    refine ⟨W, ⟨xs.length, by simp, Nat.zero_le _, F1, [], [], Le.refl F1, hf1.newO hD, .nil, Nat.le_refl _, by rw [List.drop_zero]; simp only [List.nil_append]; exact R.bind_ok _⟩, ?_⟩
    rintro i mm H2 ⟨rfl, hi, F2, ws, acc, le2, hf2, hd, hacc, tot⟩
    have hO1 : O D = none := hf1.onone hD
    have leO : Le O (upd O D (.lst ws)) := Le.new hO1
    by_cases hlt : i < xs.length
    · have hx : xs[i]? = some xs[i] := List.getElem?_eq_getElem hlt
      rw [List.drop_eq_getElem_cons hlt] at tot
      rw [← tot] at nb
      have nbc := R.bind_nb nb
      obtain ⟨b, eb⟩ := pu_nb (R.bind_nb nbc)
      obtain ⟨hgo, hyl⟩ := (hJ i F2 (upd O D (.lst ws)) H2 le2 hf2).1 _ hx
      refine .inr ⟨hgo, fun H' => W (i + 1) (xs.length - (i + 1)) H', fun H' h' => ⟨_, by omega, h'⟩, fun v H3 hy => ?_⟩
      obtain ⟨F3, le3, hf3, hv⟩ := hyl v H3 hy
      refine hg F3 _ H3 _ _ v xs[i] _ hf3 (er_wipe ((hE1.mono (le2.trans le3)).monoO leO) vs) hv fun σ2 e2 _ w2 => ⟨?_, ?_⟩
      · rw [w2 vs hj]
        have key : ∀ (us : List Nat) (τ : L2.St), (∀ u ∈ us, u ∈ vs) → wipe (wipe σ us) vs = wipe σ vs := by
          intro us
          induction us with
          | nil => intro _ _; rfl
          | cons u us ih =>
            intro τ hu
            show wipe ((wipe σ us).set u none) vs = wipe σ vs
            rw [wipe_set (hu u (by simp)), ih τ fun z hz => hu z (by simp [hz])]
        exact key vs σ fun u hu => hu
      · rw [hG] at e2
        refine ht xs[i] F3 _ H3 σ2 _ hf3 e2 (by rw [eb]; intro z; cases z) (fun b' r F4 H4 eb' le4 hf4 hr => ?_) (fun c p d F4 H4 e => by rw [eb] at e; cases e)
        rw [eb] at eb'
        cases eb'
        obtain rfl : r = b := hr
        rw [show compR ft fe (xs[i] :: xs.drop (i + 1)) = (ft xs[i]).pu.bind fun b => if b = true then (fe xs[i]).pu.bind fun y => (compR ft fe (xs.drop (i + 1))).bind fun ys => .ok (y :: ys) else compR ft fe (xs.drop (i + 1)) from rfl, eb, R.ok_pu, R.ok_bind] at tot nbc
        cases r with
        | false =>
          rw [if_neg Bool.false_ne_true] at tot
          rw [if_neg Bool.false_ne_true]
          exact ⟨rfl, hlt, F4, ws, acc, (le2.trans le3).trans le4, hf4, hd.mono (le3.trans le4), by omega, tot⟩
        | true =>
          rw [if_pos rfl] at tot nbc
          rw [if_pos rfl]
          obtain ⟨y, ey⟩ := pu_nb (R.bind_nb nbc)
          refine he xs[i] F4 _ H4 σ2 _ hf4 (e2.mono le4) (by rw [ey]; intro z; cases z) (fun y' u F5 H5 ey' le5 hf5 hu => ?_) (fun c p d F5 H5 e => by rw [ey] at e; cases e)
          rw [ey] at ey'
          cases ey'
          rw [ey, R.ok_pu, R.ok_bind] at tot
          refine ⟨ws, hf5.o D _ upd_same, ?_, rfl, hlt, F5, ws ++ [u], acc ++ [y], ((le2.trans le3).trans le4).trans le5, ?_, ?_, by rw [List.length_append]; simp; omega, ?_⟩
          · rw [hd.length, List.length_map]
            exact sz_ltM (by omega)
          · have q := hf5.wr (o := .lst (ws ++ [u])) upd_same
            rw [upd_upd] at q
            exact q
          · rw [List.map_append]
            exact (hd.mono ((le3.trans le4).trans le5)).append (.cons hu .nil)
          · rw [← tot, R.bind_bind]
            simp only [R.ok_bind, List.append_assoc, List.cons_append, List.nil_append]
    · have e : i = xs.length := by omega
      subst e
      rw [List.drop_length] at tot
      have tot2 : compR ft fe xs = .ok acc := by
        rw [← tot]
        show R.ok (acc ++ []) = _
        rw [List.append_nil]
      have hFD : F2 D = none := hf2.own (o := .lst ws) upd_same
      exact .inl ⟨(hJ _ F2 (upd O D (.lst ws)) H2 le2 hf2).2 (Nat.le_refl _), ko acc _ F2 H2 tot2 (le1.trans le2) (hf2.weak leO) ⟨D, ws, rfl, hFD, hO1, hf2.o D _ upd_same, hd⟩⟩) fun c p d F' H' e => ke c p d F' H' (by rw [e]; rfl)
theorem eb_yes : EB cf E tYes G (.ok true) := EG.fin fun F O H σ Q hf he ko => ko _ F H (Le.refl F) hf rfl
end
end Kr

/-! KrE: statements by data, defs' promises. -/
namespace Kr
open PySem PySem.Spec PyProof.Rows L2
open Enc (toD)

/-- how a block ends: behind it, by break, by return -/
inductive Fl (S ρ : Type) where
  | nx (s : S)
  | bk (s : S)
  | rt (r : ρ)
def seqF {S T ρ : Type} (m : R (Fl S ρ)) (k : S → R (Fl T ρ)) : R (Fl T ρ) := m.bind fun
  | .nx s => k s
  | .bk _ => .bad
  | .rt r => .ok (.rt r)
/-- where a slot's own objects stand -/
def Fps (K : PySem.W.Frag) (F O : Hp) (x : Option (Option V)) : Option Sl → List Addr → Prop
  | some (.ol _), fp => ∃ a, x = some (some (.ref a)) ∧ fp = [a]
  | some (.od _), fp => ∃ a, x = some (some (.ref a)) ∧ fp = [a]
  | some (.ow t), fp => ∃ v, x = some (some v) ∧ Own K F (inO O) v t fp ∧ fp.Nodup
  | _, fp => fp = []
structure OwsF (K : PySem.W.Frag) (F O O' : Hp) (σ : L2.St) (G : List Sl) (fp : Nat → List Addr) : Prop where
  at' : ∀ i, Fps K F O' σ[i]? G[i]? (fp i)
  out : ∀ i p, p ∈ fp i → O p = none
  sep : ∀ i j p, i ≠ j → p ∈ fp i → p ∈ fp j → False
  bo : ∀ (i : Nat) (t : Tr), G[i]? = some (Sl.bo t) → SlOk K F O σ[i]? (Sl.bo t)
def Ows (K : PySem.W.Frag) (F O O' : Hp) (σ : L2.St) (G : List Sl) : Prop := ∃ fp, OwsF K F O O' σ G fp
theorem Fps.mono {K : PySem.W.Frag} {F F' O O' : Hp} {x : Option (Option V)} {fp : List Addr} (e : Le F F') : ∀ {s : Option Sl}, (∀ p ∈ fp, ∀ o, O p = some o → O' p = some o) → Fps K F O x s fp → Fps K F' O' x s fp
  | none, _, h => h
  | some (.un), _, h => h
  | some (.va _), _, h => h
  | some (.pv _), _, h => h
  | some (.bo _), _, h => h
  | some (.vo _), _, h => h
  | some (.ol _), _, h => h
  | some (.od _), _, h => h
  | some (.ow _), k, ⟨v, h1, h2, h3⟩ => ⟨v, h1, h2.mono e k, h3⟩
theorem Ows.mono {K : PySem.W.Frag} {F F' O O' : Hp} {σ : L2.St} {G : List Sl} (h : Ows K F O O' σ G) (e : Le F F') : Ows K F' O O' σ G := by
  obtain ⟨fp, h⟩ := h
  exact ⟨fp, fun i => (h.at' i).mono e fun _ _ _ q => q, h.out, h.sep, fun i t q => (h.bo i t q).mono e⟩
/-- the kept slots are as they were -/
theorem Ows.keep {K : PySem.W.Frag} {F O O' : Hp} {σ σ' : L2.St} {G G' : List Sl} (h : Ows K F O O' σ G) (k : ∀ (i : Nat) (s : Sl), G'[i]? = some s → s.own = true → G[i]? = some s ∧ σ'[i]? = σ[i]?) : Ows K F O O' σ' G' := by
  obtain ⟨fp, h⟩ := h
  have sub : ∀ i p, p ∈ (match G'[i]? with | some s => if s.own = true then fp i else [] | none => []) → p ∈ fp i := fun i p q => by
    split at q
    · split at q
      · exact q
      · cases q
    · cases q
  refine ⟨fun i => match G'[i]? with | some s => if s.own = true then fp i else [] | none => [], fun i => ?_, fun i p q => h.out i p (sub i p q), fun i j p hij q q' => h.sep i j p hij (sub i p q) (sub j p q'), fun i t q => ?_⟩
  · cases e : G'[i]? with
    | none => rfl
    | some s =>
      show Fps K F O' σ'[i]? (some s) (if s.own = true then fp i else [])
      by_cases c : s.own = true
      · rw [if_pos c]
        obtain ⟨h1, h2⟩ := k i s e c
        rw [h2, ← h1]
        exact h.at' i
      · rw [if_neg c]
        cases s <;> first | rfl | exact absurd rfl c
  · obtain ⟨h1, h2⟩ := k i _ q rfl
    rw [h2]
    exact h.bo i t h1
theorem OwsF.inO {K : PySem.W.Frag} {F O O' : Hp} {σ : L2.St} {G : List Sl} {fp : Nat → List Addr} (h : OwsF K F O O' σ G fp) (he : Er K F O' σ G) {i : Nat} {p : Addr} (q : p ∈ fp i) : ∃ o, O' p = some o := by
  have h1 := h.at' i
  cases e : G[i]? with
  | none =>
    rw [e] at h1
    rw [show fp i = [] from h1] at q
    cases q
  | some s =>
    rw [e] at h1
    have h2 := he.at' i s e
    cases s with
    | ol ds =>
      obtain ⟨a, e1, e2⟩ := h1
      obtain ⟨b, vs, e3, e4, _⟩ := h2
      rw [e1] at e3
      cases e3
      rw [e2] at q
      rw [List.mem_singleton.mp q]
      exact ⟨_, e4⟩
    | od ds =>
      obtain ⟨a, e1, e2⟩ := h1
      obtain ⟨b, vs, e3, e4, _⟩ := h2
      rw [e1] at e3
      cases e3
      rw [e2] at q
      rw [List.mem_singleton.mp q]
      exact ⟨_, e4⟩
    | ow t =>
      obtain ⟨v, e1, e2, _⟩ := h1
      exact e2.at p q
    | un => rw [show fp i = [] from h1] at q; cases q
    | va d => rw [show fp i = [] from h1] at q; cases q
    | pv v => rw [show fp i = [] from h1] at q; cases q
    | bo t => rw [show fp i = [] from h1] at q; cases q
    | vo t => rw [show fp i = [] from h1] at q; cases q
def Mt (K : PySem.W.Frag) (F O H : Hp) (σ : L2.St) (G : List Sl) : Prop := ∃ O', Le O O' ∧ Fm F O' H ∧ Er K F O' σ G ∧ Ows K F O O' σ G
theorem Mt.fm {K : PySem.W.Frag} {F O H : Hp} {σ : L2.St} {G : List Sl} (h : Mt K F O H σ G) : Fm F O H := let ⟨_, l, f, _⟩ := h; f.weak l
def SB {S ρ : Type} [Rs ρ] (cf : Cf) (E : XK) (ts : TS) (G : List Sl) (enc : S → List Sl) (m : R (Fl S ρ)) : Prop :=
  ∀ (F O H : Hp) (σ : L2.St) (D : Ends), Mt cf.K F O H σ G → m ≠ .bad →
    (∀ s F' H' σ', m = .ok (.nx s) → Le F F' → Mt cf.K F' O H' σ' (enc s) → D.nx σ' H') →
    (∀ s F' H' σ', m = .ok (.bk s) → Le F F' → Mt cf.K F' O H' σ' (enc s) → D.bk σ' H') →
    (∀ r v F' H', m = .ok (.rt r) → Le F F' → Fm F' O H' → Rs.res cf F' O H' v r → D.rt v H') →
    (∀ c p d F' H', m = .er c p → Le F F' → Fm F' O H' → F' d = some (xdO cf c p) → E (.ref (cf.cls c)) (some d) H') → ts D σ H
section
variable {cf : Cf} {E : XK} {G G' : List Sl} {S T α β γ ρ : Type} [Rs ρ] {ta tb te : TE} {t u : TS} {tc : TT} {enc : S → List Sl} {D : Ends}
theorem SB.cast {m n : R (Fl S ρ)} (h : SB cf E t G enc m) (e : m = n) : SB cf E t G enc n := e ▸ h
/-- an expression, then what comes with its value -/
theorem sb_of {α τ : Type} {r : L2.St → Hp → (τ → Hp → Prop) → Prop} {m : R α} {rel : Hp → Hp → Hp → τ → α → Prop} {f : α → R (Fl S ρ)} {k : τ → TS} (h : EG cf E r G m rel)
    (hk : ∀ (F O O' H : Hp) (σ : L2.St) (D : Ends) (a : α) (v : τ), Le O O' → Fm F O' H → Er cf.K F O' σ G →
      Ows cf.K F O O' σ G →
      rel F O' H v a → f a ≠ .bad →
      (∀ s F' H' σ', f a = .ok (.nx s) → Le F F' → Mt cf.K F' O H' σ' (enc s) → D.nx σ' H') →
      (∀ s F' H' σ', f a = .ok (.bk s) → Le F F' → Mt cf.K F' O H' σ' (enc s) → D.bk σ' H') →
      (∀ r v F' H', f a = .ok (.rt r) → Le F F' → Fm F' O H' → Rs.res cf F' O H' v r → D.rt v H') →
      (∀ c p d F' H', f a = .er c p → Le F F' → Fm F' O H' → F' d = some (xdO cf c p) → E (.ref (cf.cls c)) (some d) H') → k v D σ H) :
    SB cf E (fun D σ H => r σ H fun v H1 => k v D σ H1) G enc (m.bind f) := fun F O H σ D hM nb kn kb kr ke => by
  obtain ⟨O', lo, hf, he, ow⟩ := hM
  refine h F O' H σ _ hf he (R.bind_nb nb) (fun a v F' H' ea le hf' hr => ?_) (fun c p d F' H' e le hf' hd => ke c p d F' H' (by rw [e]; rfl) le (hf'.weak lo) hd)
  rw [ea, R.ok_bind] at nb kn kb kr ke
  exact hk F' O O' H' σ D a v lo hf' (he.mono le) (ow.mono le) hr nb (fun s F'' H'' σ' e le' => kn s F'' H'' σ' e (le.trans le')) (fun s F'' H'' σ' e le' => kb s F'' H'' σ' e (le.trans le')) (fun r v F'' H'' e le' => kr r v F'' H'' e (le.trans le'))
    fun c p d F'' H'' e le' => ke c p d F'' H'' e (le.trans le')
theorem sb_one {m : R (Fl S ρ)} (h : SB cf E (tSeq t tNext) G enc m) : SB cf E t G enc m := h
theorem sb_assoc {w' : TS} {m : R (Fl S ρ)} (h : SB cf E (tSeq t (tSeq u w')) G enc m) : SB cf E (tSeq (tSeq t u) w') G enc m := h
/-- what is known less -/
inductive Sub : List Sl → List Sl → Prop
  | nil : Sub [] []
  | same {s : Sl} {G G' : List Sl} : Sub G G' → Sub (s :: G) (s :: G')
  | drop {s : Sl} {G G' : List Sl} : Sub G G' → Sub (s :: G) (.un :: G')
theorem Sub.len : ∀ {G G' : List Sl}, Sub G G' → G.length = G'.length
  | _, _, .nil => rfl
  | _, _, .same h => by rw [List.length_cons, List.length_cons, Sub.len h]
  | _, _, .drop h => by rw [List.length_cons, List.length_cons, Sub.len h]
theorem Sub.at : ∀ {G G' : List Sl}, Sub G G' → ∀ (i : Nat) (s : Sl), G'[i]? = some s → s = .un ∨ G[i]? = some s
  | _, _, .nil, i, s, h => by simp at h
  | _, _, .same _, 0, s, h => .inr h
  | _, _, .same q, i + 1, s, h => by
    rcases Sub.at q i s (by simpa using h) with e | e
    · exact .inl e
    · exact .inr (by simpa using e)
  | _, _, .drop _, 0, s, h => by
    simp at h
    exact .inl h.symm
  | _, _, .drop q, i + 1, s, h => by
    rcases Sub.at q i s (by simpa using h) with e | e
    · exact .inl e
    · exact .inr (by simpa using e)
theorem Mt.sub {K : PySem.W.Frag} {F O H : Hp} {σ : L2.St} (q : Sub G G') (h : Mt K F O H σ G) : Mt K F O H σ G' := by
  obtain ⟨O', lo, hf, he, ow⟩ := h
  refine ⟨O', lo, hf, ⟨he.len.trans q.len, fun i s e => ?_⟩, ow.keep fun i s e o => ?_⟩
  · rcases q.at i s e with z | z
    · rw [z]
      exact trivial
    · exact he.at' i s z
  · rcases q.at i s e with z | z
    · rw [z] at o
      cases o
    · exact ⟨z, rfl⟩
theorem sb_sub {m : R (Fl S ρ)} (q : Sub G G') (h : SB cf E t G' enc m) : SB cf E t G enc m := fun F O H σ D hM => h F O H σ D (hM.sub q)
theorem sb_next (s : S) (q : Sub G (enc s)) : SB cf E tNext G enc (.ok (.nx s) : R (Fl S ρ)) := fun F O H σ D hM _ kn _ _ _ => kn s F H σ rfl (Le.refl F) (hM.sub q)
theorem sb_break (s : S) (q : Sub G (enc s)) : SB cf E tBreak G enc (.ok (.bk s) : R (Fl S ρ)) := fun F O H σ D hM _ _ kb _ _ => kb s F H σ rfl (Le.refl F) (hM.sub q)
theorem sb_break2 (s : S) (q : Sub G (enc s)) : SB cf E (tSeq tBreak u) G enc (.ok (.bk s) : R (Fl S ρ)) := fun F O H σ D hM _ _ kb _ _ => kb s F H σ rfl (Le.refl F) (hM.sub q)
theorem sb_ret {ρ : Type} [Enc ρ] {m : R ρ} (h : EM cf E te G m) : SB cf E (tRet te) G enc (m.bind fun r => .ok (.rt r)) :=
  sb_of (k := fun v D σ H => D.rt v H) h fun F O O' H σ D a v lo hf he ow hr nb kn kb kr ke => kr a v F H rfl (Le.refl F) (hf.weak lo) hr
theorem sb_ret2 {ρ : Type} [Enc ρ] {m : R ρ} (h : EM cf E te G m) : SB cf E (tSeq (tRet te) u) G enc (m.bind fun r => .ok (.rt r)) :=
  sb_of (k := fun v D σ H => D.rt v H) h fun F O O' H σ D a v lo hf he ow hr nb kn kb kr ke => kr a v F H rfl (Le.refl F) (hf.weak lo) hr
/-- target = e, then u -/
theorem sb_asg [Enc α] {g : TG} {up : α → List Sl → List Sl} {js : List Nat} {m : R α} {f : α → R (Fl S ρ)} (h : EM cf E te G m) (hg : AG cf g up js) (G' : α → List Sl) (hG : ∀ a, up a G = G' a) (hk : ∀ a, SB cf E u (G' a) enc (f a)) :
    SB cf E (tSeq (tAsg te g) u) G enc (m.bind f) :=
  sb_of (k := fun v D σ H => g v σ H (u D)) h fun F O O' H σ D a v lo hf he ow hr nb kn kb kr ke => hg F O' H σ G v a _ hf he hr fun σ' e' own _ => by
    rw [hG] at e' own
    exact hk a F O H σ' D ⟨O', lo, hf, e', ow.keep own⟩ nb kn kb kr ke
theorem aug_eq {i : Nat} {ti : TIp} : tAug i te ti = tAsg (tOp ti (tVar i) te) (gName i) := rfl
theorem sb_aug [Enc α] {i : Nat} {ti : TIp} {m : R α} {f : α → R (Fl S ρ)} (h : EM cf E (tOp ti (tVar i) te) G m) (G' : α → List Sl) (hG : ∀ a, G.set i (.va (toD a)) = G' a) (hk : ∀ a, SB cf E u (G' a) enc (f a)) :
    SB cf E (tSeq (tAug i te ti) u) G enc (m.bind f) := sb_asg h (ag_name i) G' hG hk
/-- x = a new list, owned -/
theorem er_own {K : PySem.W.Frag} {F O : Hp} {σ : L2.St} (h : Er K F O σ G) (i : Nat) {v : V} {s : Sl} (r : SlOk K F O (some (some v)) s) : Er K F O (σ.set i (some v)) (G.set i s) := by
  refine ⟨by rw [List.length_set, List.length_set, h.len], fun j t e => ?_⟩
  by_cases hj : i = j
  · subst hj
    by_cases hl : i < G.length
    · rw [List.getElem?_set_self hl] at e
      cases e
      rw [List.getElem?_set_self (by rw [h.len]; exact hl)]
      exact r
    · rw [List.getElem?_eq_none (by rw [List.length_set]; omega)] at e
      cases e
  · rw [List.getElem?_set_ne hj] at e ⊢
    exact h.at' j t e
theorem get_set {A : Type} {l : List A} {i j : Nat} {x y : A} (h : (l.set i x)[j]? = some y) : (i = j ∧ y = x ∧ i < l.length) ∨ (i ≠ j ∧ l[j]? = some y) := by
  by_cases hj : i = j
  · subst hj
    by_cases hl : i < l.length
    · rw [List.getElem?_set_self hl] at h
      cases h
      exact .inl ⟨rfl, rfl, hl⟩
    · rw [List.getElem?_eq_none (by rw [List.length_set]; omega)] at h
      cases h
  · rw [List.getElem?_set_ne hj] at h
    exact .inr ⟨hj, h⟩
/-- the slot i owns new objects -/
theorem mt_newG {K : PySem.W.Frag} {F O O' O2 H : Hp} {σ : L2.St} {i : Nat} {v : V} {s : Sl} {fpn : List Addr} (lo : Le O O') (l2 : Le O' O2) (hf : Fm F O2 H) (he : Er K F O' σ G) (ow : Ows K F O O' σ G)
    (hn : ∀ p ∈ fpn, O' p = none) (hs : SlOk K F O2 (some (some v)) s) (hp : Fps K F O2 (some (some v)) (some s) fpn) (hb : ∀ t, s ≠ .bo t) : Mt K F O H (σ.set i (some v)) (G.set i s) := by
  obtain ⟨fp, w⟩ := ow
  have nin : ∀ j p, p ∈ fp j → p ∉ fpn := fun j p q q' => by
    obtain ⟨o, e⟩ := w.inO he q
    rw [hn p q'] at e
    cases e
  refine ⟨O2, lo.trans l2, hf, er_own (he.monoO l2) i hs, fun j => if j = i then (if i < G.length then fpn else []) else fp j, fun j => ?_, fun j p q => ?_, fun j l p hjl q q' => ?_, fun j t e => ?_⟩
  · by_cases hj : i = j
    · subst hj
      rw [if_pos rfl]
      by_cases hl : i < G.length
      · rw [if_pos hl, List.getElem?_set_self hl, List.getElem?_set_self (by rw [he.len]; exact hl)]
        exact hp
      · rw [if_neg hl, List.getElem?_eq_none (by rw [List.length_set]; omega : (G.set i s).length ≤ i)]
        rfl
    · rw [if_neg (fun z => hj z.symm), List.getElem?_set_ne hj, List.getElem?_set_ne hj]
      exact (w.at' j).mono (Le.refl F) fun p _ o q => l2 p o q
  · by_cases hj : j = i
    · rw [if_pos hj] at q
      split at q
      · exact lo.free (hn p q)
      · cases q
    · rw [if_neg hj] at q
      exact w.out j p q
  · by_cases hj : j = i
    · rw [if_pos hj] at q
      rw [if_neg (fun z => hjl (hj.trans z.symm))] at q'
      split at q
      · exact nin l p q' q
      · cases q
    · rw [if_neg hj] at q
      by_cases hl : l = i
      · rw [if_pos hl] at q'
        split at q'
        · exact nin j p q q'
        · cases q'
      · rw [if_neg hl] at q'
        exact w.sep j l p hjl q q'
  · rcases get_set e with ⟨rfl, e1, _⟩ | ⟨hj, e1⟩
    · exact absurd e1.symm (hb t)
    · rw [List.getElem?_set_ne hj]
      exact w.bo j t e1
/-- the slot i owns a new object at a -/
theorem mt_new {K : PySem.W.Frag} {F O O' H : Hp} {σ : L2.St} {i : Nat} {a : Addr} {o : HO} {s : Sl} (lo : Le O O') (hf : Fm F O' H) (he : Er K F O' σ G) (ow : Ows K F O O' σ G)
    (hF : F a = none) (hO : O' a = none) (hH : H a = some o) (hs : SlOk K F (upd O' a o) (some (some (.ref a))) s) (hp : Fps K F (upd O' a o) (some (some (.ref a))) (some s) [a]) (hb : ∀ t, s ≠ .bo t) : Mt K F O H (σ.set i (some (.ref a))) (G.set i s) := by
  have hf2 : Fm F (upd O' a o) H := by
    refine ⟨hf.f, fun b u q => ?_, fun b q => ?_⟩
    · by_cases hb : b = a
      · subst hb
        rw [upd_same] at q
        rw [hH]
        exact q
      · rw [upd_ne hb] at q
        exact hf.o b u q
    · have hb : b ≠ a := fun z => q (by rw [z]; exact hF)
      rw [upd_ne hb]
      exact hf.ds b q
  exact mt_newG lo (Le.new hO) hf2 he ow (fun p q => by rw [List.mem_singleton.mp q]; exact hO) hs hp hb
theorem sb_asgO [Enc α] {i : Nat} {m : R (List α)} {f : List α → R (Fl S ρ)} (h : EF cf E te G m) (G' : List α → List Sl) (hG : ∀ xs : List α, G.set i (.ol (xs.map toD)) = G' xs) (hk : ∀ xs, SB cf E u (G' xs) enc (f xs)) :
    SB cf E (tSeq (tAsg te (gName i)) u) G enc (m.bind f) :=
  sb_of (k := fun v D σ H => u D (σ.set i (some v)) H) h fun F O O' H σ D xs v lo hf he ow hr nb kn kb kr ke => by
    obtain ⟨a, vs, rfl, hF, hO, hH, hd⟩ := hr
    refine hk xs F O H _ D ?_ nb kn kb kr ke
    rw [← hG]
    exact mt_new lo hf he ow hF hO hH ⟨a, vs, rfl, upd_same, hd⟩ ⟨a, rfl, rfl⟩ (fun _ z => nomatch z)
/-- the own objects of the slot i change -/
theorem mt_wrG {K : PySem.W.Frag} {F O O' O2 H2 : Hp} {σ : L2.St} {i : Nat} {s : Sl} {fp : Nat → List Addr} {fp2 : List Addr} (lo : Le O O') (he : Er K F O' σ G) (w : OwsF K F O O' σ G fp) (nv : noVo G = true) (hi : i < G.length)
    (keep : ∀ p, p ∉ fp i → ∀ o, O' p = some o → O2 p = some o) (hf : Fm F O2 H2) (hs : SlOk K F O2 σ[i]? s) (hp : Fps K F O2 σ[i]? (some s) fp2) (hn : ∀ p ∈ fp2, p ∈ fp i ∨ O' p = none) (hb : ∀ t, s ≠ .bo t) : Mt K F O H2 σ (G.set i s) := by
  have lo2 : Le O O2 := fun p o q => keep p (fun z => by
    rw [w.out i p z] at q
    cases q) o (lo p o q)
  refine ⟨O2, lo2, hf, ⟨by rw [List.length_set, he.len], fun j t e => ?_⟩, fun j => if j = i then fp2 else fp j, fun j => ?_, fun j p q => ?_, fun j l p hjl q q' => ?_, fun j t e => ?_⟩
  · rcases get_set e with ⟨rfl, rfl, _⟩ | ⟨hj, e⟩
    · exact hs
    · have h1 := he.at' j t e
      have h2 := w.at' j
      rw [e] at h2
      have nin : ∀ p, p ∈ fp j → p ∉ fp i := fun p q q' => w.sep i j p hj q' q
      cases t with
      | un => trivial
      | pv v => exact h1
      | va d => exact h1
      | ol ds =>
        obtain ⟨b, vs, e1, e2, e3⟩ := h1
        obtain ⟨b', e4, e5⟩ := h2
        rw [e1] at e4
        cases e4
        exact ⟨b, vs, e1, keep b (nin b (by rw [e5]; exact List.mem_singleton.mpr rfl)) _ e2, e3⟩
      | od ds =>
        obtain ⟨b, vs, e1, e2, e3⟩ := h1
        obtain ⟨b', e4, e5⟩ := h2
        rw [e1] at e4
        cases e4
        exact ⟨b, vs, e1, keep b (nin b (by rw [e5]; exact List.mem_singleton.mpr rfl)) _ e2, e3⟩
      | ow t =>
        obtain ⟨v, e1, e2, _⟩ := h2
        exact ⟨v, fp j, e1, e2.mono (Le.refl F) fun p q o z => keep p (nin p q) o z⟩
      | bo t =>
        exact (w.bo j t e).monoO lo2
      | vo t =>
        have := List.all_eq_true.mp nv _ (List.mem_of_getElem? e)
        cases this
  · by_cases hj : j = i
    · subst hj
      rw [if_pos rfl, List.getElem?_set_self hi]
      exact hp
    · rw [if_neg hj, List.getElem?_set_ne (fun z => hj z.symm)]
      exact (w.at' j).mono (Le.refl F) fun p q o z => keep p (fun q' => w.sep i j p (fun z => hj z.symm) q' q) o z
  · by_cases hj : j = i
    · rw [if_pos hj] at q
      rcases hn p q with z | z
      · exact w.out i p z
      · exact lo.free z
    · rw [if_neg hj] at q
      exact w.out j p q
  · have key : ∀ l, l ≠ i → p ∈ fp2 → p ∈ fp l → False := fun l hl z z' => by
      rcases hn p z with y | y
      · exact w.sep i l p (fun q => hl q.symm) y z'
      · obtain ⟨o, e⟩ := w.inO he z'
        rw [y] at e
        cases e
    by_cases hj : j = i
    · rw [if_pos hj] at q
      have hl : l ≠ i := fun z => hjl (hj.trans z.symm)
      rw [if_neg hl] at q'
      exact key l hl q q'
    · rw [if_neg hj] at q
      by_cases hl : l = i
      · rw [if_pos hl] at q'
        exact key j hj q' q
      · rw [if_neg hl] at q'
        exact w.sep j l p hjl q q'
  · rcases get_set e with ⟨rfl, e1, _⟩ | ⟨hj, e1⟩
    · exact absurd e1.symm (hb t)
    · exact w.bo j t e1
/-- the owned object of the slot i changes -/
theorem mt_wr {K : PySem.W.Frag} {F O O' H : Hp} {σ : L2.St} {i : Nat} {a : Addr} {o u : HO} {s s0 : Sl} (lo : Le O O') (hf : Fm F O' H) (he : Er K F O' σ G) (ow : Ows K F O O' σ G) (nv : noVo G = true)
    (h0 : G[i]? = some s0) (w0 : (∃ ds, s0 = .ol ds) ∨ ∃ ds, s0 = .od ds) (hσ : σ[i]? = some (some (.ref a))) (hO : O' a = some u) (hs : SlOk K F (upd O' a o) (some (some (.ref a))) s) (hp : Fps K F (upd O' a o) (some (some (.ref a))) (some s) [a]) (hb : ∀ t, s ≠ .bo t) : Mt K F O (upd H a o) σ (G.set i s) := by
  obtain ⟨fp, w⟩ := ow
  have hfp : fp i = [a] := by
    have h1 := w.at' i
    rw [h0] at h1
    rcases w0 with ⟨ds, rfl⟩ | ⟨ds, rfl⟩
    · obtain ⟨b, e1, e2⟩ := h1
      rw [hσ] at e1
      cases e1
      exact e2
    · obtain ⟨b, e1, e2⟩ := h1
      rw [hσ] at e1
      cases e1
      exact e2
  refine mt_wrG (fp2 := [a]) lo he w nv (List.getElem?_eq_some_iff.mp h0).1 (fun p hpn x q => ?_) (hf.wr hO) (by rw [hσ]; exact hs) (by rw [hσ]; exact hp) (fun p q => .inl (by rw [hfp]; exact q)) hb
  rw [hfp, List.mem_singleton] at hpn
  rw [upd_ne hpn]
  exact q
/-- x.append(e), x owned -/
theorem sb_app [Enc α] {i : Nat} {m : R α} {xs : List α} {f : List α → R (Fl S ρ)} (h0 : G[i]? = some (.ol (xs.map toD))) (h : EM cf E te G m) (G' : List α → List Sl) (hG : ∀ xs : List α, G.set i (.ol (xs.map toD)) = G' xs) (hk : ∀ xs, SB cf E u (G' xs) enc (f xs)) (nv : noVo G = true := by rfl) :
    SB cf E (tSeq (tDrop (tBM cf.K "list" rAppend (tVar i) (tCons te tNil))) u) G enc (m.bind fun a => (szR (xs ++ [a])).bind f) := fun F O H σ D hM nb kn kb kr ke => by
  obtain ⟨O', lo, hf, he, ow⟩ := hM
  obtain ⟨a, vs, eσ, eO, hd⟩ := he.at' i _ h0
  refine ⟨_, eσ, .inl ⟨rfl, vs, SqL.of (hf.o _ _ eO)⟩, ?_⟩
  refine h F O' H σ _ hf he (R.bind_nb nb) (fun x v F' H' ex le hf' hr => ?_) (fun c p d F' H' e le hf' hd => ke c p d F' H' (by rw [e]; rfl) le (hf'.weak lo) hd)
  rw [ex, R.ok_bind] at nb kn kb kr ke
  obtain ⟨c, ec⟩ := szR_nb (R.bind_nb nb)
  rw [ec, R.ok_bind] at nb kn kb kr ke
  refine ⟨a, vs, v, rfl, rfl, hf'.o _ _ eO, ?_, ?_⟩
  · rw [hd.length, List.length_map]
    rw [List.length_append] at c
    exact sz_ltM (by omega)
  · refine hk _ F' O _ σ D ?_ nb (fun s F'' H'' σ' e le' => kn s F'' H'' σ' e (le.trans le')) (fun s F'' H'' σ' e le' => kb s F'' H'' σ' e (le.trans le')) (fun r v F'' H'' e le' => kr r v F'' H'' e (le.trans le')) fun c p d F'' H'' e le' => ke c p d F'' H'' e (le.trans le')
    rw [← hG]
    exact mt_wr lo hf' (he.mono le) (ow.mono le) nv h0 (.inl ⟨_, rfl⟩) eσ eO (hp := ⟨a, rfl, rfl⟩) (hb := fun _ z => nomatch z) <| ⟨a, _, rfl, upd_same, by
      rw [List.map_append]
      exact (hd.mono le).append (.cons hr .nil)⟩
/-- x.extend(e), x owned -/
theorem sb_ext [Enc α] {i : Nat} {m : R (List α)} {xs : List α} {f : List α → R (Fl S ρ)} (h0 : G[i]? = some (.ol (xs.map toD))) (h : EL cf E te G m) (G' : List α → List Sl) (hG : ∀ xs : List α, G.set i (.ol (xs.map toD)) = G' xs) (hk : ∀ xs, SB cf E u (G' xs) enc (f xs)) (nv : noVo G = true := by rfl) :
    SB cf E (tSeq (tDrop (tBM cf.K "list" rExtend (tVar i) (tCons te tNil))) u) G enc (m.bind fun ys => (szR (xs ++ ys)).bind f) := fun F O H σ D hM nb kn kb kr ke => by
  obtain ⟨O', lo, hf, he, ow⟩ := hM
  obtain ⟨a, vs, eσ, eO, hd⟩ := he.at' i _ h0
  refine ⟨_, eσ, .inl ⟨rfl, vs, SqL.of (hf.o _ _ eO)⟩, ?_⟩
  refine h F O' H σ _ hf he (R.bind_nb nb) (fun ys v F' H' ex le hf' hr => ?_) (fun c p d F' H' e le hf' hd => ke c p d F' H' (by rw [e]; rfl) le (hf'.weak lo) hd)
  rw [ex, R.ok_bind] at nb kn kb kr ke
  obtain ⟨c, ec⟩ := szR_nb (R.bind_nb nb)
  rw [ec, R.ok_bind] at nb kn kb kr ke
  obtain ⟨b, ws, eb, hb, hw⟩ := RL.at hr hf'
  refine ⟨a, b, vs, ws, rfl, by rw [eb], hf'.o _ _ eO, hb, ?_, ?_⟩
  · rw [hd.length, hw.length, List.length_map, List.length_map, ← List.length_append]
    exact sz_le c
  · refine hk _ F' O _ σ D ?_ nb (fun s F'' H'' σ' e le' => kn s F'' H'' σ' e (le.trans le')) (fun s F'' H'' σ' e le' => kb s F'' H'' σ' e (le.trans le')) (fun r v F'' H'' e le' => kr r v F'' H'' e (le.trans le')) fun c p d F'' H'' e le' => ke c p d F'' H'' e (le.trans le')
    rw [← hG]
    exact mt_wr lo hf' (he.mono le) (ow.mono le) nv h0 (.inl ⟨_, rfl⟩) eσ eO (hp := ⟨a, rfl, rfl⟩) (hb := fun _ z => nomatch z) <| ⟨a, _, rfl, upd_same, by
      rw [List.map_append]
      exact (hd.mono le).append hw⟩
/-- x.reverse(), x owned -/
theorem sb_rev [Enc α] {i : Nat} {xs : List α} {m : R (Fl S ρ)} (h0 : G[i]? = some (.ol (xs.map toD))) (G' : List Sl) (hG : G.set i (.ol (xs.reverse.map toD)) = G') (hk : SB cf E u G' enc m) (nv : noVo G = true := by rfl) :
    SB cf E (tSeq (tDrop (tBM0 cf.K "list" rReverse (tVar i))) u) G enc m := fun F O H σ D hM nb kn kb kr ke => by
  obtain ⟨O', lo, hf, he, ow⟩ := hM
  obtain ⟨a, vs, eσ, eO, hd⟩ := he.at' i _ h0
  refine ⟨_, eσ, .inl ⟨rfl, vs, SqL.of (hf.o _ _ eO)⟩, a, vs, rfl, rfl, hf.o _ _ eO, ?_⟩
  refine hk F O _ σ D ?_ nb kn kb kr ke
  rw [← hG]
  exact mt_wr lo hf he ow nv h0 (.inl ⟨_, rfl⟩) eσ eO (hp := ⟨a, rfl, rfl⟩) (hb := fun _ z => nomatch z) <| ⟨a, _, rfl, upd_same, by
    rw [List.map_reverse]
    exact hd.reverse⟩
/-- target = x.pop(), x owned -/
def popR (xs : List α) : R (List α × α) := match xs.getLast? with
  | some x => .ok (xs.dropLast, x)
  | none => .bad
theorem sb_pop [Enc α] {i : Nat} {g : TG} {up : α → List Sl → List Sl} {js : List Nat} {xs : List α} {f : List α × α → R (Fl S ρ)} (h0 : G[i]? = some (.ol (xs.map toD))) (hg : AG cf g up js) (G' : List α × α → List Sl)
    (hG : ∀ p : List α × α, up p.2 (G.set i (.ol (p.1.map toD))) = G' p) (hk : ∀ p, SB cf E u (G' p) enc (f p)) (nv : noVo G = true := by rfl) :
    SB cf E (tSeq (tAsg (tBM0 cf.K "list" rPop (tVar i)) g) u) G enc ((popR xs).bind f) := fun F O H σ D hM nb kn kb kr ke => by
  obtain ⟨O', lo, hf, he, ow⟩ := hM
  obtain ⟨a, vs, eσ, eO, hd⟩ := he.at' i _ h0
  cases hl : xs.getLast? with
  | none =>
    unfold popR at nb
    rw [hl] at nb
    exact absurd rfl nb
  | some x =>
    have ep : popR xs = .ok (xs.dropLast, x) := by
      unfold popR
      rw [hl]
    rw [ep, R.ok_bind] at nb kn kb kr ke
    rw [List.getLast?_eq_getElem?] at hl
    obtain ⟨v, hv, hr⟩ := hd.get (show (xs.map toD)[xs.length - 1]? = some (toD x) by rw [List.getElem?_map, hl]; rfl)
    have hlen : vs.length = xs.length := by rw [hd.length, List.length_map]
    refine ⟨_, eσ, .inl ⟨rfl, vs, SqL.of (hf.o _ _ eO)⟩, a, vs, v, rfl, rfl, hf.o _ _ eO, by rw [hlen]; exact hv, ?_⟩
    have hM2 : Mt cf.K F O (upd H a (.lst vs.dropLast)) σ (G.set i (.ol (xs.dropLast.map toD))) := mt_wr lo hf he ow nv h0 (.inl ⟨_, rfl⟩) eσ eO (hp := ⟨a, rfl, rfl⟩) (hb := fun _ z => nomatch z) <| ⟨a, _, rfl, upd_same, by
      rw [List.map_dropLast]
      exact hd.dropLast⟩
    obtain ⟨O2, lo2, hf2, he2, ow2⟩ := hM2
    refine hg F O2 _ σ _ v x _ hf2 he2 hr fun σ' e' own _ => ?_
    have hG' := hG (xs.dropLast, x)
    rw [hG'] at e' own
    exact hk _ F O _ σ' D ⟨O2, lo2, hf2, e', ow2.keep own⟩ nb kn kb kr ke
/-- x[k] = e, x owned -/
def setR (xs : List α) (k : Int) (a : α) : R (List α) := match ixN xs.length k with
  | some j => .ok (xs.set j a)
  | none => .bad
theorem sb_setL [Enc α] {i : Nat} {tk : TE} {m : R α} {n : R Int} {xs : List α} {f : List α → R (Fl S ρ)} (h0 : G[i]? = some (.ol (xs.map toD))) (h : EM cf E te G m) (hi : EM cf E tk G n) (G' : List α → List Sl) (hG : ∀ xs : List α, G.set i (.ol (xs.map toD)) = G' xs) (hk : ∀ xs, SB cf E u (G' xs) enc (f xs)) (nv : noVo G = true := by rfl) :
    SB cf E (tSeq (tAsg te (gSub (tVar i) tk rSetL)) u) G enc (m.bind fun a => n.bind fun k => (setR xs k a).bind f) := fun F O H σ D hM nb kn kb kr ke => by
  obtain ⟨O', lo, hf, he, ow⟩ := hM
  obtain ⟨a, vs, eσ, eO, hd⟩ := he.at' i _ h0
  refine h F O' H σ _ hf he (R.bind_nb nb) (fun x v F1 H1 ex le1 hf1 hr => ?_) (fun c p d F' H' e le hf' hd => ke c p d F' H' (by rw [e]; rfl) le (hf'.weak lo) hd)
  rw [ex, R.ok_bind] at nb kn kb kr ke
  refine ⟨_, eσ, ?_⟩
  refine hi F1 O' H1 σ _ hf1 (he.mono le1) (R.bind_nb nb) (fun k w' F' H' ek le2 hf' hw => ?_) (fun c p d F' H' e le hf' hd => ke c p d F' H' (by rw [e]; rfl) (le1.trans le) (hf'.weak lo) hd)
  rw [ek, R.ok_bind] at nb kn kb kr ke
  cases hx : ixN xs.length k with
  | none =>
    unfold setR at nb
    rw [hx] at nb
    exact absurd rfl nb
  | some j =>
    have es : setR xs k x = .ok (xs.set j x) := by
      unfold setR
      rw [hx]
    rw [es, R.ok_bind] at nb kn kb kr ke
    have le := le1.trans le2
    refine ⟨a, vs, k, j, rfl, dr_int hw, hf'.o _ _ eO, by rw [hd.length, List.length_map]; exact hx, ?_⟩
    refine hk _ F' O _ σ D ?_ nb (fun s F'' H'' σ' e le' => kn s F'' H'' σ' e (le.trans le')) (fun s F'' H'' σ' e le' => kb s F'' H'' σ' e (le.trans le')) (fun r v F'' H'' e le' => kr r v F'' H'' e (le.trans le')) fun c p d F'' H'' e le' => ke c p d F'' H'' e (le.trans le')
    rw [← hG]
    exact mt_wr lo hf' (he.mono le) (ow.mono le) nv h0 (.inl ⟨_, rfl⟩) eσ eO (hp := ⟨a, rfl, rfl⟩) (hb := fun _ z => nomatch z) <| ⟨a, _, rfl, upd_same, by
      rw [List.map_set]
      exact (hd.mono le).set (hr.mono le2) j⟩
def era (H : Hp) (a : Addr) : Hp := fun b => if b = a then none else H b
theorem era_ne {H : Hp} {a b : Addr} (h : b ≠ a) : era H a b = H b := if_neg h
theorem era_same {H : Hp} {a : Addr} : era H a a = none := if_pos rfl
/-- what is owned becomes data -/
theorem sb_frz {i : Nat} {ds : List Dt} {m : R (Fl S ρ)} (h0 : G[i]? = some (.ol ds)) (G' : List Sl) (hG : G.set i (.va (.lst ds)) = G') (h : SB cf E t G' enc m) : SB cf E t G enc m := fun F O H σ D hM nb kn kb kr ke => by
  obtain ⟨O', lo, hf, he, fp, w⟩ := hM
  obtain ⟨a, vs, eσ, eO, hd⟩ := he.at' i _ h0
  have hF : F a = none := hf.own eO
  have hfp : fp i = [a] := by
    have h1 := w.at' i
    rw [h0] at h1
    obtain ⟨b, e1, e2⟩ := h1
    rw [eσ] at e1
    cases e1
    exact e2
  have hOa : O a = none := w.out i a (by rw [hfp]; exact List.mem_singleton.mpr rfl)
  have le : Le F (upd F a (.lst vs)) := Le.new hF
  have hdel : ∀ b o, b ≠ a → O' b = some o → era O' a b = some o := fun b o hb q => by rw [era_ne hb]; exact q
  have lo2 : Le O (era O' a) := fun b x q => hdel b x (ne_of_none q hOa) (lo b x q)
  have nin : ∀ j, j ≠ i → ∀ p, p ∈ fp j → p ≠ a := fun j hj p q z => w.sep j i p hj q (by rw [hfp, z]; exact List.mem_singleton.mpr rfl)
  have hM2 : Mt cf.K (upd F a (.lst vs)) O H σ G' := by
    refine ⟨era O' a, lo2, ⟨fun b x q => ?_, fun b x q => ?_, fun b q => ?_⟩, ⟨?_, fun j s e => ?_⟩, fun j => if j = i then [] else fp j, fun j => ?_, fun j p q => ?_, fun j l p hjl q q' => ?_, fun j t e => ?_⟩
    · by_cases hb : b = a
      · subst hb
        rw [upd_same] at q
        rw [hf.o _ _ eO]
        exact q
      · rw [upd_ne hb] at q
        exact hf.f b x q
    · by_cases hb : b = a
      · subst hb
        rw [era_same] at q
        cases q
      · rw [era_ne hb] at q
        exact hf.o b x q
    · by_cases hb : b = a
      · subst hb
        exact era_same
      · rw [upd_ne hb] at q
        rw [era_ne hb]
        exact hf.ds b q
    · rw [← hG, List.length_set, he.len]
    · rw [← hG] at e
      rcases get_set e with ⟨rfl, rfl, _⟩ | ⟨hj, e⟩
      · exact ⟨_, eσ, .lst upd_same (hd.mono le)⟩
      · have h1 := (he.at' j s e).mono le
        have h2 := w.at' j
        rw [e] at h2
        cases s with
        | un => trivial
        | va d => exact h1
        | pv v => exact h1
        | ol es =>
          obtain ⟨b, ws, e1, e2, e3⟩ := h1
          obtain ⟨b', e4, e5⟩ := h2
          rw [e1] at e4
          cases e4
          exact ⟨b, ws, e1, hdel b _ (nin j (fun z => hj z.symm) b (by rw [e5]; exact List.mem_singleton.mpr rfl)) e2, e3⟩
        | od es =>
          obtain ⟨b, ws, e1, e2, e3⟩ := h1
          obtain ⟨b', e4, e5⟩ := h2
          rw [e1] at e4
          cases e4
          exact ⟨b, ws, e1, hdel b _ (nin j (fun z => hj z.symm) b (by rw [e5]; exact List.mem_singleton.mpr rfl)) e2, e3⟩
        | ow t =>
          obtain ⟨v, e1, e2, _⟩ := h2
          exact ⟨v, fp j, e1, e2.mono le fun p q o z => hdel p o (nin j (fun z => hj z.symm) p q) z⟩
        | bo t => exact ((w.bo j t e).mono le).monoO lo2
        | vo t =>
          obtain ⟨v, fq, e1, e2⟩ := he.at' j _ e
          refine ⟨v, fq, e1, e2.mono le fun p _ o q => ?_⟩
          rcases q with q | q
          · exact .inl (le p o q)
          · by_cases hb : p = a
            · subst hb
              rw [eO] at q
              cases q
              exact .inl upd_same
            · exact .inr (hdel p o hb q)
    · rw [← hG]
      by_cases hj : j = i
      · subst hj
        rw [if_pos rfl, List.getElem?_set_self (List.getElem?_eq_some_iff.mp h0).1]
        rfl
      · rw [if_neg hj, List.getElem?_set_ne (fun z => hj z.symm)]
        exact (w.at' j).mono le fun p q o z => hdel p o (nin j hj p q) z
    · by_cases hj : j = i
      · rw [if_pos hj] at q
        cases q
      · rw [if_neg hj] at q
        exact w.out j p q
    · by_cases hj : j = i
      · rw [if_pos hj] at q
        cases q
      · by_cases hl : l = i
        · rw [if_pos hl] at q'
          cases q'
        · rw [if_neg hj] at q
          rw [if_neg hl] at q'
          exact w.sep j l p hjl q q'
    · rw [← hG] at e
      rcases get_set e with ⟨_, e1, _⟩ | ⟨_, e⟩
      · cases e1
      · exact (w.bo j t e).mono le
  exact h _ O H σ D hM2 nb (fun s F'' H'' σ' e le' => kn s F'' H'' σ' e (le.trans le')) (fun s F'' H'' σ' e le' => kb s F'' H'' σ' e (le.trans le')) (fun r v F'' H'' e le' => kr r v F'' H'' e (le.trans le')) fun c p d F'' H'' e le' => ke c p d F'' H'' e (le.trans le')

/-! ### ifs, blocks -/
theorem sb_if {w' : TS} {mc : R Bool} {m1 m2 : R (Fl S ρ)} (hc : EB cf E tc G mc) (h1 : SB cf E (tSeq t w') G enc m1) (h2 : SB cf E (tSeq u w') G enc m2) : SB cf E (tSeq (tIfS tc t u) w') G enc (mc.bind fun c => if c = true then m1 else m2) :=
  sb_of (k := fun b D σ H => if b = true then t { D with nx := w' D } σ H else u { D with nx := w' D } σ H) hc fun F O O' H σ D a v lo hf he ow hr nb kn kb kr ke => by
    obtain rfl : v = a := hr
    cases v with
    | true => exact h1 F O H σ D ⟨O', lo, hf, he, ow⟩ nb kn kb kr ke
    | false => exact h2 F O H σ D ⟨O', lo, hf, he, ow⟩ nb kn kb kr ke
/-- the last statement of a block -/
theorem sb_ifL {mc : R Bool} {m1 m2 : R (Fl S ρ)} (hc : EB cf E tc G mc) (h1 : SB cf E t G enc m1) (h2 : SB cf E u G enc m2) : SB cf E (tIfS tc t u) G enc (mc.bind fun c => if c = true then m1 else m2) := sb_if (w' := tNext) hc h1 h2
/-- a block, then the rest -/
theorem sb_seq {enc1 : T → List Sl} {m : R (Fl T ρ)} {k : T → R (Fl S ρ)} (h : SB cf E t G enc1 m) (hk : ∀ s, SB cf E u (enc1 s) enc (k s)) : SB cf E (tSeq t u) G enc (seqF m k) := fun F O H σ D hM nb kn kb kr ke =>
  h F O H σ { D with nx := u D } hM (R.bind_nb nb) (fun s F' H' σ' e le hM' => by
      unfold seqF at nb kn kb kr ke
      rw [e, R.ok_bind] at nb kn kb kr ke
      exact hk s F' O H' σ' D hM' nb (fun s F'' H'' σ' e le' => kn s F'' H'' σ' e (le.trans le')) (fun s F'' H'' σ' e le' => kb s F'' H'' σ' e (le.trans le')) (fun r v F'' H'' e le' => kr r v F'' H'' e (le.trans le')) fun c p d F'' H'' e le' => ke c p d F'' H'' e (le.trans le'))
    (fun s F' H' σ' e le hM' => by
      unfold seqF at nb
      rw [e, R.ok_bind] at nb
      exact absurd rfl nb)
    (fun r v F' H' e le hf hr => kr r v F' H' (by unfold seqF; rw [e]; rfl) le hf hr) fun c p d F' H' e le hf hd => ke c p d F' H' (by unfold seqF; rw [e]; rfl) le hf hd

/-! ### loops -/
def forR (step : T → α → R (Fl T ρ)) (k : T → R (Fl S ρ)) : List α → T → R (Fl S ρ)
  | [], s => k s
  | x :: r, s => (step s x).bind fun
    | .nx s' => forR step k r s'
    | .bk s' => k s'
    | .rt v => .ok (.rt v)
theorem sb_for [Enc α] {wi : TI} {g : TG} {tb : TS} {up : α → List Sl → List Sl} {js : List Nat} {m : R (List α)} {encL : T → List Sl} {step : T → α → R (Fl T ρ)} {k : T → R (Fl S ρ)} (hi : IG cf E wi G m) (hg : AG cf g up js) (s0 : T) (h0 : Sub G (encL s0))
    (Gi : T → α → List Sl) (hG : ∀ s a, up a (encL s) = Gi s a) (hb : ∀ s a, SB cf E tb (Gi s a) encL (step s a)) (hk : ∀ s, SB cf E u (encL s) enc (k s)) :
    SB cf E (tSeq (tFor wi g tb) u) G enc (m.bind fun xs => forR step k xs s0) := fun F O H σ D hM nb kn kb kr ke => by
  obtain ⟨O0, lo, hf, he, ow⟩ := hM
  refine hi F O0 H σ _ hf he (R.bind_nb nb) (fun xs J F1 H1 em le1 hf1 hJ => ?_) (fun c p d F' H' e le hf' hd => ke c p d F' H' (by rw [e]; rfl) le (hf'.weak lo) hd)
  rw [em, R.ok_bind] at nb kn kb kr ke
  have hM1 : Mt cf.K F1 O H1 σ G := ⟨O0, lo, hf1, he.mono le1, ow.mono le1⟩
  let W : Nat → Nat → L2.St → Hp → Prop := fun i mm σ H => mm = xs.length - i ∧ i ≤ xs.length ∧ ∃ (F2 : Hp) (s : T), Le F1 F2 ∧ Mt cf.K F2 O H σ (encL s) ∧ forR step k (xs.drop i) s = forR step k xs s0
  refine ⟨W, ⟨xs.length, by simp, Nat.zero_le _, F1, s0, Le.refl F1, hM1.sub h0, by rw [List.drop_zero]⟩, ?_⟩
  rintro i mm σ2 H2 ⟨rfl, hi, F2, s, le2, hM2, tot⟩
  by_cases hlt : i < xs.length
  · have hx : xs[i]? = some xs[i] := List.getElem?_eq_getElem hlt
    rw [List.drop_eq_getElem_cons hlt] at tot
    rw [← tot] at nb kn kb kr ke
    obtain ⟨O2, lo2, hf2, he2, ow2⟩ := hM2
    obtain ⟨hgo, hyl⟩ := (hJ i F2 O2 H2 le2 hf2).1 _ hx
    refine .inr ⟨hgo, fun σ H => W (i + 1) (xs.length - (i + 1)) σ H, fun σ' H' h' => ⟨_, by omega, h'⟩, fun v H3 hy => ?_⟩
    obtain ⟨F3, le3, hf3, hv⟩ := hyl v H3 hy
    refine hg F3 O2 H3 σ2 _ v xs[i] _ hf3 (he2.mono le3) hv fun σ3 e3 own _ => ?_
    rw [hG] at e3 own
    have hM3 : Mt cf.K F3 O H3 σ3 (Gi s xs[i]) := ⟨O2, lo2, hf3, e3, (ow2.mono le3).keep own⟩
    have le13 := (le1.trans le2).trans le3
    refine hb s xs[i] F3 O H3 σ3 _ hM3 (R.bind_nb nb) (fun s' F4 H4 σ4 e le4 hM4 => ?_) (fun s' F4 H4 σ4 e le4 hM4 => ?_) (fun r v F4 H4 e le4 hf4 hr => ?_) (fun c p d F4 H4 e le4 hf4 hd => ?_)
    · refine ⟨rfl, hlt, F4, s', (le2.trans le3).trans le4, hM4, ?_⟩
      rw [← tot]
      show _ = (step s xs[i]).bind _
      rw [e]
      rfl
    · have en : forR step k (xs[i] :: xs.drop (i + 1)) s = k s' := by
        show (step s xs[i]).bind _ = _
        rw [e]
        rfl
      rw [en] at nb kn kb kr ke
      have le14 := le13.trans le4
      exact hk s' F4 O H4 σ4 D hM4 nb (fun s F'' H'' σ' e le' => kn s F'' H'' σ' e (le14.trans le')) (fun s F'' H'' σ' e le' => kb s F'' H'' σ' e (le14.trans le')) (fun r v F'' H'' e le' => kr r v F'' H'' e (le14.trans le')) fun c p d F'' H'' e le' => ke c p d F'' H'' e (le14.trans le')
    · exact kr r v F4 H4 (by show (step s xs[i]).bind _ = _; rw [e]; rfl) (le13.trans le4) hf4 hr
    · exact ke c p d F4 H4 (by show (step s xs[i]).bind _ = _; rw [e]; rfl) (le13.trans le4) hf4 hd
  · have e : i = xs.length := by omega
    subst e
    rw [List.drop_length] at tot
    have tot2 : forR step k xs s0 = k s := tot.symm
    rw [tot2] at nb kn kb kr ke
    obtain ⟨O2, lo2, hf2, he2, ow2⟩ := id hM2
    have le12 := le1.trans le2
    exact .inl ⟨(hJ _ F2 O2 H2 le2 hf2).2 (Nat.le_refl _), hk s F2 O H2 σ2 D hM2 nb (fun s F'' H'' σ' e le' => kn s F'' H'' σ' e (le12.trans le')) (fun s F'' H'' σ' e le' => kb s F'' H'' σ' e (le12.trans le')) (fun r v F'' H'' e le' => kr r v F'' H'' e (le12.trans le')) fun c p d F'' H'' e le' => ke c p d F'' H'' e (le12.trans le')⟩
/-- while: fuel, what is tested, the body -/
def whileR (c : T → R Bool) (step : T → R (Fl T ρ)) (k : T → R (Fl S ρ)) : Nat → T → R (Fl S ρ)
  | 0, _ => .bad
  | n + 1, s => (c s).bind fun b => if b = true then (step s).bind fun
      | .nx s' => whileR c step k n s'
      | .bk s' => k s'
      | .rt v => .ok (.rt v) else k s
theorem sb_while {tb : TS} {encL : T → List Sl} {c : T → R Bool} {step : T → R (Fl T ρ)} {k : T → R (Fl S ρ)} (n : Nat) (s0 : T) (h0 : Sub G (encL s0)) (hc : ∀ s, EB cf E tc (encL s) (c s)) (hb : ∀ s, SB cf E tb (encL s) encL (step s)) (hk : ∀ s, SB cf E u (encL s) enc (k s)) :
    SB cf E (tSeq (tWhile tc tb) u) G enc (whileR c step k n s0) := fun F O H σ D hM nb kn kb kr ke => by
  let W : Nat → L2.St → Hp → Prop := fun mm σ H => ∃ (F2 : Hp) (s : T), Le F F2 ∧ Mt cf.K F2 O H σ (encL s) ∧ whileR c step k mm s = whileR c step k n s0
  refine ⟨W, ⟨n, F, s0, Le.refl F, hM.sub h0, rfl⟩, ?_⟩
  rintro mm σ2 H2 ⟨F2, s, le2, hM2, tot⟩
  rw [← tot] at nb kn kb kr ke
  cases mm with
  | zero => exact absurd rfl nb
  | succ mm =>
    obtain ⟨O2, lo2, hf2, he2, ow2⟩ := hM2
    refine hc s F2 O2 H2 σ2 _ hf2 he2 (R.bind_nb nb) (fun b r F3 H3 e le3 hf3 hr => ?_) (fun c' p d F' H' e le hf' hd => ke c' p d F' H' (by show (c s).bind _ = _; rw [e]; rfl) (le2.trans le) (hf'.weak lo2) hd)
    obtain rfl : r = b := hr
    have hM3 : Mt cf.K F3 O H3 σ2 (encL s) := ⟨O2, lo2, hf3, he2.mono le3, ow2.mono le3⟩
    have le13 := le2.trans le3
    cases r with
    | false =>
      have en : whileR c step k (mm + 1) s = k s := by
        show (c s).bind _ = _
        rw [e]
        rfl
      rw [en] at nb kn kb kr ke
      exact hk s F3 O H3 σ2 D hM3 nb (fun s F'' H'' σ' e le' => kn s F'' H'' σ' e (le13.trans le')) (fun s F'' H'' σ' e le' => kb s F'' H'' σ' e (le13.trans le')) (fun r v F'' H'' e le' => kr r v F'' H'' e (le13.trans le')) fun c p d F'' H'' e le' => ke c p d F'' H'' e (le13.trans le')
    | true =>
      have en : whileR c step k (mm + 1) s = (step s).bind fun
          | .nx s' => whileR c step k mm s'
          | .bk s' => k s'
          | .rt v => .ok (.rt v) := by
        show (c s).bind _ = _
        rw [e]
        rfl
      rw [en] at nb kn kb kr ke
      refine ⟨fun σ H => W mm σ H, fun σ' H' h' => ⟨mm, Nat.lt_succ_self _, h'⟩, ?_⟩
      refine hb s F3 O H3 σ2 _ hM3 (R.bind_nb nb) (fun s' F4 H4 σ4 e4 le4 hM4 => ?_) (fun s' F4 H4 σ4 e4 le4 hM4 => ?_) (fun r v F4 H4 e4 le4 hf4 hr => kr r v F4 H4 (by rw [e4]; rfl) (le13.trans le4) hf4 hr) (fun c p d F4 H4 e4 le4 hf4 hd => ke c p d F4 H4 (by rw [e4]; rfl) (le13.trans le4) hf4 hd)
      · refine ⟨F4, s', le13.trans le4, hM4, ?_⟩
        rw [← tot, en, e4]
        rfl
      · rw [e4, R.ok_bind] at nb kn kb kr ke
        have le14 := le13.trans le4
        exact hk s' F4 O H4 σ4 D hM4 nb (fun s F'' H'' σ' e le' => kn s F'' H'' σ' e (le14.trans le')) (fun s F'' H'' σ' e le' => kb s F'' H'' σ' e (le14.trans le')) (fun r v F'' H'' e le' => kr r v F'' H'' e (le14.trans le')) fun c p d F'' H'' e le' => ke c p d F'' H'' e (le14.trans le')
end
end Kr

/-! KrF: what a def promises by data, its call, its body. -/
namespace Kr
open PySem PySem.Spec PyProof.Rows L2
open Enc (toD)

/-- called with values of the data ds, it returns what the relation says; it raises nothing -/
def SpP (cf : Cf) (n : Nat) (spec : List Dt → R Dt → Prop) : Sp := fun vs H Q _ => vs.length = n ∧ ∃ (F O : Hp) (ds : List Dt) (d : Dt), Fm F O H ∧ DrA cf.K F vs ds ∧ spec ds (.ok d) ∧ ∀ v F' H', Le F F' → Fm F' O H' → Dr cf.K F' v d → Q v H'
theorem SpP.len {cf : Cf} {n : Nat} {spec : List Dt → R Dt → Prop} {ps : List Str} (h : ps.length = n := by rfl) : ∀ vs H Q E, SpP cf n spec vs H Q E → vs.length = ps.length := fun vs H Q E q => by rw [h]; exact q.1
/-- what a body gives, as a value -/
def finR {S ρ : Type} (m : R (Fl S ρ)) : R ρ := m.bind fun
  | .rt r => .ok r
  | _ => .bad
/-- of a def without return -/
def finN {S : Type} (m : R (Fl S Unit)) : R Unit := m.bind fun
  | .rt r => .ok r
  | .nx _ => .ok ()
  | _ => .bad
theorem er_start {K : PySem.W.Frag} {F O : Hp} {N : List Str} {vs : List V} {ds : List Dt} (h : DrA K F vs ds) : Er K F O (L2.start N vs) (ds.map Sl.va ++ List.replicate (N.length - ds.length) .un) := by
  have hl := h.length
  refine ⟨?_, fun i s e => ?_⟩
  · unfold L2.start
    rw [List.length_append, List.length_append, List.length_map, List.length_map, List.length_replicate, List.length_replicate, hl]
  · by_cases hi : i < ds.length
    · rw [List.getElem?_append_left (by rw [List.length_map]; exact hi), List.getElem?_map] at e
      cases q : ds[i]? with
      | none =>
        rw [q] at e
        cases e
      | some d =>
        rw [q] at e
        cases e
        obtain ⟨v, hv, r⟩ := h.get q
        refine ⟨v, ?_, r⟩
        unfold L2.start
        rw [List.getElem?_append_left (by rw [List.length_map, hl]; exact hi), List.getElem?_map, hv]
        rfl
    · rw [List.getElem?_append_right (by rw [List.length_map]; omega)] at e
      have e2 := List.getElem?_replicate (n := N.length - ds.length) (a := Sl.un) (i := i - (ds.map Sl.va).length)
      rw [e2] at e
      split at e
      · cases e
        exact trivial
      · cases e
/-- nothing is owned at the start -/
theorem ows_none {K : PySem.W.Frag} {F O : Hp} {σ : L2.St} {G : List Sl} (he : Er K F O σ G) (h : ∀ s ∈ G, (∀ ds, s ≠ .ol ds) ∧ (∀ ds, s ≠ .od ds) ∧ (∀ t, s ≠ .ow t)) : Ows K F O O σ G := by
  refine ⟨fun _ => [], fun i => ?_, fun i p q => absurd q List.not_mem_nil, fun i j p _ q => absurd q List.not_mem_nil, fun i t q => he.at' i _ q⟩
  cases e : G[i]? with
  | none => rfl
  | some s =>
    obtain ⟨h1, h2, h3⟩ := h s (List.mem_of_getElem? e)
    cases s with
    | ol ds => exact absurd rfl (h1 ds)
    | od ds => exact absurd rfl (h2 ds)
    | ow t => exact absurd rfl (h3 t)
    | un => rfl
    | va d => rfl
    | pv v => rfl
    | bo t => rfl
    | vo t => rfl
theorem mt_start {K : PySem.W.Frag} {F O H : Hp} {N : List Str} {vs : List V} {ds : List Dt} (hf : Fm F O H) (h : DrA K F vs ds) : Mt K F O H (L2.start N vs) (ds.map Sl.va ++ List.replicate (N.length - ds.length) .un) := by
  refine ⟨O, Le.refl O, hf, er_start h, ows_none (er_start h) fun s hm => ?_⟩
  rcases List.mem_append.mp hm with hm | hm
  · obtain ⟨d, _, rfl⟩ := List.mem_map.mp hm
    exact ⟨fun _ z => (nomatch z), fun _ z => (nomatch z), fun _ z => (nomatch z)⟩
  · rw [List.eq_of_mem_replicate hm]
    exact ⟨fun _ z => (nomatch z), fun _ z => (nomatch z), fun _ z => (nomatch z)⟩
section
variable {cf : Cf} {E : XK} {G : List Sl} {S ρ : Type} [Enc ρ]
/-- the promise from the body's run -/
theorem run_of {t : TS} {N : List Str} {vs : List V} {H : Hp} {Q : VK} {n : Nat} {spec : List Dt → R Dt → Prop} {enc : S → List Sl} (h : SpP cf n spec vs H Q E)
    (hb : ∀ ds d, spec ds (.ok d) → ∃ m : R (Fl S ρ), SB cf E0 t (ds.map Sl.va ++ List.replicate (N.length - ds.length) .un) enc m ∧ ∃ r, finR m = .ok r ∧ d = toD r) : t { nx := fun _ H' => Q .non H', rt := Q } (L2.start N vs) H := by
  obtain ⟨_, F, O, ds, d, hf, hr, hs, q⟩ := h
  obtain ⟨m, hm, r, er, ed⟩ := hb ds d hs
  have em : m = .ok (.rt r) := by
    cases m with
    | ok x =>
      cases x with
      | nx s => cases er
      | bk s => cases er
      | rt r' => cases er; rfl
    | er c p => cases er
    | bad => cases er
  subst em
  refine hm F O H _ _ (mt_start hf hr) (fun z => nomatch z) (fun _ _ _ _ z => nomatch z) (fun _ _ _ _ z => nomatch z) (fun r' v F' H' e le hf' hr' => ?_) (fun _ _ _ _ _ z => nomatch z)
  cases e
  rw [ed] at q
  exact q v F' H' le hf' hr'
theorem run_ofN {t : TS} {N : List Str} {vs : List V} {H : Hp} {Q : VK} {n : Nat} {spec : List Dt → R Dt → Prop} {enc : S → List Sl} (h : SpP cf n spec vs H Q E)
    (hb : ∀ ds d, spec ds (.ok d) → ∃ m : R (Fl S Unit), SB cf E0 t (ds.map Sl.va ++ List.replicate (N.length - ds.length) .un) enc m ∧ ∃ r, finN m = .ok r ∧ d = toD r) : t { nx := fun _ H' => Q .non H', rt := Q } (L2.start N vs) H := by
  obtain ⟨_, F, O, ds, d, hf, hr, hs, q⟩ := h
  obtain ⟨m, hm, r, er, ed⟩ := hb ds d hs
  have ed' : d = .non := ed
  subst ed'
  refine hm F O H _ _ (mt_start hf hr) (fun z => by rw [z] at er; cases er) (fun s F' H' σ' e le hM => q .non F' H' le hM.fm .non) (fun s F' H' σ' e => by rw [e] at er; cases er) (fun r' v F' H' e le hf' hr' => q v F' H' le hf' hr') (fun c p d F' H' e => by rw [e] at er; cases er)
end

section
variable {α τ : Type} [Enc α] [Enc τ]
def sp1 (g : α → R τ) : List Dt → R Dt → Prop := fun ds r => ∃ (a : α), ds = [toD a] ∧ r = (g a).map toD
theorem em_call1 {cf : Cf} {E : XK} {G : List Sl} {t0 : TE} {m0 : R α} {g : α → R τ} (h0 : EM cf E t0 G m0) : EM cf E (tCall (SpP cf 1 (sp1 g)) [] E0 (tCons t0 tNil)) G (m0.bind fun a => (g a).pu) := fun F O H σ Q hf he nb ko ke => by
  refine h0 F O H σ _ hf he (R.bind_nb nb) (fun a v0 F1 H1 e0 l1 hf1 r0 => ?_) (fun c p d F' H' e le hf' hd => ke c p d F' H' (by rw [e]; rfl) (le) hf' hd)
  rw [e0, R.ok_bind] at nb ko ke
  have le1 := l1
  obtain ⟨y, ey⟩ := pu_nb nb
  exact ⟨rfl, F1, O, _, toD y, hf1, (.cons r0 .nil), ⟨a, rfl, by rw [ey]; rfl⟩, fun v F' H' le hf' hr => ko y v F' H' (by rw [ey]; rfl) (le1.trans le) hf' hr⟩
theorem fn1 {P : Program} {w : World} {cf : Cf} {mg : Str → Option Value} {base : Heap} {x qual : Str} {st : Stmt} {f0 : Addr} {fd : FuncData} {N ps : List Str} {k : Nat} {S : Type} {enc : S → List Sl} (F : Fun cf.K x qual st f0 fd) (sc : FnScope N ps (defScope st)) (hp : ps.length = 1) (g : α → R (Fl S τ))
    (G0 : α → List Sl) (hG : ∀ a, [.va (toD a)] ++ List.replicate (N.length - 1) .un = G0 a)
    (h : ∀ (cdv : Value) (A : Around) (outer : List Env) (s : Shared) (H : Hp) (E : XK), Room k (A.deeper (envOfC qual (defScope st) s.heap.objs.size f0 cdv)) →
      ∃ t, PSs (cxOf CX0 P w cf.K mg base N qual (defScope st) f0 cdv A outer s H E).nox (defBody st) t ∧ ∀ a, SB cf E0 t (G0 a) enc (g a)) :
    FnOk P w cf.K mg base CX0 (k + 1) f0 fd ps (SpP cf 1 (sp1 fun a => finR (g a))) := by
  refine F.ok sc (SpP.len hp) (fun cdv A outer s H vs Q E hr hq => ?_)
  obtain ⟨t, ht, hb⟩ := h cdv A outer s H E hr
  refine ⟨t, ht, run_of (ρ := τ) (S := S) (enc := enc) hq fun ds dd hs => ?_⟩
  obtain ⟨a, rfl, er⟩ := hs
  refine ⟨g a, by have q := hb a; rw [← hG] at q; exact q, ?_⟩
  replace er : R.ok dd = (finR (g a)).map toD := er
  generalize q : finR (g a) = z at er
  cases z with
  | ok r => exact ⟨r, rfl, R.ok.inj er⟩
  | er c p => cases er
  | bad => cases er
end

section
variable {α β τ : Type} [Enc α] [Enc β] [Enc τ]
def sp2 (g : α → β → R τ) : List Dt → R Dt → Prop := fun ds r => ∃ (a : α) (b : β), ds = [toD a, toD b] ∧ r = (g a b).map toD
theorem em_call2 {cf : Cf} {E : XK} {G : List Sl} {t0 t1 : TE} {m0 : R α} {m1 : R β} {g : α → β → R τ} (h0 : EM cf E t0 G m0) (h1 : EM cf E t1 G m1) : EM cf E (tCall (SpP cf 2 (sp2 g)) [] E0 (tCons t0 (tCons t1 tNil))) G (m0.bind fun a => m1.bind fun b => (g a b).pu) := fun F O H σ Q hf he nb ko ke => by
  refine h0 F O H σ _ hf he (R.bind_nb nb) (fun a v0 F1 H1 e0 l1 hf1 r0 => ?_) (fun c p d F' H' e le hf' hd => ke c p d F' H' (by rw [e]; rfl) (le) hf' hd)
  rw [e0, R.ok_bind] at nb ko ke
  have le1 := l1
  refine h1 F1 O H1 σ _ hf1 (he.mono le1) (R.bind_nb nb) (fun b v1 F2 H2 e1 l2 hf2 r1 => ?_) (fun c p d F' H' e le hf' hd => ke c p d F' H' (by rw [e]; rfl) (le1.trans le) hf' hd)
  rw [e1, R.ok_bind] at nb ko ke
  have le2 := le1.trans l2
  obtain ⟨y, ey⟩ := pu_nb nb
  exact ⟨rfl, F2, O, _, toD y, hf2, (.cons (Dr.mono (l2) r0) (.cons r1 .nil)), ⟨a, b, rfl, by rw [ey]; rfl⟩, fun v F' H' le hf' hr => ko y v F' H' (by rw [ey]; rfl) (le2.trans le) hf' hr⟩
theorem fn2 {P : Program} {w : World} {cf : Cf} {mg : Str → Option Value} {base : Heap} {x qual : Str} {st : Stmt} {f0 : Addr} {fd : FuncData} {N ps : List Str} {k : Nat} {S : Type} {enc : S → List Sl} (F : Fun cf.K x qual st f0 fd) (sc : FnScope N ps (defScope st)) (hp : ps.length = 2) (g : α → β → R (Fl S τ))
    (G0 : α → β → List Sl) (hG : ∀ a b, [.va (toD a), .va (toD b)] ++ List.replicate (N.length - 2) .un = G0 a b)
    (h : ∀ (cdv : Value) (A : Around) (outer : List Env) (s : Shared) (H : Hp) (E : XK), Room k (A.deeper (envOfC qual (defScope st) s.heap.objs.size f0 cdv)) →
      ∃ t, PSs (cxOf CX0 P w cf.K mg base N qual (defScope st) f0 cdv A outer s H E).nox (defBody st) t ∧ ∀ a b, SB cf E0 t (G0 a b) enc (g a b)) :
    FnOk P w cf.K mg base CX0 (k + 1) f0 fd ps (SpP cf 2 (sp2 fun a b => finR (g a b))) := by
  refine F.ok sc (SpP.len hp) (fun cdv A outer s H vs Q E hr hq => ?_)
  obtain ⟨t, ht, hb⟩ := h cdv A outer s H E hr
  refine ⟨t, ht, run_of (ρ := τ) (S := S) (enc := enc) hq fun ds dd hs => ?_⟩
  obtain ⟨a, b, rfl, er⟩ := hs
  refine ⟨g a b, by have q := hb a b; rw [← hG] at q; exact q, ?_⟩
  replace er : R.ok dd = (finR (g a b)).map toD := er
  generalize q : finR (g a b) = z at er
  cases z with
  | ok r => exact ⟨r, rfl, R.ok.inj er⟩
  | er c p => cases er
  | bad => cases er
end

section
variable {α β γ τ : Type} [Enc α] [Enc β] [Enc γ] [Enc τ]
def sp3 (g : α → β → γ → R τ) : List Dt → R Dt → Prop := fun ds r => ∃ (a : α) (b : β) (c : γ), ds = [toD a, toD b, toD c] ∧ r = (g a b c).map toD
theorem em_call3 {cf : Cf} {E : XK} {G : List Sl} {t0 t1 t2 : TE} {m0 : R α} {m1 : R β} {m2 : R γ} {g : α → β → γ → R τ} (h0 : EM cf E t0 G m0) (h1 : EM cf E t1 G m1) (h2 : EM cf E t2 G m2) : EM cf E (tCall (SpP cf 3 (sp3 g)) [] E0 (tCons t0 (tCons t1 (tCons t2 tNil)))) G (m0.bind fun a => m1.bind fun b => m2.bind fun c => (g a b c).pu) := fun F O H σ Q hf he nb ko ke => by
  refine h0 F O H σ _ hf he (R.bind_nb nb) (fun a v0 F1 H1 e0 l1 hf1 r0 => ?_) (fun c p d F' H' e le hf' hd => ke c p d F' H' (by rw [e]; rfl) (le) hf' hd)
  rw [e0, R.ok_bind] at nb ko ke
  have le1 := l1
  refine h1 F1 O H1 σ _ hf1 (he.mono le1) (R.bind_nb nb) (fun b v1 F2 H2 e1 l2 hf2 r1 => ?_) (fun c p d F' H' e le hf' hd => ke c p d F' H' (by rw [e]; rfl) (le1.trans le) hf' hd)
  rw [e1, R.ok_bind] at nb ko ke
  have le2 := le1.trans l2
  refine h2 F2 O H2 σ _ hf2 (he.mono le2) (R.bind_nb nb) (fun c v2 F3 H3 e2 l3 hf3 r2 => ?_) (fun c p d F' H' e le hf' hd => ke c p d F' H' (by rw [e]; rfl) (le2.trans le) hf' hd)
  rw [e2, R.ok_bind] at nb ko ke
  have le3 := le2.trans l3
  obtain ⟨y, ey⟩ := pu_nb nb
  exact ⟨rfl, F3, O, _, toD y, hf3, (.cons (Dr.mono ((l2).trans l3) r0) (.cons (Dr.mono (l3) r1) (.cons r2 .nil))), ⟨a, b, c, rfl, by rw [ey]; rfl⟩, fun v F' H' le hf' hr => ko y v F' H' (by rw [ey]; rfl) (le3.trans le) hf' hr⟩
theorem fn3 {P : Program} {w : World} {cf : Cf} {mg : Str → Option Value} {base : Heap} {x qual : Str} {st : Stmt} {f0 : Addr} {fd : FuncData} {N ps : List Str} {k : Nat} {S : Type} {enc : S → List Sl} (F : Fun cf.K x qual st f0 fd) (sc : FnScope N ps (defScope st)) (hp : ps.length = 3) (g : α → β → γ → R (Fl S τ))
    (G0 : α → β → γ → List Sl) (hG : ∀ a b c, [.va (toD a), .va (toD b), .va (toD c)] ++ List.replicate (N.length - 3) .un = G0 a b c)
    (h : ∀ (cdv : Value) (A : Around) (outer : List Env) (s : Shared) (H : Hp) (E : XK), Room k (A.deeper (envOfC qual (defScope st) s.heap.objs.size f0 cdv)) →
      ∃ t, PSs (cxOf CX0 P w cf.K mg base N qual (defScope st) f0 cdv A outer s H E).nox (defBody st) t ∧ ∀ a b c, SB cf E0 t (G0 a b c) enc (g a b c)) :
    FnOk P w cf.K mg base CX0 (k + 1) f0 fd ps (SpP cf 3 (sp3 fun a b c => finR (g a b c))) := by
  refine F.ok sc (SpP.len hp) (fun cdv A outer s H vs Q E hr hq => ?_)
  obtain ⟨t, ht, hb⟩ := h cdv A outer s H E hr
  refine ⟨t, ht, run_of (ρ := τ) (S := S) (enc := enc) hq fun ds dd hs => ?_⟩
  obtain ⟨a, b, c, rfl, er⟩ := hs
  refine ⟨g a b c, by have q := hb a b c; rw [← hG] at q; exact q, ?_⟩
  replace er : R.ok dd = (finR (g a b c)).map toD := er
  generalize q : finR (g a b c) = z at er
  cases z with
  | ok r => exact ⟨r, rfl, R.ok.inj er⟩
  | er c p => cases er
  | bad => cases er
end

section
variable {α β γ δ τ : Type} [Enc α] [Enc β] [Enc γ] [Enc δ] [Enc τ]
def sp4 (g : α → β → γ → δ → R τ) : List Dt → R Dt → Prop := fun ds r => ∃ (a : α) (b : β) (c : γ) (d : δ), ds = [toD a, toD b, toD c, toD d] ∧ r = (g a b c d).map toD
theorem em_call4 {cf : Cf} {E : XK} {G : List Sl} {t0 t1 t2 t3 : TE} {m0 : R α} {m1 : R β} {m2 : R γ} {m3 : R δ} {g : α → β → γ → δ → R τ} (h0 : EM cf E t0 G m0) (h1 : EM cf E t1 G m1) (h2 : EM cf E t2 G m2) (h3 : EM cf E t3 G m3) : EM cf E (tCall (SpP cf 4 (sp4 g)) [] E0 (tCons t0 (tCons t1 (tCons t2 (tCons t3 tNil))))) G (m0.bind fun a => m1.bind fun b => m2.bind fun c => m3.bind fun d => (g a b c d).pu) := fun F O H σ Q hf he nb ko ke => by
  refine h0 F O H σ _ hf he (R.bind_nb nb) (fun a v0 F1 H1 e0 l1 hf1 r0 => ?_) (fun c p d F' H' e le hf' hd => ke c p d F' H' (by rw [e]; rfl) (le) hf' hd)
  rw [e0, R.ok_bind] at nb ko ke
  have le1 := l1
  refine h1 F1 O H1 σ _ hf1 (he.mono le1) (R.bind_nb nb) (fun b v1 F2 H2 e1 l2 hf2 r1 => ?_) (fun c p d F' H' e le hf' hd => ke c p d F' H' (by rw [e]; rfl) (le1.trans le) hf' hd)
  rw [e1, R.ok_bind] at nb ko ke
  have le2 := le1.trans l2
  refine h2 F2 O H2 σ _ hf2 (he.mono le2) (R.bind_nb nb) (fun c v2 F3 H3 e2 l3 hf3 r2 => ?_) (fun c p d F' H' e le hf' hd => ke c p d F' H' (by rw [e]; rfl) (le2.trans le) hf' hd)
  rw [e2, R.ok_bind] at nb ko ke
  have le3 := le2.trans l3
  refine h3 F3 O H3 σ _ hf3 (he.mono le3) (R.bind_nb nb) (fun d v3 F4 H4 e3 l4 hf4 r3 => ?_) (fun c p d F' H' e le hf' hd => ke c p d F' H' (by rw [e]; rfl) (le3.trans le) hf' hd)
  rw [e3, R.ok_bind] at nb ko ke
  have le4 := le3.trans l4
  obtain ⟨y, ey⟩ := pu_nb nb
  exact ⟨rfl, F4, O, _, toD y, hf4, (.cons (Dr.mono (((l2).trans l3).trans l4) r0) (.cons (Dr.mono ((l3).trans l4) r1) (.cons (Dr.mono (l4) r2) (.cons r3 .nil)))), ⟨a, b, c, d, rfl, by rw [ey]; rfl⟩, fun v F' H' le hf' hr => ko y v F' H' (by rw [ey]; rfl) (le4.trans le) hf' hr⟩
theorem fn4 {P : Program} {w : World} {cf : Cf} {mg : Str → Option Value} {base : Heap} {x qual : Str} {st : Stmt} {f0 : Addr} {fd : FuncData} {N ps : List Str} {k : Nat} {S : Type} {enc : S → List Sl} (F : Fun cf.K x qual st f0 fd) (sc : FnScope N ps (defScope st)) (hp : ps.length = 4) (g : α → β → γ → δ → R (Fl S τ))
    (G0 : α → β → γ → δ → List Sl) (hG : ∀ a b c d, [.va (toD a), .va (toD b), .va (toD c), .va (toD d)] ++ List.replicate (N.length - 4) .un = G0 a b c d)
    (h : ∀ (cdv : Value) (A : Around) (outer : List Env) (s : Shared) (H : Hp) (E : XK), Room k (A.deeper (envOfC qual (defScope st) s.heap.objs.size f0 cdv)) →
      ∃ t, PSs (cxOf CX0 P w cf.K mg base N qual (defScope st) f0 cdv A outer s H E).nox (defBody st) t ∧ ∀ a b c d, SB cf E0 t (G0 a b c d) enc (g a b c d)) :
    FnOk P w cf.K mg base CX0 (k + 1) f0 fd ps (SpP cf 4 (sp4 fun a b c d => finR (g a b c d))) := by
  refine F.ok sc (SpP.len hp) (fun cdv A outer s H vs Q E hr hq => ?_)
  obtain ⟨t, ht, hb⟩ := h cdv A outer s H E hr
  refine ⟨t, ht, run_of (ρ := τ) (S := S) (enc := enc) hq fun ds dd hs => ?_⟩
  obtain ⟨a, b, c, d, rfl, er⟩ := hs
  refine ⟨g a b c d, by have q := hb a b c d; rw [← hG] at q; exact q, ?_⟩
  replace er : R.ok dd = (finR (g a b c d)).map toD := er
  generalize q : finR (g a b c d) = z at er
  cases z with
  | ok r => exact ⟨r, rfl, R.ok.inj er⟩
  | er c p => cases er
  | bad => cases er
end

section
variable {α β γ δ ε τ : Type} [Enc α] [Enc β] [Enc γ] [Enc δ] [Enc ε] [Enc τ]
def sp5 (g : α → β → γ → δ → ε → R τ) : List Dt → R Dt → Prop := fun ds r => ∃ (a : α) (b : β) (c : γ) (d : δ) (e : ε), ds = [toD a, toD b, toD c, toD d, toD e] ∧ r = (g a b c d e).map toD
theorem em_call5 {cf : Cf} {E : XK} {G : List Sl} {t0 t1 t2 t3 t4 : TE} {m0 : R α} {m1 : R β} {m2 : R γ} {m3 : R δ} {m4 : R ε} {g : α → β → γ → δ → ε → R τ} (h0 : EM cf E t0 G m0) (h1 : EM cf E t1 G m1) (h2 : EM cf E t2 G m2) (h3 : EM cf E t3 G m3) (h4 : EM cf E t4 G m4) : EM cf E (tCall (SpP cf 5 (sp5 g)) [] E0 (tCons t0 (tCons t1 (tCons t2 (tCons t3 (tCons t4 tNil)))))) G (m0.bind fun a => m1.bind fun b => m2.bind fun c => m3.bind fun d => m4.bind fun e => (g a b c d e).pu) := fun F O H σ Q hf he nb ko ke => by
  refine h0 F O H σ _ hf he (R.bind_nb nb) (fun a v0 F1 H1 e0 l1 hf1 r0 => ?_) (fun c p d F' H' e le hf' hd => ke c p d F' H' (by rw [e]; rfl) (le) hf' hd)
  rw [e0, R.ok_bind] at nb ko ke
  have le1 := l1
  refine h1 F1 O H1 σ _ hf1 (he.mono le1) (R.bind_nb nb) (fun b v1 F2 H2 e1 l2 hf2 r1 => ?_) (fun c p d F' H' e le hf' hd => ke c p d F' H' (by rw [e]; rfl) (le1.trans le) hf' hd)
  rw [e1, R.ok_bind] at nb ko ke
  have le2 := le1.trans l2
  refine h2 F2 O H2 σ _ hf2 (he.mono le2) (R.bind_nb nb) (fun c v2 F3 H3 e2 l3 hf3 r2 => ?_) (fun c p d F' H' e le hf' hd => ke c p d F' H' (by rw [e]; rfl) (le2.trans le) hf' hd)
  rw [e2, R.ok_bind] at nb ko ke
  have le3 := le2.trans l3
  refine h3 F3 O H3 σ _ hf3 (he.mono le3) (R.bind_nb nb) (fun d v3 F4 H4 e3 l4 hf4 r3 => ?_) (fun c p d F' H' e le hf' hd => ke c p d F' H' (by rw [e]; rfl) (le3.trans le) hf' hd)
  rw [e3, R.ok_bind] at nb ko ke
  have le4 := le3.trans l4
  refine h4 F4 O H4 σ _ hf4 (he.mono le4) (R.bind_nb nb) (fun e v4 F5 H5 e4 l5 hf5 r4 => ?_) (fun c p d F' H' e le hf' hd => ke c p d F' H' (by rw [e]; rfl) (le4.trans le) hf' hd)
  rw [e4, R.ok_bind] at nb ko ke
  have le5 := le4.trans l5
  obtain ⟨y, ey⟩ := pu_nb nb
  exact ⟨rfl, F5, O, _, toD y, hf5, (.cons (Dr.mono ((((l2).trans l3).trans l4).trans l5) r0) (.cons (Dr.mono (((l3).trans l4).trans l5) r1) (.cons (Dr.mono ((l4).trans l5) r2) (.cons (Dr.mono (l5) r3) (.cons r4 .nil))))), ⟨a, b, c, d, e, rfl, by rw [ey]; rfl⟩, fun v F' H' le hf' hr => ko y v F' H' (by rw [ey]; rfl) (le5.trans le) hf' hr⟩
theorem fn5 {P : Program} {w : World} {cf : Cf} {mg : Str → Option Value} {base : Heap} {x qual : Str} {st : Stmt} {f0 : Addr} {fd : FuncData} {N ps : List Str} {k : Nat} {S : Type} {enc : S → List Sl} (F : Fun cf.K x qual st f0 fd) (sc : FnScope N ps (defScope st)) (hp : ps.length = 5) (g : α → β → γ → δ → ε → R (Fl S τ))
    (G0 : α → β → γ → δ → ε → List Sl) (hG : ∀ a b c d e, [.va (toD a), .va (toD b), .va (toD c), .va (toD d), .va (toD e)] ++ List.replicate (N.length - 5) .un = G0 a b c d e)
    (h : ∀ (cdv : Value) (A : Around) (outer : List Env) (s : Shared) (H : Hp) (E : XK), Room k (A.deeper (envOfC qual (defScope st) s.heap.objs.size f0 cdv)) →
      ∃ t, PSs (cxOf CX0 P w cf.K mg base N qual (defScope st) f0 cdv A outer s H E).nox (defBody st) t ∧ ∀ a b c d e, SB cf E0 t (G0 a b c d e) enc (g a b c d e)) :
    FnOk P w cf.K mg base CX0 (k + 1) f0 fd ps (SpP cf 5 (sp5 fun a b c d e => finR (g a b c d e))) := by
  refine F.ok sc (SpP.len hp) (fun cdv A outer s H vs Q E hr hq => ?_)
  obtain ⟨t, ht, hb⟩ := h cdv A outer s H E hr
  refine ⟨t, ht, run_of (ρ := τ) (S := S) (enc := enc) hq fun ds dd hs => ?_⟩
  obtain ⟨a, b, c, d, e, rfl, er⟩ := hs
  refine ⟨g a b c d e, by have q := hb a b c d e; rw [← hG] at q; exact q, ?_⟩
  replace er : R.ok dd = (finR (g a b c d e)).map toD := er
  generalize q : finR (g a b c d e) = z at er
  cases z with
  | ok r => exact ⟨r, rfl, R.ok.inj er⟩
  | er c p => cases er
  | bad => cases er
end

section
variable {α β γ δ ε ζ τ : Type} [Enc α] [Enc β] [Enc γ] [Enc δ] [Enc ε] [Enc ζ] [Enc τ]
def sp6 (g : α → β → γ → δ → ε → ζ → R τ) : List Dt → R Dt → Prop := fun ds r => ∃ (a : α) (b : β) (c : γ) (d : δ) (e : ε) (f : ζ), ds = [toD a, toD b, toD c, toD d, toD e, toD f] ∧ r = (g a b c d e f).map toD
theorem em_call6 {cf : Cf} {E : XK} {G : List Sl} {t0 t1 t2 t3 t4 t5 : TE} {m0 : R α} {m1 : R β} {m2 : R γ} {m3 : R δ} {m4 : R ε} {m5 : R ζ} {g : α → β → γ → δ → ε → ζ → R τ} (h0 : EM cf E t0 G m0) (h1 : EM cf E t1 G m1) (h2 : EM cf E t2 G m2) (h3 : EM cf E t3 G m3) (h4 : EM cf E t4 G m4) (h5 : EM cf E t5 G m5) : EM cf E (tCall (SpP cf 6 (sp6 g)) [] E0 (tCons t0 (tCons t1 (tCons t2 (tCons t3 (tCons t4 (tCons t5 tNil))))))) G (m0.bind fun a => m1.bind fun b => m2.bind fun c => m3.bind fun d => m4.bind fun e => m5.bind fun f => (g a b c d e f).pu) := fun F O H σ Q hf he nb ko ke => by
  refine h0 F O H σ _ hf he (R.bind_nb nb) (fun a v0 F1 H1 e0 l1 hf1 r0 => ?_) (fun c p d F' H' e le hf' hd => ke c p d F' H' (by rw [e]; rfl) (le) hf' hd)
  rw [e0, R.ok_bind] at nb ko ke
  have le1 := l1
  refine h1 F1 O H1 σ _ hf1 (he.mono le1) (R.bind_nb nb) (fun b v1 F2 H2 e1 l2 hf2 r1 => ?_) (fun c p d F' H' e le hf' hd => ke c p d F' H' (by rw [e]; rfl) (le1.trans le) hf' hd)
  rw [e1, R.ok_bind] at nb ko ke
  have le2 := le1.trans l2
  refine h2 F2 O H2 σ _ hf2 (he.mono le2) (R.bind_nb nb) (fun c v2 F3 H3 e2 l3 hf3 r2 => ?_) (fun c p d F' H' e le hf' hd => ke c p d F' H' (by rw [e]; rfl) (le2.trans le) hf' hd)
  rw [e2, R.ok_bind] at nb ko ke
  have le3 := le2.trans l3
  refine h3 F3 O H3 σ _ hf3 (he.mono le3) (R.bind_nb nb) (fun d v3 F4 H4 e3 l4 hf4 r3 => ?_) (fun c p d F' H' e le hf' hd => ke c p d F' H' (by rw [e]; rfl) (le3.trans le) hf' hd)
  rw [e3, R.ok_bind] at nb ko ke
  have le4 := le3.trans l4
  refine h4 F4 O H4 σ _ hf4 (he.mono le4) (R.bind_nb nb) (fun e v4 F5 H5 e4 l5 hf5 r4 => ?_) (fun c p d F' H' e le hf' hd => ke c p d F' H' (by rw [e]; rfl) (le4.trans le) hf' hd)
  rw [e4, R.ok_bind] at nb ko ke
  have le5 := le4.trans l5
  refine h5 F5 O H5 σ _ hf5 (he.mono le5) (R.bind_nb nb) (fun f v5 F6 H6 e5 l6 hf6 r5 => ?_) (fun c p d F' H' e le hf' hd => ke c p d F' H' (by rw [e]; rfl) (le5.trans le) hf' hd)
  rw [e5, R.ok_bind] at nb ko ke
  have le6 := le5.trans l6
  obtain ⟨y, ey⟩ := pu_nb nb
  exact ⟨rfl, F6, O, _, toD y, hf6, (.cons (Dr.mono (((((l2).trans l3).trans l4).trans l5).trans l6) r0) (.cons (Dr.mono ((((l3).trans l4).trans l5).trans l6) r1) (.cons (Dr.mono (((l4).trans l5).trans l6) r2) (.cons (Dr.mono ((l5).trans l6) r3) (.cons (Dr.mono (l6) r4) (.cons r5 .nil)))))), ⟨a, b, c, d, e, f, rfl, by rw [ey]; rfl⟩, fun v F' H' le hf' hr => ko y v F' H' (by rw [ey]; rfl) (le6.trans le) hf' hr⟩
theorem fn6 {P : Program} {w : World} {cf : Cf} {mg : Str → Option Value} {base : Heap} {x qual : Str} {st : Stmt} {f0 : Addr} {fd : FuncData} {N ps : List Str} {k : Nat} {S : Type} {enc : S → List Sl} (F : Fun cf.K x qual st f0 fd) (sc : FnScope N ps (defScope st)) (hp : ps.length = 6) (g : α → β → γ → δ → ε → ζ → R (Fl S τ))
    (G0 : α → β → γ → δ → ε → ζ → List Sl) (hG : ∀ a b c d e f, [.va (toD a), .va (toD b), .va (toD c), .va (toD d), .va (toD e), .va (toD f)] ++ List.replicate (N.length - 6) .un = G0 a b c d e f)
    (h : ∀ (cdv : Value) (A : Around) (outer : List Env) (s : Shared) (H : Hp) (E : XK), Room k (A.deeper (envOfC qual (defScope st) s.heap.objs.size f0 cdv)) →
      ∃ t, PSs (cxOf CX0 P w cf.K mg base N qual (defScope st) f0 cdv A outer s H E).nox (defBody st) t ∧ ∀ a b c d e f, SB cf E0 t (G0 a b c d e f) enc (g a b c d e f)) :
    FnOk P w cf.K mg base CX0 (k + 1) f0 fd ps (SpP cf 6 (sp6 fun a b c d e f => finR (g a b c d e f))) := by
  refine F.ok sc (SpP.len hp) (fun cdv A outer s H vs Q E hr hq => ?_)
  obtain ⟨t, ht, hb⟩ := h cdv A outer s H E hr
  refine ⟨t, ht, run_of (ρ := τ) (S := S) (enc := enc) hq fun ds dd hs => ?_⟩
  obtain ⟨a, b, c, d, e, f, rfl, er⟩ := hs
  refine ⟨g a b c d e f, by have q := hb a b c d e f; rw [← hG] at q; exact q, ?_⟩
  replace er : R.ok dd = (finR (g a b c d e f)).map toD := er
  generalize q : finR (g a b c d e f) = z at er
  cases z with
  | ok r => exact ⟨r, rfl, R.ok.inj er⟩
  | er c p => cases er
  | bad => cases er
end
end Kr

/-! KrG: further rules by data: in, isinstance, sorted, a, b = .., is True. -/
namespace Kr
open PySem PySem.Spec PyProof.Rows L2
open Enc (toD)

/-! ### rules whose reading names the written part itself -/
section
variable {X : Cx} (K : PySem.W.Frag) (h : X.K = K)
include h
theorem ix_listK : IxR X (rIxL K) := h ▸ ix_list
theorem ix_tupK : IxR X (rIxT K) := h ▸ ix_tup
theorem sl_listK : SlR X (rSlL K) := h ▸ sl_list
theorem lenK : CallR X (.builtin "len") (rLenS K) := h ▸ call_len_seq
theorem listK : CallR X (.type "list") (rListS K) := h ▸ call_list_of
theorem sumK (hc : X.calm = true) : CallR X (.builtin "sum") (rSum K) := h ▸ cr_sum hc
theorem maxK (hc : X.calm = true) : CallR X (.builtin "max") (rMax K) := h ▸ cr_max hc
theorem minK (hc : X.calm = true) : CallR X (.builtin "min") (rMin K) := h ▸ cr_min hc
theorem anyK (hc : X.calm = true) : CallR X (.builtin "any") (rAny K) := h ▸ cr_any hc
theorem inK : OpR X (compareOp .In) (rIn K false) := h ▸ op_in_seq
theorem notInK : OpR X (compareOp .NotIn) (rIn K true) := h ▸ op_notIn_seq
theorem eqDK (hu : X.A.units + 64 < cLine) : OpR X (compareOp .Eq) (rEqD K) := h ▸ op_eqD hu
theorem neDK (hu : X.A.units + 64 < cLine) : OpR X (compareOp .NotEq) (rNeD K) := h ▸ op_neD hu
theorem tupK {es : List Expr} {k : Nat} {t : TGs} {pos : Pos} (n : Nat) (hc : X.calm = true) (hp : PGs X es t)
    (hn : (assignEach es X.env).length = n := by rfl) (hst : (assignEach es X.env).findIdx? (·.1) = none := by rfl) : PG X (.Tuple es k pos) (gTup K n t) := h ▸ pg_tup hc hp hn hst
theorem listI {tg l : Expr} {tl : TE} (hl : PE X l tl) : PI X tg l (iList K tl) := h ▸ pi_list hl
theorem enumI {e : Expr} {ta : TA} {p pos tpos : Pos} {elts : List Expr} {kk : Nat} (hg : Gl X "enumerate") (hm : X.mg "enumerate" = none) (ha : PA X [e] ta) (hs : starEach [e] X.env = [(false, eval e X.env)] := by rfl) :
    PI X (.Tuple elts kk tpos) (.Call (.Name "enumerate" p) [e] [] pos) (iEnum K ta) := h ▸ pi_enum hg hm ha hs
theorem zipI {e e2 : Expr} {ta : TA} {p pos tpos : Pos} {elts : List Expr} {kk : Nat} (hg : Gl X "zip") (hm : X.mg "zip" = none) (ha : PA X [e, e2] ta)
    (hs : starEach [e, e2] X.env = (false, eval e X.env) :: starEach [e2] X.env := by rfl) (hpl : (backTo pos (starEach [e2] X.env)).any (·.1) = false := by rfl) :
    PI X (.Tuple elts kk tpos) (.Call (.Name "zip" p) [e, e2] [] pos) (iZip K ta) := h ▸ pi_zip hg hm ha hs hpl
theorem revI {tg e : Expr} {ta : TA} {p pos : Pos} (hg : Gl X "reversed") (hm : X.mg "reversed" = none) (ha : PA X [e] ta) (hs : starEach [e] X.env = [(false, eval e X.env)] := by rfl) : PI X tg (.Call (.Name "reversed" p) [e] [] pos) (iRev K ta) := h ▸ pi_reversed hg hm ha hs
end
section
variable {cf : Cf} {E : XK} {G : List Sl} {S α β γ δ ρ : Type} [Rs ρ] {ta tb tc te : TE} {t u : TS} {enc : S → List Sl}
theorem sb_skip {m : R (Fl S ρ)} (h : SB cf E u G enc m) : SB cf E (tSeq tNext u) G enc m := h
theorem sb_bad : SB cf E u G enc (.bad : R (Fl S ρ)) := fun _ _ _ _ _ _ nb => absurd rfl nb
theorem sb_retN : SB cf E tRetN G enc (.ok (.rt ()) : R (Fl S Unit)) := fun F O H σ D hM _ _ _ kr _ => kr () .non F H rfl (Le.refl F) hM.fm .non
theorem sb_retN2 : SB cf E (tSeq tRetN u) G enc (.ok (.rt ()) : R (Fl S Unit)) := fun F O H σ D hM _ _ _ kr _ => kr () .non F H rfl (Le.refl F) hM.fm .non
/-! ### a, b = e1, e2 -/
theorem mt_set {K : PySem.W.Frag} {F O H : Hp} {σ : L2.St} (h : Mt K F O H σ G) (i : Nat) {v : V} {d : Dt} (r : Dr K F v d) : Mt K F O H (σ.set i (some v)) (G.set i (.va d)) := by
  obtain ⟨O', lo, hf, he, ow⟩ := h
  exact ⟨O', lo, hf, er_set he i r, ow.keep fun j s q o => own_set q o⟩
theorem sb_par2 [Enc α] [Enc β] {i j : Nat} {m : R α} {n : R β} {f : α → β → R (Fl S ρ)} (h : EM cf E ta G m) (h' : EM cf E tb G n) (G' : α → β → List Sl) (hG : ∀ a b, (G.set i (.va (toD a))).set j (.va (toD b)) = G' a b) (hk : ∀ a b, SB cf E u (G' a b) enc (f a b)) :
    SB cf E (tSeq (tPar i j (tCons ta (tCons tb tNil))) u) G enc (m.bind fun a => n.bind fun b => f a b) := fun F O H σ D hM nb kn kb kr ke => by
  obtain ⟨O', lo, hf, he, ow⟩ := hM
  refine h F O' H σ _ hf he (R.bind_nb nb) (fun a v F1 H1 ea le1 hf1 hr => ?_) (fun c p d F' H' e le hf' hd => ke c p d F' H' (by rw [e]; rfl) le (hf'.weak lo) hd)
  rw [ea, R.ok_bind] at nb kn kb kr ke
  refine h' F1 O' H1 σ _ hf1 (he.mono le1) (R.bind_nb nb) (fun b w' F2 H2 eb le2 hf2 hw => ?_) (fun c p d F' H' e le hf' hd => ke c p d F' H' (by rw [e]; rfl) (le1.trans le) (hf'.weak lo) hd)
  rw [eb, R.ok_bind] at nb kn kb kr ke
  have le := le1.trans le2
  have hM2 : Mt cf.K F2 O H2 σ G := ⟨O', lo, hf2, he.mono le, ow.mono le⟩
  have hM3 := mt_set (mt_set hM2 i (hr.mono le2)) j hw
  rw [hG] at hM3
  exact ⟨v, w', rfl, hk a b F2 O H2 _ D hM3 nb (fun s F'' H'' σ' e le' => kn s F'' H'' σ' e (le.trans le')) (fun s F'' H'' σ' e le' => kb s F'' H'' σ' e (le.trans le')) (fun r v F'' H'' e le' => kr r v F'' H'' e (le.trans le')) fun c p d F'' H'' e le' => ke c p d F'' H'' e (le.trans le')⟩
theorem sb_par3 [Enc α] [Enc β] [Enc γ] {i j l : Nat} {m : R α} {n : R β} {o : R γ} {f : α → β → γ → R (Fl S ρ)} (h : EM cf E ta G m) (h' : EM cf E tb G n) (h'' : EM cf E tc G o) (G' : α → β → γ → List Sl)
    (hG : ∀ a b c, ((G.set i (.va (toD a))).set j (.va (toD b))).set l (.va (toD c)) = G' a b c) (hk : ∀ a b c, SB cf E u (G' a b c) enc (f a b c)) :
    SB cf E (tSeq (tPar3 i j l (tCons ta (tCons tb (tCons tc tNil)))) u) G enc (m.bind fun a => n.bind fun b => o.bind fun c => f a b c) := fun F O H σ D hM nb kn kb kr ke => by
  obtain ⟨O', lo, hf, he, ow⟩ := hM
  refine h F O' H σ _ hf he (R.bind_nb nb) (fun a v F1 H1 ea le1 hf1 hr => ?_) (fun c p d F' H' e le hf' hd => ke c p d F' H' (by rw [e]; rfl) le (hf'.weak lo) hd)
  rw [ea, R.ok_bind] at nb kn kb kr ke
  refine h' F1 O' H1 σ _ hf1 (he.mono le1) (R.bind_nb nb) (fun b w' F2 H2 eb le2 hf2 hw => ?_) (fun c p d F' H' e le hf' hd => ke c p d F' H' (by rw [e]; rfl) (le1.trans le) (hf'.weak lo) hd)
  rw [eb, R.ok_bind] at nb kn kb kr ke
  have le12 := le1.trans le2
  refine h'' F2 O' H2 σ _ hf2 (he.mono le12) (R.bind_nb nb) (fun c z F3 H3 ec le3 hf3 hz => ?_) (fun c p d F' H' e le hf' hd => ke c p d F' H' (by rw [e]; rfl) (le12.trans le) (hf'.weak lo) hd)
  rw [ec, R.ok_bind] at nb kn kb kr ke
  have le := le12.trans le3
  have hM2 : Mt cf.K F3 O H3 σ G := ⟨O', lo, hf3, he.mono le, ow.mono le⟩
  have hM3 := mt_set (mt_set (mt_set hM2 i (hr.mono (le2.trans le3))) j (hw.mono le3)) l hz
  rw [hG] at hM3
  exact ⟨v, w', z, rfl, hk a b c F3 O H3 _ D hM3 nb (fun s F'' H'' σ' e le' => kn s F'' H'' σ' e (le.trans le')) (fun s F'' H'' σ' e le' => kb s F'' H'' σ' e (le.trans le')) (fun r v F'' H'' e le' => kr r v F'' H'' e (le.trans le')) fun c p d F'' H'' e le' => ke c p d F'' H'' e (le.trans le')⟩
/-- a value that is not None -/
def getR (o : Option α) : R α := match o with
  | some a => .ok a
  | none => .bad
theorem EM.get [Enc α] {m : R (Option α)} (h : EM cf E ta G m) : EM cf E ta G (m.bind getR) := fun F O H σ Q hf he nb ko ke =>
  h F O H σ Q hf he (R.bind_nb nb) (fun o v F' H' e le hf' hr => by
    rw [e, R.ok_bind] at nb ko
    cases o with
    | none => exact absurd rfl nb
    | some a => exact ko a v F' H' rfl le hf' hr) (fun c p d F' H' e => ke c p d F' H' (by rw [e]; rfl))
/-! ### is True, in, isinstance -/
theorem em_isB {ma mb : R Bool} (ha : EM cf E ta G ma) (hb : EM cf E tb G mb) : EM cf E (tOp rIsB ta tb) G (ma.bind fun a => mb.bind fun b => .ok (decide (a = b))) :=
  EG.bind2 (u := fun x y H Q => rIsB x y H Q) ha hb rm_mono fun F O H Q a r b s hf h1 h2 _ ko => ⟨a, b, dr_bl h1, dr_bl h2, ko _ _ F H rfl (Le.refl F) hf (.bl _)⟩
theorem em_notB {ma mb : R Bool} (ha : EM cf E ta G ma) (hb : EM cf E tb G mb) : EM cf E (tOp rNotB ta tb) G (ma.bind fun a => mb.bind fun b => .ok (!decide (a = b))) :=
  EG.bind2 (u := fun x y H Q => rNotB x y H Q) ha hb rm_mono fun F O H Q a r b s hf h1 h2 _ ko => ⟨a, b, dr_bl h1, dr_bl h2, ko _ _ F H rfl (Le.refl F) hf (.bl _)⟩
theorem inV_int (a : Int) : ∀ xs : List Int, inV (.int a) (xs.map V.int) = xs.contains a
  | [] => rfl
  | x :: r => by
    have ih := inV_int a r
    unfold inV at ih ⊢
    rw [List.map_cons, List.any_cons, ih, List.contains_cons]
    congr 1
    show eqV (.int x) (.int a) = (a == x)
    unfold eqV
    by_cases e : x = a
    · subst e
      simp
    · have e' : ¬ a = x := fun z => e z.symm
      show (x == a) = (a == x)
      rw [beq_eq_false_iff_ne.mpr e, beq_eq_false_iff_ne.mpr e']
theorem flat_int (xs : List Int) : (xs.map V.int).all flatV = true := by
  rw [List.all_eq_true]
  intro x hx
  obtain ⟨i, _, rfl⟩ := List.mem_map.mp hx
  rfl
theorem em_inI {ma : R Int} {mb : R (List Int)} (ha : EM cf E ta G ma) (hb : ES cf E tb G mb) : EM cf E (tOp (rIn cf.K false) ta tb) G (ma.bind fun a => mb.bind fun b => .ok (b.contains a)) :=
  EG.bind2 (u := fun x y H Q => rIn cf.K false x y H Q) ha hb rm_mono fun F O H Q a r b s hf h1 h2 _ ko => by
    obtain ⟨p, vs, e, hs, hr⟩ := RS.seq h2 hf
    rw [ints_of_drA hr] at hs
    rw [dr_int (i := a) h1]
    refine ⟨p, _, e, .inl hs, rfl, flat_int b, ?_⟩
    rw [inV_int]
    exact ko _ _ F H rfl (Le.refl F) hf (.bl _)
theorem em_niI {ma : R Int} {mb : R (List Int)} (ha : EM cf E ta G ma) (hb : ES cf E tb G mb) : EM cf E (tOp (rIn cf.K true) ta tb) G (ma.bind fun a => mb.bind fun b => .ok (!b.contains a)) :=
  EG.bind2 (u := fun x y H Q => rIn cf.K true x y H Q) ha hb rm_mono fun F O H Q a r b s hf h1 h2 _ ko => by
    obtain ⟨p, vs, e, hs, hr⟩ := RS.seq h2 hf
    rw [ints_of_drA hr] at hs
    rw [dr_int (i := a) h1]
    refine ⟨p, _, e, .inl hs, rfl, flat_int b, ?_⟩
    rw [inV_int]
    exact ko _ _ F H rfl (Le.refl F) hf (.bl _)
/-- isinstance(x, T), x of the type T itself -/
def rIsTyK (K : PySem.W.Frag) : List V → Hp → VK → Prop := fun xs H Q => ∃ (x : V) (T : String), xs = [x, .ty T] ∧ TyOf K H x (.type T) ∧ Q (.bl true) H
theorem call_isTyK {X : Cx} : CallR X (.builtin "isinstance") (rIsTyK X.K) := by
  intro pins s σ H xs us Q I r h
  obtain ⟨x, T, rfl, t, q⟩ := h
  cases r with
  | cons rx rr =>
    cases rr with
    | cons rt rr =>
      cases rr
      cases rt
      have e : PySem.W.kitOne X.K (.type T) (.type T) = some true := if_pos (beq_self_eq_true _)
      exact isinst_ok I rx t e fun tk => ⟨.bl true, H, I.kept (t' := tk) fun _ _ z => z, rfl, q⟩
theorem em_isT (T : String) [Enc α] (hT : ∀ (F H : Hp) (v : V) (a : α), Le F H → Dr cf.K F v (toD a) → TyOf cf.K H v (.type T)) {m : R α} (h : EM cf E ta G m) : EM cf E (tCB (rIsTyK cf.K) (tCons ta (tCons (tC (.ty T)) tNil))) G (m.bind fun _ => .ok true) :=
  EG.bind1 (u := fun r H Q => rIsTyK cf.K [r, .ty T] H Q) h fun F O H Q a r hf h1 _ ko => ⟨r, T, rfl, hT F H r a hf.f h1, ko _ _ F H rfl (Le.refl F) hf (.bl _)⟩
theorem em_isT_bool {m : R Bool} (h : EM cf E ta G m) : EM cf E (tCB (rIsTyK cf.K) (tCons ta (tCons (tC (.ty "bool")) tNil))) G (m.bind fun _ => .ok true) := em_isT "bool" (fun F H v a le r => by
  rw [dr_bl (i := a) r]
  exact .bl a) h
theorem em_isT_list [Enc α] {m : R (List α)} (h : EM cf E ta G m) : EM cf E (tCB (rIsTyK cf.K) (tCons ta (tCons (tC (.ty "list")) tNil))) G (m.bind fun _ => .ok true) := em_isT "list" (fun F H v a le r => by
  obtain ⟨p, vs, e, h1, _⟩ := dr_lst r
  rw [e]
  exact .lst (le _ _ h1)) h
theorem em_isT_tuple [Enc α] [Enc β] {m : R (α × β)} (h : EM cf E ta G m) : EM cf E (tCB (rIsTyK cf.K) (tCons ta (tCons (tC (.ty "tuple")) tNil))) G (m.bind fun _ => .ok true) := em_isT "tuple" (fun F H v a le r => by
  obtain ⟨p, vs, e, h1, _⟩ := dr_tup (ds := [toD a.1, toD a.2]) r
  rw [e]
  exact .tup (le _ _ h1)) h

/-! ### sorted -/
/-- data that Python sorts -/
class Sbl (α : Type) [Enc α] : Prop where
  al : ∀ a b : α, PySem.W.alike (toD a).py (toD b).py = true
  so : (∀ a : α, ∃ x r, (toD a).py = .tuple (x :: r)) ∨ ∀ a : α, (toD a).py ≠ .none ∧ ∀ xs, (toD a).py ≠ .tuple xs
  dp : ∀ a : α, (toD a).py.depth ≤ 8
  nd : ∀ a : α, (toD a).nd = true
/-- Python's a <= b -/
def leD [Enc α] (a b : α) : Bool := PySem.W.dataLe false (fun x : α => (toD x).py) a b
def sortR [Enc α] (xs : List α) : R (List α) := (szR xs).bind fun xs => .ok (xs.mergeSort leD)
def rSortedD (K : PySem.W.Frag) : List V → Hp → VK → Prop := fun vs H Q => ∃ (a : Addr) (zs : List (V × PyData)), vs = [V.ref a] ∧ SqL K H a (zs.map (·.1)) ∧ (∀ z ∈ zs, Dp K H z.1 z.2) ∧ PySem.W.AllAlike (zs.map (·.2)) ∧ PySem.W.Sortable (zs.map (·.2)) ∧ (∀ z ∈ zs, z.2.depth ≤ 8) ∧
  ∀ p, H p = none → Q (.ref p) (upd H p (.lst ((zs.mergeSort (PySem.W.dataLe false fun z : V × PyData => z.2)).map (·.1))))
theorem relV_unique {v : V} {u u' : Value} : True := trivial
theorem eachIs_of {α β : Type} {R : α → β → Prop} : ∀ {as : List α} {bs : List β}, as.length = bs.length → (∀ (i : Nat) a b, as[i]? = some a → bs[i]? = some b → R a b) → PySem.W.EachIs R as bs
  | [], [], _, _ => .nil
  | [], _ :: _, h, _ => by simp at h
  | _ :: _, [], h, _ => by simp at h
  | a :: as, b :: bs, h, k => .cons (k 0 a b rfl rfl) (eachIs_of (by simpa using h) fun i x y e e' => k (i + 1) x y (by simpa using e) (by simpa using e'))
theorem vals_of_each {β : Type} {f : β → V} : ∀ {us : List Value} {bs : List β}, PySem.W.EachIs (fun u b => RelV (f b) u) us bs → Vals (bs.map f) us
  | _, _, .nil => .nil
  | _, _, .cons r t => .cons r (vals_of_each t)
theorem cr_sortedD {X : Cx} (hu : X.A.units + 64 < cLine) : CallR X (.builtin "sorted") (rSortedD X.K) := by
  intro pins s σ H vs us Q I r h
  obtain ⟨a, zs, rfl, hs, hd, hal, hso, hdp, q⟩ := h
  obtain ⟨its, rv, hl, hz⟩ := I.list hs
  obtain ⟨u, rfl, ru⟩ := vals1 r
  obtain rfl : u = Value.ref a := ru
  have hlen : its.length = zs.length := by rw [← rv.length, List.length_map]
  have rel : ∀ (i : Nat) (u : Value) (z : V × PyData), its[i]? = some u → zs[i]? = some z → RelV z.1 u := fun i u z e1 e2 => by
    obtain ⟨u', h1, h2⟩ := rv.get (show (zs.map (·.1))[i]? = some z.1 by rw [List.getElem?_map, e2]; rfl)
    rw [e1] at h1
    cases h1
    exact h2
  have er : PySem.W.EachIs (fun u z => RelV z.1 u) its zs := eachIs_of hlen rel
  have er2 : PySem.W.EachIs (fun u z => ∃ as, Reads s.heap u (z : V × PyData).2 as) its zs := eachIs_of hlen fun i u z e1 e2 => Dp.reads I z.2 z.1 u (hd z (List.mem_of_getElem? e2)) (rel i u z e1 e2)
  refine PySem.W.sorted_data (enc := fun z : V × PyData => z.2) hl.isList er er2 hal hso (by rw [← hlen, ← rv.length]; exact hz) (fun z hm => by have := hdp z hm; omega) fun out ho eo => ?_
  obtain ⟨c, hc⟩ := sortedAll_at s.heap its out.toArray
  have hf : H (s.heap.objs.size + 1) = none := I.hok.fresh (Nat.le_succ _)
  refine ⟨.ref (s.heap.objs.size + 1), _, I.laid (t' := s.toks) (o := .lst ((zs.mergeSort (PySem.W.dataLe false fun z : V × PyData => z.2)).map (·.1))) (h' := sortedAll s.heap its out.toArray) (fun b o e => sortedAll_old e) (Nat.le_succ _) ⟨?_, out, c, vals_of_each eo, hc⟩, rfl, q _ hf⟩
  rw [List.length_map, List.length_mergeSort, ← hlen, ← rv.length]
  exact hz
theorem zip_fst {A B : Type} : ∀ {xs : List A} {ys : List B}, xs.length = ys.length → (xs.zip ys).map (·.1) = xs
  | [], [], _ => rfl
  | [], _ :: _, h => by simp at h
  | _ :: _, [], h => by simp at h
  | x :: xs, y :: ys, h => by rw [List.zip_cons_cons, List.map_cons, zip_fst (by simpa using h)]
theorem zip_snd {A B : Type} : ∀ {xs : List A} {ys : List B}, xs.length = ys.length → (xs.zip ys).map (·.2) = ys
  | [], [], _ => rfl
  | [], _ :: _, h => by simp at h
  | _ :: _, [], h => by simp at h
  | x :: xs, y :: ys, h => by rw [List.zip_cons_cons, List.map_cons, zip_snd (by simpa using h)]
theorem drA_zip [Enc α] {K : PySem.W.Frag} {F : Hp} : ∀ {vs : List V} {xs : List α}, DrA K F vs (xs.map toD) → ∀ z ∈ vs.zip xs, Dr K F z.1 (toD z.2)
  | [], _, _, z, hz => by simp at hz
  | _ :: _, [], _, z, hz => by simp at hz
  | v :: vs, x :: xs, h, z, hz => by
    obtain ⟨v', r', e, h1, h2⟩ := drA_cons h
    cases e
    rw [List.zip_cons_cons] at hz
    rcases List.mem_cons.mp hz with e | hz
    · subst e
      exact h1
    · exact drA_zip h2 z hz
theorem drA_of [Enc α] {K : PySem.W.Frag} {F : Hp} : ∀ {zs : List (V × α)}, (∀ z ∈ zs, Dr K F z.1 (toD z.2)) → DrA K F (zs.map (·.1)) ((zs.map (·.2)).map toD)
  | [], _ => .nil
  | z :: zs, h => .cons (h z (by simp)) (drA_of fun y hy => h y (by simp [hy]))
theorem ef_sorted [Enc α] [Sbl α] {m : R (List α)} (h : ES cf E ta G m) : EF cf E (tCB (rSortedD cf.K) (tCons ta tNil)) G (m.bind sortR) :=
  EG.call1 (ρ := Unit) h fun F O H Q xs r hf h1 nb ko => by
    obtain ⟨p, vs, e, hs, hr⟩ := RS.seq h1 hf
    obtain ⟨hz, ez⟩ := szR_nb (R.bind_nb nb)
    have es : sortR xs = .ok (xs.mergeSort leD) := by
      unfold sortR
      rw [ez]
      rfl
    have hl : vs.length = xs.length := by rw [hr.length, List.length_map]
    let zs : List (V × α) := vs.zip xs
    let ws : List (V × PyData) := zs.map fun z => (z.1, (toD z.2).py)
    have e1 : ws.map (·.1) = vs := by
      show (zs.map _).map _ = vs
      rw [List.map_map]
      exact zip_fst hl
    have hw : ∀ w' ∈ ws, ∃ v a, (v, a) ∈ zs ∧ w' = (v, (toD a).py) := fun w' hm => by
      obtain ⟨z, hz, rfl⟩ := List.mem_map.mp hm
      exact ⟨z.1, z.2, hz, rfl⟩
    refine ⟨p, ws, by rw [e], by rw [e1]; exact hs, fun w' hm => ?_, fun d hd d' hd' => ?_, ?_, fun w' hm => ?_, fun q hq => ?_⟩
    · obtain ⟨v, a, hz, rfl⟩ := hw w' hm
      exact Dr.dp hf.f (drA_zip hr _ hz) (Sbl.nd a)
    · obtain ⟨w1, hm, rfl⟩ := List.mem_map.mp hd
      obtain ⟨w2, hm', rfl⟩ := List.mem_map.mp hd'
      obtain ⟨v, a, _, rfl⟩ := hw w1 hm
      obtain ⟨v', a', _, rfl⟩ := hw w2 hm'
      exact Sbl.al a a'
    · rcases Sbl.so (α := α) with k | k
      · refine .inl fun d hd => ?_
        obtain ⟨w1, hm, rfl⟩ := List.mem_map.mp hd
        obtain ⟨v, a, _, rfl⟩ := hw w1 hm
        exact k a
      · refine .inr fun d hd => ?_
        obtain ⟨w1, hm, rfl⟩ := List.mem_map.mp hd
        obtain ⟨v, a, _, rfl⟩ := hw w1 hm
        exact k a
    · obtain ⟨v, a, _, rfl⟩ := hw w' hm
      exact Sbl.dp a
    · refine ko _ _ F _ es (Le.refl F) (hf.newH hq) ⟨q, _, rfl, hf.fnone hq, hf.onone hq, upd_same, ?_⟩
      have k1 : ws.mergeSort (PySem.W.dataLe false fun z : V × PyData => z.2) = (zs.mergeSort fun x y => leD x.2 y.2).map fun z => (z.1, (toD z.2).py) := by
        show (zs.map _).mergeSort _ = _
        exact (List.map_mergeSort (r := fun x y : V × α => leD x.2 y.2) (s := PySem.W.dataLe false fun z : V × PyData => z.2) (f := fun z : V × α => (z.1, (toD z.2).py)) (l := zs) (fun a _ b _ => rfl)).symm
      have k2 : (zs.mergeSort fun x y => leD x.2 y.2).map (·.2) = xs.mergeSort leD := by
        have q := List.map_mergeSort (r := fun x y : V × α => leD x.2 y.2) (s := leD) (f := fun z : V × α => z.2) (l := zs) (fun a _ b _ => rfl)
        rw [q]
        congr 1
        exact zip_snd hl
      rw [k1, ← k2, List.map_map]
      exact drA_of fun z hz => drA_zip hr z ((List.mergeSort_perm zs _).mem_iff.mp hz)
end
instance : Sbl Int := ⟨fun a b => by show PySem.W.alike (.int a) (.int b) = true; simp only [PySem.W.alike], .inr fun a => ⟨fun h => (nomatch h), fun _ h => (nomatch h)⟩, fun a => Nat.zero_le _, fun a => rfl⟩
instance : Sbl (Int × Int) := ⟨fun a b => by
    show PySem.W.alike (.tuple [.int a.1, .int a.2]) (.tuple [.int b.1, .int b.2]) = true
    simp [PySem.W.alike, PySem.W.alikeAll], .inl fun a => ⟨_, _, rfl⟩, fun a => by
    show PyData.depth (.tuple [.int a.1, .int a.2]) ≤ 8
    simp [PyData.depth, PyData.depthAll], fun a => rfl⟩
instance : Sbl (T3 Int Int Int) := ⟨fun a b => by
    show PySem.W.alike (.tuple [.int a.a, .int a.b, .int a.c]) (.tuple [.int b.a, .int b.b, .int b.c]) = true
    simp [PySem.W.alike, PySem.W.alikeAll], .inl fun a => ⟨_, _, rfl⟩, fun a => by
    show PyData.depth (.tuple [.int a.a, .int a.b, .int a.c]) ≤ 8
    simp [PyData.depth, PyData.depthAll], fun a => rfl⟩
theorem pyA_ints : ∀ ns : List Int, Dt.pyA (ns.map toD) = ns.map PyData.int
  | [] => rfl
  | n :: r => by
    show PyData.int n :: Dt.pyA (r.map toD) = _
    rw [pyA_ints r]
    rfl
theorem ndA_ints : ∀ ns : List Int, Dt.ndA (ns.map toD) = true
  | [] => rfl
  | n :: r => by
    show (true && Dt.ndA (r.map toD)) = true
    rw [ndA_ints r]
    rfl
instance : Sbl (Int × List Int) := ⟨fun a b => by
    show PySem.W.alike (.tuple [.int a.1, .list (Dt.pyA (a.2.map toD))]) (.tuple [.int b.1, .list (Dt.pyA (b.2.map toD))]) = true
    rw [pyA_ints, pyA_ints]
    simp [PySem.W.alike, PySem.W.alikeAll, PySem.W.alike_ints], .inl fun a => ⟨_, _, rfl⟩, fun a => by
    show PyData.depth (.tuple [.int a.1, .list (Dt.pyA (a.2.map toD))]) ≤ 8
    rw [pyA_ints]
    simp [PyData.depth, PyData.depthAll, PySem.W.depth_ints], fun a => by
    show (true && (Dt.ndA (a.2.map toD) && true)) = true
    rw [ndA_ints]
    rfl⟩
section
variable {X : Cx} (K : PySem.W.Frag) (h : X.K = K)
include h
theorem sortedK (hu : X.A.units + 64 < cLine) : CallR X (.builtin "sorted") (rSortedD K) := h ▸ cr_sortedD hu
theorem isTyK : CallR X (.builtin "isinstance") (rIsTyK K) := h ▸ call_isTyK
end
end Kr

/-! KrM: the mathematics of results: loops, comprehensions, equality of data. -/
namespace Kr
open PySem PySem.Spec PyProof.Rows L2
open Enc (toD)
variable {α β γ S T ρ : Type}
theorem finR_rt (r : ρ) : finR (.ok (.rt r) : R (Fl S ρ)) = .ok r := (fun (m : R (Fl S ρ)) (e : m = .ok (.rt r)) => show finR m = .ok r by rw [e]; rfl) _ rfl
theorem seqF_nx (s : S) (k : S → R (Fl T ρ)) : seqF (.ok (.nx s)) k = k s := (fun (m : R (Fl S ρ)) (e : m = .ok (.nx s)) => show seqF m k = k s by rw [e]; rfl) _ rfl
theorem seqF_rt (r : ρ) (k : S → R (Fl T ρ)) : seqF (.ok (.rt r)) k = .ok (.rt r) := (fun (m : R (Fl S ρ)) (e : m = .ok (.rt r)) => show seqF m k = .ok (.rt r) by rw [e]; rfl) _ rfl
theorem seqF_ite (c : Prop) [Decidable c] (a b : R (Fl S ρ)) (k : S → R (Fl T ρ)) : seqF (if c then a else b) k = if c then seqF a k else seqF b k := by split <;> rfl
theorem ite_nx (c : Prop) [Decidable c] (a b : S) : (if c then (.ok (.nx a) : R (Fl S ρ)) else .ok (.nx b)) = .ok (.nx (if c then a else b)) := by split <;> rfl
theorem ite_ok (c : Prop) [Decidable c] (a b : α) : (if c then (.ok a : R α) else .ok b) = .ok (if c then a else b) := by split <;> rfl
theorem okB (b : Bool) (x y : R α) (c : Prop) [Decidable c] (h : b = decide c) : (if b = true then x else y) = if c then x else y := by subst h; simp
/-- a loop that runs through -/
theorem forR_run {step : T → α → R (Fl T ρ)} {k : T → R (Fl S ρ)} : ∀ (xs : List α) (s : T) (I : Nat → T → Prop), I 0 s → (∀ (i : Nat) (h : i < xs.length) (s : T), I i s → ∃ s', step s xs[i] = .ok (.nx s') ∧ I (i + 1) s') →
    ∃ s', I xs.length s' ∧ forR step k xs s = k s'
  | [], s, I, h0, _ => ⟨s, h0, rfl⟩
  | x :: r, s, I, h0, hs => by
    obtain ⟨s1, e1, h1⟩ := hs 0 (by simp) s h0
    obtain ⟨s2, h2, e2⟩ := forR_run (step := step) (k := k) r s1 (fun i => I (i + 1)) h1 fun i hi s' hI => hs (i + 1) (by simpa using hi) s' hI
    refine ⟨s2, h2, ?_⟩
    show (step s x).bind _ = _
    rw [show step s x = .ok (.nx s1) from e1]
    exact e2
/-- .. as a rule for a goal -/
theorem forR_elim {P : R (Fl S ρ) → Prop} {step : T → α → R (Fl T ρ)} {k : T → R (Fl S ρ)} {xs : List α} {s : T} (I : Nat → T → Prop) (h0 : I 0 s) (hs : ∀ (i : Nat) (h : i < xs.length) (s : T), I i s → ∃ s', step s xs[i] = .ok (.nx s') ∧ I (i + 1) s')
    (hP : ∀ s', I xs.length s' → P (k s')) : P (forR step k xs s) := by
  obtain ⟨s', h1, h2⟩ := forR_run (step := step) (k := k) xs s I h0 hs
  rw [h2]
  exact hP s' h1
theorem szR_nil : szR ([] : List α) = .ok [] := if_pos (Nat.zero_le _)
theorem forR_fold {step : T → α → R (Fl T ρ)} {k : T → R (Fl S ρ)} (f : T → α → T) : ∀ (xs : List α) (s : T), (∀ s x, x ∈ xs → step s x = .ok (.nx (f s x))) → forR step k xs s = k (xs.foldl f s)
  | [], s, _ => rfl
  | x :: r, s, h => by
    show (step s x).bind _ = _
    rw [h s x (by simp)]
    exact forR_fold f r (f s x) fun s y hy => h s y (by simp [hy])
theorem forR_cons (step : T → α → R (Fl T ρ)) (k : T → R (Fl S ρ)) (x : α) (r : List α) (s : T) : forR step k (x :: r) s = (step s x).bind fun
    | .nx s' => forR step k r s'
    | .bk s' => k s'
    | .rt v => .ok (.rt v) := rfl
/-- a comprehension that runs through -/
theorem lcR_ok {ft : α → R Bool} {fe : α → R β} {xs : List α} (p : α → Bool) (g : α → β) (hz : xs.length ≤ 1000000) (ht : ∀ x ∈ xs, ft x = .ok (p x)) (he : ∀ x ∈ xs, p x = true → fe x = .ok (g x)) : lcR ft fe xs = .ok ((xs.filter p).map g) := by
  unfold lcR
  rw [szR_ok hz, R.ok_bind]
  clear hz
  induction xs with
  | nil => rfl
  | cons x r ih =>
    have ih' := ih (fun y hy => ht y (by simp [hy])) fun y hy => he y (by simp [hy])
    show ((ft x).pu.bind _) = _
    rw [ht x (by simp), R.ok_pu, R.ok_bind]
    cases hp : p x with
    | false =>
      rw [if_neg Bool.false_ne_true, ih', List.filter_cons, if_neg (by rw [hp]; decide)]
    | true =>
      rw [if_pos rfl, he x (by simp) hp, R.ok_pu, R.ok_bind, ih', List.filter_cons, if_pos hp]
      rfl
theorem lcR_map {fe : α → R β} {xs : List α} (g : α → β) (hz : xs.length ≤ 1000000) (he : ∀ x ∈ xs, fe x = .ok (g x)) : lcR (fun _ => .ok true) fe xs = .ok (xs.map g) := by
  rw [lcR_ok (fun _ => true) g hz (fun _ _ => rfl) fun x hx _ => he x hx, List.filter_eq_self.mpr fun _ _ => rfl]
/-! ### ranges, items -/
theorem mem_seqI {lo x : Int} {n : Nat} : x ∈ seqI lo n ↔ lo ≤ x ∧ x < lo + (n : Int) := by
  unfold seqI
  rw [List.mem_map]
  constructor
  · rintro ⟨i, hi, rfl⟩
    have := List.mem_range.mp hi
    omega
  · rintro ⟨h1, h2⟩
    exact ⟨(x - lo).toNat, List.mem_range.mpr (by omega), by omega⟩
theorem seqI_at {lo : Int} {n i : Nat} (h : i < (seqI lo n).length) : (seqI lo n)[i] = lo + (i : Int) := by
  have e := seqI_get lo n i
  rw [List.getElem?_eq_getElem h, if_pos (by rw [seqI_len] at h; exact h)] at e
  exact Option.some.inj e
theorem seqI_succ (lo : Int) (n : Nat) : seqI lo (n + 1) = seqI lo n ++ [lo + (n : Int)] := by
  unfold seqI
  rw [List.range_succ, List.map_append]
  rfl
theorem rng1_ok {n : Int} (h : n < 2 ^ 62) (h' : -(2 ^ 62) ≤ n) : rng1R n = .ok (seqI 0 n.toNat) := if_pos ⟨h', h⟩
theorem rng1_nat {n : Nat} (h : n ≤ 1000000) : rng1R (n : Int) = .ok (seqI 0 n) := by
  rw [rng1_ok (by omega) (by omega)]
  rfl
theorem rng2_ok {a b : Int} (h : -1000000 ≤ a ∧ a ≤ 1000000 ∧ -1000000 ≤ b ∧ b ≤ 1000000) : rng2R a b = .ok (seqI a (b - a).toNat) := if_pos (by omega)
theorem ixN_ok {n : Nat} {i : Int} (h : 0 ≤ i) (h' : i < n) : ixN n i = some i.toNat := by
  unfold ixN
  rw [if_pos h, if_pos h']
theorem idxR_ok {xs : List α} {i : Int} (h : 0 ≤ i) (h' : i < xs.length) : idxR xs i = .ok (xs[i.toNat]'(by omega)) := by
  unfold idxR atI
  rw [ixN_ok h h', Option.bind_some, List.getElem?_eq_getElem (by omega)]
theorem idxR_nat {xs : List α} {i : Nat} (h : i < xs.length) : idxR xs (i : Int) = .ok xs[i] := by
  rw [idxR_ok (by omega) (by omega)]
  rfl
theorem idxR_of {xs : List α} {i : Int} {a : α} (h : 0 ≤ i) (e : xs[i.toNat]? = some a) : idxR xs i = .ok a := by
  obtain ⟨hl, e'⟩ := List.getElem?_eq_some_iff.mp e
  rw [idxR_ok h (by omega), e']
theorem setR_ok {xs : List α} {i : Int} {a : α} (h : 0 ≤ i) (h' : i < xs.length) : setR xs i a = .ok (xs.set i.toNat a) := by
  unfold setR
  rw [ixN_ok h h']
/-! ### numbers -/
theorem modR_ok {a b : Int} (h : 0 < b) : modR a b = .ok (a % b) := if_pos h
theorem divR_ok {a b : Int} (h : 0 < b) (h' : b < 2 ^ 64) : divR a b = .ok (a / b) := if_pos ⟨h, by
  have h1 : b.natAbs < 2 ^ 64 := by omega
  have h2 := PySem.Flt.log2_lt_of (by decide) h1
  omega⟩
theorem divR_big {a b : Int} {n : Nat} (h : 0 < b) (h' : b.natAbs < 2 ^ n) (h0 : 0 < n) (h9 : n ≤ 9000) : divR a b = .ok (a / b) := if_pos (wide_div (i := a) h h' h0 h9)
theorem bits_le {x : Int} {n : Nat} (h : x.natAbs < 2 ^ n) (h0 : 0 < n) : Builtin.Int.intBits x ≤ n := by
  have := PySem.Flt.log2_lt_of h0 h
  unfold Builtin.Int.intBits
  split <;> omega
theorem mulR_big {a b : Int} {n m : Nat} (ha : a.natAbs < 2 ^ n) (hb : b.natAbs < 2 ^ m) (hn : 0 < n) (hm : 0 < m) (h : n + m ≤ 134217728) : mulR a b = .ok (a * b) := if_pos (by
  have h1 := bits_le ha hn
  have h2 := bits_le hb hm
  omega)
theorem mulR_ok {a b : Int} (ha : -(2 ^ 64) < a ∧ a < 2 ^ 64) (hb : -(2 ^ 64) < b ∧ b < 2 ^ 64) : mulR a b = .ok (a * b) := mulR_big (n := 64) (m := 64) (by omega) (by omega) (by decide) (by decide) (by decide)
theorem shlR_ok {a b : Int} (ha : -(2 ^ 64) < a ∧ a < 2 ^ 64) (hb : 0 ≤ b ∧ b ≤ 1000000) : shlR a b = .ok (a * 2 ^ b.toNat) := if_pos ⟨hb.1, by
  have h1 := bits_le (x := a) (n := 64) (by omega) (by decide)
  omega⟩
theorem shrR_ok {a b : Int} (hb : 0 ≤ b) : shrR a b = .ok (a / 2 ^ b.toNat) := if_pos hb
/-! ### equality of data -/
/-- data whose == is equality -/
class Eqd (α : Type) [Enc α] where
  n : Nat
  nd : ∀ a : α, (toD a).nd = true
  lay : ∀ a : α, (toD a).py.canLay0 = true
  dp : ∀ a : α, (toD a).py.depth ≤ n
  ev : ∀ a b : α, PyData.eqv (toD a).py (toD b).py = true ↔ a = b
theorem eqR_eq [Enc α] [q : Eqd α] [DecidableEq α] (a b : α) (h : q.n ≤ 64 := by decide) : eqR a b = .ok (decide (a = b)) := by
  unfold eqR
  have sh : ∀ a : α, SeqAt.shaped (toD a).py = true := fun a => by
    unfold SeqAt.shaped
    rw [Eqd.lay a, Bool.true_and]
    exact decide_eq_true (Nat.le_trans (Eqd.dp a) h)
  rw [if_pos ⟨Eqd.nd a, Eqd.nd b, sh a, sh b⟩]
  congr 1
  by_cases e : a = b
  · rw [decide_eq_true e, (Eqd.ev a b).mpr e]
  · rw [decide_eq_false e]
    cases q : PyData.eqv (toD a).py (toD b).py with
    | false => rfl
    | true => exact absurd ((Eqd.ev a b).mp q) e
instance : Eqd Int := ⟨0, fun _ => rfl, fun _ => rfl, fun _ => Nat.le_refl _, fun a b => by show (a == b) = true ↔ _; simp⟩
instance : Eqd Bool := ⟨0, fun _ => rfl, fun _ => rfl, fun _ => Nat.le_refl _, fun a b => by show (a == b) = true ↔ _; simp⟩
section
variable [Enc α] [q : Eqd α]
theorem eqd_ndA : ∀ xs : List α, Dt.ndA (xs.map toD) = true
  | [] => rfl
  | x :: r => by
    show (Dt.nd (toD x) && Dt.ndA (r.map toD)) = true
    rw [Eqd.nd x, eqd_ndA r]
    rfl
theorem eqd_layA : ∀ xs : List α, PyData.canLayAll0 (Dt.pyA (xs.map toD)) = true
  | [] => rfl
  | x :: r => by
    show (PyData.canLay0 (toD x).py && PyData.canLayAll0 (Dt.pyA (r.map toD))) = true
    rw [Eqd.lay x, eqd_layA r]
    rfl
theorem eqd_dpA : ∀ xs : List α, PyData.depthAll (Dt.pyA (xs.map toD)) ≤ q.n
  | [] => Nat.zero_le _
  | x :: r => by
    show max (PyData.depth (toD x).py) (PyData.depthAll (Dt.pyA (r.map toD))) ≤ _
    exact Nat.max_le.mpr ⟨Eqd.dp x, eqd_dpA r⟩
theorem eqd_evA : ∀ xs ys : List α, PyData.eqvAll (Dt.pyA (xs.map toD)) (Dt.pyA (ys.map toD)) = true ↔ xs = ys
  | [], [] => by simp [Dt.pyA, PyData.eqvAll]
  | [], _ :: _ => by simp [Dt.pyA, PyData.eqvAll]
  | _ :: _, [] => by simp [Dt.pyA, PyData.eqvAll]
  | x :: xs, y :: ys => by
    show (PyData.eqv (toD x).py (toD y).py && PyData.eqvAll (Dt.pyA (xs.map toD)) (Dt.pyA (ys.map toD))) = true ↔ _
    rw [Bool.and_eq_true, Eqd.ev x y, eqd_evA xs ys]
    simp
instance : Eqd (List α) := ⟨q.n + 1, fun xs => eqd_ndA xs, fun xs => eqd_layA xs, fun xs => by
  show PyData.depthAll (Dt.pyA (xs.map toD)) + 1 ≤ _
  exact Nat.succ_le_succ (eqd_dpA xs), fun xs ys => eqd_evA xs ys⟩
theorem eqv_none_l {d : PyData} (h : d ≠ .none) : PyData.eqv .none d = false := by cases d <;> first | rfl | exact absurd rfl h
theorem eqv_none_r {d : PyData} (h : d ≠ .none) : PyData.eqv d .none = false := by cases d <;> first | rfl | exact absurd rfl h
theorem py_non {d : Dt} (h : d.py = .none) : d = .non := by cases d <;> first | rfl | exact absurd h (fun z => nomatch z)
instance [NN α] : Eqd (Option α) := ⟨q.n, fun o => match o with
  | none => rfl
  | some a => Eqd.nd (α := α) a, fun o => match o with
  | none => rfl
  | some a => Eqd.lay (α := α) a, fun o => match o with
  | none => Nat.zero_le _
  | some a => Eqd.dp (α := α) a, fun a b => by
  have ne : ∀ a : α, (toD a).py ≠ .none := fun a h => NN.nn a (py_non h)
  cases a with
  | none =>
    cases b with
    | none => simp [PyData.eqv, toD, Enc.toD, Dt.py]
    | some b =>
      show PyData.eqv .none (toD b).py = true ↔ _
      rw [eqv_none_l (ne b)]
      simp
  | some a =>
    cases b with
    | none =>
      show PyData.eqv (toD a).py .none = true ↔ _
      rw [eqv_none_r (ne a)]
      simp
    | some b =>
      show PyData.eqv (toD a).py (toD b).py = true ↔ _
      rw [Eqd.ev a b]
      simp⟩
variable [Enc β] [p : Eqd β] [Enc γ] [o : Eqd γ]
instance : Eqd (α × β) := ⟨q.n + p.n + 1, fun a => by
    show (Dt.nd (toD a.1) && (Dt.nd (toD a.2) && true)) = true
    rw [Eqd.nd, Eqd.nd]
    rfl, fun a => by
    show (PyData.canLay0 (toD a.1).py && (PyData.canLay0 (toD a.2).py && true)) = true
    rw [Eqd.lay, Eqd.lay]
    rfl, fun a => by
    show max (toD a.1).py.depth (max (toD a.2).py.depth 0) + 1 ≤ _
    have h1 := Eqd.dp a.1
    have h2 := Eqd.dp a.2
    omega, fun a b => by
    show (PyData.eqv (toD a.1).py (toD b.1).py && (PyData.eqv (toD a.2).py (toD b.2).py && true)) = true ↔ _
    rw [Bool.and_true, Bool.and_eq_true, Eqd.ev, Eqd.ev]
    exact Prod.ext_iff.symm⟩
instance : Eqd (T3 α β γ) := ⟨q.n + p.n + o.n + 1, fun a => by
    show (Dt.nd (toD a.a) && (Dt.nd (toD a.b) && (Dt.nd (toD a.c) && true))) = true
    rw [Eqd.nd, Eqd.nd, Eqd.nd]
    rfl, fun a => by
    show (PyData.canLay0 (toD a.a).py && (PyData.canLay0 (toD a.b).py && (PyData.canLay0 (toD a.c).py && true))) = true
    rw [Eqd.lay, Eqd.lay, Eqd.lay]
    rfl, fun a => by
    show max (toD a.a).py.depth (max (toD a.b).py.depth (max (toD a.c).py.depth 0)) + 1 ≤ _
    have h1 := Eqd.dp a.a
    have h2 := Eqd.dp a.b
    have h3 := Eqd.dp a.c
    omega, fun a b => by
    show (PyData.eqv (toD a.a).py (toD b.a).py && (PyData.eqv (toD a.b).py (toD b.b).py && (PyData.eqv (toD a.c).py (toD b.c).py && true))) = true ↔ _
    rw [Bool.and_true, Bool.and_eq_true, Bool.and_eq_true, Eqd.ev, Eqd.ev, Eqd.ev]
    cases a
    cases b
    simp⟩
end
/-! ### sorted -/
theorem leD_int (a b : Int) : leD a b = decide (a ≤ b) := by
  show PySem.W.dataLe false (fun x : Int => PyData.int x) a b = _
  rw [PySem.W.dataLe_int (fun x : Int => x)]
theorem leD_ii (p q : Int × Int) : leD p q = decide (p.1 < q.1 ∨ (p.1 = q.1 ∧ p.2 ≤ q.2)) := by
  show PySem.W.dataLe false (fun x : Int × Int => PyData.tuple [.int x.1, .int x.2]) p q = _
  rw [PySem.W.dataLe_ii (fun x : Int × Int => x.1) (fun x : Int × Int => x.2)]
theorem sortR_ok [Enc α] {xs : List α} (h : xs.length ≤ 1000000) : sortR xs = .ok (xs.mergeSort leD) := by
  unfold sortR
  rw [szR_ok h]
  rfl
end Kr

/-! KrR: ranks, rests, choices: plain lists. -/
namespace Kr
open PySem PySem.Spec PyProof.Rows L2
open Enc (toD)
variable {α β T ρ S : Type}
/-! ### loops that fill a list -/
theorem forR_fm {step : List β → α → R (Fl (List β) ρ)} {k : List β → R (Fl S ρ)} (f : α → Option β) : ∀ (xs : List α) (s0 : List β), s0.length + xs.length ≤ 1000000 → (∀ s x, x ∈ xs → s.length < 1000000 → step s x = .ok (.nx (s ++ (f x).toList))) →
    forR step k xs s0 = k (s0 ++ xs.filterMap f)
  | [], s0, _, _ => by
    rw [List.filterMap_nil, List.append_nil]
    rfl
  | x :: r, s0, hz, h => by
    rw [List.length_cons] at hz
    rw [forR_cons, h s0 x (by simp) (by omega), R.ok_bind]
    show forR step k r (s0 ++ (f x).toList) = _
    rw [forR_fm f r _ (by
      rw [List.length_append]
      have : (f x).toList.length ≤ 1 := by cases f x <;> simp
      omega) fun s y hy => h s y (by simp [hy])]
    cases e : f x with
    | none =>
      rw [List.filterMap_cons_none e]
      simp
    | some y =>
      rw [List.filterMap_cons_some e]
      simp
theorem forR_map {step : List β → α → R (Fl (List β) ρ)} {k : List β → R (Fl S ρ)} (g : α → β) (xs : List α) (s0 : List β) (hz : s0.length + xs.length ≤ 1000000) (h : ∀ s x, x ∈ xs → s.length < 1000000 → step s x = .ok (.nx (s ++ [g x]))) :
    forR step k xs s0 = k (s0 ++ xs.map g) := by
  rw [forR_fm (fun x => some (g x)) xs s0 hz fun s x hx hl => by rw [h s x hx hl]; rfl, List.filterMap_eq_map']
theorem szR_snoc {s : List β} {y : β} (h : s.length < 1000000) : szR (s ++ [y]) = .ok (s ++ [y]) := szR_ok (by
  rw [List.length_append]
  simp
  omega)
/-! ### ranks -/
def gW (ws : List Int) (k : Int) : Int := ws.getD k.toNat 0
theorem idxR_gW {ws : List Int} {k : Int} (h : 0 ≤ k) (h' : k < ws.length) : idxR ws k = .ok (gW ws k) := by
  rw [idxR_ok h h']
  unfold gW
  rw [List.getD_eq_getElem?_getD, List.getElem?_eq_getElem (by omega)]
  rfl
/-- a has a better rank than b -/
def bf (ws : List Int) (a b : Int) : Prop := gW ws b < gW ws a ∨ (gW ws a = gW ws b ∧ a < b)
instance (ws : List Int) (a b : Int) : Decidable (bf ws a b) := by unfold bf; exact inferInstance
def rk (ws : List Int) : List Int := (((seqI 0 ws.length).map fun k => (-(gW ws k), k)).mergeSort leD).map (·.2)
theorem leD_trans (a b c : Int × Int) (h : leD a b = true) (h' : leD b c = true) : leD a c = true := by
  rw [leD_ii, decide_eq_true_eq] at *
  omega
theorem leD_total (a b : Int × Int) : (leD a b || leD b a) = true := by
  rw [leD_ii, leD_ii, Bool.or_eq_true, decide_eq_true_eq, decide_eq_true_eq]
  omega
theorem seqI_nodup (lo : Int) (n : Nat) : (seqI lo n).Nodup := by
  unfold seqI
  exact List.Pairwise.map _ (fun a b h e => h (by omega)) List.nodup_range
theorem rk_perm (ws : List Int) : (rk ws).Perm (seqI 0 ws.length) := by
  have h := (List.mergeSort_perm ((seqI 0 ws.length).map fun k => (-(gW ws k), k)) leD).map (·.2)
  rw [List.map_map] at h
  have e : ((fun x : Int × Int => x.2) ∘ fun k => (-(gW ws k), k)) = id := rfl
  rw [e, List.map_id] at h
  exact h
theorem rk_len (ws : List Int) : (rk ws).length = ws.length := by rw [(rk_perm ws).length_eq, seqI_len]
theorem rk_nodup (ws : List Int) : (rk ws).Nodup := (rk_perm ws).nodup_iff.mpr (seqI_nodup 0 _)
theorem rk_mem (ws : List Int) (k : Int) : k ∈ rk ws ↔ 0 ≤ k ∧ k < ws.length := by
  rw [(rk_perm ws).mem_iff, mem_seqI]
  omega
theorem rk_sorted (ws : List Int) : (rk ws).Pairwise (bf ws) := by
  have h := List.pairwise_mergeSort leD_trans leD_total ((seqI 0 ws.length).map fun k => (-(gW ws k), k))
  have hn := rk_nodup ws
  unfold rk at hn ⊢
  rw [List.pairwise_map]
  rw [List.Nodup, List.pairwise_map] at hn
  have hm : ∀ p ∈ ((seqI 0 ws.length).map fun k => (-(gW ws k), k)).mergeSort leD, p.1 = -(gW ws p.2) := fun p hp => by
    obtain ⟨k, _, rfl⟩ := List.mem_map.mp ((List.mergeSort_perm _ _).mem_iff.mp hp)
    rfl
  refine List.Pairwise.imp_of_mem ?_ (h.and hn)
  intro p q hp hq ⟨h1, h2⟩
  rw [leD_ii, decide_eq_true_eq, hm p hp, hm q hq] at h1
  unfold bf
  omega
theorem bf_asymm {ws : List Int} {a b : Int} (h : bf ws a b) (h' : bf ws b a) : False := by
  unfold bf at *
  omega
/-- the next rank: the best of those that have none yet -/
theorem rk_next {ws : List Int} {i : Nat} (hi : i < ws.length) {b : Int} (hb : 0 ≤ b ∧ b < ws.length) (hn : b ∉ (rk ws).take i) (hbest : ∀ k : Int, 0 ≤ k → k < ws.length → k ∉ (rk ws).take i → k = b ∨ bf ws b k) : (rk ws)[i]? = some b := by
  have hl := rk_len ws
  have hi' : i < (rk ws).length := by omega
  have hsplit := List.take_append_drop i (rk ws)
  rw [List.getElem?_eq_getElem hi']
  congr 1
  have hbm : b ∈ (rk ws).drop i := by
    have := (rk_mem ws b).mpr hb
    rw [← hsplit] at this
    exact (List.mem_append.mp this).resolve_left hn
  have hd : (rk ws).drop i = (rk ws)[i] :: (rk ws).drop (i + 1) := List.drop_eq_getElem_cons hi'
  have hs := rk_sorted ws
  rw [← hsplit, List.pairwise_append] at hs
  have hnd := rk_nodup ws
  rw [← hsplit, List.nodup_append] at hnd
  have hnt : (rk ws)[i] ∉ (rk ws).take i := fun hm => hnd.2.2 _ hm (rk ws)[i] (by rw [hd]; exact List.mem_cons_self ..) rfl
  have hr := (rk_mem ws (rk ws)[i]).mp (List.getElem_mem hi')
  rcases hbest _ hr.1 hr.2 hnt with e | hbf
  · exact e
  · rw [hd] at hbm hs
    rcases List.mem_cons.mp hbm with e | hm
    · exact e.symm
    · exact (bf_asymm hbf ((List.pairwise_cons.mp hs.2.1).1 b hm)).elim
/-! ### rests -/
def suf : List Int → List Int
  | [] => [0]
  | w :: r => (w :: r).sum :: suf r
def rkW (ws : List Int) : List Int := (rk ws).map (gW ws)
theorem suf_len : ∀ l : List Int, (suf l).length = l.length + 1
  | [] => rfl
  | w :: r => by
    show (suf r).length + 1 = _
    rw [suf_len r]
    rfl
theorem suf_head : ∀ l : List Int, (suf l)[0]? = some l.sum
  | [] => rfl
  | w :: r => rfl
theorem sum_perm {l l' : List Int} (h : l.Perm l') : l.sum = l'.sum := by
  induction h with
  | nil => rfl
  | cons x _ ih => rw [List.sum_cons, List.sum_cons, ih]
  | swap x y l => simp only [List.sum_cons]; omega
  | trans _ _ h1 h2 => rw [h1, h2]
theorem map_gW (ws : List Int) : (seqI 0 ws.length).map (gW ws) = ws := by
  apply List.ext_getElem
  · rw [List.length_map, seqI_len]
  · intro i h1 h2
    rw [List.getElem_map, seqI_at (by rw [List.length_map] at h1; exact h1)]
    unfold gW
    rw [List.getD_eq_getElem?_getD, show ((0 : Int) + (i : Int)).toNat = i by omega, List.getElem?_eq_getElem h2]
    rfl
theorem sum_rkW (ws : List Int) : (rkW ws).sum = ws.sum := by
  have h := sum_perm ((rk_perm ws).map (gW ws))
  rw [map_gW] at h
  exact h
theorem rkW_at {ws : List Int} {i : Nat} (h : i < (rkW ws).length) (h' : i < (rk ws).length) : (rkW ws)[i] = gW ws (rk ws)[i] := List.getElem_map (gW ws)
def sums (ws : List Int) : List Int := suf (rkW ws)
theorem rkW_len (ws : List Int) : (rkW ws).length = ws.length := by
  unfold rkW
  rw [List.length_map, rk_len]
theorem sums_len (ws : List Int) : (sums ws).length = ws.length + 1 := by
  unfold sums
  rw [suf_len, rkW_len]
/-! ### choices -/
abbrev Stg := T3 Int Int Int
abbrev Cho := T3 Int Int (Option Stg)
/-- the choice a of a stage, if it is one -/
def item (sm : List Int) (lim : Int) (st : Stg) (a : Int) : Option Cho :=
  if (st.a = lim ∧ a = (sm.length : Int) - 1 - st.b) ∨ (st.a ≠ lim ∧ (0 < st.a ∨ a = 0)) then
    (if st.b + a = (sm.length : Int) - 1 then some ⟨a, 0, none⟩ else if a < st.c then some ⟨a, gW sm (st.b + a), some ⟨st.a + 1, st.b + a, min (2 * (st.c - a)) ((sm.length : Int) - 1 - st.b - a)⟩⟩ else none)
  else none
def chs (sm : List Int) (lim : Int) (st : Stg) : List Cho := (seqI 0 (min st.c ((sm.length : Int) - 1 - st.b) + 1).toNat).filterMap (item sm lim st)
theorem fm_none (f : Int → Option β) (lo : Int) (n : Nat) (h : ∀ x, lo ≤ x → x < lo + n → f x = none) : (seqI lo n).filterMap f = [] := List.filterMap_eq_nil_iff.mpr fun x hx => h x (mem_seqI.mp hx).1 (mem_seqI.mp hx).2
theorem seqI_split (lo : Int) (n m : Nat) : seqI lo (n + m) = seqI lo n ++ seqI (lo + n) m := by
  induction m with
  | zero => simp [seqI]
  | succ m ih => rw [← Nat.add_assoc, seqI_succ, ih, seqI_succ, List.append_assoc, show lo + ((n + m : Nat) : Int) = lo + n + (m : Int) by omega]
/-- the program's walk: from first to last -/
theorem chs_by (sm : List Int) (lim : Int) (st : Stg) (h0 : 0 ≤ st.a) (hl : st.a ≤ lim) (hl1 : 1 ≤ lim) (hm : 0 ≤ st.b ∧ st.b < (sm.length : Int) - 1) (hc : 1 ≤ st.c) :
    chs sm lim st = (seqI (if st.a = lim then (sm.length : Int) - 1 - st.b else 0) ((if st.a = 0 then 0 else min st.c ((sm.length : Int) - 1 - st.b)) + 1 - (if st.a = lim then (sm.length : Int) - 1 - st.b else 0)).toNat).filterMap (item sm lim st) := by
  unfold chs
  by_cases e1 : st.a = lim
  · rw [if_pos e1, if_neg (show ¬ st.a = 0 by omega)]
    have hno : ∀ x, x ≠ (sm.length : Int) - 1 - st.b → item sm lim st x = none := fun x hx => by
      unfold item
      rw [if_neg (by omega)]
    by_cases e2 : (sm.length : Int) - 1 - st.b ≤ st.c
    · rw [Int.min_eq_right e2, show ((sm.length : Int) - 1 - st.b + 1).toNat = ((sm.length : Int) - 1 - st.b).toNat + 1 by omega, seqI_split, List.filterMap_append, fm_none _ _ _ (fun x h1 h2 => hno x (by omega)), List.nil_append,
        show ((sm.length : Int) - 1 - st.b + 1 - ((sm.length : Int) - 1 - st.b)).toNat = 1 by omega, show (0 : Int) + (((sm.length : Int) - 1 - st.b).toNat : Int) = (sm.length : Int) - 1 - st.b by omega]
    · rw [Int.min_eq_left (by omega), show (st.c + 1 - ((sm.length : Int) - 1 - st.b)).toNat = 0 by omega, fm_none _ _ _ (fun x h1 h2 => hno x (by omega))]
      rfl
  · rw [if_neg e1]
    by_cases e3 : st.a = 0
    · rw [if_pos e3]
      have hno : ∀ x, x ≠ 0 → item sm lim st x = none := fun x hx => by
        unfold item
        rw [if_neg (by omega)]
      rw [show (min st.c ((sm.length : Int) - 1 - st.b) + 1).toNat = 1 + (min st.c ((sm.length : Int) - 1 - st.b)).toNat by omega, seqI_split, List.filterMap_append, fm_none _ ((0 : Int) + ((1 : Nat) : Int)) _ (fun x h1 h2 => hno x (by omega)), List.append_nil]
      rfl
    · rw [if_neg e3, Int.sub_zero]
end Kr

/-! KrX: methods that begin with super().__init__(..). -/
namespace Kr
open PySem PySem.Spec PyProof.Rows L2 NdefX
section
variable {CX : CXT} {P : Program} {w : World} {K : PySem.W.Frag} {mg : Str → Option Value} {base : Heap} {k : Nat} {f cc cda D : Addr} {name qual : Str} {params : Arguments} {body : List Stmt} {scope : Scope} {dV kV doc pm ct oc cl : Value} {an od cld : Option Addr} {osl csl : Array (Option Value)} {N ps : List Str} {sp : Sp}
theorem fn_sup (lk : K.lookup f = some ⟨oc, od, .func (PySem.W.ksFn name qual params body scope dV kV doc pm an (.ref cda) ct cc), osl⟩) (hcd : PySem.W.codeIn K (.ref cda) qual = true)
    (hcc : K.lookup cc = some ⟨cl, cld, .cell (some (.ref D)), csl⟩) (S : NScope N ps ["__class__"] scope) (len : ∀ vs H Q E, sp vs H Q E → vs.length = ps.length)
    (hbody : ∀ (A : Around) (outer : List Env) (s s1 : Shared) (H : Hp) (vs : List V) (Q : VK) (E : XK), Room k (A.deeper (envF ⟨name, qual, params, body, scope, [("__class__", cc)], cda⟩ f s.heap.objs.size)) → sp vs H Q E →
      Inv (ncx CX P w K mg base N ⟨name, qual, params, body, scope, [("__class__", cc)], cda⟩ f A outer s H E) [] (startF N vs [none]) H s1 →
      _root_.PySem.wpAt (model P w) (A.deeper (envF ⟨name, qual, params, body, scope, [("__class__", cc)], cda⟩ f s.heap.objs.size)) (.func body (envF ⟨name, qual, params, body, scope, [("__class__", cc)], cda⟩ f s.heap.objs.size)) (execs body (envF ⟨name, qual, params, body, scope, [("__class__", cc)], cda⟩ f s.heap.objs.size))
        (L2.SP (ncx CX P w K mg base N ⟨name, qual, params, body, scope, [("__class__", cc)], cda⟩ f A outer s H E) [] { nx := fun _ H' => Q .non H', rt := Q }) (ncx CX P w K mg base N ⟨name, qual, params, body, scope, [("__class__", cc)], cda⟩ f A outer s H E).xe s1) :
    FnOk P w K mg base CX (k + 1) f (PySem.W.ksFn name qual params body scope dV kV doc pm an (.ref cda) ct cc) ps sp := by
  refine ⟨len, fun A outer s H args us vs Q E hr e0 hb r hsp => ?_⟩
  have hl := len _ _ _ _ hsp
  have lim : s.heap.NoLimit := e0.mod.nolimit.keeps fun b o e => (e0.bs b o e).1
  have KX : K.In s.heap := e0.mod.kin.keeps fun b o e => (e0.bs b o e).1
  have C : CellsAt [("__class__", cc)] ["__class__"] [none] s.heap H := by
    have one : ∀ (y : Str) (c : Addr), ([("__class__", cc)] : List (Str × Addr)).lookup y = some c → y = "__class__" ∧ c = cc := fun y c e => by
      by_cases hy : y = "__class__"
      · subst hy
        exact ⟨rfl, (Option.some.inj e).symm⟩
      · have : ([("__class__", cc)] : List (Str × Addr)).lookup y = none := by
          have hb : (y == ("__class__" : Str)) = false := beq_eq_false_iff_ne.mpr hy
          show (match y == ("__class__" : Str) with | true => some cc | false => List.lookup y []) = none
          rw [hb]
          rfl
        rw [this] at e
        cases e
    have at' := e0.bs _ _ (e0.mod.kin _ _ hcc)
    refine ⟨rfl, fun y c e => ?_, fun x y c e e' => (one x c e).1.trans (one y c e').1.symm, fun i y e => ?_⟩
    · obtain ⟨_, rfl⟩ := one y c e
      exact ⟨at'.2, _, _, at'.1, rfl⟩
    · cases i with
      | zero =>
        cases e
        exact ⟨cc, rfl, fun v h => nomatch h⟩
      | succ i => simp at e
  refine PySem.ks_codeAny_call_defAt (fd := PySem.W.ksFn name qual params body scope dV kV doc pm an (.ref cda) ct cc) (body := body) (binds := ps.zip us) hr.depth (KX _ _ lk) rfl lim (PySem.W.codeRec_of KX hcd) rfl hb S.nocell (fun ⟨n, _⟩ hy => S.par n (List.of_mem_zip hy).1) (fun h₁ hns kp => ?_) S.co S.gen S.kind
  have I := inv_startN (CX := CX) (F := ⟨name, qual, params, body, scope, [("__class__", cc)], cda⟩) (f := f) (E := E) (tk := s.toks + (ps.zip us).length) S hr.hd e0 hl r C hns kp
  refine PySem.ks_wpAt_mono (hbody A outer s _ H vs Q E (hr.deeper _) hsp I) (fun fl s' hs => ?_) fun e s' hs => hs
  have fin : ∀ {σ' : L2.St} {H' : Hp} {v : V} {u : Value}, Inv (ncx CX P w K mg base N ⟨name, qual, params, body, scope, [("__class__", cc)], cda⟩ f A outer s H E) [] σ' H' s' → L2.RelV v u → Q v H' → CE outer P w H s Q u s' :=
    fun {σ' H' v u} J rv q => ⟨v, H', J.os, J.bare, J.base, J.hok, rv, q⟩
  cases fl with
  | ret u =>
    obtain ⟨v, σ', H', J, rv, q⟩ := hs
    exact fin J rv q
  | next =>
    obtain ⟨σ', H', J, q⟩ := hs
    exact fin (v := V.non) (u := Value.none) J rfl q
  | brk =>
    obtain ⟨_, _, _, q⟩ := hs
    exact False.elim q
  | cont =>
    obtain ⟨_, _, _, q⟩ := hs
    exact False.elim q
end
/-! ### the first statement: super().__init__(..) -/
/-- what the written part says of the method at f that says super() for a self of the class at C -/
structure SupF (K : PySem.W.Frag) (P : Program) (f cda cc D C : Addr) (me : Str) : Prop where
  fn : ∃ oc od osl fd ar, K.lookup f = some ⟨oc, od, .func fd, osl⟩ ∧ (fd.params.posonlyargs ++ fd.params.args).head? = some ar ∧ ar.arg = me
  code : ∃ ccl cdd vs ccs file tf, K.lookup cda = some ⟨ccl, cdd, .fields vs, ccs⟩ ∧ vs[2]? = some (.str file tf) ∧ ((P.main.file : Str) == file) = true
  cell : ∃ cl cld csl, K.lookup cc = some ⟨cl, cld, .cell (some (.ref D)), csl⟩
  cls : ∃ cd, PySem.W.clsIn K D = some cd
  sub : PySem.W.mroIn K C (.ref D) = some true
  top : (P.main.scope.names.lookup ("super" : Str)).isSome = false
theorem sup_first {X : Cx} {pins : List (Addr × Obj)} {σ : L2.St} {H : Hp} {s : Shared} (I : L2.Inv X pins σ H s) {body : List Stmt} {p0 p1 p2 p3 p4 : Pos} {args : List Expr} {f cda cc D C a : Addr} {ox : Obj} {me : Str} {pl : Sem Bool} {Q : Flow → Shared → Prop}
    (hfn : X.env.func = some f) (hco : X.env.code = .ref cda) (hcl : X.env.cells.lookup ("__class__" : Str) = some cc) (SF : SupF X.K X.prog f cda cc D C me) (hsuper : X.mg "super" = none)
    (ks : X.env.kindOf "super" = some .globalImplicit) (kc : X.env.kindOf "__class__" = some .free) (ka : X.env.kindOf me = some .local) (hN : X.N[0]? = some me) (hσ : σ[0]? = some (some (.ref a)))
    (ho : s.heap.get? a = some ox) (hcls : ox.cls = .ref C) (hnc : ∀ c, ox.data ≠ .cls c)
    (h : ∀ so s2, L2.Inv X pins σ H s2 → s2.heap.get? so = some (PySem.W.ks_superObj D a C) → (∀ b o, s.heap.get? b = some o → s2.heap.get? b = some o) →
      wpAny (model X.prog X.w) X.A (getMethod (.ref so) "__init__" pl) (fun fx s3 => wpAny (model X.prog X.w) X.A (callWith p3 fx.1 fx.2 (backTo p3 (starEach args X.env)) []) (fun _ s4 => Q .next s4) X.xe s3) X.xe s2)
    (he : eval (.Call (.Attribute (.Call (.Name "super" p0) [] [] p1) "__init__" p2) args [] p3) X.env = (do
      let ov ← attributeBase (.Call (.Name "super" p0) [] [] p1) "__init__" X.env (eval (.Call (.Name "super" p0) [] [] p1) X.env)
      standAt p2.atName
      let (f, first) ← holding [ov] (getMethod ov "__init__" pl)
      callWith p3 f first (backTo p3 (starEach args X.env)) []) := by rfl) :
    _root_.PySem.wpAt (model X.prog X.w) X.A (.func body X.env) (exec (.Expr (.Call (.Attribute (.Call (.Name "super" p0) [] [] p1) "__init__" p2) args [] p3) p4) X.env) Q X.xe s := by
  obtain ⟨oc, od, osl, fd, ar, lk, hp, rfl⟩ := SF.fn
  obtain ⟨ccl, cdd, vs, ccs, file, tf, hcode, hvs, hfile⟩ := SF.code
  obtain ⟨cl, cld, csl, hcell⟩ := SF.cell
  obtain ⟨cdD, hD⟩ := SF.cls
  have KX := I.kIn
  obtain ⟨oD, hD1, hD2⟩ : ∃ oD, s.heap.get? D = some oD ∧ oD.data = .cls cdD := by
    unfold PySem.W.clsIn at hD
    split at hD
    · rename_i c d cd' sl ho'
      cases hD
      exact ⟨_, KX _ _ ho', rfl⟩
    · cases hD
  obtain ⟨mb, b1, b2⟩ := I.mod.blt
  obtain ⟨m, hn, hl⟩ := I.loc
  refine PySem.ks_wpAt_Expr_any (PySem.ks_wpAt_MethodCall ?_ he) I.quiet
  refine PySem.ks_wpAt_super_base ks kc (by decide) hfn (KX _ _ lk) rfl hp hco (KX _ _ hcode) rfl hvs hfile SF.top ?_
  refine PySem.W.ks_loadName_global I.ok.kind ks (Calls.loadGlobal_builtin (by rw [I.ok.glob]; exact I.mod.glob.keeps I.bk) hsuper (by rw [I.ok.blt]; exact b1.keeps I.bk) ((b2 _ (by decide)).trans (by first | rfl | kernel_rfl)) ⟨rfl, ?_⟩)
  refine wpAny_loadName_free I.ok.kind kc hcl ⟨_, KX _ _ hcell, rfl⟩ ?_
  obtain ⟨u, ru, lu⟩ := hl 0 _ _ hN hσ (.inl ka)
  have hu : m ar.arg = some (.ref a) := by
    rcases lu with ⟨_, e⟩ | ⟨e, _⟩
    · rw [e]
      exact congrArg some ru
    · rw [ka] at e
      rcases e with e | e <;> cases e
  refine wpAny_loadName_local I.ok.kind ka hn hu ?_
  refine PySem.ks_wpAny_isType_cls hD1 hD2 ⟨rfl, ?_⟩
  refine PySem.ks_wpAny_call_super hD1 hD2 ho hcls hnc (PySem.W.looks_mroIn KX SF.sub) (fun h' e kp => ?_)
  exact h _ _ (I.kept (t' := s.toks) kp) e kp
/-! ### .. to a def of the program -/
section
variable {X : Cx} {pins : List (Addr × Obj)} {σ : L2.St} {H : Hp} {s : Shared} {so a C D f2 : Addr} {ox : Obj} {odx : Option Obj} {pos : Pos} {e : Expr} {es : List Expr} {ta : TA} {pl : Sem Bool}
theorem sup_own {CX : CXT} {k : Nat} {sp : Sp} {E : XK} {Q : VK} {Q' : Shared → Prop} (I : L2.Inv X pins σ H s) (hso : s.heap.get? so = some (PySem.W.ks_superObj D a C)) (J : PySem.W.InstAt s.heap a ox C odx)
    (hm : PySem.W.ks_superIn X.K C D "__init__" = some (some (.ref f2))) (ht : PySem.W.typeIn X.K (.ref f2) = some (.type "function")) (hth : PySem.W.nsIn X.K PySem.cStatics "thirdparty.any" = some none) (hf : PySem.W.fnIn X.K f2 = true)
    (F : FnR X.prog X.w X.K X.mg X.base CX k f2 sp) (hr : Room k X.A) (hx : Passes CX X E) (ha : PA X (e :: es) ta) (h : ta σ H fun vs H1 => sp (.ref a :: vs) H1 Q E) (hQ : ∀ v s4, L2.EP X pins σ Q v s4 → Q' s4)
    (hst : starEach (e :: es) X.env = (false, eval e X.env) :: starEach es X.env := by rfl) (hpl : (backTo pos (starEach es X.env)).any (·.1) = false := by rfl) :
    wpAny (model X.prog X.w) X.A (getMethod (.ref so) "__init__" pl) (fun fx s3 => wpAny (model X.prog X.w) X.A (callWith pos fx.1 fx.2 (backTo pos (starEach (e :: es) X.env)) []) (fun _ s4 => Q' s4) X.xe s3) X.xe s := by
  have KX := I.kIn
  cases hc : PySem.W.clsIn X.K C with
  | none =>
    unfold PySem.W.ks_superIn at hm
    rw [hc] at hm
    cases hm
  | some cd =>
    unfold PySem.W.ks_superIn at hm
    rw [hc] at hm
    obtain ⟨of, hof, hofc⟩ : ∃ of, s.heap.get? f2 = some of ∧ of.cls = .type "function" := by
      have ht' : (X.K.lookup f2).map (·.cls) = some (.type "function") := ht
      cases z : X.K.lookup f2 with
      | none =>
        rw [z] at ht'
        cases ht'
      | some of =>
        rw [z] at ht'
        exact ⟨of, KX _ _ z, Option.some.inj ht'⟩
    have mro : PySem.W.Looks (model X.prog X.w) s.heap (mroOf (.ref C)) cd.mro := fun A Q E s k q => wpAny_bind ((PySem.W.looks_clsIn KX hc) A _ E s k (wpAny_pure q))
    refine PySem.ks_wpAny_getMethod_super hso (PySem.W.looks_opaque KX hth) mro rfl KX hm hof hofc (PySem.W.ks_ne KX J hc) (by decide) ?_
    have I2 := ClX.met_new (g := f2) (C := a) I
    have hb := ClX.base_none I (Nat.le_refl s.heap.objs.size)
    refine ClX.callwith_cm I2 hb hf (L2.thn (ha.run pos _ _ σ H _ I2 h) fun us s1 ⟨vs, H1, I1, r, q⟩ => ⟨⟨ClX.pin_at I1, I1.kIn⟩, L2.thn (ClX.run_cm F hr hx I1 r q) hQ⟩) hst hpl
end
/-! ### .. to ValueError.__init__ -/
section
open PySem.W PySem.Calls
variable {prog : Program} {w : World} {A : Around} {E : Value → Shared → Prop} {h : Heap} {g : Array GenState} {d : Drawn} {t : Nat} {os : OsState}
variable {nm q : Str} {C N : Addr} {bs bm : List Value} {hdct : Bool} {sn : List Str} {sub : List Value} {ab : Bool} {col : Option Bool} {dd : Option Addr} {k0 k1 k2 k3 k5 : Option Value}
theorem call_mw {u x t0 : Addr} {more : List Value} {Q : Value → Shared → Prop}
    (hC : h.get? C = some (excClassObj nm q C N bs bm hdct sn sub ab col dd k0 k1 k2 k3 k5 "ValueError.__new__")) (hx : h.get? x = some ({ cls := .ref C, dict := none, data := .fields #[.ref t0, .none, .none, .none, .bool false, .none] } : Obj)) (hu : h.get? u = some (kxs_mw "ValueError.__init__" x)) (hz : more.length ≤ sizeLine)
    (hq : ∀ h' t1, (∀ b o, b ≠ x → h.get? b = some o → h'.get? b = some o) → h'.get? x = some ({ cls := .ref C, dict := none, data := .fields #[.ref t1, .none, .none, .none, .bool false, .none] } : Obj) → Q .none ⟨h', g, d, t, os⟩) :
    wpAny (model prog w) A (call (.ref u) more) Q E ⟨h, g, d, t, os⟩ := by
  refine wpAny_call (codeAny_of_tree ?_)
  show wpAny (model prog w) A.in1 (callAny (.ref u) ⟨more, []⟩) _ _ _
  unfold callAny
  refine wpAny_bind (wpAny_load hu ?_)
  have two : (Value.type "method-wrapper" == Value.type "method" || Value.type "method-wrapper" == Value.type "builtin_function_or_method" || Value.type "method-wrapper" == Value.type "method-wrapper") = true := by decide
  simp only [kxs_mw, two, if_true]
  refine PySem.W.KFB.if_so (by decide) ?_
  refine wpAny_bind (check_bound_init PySem.F.excBase_ValueError.toExcCallFacts hC hx rfl ?_)
  refine wpAny_bind (wpAny_pure (wpAny_pure ?_))
  refine ⟨plainId_quiet PySem.F.excBase_ValueError.init.plain _, codeAny_builtin PySem.F.excBase_ValueError.initEntry ?_⟩
  exact exc_init_tree (cls := .ref C) (t0 := t0) (dv := none) (c2 := .none) (c3 := .none) (b4 := .bool false) hx hz fun h' k' e' _ => hq h' _ k' e'
end
section
variable {X : Cx} {pins : List (Addr × Obj)} {σ : L2.St} {H : Hp} {s : Shared} {so a C D : Addr} {pos : Pos} {e : Expr} {es : List Expr} {ta : TA} {pl : Sem Bool}
theorem sup_ve {R : Hp → Prop} {Q' : Shared → Prop} (I : L2.Inv X pins σ H s) (hso : s.heap.get? so = some (PySem.W.ks_superObj D a C)) (T : OexC X.K C) (ea : H a = some (exo a C none))
    (hm : PySem.W.ks_superIn X.K C D "__init__" = some (some (.builtin "ValueError.__init__"))) (hB : PySem.W.subIn X.K (.ref C) (.type "ValueError") = some true) (hth : PySem.W.nsIn X.K PySem.cStatics "thirdparty.any" = some none)
    (ha : PA X (e :: es) ta) (h : ta σ H fun vs H1 => vs.length ≤ 1000 ∧ H1 a = some (exo a C none) ∧ R H1) (hQ : ∀ s4 H', L2.Inv X pins σ H' s4 → R H' → Q' s4)
    (hst : starEach (e :: es) X.env = (false, eval e X.env) :: starEach es X.env := by rfl) (hpl : (backTo pos (starEach es X.env)).any (·.1) = false := by rfl) :
    wpAny (model X.prog X.w) X.A (getMethod (.ref so) "__init__" pl) (fun fx s3 => wpAny (model X.prog X.w) X.A (callWith pos fx.1 fx.2 (backTo pos (starEach (e :: es) X.env)) []) (fun _ s4 => Q' s4) X.xe s3) X.xe s := by
  have KX := I.kIn
  obtain ⟨t1, hob⟩ := exo_at I.hok ea
  have J : PySem.W.InstAt s.heap a _ C none := ⟨hob, rfl, rfl, trivial⟩
  cases hc : PySem.W.clsIn X.K C with
  | none =>
    unfold PySem.W.ks_superIn at hm
    rw [hc] at hm
    cases hm
  | some cd =>
    unfold PySem.W.ks_superIn at hm
    rw [hc] at hm
    have mro : PySem.W.Looks (model X.prog X.w) s.heap (mroOf (.ref C)) cd.mro := fun A Q E s k q => wpAny_bind ((PySem.W.looks_clsIn KX hc) A _ E s k (wpAny_pure q))
    refine PySem.W.kxs_getMethod PySem.W.kxs_ValueError hso (PySem.W.looks_opaque KX hth) mro rfl KX hm (J.type.andThen (PySem.W.looks_subIn KX hB)) (PySem.W.ks_ne KX J hc) (by decide) ?_
    have I2 : L2.Inv X ((s.heap.objs.size, PySem.W.kxs_mw "ValueError.__init__" a) :: pins) σ H { s with heap := s.heap.push (PySem.W.kxs_mw "ValueError.__init__" a), toks := s.toks + 1 } :=
      ClX.pin_new I (fun _ _ z => Heap.get?_push_of_some _ z) (Nat.le_refl _) (Heap.get?_push_size s.heap rfl) (fun v z => nomatch z)
    rw [hst]
    refine PySem.W.kxs_callWith (i := "ValueError.__init__") (x := a) (by show (false || (backTo pos (starEach es X.env)).any (·.1)) = false; rw [hpl]; rfl) ?_
    have hrun := ha.run pos _ _ σ H _ I2 h
    rw [hst] at hrun
    refine PySem.Calls.evalArgs_plain (L2.thn hrun fun us s1 ⟨vs, H1, I1, r, hz, e1, q⟩ => ⟨ClX.pin_at I1, ?_⟩)
    obtain ⟨nm, qq, N, bs, bm, sn, sub, ab, col, dd, k0, k1, k2, k3, k5, hC, hbm⟩ := T.cls
    obtain ⟨t2, ho2⟩ := exo_at I1.hok e1
    have hu := ClX.pin_at I1
    have hus : us.length ≤ sizeLine := by
      rw [← Paired.length r, sizeLine_eq]
      omega
    obtain ⟨hh, g, dr, tk, os⟩ := s1
    refine call_mw (I1.kIn _ _ hC) ho2 hu hus fun h' t3 kp e3 => ?_
    have J1 := (ClX.unpin I1).write (t' := tk) (x := a) (e := a) (o := exo a C none) (by rw [e1]; exact True.intro) (.inl rfl) kp ⟨_, e3⟩ (exo_ok e3)
    have eu : upd H1 a (exo a C none) = H1 := by
      funext b
      by_cases hb : b = a
      · rw [hb, upd_same, e1]
      · rw [upd_ne hb]
    rw [eu] at J1
    exact hQ _ _ J1 q
end
/-! ### the error classes -/
/-- behind the making: the exception's dict -/
def h3 (H : Hp) (a C dx : Addr) (p : Int) (n : Str) : Hp := upd (upd (upd H dx (exd dx [("place", .int p)])) a (exo a C (some dx))) dx (exd dx [("name", .str n), ("place", .int p)])
/-- what the written part says of an error class C below the base class -/
structure KErr (K : PySem.W.Frag) (P : Program) (fK cdaK ccK DK C : Addr) : Prop where
  oex : OexC K C
  sf : SupF K P fK cdaK ccK DK C "self"
  up : PySem.W.ks_superIn K C DK "__init__" = some (some (.builtin "ValueError.__init__"))
  ve : PySem.W.subIn K (.ref C) (.type "ValueError") = some true
  np : PySem.W.findIn K (.ref C) "place" = some none
  nn : PySem.W.findIn K (.ref C) "name" = some none
def SpI (K : PySem.W.Frag) (P : Program) (fK cdaK ccK DK : Addr) : Sp := fun vs H Q _ => ∃ a C p n, vs = [.ref a, .int p, .str n] ∧ KErr K P fK cdaK ccK DK C ∧ H a = some (exo a C none) ∧ ∀ dx, H dx = none → dx ≠ a → Q .non (h3 H a C dx p n)
section
variable {CX : CXT} {P : Program} {w : World} {K : PySem.W.Frag} {mg : Str → Option Value} {base : Heap} {f cc cda D : Addr} {name qual : Str} {params : Arguments} {body rest : List Stmt} {scope : Scope} {dV kV doc pm ct oc cl : Value} {an od cld : Option Addr} {osl csl : Array (Option Value)} {x1 : Str} {p0 p1 p2 p3 p4 q0 q1 q2 q3 q4 q5 q6 q7 q8 : Pos} {pl : Sem Bool}
theorem ok_kinit (lk : K.lookup f = some ⟨oc, od, .func (PySem.W.ksFn name qual params body scope dV kV doc pm an (.ref cda) ct cc), osl⟩) (hcd : PySem.W.codeIn K (.ref cda) qual = true)
    (hcc : K.lookup cc = some ⟨cl, cld, .cell (some (.ref D)), csl⟩) (S : NScope ["self", "place", "name", "__class__"] ["self", "place", "name"] ["__class__"] scope) (hsup : scope.names.lookup ("super" : Str) = some NameKind.globalImplicit) (hs : mg "super" = none) (hth : PySem.W.nsIn K PySem.cStatics "thirdparty.any" = some none)
    (hb : body = .Expr (.Call (.Attribute (.Call (.Name "super" p0) [] [] p1) "__init__" p2) [.Name "place" q0] [] p3) p4 :: [.Assign [.Attribute (.Name "self" q1) "place" q2] (.Name "place" q3) q4, .Assign [.Attribute (.Name "self" q5) "name" q6] (.Name "name" q7) q8])
    (he : ∀ env : Env, eval (.Call (.Attribute (.Call (.Name "super" p0) [] [] p1) "__init__" p2) [.Name "place" q0] [] p3) env = (do
      let ov ← attributeBase (.Call (.Name "super" p0) [] [] p1) "__init__" env (eval (.Call (.Name "super" p0) [] [] p1) env)
      standAt p2.atName
      let (f, first) ← holding [ov] (getMethod ov "__init__" pl)
      callWith p3 f first (backTo p3 (starEach [.Name "place" q0] env)) [])) :
    FnOk P w K mg base CX 1 f (PySem.W.ksFn name qual params body scope dV kV doc pm an (.ref cda) ct cc) ["self", "place", "name"] (SpI K P f cda cc D) := by
  subst hb
  refine fn_sup lk hcd hcc S (fun vs H Q E h => by obtain ⟨a, C, p, n, rfl, _⟩ := h; rfl) fun A outer s s1 H vs Q E hr hsp I => ?_
  obtain ⟨a, C, p, n, rfl, ke, ea, hq⟩ := hsp
  refine PySem.ks_wpAt_execs_cons ?_
  obtain ⟨t1, hob⟩ := exo_at I.hok ea
  refine sup_first I rfl rfl rfl ke.sf hs hsup (S.frk _ (by simp)) (S.par _ (by simp)) rfl rfl hob rfl (fun c z => nomatch z) (fun so s2 I2 hso kp => ?_) (he _)
  refine sup_ve (R := fun H' => H' = H) I2 hso ke.oex ea ke.up ke.ve hth (pa_cons (pv 1 rfl (.inl (S.par _ (by simp)))) pa_nil) ⟨_, rfl, (by show 1 ≤ 1000; decide), ea, rfl⟩ fun s4 H4 I4 e4 => ?_
  subst e4
  refine PySem.wpAt_of_wpAny ?_
  refine (pss_cons (ps_ost (pv 0 rfl (.inl (S.par _ (by simp)))) (pv 1 rfl (.inl (S.par _ (by simp))))) (pss_one (ps_ost (pv 0 rfl (.inl (S.par _ (by simp)))) (pv 2 rfl (.inl (S.par _ (by simp))))))).run [] s4 _ _ _ I4 ?_
  refine ⟨_, rfl, _, rfl, a, C, rfl, ke.oex, ke.np, .inl ⟨ea, fun dx hd hne => ?_⟩⟩
  refine ⟨_, rfl, _, rfl, a, C, rfl, ke.oex, ke.nn, .inr ⟨dx, [("place", .int p)], upd_same, ?_, (by show 1 ≤ 900; decide), hq dx hd hne⟩⟩
  rw [upd_ne hne, upd_same]
end
/-- the __init__ of an error class: super().__init__(place, its name) -/
def SpE (C : Addr) (n : Str) : Sp := fun vs H Q _ => ∃ a p, vs = [.ref a, .int p] ∧ H a = some (exo a C none) ∧ ∀ dx, H dx = none → dx ≠ a → Q .non (h3 H a C dx p n)
section
variable {P : Program} {w : World} {K : PySem.W.Frag} {mg : Str → Option Value} {base : Heap} {f cc cda C fK cdaK ccK DK : Addr} {name qual : Str} {params : Arguments} {body rest : List Stmt} {scope : Scope} {dV kV doc pm ct oc cl : Value} {an od cld : Option Addr} {osl csl : Array (Option Value)} {p0 p1 p2 p3 p4 q0 q1 q2 q3 : Pos} {pl : Sem Bool} {n : Str} {kd : Nat} {fd : FuncData}
theorem ok_tinit (lk : K.lookup f = some ⟨oc, od, .func (PySem.W.ksFn name qual params body scope dV kV doc pm an (.ref cda) ct cc), osl⟩) (hcd : PySem.W.codeIn K (.ref cda) qual = true)
    (hcc : K.lookup cc = some ⟨cl, cld, .cell (some (.ref C)), csl⟩) (S : NScope ["self", "place", "__class__"] ["self", "place"] ["__class__"] scope) (hsup : scope.names.lookup ("super" : Str) = some NameKind.globalImplicit) (hs : mg "super" = none) (hth : PySem.W.nsIn K PySem.cStatics "thirdparty.any" = some none)
    (sf : SupF K P f cda cc C C "self") (ke : KErr K P fK cdaK ccK DK C) (hm : PySem.W.ks_superIn K C C "__init__" = some (some (.ref fK))) (ht : PySem.W.typeIn K (.ref fK) = some (.type "function")) (hf : PySem.W.fnIn K fK = true)
    (FK : FnOk P w K mg base CX0 1 fK fd ["self", "place", "name"] (SpI K P fK cdaK ccK DK)) (bK : Binds K fd ["self", "place", "name"] [])
    (hb : body = .Expr (.Call (.Attribute (.Call (.Name "super" p0) [] [] p1) "__init__" p2) [.Name "place" q0, .Constant (.str n) kd q1] [] p3) p4 :: [])
    (he : ∀ env : Env, eval (.Call (.Attribute (.Call (.Name "super" p0) [] [] p1) "__init__" p2) [.Name "place" q0, .Constant (.str n) kd q1] [] p3) env = (do
      let ov ← attributeBase (.Call (.Name "super" p0) [] [] p1) "__init__" env (eval (.Call (.Name "super" p0) [] [] p1) env)
      standAt p2.atName
      let (f, first) ← holding [ov] (getMethod ov "__init__" pl)
      callWith p3 f first (backTo p3 (starEach [.Name "place" q0, .Constant (.str n) kd q1] env)) [])) :
    FnOk P w K mg base CX0 2 f (PySem.W.ksFn name qual params body scope dV kV doc pm an (.ref cda) ct cc) ["self", "place"] (SpE C n) := by
  subst hb
  refine fn_sup lk hcd hcc S (fun vs H Q E h => by obtain ⟨a, p, rfl, _⟩ := h; rfl) fun A outer s s1 H vs Q E hr hsp I => ?_
  obtain ⟨a, p, rfl, ea, hq⟩ := hsp
  refine PySem.ks_wpAt_execs_cons ?_
  obtain ⟨t1, hob⟩ := exo_at I.hok ea
  refine sup_first I rfl rfl rfl sf hs hsup (S.frk _ (by simp)) (S.par _ (by simp)) rfl rfl hob rfl (fun c z => nomatch z) (fun so s2 I2 hso kp => ?_) (he _)
  obtain ⟨t2, hob2⟩ := exo_at I2.hok ea
  have J : PySem.W.InstAt s2.heap a _ C none := ⟨hob2, rfl, rfl, trivial⟩
  refine sup_own (k := 1) (E := E0) (Q := fun v H' => Q .non H') I2 hso J hm ht hth hf (FK.raw bK .nil) hr pass0 (pa_cons (pv 1 rfl (.inl (S.par _ (by simp)))) (pa_cons pe_str pa_nil)) ⟨_, rfl, ⟨a, C, p, n, rfl, ke, ea, hq⟩⟩ fun v s4 h4 => ?_
  obtain ⟨v', H', I4, _, q⟩ := h4
  exact PySem.wpAt_of_wpAny ((pss_nil (X := ncx CX0 P w K mg base ["self", "place", "__class__"] ⟨name, qual, params, _, scope, [("__class__", cc)], cda⟩ f A outer s H E)).run [] s4 _ _ _ I4 q)
end
end Kr

/-! KrY: raising, defs that may raise. -/
namespace Kr
open PySem PySem.Spec PyProof.Rows L2
open Enc (toD)
section
variable {cf : Cf} {E : XK} {G : List Sl} {S ρ : Type} [Rs ρ] {te : TE} {u : TS} {enc : S → List Sl}
/-- raise X(e) -/
def tRs (cf : Cf) (c : Nat) (E : XK) (te : TE) : TS := fun _ σ H => tMkO (cf.cls c) (SpE (cf.cls c) (cf.nm c)) [] (tCons te tNil) σ H fun cls d H' => E cls d H'
theorem rs_heap {H : Hp} {a C dx : Addr} {p : Int} {n : Str} (ha : H a = none) : upd (del (h3 (upd H a (exo a C none)) a C dx p n) a) dx (.xd [("name", .str n), ("place", .int p)]) = upd H dx (.xd [("name", .str n), ("place", .int p)]) := by
  funext b
  by_cases hb : b = dx
  · rw [hb, upd_same, upd_same]
  · rw [upd_ne hb, upd_ne hb]
    by_cases hba : b = a
    · rw [hba, del_same, ha]
    · rw [del_ne hba]
      unfold h3
      rw [upd_ne hb, upd_ne hba, upd_ne hb, upd_ne hba]
theorem rs_at {m : R Int} {c : Nat} (h : EM cf E te G m) (F O H : Hp) (σ : L2.St) (hf : Fm F O H) (he : Er cf.K F O σ G) (nb : m ≠ .bad) (ke : ∀ c' p d F' H', (m.bind fun p => (.er c p : R Int)) = .er c' p → Le F F' → Fm F' O H' → F' d = some (xdO cf c' p) → E (.ref (cf.cls c')) (some d) H') (D : Ends) : tRs cf c E te D σ H := by
  refine h F O H σ _ hf he nb (fun p v F' H' e le hf' hr => ?_) (fun c' p d F' H' e le hf' hd => ke c' p d F' H' (by rw [e]; rfl) le hf' hd)
  obtain rfl : v = .int p := dr_int hr
  refine ⟨by show 1 ≤ 1000; decide, fun a ha => ⟨a, p, rfl, upd_same, fun dx hd hne => ⟨rfl, dx, [("name", .str (cf.nm c)), ("place", .int p)], ?_, upd_same, ?_, ?_⟩⟩⟩
  · unfold h3
    rw [upd_ne (Ne.symm hne), upd_same]
  · rw [upd_ne hne] at hd
    exact hd
  · rw [upd_ne hne] at hd
    rw [rs_heap ha]
    exact ke c p dx (upd F' dx (xdO cf c p)) _ (by rw [e]; rfl) (le.trans (Le.new (hf'.fnone hd))) (hf'.newF hd) upd_same
theorem sb_raise {m : R Int} {c : Nat} (h : EM cf E te G m) : SB cf E (tRs cf c E te) G enc (m.bind fun p => (.er c p : R (Fl S ρ))) := fun F O H σ D hM nb kn kb kr ke => by
  obtain ⟨O', lo, hf, he, ow⟩ := hM
  refine rs_at h F O' H σ hf he (R.bind_nb nb) (fun c' p d F' H' e le hf' hd => ke c' p d F' H' ?_ le (hf'.weak lo) hd) D
  cases m with
  | ok a => cases e; rfl
  | er c2 p2 => cases e; rfl
  | bad => cases e
theorem sb_raise2 {m : R Int} {c : Nat} (h : EM cf E te G m) : SB cf E (tSeq (tRs cf c E te) u) G enc (m.bind fun p => (.er c p : R (Fl S ρ))) := fun F O H σ D hM nb kn kb kr ke => sb_raise (enc := enc) h F O H σ { D with nx := u D } hM nb (fun s F' H' σ' e => by
    cases m <;> cases e) (fun s F' H' σ' e => by
    cases m <;> cases e) (fun r v F' H' e => by
    cases m <;> cases e) ke
end
/-- the term: raise X(e) -/
theorem ps_rs {X : Cx} {P : Program} {cf : Cf} {c : Nat} {E : XK} {x : Str} {fI : Addr} {fd : FuncData} {e : Expr} {te : TE} {p pos pos' : Pos} (hP : X.prog = P) (hK : X.K = cf.K) (hc : X.calm = true) (tk : Takes X (fun cls d σ H => E cls d H)) (T : OexC X.K (cf.cls c))
    (iC : PySem.W.findIn X.K (.ref (cf.cls c)) "__init__" = some (some (.ref fI))) (tI : PySem.W.typeIn X.K (.ref fI) = some (.type "function")) (F1 : FnOk X.prog X.w X.K X.mg X.base CX0 2 fI fd ["self", "place"] (SpE (cf.cls c) (cf.nm c)))
    (hr : Room 3 X.A) (hb : Binds X.K fd ["self", "place"] []) (hg : Gl X x) (hm : X.mg x = some (.ref (cf.cls c))) (ha : PE X e te) (hdb : (x == ("__debug__" : Str)) = false := by decide)
    (he : starEach [e] X.env = (false, eval e X.env) :: starEach [] X.env := by rfl) : PS X (.Raise (some (.Call (.Name x p) [e] [] pos)) none pos') (tRs cf c E te) :=
  ps_raise hc tk (pmk_oex T iC tI F1 hr hb .nil pass0 hg hm (pa_cons ha pa_nil (hs := he)) hdb he rfl)

/-- called with values of the data ds, it returns or raises what the relation says -/
def SpX (cf : Cf) (n : Nat) (spec : List Dt → R Dt → Prop) : Sp := fun vs H Q E => vs.length = n ∧ ∃ (F O : Hp) (ds : List Dt) (r : R Dt), Fm F O H ∧ DrA cf.K F vs ds ∧ spec ds r ∧ r ≠ .bad ∧
  (∀ d v F' H', r = .ok d → Le F F' → Fm F' O H' → Dr cf.K F' v d → Q v H') ∧ (∀ c p d F' H', r = .er c p → Le F F' → Fm F' O H' → F' d = some (xdO cf c p) → E (.ref (cf.cls c)) (some d) H')
theorem SpX.len {cf : Cf} {n : Nat} {spec : List Dt → R Dt → Prop} {ps : List Str} (h : ps.length = n := by rfl) : ∀ vs H Q E, SpX cf n spec vs H Q E → vs.length = ps.length := fun vs H Q E q => by rw [h]; exact q.1
theorem map_nb {α β : Type} {f : α → β} {m : R α} (h : m ≠ .bad) : m.map f ≠ .bad := by
  cases m with
  | ok a => exact fun z => nomatch z
  | er c p => exact fun z => nomatch z
  | bad => exact absurd rfl h
theorem map_okd {α β : Type} {f : α → β} {m : R α} {b : β} (h : m.map f = .ok b) : ∃ a, m = .ok a ∧ f a = b := by
  cases m with
  | ok a => exact ⟨a, rfl, R.ok.inj h⟩
  | er c p => cases h
  | bad => cases h
theorem map_erd {α β : Type} {f : α → β} {m : R α} {c : Nat} {p : Int} (h : m.map f = .er c p) : m = .er c p := by
  cases m with
  | ok a => cases h
  | er c p => cases h; rfl
  | bad => cases h
theorem run_ofX {cf : Cf} {E : XK} {S ρ : Type} [Enc ρ] {t : TS} {N : List Str} {vs : List V} {H : Hp} {Q : VK} {n : Nat} {spec : List Dt → R Dt → Prop} {enc : S → List Sl} (h : SpX cf n spec vs H Q E)
    (hb : ∀ ds r, spec ds r → r ≠ .bad → ∃ m : R (Fl S ρ), SB cf E t (ds.map Sl.va ++ List.replicate (N.length - ds.length) .un) enc m ∧ r = (finR m).map toD) : t { nx := fun _ H' => Q .non H', rt := Q } (L2.start N vs) H := by
  obtain ⟨_, F, O, ds, r, hf, hr, hs, nb, ko, ke⟩ := h
  obtain ⟨m, hm, er⟩ := hb ds r hs nb
  subst er
  refine hm F O H _ _ (mt_start hf hr) (fun z => ?_) (fun s F' H' σ' e => ?_) (fun s F' H' σ' e => ?_) (fun r' v F' H' e le hf' hr' => ?_) (fun c p d F' H' e le hf' hd => ?_)
  · rw [z] at nb
    exact nb rfl
  · rw [e] at nb
    exact absurd rfl nb
  · rw [e] at nb
    exact absurd rfl nb
  · exact ko (toD r') v F' H' (by rw [e]; rfl) le hf' hr'
  · exact ke c p d F' H' (by rw [e]; rfl) le hf' hd

section
variable {α τ : Type} [Enc α] [Enc τ]
theorem em_callX1 {cf : Cf} {E : XK} {G : List Sl} {t0 : TE} {m0 : R α} {g : α → R τ} (h0 : EM cf E t0 G m0) : EM cf E (tCall (SpX cf 1 (sp1 g)) [] E (tCons t0 tNil)) G (m0.bind fun a => g a) := fun F O H σ Q hf he nb ko ke => by
  have le0 : Le F F := Le.refl F
  refine h0 F O H σ _ hf (he.mono le0) (R.bind_nb nb) (fun a v0 F1 H1 e0 l0 hf1 r0 => ?_) (fun c' p d' F' H' e' le hf' hd => ke c' p d' F' H' (by rw [e']; rfl) (le0.trans le) hf' hd)
  rw [e0, R.ok_bind] at nb ko ke
  have le1 := le0.trans l0
  exact ⟨rfl, F1, O, _, (g a).map toD, hf1, (.cons r0 .nil), ⟨a, rfl, rfl⟩, map_nb nb, fun d' v F' H' e' le hf' hr => by
    obtain ⟨y, ey, ed⟩ := map_okd e'
    subst ed
    exact ko y v F' H' ey (le1.trans le) hf' hr, fun c' p d' F' H' e' le hf' hd => ke c' p d' F' H' (map_erd e') (le1.trans le) hf' hd⟩
theorem em_callP1 {cf : Cf} {E : XK} {G : List Sl} {t0 : TE} {m0 : R α} {g : α → R τ} (h0 : EM cf E t0 G m0) : EM cf E (tCall (SpX cf 1 (sp1 g)) [] E0 (tCons t0 tNil)) G (m0.bind fun a => (g a).pu) := fun F O H σ Q hf he nb ko ke => by
  have le0 : Le F F := Le.refl F
  refine h0 F O H σ _ hf (he.mono le0) (R.bind_nb nb) (fun a v0 F1 H1 e0 l0 hf1 r0 => ?_) (fun c' p d' F' H' e' le hf' hd => ke c' p d' F' H' (by rw [e']; rfl) (le0.trans le) hf' hd)
  rw [e0, R.ok_bind] at nb ko ke
  have le1 := le0.trans l0
  obtain ⟨y, ey⟩ := pu_nb nb
  exact ⟨rfl, F1, O, _, .ok (toD y), hf1, (.cons r0 .nil), ⟨a, rfl, by rw [ey]; rfl⟩, fun z => (nomatch z), fun d' v F' H' e' le hf' hr => by
    cases e'
    exact ko y v F' H' (by rw [ey]; rfl) (le1.trans le) hf' hr, fun _ _ _ _ _ z => (nomatch z)⟩
theorem fnX1 {P : Program} {w : World} {cf : Cf} {mg : Str → Option Value} {base : Heap} {x qual : Str} {st : Stmt} {f0 : Addr} {fd : FuncData} {N ps : List Str} {k : Nat} {S : Type} {enc : S → List Sl} (F : Fun cf.K x qual st f0 fd) (sc : FnScope N ps (defScope st)) (hp : ps.length = 1) (g : α → R (Fl S τ))
    (G0 : α → List Sl) (hG : ∀ a, [.va (toD a)] ++ List.replicate (N.length - 1) .un = G0 a)
    (h : ∀ (cdv : Value) (A : Around) (outer : List Env) (s : Shared) (H : Hp) (E : XK), Room k (A.deeper (envOfC qual (defScope st) s.heap.objs.size f0 cdv)) →
      ∃ t, PSs (cxOf (L2.CX P w) P w cf.K mg base N qual (defScope st) f0 cdv A outer s H E) (defBody st) t ∧ ∀ a, SB cf E t (G0 a) enc (g a)) :
    FnOk P w cf.K mg base (L2.CX P w) (k + 1) f0 fd ps (SpX cf 1 (sp1 fun a => finR (g a))) := by
  refine F.okX sc (SpX.len hp) (fun cdv A outer s H vs Q E hr hq => ?_)
  obtain ⟨t, ht, hb⟩ := h cdv A outer s H E hr
  refine ⟨t, ht, run_ofX (ρ := τ) (S := S) (enc := enc) hq fun ds r hs nb => ?_⟩
  obtain ⟨a, rfl, er⟩ := hs
  exact ⟨g a, by have q := hb a; rw [← hG] at q; exact q, er⟩
end

section
variable {α β τ : Type} [Enc α] [Enc β] [Enc τ]
theorem em_callX2 {cf : Cf} {E : XK} {G : List Sl} {t0 t1 : TE} {m0 : R α} {m1 : R β} {g : α → β → R τ} (h0 : EM cf E t0 G m0) (h1 : EM cf E t1 G m1) : EM cf E (tCall (SpX cf 2 (sp2 g)) [] E (tCons t0 (tCons t1 tNil))) G (m0.bind fun a => m1.bind fun b => g a b) := fun F O H σ Q hf he nb ko ke => by
  have le0 : Le F F := Le.refl F
  refine h0 F O H σ _ hf (he.mono le0) (R.bind_nb nb) (fun a v0 F1 H1 e0 l0 hf1 r0 => ?_) (fun c' p d' F' H' e' le hf' hd => ke c' p d' F' H' (by rw [e']; rfl) (le0.trans le) hf' hd)
  rw [e0, R.ok_bind] at nb ko ke
  have le1 := le0.trans l0
  refine h1 F1 O H1 σ _ hf1 (he.mono le1) (R.bind_nb nb) (fun b v1 F2 H2 e1 l1 hf2 r1 => ?_) (fun c' p d' F' H' e' le hf' hd => ke c' p d' F' H' (by rw [e']; rfl) (le1.trans le) hf' hd)
  rw [e1, R.ok_bind] at nb ko ke
  have le2 := le1.trans l1
  exact ⟨rfl, F2, O, _, (g a b).map toD, hf2, (.cons (Dr.mono l1 r0) (.cons r1 .nil)), ⟨a, b, rfl, rfl⟩, map_nb nb, fun d' v F' H' e' le hf' hr => by
    obtain ⟨y, ey, ed⟩ := map_okd e'
    subst ed
    exact ko y v F' H' ey (le2.trans le) hf' hr, fun c' p d' F' H' e' le hf' hd => ke c' p d' F' H' (map_erd e') (le2.trans le) hf' hd⟩
theorem em_callP2 {cf : Cf} {E : XK} {G : List Sl} {t0 t1 : TE} {m0 : R α} {m1 : R β} {g : α → β → R τ} (h0 : EM cf E t0 G m0) (h1 : EM cf E t1 G m1) : EM cf E (tCall (SpX cf 2 (sp2 g)) [] E0 (tCons t0 (tCons t1 tNil))) G (m0.bind fun a => m1.bind fun b => (g a b).pu) := fun F O H σ Q hf he nb ko ke => by
  have le0 : Le F F := Le.refl F
  refine h0 F O H σ _ hf (he.mono le0) (R.bind_nb nb) (fun a v0 F1 H1 e0 l0 hf1 r0 => ?_) (fun c' p d' F' H' e' le hf' hd => ke c' p d' F' H' (by rw [e']; rfl) (le0.trans le) hf' hd)
  rw [e0, R.ok_bind] at nb ko ke
  have le1 := le0.trans l0
  refine h1 F1 O H1 σ _ hf1 (he.mono le1) (R.bind_nb nb) (fun b v1 F2 H2 e1 l1 hf2 r1 => ?_) (fun c' p d' F' H' e' le hf' hd => ke c' p d' F' H' (by rw [e']; rfl) (le1.trans le) hf' hd)
  rw [e1, R.ok_bind] at nb ko ke
  have le2 := le1.trans l1
  obtain ⟨y, ey⟩ := pu_nb nb
  exact ⟨rfl, F2, O, _, .ok (toD y), hf2, (.cons (Dr.mono l1 r0) (.cons r1 .nil)), ⟨a, b, rfl, by rw [ey]; rfl⟩, fun z => (nomatch z), fun d' v F' H' e' le hf' hr => by
    cases e'
    exact ko y v F' H' (by rw [ey]; rfl) (le2.trans le) hf' hr, fun _ _ _ _ _ z => (nomatch z)⟩
theorem fnX2 {P : Program} {w : World} {cf : Cf} {mg : Str → Option Value} {base : Heap} {x qual : Str} {st : Stmt} {f0 : Addr} {fd : FuncData} {N ps : List Str} {k : Nat} {S : Type} {enc : S → List Sl} (F : Fun cf.K x qual st f0 fd) (sc : FnScope N ps (defScope st)) (hp : ps.length = 2) (g : α → β → R (Fl S τ))
    (G0 : α → β → List Sl) (hG : ∀ a b, [.va (toD a), .va (toD b)] ++ List.replicate (N.length - 2) .un = G0 a b)
    (h : ∀ (cdv : Value) (A : Around) (outer : List Env) (s : Shared) (H : Hp) (E : XK), Room k (A.deeper (envOfC qual (defScope st) s.heap.objs.size f0 cdv)) →
      ∃ t, PSs (cxOf (L2.CX P w) P w cf.K mg base N qual (defScope st) f0 cdv A outer s H E) (defBody st) t ∧ ∀ a b, SB cf E t (G0 a b) enc (g a b)) :
    FnOk P w cf.K mg base (L2.CX P w) (k + 1) f0 fd ps (SpX cf 2 (sp2 fun a b => finR (g a b))) := by
  refine F.okX sc (SpX.len hp) (fun cdv A outer s H vs Q E hr hq => ?_)
  obtain ⟨t, ht, hb⟩ := h cdv A outer s H E hr
  refine ⟨t, ht, run_ofX (ρ := τ) (S := S) (enc := enc) hq fun ds r hs nb => ?_⟩
  obtain ⟨a, b, rfl, er⟩ := hs
  exact ⟨g a b, by have q := hb a b; rw [← hG] at q; exact q, er⟩
end

section
variable {α β γ τ : Type} [Enc α] [Enc β] [Enc γ] [Enc τ]
theorem em_callX3 {cf : Cf} {E : XK} {G : List Sl} {t0 t1 t2 : TE} {m0 : R α} {m1 : R β} {m2 : R γ} {g : α → β → γ → R τ} (h0 : EM cf E t0 G m0) (h1 : EM cf E t1 G m1) (h2 : EM cf E t2 G m2) : EM cf E (tCall (SpX cf 3 (sp3 g)) [] E (tCons t0 (tCons t1 (tCons t2 tNil)))) G (m0.bind fun a => m1.bind fun b => m2.bind fun c => g a b c) := fun F O H σ Q hf he nb ko ke => by
  have le0 : Le F F := Le.refl F
  refine h0 F O H σ _ hf (he.mono le0) (R.bind_nb nb) (fun a v0 F1 H1 e0 l0 hf1 r0 => ?_) (fun c' p d' F' H' e' le hf' hd => ke c' p d' F' H' (by rw [e']; rfl) (le0.trans le) hf' hd)
  rw [e0, R.ok_bind] at nb ko ke
  have le1 := le0.trans l0
  refine h1 F1 O H1 σ _ hf1 (he.mono le1) (R.bind_nb nb) (fun b v1 F2 H2 e1 l1 hf2 r1 => ?_) (fun c' p d' F' H' e' le hf' hd => ke c' p d' F' H' (by rw [e']; rfl) (le1.trans le) hf' hd)
  rw [e1, R.ok_bind] at nb ko ke
  have le2 := le1.trans l1
  refine h2 F2 O H2 σ _ hf2 (he.mono le2) (R.bind_nb nb) (fun c v2 F3 H3 e2 l2 hf3 r2 => ?_) (fun c' p d' F' H' e' le hf' hd => ke c' p d' F' H' (by rw [e']; rfl) (le2.trans le) hf' hd)
  rw [e2, R.ok_bind] at nb ko ke
  have le3 := le2.trans l2
  exact ⟨rfl, F3, O, _, (g a b c).map toD, hf3, (.cons (Dr.mono l2 (Dr.mono l1 r0)) (.cons (Dr.mono l2 r1) (.cons r2 .nil))), ⟨a, b, c, rfl, rfl⟩, map_nb nb, fun d' v F' H' e' le hf' hr => by
    obtain ⟨y, ey, ed⟩ := map_okd e'
    subst ed
    exact ko y v F' H' ey (le3.trans le) hf' hr, fun c' p d' F' H' e' le hf' hd => ke c' p d' F' H' (map_erd e') (le3.trans le) hf' hd⟩
theorem em_callP3 {cf : Cf} {E : XK} {G : List Sl} {t0 t1 t2 : TE} {m0 : R α} {m1 : R β} {m2 : R γ} {g : α → β → γ → R τ} (h0 : EM cf E t0 G m0) (h1 : EM cf E t1 G m1) (h2 : EM cf E t2 G m2) : EM cf E (tCall (SpX cf 3 (sp3 g)) [] E0 (tCons t0 (tCons t1 (tCons t2 tNil)))) G (m0.bind fun a => m1.bind fun b => m2.bind fun c => (g a b c).pu) := fun F O H σ Q hf he nb ko ke => by
  have le0 : Le F F := Le.refl F
  refine h0 F O H σ _ hf (he.mono le0) (R.bind_nb nb) (fun a v0 F1 H1 e0 l0 hf1 r0 => ?_) (fun c' p d' F' H' e' le hf' hd => ke c' p d' F' H' (by rw [e']; rfl) (le0.trans le) hf' hd)
  rw [e0, R.ok_bind] at nb ko ke
  have le1 := le0.trans l0
  refine h1 F1 O H1 σ _ hf1 (he.mono le1) (R.bind_nb nb) (fun b v1 F2 H2 e1 l1 hf2 r1 => ?_) (fun c' p d' F' H' e' le hf' hd => ke c' p d' F' H' (by rw [e']; rfl) (le1.trans le) hf' hd)
  rw [e1, R.ok_bind] at nb ko ke
  have le2 := le1.trans l1
  refine h2 F2 O H2 σ _ hf2 (he.mono le2) (R.bind_nb nb) (fun c v2 F3 H3 e2 l2 hf3 r2 => ?_) (fun c' p d' F' H' e' le hf' hd => ke c' p d' F' H' (by rw [e']; rfl) (le2.trans le) hf' hd)
  rw [e2, R.ok_bind] at nb ko ke
  have le3 := le2.trans l2
  obtain ⟨y, ey⟩ := pu_nb nb
  exact ⟨rfl, F3, O, _, .ok (toD y), hf3, (.cons (Dr.mono l2 (Dr.mono l1 r0)) (.cons (Dr.mono l2 r1) (.cons r2 .nil))), ⟨a, b, c, rfl, by rw [ey]; rfl⟩, fun z => (nomatch z), fun d' v F' H' e' le hf' hr => by
    cases e'
    exact ko y v F' H' (by rw [ey]; rfl) (le3.trans le) hf' hr, fun _ _ _ _ _ z => (nomatch z)⟩
theorem fnX3 {P : Program} {w : World} {cf : Cf} {mg : Str → Option Value} {base : Heap} {x qual : Str} {st : Stmt} {f0 : Addr} {fd : FuncData} {N ps : List Str} {k : Nat} {S : Type} {enc : S → List Sl} (F : Fun cf.K x qual st f0 fd) (sc : FnScope N ps (defScope st)) (hp : ps.length = 3) (g : α → β → γ → R (Fl S τ))
    (G0 : α → β → γ → List Sl) (hG : ∀ a b c, [.va (toD a), .va (toD b), .va (toD c)] ++ List.replicate (N.length - 3) .un = G0 a b c)
    (h : ∀ (cdv : Value) (A : Around) (outer : List Env) (s : Shared) (H : Hp) (E : XK), Room k (A.deeper (envOfC qual (defScope st) s.heap.objs.size f0 cdv)) →
      ∃ t, PSs (cxOf (L2.CX P w) P w cf.K mg base N qual (defScope st) f0 cdv A outer s H E) (defBody st) t ∧ ∀ a b c, SB cf E t (G0 a b c) enc (g a b c)) :
    FnOk P w cf.K mg base (L2.CX P w) (k + 1) f0 fd ps (SpX cf 3 (sp3 fun a b c => finR (g a b c))) := by
  refine F.okX sc (SpX.len hp) (fun cdv A outer s H vs Q E hr hq => ?_)
  obtain ⟨t, ht, hb⟩ := h cdv A outer s H E hr
  refine ⟨t, ht, run_ofX (ρ := τ) (S := S) (enc := enc) hq fun ds r hs nb => ?_⟩
  obtain ⟨a, b, c, rfl, er⟩ := hs
  exact ⟨g a b c, by have q := hb a b c; rw [← hG] at q; exact q, er⟩
end

section
variable {α β γ δ τ : Type} [Enc α] [Enc β] [Enc γ] [Enc δ] [Enc τ]
theorem em_callX4 {cf : Cf} {E : XK} {G : List Sl} {t0 t1 t2 t3 : TE} {m0 : R α} {m1 : R β} {m2 : R γ} {m3 : R δ} {g : α → β → γ → δ → R τ} (h0 : EM cf E t0 G m0) (h1 : EM cf E t1 G m1) (h2 : EM cf E t2 G m2) (h3 : EM cf E t3 G m3) : EM cf E (tCall (SpX cf 4 (sp4 g)) [] E (tCons t0 (tCons t1 (tCons t2 (tCons t3 tNil))))) G (m0.bind fun a => m1.bind fun b => m2.bind fun c => m3.bind fun d => g a b c d) := fun F O H σ Q hf he nb ko ke => by
  have le0 : Le F F := Le.refl F
  refine h0 F O H σ _ hf (he.mono le0) (R.bind_nb nb) (fun a v0 F1 H1 e0 l0 hf1 r0 => ?_) (fun c' p d' F' H' e' le hf' hd => ke c' p d' F' H' (by rw [e']; rfl) (le0.trans le) hf' hd)
  rw [e0, R.ok_bind] at nb ko ke
  have le1 := le0.trans l0
  refine h1 F1 O H1 σ _ hf1 (he.mono le1) (R.bind_nb nb) (fun b v1 F2 H2 e1 l1 hf2 r1 => ?_) (fun c' p d' F' H' e' le hf' hd => ke c' p d' F' H' (by rw [e']; rfl) (le1.trans le) hf' hd)
  rw [e1, R.ok_bind] at nb ko ke
  have le2 := le1.trans l1
  refine h2 F2 O H2 σ _ hf2 (he.mono le2) (R.bind_nb nb) (fun c v2 F3 H3 e2 l2 hf3 r2 => ?_) (fun c' p d' F' H' e' le hf' hd => ke c' p d' F' H' (by rw [e']; rfl) (le2.trans le) hf' hd)
  rw [e2, R.ok_bind] at nb ko ke
  have le3 := le2.trans l2
  refine h3 F3 O H3 σ _ hf3 (he.mono le3) (R.bind_nb nb) (fun d v3 F4 H4 e3 l3 hf4 r3 => ?_) (fun c' p d' F' H' e' le hf' hd => ke c' p d' F' H' (by rw [e']; rfl) (le3.trans le) hf' hd)
  rw [e3, R.ok_bind] at nb ko ke
  have le4 := le3.trans l3
  exact ⟨rfl, F4, O, _, (g a b c d).map toD, hf4, (.cons (Dr.mono l3 (Dr.mono l2 (Dr.mono l1 r0))) (.cons (Dr.mono l3 (Dr.mono l2 r1)) (.cons (Dr.mono l3 r2) (.cons r3 .nil)))), ⟨a, b, c, d, rfl, rfl⟩, map_nb nb, fun d' v F' H' e' le hf' hr => by
    obtain ⟨y, ey, ed⟩ := map_okd e'
    subst ed
    exact ko y v F' H' ey (le4.trans le) hf' hr, fun c' p d' F' H' e' le hf' hd => ke c' p d' F' H' (map_erd e') (le4.trans le) hf' hd⟩
theorem em_callP4 {cf : Cf} {E : XK} {G : List Sl} {t0 t1 t2 t3 : TE} {m0 : R α} {m1 : R β} {m2 : R γ} {m3 : R δ} {g : α → β → γ → δ → R τ} (h0 : EM cf E t0 G m0) (h1 : EM cf E t1 G m1) (h2 : EM cf E t2 G m2) (h3 : EM cf E t3 G m3) : EM cf E (tCall (SpX cf 4 (sp4 g)) [] E0 (tCons t0 (tCons t1 (tCons t2 (tCons t3 tNil))))) G (m0.bind fun a => m1.bind fun b => m2.bind fun c => m3.bind fun d => (g a b c d).pu) := fun F O H σ Q hf he nb ko ke => by
  have le0 : Le F F := Le.refl F
  refine h0 F O H σ _ hf (he.mono le0) (R.bind_nb nb) (fun a v0 F1 H1 e0 l0 hf1 r0 => ?_) (fun c' p d' F' H' e' le hf' hd => ke c' p d' F' H' (by rw [e']; rfl) (le0.trans le) hf' hd)
  rw [e0, R.ok_bind] at nb ko ke
  have le1 := le0.trans l0
  refine h1 F1 O H1 σ _ hf1 (he.mono le1) (R.bind_nb nb) (fun b v1 F2 H2 e1 l1 hf2 r1 => ?_) (fun c' p d' F' H' e' le hf' hd => ke c' p d' F' H' (by rw [e']; rfl) (le1.trans le) hf' hd)
  rw [e1, R.ok_bind] at nb ko ke
  have le2 := le1.trans l1
  refine h2 F2 O H2 σ _ hf2 (he.mono le2) (R.bind_nb nb) (fun c v2 F3 H3 e2 l2 hf3 r2 => ?_) (fun c' p d' F' H' e' le hf' hd => ke c' p d' F' H' (by rw [e']; rfl) (le2.trans le) hf' hd)
  rw [e2, R.ok_bind] at nb ko ke
  have le3 := le2.trans l2
  refine h3 F3 O H3 σ _ hf3 (he.mono le3) (R.bind_nb nb) (fun d v3 F4 H4 e3 l3 hf4 r3 => ?_) (fun c' p d' F' H' e' le hf' hd => ke c' p d' F' H' (by rw [e']; rfl) (le3.trans le) hf' hd)
  rw [e3, R.ok_bind] at nb ko ke
  have le4 := le3.trans l3
  obtain ⟨y, ey⟩ := pu_nb nb
  exact ⟨rfl, F4, O, _, .ok (toD y), hf4, (.cons (Dr.mono l3 (Dr.mono l2 (Dr.mono l1 r0))) (.cons (Dr.mono l3 (Dr.mono l2 r1)) (.cons (Dr.mono l3 r2) (.cons r3 .nil)))), ⟨a, b, c, d, rfl, by rw [ey]; rfl⟩, fun z => (nomatch z), fun d' v F' H' e' le hf' hr => by
    cases e'
    exact ko y v F' H' (by rw [ey]; rfl) (le4.trans le) hf' hr, fun _ _ _ _ _ z => (nomatch z)⟩
theorem fnX4 {P : Program} {w : World} {cf : Cf} {mg : Str → Option Value} {base : Heap} {x qual : Str} {st : Stmt} {f0 : Addr} {fd : FuncData} {N ps : List Str} {k : Nat} {S : Type} {enc : S → List Sl} (F : Fun cf.K x qual st f0 fd) (sc : FnScope N ps (defScope st)) (hp : ps.length = 4) (g : α → β → γ → δ → R (Fl S τ))
    (G0 : α → β → γ → δ → List Sl) (hG : ∀ a b c d, [.va (toD a), .va (toD b), .va (toD c), .va (toD d)] ++ List.replicate (N.length - 4) .un = G0 a b c d)
    (h : ∀ (cdv : Value) (A : Around) (outer : List Env) (s : Shared) (H : Hp) (E : XK), Room k (A.deeper (envOfC qual (defScope st) s.heap.objs.size f0 cdv)) →
      ∃ t, PSs (cxOf (L2.CX P w) P w cf.K mg base N qual (defScope st) f0 cdv A outer s H E) (defBody st) t ∧ ∀ a b c d, SB cf E t (G0 a b c d) enc (g a b c d)) :
    FnOk P w cf.K mg base (L2.CX P w) (k + 1) f0 fd ps (SpX cf 4 (sp4 fun a b c d => finR (g a b c d))) := by
  refine F.okX sc (SpX.len hp) (fun cdv A outer s H vs Q E hr hq => ?_)
  obtain ⟨t, ht, hb⟩ := h cdv A outer s H E hr
  refine ⟨t, ht, run_ofX (ρ := τ) (S := S) (enc := enc) hq fun ds r hs nb => ?_⟩
  obtain ⟨a, b, c, d, rfl, er⟩ := hs
  exact ⟨g a b c d, by have q := hb a b c d; rw [← hG] at q; exact q, er⟩
end

section
variable {α β γ δ ε τ : Type} [Enc α] [Enc β] [Enc γ] [Enc δ] [Enc ε] [Enc τ]
theorem em_callX5 {cf : Cf} {E : XK} {G : List Sl} {t0 t1 t2 t3 t4 : TE} {m0 : R α} {m1 : R β} {m2 : R γ} {m3 : R δ} {m4 : R ε} {g : α → β → γ → δ → ε → R τ} (h0 : EM cf E t0 G m0) (h1 : EM cf E t1 G m1) (h2 : EM cf E t2 G m2) (h3 : EM cf E t3 G m3) (h4 : EM cf E t4 G m4) : EM cf E (tCall (SpX cf 5 (sp5 g)) [] E (tCons t0 (tCons t1 (tCons t2 (tCons t3 (tCons t4 tNil)))))) G (m0.bind fun a => m1.bind fun b => m2.bind fun c => m3.bind fun d => m4.bind fun e => g a b c d e) := fun F O H σ Q hf he nb ko ke => by
  have le0 : Le F F := Le.refl F
  refine h0 F O H σ _ hf (he.mono le0) (R.bind_nb nb) (fun a v0 F1 H1 e0 l0 hf1 r0 => ?_) (fun c' p d' F' H' e' le hf' hd => ke c' p d' F' H' (by rw [e']; rfl) (le0.trans le) hf' hd)
  rw [e0, R.ok_bind] at nb ko ke
  have le1 := le0.trans l0
  refine h1 F1 O H1 σ _ hf1 (he.mono le1) (R.bind_nb nb) (fun b v1 F2 H2 e1 l1 hf2 r1 => ?_) (fun c' p d' F' H' e' le hf' hd => ke c' p d' F' H' (by rw [e']; rfl) (le1.trans le) hf' hd)
  rw [e1, R.ok_bind] at nb ko ke
  have le2 := le1.trans l1
  refine h2 F2 O H2 σ _ hf2 (he.mono le2) (R.bind_nb nb) (fun c v2 F3 H3 e2 l2 hf3 r2 => ?_) (fun c' p d' F' H' e' le hf' hd => ke c' p d' F' H' (by rw [e']; rfl) (le2.trans le) hf' hd)
  rw [e2, R.ok_bind] at nb ko ke
  have le3 := le2.trans l2
  refine h3 F3 O H3 σ _ hf3 (he.mono le3) (R.bind_nb nb) (fun d v3 F4 H4 e3 l3 hf4 r3 => ?_) (fun c' p d' F' H' e' le hf' hd => ke c' p d' F' H' (by rw [e']; rfl) (le3.trans le) hf' hd)
  rw [e3, R.ok_bind] at nb ko ke
  have le4 := le3.trans l3
  refine h4 F4 O H4 σ _ hf4 (he.mono le4) (R.bind_nb nb) (fun e v4 F5 H5 e4 l4 hf5 r4 => ?_) (fun c' p d' F' H' e' le hf' hd => ke c' p d' F' H' (by rw [e']; rfl) (le4.trans le) hf' hd)
  rw [e4, R.ok_bind] at nb ko ke
  have le5 := le4.trans l4
  exact ⟨rfl, F5, O, _, (g a b c d e).map toD, hf5, (.cons (Dr.mono l4 (Dr.mono l3 (Dr.mono l2 (Dr.mono l1 r0)))) (.cons (Dr.mono l4 (Dr.mono l3 (Dr.mono l2 r1))) (.cons (Dr.mono l4 (Dr.mono l3 r2)) (.cons (Dr.mono l4 r3) (.cons r4 .nil))))), ⟨a, b, c, d, e, rfl, rfl⟩, map_nb nb, fun d' v F' H' e' le hf' hr => by
    obtain ⟨y, ey, ed⟩ := map_okd e'
    subst ed
    exact ko y v F' H' ey (le5.trans le) hf' hr, fun c' p d' F' H' e' le hf' hd => ke c' p d' F' H' (map_erd e') (le5.trans le) hf' hd⟩
theorem em_callP5 {cf : Cf} {E : XK} {G : List Sl} {t0 t1 t2 t3 t4 : TE} {m0 : R α} {m1 : R β} {m2 : R γ} {m3 : R δ} {m4 : R ε} {g : α → β → γ → δ → ε → R τ} (h0 : EM cf E t0 G m0) (h1 : EM cf E t1 G m1) (h2 : EM cf E t2 G m2) (h3 : EM cf E t3 G m3) (h4 : EM cf E t4 G m4) : EM cf E (tCall (SpX cf 5 (sp5 g)) [] E0 (tCons t0 (tCons t1 (tCons t2 (tCons t3 (tCons t4 tNil)))))) G (m0.bind fun a => m1.bind fun b => m2.bind fun c => m3.bind fun d => m4.bind fun e => (g a b c d e).pu) := fun F O H σ Q hf he nb ko ke => by
  have le0 : Le F F := Le.refl F
  refine h0 F O H σ _ hf (he.mono le0) (R.bind_nb nb) (fun a v0 F1 H1 e0 l0 hf1 r0 => ?_) (fun c' p d' F' H' e' le hf' hd => ke c' p d' F' H' (by rw [e']; rfl) (le0.trans le) hf' hd)
  rw [e0, R.ok_bind] at nb ko ke
  have le1 := le0.trans l0
  refine h1 F1 O H1 σ _ hf1 (he.mono le1) (R.bind_nb nb) (fun b v1 F2 H2 e1 l1 hf2 r1 => ?_) (fun c' p d' F' H' e' le hf' hd => ke c' p d' F' H' (by rw [e']; rfl) (le1.trans le) hf' hd)
  rw [e1, R.ok_bind] at nb ko ke
  have le2 := le1.trans l1
  refine h2 F2 O H2 σ _ hf2 (he.mono le2) (R.bind_nb nb) (fun c v2 F3 H3 e2 l2 hf3 r2 => ?_) (fun c' p d' F' H' e' le hf' hd => ke c' p d' F' H' (by rw [e']; rfl) (le2.trans le) hf' hd)
  rw [e2, R.ok_bind] at nb ko ke
  have le3 := le2.trans l2
  refine h3 F3 O H3 σ _ hf3 (he.mono le3) (R.bind_nb nb) (fun d v3 F4 H4 e3 l3 hf4 r3 => ?_) (fun c' p d' F' H' e' le hf' hd => ke c' p d' F' H' (by rw [e']; rfl) (le3.trans le) hf' hd)
  rw [e3, R.ok_bind] at nb ko ke
  have le4 := le3.trans l3
  refine h4 F4 O H4 σ _ hf4 (he.mono le4) (R.bind_nb nb) (fun e v4 F5 H5 e4 l4 hf5 r4 => ?_) (fun c' p d' F' H' e' le hf' hd => ke c' p d' F' H' (by rw [e']; rfl) (le4.trans le) hf' hd)
  rw [e4, R.ok_bind] at nb ko ke
  have le5 := le4.trans l4
  obtain ⟨y, ey⟩ := pu_nb nb
  exact ⟨rfl, F5, O, _, .ok (toD y), hf5, (.cons (Dr.mono l4 (Dr.mono l3 (Dr.mono l2 (Dr.mono l1 r0)))) (.cons (Dr.mono l4 (Dr.mono l3 (Dr.mono l2 r1))) (.cons (Dr.mono l4 (Dr.mono l3 r2)) (.cons (Dr.mono l4 r3) (.cons r4 .nil))))), ⟨a, b, c, d, e, rfl, by rw [ey]; rfl⟩, fun z => (nomatch z), fun d' v F' H' e' le hf' hr => by
    cases e'
    exact ko y v F' H' (by rw [ey]; rfl) (le5.trans le) hf' hr, fun _ _ _ _ _ z => (nomatch z)⟩
theorem fnX5 {P : Program} {w : World} {cf : Cf} {mg : Str → Option Value} {base : Heap} {x qual : Str} {st : Stmt} {f0 : Addr} {fd : FuncData} {N ps : List Str} {k : Nat} {S : Type} {enc : S → List Sl} (F : Fun cf.K x qual st f0 fd) (sc : FnScope N ps (defScope st)) (hp : ps.length = 5) (g : α → β → γ → δ → ε → R (Fl S τ))
    (G0 : α → β → γ → δ → ε → List Sl) (hG : ∀ a b c d e, [.va (toD a), .va (toD b), .va (toD c), .va (toD d), .va (toD e)] ++ List.replicate (N.length - 5) .un = G0 a b c d e)
    (h : ∀ (cdv : Value) (A : Around) (outer : List Env) (s : Shared) (H : Hp) (E : XK), Room k (A.deeper (envOfC qual (defScope st) s.heap.objs.size f0 cdv)) →
      ∃ t, PSs (cxOf (L2.CX P w) P w cf.K mg base N qual (defScope st) f0 cdv A outer s H E) (defBody st) t ∧ ∀ a b c d e, SB cf E t (G0 a b c d e) enc (g a b c d e)) :
    FnOk P w cf.K mg base (L2.CX P w) (k + 1) f0 fd ps (SpX cf 5 (sp5 fun a b c d e => finR (g a b c d e))) := by
  refine F.okX sc (SpX.len hp) (fun cdv A outer s H vs Q E hr hq => ?_)
  obtain ⟨t, ht, hb⟩ := h cdv A outer s H E hr
  refine ⟨t, ht, run_ofX (ρ := τ) (S := S) (enc := enc) hq fun ds r hs nb => ?_⟩
  obtain ⟨a, b, c, d, e, rfl, er⟩ := hs
  exact ⟨g a b c d e, by have q := hb a b c d e; rw [← hG] at q; exact q, er⟩
end

section
variable {α β γ δ ε ζ τ : Type} [Enc α] [Enc β] [Enc γ] [Enc δ] [Enc ε] [Enc ζ] [Enc τ]
theorem em_callX6 {cf : Cf} {E : XK} {G : List Sl} {t0 t1 t2 t3 t4 t5 : TE} {m0 : R α} {m1 : R β} {m2 : R γ} {m3 : R δ} {m4 : R ε} {m5 : R ζ} {g : α → β → γ → δ → ε → ζ → R τ} (h0 : EM cf E t0 G m0) (h1 : EM cf E t1 G m1) (h2 : EM cf E t2 G m2) (h3 : EM cf E t3 G m3) (h4 : EM cf E t4 G m4) (h5 : EM cf E t5 G m5) : EM cf E (tCall (SpX cf 6 (sp6 g)) [] E (tCons t0 (tCons t1 (tCons t2 (tCons t3 (tCons t4 (tCons t5 tNil))))))) G (m0.bind fun a => m1.bind fun b => m2.bind fun c => m3.bind fun d => m4.bind fun e => m5.bind fun f => g a b c d e f) := fun F O H σ Q hf he nb ko ke => by
  have le0 : Le F F := Le.refl F
  refine h0 F O H σ _ hf (he.mono le0) (R.bind_nb nb) (fun a v0 F1 H1 e0 l0 hf1 r0 => ?_) (fun c' p d' F' H' e' le hf' hd => ke c' p d' F' H' (by rw [e']; rfl) (le0.trans le) hf' hd)
  rw [e0, R.ok_bind] at nb ko ke
  have le1 := le0.trans l0
  refine h1 F1 O H1 σ _ hf1 (he.mono le1) (R.bind_nb nb) (fun b v1 F2 H2 e1 l1 hf2 r1 => ?_) (fun c' p d' F' H' e' le hf' hd => ke c' p d' F' H' (by rw [e']; rfl) (le1.trans le) hf' hd)
  rw [e1, R.ok_bind] at nb ko ke
  have le2 := le1.trans l1
  refine h2 F2 O H2 σ _ hf2 (he.mono le2) (R.bind_nb nb) (fun c v2 F3 H3 e2 l2 hf3 r2 => ?_) (fun c' p d' F' H' e' le hf' hd => ke c' p d' F' H' (by rw [e']; rfl) (le2.trans le) hf' hd)
  rw [e2, R.ok_bind] at nb ko ke
  have le3 := le2.trans l2
  refine h3 F3 O H3 σ _ hf3 (he.mono le3) (R.bind_nb nb) (fun d v3 F4 H4 e3 l3 hf4 r3 => ?_) (fun c' p d' F' H' e' le hf' hd => ke c' p d' F' H' (by rw [e']; rfl) (le3.trans le) hf' hd)
  rw [e3, R.ok_bind] at nb ko ke
  have le4 := le3.trans l3
  refine h4 F4 O H4 σ _ hf4 (he.mono le4) (R.bind_nb nb) (fun e v4 F5 H5 e4 l4 hf5 r4 => ?_) (fun c' p d' F' H' e' le hf' hd => ke c' p d' F' H' (by rw [e']; rfl) (le4.trans le) hf' hd)
  rw [e4, R.ok_bind] at nb ko ke
  have le5 := le4.trans l4
  refine h5 F5 O H5 σ _ hf5 (he.mono le5) (R.bind_nb nb) (fun f v5 F6 H6 e5 l5 hf6 r5 => ?_) (fun c' p d' F' H' e' le hf' hd => ke c' p d' F' H' (by rw [e']; rfl) (le5.trans le) hf' hd)
  rw [e5, R.ok_bind] at nb ko ke
  have le6 := le5.trans l5
  exact ⟨rfl, F6, O, _, (g a b c d e f).map toD, hf6, (.cons (Dr.mono l5 (Dr.mono l4 (Dr.mono l3 (Dr.mono l2 (Dr.mono l1 r0))))) (.cons (Dr.mono l5 (Dr.mono l4 (Dr.mono l3 (Dr.mono l2 r1)))) (.cons (Dr.mono l5 (Dr.mono l4 (Dr.mono l3 r2))) (.cons (Dr.mono l5 (Dr.mono l4 r3)) (.cons (Dr.mono l5 r4) (.cons r5 .nil)))))), ⟨a, b, c, d, e, f, rfl, rfl⟩, map_nb nb, fun d' v F' H' e' le hf' hr => by
    obtain ⟨y, ey, ed⟩ := map_okd e'
    subst ed
    exact ko y v F' H' ey (le6.trans le) hf' hr, fun c' p d' F' H' e' le hf' hd => ke c' p d' F' H' (map_erd e') (le6.trans le) hf' hd⟩
theorem em_callP6 {cf : Cf} {E : XK} {G : List Sl} {t0 t1 t2 t3 t4 t5 : TE} {m0 : R α} {m1 : R β} {m2 : R γ} {m3 : R δ} {m4 : R ε} {m5 : R ζ} {g : α → β → γ → δ → ε → ζ → R τ} (h0 : EM cf E t0 G m0) (h1 : EM cf E t1 G m1) (h2 : EM cf E t2 G m2) (h3 : EM cf E t3 G m3) (h4 : EM cf E t4 G m4) (h5 : EM cf E t5 G m5) : EM cf E (tCall (SpX cf 6 (sp6 g)) [] E0 (tCons t0 (tCons t1 (tCons t2 (tCons t3 (tCons t4 (tCons t5 tNil))))))) G (m0.bind fun a => m1.bind fun b => m2.bind fun c => m3.bind fun d => m4.bind fun e => m5.bind fun f => (g a b c d e f).pu) := fun F O H σ Q hf he nb ko ke => by
  have le0 : Le F F := Le.refl F
  refine h0 F O H σ _ hf (he.mono le0) (R.bind_nb nb) (fun a v0 F1 H1 e0 l0 hf1 r0 => ?_) (fun c' p d' F' H' e' le hf' hd => ke c' p d' F' H' (by rw [e']; rfl) (le0.trans le) hf' hd)
  rw [e0, R.ok_bind] at nb ko ke
  have le1 := le0.trans l0
  refine h1 F1 O H1 σ _ hf1 (he.mono le1) (R.bind_nb nb) (fun b v1 F2 H2 e1 l1 hf2 r1 => ?_) (fun c' p d' F' H' e' le hf' hd => ke c' p d' F' H' (by rw [e']; rfl) (le1.trans le) hf' hd)
  rw [e1, R.ok_bind] at nb ko ke
  have le2 := le1.trans l1
  refine h2 F2 O H2 σ _ hf2 (he.mono le2) (R.bind_nb nb) (fun c v2 F3 H3 e2 l2 hf3 r2 => ?_) (fun c' p d' F' H' e' le hf' hd => ke c' p d' F' H' (by rw [e']; rfl) (le2.trans le) hf' hd)
  rw [e2, R.ok_bind] at nb ko ke
  have le3 := le2.trans l2
  refine h3 F3 O H3 σ _ hf3 (he.mono le3) (R.bind_nb nb) (fun d v3 F4 H4 e3 l3 hf4 r3 => ?_) (fun c' p d' F' H' e' le hf' hd => ke c' p d' F' H' (by rw [e']; rfl) (le3.trans le) hf' hd)
  rw [e3, R.ok_bind] at nb ko ke
  have le4 := le3.trans l3
  refine h4 F4 O H4 σ _ hf4 (he.mono le4) (R.bind_nb nb) (fun e v4 F5 H5 e4 l4 hf5 r4 => ?_) (fun c' p d' F' H' e' le hf' hd => ke c' p d' F' H' (by rw [e']; rfl) (le4.trans le) hf' hd)
  rw [e4, R.ok_bind] at nb ko ke
  have le5 := le4.trans l4
  refine h5 F5 O H5 σ _ hf5 (he.mono le5) (R.bind_nb nb) (fun f v5 F6 H6 e5 l5 hf6 r5 => ?_) (fun c' p d' F' H' e' le hf' hd => ke c' p d' F' H' (by rw [e']; rfl) (le5.trans le) hf' hd)
  rw [e5, R.ok_bind] at nb ko ke
  have le6 := le5.trans l5
  obtain ⟨y, ey⟩ := pu_nb nb
  exact ⟨rfl, F6, O, _, .ok (toD y), hf6, (.cons (Dr.mono l5 (Dr.mono l4 (Dr.mono l3 (Dr.mono l2 (Dr.mono l1 r0))))) (.cons (Dr.mono l5 (Dr.mono l4 (Dr.mono l3 (Dr.mono l2 r1)))) (.cons (Dr.mono l5 (Dr.mono l4 (Dr.mono l3 r2))) (.cons (Dr.mono l5 (Dr.mono l4 r3)) (.cons (Dr.mono l5 r4) (.cons r5 .nil)))))), ⟨a, b, c, d, e, f, rfl, by rw [ey]; rfl⟩, fun z => (nomatch z), fun d' v F' H' e' le hf' hr => by
    cases e'
    exact ko y v F' H' (by rw [ey]; rfl) (le6.trans le) hf' hr, fun _ _ _ _ _ z => (nomatch z)⟩
theorem fnX6 {P : Program} {w : World} {cf : Cf} {mg : Str → Option Value} {base : Heap} {x qual : Str} {st : Stmt} {f0 : Addr} {fd : FuncData} {N ps : List Str} {k : Nat} {S : Type} {enc : S → List Sl} (F : Fun cf.K x qual st f0 fd) (sc : FnScope N ps (defScope st)) (hp : ps.length = 6) (g : α → β → γ → δ → ε → ζ → R (Fl S τ))
    (G0 : α → β → γ → δ → ε → ζ → List Sl) (hG : ∀ a b c d e f, [.va (toD a), .va (toD b), .va (toD c), .va (toD d), .va (toD e), .va (toD f)] ++ List.replicate (N.length - 6) .un = G0 a b c d e f)
    (h : ∀ (cdv : Value) (A : Around) (outer : List Env) (s : Shared) (H : Hp) (E : XK), Room k (A.deeper (envOfC qual (defScope st) s.heap.objs.size f0 cdv)) →
      ∃ t, PSs (cxOf (L2.CX P w) P w cf.K mg base N qual (defScope st) f0 cdv A outer s H E) (defBody st) t ∧ ∀ a b c d e f, SB cf E t (G0 a b c d e f) enc (g a b c d e f)) :
    FnOk P w cf.K mg base (L2.CX P w) (k + 1) f0 fd ps (SpX cf 6 (sp6 fun a b c d e f => finR (g a b c d e f))) := by
  refine F.okX sc (SpX.len hp) (fun cdv A outer s H vs Q E hr hq => ?_)
  obtain ⟨t, ht, hb⟩ := h cdv A outer s H E hr
  refine ⟨t, ht, run_ofX (ρ := τ) (S := S) (enc := enc) hq fun ds r hs nb => ?_⟩
  obtain ⟨a, b, c, d, e, f, rfl, er⟩ := hs
  exact ⟨g a b c d e f, by have q := hb a b c d e f; rw [← hG] at q; exact q, er⟩
end
/-! ### what the text says of an error class -/
structure XErr (P : Program) (w : World) (cf : Cf) (mg : Str → Option Value) (base : Heap) (c : Nat) (x : Str) where
  fI : Addr
  fd : FuncData
  T : OexC cf.K (cf.cls c)
  iC : PySem.W.findIn cf.K (.ref (cf.cls c)) "__init__" = some (some (.ref fI))
  tI : PySem.W.typeIn cf.K (.ref fI) = some (.type "function")
  F1 : FnOk P w cf.K mg base CX0 2 fI fd ["self", "place"] (SpE (cf.cls c) (cf.nm c))
  hb : Binds cf.K fd ["self", "place"] []
  hm : mg x = some (.ref (cf.cls c))
end Kr

/-! KrN: bits of numbers. -/
namespace Kr
open PySem PySem.Spec PyProof.Rows L2
open Enc (toD)
theorem pw_nat (k : Nat) : ((2 ^ k : Nat) : Int) = 2 ^ k := by simp
theorem pw_le {n m : Nat} (h : n ≤ m) : (2 : Int) ^ n ≤ 2 ^ m := by
  rw [← pw_nat, ← pw_nat]
  exact Int.ofNat_le.mpr (Nat.pow_le_pow_right (by decide) h)
/-! ### bits -/
def bw (w v : Int) : List Int := (seqI 0 w.toNat).map fun j => v / 2 ^ (w - 1 - j).toNat % 2
theorem and_one (x : Int) (h : 0 ≤ x) : Builtin.bitAnd x 1 = x % 2 := by
  unfold Builtin.bitAnd
  rw [decide_eq_true h, decide_eq_true (show (0 : Int) ≤ 1 by decide)]
  show ((x.toNat &&& (1 : Int).toNat : Nat) : Int) = x % 2
  rw [show (1 : Int).toNat = 1 from rfl, Nat.and_one_is_mod]
  omega
theorem seqC_down (w : Int) (h : 0 ≤ w) : seqC (w - 1) (-1) w.toNat = (seqI 0 w.toNat).map fun j => w - 1 - j := by
  unfold seqC seqI
  rw [List.map_map]
  refine List.map_congr_left fun i _ => ?_
  show w - 1 + (i : Int) * -1 = w - 1 - (0 + (i : Int))
  omega
theorem bw_len (w v : Int) : (bw w v).length = w.toNat := by
  unfold bw
  rw [List.length_map, seqI_len]
theorem bw_get (w v : Int) (j : Nat) (h : j < (bw w v).length) : (bw w v)[j] = v / 2 ^ (w - 1 - (j : Int)).toNat % 2 := by
  simp only [bw, List.getElem_map]
  rw [seqI_at (by rw [bw_len] at h; rw [seqI_len]; exact h), show (0 : Int) + (j : Int) = j by omega]
theorem bw_bit (w v : Int) : ∀ x ∈ bw w v, x = 0 ∨ x = 1 := fun x hx => by
  unfold bw at hx
  obtain ⟨j, _, rfl⟩ := List.mem_map.mp hx
  omega
theorem bw_snoc (w v : Int) (h : 0 ≤ w) : bw (w + 1) v = bw w (v / 2) ++ [v % 2] := by
  refine List.ext_getElem (by rw [List.length_append, bw_len, bw_len]; simp; omega) fun j h1 h2 => ?_
  rw [bw_get]
  rw [bw_len] at h1
  by_cases hj : j < (bw w (v / 2)).length
  · rw [List.getElem_append_left hj, bw_get]
    rw [bw_len] at hj
    rw [Int.ediv_ediv_of_nonneg (show (0 : Int) ≤ 2 by decide), show (w + 1 - 1 - (j : Int)).toNat = (w - 1 - (j : Int)).toNat + 1 by omega, Int.pow_succ, Int.mul_comm]
  · rw [List.getElem_append_right (by omega)]
    rw [bw_len] at hj
    rw [show (w + 1 - 1 - (j : Int)).toNat = 0 by omega]
    simp
theorem bw_inj : ∀ (n : Nat) (x y : Int), 0 ≤ x → x < 2 ^ n → 0 ≤ y → y < 2 ^ n → bw n x = bw n y → x = y
  | 0, x, y, h1, h2, h3, h4, _ => by
    have : (2 : Int) ^ 0 = 1 := rfl
    omega
  | n + 1, x, y, h1, h2, h3, h4, e => by
    have hp : (2 : Int) ^ (n + 1) = 2 ^ n * 2 := Int.pow_succ ..
    rw [show ((n + 1 : Nat) : Int) = (n : Int) + 1 by omega, bw_snoc _ _ (by omega), bw_snoc _ _ (by omega)] at e
    obtain ⟨e1, e2⟩ := List.append_inj' e rfl
    have := bw_inj n (x / 2) (y / 2) (by omega) (by omega) (by omega) (by omega) e1
    injection e2 with e2
    omega
theorem bw_take (n m : Nat) (v : Int) : (bw ((n + m : Nat) : Int) v).take n = bw n (v / 2 ^ m) := by
  refine List.ext_getElem (by rw [List.length_take, bw_len, bw_len]; omega) fun j h1 h2 => ?_
  rw [List.getElem_take, bw_get, bw_get]
  rw [bw_len] at h2
  rw [Int.ediv_ediv_of_nonneg (Int.le_of_lt (Int.pow_pos (by decide))), ← Int.pow_add, show (((n + m : Nat) : Int) - 1 - (j : Int)).toNat = m + ((n : Int) - 1 - (j : Int)).toNat by omega]
/-- the number of a list of bits -/
def vl (xs : List Int) : Int := xs.foldl (fun v b => 2 * v + b) 0
theorem vl_snoc (xs : List Int) (b : Int) : vl (xs ++ [b]) = 2 * vl xs + b := by
  unfold vl
  rw [List.foldl_append]
  rfl
theorem vl_bw : ∀ (n : Nat) (v : Int), 0 ≤ v → v < 2 ^ n → vl (bw n v) = v
  | 0, v, h1, h2 => by
    have : (2 : Int) ^ 0 = 1 := rfl
    have e : v = 0 := by omega
    subst e
    rfl
  | n + 1, v, h1, h2 => by
    have hp : (2 : Int) ^ (n + 1) = 2 ^ n * 2 := Int.pow_succ ..
    rw [show ((n + 1 : Nat) : Int) = (n : Int) + 1 by omega, bw_snoc _ _ (by omega), vl_snoc, vl_bw n (v / 2) (by omega) (by omega)]
    omega
/-- the bit above the others -/
theorem bw_cons (n : Nat) (v : Int) : bw ((n + 1 : Nat) : Int) v = (v / 2 ^ n % 2) :: bw n v := by
  refine List.ext_getElem (by rw [List.length_cons, bw_len, bw_len]; omega) fun j h1 h2 => ?_
  rw [bw_get]
  cases j with
  | zero =>
    rw [List.getElem_cons_zero, show (((n + 1 : Nat) : Int) - 1 - ((0 : Nat) : Int)).toNat = n by omega]
  | succ j =>
    rw [List.getElem_cons_succ, bw_get, show (((n + 1 : Nat) : Int) - 1 - ((j + 1 : Nat) : Int)).toNat = ((n : Int) - 1 - (j : Int)).toNat by omega]
theorem bw_mod : ∀ (n : Nat) (v : Int), bw n (v % 2 ^ n) = bw n v
  | 0, v => rfl
  | n + 1, v => by
    have hp : (2 : Int) ^ (n + 1) = 2 * 2 ^ n := by rw [Int.pow_succ, Int.mul_comm]
    have h2 : (0 : Int) < 2 ^ n := Int.pow_pos (by decide)
    rw [show ((n + 1 : Nat) : Int) = (n : Int) + 1 by omega, bw_snoc _ _ (by omega), bw_snoc _ _ (by omega)]
    have e1 : v % 2 ^ (n + 1) % 2 = v % 2 := by
      rw [hp]
      exact Int.emod_emod_of_dvd v (Int.dvd_mul_right 2 (2 ^ n))
    have e2 : v % 2 ^ (n + 1) / 2 = v / 2 % 2 ^ n := by
      rw [hp]
      have a1 := Int.emod_add_mul_ediv v (2 * 2 ^ n)
      have a2 := Int.emod_add_mul_ediv (v / 2) (2 ^ n)
      have a3 : v / (2 * 2 ^ n) = v / 2 / 2 ^ n := (Int.ediv_ediv_of_nonneg (by decide)).symm
      rw [a3] at a1
      have a4 : 2 * 2 ^ n * (v / 2 / 2 ^ n) = 2 * (2 ^ n * (v / 2 / 2 ^ n)) := by rw [Int.mul_assoc]
      rw [a4] at a1
      generalize 2 ^ n * (v / 2 / 2 ^ n) = q at *
      omega
    rw [e1, e2, bw_mod n]
theorem and_low (x : Int) (n : Nat) (h : 0 ≤ x) : Builtin.bitAnd x (1 * 2 ^ n - 1) = x % 2 ^ n := by
  have h2 : (0 : Int) < 2 ^ n := Int.pow_pos (by decide)
  unfold Builtin.bitAnd
  rw [decide_eq_true h, decide_eq_true (show (0 : Int) ≤ 1 * 2 ^ n - 1 by omega)]
  show ((x.toNat &&& (1 * 2 ^ n - 1 : Int).toNat : Nat) : Int) = x % 2 ^ n
  have e : (1 * 2 ^ n - 1 : Int).toNat = 2 ^ n - 1 := by
    rw [Int.one_mul, ← pw_nat]
    omega
  rw [e, Nat.and_two_pow_sub_one_eq_mod, Int.natCast_emod, pw_nat]
  rw [Int.toNat_of_nonneg h]
/-- the number of bits -/
theorem wd_of {n : Int} (h : 1 ≤ n) : ∃ w : Nat, (Builtin.Int.intBits n : Int) = w ∧ 1 ≤ w ∧ (2 : Int) ^ (w - 1) ≤ n ∧ n < 2 ^ w := by
  refine ⟨n.natAbs.log2 + 1, ?_, by omega, ?_, ?_⟩
  · unfold Builtin.Int.intBits
    rw [beq_eq_false_iff_ne.mpr (show n ≠ 0 by omega)]
    rfl
  · have := Nat.log2_self_le (n := n.natAbs) (by omega)
    rw [Nat.add_sub_cancel, ← pw_nat]
    omega
  · have := Nat.lt_log2_self (n := n.natAbs)
    rw [← pw_nat]
    omega
theorem wd_uniq {n : Int} {w u : Nat} (h1 : (2 : Int) ^ (w - 1) ≤ n) (h2 : n < 2 ^ w) (h3 : (2 : Int) ^ (u - 1) ≤ n) (h4 : n < 2 ^ u) (hw : 1 ≤ w) (hu : 1 ≤ u) : w = u := by
  rcases Nat.lt_trichotomy w u with h | h | h
  · have := pw_le (show w ≤ u - 1 by omega)
    omega
  · exact h
  · have := pw_le (show u ≤ w - 1 by omega)
    omega
end Kr

/-! KrZ: try with several clauses, each with or without a name. -/
namespace Kr
open PySem PySem.Spec PyProof.Rows L2
/-- the ends behind a named clause: the name is gone -/
def gone (D : Ends) (i : Nat) : Ends := { nx := fun σ' H' => D.nx (σ'.set i none) H', rt := D.rt, bk := fun σ' H' => D.bk (σ'.set i none) H', ct := fun σ' H' => D.ct (σ'.set i none) H' }
abbrev Clz : Type := Value × Option Nat × (Addr → Value → Option Addr → TS)
def wA (K : PySem.W.Frag) (Wout : WX) (D : Ends) : List Clz → WX
  | [] => Wout
  | (c, o, ts) :: r => fun cls d σ H => ∃ b, PySem.W.exmOne K cls c = some b ∧ (b = true → ∀ a, H a = none → match o with
      | none => ts a cls d D σ H
      | some i => ts a cls d (gone D i) (σ.set i (some (.ref a))) H) ∧ (b = false → wA K Wout D r cls d σ H)
inductive HdsA (X : Cx) : List ExceptHandler → List Clz → Prop
  | nil : HdsA X [] []
  | plain {x : Str} {c : Value} {ts : Addr → Value → Option Addr → TS} {b₀ : Stmt} {more : List Stmt} {np pos' : Pos} {hds : List ExceptHandler} {l : List Clz} (hc : Names X x c)
      (hsu : ∀ (a : Addr) (oe : Obj) (cls : Value) (d : Option Addr) (pn : List (Addr × Obj)), Zc cls d oe → (∃ vs, oe.data = .fields vs) → PSs (X.suite a ((a, oe) :: pn)) (b₀ :: more) (ts a cls d)) (r : HdsA X hds l) :
      HdsA X (.ExceptHandler (some (.Name x np)) none (b₀ :: more) pos' :: hds) ((c, none, ts) :: l)
  | named {x n : Str} {i : Nat} {c : Value} {ts : Addr → Value → Option Addr → TS} {b₀ : Stmt} {more : List Stmt} {np pos' : Pos} {hds : List ExceptHandler} {l : List Clz} (hc : Names X x c) (hi : X.N[i]? = some n) (hln : X.env.kindOf n = some .local)
      (hsu : ∀ (a : Addr) (oe : Obj) (cls : Value) (d : Option Addr) (pn : List (Addr × Obj)), Zc cls d oe → (∃ vs, oe.data = .fields vs) → PSs (X.suite a ((a, oe) :: pn)) (b₀ :: more) (ts a cls d)) (r : HdsA X hds l) :
      HdsA X (.ExceptHandler (some (.Name x np)) (some n) (b₀ :: more) pos' :: hds) ((c, some i, ts) :: l)
section
variable {X : Cx} {body : List Stmt} {h₀ : ExceptHandler} {hds : List ExceptHandler} {l : List Clz} {pos : Pos} {tb : WX → TS} {Wout : WX}
theorem ps_try_all (hs : X.stack = X.env :: X.outer) (hf : X.env.frame = some X.env.locals) (hN : X.N.Nodup) (tk : Takes X Wout)
    (hb : ∀ (W : WX) (pn : List (Addr × Obj)) (xe : Value → Shared → Prop), Takes (X.tr pn xe) W → PassesOwn (model X.prog X.w) X.A X.env xe → PSs (X.tr pn xe) body (tb W))
    (hh : HdsA X (h₀ :: hds) l) : PS X (.Try body (h₀ :: hds) [] [] pos) (fun D σ H => tb (wA X.K Wout D l) D σ H) := by
  refine ⟨fun pins s σ H D I h => ?_⟩
  have ok := I.ok
  have hfr : X.A.frames = some (X.env :: X.outer) := by rw [ok.frames, hs]
  refine wpAny_Try_except ?_
  let xe0 : Value → Shared → Prop := fun e s₁ => wpAny (model X.prog X.w) X.A (noteFrame e X.env) (fun _ s₂ => wpAny (model X.prog X.w) X.A (setFlight e none) (fun _ s₃ => wpAny (model X.prog X.w) X.A (handleBy e X.env (h₀ :: hds)) (L2.SP X pins D) X.xe s₃) X.xe s₂) X.xe s₁
  refine wpAny_mono ((hb (wA X.K Wout D l) (X.pn ++ pins) xe0 (fun u s' xx => ?_) PassesOwn.looking).run [] s σ H D (I.toTry _) h) (fun f s1 hsp => ?_) (fun e s1 he => he)
  · obtain ⟨a, B, sI, pins', σ', H', cls, d, rfl, J', nb, up, sky, na, os, ag, w⟩ := xx
    have J : L2.Inv X pins σ' H' sI := J'.ofTry ok
    have sk2 : Sky B (X.env :: X.outer) a (Zc cls d) X.env.locals s'.heap := by rw [← hs]; exact sky
    show wpAny (model X.prog X.w) X.A (noteFrame (.ref a) X.env) _ _ _
    refine Sky.land Zc.steady hfr hf sk2 fun h3 fl3 up3 => ?_
    have J3 : L2.Inv X pins σ' H' { s' with heap := h3 } := J.landed nb fl3.1 (up.trans up3) os ag
    obtain ⟨oe3, vs3, he3, hz3, hd3⟩ := fl3.there
    have nfr : a ∉ frs (X.env :: X.outer) := fun hm => by
      obtain ⟨_, o', e', hnf⟩ := (fl3.2.2.1).mem hm
      rw [he3] at e'
      cases e'
      exact hnf _ hd3
    have nL : a ≠ X.env.locals := fun z => nfr (List.mem_filterMap.mpr ⟨X.env, List.mem_cons_self, by rw [hf, z]⟩)
    have nF : a ∉ X.fs := fun hm => by
      obtain ⟨e, he, q⟩ := List.mem_filterMap.mp hm
      exact nfr (List.mem_filterMap.mpr ⟨e, List.mem_cons_of_mem _ he, q⟩)
    have S3 := J3.suite he3 hd3 na nL nF
    have LT : PySem.W.Looks (model X.prog X.w) h3 (typeOf (.ref a)) cls := fun A Q E s k q => wpAny_typeOf_ref (k _ _ he3) (by rw [hz3.1]; exact q)
    have test : ∀ {x : Str} {c : Value} {np : Pos} {Q : Value → Shared → Prop} {E : Value → Shared → Prop}, Names X x c → Q c { s' with heap := h3 } → wpAny (model X.prog X.w) (X.A.mark (some (.ref a))) (eval (.Name x np) X.env) Q E { s' with heap := h3 } := fun hc q => by
      obtain ⟨hg, hdbg, hm | ⟨hm, hv, hnn⟩⟩ := hc
      · exact ld_glob (X := X.suite a ((a, oe3) :: (X.pn ++ pins))) S3 hg hm q hdbg
      · exact ld_blt (X := X.suite a ((a, oe3) :: (X.pn ++ pins))) S3 hg hm hv q hnn hdbg
    have go : ∀ {hds' : List ExceptHandler} {l' : List Clz}, HdsA X hds' l' → wA X.K Wout D l' cls d σ' H' →
        wpAny (model X.prog X.w) X.A (handleBy (.ref a) X.env hds') (L2.SP X pins D) X.xe { s' with heap := h3 } := by
      intro hds' l' hk
      induction hk with
      | nil =>
        intro w
        refine wpAny_handleBy_nil ?_
        obtain ⟨k1, k2, k3, oe, vs, T, oT, ts', he, hz, hd, h1, hr⟩ := id fl3
        unfold PySem.passOn
        refine wpAny_bind (wpAny_field he hd h1 ?_)
        rw [if_neg (show ¬ ((Value.ref T == Value.none) = true) from by simp)]
        have fin : wpAny (model X.prog X.w) X.A (setFlight (.ref a) X.env.frame) (fun _ s4 => wpAny (model X.prog X.w) X.A (throw (.ref a) : Sem Flow) (L2.SP X pins D) X.xe s4) X.xe { s' with heap := h3 } := by
          rw [hf]
          refine HandSPX.setFlight_upZ fl3 fun h4 hh4 up4 => wpAny_throw (tk _ _ ?_)
          exact ⟨a, B, sI, pins, σ', H', cls, d, rfl, J, nb, (up.trans up3).trans up4, .inr (.inr (by rw [hs]; exact hh4)), na, os, ag, w⟩
        first
          | exact wpAny_bind (wpAny_pure (wpAny_bind fin))
          | exact wpAny_bind fin
      | @plain x c ts b₀ more np pos' hds2 l2 hc hsu r ih =>
        intro w
        obtain ⟨b, hb1, hyes, hno⟩ := w
        refine wpAny_handleBy_cons (codeAny_handlers_test ?_) (by intro q; cases q)
        refine test hc ((PySem.W.exm_one (M := model X.prog X.w) J3.kIn LT hb1).here ?_)
        cases b with
        | true =>
          refine codeAny_handlers_suite ?_
          refine HandSPX.lands_againZ fl3 fun h4 fl4 up4 => ?_
          have J4 : L2.Inv X pins σ' H' { s' with heap := h4 } := J.landed nb fl4.1 ((up.trans up3).trans up4) os ag
          obtain ⟨oe4, vs4, he4, hz4, hd4⟩ := fl4.there
          refine wpAny_mono ((hsu a oe4 cls d (X.pn ++ pins) hz4 ⟨_, hd4⟩).run [] _ _ H' _ (J4.suite he4 hd4 na nL nF) (hyes rfl a na)) (fun f s6 hsp => ?_) (fun _ _ z => False.elim z)
          cases f with
          | ret u =>
            obtain ⟨v6, σ6, H6, S6, r6, q6⟩ := hsp
            exact ⟨_, _, _, S6.unsuite ok, r6, q6⟩
          | next => exact let ⟨_, _, S6, q6⟩ := hsp; ⟨_, _, S6.unsuite ok, q6⟩
          | brk => exact let ⟨_, _, S6, q6⟩ := hsp; ⟨_, _, S6.unsuite ok, q6⟩
          | cont => exact let ⟨_, _, S6, q6⟩ := hsp; ⟨_, _, S6.unsuite ok, q6⟩
        | false => exact ih (hno rfl)
      | @named x n i c ts b₀ more np pos' hds2 l2 hc hi hln hsu r ih =>
        intro w
        obtain ⟨b, hb1, hyes, hno⟩ := w
        refine wpAny_handleBy_cons (codeAny_handlers_test ?_) (by intro q; cases q)
        refine test hc ((PySem.W.exm_one (M := model X.prog X.w) J3.kIn LT hb1).here ?_)
        cases b with
        | true =>
          refine codeAny_handlers_suite_as ?_
          refine HandSPX.lands_againZ fl3 fun h4 fl4 up4 => ?_
          have J4 : L2.Inv X pins σ' H' { s' with heap := h4 } := J.landed nb fl4.1 ((up.trans up3).trans up4) os ag
          obtain ⟨oe4, vs4, he4, hz4, hd4⟩ := fl4.there
          refine store_ok (X := X.suite a ((a, oe4) :: (X.pn ++ pins))) (v := .ref a) (J4.suite he4 hd4 na nL nF) hN hi (.inl hln) rfl (fun s5 S5 => ?_) (.inr hln)
          refine wpAny_mono ((hsu a oe4 cls d (X.pn ++ pins) hz4 ⟨_, hd4⟩).run [] s5 _ H' _ S5 (hyes rfl a na)) (fun f s6 hsp => ?_) (fun _ _ z => False.elim z)
          have off : ∀ {σ6 : L2.St} {H6 : Hp} {Q : Shared → Prop}, L2.Inv (X.suite a ((a, oe4) :: (X.pn ++ pins))) [] σ6 H6 s6 → (∀ s7, L2.Inv X pins (σ6.set i none) H6 s7 → Q s7) →
              wpAny (model X.prog X.w) X.A (do bindName X.env n .none; unbindBehindTheSuite X.env n pos') (fun _ s7 => Q s7) X.xe s6 := fun {σ6 H6 Q} S6 hq => gone_ok (S6.unsuite ok) hN hi hln hq
          cases f with
          | ret u =>
            obtain ⟨v6, σ6, H6, S6, r6, q6⟩ := hsp
            exact off S6 fun s7 J7 => ⟨_, _, _, J7, r6, q6⟩
          | next => exact let ⟨_, _, S6, q6⟩ := hsp; off S6 fun s7 J7 => ⟨_, _, J7, q6⟩
          | brk => exact let ⟨_, _, S6, q6⟩ := hsp; off S6 fun s7 J7 => ⟨_, _, J7, q6⟩
          | cont => exact let ⟨_, _, S6, q6⟩ := hsp; off S6 fun s7 J7 => ⟨_, _, J7, q6⟩
        | false => exact ih (hno rfl)
    exact go hh w
  · cases f with
    | ret u =>
      obtain ⟨v, σ', H', J', r, q⟩ := hsp
      exact ⟨v, σ', H', J'.ofTry ok, r, q⟩
    | next => exact let ⟨_, _, J', q⟩ := hsp; wpAny_execs_nil ⟨_, _, J'.ofTry ok, q⟩
    | brk => exact let ⟨_, _, J', q⟩ := hsp; ⟨_, _, J'.ofTry ok, q⟩
    | cont => exact let ⟨_, _, J', q⟩ := hsp; ⟨_, _, J'.ofTry ok, q⟩
end
end Kr

/-! KrT: try by data. -/
namespace Kr
open PySem PySem.Spec PyProof.Rows L2
open Enc (toD)
/-- the outcome of a body, its errors taken by the suites -/
def tryR {S ρ : Type} (m : R (Fl S ρ)) (hs : Nat → Int → R (Fl S ρ)) : R (Fl S ρ) := match m with
  | .ok x => .ok x
  | .er c p => hs c p
  | .bad => .bad
section
variable {cf : Cf} {E : XK} {G : List Sl} {S ρ : Type} [Rs ρ] {enc : S → List Sl} {l : List Clz} {tb : WX → TS} {t : XK → TS} {m : R (Fl S ρ)} {hs : Nat → Int → R (Fl S ρ)}
/-- body: whatever is wished of its errors; the clauses: what they do with an error of the class c at the place p -/
theorem sb_try (hG : ∀ s ∈ G, (∃ t, s = .bo t) ∨ (s.own = false ∧ s.vol = false)) (hb : ∀ E', SB cf E' (t E') G enc m) (heq : ∀ W D σ H, tb W D σ H = t (fun cls d H' => W cls d σ H') D σ H)
    (hh : ∀ (c : Nat) (p : Int) (F O H : Hp) (σ : L2.St) (D : Ends) (d : Addr), Mt cf.K F O H σ G → F d = some (xdO cf c p) → hs c p ≠ .bad →
      (∀ s F' H' σ', hs c p = .ok (.nx s) → Le F F' → Mt cf.K F' O H' σ' (enc s) → D.nx σ' H') →
      (∀ s F' H' σ', hs c p = .ok (.bk s) → Le F F' → Mt cf.K F' O H' σ' (enc s) → D.bk σ' H') →
      (∀ r v F' H', hs c p = .ok (.rt r) → Le F F' → Fm F' O H' → Rs.res cf F' O H' v r → D.rt v H') →
      (∀ c' p' d' F' H', hs c p = .er c' p' → Le F F' → Fm F' O H' → F' d' = some (xdO cf c' p') → E (.ref (cf.cls c')) (some d') H') →
      wA cf.K (fun cls d σ H => E cls d H) D l (.ref (cf.cls c)) (some d) σ H) :
    SB cf E (fun D σ H => tb (wA cf.K (fun cls d σ H => E cls d H) D l) D σ H) G enc (tryR m hs) := fun F O H σ D hM nb kn kb kr ke => by
  have nb1 : m ≠ .bad := fun z => nb (by rw [z]; rfl)
  show tb _ D σ H
  rw [heq]
  refine hb _ F O H σ D hM nb1 (fun s F' H' σ' e => kn s F' H' σ' (by rw [e]; rfl)) (fun s F' H' σ' e => kb s F' H' σ' (by rw [e]; rfl)) (fun r v F' H' e => kr r v F' H' (by rw [e]; rfl)) fun c p d F' H' e le hf' hd => ?_
  have et : tryR m hs = hs c p := by rw [e]; rfl
  rw [et] at nb kn kb kr ke
  obtain ⟨O', lo, hf, he, fp, w⟩ := hM
  have hM' : Mt cf.K F' O H' σ G := by
    have he2 : Er cf.K F' O σ G := ⟨he.len, fun i s q => by
      have h1 := (he.at' i s q).mono le
      rcases hG s (List.mem_of_getElem? q) with ⟨t, rfl⟩ | ⟨h2, h3⟩
      · exact (w.bo i t q).mono le
      · cases s with
        | un => trivial
        | va d => exact h1
        | pv v => exact h1
        | ol ds => cases h2
        | od ds => cases h2
        | ow t => cases h2
        | bo t => cases h2
        | vo t => cases h3⟩
    refine ⟨O, Le.refl O, hf', he2, ows_none he2 fun s hs => ?_⟩
    rcases hG s hs with ⟨t, rfl⟩ | ⟨h2, h3⟩
    · exact ⟨fun _ z => (nomatch z), fun _ z => (nomatch z), fun _ z => (nomatch z)⟩
    · refine ⟨fun _ z => ?_, fun _ z => ?_, fun _ z => ?_⟩ <;> · rw [z] at h2; cases h2
  exact hh c p F' O H' σ D d hM' hd nb (fun s F'' H'' σ' e le' => kn s F'' H'' σ' e (le.trans le')) (fun s F'' H'' σ' e le' => kb s F'' H'' σ' e (le.trans le')) (fun r v F'' H'' e le' => kr r v F'' H'' e (le.trans le')) fun c' p' d' F'' H'' e le' => ke c' p' d' F'' H'' e (le.trans le')
end
/-- except X as n: return (n.name, n.place) -/
def tNP (i : Nat) (C : Addr) : Addr → Value → Option Addr → TS := fun a cls d => tRet (tTup (tCons (tXf a cls d C "name" (tVar i)) (tCons (tXf a cls d C "place" (tVar i)) tNil)))
theorem np_ret {cf : Cf} {G : List Sl} {F O H : Hp} {σ : L2.St} {D : Ends} {c i : Nat} {p : Int} {a d : Addr} (hM : Mt cf.K F O H σ G) (hd : F d = some (xdO cf c p)) (hi : i < G.length)
    (kr : ∀ v F' H', Le F F' → Fm F' O H' → Dr cf.K F' v (.tup [.str (cf.nm c), .int p]) → D.rt v H') : tNP i (cf.cls c) a (.ref (cf.cls c)) (some d) (gone D i) (σ.set i (some (.ref a))) H := by
  have hl : σ.length = G.length := by
    obtain ⟨O', _, _, he, _⟩ := hM
    exact he.len
  have hs : (σ.set i (some (V.ref a)))[i]? = some (some (.ref a)) := List.getElem?_set_self (by omega)
  have hH : H d = some (xdO cf c p) := hM.fm.f _ _ hd
  refine ⟨_, hs, rfl, rfl, d, _, .str (cf.nm c), rfl, hH, rfl, _, hs, rfl, rfl, d, _, .int p, rfl, hH, rfl, (by show 2 ≤ sizeLine; decide), fun q hq => ?_⟩
  have hn := hM.fm.fnone hq
  exact kr _ (upd F q (.tup [.str (cf.nm c), .int p])) _ (Le.new hn) (hM.fm.newF hq) (.tup upd_same (.cons (.str _) (.cons (.int _) .nil)))
end Kr

/-! KrU: data of two kinds, isinstance, casts. -/
namespace Kr
open PySem PySem.Spec PyProof.Rows L2
open Enc (toD)
section
variable {cf : Cf} {E : XK} {G : List Sl} {α β γ : Type} {ta : TE}
/-- the same data by another type -/
theorem EM.conv [Enc α] [Enc β] (f : α → β) (hf : ∀ a, toD (f a) = toD a) {m : R α} (h : EM cf E ta G m) : EM cf E ta G (m.bind fun a => .ok (f a)) := fun F O H σ Q hF he nb ko ke =>
  h F O H σ Q hF he (R.bind_nb nb) (fun a v F' H' e le hf' hr => ko (f a) v F' H' (by rw [e]; rfl) le hf' (by show Dr _ _ _ _; rw [hf]; exact hr)) (fun c p d F' H' e => ke c p d F' H' (by rw [e]; rfl))
def getA (s : α ⊕ β) : R α := match s with
  | .inl a => .ok a
  | .inr _ => .bad
def getB (s : α ⊕ β) : R β := match s with
  | .inl _ => .bad
  | .inr b => .ok b
theorem EM.getA [Enc α] [Enc β] {m : R (α ⊕ β)} (h : EM cf E ta G m) : EM cf E ta G (m.bind getA) := fun F O H σ Q hf he nb ko ke =>
  h F O H σ Q hf he (R.bind_nb nb) (fun a v F' H' e le hf' hr => by
    rw [e, R.ok_bind] at nb ko
    cases a with
    | inl a => exact ko a v F' H' rfl le hf' hr
    | inr b => exact absurd rfl nb) (fun c p d F' H' e => ke c p d F' H' (by rw [e]; rfl))
theorem EM.getB [Enc α] [Enc β] {m : R (α ⊕ β)} (h : EM cf E ta G m) : EM cf E ta G (m.bind getB) := fun F O H σ Q hf he nb ko ke =>
  h F O H σ Q hf he (R.bind_nb nb) (fun a v F' H' e le hf' hr => by
    rw [e, R.ok_bind] at nb ko
    cases a with
    | inl a => exact absurd rfl nb
    | inr b => exact ko b v F' H' rfl le hf' hr) (fun c p d F' H' e => ke c p d F' H' (by rw [e]; rfl))
/-- data of a known type -/
class Tyd (α : Type) [Enc α] where
  nm : α → String
  ok : ∀ (K : PySem.W.Frag) (F H : Hp) (v : V) (a : α), Le F H → Dr K F v (toD a) → TyOf K H v (.type (nm a))
instance : Tyd Int := ⟨fun _ => "int", fun K F H v a le r => by rw [dr_int (i := a) r]; exact .int a⟩
instance : Tyd Bool := ⟨fun _ => "bool", fun K F H v a le r => by rw [dr_bl (i := a) r]; exact .bl a⟩
instance : Tyd Str := ⟨fun _ => "str", fun K F H v a le r => by rw [dr_str (i := a) r]; exact .str a⟩
instance [Enc α] : Tyd (List α) := ⟨fun _ => "list", fun K F H v a le r => by
  obtain ⟨p, vs, e, h1, _⟩ := dr_lst r
  rw [e]
  exact .lst (le _ _ h1)⟩
instance [Enc α] [Enc β] : Tyd (α × β) := ⟨fun _ => "tuple", fun K F H v a le r => by
  obtain ⟨p, vs, e, h1, _⟩ := dr_tup (ds := [toD a.1, toD a.2]) r
  rw [e]
  exact .tup (le _ _ h1)⟩
instance [Enc α] [Enc β] [Enc γ] : Tyd (T3 α β γ) := ⟨fun _ => "tuple", fun K F H v a le r => by
  obtain ⟨p, vs, e, h1, _⟩ := dr_tup (ds := [toD a.a, toD a.b, toD a.c]) r
  rw [e]
  exact .tup (le _ _ h1)⟩
instance [Enc α] [Enc β] [ha : Tyd α] [hb : Tyd β] : Tyd (α ⊕ β) := ⟨fun s => match s with
  | .inl a => ha.nm a
  | .inr b => hb.nm b, fun K F H v s le r => match s, r with
  | .inl a, r => ha.ok K F H v a le r
  | .inr b, r => hb.ok K F H v b le r⟩
def isA : α ⊕ β → Bool
  | .inl _ => true
  | .inr _ => false
theorem em_isi [Enc α] [t : Tyd α] (T : String) (f : α → Bool) (hk : ∀ a, kitB (t.nm a) T = some (f a)) {m : R α} (h : EM cf E ta G m) : EM cf E (tCB (rIsi cf.K) (tCons ta (tCons (tC (.ty T)) tNil))) G (m.bind fun a => .ok (f a)) :=
  EG.bind1 (u := fun r H Q => rIsi cf.K [r, .ty T] H Q) h fun F O H Q a r hf h1 _ ko => ⟨r, .ty T, .type (t.nm a), .type T, f a, rfl, .ty T, .base (t.ok cf.K F H r a hf.f h1), kit_ty (hk a), ko _ _ F H rfl (Le.refl F) hf (.bl _)⟩
theorem em_isiA [Enc α] [Enc β] [ha : Tyd α] [hb : Tyd β] (T : String) (h1 : ∀ a : α, kitB (ha.nm a) T = some true) (h2 : ∀ b : β, kitB (hb.nm b) T = some false) {m : R (α ⊕ β)} (h : EM cf E ta G m) : EM cf E (tCB (rIsi cf.K) (tCons ta (tCons (tC (.ty T)) tNil))) G (m.bind fun a => .ok (isA a)) :=
  em_isi T isA (fun s => match s with
    | .inl a => h1 a
    | .inr b => h2 b) h
theorem em_isiB [Enc α] [Enc β] [ha : Tyd α] [hb : Tyd β] (T : String) (h1 : ∀ a : α, kitB (ha.nm a) T = some false) (h2 : ∀ b : β, kitB (hb.nm b) T = some true) {m : R (α ⊕ β)} (h : EM cf E ta G m) : EM cf E (tCB (rIsi cf.K) (tCons ta (tCons (tC (.ty T)) tNil))) G (m.bind fun a => .ok (!isA a)) :=
  em_isi T (fun s => !isA s) (fun s => match s with
    | .inl a => h1 a
    | .inr b => h2 b) h
theorem kit_int_int : kitB "int" "int" = some true := by decide +kernel
theorem kit_int_str : kitB "int" "str" = some false := by decide +kernel
theorem kit_int_list : kitB "int" "list" = some false := by decide +kernel
theorem kit_int_tuple : kitB "int" "tuple" = some false := by decide +kernel
theorem kit_str_int : kitB "str" "int" = some false := by decide +kernel
theorem kit_str_str : kitB "str" "str" = some true := by decide +kernel
theorem kit_str_list : kitB "str" "list" = some false := by decide +kernel
theorem kit_str_tuple : kitB "str" "tuple" = some false := by decide +kernel
theorem kit_list_int : kitB "list" "int" = some false := by decide +kernel
theorem kit_list_str : kitB "list" "str" = some false := by decide +kernel
theorem kit_list_list : kitB "list" "list" = some true := by decide +kernel
theorem kit_list_tuple : kitB "list" "tuple" = some false := by decide +kernel
theorem kit_tuple_int : kitB "tuple" "int" = some false := by decide +kernel
theorem kit_tuple_str : kitB "tuple" "str" = some false := by decide +kernel
theorem kit_tuple_list : kitB "tuple" "list" = some false := by decide +kernel
theorem kit_tuple_tuple : kitB "tuple" "tuple" = some true := by decide +kernel
theorem isiK {X : Cx} (K : PySem.W.Frag) (h : X.K = K) : CallR X (.builtin "isinstance") (rIsi K) := h ▸ call_isi
end
def tTryA (tb : WX → TS) (K : PySem.W.Frag) (Wout : WX) (l : List Clz) : TS := fun D σ H => tb (wA K Wout D l) D σ H
theorem ps_tryA {X : Cx} {K : PySem.W.Frag} {body : List Stmt} {h₀ : ExceptHandler} {hds : List ExceptHandler} {l : List Clz} {pos : Pos} {tb : WX → TS} (Wout : WX) (hK : X.K = K) (hs : X.stack = X.env :: X.outer) (hf : X.env.frame = some X.env.locals) (hN : X.N.Nodup) (tk : Takes X Wout)
    (hb : ∀ (W : WX) (pn : List (Addr × Obj)) (xe : Value → Shared → Prop), Takes (X.tr pn xe) W → PassesOwn (model X.prog X.w) X.A X.env xe → PSs (X.tr pn xe) body (tb W))
    (hh : HdsA X (h₀ :: hds) l) : PS X (.Try body (h₀ :: hds) [] [] pos) (tTryA tb K Wout l) := hK ▸ ps_try_all hs hf hN tk hb hh
/-- the body's reading with the wish at the slots, and the one with a fixed wish, are the same -/
def SameT (tb : WX → TS) (t : XK → TS) : Prop := ∀ (W : WX) (D D' : Ends) (σ : L2.St) (H : Hp), D.rt = D'.rt → (∀ H', D.nx σ H' = D'.nx σ H') → tb W D σ H = t (fun cls d H' => W cls d σ H') D' σ H
def SameE (tb : WX → TE) (t : XK → TE) : Prop := ∀ (W : WX) (σ : L2.St) (H : Hp) (Q : VK), tb W σ H Q = t (fun cls d H' => W cls d σ H') σ H Q
theorem hq_if {tc : TT} {t1 t2 : WX → TS} {u1 u2 : XK → TS} (h1 : SameT t1 u1) (h2 : SameT t2 u2) : SameT (fun W => tIfS tc (t1 W) (t2 W)) (fun E => tIfS tc (u1 E) (u2 E)) := fun W D D' σ H e1 e2 => by
  show tc σ H _ = tc σ H _
  congr 1
  funext b H1
  rw [h1 W D D' σ H1 e1 e2, h2 W D D' σ H1 e1 e2]
theorem hq_seq {t1 t2 : WX → TS} {u1 u2 : XK → TS} (h1 : SameT t1 u1) (h2 : SameT t2 u2) : SameT (fun W => tSeq (t1 W) (t2 W)) (fun E => tSeq (u1 E) (u2 E)) := fun W D D' σ H e1 e2 =>
  h1 W { D with nx := t2 W D } { D' with nx := u2 (fun cls d H' => W cls d σ H') D' } σ H e1 fun H' => h2 W D D' σ H' e1 e2
theorem hq_next : SameT (fun _ => tNext) (fun _ => tNext) := fun W D D' σ H e1 e2 => e2 H
theorem hq_ret {te : WX → TE} {tf : XK → TE} (h : SameE te tf) : SameT (fun W => tRet (te W)) (fun E => tRet (tf E)) := fun W D D' σ H e1 e2 => by
  show te W σ H D.rt = tf _ σ H D'.rt
  rw [h W σ H D.rt, e1]
theorem se_call {sp : Sp} {dvs : List V} {ta : TA} : SameE (fun W => tCallSD sp dvs (WE W) ta) (fun E => tCall sp dvs E ta) := fun _ _ _ _ => rfl
def tryOk : Sl → Bool
  | .bo _ => true
  | s => !s.own && !s.vol
theorem sb_tryA {cf : Cf} {E : XK} {G : List Sl} {S ρ : Type} [Rs ρ] {enc : S → List Sl} {l : List Clz} {tb : WX → TS} {t : XK → TS} {m : R (Fl S ρ)} {hs : Nat → Int → R (Fl S ρ)} (hG : (G.all tryOk) = true) (hb : ∀ E', SB cf E' (t E') G enc m) (heq : SameT tb t)
    (hh : ∀ (c : Nat) (p : Int) (F O H : Hp) (σ : L2.St) (D : Ends) (d : Addr), Mt cf.K F O H σ G → F d = some (xdO cf c p) → hs c p ≠ .bad →
      (∀ s F' H' σ', hs c p = .ok (.nx s) → Le F F' → Mt cf.K F' O H' σ' (enc s) → D.nx σ' H') →
      (∀ s F' H' σ', hs c p = .ok (.bk s) → Le F F' → Mt cf.K F' O H' σ' (enc s) → D.bk σ' H') →
      (∀ r v F' H', hs c p = .ok (.rt r) → Le F F' → Fm F' O H' → Rs.res cf F' O H' v r → D.rt v H') →
      (∀ c' p' d' F' H', hs c p = .er c' p' → Le F F' → Fm F' O H' → F' d' = some (xdO cf c' p') → E (.ref (cf.cls c')) (some d') H') →
      wA cf.K (fun cls d σ H => E cls d H) D l (.ref (cf.cls c)) (some d) σ H) :
    SB cf E (tTryA tb cf.K (fun cls d σ H => E cls d H) l) G enc (tryR m hs) := sb_try (fun s h => by
      have h1 := List.all_eq_true.mp hG s h
      cases s with
      | bo t => exact .inl ⟨t, rfl⟩
      | _ => first | exact .inr ⟨rfl, rfl⟩ | cases h1) hb (fun W D σ H => heq W D D σ H rfl fun _ => rfl) hh
/-- a caught error's place alone, or behind a text -/
def tPl (i : Nat) (C : Addr) : Addr → Value → Option Addr → TS := fun a cls d => tRet (tXf a cls d C "place" (tVar i))
def tCP (i : Nat) (C : Addr) (x : Str) : Addr → Value → Option Addr → TS := fun a cls d => tRet (tTup (tCons (tC (.str x)) (tCons (tXf a cls d C "place" (tVar i)) tNil)))
theorem pl_ret {cf : Cf} {G : List Sl} {F O H : Hp} {σ : L2.St} {D : Ends} {c i : Nat} {p : Int} {a d : Addr} (hM : Mt cf.K F O H σ G) (hd : F d = some (xdO cf c p)) (hi : i < G.length)
    (kr : ∀ v F' H', Le F F' → Fm F' O H' → Dr cf.K F' v (.int p) → D.rt v H') : tPl i (cf.cls c) a (.ref (cf.cls c)) (some d) (gone D i) (σ.set i (some (.ref a))) H := by
  have hl : σ.length = G.length := by
    obtain ⟨O', _, _, he, _⟩ := hM
    exact he.len
  have hs : (σ.set i (some (V.ref a)))[i]? = some (some (.ref a)) := List.getElem?_set_self (by omega)
  have hH : H d = some (xdO cf c p) := hM.fm.f _ _ hd
  exact ⟨_, hs, rfl, rfl, d, _, .int p, rfl, hH, rfl, kr _ F _ (Le.refl F) hM.fm (.int _)⟩
theorem cp_ret {cf : Cf} {G : List Sl} {F O H : Hp} {σ : L2.St} {D : Ends} {c i : Nat} {p : Int} {a d : Addr} {x : Str} (hM : Mt cf.K F O H σ G) (hd : F d = some (xdO cf c p)) (hi : i < G.length)
    (kr : ∀ v F' H', Le F F' → Fm F' O H' → Dr cf.K F' v (.tup [.str x, .int p]) → D.rt v H') : tCP i (cf.cls c) x a (.ref (cf.cls c)) (some d) (gone D i) (σ.set i (some (.ref a))) H := by
  have hl : σ.length = G.length := by
    obtain ⟨O', _, _, he, _⟩ := hM
    exact he.len
  have hs : (σ.set i (some (V.ref a)))[i]? = some (some (.ref a)) := List.getElem?_set_self (by omega)
  have hH : H d = some (xdO cf c p) := hM.fm.f _ _ hd
  refine ⟨_, hs, rfl, rfl, d, _, .int p, rfl, hH, rfl, (by show 2 ≤ sizeLine; decide), fun q hq => ?_⟩
  have hn := hM.fm.fnone hq
  exact kr _ (upd F q (.tup [.str x, .int p])) _ (Le.new hn) (hM.fm.newF hq) (.tup upd_same (.cons (.str _) (.cons (.int _) .nil)))
/-- what catching an error class needs -/
structure XCat (K : PySem.W.Frag) (C : Addr) : Prop where
  xf : XfC K C
  nn : PySem.W.findIn K (.ref C) "name" = some none
  np : PySem.W.findIn K (.ref C) "place" = some none
end Kr

/-! KrV: equality of texts and of data of two kinds; lists of bits. -/
namespace Kr
open PySem PySem.Spec PyProof.Rows L2
open Enc (toD)
/-- data whose == is equality, if its texts are proper -/
class Eqq (α : Type) [Enc α] where
  n : Nat
  ok : α → Bool
  nd : ∀ a : α, (toD a).nd = true
  lay : ∀ a : α, ok a = true → (toD a).py.canLay0 = true
  dp : ∀ a : α, (toD a).py.depth ≤ n
  ev : ∀ a b : α, PyData.eqv (toD a).py (toD b).py = true ↔ a = b
theorem eqR_q [Enc α] [q : Eqq α] [DecidableEq α] (a b : α) (ha : q.ok a = true) (hb : q.ok b = true) (h : q.n ≤ 64 := by decide) : eqR a b = .ok (decide (a = b)) := by
  unfold eqR
  have sh : ∀ a : α, q.ok a = true → SeqAt.shaped (toD a).py = true := fun a k => by
    unfold SeqAt.shaped
    rw [Eqq.lay a k, Bool.true_and]
    exact decide_eq_true (Nat.le_trans (Eqq.dp a) h)
  rw [if_pos ⟨Eqq.nd a, Eqq.nd b, sh a ha, sh b hb⟩]
  congr 1
  by_cases e : a = b
  · rw [decide_eq_true e, (Eqq.ev a b).mpr e]
  · rw [decide_eq_false e]
    cases q : PyData.eqv (toD a).py (toD b).py with
    | false => rfl
    | true => exact absurd ((Eqq.ev a b).mp q) e
instance (priority := low) {α : Type} [Enc α] [q : Eqd α] : Eqq α := ⟨q.n, fun _ => true, q.nd, fun a _ => q.lay a, q.dp, q.ev⟩
instance : Eqq Str := ⟨0, fun s => PyData.strOk s, fun _ => rfl, fun _ h => h, fun _ => Nat.le_refl _, fun a b => by show (a == b) = true ↔ _; simp⟩
/-- never equal -/
class Dj (α β : Type) [Enc α] [Enc β] : Prop where
  l : ∀ (a : α) (b : β), PyData.eqv (toD a).py (toD b).py = false
  r : ∀ (a : α) (b : β), PyData.eqv (toD b).py (toD a).py = false
instance : Dj Int Str := ⟨fun _ _ => rfl, fun _ _ => rfl⟩
instance {α : Type} [Enc α] : Dj (List α) Str := ⟨fun _ _ => rfl, fun _ _ => rfl⟩
instance {α β γ : Type} [Enc α] [Enc β] [Enc γ] : Dj (List γ) (α × β) := ⟨fun _ _ => rfl, fun _ _ => rfl⟩
instance {α β γ : Type} [Enc α] [Enc β] [Enc γ] : Dj (α × β) (List γ) := ⟨fun _ _ => rfl, fun _ _ => rfl⟩
instance {α β γ δ ε : Type} [Enc α] [Enc β] [Enc γ] [Enc δ] [Enc ε] : Dj (T3 α β γ) (δ × ε) := ⟨fun a b => by
  show (PyData.eqv _ _ && (PyData.eqv _ _ && false)) = false
  simp, fun a b => by
  show (PyData.eqv _ _ && (PyData.eqv _ _ && false)) = false
  simp⟩
instance {α β : Type} [Enc α] [Enc β] : Dj Int (α × β) := ⟨fun _ _ => rfl, fun _ _ => rfl⟩
instance {α β : Type} [Enc α] [Enc β] [q : Eqq α] [p : Eqq β] [d : Dj α β] : Eqq (α ⊕ β) := ⟨max q.n p.n, fun s => match s with
  | .inl a => q.ok a
  | .inr b => p.ok b, fun s => match s with
  | .inl a => Eqq.nd a
  | .inr b => Eqq.nd b, fun s h => match s, h with
  | .inl a, h => Eqq.lay a h
  | .inr b, h => Eqq.lay b h, fun s => match s with
  | .inl a => Nat.le_trans (Eqq.dp a) (Nat.le_max_left _ _)
  | .inr b => Nat.le_trans (Eqq.dp b) (Nat.le_max_right _ _), fun s t => match s, t with
  | .inl a, .inl b => by
    show PyData.eqv (toD a).py (toD b).py = true ↔ _
    rw [Eqq.ev]
    simp
  | .inr a, .inr b => by
    show PyData.eqv (toD a).py (toD b).py = true ↔ _
    rw [Eqq.ev]
    simp
  | .inl a, .inr b => by
    show PyData.eqv (toD a).py (toD b).py = true ↔ _
    rw [d.l]
    simp
  | .inr b, .inl a => by
    show PyData.eqv (toD b).py (toD a).py = true ↔ _
    rw [d.r]
    simp⟩
instance {α β : Type} [Enc α] [Enc β] [q : Eqq α] [p : Eqq β] : Eqq (α × β) := ⟨q.n + p.n + 1, fun a => q.ok a.1 && p.ok a.2, fun a => by
    show (Dt.nd (toD a.1) && (Dt.nd (toD a.2) && true)) = true
    rw [Eqq.nd, Eqq.nd]
    rfl, fun a h => by
    obtain ⟨h1, h2⟩ := Bool.and_eq_true_iff.mp h
    show (PyData.canLay0 (toD a.1).py && (PyData.canLay0 (toD a.2).py && true)) = true
    rw [Eqq.lay _ h1, Eqq.lay _ h2]
    rfl, fun a => by
    show max (toD a.1).py.depth (max (toD a.2).py.depth 0) + 1 ≤ _
    have h1 := Eqq.dp a.1
    have h2 := Eqq.dp a.2
    omega, fun a b => by
    show (PyData.eqv (toD a.1).py (toD b.1).py && (PyData.eqv (toD a.2).py (toD b.2).py && true)) = true ↔ _
    rw [Bool.and_true, Bool.and_eq_true, Eqq.ev, Eqq.ev]
    exact Prod.ext_iff.symm⟩
instance {α β γ : Type} [Enc α] [Enc β] [Enc γ] [q : Eqq α] [p : Eqq β] [o : Eqq γ] : Eqq (T3 α β γ) := ⟨q.n + p.n + o.n + 1, fun a => q.ok a.a && (p.ok a.b && o.ok a.c), fun a => by
    show (Dt.nd (toD a.a) && (Dt.nd (toD a.b) && (Dt.nd (toD a.c) && true))) = true
    rw [Eqq.nd, Eqq.nd, Eqq.nd]
    rfl, fun a h => by
    obtain ⟨h1, h⟩ := Bool.and_eq_true_iff.mp h
    obtain ⟨h2, h3⟩ := Bool.and_eq_true_iff.mp h
    show (PyData.canLay0 (toD a.a).py && (PyData.canLay0 (toD a.b).py && (PyData.canLay0 (toD a.c).py && true))) = true
    rw [Eqq.lay _ h1, Eqq.lay _ h2, Eqq.lay _ h3]
    rfl, fun a => by
    show max (toD a.a).py.depth (max (toD a.b).py.depth (max (toD a.c).py.depth 0)) + 1 ≤ _
    have h1 := Eqq.dp a.a
    have h2 := Eqq.dp a.b
    have h3 := Eqq.dp a.c
    omega, fun a b => by
    show (PyData.eqv (toD a.a).py (toD b.a).py && (PyData.eqv (toD a.b).py (toD b.b).py && (PyData.eqv (toD a.c).py (toD b.c).py && true))) = true ↔ _
    rw [Bool.and_true, Bool.and_eq_true, Bool.and_eq_true, Eqq.ev, Eqq.ev, Eqq.ev]
    cases a
    cases b
    simp⟩
instance {α : Type} [Enc α] [NN α] [q : Eqq α] : Eqq (Option α) := ⟨q.n, fun o => match o with
  | none => true
  | some a => q.ok a, fun o => match o with
  | none => rfl
  | some a => Eqq.nd (α := α) a, fun o h => match o, h with
  | none, _ => rfl
  | some a, h => Eqq.lay (α := α) a h, fun o => match o with
  | none => Nat.zero_le _
  | some a => Eqq.dp (α := α) a, fun a b => by
  have ne : ∀ a : α, (toD a).py ≠ .none := fun a h => NN.nn a (py_non h)
  cases a with
  | none =>
    cases b with
    | none => simp [PyData.eqv, toD, Enc.toD, Dt.py]
    | some b =>
      show PyData.eqv .none (toD b).py = true ↔ _
      rw [eqv_none_l (ne b)]
      simp
  | some a =>
    cases b with
    | none =>
      show PyData.eqv (toD a).py .none = true ↔ _
      rw [eqv_none_r (ne a)]
      simp
    | some b =>
      show PyData.eqv (toD a).py (toD b).py = true ↔ _
      rw [Eqq.ev a b]
      simp⟩
instance {α β : Type} [Enc α] [Enc β] [NN α] [NN β] : NN (α ⊕ β) := ⟨fun s h => match s, h with
  | .inl a, h => NN.nn a h
  | .inr b, h => NN.nn b h⟩
instance : NN Str := ⟨fun _ h => nomatch h⟩
end Kr

/-! KrW: data in a list of data, its place. -/
namespace Kr
open PySem PySem.Spec PyProof.Rows L2
open Enc (toD)
section
variable {cf : Cf} {E : XK} {G : List Sl} {α β : Type} {ta tb : TE}
def inC [Enc α] [Enc β] (a : α) (xs : List β) : Prop := (toD a).nd = true ∧ (toD xs).nd = true ∧ SeqAt.shaped (toD a).py = true ∧ SeqAt.shaped (toD xs).py = true
instance [Enc α] [Enc β] (a : α) (xs : List β) : Decidable (inC a xs) := by unfold inC; exact inferInstance
def inDR [Enc α] [Enc β] (a : α) (xs : List β) : R Bool := if inC a xs then .ok ((Dt.pyA (xs.map toD)).any fun z => PyData.eqv z (toD a).py) else .bad
theorem inDR_nb [Enc α] [Enc β] {a : α} {xs : List β} (h : inDR a xs ≠ .bad) : inC a xs ∧ inDR a xs = .ok ((Dt.pyA (xs.map toD)).any fun z => PyData.eqv z (toD a).py) := by
  unfold inDR at *
  split at h
  · rename_i c
    exact ⟨c, if_pos c⟩
  · exact absurd rfl h
theorem em_inD [Enc α] [Enc β] {m : R α} {n : R (List β)} (h : EE cf E ta G m) (h' : EE cf E tb G n) : EM cf E (tOp (rInD cf.K) ta tb) G (m.bind fun a => n.bind fun b => inDR a b) :=
  EG.bind2 (u := fun x y H Q => rInD cf.K x y H Q) h h' (fun F O H F' H' r a le hf' h F'' H'' le' hf'' => h F'' H'' (le.trans le') hf'') fun F O H Q a r b s hf h1 h2 nb ko => by
    obtain ⟨⟨c1, c2, c3, c4⟩, ec⟩ := inDR_nb nb
    exact ⟨_, _, h1 F H (Le.refl F) hf c1, h2 F H (Le.refl F) hf c2, c3, c4, ko _ _ F H ec (Le.refl F) hf (.bl _)⟩
theorem em_niD [Enc α] [Enc β] {m : R α} {n : R (List β)} (h : EE cf E ta G m) (h' : EE cf E tb G n) : EM cf E (tOp (rNotInD cf.K) ta tb) G (m.bind fun a => n.bind fun b => (inDR a b).bind fun c => .ok (!c)) :=
  EG.bind2 (f := fun a b => (inDR a b).bind fun c => .ok (!c)) (u := fun x y H Q => rNotInD cf.K x y H Q) h h' (fun F O H F' H' r a le hf' h F'' H'' le' hf'' => h F'' H'' (le.trans le') hf'') fun F O H Q a r b s hf h1 h2 nb ko => by
    obtain ⟨⟨c1, c2, c3, c4⟩, ec⟩ := inDR_nb (R.bind_nb nb)
    rw [ec] at ko
    exact ⟨_, _, h1 F H (Le.refl F) hf c1, h2 F H (Le.refl F) hf c2, c3, c4, ko _ _ F H rfl (Le.refl F) hf (.bl _)⟩
def indexDR [Enc α] [Enc β] (xs : List β) (a : α) : R Int := if inC a xs then (match (Dt.pyA (xs.map toD)).findIdx? fun z => PyData.eqv z (toD a).py with
  | some j => .ok (j : Nat)
  | none => .bad) else .bad
theorem indexDR_nb [Enc α] [Enc β] {a : α} {xs : List β} (h : indexDR xs a ≠ .bad) : inC a xs ∧ ∃ j, (Dt.pyA (xs.map toD)).findIdx? (fun z => PyData.eqv z (toD a).py) = some j ∧ indexDR xs a = .ok (j : Nat) := by
  unfold indexDR at *
  split at h
  · rename_i c
    rw [if_pos c]
    cases q : (Dt.pyA (xs.map toD)).findIdx? fun z => PyData.eqv z (toD a).py with
    | some j => exact ⟨c, j, rfl, rfl⟩
    | none =>
      rw [q] at h
      exact absurd rfl h
  · exact absurd rfl h
theorem em_indexD [Enc α] [Enc β] {m : R (List β)} {n : R α} (h : EM cf E ta G m) (h' : EE cf E tb G n) : EM cf E (tBM cf.K "list" (rIndexD cf.K) ta (tCons tb tNil)) G (m.bind fun xs => n.bind fun a => indexDR xs a) := fun F O H σ Q hf he nb ko ke => by
  refine h F O H σ _ hf he (R.bind_nb nb) (fun xs v F1 H1 e1 l1 hf1 r1 => ?_) (fun c p d F' H' e le hf' hd => ke c p d F' H' (by rw [e]; rfl) le hf' hd)
  rw [e1, R.ok_bind] at nb ko ke
  obtain ⟨p, vs, rfl, hp, hv⟩ := dr_lst r1
  refine ⟨.inl ⟨rfl, vs, SqL.of (hf1.f _ _ hp)⟩, ?_⟩
  refine h' F1 O H1 σ _ hf1 (he.mono l1) (R.bind_nb nb) (fun a w F2 H2 e2 l2 hf2 r2 => ?_) (fun c p d F' H' e le hf' hd => ke c p d F' H' (by rw [e]; rfl) (l1.trans le) hf' hd)
  rw [e2, R.ok_bind] at nb ko ke
  obtain ⟨⟨c1, c2, c3, c4⟩, j, hj, ec⟩ := indexDR_nb nb
  have hd : Dp cf.K H2 (.ref p) (toD xs).py := Dr.dp (l2.trans hf2.f) r1 c2
  obtain ⟨hlt, hz, hno⟩ := List.findIdx?_eq_some_iff_getElem.mp hj
  exact ⟨p, w, _, _, j, _, rfl, rfl, hd, r2 F2 H2 (Le.refl F2) hf2 c1, c4, c3, List.getElem?_eq_getElem hlt, hz, fun i z' hi hz' => by
    obtain ⟨hl', e'⟩ := List.getElem?_eq_some_iff.mp hz'
    rw [← e']
    exact eq_false_of_ne_true (hno i hi), ko _ _ F2 H2 ec (l1.trans l2) hf2 (.int _)⟩
theorem _root_.L2.Room.units1 {k : Nat} {A : Around} (r : Room k A) : A.units + 65 < cLine := by have := r.un; omega
theorem inDK {X : Cx} (K : PySem.W.Frag) (h : X.K = K) (hu : X.A.units + 65 < cLine) : OpR X (compareOp .In) (rInD K) := h ▸ op_inD hu
theorem ninDK {X : Cx} (K : PySem.W.Frag) (h : X.K = K) (hu : X.A.units + 65 < cLine) : OpR X (compareOp .NotIn) (rNotInD K) := h ▸ op_notInD hu
theorem indexDK {X : Cx} (K : PySem.W.Frag) (h : X.K = K) (hu : X.A.units + 65 < cLine) : MtR X "list.index" (rIndexD K) := h ▸ mt_indexD hu
end
end Kr

/-! KrO: models as objects, arguments and results of any kind. -/
namespace Kr
open PySem PySem.Spec PyProof.Rows L2
open Enc (toD)
/-! ### trees of models -/
inductive Mdl where
  | c (ws : List Int)
  | l (ws : List Int) (st li : Int)
  | x (rows : List (List Int)) (cur st li : Int)
/-- a list of ints that is lent -/
structure Bl where
  xs : List Int
def lI (xs : List Int) : Tr := .l (xs.map fun n => .d (.int n))
/-- the classes' places: Counts, Learner, Context -/
structure Mc where
  c0 : Addr
  c1 : Addr
  c2 : Addr
def tL (c1 : Addr) (ws : List Int) (st li : Int) : Tr := .o c1 [("weights", lI ws), ("step", .d (.int st)), ("limit", .d (.int li))]
def tM (cf : Cf) : Mdl → Tr
  | .c ws => .o (cf.mc 0) [("weights", lI ws)]
  | .l ws st li => tL (cf.mc 1) ws st li
  | .x rows cur st li => .o (cf.mc 2) [("step", .d (.int st)), ("limit", .d (.int li)), ("learners", .l (rows.map fun ws => tL (cf.mc 1) ws st li)), ("current", .d (.int cur))]
/-- things with a tree -/
class Tre (α : Type) where
  tr : Cf → α → Tr
instance : Tre Mdl := ⟨tM⟩
instance : Tre Bl := ⟨fun _ b => lI b.xs⟩
section
variable {α : Type} [Tre α]
/-- lent -/
def RT (cf : Cf) (F O _H : Hp) (v : V) (a : α) : Prop := ∃ fp, Own cf.K F (inFO F O) v (Tre.tr cf a) fp
/-- new -/
def RN (cf : Cf) (F O H : Hp) (v : V) (a : α) : Prop := ∃ fp, Own cf.K F (inO H) v (Tre.tr cf a) fp ∧ fp.Nodup ∧ ∀ p ∈ fp, F p = none ∧ O p = none
end
/-! ### arguments -/
class Ag (α : Type) where
  rel : Cf → Hp → Hp → V → α → Prop
  mono : ∀ {cf : Cf} {F F' O : Hp} {v : V} {a : α}, rel cf F O v a → Le F F' → rel cf F' O v a
  sl : Cf → α → Sl
  ok : ∀ {cf : Cf} {F O : Hp} {v : V} {a : α}, rel cf F O v a → SlOk cf.K F O (some (some v)) (sl cf a)
  no : ∀ (cf : Cf) (a : α), (∀ ds, sl cf a ≠ .ol ds) ∧ (∀ ds, sl cf a ≠ .od ds) ∧ (∀ t, sl cf a ≠ .ow t)
instance {α : Type} [Enc α] : Ag α := ⟨fun cf F _ v a => Dr cf.K F v (toD a), fun h e => Dr.mono e h, fun _ a => .va (toD a), fun h => ⟨_, rfl, h⟩, fun _ _ => ⟨fun _ z => (nomatch z), fun _ z => (nomatch z), fun _ z => (nomatch z)⟩⟩
theorem rt_mono {α : Type} [Tre α] {cf : Cf} {F F' O H H' : Hp} {v : V} {a : α} (h : RT cf F O H v a) (e : Le F F') : RT cf F' O H' v a := let ⟨fp, h⟩ := h; ⟨fp, h.monoFO e (Le.refl O)⟩
instance : Ag Mdl := ⟨fun cf F O v a => RT cf F O F v a, fun h e => rt_mono h e, fun cf a => .bo (tM cf a), fun ⟨fp, h⟩ => ⟨_, fp, rfl, h⟩, fun _ _ => ⟨fun _ z => (nomatch z), fun _ z => (nomatch z), fun _ z => (nomatch z)⟩⟩
instance : Ag Bl := ⟨fun cf F O v a => RT cf F O F v a, fun h e => rt_mono h e, fun _ a => .bo (lI a.xs), fun ⟨fp, h⟩ => ⟨_, fp, rfl, h⟩, fun _ _ => ⟨fun _ z => (nomatch z), fun _ z => (nomatch z), fun _ z => (nomatch z)⟩⟩
instance : Rs Mdl := ⟨fun cf F O H v a => RN cf F O H v a⟩
/-! ### a def's start -/
theorem er_startG {K : PySem.W.Frag} {F O : Hp} {N : List Str} {vs : List V} {ss : List Sl} (h : ∀ (i : Nat) (s : Sl), ss[i]? = some s → ∃ v, vs[i]? = some v ∧ SlOk K F O (some (some v)) s) (hl : vs.length = ss.length) : Er K F O (L2.start N vs) (ss ++ List.replicate (N.length - ss.length) .un) := by
  refine ⟨?_, fun i s e => ?_⟩
  · unfold L2.start
    rw [List.length_append, List.length_append, List.length_map, List.length_replicate, List.length_replicate, hl]
  · by_cases hi : i < ss.length
    · rw [List.getElem?_append_left hi] at e
      obtain ⟨v, hv, r⟩ := h i s e
      unfold L2.start
      rw [List.getElem?_append_left (by rw [List.length_map, hl]; exact hi), List.getElem?_map, hv]
      exact r
    · rw [List.getElem?_append_right (by omega)] at e
      have e2 := List.getElem?_replicate (n := N.length - ss.length) (a := Sl.un) (i := i - ss.length)
      rw [e2] at e
      split at e
      · cases e
        exact trivial
      · cases e
theorem mt_startG {K : PySem.W.Frag} {F O H : Hp} {N : List Str} {vs : List V} {ss : List Sl} (hf : Fm F O H) (h : ∀ (i : Nat) (s : Sl), ss[i]? = some s → ∃ v, vs[i]? = some v ∧ SlOk K F O (some (some v)) s)
    (hno : ∀ s ∈ ss, (∀ ds, s ≠ .ol ds) ∧ (∀ ds, s ≠ .od ds) ∧ (∀ t, s ≠ .ow t)) (hl : vs.length = ss.length) : Mt K F O H (L2.start N vs) (ss ++ List.replicate (N.length - ss.length) .un) := by
  refine ⟨O, Le.refl O, hf, er_startG h hl, ows_none (er_startG h hl) fun s hm => ?_⟩
  rcases List.mem_append.mp hm with hm | hm
  · exact hno s hm
  · rw [List.eq_of_mem_replicate hm]
    exact ⟨fun _ z => (nomatch z), fun _ z => (nomatch z), fun _ z => (nomatch z)⟩
end Kr

/-! KrP: what defs promise whose arguments may be lent objects (printed by genO.py). -/
namespace Kr
open PySem PySem.Spec PyProof.Rows L2
open Enc (toD)
theorem slots_ok1 {K : PySem.W.Frag} {F O : Hp} {v0 : V} {s0 : Sl} (h0 : SlOk K F O (some (some v0)) s0) : ∀ (i : Nat) (s : Sl), ([s0] : List Sl)[i]? = some s → ∃ v, ([v0] : List V)[i]? = some v ∧ SlOk K F O (some (some v)) s := fun i s e => match i, e with
  | 0, rfl => ⟨_, rfl, h0⟩
theorem slots_ok2 {K : PySem.W.Frag} {F O : Hp} {v0 v1 : V} {s0 s1 : Sl} (h0 : SlOk K F O (some (some v0)) s0) (h1 : SlOk K F O (some (some v1)) s1) : ∀ (i : Nat) (s : Sl), ([s0, s1] : List Sl)[i]? = some s → ∃ v, ([v0, v1] : List V)[i]? = some v ∧ SlOk K F O (some (some v)) s := fun i s e => match i, e with
  | 0, rfl => ⟨_, rfl, h0⟩
  | 1, rfl => ⟨_, rfl, h1⟩
theorem slots_ok3 {K : PySem.W.Frag} {F O : Hp} {v0 v1 v2 : V} {s0 s1 s2 : Sl} (h0 : SlOk K F O (some (some v0)) s0) (h1 : SlOk K F O (some (some v1)) s1) (h2 : SlOk K F O (some (some v2)) s2) : ∀ (i : Nat) (s : Sl), ([s0, s1, s2] : List Sl)[i]? = some s → ∃ v, ([v0, v1, v2] : List V)[i]? = some v ∧ SlOk K F O (some (some v)) s := fun i s e => match i, e with
  | 0, rfl => ⟨_, rfl, h0⟩
  | 1, rfl => ⟨_, rfl, h1⟩
  | 2, rfl => ⟨_, rfl, h2⟩
theorem slots_ok4 {K : PySem.W.Frag} {F O : Hp} {v0 v1 v2 v3 : V} {s0 s1 s2 s3 : Sl} (h0 : SlOk K F O (some (some v0)) s0) (h1 : SlOk K F O (some (some v1)) s1) (h2 : SlOk K F O (some (some v2)) s2) (h3 : SlOk K F O (some (some v3)) s3) : ∀ (i : Nat) (s : Sl), ([s0, s1, s2, s3] : List Sl)[i]? = some s → ∃ v, ([v0, v1, v2, v3] : List V)[i]? = some v ∧ SlOk K F O (some (some v)) s := fun i s e => match i, e with
  | 0, rfl => ⟨_, rfl, h0⟩
  | 1, rfl => ⟨_, rfl, h1⟩
  | 2, rfl => ⟨_, rfl, h2⟩
  | 3, rfl => ⟨_, rfl, h3⟩
theorem slots_ok5 {K : PySem.W.Frag} {F O : Hp} {v0 v1 v2 v3 v4 : V} {s0 s1 s2 s3 s4 : Sl} (h0 : SlOk K F O (some (some v0)) s0) (h1 : SlOk K F O (some (some v1)) s1) (h2 : SlOk K F O (some (some v2)) s2) (h3 : SlOk K F O (some (some v3)) s3) (h4 : SlOk K F O (some (some v4)) s4) : ∀ (i : Nat) (s : Sl), ([s0, s1, s2, s3, s4] : List Sl)[i]? = some s → ∃ v, ([v0, v1, v2, v3, v4] : List V)[i]? = some v ∧ SlOk K F O (some (some v)) s := fun i s e => match i, e with
  | 0, rfl => ⟨_, rfl, h0⟩
  | 1, rfl => ⟨_, rfl, h1⟩
  | 2, rfl => ⟨_, rfl, h2⟩
  | 3, rfl => ⟨_, rfl, h3⟩
  | 4, rfl => ⟨_, rfl, h4⟩
theorem slots_ok6 {K : PySem.W.Frag} {F O : Hp} {v0 v1 v2 v3 v4 v5 : V} {s0 s1 s2 s3 s4 s5 : Sl} (h0 : SlOk K F O (some (some v0)) s0) (h1 : SlOk K F O (some (some v1)) s1) (h2 : SlOk K F O (some (some v2)) s2) (h3 : SlOk K F O (some (some v3)) s3) (h4 : SlOk K F O (some (some v4)) s4) (h5 : SlOk K F O (some (some v5)) s5) : ∀ (i : Nat) (s : Sl), ([s0, s1, s2, s3, s4, s5] : List Sl)[i]? = some s → ∃ v, ([v0, v1, v2, v3, v4, v5] : List V)[i]? = some v ∧ SlOk K F O (some (some v)) s := fun i s e => match i, e with
  | 0, rfl => ⟨_, rfl, h0⟩
  | 1, rfl => ⟨_, rfl, h1⟩
  | 2, rfl => ⟨_, rfl, h2⟩
  | 3, rfl => ⟨_, rfl, h3⟩
  | 4, rfl => ⟨_, rfl, h4⟩
  | 5, rfl => ⟨_, rfl, h5⟩
section
variable {α τ : Type} [Ag α] [Rs τ]
def spG1 (cf : Cf) (g : α → R τ) : Sp := fun vs H Q _ => ∃ (F O : Hp) (v0 : V) (x0 : α) (r : τ), vs = [v0] ∧ Fm F O H ∧ Ag.rel cf F O v0 x0 ∧ g x0 = .ok r ∧ ∀ w F' H', Le F F' → Fm F' O H' → Rs.res cf F' O H' w r → Q w H'
def spGX1 (cf : Cf) (g : α → R τ) : Sp := fun vs H Q E => ∃ (F O : Hp) (v0 : V) (x0 : α), vs = [v0] ∧ Fm F O H ∧ Ag.rel cf F O v0 x0 ∧ g x0 ≠ .bad ∧ (∀ r w F' H', g x0 = .ok r → Le F F' → Fm F' O H' → Rs.res cf F' O H' w r → Q w H') ∧ (∀ c p d F' H', g x0 = .er c p → Le F F' → Fm F' O H' → F' d = some (xdO cf c p) → E (.ref (cf.cls c)) (some d) H')
theorem spG1.len {cf : Cf} {g : α → R τ} {ps : List Str} (h : ps.length = 1 := by rfl) : ∀ vs H Q E, spG1 cf g vs H Q E → vs.length = ps.length := fun vs H Q E q => by
  rw [h]
  obtain ⟨F, O, v0, x0, r, q, _⟩ := q
  rw [q]
  rfl
theorem spGX1.len {cf : Cf} {g : α → R τ} {ps : List Str} (h : ps.length = 1 := by rfl) : ∀ vs H Q E, spGX1 cf g vs H Q E → vs.length = ps.length := fun vs H Q E q => by
  rw [h]
  obtain ⟨F, O, v0, x0, q, _⟩ := q
  rw [q]
  rfl
theorem em_callG1 {cf : Cf} {E : XK} {G : List Sl} {t0 : TE} {m0 : R α} {g : α → R τ} (h0 : EG cf E t0 G m0 fun F O _ v a => Ag.rel cf F O v a) : EG cf E (tCall (spG1 cf g) [] E0 (tCons t0 tNil)) G (m0.bind fun x0 => (g x0).pu) (Rs.res cf) := fun F O H σ Q hf he nb ko ke => by
  have le0 : Le F F := Le.refl F
  refine h0 F O H σ _ hf (he.mono le0) (R.bind_nb nb) (fun x0 v0 F1 H1 e0 l0 hf1 r0 => ?_) (fun c' p d' F' H' e' le hf' hd => ke c' p d' F' H' (by rw [e']; rfl) (le0.trans le) hf' hd)
  rw [e0, R.ok_bind] at nb ko ke
  have le1 := le0.trans l0
  obtain ⟨y, ey⟩ := pu_nb nb
  exact ⟨F1, O, v0, x0, y, rfl, hf1, r0, ey, fun w F' H' le hf' hr => ko y w F' H' (by rw [ey]; rfl) (le1.trans le) hf' hr⟩
theorem em_callGX1 {cf : Cf} {E : XK} {G : List Sl} {t0 : TE} {m0 : R α} {g : α → R τ} (h0 : EG cf E t0 G m0 fun F O _ v a => Ag.rel cf F O v a) : EG cf E (tCall (spGX1 cf g) [] E (tCons t0 tNil)) G (m0.bind fun x0 => g x0) (Rs.res cf) := fun F O H σ Q hf he nb ko ke => by
  have le0 : Le F F := Le.refl F
  refine h0 F O H σ _ hf (he.mono le0) (R.bind_nb nb) (fun x0 v0 F1 H1 e0 l0 hf1 r0 => ?_) (fun c' p d' F' H' e' le hf' hd => ke c' p d' F' H' (by rw [e']; rfl) (le0.trans le) hf' hd)
  rw [e0, R.ok_bind] at nb ko ke
  have le1 := le0.trans l0
  exact ⟨F1, O, v0, x0, rfl, hf1, r0, nb, fun r w F' H' e le hf' hr => ko r w F' H' e (le1.trans le) hf' hr, fun c' p d' F' H' e' le hf' hd => ke c' p d' F' H' e' (le1.trans le) hf' hd⟩
theorem em_callGP1 {cf : Cf} {E : XK} {G : List Sl} {t0 : TE} {m0 : R α} {g : α → R τ} (h0 : EG cf E t0 G m0 fun F O _ v a => Ag.rel cf F O v a) : EG cf E (tCall (spGX1 cf g) [] E0 (tCons t0 tNil)) G (m0.bind fun x0 => (g x0).pu) (Rs.res cf) := fun F O H σ Q hf he nb ko ke => by
  have le0 : Le F F := Le.refl F
  refine h0 F O H σ _ hf (he.mono le0) (R.bind_nb nb) (fun x0 v0 F1 H1 e0 l0 hf1 r0 => ?_) (fun c' p d' F' H' e' le hf' hd => ke c' p d' F' H' (by rw [e']; rfl) (le0.trans le) hf' hd)
  rw [e0, R.ok_bind] at nb ko ke
  have le1 := le0.trans l0
  obtain ⟨y, ey⟩ := pu_nb nb
  exact ⟨F1, O, v0, x0, rfl, hf1, r0, fun z => by rw [ey] at z; (cases z), fun r w F' H' e le hf' hr => ko r w F' H' (by rw [e]; rfl) (le1.trans le) hf' hr, fun c' p d' F' H' e' => by rw [ey] at e'; cases e'⟩
theorem fnG1 {P : Program} {w : World} {cf : Cf} {mg : Str → Option Value} {base : Heap} {x qual : Str} {st : Stmt} {f0 : Addr} {fd : FuncData} {N ps : List Str} {k : Nat} {S : Type} {enc : S → List Sl} (F : Fun cf.K x qual st f0 fd) (sc : FnScope N ps (defScope st)) (hp : ps.length = 1) (g : α → R (Fl S τ))
    (G0 : α → List Sl) (hG : ∀ x0, [Ag.sl cf x0] ++ List.replicate (N.length - 1) .un = G0 x0)
    (h : ∀ (cdv : Value) (A : Around) (outer : List Env) (s : Shared) (H : Hp) (E : XK), Room k (A.deeper (envOfC qual (defScope st) s.heap.objs.size f0 cdv)) →
      ∃ t, PSs (cxOf CX0 P w cf.K mg base N qual (defScope st) f0 cdv A outer s H E).nox (defBody st) t ∧ ∀ x0, SB cf E0 t (G0 x0) enc (g x0)) :
    FnOk P w cf.K mg base CX0 (k + 1) f0 fd ps (spG1 cf fun x0 => finR (g x0)) := by
  refine F.ok sc (spG1.len hp) (fun cdv A outer s H vs Q E hr hq => ?_)
  obtain ⟨t, ht, hb⟩ := h cdv A outer s H E hr
  refine ⟨t, ht, ?_⟩
  obtain ⟨F, O, v0, x0, r, rfl, hf, q0, eg, k⟩ := hq
  have hb1 := hb x0
  rw [← hG] at hb1
  replace eg : finR (g x0) = R.ok r := eg
  refine hb1 F O H _ _ (mt_startG (N := N) hf (by exact slots_ok1 (Ag.ok q0)) ?_ ?_) ?_ ?_ ?_ ?_ ?_
  · exact fun s hs => by
      simp only [List.mem_cons, List.not_mem_nil, or_false] at hs
      rcases hs with rfl
      · exact Ag.no cf x0
  · rfl
  · exact fun z => by rw [z] at eg; cases eg
  · exact fun s F' H' σ' e => by rw [e] at eg; cases eg
  · exact fun s F' H' σ' e => by rw [e] at eg; cases eg
  · exact fun r' v F' H' e le hf' hr' => by
      rw [e] at eg
      cases eg
      exact k v F' H' le hf' hr'
  · exact fun c p d F' H' e => by rw [e] at eg; cases eg
theorem fnGX1 {P : Program} {w : World} {cf : Cf} {mg : Str → Option Value} {base : Heap} {x qual : Str} {st : Stmt} {f0 : Addr} {fd : FuncData} {N ps : List Str} {k : Nat} {S : Type} {enc : S → List Sl} (F : Fun cf.K x qual st f0 fd) (sc : FnScope N ps (defScope st)) (hp : ps.length = 1) (g : α → R (Fl S τ))
    (G0 : α → List Sl) (hG : ∀ x0, [Ag.sl cf x0] ++ List.replicate (N.length - 1) .un = G0 x0)
    (h : ∀ (cdv : Value) (A : Around) (outer : List Env) (s : Shared) (H : Hp) (E : XK), Room k (A.deeper (envOfC qual (defScope st) s.heap.objs.size f0 cdv)) →
      ∃ t, PSs (cxOf (L2.CX P w) P w cf.K mg base N qual (defScope st) f0 cdv A outer s H E) (defBody st) t ∧ ∀ x0, SB cf E t (G0 x0) enc (g x0)) :
    FnOk P w cf.K mg base (L2.CX P w) (k + 1) f0 fd ps (spGX1 cf fun x0 => finR (g x0)) := by
  refine F.okX sc (spGX1.len hp) (fun cdv A outer s H vs Q E hr hq => ?_)
  obtain ⟨t, ht, hb⟩ := h cdv A outer s H E hr
  refine ⟨t, ht, ?_⟩
  obtain ⟨F, O, v0, x0, rfl, hf, q0, nb, ko, ke⟩ := hq
  have hb1 := hb x0
  rw [← hG] at hb1
  replace nb : finR (g x0) ≠ R.bad := nb
  replace ko : ∀ (r : τ) (w : V) (F' H' : Hp), finR (g x0) = R.ok r → Le F F' → Fm F' O H' → Rs.res cf F' O H' w r → Q w H' := ko
  replace ke : ∀ (c : Nat) (p : Int) (d : Addr) (F' H' : Hp), finR (g x0) = R.er c p → Le F F' → Fm F' O H' → F' d = some (xdO cf c p) → E (Value.ref (cf.cls c)) (some d) H' := ke
  refine hb1 F O H _ _ (mt_startG (N := N) hf (by exact slots_ok1 (Ag.ok q0)) ?_ ?_) ?_ ?_ ?_ ?_ ?_
  · exact fun s hs => by
      simp only [List.mem_cons, List.not_mem_nil, or_false] at hs
      rcases hs with rfl
      · exact Ag.no cf x0
  · rfl
  · exact fun z => nb (by rw [z]; rfl)
  · exact fun s F' H' σ' e => absurd (by rw [e]; rfl) nb
  · exact fun s F' H' σ' e => absurd (by rw [e]; rfl) nb
  · exact fun r' v F' H' e le hf' hr' => ko r' v F' H' (by rw [e]; rfl) le hf' hr'
  · exact fun c p d F' H' e le hf' hd => ke c p d F' H' (by rw [e]; rfl) le hf' hd
end
section
variable {α β τ : Type} [Ag α] [Ag β] [Rs τ]
def spG2 (cf : Cf) (g : α → β → R τ) : Sp := fun vs H Q _ => ∃ (F O : Hp) (v0 v1 : V) (x0 : α) (x1 : β) (r : τ), vs = [v0, v1] ∧ Fm F O H ∧ Ag.rel cf F O v0 x0 ∧ Ag.rel cf F O v1 x1 ∧ g x0 x1 = .ok r ∧ ∀ w F' H', Le F F' → Fm F' O H' → Rs.res cf F' O H' w r → Q w H'
def spGX2 (cf : Cf) (g : α → β → R τ) : Sp := fun vs H Q E => ∃ (F O : Hp) (v0 v1 : V) (x0 : α) (x1 : β), vs = [v0, v1] ∧ Fm F O H ∧ Ag.rel cf F O v0 x0 ∧ Ag.rel cf F O v1 x1 ∧ g x0 x1 ≠ .bad ∧ (∀ r w F' H', g x0 x1 = .ok r → Le F F' → Fm F' O H' → Rs.res cf F' O H' w r → Q w H') ∧ (∀ c p d F' H', g x0 x1 = .er c p → Le F F' → Fm F' O H' → F' d = some (xdO cf c p) → E (.ref (cf.cls c)) (some d) H')
theorem spG2.len {cf : Cf} {g : α → β → R τ} {ps : List Str} (h : ps.length = 2 := by rfl) : ∀ vs H Q E, spG2 cf g vs H Q E → vs.length = ps.length := fun vs H Q E q => by
  rw [h]
  obtain ⟨F, O, v0, v1, x0, x1, r, q, _⟩ := q
  rw [q]
  rfl
theorem spGX2.len {cf : Cf} {g : α → β → R τ} {ps : List Str} (h : ps.length = 2 := by rfl) : ∀ vs H Q E, spGX2 cf g vs H Q E → vs.length = ps.length := fun vs H Q E q => by
  rw [h]
  obtain ⟨F, O, v0, v1, x0, x1, q, _⟩ := q
  rw [q]
  rfl
theorem em_callG2 {cf : Cf} {E : XK} {G : List Sl} {t0 t1 : TE} {m0 : R α} {m1 : R β} {g : α → β → R τ} (h0 : EG cf E t0 G m0 fun F O _ v a => Ag.rel cf F O v a) (h1 : EG cf E t1 G m1 fun F O _ v a => Ag.rel cf F O v a) : EG cf E (tCall (spG2 cf g) [] E0 (tCons t0 (tCons t1 tNil))) G (m0.bind fun x0 => m1.bind fun x1 => (g x0 x1).pu) (Rs.res cf) := fun F O H σ Q hf he nb ko ke => by
  have le0 : Le F F := Le.refl F
  refine h0 F O H σ _ hf (he.mono le0) (R.bind_nb nb) (fun x0 v0 F1 H1 e0 l0 hf1 r0 => ?_) (fun c' p d' F' H' e' le hf' hd => ke c' p d' F' H' (by rw [e']; rfl) (le0.trans le) hf' hd)
  rw [e0, R.ok_bind] at nb ko ke
  have le1 := le0.trans l0
  refine h1 F1 O H1 σ _ hf1 (he.mono le1) (R.bind_nb nb) (fun x1 v1 F2 H2 e1 l1 hf2 r1 => ?_) (fun c' p d' F' H' e' le hf' hd => ke c' p d' F' H' (by rw [e']; rfl) (le1.trans le) hf' hd)
  rw [e1, R.ok_bind] at nb ko ke
  have le2 := le1.trans l1
  obtain ⟨y, ey⟩ := pu_nb nb
  exact ⟨F2, O, v0, v1, x0, x1, y, rfl, hf2, (Ag.mono r0 l1), r1, ey, fun w F' H' le hf' hr => ko y w F' H' (by rw [ey]; rfl) (le2.trans le) hf' hr⟩
theorem em_callGX2 {cf : Cf} {E : XK} {G : List Sl} {t0 t1 : TE} {m0 : R α} {m1 : R β} {g : α → β → R τ} (h0 : EG cf E t0 G m0 fun F O _ v a => Ag.rel cf F O v a) (h1 : EG cf E t1 G m1 fun F O _ v a => Ag.rel cf F O v a) : EG cf E (tCall (spGX2 cf g) [] E (tCons t0 (tCons t1 tNil))) G (m0.bind fun x0 => m1.bind fun x1 => g x0 x1) (Rs.res cf) := fun F O H σ Q hf he nb ko ke => by
  have le0 : Le F F := Le.refl F
  refine h0 F O H σ _ hf (he.mono le0) (R.bind_nb nb) (fun x0 v0 F1 H1 e0 l0 hf1 r0 => ?_) (fun c' p d' F' H' e' le hf' hd => ke c' p d' F' H' (by rw [e']; rfl) (le0.trans le) hf' hd)
  rw [e0, R.ok_bind] at nb ko ke
  have le1 := le0.trans l0
  refine h1 F1 O H1 σ _ hf1 (he.mono le1) (R.bind_nb nb) (fun x1 v1 F2 H2 e1 l1 hf2 r1 => ?_) (fun c' p d' F' H' e' le hf' hd => ke c' p d' F' H' (by rw [e']; rfl) (le1.trans le) hf' hd)
  rw [e1, R.ok_bind] at nb ko ke
  have le2 := le1.trans l1
  exact ⟨F2, O, v0, v1, x0, x1, rfl, hf2, (Ag.mono r0 l1), r1, nb, fun r w F' H' e le hf' hr => ko r w F' H' e (le2.trans le) hf' hr, fun c' p d' F' H' e' le hf' hd => ke c' p d' F' H' e' (le2.trans le) hf' hd⟩
theorem em_callGP2 {cf : Cf} {E : XK} {G : List Sl} {t0 t1 : TE} {m0 : R α} {m1 : R β} {g : α → β → R τ} (h0 : EG cf E t0 G m0 fun F O _ v a => Ag.rel cf F O v a) (h1 : EG cf E t1 G m1 fun F O _ v a => Ag.rel cf F O v a) : EG cf E (tCall (spGX2 cf g) [] E0 (tCons t0 (tCons t1 tNil))) G (m0.bind fun x0 => m1.bind fun x1 => (g x0 x1).pu) (Rs.res cf) := fun F O H σ Q hf he nb ko ke => by
  have le0 : Le F F := Le.refl F
  refine h0 F O H σ _ hf (he.mono le0) (R.bind_nb nb) (fun x0 v0 F1 H1 e0 l0 hf1 r0 => ?_) (fun c' p d' F' H' e' le hf' hd => ke c' p d' F' H' (by rw [e']; rfl) (le0.trans le) hf' hd)
  rw [e0, R.ok_bind] at nb ko ke
  have le1 := le0.trans l0
  refine h1 F1 O H1 σ _ hf1 (he.mono le1) (R.bind_nb nb) (fun x1 v1 F2 H2 e1 l1 hf2 r1 => ?_) (fun c' p d' F' H' e' le hf' hd => ke c' p d' F' H' (by rw [e']; rfl) (le1.trans le) hf' hd)
  rw [e1, R.ok_bind] at nb ko ke
  have le2 := le1.trans l1
  obtain ⟨y, ey⟩ := pu_nb nb
  exact ⟨F2, O, v0, v1, x0, x1, rfl, hf2, (Ag.mono r0 l1), r1, fun z => by rw [ey] at z; (cases z), fun r w F' H' e le hf' hr => ko r w F' H' (by rw [e]; rfl) (le2.trans le) hf' hr, fun c' p d' F' H' e' => by rw [ey] at e'; cases e'⟩
theorem fnG2 {P : Program} {w : World} {cf : Cf} {mg : Str → Option Value} {base : Heap} {x qual : Str} {st : Stmt} {f0 : Addr} {fd : FuncData} {N ps : List Str} {k : Nat} {S : Type} {enc : S → List Sl} (F : Fun cf.K x qual st f0 fd) (sc : FnScope N ps (defScope st)) (hp : ps.length = 2) (g : α → β → R (Fl S τ))
    (G0 : α → β → List Sl) (hG : ∀ x0 x1, [Ag.sl cf x0, Ag.sl cf x1] ++ List.replicate (N.length - 2) .un = G0 x0 x1)
    (h : ∀ (cdv : Value) (A : Around) (outer : List Env) (s : Shared) (H : Hp) (E : XK), Room k (A.deeper (envOfC qual (defScope st) s.heap.objs.size f0 cdv)) →
      ∃ t, PSs (cxOf CX0 P w cf.K mg base N qual (defScope st) f0 cdv A outer s H E).nox (defBody st) t ∧ ∀ x0 x1, SB cf E0 t (G0 x0 x1) enc (g x0 x1)) :
    FnOk P w cf.K mg base CX0 (k + 1) f0 fd ps (spG2 cf fun x0 x1 => finR (g x0 x1)) := by
  refine F.ok sc (spG2.len hp) (fun cdv A outer s H vs Q E hr hq => ?_)
  obtain ⟨t, ht, hb⟩ := h cdv A outer s H E hr
  refine ⟨t, ht, ?_⟩
  obtain ⟨F, O, v0, v1, x0, x1, r, rfl, hf, q0, q1, eg, k⟩ := hq
  have hb1 := hb x0 x1
  rw [← hG] at hb1
  replace eg : finR (g x0 x1) = R.ok r := eg
  refine hb1 F O H _ _ (mt_startG (N := N) hf (by exact slots_ok2 (Ag.ok q0) (Ag.ok q1)) ?_ ?_) ?_ ?_ ?_ ?_ ?_
  · exact fun s hs => by
      simp only [List.mem_cons, List.not_mem_nil, or_false] at hs
      rcases hs with rfl | rfl
      · exact Ag.no cf x0
      · exact Ag.no cf x1
  · rfl
  · exact fun z => by rw [z] at eg; cases eg
  · exact fun s F' H' σ' e => by rw [e] at eg; cases eg
  · exact fun s F' H' σ' e => by rw [e] at eg; cases eg
  · exact fun r' v F' H' e le hf' hr' => by
      rw [e] at eg
      cases eg
      exact k v F' H' le hf' hr'
  · exact fun c p d F' H' e => by rw [e] at eg; cases eg
theorem fnGX2 {P : Program} {w : World} {cf : Cf} {mg : Str → Option Value} {base : Heap} {x qual : Str} {st : Stmt} {f0 : Addr} {fd : FuncData} {N ps : List Str} {k : Nat} {S : Type} {enc : S → List Sl} (F : Fun cf.K x qual st f0 fd) (sc : FnScope N ps (defScope st)) (hp : ps.length = 2) (g : α → β → R (Fl S τ))
    (G0 : α → β → List Sl) (hG : ∀ x0 x1, [Ag.sl cf x0, Ag.sl cf x1] ++ List.replicate (N.length - 2) .un = G0 x0 x1)
    (h : ∀ (cdv : Value) (A : Around) (outer : List Env) (s : Shared) (H : Hp) (E : XK), Room k (A.deeper (envOfC qual (defScope st) s.heap.objs.size f0 cdv)) →
      ∃ t, PSs (cxOf (L2.CX P w) P w cf.K mg base N qual (defScope st) f0 cdv A outer s H E) (defBody st) t ∧ ∀ x0 x1, SB cf E t (G0 x0 x1) enc (g x0 x1)) :
    FnOk P w cf.K mg base (L2.CX P w) (k + 1) f0 fd ps (spGX2 cf fun x0 x1 => finR (g x0 x1)) := by
  refine F.okX sc (spGX2.len hp) (fun cdv A outer s H vs Q E hr hq => ?_)
  obtain ⟨t, ht, hb⟩ := h cdv A outer s H E hr
  refine ⟨t, ht, ?_⟩
  obtain ⟨F, O, v0, v1, x0, x1, rfl, hf, q0, q1, nb, ko, ke⟩ := hq
  have hb1 := hb x0 x1
  rw [← hG] at hb1
  replace nb : finR (g x0 x1) ≠ R.bad := nb
  replace ko : ∀ (r : τ) (w : V) (F' H' : Hp), finR (g x0 x1) = R.ok r → Le F F' → Fm F' O H' → Rs.res cf F' O H' w r → Q w H' := ko
  replace ke : ∀ (c : Nat) (p : Int) (d : Addr) (F' H' : Hp), finR (g x0 x1) = R.er c p → Le F F' → Fm F' O H' → F' d = some (xdO cf c p) → E (Value.ref (cf.cls c)) (some d) H' := ke
  refine hb1 F O H _ _ (mt_startG (N := N) hf (by exact slots_ok2 (Ag.ok q0) (Ag.ok q1)) ?_ ?_) ?_ ?_ ?_ ?_ ?_
  · exact fun s hs => by
      simp only [List.mem_cons, List.not_mem_nil, or_false] at hs
      rcases hs with rfl | rfl
      · exact Ag.no cf x0
      · exact Ag.no cf x1
  · rfl
  · exact fun z => nb (by rw [z]; rfl)
  · exact fun s F' H' σ' e => absurd (by rw [e]; rfl) nb
  · exact fun s F' H' σ' e => absurd (by rw [e]; rfl) nb
  · exact fun r' v F' H' e le hf' hr' => ko r' v F' H' (by rw [e]; rfl) le hf' hr'
  · exact fun c p d F' H' e le hf' hd => ke c p d F' H' (by rw [e]; rfl) le hf' hd
end
section
variable {α β γ τ : Type} [Ag α] [Ag β] [Ag γ] [Rs τ]
def spG3 (cf : Cf) (g : α → β → γ → R τ) : Sp := fun vs H Q _ => ∃ (F O : Hp) (v0 v1 v2 : V) (x0 : α) (x1 : β) (x2 : γ) (r : τ), vs = [v0, v1, v2] ∧ Fm F O H ∧ Ag.rel cf F O v0 x0 ∧ Ag.rel cf F O v1 x1 ∧ Ag.rel cf F O v2 x2 ∧ g x0 x1 x2 = .ok r ∧ ∀ w F' H', Le F F' → Fm F' O H' → Rs.res cf F' O H' w r → Q w H'
def spGX3 (cf : Cf) (g : α → β → γ → R τ) : Sp := fun vs H Q E => ∃ (F O : Hp) (v0 v1 v2 : V) (x0 : α) (x1 : β) (x2 : γ), vs = [v0, v1, v2] ∧ Fm F O H ∧ Ag.rel cf F O v0 x0 ∧ Ag.rel cf F O v1 x1 ∧ Ag.rel cf F O v2 x2 ∧ g x0 x1 x2 ≠ .bad ∧ (∀ r w F' H', g x0 x1 x2 = .ok r → Le F F' → Fm F' O H' → Rs.res cf F' O H' w r → Q w H') ∧ (∀ c p d F' H', g x0 x1 x2 = .er c p → Le F F' → Fm F' O H' → F' d = some (xdO cf c p) → E (.ref (cf.cls c)) (some d) H')
theorem spG3.len {cf : Cf} {g : α → β → γ → R τ} {ps : List Str} (h : ps.length = 3 := by rfl) : ∀ vs H Q E, spG3 cf g vs H Q E → vs.length = ps.length := fun vs H Q E q => by
  rw [h]
  obtain ⟨F, O, v0, v1, v2, x0, x1, x2, r, q, _⟩ := q
  rw [q]
  rfl
theorem spGX3.len {cf : Cf} {g : α → β → γ → R τ} {ps : List Str} (h : ps.length = 3 := by rfl) : ∀ vs H Q E, spGX3 cf g vs H Q E → vs.length = ps.length := fun vs H Q E q => by
  rw [h]
  obtain ⟨F, O, v0, v1, v2, x0, x1, x2, q, _⟩ := q
  rw [q]
  rfl
theorem em_callG3 {cf : Cf} {E : XK} {G : List Sl} {t0 t1 t2 : TE} {m0 : R α} {m1 : R β} {m2 : R γ} {g : α → β → γ → R τ} (h0 : EG cf E t0 G m0 fun F O _ v a => Ag.rel cf F O v a) (h1 : EG cf E t1 G m1 fun F O _ v a => Ag.rel cf F O v a) (h2 : EG cf E t2 G m2 fun F O _ v a => Ag.rel cf F O v a) : EG cf E (tCall (spG3 cf g) [] E0 (tCons t0 (tCons t1 (tCons t2 tNil)))) G (m0.bind fun x0 => m1.bind fun x1 => m2.bind fun x2 => (g x0 x1 x2).pu) (Rs.res cf) := fun F O H σ Q hf he nb ko ke => by
  have le0 : Le F F := Le.refl F
  refine h0 F O H σ _ hf (he.mono le0) (R.bind_nb nb) (fun x0 v0 F1 H1 e0 l0 hf1 r0 => ?_) (fun c' p d' F' H' e' le hf' hd => ke c' p d' F' H' (by rw [e']; rfl) (le0.trans le) hf' hd)
  rw [e0, R.ok_bind] at nb ko ke
  have le1 := le0.trans l0
  refine h1 F1 O H1 σ _ hf1 (he.mono le1) (R.bind_nb nb) (fun x1 v1 F2 H2 e1 l1 hf2 r1 => ?_) (fun c' p d' F' H' e' le hf' hd => ke c' p d' F' H' (by rw [e']; rfl) (le1.trans le) hf' hd)
  rw [e1, R.ok_bind] at nb ko ke
  have le2 := le1.trans l1
  refine h2 F2 O H2 σ _ hf2 (he.mono le2) (R.bind_nb nb) (fun x2 v2 F3 H3 e2 l2 hf3 r2 => ?_) (fun c' p d' F' H' e' le hf' hd => ke c' p d' F' H' (by rw [e']; rfl) (le2.trans le) hf' hd)
  rw [e2, R.ok_bind] at nb ko ke
  have le3 := le2.trans l2
  obtain ⟨y, ey⟩ := pu_nb nb
  exact ⟨F3, O, v0, v1, v2, x0, x1, x2, y, rfl, hf3, (Ag.mono (Ag.mono r0 l1) l2), (Ag.mono r1 l2), r2, ey, fun w F' H' le hf' hr => ko y w F' H' (by rw [ey]; rfl) (le3.trans le) hf' hr⟩
theorem em_callGX3 {cf : Cf} {E : XK} {G : List Sl} {t0 t1 t2 : TE} {m0 : R α} {m1 : R β} {m2 : R γ} {g : α → β → γ → R τ} (h0 : EG cf E t0 G m0 fun F O _ v a => Ag.rel cf F O v a) (h1 : EG cf E t1 G m1 fun F O _ v a => Ag.rel cf F O v a) (h2 : EG cf E t2 G m2 fun F O _ v a => Ag.rel cf F O v a) : EG cf E (tCall (spGX3 cf g) [] E (tCons t0 (tCons t1 (tCons t2 tNil)))) G (m0.bind fun x0 => m1.bind fun x1 => m2.bind fun x2 => g x0 x1 x2) (Rs.res cf) := fun F O H σ Q hf he nb ko ke => by
  have le0 : Le F F := Le.refl F
  refine h0 F O H σ _ hf (he.mono le0) (R.bind_nb nb) (fun x0 v0 F1 H1 e0 l0 hf1 r0 => ?_) (fun c' p d' F' H' e' le hf' hd => ke c' p d' F' H' (by rw [e']; rfl) (le0.trans le) hf' hd)
  rw [e0, R.ok_bind] at nb ko ke
  have le1 := le0.trans l0
  refine h1 F1 O H1 σ _ hf1 (he.mono le1) (R.bind_nb nb) (fun x1 v1 F2 H2 e1 l1 hf2 r1 => ?_) (fun c' p d' F' H' e' le hf' hd => ke c' p d' F' H' (by rw [e']; rfl) (le1.trans le) hf' hd)
  rw [e1, R.ok_bind] at nb ko ke
  have le2 := le1.trans l1
  refine h2 F2 O H2 σ _ hf2 (he.mono le2) (R.bind_nb nb) (fun x2 v2 F3 H3 e2 l2 hf3 r2 => ?_) (fun c' p d' F' H' e' le hf' hd => ke c' p d' F' H' (by rw [e']; rfl) (le2.trans le) hf' hd)
  rw [e2, R.ok_bind] at nb ko ke
  have le3 := le2.trans l2
  exact ⟨F3, O, v0, v1, v2, x0, x1, x2, rfl, hf3, (Ag.mono (Ag.mono r0 l1) l2), (Ag.mono r1 l2), r2, nb, fun r w F' H' e le hf' hr => ko r w F' H' e (le3.trans le) hf' hr, fun c' p d' F' H' e' le hf' hd => ke c' p d' F' H' e' (le3.trans le) hf' hd⟩
theorem em_callGP3 {cf : Cf} {E : XK} {G : List Sl} {t0 t1 t2 : TE} {m0 : R α} {m1 : R β} {m2 : R γ} {g : α → β → γ → R τ} (h0 : EG cf E t0 G m0 fun F O _ v a => Ag.rel cf F O v a) (h1 : EG cf E t1 G m1 fun F O _ v a => Ag.rel cf F O v a) (h2 : EG cf E t2 G m2 fun F O _ v a => Ag.rel cf F O v a) : EG cf E (tCall (spGX3 cf g) [] E0 (tCons t0 (tCons t1 (tCons t2 tNil)))) G (m0.bind fun x0 => m1.bind fun x1 => m2.bind fun x2 => (g x0 x1 x2).pu) (Rs.res cf) := fun F O H σ Q hf he nb ko ke => by
  have le0 : Le F F := Le.refl F
  refine h0 F O H σ _ hf (he.mono le0) (R.bind_nb nb) (fun x0 v0 F1 H1 e0 l0 hf1 r0 => ?_) (fun c' p d' F' H' e' le hf' hd => ke c' p d' F' H' (by rw [e']; rfl) (le0.trans le) hf' hd)
  rw [e0, R.ok_bind] at nb ko ke
  have le1 := le0.trans l0
  refine h1 F1 O H1 σ _ hf1 (he.mono le1) (R.bind_nb nb) (fun x1 v1 F2 H2 e1 l1 hf2 r1 => ?_) (fun c' p d' F' H' e' le hf' hd => ke c' p d' F' H' (by rw [e']; rfl) (le1.trans le) hf' hd)
  rw [e1, R.ok_bind] at nb ko ke
  have le2 := le1.trans l1
  refine h2 F2 O H2 σ _ hf2 (he.mono le2) (R.bind_nb nb) (fun x2 v2 F3 H3 e2 l2 hf3 r2 => ?_) (fun c' p d' F' H' e' le hf' hd => ke c' p d' F' H' (by rw [e']; rfl) (le2.trans le) hf' hd)
  rw [e2, R.ok_bind] at nb ko ke
  have le3 := le2.trans l2
  obtain ⟨y, ey⟩ := pu_nb nb
  exact ⟨F3, O, v0, v1, v2, x0, x1, x2, rfl, hf3, (Ag.mono (Ag.mono r0 l1) l2), (Ag.mono r1 l2), r2, fun z => by rw [ey] at z; (cases z), fun r w F' H' e le hf' hr => ko r w F' H' (by rw [e]; rfl) (le3.trans le) hf' hr, fun c' p d' F' H' e' => by rw [ey] at e'; cases e'⟩
theorem fnG3 {P : Program} {w : World} {cf : Cf} {mg : Str → Option Value} {base : Heap} {x qual : Str} {st : Stmt} {f0 : Addr} {fd : FuncData} {N ps : List Str} {k : Nat} {S : Type} {enc : S → List Sl} (F : Fun cf.K x qual st f0 fd) (sc : FnScope N ps (defScope st)) (hp : ps.length = 3) (g : α → β → γ → R (Fl S τ))
    (G0 : α → β → γ → List Sl) (hG : ∀ x0 x1 x2, [Ag.sl cf x0, Ag.sl cf x1, Ag.sl cf x2] ++ List.replicate (N.length - 3) .un = G0 x0 x1 x2)
    (h : ∀ (cdv : Value) (A : Around) (outer : List Env) (s : Shared) (H : Hp) (E : XK), Room k (A.deeper (envOfC qual (defScope st) s.heap.objs.size f0 cdv)) →
      ∃ t, PSs (cxOf CX0 P w cf.K mg base N qual (defScope st) f0 cdv A outer s H E).nox (defBody st) t ∧ ∀ x0 x1 x2, SB cf E0 t (G0 x0 x1 x2) enc (g x0 x1 x2)) :
    FnOk P w cf.K mg base CX0 (k + 1) f0 fd ps (spG3 cf fun x0 x1 x2 => finR (g x0 x1 x2)) := by
  refine F.ok sc (spG3.len hp) (fun cdv A outer s H vs Q E hr hq => ?_)
  obtain ⟨t, ht, hb⟩ := h cdv A outer s H E hr
  refine ⟨t, ht, ?_⟩
  obtain ⟨F, O, v0, v1, v2, x0, x1, x2, r, rfl, hf, q0, q1, q2, eg, k⟩ := hq
  have hb1 := hb x0 x1 x2
  rw [← hG] at hb1
  replace eg : finR (g x0 x1 x2) = R.ok r := eg
  refine hb1 F O H _ _ (mt_startG (N := N) hf (by exact slots_ok3 (Ag.ok q0) (Ag.ok q1) (Ag.ok q2)) ?_ ?_) ?_ ?_ ?_ ?_ ?_
  · exact fun s hs => by
      simp only [List.mem_cons, List.not_mem_nil, or_false] at hs
      rcases hs with rfl | rfl | rfl
      · exact Ag.no cf x0
      · exact Ag.no cf x1
      · exact Ag.no cf x2
  · rfl
  · exact fun z => by rw [z] at eg; cases eg
  · exact fun s F' H' σ' e => by rw [e] at eg; cases eg
  · exact fun s F' H' σ' e => by rw [e] at eg; cases eg
  · exact fun r' v F' H' e le hf' hr' => by
      rw [e] at eg
      cases eg
      exact k v F' H' le hf' hr'
  · exact fun c p d F' H' e => by rw [e] at eg; cases eg
theorem fnGX3 {P : Program} {w : World} {cf : Cf} {mg : Str → Option Value} {base : Heap} {x qual : Str} {st : Stmt} {f0 : Addr} {fd : FuncData} {N ps : List Str} {k : Nat} {S : Type} {enc : S → List Sl} (F : Fun cf.K x qual st f0 fd) (sc : FnScope N ps (defScope st)) (hp : ps.length = 3) (g : α → β → γ → R (Fl S τ))
    (G0 : α → β → γ → List Sl) (hG : ∀ x0 x1 x2, [Ag.sl cf x0, Ag.sl cf x1, Ag.sl cf x2] ++ List.replicate (N.length - 3) .un = G0 x0 x1 x2)
    (h : ∀ (cdv : Value) (A : Around) (outer : List Env) (s : Shared) (H : Hp) (E : XK), Room k (A.deeper (envOfC qual (defScope st) s.heap.objs.size f0 cdv)) →
      ∃ t, PSs (cxOf (L2.CX P w) P w cf.K mg base N qual (defScope st) f0 cdv A outer s H E) (defBody st) t ∧ ∀ x0 x1 x2, SB cf E t (G0 x0 x1 x2) enc (g x0 x1 x2)) :
    FnOk P w cf.K mg base (L2.CX P w) (k + 1) f0 fd ps (spGX3 cf fun x0 x1 x2 => finR (g x0 x1 x2)) := by
  refine F.okX sc (spGX3.len hp) (fun cdv A outer s H vs Q E hr hq => ?_)
  obtain ⟨t, ht, hb⟩ := h cdv A outer s H E hr
  refine ⟨t, ht, ?_⟩
  obtain ⟨F, O, v0, v1, v2, x0, x1, x2, rfl, hf, q0, q1, q2, nb, ko, ke⟩ := hq
  have hb1 := hb x0 x1 x2
  rw [← hG] at hb1
  replace nb : finR (g x0 x1 x2) ≠ R.bad := nb
  replace ko : ∀ (r : τ) (w : V) (F' H' : Hp), finR (g x0 x1 x2) = R.ok r → Le F F' → Fm F' O H' → Rs.res cf F' O H' w r → Q w H' := ko
  replace ke : ∀ (c : Nat) (p : Int) (d : Addr) (F' H' : Hp), finR (g x0 x1 x2) = R.er c p → Le F F' → Fm F' O H' → F' d = some (xdO cf c p) → E (Value.ref (cf.cls c)) (some d) H' := ke
  refine hb1 F O H _ _ (mt_startG (N := N) hf (by exact slots_ok3 (Ag.ok q0) (Ag.ok q1) (Ag.ok q2)) ?_ ?_) ?_ ?_ ?_ ?_ ?_
  · exact fun s hs => by
      simp only [List.mem_cons, List.not_mem_nil, or_false] at hs
      rcases hs with rfl | rfl | rfl
      · exact Ag.no cf x0
      · exact Ag.no cf x1
      · exact Ag.no cf x2
  · rfl
  · exact fun z => nb (by rw [z]; rfl)
  · exact fun s F' H' σ' e => absurd (by rw [e]; rfl) nb
  · exact fun s F' H' σ' e => absurd (by rw [e]; rfl) nb
  · exact fun r' v F' H' e le hf' hr' => ko r' v F' H' (by rw [e]; rfl) le hf' hr'
  · exact fun c p d F' H' e le hf' hd => ke c p d F' H' (by rw [e]; rfl) le hf' hd
end
section
variable {α β γ δ τ : Type} [Ag α] [Ag β] [Ag γ] [Ag δ] [Rs τ]
def spG4 (cf : Cf) (g : α → β → γ → δ → R τ) : Sp := fun vs H Q _ => ∃ (F O : Hp) (v0 v1 v2 v3 : V) (x0 : α) (x1 : β) (x2 : γ) (x3 : δ) (r : τ), vs = [v0, v1, v2, v3] ∧ Fm F O H ∧ Ag.rel cf F O v0 x0 ∧ Ag.rel cf F O v1 x1 ∧ Ag.rel cf F O v2 x2 ∧ Ag.rel cf F O v3 x3 ∧ g x0 x1 x2 x3 = .ok r ∧ ∀ w F' H', Le F F' → Fm F' O H' → Rs.res cf F' O H' w r → Q w H'
def spGX4 (cf : Cf) (g : α → β → γ → δ → R τ) : Sp := fun vs H Q E => ∃ (F O : Hp) (v0 v1 v2 v3 : V) (x0 : α) (x1 : β) (x2 : γ) (x3 : δ), vs = [v0, v1, v2, v3] ∧ Fm F O H ∧ Ag.rel cf F O v0 x0 ∧ Ag.rel cf F O v1 x1 ∧ Ag.rel cf F O v2 x2 ∧ Ag.rel cf F O v3 x3 ∧ g x0 x1 x2 x3 ≠ .bad ∧ (∀ r w F' H', g x0 x1 x2 x3 = .ok r → Le F F' → Fm F' O H' → Rs.res cf F' O H' w r → Q w H') ∧ (∀ c p d F' H', g x0 x1 x2 x3 = .er c p → Le F F' → Fm F' O H' → F' d = some (xdO cf c p) → E (.ref (cf.cls c)) (some d) H')
theorem spG4.len {cf : Cf} {g : α → β → γ → δ → R τ} {ps : List Str} (h : ps.length = 4 := by rfl) : ∀ vs H Q E, spG4 cf g vs H Q E → vs.length = ps.length := fun vs H Q E q => by
  rw [h]
  obtain ⟨F, O, v0, v1, v2, v3, x0, x1, x2, x3, r, q, _⟩ := q
  rw [q]
  rfl
theorem spGX4.len {cf : Cf} {g : α → β → γ → δ → R τ} {ps : List Str} (h : ps.length = 4 := by rfl) : ∀ vs H Q E, spGX4 cf g vs H Q E → vs.length = ps.length := fun vs H Q E q => by
  rw [h]
  obtain ⟨F, O, v0, v1, v2, v3, x0, x1, x2, x3, q, _⟩ := q
  rw [q]
  rfl
theorem em_callG4 {cf : Cf} {E : XK} {G : List Sl} {t0 t1 t2 t3 : TE} {m0 : R α} {m1 : R β} {m2 : R γ} {m3 : R δ} {g : α → β → γ → δ → R τ} (h0 : EG cf E t0 G m0 fun F O _ v a => Ag.rel cf F O v a) (h1 : EG cf E t1 G m1 fun F O _ v a => Ag.rel cf F O v a) (h2 : EG cf E t2 G m2 fun F O _ v a => Ag.rel cf F O v a) (h3 : EG cf E t3 G m3 fun F O _ v a => Ag.rel cf F O v a) : EG cf E (tCall (spG4 cf g) [] E0 (tCons t0 (tCons t1 (tCons t2 (tCons t3 tNil))))) G (m0.bind fun x0 => m1.bind fun x1 => m2.bind fun x2 => m3.bind fun x3 => (g x0 x1 x2 x3).pu) (Rs.res cf) := fun F O H σ Q hf he nb ko ke => by
  have le0 : Le F F := Le.refl F
  refine h0 F O H σ _ hf (he.mono le0) (R.bind_nb nb) (fun x0 v0 F1 H1 e0 l0 hf1 r0 => ?_) (fun c' p d' F' H' e' le hf' hd => ke c' p d' F' H' (by rw [e']; rfl) (le0.trans le) hf' hd)
  rw [e0, R.ok_bind] at nb ko ke
  have le1 := le0.trans l0
  refine h1 F1 O H1 σ _ hf1 (he.mono le1) (R.bind_nb nb) (fun x1 v1 F2 H2 e1 l1 hf2 r1 => ?_) (fun c' p d' F' H' e' le hf' hd => ke c' p d' F' H' (by rw [e']; rfl) (le1.trans le) hf' hd)
  rw [e1, R.ok_bind] at nb ko ke
  have le2 := le1.trans l1
  refine h2 F2 O H2 σ _ hf2 (he.mono le2) (R.bind_nb nb) (fun x2 v2 F3 H3 e2 l2 hf3 r2 => ?_) (fun c' p d' F' H' e' le hf' hd => ke c' p d' F' H' (by rw [e']; rfl) (le2.trans le) hf' hd)
  rw [e2, R.ok_bind] at nb ko ke
  have le3 := le2.trans l2
  refine h3 F3 O H3 σ _ hf3 (he.mono le3) (R.bind_nb nb) (fun x3 v3 F4 H4 e3 l3 hf4 r3 => ?_) (fun c' p d' F' H' e' le hf' hd => ke c' p d' F' H' (by rw [e']; rfl) (le3.trans le) hf' hd)
  rw [e3, R.ok_bind] at nb ko ke
  have le4 := le3.trans l3
  obtain ⟨y, ey⟩ := pu_nb nb
  exact ⟨F4, O, v0, v1, v2, v3, x0, x1, x2, x3, y, rfl, hf4, (Ag.mono (Ag.mono (Ag.mono r0 l1) l2) l3), (Ag.mono (Ag.mono r1 l2) l3), (Ag.mono r2 l3), r3, ey, fun w F' H' le hf' hr => ko y w F' H' (by rw [ey]; rfl) (le4.trans le) hf' hr⟩
theorem em_callGX4 {cf : Cf} {E : XK} {G : List Sl} {t0 t1 t2 t3 : TE} {m0 : R α} {m1 : R β} {m2 : R γ} {m3 : R δ} {g : α → β → γ → δ → R τ} (h0 : EG cf E t0 G m0 fun F O _ v a => Ag.rel cf F O v a) (h1 : EG cf E t1 G m1 fun F O _ v a => Ag.rel cf F O v a) (h2 : EG cf E t2 G m2 fun F O _ v a => Ag.rel cf F O v a) (h3 : EG cf E t3 G m3 fun F O _ v a => Ag.rel cf F O v a) : EG cf E (tCall (spGX4 cf g) [] E (tCons t0 (tCons t1 (tCons t2 (tCons t3 tNil))))) G (m0.bind fun x0 => m1.bind fun x1 => m2.bind fun x2 => m3.bind fun x3 => g x0 x1 x2 x3) (Rs.res cf) := fun F O H σ Q hf he nb ko ke => by
  have le0 : Le F F := Le.refl F
  refine h0 F O H σ _ hf (he.mono le0) (R.bind_nb nb) (fun x0 v0 F1 H1 e0 l0 hf1 r0 => ?_) (fun c' p d' F' H' e' le hf' hd => ke c' p d' F' H' (by rw [e']; rfl) (le0.trans le) hf' hd)
  rw [e0, R.ok_bind] at nb ko ke
  have le1 := le0.trans l0
  refine h1 F1 O H1 σ _ hf1 (he.mono le1) (R.bind_nb nb) (fun x1 v1 F2 H2 e1 l1 hf2 r1 => ?_) (fun c' p d' F' H' e' le hf' hd => ke c' p d' F' H' (by rw [e']; rfl) (le1.trans le) hf' hd)
  rw [e1, R.ok_bind] at nb ko ke
  have le2 := le1.trans l1
  refine h2 F2 O H2 σ _ hf2 (he.mono le2) (R.bind_nb nb) (fun x2 v2 F3 H3 e2 l2 hf3 r2 => ?_) (fun c' p d' F' H' e' le hf' hd => ke c' p d' F' H' (by rw [e']; rfl) (le2.trans le) hf' hd)
  rw [e2, R.ok_bind] at nb ko ke
  have le3 := le2.trans l2
  refine h3 F3 O H3 σ _ hf3 (he.mono le3) (R.bind_nb nb) (fun x3 v3 F4 H4 e3 l3 hf4 r3 => ?_) (fun c' p d' F' H' e' le hf' hd => ke c' p d' F' H' (by rw [e']; rfl) (le3.trans le) hf' hd)
  rw [e3, R.ok_bind] at nb ko ke
  have le4 := le3.trans l3
  exact ⟨F4, O, v0, v1, v2, v3, x0, x1, x2, x3, rfl, hf4, (Ag.mono (Ag.mono (Ag.mono r0 l1) l2) l3), (Ag.mono (Ag.mono r1 l2) l3), (Ag.mono r2 l3), r3, nb, fun r w F' H' e le hf' hr => ko r w F' H' e (le4.trans le) hf' hr, fun c' p d' F' H' e' le hf' hd => ke c' p d' F' H' e' (le4.trans le) hf' hd⟩
theorem em_callGP4 {cf : Cf} {E : XK} {G : List Sl} {t0 t1 t2 t3 : TE} {m0 : R α} {m1 : R β} {m2 : R γ} {m3 : R δ} {g : α → β → γ → δ → R τ} (h0 : EG cf E t0 G m0 fun F O _ v a => Ag.rel cf F O v a) (h1 : EG cf E t1 G m1 fun F O _ v a => Ag.rel cf F O v a) (h2 : EG cf E t2 G m2 fun F O _ v a => Ag.rel cf F O v a) (h3 : EG cf E t3 G m3 fun F O _ v a => Ag.rel cf F O v a) : EG cf E (tCall (spGX4 cf g) [] E0 (tCons t0 (tCons t1 (tCons t2 (tCons t3 tNil))))) G (m0.bind fun x0 => m1.bind fun x1 => m2.bind fun x2 => m3.bind fun x3 => (g x0 x1 x2 x3).pu) (Rs.res cf) := fun F O H σ Q hf he nb ko ke => by
  have le0 : Le F F := Le.refl F
  refine h0 F O H σ _ hf (he.mono le0) (R.bind_nb nb) (fun x0 v0 F1 H1 e0 l0 hf1 r0 => ?_) (fun c' p d' F' H' e' le hf' hd => ke c' p d' F' H' (by rw [e']; rfl) (le0.trans le) hf' hd)
  rw [e0, R.ok_bind] at nb ko ke
  have le1 := le0.trans l0
  refine h1 F1 O H1 σ _ hf1 (he.mono le1) (R.bind_nb nb) (fun x1 v1 F2 H2 e1 l1 hf2 r1 => ?_) (fun c' p d' F' H' e' le hf' hd => ke c' p d' F' H' (by rw [e']; rfl) (le1.trans le) hf' hd)
  rw [e1, R.ok_bind] at nb ko ke
  have le2 := le1.trans l1
  refine h2 F2 O H2 σ _ hf2 (he.mono le2) (R.bind_nb nb) (fun x2 v2 F3 H3 e2 l2 hf3 r2 => ?_) (fun c' p d' F' H' e' le hf' hd => ke c' p d' F' H' (by rw [e']; rfl) (le2.trans le) hf' hd)
  rw [e2, R.ok_bind] at nb ko ke
  have le3 := le2.trans l2
  refine h3 F3 O H3 σ _ hf3 (he.mono le3) (R.bind_nb nb) (fun x3 v3 F4 H4 e3 l3 hf4 r3 => ?_) (fun c' p d' F' H' e' le hf' hd => ke c' p d' F' H' (by rw [e']; rfl) (le3.trans le) hf' hd)
  rw [e3, R.ok_bind] at nb ko ke
  have le4 := le3.trans l3
  obtain ⟨y, ey⟩ := pu_nb nb
  exact ⟨F4, O, v0, v1, v2, v3, x0, x1, x2, x3, rfl, hf4, (Ag.mono (Ag.mono (Ag.mono r0 l1) l2) l3), (Ag.mono (Ag.mono r1 l2) l3), (Ag.mono r2 l3), r3, fun z => by rw [ey] at z; (cases z), fun r w F' H' e le hf' hr => ko r w F' H' (by rw [e]; rfl) (le4.trans le) hf' hr, fun c' p d' F' H' e' => by rw [ey] at e'; cases e'⟩
theorem fnG4 {P : Program} {w : World} {cf : Cf} {mg : Str → Option Value} {base : Heap} {x qual : Str} {st : Stmt} {f0 : Addr} {fd : FuncData} {N ps : List Str} {k : Nat} {S : Type} {enc : S → List Sl} (F : Fun cf.K x qual st f0 fd) (sc : FnScope N ps (defScope st)) (hp : ps.length = 4) (g : α → β → γ → δ → R (Fl S τ))
    (G0 : α → β → γ → δ → List Sl) (hG : ∀ x0 x1 x2 x3, [Ag.sl cf x0, Ag.sl cf x1, Ag.sl cf x2, Ag.sl cf x3] ++ List.replicate (N.length - 4) .un = G0 x0 x1 x2 x3)
    (h : ∀ (cdv : Value) (A : Around) (outer : List Env) (s : Shared) (H : Hp) (E : XK), Room k (A.deeper (envOfC qual (defScope st) s.heap.objs.size f0 cdv)) →
      ∃ t, PSs (cxOf CX0 P w cf.K mg base N qual (defScope st) f0 cdv A outer s H E).nox (defBody st) t ∧ ∀ x0 x1 x2 x3, SB cf E0 t (G0 x0 x1 x2 x3) enc (g x0 x1 x2 x3)) :
    FnOk P w cf.K mg base CX0 (k + 1) f0 fd ps (spG4 cf fun x0 x1 x2 x3 => finR (g x0 x1 x2 x3)) := by
  refine F.ok sc (spG4.len hp) (fun cdv A outer s H vs Q E hr hq => ?_)
  obtain ⟨t, ht, hb⟩ := h cdv A outer s H E hr
  refine ⟨t, ht, ?_⟩
  obtain ⟨F, O, v0, v1, v2, v3, x0, x1, x2, x3, r, rfl, hf, q0, q1, q2, q3, eg, k⟩ := hq
  have hb1 := hb x0 x1 x2 x3
  rw [← hG] at hb1
  replace eg : finR (g x0 x1 x2 x3) = R.ok r := eg
  refine hb1 F O H _ _ (mt_startG (N := N) hf (by exact slots_ok4 (Ag.ok q0) (Ag.ok q1) (Ag.ok q2) (Ag.ok q3)) ?_ ?_) ?_ ?_ ?_ ?_ ?_
  · exact fun s hs => by
      simp only [List.mem_cons, List.not_mem_nil, or_false] at hs
      rcases hs with rfl | rfl | rfl | rfl
      · exact Ag.no cf x0
      · exact Ag.no cf x1
      · exact Ag.no cf x2
      · exact Ag.no cf x3
  · rfl
  · exact fun z => by rw [z] at eg; cases eg
  · exact fun s F' H' σ' e => by rw [e] at eg; cases eg
  · exact fun s F' H' σ' e => by rw [e] at eg; cases eg
  · exact fun r' v F' H' e le hf' hr' => by
      rw [e] at eg
      cases eg
      exact k v F' H' le hf' hr'
  · exact fun c p d F' H' e => by rw [e] at eg; cases eg
theorem fnGX4 {P : Program} {w : World} {cf : Cf} {mg : Str → Option Value} {base : Heap} {x qual : Str} {st : Stmt} {f0 : Addr} {fd : FuncData} {N ps : List Str} {k : Nat} {S : Type} {enc : S → List Sl} (F : Fun cf.K x qual st f0 fd) (sc : FnScope N ps (defScope st)) (hp : ps.length = 4) (g : α → β → γ → δ → R (Fl S τ))
    (G0 : α → β → γ → δ → List Sl) (hG : ∀ x0 x1 x2 x3, [Ag.sl cf x0, Ag.sl cf x1, Ag.sl cf x2, Ag.sl cf x3] ++ List.replicate (N.length - 4) .un = G0 x0 x1 x2 x3)
    (h : ∀ (cdv : Value) (A : Around) (outer : List Env) (s : Shared) (H : Hp) (E : XK), Room k (A.deeper (envOfC qual (defScope st) s.heap.objs.size f0 cdv)) →
      ∃ t, PSs (cxOf (L2.CX P w) P w cf.K mg base N qual (defScope st) f0 cdv A outer s H E) (defBody st) t ∧ ∀ x0 x1 x2 x3, SB cf E t (G0 x0 x1 x2 x3) enc (g x0 x1 x2 x3)) :
    FnOk P w cf.K mg base (L2.CX P w) (k + 1) f0 fd ps (spGX4 cf fun x0 x1 x2 x3 => finR (g x0 x1 x2 x3)) := by
  refine F.okX sc (spGX4.len hp) (fun cdv A outer s H vs Q E hr hq => ?_)
  obtain ⟨t, ht, hb⟩ := h cdv A outer s H E hr
  refine ⟨t, ht, ?_⟩
  obtain ⟨F, O, v0, v1, v2, v3, x0, x1, x2, x3, rfl, hf, q0, q1, q2, q3, nb, ko, ke⟩ := hq
  have hb1 := hb x0 x1 x2 x3
  rw [← hG] at hb1
  replace nb : finR (g x0 x1 x2 x3) ≠ R.bad := nb
  replace ko : ∀ (r : τ) (w : V) (F' H' : Hp), finR (g x0 x1 x2 x3) = R.ok r → Le F F' → Fm F' O H' → Rs.res cf F' O H' w r → Q w H' := ko
  replace ke : ∀ (c : Nat) (p : Int) (d : Addr) (F' H' : Hp), finR (g x0 x1 x2 x3) = R.er c p → Le F F' → Fm F' O H' → F' d = some (xdO cf c p) → E (Value.ref (cf.cls c)) (some d) H' := ke
  refine hb1 F O H _ _ (mt_startG (N := N) hf (by exact slots_ok4 (Ag.ok q0) (Ag.ok q1) (Ag.ok q2) (Ag.ok q3)) ?_ ?_) ?_ ?_ ?_ ?_ ?_
  · exact fun s hs => by
      simp only [List.mem_cons, List.not_mem_nil, or_false] at hs
      rcases hs with rfl | rfl | rfl | rfl
      · exact Ag.no cf x0
      · exact Ag.no cf x1
      · exact Ag.no cf x2
      · exact Ag.no cf x3
  · rfl
  · exact fun z => nb (by rw [z]; rfl)
  · exact fun s F' H' σ' e => absurd (by rw [e]; rfl) nb
  · exact fun s F' H' σ' e => absurd (by rw [e]; rfl) nb
  · exact fun r' v F' H' e le hf' hr' => ko r' v F' H' (by rw [e]; rfl) le hf' hr'
  · exact fun c p d F' H' e le hf' hd => ke c p d F' H' (by rw [e]; rfl) le hf' hd
end
section
variable {α β γ δ ε τ : Type} [Ag α] [Ag β] [Ag γ] [Ag δ] [Ag ε] [Rs τ]
def spG5 (cf : Cf) (g : α → β → γ → δ → ε → R τ) : Sp := fun vs H Q _ => ∃ (F O : Hp) (v0 v1 v2 v3 v4 : V) (x0 : α) (x1 : β) (x2 : γ) (x3 : δ) (x4 : ε) (r : τ), vs = [v0, v1, v2, v3, v4] ∧ Fm F O H ∧ Ag.rel cf F O v0 x0 ∧ Ag.rel cf F O v1 x1 ∧ Ag.rel cf F O v2 x2 ∧ Ag.rel cf F O v3 x3 ∧ Ag.rel cf F O v4 x4 ∧ g x0 x1 x2 x3 x4 = .ok r ∧ ∀ w F' H', Le F F' → Fm F' O H' → Rs.res cf F' O H' w r → Q w H'
def spGX5 (cf : Cf) (g : α → β → γ → δ → ε → R τ) : Sp := fun vs H Q E => ∃ (F O : Hp) (v0 v1 v2 v3 v4 : V) (x0 : α) (x1 : β) (x2 : γ) (x3 : δ) (x4 : ε), vs = [v0, v1, v2, v3, v4] ∧ Fm F O H ∧ Ag.rel cf F O v0 x0 ∧ Ag.rel cf F O v1 x1 ∧ Ag.rel cf F O v2 x2 ∧ Ag.rel cf F O v3 x3 ∧ Ag.rel cf F O v4 x4 ∧ g x0 x1 x2 x3 x4 ≠ .bad ∧ (∀ r w F' H', g x0 x1 x2 x3 x4 = .ok r → Le F F' → Fm F' O H' → Rs.res cf F' O H' w r → Q w H') ∧ (∀ c p d F' H', g x0 x1 x2 x3 x4 = .er c p → Le F F' → Fm F' O H' → F' d = some (xdO cf c p) → E (.ref (cf.cls c)) (some d) H')
theorem spG5.len {cf : Cf} {g : α → β → γ → δ → ε → R τ} {ps : List Str} (h : ps.length = 5 := by rfl) : ∀ vs H Q E, spG5 cf g vs H Q E → vs.length = ps.length := fun vs H Q E q => by
  rw [h]
  obtain ⟨F, O, v0, v1, v2, v3, v4, x0, x1, x2, x3, x4, r, q, _⟩ := q
  rw [q]
  rfl
theorem spGX5.len {cf : Cf} {g : α → β → γ → δ → ε → R τ} {ps : List Str} (h : ps.length = 5 := by rfl) : ∀ vs H Q E, spGX5 cf g vs H Q E → vs.length = ps.length := fun vs H Q E q => by
  rw [h]
  obtain ⟨F, O, v0, v1, v2, v3, v4, x0, x1, x2, x3, x4, q, _⟩ := q
  rw [q]
  rfl
theorem em_callG5 {cf : Cf} {E : XK} {G : List Sl} {t0 t1 t2 t3 t4 : TE} {m0 : R α} {m1 : R β} {m2 : R γ} {m3 : R δ} {m4 : R ε} {g : α → β → γ → δ → ε → R τ} (h0 : EG cf E t0 G m0 fun F O _ v a => Ag.rel cf F O v a) (h1 : EG cf E t1 G m1 fun F O _ v a => Ag.rel cf F O v a) (h2 : EG cf E t2 G m2 fun F O _ v a => Ag.rel cf F O v a) (h3 : EG cf E t3 G m3 fun F O _ v a => Ag.rel cf F O v a) (h4 : EG cf E t4 G m4 fun F O _ v a => Ag.rel cf F O v a) : EG cf E (tCall (spG5 cf g) [] E0 (tCons t0 (tCons t1 (tCons t2 (tCons t3 (tCons t4 tNil)))))) G (m0.bind fun x0 => m1.bind fun x1 => m2.bind fun x2 => m3.bind fun x3 => m4.bind fun x4 => (g x0 x1 x2 x3 x4).pu) (Rs.res cf) := fun F O H σ Q hf he nb ko ke => by
  have le0 : Le F F := Le.refl F
  refine h0 F O H σ _ hf (he.mono le0) (R.bind_nb nb) (fun x0 v0 F1 H1 e0 l0 hf1 r0 => ?_) (fun c' p d' F' H' e' le hf' hd => ke c' p d' F' H' (by rw [e']; rfl) (le0.trans le) hf' hd)
  rw [e0, R.ok_bind] at nb ko ke
  have le1 := le0.trans l0
  refine h1 F1 O H1 σ _ hf1 (he.mono le1) (R.bind_nb nb) (fun x1 v1 F2 H2 e1 l1 hf2 r1 => ?_) (fun c' p d' F' H' e' le hf' hd => ke c' p d' F' H' (by rw [e']; rfl) (le1.trans le) hf' hd)
  rw [e1, R.ok_bind] at nb ko ke
  have le2 := le1.trans l1
  refine h2 F2 O H2 σ _ hf2 (he.mono le2) (R.bind_nb nb) (fun x2 v2 F3 H3 e2 l2 hf3 r2 => ?_) (fun c' p d' F' H' e' le hf' hd => ke c' p d' F' H' (by rw [e']; rfl) (le2.trans le) hf' hd)
  rw [e2, R.ok_bind] at nb ko ke
  have le3 := le2.trans l2
  refine h3 F3 O H3 σ _ hf3 (he.mono le3) (R.bind_nb nb) (fun x3 v3 F4 H4 e3 l3 hf4 r3 => ?_) (fun c' p d' F' H' e' le hf' hd => ke c' p d' F' H' (by rw [e']; rfl) (le3.trans le) hf' hd)
  rw [e3, R.ok_bind] at nb ko ke
  have le4 := le3.trans l3
  refine h4 F4 O H4 σ _ hf4 (he.mono le4) (R.bind_nb nb) (fun x4 v4 F5 H5 e4 l4 hf5 r4 => ?_) (fun c' p d' F' H' e' le hf' hd => ke c' p d' F' H' (by rw [e']; rfl) (le4.trans le) hf' hd)
  rw [e4, R.ok_bind] at nb ko ke
  have le5 := le4.trans l4
  obtain ⟨y, ey⟩ := pu_nb nb
  exact ⟨F5, O, v0, v1, v2, v3, v4, x0, x1, x2, x3, x4, y, rfl, hf5, (Ag.mono (Ag.mono (Ag.mono (Ag.mono r0 l1) l2) l3) l4), (Ag.mono (Ag.mono (Ag.mono r1 l2) l3) l4), (Ag.mono (Ag.mono r2 l3) l4), (Ag.mono r3 l4), r4, ey, fun w F' H' le hf' hr => ko y w F' H' (by rw [ey]; rfl) (le5.trans le) hf' hr⟩
theorem em_callGX5 {cf : Cf} {E : XK} {G : List Sl} {t0 t1 t2 t3 t4 : TE} {m0 : R α} {m1 : R β} {m2 : R γ} {m3 : R δ} {m4 : R ε} {g : α → β → γ → δ → ε → R τ} (h0 : EG cf E t0 G m0 fun F O _ v a => Ag.rel cf F O v a) (h1 : EG cf E t1 G m1 fun F O _ v a => Ag.rel cf F O v a) (h2 : EG cf E t2 G m2 fun F O _ v a => Ag.rel cf F O v a) (h3 : EG cf E t3 G m3 fun F O _ v a => Ag.rel cf F O v a) (h4 : EG cf E t4 G m4 fun F O _ v a => Ag.rel cf F O v a) : EG cf E (tCall (spGX5 cf g) [] E (tCons t0 (tCons t1 (tCons t2 (tCons t3 (tCons t4 tNil)))))) G (m0.bind fun x0 => m1.bind fun x1 => m2.bind fun x2 => m3.bind fun x3 => m4.bind fun x4 => g x0 x1 x2 x3 x4) (Rs.res cf) := fun F O H σ Q hf he nb ko ke => by
  have le0 : Le F F := Le.refl F
  refine h0 F O H σ _ hf (he.mono le0) (R.bind_nb nb) (fun x0 v0 F1 H1 e0 l0 hf1 r0 => ?_) (fun c' p d' F' H' e' le hf' hd => ke c' p d' F' H' (by rw [e']; rfl) (le0.trans le) hf' hd)
  rw [e0, R.ok_bind] at nb ko ke
  have le1 := le0.trans l0
  refine h1 F1 O H1 σ _ hf1 (he.mono le1) (R.bind_nb nb) (fun x1 v1 F2 H2 e1 l1 hf2 r1 => ?_) (fun c' p d' F' H' e' le hf' hd => ke c' p d' F' H' (by rw [e']; rfl) (le1.trans le) hf' hd)
  rw [e1, R.ok_bind] at nb ko ke
  have le2 := le1.trans l1
  refine h2 F2 O H2 σ _ hf2 (he.mono le2) (R.bind_nb nb) (fun x2 v2 F3 H3 e2 l2 hf3 r2 => ?_) (fun c' p d' F' H' e' le hf' hd => ke c' p d' F' H' (by rw [e']; rfl) (le2.trans le) hf' hd)
  rw [e2, R.ok_bind] at nb ko ke
  have le3 := le2.trans l2
  refine h3 F3 O H3 σ _ hf3 (he.mono le3) (R.bind_nb nb) (fun x3 v3 F4 H4 e3 l3 hf4 r3 => ?_) (fun c' p d' F' H' e' le hf' hd => ke c' p d' F' H' (by rw [e']; rfl) (le3.trans le) hf' hd)
  rw [e3, R.ok_bind] at nb ko ke
  have le4 := le3.trans l3
  refine h4 F4 O H4 σ _ hf4 (he.mono le4) (R.bind_nb nb) (fun x4 v4 F5 H5 e4 l4 hf5 r4 => ?_) (fun c' p d' F' H' e' le hf' hd => ke c' p d' F' H' (by rw [e']; rfl) (le4.trans le) hf' hd)
  rw [e4, R.ok_bind] at nb ko ke
  have le5 := le4.trans l4
  exact ⟨F5, O, v0, v1, v2, v3, v4, x0, x1, x2, x3, x4, rfl, hf5, (Ag.mono (Ag.mono (Ag.mono (Ag.mono r0 l1) l2) l3) l4), (Ag.mono (Ag.mono (Ag.mono r1 l2) l3) l4), (Ag.mono (Ag.mono r2 l3) l4), (Ag.mono r3 l4), r4, nb, fun r w F' H' e le hf' hr => ko r w F' H' e (le5.trans le) hf' hr, fun c' p d' F' H' e' le hf' hd => ke c' p d' F' H' e' (le5.trans le) hf' hd⟩
theorem em_callGP5 {cf : Cf} {E : XK} {G : List Sl} {t0 t1 t2 t3 t4 : TE} {m0 : R α} {m1 : R β} {m2 : R γ} {m3 : R δ} {m4 : R ε} {g : α → β → γ → δ → ε → R τ} (h0 : EG cf E t0 G m0 fun F O _ v a => Ag.rel cf F O v a) (h1 : EG cf E t1 G m1 fun F O _ v a => Ag.rel cf F O v a) (h2 : EG cf E t2 G m2 fun F O _ v a => Ag.rel cf F O v a) (h3 : EG cf E t3 G m3 fun F O _ v a => Ag.rel cf F O v a) (h4 : EG cf E t4 G m4 fun F O _ v a => Ag.rel cf F O v a) : EG cf E (tCall (spGX5 cf g) [] E0 (tCons t0 (tCons t1 (tCons t2 (tCons t3 (tCons t4 tNil)))))) G (m0.bind fun x0 => m1.bind fun x1 => m2.bind fun x2 => m3.bind fun x3 => m4.bind fun x4 => (g x0 x1 x2 x3 x4).pu) (Rs.res cf) := fun F O H σ Q hf he nb ko ke => by
  have le0 : Le F F := Le.refl F
  refine h0 F O H σ _ hf (he.mono le0) (R.bind_nb nb) (fun x0 v0 F1 H1 e0 l0 hf1 r0 => ?_) (fun c' p d' F' H' e' le hf' hd => ke c' p d' F' H' (by rw [e']; rfl) (le0.trans le) hf' hd)
  rw [e0, R.ok_bind] at nb ko ke
  have le1 := le0.trans l0
  refine h1 F1 O H1 σ _ hf1 (he.mono le1) (R.bind_nb nb) (fun x1 v1 F2 H2 e1 l1 hf2 r1 => ?_) (fun c' p d' F' H' e' le hf' hd => ke c' p d' F' H' (by rw [e']; rfl) (le1.trans le) hf' hd)
  rw [e1, R.ok_bind] at nb ko ke
  have le2 := le1.trans l1
  refine h2 F2 O H2 σ _ hf2 (he.mono le2) (R.bind_nb nb) (fun x2 v2 F3 H3 e2 l2 hf3 r2 => ?_) (fun c' p d' F' H' e' le hf' hd => ke c' p d' F' H' (by rw [e']; rfl) (le2.trans le) hf' hd)
  rw [e2, R.ok_bind] at nb ko ke
  have le3 := le2.trans l2
  refine h3 F3 O H3 σ _ hf3 (he.mono le3) (R.bind_nb nb) (fun x3 v3 F4 H4 e3 l3 hf4 r3 => ?_) (fun c' p d' F' H' e' le hf' hd => ke c' p d' F' H' (by rw [e']; rfl) (le3.trans le) hf' hd)
  rw [e3, R.ok_bind] at nb ko ke
  have le4 := le3.trans l3
  refine h4 F4 O H4 σ _ hf4 (he.mono le4) (R.bind_nb nb) (fun x4 v4 F5 H5 e4 l4 hf5 r4 => ?_) (fun c' p d' F' H' e' le hf' hd => ke c' p d' F' H' (by rw [e']; rfl) (le4.trans le) hf' hd)
  rw [e4, R.ok_bind] at nb ko ke
  have le5 := le4.trans l4
  obtain ⟨y, ey⟩ := pu_nb nb
  exact ⟨F5, O, v0, v1, v2, v3, v4, x0, x1, x2, x3, x4, rfl, hf5, (Ag.mono (Ag.mono (Ag.mono (Ag.mono r0 l1) l2) l3) l4), (Ag.mono (Ag.mono (Ag.mono r1 l2) l3) l4), (Ag.mono (Ag.mono r2 l3) l4), (Ag.mono r3 l4), r4, fun z => by rw [ey] at z; (cases z), fun r w F' H' e le hf' hr => ko r w F' H' (by rw [e]; rfl) (le5.trans le) hf' hr, fun c' p d' F' H' e' => by rw [ey] at e'; cases e'⟩
theorem fnG5 {P : Program} {w : World} {cf : Cf} {mg : Str → Option Value} {base : Heap} {x qual : Str} {st : Stmt} {f0 : Addr} {fd : FuncData} {N ps : List Str} {k : Nat} {S : Type} {enc : S → List Sl} (F : Fun cf.K x qual st f0 fd) (sc : FnScope N ps (defScope st)) (hp : ps.length = 5) (g : α → β → γ → δ → ε → R (Fl S τ))
    (G0 : α → β → γ → δ → ε → List Sl) (hG : ∀ x0 x1 x2 x3 x4, [Ag.sl cf x0, Ag.sl cf x1, Ag.sl cf x2, Ag.sl cf x3, Ag.sl cf x4] ++ List.replicate (N.length - 5) .un = G0 x0 x1 x2 x3 x4)
    (h : ∀ (cdv : Value) (A : Around) (outer : List Env) (s : Shared) (H : Hp) (E : XK), Room k (A.deeper (envOfC qual (defScope st) s.heap.objs.size f0 cdv)) →
      ∃ t, PSs (cxOf CX0 P w cf.K mg base N qual (defScope st) f0 cdv A outer s H E).nox (defBody st) t ∧ ∀ x0 x1 x2 x3 x4, SB cf E0 t (G0 x0 x1 x2 x3 x4) enc (g x0 x1 x2 x3 x4)) :
    FnOk P w cf.K mg base CX0 (k + 1) f0 fd ps (spG5 cf fun x0 x1 x2 x3 x4 => finR (g x0 x1 x2 x3 x4)) := by
  refine F.ok sc (spG5.len hp) (fun cdv A outer s H vs Q E hr hq => ?_)
  obtain ⟨t, ht, hb⟩ := h cdv A outer s H E hr
  refine ⟨t, ht, ?_⟩
  obtain ⟨F, O, v0, v1, v2, v3, v4, x0, x1, x2, x3, x4, r, rfl, hf, q0, q1, q2, q3, q4, eg, k⟩ := hq
  have hb1 := hb x0 x1 x2 x3 x4
  rw [← hG] at hb1
  replace eg : finR (g x0 x1 x2 x3 x4) = R.ok r := eg
  refine hb1 F O H _ _ (mt_startG (N := N) hf (by exact slots_ok5 (Ag.ok q0) (Ag.ok q1) (Ag.ok q2) (Ag.ok q3) (Ag.ok q4)) ?_ ?_) ?_ ?_ ?_ ?_ ?_
  · exact fun s hs => by
      simp only [List.mem_cons, List.not_mem_nil, or_false] at hs
      rcases hs with rfl | rfl | rfl | rfl | rfl
      · exact Ag.no cf x0
      · exact Ag.no cf x1
      · exact Ag.no cf x2
      · exact Ag.no cf x3
      · exact Ag.no cf x4
  · rfl
  · exact fun z => by rw [z] at eg; cases eg
  · exact fun s F' H' σ' e => by rw [e] at eg; cases eg
  · exact fun s F' H' σ' e => by rw [e] at eg; cases eg
  · exact fun r' v F' H' e le hf' hr' => by
      rw [e] at eg
      cases eg
      exact k v F' H' le hf' hr'
  · exact fun c p d F' H' e => by rw [e] at eg; cases eg
theorem fnGX5 {P : Program} {w : World} {cf : Cf} {mg : Str → Option Value} {base : Heap} {x qual : Str} {st : Stmt} {f0 : Addr} {fd : FuncData} {N ps : List Str} {k : Nat} {S : Type} {enc : S → List Sl} (F : Fun cf.K x qual st f0 fd) (sc : FnScope N ps (defScope st)) (hp : ps.length = 5) (g : α → β → γ → δ → ε → R (Fl S τ))
    (G0 : α → β → γ → δ → ε → List Sl) (hG : ∀ x0 x1 x2 x3 x4, [Ag.sl cf x0, Ag.sl cf x1, Ag.sl cf x2, Ag.sl cf x3, Ag.sl cf x4] ++ List.replicate (N.length - 5) .un = G0 x0 x1 x2 x3 x4)
    (h : ∀ (cdv : Value) (A : Around) (outer : List Env) (s : Shared) (H : Hp) (E : XK), Room k (A.deeper (envOfC qual (defScope st) s.heap.objs.size f0 cdv)) →
      ∃ t, PSs (cxOf (L2.CX P w) P w cf.K mg base N qual (defScope st) f0 cdv A outer s H E) (defBody st) t ∧ ∀ x0 x1 x2 x3 x4, SB cf E t (G0 x0 x1 x2 x3 x4) enc (g x0 x1 x2 x3 x4)) :
    FnOk P w cf.K mg base (L2.CX P w) (k + 1) f0 fd ps (spGX5 cf fun x0 x1 x2 x3 x4 => finR (g x0 x1 x2 x3 x4)) := by
  refine F.okX sc (spGX5.len hp) (fun cdv A outer s H vs Q E hr hq => ?_)
  obtain ⟨t, ht, hb⟩ := h cdv A outer s H E hr
  refine ⟨t, ht, ?_⟩
  obtain ⟨F, O, v0, v1, v2, v3, v4, x0, x1, x2, x3, x4, rfl, hf, q0, q1, q2, q3, q4, nb, ko, ke⟩ := hq
  have hb1 := hb x0 x1 x2 x3 x4
  rw [← hG] at hb1
  replace nb : finR (g x0 x1 x2 x3 x4) ≠ R.bad := nb
  replace ko : ∀ (r : τ) (w : V) (F' H' : Hp), finR (g x0 x1 x2 x3 x4) = R.ok r → Le F F' → Fm F' O H' → Rs.res cf F' O H' w r → Q w H' := ko
  replace ke : ∀ (c : Nat) (p : Int) (d : Addr) (F' H' : Hp), finR (g x0 x1 x2 x3 x4) = R.er c p → Le F F' → Fm F' O H' → F' d = some (xdO cf c p) → E (Value.ref (cf.cls c)) (some d) H' := ke
  refine hb1 F O H _ _ (mt_startG (N := N) hf (by exact slots_ok5 (Ag.ok q0) (Ag.ok q1) (Ag.ok q2) (Ag.ok q3) (Ag.ok q4)) ?_ ?_) ?_ ?_ ?_ ?_ ?_
  · exact fun s hs => by
      simp only [List.mem_cons, List.not_mem_nil, or_false] at hs
      rcases hs with rfl | rfl | rfl | rfl | rfl
      · exact Ag.no cf x0
      · exact Ag.no cf x1
      · exact Ag.no cf x2
      · exact Ag.no cf x3
      · exact Ag.no cf x4
  · rfl
  · exact fun z => nb (by rw [z]; rfl)
  · exact fun s F' H' σ' e => absurd (by rw [e]; rfl) nb
  · exact fun s F' H' σ' e => absurd (by rw [e]; rfl) nb
  · exact fun r' v F' H' e le hf' hr' => ko r' v F' H' (by rw [e]; rfl) le hf' hr'
  · exact fun c p d F' H' e le hf' hd => ke c p d F' H' (by rw [e]; rfl) le hf' hd
end
section
variable {α β γ δ ε ζ τ : Type} [Ag α] [Ag β] [Ag γ] [Ag δ] [Ag ε] [Ag ζ] [Rs τ]
def spG6 (cf : Cf) (g : α → β → γ → δ → ε → ζ → R τ) : Sp := fun vs H Q _ => ∃ (F O : Hp) (v0 v1 v2 v3 v4 v5 : V) (x0 : α) (x1 : β) (x2 : γ) (x3 : δ) (x4 : ε) (x5 : ζ) (r : τ), vs = [v0, v1, v2, v3, v4, v5] ∧ Fm F O H ∧ Ag.rel cf F O v0 x0 ∧ Ag.rel cf F O v1 x1 ∧ Ag.rel cf F O v2 x2 ∧ Ag.rel cf F O v3 x3 ∧ Ag.rel cf F O v4 x4 ∧ Ag.rel cf F O v5 x5 ∧ g x0 x1 x2 x3 x4 x5 = .ok r ∧ ∀ w F' H', Le F F' → Fm F' O H' → Rs.res cf F' O H' w r → Q w H'
def spGX6 (cf : Cf) (g : α → β → γ → δ → ε → ζ → R τ) : Sp := fun vs H Q E => ∃ (F O : Hp) (v0 v1 v2 v3 v4 v5 : V) (x0 : α) (x1 : β) (x2 : γ) (x3 : δ) (x4 : ε) (x5 : ζ), vs = [v0, v1, v2, v3, v4, v5] ∧ Fm F O H ∧ Ag.rel cf F O v0 x0 ∧ Ag.rel cf F O v1 x1 ∧ Ag.rel cf F O v2 x2 ∧ Ag.rel cf F O v3 x3 ∧ Ag.rel cf F O v4 x4 ∧ Ag.rel cf F O v5 x5 ∧ g x0 x1 x2 x3 x4 x5 ≠ .bad ∧ (∀ r w F' H', g x0 x1 x2 x3 x4 x5 = .ok r → Le F F' → Fm F' O H' → Rs.res cf F' O H' w r → Q w H') ∧ (∀ c p d F' H', g x0 x1 x2 x3 x4 x5 = .er c p → Le F F' → Fm F' O H' → F' d = some (xdO cf c p) → E (.ref (cf.cls c)) (some d) H')
theorem spG6.len {cf : Cf} {g : α → β → γ → δ → ε → ζ → R τ} {ps : List Str} (h : ps.length = 6 := by rfl) : ∀ vs H Q E, spG6 cf g vs H Q E → vs.length = ps.length := fun vs H Q E q => by
  rw [h]
  obtain ⟨F, O, v0, v1, v2, v3, v4, v5, x0, x1, x2, x3, x4, x5, r, q, _⟩ := q
  rw [q]
  rfl
theorem spGX6.len {cf : Cf} {g : α → β → γ → δ → ε → ζ → R τ} {ps : List Str} (h : ps.length = 6 := by rfl) : ∀ vs H Q E, spGX6 cf g vs H Q E → vs.length = ps.length := fun vs H Q E q => by
  rw [h]
  obtain ⟨F, O, v0, v1, v2, v3, v4, v5, x0, x1, x2, x3, x4, x5, q, _⟩ := q
  rw [q]
  rfl
theorem em_callG6 {cf : Cf} {E : XK} {G : List Sl} {t0 t1 t2 t3 t4 t5 : TE} {m0 : R α} {m1 : R β} {m2 : R γ} {m3 : R δ} {m4 : R ε} {m5 : R ζ} {g : α → β → γ → δ → ε → ζ → R τ} (h0 : EG cf E t0 G m0 fun F O _ v a => Ag.rel cf F O v a) (h1 : EG cf E t1 G m1 fun F O _ v a => Ag.rel cf F O v a) (h2 : EG cf E t2 G m2 fun F O _ v a => Ag.rel cf F O v a) (h3 : EG cf E t3 G m3 fun F O _ v a => Ag.rel cf F O v a) (h4 : EG cf E t4 G m4 fun F O _ v a => Ag.rel cf F O v a) (h5 : EG cf E t5 G m5 fun F O _ v a => Ag.rel cf F O v a) : EG cf E (tCall (spG6 cf g) [] E0 (tCons t0 (tCons t1 (tCons t2 (tCons t3 (tCons t4 (tCons t5 tNil))))))) G (m0.bind fun x0 => m1.bind fun x1 => m2.bind fun x2 => m3.bind fun x3 => m4.bind fun x4 => m5.bind fun x5 => (g x0 x1 x2 x3 x4 x5).pu) (Rs.res cf) := fun F O H σ Q hf he nb ko ke => by
  have le0 : Le F F := Le.refl F
  refine h0 F O H σ _ hf (he.mono le0) (R.bind_nb nb) (fun x0 v0 F1 H1 e0 l0 hf1 r0 => ?_) (fun c' p d' F' H' e' le hf' hd => ke c' p d' F' H' (by rw [e']; rfl) (le0.trans le) hf' hd)
  rw [e0, R.ok_bind] at nb ko ke
  have le1 := le0.trans l0
  refine h1 F1 O H1 σ _ hf1 (he.mono le1) (R.bind_nb nb) (fun x1 v1 F2 H2 e1 l1 hf2 r1 => ?_) (fun c' p d' F' H' e' le hf' hd => ke c' p d' F' H' (by rw [e']; rfl) (le1.trans le) hf' hd)
  rw [e1, R.ok_bind] at nb ko ke
  have le2 := le1.trans l1
  refine h2 F2 O H2 σ _ hf2 (he.mono le2) (R.bind_nb nb) (fun x2 v2 F3 H3 e2 l2 hf3 r2 => ?_) (fun c' p d' F' H' e' le hf' hd => ke c' p d' F' H' (by rw [e']; rfl) (le2.trans le) hf' hd)
  rw [e2, R.ok_bind] at nb ko ke
  have le3 := le2.trans l2
  refine h3 F3 O H3 σ _ hf3 (he.mono le3) (R.bind_nb nb) (fun x3 v3 F4 H4 e3 l3 hf4 r3 => ?_) (fun c' p d' F' H' e' le hf' hd => ke c' p d' F' H' (by rw [e']; rfl) (le3.trans le) hf' hd)
  rw [e3, R.ok_bind] at nb ko ke
  have le4 := le3.trans l3
  refine h4 F4 O H4 σ _ hf4 (he.mono le4) (R.bind_nb nb) (fun x4 v4 F5 H5 e4 l4 hf5 r4 => ?_) (fun c' p d' F' H' e' le hf' hd => ke c' p d' F' H' (by rw [e']; rfl) (le4.trans le) hf' hd)
  rw [e4, R.ok_bind] at nb ko ke
  have le5 := le4.trans l4
  refine h5 F5 O H5 σ _ hf5 (he.mono le5) (R.bind_nb nb) (fun x5 v5 F6 H6 e5 l5 hf6 r5 => ?_) (fun c' p d' F' H' e' le hf' hd => ke c' p d' F' H' (by rw [e']; rfl) (le5.trans le) hf' hd)
  rw [e5, R.ok_bind] at nb ko ke
  have le6 := le5.trans l5
  obtain ⟨y, ey⟩ := pu_nb nb
  exact ⟨F6, O, v0, v1, v2, v3, v4, v5, x0, x1, x2, x3, x4, x5, y, rfl, hf6, (Ag.mono (Ag.mono (Ag.mono (Ag.mono (Ag.mono r0 l1) l2) l3) l4) l5), (Ag.mono (Ag.mono (Ag.mono (Ag.mono r1 l2) l3) l4) l5), (Ag.mono (Ag.mono (Ag.mono r2 l3) l4) l5), (Ag.mono (Ag.mono r3 l4) l5), (Ag.mono r4 l5), r5, ey, fun w F' H' le hf' hr => ko y w F' H' (by rw [ey]; rfl) (le6.trans le) hf' hr⟩
theorem em_callGX6 {cf : Cf} {E : XK} {G : List Sl} {t0 t1 t2 t3 t4 t5 : TE} {m0 : R α} {m1 : R β} {m2 : R γ} {m3 : R δ} {m4 : R ε} {m5 : R ζ} {g : α → β → γ → δ → ε → ζ → R τ} (h0 : EG cf E t0 G m0 fun F O _ v a => Ag.rel cf F O v a) (h1 : EG cf E t1 G m1 fun F O _ v a => Ag.rel cf F O v a) (h2 : EG cf E t2 G m2 fun F O _ v a => Ag.rel cf F O v a) (h3 : EG cf E t3 G m3 fun F O _ v a => Ag.rel cf F O v a) (h4 : EG cf E t4 G m4 fun F O _ v a => Ag.rel cf F O v a) (h5 : EG cf E t5 G m5 fun F O _ v a => Ag.rel cf F O v a) : EG cf E (tCall (spGX6 cf g) [] E (tCons t0 (tCons t1 (tCons t2 (tCons t3 (tCons t4 (tCons t5 tNil))))))) G (m0.bind fun x0 => m1.bind fun x1 => m2.bind fun x2 => m3.bind fun x3 => m4.bind fun x4 => m5.bind fun x5 => g x0 x1 x2 x3 x4 x5) (Rs.res cf) := fun F O H σ Q hf he nb ko ke => by
  have le0 : Le F F := Le.refl F
  refine h0 F O H σ _ hf (he.mono le0) (R.bind_nb nb) (fun x0 v0 F1 H1 e0 l0 hf1 r0 => ?_) (fun c' p d' F' H' e' le hf' hd => ke c' p d' F' H' (by rw [e']; rfl) (le0.trans le) hf' hd)
  rw [e0, R.ok_bind] at nb ko ke
  have le1 := le0.trans l0
  refine h1 F1 O H1 σ _ hf1 (he.mono le1) (R.bind_nb nb) (fun x1 v1 F2 H2 e1 l1 hf2 r1 => ?_) (fun c' p d' F' H' e' le hf' hd => ke c' p d' F' H' (by rw [e']; rfl) (le1.trans le) hf' hd)
  rw [e1, R.ok_bind] at nb ko ke
  have le2 := le1.trans l1
  refine h2 F2 O H2 σ _ hf2 (he.mono le2) (R.bind_nb nb) (fun x2 v2 F3 H3 e2 l2 hf3 r2 => ?_) (fun c' p d' F' H' e' le hf' hd => ke c' p d' F' H' (by rw [e']; rfl) (le2.trans le) hf' hd)
  rw [e2, R.ok_bind] at nb ko ke
  have le3 := le2.trans l2
  refine h3 F3 O H3 σ _ hf3 (he.mono le3) (R.bind_nb nb) (fun x3 v3 F4 H4 e3 l3 hf4 r3 => ?_) (fun c' p d' F' H' e' le hf' hd => ke c' p d' F' H' (by rw [e']; rfl) (le3.trans le) hf' hd)
  rw [e3, R.ok_bind] at nb ko ke
  have le4 := le3.trans l3
  refine h4 F4 O H4 σ _ hf4 (he.mono le4) (R.bind_nb nb) (fun x4 v4 F5 H5 e4 l4 hf5 r4 => ?_) (fun c' p d' F' H' e' le hf' hd => ke c' p d' F' H' (by rw [e']; rfl) (le4.trans le) hf' hd)
  rw [e4, R.ok_bind] at nb ko ke
  have le5 := le4.trans l4
  refine h5 F5 O H5 σ _ hf5 (he.mono le5) (R.bind_nb nb) (fun x5 v5 F6 H6 e5 l5 hf6 r5 => ?_) (fun c' p d' F' H' e' le hf' hd => ke c' p d' F' H' (by rw [e']; rfl) (le5.trans le) hf' hd)
  rw [e5, R.ok_bind] at nb ko ke
  have le6 := le5.trans l5
  exact ⟨F6, O, v0, v1, v2, v3, v4, v5, x0, x1, x2, x3, x4, x5, rfl, hf6, (Ag.mono (Ag.mono (Ag.mono (Ag.mono (Ag.mono r0 l1) l2) l3) l4) l5), (Ag.mono (Ag.mono (Ag.mono (Ag.mono r1 l2) l3) l4) l5), (Ag.mono (Ag.mono (Ag.mono r2 l3) l4) l5), (Ag.mono (Ag.mono r3 l4) l5), (Ag.mono r4 l5), r5, nb, fun r w F' H' e le hf' hr => ko r w F' H' e (le6.trans le) hf' hr, fun c' p d' F' H' e' le hf' hd => ke c' p d' F' H' e' (le6.trans le) hf' hd⟩
theorem em_callGP6 {cf : Cf} {E : XK} {G : List Sl} {t0 t1 t2 t3 t4 t5 : TE} {m0 : R α} {m1 : R β} {m2 : R γ} {m3 : R δ} {m4 : R ε} {m5 : R ζ} {g : α → β → γ → δ → ε → ζ → R τ} (h0 : EG cf E t0 G m0 fun F O _ v a => Ag.rel cf F O v a) (h1 : EG cf E t1 G m1 fun F O _ v a => Ag.rel cf F O v a) (h2 : EG cf E t2 G m2 fun F O _ v a => Ag.rel cf F O v a) (h3 : EG cf E t3 G m3 fun F O _ v a => Ag.rel cf F O v a) (h4 : EG cf E t4 G m4 fun F O _ v a => Ag.rel cf F O v a) (h5 : EG cf E t5 G m5 fun F O _ v a => Ag.rel cf F O v a) : EG cf E (tCall (spGX6 cf g) [] E0 (tCons t0 (tCons t1 (tCons t2 (tCons t3 (tCons t4 (tCons t5 tNil))))))) G (m0.bind fun x0 => m1.bind fun x1 => m2.bind fun x2 => m3.bind fun x3 => m4.bind fun x4 => m5.bind fun x5 => (g x0 x1 x2 x3 x4 x5).pu) (Rs.res cf) := fun F O H σ Q hf he nb ko ke => by
  have le0 : Le F F := Le.refl F
  refine h0 F O H σ _ hf (he.mono le0) (R.bind_nb nb) (fun x0 v0 F1 H1 e0 l0 hf1 r0 => ?_) (fun c' p d' F' H' e' le hf' hd => ke c' p d' F' H' (by rw [e']; rfl) (le0.trans le) hf' hd)
  rw [e0, R.ok_bind] at nb ko ke
  have le1 := le0.trans l0
  refine h1 F1 O H1 σ _ hf1 (he.mono le1) (R.bind_nb nb) (fun x1 v1 F2 H2 e1 l1 hf2 r1 => ?_) (fun c' p d' F' H' e' le hf' hd => ke c' p d' F' H' (by rw [e']; rfl) (le1.trans le) hf' hd)
  rw [e1, R.ok_bind] at nb ko ke
  have le2 := le1.trans l1
  refine h2 F2 O H2 σ _ hf2 (he.mono le2) (R.bind_nb nb) (fun x2 v2 F3 H3 e2 l2 hf3 r2 => ?_) (fun c' p d' F' H' e' le hf' hd => ke c' p d' F' H' (by rw [e']; rfl) (le2.trans le) hf' hd)
  rw [e2, R.ok_bind] at nb ko ke
  have le3 := le2.trans l2
  refine h3 F3 O H3 σ _ hf3 (he.mono le3) (R.bind_nb nb) (fun x3 v3 F4 H4 e3 l3 hf4 r3 => ?_) (fun c' p d' F' H' e' le hf' hd => ke c' p d' F' H' (by rw [e']; rfl) (le3.trans le) hf' hd)
  rw [e3, R.ok_bind] at nb ko ke
  have le4 := le3.trans l3
  refine h4 F4 O H4 σ _ hf4 (he.mono le4) (R.bind_nb nb) (fun x4 v4 F5 H5 e4 l4 hf5 r4 => ?_) (fun c' p d' F' H' e' le hf' hd => ke c' p d' F' H' (by rw [e']; rfl) (le4.trans le) hf' hd)
  rw [e4, R.ok_bind] at nb ko ke
  have le5 := le4.trans l4
  refine h5 F5 O H5 σ _ hf5 (he.mono le5) (R.bind_nb nb) (fun x5 v5 F6 H6 e5 l5 hf6 r5 => ?_) (fun c' p d' F' H' e' le hf' hd => ke c' p d' F' H' (by rw [e']; rfl) (le5.trans le) hf' hd)
  rw [e5, R.ok_bind] at nb ko ke
  have le6 := le5.trans l5
  obtain ⟨y, ey⟩ := pu_nb nb
  exact ⟨F6, O, v0, v1, v2, v3, v4, v5, x0, x1, x2, x3, x4, x5, rfl, hf6, (Ag.mono (Ag.mono (Ag.mono (Ag.mono (Ag.mono r0 l1) l2) l3) l4) l5), (Ag.mono (Ag.mono (Ag.mono (Ag.mono r1 l2) l3) l4) l5), (Ag.mono (Ag.mono (Ag.mono r2 l3) l4) l5), (Ag.mono (Ag.mono r3 l4) l5), (Ag.mono r4 l5), r5, fun z => by rw [ey] at z; (cases z), fun r w F' H' e le hf' hr => ko r w F' H' (by rw [e]; rfl) (le6.trans le) hf' hr, fun c' p d' F' H' e' => by rw [ey] at e'; cases e'⟩
theorem fnG6 {P : Program} {w : World} {cf : Cf} {mg : Str → Option Value} {base : Heap} {x qual : Str} {st : Stmt} {f0 : Addr} {fd : FuncData} {N ps : List Str} {k : Nat} {S : Type} {enc : S → List Sl} (F : Fun cf.K x qual st f0 fd) (sc : FnScope N ps (defScope st)) (hp : ps.length = 6) (g : α → β → γ → δ → ε → ζ → R (Fl S τ))
    (G0 : α → β → γ → δ → ε → ζ → List Sl) (hG : ∀ x0 x1 x2 x3 x4 x5, [Ag.sl cf x0, Ag.sl cf x1, Ag.sl cf x2, Ag.sl cf x3, Ag.sl cf x4, Ag.sl cf x5] ++ List.replicate (N.length - 6) .un = G0 x0 x1 x2 x3 x4 x5)
    (h : ∀ (cdv : Value) (A : Around) (outer : List Env) (s : Shared) (H : Hp) (E : XK), Room k (A.deeper (envOfC qual (defScope st) s.heap.objs.size f0 cdv)) →
      ∃ t, PSs (cxOf CX0 P w cf.K mg base N qual (defScope st) f0 cdv A outer s H E).nox (defBody st) t ∧ ∀ x0 x1 x2 x3 x4 x5, SB cf E0 t (G0 x0 x1 x2 x3 x4 x5) enc (g x0 x1 x2 x3 x4 x5)) :
    FnOk P w cf.K mg base CX0 (k + 1) f0 fd ps (spG6 cf fun x0 x1 x2 x3 x4 x5 => finR (g x0 x1 x2 x3 x4 x5)) := by
  refine F.ok sc (spG6.len hp) (fun cdv A outer s H vs Q E hr hq => ?_)
  obtain ⟨t, ht, hb⟩ := h cdv A outer s H E hr
  refine ⟨t, ht, ?_⟩
  obtain ⟨F, O, v0, v1, v2, v3, v4, v5, x0, x1, x2, x3, x4, x5, r, rfl, hf, q0, q1, q2, q3, q4, q5, eg, k⟩ := hq
  have hb1 := hb x0 x1 x2 x3 x4 x5
  rw [← hG] at hb1
  replace eg : finR (g x0 x1 x2 x3 x4 x5) = R.ok r := eg
  refine hb1 F O H _ _ (mt_startG (N := N) hf (by exact slots_ok6 (Ag.ok q0) (Ag.ok q1) (Ag.ok q2) (Ag.ok q3) (Ag.ok q4) (Ag.ok q5)) ?_ ?_) ?_ ?_ ?_ ?_ ?_
  · exact fun s hs => by
      simp only [List.mem_cons, List.not_mem_nil, or_false] at hs
      rcases hs with rfl | rfl | rfl | rfl | rfl | rfl
      · exact Ag.no cf x0
      · exact Ag.no cf x1
      · exact Ag.no cf x2
      · exact Ag.no cf x3
      · exact Ag.no cf x4
      · exact Ag.no cf x5
  · rfl
  · exact fun z => by rw [z] at eg; cases eg
  · exact fun s F' H' σ' e => by rw [e] at eg; cases eg
  · exact fun s F' H' σ' e => by rw [e] at eg; cases eg
  · exact fun r' v F' H' e le hf' hr' => by
      rw [e] at eg
      cases eg
      exact k v F' H' le hf' hr'
  · exact fun c p d F' H' e => by rw [e] at eg; cases eg
theorem fnGX6 {P : Program} {w : World} {cf : Cf} {mg : Str → Option Value} {base : Heap} {x qual : Str} {st : Stmt} {f0 : Addr} {fd : FuncData} {N ps : List Str} {k : Nat} {S : Type} {enc : S → List Sl} (F : Fun cf.K x qual st f0 fd) (sc : FnScope N ps (defScope st)) (hp : ps.length = 6) (g : α → β → γ → δ → ε → ζ → R (Fl S τ))
    (G0 : α → β → γ → δ → ε → ζ → List Sl) (hG : ∀ x0 x1 x2 x3 x4 x5, [Ag.sl cf x0, Ag.sl cf x1, Ag.sl cf x2, Ag.sl cf x3, Ag.sl cf x4, Ag.sl cf x5] ++ List.replicate (N.length - 6) .un = G0 x0 x1 x2 x3 x4 x5)
    (h : ∀ (cdv : Value) (A : Around) (outer : List Env) (s : Shared) (H : Hp) (E : XK), Room k (A.deeper (envOfC qual (defScope st) s.heap.objs.size f0 cdv)) →
      ∃ t, PSs (cxOf (L2.CX P w) P w cf.K mg base N qual (defScope st) f0 cdv A outer s H E) (defBody st) t ∧ ∀ x0 x1 x2 x3 x4 x5, SB cf E t (G0 x0 x1 x2 x3 x4 x5) enc (g x0 x1 x2 x3 x4 x5)) :
    FnOk P w cf.K mg base (L2.CX P w) (k + 1) f0 fd ps (spGX6 cf fun x0 x1 x2 x3 x4 x5 => finR (g x0 x1 x2 x3 x4 x5)) := by
  refine F.okX sc (spGX6.len hp) (fun cdv A outer s H vs Q E hr hq => ?_)
  obtain ⟨t, ht, hb⟩ := h cdv A outer s H E hr
  refine ⟨t, ht, ?_⟩
  obtain ⟨F, O, v0, v1, v2, v3, v4, v5, x0, x1, x2, x3, x4, x5, rfl, hf, q0, q1, q2, q3, q4, q5, nb, ko, ke⟩ := hq
  have hb1 := hb x0 x1 x2 x3 x4 x5
  rw [← hG] at hb1
  replace nb : finR (g x0 x1 x2 x3 x4 x5) ≠ R.bad := nb
  replace ko : ∀ (r : τ) (w : V) (F' H' : Hp), finR (g x0 x1 x2 x3 x4 x5) = R.ok r → Le F F' → Fm F' O H' → Rs.res cf F' O H' w r → Q w H' := ko
  replace ke : ∀ (c : Nat) (p : Int) (d : Addr) (F' H' : Hp), finR (g x0 x1 x2 x3 x4 x5) = R.er c p → Le F F' → Fm F' O H' → F' d = some (xdO cf c p) → E (Value.ref (cf.cls c)) (some d) H' := ke
  refine hb1 F O H _ _ (mt_startG (N := N) hf (by exact slots_ok6 (Ag.ok q0) (Ag.ok q1) (Ag.ok q2) (Ag.ok q3) (Ag.ok q4) (Ag.ok q5)) ?_ ?_) ?_ ?_ ?_ ?_ ?_
  · exact fun s hs => by
      simp only [List.mem_cons, List.not_mem_nil, or_false] at hs
      rcases hs with rfl | rfl | rfl | rfl | rfl | rfl
      · exact Ag.no cf x0
      · exact Ag.no cf x1
      · exact Ag.no cf x2
      · exact Ag.no cf x3
      · exact Ag.no cf x4
      · exact Ag.no cf x5
  · rfl
  · exact fun z => nb (by rw [z]; rfl)
  · exact fun s F' H' σ' e => absurd (by rw [e]; rfl) nb
  · exact fun s F' H' σ' e => absurd (by rw [e]; rfl) nb
  · exact fun r' v F' H' e le hf' hr' => ko r' v F' H' (by rw [e]; rfl) le hf' hr'
  · exact fun c p d F' H' e le hf' hd => ke c p d F' H' (by rw [e]; rfl) le hf' hd
end
end Kr

/-! KrQ: models read, their methods called, models made, owned models. -/
namespace Kr
open PySem PySem.Spec PyProof.Rows L2
open Enc (toD)
/-! ### inversions -/
section
variable {K : PySem.W.Frag} {F : Hp} {R : HR}
theorem own_d {v : V} {d : Dt} {fp : List Addr} (h : Own K F R v (.d d) fp) : Dr K F v d ∧ fp = [] := by
  cases h with
  | d h => exact ⟨h, rfl⟩
theorem own_l {v : V} {ts : List Tr} {fp : List Addr} (h : Own K F R v (.l ts) fp) : ∃ a vs fq, v = .ref a ∧ R a (.lst vs) ∧ OwnA K F R vs ts fq ∧ fp = a :: fq := by
  cases h with
  | l h1 h2 => exact ⟨_, _, _, rfl, h1, h2, rfl⟩
theorem own_o {v : V} {C : Addr} {fs : List (Str × Tr)} {fp : List Addr} (h : Own K F R v (.o C fs) fp) : ∃ a dx fvs fq, v = .ref a ∧ R a (.ins C dx fvs) ∧ R dx (.own a) ∧ OwnF K F R fvs fs fq ∧ fp = a :: dx :: fq := by
  cases h with
  | o h1 h2 h3 => exact ⟨_, _, _, _, rfl, h1, h2, h3, rfl⟩
theorem ownF_nil {fvs : List (Str × V)} {fp : List Addr} (h : OwnF K F R fvs [] fp) : fvs = [] ∧ fp = [] := by
  cases h
  exact ⟨rfl, rfl⟩
theorem ownF_cons {fvs : List (Str × V)} {x : Str} {t : Tr} {fs : List (Str × Tr)} {fp : List Addr} (h : OwnF K F R fvs ((x, t) :: fs) fp) : ∃ v r f1 f2, fvs = (x, v) :: r ∧ Own K F R v t f1 ∧ OwnF K F R r fs f2 ∧ fp = f1 ++ f2 := by
  cases h with
  | cons h1 h2 => exact ⟨_, _, _, _, rfl, h1, h2, rfl⟩
theorem ownA_nil {vs : List V} {fp : List Addr} (h : OwnA K F R vs [] fp) : vs = [] ∧ fp = [] := by
  cases h
  exact ⟨rfl, rfl⟩
theorem ownA_cons {vs : List V} {t : Tr} {ts : List Tr} {fp : List Addr} (h : OwnA K F R vs (t :: ts) fp) : ∃ v r f1 f2, vs = v :: r ∧ Own K F R v t f1 ∧ OwnA K F R r ts f2 ∧ fp = f1 ++ f2 := by
  cases h with
  | cons h1 h2 => exact ⟨_, _, _, _, rfl, h1, h2, rfl⟩
theorem ownA_ints : ∀ {xs : List Int} {vs : List V} {fp : List Addr}, OwnA K F R vs (xs.map fun n => .d (.int n)) fp → DrA K F vs (xs.map toD) ∧ fp = []
  | [], _, _, h => by
    obtain ⟨rfl, rfl⟩ := ownA_nil h
    exact ⟨.nil, rfl⟩
  | x :: xs, _, _, h => by
    obtain ⟨v, r, f1, f2, rfl, h1, h2, rfl⟩ := ownA_cons h
    obtain ⟨d1, rfl⟩ := own_d h1
    obtain ⟨d2, rfl⟩ := ownA_ints h2
    exact ⟨.cons d1 d2, rfl⟩
theorem ints_ownA : ∀ {xs : List Int} {vs : List V}, DrA K F vs (xs.map toD) → OwnA K F R vs (xs.map fun n => .d (.int n)) []
  | [], _, h => by
    rw [drA_nil h]
    exact .nil
  | x :: xs, _, h => by
    obtain ⟨v, r, rfl, h1, h2⟩ := drA_cons h
    exact .cons (fp := []) (fq := []) (.d h1) (ints_ownA h2)
theorem own_lI {v : V} {xs : List Int} {fp : List Addr} (h : Own K F R v (lI xs) fp) : ∃ a vs, v = .ref a ∧ R a (.lst vs) ∧ DrA K F vs (xs.map toD) ∧ fp = [a] := by
  obtain ⟨a, vs, fq, e, h1, h2, rfl⟩ := own_l h
  obtain ⟨h3, rfl⟩ := ownA_ints h2
  exact ⟨a, vs, e, h1, h3, rfl⟩
theorem lI_own {a : Addr} {xs : List Int} {vs : List V} (h : R a (.lst vs)) (r : DrA K F vs (xs.map toD)) : Own K F R (.ref a) (lI xs) [a] := .l h (ints_ownA r)
theorem ownA_len : ∀ {ts : List Tr} {vs : List V} {fp : List Addr}, OwnA K F R vs ts fp → vs.length = ts.length
  | [], _, _, h => by rw [(ownA_nil h).1]; rfl
  | t :: ts, _, _, h => by
    obtain ⟨v, r, f1, f2, rfl, h1, h2, _⟩ := ownA_cons h
    rw [List.length_cons, List.length_cons, ownA_len h2]
theorem ownA_get : ∀ {ts : List Tr} {vs : List V} {fp : List Addr} {j : Nat} {t : Tr}, OwnA K F R vs ts fp → ts[j]? = some t → ∃ v fq, vs[j]? = some v ∧ Own K F R v t fq ∧ ∀ p ∈ fq, p ∈ fp
  | [], _, _, _, _, _, e => by simp at e
  | t :: ts, _, _, 0, _, h, e => by
    obtain ⟨v, r, f1, f2, rfl, h1, h2, rfl⟩ := ownA_cons h
    cases e
    exact ⟨v, f1, rfl, h1, fun p q => mem_l q⟩
  | t :: ts, _, _, j + 1, _, h, e => by
    obtain ⟨v, r, f1, f2, rfl, h1, h2, rfl⟩ := ownA_cons h
    obtain ⟨w, fq, e1, e2, e3⟩ := ownA_get (j := j) h2 (by simpa using e)
    exact ⟨w, fq, by simpa using e1, e2, fun p q => mem_r (e3 p q)⟩
theorem ownF_names : ∀ {fs : List (Str × Tr)} {fvs : List (Str × V)} {fp : List Addr}, OwnF K F R fvs fs fp → fvs.map (·.1) = fs.map (·.1)
  | [], _, _, h => by rw [(ownF_nil h).1]; rfl
  | (x, t) :: fs, _, _, h => by
    obtain ⟨v, r, f1, f2, rfl, h1, h2, _⟩ := ownF_cons h
    rw [List.map_cons, List.map_cons, ownF_names h2]
theorem lookup_none {A : Type} {m : Str} : ∀ {fvs : List (Str × A)}, m ∉ fvs.map (·.1) → fvs.lookup m = none
  | [], _ => rfl
  | (x, v) :: r, h => by
    rw [List.map_cons, List.mem_cons, not_or] at h
    have hb : (m == x) = false := beq_eq_false_iff_ne.mpr h.1
    show (match m == x with | true => some v | false => List.lookup m r) = none
    rw [hb]
    exact lookup_none h.2
theorem lookup_hd {A : Type} {x : Str} {v : A} {r : List (Str × A)} : List.lookup x ((x, v) :: r) = some v := by
  show (match x == x with | true => some v | false => List.lookup x r) = _
  rw [beq_self_eq_true]
theorem lookup_tl {A : Type} {x m : Str} {v : A} {r : List (Str × A)} (h : (m == x) = false) : List.lookup m ((x, v) :: r) = List.lookup m r := by
  show (match m == x with | true => some v | false => List.lookup m r) = _
  rw [h]
end
theorem fo_at {F O H : Hp} (hf : Fm F O H) {p : Addr} {o : HO} (h : inFO F O p o) : H p = some o := h.elim (hf.f p o) (hf.o p o)
/-- facts about the classes -/
structure CF (cf : Cf) : Prop where
  c0 : Cls cf.K (cf.mc 0)
  c1 : Cls cf.K (cf.mc 1)
  c2 : Cls cf.K (cf.mc 2)
  w0 : NoAttr cf.K (cf.mc 0) "weights"
  w1 : NoAttr cf.K (cf.mc 1) "weights"
  s1 : NoAttr cf.K (cf.mc 1) "step"
  l1 : NoAttr cf.K (cf.mc 1) "limit"
  s2 : NoAttr cf.K (cf.mc 2) "step"
  l2 : NoAttr cf.K (cf.mc 2) "limit"
  n2 : NoAttr cf.K (cf.mc 2) "learners"
  u2 : NoAttr cf.K (cf.mc 2) "current"
section
variable {cf : Cf} {E : XK} {G : List Sl} {α β γ : Type} {ta tb : TE}
/-! ### slots -/
theorem et_bo [Tre α] (i : Nat) (a : α) (h : G[i]? = some (.bo (Tre.tr cf a))) : EG cf E (tVar i) G (.ok a) (RT cf) := EG.fin fun F O H σ Q hf he ko => by
  obtain ⟨v, fp, e, r⟩ := he.at' i _ h
  exact ⟨v, e, ko v F H (Le.refl F) hf ⟨fp, r⟩⟩
theorem et_vo [Tre α] (i : Nat) (a : α) (h : G[i]? = some (.vo (Tre.tr cf a))) : EG cf E (tVar i) G (.ok a) (RT cf) := EG.fin fun F O H σ Q hf he ko => by
  obtain ⟨v, fp, e, r⟩ := he.at' i _ h
  exact ⟨v, e, ko v F H (Le.refl F) hf ⟨fp, r⟩⟩
theorem et_ow [Tre α] (i : Nat) (a : α) (h : G[i]? = some (.ow (Tre.tr cf a))) : EG cf E (tVar i) G (.ok a) (RT cf) := EG.fin fun F O H σ Q hf he ko => by
  obtain ⟨v, fp, e, r⟩ := he.at' i _ h
  exact ⟨v, e, ko v F H (Le.refl F) hf ⟨fp, r.toFO⟩⟩
/-- as arguments -/
theorem et_argM {m : R Mdl} (h : EG cf E ta G m (RT cf)) : EG cf E ta G m fun F O _ v a => Ag.rel cf F O v a := h
theorem et_argB {m : R Bl} (h : EG cf E ta G m (RT cf)) : EG cf E ta G m fun F O _ v a => Ag.rel cf F O v a := h
theorem em_arg [Enc α] {m : R α} (h : EM cf E ta G m) : EG cf E ta G m fun F O _ v a => Ag.rel cf F O v a := h
/-- lists of ints lent -/
theorem EL.toB {m : R (List Int)} (h : EL cf E ta G m) : EG cf E ta G (m.bind fun xs => .ok (Bl.mk xs)) (RT cf) := fun F O H σ Q hf he nb ko ke =>
  h F O H σ Q hf he (R.bind_nb nb) (fun xs v F' H' e le hf' hr => by
    obtain ⟨a, vs, rfl, h1, h2⟩ := hr
    exact ko ⟨xs⟩ _ F' H' (by rw [e]; rfl) le hf' ⟨[a], lI_own h1 h2⟩) (fun c p d F' H' e => ke c p d F' H' (by rw [e]; rfl))
theorem EB.toL {m : R Bl} (h : EG cf E ta G m (RT cf)) : EL cf E ta G (m.bind fun b => .ok b.xs) := fun F O H σ Q hf he nb ko ke =>
  h F O H σ Q hf he (R.bind_nb nb) (fun b v F' H' e le hf' hr => by
    obtain ⟨fp, r⟩ := hr
    obtain ⟨a, vs, rfl, h1, h2, _⟩ := own_lI r
    exact ko b.xs _ F' H' (by rw [e]; rfl) le hf' ⟨a, vs, rfl, h1, h2⟩) (fun c p d F' H' e => ke c p d F' H' (by rw [e]; rfl))
/-! ### fields -/
def wsR : Mdl → R (List Int)
  | .c ws => .ok ws
  | .l ws _ _ => .ok ws
  | .x .. => .bad
def stR : Mdl → R Int
  | .c _ => .bad
  | .l _ st _ => .ok st
  | .x _ _ st _ => .ok st
def liR : Mdl → R Int
  | .c _ => .bad
  | .l _ _ li => .ok li
  | .x _ _ _ li => .ok li
def cuR : Mdl → R Int
  | .x _ cu _ _ => .ok cu
  | _ => .bad
def rowsR : Mdl → R (List (List Int))
  | .x rows .. => .ok rows
  | _ => .bad
/-- what is at an object's field -/
theorem fld_of {m : R Mdl} {f : Str} {Q' : Mdl → R β} {rel : Hp → Hp → Hp → V → β → Prop} (h : EG cf E ta G m (RT cf))
    (k : ∀ (F O H : Hp) (M : Mdl) (v : V), Fm F O H → RT cf F O H v M → Q' M ≠ .bad → ∃ a C dx fvs w b, v = .ref a ∧ H a = some (.ins C dx fvs) ∧ Cls cf.K C ∧ NoAttr cf.K C f ∧ fvs.lookup f = some w ∧ Q' M = .ok b ∧ rel F O H w b) :
    EG cf E (tFld cf.K ta f) G (m.bind Q') rel := fun F O H σ Q hf he nb ko ke => by
  refine h F O H σ _ hf he (R.bind_nb nb) (fun M v F' H' e le hf' hr => ?_) (fun c p d F' H' e => ke c p d F' H' (by rw [e]; rfl))
  rw [e, R.ok_bind] at nb ko
  obtain ⟨a, C, dx, fvs, w, b, rfl, ha, hC, hN, hl, hb, hr2⟩ := k F' O H' M v hf' hr nb
  exact ⟨a, C, dx, fvs, w, rfl, ha, hC, hN, hl, ko b w F' H' hb le hf' hr2⟩
theorem ne_sw : (("step" : Str) == ("weights" : Str)) = false := by decide +kernel
theorem ne_lw : (("limit" : Str) == ("weights" : Str)) = false := by decide +kernel
theorem ne_ls : (("limit" : Str) == ("step" : Str)) = false := by decide +kernel
theorem ne_ns : (("learners" : Str) == ("step" : Str)) = false := by decide +kernel
theorem ne_nl : (("learners" : Str) == ("limit" : Str)) = false := by decide +kernel
theorem ne_us : (("current" : Str) == ("step" : Str)) = false := by decide +kernel
theorem ne_ul : (("current" : Str) == ("limit" : Str)) = false := by decide +kernel
theorem ne_un : (("current" : Str) == ("learners" : Str)) = false := by decide +kernel
/-- a learner's fields -/
theorem own_L {K : PySem.W.Frag} {F : Hp} {R : HR} {v : V} {c1 : Addr} {ws : List Int} {st li : Int} {fp : List Addr} (h : Own K F R v (tL c1 ws st li) fp) :
    ∃ a dx l vs, v = .ref a ∧ R a (.ins c1 dx [("weights", .ref l), ("step", .int st), ("limit", .int li)]) ∧ R dx (.own a) ∧ R l (.lst vs) ∧ DrA K F vs (ws.map toD) ∧ fp = [a, dx, l] := by
  obtain ⟨a, dx, fvs, fq, e, h1, h2, h3, rfl⟩ := own_o h
  obtain ⟨v1, r1, f1, g1, rfl, q1, k1, rfl⟩ := ownF_cons h3
  obtain ⟨v2, r2, f2, g2, rfl, q2, k2, rfl⟩ := ownF_cons k1
  obtain ⟨v3, r3, f3, g3, rfl, q3, k3, rfl⟩ := ownF_cons k2
  obtain ⟨rfl, rfl⟩ := ownF_nil k3
  obtain ⟨l, vs, rfl, hl, hd, rfl⟩ := own_lI q1
  obtain ⟨d2, rfl⟩ := own_d q2
  obtain ⟨d3, rfl⟩ := own_d q3
  cases dr_int d2
  cases dr_int d3
  exact ⟨a, dx, l, vs, e, h1, h2, hl, hd, rfl⟩
theorem own_C {K : PySem.W.Frag} {F : Hp} {R : HR} {v : V} {c0 : Addr} {ws : List Int} {fp : List Addr} (h : Own K F R v (.o c0 [("weights", lI ws)]) fp) :
    ∃ a dx l vs, v = .ref a ∧ R a (.ins c0 dx [("weights", .ref l)]) ∧ R dx (.own a) ∧ R l (.lst vs) ∧ DrA K F vs (ws.map toD) ∧ fp = [a, dx, l] := by
  obtain ⟨a, dx, fvs, fq, e, h1, h2, h3, rfl⟩ := own_o h
  obtain ⟨v1, r1, f1, g1, rfl, q1, k1, rfl⟩ := ownF_cons h3
  obtain ⟨rfl, rfl⟩ := ownF_nil k1
  obtain ⟨l, vs, rfl, hl, hd, rfl⟩ := own_lI q1
  exact ⟨a, dx, l, vs, e, h1, h2, hl, hd, rfl⟩
theorem own_X {cf : Cf} {F : Hp} {R : HR} {v : V} {rows : List (List Int)} {cur st li : Int} {fp : List Addr} (h : Own cf.K F R v (tM cf (.x rows cur st li)) fp) :
    ∃ a dx l vs fq, v = .ref a ∧ R a (.ins (cf.mc 2) dx [("step", .int st), ("limit", .int li), ("learners", .ref l), ("current", .int cur)]) ∧ R dx (.own a) ∧ R l (.lst vs) ∧ OwnA cf.K F R vs (rows.map fun ws => tL (cf.mc 1) ws st li) fq ∧ fp = a :: dx :: l :: fq := by
  obtain ⟨a, dx, fvs, fq, e, h1, h2, h3, rfl⟩ := own_o h
  obtain ⟨v1, r1, f1, g1, rfl, q1, k1, rfl⟩ := ownF_cons h3
  obtain ⟨v2, r2, f2, g2, rfl, q2, k2, rfl⟩ := ownF_cons k1
  obtain ⟨v3, r3, f3, g3, rfl, q3, k3, rfl⟩ := ownF_cons k2
  obtain ⟨v4, r4, f4, g4, rfl, q4, k4, rfl⟩ := ownF_cons k3
  obtain ⟨rfl, rfl⟩ := ownF_nil k4
  obtain ⟨d1, rfl⟩ := own_d q1
  obtain ⟨d2, rfl⟩ := own_d q2
  obtain ⟨d4, rfl⟩ := own_d q4
  obtain ⟨l, vs, fq, rfl, hl, hA, rfl⟩ := own_l q3
  cases dr_int d1
  cases dr_int d2
  cases dr_int d4
  exact ⟨a, dx, l, vs, fq, e, h1, h2, hl, hA, by simp⟩
theorem el_weights (T : CF cf) {m : R Mdl} (h : EG cf E ta G m (RT cf)) : EL cf E (tFld cf.K ta "weights") G (m.bind wsR) := fld_of h fun F O H M v hf hr nb => by
  obtain ⟨fp, r⟩ := hr
  cases M with
  | c ws =>
    obtain ⟨a, dx, l, vs, rfl, h1, h2, h3, h4, _⟩ := own_C r
    exact ⟨a, _, dx, _, _, ws, rfl, fo_at hf h1, T.c0, T.w0, lookup_hd, rfl, l, vs, rfl, h3, h4⟩
  | l ws st li =>
    obtain ⟨a, dx, l, vs, rfl, h1, h2, h3, h4, _⟩ := own_L r
    exact ⟨a, _, dx, _, _, ws, rfl, fo_at hf h1, T.c1, T.w1, lookup_hd, rfl, l, vs, rfl, h3, h4⟩
  | x rows cur st li => exact absurd rfl nb
theorem em_step (T : CF cf) {m : R Mdl} (h : EG cf E ta G m (RT cf)) : EM cf E (tFld cf.K ta "step") G (m.bind stR) := fld_of h fun F O H M v hf hr nb => by
  obtain ⟨fp, r⟩ := hr
  cases M with
  | c ws => exact absurd rfl nb
  | l ws st li =>
    obtain ⟨a, dx, l, vs, rfl, h1, h2, h3, h4, _⟩ := own_L r
    exact ⟨a, _, dx, _, _, st, rfl, fo_at hf h1, T.c1, T.s1, by rw [lookup_tl ne_sw, lookup_hd], rfl, .int _⟩
  | x rows cur st li =>
    obtain ⟨a, dx, l, vs, fq, rfl, h1, h2, h3, h4, _⟩ := own_X r
    exact ⟨a, _, dx, _, _, st, rfl, fo_at hf h1, T.c2, T.s2, lookup_hd, rfl, .int _⟩
theorem em_limit (T : CF cf) {m : R Mdl} (h : EG cf E ta G m (RT cf)) : EM cf E (tFld cf.K ta "limit") G (m.bind liR) := fld_of h fun F O H M v hf hr nb => by
  obtain ⟨fp, r⟩ := hr
  cases M with
  | c ws => exact absurd rfl nb
  | l ws st li =>
    obtain ⟨a, dx, l, vs, rfl, h1, h2, h3, h4, _⟩ := own_L r
    exact ⟨a, _, dx, _, _, li, rfl, fo_at hf h1, T.c1, T.l1, by rw [lookup_tl ne_lw, lookup_tl ne_ls, lookup_hd], rfl, .int _⟩
  | x rows cur st li =>
    obtain ⟨a, dx, l, vs, fq, rfl, h1, h2, h3, h4, _⟩ := own_X r
    exact ⟨a, _, dx, _, _, li, rfl, fo_at hf h1, T.c2, T.l2, by rw [lookup_tl ne_ls, lookup_hd], rfl, .int _⟩
theorem em_current (T : CF cf) {m : R Mdl} (h : EG cf E ta G m (RT cf)) : EM cf E (tFld cf.K ta "current") G (m.bind cuR) := fld_of h fun F O H M v hf hr nb => by
  obtain ⟨fp, r⟩ := hr
  cases M with
  | c ws => exact absurd rfl nb
  | l ws st li => exact absurd rfl nb
  | x rows cur st li =>
    obtain ⟨a, dx, l, vs, fq, rfl, h1, h2, h3, h4, _⟩ := own_X r
    exact ⟨a, _, dx, _, _, cur, rfl, fo_at hf h1, T.c2, T.u2, by rw [lookup_tl ne_us, lookup_tl ne_ul, lookup_tl ne_un, lookup_hd], rfl, .int _⟩
/-- the learners, lent -/
def RLs (cf : Cf) (st li : Int) (F O _H : Hp) (v : V) (rows : List (List Int)) : Prop := ∃ a vs fq, v = .ref a ∧ inFO F O a (.lst vs) ∧ OwnA cf.K F (inFO F O) vs (rows.map fun ws => tL (cf.mc 1) ws st li) fq
def RLx (cf : Cf) (F O H : Hp) (v : V) (p : List (List Int) × Int × Int) : Prop := RLs cf p.2.1 p.2.2 F O H v p.1
def lsR : Mdl → R (List (List Int) × Int × Int)
  | .x rows _ st li => .ok (rows, st, li)
  | _ => .bad
theorem ex_learners (T : CF cf) {m : R Mdl} (h : EG cf E ta G m (RT cf)) : EG cf E (tFld cf.K ta "learners") G (m.bind lsR) (RLx cf) := fld_of h fun F O H M v hf hr nb => by
  obtain ⟨fp, r⟩ := hr
  cases M with
  | c ws => exact absurd rfl nb
  | l ws st li => exact absurd rfl nb
  | x rows cur st li =>
    obtain ⟨a, dx, l, vs, fq, rfl, h1, h2, h3, h4, _⟩ := own_X r
    exact ⟨a, _, dx, _, _, (rows, st, li), rfl, fo_at hf h1, T.c2, T.n2, by rw [lookup_tl ne_ns, lookup_tl ne_nl, lookup_hd], rfl, l, vs, fq, rfl, h3, h4⟩
theorem em_lenX {m : R (List (List Int) × Int × Int)} (h : EG cf E ta G m (RLx cf)) : EM cf E (tCB (rLenS cf.K) (tCons ta tNil)) G (m.bind fun p => .ok (p.1.length : Int)) := fun F O H σ Q hf he nb ko ke => by
  refine h F O H σ _ hf he (R.bind_nb nb) (fun p v F' H' e le hf' hr => ?_) (fun c p d F' H' e => ke c p d F' H' (by rw [e]; rfl))
  rw [e, R.ok_bind] at ko
  obtain ⟨a, vs, fq, rfl, h1, h2⟩ := hr
  refine ⟨a, vs, rfl, .inl (SqL.of (fo_at hf' h1)), ?_⟩
  rw [ownA_len h2, List.length_map]
  exact ko _ _ F' H' rfl le hf' (.int _)
theorem et_ixX {m : R (List (List Int) × Int × Int)} {n : R Int} (h : EG cf E ta G m (RLx cf)) (h' : EM cf E tb G n) : EG cf E (tOp (rIxL cf.K) ta tb) G (m.bind fun p => n.bind fun i => (idxR p.1 i).bind fun ws => .ok (Mdl.l ws p.2.1 p.2.2)) (RT cf) := fun F O H σ Q hf he nb ko ke => by
  refine h F O H σ _ hf he (R.bind_nb nb) (fun p v F1 H1 e1 l1 hf1 r1 => ?_) (fun c p d F' H' e => ke c p d F' H' (by rw [e]; rfl))
  rw [e1, R.ok_bind] at nb ko ke
  refine h' F1 O H1 σ _ hf1 (he.mono l1) (R.bind_nb nb) (fun i w F2 H2 e2 l2 hf2 r2 => ?_) (fun c p d F' H' e le hf' hd => ke c p d F' H' (by rw [e]; rfl) (l1.trans le) hf' hd)
  rw [e2, R.ok_bind] at nb ko ke
  obtain ⟨a, vs, fq, rfl, h1, h2⟩ := r1
  unfold idxR at nb ko
  cases q : atI p.1 i with
  | none =>
    rw [q] at nb
    exact absurd rfl nb
  | some ws =>
    rw [q] at ko
    have q2 : atI (p.1.map fun ws => tL (cf.mc 1) ws p.2.1 p.2.2) i = some (tL (cf.mc 1) ws p.2.1 p.2.2) := by
      rw [atI_map, q]
      rfl
    have hx : ∃ x fr, atI vs i = some x ∧ Own cf.K F1 (inFO F1 O) x (tL (cf.mc 1) ws p.2.1 p.2.2) fr := by
      unfold atI at q2 ⊢
      rw [ownA_len h2]
      cases q3 : ixN (p.1.map fun ws => tL (cf.mc 1) ws p.2.1 p.2.2).length i with
      | none =>
        rw [q3] at q2
        cases q2
      | some j =>
        rw [q3] at q2
        obtain ⟨x, fr, e1, e2, _⟩ := ownA_get h2 q2
        exact ⟨x, fr, e1, e2⟩
    obtain ⟨x, fr, ex, rx⟩ := hx
    exact ⟨a, vs, i, x, rfl, dr_int r2, SqL.of (fo_at hf2 (h1.imp (l2 _ _) id)), ex, ko _ x F2 H2 rfl (l1.trans l2) hf2 ⟨fr, rx.monoFO l2 (Le.refl O)⟩⟩
/-! ### methods -/
def kM : Mdl → Nat
  | .c _ => 0
  | .l .. => 1
  | .x .. => 2
def mnames : List Str := ["weights", "step", "limit", "learners", "current"]
theorem meth_base {F O H : Hp} {v : V} {M : Mdl} {n : Str} (hf : Fm F O H) (h : RT cf F O H v M) (hn : n ∉ mnames) : ∃ a dx fvs, v = .ref a ∧ H a = some (.ins (cf.mc (kM M)) dx fvs) ∧ fvs.lookup n = none := by
  obtain ⟨fp, r⟩ := h
  unfold mnames at hn
  cases M with
  | c ws =>
    obtain ⟨a, dx, fvs, fq, e, h1, h2, h3, _⟩ := own_o r
    refine ⟨a, dx, fvs, e, fo_at hf h1, lookup_none ?_⟩
    rw [ownF_names h3]
    exact fun z => hn (by simp at z; simp [z])
  | l ws st li =>
    obtain ⟨a, dx, fvs, fq, e, h1, h2, h3, _⟩ := own_o r
    refine ⟨a, dx, fvs, e, fo_at hf h1, lookup_none ?_⟩
    rw [ownF_names h3]
    exact fun z => hn (by simp at z; rcases z with z | z | z <;> simp [z])
  | x rows cur st li =>
    obtain ⟨a, dx, fvs, fq, e, h1, h2, h3, _⟩ := own_o r
    refine ⟨a, dx, fvs, e, fo_at hf h1, lookup_none ?_⟩
    rw [ownF_names h3]
    exact fun z => hn (by simp at z; rcases z with z | z | z | z <;> simp [z])
def t3 (t0 t1 t2 : TE) : TE := fun σ H Q => t0 σ H Q ∨ t1 σ H Q ∨ t2 σ H Q
theorem pe_or3 {X : Cx} {e : Expr} {t0 t1 t2 : TE} (h0 : PE X e t0) (h1 : PE X e t1) (h2 : PE X e t2) : PE X e (t3 t0 t1 t2) := ⟨fun pins s σ H Q I h => h.elim (h0.run pins s σ H Q I) fun h => h.elim (h1.run pins s σ H Q I) (h2.run pins s σ H Q I)⟩
def dsp {τ : Type} (g0 g1 g2 : Mdl → τ) (M : Mdl) : τ := match M with
  | .c ws => g0 (.c ws)
  | .l ws st li => g1 (.l ws st li)
  | .x rows cur st li => g2 (.x rows cur st li)
theorem em_meth0k {τ : Type} [Rs τ] {g : Mdl → R τ} {n : Str} {M : Mdl} {F O H : Hp} {σ : L2.St} {Q : VK} (k : Nat) (hk : kM M = k) (hn : n ∉ mnames) (h : EG cf E ta G (.ok M) (RT cf)) (hf : Fm F O H) (he : Er cf.K F O σ G) (nb : (g M).pu ≠ .bad)
    (ko : ∀ a r F' H', (g M).pu = .ok a → Le F F' → Fm F' O H' → Rs.res cf F' O H' r a → Q r H') : tMeth (cf.mc k) n (spG1 cf g) [] E0 ta tNil σ H Q := by
  refine h F O H σ _ hf he (fun z => nomatch z) (fun M' v F1 H1 e1 l1 hf1 r1 => ?_) (fun c p d F' H' e => nomatch e)
  cases e1
  obtain ⟨a, dx, fvs, rfl, ha, hl⟩ := meth_base hf1 r1 hn
  obtain ⟨y, ey⟩ := pu_nb nb
  exact ⟨a, dx, fvs, rfl, by rw [← hk]; exact ha, hl, F1, O, _, M, y, rfl, hf1, r1, ey, fun w F' H' le hf' hr => ko y w F' H' (by rw [ey]; rfl) (l1.trans le) hf' hr⟩
/-- o.m() -/
theorem em_meth0 {τ : Type} [Rs τ] {m : R Mdl} {g0 g1 g2 : Mdl → R τ} {n : Str} (hn : n ∉ mnames) (h : EG cf E ta G m (RT cf)) :
    EG cf E (t3 (tMeth (cf.mc 0) n (spG1 cf g0) [] E0 ta tNil) (tMeth (cf.mc 1) n (spG1 cf g1) [] E0 ta tNil) (tMeth (cf.mc 2) n (spG1 cf g2) [] E0 ta tNil)) G (m.bind fun M => (dsp g0 g1 g2 M).pu) (Rs.res cf) := fun F O H σ Q hf he nb ko ke => by
  cases m with
  | ok M =>
    rw [R.ok_bind] at nb ko
    cases M with
    | c ws => exact .inl (em_meth0k 0 rfl hn h hf he nb ko)
    | l ws st li => exact .inr (.inl (em_meth0k 1 rfl hn h hf he nb ko))
    | x rows cur st li => exact .inr (.inr (em_meth0k 2 rfl hn h hf he nb ko))
  | er c p => exact .inl (h F O H σ _ hf he (fun z => nomatch z) (fun _ _ _ _ e => nomatch e) fun c p d F' H' e => ke c p d F' H' (by cases e; rfl))
  | bad => exact absurd rfl nb
theorem em_meth1k {τ : Type} [Ag α] [Rs τ] {g : Mdl → α → R τ} {n : Str} {M : Mdl} {m1 : R α} {F O H : Hp} {σ : L2.St} {Q : VK} (k : Nat) (hk : kM M = k) (hn : n ∉ mnames) (h : EG cf E ta G (.ok M) (RT cf)) (h1 : EG cf E tb G m1 fun F O _ v a => Ag.rel cf F O v a) (hf : Fm F O H) (he : Er cf.K F O σ G) (nb : (m1.bind fun a => (g M a).pu) ≠ .bad)
    (ko : ∀ a r F' H', (m1.bind fun a => (g M a).pu) = .ok a → Le F F' → Fm F' O H' → Rs.res cf F' O H' r a → Q r H')
    (ke : ∀ c p d F' H', (m1.bind fun a => (g M a).pu) = .er c p → Le F F' → Fm F' O H' → F' d = some (xdO cf c p) → E (.ref (cf.cls c)) (some d) H') : tMeth (cf.mc k) n (spG2 cf g) [] E0 ta (tCons tb tNil) σ H Q := by
  refine h F O H σ _ hf he (fun z => nomatch z) (fun M' v F1 H1 e1 l1 hf1 r1 => ?_) (fun c p d F' H' e => nomatch e)
  cases e1
  obtain ⟨a, dx, fvs, rfl, ha, hl⟩ := meth_base hf1 r1 hn
  refine ⟨a, dx, fvs, rfl, by rw [← hk]; exact ha, hl, ?_⟩
  refine h1 F1 O H1 σ _ hf1 (he.mono l1) (R.bind_nb nb) (fun b w F2 H2 e2 l2 hf2 r2 => ?_) (fun c p d F' H' e le hf' hd => ke c p d F' H' (by rw [e]; rfl) (l1.trans le) hf' hd)
  rw [e2, R.ok_bind] at nb ko ke
  obtain ⟨y, ey⟩ := pu_nb nb
  exact ⟨F2, O, _, _, M, b, y, rfl, hf2, rt_mono r1 l2, r2, ey, fun w F' H' le hf' hr => ko y w F' H' (by rw [ey]; rfl) ((l1.trans l2).trans le) hf' hr⟩
/-- o.m(e) -/
theorem em_meth1 {τ : Type} [Ag α] [Rs τ] {m : R Mdl} {m1 : R α} {g0 g1 g2 : Mdl → α → R τ} {n : Str} (hn : n ∉ mnames) (h : EG cf E ta G m (RT cf)) (h1 : EG cf E tb G m1 fun F O _ v a => Ag.rel cf F O v a) :
    EG cf E (t3 (tMeth (cf.mc 0) n (spG2 cf g0) [] E0 ta (tCons tb tNil)) (tMeth (cf.mc 1) n (spG2 cf g1) [] E0 ta (tCons tb tNil)) (tMeth (cf.mc 2) n (spG2 cf g2) [] E0 ta (tCons tb tNil))) G (m.bind fun M => m1.bind fun a => (dsp g0 g1 g2 M a).pu) (Rs.res cf) := fun F O H σ Q hf he nb ko ke => by
  cases m with
  | ok M =>
    rw [R.ok_bind] at nb ko ke
    cases M with
    | c ws => exact .inl (em_meth1k 0 rfl hn h h1 hf he nb ko ke)
    | l ws st li => exact .inr (.inl (em_meth1k 1 rfl hn h h1 hf he nb ko ke))
    | x rows cur st li => exact .inr (.inr (em_meth1k 2 rfl hn h h1 hf he nb ko ke))
  | er c p => exact .inl (h F O H σ _ hf he (fun z => nomatch z) (fun _ _ _ _ e => nomatch e) fun c p d F' H' e => ke c p d F' H' (by cases e; rfl))
  | bad => exact absurd rfl nb
end
end Kr

/-! KrS: models made, kept, taught. -/
namespace Kr
open PySem PySem.Spec PyProof.Rows L2
open Enc (toD)
section
variable {cf : Cf} {E : XK} {G : List Sl} {α β γ δ S ρ : Type} [Rs ρ] {ta tb te : TE} {u : TS} {enc : S → List Sl}
/-! ### new objects are let go: they are never changed from now on -/
theorem fm_frz {F O H : Hp} {fp : List Addr} (hf : Fm F O H) (h : ∀ p ∈ fp, F p = none ∧ O p = none) : ∃ F', Le F F' ∧ Fm F' O H ∧ ∀ p ∈ fp, ∀ o, H p = some o → F' p = some o := by
  refine ⟨fun p => if p ∈ fp then H p else F p, fun p o e => ?_, ⟨fun p o e => ?_, hf.o, fun p e => ?_⟩, fun p q o e => ?_⟩
  · show (if p ∈ fp then H p else F p) = some o
    rw [if_neg]
    · exact e
    · intro z
      rw [(h p z).1] at e
      cases e
  · have e' : (if p ∈ fp then H p else F p) = some o := e
    by_cases c : p ∈ fp
    · rw [if_pos c] at e'
      exact e'
    · rw [if_neg c] at e'
      exact hf.f p o e'
  · have e' : (if p ∈ fp then H p else F p) ≠ none := e
    by_cases c : p ∈ fp
    · exact (h p c).2
    · rw [if_neg c] at e'
      exact hf.ds p e'
  · show (if p ∈ fp then H p else F p) = some o
    rw [if_pos q]
    exact e
theorem EN.toT [Tre α] {m : R α} (h : EG cf E ta G m (RN cf)) : EG cf E ta G m (RT cf) := fun F O H σ Q hf he nb ko ke =>
  h F O H σ Q hf he nb (fun a v F' H' e le hf' hr => by
    obtain ⟨fp, r, _, hn⟩ := hr
    obtain ⟨F2, le2, hf2, k⟩ := fm_frz hf' hn
    exact ko a v F2 H' e (le.trans le2) hf2 ⟨fp, r.mono le2 fun p q o e => .inl (k p q o e)⟩) ke
/-! ### a slot owns what is new -/
theorem mt_newN [Tre α] {K : PySem.W.Frag} {F O O' H : Hp} {σ : L2.St} {i : Nat} {v : V} {t : Tr} {fp : List Addr} (lo : Le O O') (hf : Fm F O' H) (he : Er K F O' σ G) (ow : Ows K F O O' σ G)
    (r : Own K F (inO H) v t fp) (nd : fp.Nodup) (hn : ∀ p ∈ fp, F p = none ∧ O' p = none) : Mt K F O H (σ.set i (some v)) (G.set i (.ow t)) := by
  have l2 : Le O' (fun p => if p ∈ fp then H p else O' p) := fun p o e => by
    show (if p ∈ fp then H p else O' p) = some o
    rw [if_neg]
    · exact e
    · intro z
      rw [(hn p z).2] at e
      cases e
  have r2 : Own K F (inO fun p => if p ∈ fp then H p else O' p) v t fp := r.mono (Le.refl F) fun p q o e => by
    show (if p ∈ fp then H p else O' p) = some o
    rw [if_pos q]
    exact e
  refine mt_newG (O2 := fun p => if p ∈ fp then H p else O' p) lo l2 ⟨hf.f, fun p o e => ?_, fun p e => ?_⟩ he ow (fun p q => (hn p q).2) ⟨v, fp, rfl, r2⟩ ⟨v, rfl, r2, nd⟩ (fun _ z => nomatch z)
  · have e' : (if p ∈ fp then H p else O' p) = some o := e
    by_cases c : p ∈ fp
    · rw [if_pos c] at e'
      exact e'
    · rw [if_neg c] at e'
      exact hf.o p o e'
  · show (if p ∈ fp then H p else O' p) = none
    by_cases c : p ∈ fp
    · exact absurd (hn p c).1 e
    · rw [if_neg c]
      exact hf.ds p e
theorem sb_asgN [Tre α] {i : Nat} {m : R α} {f : α → R (Fl S ρ)} (h : EG cf E te G m (RN cf)) (G' : α → List Sl) (hG : ∀ a : α, G.set i (.ow (Tre.tr cf a)) = G' a) (hk : ∀ a, SB cf E u (G' a) enc (f a)) :
    SB cf E (tSeq (tAsg te (gName i)) u) G enc (m.bind f) :=
  sb_of (k := fun v D σ H => u D (σ.set i (some v)) H) h fun F O O' H σ D a v lo hf he ow hr nb kn kb kr ke => by
    obtain ⟨fp, r, nd, hn⟩ := hr
    refine hk a F O H _ D ?_ nb kn kb kr ke
    rw [← hG]
    exact mt_newN (α := α) lo hf he ow r nd hn
/-- what is lent from within is stored -/
theorem sb_asgV [Tre α] {i : Nat} {m : R α} {f : α → R (Fl S ρ)} (h : EG cf E te G m (RT cf)) (G' : α → List Sl) (hG : ∀ a : α, G.set i (.vo (Tre.tr cf a)) = G' a) (hk : ∀ a, SB cf E u (G' a) enc (f a)) :
    SB cf E (tSeq (tAsg te (gName i)) u) G enc (m.bind f) :=
  sb_of (k := fun v D σ H => u D (σ.set i (some v)) H) h fun F O O' H σ D a v lo hf he ow hr nb kn kb kr ke => by
    obtain ⟨fp, r⟩ := hr
    refine hk a F O H _ D ?_ nb kn kb kr ke
    rw [← hG]
    refine ⟨O', lo, hf, er_own he i ⟨v, fp, rfl, r⟩, ow.keep fun j s e o => ?_⟩
    rcases get_set e with ⟨rfl, rfl, _⟩ | ⟨hj, e⟩
    · cases o
    · exact ⟨e, List.getElem?_set_ne hj⟩
/-- return e, new objects -/
theorem sb_retN_ {m : R Mdl} (h : EG cf E te G m (RN cf)) : SB cf E (tRet te) G enc (m.bind fun r => (.ok (.rt r) : R (Fl S Mdl))) :=
  sb_of (k := fun v D σ H => D.rt v H) h fun F O O' H σ D a v lo hf he ow hr nb kn kb kr ke => kr a v F H rfl (Le.refl F) (hf.weak lo) (by
    obtain ⟨fp, r, nd, hn⟩ := hr
    exact ⟨fp, r, nd, fun p q => ⟨(hn p q).1, lo.free (hn p q).2⟩⟩)
theorem sb_retN2_ {m : R Mdl} (h : EG cf E te G m (RN cf)) : SB cf E (tSeq (tRet te) u) G enc (m.bind fun r => (.ok (.rt r) : R (Fl S Mdl))) :=
  sb_of (k := fun v D σ H => D.rt v H) h fun F O O' H σ D a v lo hf he ow hr nb kn kb kr ke => kr a v F H rfl (Le.refl F) (hf.weak lo) (by
    obtain ⟨fp, r, nd, hn⟩ := hr
    exact ⟨fp, r, nd, fun p q => ⟨(hn p q).1, lo.free (hn p q).2⟩⟩)
/-! ### making -/
def spI1 [Ag α] (cf : Cf) (k : Nat) (g : α → R Mdl) : Sp := fun vs H Q _ => ∃ (F O : Hp) (x dx : Addr) (v0 : V) (x0 : α) (M : Mdl), vs = [.ref x, v0] ∧ Fm F O H ∧ H x = some (.ins (cf.mc k) dx []) ∧ H dx = some (.own x) ∧ dx ≠ x ∧ (F x = none ∧ O x = none) ∧ (F dx = none ∧ O dx = none) ∧ Ag.rel cf F O v0 x0 ∧ g x0 = .ok M ∧
  ∀ F' H', Le F F' → Fm F' O H' → RN cf F' O H' (.ref x) M → Q .non H'
def spI3 [Ag α] [Ag β] [Ag γ] (cf : Cf) (k : Nat) (g : α → β → γ → R Mdl) : Sp := fun vs H Q _ => ∃ (F O : Hp) (x dx : Addr) (v0 v1 v2 : V) (x0 : α) (x1 : β) (x2 : γ) (M : Mdl), vs = [.ref x, v0, v1, v2] ∧ Fm F O H ∧ H x = some (.ins (cf.mc k) dx []) ∧ H dx = some (.own x) ∧ dx ≠ x ∧ (F x = none ∧ O x = none) ∧ (F dx = none ∧ O dx = none) ∧ Ag.rel cf F O v0 x0 ∧ Ag.rel cf F O v1 x1 ∧ Ag.rel cf F O v2 x2 ∧ g x0 x1 x2 = .ok M ∧
  ∀ F' H', Le F F' → Fm F' O H' → RN cf F' O H' (.ref x) M → Q .non H'
theorem mk_fm {F O H : Hp} {x dx C : Addr} (hf : Fm F O H) (hx : H x = none) (hd : H dx = none) (ne : dx ≠ x) : Fm F O (upd (upd H dx (.own x)) x (.ins C dx [])) := hf.newH hd |>.newH (by rw [upd_ne (Ne.symm ne)]; exact hx)
theorem em_make1 [Ag α] {k : Nat} {m0 : R α} {g : α → R Mdl} (h0 : EG cf E ta G m0 fun F O _ v a => Ag.rel cf F O v a) : EG cf E (tMake (cf.mc k) (spI1 cf k g) [] E0 (tCons ta tNil)) G (m0.bind fun a => (g a).pu) (RN cf) := fun F O H σ Q hf he nb ko ke => by
  refine h0 F O H σ _ hf he (R.bind_nb nb) (fun a v F1 H1 e1 l1 hf1 r1 => ?_) (fun c p d F' H' e => ke c p d F' H' (by rw [e]; rfl))
  rw [e1, R.ok_bind] at nb ko
  obtain ⟨y, ey⟩ := pu_nb nb
  intro x dx hx hd ne
  exact ⟨F1, O, x, dx, v, a, y, rfl, mk_fm hf1 hx hd ne, upd_same, by rw [upd_ne ne, upd_same], ne, ⟨hf1.fnone hx, hf1.onone hx⟩, ⟨hf1.fnone hd, hf1.onone hd⟩, r1, ey, fun F' H' le hf' hr => ⟨rfl, ko y _ F' H' (by rw [ey]; rfl) (l1.trans le) hf' hr⟩⟩
theorem em_make3 [Ag α] [Ag β] [Ag γ] {tc : TE} {k : Nat} {m0 : R α} {m1 : R β} {m2 : R γ} {g : α → β → γ → R Mdl} (h0 : EG cf E ta G m0 fun F O _ v a => Ag.rel cf F O v a) (h1 : EG cf E tb G m1 fun F O _ v a => Ag.rel cf F O v a) (h2 : EG cf E tc G m2 fun F O _ v a => Ag.rel cf F O v a) :
    EG cf E (tMake (cf.mc k) (spI3 cf k g) [] E0 (tCons ta (tCons tb (tCons tc tNil)))) G (m0.bind fun a => m1.bind fun b => m2.bind fun c => (g a b c).pu) (RN cf) := fun F O H σ Q hf he nb ko ke => by
  refine h0 F O H σ _ hf he (R.bind_nb nb) (fun a v F1 H1 e1 l1 hf1 r1 => ?_) (fun c p d F' H' e => ke c p d F' H' (by rw [e]; rfl))
  rw [e1, R.ok_bind] at nb ko ke
  refine h1 F1 O H1 σ _ hf1 (he.mono l1) (R.bind_nb nb) (fun b v2 F2 H2 e2 l2 hf2 r2 => ?_) (fun c p d F' H' e le => ke c p d F' H' (by rw [e]; rfl) (l1.trans le))
  rw [e2, R.ok_bind] at nb ko ke
  refine h2 F2 O H2 σ _ hf2 (he.mono (l1.trans l2)) (R.bind_nb nb) (fun c v3 F3 H3 e3 l3 hf3 r3 => ?_) (fun c p d F' H' e le => ke c p d F' H' (by rw [e]; rfl) ((l1.trans l2).trans le))
  rw [e3, R.ok_bind] at nb ko ke
  obtain ⟨y, ey⟩ := pu_nb nb
  intro x dx hx hd ne
  exact ⟨F3, O, x, dx, v, v2, v3, a, b, c, y, rfl, mk_fm hf3 hx hd ne, upd_same, by rw [upd_ne ne, upd_same], ne, ⟨hf3.fnone hx, hf3.onone hx⟩, ⟨hf3.fnone hd, hf3.onone hd⟩, Ag.mono (Ag.mono r1 l2) l3, Ag.mono r2 l3, r3, ey, fun F' H' le hf' hr => ⟨rfl, ko y _ F' H' (by rw [ey]; rfl) (((l1.trans l2).trans l3).trans le) hf' hr⟩⟩
/-! ### teaching -/
/-- of a method that changes its object: what the object is behind it; it returns None -/
def spL [Tre α] [Ag β] (cf : Cf) (g : α → β → R α) : Sp := fun vs H Q _ => ∃ (F O : Hp) (v w : V) (M M' : α) (b : β) (fp : List Addr), vs = [v, w] ∧ Fm F O H ∧ Own cf.K F (inO O) v (Tre.tr cf M) fp ∧ fp.Nodup ∧ Ag.rel cf F O w b ∧ g M b = .ok M' ∧
  ∀ F' O2 H' fp2, Le F F' → Fm F' O2 H' → (∀ p, p ∉ fp → ∀ o, O p = some o → O2 p = some o) → Own cf.K F' (inO O2) v (Tre.tr cf M') fp2 → fp2.Nodup → (∀ p ∈ fp2, p ∈ fp ∨ O p = none) → Q .non H'
/-- o.m(e) as a statement: o in a slot that owns it -/
theorem sb_learn [Ag β] {i : Nat} {M : Mdl} {g0 g1 g2 : Mdl → β → R Mdl} {n : Str} {m1 : R β} {f : Mdl → R (Fl S ρ)} (h0 : G[i]? = some (.ow (tM cf M))) (hn : n ∉ mnames) (h1 : EG cf E tb G m1 fun F O _ v a => Ag.rel cf F O v a) (G' : Mdl → List Sl) (hG : ∀ a : Mdl, G.set i (.ow (tM cf a)) = G' a) (hk : ∀ a, SB cf E u (G' a) enc (f a)) (nv : noVo G = true := by rfl) :
    SB cf E (tSeq (tDrop (t3 (tMeth (cf.mc 0) n (spL cf g0) [] E0 (tVar i) (tCons tb tNil)) (tMeth (cf.mc 1) n (spL cf g1) [] E0 (tVar i) (tCons tb tNil)) (tMeth (cf.mc 2) n (spL cf g2) [] E0 (tVar i) (tCons tb tNil)))) u) G enc (m1.bind fun b => (dsp g0 g1 g2 M b).pu.bind f) := fun F O H σ D hM nb kn kb kr ke => by
  obtain ⟨O', lo, hf, he, fp, w⟩ := hM
  have hi := w.at' i
  rw [h0] at hi
  obtain ⟨v, ev, rv, ndv⟩ := hi
  have hlen : i < G.length := (List.getElem?_eq_some_iff.mp h0).1
  have main : ∀ (k : Nat) (g : Mdl → β → R Mdl), kM M = k → dsp g0 g1 g2 M = g M → tMeth (cf.mc k) n (spL cf g) [] E0 (tVar i) (tCons tb tNil) σ H (fun _ H1 => u D σ H1) := fun k g hkM hd => by
    rw [hd] at nb kn kb kr ke
    obtain ⟨a, dx, fvs, rfl, ha, hl⟩ := meth_base (n := n) hf ⟨fp i, rv.toFO⟩ hn
    refine ⟨_, ev, a, dx, fvs, rfl, by rw [← hkM]; exact ha, hl, ?_⟩
    refine h1 F O' H σ _ hf he (R.bind_nb nb) (fun b x F1 H1 e1 l1 hf1 r1 => ?_) (fun c p d F' H' e le hf' hd => ke c p d F' H' (by rw [e]; rfl) le (hf'.weak lo) hd)
    rw [e1, R.ok_bind] at nb kn kb kr ke
    obtain ⟨y, ey⟩ := pu_nb (R.bind_nb nb)
    have epu : (g M b).pu = .ok y := by rw [ey]; rfl
    rw [epu, R.ok_bind] at nb kn kb kr ke
    refine ⟨F1, O', _, x, M, y, b, fp i, rfl, hf1, rv.monoF l1, ndv, r1, ey, fun F' O2 H' fp2 le hf' keep r2 nd2 hn2 => ?_⟩
    have le2 := l1.trans le
    have w2 : OwsF cf.K F' O O' σ G fp := ⟨fun i => (w.at' i).mono le2 fun _ _ _ q => q, w.out, w.sep, fun i t q => (w.bo i t q).mono le2⟩
    have hM2 : Mt cf.K F' O H' σ (G.set i (.ow (tM cf y))) := mt_wrG (fp2 := fp2) lo (he.mono le2) w2 nv hlen keep hf' (by rw [ev]; exact ⟨_, fp2, rfl, r2⟩) (by rw [ev]; exact ⟨_, rfl, r2, nd2⟩) hn2 (fun _ z => nomatch z)
    rw [hG] at hM2
    exact hk y F' O H' σ D hM2 nb (fun s F'' H'' σ' e le' => kn s F'' H'' σ' e (le2.trans le')) (fun s F'' H'' σ' e le' => kb s F'' H'' σ' e (le2.trans le')) (fun r v F'' H'' e le' => kr r v F'' H'' e (le2.trans le')) fun c p d F'' H'' e le' => ke c p d F'' H'' e (le2.trans le')
  show t3 _ _ _ σ H (fun _ H1 => u D σ H1)
  cases hm : M with
  | c ws => exact .inl (main 0 g0 (by rw [hm]; rfl) (by rw [hm]; rfl))
  | l ws st li => exact .inr (.inl (main 1 g1 (by rw [hm]; rfl) (by rw [hm]; rfl)))
  | x rows cur st li => exact .inr (.inr (main 2 g2 (by rw [hm]; rfl) (by rw [hm]; rfl)))
end
end Kr

/-! KrI: the classes' own defs that make or change: what they compute. -/
namespace Kr
open PySem PySem.Spec PyProof.Rows L2
open Enc (toD)
/-- an object that nobody knows changes -/
theorem Fm.chg {F O H : Hp} (h : Fm F O H) {p : Addr} {o : HO} (h1 : F p = none) (h2 : O p = none) : Fm F O (upd H p o) :=
  ⟨fun a u q => by rw [upd_ne (ne_of_none q h1)]; exact h.f a u q, fun a u q => by rw [upd_ne (ne_of_none q h2)]; exact h.o a u q, h.ds⟩
section
variable {cf : Cf} {N : List Str} {H : Hp} {Q : VK} {E : XK} {vs : List V}
theorem spI1.len {α : Type} [Ag α] {k : Nat} {g : α → R Mdl} {ps : List Str} (h : ps.length = 2 := by rfl) : ∀ vs H Q E, spI1 cf k g vs H Q E → vs.length = ps.length := fun vs H Q E q => by
  rw [h]
  obtain ⟨F, O, x, dx, v0, x0, M, q, _⟩ := q
  rw [q]
  rfl
theorem spI3.len {α β γ : Type} [Ag α] [Ag β] [Ag γ] {k : Nat} {g : α → β → γ → R Mdl} {ps : List Str} (h : ps.length = 4 := by rfl) : ∀ vs H Q E, spI3 cf k g vs H Q E → vs.length = ps.length := fun vs H Q E q => by
  rw [h]
  obtain ⟨F, O, x, dx, v0, v1, v2, x0, x1, x2, M, q, _⟩ := q
  rw [q]
  rfl
theorem spL.len {α β : Type} [Tre α] [Ag β] {g : α → β → R α} {ps : List Str} (h : ps.length = 2 := by rfl) : ∀ vs H Q E, spL cf g vs H Q E → vs.length = ps.length := fun vs H Q E q => by
  rw [h]
  obtain ⟨F, O, v, w, M, M', b, fp, q, _⟩ := q
  rw [q]
  rfl
/-! ### Counts -/
def initC (b : Bl) : R Mdl := .ok (.c b.xs)
theorem nodup3 {a b c : Addr} (h1 : a ≠ b) (h2 : a ≠ c) (h3 : b ≠ c) : [a, b, c].Nodup := by simp [h1, h2, h3]
theorem init_counts (T : CF cf) (h : spI1 cf 0 initC vs H Q E) : sFld cf.K (tVar 0) (tCB (rListS cf.K) (tCons (tVar 1) tNil)) "weights" { nx := fun _ H' => Q .non H', rt := Q } (L2.start ["self", "weights"] vs) H := by
  obtain ⟨F, O, x, dx, v0, b, M, rfl, hf, hx, hd, ne, ⟨x1, x2⟩, ⟨d1, d2⟩, hb, hg, k⟩ := h
  cases hg
  obtain ⟨fp, r⟩ := hb
  obtain ⟨a, ys, rfl, ha, hr, _⟩ := own_lI r
  refine ⟨_, rfl, a, ys, rfl, .inl (SqL.of (fo_at hf ha)), fun l hl => ?_⟩
  have nlx : l ≠ x := fun z => by rw [z, hx] at hl; cases hl
  have nld : l ≠ dx := fun z => by rw [z, hd] at hl; cases hl
  refine ⟨_, rfl, x, cf.mc 0, dx, [], rfl, by rw [upd_ne (Ne.symm nlx)]; exact hx, T.c0, T.w0, by show 0 < 1000; decide, ?_⟩
  have hf2 : Fm F O (upd (upd H l (.lst ys)) x (.ins (cf.mc 0) dx (putF "weights" (.ref l) []))) := (hf.newH hl).chg x1 x2
  refine k F _ (Le.refl F) hf2 ⟨[x, dx, l], ?_, nodup3 (Ne.symm ne) (Ne.symm nlx) (Ne.symm nld), fun p q => ?_⟩
  · refine Own.o (fvs := [("weights", .ref l)]) (fp := [l]) upd_same ?_ (.cons (fp := [l]) (fq := []) (lI_own ?_ hr) .nil)
    · show upd _ x _ dx = some (.own x)
      rw [upd_ne ne, upd_ne (Ne.symm nld)]
      exact hd
    · show upd _ x _ l = some (.lst ys)
      rw [upd_ne nlx, upd_same]
  · simp only [List.mem_cons, List.not_mem_nil, or_false] at q
    rcases q with rfl | rfl | rfl
    · exact ⟨x1, x2⟩
    · exact ⟨d1, d2⟩
    · exact ⟨hf.fnone hl, hf.onone hl⟩
def learnC (M : Mdl) (_ : Int) : R Mdl := .ok M
theorem learn_counts (h : spL cf learnC vs H Q E) : tRet (tC .non) { nx := fun _ H' => Q .non H', rt := Q } (L2.start N vs) H := by
  obtain ⟨F, O, v, w, M, M', b, fp, rfl, hf, r, nd, hb, hg, k⟩ := h
  cases hg
  exact k F O H fp (Le.refl F) hf (fun _ _ _ q => q) r nd fun p q => .inl q
end
end Kr

namespace Kx
open PySem PySem.Spec PyProof.Rows L2 Kr
open Enc (toD)
/-! ### the text by places -/
def topS (i : Nat) : Stmt := PySem.Challenge.pw_kraftroom_k13_whole_messages_in_words.main.body.getD i (.Pass ⟨0, 0, 0, 0⟩)
abbrev s_push : Stmt := topS 7
abbrev s_Counts_init : Stmt := inClass (topS 13) 0
abbrev s_Counts_total : Stmt := inClass (topS 13) 2
abbrev s_Counts_low : Stmt := inClass (topS 13) 3
abbrev s_Counts_weight : Stmt := inClass (topS 13) 4
abbrev s_Counts_symbol_at : Stmt := inClass (topS 13) 5
abbrev s_Counts_learn : Stmt := inClass (topS 13) 6
abbrev s_Counts_fresh : Stmt := inClass (topS 13) 7
abbrev s_pop : Stmt := topS 8
abbrev s_shares : Stmt := topS 9
abbrev s_pack_words : Stmt := topS 10
abbrev s_unpack_words : Stmt := topS 11
abbrev s__law_cell : Stmt := topS 15
abbrev s__law_weights : Stmt := topS 16
abbrev s__law_packed : Stmt := topS 17
abbrev s__law_unpacked : Stmt := topS 18
abbrev s__law_told : Stmt := topS 19
abbrev s_law : Stmt := topS 20
/-- what the top has left -/
structure Txt (P : Program) (w : World) (cf : Cf) (mg : Str → Option Value) (base : Heap) where
  a_push : Addr
  d_push : FuncData
  F_push : Fun cf.K "push" "push" s_push a_push d_push
  b_push : Binds cf.K d_push ["low", "weight", "total", "number"] []
  g_push : mg "push" = some (.ref a_push)
  a_Counts_init : Addr
  d_Counts_init : FuncData
  F_Counts_init : Fun cf.K "__init__" "Counts.__init__" s_Counts_init a_Counts_init d_Counts_init
  b_Counts_init : Binds cf.K d_Counts_init ["self", "weights"] []
  a_Counts_total : Addr
  d_Counts_total : FuncData
  F_Counts_total : Fun cf.K "total" "Counts.total" s_Counts_total a_Counts_total d_Counts_total
  b_Counts_total : Binds cf.K d_Counts_total ["self"] []
  a_Counts_low : Addr
  d_Counts_low : FuncData
  F_Counts_low : Fun cf.K "low" "Counts.low" s_Counts_low a_Counts_low d_Counts_low
  b_Counts_low : Binds cf.K d_Counts_low ["self", "symbol"] []
  a_Counts_weight : Addr
  d_Counts_weight : FuncData
  F_Counts_weight : Fun cf.K "weight" "Counts.weight" s_Counts_weight a_Counts_weight d_Counts_weight
  b_Counts_weight : Binds cf.K d_Counts_weight ["self", "symbol"] []
  a_Counts_symbol_at : Addr
  d_Counts_symbol_at : FuncData
  F_Counts_symbol_at : Fun cf.K "symbol_at" "Counts.symbol_at" s_Counts_symbol_at a_Counts_symbol_at d_Counts_symbol_at
  b_Counts_symbol_at : Binds cf.K d_Counts_symbol_at ["self", "number"] []
  a_Counts_learn : Addr
  d_Counts_learn : FuncData
  F_Counts_learn : Fun cf.K "learn" "Counts.learn" s_Counts_learn a_Counts_learn d_Counts_learn
  b_Counts_learn : Binds cf.K d_Counts_learn ["self", "symbol"] []
  a_Counts_fresh : Addr
  d_Counts_fresh : FuncData
  F_Counts_fresh : Fun cf.K "fresh" "Counts.fresh" s_Counts_fresh a_Counts_fresh d_Counts_fresh
  b_Counts_fresh : Binds cf.K d_Counts_fresh ["self"] []
  a_pop : Addr
  d_pop : FuncData
  F_pop : Fun cf.K "pop" "pop" s_pop a_pop d_pop
  b_pop : Binds cf.K d_pop ["model", "number"] []
  g_pop : mg "pop" = some (.ref a_pop)
  a_shares : Addr
  d_shares : FuncData
  F_shares : Fun cf.K "shares" "shares" s_shares a_shares d_shares
  b_shares : Binds cf.K d_shares ["model", "message"] []
  g_shares : mg "shares" = some (.ref a_shares)
  a_pack_words : Addr
  d_pack_words : FuncData
  F_pack_words : Fun cf.K "pack_words" "pack_words" s_pack_words a_pack_words d_pack_words
  b_pack_words : Binds cf.K d_pack_words ["model", "message"] []
  g_pack_words : mg "pack_words" = some (.ref a_pack_words)
  a_unpack_words : Addr
  d_unpack_words : FuncData
  F_unpack_words : Fun cf.K "unpack_words" "unpack_words" s_unpack_words a_unpack_words d_unpack_words
  b_unpack_words : Binds cf.K d_unpack_words ["model", "state", "words", "count"] []
  g_unpack_words : mg "unpack_words" = some (.ref a_unpack_words)
  a__law_cell : Addr
  d__law_cell : FuncData
  F__law_cell : Fun cf.K "_law_cell" "_law_cell" s__law_cell a__law_cell d__law_cell
  b__law_cell : Binds cf.K d__law_cell ["_law_script", "_law_k"] []
  g__law_cell : mg "_law_cell" = some (.ref a__law_cell)
  a__law_weights : Addr
  d__law_weights : FuncData
  F__law_weights : Fun cf.K "_law_weights" "_law_weights" s__law_weights a__law_weights d__law_weights
  b__law_weights : Binds cf.K d__law_weights ["_law_script"] []
  g__law_weights : mg "_law_weights" = some (.ref a__law_weights)
  a__law_packed : Addr
  d__law_packed : FuncData
  F__law_packed : Fun cf.K "_law_packed" "_law_packed" s__law_packed a__law_packed d__law_packed
  b__law_packed : Binds cf.K d__law_packed ["_law_weights_here", "_law_message"] []
  g__law_packed : mg "_law_packed" = some (.ref a__law_packed)
  a__law_unpacked : Addr
  d__law_unpacked : FuncData
  F__law_unpacked : Fun cf.K "_law_unpacked" "_law_unpacked" s__law_unpacked a__law_unpacked d__law_unpacked
  b__law_unpacked : Binds cf.K d__law_unpacked ["_law_weights_here", "_law_state", "_law_words", "_law_count"] []
  g__law_unpacked : mg "_law_unpacked" = some (.ref a__law_unpacked)
  a__law_told : Addr
  d__law_told : FuncData
  F__law_told : Fun cf.K "_law_told" "_law_told" s__law_told a__law_told d__law_told
  b__law_told : Binds cf.K d__law_told ["_law_model", "_law_state", "_law_words", "_law_count"] []
  g__law_told : mg "_law_told" = some (.ref a__law_told)
  a_law : Addr
  d_law : FuncData
  F_law : Fun cf.K "law" "law" s_law a_law d_law
  b_law : Binds cf.K d_law ["_law_script"] []
  g_law : mg "law" = some (.ref a_law)
  n_int : mg "int" = none
  n_len : mg "len" = none
  n_list : mg "list" = none
  n_min : mg "min" = none
  n_range : mg "range" = none
  n_reversed : mg "reversed" = none
  n_sum : mg "sum" = none
  X_Truncated : XErr P w cf mg base 0 "Truncated"
  cF : CF cf
  mk_0 : Mk cf.K (cf.mc 0) a_Counts_init
  g_Counts : mg "Counts" = some (.ref (cf.mc 0))
  me_0_total : Meth cf.K (cf.mc 0) "total" a_Counts_total
  me_1_total : Meth cf.K (cf.mc 1) "total" a_Counts_total
  me_2_total : Meth cf.K (cf.mc 2) "total" a_Counts_total
  me_0_low : Meth cf.K (cf.mc 0) "low" a_Counts_low
  me_1_low : Meth cf.K (cf.mc 1) "low" a_Counts_low
  me_2_low : Meth cf.K (cf.mc 2) "low" a_Counts_low
  me_0_weight : Meth cf.K (cf.mc 0) "weight" a_Counts_weight
  me_1_weight : Meth cf.K (cf.mc 1) "weight" a_Counts_weight
  me_2_weight : Meth cf.K (cf.mc 2) "weight" a_Counts_weight
  me_0_symbol_at : Meth cf.K (cf.mc 0) "symbol_at" a_Counts_symbol_at
  me_1_symbol_at : Meth cf.K (cf.mc 1) "symbol_at" a_Counts_symbol_at
  me_2_symbol_at : Meth cf.K (cf.mc 2) "symbol_at" a_Counts_symbol_at
  me_0_learn : Meth cf.K (cf.mc 0) "learn" a_Counts_learn
  me_1_learn : Meth cf.K (cf.mc 1) "learn" a_Counts_learn
  me_2_learn : Meth cf.K (cf.mc 2) "learn" a_Counts_learn
  me_0_fresh : Meth cf.K (cf.mc 0) "fresh" a_Counts_fresh
  me_1_fresh : Meth cf.K (cf.mc 1) "fresh" a_Counts_fresh
  me_2_fresh : Meth cf.K (cf.mc 2) "fresh" a_Counts_fresh
  nm_Truncated : cf.nm 0 = "Truncated"
  Y_Truncated : XCat cf.K (cf.cls 0)
  m_0_0 : PySem.W.exmOne cf.K (.ref (cf.cls 0)) (.ref (cf.cls 0)) = some true
  k_GREATEST : Tok
  c_GREATEST : mg "GREATEST" = some (.int 16777216 k_GREATEST)
  k_LEAST : Tok
  c_LEAST : mg "LEAST" = some (.int 65536 k_LEAST)
/-! ### what the defs compute -/
def b_push (low_1 : Int) (weight_2 : Int) (total_3 : Int) (number_4 : Int) : R (Fl Unit Int) :=
  (R.bind (R.bind (R.bind (R.bind (R.bind (R.ok number_4) fun a_5 => R.bind (R.ok weight_2) fun b_6 => divR a_5 b_6) fun a_7 => R.bind (R.ok total_3) fun b_8 => mulR a_7 b_8) fun a_9 => R.bind (R.ok low_1) fun b_10 => R.ok (a_9 + b_10)) fun a_13 => R.bind (R.bind (R.ok number_4) fun a_11 => R.bind (R.ok weight_2) fun b_12 => modR a_11 b_12) fun b_14 => R.ok (a_13 + b_14)) fun a_15 => R.ok (Fl.rt a_15))
def f_push (low_1 : Int) (weight_2 : Int) (total_3 : Int) (number_4 : Int) : R Int := finR (b_push low_1 weight_2 total_3 number_4)
def f_Counts_init : Bl → R Mdl := initC
def b_Counts_total (self_16 : Mdl) : R (Fl Unit Int) :=
  (R.bind (R.bind (R.bind (R.ok self_16) wsR) fun a_17 => R.ok (List.sum a_17)) fun a_18 => R.ok (Fl.rt a_18))
def f_Counts_total (self_16 : Mdl) : R Int := finR (b_Counts_total self_16)
def b_Counts_low (self_19 : Mdl) (symbol_20 : Int) : R (Fl Unit Int) :=
  (R.bind (R.bind (R.bind (R.bind (R.ok self_19) wsR) fun xs_22 => R.bind (R.ok none) fun lo_23 => R.bind (R.bind (R.ok symbol_20) fun a_21 => R.ok (some a_21)) fun hi_24 => R.ok (cut xs_22 lo_23 hi_24)) fun a_25 => R.ok (List.sum a_25)) fun a_26 => R.ok (Fl.rt a_26))
def f_Counts_low (self_19 : Mdl) (symbol_20 : Int) : R Int := finR (b_Counts_low self_19 symbol_20)
def b_Counts_weight (self_27 : Mdl) (symbol_28 : Int) : R (Fl Unit Int) :=
  (R.bind (R.bind (R.bind (R.ok self_27) wsR) fun a_29 => R.bind (R.ok symbol_28) fun b_30 => idxR a_29 b_30) fun a_31 => R.ok (Fl.rt a_31))
def f_Counts_weight (self_27 : Mdl) (symbol_28 : Int) : R Int := finR (b_Counts_weight self_27 symbol_28)
def b_Counts_symbol_at (self_32 : Mdl) (number_33 : Int) : R (Fl Unit Int) :=
  (R.bind (R.ok (0 : Int)) fun symbol_34 => (whileR (fun (st_35 : (Int × Int)) => (R.bind (R.ok st_35.1) fun a_38 => R.bind (R.bind (R.bind (R.ok self_32) wsR) fun a_36 => R.bind (R.ok st_35.2) fun b_37 => idxR a_36 b_37) fun b_39 => R.ok (decide (b_39 ≤ a_38)))) (fun (st_35 : (Int × Int)) => ((R.bind (R.bind (R.ok st_35.1) fun a_42 => R.bind (R.bind (R.bind (R.ok self_32) wsR) fun a_40 => R.bind (R.ok st_35.2) fun b_41 => idxR a_40 b_41) fun b_43 => R.ok (a_42 - b_43)) fun number_44 => (R.bind (R.bind (R.ok st_35.2) fun a_45 => R.bind (R.ok (1 : Int)) fun b_46 => R.ok (a_45 + b_46)) fun symbol_47 => (R.ok (Fl.nx (number_44, symbol_47))))) : R (Fl (Int × Int) Int))) (fun (st_35 : (Int × Int)) => (R.bind (R.ok st_35.2) fun a_48 => R.ok (Fl.rt a_48))) (100) (number_33, symbol_34)))
def f_Counts_symbol_at (self_32 : Mdl) (number_33 : Int) : R Int := finR (b_Counts_symbol_at self_32 number_33)
def f_Counts_learn : Mdl → Int → R Mdl := learnC
def b_Counts_fresh (self_49 : Mdl) : R (Fl Unit Mdl) :=
  (R.bind (R.bind (R.bind (R.bind (R.ok self_49) wsR) fun xs => R.ok (Bl.mk xs)) fun a_50 => R.pu (f_Counts_init a_50)) fun a_51 => R.ok (Fl.rt a_51))
def f_Counts_fresh (self_49 : Mdl) : R Mdl := finR (b_Counts_fresh self_49)
def b_pop (model_52 : Mdl) (number_53 : Int) : R (Fl Unit (Int × Int)) :=
  (R.bind (R.bind (R.ok number_53) fun a_55 => R.bind (R.bind (R.ok model_52) fun M_54 => R.pu (dsp f_Counts_total f_Counts_total f_Counts_total M_54)) fun b_56 => modR a_55 b_56) fun rest_57 => (R.bind (R.bind (R.ok model_52) fun M_58 => R.bind (R.ok rest_57) fun a_59 => R.pu (dsp f_Counts_symbol_at f_Counts_symbol_at f_Counts_symbol_at M_58 a_59)) fun symbol_60 => (R.bind (R.bind (R.ok symbol_60) fun a_74 => R.bind (R.bind (R.bind (R.bind (R.bind (R.ok model_52) fun M_61 => R.bind (R.ok symbol_60) fun a_62 => R.pu (dsp f_Counts_weight f_Counts_weight f_Counts_weight M_61 a_62)) fun a_66 => R.bind (R.bind (R.ok number_53) fun a_64 => R.bind (R.bind (R.ok model_52) fun M_63 => R.pu (dsp f_Counts_total f_Counts_total f_Counts_total M_63)) fun b_65 => divR a_64 b_65) fun b_67 => mulR a_66 b_67) fun a_68 => R.bind (R.ok rest_57) fun b_69 => R.ok (a_68 + b_69)) fun a_72 => R.bind (R.bind (R.ok model_52) fun M_70 => R.bind (R.ok symbol_60) fun a_71 => R.pu (dsp f_Counts_low f_Counts_low f_Counts_low M_70 a_71)) fun b_73 => R.ok (a_72 - b_73)) fun b_75 => R.ok (a_74, b_75)) fun a_76 => R.ok (Fl.rt a_76))))
def f_pop (model_52 : Mdl) (number_53 : Int) : R (Int × Int) := finR (b_pop model_52 number_53)
def b_shares (model_77 : Mdl) (message_78 : (List Int)) : R (Fl Unit (List (T3 Int Int Int))) :=
  (R.bind (R.bind (R.ok model_77) fun M_79 => R.pu (dsp f_Counts_fresh f_Counts_fresh f_Counts_fresh M_79)) fun current_80 => (R.bind (R.bind (R.ok ([] : List (T3 Int Int Int))) szR) fun result_81 => (R.bind (R.ok message_78) fun xs_97 => forR (fun (st_82 : (Mdl × (List (T3 Int Int Int)))) (symbol_83 : Int) => ((R.bind (R.bind (R.bind (R.ok st_82.1) fun M_85 => R.bind (R.ok symbol_83) fun a_86 => R.pu (dsp f_Counts_low f_Counts_low f_Counts_low M_85 a_86)) fun a_90 => R.bind (R.bind (R.ok st_82.1) fun M_87 => R.bind (R.ok symbol_83) fun a_88 => R.pu (dsp f_Counts_weight f_Counts_weight f_Counts_weight M_87 a_88)) fun b_91 => R.bind (R.bind (R.ok st_82.1) fun M_89 => R.pu (dsp f_Counts_total f_Counts_total f_Counts_total M_89)) fun c_92 => R.ok (T3.mk a_90 b_91 c_92)) fun y_95 => R.bind (szR (st_82.2 ++ [y_95])) fun result_84 => (R.bind (R.ok symbol_83) fun b_93 => R.bind (R.pu (dsp f_Counts_learn f_Counts_learn f_Counts_learn st_82.1 b_93)) fun current_94 => (R.ok (Fl.nx (current_94, result_84))))) : R (Fl (Mdl × (List (T3 Int Int Int))) (List (T3 Int Int Int))))) (fun (st_82 : (Mdl × (List (T3 Int Int Int)))) => (R.bind (R.ok st_82.2) fun a_96 => R.ok (Fl.rt a_96))) xs_97 (current_80, result_81))))
def f_shares (model_77 : Mdl) (message_78 : (List Int)) : R (List (T3 Int Int Int)) := finR (b_shares model_77 message_78)
def b_pack_words (model_98 : Mdl) (message_99 : (List Int)) : R (Fl Unit (Int × (List Int))) :=
  (R.bind (R.ok 65536) fun state_100 => (R.bind (R.bind (R.ok ([] : List Int)) szR) fun words_101 => (R.bind (R.bind (R.bind (R.ok model_98) fun a_102 => R.bind (R.ok message_99) fun b_103 => R.pu (f_shares a_102 b_103)) fun a_104 => R.ok (List.reverse a_104)) fun xs_130 => forR (fun (st_105 : (Int × (List Int))) (low_106 : (T3 Int Int Int)) => ((whileR (fun (st_107 : (Int × (List Int))) => (R.bind (R.ok st_107.1) fun a_112 => R.bind (R.bind (R.bind (R.ok 16777216) fun a_108 => R.bind (R.ok low_106.c) fun b_109 => divR a_108 b_109) fun a_110 => R.bind (R.ok low_106.b) fun b_111 => mulR a_110 b_111) fun b_113 => R.ok (decide (b_113 ≤ a_112)))) (fun (st_107 : (Int × (List Int))) => ((R.bind (R.bind (R.ok st_107.1) fun a_115 => R.bind (R.ok (255 : Int)) fun b_116 => R.ok (Builtin.bitAnd a_115 b_116)) fun y_120 => R.bind (szR (st_107.2 ++ [y_120])) fun words_114 => (R.bind (R.bind (R.ok st_107.1) fun a_117 => R.bind (R.ok (8 : Int)) fun b_118 => shrR a_117 b_118) fun state_119 => (R.ok (Fl.nx (state_119, words_114))))) : R (Fl (Int × (List Int)) (Int × (List Int))))) (fun (st_107 : (Int × (List Int))) => (R.bind (R.bind (R.ok low_106.a) fun a_121 => R.bind (R.ok low_106.b) fun b_122 => R.bind (R.ok low_106.c) fun c_123 => R.bind (R.ok st_107.1) fun d_124 => R.pu (f_push a_121 b_122 c_123 d_124)) fun state_125 => (R.ok (Fl.nx (state_125, st_107.2))))) (20) (st_105.1, st_105.2)) : R (Fl (Int × (List Int)) (Int × (List Int))))) (fun (st_105 : (Int × (List Int))) => (R.bind (R.bind (R.ok st_105.1) fun a_127 => R.bind (R.ok (List.reverse st_105.2)) fun b_128 => R.ok (a_127, b_128)) fun a_129 => R.ok (Fl.rt a_129))) xs_130 (state_100, words_101))))
def f_pack_words (model_98 : Mdl) (message_99 : (List Int)) : R (Int × (List Int)) := finR (b_pack_words model_98 message_99)
def b_unpack_words (model_131 : Mdl) (state_132 : Int) (words_133 : (List Int)) (count_134 : Int) : R (Fl Unit (T3 (List Int) Int Int)) :=
  (R.bind (R.bind (R.ok ([] : List Int)) szR) fun message_135 => (R.bind (R.ok (0 : Int)) fun used_136 => (R.bind (R.bind (R.ok count_134) rng1R) fun xs_168 => forR (fun (st_138 : (Int × ((List Int) × Int))) (k_139 : Int) => ((R.bind (R.bind (R.ok model_131) fun a_140 => R.bind (R.ok st_138.1) fun b_141 => R.pu (f_pop a_140 b_141)) fun p_142 => (R.bind (R.ok p_142.1) fun y_163 => R.bind (szR (st_138.2.1 ++ [y_163])) fun message_143 => (whileR (fun (st_144 : (Int × Int)) => (R.bind (R.ok st_144.1) fun a_145 => R.bind (R.ok 65536) fun b_146 => R.ok (decide (a_145 < b_146)))) (fun (st_144 : (Int × Int)) => ((R.bind (R.bind (R.ok st_144.2) fun a_148 => R.bind (R.bind (R.ok words_133) fun a_147 => R.ok (List.length a_147 : Int)) fun b_149 => R.ok (decide (a_148 = b_149))) fun c_150 => if c_150 = true then (R.bind (R.bind (R.ok words_133) fun a_151 => R.ok (List.length a_151 : Int)) fun p_152 => R.er 0 p_152) else (R.bind (R.bind (R.bind (R.ok st_144.1) fun a_153 => R.bind (R.ok (8 : Int)) fun b_154 => shlR a_153 b_154) fun a_157 => R.bind (R.bind (R.ok words_133) fun a_155 => R.bind (R.ok st_144.2) fun b_156 => idxR a_155 b_156) fun b_158 => R.ok (Builtin.bitOr a_157 b_158)) fun state_159 => (R.bind (R.bind (R.ok st_144.2) fun a_160 => R.bind (R.ok (1 : Int)) fun b_161 => R.ok (a_160 + b_161)) fun used_162 => (R.ok (Fl.nx (state_159, used_162)))))) : R (Fl (Int × Int) (T3 (List Int) Int Int)))) (fun (st_144 : (Int × Int)) => (R.ok (Fl.nx (st_144.1, message_143, st_144.2)))) (20) (p_142.2, st_138.2.2)))) : R (Fl (Int × ((List Int) × Int)) (T3 (List Int) Int Int)))) (fun (st_138 : (Int × ((List Int) × Int))) => (R.bind (R.bind (R.ok st_138.2.1) fun a_164 => R.bind (R.ok st_138.1) fun b_165 => R.bind (R.ok st_138.2.2) fun c_166 => R.ok (T3.mk a_164 b_165 c_166)) fun a_167 => R.ok (Fl.rt a_167))) xs_168 (state_132, message_135, used_136))))
def f_unpack_words (model_131 : Mdl) (state_132 : Int) (words_133 : (List Int)) (count_134 : Int) : R (T3 (List Int) Int Int) := finR (b_unpack_words model_131 state_132 words_133 count_134)
def b__law_cell (script_169 : Scr) (k_170 : Int) : R (Fl Unit Int) :=
  (R.bind (R.bind (R.ok k_170) fun a_172 => R.bind (R.bind (R.bind (R.ok script_169) fun z => R.ok z.ns) fun a_171 => R.ok (List.length a_171 : Int)) fun b_173 => R.ok (decide (a_172 < b_173))) fun c_174 => if c_174 = true then (R.bind (R.bind (R.bind (R.ok script_169) fun z => R.ok z.ns) fun a_175 => R.bind (R.ok k_170) fun b_176 => idxR a_175 b_176) fun a_177 => R.ok (Fl.rt a_177)) else (R.bind (R.ok (0 : Int)) fun a_178 => R.ok (Fl.rt a_178)))
def f__law_cell (script_169 : Scr) (k_170 : Int) : R Int := finR (b__law_cell script_169 k_170)
def b__law_weights (script_179 : Scr) : R (Fl Unit (List Int)) :=
  (R.bind (R.bind (R.ok script_179) fun a_180 => R.bind (R.ok (0 : Int)) fun b_181 => R.pu (f__law_cell a_180 b_181)) fun cell_here_182 => (R.bind (R.bind (R.ok (1 : Int)) fun a_185 => R.bind (R.bind (R.ok cell_here_182) fun a_183 => R.bind (R.ok (6 : Int)) fun b_184 => modR a_183 b_184) fun b_186 => R.ok (a_185 + b_186)) fun size_187 => (R.bind (R.bind (R.ok (1 : Int)) fun a_192 => R.bind (R.bind (R.bind (R.ok cell_here_182) fun a_188 => R.bind (R.ok (6 : Int)) fun b_189 => divR a_188 b_189) fun a_190 => R.bind (R.ok (17 : Int)) fun b_191 => modR a_190 b_191) fun b_193 => shlR a_192 b_193) fun total_194 => (R.bind (R.bind (R.ok ([] : List Int)) szR) fun weights_here_195 => (R.bind (R.ok total_194) fun left_196 => (R.bind (R.bind (R.bind (R.ok size_187) fun a_197 => R.bind (R.ok (1 : Int)) fun b_198 => R.ok (a_197 - b_198)) rng1R) fun xs_235 => forR (fun (st_200 : ((List Int) × Int)) (k_201 : Int) => ((R.bind (R.bind (R.bind (R.ok script_179) fun a_204 => R.bind (R.bind (R.ok (1 : Int)) fun a_202 => R.bind (R.ok k_201) fun b_203 => R.ok (a_202 + b_203)) fun b_205 => R.pu (f__law_cell a_204 b_205)) fun a_208 => R.bind (R.bind (R.ok st_200.2) fun a_206 => R.bind (R.ok (1 : Int)) fun b_207 => R.ok (a_206 + b_207)) fun b_209 => modR a_208 b_209) fun weight_210 => (seqF ((R.bind (R.bind (R.bind (R.bind (R.ok script_179) fun a_213 => R.bind (R.bind (R.ok (1 : Int)) fun a_211 => R.bind (R.ok k_201) fun b_212 => R.ok (a_211 + b_212)) fun b_214 => R.pu (f__law_cell a_213 b_214)) fun a_215 => R.bind (R.ok (3 : Int)) fun b_216 => modR a_215 b_216) fun a_217 => R.bind (R.ok (1 : Int)) fun b_218 => R.ok (decide (a_217 = b_218))) fun c_219 => if c_219 = true then (R.bind (R.bind (R.ok st_200.2) fun a_224 => R.bind (R.ok (1 : Int)) fun b_225 => R.ok (min a_224 b_225)) fun weight_226 => (R.ok (Fl.nx weight_226))) else (R.ok (Fl.nx weight_210))) : R (Fl Int (List Int))) fun st_223 => (R.bind (R.ok st_223) fun y_231 => R.bind (szR (st_200.1 ++ [y_231])) fun weights_here_227 => (R.bind (R.bind (R.ok st_200.2) fun a_228 => R.bind (R.ok st_223) fun b_229 => R.ok (a_228 - b_229)) fun left_230 => (R.ok (Fl.nx (weights_here_227, left_230))))))) : R (Fl ((List Int) × Int) (List Int)))) (fun (st_200 : ((List Int) × Int)) => (R.bind (R.ok st_200.2) fun y_234 => R.bind (szR (st_200.1 ++ [y_234])) fun weights_here_232 => (R.bind (R.ok weights_here_232) fun a_233 => R.ok (Fl.rt a_233)))) xs_235 (weights_here_195, left_196)))))))
def f__law_weights (script_179 : Scr) : R (List Int) := finR (b__law_weights script_179)
def b__law_packed (weights_here_236 : (List Int)) (message_237 : (List Int)) : R (Fl Unit (Int × (List Int))) :=
  (R.bind (R.ok (65536 : Int)) fun state_238 => (R.bind (R.bind (R.ok weights_here_236) fun a_239 => R.ok (List.sum a_239)) fun total_240 => (R.bind (R.bind (R.ok ([] : List Int)) szR) fun words_241 => (R.bind (R.bind (R.bind (R.ok message_237) fun a_242 => R.ok (List.length a_242 : Int)) rng1R) fun xs_297 => forR (fun (st_244 : (Int × (List Int))) (back_245 : Int) => ((R.bind (R.bind (R.ok message_237) fun a_251 => R.bind (R.bind (R.bind (R.bind (R.ok message_237) fun a_246 => R.ok (List.length a_246 : Int)) fun a_247 => R.bind (R.ok (1 : Int)) fun b_248 => R.ok (a_247 - b_248)) fun a_249 => R.bind (R.ok back_245) fun b_250 => R.ok (a_249 - b_250)) fun b_252 => idxR a_251 b_252) fun symbol_253 => (R.bind (R.bind (R.ok weights_here_236) fun a_254 => R.bind (R.ok symbol_253) fun b_255 => idxR a_254 b_255) fun weight_256 => (R.bind (R.bind (R.ok (4 : Int)) rng1R) fun xs_293 => forR (fun (st_258 : (Int × (List Int))) (turn_259 : Int) => ((R.bind (R.bind (R.ok st_258.1) fun a_264 => R.bind (R.bind (R.bind (R.ok (16777216 : Int)) fun a_260 => R.bind (R.ok total_240) fun b_261 => divR a_260 b_261) fun a_262 => R.bind (R.ok weight_256) fun b_263 => mulR a_262 b_263) fun b_265 => R.ok (decide (b_265 ≤ a_264))) fun c_266 => if c_266 = true then (R.bind (R.bind (R.bind (R.bind (R.bind (R.ok st_258.1) fun a_267 => R.bind (R.ok (256 : Int)) fun b_268 => modR a_267 b_268) fun a_269 => R.bind (R.ok ([] : List Int)) fun b_270 => R.ok (a_269 :: b_270)) szR) fun a_271 => R.bind (R.ok st_258.2) fun b_272 => szR (a_271 ++ b_272)) fun words_273 => (R.bind (R.bind (R.ok st_258.1) fun a_274 => R.bind (R.ok (256 : Int)) fun b_275 => divR a_274 b_275) fun state_276 => (R.ok (Fl.nx (state_276, words_273))))) else (R.ok (Fl.nx (st_258.1, st_258.2)))) : R (Fl (Int × (List Int)) (Int × (List Int))))) (fun (st_258 : (Int × (List Int))) => (R.bind (R.bind (R.bind (R.bind (R.bind (R.ok st_258.1) fun a_277 => R.bind (R.ok weight_256) fun b_278 => divR a_277 b_278) fun a_279 => R.bind (R.ok total_240) fun b_280 => mulR a_279 b_280) fun a_286 => R.bind (R.bind (R.bind (R.ok weights_here_236) fun xs_282 => R.bind (R.ok none) fun lo_283 => R.bind (R.bind (R.ok symbol_253) fun a_281 => R.ok (some a_281)) fun hi_284 => R.ok (cut xs_282 lo_283 hi_284)) fun a_285 => R.ok (List.sum a_285)) fun b_287 => R.ok (a_286 + b_287)) fun a_290 => R.bind (R.bind (R.ok st_258.1) fun a_288 => R.bind (R.ok weight_256) fun b_289 => modR a_288 b_289) fun b_291 => R.ok (a_290 + b_291)) fun state_292 => (R.ok (Fl.nx (state_292, st_258.2))))) xs_293 (st_244.1, st_244.2)))) : R (Fl (Int × (List Int)) (Int × (List Int))))) (fun (st_244 : (Int × (List Int))) => (R.bind (R.bind (R.ok st_244.1) fun a_294 => R.bind (R.ok st_244.2) fun b_295 => R.ok (a_294, b_295)) fun a_296 => R.ok (Fl.rt a_296))) xs_297 (state_238, words_241)))))
def f__law_packed (weights_here_236 : (List Int)) (message_237 : (List Int)) : R (Int × (List Int)) := finR (b__law_packed weights_here_236 message_237)
def b__law_unpacked (weights_here_298 : (List Int)) (state_299 : Int) (words_300 : (List Int)) (count_301 : Int) : R (Fl Unit ((T3 (List Int) Int Int) ⊕ (Str × Int))) :=
  (R.bind (R.bind (R.ok ([] : List Int)) szR) fun message_302 => (R.bind (R.ok (0 : Int)) fun used_303 => (R.bind (R.bind (R.ok weights_here_298) fun a_304 => R.ok (List.sum a_304)) fun total_305 => (R.bind (R.bind (R.ok count_301) rng1R) fun xs_384 => forR (fun (st_307 : (Int × ((List Int) × Int))) (k_308 : Int) => ((R.bind (R.bind (R.ok st_307.1) fun a_309 => R.bind (R.ok total_305) fun b_310 => modR a_309 b_310) fun rest_311 => (R.bind (R.ok (0 : Int)) fun symbol_312 => (R.bind (R.bind (R.bind (R.ok weights_here_298) fun a_313 => R.ok (List.length a_313 : Int)) rng1R) fun xs_378 => forR (fun (st_315 : Int) (j_316 : Int) => ((R.bind (R.bind (R.bind (R.bind (R.ok weights_here_298) fun xs_318 => R.bind (R.ok none) fun lo_319 => R.bind (R.bind (R.ok j_316) fun a_317 => R.ok (some a_317)) fun hi_320 => R.ok (cut xs_318 lo_319 hi_320)) fun a_321 => R.ok (List.sum a_321)) fun a_329 => R.bind (R.ok rest_311) fun b_330 => if decide (a_329 ≤ b_330) = true then R.bind (R.bind (R.bind (R.ok weights_here_298) fun xs_325 => R.bind (R.ok none) fun lo_326 => R.bind (R.bind (R.bind (R.ok j_316) fun a_322 => R.bind (R.ok (1 : Int)) fun b_323 => R.ok (a_322 + b_323)) fun a_324 => R.ok (some a_324)) fun hi_327 => R.ok (cut xs_325 lo_326 hi_327)) fun a_328 => R.ok (List.sum a_328)) fun c_331 => R.ok (decide (b_330 < c_331)) else R.ok false) fun c_332 => if c_332 = true then (R.bind (R.ok j_316) fun symbol_333 => (R.ok (Fl.nx symbol_333))) else (R.ok (Fl.nx st_315))) : R (Fl Int ((T3 (List Int) Int Int) ⊕ (Str × Int))))) (fun (st_315 : Int) => (R.bind (R.ok st_315) fun y_377 => R.bind (szR (st_307.2.1 ++ [y_377])) fun message_334 => (R.bind (R.bind (R.bind (R.bind (R.bind (R.ok weights_here_298) fun a_335 => R.bind (R.ok st_315) fun b_336 => idxR a_335 b_336) fun a_339 => R.bind (R.bind (R.ok st_307.1) fun a_337 => R.bind (R.ok total_305) fun b_338 => divR a_337 b_338) fun b_340 => mulR a_339 b_340) fun a_341 => R.bind (R.ok rest_311) fun b_342 => R.ok (a_341 + b_342)) fun a_348 => R.bind (R.bind (R.bind (R.ok weights_here_298) fun xs_344 => R.bind (R.ok none) fun lo_345 => R.bind (R.bind (R.ok st_315) fun a_343 => R.ok (some a_343)) fun hi_346 => R.ok (cut xs_344 lo_345 hi_346)) fun a_347 => R.ok (List.sum a_347)) fun b_349 => R.ok (a_348 - b_349)) fun state_350 => (R.bind (R.bind (R.ok (3 : Int)) rng1R) fun xs_376 => forR (fun (st_352 : (Int × Int)) (turn_353 : Int) => ((R.bind (R.bind (R.ok st_352.1) fun a_354 => R.bind (R.ok (65536 : Int)) fun b_355 => R.ok (decide (a_354 < b_355))) fun c_356 => if c_356 = true then (R.bind (R.bind (R.ok st_352.2) fun a_358 => R.bind (R.bind (R.ok words_300) fun a_357 => R.ok (List.length a_357 : Int)) fun b_359 => R.ok (decide (b_359 ≤ a_358))) fun c_360 => if c_360 = true then (R.bind (R.bind (R.bind (R.ok ("Truncated" : Str)) fun a_362 => R.bind (R.bind (R.ok words_300) fun a_361 => R.ok (List.length a_361 : Int)) fun b_363 => R.ok (a_362, b_363)) fun o_364 => R.ok (Sum.inr o_364 : ((T3 (List Int) Int Int) ⊕ (Str × Int)))) fun a_365 => R.ok (Fl.rt a_365)) else (R.bind (R.bind (R.bind (R.ok st_352.1) fun a_366 => R.bind (R.ok (256 : Int)) fun b_367 => mulR a_366 b_367) fun a_370 => R.bind (R.bind (R.ok words_300) fun a_368 => R.bind (R.ok st_352.2) fun b_369 => idxR a_368 b_369) fun b_371 => R.ok (a_370 + b_371)) fun state_372 => (R.bind (R.bind (R.ok st_352.2) fun a_373 => R.bind (R.ok (1 : Int)) fun b_374 => R.ok (a_373 + b_374)) fun used_375 => (R.ok (Fl.nx (state_372, used_375)))))) else (R.ok (Fl.nx (st_352.1, st_352.2)))) : R (Fl (Int × Int) ((T3 (List Int) Int Int) ⊕ (Str × Int))))) (fun (st_352 : (Int × Int)) => (R.ok (Fl.nx (st_352.1, message_334, st_352.2)))) xs_376 (state_350, st_307.2.2))))) xs_378 symbol_312))) : R (Fl (Int × ((List Int) × Int)) ((T3 (List Int) Int Int) ⊕ (Str × Int))))) (fun (st_307 : (Int × ((List Int) × Int))) => (R.bind (R.bind (R.bind (R.ok st_307.2.1) fun a_379 => R.bind (R.ok st_307.1) fun b_380 => R.bind (R.ok st_307.2.2) fun c_381 => R.ok (T3.mk a_379 b_380 c_381)) fun o_382 => R.ok (Sum.inl o_382 : ((T3 (List Int) Int Int) ⊕ (Str × Int)))) fun a_383 => R.ok (Fl.rt a_383))) xs_384 (state_299, message_302, used_303)))))
def f__law_unpacked (weights_here_298 : (List Int)) (state_299 : Int) (words_300 : (List Int)) (count_301 : Int) : R ((T3 (List Int) Int Int) ⊕ (Str × Int)) := finR (b__law_unpacked weights_here_298 state_299 words_300 count_301)
def b__law_told (model_385 : Mdl) (state_386 : Int) (words_387 : (List Int)) (count_388 : Int) : R (Fl Unit ((T3 (List Int) Int Int) ⊕ (Str × Int))) :=
  (tryR ((R.bind (R.bind (R.bind (R.ok model_385) fun a_389 => R.bind (R.ok state_386) fun b_390 => R.bind (R.ok words_387) fun c_391 => R.bind (R.ok count_388) fun d_392 => (f_unpack_words a_389 b_390 c_391 d_392)) fun o_393 => R.ok (Sum.inl o_393 : ((T3 (List Int) Int Int) ⊕ (Str × Int)))) fun a_394 => R.ok (Fl.rt a_394)) : R (Fl Unit ((T3 (List Int) Int Int) ⊕ (Str × Int)))) (fun (c : Nat) (p : Int) => if c = 0 then (R.ok (Fl.rt (((fun a => Sum.inr (id a)) : (Str × Int) → ((T3 (List Int) Int Int) ⊕ (Str × Int))) (("Truncated" : Str), p)))) else .bad))
def f__law_told (model_385 : Mdl) (state_386 : Int) (words_387 : (List Int)) (count_388 : Int) : R ((T3 (List Int) Int Int) ⊕ (Str × Int)) := finR (b__law_told model_385 state_386 words_387 count_388)
def b_law (script_395 : Scr) : R (Fl Unit Bool) :=
  (R.bind (R.bind (R.ok script_395) fun a_396 => R.pu (f__law_weights a_396)) fun weights_here_397 => (R.bind (R.bind (R.bind (R.ok weights_here_397) fun xs => R.ok (Bl.mk xs)) fun a_398 => R.pu (f_Counts_init a_398)) fun model_399 => (R.bind (R.bind (R.bind (R.bind (R.ok weights_here_397) fun a_400 => R.ok (List.length a_400 : Int)) rng1R) (lcR (fun k_402 => (R.bind (R.bind (R.ok weights_here_397) fun a_403 => R.bind (R.ok k_402) fun b_404 => idxR a_403 b_404) fun a_405 => R.bind (R.ok (0 : Int)) fun b_406 => R.ok (decide (b_406 < a_405)))) (fun k_402 => (R.ok k_402)))) fun present_407 => (R.bind (R.bind (R.bind (R.bind (R.ok script_395) fun z => R.ok z.ns) fun xs_410 => R.bind (R.bind (R.ok (7 : Int)) fun a_408 => R.ok (some a_408)) fun lo_411 => R.bind (R.bind (R.ok (47 : Int)) fun a_409 => R.ok (some a_409)) fun hi_412 => R.ok (cut xs_410 lo_411 hi_412)) (lcR (fun cell_here_413 => (R.ok true)) (fun cell_here_413 => (R.bind (R.ok present_407) fun a_417 => R.bind (R.bind (R.ok cell_here_413) fun a_415 => R.bind (R.bind (R.ok present_407) fun a_414 => R.ok (List.length a_414 : Int)) fun b_416 => modR a_415 b_416) fun b_418 => idxR a_417 b_418)))) fun message_419 => (R.bind (R.ok message_419) fun given_420 => (R.bind (R.bind (R.ok model_399) fun a_421 => R.bind (R.ok given_420) fun b_422 => R.pu (f_pack_words a_421 b_422)) fun found_423 => (R.bind (R.bind (R.bind (R.ok given_420) fun a_424 => R.bind (R.ok message_419) fun b_425 => R.bind (eqR a_424 b_425) fun c => R.ok (!c)) fun c_436 => if c_436 = true then R.ok true else (R.bind (R.bind (R.ok found_423) fun a_428 => R.bind (R.bind (R.ok weights_here_397) fun a_426 => R.bind (R.ok message_419) fun b_427 => R.pu (f__law_packed a_426 b_427)) fun b_429 => R.bind (eqR a_428 b_429) fun c => R.ok (!c)) fun c_435 => if c_435 = true then R.ok true else (R.bind (R.bind (R.ok (65536 : Int)) fun a_431 => R.bind (R.bind (R.ok found_423) fun a_430 => R.ok a_430.1) fun b_432 => if decide (a_431 ≤ b_432) = true then R.bind (R.ok (16777216 : Int)) fun c_433 => R.ok (decide (b_432 < c_433)) else R.ok false) fun a_434 => R.ok (!a_434)))) fun c_437 => if c_437 = true then (R.bind (R.ok false) fun a_438 => R.ok (Fl.rt a_438)) else (R.bind (R.bind (R.ok found_423) fun a_439 => R.ok a_439.2) fun words_440 => (R.bind (R.bind (R.bind (R.bind (R.ok script_395) fun z => R.ok z.ns) fun xs_443 => R.bind (R.bind (R.ok (47 : Int)) fun a_441 => R.ok (some a_441)) fun lo_444 => R.bind (R.bind (R.ok (50 : Int)) fun a_442 => R.ok (some a_442)) fun hi_445 => R.ok (cut xs_443 lo_444 hi_445)) (lcR (fun cell_here_446 => (R.ok true)) (fun cell_here_446 => (R.bind (R.ok cell_here_446) fun a_447 => R.bind (R.ok (256 : Int)) fun b_448 => modR a_447 b_448)))) fun behind_449 => (R.bind (R.bind (R.bind (R.ok model_399) fun a_454 => R.bind (R.bind (R.ok found_423) fun a_450 => R.ok a_450.1) fun b_455 => R.bind (R.bind (R.ok words_440) fun a_451 => R.bind (R.ok behind_449) fun b_452 => szR (a_451 ++ b_452)) fun c_456 => R.bind (R.bind (R.ok message_419) fun a_453 => R.ok (List.length a_453 : Int)) fun d_457 => R.pu (f__law_told a_454 b_455 c_456 d_457)) fun a_463 => R.bind (R.bind (R.bind (R.ok message_419) fun a_459 => R.bind (R.ok (65536 : Int)) fun b_460 => R.bind (R.bind (R.ok words_440) fun a_458 => R.ok (List.length a_458 : Int)) fun c_461 => R.ok (T3.mk a_459 b_460 c_461)) fun o_462 => R.ok (Sum.inl o_462 : ((T3 (List Int) Int Int) ⊕ (Str × Int)))) fun b_464 => R.bind (eqR a_463 b_464) fun c => R.ok (!c)) fun c_465 => if c_465 = true then (R.bind (R.ok false) fun a_466 => R.ok (Fl.rt a_466)) else (R.bind (R.bind (R.ok words_440) fun a_468 => R.bind (R.bind (R.ok found_423) fun a_467 => R.ok a_467.2) fun b_469 => R.bind (eqR a_468 b_469) fun c => R.ok (!c)) fun c_470 => if c_470 = true then (R.bind (R.ok false) fun a_471 => R.ok (Fl.rt a_471)) else (seqF ((R.bind (R.bind (R.bind (R.ok words_440) fun a_472 => R.ok (List.length a_472 : Int)) fun a_473 => R.bind (R.ok (0 : Int)) fun b_474 => R.ok (decide (b_474 < a_473))) fun c_475 => if c_475 = true then (R.bind (R.bind (R.ok words_440) fun xs_507 => R.bind (R.ok none) fun lo_508 => R.bind (R.bind (R.bind (R.bind (R.ok script_395) fun a_501 => R.bind (R.ok (50 : Int)) fun b_502 => R.pu (f__law_cell a_501 b_502)) fun a_504 => R.bind (R.bind (R.ok words_440) fun a_503 => R.ok (List.length a_503 : Int)) fun b_505 => modR a_504 b_505) fun a_506 => R.ok (some a_506)) fun hi_509 => R.ok (cut xs_507 lo_508 hi_509)) fun fewer_510 => (R.bind (R.bind (R.bind (R.ok model_399) fun a_513 => R.bind (R.bind (R.ok found_423) fun a_511 => R.ok a_511.1) fun b_514 => R.bind (R.ok fewer_510) fun c_515 => R.bind (R.bind (R.ok message_419) fun a_512 => R.ok (List.length a_512 : Int)) fun d_516 => R.pu (f__law_told a_513 b_514 c_515 d_516)) fun a_521 => R.bind (R.bind (R.bind (R.ok ("Truncated" : Str)) fun a_518 => R.bind (R.bind (R.ok fewer_510) fun a_517 => R.ok (List.length a_517 : Int)) fun b_519 => R.ok (a_518, b_519)) fun o_520 => R.ok (Sum.inr o_520 : ((T3 (List Int) Int Int) ⊕ (Str × Int)))) fun b_522 => R.bind (eqR a_521 b_522) fun c => R.ok (!c)) fun c_523 => if c_523 = true then (R.bind (R.ok false) fun a_524 => R.ok (Fl.rt a_524)) else (R.ok (Fl.nx ())))) else (R.ok (Fl.nx ()))) : R (Fl Unit Bool)) fun st_500 => (R.bind (R.bind (R.ok (65536 : Int)) fun a_529 => R.bind (R.bind (R.bind (R.ok script_395) fun a_525 => R.bind (R.ok (51 : Int)) fun b_526 => R.pu (f__law_cell a_525 b_526)) fun a_527 => R.bind (R.ok (16711680 : Int)) fun b_528 => modR a_527 b_528) fun b_530 => R.ok (a_529 + b_530)) fun state_531 => (R.bind (R.bind (R.bind (R.bind (R.ok script_395) fun z => R.ok z.ns) fun xs_534 => R.bind (R.bind (R.ok (52 : Int)) fun a_532 => R.ok (some a_532)) fun lo_535 => R.bind (R.bind (R.ok (63 : Int)) fun a_533 => R.ok (some a_533)) fun hi_536 => R.ok (cut xs_534 lo_535 hi_536)) (lcR (fun cell_here_537 => (R.ok true)) (fun cell_here_537 => (R.bind (R.ok cell_here_537) fun a_538 => R.bind (R.ok (256 : Int)) fun b_539 => modR a_538 b_539)))) fun words_540 => (R.bind (R.bind (R.bind (R.bind (R.ok script_395) fun a_541 => R.bind (R.ok (50 : Int)) fun b_542 => R.pu (f__law_cell a_541 b_542)) fun a_543 => R.bind (R.ok (50 : Int)) fun b_544 => divR a_543 b_544) fun a_545 => R.bind (R.ok (30 : Int)) fun b_546 => modR a_545 b_546) fun count_547 => (R.bind (R.bind (R.bind (R.ok model_399) fun a_548 => R.bind (R.ok state_531) fun b_549 => R.bind (R.ok words_540) fun c_550 => R.bind (R.ok count_547) fun d_551 => R.pu (f__law_told a_548 b_549 c_550 d_551)) fun a_556 => R.bind (R.bind (R.ok weights_here_397) fun a_552 => R.bind (R.ok state_531) fun b_553 => R.bind (R.ok words_540) fun c_554 => R.bind (R.ok count_547) fun d_555 => R.pu (f__law_unpacked a_552 b_553 c_554 d_555)) fun b_557 => eqR a_556 b_557) fun a_558 => R.ok (Fl.rt a_558)))))))))))))))))
def f_law (script_395 : Scr) : R Bool := finR (b_law script_395)
/-! ### the defs compute it -/
section
variable {P : Program} {w : World} {cf : Cf} {mg : Str → Option Value} {base : Heap} (T : Txt P w cf mg base)
theorem sc_push : FnScope ["low", "weight", "total", "number"] ["low", "weight", "total", "number"] (defScope s_push) := ⟨rfl, rfl, rfl, by decide +kernel, rfl, by decide +kernel, by decide +kernel⟩
theorem ok_push : FnOk P w cf.K mg base CX0 1 T.a_push T.d_push ["low", "weight", "total", "number"] (SpP cf 4 (sp4 f_push)) := by
  refine fn4 (k := 0) (S := Unit) (enc := fun _ => [.un, .un, .un, .un]) T.F_push sc_push rfl b_push (fun low_1 weight_2 total_3 number_4 => [.va (toD (low_1 : Int)), .va (toD (weight_2 : Int)), .va (toD (total_3 : Int)), .va (toD (number_4 : Int))]) (fun _ _ _ _ => rfl) fun cdv A outer s H E hr => ?_
  refine ⟨_, (pss_one (ps_ret (pe_op op_add (pe_op op_add (pe_op op_mulX (pe_op op_fdivW (pv 3) (pv 1)) (pv 2)) (pv 0)) (pe_op op_mod (pv 3) (pv 1))))), fun low_1 weight_2 total_3 number_4 => ?_⟩
  unfold b_push
  exact (sb_ret (em_I0 (em_I0 (em_mul (em_div (em_var 3 number_4 rfl) (em_var 1 weight_2 rfl)) (em_var 2 total_3 rfl)) (em_var 0 low_1 rfl)) (em_mod (em_var 3 number_4 rfl) (em_var 1 weight_2 rfl))))
theorem sc_Counts_init : FnScope ["self", "weights"] ["self", "weights"] (defScope s_Counts_init) := ⟨rfl, rfl, rfl, by decide +kernel, rfl, by decide +kernel, by decide +kernel⟩
theorem ok_Counts_init : FnOk P w cf.K mg base CX0 1 T.a_Counts_init T.d_Counts_init ["self", "weights"] (spI1 cf 0 f_Counts_init) := by
  refine T.F_Counts_init.ok sc_Counts_init (spI1.len rfl) (fun cdv A outer s H vs Q E hr h => ?_)
  refine ⟨_, pss_one (ps_fld (pv 0) (pe_callTy (listK cf.K rfl) (by rfl) T.n_list (by decide +kernel) (pa_cons (pv 1) pa_nil)) rfl), ?_⟩
  exact init_counts T.cF h
theorem sc_Counts_total : FnScope ["self"] ["self"] (defScope s_Counts_total) := ⟨rfl, rfl, rfl, by decide +kernel, rfl, by decide +kernel, by decide +kernel⟩
theorem ok_Counts_total : FnOk P w cf.K mg base CX0 1 T.a_Counts_total T.d_Counts_total ["self"] (spG1 cf f_Counts_total) := by
  refine fnG1 (k := 0) (S := Unit) (enc := fun _ => [.un]) T.F_Counts_total sc_Counts_total rfl b_Counts_total (fun self_16 => [.bo (Tre.tr cf (self_16 : Mdl))]) (fun _ => rfl) fun cdv A outer s H E hr => ?_
  refine ⟨_, (pss_one (ps_ret (pe_callB (sumK cf.K rfl rfl) (by rfl) T.n_sum (by decide +kernel) (pa_cons (pe_fld (pv 0) (by rfl)) pa_nil)))), fun self_16 => ?_⟩
  unfold b_Counts_total
  exact (sb_ret (em_sum (EL.toS (el_weights T.cF (et_bo 0 self_16 rfl)))))
theorem sc_Counts_low : FnScope ["self", "symbol"] ["self", "symbol"] (defScope s_Counts_low) := ⟨rfl, rfl, rfl, by decide +kernel, rfl, by decide +kernel, by decide +kernel⟩
theorem ok_Counts_low : FnOk P w cf.K mg base CX0 1 T.a_Counts_low T.d_Counts_low ["self", "symbol"] (spG2 cf f_Counts_low) := by
  refine fnG2 (k := 0) (S := Unit) (enc := fun _ => [.un, .un]) T.F_Counts_low sc_Counts_low rfl b_Counts_low (fun self_19 symbol_20 => [.bo (Tre.tr cf (self_19 : Mdl)), .va (toD (symbol_20 : Int))]) (fun _ _ => rfl) fun cdv A outer s H E hr => ?_
  refine ⟨_, (pss_one (ps_ret (pe_callB (sumK cf.K rfl rfl) (by rfl) T.n_sum (by decide +kernel) (pa_cons (pe_slice (sl_listK cf.K rfl) (pe_fld (pv 0) (by rfl)) po_none (po_some (pv 1))) pa_nil)))), fun self_19 symbol_20 => ?_⟩
  unfold b_Counts_low
  exact (sb_ret (em_sum (EF.toS (ef_sl (EL.toS (el_weights T.cF (et_bo 0 self_19 rfl))) eo_none (eo_some (em_var 1 symbol_20 rfl))))))
theorem sc_Counts_weight : FnScope ["self", "symbol"] ["self", "symbol"] (defScope s_Counts_weight) := ⟨rfl, rfl, rfl, by decide +kernel, rfl, by decide +kernel, by decide +kernel⟩
theorem ok_Counts_weight : FnOk P w cf.K mg base CX0 1 T.a_Counts_weight T.d_Counts_weight ["self", "symbol"] (spG2 cf f_Counts_weight) := by
  refine fnG2 (k := 0) (S := Unit) (enc := fun _ => [.un, .un]) T.F_Counts_weight sc_Counts_weight rfl b_Counts_weight (fun self_27 symbol_28 => [.bo (Tre.tr cf (self_27 : Mdl)), .va (toD (symbol_28 : Int))]) (fun _ _ => rfl) fun cdv A outer s H E hr => ?_
  refine ⟨_, (pss_one (ps_ret (pe_ix (ix_listK cf.K rfl) (pe_fld (pv 0) (by rfl)) (pv 1) (fun _ _ => rfl)))), fun self_27 symbol_28 => ?_⟩
  unfold b_Counts_weight
  exact (sb_ret (em_ixL (EL.toS (el_weights T.cF (et_bo 0 self_27 rfl))) (em_var 1 symbol_28 rfl)))
theorem sc_Counts_symbol_at : FnScope ["self", "number", "symbol"] ["self", "number"] (defScope s_Counts_symbol_at) := ⟨rfl, rfl, rfl, by decide +kernel, rfl, by decide +kernel, by decide +kernel⟩
theorem ok_Counts_symbol_at : FnOk P w cf.K mg base CX0 1 T.a_Counts_symbol_at T.d_Counts_symbol_at ["self", "number"] (spG2 cf f_Counts_symbol_at) := by
  refine fnG2 (k := 0) (S := Unit) (enc := fun _ => [.un, .un, .un]) T.F_Counts_symbol_at sc_Counts_symbol_at rfl b_Counts_symbol_at (fun self_32 number_33 => [.bo (Tre.tr cf (self_32 : Mdl)), .va (toD (number_33 : Int)), .un]) (fun _ _ => rfl) fun cdv A outer s H E hr => ?_
  refine ⟨_, (pss_cons (ps_set (i := 2) sc_Counts_symbol_at.nd rfl (.inl rfl) pe_int) (pss_cons (ps_while PassesOwn.never (pt_cmpR op_ge (pv 1) (pe_ix (ix_listK cf.K rfl) (pe_fld (pv 0) (by rfl)) (pv 2) (fun _ _ => rfl)) (nomark _)) (pss_cons (ps_aug (i := 1) sc_Counts_symbol_at.nd rfl (.inl rfl) (pe_ix (ix_listK cf.K rfl) (pe_fld (pv 0) (by rfl)) (pv 2) (fun _ _ => rfl)) iop_sub) (pss_one (ps_aug (i := 2) sc_Counts_symbol_at.nd rfl (.inl rfl) pe_int iop_add)))) (pss_one (ps_ret (pv 2))))), fun self_32 number_33 => ?_⟩
  unfold b_Counts_symbol_at
  exact (sb_asg (em_int 0) (ag_name 2) (fun symbol_34 => [.bo (Tre.tr cf (self_32 : Mdl)), .va (toD (number_33 : Int)), .va (toD (symbol_34 : Int))]) (fun _ => rfl) (fun symbol_34 => (sb_while (T := (Int × Int)) (encL := fun st_35 => [.bo (Tre.tr cf (self_32 : Mdl)), .va (toD (st_35.1 : Int)), .va (toD (st_35.2 : Int))]) (100) (number_33, symbol_34) (.same (.same (.same .nil))) (fun st_35 => (eb_test (em_B0 (em_var 1 st_35.1 rfl) (em_ixL (EL.toS (el_weights T.cF (et_bo 0 self_32 rfl))) (em_var 2 st_35.2 rfl))))) (fun st_35 => (sb_aug (em_I0 (em_var 1 st_35.1 rfl) (em_ixL (EL.toS (el_weights T.cF (et_bo 0 self_32 rfl))) (em_var 2 st_35.2 rfl))) (fun number_44 => [.bo (Tre.tr cf (self_32 : Mdl)), .va (toD (number_44 : Int)), .va (toD (st_35.2 : Int))]) (fun _ => rfl) (fun number_44 => (sb_one (sb_aug (em_I0 (em_var 2 st_35.2 rfl) (em_int 1)) (fun symbol_47 => [.bo (Tre.tr cf (self_32 : Mdl)), .va (toD (number_44 : Int)), .va (toD (symbol_47 : Int))]) (fun _ => rfl) (fun symbol_47 => (sb_next (number_44, symbol_47) (.same (.same (.same .nil)))))))))) (fun st_35 => (sb_ret (em_var 2 st_35.2 rfl))))))
theorem sc_Counts_learn : FnScope ["self", "symbol"] ["self", "symbol"] (defScope s_Counts_learn) := ⟨rfl, rfl, rfl, by decide +kernel, rfl, by decide +kernel, by decide +kernel⟩
theorem ok_Counts_learn : FnOk P w cf.K mg base CX0 1 T.a_Counts_learn T.d_Counts_learn ["self", "symbol"] (spL cf f_Counts_learn) := by
  refine T.F_Counts_learn.ok sc_Counts_learn (spL.len rfl) (fun cdv A outer s H vs Q E hr h => ?_)
  refine ⟨_, pss_one (ps_ret pe_non), ?_⟩
  exact learn_counts h
theorem sc_Counts_fresh : FnScope ["self"] ["self"] (defScope s_Counts_fresh) := ⟨rfl, rfl, rfl, by decide +kernel, rfl, by decide +kernel, by decide +kernel⟩
theorem ok_Counts_fresh : FnOk P w cf.K mg base CX0 3 T.a_Counts_fresh T.d_Counts_fresh ["self"] (spG1 cf f_Counts_fresh) := by
  refine fnG1 (k := 2) (S := Unit) (enc := fun _ => [.un]) T.F_Counts_fresh sc_Counts_fresh rfl b_Counts_fresh (fun self_49 => [.bo (Tre.tr cf (self_49 : Mdl))]) (fun _ => rfl) fun cdv A outer s H E hr => ?_
  refine ⟨_, (pss_one (ps_ret (pe_make T.mk_0 (ok_Counts_init T) (hr.mono (by decide)) (by rfl) T.g_Counts T.b_Counts_init .nil pass0 (pa_cons (pe_fld (pv 0) (by rfl)) pa_nil)))), fun self_49 => ?_⟩
  unfold b_Counts_fresh
  exact (sb_retN_ (em_make1 (k := 0) (et_argB (EL.toB (el_weights T.cF (et_bo 0 self_49 rfl))))))
theorem sc_pop : FnScope ["model", "number", "rest", "symbol"] ["model", "number"] (defScope s_pop) := ⟨rfl, rfl, rfl, by decide +kernel, rfl, by decide +kernel, by decide +kernel⟩
theorem ok_pop : FnOk P w cf.K mg base CX0 2 T.a_pop T.d_pop ["model", "number"] (spG2 cf f_pop) := by
  refine fnG2 (k := 1) (S := Unit) (enc := fun _ => [.un, .un, .un, .un]) T.F_pop sc_pop rfl b_pop (fun model_52 number_53 => [.bo (Tre.tr cf (model_52 : Mdl)), .va (toD (number_53 : Int)), .un, .un]) (fun _ _ => rfl) fun cdv A outer s H E hr => ?_
  refine ⟨_, (pss_cons (ps_set (i := 2) sc_pop.nd rfl (.inl rfl) (pe_op op_mod (pv 1) (pe_or3 (pe_meth0 (pv 0) T.cF.c0 T.me_0_total (ok_Counts_total T) (hr.mono (by decide)) T.b_Counts_total .nil pass0) (pe_meth0 (pv 0) T.cF.c1 T.me_1_total (ok_Counts_total T) (hr.mono (by decide)) T.b_Counts_total .nil pass0) (pe_meth0 (pv 0) T.cF.c2 T.me_2_total (ok_Counts_total T) (hr.mono (by decide)) T.b_Counts_total .nil pass0)))) (pss_cons (ps_set (i := 3) sc_pop.nd rfl (.inl rfl) (pe_or3 (pe_meth (pv 0) T.cF.c0 T.me_0_symbol_at (ok_Counts_symbol_at T) (hr.mono (by decide)) T.b_Counts_symbol_at .nil pass0 (pa_cons (pv 2) pa_nil)) (pe_meth (pv 0) T.cF.c1 T.me_1_symbol_at (ok_Counts_symbol_at T) (hr.mono (by decide)) T.b_Counts_symbol_at .nil pass0 (pa_cons (pv 2) pa_nil)) (pe_meth (pv 0) T.cF.c2 T.me_2_symbol_at (ok_Counts_symbol_at T) (hr.mono (by decide)) T.b_Counts_symbol_at .nil pass0 (pa_cons (pv 2) pa_nil)))) (pss_one (ps_ret (pe_tup (pa_cons (pv 3) (pa_cons (pe_op op_sub (pe_op op_add (pe_op op_mulX (pe_or3 (pe_meth (pv 0) T.cF.c0 T.me_0_weight (ok_Counts_weight T) (hr.mono (by decide)) T.b_Counts_weight .nil pass0 (pa_cons (pv 3) pa_nil)) (pe_meth (pv 0) T.cF.c1 T.me_1_weight (ok_Counts_weight T) (hr.mono (by decide)) T.b_Counts_weight .nil pass0 (pa_cons (pv 3) pa_nil)) (pe_meth (pv 0) T.cF.c2 T.me_2_weight (ok_Counts_weight T) (hr.mono (by decide)) T.b_Counts_weight .nil pass0 (pa_cons (pv 3) pa_nil))) (pe_op op_fdivW (pv 1) (pe_or3 (pe_meth0 (pv 0) T.cF.c0 T.me_0_total (ok_Counts_total T) (hr.mono (by decide)) T.b_Counts_total .nil pass0) (pe_meth0 (pv 0) T.cF.c1 T.me_1_total (ok_Counts_total T) (hr.mono (by decide)) T.b_Counts_total .nil pass0) (pe_meth0 (pv 0) T.cF.c2 T.me_2_total (ok_Counts_total T) (hr.mono (by decide)) T.b_Counts_total .nil pass0)))) (pv 2)) (pe_or3 (pe_meth (pv 0) T.cF.c0 T.me_0_low (ok_Counts_low T) (hr.mono (by decide)) T.b_Counts_low .nil pass0 (pa_cons (pv 3) pa_nil)) (pe_meth (pv 0) T.cF.c1 T.me_1_low (ok_Counts_low T) (hr.mono (by decide)) T.b_Counts_low .nil pass0 (pa_cons (pv 3) pa_nil)) (pe_meth (pv 0) T.cF.c2 T.me_2_low (ok_Counts_low T) (hr.mono (by decide)) T.b_Counts_low .nil pass0 (pa_cons (pv 3) pa_nil)))) pa_nil))))))), fun model_52 number_53 => ?_⟩
  unfold b_pop
  exact (sb_asg (em_mod (em_var 1 number_53 rfl) (em_meth0 (by decide +kernel) (et_bo 0 model_52 rfl))) (ag_name 2) (fun rest_57 => [.bo (Tre.tr cf (model_52 : Mdl)), .va (toD (number_53 : Int)), .va (toD (rest_57 : Int)), .un]) (fun _ => rfl) (fun rest_57 => (sb_asg (em_meth1 (by decide +kernel) (et_bo 0 model_52 rfl) (em_arg (em_var 2 rest_57 rfl))) (ag_name 3) (fun symbol_60 => [.bo (Tre.tr cf (model_52 : Mdl)), .va (toD (number_53 : Int)), .va (toD (rest_57 : Int)), .va (toD (symbol_60 : Int))]) (fun _ => rfl) (fun symbol_60 => (sb_ret (em_tup2 (em_var 3 symbol_60 rfl) (em_I0 (em_I0 (em_mul (em_meth1 (by decide +kernel) (et_bo 0 model_52 rfl) (em_arg (em_var 3 symbol_60 rfl))) (em_div (em_var 1 number_53 rfl) (em_meth0 (by decide +kernel) (et_bo 0 model_52 rfl)))) (em_var 2 rest_57 rfl)) (em_meth1 (by decide +kernel) (et_bo 0 model_52 rfl) (em_arg (em_var 3 symbol_60 rfl))))))))))
theorem sc_shares : FnScope ["model", "message", "current", "result", "symbol"] ["model", "message"] (defScope s_shares) := ⟨rfl, rfl, rfl, by decide +kernel, rfl, by decide +kernel, by decide +kernel⟩
theorem ok_shares : FnOk P w cf.K mg base CX0 4 T.a_shares T.d_shares ["model", "message"] (spG2 cf f_shares) := by
  refine fnG2 (k := 3) (S := Unit) (enc := fun _ => [.un, .un, .un, .un, .un]) T.F_shares sc_shares rfl b_shares (fun model_77 message_78 => [.bo (Tre.tr cf (model_77 : Mdl)), .va (toD (message_78 : (List Int))), .un, .un, .un]) (fun _ _ => rfl) fun cdv A outer s H E hr => ?_
  refine ⟨_, (pss_cons (ps_set (i := 2) sc_shares.nd rfl (.inl rfl) (pe_or3 (pe_meth0 (pv 0) T.cF.c0 T.me_0_fresh (ok_Counts_fresh T) (hr.mono (by decide)) T.b_Counts_fresh .nil pass0) (pe_meth0 (pv 0) T.cF.c1 T.me_1_fresh (ok_Counts_fresh T) (hr.mono (by decide)) T.b_Counts_fresh .nil pass0) (pe_meth0 (pv 0) T.cF.c2 T.me_2_fresh (ok_Counts_fresh T) (hr.mono (by decide)) T.b_Counts_fresh .nil pass0))) (pss_cons (ps_set (i := 3) sc_shares.nd rfl (.inl rfl) (pe_lst pa_nil)) (pss_cons (ps_for PassesOwn.never rfl (listI cf.K rfl (pv 1)) (pg_name (i := 4) sc_shares.nd rfl (.inl rfl)) (pss_cons (ps_expr (pe_bm PySem.F.plainAttrs_list PySem.F.slot_list_append PySem.F.type_list_append mt_append (pv 3) (pa_cons (pe_tup (pa_cons (pe_or3 (pe_meth (pv 2) T.cF.c0 T.me_0_low (ok_Counts_low T) (hr.mono (by decide)) T.b_Counts_low .nil pass0 (pa_cons (pv 4) pa_nil)) (pe_meth (pv 2) T.cF.c1 T.me_1_low (ok_Counts_low T) (hr.mono (by decide)) T.b_Counts_low .nil pass0 (pa_cons (pv 4) pa_nil)) (pe_meth (pv 2) T.cF.c2 T.me_2_low (ok_Counts_low T) (hr.mono (by decide)) T.b_Counts_low .nil pass0 (pa_cons (pv 4) pa_nil))) (pa_cons (pe_or3 (pe_meth (pv 2) T.cF.c0 T.me_0_weight (ok_Counts_weight T) (hr.mono (by decide)) T.b_Counts_weight .nil pass0 (pa_cons (pv 4) pa_nil)) (pe_meth (pv 2) T.cF.c1 T.me_1_weight (ok_Counts_weight T) (hr.mono (by decide)) T.b_Counts_weight .nil pass0 (pa_cons (pv 4) pa_nil)) (pe_meth (pv 2) T.cF.c2 T.me_2_weight (ok_Counts_weight T) (hr.mono (by decide)) T.b_Counts_weight .nil pass0 (pa_cons (pv 4) pa_nil))) (pa_cons (pe_or3 (pe_meth0 (pv 2) T.cF.c0 T.me_0_total (ok_Counts_total T) (hr.mono (by decide)) T.b_Counts_total .nil pass0) (pe_meth0 (pv 2) T.cF.c1 T.me_1_total (ok_Counts_total T) (hr.mono (by decide)) T.b_Counts_total .nil pass0) (pe_meth0 (pv 2) T.cF.c2 T.me_2_total (ok_Counts_total T) (hr.mono (by decide)) T.b_Counts_total .nil pass0)) pa_nil)))) pa_nil))) (pss_one (ps_expr (pe_or3 (pe_meth (pv 2) T.cF.c0 T.me_0_learn (ok_Counts_learn T) (hr.mono (by decide)) T.b_Counts_learn .nil pass0 (pa_cons (pv 4) pa_nil)) (pe_meth (pv 2) T.cF.c1 T.me_1_learn (ok_Counts_learn T) (hr.mono (by decide)) T.b_Counts_learn .nil pass0 (pa_cons (pv 4) pa_nil)) (pe_meth (pv 2) T.cF.c2 T.me_2_learn (ok_Counts_learn T) (hr.mono (by decide)) T.b_Counts_learn .nil pass0 (pa_cons (pv 4) pa_nil))))))) (pss_one (ps_ret (pv 3)))))), fun model_77 message_78 => ?_⟩
  unfold b_shares
  exact (sb_asgN (em_meth0 (by decide +kernel) (et_bo 0 model_77 rfl)) (fun current_80 => [.bo (Tre.tr cf (model_77 : Mdl)), .va (toD (message_78 : (List Int))), .ow (Tre.tr cf (current_80 : Mdl)), .un, .un]) (fun _ => rfl) (fun current_80 => (sb_asgO (ef_lst (eas_nil (α := (T3 Int Int Int)))) (fun result_81 => [.bo (Tre.tr cf (model_77 : Mdl)), .va (toD (message_78 : (List Int))), .ow (Tre.tr cf (current_80 : Mdl)), .ol (List.map toD (result_81 : (List (T3 Int Int Int)))), .un]) (fun _ => rfl) (fun result_81 => (sb_for (T := (Mdl × (List (T3 Int Int Int)))) (encL := fun st_82 => [.bo (Tre.tr cf (model_77 : Mdl)), .va (toD (message_78 : (List Int))), .ow (Tre.tr cf (st_82.1 : Mdl)), .ol (List.map toD (st_82.2 : (List (T3 Int Int Int)))), .un]) (ig_list (EM.toZ (em_var 1 message_78 rfl))) (ag_name 4) (current_80, result_81) (.same (.same (.same (.same (.same .nil))))) (fun st_82 symbol_83 => [.bo (Tre.tr cf (model_77 : Mdl)), .va (toD (message_78 : (List Int))), .ow (Tre.tr cf (st_82.1 : Mdl)), .ol (List.map toD (st_82.2 : (List (T3 Int Int Int)))), .va (toD (symbol_83 : Int))]) (fun _ _ => rfl) (fun st_82 symbol_83 => (sb_app (i := 3) (xs := st_82.2) rfl (em_tup3 (em_meth1 (by decide +kernel) (et_ow 2 st_82.1 rfl) (em_arg (em_var 4 symbol_83 rfl))) (em_meth1 (by decide +kernel) (et_ow 2 st_82.1 rfl) (em_arg (em_var 4 symbol_83 rfl))) (em_meth0 (by decide +kernel) (et_ow 2 st_82.1 rfl))) (fun result_84 => [.bo (Tre.tr cf (model_77 : Mdl)), .va (toD (message_78 : (List Int))), .ow (Tre.tr cf (st_82.1 : Mdl)), .ol (List.map toD (result_84 : (List (T3 Int Int Int)))), .va (toD (symbol_83 : Int))]) (fun _ => rfl) (fun result_84 => (sb_one (sb_learn (i := 2) (M := st_82.1) rfl (by decide +kernel) (em_arg (em_var 4 symbol_83 rfl)) (fun current_94 => [.bo (Tre.tr cf (model_77 : Mdl)), .va (toD (message_78 : (List Int))), .ow (Tre.tr cf (current_94 : Mdl)), .ol (List.map toD (result_84 : (List (T3 Int Int Int)))), .va (toD (symbol_83 : Int))]) (fun _ => rfl) (fun current_94 => (sb_next (current_94, result_84) (.same (.same (.same (.same (.drop .nil)))))))))))) (fun st_82 => (sb_frz (i := 3) rfl ([.bo (Tre.tr cf (model_77 : Mdl)), .va (toD (message_78 : (List Int))), .ow (Tre.tr cf (st_82.1 : Mdl)), .va (toD (st_82.2 : (List (T3 Int Int Int)))), .un]) rfl (sb_ret (em_var 3 st_82.2 rfl)))))))))
theorem sc_pack_words : FnScope ["model", "message", "state", "words", "low", "weight", "total"] ["model", "message"] (defScope s_pack_words) := ⟨rfl, rfl, rfl, by decide +kernel, rfl, by decide +kernel, by decide +kernel⟩
theorem ok_pack_words : FnOk P w cf.K mg base CX0 5 T.a_pack_words T.d_pack_words ["model", "message"] (spG2 cf f_pack_words) := by
  refine fnG2 (k := 4) (S := Unit) (enc := fun _ => [.un, .un, .un, .un, .un, .un, .un]) T.F_pack_words sc_pack_words rfl b_pack_words (fun model_98 message_99 => [.bo (Tre.tr cf (model_98 : Mdl)), .va (toD (message_99 : (List Int))), .un, .un, .un, .un, .un]) (fun _ _ => rfl) fun cdv A outer s H E hr => ?_
  refine ⟨_, (pss_cons (ps_set (i := 2) sc_pack_words.nd rfl (.inl rfl) (pe_glob (v := .int 65536) (by rfl) T.c_LEAST ⟨_, rfl⟩)) (pss_cons (ps_set (i := 3) sc_pack_words.nd rfl (.inl rfl) (pe_lst pa_nil)) (pss_cons (ps_for PassesOwn.never rfl (revI cf.K rfl (by rfl) T.n_reversed (pa_cons (pe_call (ok_shares T) (hr.mono (by decide)) (by rfl) T.g_shares T.F_shares.kp T.b_shares .nil pass0 (pa_cons (pv 0) (pa_cons (pv 1) pa_nil))) pa_nil)) (tupK cf.K rfl 3 rfl (pgs_cons (pg_name (i := 4) sc_pack_words.nd rfl (.inl rfl)) (pgs_cons (pg_name (i := 5) sc_pack_words.nd rfl (.inl rfl)) (pgs_cons (pg_name (i := 6) sc_pack_words.nd rfl (.inl rfl)) pgs_nil)))) (pss_cons (ps_while PassesOwn.never (pt_cmpR op_ge (pv 2) (pe_op op_mulX (pe_op op_fdivW (pe_glob (v := .int 16777216) (by rfl) T.c_GREATEST ⟨_, rfl⟩) (pv 6)) (pv 5)) (nomark _)) (pss_cons (ps_expr (pe_bm PySem.F.plainAttrs_list PySem.F.slot_list_append PySem.F.type_list_append mt_append (pv 3) (pa_cons (pe_op op_and (pv 2) pe_int) pa_nil))) (pss_one (ps_aug (i := 2) sc_pack_words.nd rfl (.inl rfl) pe_int iop_shr)))) (pss_one (ps_set (i := 2) sc_pack_words.nd rfl (.inl rfl) (pe_call (ok_push T) (hr.mono (by decide)) (by rfl) T.g_push T.F_push.kp T.b_push .nil pass0 (pa_cons (pv 4) (pa_cons (pv 5) (pa_cons (pv 6) (pa_cons (pv 2) pa_nil))))))))) (pss_cons (ps_expr (pe_bm0 PySem.F.plainAttrs_list PySem.F.slot_list_reverse PySem.F.type_list_reverse mt_reverse (pv 3))) (pss_one (ps_ret (pe_tup (pa_cons (pv 2) (pa_cons (pv 3) pa_nil))))))))), fun model_98 message_99 => ?_⟩
  unfold b_pack_words
  exact (sb_asg (em_int 65536) (ag_name 2) (fun state_100 => [.bo (Tre.tr cf (model_98 : Mdl)), .va (toD (message_99 : (List Int))), .va (toD (state_100 : Int)), .un, .un, .un, .un]) (fun _ => rfl) (fun state_100 => (sb_asgO (ef_lst (eas_nil (α := Int))) (fun words_101 => [.bo (Tre.tr cf (model_98 : Mdl)), .va (toD (message_99 : (List Int))), .va (toD (state_100 : Int)), .ol (List.map toD (words_101 : (List Int))), .un, .un, .un]) (fun _ => rfl) (fun words_101 => (sb_for (T := (Int × (List Int))) (encL := fun st_105 => [.bo (Tre.tr cf (model_98 : Mdl)), .va (toD (message_99 : (List Int))), .va (toD (st_105.1 : Int)), .ol (List.map toD (st_105.2 : (List Int))), .un, .un, .un]) (ig_rev (EM.toZ (em_callG2 (et_argM (et_bo 0 model_98 rfl)) (em_arg (em_var 1 message_99 rfl))))) (ag_t3 (ag_name 4) (ag_name 5) (ag_name 6)) (state_100, words_101) (.same (.same (.same (.same (.same (.same (.same .nil))))))) (fun st_105 low_106 => [.bo (Tre.tr cf (model_98 : Mdl)), .va (toD (message_99 : (List Int))), .va (toD (st_105.1 : Int)), .ol (List.map toD (st_105.2 : (List Int))), .va (toD (low_106.a : Int)), .va (toD (low_106.b : Int)), .va (toD (low_106.c : Int))]) (fun _ _ => rfl) (fun st_105 low_106 => (sb_while (T := (Int × (List Int))) (encL := fun st_107 => [.bo (Tre.tr cf (model_98 : Mdl)), .va (toD (message_99 : (List Int))), .va (toD (st_107.1 : Int)), .ol (List.map toD (st_107.2 : (List Int))), .va (toD (low_106.a : Int)), .va (toD (low_106.b : Int)), .va (toD (low_106.c : Int))]) (20) (st_105.1, st_105.2) (.same (.same (.same (.same (.same (.same (.same .nil))))))) (fun st_107 => (eb_test (em_B0 (em_var 2 st_107.1 rfl) (em_mul (em_div (em_int 16777216) (em_var 6 low_106.c rfl)) (em_var 5 low_106.b rfl))))) (fun st_107 => (sb_app (i := 3) (xs := st_107.2) rfl (em_I0 (em_var 2 st_107.1 rfl) (em_int 255)) (fun words_114 => [.bo (Tre.tr cf (model_98 : Mdl)), .va (toD (message_99 : (List Int))), .va (toD (st_107.1 : Int)), .ol (List.map toD (words_114 : (List Int))), .va (toD (low_106.a : Int)), .va (toD (low_106.b : Int)), .va (toD (low_106.c : Int))]) (fun _ => rfl) (fun words_114 => (sb_one (sb_aug (em_shr (em_var 2 st_107.1 rfl) (em_int 8)) (fun state_119 => [.bo (Tre.tr cf (model_98 : Mdl)), .va (toD (message_99 : (List Int))), .va (toD (state_119 : Int)), .ol (List.map toD (words_114 : (List Int))), .va (toD (low_106.a : Int)), .va (toD (low_106.b : Int)), .va (toD (low_106.c : Int))]) (fun _ => rfl) (fun state_119 => (sb_next (state_119, words_114) (.same (.same (.same (.same (.same (.same (.same .nil)))))))))))))) (fun st_107 => (sb_one (sb_asg (em_call4 (em_var 4 low_106.a rfl) (em_var 5 low_106.b rfl) (em_var 6 low_106.c rfl) (em_var 2 st_107.1 rfl)) (ag_name 2) (fun state_125 => [.bo (Tre.tr cf (model_98 : Mdl)), .va (toD (message_99 : (List Int))), .va (toD (state_125 : Int)), .ol (List.map toD (st_107.2 : (List Int))), .va (toD (low_106.a : Int)), .va (toD (low_106.b : Int)), .va (toD (low_106.c : Int))]) (fun _ => rfl) (fun state_125 => (sb_next (state_125, st_107.2) (.same (.same (.same (.same (.drop (.drop (.drop .nil)))))))))))))) (fun st_105 => (sb_rev (i := 3) (xs := st_105.2) rfl ([.bo (Tre.tr cf (model_98 : Mdl)), .va (toD (message_99 : (List Int))), .va (toD (st_105.1 : Int)), .ol (List.map toD ((List.reverse st_105.2) : (List Int))), .un, .un, .un]) rfl (sb_frz (i := 3) rfl ([.bo (Tre.tr cf (model_98 : Mdl)), .va (toD (message_99 : (List Int))), .va (toD (st_105.1 : Int)), .va (toD ((List.reverse st_105.2) : (List Int))), .un, .un, .un]) rfl (sb_ret (em_tup2 (em_var 2 st_105.1 rfl) (em_var 3 (List.reverse st_105.2) rfl)))))))))))
theorem sc_unpack_words : FnScope ["model", "state", "words", "count", "message", "used", "k", "symbol"] ["model", "state", "words", "count"] (defScope s_unpack_words) := ⟨rfl, rfl, rfl, by decide +kernel, rfl, by decide +kernel, by decide +kernel⟩
theorem ok_unpack_words : FnOk P w cf.K mg base (L2.CX P w) 4 T.a_unpack_words T.d_unpack_words ["model", "state", "words", "count"] (spGX4 cf f_unpack_words) := by
  refine fnGX4 (k := 3) (S := Unit) (enc := fun _ => [.un, .un, .un, .un, .un, .un, .un, .un]) T.F_unpack_words sc_unpack_words rfl b_unpack_words (fun model_131 state_132 words_133 count_134 => [.bo (Tre.tr cf (model_131 : Mdl)), .va (toD (state_132 : Int)), .va (toD (words_133 : (List Int))), .va (toD (count_134 : Int)), .un, .un, .un, .un]) (fun _ _ _ _ => rfl) fun cdv A outer s H E hr => ?_
  refine ⟨_, (pss_cons (ps_set (i := 4) sc_unpack_words.nd rfl (.inl rfl) (pe_lst pa_nil)) (pss_cons (ps_set (i := 5) sc_unpack_words.nd rfl (.inl rfl) pe_int) (pss_cons (ps_for (passes_of rfl) rfl (pi_range1 (by rfl) T.n_range (pa_cons (pv 3) pa_nil)) (pg_name (i := 6) sc_unpack_words.nd rfl (.inl rfl)) (pss_cons (ps_asg (pe_call (ok_pop T) (hr.mono (by decide)) (by rfl) T.g_pop T.F_pop.kp T.b_pop .nil pass0 (pa_cons (pv 0) (pa_cons (pv 1) pa_nil))) (tupK cf.K rfl 2 rfl (pgs_cons (pg_name (i := 7) sc_unpack_words.nd rfl (.inl rfl)) (pgs_cons (pg_name (i := 1) sc_unpack_words.nd rfl (.inl rfl)) pgs_nil)))) (pss_cons (ps_expr (pe_bm PySem.F.plainAttrs_list PySem.F.slot_list_append PySem.F.type_list_append mt_append (pv 4) (pa_cons (pv 7) pa_nil))) (pss_one (ps_while (passes_of rfl) (pt_cmpR op_lt (pv 1) (pe_glob (v := .int 65536) (by rfl) T.c_LEAST ⟨_, rfl⟩) (nomark _)) (pss_cons (ps_if (pt_cmpR op_eq (pv 5) (pe_callB (lenK cf.K rfl) (by rfl) T.n_len (by decide +kernel) (pa_cons (pv 2) pa_nil)) (nomark _)) (pss_one (ps_rs (c := 0) (E := E) rfl rfl rfl (takes_of rfl rfl rfl rfl) T.X_Truncated.T T.X_Truncated.iC T.X_Truncated.tI T.X_Truncated.F1 (hr.mono (by decide)) T.X_Truncated.hb (by rfl) T.X_Truncated.hm (pe_callB (lenK cf.K rfl) (by rfl) T.n_len (by decide +kernel) (pa_cons (pv 2) pa_nil)))) pss_nil) (pss_cons (ps_set (i := 1) sc_unpack_words.nd rfl (.inl rfl) (pe_op op_or (pe_op op_shlW (pv 1) pe_int) (pe_ix (ix_listK cf.K rfl) (pv 2) (pv 5) (fun _ _ => rfl)))) (pss_one (ps_aug (i := 5) sc_unpack_words.nd rfl (.inl rfl) pe_int iop_add))))))))) (pss_one (ps_ret (pe_tup (pa_cons (pv 4) (pa_cons (pv 1) (pa_cons (pv 5) pa_nil))))))))), fun model_131 state_132 words_133 count_134 => ?_⟩
  unfold b_unpack_words
  exact (sb_asgO (ef_lst (eas_nil (α := Int))) (fun message_135 => [.bo (Tre.tr cf (model_131 : Mdl)), .va (toD (state_132 : Int)), .va (toD (words_133 : (List Int))), .va (toD (count_134 : Int)), .ol (List.map toD (message_135 : (List Int))), .un, .un, .un]) (fun _ => rfl) (fun message_135 => (sb_asg (em_int 0) (ag_name 5) (fun used_136 => [.bo (Tre.tr cf (model_131 : Mdl)), .va (toD (state_132 : Int)), .va (toD (words_133 : (List Int))), .va (toD (count_134 : Int)), .ol (List.map toD (message_135 : (List Int))), .va (toD (used_136 : Int)), .un, .un]) (fun _ => rfl) (fun used_136 => (sb_for (T := (Int × ((List Int) × Int))) (encL := fun st_138 => [.bo (Tre.tr cf (model_131 : Mdl)), .va (toD (st_138.1 : Int)), .va (toD (words_133 : (List Int))), .va (toD (count_134 : Int)), .ol (List.map toD (st_138.2.1 : (List Int))), .va (toD (st_138.2.2 : Int)), .un, .un]) (ig_range1 (em_var 3 count_134 rfl)) (ag_name 6) (state_132, message_135, used_136) (.same (.same (.same (.same (.same (.same (.same (.same .nil)))))))) (fun st_138 k_139 => [.bo (Tre.tr cf (model_131 : Mdl)), .va (toD (st_138.1 : Int)), .va (toD (words_133 : (List Int))), .va (toD (count_134 : Int)), .ol (List.map toD (st_138.2.1 : (List Int))), .va (toD (st_138.2.2 : Int)), .va (toD (k_139 : Int)), .un]) (fun _ _ => rfl) (fun st_138 k_139 => (sb_asg (em_callG2 (et_argM (et_bo 0 model_131 rfl)) (em_arg (em_var 1 st_138.1 rfl))) (ag_t2 (ag_name 7) (ag_name 1)) (fun p_142 => [.bo (Tre.tr cf (model_131 : Mdl)), .va (toD (p_142.2 : Int)), .va (toD (words_133 : (List Int))), .va (toD (count_134 : Int)), .ol (List.map toD (st_138.2.1 : (List Int))), .va (toD (st_138.2.2 : Int)), .va (toD (k_139 : Int)), .va (toD (p_142.1 : Int))]) (fun _ => rfl) (fun p_142 => (sb_app (i := 4) (xs := st_138.2.1) rfl (em_var 7 p_142.1 rfl) (fun message_143 => [.bo (Tre.tr cf (model_131 : Mdl)), .va (toD (p_142.2 : Int)), .va (toD (words_133 : (List Int))), .va (toD (count_134 : Int)), .ol (List.map toD (message_143 : (List Int))), .va (toD (st_138.2.2 : Int)), .va (toD (k_139 : Int)), .va (toD (p_142.1 : Int))]) (fun _ => rfl) (fun message_143 => (sb_one (sb_while (T := (Int × Int)) (encL := fun st_144 => [.bo (Tre.tr cf (model_131 : Mdl)), .va (toD (st_144.1 : Int)), .va (toD (words_133 : (List Int))), .va (toD (count_134 : Int)), .ol (List.map toD (message_143 : (List Int))), .va (toD (st_144.2 : Int)), .va (toD (k_139 : Int)), .va (toD (p_142.1 : Int))]) (20) (p_142.2, st_138.2.2) (.same (.same (.same (.same (.same (.same (.same (.same .nil)))))))) (fun st_144 => (eb_test (em_B0 (em_var 1 st_144.1 rfl) (em_int 65536)))) (fun st_144 => (sb_if (eb_test (em_eqI (em_var 5 st_144.2 rfl) (em_len (EM.toS (em_var 2 words_133 rfl))))) (sb_raise2 (em_len (EM.toS (em_var 2 words_133 rfl)))) (sb_skip (sb_asg (em_I0 (em_shl (em_var 1 st_144.1 rfl) (em_int 8)) (em_ixL (EM.toS (em_var 2 words_133 rfl)) (em_var 5 st_144.2 rfl))) (ag_name 1) (fun state_159 => [.bo (Tre.tr cf (model_131 : Mdl)), .va (toD (state_159 : Int)), .va (toD (words_133 : (List Int))), .va (toD (count_134 : Int)), .ol (List.map toD (message_143 : (List Int))), .va (toD (st_144.2 : Int)), .va (toD (k_139 : Int)), .va (toD (p_142.1 : Int))]) (fun _ => rfl) (fun state_159 => (sb_one (sb_aug (em_I0 (em_var 5 st_144.2 rfl) (em_int 1)) (fun used_162 => [.bo (Tre.tr cf (model_131 : Mdl)), .va (toD (state_159 : Int)), .va (toD (words_133 : (List Int))), .va (toD (count_134 : Int)), .ol (List.map toD (message_143 : (List Int))), .va (toD (used_162 : Int)), .va (toD (k_139 : Int)), .va (toD (p_142.1 : Int))]) (fun _ => rfl) (fun used_162 => (sb_next (state_159, used_162) (.same (.same (.same (.same (.same (.same (.same (.same .nil))))))))))))))))) (fun st_144 => (sb_next (st_144.1, message_143, st_144.2) (.same (.same (.same (.same (.same (.same (.drop (.drop .nil))))))))))))))))) (fun st_138 => (sb_frz (i := 4) rfl ([.bo (Tre.tr cf (model_131 : Mdl)), .va (toD (st_138.1 : Int)), .va (toD (words_133 : (List Int))), .va (toD (count_134 : Int)), .va (toD (st_138.2.1 : (List Int))), .va (toD (st_138.2.2 : Int)), .un, .un]) rfl (sb_ret (em_tup3 (em_var 4 st_138.2.1 rfl) (em_var 1 st_138.1 rfl) (em_var 5 st_138.2.2 rfl))))))))))
theorem sc__law_cell : FnScope ["_law_script", "_law_k"] ["_law_script", "_law_k"] (defScope s__law_cell) := ⟨rfl, rfl, rfl, by decide +kernel, rfl, by decide +kernel, by decide +kernel⟩
theorem ok__law_cell : FnOk P w cf.K mg base CX0 1 T.a__law_cell T.d__law_cell ["_law_script", "_law_k"] (SpP cf 2 (sp2 f__law_cell)) := by
  refine fn2 (k := 0) (S := Unit) (enc := fun _ => [.un, .un]) T.F__law_cell sc__law_cell rfl b__law_cell (fun script_169 k_170 => [.va (toD (script_169 : Scr)), .va (toD (k_170 : Int))]) (fun _ _ => rfl) fun cdv A outer s H E hr => ?_
  refine ⟨_, (pss_cons (ps_if (pt_cmpR op_lt (pv 1) (pe_callB (lenK cf.K rfl) (by rfl) T.n_len (by decide +kernel) (pa_cons (pv 0) pa_nil)) (nomark _)) (pss_one (ps_ret (pe_callTy call_int1 (by rfl) T.n_int (by decide +kernel) (pa_cons (pe_ix (ix_listK cf.K rfl) (pv 0) (pv 1) (fun _ _ => rfl)) pa_nil)))) pss_nil) (pss_one (ps_ret pe_int))), fun script_169 k_170 => ?_⟩
  unfold b__law_cell
  exact (sb_if (eb_test (em_B0 (em_var 1 k_170 rfl) (em_len (EM.scr (em_var 0 script_169 rfl))))) (sb_ret2 (em_intI (em_ixL (EM.scr (em_var 0 script_169 rfl)) (em_var 1 k_170 rfl)))) (sb_skip (sb_ret (em_int 0))))
theorem sc__law_weights : FnScope ["_law_script", "_law_cell_here", "_law_size", "_law_total", "_law_weights_here", "_law_left", "_law_k", "_law_weight"] ["_law_script"] (defScope s__law_weights) := ⟨rfl, rfl, rfl, by decide +kernel, rfl, by decide +kernel, by decide +kernel⟩
theorem ok__law_weights : FnOk P w cf.K mg base CX0 2 T.a__law_weights T.d__law_weights ["_law_script"] (SpP cf 1 (sp1 f__law_weights)) := by
  refine fn1 (k := 1) (S := Unit) (enc := fun _ => [.un, .un, .un, .un, .un, .un, .un, .un]) T.F__law_weights sc__law_weights rfl b__law_weights (fun script_179 => [.va (toD (script_179 : Scr)), .un, .un, .un, .un, .un, .un, .un]) (fun _ => rfl) fun cdv A outer s H E hr => ?_
  refine ⟨_, (pss_cons (ps_set (i := 1) sc__law_weights.nd rfl (.inl rfl) (pe_call (ok__law_cell T) (hr.mono (by decide)) (by rfl) T.g__law_cell T.F__law_cell.kp T.b__law_cell .nil pass0 (pa_cons (pv 0) (pa_cons pe_int pa_nil)))) (pss_cons (ps_set (i := 2) sc__law_weights.nd rfl (.inl rfl) (pe_op op_add pe_int (pe_op op_mod (pv 1) pe_int))) (pss_cons (ps_set (i := 3) sc__law_weights.nd rfl (.inl rfl) (pe_op op_shlW pe_int (pe_op op_mod (pe_op op_fdivW (pv 1) pe_int) pe_int))) (pss_cons (ps_set (i := 4) sc__law_weights.nd rfl (.inl rfl) (pe_lst pa_nil)) (pss_cons (ps_set (i := 5) sc__law_weights.nd rfl (.inl rfl) (pv 3)) (pss_cons (ps_for PassesOwn.never rfl (pi_range1 (by rfl) T.n_range (pa_cons (pe_op op_sub (pv 2) pe_int) pa_nil)) (pg_name (i := 6) sc__law_weights.nd rfl (.inl rfl)) (pss_cons (ps_set (i := 7) sc__law_weights.nd rfl (.inl rfl) (pe_op op_mod (pe_call (ok__law_cell T) (hr.mono (by decide)) (by rfl) T.g__law_cell T.F__law_cell.kp T.b__law_cell .nil pass0 (pa_cons (pv 0) (pa_cons (pe_op op_add pe_int (pv 6)) pa_nil))) (pe_op op_add (pv 5) pe_int))) (pss_cons (ps_if (pt_cmpR op_eq (pe_op op_mod (pe_call (ok__law_cell T) (hr.mono (by decide)) (by rfl) T.g__law_cell T.F__law_cell.kp T.b__law_cell .nil pass0 (pa_cons (pv 0) (pa_cons (pe_op op_add pe_int (pv 6)) pa_nil))) pe_int) pe_int (nomark _)) (pss_one (ps_set (i := 7) sc__law_weights.nd rfl (.inl rfl) (pe_callB (call_min2 rfl) (by rfl) T.n_min (by decide +kernel) (pa_cons (pv 5) (pa_cons pe_int pa_nil))))) pss_nil) (pss_cons (ps_expr (pe_bm PySem.F.plainAttrs_list PySem.F.slot_list_append PySem.F.type_list_append mt_append (pv 4) (pa_cons (pv 7) pa_nil))) (pss_one (ps_set (i := 5) sc__law_weights.nd rfl (.inl rfl) (pe_op op_sub (pv 5) (pv 7)))))))) (pss_cons (ps_expr (pe_bm PySem.F.plainAttrs_list PySem.F.slot_list_append PySem.F.type_list_append mt_append (pv 4) (pa_cons (pv 5) pa_nil))) (pss_one (ps_ret (pv 4)))))))))), fun script_179 => ?_⟩
  unfold b__law_weights
  exact (sb_asg (em_call2 (em_var 0 script_179 rfl) (em_int 0)) (ag_name 1) (fun cell_here_182 => [.va (toD (script_179 : Scr)), .va (toD (cell_here_182 : Int)), .un, .un, .un, .un, .un, .un]) (fun _ => rfl) (fun cell_here_182 => (sb_asg (em_I0 (em_int 1) (em_mod (em_var 1 cell_here_182 rfl) (em_int 6))) (ag_name 2) (fun size_187 => [.va (toD (script_179 : Scr)), .va (toD (cell_here_182 : Int)), .va (toD (size_187 : Int)), .un, .un, .un, .un, .un]) (fun _ => rfl) (fun size_187 => (sb_asg (em_shl (em_int 1) (em_mod (em_div (em_var 1 cell_here_182 rfl) (em_int 6)) (em_int 17))) (ag_name 3) (fun total_194 => [.va (toD (script_179 : Scr)), .va (toD (cell_here_182 : Int)), .va (toD (size_187 : Int)), .va (toD (total_194 : Int)), .un, .un, .un, .un]) (fun _ => rfl) (fun total_194 => (sb_asgO (ef_lst (eas_nil (α := Int))) (fun weights_here_195 => [.va (toD (script_179 : Scr)), .va (toD (cell_here_182 : Int)), .va (toD (size_187 : Int)), .va (toD (total_194 : Int)), .ol (List.map toD (weights_here_195 : (List Int))), .un, .un, .un]) (fun _ => rfl) (fun weights_here_195 => (sb_asg (em_var 3 total_194 rfl) (ag_name 5) (fun left_196 => [.va (toD (script_179 : Scr)), .va (toD (cell_here_182 : Int)), .va (toD (size_187 : Int)), .va (toD (total_194 : Int)), .ol (List.map toD (weights_here_195 : (List Int))), .va (toD (left_196 : Int)), .un, .un]) (fun _ => rfl) (fun left_196 => (sb_for (T := ((List Int) × Int)) (encL := fun st_200 => [.va (toD (script_179 : Scr)), .va (toD (cell_here_182 : Int)), .va (toD (size_187 : Int)), .va (toD (total_194 : Int)), .ol (List.map toD (st_200.1 : (List Int))), .va (toD (st_200.2 : Int)), .un, .un]) (ig_range1 (em_I0 (em_var 2 size_187 rfl) (em_int 1))) (ag_name 6) (weights_here_195, left_196) (.same (.same (.same (.same (.same (.same (.same (.same .nil)))))))) (fun st_200 k_201 => [.va (toD (script_179 : Scr)), .va (toD (cell_here_182 : Int)), .va (toD (size_187 : Int)), .va (toD (total_194 : Int)), .ol (List.map toD (st_200.1 : (List Int))), .va (toD (st_200.2 : Int)), .va (toD (k_201 : Int)), .un]) (fun _ _ => rfl) (fun st_200 k_201 => (sb_asg (em_mod (em_call2 (em_var 0 script_179 rfl) (em_I0 (em_int 1) (em_var 6 k_201 rfl))) (em_I0 (em_var 5 st_200.2 rfl) (em_int 1))) (ag_name 7) (fun weight_210 => [.va (toD (script_179 : Scr)), .va (toD (cell_here_182 : Int)), .va (toD (size_187 : Int)), .va (toD (total_194 : Int)), .ol (List.map toD (st_200.1 : (List Int))), .va (toD (st_200.2 : Int)), .va (toD (k_201 : Int)), .va (toD (weight_210 : Int))]) (fun _ => rfl) (fun weight_210 => (sb_seq (T := Int) (enc1 := fun st_223 => [.va (toD (script_179 : Scr)), .va (toD (cell_here_182 : Int)), .va (toD (size_187 : Int)), .va (toD (total_194 : Int)), .ol (List.map toD (st_200.1 : (List Int))), .va (toD (st_200.2 : Int)), .va (toD (k_201 : Int)), .va (toD (st_223 : Int))]) (sb_ifL (eb_test (em_eqI (em_mod (em_call2 (em_var 0 script_179 rfl) (em_I0 (em_int 1) (em_var 6 k_201 rfl))) (em_int 3)) (em_int 1))) (sb_one (sb_asg (em_min2 (em_var 5 st_200.2 rfl) (em_int 1)) (ag_name 7) (fun weight_226 => [.va (toD (script_179 : Scr)), .va (toD (cell_here_182 : Int)), .va (toD (size_187 : Int)), .va (toD (total_194 : Int)), .ol (List.map toD (st_200.1 : (List Int))), .va (toD (st_200.2 : Int)), .va (toD (k_201 : Int)), .va (toD (weight_226 : Int))]) (fun _ => rfl) (fun weight_226 => (sb_next weight_226 (.same (.same (.same (.same (.same (.same (.same (.same .nil)))))))))))) (sb_next weight_210 (.same (.same (.same (.same (.same (.same (.same (.same .nil)))))))))) (fun st_223 => (sb_app (i := 4) (xs := st_200.1) rfl (em_var 7 st_223 rfl) (fun weights_here_227 => [.va (toD (script_179 : Scr)), .va (toD (cell_here_182 : Int)), .va (toD (size_187 : Int)), .va (toD (total_194 : Int)), .ol (List.map toD (weights_here_227 : (List Int))), .va (toD (st_200.2 : Int)), .va (toD (k_201 : Int)), .va (toD (st_223 : Int))]) (fun _ => rfl) (fun weights_here_227 => (sb_one (sb_asg (em_I0 (em_var 5 st_200.2 rfl) (em_var 7 st_223 rfl)) (ag_name 5) (fun left_230 => [.va (toD (script_179 : Scr)), .va (toD (cell_here_182 : Int)), .va (toD (size_187 : Int)), .va (toD (total_194 : Int)), .ol (List.map toD (weights_here_227 : (List Int))), .va (toD (left_230 : Int)), .va (toD (k_201 : Int)), .va (toD (st_223 : Int))]) (fun _ => rfl) (fun left_230 => (sb_next (weights_here_227, left_230) (.same (.same (.same (.same (.same (.same (.drop (.drop .nil))))))))))))))))))) (fun st_200 => (sb_app (i := 4) (xs := st_200.1) rfl (em_var 5 st_200.2 rfl) (fun weights_here_232 => [.va (toD (script_179 : Scr)), .va (toD (cell_here_182 : Int)), .va (toD (size_187 : Int)), .va (toD (total_194 : Int)), .ol (List.map toD (weights_here_232 : (List Int))), .va (toD (st_200.2 : Int)), .un, .un]) (fun _ => rfl) (fun weights_here_232 => (sb_frz (i := 4) rfl ([.va (toD (script_179 : Scr)), .va (toD (cell_here_182 : Int)), .va (toD (size_187 : Int)), .va (toD (total_194 : Int)), .va (toD (weights_here_232 : (List Int))), .va (toD (st_200.2 : Int)), .un, .un]) rfl (sb_ret (em_var 4 weights_here_232 rfl)))))))))))))))))
theorem sc__law_packed : FnScope ["_law_weights_here", "_law_message", "_law_state", "_law_total", "_law_words", "_law_back", "_law_symbol", "_law_weight", "_law_turn"] ["_law_weights_here", "_law_message"] (defScope s__law_packed) := ⟨rfl, rfl, rfl, by decide +kernel, rfl, by decide +kernel, by decide +kernel⟩
theorem ok__law_packed : FnOk P w cf.K mg base CX0 1 T.a__law_packed T.d__law_packed ["_law_weights_here", "_law_message"] (SpP cf 2 (sp2 f__law_packed)) := by
  refine fn2 (k := 0) (S := Unit) (enc := fun _ => [.un, .un, .un, .un, .un, .un, .un, .un, .un]) T.F__law_packed sc__law_packed rfl b__law_packed (fun weights_here_236 message_237 => [.va (toD (weights_here_236 : (List Int))), .va (toD (message_237 : (List Int))), .un, .un, .un, .un, .un, .un, .un]) (fun _ _ => rfl) fun cdv A outer s H E hr => ?_
  refine ⟨_, (pss_cons (ps_set (i := 2) sc__law_packed.nd rfl (.inl rfl) pe_int) (pss_cons (ps_set (i := 3) sc__law_packed.nd rfl (.inl rfl) (pe_callB (sumK cf.K rfl rfl) (by rfl) T.n_sum (by decide +kernel) (pa_cons (pv 0) pa_nil))) (pss_cons (ps_set (i := 4) sc__law_packed.nd rfl (.inl rfl) (pe_lst pa_nil)) (pss_cons (ps_for PassesOwn.never rfl (pi_range1 (by rfl) T.n_range (pa_cons (pe_callB (lenK cf.K rfl) (by rfl) T.n_len (by decide +kernel) (pa_cons (pv 1) pa_nil)) pa_nil)) (pg_name (i := 5) sc__law_packed.nd rfl (.inl rfl)) (pss_cons (ps_set (i := 6) sc__law_packed.nd rfl (.inl rfl) (pe_ix (ix_listK cf.K rfl) (pv 1) (pe_op op_sub (pe_op op_sub (pe_callB (lenK cf.K rfl) (by rfl) T.n_len (by decide +kernel) (pa_cons (pv 1) pa_nil)) pe_int) (pv 5)) (fun _ _ => rfl))) (pss_cons (ps_set (i := 7) sc__law_packed.nd rfl (.inl rfl) (pe_ix (ix_listK cf.K rfl) (pv 0) (pv 6) (fun _ _ => rfl))) (pss_cons (ps_for PassesOwn.never rfl (pi_range1 (by rfl) T.n_range (pa_cons pe_int pa_nil)) (pg_name (i := 8) sc__law_packed.nd rfl (.inl rfl)) (pss_one (ps_if (pt_cmpR op_ge (pv 2) (pe_op op_mulX (pe_op op_fdivW pe_int (pv 3)) (pv 7)) (nomark _)) (pss_cons (ps_set (i := 4) sc__law_packed.nd rfl (.inl rfl) (pe_op op_cat (pe_lst (pa_cons (pe_op op_mod (pv 2) pe_int) pa_nil)) (pv 4))) (pss_one (ps_set (i := 2) sc__law_packed.nd rfl (.inl rfl) (pe_op op_fdivW (pv 2) pe_int)))) pss_nil))) (pss_one (ps_set (i := 2) sc__law_packed.nd rfl (.inl rfl) (pe_op op_add (pe_op op_add (pe_op op_mulX (pe_op op_fdivW (pv 2) (pv 7)) (pv 3)) (pe_callB (sumK cf.K rfl rfl) (by rfl) T.n_sum (by decide +kernel) (pa_cons (pe_slice (sl_listK cf.K rfl) (pv 0) po_none (po_some (pv 6))) pa_nil))) (pe_op op_mod (pv 2) (pv 7))))))))) (pss_one (ps_ret (pe_tup (pa_cons (pv 2) (pa_cons (pv 4) pa_nil))))))))), fun weights_here_236 message_237 => ?_⟩
  unfold b__law_packed
  exact (sb_asg (em_int 65536) (ag_name 2) (fun state_238 => [.va (toD (weights_here_236 : (List Int))), .va (toD (message_237 : (List Int))), .va (toD (state_238 : Int)), .un, .un, .un, .un, .un, .un]) (fun _ => rfl) (fun state_238 => (sb_asg (em_sum (EM.toS (em_var 0 weights_here_236 rfl))) (ag_name 3) (fun total_240 => [.va (toD (weights_here_236 : (List Int))), .va (toD (message_237 : (List Int))), .va (toD (state_238 : Int)), .va (toD (total_240 : Int)), .un, .un, .un, .un, .un]) (fun _ => rfl) (fun total_240 => (sb_asg (EF.toM (ef_lst (eas_nil (α := Int)))) (ag_name 4) (fun words_241 => [.va (toD (weights_here_236 : (List Int))), .va (toD (message_237 : (List Int))), .va (toD (state_238 : Int)), .va (toD (total_240 : Int)), .va (toD (words_241 : (List Int))), .un, .un, .un, .un]) (fun _ => rfl) (fun words_241 => (sb_for (T := (Int × (List Int))) (encL := fun st_244 => [.va (toD (weights_here_236 : (List Int))), .va (toD (message_237 : (List Int))), .va (toD (st_244.1 : Int)), .va (toD (total_240 : Int)), .va (toD (st_244.2 : (List Int))), .un, .un, .un, .un]) (ig_range1 (em_len (EM.toS (em_var 1 message_237 rfl)))) (ag_name 5) (state_238, words_241) (.same (.same (.same (.same (.same (.same (.same (.same (.same .nil))))))))) (fun st_244 back_245 => [.va (toD (weights_here_236 : (List Int))), .va (toD (message_237 : (List Int))), .va (toD (st_244.1 : Int)), .va (toD (total_240 : Int)), .va (toD (st_244.2 : (List Int))), .va (toD (back_245 : Int)), .un, .un, .un]) (fun _ _ => rfl) (fun st_244 back_245 => (sb_asg (em_ixL (EM.toS (em_var 1 message_237 rfl)) (em_I0 (em_I0 (em_len (EM.toS (em_var 1 message_237 rfl))) (em_int 1)) (em_var 5 back_245 rfl))) (ag_name 6) (fun symbol_253 => [.va (toD (weights_here_236 : (List Int))), .va (toD (message_237 : (List Int))), .va (toD (st_244.1 : Int)), .va (toD (total_240 : Int)), .va (toD (st_244.2 : (List Int))), .va (toD (back_245 : Int)), .va (toD (symbol_253 : Int)), .un, .un]) (fun _ => rfl) (fun symbol_253 => (sb_asg (em_ixL (EM.toS (em_var 0 weights_here_236 rfl)) (em_var 6 symbol_253 rfl)) (ag_name 7) (fun weight_256 => [.va (toD (weights_here_236 : (List Int))), .va (toD (message_237 : (List Int))), .va (toD (st_244.1 : Int)), .va (toD (total_240 : Int)), .va (toD (st_244.2 : (List Int))), .va (toD (back_245 : Int)), .va (toD (symbol_253 : Int)), .va (toD (weight_256 : Int)), .un]) (fun _ => rfl) (fun weight_256 => (sb_for (T := (Int × (List Int))) (encL := fun st_258 => [.va (toD (weights_here_236 : (List Int))), .va (toD (message_237 : (List Int))), .va (toD (st_258.1 : Int)), .va (toD (total_240 : Int)), .va (toD (st_258.2 : (List Int))), .va (toD (back_245 : Int)), .va (toD (symbol_253 : Int)), .va (toD (weight_256 : Int)), .un]) (ig_range1 (em_int 4)) (ag_name 8) (st_244.1, st_244.2) (.same (.same (.same (.same (.same (.same (.same (.same (.same .nil))))))))) (fun st_258 turn_259 => [.va (toD (weights_here_236 : (List Int))), .va (toD (message_237 : (List Int))), .va (toD (st_258.1 : Int)), .va (toD (total_240 : Int)), .va (toD (st_258.2 : (List Int))), .va (toD (back_245 : Int)), .va (toD (symbol_253 : Int)), .va (toD (weight_256 : Int)), .va (toD (turn_259 : Int))]) (fun _ _ => rfl) (fun st_258 turn_259 => (sb_ifL (eb_test (em_B0 (em_var 2 st_258.1 rfl) (em_mul (em_div (em_int 16777216) (em_var 3 total_240 rfl)) (em_var 7 weight_256 rfl)))) (sb_asg (EF.toM (ef_cat (EF.toL (ef_lst (eas_cons (em_mod (em_var 2 st_258.1 rfl) (em_int 256)) (eas_nil (α := Int))))) (EM.toL (em_var 4 st_258.2 rfl)))) (ag_name 4) (fun words_273 => [.va (toD (weights_here_236 : (List Int))), .va (toD (message_237 : (List Int))), .va (toD (st_258.1 : Int)), .va (toD (total_240 : Int)), .va (toD (words_273 : (List Int))), .va (toD (back_245 : Int)), .va (toD (symbol_253 : Int)), .va (toD (weight_256 : Int)), .va (toD (turn_259 : Int))]) (fun _ => rfl) (fun words_273 => (sb_one (sb_asg (em_div (em_var 2 st_258.1 rfl) (em_int 256)) (ag_name 2) (fun state_276 => [.va (toD (weights_here_236 : (List Int))), .va (toD (message_237 : (List Int))), .va (toD (state_276 : Int)), .va (toD (total_240 : Int)), .va (toD (words_273 : (List Int))), .va (toD (back_245 : Int)), .va (toD (symbol_253 : Int)), .va (toD (weight_256 : Int)), .va (toD (turn_259 : Int))]) (fun _ => rfl) (fun state_276 => (sb_next (state_276, words_273) (.same (.same (.same (.same (.same (.same (.same (.same (.drop .nil))))))))))))))) (sb_next (st_258.1, st_258.2) (.same (.same (.same (.same (.same (.same (.same (.same (.drop .nil)))))))))))) (fun st_258 => (sb_one (sb_asg (em_I0 (em_I0 (em_mul (em_div (em_var 2 st_258.1 rfl) (em_var 7 weight_256 rfl)) (em_var 3 total_240 rfl)) (em_sum (EF.toS (ef_sl (EM.toS (em_var 0 weights_here_236 rfl)) eo_none (eo_some (em_var 6 symbol_253 rfl)))))) (em_mod (em_var 2 st_258.1 rfl) (em_var 7 weight_256 rfl))) (ag_name 2) (fun state_292 => [.va (toD (weights_here_236 : (List Int))), .va (toD (message_237 : (List Int))), .va (toD (state_292 : Int)), .va (toD (total_240 : Int)), .va (toD (st_258.2 : (List Int))), .va (toD (back_245 : Int)), .va (toD (symbol_253 : Int)), .va (toD (weight_256 : Int)), .un]) (fun _ => rfl) (fun state_292 => (sb_next (state_292, st_258.2) (.same (.same (.same (.same (.same (.drop (.drop (.drop (.same .nil)))))))))))))))))))) (fun st_244 => (sb_ret (em_tup2 (em_var 2 st_244.1 rfl) (em_var 4 st_244.2 rfl)))))))))))
theorem sc__law_unpacked : FnScope ["_law_weights_here", "_law_state", "_law_words", "_law_count", "_law_message", "_law_used", "_law_total", "_law_k", "_law_rest", "_law_symbol", "_law_j", "_law_turn"] ["_law_weights_here", "_law_state", "_law_words", "_law_count"] (defScope s__law_unpacked) := ⟨rfl, rfl, rfl, by decide +kernel, rfl, by decide +kernel, by decide +kernel⟩
theorem ok__law_unpacked : FnOk P w cf.K mg base CX0 1 T.a__law_unpacked T.d__law_unpacked ["_law_weights_here", "_law_state", "_law_words", "_law_count"] (SpP cf 4 (sp4 f__law_unpacked)) := by
  refine fn4 (k := 0) (S := Unit) (enc := fun _ => [.un, .un, .un, .un, .un, .un, .un, .un, .un, .un, .un, .un]) T.F__law_unpacked sc__law_unpacked rfl b__law_unpacked (fun weights_here_298 state_299 words_300 count_301 => [.va (toD (weights_here_298 : (List Int))), .va (toD (state_299 : Int)), .va (toD (words_300 : (List Int))), .va (toD (count_301 : Int)), .un, .un, .un, .un, .un, .un, .un, .un]) (fun _ _ _ _ => rfl) fun cdv A outer s H E hr => ?_
  refine ⟨_, (pss_cons (ps_set (i := 4) sc__law_unpacked.nd rfl (.inl rfl) (pe_lst pa_nil)) (pss_cons (ps_set (i := 5) sc__law_unpacked.nd rfl (.inl rfl) pe_int) (pss_cons (ps_set (i := 6) sc__law_unpacked.nd rfl (.inl rfl) (pe_callB (sumK cf.K rfl rfl) (by rfl) T.n_sum (by decide +kernel) (pa_cons (pv 0) pa_nil))) (pss_cons (ps_for PassesOwn.never rfl (pi_range1 (by rfl) T.n_range (pa_cons (pv 3) pa_nil)) (pg_name (i := 7) sc__law_unpacked.nd rfl (.inl rfl)) (pss_cons (ps_set (i := 8) sc__law_unpacked.nd rfl (.inl rfl) (pe_op op_mod (pv 1) (pv 6))) (pss_cons (ps_set (i := 9) sc__law_unpacked.nd rfl (.inl rfl) pe_int) (pss_cons (ps_for PassesOwn.never rfl (pi_range1 (by rfl) T.n_range (pa_cons (pe_callB (lenK cf.K rfl) (by rfl) T.n_len (by decide +kernel) (pa_cons (pv 0) pa_nil)) pa_nil)) (pg_name (i := 10) sc__law_unpacked.nd rfl (.inl rfl)) (pss_one (ps_if (pt_chain op_le op_lt (pe_callB (sumK cf.K rfl rfl) (by rfl) T.n_sum (by decide +kernel) (pa_cons (pe_slice (sl_listK cf.K rfl) (pv 0) po_none (po_some (pv 10))) pa_nil)) (pv 8) (pe_callB (sumK cf.K rfl rfl) (by rfl) T.n_sum (by decide +kernel) (pa_cons (pe_slice (sl_listK cf.K rfl) (pv 0) po_none (po_some (pe_op op_add (pv 10) pe_int))) pa_nil))) (pss_one (ps_set (i := 9) sc__law_unpacked.nd rfl (.inl rfl) (pv 10))) pss_nil))) (pss_cons (ps_expr (pe_bm PySem.F.plainAttrs_list PySem.F.slot_list_append PySem.F.type_list_append mt_append (pv 4) (pa_cons (pv 9) pa_nil))) (pss_cons (ps_set (i := 1) sc__law_unpacked.nd rfl (.inl rfl) (pe_op op_sub (pe_op op_add (pe_op op_mulX (pe_ix (ix_listK cf.K rfl) (pv 0) (pv 9) (fun _ _ => rfl)) (pe_op op_fdivW (pv 1) (pv 6))) (pv 8)) (pe_callB (sumK cf.K rfl rfl) (by rfl) T.n_sum (by decide +kernel) (pa_cons (pe_slice (sl_listK cf.K rfl) (pv 0) po_none (po_some (pv 9))) pa_nil)))) (pss_one (ps_for PassesOwn.never rfl (pi_range1 (by rfl) T.n_range (pa_cons pe_int pa_nil)) (pg_name (i := 11) sc__law_unpacked.nd rfl (.inl rfl)) (pss_one (ps_if (pt_cmpR op_lt (pv 1) pe_int (nomark _)) (pss_cons (ps_if (pt_cmpR op_ge (pv 5) (pe_callB (lenK cf.K rfl) (by rfl) T.n_len (by decide +kernel) (pa_cons (pv 2) pa_nil)) (nomark _)) (pss_one (ps_ret (pe_tup (pa_cons pe_str (pa_cons (pe_callB (lenK cf.K rfl) (by rfl) T.n_len (by decide +kernel) (pa_cons (pv 2) pa_nil)) pa_nil))))) pss_nil) (pss_cons (ps_set (i := 1) sc__law_unpacked.nd rfl (.inl rfl) (pe_op op_add (pe_op op_mulX (pv 1) pe_int) (pe_ix (ix_listK cf.K rfl) (pv 2) (pv 5) (fun _ _ => rfl)))) (pss_one (ps_set (i := 5) sc__law_unpacked.nd rfl (.inl rfl) (pe_op op_add (pv 5) pe_int))))) pss_nil)))))))))) (pss_one (ps_ret (pe_tup (pa_cons (pv 4) (pa_cons (pv 1) (pa_cons (pv 5) pa_nil)))))))))), fun weights_here_298 state_299 words_300 count_301 => ?_⟩
  unfold b__law_unpacked
  exact (sb_asgO (ef_lst (eas_nil (α := Int))) (fun message_302 => [.va (toD (weights_here_298 : (List Int))), .va (toD (state_299 : Int)), .va (toD (words_300 : (List Int))), .va (toD (count_301 : Int)), .ol (List.map toD (message_302 : (List Int))), .un, .un, .un, .un, .un, .un, .un]) (fun _ => rfl) (fun message_302 => (sb_asg (em_int 0) (ag_name 5) (fun used_303 => [.va (toD (weights_here_298 : (List Int))), .va (toD (state_299 : Int)), .va (toD (words_300 : (List Int))), .va (toD (count_301 : Int)), .ol (List.map toD (message_302 : (List Int))), .va (toD (used_303 : Int)), .un, .un, .un, .un, .un, .un]) (fun _ => rfl) (fun used_303 => (sb_asg (em_sum (EM.toS (em_var 0 weights_here_298 rfl))) (ag_name 6) (fun total_305 => [.va (toD (weights_here_298 : (List Int))), .va (toD (state_299 : Int)), .va (toD (words_300 : (List Int))), .va (toD (count_301 : Int)), .ol (List.map toD (message_302 : (List Int))), .va (toD (used_303 : Int)), .va (toD (total_305 : Int)), .un, .un, .un, .un, .un]) (fun _ => rfl) (fun total_305 => (sb_for (T := (Int × ((List Int) × Int))) (encL := fun st_307 => [.va (toD (weights_here_298 : (List Int))), .va (toD (st_307.1 : Int)), .va (toD (words_300 : (List Int))), .va (toD (count_301 : Int)), .ol (List.map toD (st_307.2.1 : (List Int))), .va (toD (st_307.2.2 : Int)), .va (toD (total_305 : Int)), .un, .un, .un, .un, .un]) (ig_range1 (em_var 3 count_301 rfl)) (ag_name 7) (state_299, message_302, used_303) (.same (.same (.same (.same (.same (.same (.same (.same (.same (.same (.same (.same .nil)))))))))))) (fun st_307 k_308 => [.va (toD (weights_here_298 : (List Int))), .va (toD (st_307.1 : Int)), .va (toD (words_300 : (List Int))), .va (toD (count_301 : Int)), .ol (List.map toD (st_307.2.1 : (List Int))), .va (toD (st_307.2.2 : Int)), .va (toD (total_305 : Int)), .va (toD (k_308 : Int)), .un, .un, .un, .un]) (fun _ _ => rfl) (fun st_307 k_308 => (sb_asg (em_mod (em_var 1 st_307.1 rfl) (em_var 6 total_305 rfl)) (ag_name 8) (fun rest_311 => [.va (toD (weights_here_298 : (List Int))), .va (toD (st_307.1 : Int)), .va (toD (words_300 : (List Int))), .va (toD (count_301 : Int)), .ol (List.map toD (st_307.2.1 : (List Int))), .va (toD (st_307.2.2 : Int)), .va (toD (total_305 : Int)), .va (toD (k_308 : Int)), .va (toD (rest_311 : Int)), .un, .un, .un]) (fun _ => rfl) (fun rest_311 => (sb_asg (em_int 0) (ag_name 9) (fun symbol_312 => [.va (toD (weights_here_298 : (List Int))), .va (toD (st_307.1 : Int)), .va (toD (words_300 : (List Int))), .va (toD (count_301 : Int)), .ol (List.map toD (st_307.2.1 : (List Int))), .va (toD (st_307.2.2 : Int)), .va (toD (total_305 : Int)), .va (toD (k_308 : Int)), .va (toD (rest_311 : Int)), .va (toD (symbol_312 : Int)), .un, .un]) (fun _ => rfl) (fun symbol_312 => (sb_for (T := Int) (encL := fun st_315 => [.va (toD (weights_here_298 : (List Int))), .va (toD (st_307.1 : Int)), .va (toD (words_300 : (List Int))), .va (toD (count_301 : Int)), .ol (List.map toD (st_307.2.1 : (List Int))), .va (toD (st_307.2.2 : Int)), .va (toD (total_305 : Int)), .va (toD (k_308 : Int)), .va (toD (rest_311 : Int)), .va (toD (st_315 : Int)), .un, .un]) (ig_range1 (em_len (EM.toS (em_var 0 weights_here_298 rfl)))) (ag_name 10) symbol_312 (.same (.same (.same (.same (.same (.same (.same (.same (.same (.same (.same (.same .nil)))))))))))) (fun st_315 j_316 => [.va (toD (weights_here_298 : (List Int))), .va (toD (st_307.1 : Int)), .va (toD (words_300 : (List Int))), .va (toD (count_301 : Int)), .ol (List.map toD (st_307.2.1 : (List Int))), .va (toD (st_307.2.2 : Int)), .va (toD (total_305 : Int)), .va (toD (k_308 : Int)), .va (toD (rest_311 : Int)), .va (toD (st_315 : Int)), .va (toD (j_316 : Int)), .un]) (fun _ _ => rfl) (fun st_315 j_316 => (sb_ifL (eb_test (em_chain (em_sum (EF.toS (ef_sl (EM.toS (em_var 0 weights_here_298 rfl)) eo_none (eo_some (em_var 10 j_316 rfl))))) (em_var 8 rest_311 rfl) (em_sum (EF.toS (ef_sl (EM.toS (em_var 0 weights_here_298 rfl)) eo_none (eo_some (em_I0 (em_var 10 j_316 rfl) (em_int 1)))))))) (sb_one (sb_asg (em_var 10 j_316 rfl) (ag_name 9) (fun symbol_333 => [.va (toD (weights_here_298 : (List Int))), .va (toD (st_307.1 : Int)), .va (toD (words_300 : (List Int))), .va (toD (count_301 : Int)), .ol (List.map toD (st_307.2.1 : (List Int))), .va (toD (st_307.2.2 : Int)), .va (toD (total_305 : Int)), .va (toD (k_308 : Int)), .va (toD (rest_311 : Int)), .va (toD (symbol_333 : Int)), .va (toD (j_316 : Int)), .un]) (fun _ => rfl) (fun symbol_333 => (sb_next symbol_333 (.same (.same (.same (.same (.same (.same (.same (.same (.same (.same (.drop (.same .nil)))))))))))))))) (sb_next st_315 (.same (.same (.same (.same (.same (.same (.same (.same (.same (.same (.drop (.same .nil))))))))))))))) (fun st_315 => (sb_app (i := 4) (xs := st_307.2.1) rfl (em_var 9 st_315 rfl) (fun message_334 => [.va (toD (weights_here_298 : (List Int))), .va (toD (st_307.1 : Int)), .va (toD (words_300 : (List Int))), .va (toD (count_301 : Int)), .ol (List.map toD (message_334 : (List Int))), .va (toD (st_307.2.2 : Int)), .va (toD (total_305 : Int)), .va (toD (k_308 : Int)), .va (toD (rest_311 : Int)), .va (toD (st_315 : Int)), .un, .un]) (fun _ => rfl) (fun message_334 => (sb_asg (em_I0 (em_I0 (em_mul (em_ixL (EM.toS (em_var 0 weights_here_298 rfl)) (em_var 9 st_315 rfl)) (em_div (em_var 1 st_307.1 rfl) (em_var 6 total_305 rfl))) (em_var 8 rest_311 rfl)) (em_sum (EF.toS (ef_sl (EM.toS (em_var 0 weights_here_298 rfl)) eo_none (eo_some (em_var 9 st_315 rfl)))))) (ag_name 1) (fun state_350 => [.va (toD (weights_here_298 : (List Int))), .va (toD (state_350 : Int)), .va (toD (words_300 : (List Int))), .va (toD (count_301 : Int)), .ol (List.map toD (message_334 : (List Int))), .va (toD (st_307.2.2 : Int)), .va (toD (total_305 : Int)), .va (toD (k_308 : Int)), .va (toD (rest_311 : Int)), .va (toD (st_315 : Int)), .un, .un]) (fun _ => rfl) (fun state_350 => (sb_one (sb_for (T := (Int × Int)) (encL := fun st_352 => [.va (toD (weights_here_298 : (List Int))), .va (toD (st_352.1 : Int)), .va (toD (words_300 : (List Int))), .va (toD (count_301 : Int)), .ol (List.map toD (message_334 : (List Int))), .va (toD (st_352.2 : Int)), .va (toD (total_305 : Int)), .va (toD (k_308 : Int)), .va (toD (rest_311 : Int)), .va (toD (st_315 : Int)), .un, .un]) (ig_range1 (em_int 3)) (ag_name 11) (state_350, st_307.2.2) (.same (.same (.same (.same (.same (.same (.same (.same (.same (.same (.same (.same .nil)))))))))))) (fun st_352 turn_353 => [.va (toD (weights_here_298 : (List Int))), .va (toD (st_352.1 : Int)), .va (toD (words_300 : (List Int))), .va (toD (count_301 : Int)), .ol (List.map toD (message_334 : (List Int))), .va (toD (st_352.2 : Int)), .va (toD (total_305 : Int)), .va (toD (k_308 : Int)), .va (toD (rest_311 : Int)), .va (toD (st_315 : Int)), .un, .va (toD (turn_353 : Int))]) (fun _ _ => rfl) (fun st_352 turn_353 => (sb_ifL (eb_test (em_B0 (em_var 1 st_352.1 rfl) (em_int 65536))) (sb_if (eb_test (em_B0 (em_var 5 st_352.2 rfl) (em_len (EM.toS (em_var 2 words_300 rfl))))) (sb_ret2 (EM.inr (α := (T3 (List Int) Int Int)) (β := (Str × Int)) (em_tup2 (em_str "Truncated") (em_len (EM.toS (em_var 2 words_300 rfl)))))) (sb_skip (sb_asg (em_I0 (em_mul (em_var 1 st_352.1 rfl) (em_int 256)) (em_ixL (EM.toS (em_var 2 words_300 rfl)) (em_var 5 st_352.2 rfl))) (ag_name 1) (fun state_372 => [.va (toD (weights_here_298 : (List Int))), .va (toD (state_372 : Int)), .va (toD (words_300 : (List Int))), .va (toD (count_301 : Int)), .ol (List.map toD (message_334 : (List Int))), .va (toD (st_352.2 : Int)), .va (toD (total_305 : Int)), .va (toD (k_308 : Int)), .va (toD (rest_311 : Int)), .va (toD (st_315 : Int)), .un, .va (toD (turn_353 : Int))]) (fun _ => rfl) (fun state_372 => (sb_one (sb_asg (em_I0 (em_var 5 st_352.2 rfl) (em_int 1)) (ag_name 5) (fun used_375 => [.va (toD (weights_here_298 : (List Int))), .va (toD (state_372 : Int)), .va (toD (words_300 : (List Int))), .va (toD (count_301 : Int)), .ol (List.map toD (message_334 : (List Int))), .va (toD (used_375 : Int)), .va (toD (total_305 : Int)), .va (toD (k_308 : Int)), .va (toD (rest_311 : Int)), .va (toD (st_315 : Int)), .un, .va (toD (turn_353 : Int))]) (fun _ => rfl) (fun used_375 => (sb_next (state_372, used_375) (.same (.same (.same (.same (.same (.same (.same (.same (.same (.same (.same (.drop .nil)))))))))))))))))))) (sb_next (st_352.1, st_352.2) (.same (.same (.same (.same (.same (.same (.same (.same (.same (.same (.same (.drop .nil))))))))))))))) (fun st_352 => (sb_next (st_352.1, message_334, st_352.2) (.same (.same (.same (.same (.same (.same (.same (.drop (.drop (.drop (.same (.same .nil))))))))))))))))))))))))))) (fun st_307 => (sb_frz (i := 4) rfl ([.va (toD (weights_here_298 : (List Int))), .va (toD (st_307.1 : Int)), .va (toD (words_300 : (List Int))), .va (toD (count_301 : Int)), .va (toD (st_307.2.1 : (List Int))), .va (toD (st_307.2.2 : Int)), .va (toD (total_305 : Int)), .un, .un, .un, .un, .un]) rfl (sb_ret (EM.inl (α := (T3 (List Int) Int Int)) (β := (Str × Int)) (em_tup3 (em_var 4 st_307.2.1 rfl) (em_var 1 st_307.1 rfl) (em_var 5 st_307.2.2 rfl)))))))))))))
theorem sc__law_told : FnScope ["_law_model", "_law_state", "_law_words", "_law_count", "e"] ["_law_model", "_law_state", "_law_words", "_law_count"] (defScope s__law_told) := ⟨rfl, rfl, rfl, by decide +kernel, rfl, by decide +kernel, by decide +kernel⟩
theorem ok__law_told : FnOk P w cf.K mg base CX0 5 T.a__law_told T.d__law_told ["_law_model", "_law_state", "_law_words", "_law_count"] (spG4 cf f__law_told) := by
  refine fnG4 (k := 4) (S := Unit) (enc := fun _ => [.un, .un, .un, .un, .un]) T.F__law_told sc__law_told rfl b__law_told (fun model_385 state_386 words_387 count_388 => [.bo (Tre.tr cf (model_385 : Mdl)), .va (toD (state_386 : Int)), .va (toD (words_387 : (List Int))), .va (toD (count_388 : Int)), .un]) (fun _ _ _ _ => rfl) fun cdv A outer s H E hr => ?_
  refine ⟨_, (pss_one (ps_tryA (K := cf.K) (fun cls d σ H => E0 cls d H) rfl rfl rfl sc__law_told.nd takes0 (fun W pn xe tkW po => (pss_one (ps_ret (pe_callSD (ok_unpack_words T) (hr.mono (by decide)) (by rfl) T.g_unpack_words T.F_unpack_words.kp T.b_unpack_words .nil (fun σ => passAt tkW σ) (pa_cons (pv 0) (pa_cons (pv 1) (pa_cons (pv 2) (pa_cons (pv 3) pa_nil)))))))) (.named (i := 4) ⟨by rfl, by decide, .inl T.X_Truncated.hm⟩ rfl rfl (fun a oe cls d pn hz hf => (pss_one (ps_ret (pe_tup (pa_cons pe_str (pa_cons (pe_xf T.Y_Truncated.xf T.Y_Truncated.np hz hf (pv 4)) pa_nil)))))) .nil))), fun model_385 state_386 words_387 count_388 => ?_⟩
  unfold b__law_told
  exact (sb_tryA rfl (fun E' => (sb_ret (EM.inl (α := (T3 (List Int) Int Int)) (β := (Str × Int)) (em_callGX4 (et_argM (et_bo 0 model_385 rfl)) (em_arg (em_var 1 state_386 rfl)) (em_arg (em_var 2 words_387 rfl)) (em_arg (em_var 3 count_388 rfl)))))) (hq_ret se_call) (fun c p F O H σ D d hM hd nb kn kb kr ke => by
    by_cases c0 : c = 0
    · subst c0
      exact ⟨true, T.m_0_0, fun _ a na => cp_ret hM hd (by show 4 < 5; decide) (fun v F' H' le hf hr => kr _ v F' H' rfl le hf (show Dr cf.K F' v (.tup [.str "Truncated", .int p]) from hr)), nofun⟩
    exact absurd (by rw [if_neg c0]) nb))
theorem sc_law : FnScope ["_law_script", "_law_weights_here", "_law_model", "_law_present", "_law_message", "_law_given", "_law_found", "_law_words", "_law_behind", "_law_state", "_law_count", "_law_fewer", "_law_k", "_law_cell_here"] ["_law_script"] (defScope s_law) := ⟨rfl, rfl, rfl, by decide +kernel, rfl, by decide +kernel, by decide +kernel⟩
theorem ok_law : FnOk P w cf.K mg base CX0 6 T.a_law T.d_law ["_law_script"] (SpP cf 1 (sp1 f_law)) := by
  refine fn1 (k := 5) (S := Unit) (enc := fun _ => [.un, .un, .un, .un, .un, .un, .un, .un, .un, .un, .un, .un, .un, .un]) T.F_law sc_law rfl b_law (fun script_395 => [.va (toD (script_395 : Scr)), .un, .un, .un, .un, .un, .un, .un, .un, .un, .un, .un, .un, .un]) (fun _ => rfl) fun cdv A outer s H E hr => ?_
  refine ⟨_, (pss_cons (ps_set (i := 1) sc_law.nd rfl (.inr rfl) (pe_call (ok__law_weights T) (hr.mono (by decide)) (by rfl) T.g__law_weights T.F__law_weights.kp T.b__law_weights .nil pass0 (pa_cons (pv 0) pa_nil))) (pss_cons (ps_set (i := 2) sc_law.nd rfl (.inl rfl) (pe_make T.mk_0 (ok_Counts_init T) (hr.mono (by decide)) (by rfl) T.g_Counts T.b_Counts_init .nil pass0 (pa_cons (pv 1) pa_nil))) (pss_cons (ps_set (i := 3) sc_law.nd rfl (.inr rfl) (pe_lc (own := [("_law_k", 12)]) rfl sc_law.nd (pi_range1 (by rfl) T.n_range (pa_cons (pe_callB (lenK cf.K rfl) (by rfl) T.n_len (by decide +kernel) (pa_cons (pv 1) pa_nil)) pa_nil)) (blkOk_by (own := [("_law_k", 12)]) (N := ["_law_script", "_law_weights_here", "_law_model", "_law_present", "_law_message", "_law_given", "_law_found", "_law_words", "_law_behind", "_law_state", "_law_count", "_law_fewer", "_law_k", "_law_cell_here"]) (sc := defScope s_law) (by decide +kernel)) (fun _ _ _ _ _ => (pg_name (i := 12) sc_law.nd rfl (Or.inl rfl) (Or.inr rfl))) (fun _ _ _ _ _ => (pts_one (pt_cmpR op_gt (pe_ix (ix_listK cf.K rfl) (pv 1) (pv 12) (fun _ _ => rfl)) pe_int (nomark _)))) (fun _ _ _ _ _ => (pv 12)))) (pss_cons (ps_setLc (i := 4) (own := [("_law_cell_here", 13)]) rfl sc_law.nd rfl rfl (sw_true rfl rfl rfl (by decide +kernel)) (listI cf.K rfl (pe_slice (sl_listK cf.K rfl) (pv 0) (po_some pe_int) (po_some pe_int))) (blkOk_by (own := [("_law_cell_here", 13)]) (N := ["_law_script", "_law_weights_here", "_law_model", "_law_present", "_law_message", "_law_given", "_law_found", "_law_words", "_law_behind", "_law_state", "_law_count", "_law_fewer", "_law_k", "_law_cell_here"]) (sc := defScope s_law) (by decide +kernel)) (fun _ _ _ _ _ => (pg_name (i := 13) sc_law.nd rfl (Or.inl rfl) (Or.inr rfl))) (fun _ _ _ _ _ => pts_nil) (fun _ _ _ _ _ => (pe_ix (ix_listK cf.K rfl) (pv 3) (pe_op op_mod (pe_callTy call_int1 (by rfl) T.n_int (by decide +kernel) (pa_cons (pv 13) pa_nil)) (pe_callB (lenK cf.K rfl) (by rfl) T.n_len (by decide +kernel) (pa_cons (pv 3) pa_nil))) (fun _ _ => rfl)))) (pss_cons (ps_set (i := 5) sc_law.nd rfl (.inl rfl) (pe_callTy (listK cf.K rfl) (by rfl) T.n_list (by decide +kernel) (pa_cons (pv 4) pa_nil))) (pss_cons (ps_set (i := 6) sc_law.nd rfl (.inl rfl) (pe_call (ok_pack_words T) (hr.mono (by decide)) (by rfl) T.g_pack_words T.F_pack_words.kp T.b_pack_words .nil pass0 (pa_cons (pv 2) (pa_cons (pv 5) pa_nil)))) (pss_cons (ps_if (PW.pt (pw_or (pt_cmpR (neDK cf.K rfl hr.units) (pv 5) (pv 4) (nomark _)) (pw_or (pt_cmpR (neDK cf.K rfl hr.units) (pv 6) (pe_call (ok__law_packed T) (hr.mono (by decide)) (by rfl) T.g__law_packed T.F__law_packed.kp T.b__law_packed .nil pass0 (pa_cons (pv 1) (pa_cons (pv 4) pa_nil))) (nomark _)) (pw_or1 (pt_not (pt_chain op_le op_lt pe_int (pe_ix (ix_tupK cf.K rfl) (pv 6) pe_int (fun _ _ => rfl)) pe_int)))))) (pss_one (ps_ret pe_bl)) pss_nil) (pss_cons (ps_set (i := 7) sc_law.nd rfl (.inl rfl) (pe_callTy (listK cf.K rfl) (by rfl) T.n_list (by decide +kernel) (pa_cons (pe_ix (ix_tupK cf.K rfl) (pv 6) pe_int (fun _ _ => rfl)) pa_nil))) (pss_cons (ps_setLc (i := 8) (own := [("_law_cell_here", 13)]) rfl sc_law.nd rfl rfl (sw_true rfl rfl rfl (by decide +kernel)) (listI cf.K rfl (pe_slice (sl_listK cf.K rfl) (pv 0) (po_some pe_int) (po_some pe_int))) (blkOk_by (own := [("_law_cell_here", 13)]) (N := ["_law_script", "_law_weights_here", "_law_model", "_law_present", "_law_message", "_law_given", "_law_found", "_law_words", "_law_behind", "_law_state", "_law_count", "_law_fewer", "_law_k", "_law_cell_here"]) (sc := defScope s_law) (by decide +kernel)) (fun _ _ _ _ _ => (pg_name (i := 13) sc_law.nd rfl (Or.inl rfl) (Or.inr rfl))) (fun _ _ _ _ _ => pts_nil) (fun _ _ _ _ _ => (pe_op op_mod (pe_callTy call_int1 (by rfl) T.n_int (by decide +kernel) (pa_cons (pv 13) pa_nil)) pe_int))) (pss_cons (ps_if (pt_cmpR (neDK cf.K rfl hr.units) (pe_call (ok__law_told T) (hr.mono (by decide)) (by rfl) T.g__law_told T.F__law_told.kp T.b__law_told .nil pass0 (pa_cons (pv 2) (pa_cons (pe_ix (ix_tupK cf.K rfl) (pv 6) pe_int (fun _ _ => rfl)) (pa_cons (pe_op op_cat (pv 7) (pv 8)) (pa_cons (pe_callB (lenK cf.K rfl) (by rfl) T.n_len (by decide +kernel) (pa_cons (pv 4) pa_nil)) pa_nil))))) (pe_tup (pa_cons (pv 4) (pa_cons pe_int (pa_cons (pe_callB (lenK cf.K rfl) (by rfl) T.n_len (by decide +kernel) (pa_cons (pv 7) pa_nil)) pa_nil)))) (nomark _)) (pss_one (ps_ret pe_bl)) pss_nil) (pss_cons (ps_if (pt_cmpR (neDK cf.K rfl hr.units) (pv 7) (pe_ix (ix_tupK cf.K rfl) (pv 6) pe_int (fun _ _ => rfl)) (nomark _)) (pss_one (ps_ret pe_bl)) pss_nil) (pss_cons (ps_if (pt_cmpR op_gt (pe_callB (lenK cf.K rfl) (by rfl) T.n_len (by decide +kernel) (pa_cons (pv 7) pa_nil)) pe_int (nomark _)) (pss_cons (ps_set (i := 11) sc_law.nd rfl (.inl rfl) (pe_slice (sl_listK cf.K rfl) (pv 7) po_none (po_some (pe_op op_mod (pe_call (ok__law_cell T) (hr.mono (by decide)) (by rfl) T.g__law_cell T.F__law_cell.kp T.b__law_cell .nil pass0 (pa_cons (pv 0) (pa_cons pe_int pa_nil))) (pe_callB (lenK cf.K rfl) (by rfl) T.n_len (by decide +kernel) (pa_cons (pv 7) pa_nil)))))) (pss_one (ps_if (pt_cmpR (neDK cf.K rfl hr.units) (pe_call (ok__law_told T) (hr.mono (by decide)) (by rfl) T.g__law_told T.F__law_told.kp T.b__law_told .nil pass0 (pa_cons (pv 2) (pa_cons (pe_ix (ix_tupK cf.K rfl) (pv 6) pe_int (fun _ _ => rfl)) (pa_cons (pv 11) (pa_cons (pe_callB (lenK cf.K rfl) (by rfl) T.n_len (by decide +kernel) (pa_cons (pv 4) pa_nil)) pa_nil))))) (pe_tup (pa_cons pe_str (pa_cons (pe_callB (lenK cf.K rfl) (by rfl) T.n_len (by decide +kernel) (pa_cons (pv 11) pa_nil)) pa_nil))) (nomark _)) (pss_one (ps_ret pe_bl)) pss_nil))) pss_nil) (pss_cons (ps_set (i := 9) sc_law.nd rfl (.inl rfl) (pe_op op_add pe_int (pe_op op_mod (pe_call (ok__law_cell T) (hr.mono (by decide)) (by rfl) T.g__law_cell T.F__law_cell.kp T.b__law_cell .nil pass0 (pa_cons (pv 0) (pa_cons pe_int pa_nil))) pe_int))) (pss_cons (ps_setLc (i := 7) (own := [("_law_cell_here", 13)]) rfl sc_law.nd rfl rfl (sw_true rfl rfl rfl (by decide +kernel)) (listI cf.K rfl (pe_slice (sl_listK cf.K rfl) (pv 0) (po_some pe_int) (po_some pe_int))) (blkOk_by (own := [("_law_cell_here", 13)]) (N := ["_law_script", "_law_weights_here", "_law_model", "_law_present", "_law_message", "_law_given", "_law_found", "_law_words", "_law_behind", "_law_state", "_law_count", "_law_fewer", "_law_k", "_law_cell_here"]) (sc := defScope s_law) (by decide +kernel)) (fun _ _ _ _ _ => (pg_name (i := 13) sc_law.nd rfl (Or.inl rfl) (Or.inr rfl))) (fun _ _ _ _ _ => pts_nil) (fun _ _ _ _ _ => (pe_op op_mod (pe_callTy call_int1 (by rfl) T.n_int (by decide +kernel) (pa_cons (pv 13) pa_nil)) pe_int))) (pss_cons (ps_set (i := 10) sc_law.nd rfl (.inl rfl) (pe_op op_mod (pe_op op_fdivW (pe_call (ok__law_cell T) (hr.mono (by decide)) (by rfl) T.g__law_cell T.F__law_cell.kp T.b__law_cell .nil pass0 (pa_cons (pv 0) (pa_cons pe_int pa_nil))) pe_int) pe_int)) (pss_one (ps_ret (pe_cmpR (eqDK cf.K rfl hr.units) (pe_call (ok__law_told T) (hr.mono (by decide)) (by rfl) T.g__law_told T.F__law_told.kp T.b__law_told .nil pass0 (pa_cons (pv 2) (pa_cons (pv 9) (pa_cons (pe_callTy (listK cf.K rfl) (by rfl) T.n_list (by decide +kernel) (pa_cons (pv 7) pa_nil)) (pa_cons (pv 10) pa_nil))))) (pe_call (ok__law_unpacked T) (hr.mono (by decide)) (by rfl) T.g__law_unpacked T.F__law_unpacked.kp T.b__law_unpacked .nil pass0 (pa_cons (pv 1) (pa_cons (pv 9) (pa_cons (pv 7) (pa_cons (pv 10) pa_nil))))) (nomark _))))))))))))))))))), fun script_395 => ?_⟩
  unfold b_law
  exact (sb_asg (em_call1 (em_var 0 script_395 rfl)) (ag_name 1) (fun weights_here_397 => [.va (toD (script_395 : Scr)), .va (toD (weights_here_397 : (List Int))), .un, .un, .un, .un, .un, .un, .un, .un, .un, .un, .un, .un]) (fun _ => rfl) (fun weights_here_397 => (sb_asgN (em_make1 (k := 0) (et_argB (EL.toB (EM.toL (em_var 1 weights_here_397 rfl))))) (fun model_399 => [.va (toD (script_395 : Scr)), .va (toD (weights_here_397 : (List Int))), .ow (Tre.tr cf (model_399 : Mdl)), .un, .un, .un, .un, .un, .un, .un, .un, .un, .un, .un]) (fun _ => rfl) (fun model_399 => (sb_asg (EF.toM (ef_lc (vs := [12]) (Gi := fun k_402 => [.va (toD (script_395 : Scr)), .va (toD (weights_here_397 : (List Int))), .ow (Tre.tr cf (model_399 : Mdl)), .un, .un, .un, .un, .un, .un, .un, .un, .un, .va (toD (k_402 : Int)), .un]) (ig_range1 (em_len (EM.toS (em_var 1 weights_here_397 rfl)))) (ag_name 12) (by decide) (fun _ => rfl) (fun k_402 => (eb_test (em_B0 (em_ixL (EM.toS (em_var 1 weights_here_397 rfl)) (em_var 12 k_402 rfl)) (em_int 0)))) (fun k_402 => (em_var 12 k_402 rfl)))) (ag_name 3) (fun present_407 => [.va (toD (script_395 : Scr)), .va (toD (weights_here_397 : (List Int))), .ow (Tre.tr cf (model_399 : Mdl)), .va (toD (present_407 : (List Int))), .un, .un, .un, .un, .un, .un, .un, .un, .un, .un]) (fun _ => rfl) (fun present_407 => (sb_asg (EF.toM (ef_lc (vs := [13]) (Gi := fun cell_here_413 => [.va (toD (script_395 : Scr)), .va (toD (weights_here_397 : (List Int))), .ow (Tre.tr cf (model_399 : Mdl)), .va (toD (present_407 : (List Int))), .un, .un, .un, .un, .un, .un, .un, .un, .un, .va (toD (cell_here_413 : Int))]) (ig_list (EF.toZ (ef_sl (EM.scr (em_var 0 script_395 rfl)) (eo_some (em_int 7)) (eo_some (em_int 47))))) (ag_name 13) (by decide) (fun _ => rfl) (fun cell_here_413 => eb_yes) (fun cell_here_413 => (em_ixL (EM.toS (em_var 3 present_407 rfl)) (em_mod (em_intI (em_var 13 cell_here_413 rfl)) (em_len (EM.toS (em_var 3 present_407 rfl)))))))) (ag_name 4) (fun message_419 => [.va (toD (script_395 : Scr)), .va (toD (weights_here_397 : (List Int))), .ow (Tre.tr cf (model_399 : Mdl)), .va (toD (present_407 : (List Int))), .va (toD (message_419 : (List Int))), .un, .un, .un, .un, .un, .un, .un, .un, .un]) (fun _ => rfl) (fun message_419 => (sb_asg (EF.toM (ef_list (EM.toS (em_var 4 message_419 rfl)))) (ag_name 5) (fun given_420 => [.va (toD (script_395 : Scr)), .va (toD (weights_here_397 : (List Int))), .ow (Tre.tr cf (model_399 : Mdl)), .va (toD (present_407 : (List Int))), .va (toD (message_419 : (List Int))), .va (toD (given_420 : (List Int))), .un, .un, .un, .un, .un, .un, .un, .un]) (fun _ => rfl) (fun given_420 => (sb_asg (em_callG2 (et_argM (et_ow 2 model_399 rfl)) (em_arg (em_var 5 given_420 rfl))) (ag_name 6) (fun found_423 => [.va (toD (script_395 : Scr)), .va (toD (weights_here_397 : (List Int))), .ow (Tre.tr cf (model_399 : Mdl)), .va (toD (present_407 : (List Int))), .va (toD (message_419 : (List Int))), .va (toD (given_420 : (List Int))), .va (toD (found_423 : (Int × (List Int)))), .un, .un, .un, .un, .un, .un, .un]) (fun _ => rfl) (fun found_423 => (sb_if (eb_or (eb_test (em_neD (EM.toE (em_var 5 given_420 rfl)) (EM.toE (em_var 4 message_419 rfl)))) (eb_or (eb_test (em_neD (EM.toE (em_var 6 found_423 rfl)) (EM.toE (em_call2 (em_var 1 weights_here_397 rfl) (em_var 4 message_419 rfl))))) (eb_not (eb_test (em_chain (em_int 65536) (em_fst (em_var 6 found_423 rfl)) (em_int 16777216)))))) (sb_ret2 (em_bl false)) (sb_skip (sb_asg (EF.toM (ef_list (EM.toS (em_snd (em_var 6 found_423 rfl))))) (ag_name 7) (fun words_440 => [.va (toD (script_395 : Scr)), .va (toD (weights_here_397 : (List Int))), .ow (Tre.tr cf (model_399 : Mdl)), .va (toD (present_407 : (List Int))), .va (toD (message_419 : (List Int))), .va (toD (given_420 : (List Int))), .va (toD (found_423 : (Int × (List Int)))), .va (toD (words_440 : (List Int))), .un, .un, .un, .un, .un, .un]) (fun _ => rfl) (fun words_440 => (sb_asg (EF.toM (ef_lc (vs := [13]) (Gi := fun cell_here_446 => [.va (toD (script_395 : Scr)), .va (toD (weights_here_397 : (List Int))), .ow (Tre.tr cf (model_399 : Mdl)), .va (toD (present_407 : (List Int))), .va (toD (message_419 : (List Int))), .va (toD (given_420 : (List Int))), .va (toD (found_423 : (Int × (List Int)))), .va (toD (words_440 : (List Int))), .un, .un, .un, .un, .un, .va (toD (cell_here_446 : Int))]) (ig_list (EF.toZ (ef_sl (EM.scr (em_var 0 script_395 rfl)) (eo_some (em_int 47)) (eo_some (em_int 50))))) (ag_name 13) (by decide) (fun _ => rfl) (fun cell_here_446 => eb_yes) (fun cell_here_446 => (em_mod (em_intI (em_var 13 cell_here_446 rfl)) (em_int 256))))) (ag_name 8) (fun behind_449 => [.va (toD (script_395 : Scr)), .va (toD (weights_here_397 : (List Int))), .ow (Tre.tr cf (model_399 : Mdl)), .va (toD (present_407 : (List Int))), .va (toD (message_419 : (List Int))), .va (toD (given_420 : (List Int))), .va (toD (found_423 : (Int × (List Int)))), .va (toD (words_440 : (List Int))), .va (toD (behind_449 : (List Int))), .un, .un, .un, .un, .un]) (fun _ => rfl) (fun behind_449 => (sb_if (eb_test (em_neD (EM.toE (em_callG4 (et_argM (et_ow 2 model_399 rfl)) (em_arg (em_fst (em_var 6 found_423 rfl))) (em_arg (EF.toM (ef_cat (EM.toL (em_var 7 words_440 rfl)) (EM.toL (em_var 8 behind_449 rfl))))) (em_arg (em_len (EM.toS (em_var 4 message_419 rfl)))))) (EM.toE (EM.inl (α := (T3 (List Int) Int Int)) (β := (Str × Int)) (em_tup3 (em_var 4 message_419 rfl) (em_int 65536) (em_len (EM.toS (em_var 7 words_440 rfl)))))))) (sb_ret2 (em_bl false)) (sb_skip (sb_if (eb_test (em_neD (EM.toE (em_var 7 words_440 rfl)) (EM.toE (em_snd (em_var 6 found_423 rfl))))) (sb_ret2 (em_bl false)) (sb_skip (sb_seq (T := Unit) (enc1 := fun st_500 => [.va (toD (script_395 : Scr)), .va (toD (weights_here_397 : (List Int))), .ow (Tre.tr cf (model_399 : Mdl)), .va (toD (present_407 : (List Int))), .va (toD (message_419 : (List Int))), .va (toD (given_420 : (List Int))), .va (toD (found_423 : (Int × (List Int)))), .va (toD (words_440 : (List Int))), .va (toD (behind_449 : (List Int))), .un, .un, .un, .un, .un]) (sb_ifL (eb_test (em_B0 (em_len (EM.toS (em_var 7 words_440 rfl))) (em_int 0))) (sb_asg (EF.toM (ef_sl (EM.toS (em_var 7 words_440 rfl)) eo_none (eo_some (em_mod (em_call2 (em_var 0 script_395 rfl) (em_int 50)) (em_len (EM.toS (em_var 7 words_440 rfl))))))) (ag_name 11) (fun fewer_510 => [.va (toD (script_395 : Scr)), .va (toD (weights_here_397 : (List Int))), .ow (Tre.tr cf (model_399 : Mdl)), .va (toD (present_407 : (List Int))), .va (toD (message_419 : (List Int))), .va (toD (given_420 : (List Int))), .va (toD (found_423 : (Int × (List Int)))), .va (toD (words_440 : (List Int))), .va (toD (behind_449 : (List Int))), .un, .un, .va (toD (fewer_510 : (List Int))), .un, .un]) (fun _ => rfl) (fun fewer_510 => (sb_ifL (eb_test (em_neD (EM.toE (em_callG4 (et_argM (et_ow 2 model_399 rfl)) (em_arg (em_fst (em_var 6 found_423 rfl))) (em_arg (em_var 11 fewer_510 rfl)) (em_arg (em_len (EM.toS (em_var 4 message_419 rfl)))))) (EM.toE (EM.inr (α := (T3 (List Int) Int Int)) (β := (Str × Int)) (em_tup2 (em_str "Truncated") (em_len (EM.toS (em_var 11 fewer_510 rfl)))))))) (sb_ret (em_bl false)) (sb_next () (.same (.same (.same (.same (.same (.same (.same (.same (.same (.same (.same (.drop (.same (.same .nil)))))))))))))))))) (sb_next () (.same (.same (.same (.same (.same (.same (.same (.same (.same (.same (.same (.same (.same (.same .nil)))))))))))))))) (fun st_500 => (sb_asg (em_I0 (em_int 65536) (em_mod (em_call2 (em_var 0 script_395 rfl) (em_int 51)) (em_int 16711680))) (ag_name 9) (fun state_531 => [.va (toD (script_395 : Scr)), .va (toD (weights_here_397 : (List Int))), .ow (Tre.tr cf (model_399 : Mdl)), .va (toD (present_407 : (List Int))), .va (toD (message_419 : (List Int))), .va (toD (given_420 : (List Int))), .va (toD (found_423 : (Int × (List Int)))), .va (toD (words_440 : (List Int))), .va (toD (behind_449 : (List Int))), .va (toD (state_531 : Int)), .un, .un, .un, .un]) (fun _ => rfl) (fun state_531 => (sb_asg (EF.toM (ef_lc (vs := [13]) (Gi := fun cell_here_537 => [.va (toD (script_395 : Scr)), .va (toD (weights_here_397 : (List Int))), .ow (Tre.tr cf (model_399 : Mdl)), .va (toD (present_407 : (List Int))), .va (toD (message_419 : (List Int))), .va (toD (given_420 : (List Int))), .va (toD (found_423 : (Int × (List Int)))), .va (toD (words_440 : (List Int))), .va (toD (behind_449 : (List Int))), .va (toD (state_531 : Int)), .un, .un, .un, .va (toD (cell_here_537 : Int))]) (ig_list (EF.toZ (ef_sl (EM.scr (em_var 0 script_395 rfl)) (eo_some (em_int 52)) (eo_some (em_int 63))))) (ag_name 13) (by decide) (fun _ => rfl) (fun cell_here_537 => eb_yes) (fun cell_here_537 => (em_mod (em_intI (em_var 13 cell_here_537 rfl)) (em_int 256))))) (ag_name 7) (fun words_540 => [.va (toD (script_395 : Scr)), .va (toD (weights_here_397 : (List Int))), .ow (Tre.tr cf (model_399 : Mdl)), .va (toD (present_407 : (List Int))), .va (toD (message_419 : (List Int))), .va (toD (given_420 : (List Int))), .va (toD (found_423 : (Int × (List Int)))), .va (toD (words_540 : (List Int))), .va (toD (behind_449 : (List Int))), .va (toD (state_531 : Int)), .un, .un, .un, .un]) (fun _ => rfl) (fun words_540 => (sb_asg (em_mod (em_div (em_call2 (em_var 0 script_395 rfl) (em_int 50)) (em_int 50)) (em_int 30)) (ag_name 10) (fun count_547 => [.va (toD (script_395 : Scr)), .va (toD (weights_here_397 : (List Int))), .ow (Tre.tr cf (model_399 : Mdl)), .va (toD (present_407 : (List Int))), .va (toD (message_419 : (List Int))), .va (toD (given_420 : (List Int))), .va (toD (found_423 : (Int × (List Int)))), .va (toD (words_540 : (List Int))), .va (toD (behind_449 : (List Int))), .va (toD (state_531 : Int)), .va (toD (count_547 : Int)), .un, .un, .un]) (fun _ => rfl) (fun count_547 => (sb_ret (em_eqD (EM.toE (em_callG4 (et_argM (et_ow 2 model_399 rfl)) (em_arg (em_var 9 state_531 rfl)) (em_arg (EF.toM (ef_list (EM.toS (em_var 7 words_540 rfl))))) (em_arg (em_var 10 count_547 rfl)))) (EM.toE (em_call4 (em_var 1 weights_here_397 rfl) (em_var 9 state_531 rfl) (em_var 7 words_540 rfl) (em_var 10 count_547 rfl)))))))))))))))))))))))))))))))))))
end
end Kx

namespace Kx
open PySem PySem.Spec PyProof.Rows L2 Kr
open Enc (toD)
theorem finR_er {S ρ : Type} (c : Nat) (p : Int) : finR (.er c p : R (Fl S ρ)) = .er c p := (fun (m : R (Fl S ρ)) (e : m = .er c p) => show finR m = .er c p by rw [e]; rfl) _ rfl
theorem while_nx {S T ρ : Type} {c : T → R Bool} {step : T → R (Fl T ρ)} {k : T → R (Fl S ρ)} {n : Nat} {s s' : T} (hc : c s = .ok true) (hs : step s = .ok (.nx s')) : whileR c step k (n + 1) s = whileR c step k n s' := by
  show (c s).bind _ = _
  rw [hc, R.ok_bind, if_pos rfl, hs]
  rfl
theorem while_er {S T ρ : Type} {c : T → R Bool} {step : T → R (Fl T ρ)} {k : T → R (Fl S ρ)} {n : Nat} {s : T} {e : Nat} {p : Int} (hc : c s = .ok true) (hs : step s = .er e p) : whileR c step k (n + 1) s = .er e p := by
  show (c s).bind _ = _
  rw [hc, R.ok_bind, if_pos rfl, hs]
  rfl
theorem while_end {S T ρ : Type} {c : T → R Bool} {step : T → R (Fl T ρ)} {k : T → R (Fl S ρ)} {n : Nat} {s : T} (hc : c s = .ok false) : whileR c step k (n + 1) s = k s := by
  show (c s).bind _ = _
  rw [hc, R.ok_bind]
  rfl
theorem cut_to (xs : List Int) (n : Nat) : cut xs none (some (n : Int)) = xs.take n := by
  unfold cut
  rw [HT.sIx_none, HT.sIx_nat, List.drop_zero, Nat.sub_zero]
  by_cases h : n ≤ xs.length
  · rw [Nat.min_eq_left h]
  · rw [Nat.min_eq_right (by omega), List.take_of_length_le (Nat.le_refl _), List.take_of_length_le (by omega)]
/-! ### weights -/
def lo (ws : List Int) (j : Nat) : Int := (ws.take j).sum
def Nn (ws : List Int) : Prop := ∀ w ∈ ws, 0 ≤ w
theorem sum_app (xs ys : List Int) : (xs ++ ys).sum = xs.sum + ys.sum := List.sum_append
theorem lo_zero (ws : List Int) : lo ws 0 = 0 := rfl
theorem lo_succ (ws : List Int) (j : Nat) (h : j < ws.length) : lo ws (j + 1) = lo ws j + ws[j] := by
  unfold lo
  rw [List.take_add_one, List.getElem?_eq_getElem h, sum_app]
  simp
theorem lo_all (ws : List Int) : lo ws ws.length = ws.sum := by
  unfold lo
  rw [List.take_length]
theorem lo_mono {ws : List Int} (hw : Nn ws) {i j : Nat} (h : i ≤ j) (hj : j ≤ ws.length) : lo ws i ≤ lo ws j := by
  induction j with
  | zero =>
    rw [Nat.le_zero.mp h]
    exact Int.le_refl _
  | succ j ih =>
    rcases Nat.lt_or_ge j i with q | q
    · rw [show i = j + 1 by omega]
      exact Int.le_refl _
    · have h1 := ih q (by omega)
      have h2 := hw _ (List.getElem_mem (show j < ws.length by omega))
      rw [lo_succ ws j (by omega)]
      omega
theorem lo_nn {ws : List Int} (hw : Nn ws) {j : Nat} (hj : j ≤ ws.length) : 0 ≤ lo ws j := by
  have := lo_mono hw (Nat.zero_le j) hj
  rw [lo_zero] at this
  exact this
theorem lo_le {ws : List Int} (hw : Nn ws) {j : Nat} (hj : j ≤ ws.length) : lo ws j ≤ ws.sum := by
  rw [← lo_all ws]
  exact lo_mono hw hj (Nat.le_refl _)
/-- the symbol at a number -/
def sA : List Int → Int → Nat
  | [], _ => 0
  | w :: ws, r => if r < w then 0 else sA ws (r - w) + 1
theorem sA_ok : ∀ {ws : List Int} {r : Int}, Nn ws → 0 ≤ r → r < ws.sum → sA ws r < ws.length ∧ lo ws (sA ws r) ≤ r ∧ r < lo ws (sA ws r + 1)
  | [], r, _, h0, h => by
    simp at h
    omega
  | w :: ws, r, hw, h0, h => by
    unfold sA
    rw [List.sum_cons] at h
    by_cases c : r < w
    · rw [if_pos c]
      refine ⟨by simp, by rw [lo_zero]; exact h0, ?_⟩
      unfold lo
      simpa using c
    · rw [if_neg c]
      obtain ⟨h1, h2, h3⟩ := sA_ok (ws := ws) (r := r - w) (fun x hx => hw x (List.mem_cons_of_mem _ hx)) (by omega) (by omega)
      unfold lo at h2 h3 ⊢
      refine ⟨by rw [List.length_cons]; omega, ?_, ?_⟩
      · rw [List.take_succ_cons, List.sum_cons]
        omega
      · rw [List.take_succ_cons, List.sum_cons]
        omega
theorem sA_uniq {ws : List Int} (hw : Nn ws) {i j : Nat} {r : Int} (hi : i < ws.length) (hj : j < ws.length) (h1 : lo ws i ≤ r) (h2 : r < lo ws (i + 1)) (h3 : lo ws j ≤ r) (h4 : r < lo ws (j + 1)) : i = j := by
  rcases Nat.lt_trichotomy i j with q | q | q
  · have := lo_mono hw (show i + 1 ≤ j by omega) (by omega)
    omega
  · exact q
  · have := lo_mono hw (show j + 1 ≤ i by omega) (by omega)
    omega
theorem total_eq (ws : List Int) : f_Counts_total (.c ws) = .ok ws.sum := by
  unfold f_Counts_total b_Counts_total
  simp only [R.ok_bind, R.ok_pu, R.er_bind, R.bad_bind, R.ok_map, finR_rt, seqF_nx, seqF_rt, R.bind_ok, R.bind_bind, decide_eq_true_eq, Bool.not_eq_true', decide_eq_false_iff_not, Bool.false_eq_true, if_true, if_false, ite_nx, wsR]
theorem low_eq (ws : List Int) (s : Nat) : f_Counts_low (.c ws) s = .ok (lo ws s) := by
  unfold f_Counts_low b_Counts_low
  simp only [R.ok_bind, R.ok_pu, R.er_bind, R.bad_bind, R.ok_map, finR_rt, seqF_nx, seqF_rt, R.bind_ok, R.bind_bind, decide_eq_true_eq, Bool.not_eq_true', decide_eq_false_iff_not, Bool.false_eq_true, if_true, if_false, ite_nx, wsR, cut_to]
  rfl
theorem weight_eq (ws : List Int) (s : Nat) (h : s < ws.length) : f_Counts_weight (.c ws) s = .ok ws[s] := by
  unfold f_Counts_weight b_Counts_weight
  simp only [R.ok_bind, R.ok_pu, R.er_bind, R.bad_bind, R.ok_map, finR_rt, seqF_nx, seqF_rt, R.bind_ok, R.bind_bind, decide_eq_true_eq, Bool.not_eq_true', decide_eq_false_iff_not, Bool.false_eq_true, if_true, if_false, ite_nx, wsR, idxR_nat h]
theorem fresh_eq (ws : List Int) : f_Counts_fresh (.c ws) = .ok (.c ws) := by
  unfold f_Counts_fresh b_Counts_fresh
  simp only [R.ok_bind, R.ok_pu, R.er_bind, R.bad_bind, R.ok_map, finR_rt, seqF_nx, seqF_rt, R.bind_ok, R.bind_bind, decide_eq_true_eq, Bool.not_eq_true', decide_eq_false_iff_not, Bool.false_eq_true, if_true, if_false, ite_nx, wsR]
  rfl
theorem learn_eq (M : Mdl) (s : Int) : f_Counts_learn M s = .ok M := rfl
theorem sat_loop (ws : List Int) (hw : Nn ws) : ∀ (n j : Nat) (r : Int) (m : Nat), j + n = ws.length → 0 ≤ r → r < (ws.drop j).sum → whileR (S := Unit)
        (fun (st_35 : Int × Int) =>
          (wsR (Mdl.c ws)).bind fun a => (idxR a st_35.snd).bind fun b_39 => R.ok (decide (b_39 ≤ st_35.fst)))
        (fun st_35 =>
          (wsR (Mdl.c ws)).bind fun a => (idxR a st_35.snd).bind fun a => R.ok (Fl.nx (st_35.fst - a, st_35.snd + 1)))
        (fun st_35 => R.ok (Fl.rt st_35.snd)) (n + 1 + m) (r, (j : Int)) = .ok (.rt ((j + sA (ws.drop j) r : Nat) : Int)) := by
  intro n
  induction n with
  | zero =>
    intro j r m hj h0 h
    rw [List.drop_of_length_le (by omega)] at h
    simp at h
    omega
  | succ n ih =>
    intro j r m hj h0 h
    have hlt : j < ws.length := by omega
    rw [List.drop_eq_getElem_cons hlt, List.sum_cons] at h
    rw [List.drop_eq_getElem_cons hlt]
    unfold sA
    rw [show n + 1 + 1 + m = (n + 1 + m) + 1 by omega]
    by_cases c : r < ws[j]
    · rw [if_pos c, while_end]
      · rfl
      · show R.bind (R.ok ws) _ = _
        rw [R.ok_bind, idxR_nat hlt, R.ok_bind]
        congr 1
        exact decide_eq_false (by show ¬ ws[j] ≤ r; omega)
    · rw [if_neg c, while_nx (s' := (r - ws[j], ((j + 1 : Nat) : Int)))]
      · rw [ih (j + 1) (r - ws[j]) m (by omega) (by omega) (by omega), show j + 1 + sA (ws.drop (j + 1)) (r - ws[j]) = j + (sA (ws.drop (j + 1)) (r - ws[j]) + 1) by omega]
      · show R.bind (R.ok ws) _ = _
        rw [R.ok_bind, idxR_nat hlt, R.ok_bind]
        congr 1
        exact decide_eq_true (by show ws[j] ≤ r; omega)
      · show R.bind (R.ok ws) _ = _
        rw [R.ok_bind, idxR_nat hlt, R.ok_bind]
        rfl
theorem symbol_at_eq (ws : List Int) (hw : Nn ws) (hl : ws.length ≤ 64) (r : Int) (h0 : 0 ≤ r) (h : r < ws.sum) : f_Counts_symbol_at (.c ws) r = .ok ((sA ws r : Nat) : Int) := by
  unfold f_Counts_symbol_at b_Counts_symbol_at
  simp only [R.ok_bind, R.ok_pu, R.er_bind, R.bad_bind, R.ok_map, finR_rt, seqF_nx, seqF_rt, R.bind_ok, R.bind_bind, decide_eq_true_eq, Bool.not_eq_true', decide_eq_false_iff_not, Bool.false_eq_true, if_true, if_false, ite_nx]
  have := sat_loop ws hw ws.length 0 r (99 - ws.length) (by omega) h0 (by rw [List.drop_zero]; exact h)
  rw [show ws.length + 1 + (99 - ws.length) = 100 by omega, List.drop_zero, Nat.zero_add] at this
  exact (congrArg finR this).trans (finR_rt _)
/-! ### numbers -/
theorem push_eq (l w t x : Int) (hw : 0 < w) (hw2 : w < 2 ^ 64) (ht : 0 ≤ t ∧ t < 2 ^ 64) (hx : 0 ≤ x ∧ x < 2 ^ 64) : f_push l w t x = .ok (x / w * t + l + x % w) := by
  have h1 : 0 ≤ x / w := Int.ediv_nonneg hx.1 (Int.le_of_lt hw)
  have h2 : x / w ≤ x := Int.ediv_le_self w hx.1
  unfold f_push b_push
  simp only [R.ok_bind, R.ok_pu, R.er_bind, R.bad_bind, R.ok_map, finR_rt, seqF_nx, seqF_rt, R.bind_ok, R.bind_bind, decide_eq_true_eq, Bool.not_eq_true', decide_eq_false_iff_not, Bool.false_eq_true, if_true, if_false, ite_nx]
  rw [divR_ok hw hw2, R.ok_bind, mulR_ok (by omega) (by omega), R.ok_bind, modR_ok hw, R.ok_bind, finR_rt]
/-- what is popped -/
def pS (ws : List Int) (y : Int) : Nat := sA ws (y % ws.sum)
def pX (ws : List Int) (y : Int) : Int := ws.getD (pS ws y) 0 * (y / ws.sum) + y % ws.sum - lo ws (pS ws y)
structure Wt (ws : List Int) : Prop where
  nn : Nn ws
  len : ws.length ≤ 64
  pos : 0 < ws.sum
  le : ws.sum ≤ 65536
theorem Wt.at {ws : List Int} (h : Wt ws) {j : Nat} (hj : j < ws.length) : 0 ≤ ws[j] ∧ ws[j] ≤ ws.sum := by
  have h1 := lo_succ ws j hj
  have h2 := lo_nn h.nn (show j ≤ ws.length by omega)
  have h3 := lo_le h.nn (show j + 1 ≤ ws.length by omega)
  have h4 := h.nn _ (List.getElem_mem hj)
  omega
theorem Wt.ps {ws : List Int} (h : Wt ws) (y : Int) : pS ws y < ws.length ∧ lo ws (pS ws y) ≤ y % ws.sum ∧ y % ws.sum < lo ws (pS ws y + 1) := sA_ok h.nn (Int.emod_nonneg y (by have := h.pos; omega)) (Int.emod_lt_of_pos y h.pos)
theorem getD_at (ws : List Int) {j : Nat} (h : j < ws.length) : ws.getD j 0 = ws[j] := by
  rw [List.getD_eq_getElem?_getD, List.getElem?_eq_getElem h]
  rfl
theorem pop_eq (ws : List Int) (h : Wt ws) (y : Int) (hy : 0 ≤ y ∧ y < 2 ^ 60) : f_pop (.c ws) y = .ok (((pS ws y : Nat) : Int), pX ws y) := by
  obtain ⟨p1, p2, p3⟩ := h.ps y
  have hp := h.pos
  have hle := h.le
  have ha := h.at p1
  have h1 : 0 ≤ y / ws.sum := Int.ediv_nonneg hy.1 (Int.le_of_lt hp)
  have h2 : y / ws.sum ≤ y := Int.ediv_le_self _ hy.1
  unfold f_pop b_pop
  simp only [R.ok_bind, R.ok_pu, R.er_bind, R.bad_bind, R.ok_map, finR_rt, seqF_nx, seqF_rt, R.bind_ok, R.bind_bind, decide_eq_true_eq, Bool.not_eq_true', decide_eq_false_iff_not, Bool.false_eq_true, if_true, if_false, ite_nx, dsp, total_eq]
  rw [modR_ok hp, R.ok_bind, symbol_at_eq ws h.nn h.len _ (Int.emod_nonneg y (by omega)) (Int.emod_lt_of_pos y hp), R.ok_pu, R.ok_bind]
  show finR (R.bind (f_Counts_weight (.c ws) ((pS ws y : Nat) : Int)).pu _) = _
  rw [weight_eq ws _ p1, R.ok_pu, R.ok_bind, divR_ok hp (by omega), R.ok_bind, mulR_ok (by omega) (by omega), R.ok_bind]
  show finR (R.bind (f_Counts_low (.c ws) ((pS ws y : Nat) : Int)).pu _) = _
  rw [low_eq, R.ok_pu, R.ok_bind, finR_rt]
  unfold pX
  rw [getD_at ws p1]
  rfl
end Kx

namespace Kx
open PySem PySem.Spec PyProof.Rows L2 Kr
open Enc (toD)
/-! ### reading words -/
def rdW (words : List Int) : Nat → Int → Nat → R (Int × Int)
  | 0, x, u => .ok (x, (u : Int))
  | n + 1, x, u => if x < 65536 then (if h : u < words.length then rdW words n (x * 256 + words[u]) (u + 1) else .er 0 words.length) else .ok (x, (u : Int))
def Wd (words : List Int) : Prop := ∀ w ∈ words, 0 ≤ w ∧ w < 256
theorem rdW_big (words : List Int) (n : Nat) (x : Int) (u : Nat) (h : 65536 ≤ x) : rdW words n x u = .ok (x, (u : Int)) := by
  cases n with
  | zero => rfl
  | succ n =>
    unfold rdW
    rw [if_neg (by omega)]
/-- the program's loop -/
theorem read_loop {S ρ : Type} (words : List Int) (hw : Wd words) (k : Int × Int → R (Fl S ρ)) : ∀ (n : Nat) (x : Int) (u m : Nat), 0 ≤ x → x < 2 ^ 40 → 65536 ≤ x * 256 ^ n → n ≤ 2 → u ≤ words.length → whileR (fun (st_144 : Int × Int) => R.ok (decide (st_144.fst < 65536)))
                    (fun st_144 =>
                      if st_144.snd = (words.length : Int) then R.er 0 (words.length : Int)
                      else
                        (shlR st_144.fst 8).bind fun a =>
                          (idxR words st_144.snd).bind fun a_1 => R.ok (Fl.nx (Builtin.bitOr a a_1, st_144.snd + 1)))
                    k (n + 1 + m) (x, (u : Int)) = (rdW words n x u).bind k := by
  intro n
  induction n with
  | zero =>
    intro x u m h0 hx hb hn hu
    rw [rdW_big words 0 x u (by simpa using hb), R.ok_bind, show 0 + 1 + m = m + 1 by omega]
    exact while_end (by congr 1; exact decide_eq_false (by show ¬ x < 65536; simp at hb; omega))
  | succ n ih =>
    intro x u m h0 hx hb hn hu
    by_cases c : x < 65536
    · unfold rdW
      rw [if_pos c, show n + 1 + 1 + m = (n + 1 + m) + 1 by omega]
      by_cases h : u < words.length
      · rw [dif_pos h]
        have hwu := hw _ (List.getElem_mem h)
        have e : whileR (fun (st_144 : Int × Int) => R.ok (decide (st_144.fst < 65536)))
                    (fun st_144 =>
                      if st_144.snd = (words.length : Int) then R.er 0 (words.length : Int)
                      else
                        (shlR st_144.fst 8).bind fun a =>
                          (idxR words st_144.snd).bind fun a_1 => R.ok (Fl.nx (Builtin.bitOr a a_1, st_144.snd + 1)))
                    k ((n + 1 + m) + 1) (x, (u : Int)) = _ := while_nx (s' := (x * 256 + words[u], ((u + 1 : Nat) : Int))) (by congr 1; exact decide_eq_true c) (by
            show (if (u : Int) = (words.length : Int) then _ else R.bind (shlR x 8) _) = _
            rw [if_neg (by omega), shlR_ok (by omega) (by decide), R.ok_bind]
            show R.bind (idxR words (u : Int)) _ = _
            rw [idxR_nat h, R.ok_bind]
            have := or_low (q := x) (r := words[u]) (k := 8) h0 hwu.1 (by omega)
            rw [show ((8 : Int)).toNat = 8 from rfl, this]
            rfl)
        rw [e]
        refine ih (x * 256 + words[u]) (u + 1) m (by omega) (by omega) ?_ (by omega) h
        have h1 : (256 : Int) ^ (n + 1) = 256 ^ n * 256 := Int.pow_succ ..
        have h2 : (0 : Int) < 256 ^ n := Int.pow_pos (by decide)
        rw [h1] at hb
        have h3 : (x * 256) * 256 ^ n ≤ (x * 256 + words[u]) * 256 ^ n := Int.mul_le_mul_of_nonneg_right (by omega) (Int.le_of_lt h2)
        have h4 : x * (256 ^ n * 256) = (x * 256) * 256 ^ n := by
          rw [Int.mul_comm ((256 : Int) ^ n) 256, Int.mul_assoc]
        omega
      · rw [dif_neg h]
        obtain rfl : u = words.length := by omega
        exact while_er (by congr 1; exact decide_eq_true c) (by
          show (if ((words.length : Nat) : Int) = ((words.length : Nat) : Int) then _ else _) = _
          rw [if_pos rfl])
    · rw [rdW_big words (n + 1) x u (by omega), R.ok_bind, show n + 1 + 1 + m = (n + 1 + m) + 1 by omega]
      exact while_end (by congr 1; exact decide_eq_false c)
/-- the law's loop -/
theorem lread_loop {S ρ : Type} (words : List Int) (hw : Wd words) (k : Int × Int → R (Fl S ρ)) (tr : ρ) : ∀ (n z : Nat) (x : Int) (u : Nat), 0 ≤ x → x < 2 ^ 40 → n ≤ 3 → u ≤ words.length → forR
                                  (fun (st_352 : Int × Int) (turn_353 : Int) =>
                                    if st_352.fst < 65536 then
                                      if (words.length : Int) ≤ st_352.snd then
                                        R.ok (Fl.rt tr)
                                      else
                                        (mulR st_352.fst 256).bind fun a =>
                                          (idxR words st_352.snd).bind fun a_2 => R.ok (Fl.nx (a + a_2, st_352.snd + 1))
                                    else R.ok (Fl.nx (st_352.fst, st_352.snd))) k (seqI z n) (x, (u : Int)) = match rdW words n x u with
    | .ok p => k p
    | .er _ _ => .ok (.rt tr)
    | .bad => .bad := by
  intro n
  induction n with
  | zero => exact fun z x u h0 hx hn hu => rfl
  | succ n ih =>
    intro z x u h0 hx hn hu
    have hsq : seqI (z : Int) (n + 1) = (z : Int) :: seqI ((z + 1 : Nat) : Int) n := by
      refine List.ext_getElem? fun i => ?_
      cases i with
      | zero => rw [seqI_get]; simp
      | succ i =>
        rw [seqI_get, List.getElem?_cons_succ, seqI_get]
        by_cases h : i < n
        · rw [if_pos (by omega), if_pos h]
          congr 1
          omega
        · rw [if_neg (by omega), if_neg h]
    rw [hsq, forR_cons]
    by_cases c : x < 65536
    · unfold rdW
      rw [if_pos c, if_pos c]
      by_cases h : u < words.length
      · have hwu := hw _ (List.getElem_mem h)
        rw [dif_pos h, if_neg (by omega)]
        show R.bind (R.bind (mulR x 256) _) _ = _
        rw [mulR_ok (by omega) (by decide), R.ok_bind]
        show R.bind (R.bind (idxR words (u : Int)) _) _ = _
        rw [idxR_nat h, R.ok_bind, R.ok_bind]
        have := ih (z + 1) (x * 256 + words[u]) (u + 1) (by omega) (by omega) (by omega) h
        rw [show ((u + 1 : Nat) : Int) = (u : Int) + 1 by omega] at this
        exact this
      · rw [dif_neg h, if_pos (by omega)]
        rfl
    · rw [if_neg c, R.ok_bind, rdW_big words (n + 1) x u (by omega)]
      have := ih (z + 1) x u h0 hx (by omega) hu
      rw [rdW_big words n x u (by omega)] at this
      exact this
/-- behind two words the state is large -/
theorem rdW_3 (words : List Int) (hw : Wd words) (x : Int) (u : Nat) (h : 1 ≤ x) : rdW words 3 x u = rdW words 2 x u := by
  by_cases c : x < 65536
  · unfold rdW
    rw [if_pos c, if_pos c]
    by_cases h1 : u < words.length
    · rw [dif_pos h1, dif_pos h1]
      have hwu := hw _ (List.getElem_mem h1)
      by_cases c2 : x * 256 + words[u] < 65536
      · unfold rdW
        rw [if_pos c2, if_pos c2]
        by_cases h2 : u + 1 < words.length
        · rw [dif_pos h2, dif_pos h2]
          have hwu := hw _ (List.getElem_mem h2)
          rw [rdW_big _ _ _ _ (by omega), rdW_big _ _ _ _ (by omega)]
        · rw [dif_neg h2, dif_neg h2]
      · rw [rdW_big _ _ _ _ (by omega), rdW_big _ _ _ _ (by omega)]
    · rw [dif_neg h1, dif_neg h1]
  · rw [rdW_big _ _ _ _ (by omega), rdW_big _ _ _ _ (by omega)]
theorem rdW_ok (words : List Int) (hw : Wd words) : ∀ (n : Nat) (x : Int) (u : Nat) (p : Int × Int), u ≤ words.length → 0 ≤ x → x < 16777216 → 65536 ≤ x * 256 ^ n → rdW words n x u = .ok p → 65536 ≤ p.1 ∧ p.1 < 16777216 ∧ ∃ v : Nat, p.2 = v ∧ v ≤ words.length
  | 0, x, u, p, hu, h0, hx, hb, h => by
    cases h
    exact ⟨by simpa using hb, hx, u, rfl, hu⟩
  | n + 1, x, u, p, hu, h0, hx, hb, h => by
    unfold rdW at h
    by_cases c : x < 65536
    · rw [if_pos c] at h
      by_cases h1 : u < words.length
      · rw [dif_pos h1] at h
        have hwu := hw _ (List.getElem_mem h1)
        refine rdW_ok words hw n _ _ p h1 (by omega) (by omega) ?_ h
        have h1' : (256 : Int) ^ (n + 1) = 256 ^ n * 256 := Int.pow_succ ..
        have h2 : (0 : Int) < 256 ^ n := Int.pow_pos (by decide)
        rw [h1'] at hb
        have h3 : (x * 256) * 256 ^ n ≤ (x * 256 + words[u]) * 256 ^ n := Int.mul_le_mul_of_nonneg_right (by omega) (Int.le_of_lt h2)
        have h4 : x * (256 ^ n * 256) = (x * 256) * 256 ^ n := by
          rw [Int.mul_comm ((256 : Int) ^ n) 256, Int.mul_assoc]
        omega
      · rw [dif_neg h1] at h
        cases h
    · rw [if_neg c] at h
      cases h
      exact ⟨by omega, hx, u, rfl, hu⟩
/-! ### unpacking -/
abbrev Rt := T3 (List Int) Int Int
def decL (ws words : List Int) : Nat → Int → Nat → List Int → R Rt
  | 0, x, u, ms => .ok ⟨ms, x, u⟩
  | n + 1, x, u, ms => (rdW words 2 (pX ws x) u).bind fun p => decL ws words n p.1 p.2.toNat (ms ++ [((pS ws x : Nat) : Int)])
/-- the total divides 65536 -/
structure Wq (ws : List Int) : Prop extends Wt ws where
  dv : 65536 % ws.sum = 0
theorem Wq.q {ws : List Int} (h : Wq ws) : ∃ q : Int, 65536 = ws.sum * q ∧ 1 ≤ q := by
  have h1 := Int.emod_add_mul_ediv 65536 ws.sum
  rw [h.dv] at h1
  refine ⟨65536 / ws.sum, by omega, ?_⟩
  have hp := h.pos
  have hl := h.le
  exact Int.le_ediv_of_mul_le hp (by omega)
theorem pX_ok {ws : List Int} (h : Wt ws) {x : Int} (hx : 65536 ≤ x) : 1 ≤ pX ws x ∧ pX ws x ≤ x := by
  obtain ⟨p1, p2, p3⟩ := h.ps x
  have hp := h.pos
  have hl := h.le
  have hw := h.at p1
  unfold pX
  rw [getD_at ws p1]
  rw [lo_succ ws _ p1] at p3
  have q1 : 1 ≤ x / ws.sum := Int.le_ediv_of_mul_le hp (by omega)
  have e := Int.emod_add_mul_ediv x ws.sum
  have hw1 : 1 ≤ ws[pS ws x] := by omega
  have m1 : ws[pS ws x] * 1 ≤ ws[pS ws x] * (x / ws.sum) := Int.mul_le_mul_of_nonneg_left q1 hw.1
  have m2 : ws[pS ws x] * (x / ws.sum) ≤ ws.sum * (x / ws.sum) := Int.mul_le_mul_of_nonneg_right hw.2 (by omega)
  have l0 := lo_nn h.nn (show pS ws x ≤ ws.length by omega)
  omega
theorem unpack_loop (ws words : List Int) (h : Wt ws) (hw : Wd words) : ∀ (n z : Nat) (x : Int) (u : Nat) (ms : List Int), 65536 ≤ x → x < 16777216 → u ≤ words.length → ms.length + n ≤ 1000 → forR (S := Unit) (ρ := Rt)
            (fun (st_138 : Int × List Int × Int) (k_139 : Int) =>
              (f_pop (.c ws) st_138.fst).pu.bind fun p_142 =>
                (szR (st_138.snd.fst ++ [p_142.fst])).bind fun message_143 =>
                  whileR (fun (st_144 : Int × Int) => R.ok (decide (st_144.fst < 65536)))
                    (fun st_144 =>
                      if st_144.snd = (words.length : Int) then R.er 0 (words.length : Int)
                      else
                        (shlR st_144.fst 8).bind fun a =>
                          (idxR words st_144.snd).bind fun a_1 => R.ok (Fl.nx (Builtin.bitOr a a_1, st_144.snd + 1)))
                    (fun st_144 => R.ok (Fl.nx (st_144.fst, message_143, st_144.snd))) 20 (p_142.snd, st_138.snd.snd))
            (fun st_138 => R.ok (Fl.rt { a := st_138.snd.fst, b := st_138.fst, c := st_138.snd.snd })) (seqI (z : Int) n) (x, ms, (u : Int)) = (decL ws words n x u ms).bind fun r => .ok (.rt r) := by
  intro n
  induction n with
  | zero => exact fun z x u ms h1 h2 hu hm => rfl
  | succ n ih =>
    intro z x u ms h1 h2 hu hm
    have hsq : seqI (z : Int) (n + 1) = (z : Int) :: seqI ((z + 1 : Nat) : Int) n := by
      refine List.ext_getElem? fun i => ?_
      cases i with
      | zero => rw [seqI_get]; simp
      | succ i =>
        rw [seqI_get, List.getElem?_cons_succ, seqI_get]
        by_cases h : i < n
        · rw [if_pos (by omega), if_pos h]
          congr 1
          omega
        · rw [if_neg (by omega), if_neg h]
    have hx := pX_ok h h1
    rw [hsq, forR_cons]
    unfold decL
    rw [pop_eq ws h x (by omega), R.ok_pu, R.ok_bind]
    show R.bind (R.bind (szR (ms ++ [((pS ws x : Nat) : Int)])) _) _ = _
    rw [szR_ok (by rw [List.length_append]; show ms.length + 1 ≤ _; omega), R.ok_bind]
    have rl := read_loop (S := Int × List Int × Int) (ρ := Rt) words hw (fun st_144 => R.ok (Fl.nx (st_144.fst, ms ++ [((pS ws x : Nat) : Int)], st_144.snd))) 2 (pX ws x) u 17 (by omega) (by omega) (by omega) (by decide) hu
    rw [show 2 + 1 + 17 = 20 from rfl] at rl
    show R.bind (whileR _ _ _ 20 (pX ws x, (u : Int))) _ = _
    rw [rl]
    cases e : rdW words 2 (pX ws x) u with
    | ok p =>
      obtain ⟨q1, q2, v, q3, q4⟩ := rdW_ok words hw 2 _ u p hu (by omega) (by omega) (by omega) e
      rw [R.ok_bind, R.ok_bind, R.ok_bind]
      have := ih (z + 1) p.1 v (ms ++ [((pS ws x : Nat) : Int)]) q1 q2 q4 (by rw [List.length_append]; show ms.length + 1 + n ≤ _; omega)
      rw [q3, show ((v : Int)).toNat = v from rfl]
      exact this
    | er c q => rfl
    | bad => rfl
theorem unpack_eq (ws words : List Int) (h : Wt ws) (hw : Wd words) (x : Int) (hx : 65536 ≤ x ∧ x < 16777216) (n : Nat) (hn : n ≤ 1000) : f_unpack_words (.c ws) x words n = decL ws words n x 0 [] := by
  unfold f_unpack_words b_unpack_words
  simp only [R.ok_bind, R.ok_pu, R.er_bind, R.bad_bind, R.ok_map, finR_rt, seqF_nx, seqF_rt, R.bind_ok, R.bind_bind, decide_eq_true_eq, Bool.not_eq_true', decide_eq_false_iff_not, Bool.false_eq_true, if_true, if_false, ite_nx]
  rw [szR_nil, R.ok_bind, rng1_nat (by omega), R.ok_bind]
  have := unpack_loop ws words h hw n 0 x 0 [] hx.1 hx.2 (Nat.zero_le _) (by show 0 + n ≤ _; omega)
  rw [show ((0 : Nat) : Int) = 0 from rfl] at this
  refine (congrArg finR this).trans ?_
  cases decL ws words n x 0 [] <;> rfl
/-- the law's search -/
theorem find_loop {S ρ : Type} (ws : List Int) (h : Wt ws) (r : Int) (h0 : 0 ≤ r ∧ r < ws.sum) (K : Int → R (Fl S ρ)) : ∀ (n z : Nat) (s : Int), z + n = ws.length → (z ≤ sA ws r ∨ s = ((sA ws r : Nat) : Int)) → forR
                    (fun (st_315 : Int) (j_316 : Int) =>
                      (if (cut ws none (some j_316)).sum ≤ r then
                            R.ok (decide (r < (cut ws none (some (j_316 + 1))).sum))
                          else R.ok false).bind
                        fun c_332 => R.ok (Fl.nx (if c_332 = true then j_316 else st_315))) K (seqI (z : Int) n) s = K ((sA ws r : Nat) : Int) := by
  obtain ⟨a1, a2, a3⟩ := sA_ok h.nn h0.1 h0.2
  intro n
  induction n with
  | zero =>
    intro z s hz hs
    rcases hs with q | q
    · omega
    · rw [q]
      rfl
  | succ n ih =>
    intro z s hz hs
    have hsq : seqI (z : Int) (n + 1) = (z : Int) :: seqI ((z + 1 : Nat) : Int) n := by
      refine List.ext_getElem? fun i => ?_
      cases i with
      | zero => rw [seqI_get]; simp
      | succ i =>
        rw [seqI_get, List.getElem?_cons_succ, seqI_get]
        by_cases h : i < n
        · rw [if_pos (by omega), if_pos h]
          congr 1
          omega
        · rw [if_neg (by omega), if_neg h]
    rw [hsq, forR_cons, cut_to, show (z : Int) + 1 = ((z + 1 : Nat) : Int) by omega, cut_to]
    have hc : (if (ws.take z).sum ≤ r then R.ok (decide (r < (ws.take (z + 1)).sum)) else R.ok false : R Bool) = .ok (decide (z = sA ws r)) := by
      by_cases c : lo ws z ≤ r ∧ r < lo ws (z + 1)
      · rw [if_pos (show (ws.take z).sum ≤ r from c.1), decide_eq_true (show r < (ws.take (z + 1)).sum from c.2), decide_eq_true (sA_uniq h.nn (by omega) a1 c.1 c.2 a2 a3)]
      · have hne : ¬ z = sA ws r := fun e => c (by rw [e]; exact ⟨a2, a3⟩)
        rw [decide_eq_false hne]
        by_cases c1 : (ws.take z).sum ≤ r
        · rw [if_pos c1, decide_eq_false (show ¬ r < (ws.take (z + 1)).sum from fun c2 => c ⟨c1, c2⟩)]
        · rw [if_neg c1]
    rw [hc, R.ok_bind, R.ok_bind]
    by_cases c : z = sA ws r
    · rw [if_pos (decide_eq_true c)]
      exact ih (z + 1) _ (by omega) (.inr (by rw [c]))
    · rw [if_neg (by rw [decide_eq_true_eq]; exact c)]
      exact ih (z + 1) _ (by omega) (hs.imp (fun q => by omega) id)
def toL (m : R Rt) : Rt ⊕ (Str × Int) := match m with
  | .ok r => .inl r
  | .er _ p => .inr ("Truncated", p)
  | .bad => .inr ("Truncated", 0)
theorem decL_gd (ws words : List Int) (h : Wt ws) (hw : Wd words) : ∀ (n : Nat) (x : Int) (u : Nat) (ms : List Int), 65536 ≤ x → x < 16777216 → u ≤ words.length → (∃ r, decL ws words n x u ms = .ok r) ∨ decL ws words n x u ms = .er 0 words.length
  | 0, x, u, ms, _, _, _ => .inl ⟨_, rfl⟩
  | n + 1, x, u, ms, h1, h2, hu => by
    have hx := pX_ok h h1
    unfold decL
    have rd : ∀ (n : Nat) (x : Int) (u : Nat), (∃ p, rdW words n x u = .ok p) ∨ rdW words n x u = .er 0 words.length := by
      intro n
      induction n with
      | zero => exact fun x u => .inl ⟨_, rfl⟩
      | succ n ih =>
        intro x u
        unfold rdW
        split
        · split
          · exact ih _ _
          · exact .inr rfl
        · exact .inl ⟨_, rfl⟩
    rcases rd 2 (pX ws x) u with ⟨p, e⟩ | e
    · obtain ⟨q1, q2, v, q3, q4⟩ := rdW_ok words hw 2 _ u p hu (by omega) (by omega) (by omega) e
      rw [e, R.ok_bind, q3]
      exact decL_gd ws words h hw n p.1 v _ q1 q2 q4
    · rw [e]
      exact .inr rfl
theorem lunpack_loop (ws words : List Int) (h : Wt ws) (hw : Wd words) : ∀ (n z : Nat) (x : Int) (u : Nat) (ms : List Int), 65536 ≤ x → x < 16777216 → u ≤ words.length → ms.length + n ≤ 1000 → forR (S := Unit) (ρ := Rt ⊕ (Str × Int))
            (fun (st_307 : Int × List Int × Int) (k_308 : Int) =>
              (modR st_307.fst ws.sum).bind fun rest_311 =>
                (rng1R (ws.length : Int)).bind fun xs_378 =>
                  forR
                    (fun (st_315 : Int) (j_316 : Int) =>
                      (if (cut ws none (some j_316)).sum ≤ rest_311 then
                            R.ok (decide (rest_311 < (cut ws none (some (j_316 + 1))).sum))
                          else R.ok false).bind
                        fun c_332 => R.ok (Fl.nx (if c_332 = true then j_316 else st_315)))
                    (fun st_315 =>
                      (szR (st_307.snd.fst ++ [st_315])).bind fun message_334 =>
                        (idxR ws st_315).bind fun a =>
                          (divR st_307.fst ws.sum).bind fun a_1 =>
                            (mulR a a_1).bind fun a =>
                              (rng1R 3).bind fun xs_376 =>
                                forR
                                  (fun (st_352 : Int × Int) (turn_353 : Int) =>
                                    if st_352.fst < 65536 then
                                      if (words.length : Int) ≤ st_352.snd then
                                        R.ok (Fl.rt (Sum.inr (Str.ofString "Truncated", (words.length : Int))))
                                      else
                                        (mulR st_352.fst 256).bind fun a =>
                                          (idxR words st_352.snd).bind fun a_2 => R.ok (Fl.nx (a + a_2, st_352.snd + 1))
                                    else R.ok (Fl.nx (st_352.fst, st_352.snd)))
                                  (fun st_352 => R.ok (Fl.nx (st_352.fst, message_334, st_352.snd))) xs_376
                                  (a + rest_311 - (cut ws none (some st_315)).sum, st_307.snd.snd))
                    xs_378 0)
            (fun st_307 => R.ok (Fl.rt (Sum.inl { a := st_307.snd.fst, b := st_307.fst, c := st_307.snd.snd }))) (seqI (z : Int) n) (x, ms, (u : Int)) = .ok (.rt (toL (decL ws words n x u ms))) := by
  intro n
  induction n with
  | zero => exact fun z x u ms h1 h2 hu hm => rfl
  | succ n ih =>
    intro z x u ms h1 h2 hu hm
    have hsq : seqI (z : Int) (n + 1) = (z : Int) :: seqI ((z + 1 : Nat) : Int) n := by
      refine List.ext_getElem? fun i => ?_
      cases i with
      | zero => rw [seqI_get]; simp
      | succ i =>
        rw [seqI_get, List.getElem?_cons_succ, seqI_get]
        by_cases h : i < n
        · rw [if_pos (by omega), if_pos h]
          congr 1
          omega
        · rw [if_neg (by omega), if_neg h]
    obtain ⟨p1, p2, p3⟩ := h.ps x
    have hp := h.pos
    have hle := h.le
    have ha := h.at p1
    have hlen := h.len
    have d1 : 0 ≤ x / ws.sum := Int.ediv_nonneg (by omega) (Int.le_of_lt hp)
    have d2 : x / ws.sum ≤ x := Int.ediv_le_self _ (by omega)
    have hx := pX_ok h h1
    rw [hsq, forR_cons]
    unfold decL
    rw [modR_ok hp, R.ok_bind, rng1_nat (by omega), R.ok_bind]
    have fl := find_loop (S := Int × List Int × Int) (ρ := Rt ⊕ (Str × Int)) ws h (x % ws.sum) ⟨Int.emod_nonneg x (by omega), Int.emod_lt_of_pos x hp⟩ (fun st_315 =>
                      (szR (ms ++ [st_315])).bind fun message_334 =>
                        (idxR ws st_315).bind fun a =>
                          (divR x ws.sum).bind fun a_1 =>
                            (mulR a a_1).bind fun a =>
                              (rng1R 3).bind fun xs_376 =>
                                forR
                                  (fun (st_352 : Int × Int) (turn_353 : Int) =>
                                    if st_352.fst < 65536 then
                                      if (words.length : Int) ≤ st_352.snd then
                                        R.ok (Fl.rt (Sum.inr (Str.ofString "Truncated", (words.length : Int))))
                                      else
                                        (mulR st_352.fst 256).bind fun a =>
                                          (idxR words st_352.snd).bind fun a_2 => R.ok (Fl.nx (a + a_2, st_352.snd + 1))
                                    else R.ok (Fl.nx (st_352.fst, st_352.snd)))
                                  (fun st_352 => R.ok (Fl.nx (st_352.fst, message_334, st_352.snd))) xs_376
                                  (a + x % ws.sum - (cut ws none (some st_315)).sum, (u : Int))) ws.length 0 0 (by omega) (.inl (Nat.zero_le _))
    rw [show ((0 : Nat) : Int) = 0 from rfl] at fl
    refine (congrArg (fun q => R.bind q _) fl).trans ?_
    show R.bind (R.bind (szR (ms ++ [((pS ws x : Nat) : Int)])) _) _ = _
    rw [szR_ok (by rw [List.length_append]; show ms.length + 1 ≤ _; omega), R.ok_bind]
    show R.bind (R.bind (idxR ws ((pS ws x : Nat) : Int)) _) _ = _
    rw [idxR_nat p1, R.ok_bind, divR_ok hp (by omega), R.ok_bind, mulR_ok (by omega) (by omega), R.ok_bind, rng1_ok (by decide) (by decide), R.ok_bind]
    have hpx : ws[pS ws x] * (x / ws.sum) + x % ws.sum - (cut ws none (some ((pS ws x : Nat) : Int))).sum = pX ws x := by
      rw [cut_to]
      unfold pX lo
      rw [getD_at ws p1]
    have lr := lread_loop words hw (fun st_352 => R.ok (Fl.nx (st_352.fst, ms ++ [((pS ws x : Nat) : Int)], st_352.snd)) : Int × Int → R (Fl (Int × List Int × Int) (Rt ⊕ (Str × Int)))) (Sum.inr (Str.ofString "Truncated", (words.length : Int))) 3 0 (pX ws x) u (by omega) (by omega) (by decide) hu
    rw [rdW_3 words hw _ u hx.1, ← hpx] at lr
    refine (congrArg (fun q => R.bind q _) lr).trans ?_
    rw [hpx]
    cases e : rdW words 2 (pX ws x) u with
    | ok p =>
      obtain ⟨q1, q2, v, q3, q4⟩ := rdW_ok words hw 2 _ u p hu (by omega) (by omega) (by omega) e
      show R.bind (R.ok (Fl.nx (p.1, ms ++ [((pS ws x : Nat) : Int)], p.2))) _ = _
      rw [R.ok_bind, R.ok_bind]
      have ihx := ih (z + 1) p.1 v (ms ++ [((pS ws x : Nat) : Int)]) q1 q2 q4 (by rw [List.length_append]; show ms.length + 1 + n ≤ _; omega)
      rw [q3, show ((v : Int)).toNat = v from rfl]
      simp only [rng1_nat (show ws.length ≤ 1000000 by omega), rng1_ok (show (3 : Int) < 2 ^ 62 by decide) (show -(2 ^ 62) ≤ (3 : Int) by decide)] at ihx
      exact ihx
    | er c q =>
      have hq : q = words.length := by
        have rd : ∀ (n : Nat) (x : Int) (u : Nat) (c : Nat) (q : Int), rdW words n x u = .er c q → q = words.length := by
          intro n
          induction n with
          | zero => exact fun x u c q h => nomatch h
          | succ n ih =>
            intro x u c q h
            unfold rdW at h
            split at h
            · split at h
              · exact ih _ _ _ _ h
              · cases h
                rfl
            · cases h
        exact rd _ _ _ _ _ e
      rw [hq]
      rfl
    | bad =>
      have rd : ∀ (n : Nat) (x : Int) (u : Nat), rdW words n x u ≠ .bad := by
        intro n
        induction n with
        | zero => exact fun x u h => nomatch h
        | succ n ih =>
          intro x u h
          unfold rdW at h
          split at h
          · split at h
            · exact ih _ _ h
            · cases h
          · cases h
      exact absurd e (rd _ _ _)
theorem lunpacked_eq (ws words : List Int) (h : Wt ws) (hw : Wd words) (x : Int) (hx : 65536 ≤ x ∧ x < 16777216) (n : Nat) (hn : n ≤ 1000) : f__law_unpacked ws x words n = .ok (toL (decL ws words n x 0 [])) := by
  unfold f__law_unpacked b__law_unpacked
  simp only [R.ok_bind, R.ok_pu, R.er_bind, R.bad_bind, R.ok_map, finR_rt, seqF_nx, seqF_rt, R.bind_ok, R.bind_bind, decide_eq_true_eq, Bool.not_eq_true', decide_eq_false_iff_not, Bool.false_eq_true, if_true, if_false, ite_nx]
  rw [szR_nil, R.ok_bind, rng1_nat (by omega), R.ok_bind]
  have := lunpack_loop ws words h hw n 0 x 0 [] hx.1 hx.2 (Nat.zero_le _) (by show 0 + n ≤ _; omega)
  rw [show ((0 : Nat) : Int) = 0 from rfl] at this
  exact (congrArg finR this).trans (finR_rt _)
theorem told_of (m : R Rt) (h : (∃ r, m = .ok r) ∨ ∃ p, m = .er 0 p) : finR (tryR (m.bind fun a => (R.ok (Fl.rt (Sum.inl a)) : R (Fl Unit (Rt ⊕ (Str × Int))))) fun c p =>
        if c = 0 then R.ok (Fl.rt (Sum.inr (id (Str.ofString "Truncated", p)))) else R.bad) = .ok (toL m) := by
  rcases h with ⟨p, rfl⟩ | ⟨p, rfl⟩ <;> rfl
theorem told_eq (ws words : List Int) (h : Wt ws) (hw : Wd words) (x : Int) (hx : 65536 ≤ x ∧ x < 16777216) (n : Nat) (hn : n ≤ 1000) : f__law_told (.c ws) x words n = .ok (toL (decL ws words n x 0 [])) := by
  unfold f__law_told b__law_told
  simp only [R.ok_bind, R.ok_pu, R.er_bind, R.bad_bind, R.ok_map, finR_rt, seqF_nx, seqF_rt, R.bind_ok, R.bind_bind, decide_eq_true_eq, Bool.not_eq_true', decide_eq_false_iff_not, Bool.false_eq_true, if_true, if_false, ite_nx]
  rw [unpack_eq ws words h hw x hx n hn]
  refine told_of _ ?_
  rcases decL_gd ws words h hw n x 0 [] hx.1 hx.2 (Nat.zero_le _) with q | e
  · exact .inl q
  · exact .inr ⟨_, e⟩
end Kx

namespace Kx
open PySem PySem.Spec PyProof.Rows L2 Kr
open Enc (toD)
/-! ### packing -/
def nY (B x : Int) : Int := if x < B then x else if x / 256 < B then x / 256 else x / 256 / 256
def nE (B x : Int) : List Int := if x < B then [] else if x / 256 < B then [x % 256] else [x % 256, x / 256 % 256]
theorem nrm_loop {S ρ : Type} (C w B : Int) (e : ((divR 16777216 C).bind fun a => mulR a w) = .ok B) (hB : 256 ≤ B) (x : Int) (l : List Int) (hx : 65536 ≤ x ∧ x < 16777216) (hl : l.length ≤ 1000) (k : Int × List Int → R (Fl S ρ)) : whileR
                (fun (st_107 : Int × List Int) =>
                  (divR 16777216 C).bind fun a =>
                    (mulR a w).bind fun b_113 => R.ok (decide (b_113 ≤ st_107.fst)))
                (fun st_107 =>
                  (szR (st_107.snd ++ [Builtin.bitAnd st_107.fst 255])).bind fun words_114 =>
                    (shrR st_107.fst 8).bind fun state_119 => R.ok (Fl.nx (state_119, words_114)))
                k 20 (x, l) = k (nY B x, l ++ nE B x) := by
  have hc : ∀ st : Int × List Int, ((divR 16777216 C).bind fun a => (mulR a w).bind fun b_113 => R.ok (decide (b_113 ≤ st.fst)) : R Bool) = .ok (decide (B ≤ st.1)) := fun st => by
    have e' : ((divR 16777216 C).bind fun a => mulR a w) = .ok B := e
    rw [← R.bind_bind, e', R.ok_bind]
  have hs : ∀ (x : Int) (l : List Int), 0 ≤ x → l.length ≤ 2000 → ((szR (l ++ [Builtin.bitAnd x 255])).bind fun words_114 => (shrR x 8).bind fun state_119 => R.ok (Fl.nx (state_119, words_114)) : R (Fl (Int × List Int) ρ)) = .ok (.nx (x / 256, l ++ [x % 256])) := fun x l h0 hl => by
    have h1 := and_low x 8 h0
    rw [show (1 * 2 ^ 8 - 1 : Int) = 255 by decide, show (2 ^ 8 : Int) = 256 by decide] at h1
    rw [h1, szR_ok (by rw [List.length_append]; show l.length + 1 ≤ _; omega), R.ok_bind, shrR_ok (by decide), R.ok_bind]
    rfl
  unfold nY nE
  by_cases c1 : x < B
  · rw [if_pos c1, if_pos c1, List.append_nil]
    exact while_end (by rw [hc]; congr 1; exact decide_eq_false (by show ¬ B ≤ x; omega))
  · rw [if_neg c1, if_neg c1]
    refine (while_nx (s' := (x / 256, l ++ [x % 256])) (by rw [hc]; congr 1; exact decide_eq_true (by show B ≤ x; omega)) (hs x l (by omega) (by omega))).trans ?_
    by_cases c2 : x / 256 < B
    · rw [if_pos c2, if_pos c2]
      exact while_end (by rw [hc]; congr 1; exact decide_eq_false (by show ¬ B ≤ x / 256; omega))
    · rw [if_neg c2, if_neg c2]
      refine (while_nx (s' := (x / 256 / 256, (l ++ [x % 256]) ++ [x / 256 % 256])) (by rw [hc]; congr 1; exact decide_eq_true (by show B ≤ x / 256; omega)) (hs (x / 256) (l ++ [x % 256]) (by omega) (by rw [List.length_append]; show l.length + 1 ≤ _; omega))).trans ?_
      refine (while_end (by rw [hc]; congr 1; exact decide_eq_false (by show ¬ B ≤ x / 256 / 256; omega))).trans ?_
      rw [List.append_assoc]
      rfl
theorem seqI4 : seqI 0 (Int.toNat 4) = [0, 1, 2, 3] := by decide
theorem lnrm_loop {S ρ : Type} (C w B : Int) (e : ((divR 16777216 C).bind fun a => mulR a w) = .ok B) (hB : 256 ≤ B) (x : Int) (l : List Int) (hx : 65536 ≤ x ∧ x < 16777216) (hl : l.length ≤ 1000) (k : Int × List Int → R (Fl S ρ)) : forR
                      (fun (st_258 : Int × List Int) (turn_259 : Int) =>
                        (divR 16777216 C).bind fun a =>
                          (mulR a w).bind fun a =>
                            if a ≤ st_258.fst then
                              (modR st_258.fst 256).bind fun a =>
                                (szR [a]).bind fun a =>
                                  (szR (a ++ st_258.snd)).bind fun words_273 =>
                                    (divR st_258.fst 256).bind fun state_276 => R.ok (Fl.nx (state_276, words_273))
                            else R.ok (Fl.nx (st_258.fst, st_258.snd))) k (seqI 0 (Int.toNat 4)) (x, l) = k (nY B x, (nE B x).reverse ++ l) := by
  have hs : ∀ (x : Int) (l : List Int), l.length ≤ 2000 → ((divR 16777216 C).bind fun a =>
                          (mulR a w).bind fun a =>
                            if a ≤ x then
                              (modR x 256).bind fun a =>
                                (szR [a]).bind fun a =>
                                  (szR (a ++ l)).bind fun words_273 =>
                                    (divR x 256).bind fun state_276 => R.ok (Fl.nx (state_276, words_273))
                            else R.ok (Fl.nx (x, l)) : R (Fl (Int × List Int) ρ)) = .ok (.nx (if B ≤ x then (x / 256, (x % 256) :: l) else (x, l))) := fun x l hl => by
    rw [← R.bind_bind, e, R.ok_bind]
    by_cases c : B ≤ x
    · rw [if_pos c, if_pos c, modR_ok (by decide), R.ok_bind, szR_ok (by simp), R.ok_bind, szR_ok (by simp; omega), R.ok_bind, divR_ok (by decide) (by decide), R.ok_bind]
      rfl
    · rw [if_neg c, if_neg c]
  rw [seqI4]
  unfold nY nE
  by_cases c1 : x < B
  · rw [if_pos c1, if_pos c1]
    rw [forR_cons, hs x l (by omega), if_neg (by omega), R.ok_bind]
    show forR _ k [1, 2, 3] (x, l) = _
    rw [forR_cons, hs x l (by omega), if_neg (by omega), R.ok_bind]
    show forR _ k [2, 3] (x, l) = _
    rw [forR_cons, hs x l (by omega), if_neg (by omega), R.ok_bind]
    show forR _ k [3] (x, l) = _
    rw [forR_cons, hs x l (by omega), if_neg (by omega), R.ok_bind]
    rfl
  · rw [if_neg c1, if_neg c1]
    rw [forR_cons, hs x l (by omega), if_pos (by omega), R.ok_bind]
    show forR _ k [1, 2, 3] (x / 256, (x % 256) :: l) = _
    by_cases c2 : x / 256 < B
    · rw [if_pos c2, if_pos c2]
      rw [forR_cons, hs _ _ (by simp; omega), if_neg (by omega), R.ok_bind]
      show forR _ k [2, 3] (x / 256, (x % 256) :: l) = _
      rw [forR_cons, hs _ _ (by simp; omega), if_neg (by omega), R.ok_bind]
      show forR _ k [3] (x / 256, (x % 256) :: l) = _
      rw [forR_cons, hs _ _ (by simp; omega), if_neg (by omega), R.ok_bind]
      rfl
    · rw [if_neg c2, if_neg c2]
      rw [forR_cons, hs _ _ (by simp; omega), if_pos (by omega), R.ok_bind]
      show forR _ k [2, 3] (x / 256 / 256, (x / 256 % 256) :: (x % 256) :: l) = _
      rw [forR_cons, hs _ _ (by simp; omega), if_neg (by omega), R.ok_bind]
      show forR _ k [3] (x / 256 / 256, (x / 256 % 256) :: (x % 256) :: l) = _
      rw [forR_cons, hs _ _ (by simp; omega), if_neg (by omega), R.ok_bind]
      rfl
/-! ### the code -/
def Bs (ws : List Int) (s : Nat) : Int := 16777216 / ws.sum * ws.getD s 0
def cS (ws : List Int) (s : Nat) (y : Int) : Int := y / ws.getD s 0 * ws.sum + lo ws s + y % ws.getD s 0
def encL (ws : List Int) : List Nat → Int × List Int
  | [] => (65536, [])
  | s :: ms => (cS ws s (nY (Bs ws s) (encL ws ms).1), (nE (Bs ws s) (encL ws ms).1).reverse ++ (encL ws ms).2)
def Sy (ws : List Int) (s : Nat) : Prop := s < ws.length ∧ 0 < ws.getD s 0
structure Sf (ws : List Int) (s : Nat) (q w : Int) : Prop where
  w1 : 1 ≤ w
  w2 : w ≤ ws.sum
  q1 : 1 ≤ q
  qT : ws.sum * q = 65536
  eB : Bs ws s = 256 * (q * w)
  ew : ws.getD s 0 = w
  lt : s < ws.length
  l0 : 0 ≤ lo ws s
  l1 : lo ws s + w = lo ws (s + 1)
  l2 : lo ws s + w ≤ ws.sum
theorem sf_of {ws : List Int} (h : Wq ws) {s : Nat} (hs : Sy ws s) : ∃ q w, Sf ws s q w := by
  obtain ⟨q, e, q1⟩ := h.q
  have hp := h.pos
  have hw := h.at hs.1
  have e2 : (16777216 : Int) / ws.sum = 256 * q := by
    have : (16777216 : Int) = (256 * q) * ws.sum := by
      have : (16777216 : Int) = 256 * 65536 := by decide
      rw [this, e, Int.mul_comm ws.sum q, Int.mul_assoc]
    rw [this, Int.mul_ediv_cancel _ (by omega)]
  have e3 := getD_at ws hs.1
  have hw1 : 0 < ws.getD s 0 := hs.2
  have l3 := lo_succ ws s hs.1
  have l4 := lo_le h.nn (show s + 1 ≤ ws.length by exact hs.1)
  exact ⟨q, ws.getD s 0, by omega, by rw [e3]; exact hw.2, q1, e.symm, by unfold Bs; rw [e2, Int.mul_assoc], rfl, hs.1, lo_nn h.nn (Nat.le_of_lt hs.1), by omega, by omega⟩
theorem nY_ok {b x : Int} (hb : 1 ≤ b ∧ b ≤ 65536) (hx : 65536 ≤ x ∧ x < 16777216) : b ≤ nY (256 * b) x ∧ nY (256 * b) x < 256 * b := by
  unfold nY
  by_cases c1 : x < 256 * b
  · rw [if_pos c1]
    omega
  · rw [if_neg c1]
    by_cases c2 : x / 256 < 256 * b
    · rw [if_pos c2]
      omega
    · rw [if_neg c2]
      omega
theorem nE_wd {B x : Int} : Wd (nE B x) := by
  unfold nE Wd
  intro w hw
  split at hw
  · cases hw
  · split at hw
    · simp at hw
      omega
    · simp at hw
      omega
theorem Sf.b {ws : List Int} {s : Nat} {q w : Int} (f : Sf ws s q w) : 1 ≤ q * w ∧ q * w ≤ 65536 := by
  have h1 := f.w1
  have h2 := f.q1
  have m1 : 1 * 1 ≤ q * w := Int.mul_le_mul h2 h1 (by decide) (by omega)
  have m2 : q * w ≤ q * ws.sum := Int.mul_le_mul_of_nonneg_left f.w2 (by omega)
  have := f.qT
  rw [Int.mul_comm] at this
  omega
theorem cS_ok {ws : List Int} (h : Wt ws) {s : Nat} {q w y : Int} (f : Sf ws s q w) (hy : q * w ≤ y ∧ y < 256 * (q * w)) : 65536 ≤ cS ws s y ∧ cS ws s y < 16777216 ∧ pS ws (cS ws s y) = s ∧ pX ws (cS ws s y) = y := by
  have hw := f.w1
  have hp := h.pos
  have r1 := Int.emod_nonneg y (show w ≠ 0 by omega)
  have r2 := Int.emod_lt_of_pos y (show 0 < w by omega)
  have d1 : q ≤ y / w := Int.le_ediv_of_mul_le (by omega) hy.1
  have d2 : y / w < 256 * q := Int.ediv_lt_of_lt_mul (by omega) (by rw [Int.mul_assoc]; exact hy.2)
  have ey := Int.mul_ediv_add_emod y w
  have m1 : q * ws.sum ≤ y / w * ws.sum := Int.mul_le_mul_of_nonneg_right d1 (by omega)
  have m2 : y / w * ws.sum ≤ (256 * q - 1) * ws.sum := Int.mul_le_mul_of_nonneg_right (by omega) (by omega)
  have eT := f.qT
  rw [Int.mul_comm] at eT
  have m3 : (256 * q - 1) * ws.sum = 256 * (q * ws.sum) - ws.sum := by rw [Int.sub_mul, Int.one_mul, Int.mul_assoc]
  have ec : cS ws s y = (lo ws s + y % w) + y / w * ws.sum := by
    unfold cS
    rw [f.ew]
    omega
  have l0 := f.l0
  have l1 := f.l1
  have l2 := f.l2
  have em : cS ws s y % ws.sum = lo ws s + y % w := by
    rw [ec, Int.add_mul_emod_self_right, Int.emod_eq_of_lt (by omega) (by omega)]
  have ed : cS ws s y / ws.sum = y / w := by
    rw [ec, Int.add_mul_ediv_right _ _ (by omega), Int.ediv_eq_zero_of_lt (by omega) (by omega), Int.zero_add]
  have eS : pS ws (cS ws s y) = s := by
    obtain ⟨p1, p2, p3⟩ := h.ps (cS ws s y)
    rw [em] at p2 p3
    exact sA_uniq h.nn p1 f.lt p2 p3 (by omega) (by omega)
  refine ⟨by omega, by omega, eS, ?_⟩
  unfold pX
  rw [eS, em, ed, f.ew]
  omega
theorem encL_ok {ws : List Int} (h : Wq ws) : ∀ {ms : List Nat}, (∀ s ∈ ms, Sy ws s) → 65536 ≤ (encL ws ms).1 ∧ (encL ws ms).1 < 16777216 ∧ Wd (encL ws ms).2 ∧ (encL ws ms).2.length ≤ 2 * ms.length
  | [], _ => ⟨show (65536 : Int) ≤ 65536 by decide, show (65536 : Int) < 16777216 by decide, fun w hw => absurd hw List.not_mem_nil, Nat.le_refl _⟩
  | s :: ms, hs => by
    obtain ⟨i1, i2, i3, i4⟩ := encL_ok h (ms := ms) fun s q => hs s (List.mem_cons_of_mem _ q)
    obtain ⟨q, w, f⟩ := sf_of h (hs s List.mem_cons_self)
    have hy := nY_ok f.b ⟨i1, i2⟩
    rw [← f.eB] at hy
    have hc := cS_ok h.toWt f (y := nY (Bs ws s) (encL ws ms).1) ⟨hy.1, by rw [← f.eB]; exact hy.2⟩
    refine ⟨hc.1, hc.2.1, fun x hx => ?_, ?_⟩
    · rcases List.mem_append.mp hx with q | q
      · exact nE_wd x (List.mem_reverse.mp q)
      · exact i3 x q
    · show ((nE (Bs ws s) (encL ws ms).1).reverse ++ (encL ws ms).2).length ≤ 2 * (ms.length + 1)
      rw [List.length_append, List.length_reverse]
      have : (nE (Bs ws s) (encL ws ms).1).length ≤ 2 := by
        unfold nE
        split
        · simp
        · split <;> simp
      omega
/-! ### what is read back -/
theorem rd_pre (words rest : List Int) (u : Nat) (hr : words.drop u = rest) (h : 0 < rest.length) : ∃ hu : u < words.length, words[u] = rest[0] := by
  have hl : rest.length = words.length - u := by rw [← hr, List.length_drop]
  refine ⟨by omega, ?_⟩
  subst hr
  rw [List.getElem_drop]
  rfl
theorem rd_back (words rest : List Int) (u : Nat) (B x : Int) (hB : 256 ≤ B) (hx : 65536 ≤ x ∧ x < 16777216) (hr : words.drop u = (nE B x).reverse ++ rest) : rdW words 2 (nY B x) u = .ok (x, ((u + (nE B x).length : Nat) : Int)) := by
  unfold nE at hr
  unfold nY nE
  by_cases c1 : x < B
  · rw [if_pos c1, if_pos c1]
    exact rdW_big words 2 x u hx.1
  · rw [if_neg c1] at hr
    rw [if_neg c1, if_neg c1]
    by_cases c2 : x / 256 < B
    · rw [if_pos c2] at hr
      rw [if_pos c2, if_pos c2]
      obtain ⟨hu, e⟩ := rd_pre words _ u hr (by simp)
      unfold rdW
      rw [if_pos (by omega), dif_pos hu, e]
      show rdW words 1 (x / 256 * 256 + x % 256) (u + 1) = _
      rw [show x / 256 * 256 + x % 256 = x by omega, rdW_big _ _ _ _ hx.1]
      rfl
    · rw [if_neg c2] at hr
      rw [if_neg c2, if_neg c2]
      have hr' : words.drop u = (x / 256 % 256) :: (x % 256) :: rest := hr
      obtain ⟨hu, e⟩ := rd_pre words _ u hr' (by simp)
      have hr2 : words.drop (u + 1) = (x % 256) :: rest := by
        rw [← List.drop_drop, hr']
        rfl
      obtain ⟨hu2, e2⟩ := rd_pre words _ (u + 1) hr2 (by simp)
      unfold rdW
      rw [if_pos (by omega), dif_pos hu, e]
      show rdW words 1 (x / 256 / 256 * 256 + x / 256 % 256) (u + 1) = _
      rw [show x / 256 / 256 * 256 + x / 256 % 256 = x / 256 by omega]
      unfold rdW
      rw [if_pos (by omega), dif_pos hu2, e2]
      show rdW words 0 (x / 256 * 256 + x % 256) (u + 1 + 1) = _
      rw [show x / 256 * 256 + x % 256 = x by omega]
      rfl
theorem B_ge {ws : List Int} {s : Nat} {q w : Int} (f : Sf ws s q w) : 256 ≤ Bs ws s := by
  have := f.b
  rw [f.eB]
  omega
theorem dec_enc {ws : List Int} (h : Wq ws) (words rest : List Int) : ∀ (ms : List Nat) (u : Nat) (acc : List Int), (∀ s ∈ ms, Sy ws s) → words.drop u = (encL ws ms).2 ++ rest → decL ws words ms.length (encL ws ms).1 u acc = .ok ⟨acc ++ ms.map (fun (k : Nat) => (k : Int)), 65536, ((u + (encL ws ms).2.length : Nat) : Int)⟩
  | [], u, acc, _, _ => by
    show R.ok (T3.mk acc 65536 (u : Int)) = _
    rw [List.map_nil, List.append_nil]
    rfl
  | s :: ms, u, acc, hs, hr => by
    obtain ⟨i1, i2, i3, i4⟩ := encL_ok h (ms := ms) fun s q => hs s (List.mem_cons_of_mem _ q)
    obtain ⟨q, w, f⟩ := sf_of h (hs s List.mem_cons_self)
    have hy := nY_ok f.b ⟨i1, i2⟩
    rw [← f.eB] at hy
    have hc := cS_ok h.toWt f (y := nY (Bs ws s) (encL ws ms).1) ⟨hy.1, by rw [← f.eB]; exact hy.2⟩
    have hr' : words.drop u = (nE (Bs ws s) (encL ws ms).1).reverse ++ ((encL ws ms).2 ++ rest) := by
      rw [hr, ← List.append_assoc]
      rfl
    show (rdW words 2 (pX ws (cS ws s (nY (Bs ws s) (encL ws ms).1))) u).bind _ = _
    rw [hc.2.2.2, rd_back words _ u _ _ (B_ge f) ⟨i1, i2⟩ hr', R.ok_bind]
    show decL ws words ms.length (encL ws ms).1 (u + (nE (Bs ws s) (encL ws ms).1).length) (acc ++ [((pS ws (cS ws s (nY (Bs ws s) (encL ws ms).1)) : Nat) : Int)]) = _
    rw [hc.2.2.1, dec_enc h words rest ms _ _ (fun s q => hs s (List.mem_cons_of_mem _ q)) (by
      rw [← List.drop_drop, hr', List.drop_left' (by rw [List.length_reverse])])]
    rw [List.map_cons, List.append_assoc]
    show R.ok (T3.mk (acc ++ ((s : Int) :: ms.map fun (k : Nat) => (k : Int))) 65536 _) = _
    congr 2
    show ((u + (nE (Bs ws s) (encL ws ms).1).length + (encL ws ms).2.length : Nat) : Int) = ((u + ((nE (Bs ws s) (encL ws ms).1).reverse ++ (encL ws ms).2).length : Nat) : Int)
    rw [List.length_append, List.length_reverse, Nat.add_assoc]
/-- cut off -/
theorem rd_cut (words rest : List Int) (u n : Nat) (B x : Int) (hx : 65536 ≤ x ∧ x < 16777216) (hr : words.drop u = ((nE B x).reverse ++ rest).take n) (hu : u ≤ words.length) (hn : n < (nE B x).length) : rdW words 2 (nY B x) u = .er 0 words.length := by
  have hlen : words.length = u + n := by
    have h1 := congrArg List.length hr
    rw [List.length_drop, List.length_take, List.length_append, List.length_reverse] at h1
    omega
  unfold nE at hn hr
  unfold nY
  by_cases c1 : x < B
  · rw [if_pos c1] at hn
    simp at hn
  · rw [if_neg c1] at hn hr
    rw [if_neg c1]
    by_cases c2 : x / 256 < B
    · rw [if_pos c2] at hn
      rw [if_pos c2]
      have : n = 0 := by simp at hn; exact hn
      unfold rdW
      rw [if_pos (by omega), dif_neg (by omega)]
    · rw [if_neg c2] at hn hr
      rw [if_neg c2]
      have hn2 : n < 2 := by simp at hn; exact hn
      unfold rdW
      rw [if_pos (by omega)]
      by_cases c3 : n = 0
      · rw [dif_neg (by omega)]
      · have hr' : words.drop u = [x / 256 % 256] := by
          rw [hr, show n = 1 by omega]
          rfl
        obtain ⟨hu', e⟩ := rd_pre words _ u hr' (by simp)
        rw [dif_pos hu', e]
        show rdW words 1 (x / 256 / 256 * 256 + x / 256 % 256) (u + 1) = _
        rw [show x / 256 / 256 * 256 + x / 256 % 256 = x / 256 by omega]
        unfold rdW
        rw [if_pos (by omega), dif_neg (by omega)]
theorem dec_cut {ws : List Int} (h : Wq ws) (words : List Int) : ∀ (ms : List Nat) (u n : Nat) (acc : List Int), (∀ s ∈ ms, Sy ws s) → words.drop u = (encL ws ms).2.take n → u ≤ words.length → n < (encL ws ms).2.length → decL ws words ms.length (encL ws ms).1 u acc = .er 0 words.length
  | [], u, n, acc, _, _, _, hn => by cases hn
  | s :: ms, u, n, acc, hs, hr, hu, hn => by
    obtain ⟨i1, i2, i3, i4⟩ := encL_ok h (ms := ms) fun s q => hs s (List.mem_cons_of_mem _ q)
    obtain ⟨q, w, f⟩ := sf_of h (hs s List.mem_cons_self)
    have hy := nY_ok f.b ⟨i1, i2⟩
    rw [← f.eB] at hy
    have hc := cS_ok h.toWt f (y := nY (Bs ws s) (encL ws ms).1) ⟨hy.1, by rw [← f.eB]; exact hy.2⟩
    have hr' : words.drop u = ((nE (Bs ws s) (encL ws ms).1).reverse ++ (encL ws ms).2).take n := hr
    have hn' : n < (nE (Bs ws s) (encL ws ms).1).length + (encL ws ms).2.length := by
      have : n < ((nE (Bs ws s) (encL ws ms).1).reverse ++ (encL ws ms).2).length := hn
      rw [List.length_append, List.length_reverse] at this
      exact this
    show (rdW words 2 (pX ws (cS ws s (nY (Bs ws s) (encL ws ms).1))) u).bind _ = _
    rw [hc.2.2.2]
    by_cases c : n < (nE (Bs ws s) (encL ws ms).1).length
    · rw [rd_cut words _ u n _ _ ⟨i1, i2⟩ hr' hu c]
      rfl
    · have hlr : (nE (Bs ws s) (encL ws ms).1).reverse.length ≤ n := by
        rw [List.length_reverse]
        omega
      rw [List.take_append, List.take_of_length_le hlr] at hr'
      rw [rd_back words _ u _ _ (B_ge f) ⟨i1, i2⟩ hr', R.ok_bind]
      have hlw : words.length - u = (nE (Bs ws s) (encL ws ms).1).length + (n - (nE (Bs ws s) (encL ws ms).1).length) := by
        have h1 := congrArg List.length hr'
        rw [List.length_drop, List.length_append, List.length_reverse, List.length_take] at h1
        omega
      exact dec_cut h words ms (u + (nE (Bs ws s) (encL ws ms).1).length) (n - (nE (Bs ws s) (encL ws ms).1).length) _ (fun s q => hs s (List.mem_cons_of_mem _ q)) (by
        rw [← List.drop_drop, hr', List.drop_left' (by rw [List.length_reverse]), List.length_reverse]) (by omega) (by omega)
end Kx

namespace Kx
open PySem PySem.Spec PyProof.Rows L2 Kr
open Enc (toD)
def ci (ms : List Nat) : List Int := ms.map fun (k : Nat) => (k : Int)
theorem gD_at (ws : List Int) {s : Nat} (h : s < ws.length) : idxR ws (s : Int) = .ok (ws.getD s 0) := by
  rw [idxR_nat h, getD_at ws h]
theorem Bs_R {ws : List Int} (h : Wq ws) {s : Nat} (hs : Sy ws s) : ((divR 16777216 ws.sum).bind fun a => mulR a (ws.getD s 0)) = .ok (Bs ws s) := by
  obtain ⟨q, w, f⟩ := sf_of h hs
  have hp := h.pos
  have hl := h.le
  have h2 : (16777216 : Int) / ws.sum ≤ 16777216 := Int.ediv_le_self _ (by decide)
  have h3 : 0 ≤ (16777216 : Int) / ws.sum := Int.ediv_nonneg (by decide) (by omega)
  have := f.w1
  have := f.w2
  have := f.ew
  rw [divR_ok hp (by omega), R.ok_bind, mulR_ok (by omega) (by omega)]
  rfl
theorem dsp_same {τ : Type} (g : Mdl → τ) (M : Mdl) : dsp g g g M = g M := by cases M <;> rfl
theorem shares_eq (ws : List Int) (h : Wt ws) (ms : List Nat) (hs : ∀ s ∈ ms, Sy ws s) (hl : ms.length ≤ 1000) : f_shares (.c ws) (ci ms) = .ok (ms.map fun s => T3.mk (lo ws s) (ws.getD s 0) ws.sum) := by
  unfold f_shares b_shares
  simp only [R.ok_bind, R.ok_pu, R.er_bind, R.bad_bind, R.ok_map, finR_rt, seqF_nx, seqF_rt, R.bind_ok, R.bind_bind, decide_eq_true_eq, Bool.not_eq_true', decide_eq_false_iff_not, Bool.false_eq_true, if_true, if_false, ite_nx, dsp_same, fresh_eq, szR_nil]
  refine forR_elim (P := fun r => finR r = R.ok (ms.map fun s => T3.mk (lo ws s) (ws.getD s 0) ws.sum)) (fun i (s : Mdl × List (T3 Int Int Int)) => s = (.c ws, (ms.take i).map fun s => T3.mk (lo ws s) (ws.getD s 0) ws.sum)) rfl (fun i hi s hI => ?_) (fun s hI => ?_)
  · have hi' : i < ms.length := by
      unfold ci at hi
      rw [List.length_map] at hi
      exact hi
    have hsy := hs _ (List.getElem_mem hi')
    have ei : (ci ms)[i] = ((ms[i] : Nat) : Int) := List.getElem_map _
    subst hI
    rw [ei, low_eq, R.ok_pu, R.ok_bind, weight_eq ws _ hsy.1, R.ok_pu, R.ok_bind, total_eq, R.ok_pu, R.ok_bind, szR_ok (by simp; omega), R.ok_bind]
    refine ⟨_, rfl, ?_⟩
    rw [List.take_add_one, List.getElem?_eq_getElem hi', ← getD_at ws hsy.1]
    show (Mdl.c ws, _) = (Mdl.c ws, (ms.take i ++ [ms[i]]).map _)
    rw [List.map_append]
    rfl
  · rw [hI, finR_rt]
    unfold ci
    rw [List.length_map, List.take_length]
theorem enc_drop (ws : List Int) (ms : List Nat) {i : Nat} (hi : i < ms.length) : ms.drop (ms.length - (i + 1)) = ms[ms.length - 1 - i]'(by omega) :: ms.drop (ms.length - i) := by
  rw [List.drop_eq_getElem_cons (by omega)]
  congr 1
  · congr 1
    omega
  · congr 1
    omega
theorem pack_words_eq {ws : List Int} (h : Wq ws) (ms : List Nat) (hs : ∀ s ∈ ms, Sy ws s) (hl : ms.length ≤ 300) : f_pack_words (.c ws) (ci ms) = .ok (encL ws ms) := by
  unfold f_pack_words b_pack_words
  simp only [R.ok_bind, R.ok_pu, R.er_bind, R.bad_bind, R.ok_map, finR_rt, seqF_nx, seqF_rt, R.bind_ok, R.bind_bind, decide_eq_true_eq, Bool.not_eq_true', decide_eq_false_iff_not, Bool.false_eq_true, if_true, if_false, ite_nx, szR_nil]
  rw [shares_eq ws h.toWt ms hs (by omega), R.ok_pu, R.ok_bind]
  refine forR_elim (P := fun r => finR r = R.ok (encL ws ms)) (fun i (s : Int × List Int) => s = ((encL ws (ms.drop (ms.length - i))).1, (encL ws (ms.drop (ms.length - i))).2.reverse)) ?_ (fun i hi s hI => ?_) (fun s hI => ?_)
  · rw [Nat.sub_zero, List.drop_length]
    rfl
  · rw [List.length_reverse, List.length_map] at hi
    have hs2 : ∀ s ∈ ms.drop (ms.length - i), Sy ws s := fun s q => hs s (List.mem_of_mem_drop q)
    obtain ⟨i1, i2, i3, i4⟩ := encL_ok h hs2
    rw [List.length_drop] at i4
    have hsy := hs _ (List.getElem_mem (show ms.length - 1 - i < ms.length by omega))
    obtain ⟨q, w, f⟩ := sf_of h hsy
    have ei : (ms.map fun s => T3.mk (lo ws s) (ws.getD s 0) ws.sum).reverse[i]'(by rw [List.length_reverse, List.length_map]; exact hi) = T3.mk (lo ws (ms[ms.length - 1 - i]'(by omega))) (ws.getD (ms[ms.length - 1 - i]'(by omega)) 0) ws.sum := by
      rw [List.getElem_reverse, List.getElem_map]
      simp only [List.length_map]
    subst hI
    rw [ei, enc_drop ws ms hi]
    have hn := nrm_loop (S := Int × List Int) (ρ := Int × List Int) ws.sum (ws.getD (ms[ms.length - 1 - i]'(by omega)) 0) (Bs ws (ms[ms.length - 1 - i]'(by omega))) (Bs_R h hsy) (B_ge f) (encL ws (ms.drop (ms.length - i))).1 (encL ws (ms.drop (ms.length - i))).2.reverse ⟨i1, i2⟩ (by rw [List.length_reverse]; omega) (fun st_107 =>
                  (f_push (lo ws (ms[ms.length - 1 - i]'(by omega))) (ws.getD (ms[ms.length - 1 - i]'(by omega)) 0) ws.sum st_107.fst).pu.bind fun state_125 =>
                    R.ok (Fl.nx (state_125, st_107.snd)))
    refine ⟨_, hn.trans ?_, rfl⟩
    have hy := nY_ok f.b ⟨i1, i2⟩
    rw [← f.eB] at hy
    have hw1 := f.w1
    have hw2 := f.w2
    have hb := f.b
    have eB := f.eB
    have hle := h.le
    show (R.bind (f_push _ _ _ (nY _ _)).pu _) = _
    rw [push_eq _ _ _ _ (by rw [f.ew]; omega) (by rw [f.ew]; omega) (by omega) (by omega), R.ok_pu, R.ok_bind]
    show R.ok (Fl.nx (cS ws _ (nY _ _), (encL ws (ms.drop (ms.length - i))).2.reverse ++ nE _ _)) = R.ok (Fl.nx (cS ws _ (nY _ _), ((nE _ _).reverse ++ (encL ws (ms.drop (ms.length - i))).2).reverse))
    rw [List.reverse_append, List.reverse_reverse]
  · rw [hI, finR_rt, List.length_reverse, List.length_map, Nat.sub_self, List.drop_zero, List.reverse_reverse]
theorem lpacked_eq {ws : List Int} (h : Wq ws) (ms : List Nat) (hs : ∀ s ∈ ms, Sy ws s) (hl : ms.length ≤ 300) : f__law_packed ws (ci ms) = .ok (encL ws ms) := by
  have hcl : (ci ms).length = ms.length := List.length_map _
  unfold f__law_packed b__law_packed
  simp only [R.ok_bind, R.ok_pu, R.er_bind, R.bad_bind, R.ok_map, finR_rt, seqF_nx, seqF_rt, R.bind_ok, R.bind_bind, decide_eq_true_eq, Bool.not_eq_true', decide_eq_false_iff_not, Bool.false_eq_true, if_true, if_false, ite_nx, szR_nil, hcl]
  rw [rng1_nat (by omega), R.ok_bind]
  refine forR_elim (P := fun r => finR r = R.ok (encL ws ms)) (fun i (s : Int × List Int) => s = encL ws (ms.drop (ms.length - i))) ?_ (fun i hi s hI => ?_) (fun s hI => ?_)
  · rw [Nat.sub_zero, List.drop_length]
    rfl
  · rw [seqI_at hi]
    rw [seqI_len] at hi
    have hs2 : ∀ s ∈ ms.drop (ms.length - i), Sy ws s := fun s q => hs s (List.mem_of_mem_drop q)
    obtain ⟨i1, i2, i3, i4⟩ := encL_ok h hs2
    rw [List.length_drop] at i4
    have hsy := hs _ (List.getElem_mem (show ms.length - 1 - i < ms.length by omega))
    obtain ⟨q, w, f⟩ := sf_of h hsy
    subst hI
    have ei : idxR (ci ms) ((ms.length : Int) - 1 - (0 + (i : Int))) = .ok ((ms[ms.length - 1 - i]'(by omega) : Nat) : Int) := by
      rw [show (ms.length : Int) - 1 - (0 + (i : Int)) = ((ms.length - 1 - i : Nat) : Int) by omega, idxR_nat (by rw [hcl]; omega)]
      congr 1
      exact List.getElem_map _
    rw [ei, R.ok_bind, gD_at ws hsy.1, R.ok_bind, rng1_ok (by decide) (by decide), R.ok_bind, enc_drop ws ms hi]
    have hn := lnrm_loop (S := Int × List Int) (ρ := Int × List Int) ws.sum (ws.getD (ms[ms.length - 1 - i]'(by omega)) 0) (Bs ws (ms[ms.length - 1 - i]'(by omega))) (Bs_R h hsy) (B_ge f) (encL ws (ms.drop (ms.length - i))).1 (encL ws (ms.drop (ms.length - i))).2 ⟨i1, i2⟩ (by omega) (fun st_258 =>
                        (divR st_258.fst (ws.getD (ms[ms.length - 1 - i]'(by omega)) 0)).bind fun a =>
                          (mulR a ws.sum).bind fun a =>
                            (modR st_258.fst (ws.getD (ms[ms.length - 1 - i]'(by omega)) 0)).bind fun a_1 =>
                              R.ok (Fl.nx (a + (cut ws none (some ((ms[ms.length - 1 - i]'(by omega) : Nat) : Int))).sum + a_1, st_258.snd)))
    refine ⟨_, hn.trans ?_, rfl⟩
    have hy := nY_ok f.b ⟨i1, i2⟩
    rw [← f.eB] at hy
    have hw1 := f.w1
    have hw2 := f.w2
    have hb := f.b
    have eB := f.eB
    have hle := h.le
    have hp := h.pos
    have ew := f.ew
    have d1 : 0 ≤ nY (Bs ws (ms[ms.length - 1 - i]'(by omega))) (encL ws (ms.drop (ms.length - i))).1 / ws.getD (ms[ms.length - 1 - i]'(by omega)) 0 := Int.ediv_nonneg (by omega) (by omega)
    have d2 : nY (Bs ws (ms[ms.length - 1 - i]'(by omega))) (encL ws (ms.drop (ms.length - i))).1 / ws.getD (ms[ms.length - 1 - i]'(by omega)) 0 ≤ nY (Bs ws (ms[ms.length - 1 - i]'(by omega))) (encL ws (ms.drop (ms.length - i))).1 := Int.ediv_le_self _ (by omega)
    show (R.bind (divR (nY _ _) _) _) = _
    rw [divR_ok (by omega) (by omega), R.ok_bind, mulR_ok (by omega) (by omega), R.ok_bind]
    show (R.bind (modR (nY _ _) _) _) = _
    rw [modR_ok (by omega), R.ok_bind, cut_to]
    rfl
  · rw [hI, finR_rt, seqI_len, Nat.sub_self, List.drop_zero]
/-! ### the weights of the law -/
theorem cell_eq (ns : List Int) (k : Int) (hk : 0 ≤ k) : f__law_cell ⟨ns⟩ k = .ok (ns.getD k.toNat 0) := by
  unfold f__law_cell b__law_cell
  simp only [R.ok_bind, R.ok_pu, R.er_bind, R.bad_bind, R.ok_map, finR_rt, seqF_nx, seqF_rt, R.bind_ok, R.bind_bind, decide_eq_true_eq, Bool.not_eq_true', decide_eq_false_iff_not, Bool.false_eq_true, if_true, if_false, ite_nx]
  by_cases h : k < (ns.length : Int)
  · rw [if_pos h, idxR_ok hk h]
    simp only [R.ok_bind, R.ok_pu, R.er_bind, R.bad_bind, R.ok_map, finR_rt, seqF_nx, seqF_rt, R.bind_ok, R.bind_bind, decide_eq_true_eq, Bool.not_eq_true', decide_eq_false_iff_not, Bool.false_eq_true, if_true, if_false, ite_nx]
    rw [List.getD_eq_getElem?_getD, List.getElem?_eq_getElem (by omega)]
    rfl
  · rw [if_neg h]
    simp only [R.ok_bind, R.ok_pu, R.er_bind, R.bad_bind, R.ok_map, finR_rt, seqF_nx, seqF_rt, R.bind_ok, R.bind_bind, decide_eq_true_eq, Bool.not_eq_true', decide_eq_false_iff_not, Bool.false_eq_true, if_true, if_false, ite_nx]
    rw [List.getD_eq_getElem?_getD, List.getElem?_eq_none (by omega)]
    rfl
theorem pow_dv (e : Nat) (h : e ≤ 16) : (0 : Int) < 2 ^ e ∧ (2 : Int) ^ e ≤ 65536 ∧ (65536 : Int) % 2 ^ e = 0 := by
  have : ∀ e : Fin 17, (0 : Int) < 2 ^ e.val ∧ (2 : Int) ^ e.val ≤ 65536 ∧ (65536 : Int) % 2 ^ e.val = 0 := by decide
  exact this ⟨e, by omega⟩
theorem nn_app {xs : List Int} {x : Int} (h : Nn xs) (hx : 0 ≤ x) : Nn (xs ++ [x]) := fun w hw => by
  rcases List.mem_append.mp hw with q | q
  · exact h w q
  · rw [List.mem_singleton.mp q]
    exact hx
theorem eqq_toL (m : R Rt) : Eqq.ok (toL m) = true := by
  unfold toL
  split
  · rfl
  · show (PyData.strOk ("Truncated" : Str) && true) = true
    decide +kernel
  · show (PyData.strOk ("Truncated" : Str) && true) = true
    decide +kernel
theorem weights_eq (ns : List Int) : ∃ ws, f__law_weights ⟨ns⟩ = .ok ws ∧ Wq ws ∧ ws.length ≤ 6 := by
  unfold f__law_weights b__law_weights
  simp only [R.ok_bind, R.ok_pu, R.er_bind, R.bad_bind, R.ok_map, finR_rt, seqF_nx, seqF_rt, R.bind_ok, R.bind_bind, decide_eq_true_eq, Bool.not_eq_true', decide_eq_false_iff_not, Bool.false_eq_true, if_true, if_false, ite_nx, szR_nil]
  rw [cell_eq ns 0 (by decide), R.ok_pu, R.ok_bind]
  generalize ns.getD (0 : Int).toNat 0 = c0
  rw [modR_ok (by decide), R.ok_bind, divR_ok (by decide) (by decide), R.ok_bind, modR_ok (by decide), R.ok_bind, shlR_ok (by decide) (by omega), R.ok_bind, Int.one_mul]
  have hT := pow_dv (c0 / 6 % 17).toNat (by omega)
  generalize (2 : Int) ^ (c0 / 6 % 17).toNat = T at hT
  rw [rng1_ok (by omega) (by omega), R.ok_bind]
  refine forR_elim (P := fun r => ∃ ws, finR r = R.ok ws ∧ Wq ws ∧ ws.length ≤ 6) (fun i (s : List Int × Int) => Nn s.1 ∧ s.1.length = i ∧ 0 ≤ s.2 ∧ s.1.sum + s.2 = T) ⟨fun w hw => absurd hw List.not_mem_nil, rfl, by show 0 ≤ T; omega, by show (0 : Int) + T = T; omega⟩ (fun i hi s hI => ?_) (fun s hI => ?_)
  · obtain ⟨h1, h2, h3, h4⟩ := hI
    rw [seqI_at hi]
    rw [seqI_len] at hi
    rw [cell_eq ns _ (by omega), R.ok_pu, R.ok_bind]
    generalize ns.getD (1 + (0 + (i : Int))).toNat 0 = c
    have m1 := Int.emod_nonneg c (show s.2 + 1 ≠ 0 by omega)
    have m2 := Int.emod_lt_of_pos c (show 0 < s.2 + 1 by omega)
    rw [modR_ok (by omega), R.ok_bind, R.ok_bind, modR_ok (by decide), R.ok_bind, seqF_nx]
    have hx : 0 ≤ (if c % 3 = 1 then min s.2 1 else c % (s.2 + 1)) ∧ (if c % 3 = 1 then min s.2 1 else c % (s.2 + 1)) ≤ s.2 := by
      split <;> omega
    generalize (if c % 3 = 1 then min s.2 1 else c % (s.2 + 1)) = x at hx
    rw [szR_ok (by rw [List.length_append]; show s.1.length + 1 ≤ _; omega), R.ok_bind]
    refine ⟨_, rfl, nn_app h1 hx.1, by show (s.1 ++ [x]).length = i + 1; rw [List.length_append, h2]; rfl, by show 0 ≤ s.2 - x; omega, ?_⟩
    show (s.1 ++ [x]).sum + (s.2 - x) = T
    rw [sum_app]
    simp
    omega
  · obtain ⟨h1, h2, h3, h4⟩ := hI
    rw [seqI_len] at h2
    rw [szR_ok (by rw [List.length_append]; show s.1.length + 1 ≤ _; omega), R.ok_bind, finR_rt]
    have hsum : (s.1 ++ [s.2]).sum = T := by
      rw [sum_app]
      simp
      omega
    have hlen : (s.1 ++ [s.2]).length = s.1.length + 1 := by rw [List.length_append]; rfl
    exact ⟨_, rfl, ⟨⟨nn_app h1 h3, by omega, by omega, by omega⟩, by rw [hsum]; exact hT.2.2⟩, by omega⟩
theorem cut_le (xs : List Int) (a b : Nat) : (cut xs (some (a : Int)) (some (b : Int))).length ≤ b - a := by
  unfold cut
  rw [HT.sIx_nat, HT.sIx_nat, List.length_take]
  omega
theorem wd_map {xs : List Int} : Wd (xs.map fun a => a % 256) := fun w hw => by
  obtain ⟨x, _, rfl⟩ := List.mem_map.mp hw
  omega
theorem law_all : ∀ ns : List Int, ns.length ≤ 63 → f_law ⟨ns⟩ = .ok true := fun ns hn => by
  obtain ⟨ws, e, h, hl⟩ := weights_eq ns
  have hp := h.pos
  unfold f_law b_law
  simp only [R.ok_bind, R.ok_pu, R.er_bind, R.bad_bind, R.ok_map, finR_rt, seqF_nx, seqF_rt, R.bind_ok, R.bind_bind, decide_eq_true_eq, Bool.not_eq_true', decide_eq_false_iff_not, Bool.false_eq_true, if_true, if_false, ite_nx, e, R.ok_pu]
  show finR (R.bind (initC ⟨ws⟩).pu _) = _
  rw [show (initC ⟨ws⟩).pu = .ok (.c ws) from rfl, R.ok_bind, rng1_nat (by omega), R.ok_bind]
  rw [lcR_ok (fun k => decide (0 < gW ws k)) (fun k => k) (by rw [seqI_len]; omega) (fun x hx => by
    have hx := mem_seqI.mp hx
    rw [idxR_gW hx.1 (by omega), R.ok_bind]) (fun x _ _ => rfl), R.ok_bind, List.map_id']
  generalize hpr : (seqI 0 ws.length).filter (fun k => decide (0 < gW ws k)) = pr
  have hpS : ∀ k ∈ pr, 0 ≤ k ∧ Sy ws k.toNat := fun k hk => by
    rw [← hpr] at hk
    obtain ⟨h1, h2⟩ := List.mem_filter.mp hk
    have h1 := mem_seqI.mp h1
    have h2 := of_decide_eq_true h2
    exact ⟨h1.1, by omega, h2⟩
  have hp0 : 0 < pr.length := by
    obtain ⟨q1, q2, q3⟩ := h.toWt.ps 0
    have hw := lo_succ ws _ q1
    refine List.length_pos_of_mem (a := ((pS ws 0 : Nat) : Int)) ?_
    rw [← hpr]
    refine List.mem_filter.mpr ⟨mem_seqI.mpr (by omega), decide_eq_true ?_⟩
    unfold gW
    rw [show (((pS ws 0 : Nat) : Int)).toNat = pS ws 0 from rfl, getD_at ws q1]
    omega
  have hpl : pr.length ≤ ws.length := by
    rw [← hpr]
    exact Nat.le_trans (List.length_filter_le _ _) (by rw [seqI_len]; exact Nat.le_refl _)
  have c1 := cut_le ns 7 47
  rw [show ((7 : Nat) : Int) = 7 from rfl, show ((47 : Nat) : Int) = 47 from rfl] at c1
  rw [lcR_map (fun c => gW pr (c % (pr.length : Int))) (by omega) fun x _ => by
    have h1 := Int.emod_nonneg x (show (pr.length : Int) ≠ 0 by omega)
    have h2 := Int.emod_lt_of_pos x (show (0 : Int) < pr.length by omega)
    rw [modR_ok (by omega), R.ok_bind, idxR_gW h1 h2], R.ok_bind]
  have hms : ∃ ms : List Nat, (cut ns (some 7) (some 47)).map (fun c => gW pr (c % (pr.length : Int))) = ci ms ∧ (∀ s ∈ ms, Sy ws s) ∧ ms.length ≤ 40 := by
    refine ⟨((cut ns (some 7) (some 47)).map (fun c => gW pr (c % (pr.length : Int)))).map Int.toNat, ?_, fun s hs => ?_, by rw [List.length_map, List.length_map]; omega⟩
    · unfold ci
      rw [List.map_map, List.map_map]
      refine List.map_congr_left fun c _ => ?_
      have h1 := Int.emod_nonneg c (show (pr.length : Int) ≠ 0 by omega)
      have h2 := Int.emod_lt_of_pos c (show (0 : Int) < pr.length by omega)
      have e := idxR_gW (ws := pr) h1 h2
      rw [idxR_ok h1 h2] at e
      have := (hpS _ (List.getElem_mem (show (c % (pr.length : Int)).toNat < pr.length by omega))).1
      rw [R.ok.inj e] at this
      show gW pr _ = ((gW pr _).toNat : Int)
      omega
    · obtain ⟨k, hk, rfl⟩ := List.mem_map.mp hs
      obtain ⟨c, _, rfl⟩ := List.mem_map.mp hk
      have h1 := Int.emod_nonneg c (show (pr.length : Int) ≠ 0 by omega)
      have h2 := Int.emod_lt_of_pos c (show (0 : Int) < pr.length by omega)
      have e := idxR_gW (ws := pr) h1 h2
      rw [idxR_ok h1 h2] at e
      rw [← R.ok.inj e]
      exact (hpS _ (List.getElem_mem _)).2
  obtain ⟨ms, em, hs, hml⟩ := hms
  rw [em, pack_words_eq h ms hs (by omega), R.ok_pu, R.ok_bind, eqR_eq, R.ok_bind, if_neg (by rw [decide_eq_true rfl]; decide), lpacked_eq h ms hs (by omega), R.ok_pu, R.ok_bind, eqR_eq, R.ok_bind, if_neg (by rw [decide_eq_true rfl]; decide)]
  obtain ⟨i1, i2, i3, i4⟩ := encL_ok h hs
  rw [if_pos i1, R.ok_bind, decide_eq_true i2, R.ok_bind, if_neg (by decide)]
  have c2 := cut_le ns 47 50
  rw [show ((47 : Nat) : Int) = 47 from rfl, show ((50 : Nat) : Int) = 50 from rfl] at c2
  rw [lcR_map (fun a => a % 256) (by omega) fun x _ => modR_ok (by decide), R.ok_bind]
  have hb1 : Wd ((cut ns (some 47) (some 50)).map fun a => a % 256) := wd_map
  have hb2 : ((cut ns (some 47) (some 50)).map fun a => a % 256).length ≤ 3 := by rw [List.length_map]; omega
  generalize (cut ns (some 47) (some 50)).map (fun a => a % 256) = beh at hb1 hb2
  have hcl : ((ci ms).length : Int) = (ms.length : Int) := by
    unfold ci
    rw [List.length_map]
  rw [szR_ok (by rw [List.length_append]; omega), R.ok_bind, hcl, told_eq ws _ h.toWt (fun w hw => (List.mem_append.mp hw).elim (i3 w) (hb1 w)) _ ⟨i1, i2⟩ _ (by omega), R.ok_pu, R.ok_bind]
  rw [dec_enc h ((encL ws ms).2 ++ beh) beh ms 0 [] hs rfl]
  have e1 : toL (.ok ⟨[] ++ ms.map (fun (k : Nat) => (k : Int)), 65536, ((0 + (encL ws ms).2.length : Nat) : Int)⟩) = Sum.inl { a := ci ms, b := 65536, c := ((encL ws ms).2.length : Int) } := by
    show Sum.inl (T3.mk _ _ _) = _
    rw [List.nil_append, Nat.zero_add]
    rfl
  rw [e1, eqR_q _ _ rfl rfl, R.ok_bind, if_neg (by rw [decide_eq_true rfl]; decide), eqR_eq, R.ok_bind, if_neg (by rw [decide_eq_true rfl]; decide)]
  rw [cell_eq ns 50 (by decide), cell_eq ns 51 (by decide)]
  generalize ns.getD (50 : Int).toNat 0 = c50
  generalize ns.getD (51 : Int).toNat 0 = c51
  have hseq : (if (0 : Int) < ((encL ws ms).2.length : Int) then
                                          (R.ok c50).pu.bind fun a =>
                                            (modR a ((encL ws ms).2.length : Int)).bind fun a =>
                                              (f__law_told (.c ws) (encL ws ms).1 (cut (encL ws ms).2 none (some a))
                                                      (ms.length : Int)).pu.bind
                                                fun a_1 =>
                                                (eqR a_1
                                                      ((Sum.inr
                                                        (Str.ofString "Truncated",
                                                          ((cut (encL ws ms).2 none (some a)).length : Int))) : Rt ⊕ (Str × Int))).bind
                                                  fun a => if a = false then R.ok (Fl.rt false) else R.ok (Fl.nx ())
                                        else R.ok (Fl.nx ()) : R (Fl Unit Bool)) = .ok (.nx ()) := by
    by_cases c : (0 : Int) < ((encL ws ms).2.length : Int)
    · rw [if_pos c, R.ok_pu, R.ok_bind]
      have m1 := Int.emod_nonneg c50 (show ((encL ws ms).2.length : Int) ≠ 0 by omega)
      have m2 := Int.emod_lt_of_pos c50 c
      obtain ⟨k, hk⟩ : ∃ k : Nat, c50 % ((encL ws ms).2.length : Int) = (k : Int) := ⟨(c50 % ((encL ws ms).2.length : Int)).toNat, by omega⟩
      rw [modR_ok c, R.ok_bind, hk, cut_to]
      have hkl : k < (encL ws ms).2.length := by omega
      rw [told_eq ws _ h.toWt (fun w hw => i3 w (List.mem_of_mem_take hw)) _ ⟨i1, i2⟩ _ (by omega), R.ok_pu, R.ok_bind]
      rw [dec_cut h ((encL ws ms).2.take k) ms 0 k [] hs rfl (Nat.zero_le _) hkl]
      have e2 : toL (.er 0 ((((encL ws ms).2.take k).length : Nat) : Int)) = Sum.inr (Str.ofString "Truncated", ((((encL ws ms).2.take k).length : Nat) : Int)) := rfl
      rw [e2, eqR_q _ _ (by show (PyData.strOk ("Truncated" : Str) && true) = true; decide +kernel) (by show (PyData.strOk ("Truncated" : Str) && true) = true; decide +kernel), R.ok_bind, if_neg (by rw [decide_eq_true rfl]; decide)]
    · rw [if_neg c]
  rw [hseq, seqF_nx, R.ok_pu, R.ok_bind, modR_ok (by decide), R.ok_bind]
  have c3 := cut_le ns 52 63
  rw [show ((52 : Nat) : Int) = 52 from rfl, show ((63 : Nat) : Int) = 63 from rfl] at c3
  rw [lcR_map (fun a => a % 256) (by omega) fun x _ => modR_ok (by decide), R.ok_bind]
  have hb3 : Wd ((cut ns (some 52) (some 63)).map fun a => a % 256) := wd_map
  generalize (cut ns (some 52) (some 63)).map (fun a => a % 256) = wds at hb3
  rw [R.ok_pu, R.ok_bind, divR_ok (by decide) (by decide), R.ok_bind, modR_ok (by decide), R.ok_bind]
  have t1 := told_eq ws wds h.toWt hb3 (65536 + c51 % 16711680) (by omega) (c50 / 50 % 30).toNat (by omega)
  have t2 := lunpacked_eq ws wds h.toWt hb3 (65536 + c51 % 16711680) (by omega) (c50 / 50 % 30).toNat (by omega)
  rw [show (((c50 / 50 % 30).toNat : Nat) : Int) = c50 / 50 % 30 by omega] at t1 t2
  rw [t1, t2, R.ok_pu, R.ok_bind, R.ok_bind, eqR_q _ _ (eqq_toL _) (eqq_toL _), R.ok_bind, decide_eq_true rfl, finR_rt]
end Kx

namespace Kx
open PySem PySem.Spec PyProof.Rows L2 Kr
open Enc (toD)
abbrev s_KraftroomError_init : Stmt := inClass (topS 2) 0
abbrev s_Truncated_init : Stmt := inClass (topS 3) 0
def cfE (K : PySem.W.Frag) (cls : Nat → Addr) (mc : Nat → Addr := fun _ => 0) : Cf := ⟨K, cls, fun c => "Truncated", mc⟩
def cfK (K : PySem.W.Frag) (mc : Nat → Addr := fun _ => 0) : Cf := ⟨K, fun _ => 0, fun _ => "", mc⟩
theorem all_mk {l : PySem.W.OpenLaw} {w : World} {K : PySem.W.Frag} {h : Heap} {mg : Str → Option Value} {fa : Addr} (X : K.In h) (G : h.Ns mainGlobals mg) (hfa : mg "law" = some (.ref fa))
    {DM_Counts : Addr}
    {ad_push : Addr} {od_push an_push : Option Addr} {sl_push : Array (Option Value)} {oc_push kV_push dc_push pm_push cd_push ct_push : Value}
    (a_push : PySem.W.nsIn K mainGlobals "push" = some (some (.ref ad_push)))
    (l_push : K.lookup ad_push = some ⟨oc_push, od_push, .func (PySem.W.fnOf "push" "push" (defArgs s_push) (defBody s_push) (defScope s_push) .none kV_push dc_push pm_push an_push cd_push ct_push), sl_push⟩)
    (c_push : PySem.W.codeIn K cd_push "push" = true) (k_push : PySem.W.keepIn K (.ref ad_push) = true)
    {ad_Counts_init : Addr} {od_Counts_init an_Counts_init : Option Addr} {sl_Counts_init : Array (Option Value)} {oc_Counts_init kV_Counts_init dc_Counts_init pm_Counts_init cd_Counts_init ct_Counts_init : Value}
    (l_Counts_init : K.lookup ad_Counts_init = some ⟨oc_Counts_init, od_Counts_init, .func (PySem.W.fnOf "__init__" "Counts.__init__" (defArgs s_Counts_init) (defBody s_Counts_init) (defScope s_Counts_init) .none kV_Counts_init dc_Counts_init pm_Counts_init an_Counts_init cd_Counts_init ct_Counts_init), sl_Counts_init⟩)
    (c_Counts_init : PySem.W.codeIn K cd_Counts_init "Counts.__init__" = true) (k_Counts_init : PySem.W.keepIn K (.ref ad_Counts_init) = true) (n_Counts_init : PySem.W.isFn K (.ref ad_Counts_init) = true)
    {ad_Counts_total : Addr} {od_Counts_total an_Counts_total : Option Addr} {sl_Counts_total : Array (Option Value)} {oc_Counts_total kV_Counts_total dc_Counts_total pm_Counts_total cd_Counts_total ct_Counts_total : Value}
    (l_Counts_total : K.lookup ad_Counts_total = some ⟨oc_Counts_total, od_Counts_total, .func (PySem.W.fnOf "total" "Counts.total" (defArgs s_Counts_total) (defBody s_Counts_total) (defScope s_Counts_total) .none kV_Counts_total dc_Counts_total pm_Counts_total an_Counts_total cd_Counts_total ct_Counts_total), sl_Counts_total⟩)
    (c_Counts_total : PySem.W.codeIn K cd_Counts_total "Counts.total" = true) (k_Counts_total : PySem.W.keepIn K (.ref ad_Counts_total) = true) (n_Counts_total : PySem.W.isFn K (.ref ad_Counts_total) = true)
    {ad_Counts_low : Addr} {od_Counts_low an_Counts_low : Option Addr} {sl_Counts_low : Array (Option Value)} {oc_Counts_low kV_Counts_low dc_Counts_low pm_Counts_low cd_Counts_low ct_Counts_low : Value}
    (l_Counts_low : K.lookup ad_Counts_low = some ⟨oc_Counts_low, od_Counts_low, .func (PySem.W.fnOf "low" "Counts.low" (defArgs s_Counts_low) (defBody s_Counts_low) (defScope s_Counts_low) .none kV_Counts_low dc_Counts_low pm_Counts_low an_Counts_low cd_Counts_low ct_Counts_low), sl_Counts_low⟩)
    (c_Counts_low : PySem.W.codeIn K cd_Counts_low "Counts.low" = true) (k_Counts_low : PySem.W.keepIn K (.ref ad_Counts_low) = true) (n_Counts_low : PySem.W.isFn K (.ref ad_Counts_low) = true)
    {ad_Counts_weight : Addr} {od_Counts_weight an_Counts_weight : Option Addr} {sl_Counts_weight : Array (Option Value)} {oc_Counts_weight kV_Counts_weight dc_Counts_weight pm_Counts_weight cd_Counts_weight ct_Counts_weight : Value}
    (l_Counts_weight : K.lookup ad_Counts_weight = some ⟨oc_Counts_weight, od_Counts_weight, .func (PySem.W.fnOf "weight" "Counts.weight" (defArgs s_Counts_weight) (defBody s_Counts_weight) (defScope s_Counts_weight) .none kV_Counts_weight dc_Counts_weight pm_Counts_weight an_Counts_weight cd_Counts_weight ct_Counts_weight), sl_Counts_weight⟩)
    (c_Counts_weight : PySem.W.codeIn K cd_Counts_weight "Counts.weight" = true) (k_Counts_weight : PySem.W.keepIn K (.ref ad_Counts_weight) = true) (n_Counts_weight : PySem.W.isFn K (.ref ad_Counts_weight) = true)
    {ad_Counts_symbol_at : Addr} {od_Counts_symbol_at an_Counts_symbol_at : Option Addr} {sl_Counts_symbol_at : Array (Option Value)} {oc_Counts_symbol_at kV_Counts_symbol_at dc_Counts_symbol_at pm_Counts_symbol_at cd_Counts_symbol_at ct_Counts_symbol_at : Value}
    (l_Counts_symbol_at : K.lookup ad_Counts_symbol_at = some ⟨oc_Counts_symbol_at, od_Counts_symbol_at, .func (PySem.W.fnOf "symbol_at" "Counts.symbol_at" (defArgs s_Counts_symbol_at) (defBody s_Counts_symbol_at) (defScope s_Counts_symbol_at) .none kV_Counts_symbol_at dc_Counts_symbol_at pm_Counts_symbol_at an_Counts_symbol_at cd_Counts_symbol_at ct_Counts_symbol_at), sl_Counts_symbol_at⟩)
    (c_Counts_symbol_at : PySem.W.codeIn K cd_Counts_symbol_at "Counts.symbol_at" = true) (k_Counts_symbol_at : PySem.W.keepIn K (.ref ad_Counts_symbol_at) = true) (n_Counts_symbol_at : PySem.W.isFn K (.ref ad_Counts_symbol_at) = true)
    {ad_Counts_learn : Addr} {od_Counts_learn an_Counts_learn : Option Addr} {sl_Counts_learn : Array (Option Value)} {oc_Counts_learn kV_Counts_learn dc_Counts_learn pm_Counts_learn cd_Counts_learn ct_Counts_learn : Value}
    (l_Counts_learn : K.lookup ad_Counts_learn = some ⟨oc_Counts_learn, od_Counts_learn, .func (PySem.W.fnOf "learn" "Counts.learn" (defArgs s_Counts_learn) (defBody s_Counts_learn) (defScope s_Counts_learn) .none kV_Counts_learn dc_Counts_learn pm_Counts_learn an_Counts_learn cd_Counts_learn ct_Counts_learn), sl_Counts_learn⟩)
    (c_Counts_learn : PySem.W.codeIn K cd_Counts_learn "Counts.learn" = true) (k_Counts_learn : PySem.W.keepIn K (.ref ad_Counts_learn) = true) (n_Counts_learn : PySem.W.isFn K (.ref ad_Counts_learn) = true)
    {ad_Counts_fresh : Addr} {od_Counts_fresh an_Counts_fresh : Option Addr} {sl_Counts_fresh : Array (Option Value)} {oc_Counts_fresh kV_Counts_fresh dc_Counts_fresh pm_Counts_fresh cd_Counts_fresh ct_Counts_fresh : Value}
    (l_Counts_fresh : K.lookup ad_Counts_fresh = some ⟨oc_Counts_fresh, od_Counts_fresh, .func (PySem.W.fnOf "fresh" "Counts.fresh" (defArgs s_Counts_fresh) (defBody s_Counts_fresh) (defScope s_Counts_fresh) .none kV_Counts_fresh dc_Counts_fresh pm_Counts_fresh an_Counts_fresh cd_Counts_fresh ct_Counts_fresh), sl_Counts_fresh⟩)
    (c_Counts_fresh : PySem.W.codeIn K cd_Counts_fresh "Counts.fresh" = true) (k_Counts_fresh : PySem.W.keepIn K (.ref ad_Counts_fresh) = true) (n_Counts_fresh : PySem.W.isFn K (.ref ad_Counts_fresh) = true)
    {ad_pop : Addr} {od_pop an_pop : Option Addr} {sl_pop : Array (Option Value)} {oc_pop kV_pop dc_pop pm_pop cd_pop ct_pop : Value}
    (a_pop : PySem.W.nsIn K mainGlobals "pop" = some (some (.ref ad_pop)))
    (l_pop : K.lookup ad_pop = some ⟨oc_pop, od_pop, .func (PySem.W.fnOf "pop" "pop" (defArgs s_pop) (defBody s_pop) (defScope s_pop) .none kV_pop dc_pop pm_pop an_pop cd_pop ct_pop), sl_pop⟩)
    (c_pop : PySem.W.codeIn K cd_pop "pop" = true) (k_pop : PySem.W.keepIn K (.ref ad_pop) = true)
    {ad_shares : Addr} {od_shares an_shares : Option Addr} {sl_shares : Array (Option Value)} {oc_shares kV_shares dc_shares pm_shares cd_shares ct_shares : Value}
    (a_shares : PySem.W.nsIn K mainGlobals "shares" = some (some (.ref ad_shares)))
    (l_shares : K.lookup ad_shares = some ⟨oc_shares, od_shares, .func (PySem.W.fnOf "shares" "shares" (defArgs s_shares) (defBody s_shares) (defScope s_shares) .none kV_shares dc_shares pm_shares an_shares cd_shares ct_shares), sl_shares⟩)
    (c_shares : PySem.W.codeIn K cd_shares "shares" = true) (k_shares : PySem.W.keepIn K (.ref ad_shares) = true)
    {ad_pack_words : Addr} {od_pack_words an_pack_words : Option Addr} {sl_pack_words : Array (Option Value)} {oc_pack_words kV_pack_words dc_pack_words pm_pack_words cd_pack_words ct_pack_words : Value}
    (a_pack_words : PySem.W.nsIn K mainGlobals "pack_words" = some (some (.ref ad_pack_words)))
    (l_pack_words : K.lookup ad_pack_words = some ⟨oc_pack_words, od_pack_words, .func (PySem.W.fnOf "pack_words" "pack_words" (defArgs s_pack_words) (defBody s_pack_words) (defScope s_pack_words) .none kV_pack_words dc_pack_words pm_pack_words an_pack_words cd_pack_words ct_pack_words), sl_pack_words⟩)
    (c_pack_words : PySem.W.codeIn K cd_pack_words "pack_words" = true) (k_pack_words : PySem.W.keepIn K (.ref ad_pack_words) = true)
    {ad_unpack_words : Addr} {od_unpack_words an_unpack_words : Option Addr} {sl_unpack_words : Array (Option Value)} {oc_unpack_words kV_unpack_words dc_unpack_words pm_unpack_words cd_unpack_words ct_unpack_words : Value}
    (a_unpack_words : PySem.W.nsIn K mainGlobals "unpack_words" = some (some (.ref ad_unpack_words)))
    (l_unpack_words : K.lookup ad_unpack_words = some ⟨oc_unpack_words, od_unpack_words, .func (PySem.W.fnOf "unpack_words" "unpack_words" (defArgs s_unpack_words) (defBody s_unpack_words) (defScope s_unpack_words) .none kV_unpack_words dc_unpack_words pm_unpack_words an_unpack_words cd_unpack_words ct_unpack_words), sl_unpack_words⟩)
    (c_unpack_words : PySem.W.codeIn K cd_unpack_words "unpack_words" = true) (k_unpack_words : PySem.W.keepIn K (.ref ad_unpack_words) = true)
    {ad__law_cell : Addr} {od__law_cell an__law_cell : Option Addr} {sl__law_cell : Array (Option Value)} {oc__law_cell kV__law_cell dc__law_cell pm__law_cell cd__law_cell ct__law_cell : Value}
    (a__law_cell : PySem.W.nsIn K mainGlobals "_law_cell" = some (some (.ref ad__law_cell)))
    (l__law_cell : K.lookup ad__law_cell = some ⟨oc__law_cell, od__law_cell, .func (PySem.W.fnOf "_law_cell" "_law_cell" (defArgs s__law_cell) (defBody s__law_cell) (defScope s__law_cell) .none kV__law_cell dc__law_cell pm__law_cell an__law_cell cd__law_cell ct__law_cell), sl__law_cell⟩)
    (c__law_cell : PySem.W.codeIn K cd__law_cell "_law_cell" = true) (k__law_cell : PySem.W.keepIn K (.ref ad__law_cell) = true)
    {ad__law_weights : Addr} {od__law_weights an__law_weights : Option Addr} {sl__law_weights : Array (Option Value)} {oc__law_weights kV__law_weights dc__law_weights pm__law_weights cd__law_weights ct__law_weights : Value}
    (a__law_weights : PySem.W.nsIn K mainGlobals "_law_weights" = some (some (.ref ad__law_weights)))
    (l__law_weights : K.lookup ad__law_weights = some ⟨oc__law_weights, od__law_weights, .func (PySem.W.fnOf "_law_weights" "_law_weights" (defArgs s__law_weights) (defBody s__law_weights) (defScope s__law_weights) .none kV__law_weights dc__law_weights pm__law_weights an__law_weights cd__law_weights ct__law_weights), sl__law_weights⟩)
    (c__law_weights : PySem.W.codeIn K cd__law_weights "_law_weights" = true) (k__law_weights : PySem.W.keepIn K (.ref ad__law_weights) = true)
    {ad__law_packed : Addr} {od__law_packed an__law_packed : Option Addr} {sl__law_packed : Array (Option Value)} {oc__law_packed kV__law_packed dc__law_packed pm__law_packed cd__law_packed ct__law_packed : Value}
    (a__law_packed : PySem.W.nsIn K mainGlobals "_law_packed" = some (some (.ref ad__law_packed)))
    (l__law_packed : K.lookup ad__law_packed = some ⟨oc__law_packed, od__law_packed, .func (PySem.W.fnOf "_law_packed" "_law_packed" (defArgs s__law_packed) (defBody s__law_packed) (defScope s__law_packed) .none kV__law_packed dc__law_packed pm__law_packed an__law_packed cd__law_packed ct__law_packed), sl__law_packed⟩)
    (c__law_packed : PySem.W.codeIn K cd__law_packed "_law_packed" = true) (k__law_packed : PySem.W.keepIn K (.ref ad__law_packed) = true)
    {ad__law_unpacked : Addr} {od__law_unpacked an__law_unpacked : Option Addr} {sl__law_unpacked : Array (Option Value)} {oc__law_unpacked kV__law_unpacked dc__law_unpacked pm__law_unpacked cd__law_unpacked ct__law_unpacked : Value}
    (a__law_unpacked : PySem.W.nsIn K mainGlobals "_law_unpacked" = some (some (.ref ad__law_unpacked)))
    (l__law_unpacked : K.lookup ad__law_unpacked = some ⟨oc__law_unpacked, od__law_unpacked, .func (PySem.W.fnOf "_law_unpacked" "_law_unpacked" (defArgs s__law_unpacked) (defBody s__law_unpacked) (defScope s__law_unpacked) .none kV__law_unpacked dc__law_unpacked pm__law_unpacked an__law_unpacked cd__law_unpacked ct__law_unpacked), sl__law_unpacked⟩)
    (c__law_unpacked : PySem.W.codeIn K cd__law_unpacked "_law_unpacked" = true) (k__law_unpacked : PySem.W.keepIn K (.ref ad__law_unpacked) = true)
    {ad__law_told : Addr} {od__law_told an__law_told : Option Addr} {sl__law_told : Array (Option Value)} {oc__law_told kV__law_told dc__law_told pm__law_told cd__law_told ct__law_told : Value}
    (a__law_told : PySem.W.nsIn K mainGlobals "_law_told" = some (some (.ref ad__law_told)))
    (l__law_told : K.lookup ad__law_told = some ⟨oc__law_told, od__law_told, .func (PySem.W.fnOf "_law_told" "_law_told" (defArgs s__law_told) (defBody s__law_told) (defScope s__law_told) .none kV__law_told dc__law_told pm__law_told an__law_told cd__law_told ct__law_told), sl__law_told⟩)
    (c__law_told : PySem.W.codeIn K cd__law_told "_law_told" = true) (k__law_told : PySem.W.keepIn K (.ref ad__law_told) = true)
    {ad_law : Addr} {od_law an_law : Option Addr} {sl_law : Array (Option Value)} {oc_law kV_law dc_law pm_law cd_law ct_law : Value}
    (a_law : PySem.W.nsIn K mainGlobals "law" = some (some (.ref ad_law)))
    (l_law : K.lookup ad_law = some ⟨oc_law, od_law, .func (PySem.W.fnOf "law" "law" (defArgs s_law) (defBody s_law) (defScope s_law) .none kV_law dc_law pm_law an_law cd_law ct_law), sl_law⟩)
    (c_law : PySem.W.codeIn K cd_law "law" = true) (k_law : PySem.W.keepIn K (.ref ad_law) = true)
    (z_int : PySem.W.nsIn K mainGlobals "int" = some none)
    (z_len : PySem.W.nsIn K mainGlobals "len" = some none)
    (z_list : PySem.W.nsIn K mainGlobals "list" = some none)
    (z_min : PySem.W.nsIn K mainGlobals "min" = some none)
    (z_range : PySem.W.nsIn K mainGlobals "range" = some none)
    (z_reversed : PySem.W.nsIn K mainGlobals "reversed" = some none)
    (z_sum : PySem.W.nsIn K mainGlobals "sum" = some none)
    {t_GREATEST : Tok} (y_GREATEST : PySem.W.nsIn K mainGlobals "GREATEST" = some (some (.int 16777216 t_GREATEST)))
    {t_LEAST : Tok} (y_LEAST : PySem.W.nsIn K mainGlobals "LEAST" = some (some (.int 65536 t_LEAST)))
    (gM_Counts : PySem.W.nsIn K mainGlobals "Counts" = some (some (.ref DM_Counts))) (pg_Counts : PySem.W.plainGet K DM_Counts Str.empty = true) (hd_Counts : PySem.W.hasDictIn K DM_Counts = true) (po_Counts : PySem.W.plainOver K DM_Counts = true) (sa_Counts : PySem.W.findIn K (.ref DM_Counts) "__setattr__" = some (some (.builtin "object.__setattr__"))) (mk_Counts : PySem.W.makesIn K DM_Counts = true) (kc_Counts : PySem.W.keepIn K (.ref DM_Counts) = true) (in_Counts : PySem.W.findIn K (.ref DM_Counts) "__init__" = some (some (.ref ad_Counts_init)))
    (nf_Counts_weights : PySem.W.findIn K (.ref DM_Counts) "weights" = some none)
    (nf_Counts_step : PySem.W.findIn K (.ref DM_Counts) "step" = some none)
    (nf_Counts_limit : PySem.W.findIn K (.ref DM_Counts) "limit" = some none)
    (nf_Counts_learners : PySem.W.findIn K (.ref DM_Counts) "learners" = some none)
    (nf_Counts_current : PySem.W.findIn K (.ref DM_Counts) "current" = some none)
    (at_Counts_total : PySem.W.findIn K (.ref DM_Counts) "total" = some (some (.ref ad_Counts_total)))
    (at_Counts_low : PySem.W.findIn K (.ref DM_Counts) "low" = some (some (.ref ad_Counts_low)))
    (at_Counts_weight : PySem.W.findIn K (.ref DM_Counts) "weight" = some (some (.ref ad_Counts_weight)))
    (at_Counts_symbol_at : PySem.W.findIn K (.ref DM_Counts) "symbol_at" = some (some (.ref ad_Counts_symbol_at)))
    (at_Counts_learn : PySem.W.findIn K (.ref DM_Counts) "learn" = some (some (.ref ad_Counts_learn)))
    (at_Counts_fresh : PySem.W.findIn K (.ref DM_Counts) "fresh" = some (some (.ref ad_Counts_fresh)))
    (tp : (l.prog.main.scope.names.lookup ("super" : Str)).isSome = false) (z_super : PySem.W.nsIn K mainGlobals "super" = some none) (th : PySem.W.nsIn K PySem.cStatics "thirdparty.any" = some none)
    {tKB : Addr} {fKB cKB DKB : Addr} {ocKB kVKB dcKB pmKB ctKB clKB cclKB : Value} {odKB anKB cldKB cddKB : Option Addr} {oslKB cslKB ccsKB : Array (Option Value)} {vsKB : Array Value} {fileKB : Str} {tfKB : Tok} {cdaKB : Addr} {cdKB : ClassData}
    (lKB : K.lookup fKB = some ⟨ocKB, odKB, .func (PySem.W.ksFn "__init__" "KraftroomError.__init__" (defArgs s_KraftroomError_init) (defBody s_KraftroomError_init) (defScope s_KraftroomError_init) (.ref tKB) kVKB dcKB pmKB anKB (.ref cdaKB) ctKB cKB), oslKB⟩)
    (kKB : PySem.W.codeIn K (.ref cdaKB) "KraftroomError.__init__" = true) (ccKB : K.lookup cKB = some ⟨clKB, cldKB, .cell (some (.ref DKB)), cslKB⟩) (coKB : K.lookup cdaKB = some ⟨cclKB, cddKB, .fields vsKB, ccsKB⟩) (vfKB : vsKB[2]? = some (.str fileKB tfKB)) (flKB : ((l.prog.main.file : Str) == fileKB) = true)
    (cDKB : PySem.W.clsIn K DKB = some cdKB) (tyKB : PySem.W.typeIn K (.ref fKB) = some (.type "function")) (fnKB : PySem.W.fnIn K fKB = true)
    {tcKB tvKB : Value} {tdKB : Option Addr} {tnKB : Nat} {tsKB : Array (Option Value)} (tlKB : K.lookup tKB = some ⟨tcKB, tdKB, .seq #[tvKB] tnKB, tsKB⟩)
    {fE0 cE0 DE0 : Addr} {ocE0 kVE0 dcE0 pmE0 ctE0 clE0 cclE0 : Value} {odE0 anE0 cldE0 cddE0 : Option Addr} {oslE0 cslE0 ccsE0 : Array (Option Value)} {vsE0 : Array Value} {fileE0 : Str} {tfE0 : Tok} {cdaE0 : Addr} {cdE0 : ClassData}
    (lE0 : K.lookup fE0 = some ⟨ocE0, odE0, .func (PySem.W.ksFn "__init__" "Truncated.__init__" (defArgs s_Truncated_init) (defBody s_Truncated_init) (defScope s_Truncated_init) .none kVE0 dcE0 pmE0 anE0 (.ref cdaE0) ctE0 cE0), oslE0⟩)
    (kE0 : PySem.W.codeIn K (.ref cdaE0) "Truncated.__init__" = true) (ccE0 : K.lookup cE0 = some ⟨clE0, cldE0, .cell (some (.ref DE0)), cslE0⟩) (coE0 : K.lookup cdaE0 = some ⟨cclE0, cddE0, .fields vsE0, ccsE0⟩) (vfE0 : vsE0[2]? = some (.str fileE0 tfE0)) (flE0 : ((l.prog.main.file : Str) == fileE0) = true)
    (cDE0 : PySem.W.clsIn K DE0 = some cdE0) (tyE0 : PySem.W.typeIn K (.ref fE0) = some (.type "function")) (fnE0 : PySem.W.fnIn K fE0 = true)
    {nmE0 qE0 : Str} {NE0 : Addr} {bsE0 bmE0 : List Value} {snE0 : List Str} {subE0 : List Value} {abE0 : Bool} {colE0 : Option Bool} {ddE0 : Option Addr} {k0E0 k1E0 k2E0 k3E0 k5E0 : Option Value}
    (gE0 : PySem.W.nsIn K mainGlobals "Truncated" = some (some (.ref DE0))) (oE0 : K.lookup DE0 = some (excClassObj nmE0 qE0 DE0 NE0 bsE0 bmE0 true snE0 subE0 abE0 colE0 ddE0 k0E0 k1E0 k2E0 k3E0 k5E0 "ValueError.__new__")) (rE0 : PySem.HandSPX.refsVE bmE0 = true)
    (saE0 : PySem.W.findIn K (.ref DE0) "__setattr__" = some (some (.builtin "object.__setattr__"))) (exE0 : PySem.W.subIn K (.ref DE0) (.type "BaseException") = some true) (tcE0 : PySem.W.typeIn K (.ref DE0) = some (.type "type")) (kcE0 : PySem.W.keepIn K (.ref DE0) = true) (veE0 : PySem.W.subIn K (.ref DE0) (.type "ValueError") = some true)
    (npE0 : PySem.W.findIn K (.ref DE0) "place" = some none) (nnE0 : PySem.W.findIn K (.ref DE0) "name" = some none) (icE0 : PySem.W.findIn K (.ref DE0) "__init__" = some (some (.ref fE0))) (m1E0 : PySem.W.mroIn K DE0 (.ref DE0) = some true) (m2E0 : PySem.W.mroIn K DE0 (.ref DKB) = some true) (suE0 : PySem.W.ks_superIn K DE0 DE0 "__init__" = some (some (.ref fKB))) (svE0 : PySem.W.ks_superIn K DE0 DKB "__init__" = some (some (.builtin "ValueError.__init__")))
    (gaE0 : PySem.W.findIn K (.ref DE0) "__getattribute__" = some (some (.builtin "BaseException.__getattribute__"))) (ggE0 : PySem.W.findIn K (.ref DE0) "__getattr__" = some none) (hdE0 : PySem.W.hasDictIn K DE0 = true)
    (emE0E0 : PySem.W.exmOne K (.ref DE0) (.ref DE0) = some true)
    : ∃ fd : FuncData, (∀ (s : Shared) (v : Value), BindsTo s fd ⟨[v], []⟩ [("_law_script", v)]) ∧
      ∀ base : Heap, K.In base → base.Ns mainGlobals mg → FnOk l.prog w K mg base CX0 6 fa fd ["_law_script"] (SpP (cfK K) 1 (sp1 f_law)) := by
  have e := hfa.symm.trans (PySem.W.mg_of X G a_law)
  cases e
  refine ⟨PySem.W.fnOf "law" "law" (defArgs s_law) (defBody s_law) (defScope s_law) .none kV_law dc_law pm_law an_law cd_law ct_law, fun s v => .of_eq rfl, fun base _ _ => ?_⟩
  have hs := PySem.W.mg_none_of X G z_super
  have okKB : FnOk l.prog w K mg base CX0 1 fKB _ ["self", "place", "name"] (SpI K l.prog fKB cdaKB cKB DKB) := ok_kinit lKB kKB ccKB (NdefX.nscope_by (by decide +kernel)) (by decide +kernel) hs th rfl (fun env => rfl)
  have bdKB : Binds K (PySem.W.ksFn "__init__" "KraftroomError.__init__" (defArgs s_KraftroomError_init) (defBody s_KraftroomError_init) (defScope s_KraftroomError_init) (.ref tKB) kVKB dcKB pmKB anKB (.ref cdaKB) ctKB cKB) ["self", "place", "name"] [] := fun s us Y hl => match us, hl with
    | [u0, u1, u2], _ => BindsTo.of_looks fun M => by
      obtain ⟨k, q1, q2⟩ : ∃ k, bindArgs (PySem.W.ksFn "__init__" "KraftroomError.__init__" (defArgs s_KraftroomError_init) (defBody s_KraftroomError_init) (defScope s_KraftroomError_init) (.ref tKB) kVKB dcKB pmKB anKB (.ref cdaKB) ctKB cKB) ⟨[u0, u1, u2], []⟩ = seqItems? (.ref tKB) >>= k ∧ k (some #[tvKB]) = pure ([("self", u0), ("place", u1), ("name", u2)] : List (Str × Value)) := ⟨_, rfl, rfl⟩
      rw [q1]
      exact looks_items Y tlKB rfl (.of_pure q2)
  have oeE0 : OexC K DE0 := ⟨⟨nmE0, qE0, NE0, bsE0, bmE0, snE0, subE0, abE0, colE0, ddE0, k0E0, k1E0, k2E0, k3E0, k5E0, oE0, rE0⟩, saE0, exE0, tcE0, kcE0⟩
  have keE0 : KErr K l.prog fKB cdaKB cKB DKB DE0 := ⟨oeE0, ⟨⟨_, _, _, _, _, lKB, rfl, rfl⟩, ⟨_, _, _, _, _, _, coKB, vfKB, flKB⟩, ⟨_, _, _, ccKB⟩, ⟨_, cDKB⟩, m2E0, tp⟩, svE0, veE0, npE0, nnE0⟩
  have okE0 : FnOk l.prog w K mg base CX0 2 fE0 _ ["self", "place"] (SpE DE0 "Truncated") := ok_tinit lE0 kE0 ccE0 (NdefX.nscope_by (by decide +kernel)) (by decide +kernel) hs th ⟨⟨_, _, _, _, _, lE0, rfl, rfl⟩, ⟨_, _, _, _, _, _, coE0, vfE0, flE0⟩, ⟨_, _, _, ccE0⟩, ⟨_, cDE0⟩, m1E0, tp⟩ keE0 suE0 tyKB fnKB okKB bdKB rfl (fun env => rfl)
  have bdE0 : Binds K (PySem.W.ksFn "__init__" "Truncated.__init__" (defArgs s_Truncated_init) (defBody s_Truncated_init) (defScope s_Truncated_init) .none kVE0 dcE0 pmE0 anE0 (.ref cdaE0) ctE0 cE0) ["self", "place"] [] := .all fun us hl => match us, hl with | [_, _], _ => rfl
  let T : Txt l.prog w (cfE K (fun c => DE0) (fun k => if k = 0 then DM_Counts else if k = 1 then DM_Counts else DM_Counts)) mg base := {
    a_push := ad_push
    d_push := PySem.W.fnOf "push" "push" (defArgs s_push) (defBody s_push) (defScope s_push) .none kV_push dc_push pm_push an_push cd_push ct_push
    F_push := fun_mk (st := s_push) l_push c_push k_push
    b_push := (fun_mk (st := s_push) l_push c_push k_push).binds (ps := ["low", "weight", "total", "number"]) fun _ _ _ _ _ _ us hl => match us, hl with | [_, _, _, _], _ => rfl
    g_push := PySem.W.mg_of X G a_push
    a_Counts_init := ad_Counts_init
    d_Counts_init := PySem.W.fnOf "__init__" "Counts.__init__" (defArgs s_Counts_init) (defBody s_Counts_init) (defScope s_Counts_init) .none kV_Counts_init dc_Counts_init pm_Counts_init an_Counts_init cd_Counts_init ct_Counts_init
    F_Counts_init := fun_mk (st := s_Counts_init) l_Counts_init c_Counts_init k_Counts_init
    b_Counts_init := (fun_mk (st := s_Counts_init) l_Counts_init c_Counts_init k_Counts_init).binds (ps := ["self", "weights"]) fun _ _ _ _ _ _ us hl => match us, hl with | [_, _], _ => rfl
    a_Counts_total := ad_Counts_total
    d_Counts_total := PySem.W.fnOf "total" "Counts.total" (defArgs s_Counts_total) (defBody s_Counts_total) (defScope s_Counts_total) .none kV_Counts_total dc_Counts_total pm_Counts_total an_Counts_total cd_Counts_total ct_Counts_total
    F_Counts_total := fun_mk (st := s_Counts_total) l_Counts_total c_Counts_total k_Counts_total
    b_Counts_total := (fun_mk (st := s_Counts_total) l_Counts_total c_Counts_total k_Counts_total).binds (ps := ["self"]) fun _ _ _ _ _ _ us hl => match us, hl with | [_], _ => rfl
    a_Counts_low := ad_Counts_low
    d_Counts_low := PySem.W.fnOf "low" "Counts.low" (defArgs s_Counts_low) (defBody s_Counts_low) (defScope s_Counts_low) .none kV_Counts_low dc_Counts_low pm_Counts_low an_Counts_low cd_Counts_low ct_Counts_low
    F_Counts_low := fun_mk (st := s_Counts_low) l_Counts_low c_Counts_low k_Counts_low
    b_Counts_low := (fun_mk (st := s_Counts_low) l_Counts_low c_Counts_low k_Counts_low).binds (ps := ["self", "symbol"]) fun _ _ _ _ _ _ us hl => match us, hl with | [_, _], _ => rfl
    a_Counts_weight := ad_Counts_weight
    d_Counts_weight := PySem.W.fnOf "weight" "Counts.weight" (defArgs s_Counts_weight) (defBody s_Counts_weight) (defScope s_Counts_weight) .none kV_Counts_weight dc_Counts_weight pm_Counts_weight an_Counts_weight cd_Counts_weight ct_Counts_weight
    F_Counts_weight := fun_mk (st := s_Counts_weight) l_Counts_weight c_Counts_weight k_Counts_weight
    b_Counts_weight := (fun_mk (st := s_Counts_weight) l_Counts_weight c_Counts_weight k_Counts_weight).binds (ps := ["self", "symbol"]) fun _ _ _ _ _ _ us hl => match us, hl with | [_, _], _ => rfl
    a_Counts_symbol_at := ad_Counts_symbol_at
    d_Counts_symbol_at := PySem.W.fnOf "symbol_at" "Counts.symbol_at" (defArgs s_Counts_symbol_at) (defBody s_Counts_symbol_at) (defScope s_Counts_symbol_at) .none kV_Counts_symbol_at dc_Counts_symbol_at pm_Counts_symbol_at an_Counts_symbol_at cd_Counts_symbol_at ct_Counts_symbol_at
    F_Counts_symbol_at := fun_mk (st := s_Counts_symbol_at) l_Counts_symbol_at c_Counts_symbol_at k_Counts_symbol_at
    b_Counts_symbol_at := (fun_mk (st := s_Counts_symbol_at) l_Counts_symbol_at c_Counts_symbol_at k_Counts_symbol_at).binds (ps := ["self", "number"]) fun _ _ _ _ _ _ us hl => match us, hl with | [_, _], _ => rfl
    a_Counts_learn := ad_Counts_learn
    d_Counts_learn := PySem.W.fnOf "learn" "Counts.learn" (defArgs s_Counts_learn) (defBody s_Counts_learn) (defScope s_Counts_learn) .none kV_Counts_learn dc_Counts_learn pm_Counts_learn an_Counts_learn cd_Counts_learn ct_Counts_learn
    F_Counts_learn := fun_mk (st := s_Counts_learn) l_Counts_learn c_Counts_learn k_Counts_learn
    b_Counts_learn := (fun_mk (st := s_Counts_learn) l_Counts_learn c_Counts_learn k_Counts_learn).binds (ps := ["self", "symbol"]) fun _ _ _ _ _ _ us hl => match us, hl with | [_, _], _ => rfl
    a_Counts_fresh := ad_Counts_fresh
    d_Counts_fresh := PySem.W.fnOf "fresh" "Counts.fresh" (defArgs s_Counts_fresh) (defBody s_Counts_fresh) (defScope s_Counts_fresh) .none kV_Counts_fresh dc_Counts_fresh pm_Counts_fresh an_Counts_fresh cd_Counts_fresh ct_Counts_fresh
    F_Counts_fresh := fun_mk (st := s_Counts_fresh) l_Counts_fresh c_Counts_fresh k_Counts_fresh
    b_Counts_fresh := (fun_mk (st := s_Counts_fresh) l_Counts_fresh c_Counts_fresh k_Counts_fresh).binds (ps := ["self"]) fun _ _ _ _ _ _ us hl => match us, hl with | [_], _ => rfl
    a_pop := ad_pop
    d_pop := PySem.W.fnOf "pop" "pop" (defArgs s_pop) (defBody s_pop) (defScope s_pop) .none kV_pop dc_pop pm_pop an_pop cd_pop ct_pop
    F_pop := fun_mk (st := s_pop) l_pop c_pop k_pop
    b_pop := (fun_mk (st := s_pop) l_pop c_pop k_pop).binds (ps := ["model", "number"]) fun _ _ _ _ _ _ us hl => match us, hl with | [_, _], _ => rfl
    g_pop := PySem.W.mg_of X G a_pop
    a_shares := ad_shares
    d_shares := PySem.W.fnOf "shares" "shares" (defArgs s_shares) (defBody s_shares) (defScope s_shares) .none kV_shares dc_shares pm_shares an_shares cd_shares ct_shares
    F_shares := fun_mk (st := s_shares) l_shares c_shares k_shares
    b_shares := (fun_mk (st := s_shares) l_shares c_shares k_shares).binds (ps := ["model", "message"]) fun _ _ _ _ _ _ us hl => match us, hl with | [_, _], _ => rfl
    g_shares := PySem.W.mg_of X G a_shares
    a_pack_words := ad_pack_words
    d_pack_words := PySem.W.fnOf "pack_words" "pack_words" (defArgs s_pack_words) (defBody s_pack_words) (defScope s_pack_words) .none kV_pack_words dc_pack_words pm_pack_words an_pack_words cd_pack_words ct_pack_words
    F_pack_words := fun_mk (st := s_pack_words) l_pack_words c_pack_words k_pack_words
    b_pack_words := (fun_mk (st := s_pack_words) l_pack_words c_pack_words k_pack_words).binds (ps := ["model", "message"]) fun _ _ _ _ _ _ us hl => match us, hl with | [_, _], _ => rfl
    g_pack_words := PySem.W.mg_of X G a_pack_words
    a_unpack_words := ad_unpack_words
    d_unpack_words := PySem.W.fnOf "unpack_words" "unpack_words" (defArgs s_unpack_words) (defBody s_unpack_words) (defScope s_unpack_words) .none kV_unpack_words dc_unpack_words pm_unpack_words an_unpack_words cd_unpack_words ct_unpack_words
    F_unpack_words := fun_mk (st := s_unpack_words) l_unpack_words c_unpack_words k_unpack_words
    b_unpack_words := (fun_mk (st := s_unpack_words) l_unpack_words c_unpack_words k_unpack_words).binds (ps := ["model", "state", "words", "count"]) fun _ _ _ _ _ _ us hl => match us, hl with | [_, _, _, _], _ => rfl
    g_unpack_words := PySem.W.mg_of X G a_unpack_words
    a__law_cell := ad__law_cell
    d__law_cell := PySem.W.fnOf "_law_cell" "_law_cell" (defArgs s__law_cell) (defBody s__law_cell) (defScope s__law_cell) .none kV__law_cell dc__law_cell pm__law_cell an__law_cell cd__law_cell ct__law_cell
    F__law_cell := fun_mk (st := s__law_cell) l__law_cell c__law_cell k__law_cell
    b__law_cell := (fun_mk (st := s__law_cell) l__law_cell c__law_cell k__law_cell).binds (ps := ["_law_script", "_law_k"]) fun _ _ _ _ _ _ us hl => match us, hl with | [_, _], _ => rfl
    g__law_cell := PySem.W.mg_of X G a__law_cell
    a__law_weights := ad__law_weights
    d__law_weights := PySem.W.fnOf "_law_weights" "_law_weights" (defArgs s__law_weights) (defBody s__law_weights) (defScope s__law_weights) .none kV__law_weights dc__law_weights pm__law_weights an__law_weights cd__law_weights ct__law_weights
    F__law_weights := fun_mk (st := s__law_weights) l__law_weights c__law_weights k__law_weights
    b__law_weights := (fun_mk (st := s__law_weights) l__law_weights c__law_weights k__law_weights).binds (ps := ["_law_script"]) fun _ _ _ _ _ _ us hl => match us, hl with | [_], _ => rfl
    g__law_weights := PySem.W.mg_of X G a__law_weights
    a__law_packed := ad__law_packed
    d__law_packed := PySem.W.fnOf "_law_packed" "_law_packed" (defArgs s__law_packed) (defBody s__law_packed) (defScope s__law_packed) .none kV__law_packed dc__law_packed pm__law_packed an__law_packed cd__law_packed ct__law_packed
    F__law_packed := fun_mk (st := s__law_packed) l__law_packed c__law_packed k__law_packed
    b__law_packed := (fun_mk (st := s__law_packed) l__law_packed c__law_packed k__law_packed).binds (ps := ["_law_weights_here", "_law_message"]) fun _ _ _ _ _ _ us hl => match us, hl with | [_, _], _ => rfl
    g__law_packed := PySem.W.mg_of X G a__law_packed
    a__law_unpacked := ad__law_unpacked
    d__law_unpacked := PySem.W.fnOf "_law_unpacked" "_law_unpacked" (defArgs s__law_unpacked) (defBody s__law_unpacked) (defScope s__law_unpacked) .none kV__law_unpacked dc__law_unpacked pm__law_unpacked an__law_unpacked cd__law_unpacked ct__law_unpacked
    F__law_unpacked := fun_mk (st := s__law_unpacked) l__law_unpacked c__law_unpacked k__law_unpacked
    b__law_unpacked := (fun_mk (st := s__law_unpacked) l__law_unpacked c__law_unpacked k__law_unpacked).binds (ps := ["_law_weights_here", "_law_state", "_law_words", "_law_count"]) fun _ _ _ _ _ _ us hl => match us, hl with | [_, _, _, _], _ => rfl
    g__law_unpacked := PySem.W.mg_of X G a__law_unpacked
    a__law_told := ad__law_told
    d__law_told := PySem.W.fnOf "_law_told" "_law_told" (defArgs s__law_told) (defBody s__law_told) (defScope s__law_told) .none kV__law_told dc__law_told pm__law_told an__law_told cd__law_told ct__law_told
    F__law_told := fun_mk (st := s__law_told) l__law_told c__law_told k__law_told
    b__law_told := (fun_mk (st := s__law_told) l__law_told c__law_told k__law_told).binds (ps := ["_law_model", "_law_state", "_law_words", "_law_count"]) fun _ _ _ _ _ _ us hl => match us, hl with | [_, _, _, _], _ => rfl
    g__law_told := PySem.W.mg_of X G a__law_told
    a_law := fa
    d_law := PySem.W.fnOf "law" "law" (defArgs s_law) (defBody s_law) (defScope s_law) .none kV_law dc_law pm_law an_law cd_law ct_law
    F_law := fun_mk (st := s_law) l_law c_law k_law
    b_law := (fun_mk (st := s_law) l_law c_law k_law).binds (ps := ["_law_script"]) fun _ _ _ _ _ _ us hl => match us, hl with | [_], _ => rfl
    g_law := PySem.W.mg_of X G a_law
    n_int := PySem.W.mg_none_of X G z_int
    n_len := PySem.W.mg_none_of X G z_len
    n_list := PySem.W.mg_none_of X G z_list
    n_min := PySem.W.mg_none_of X G z_min
    n_range := PySem.W.mg_none_of X G z_range
    n_reversed := PySem.W.mg_none_of X G z_reversed
    n_sum := PySem.W.mg_none_of X G z_sum
    X_Truncated := { fI := fE0, fd := _, T := oeE0, iC := icE0, tI := tyE0, F1 := okE0, hb := bdE0, hm := PySem.W.mg_of X G gE0 }
    cF := ⟨⟨pg_Counts, hd_Counts, po_Counts, sa_Counts⟩, ⟨pg_Counts, hd_Counts, po_Counts, sa_Counts⟩, ⟨pg_Counts, hd_Counts, po_Counts, sa_Counts⟩, nf_Counts_weights, nf_Counts_weights, nf_Counts_step, nf_Counts_limit, nf_Counts_step, nf_Counts_limit, nf_Counts_learners, nf_Counts_current⟩
    mk_0 := ⟨mk_Counts, in_Counts, n_Counts_init, kc_Counts⟩
    g_Counts := PySem.W.mg_of X G gM_Counts
    me_0_total := ⟨at_Counts_total, n_Counts_total, k_Counts_total⟩
    me_1_total := ⟨at_Counts_total, n_Counts_total, k_Counts_total⟩
    me_2_total := ⟨at_Counts_total, n_Counts_total, k_Counts_total⟩
    me_0_low := ⟨at_Counts_low, n_Counts_low, k_Counts_low⟩
    me_1_low := ⟨at_Counts_low, n_Counts_low, k_Counts_low⟩
    me_2_low := ⟨at_Counts_low, n_Counts_low, k_Counts_low⟩
    me_0_weight := ⟨at_Counts_weight, n_Counts_weight, k_Counts_weight⟩
    me_1_weight := ⟨at_Counts_weight, n_Counts_weight, k_Counts_weight⟩
    me_2_weight := ⟨at_Counts_weight, n_Counts_weight, k_Counts_weight⟩
    me_0_symbol_at := ⟨at_Counts_symbol_at, n_Counts_symbol_at, k_Counts_symbol_at⟩
    me_1_symbol_at := ⟨at_Counts_symbol_at, n_Counts_symbol_at, k_Counts_symbol_at⟩
    me_2_symbol_at := ⟨at_Counts_symbol_at, n_Counts_symbol_at, k_Counts_symbol_at⟩
    me_0_learn := ⟨at_Counts_learn, n_Counts_learn, k_Counts_learn⟩
    me_1_learn := ⟨at_Counts_learn, n_Counts_learn, k_Counts_learn⟩
    me_2_learn := ⟨at_Counts_learn, n_Counts_learn, k_Counts_learn⟩
    me_0_fresh := ⟨at_Counts_fresh, n_Counts_fresh, k_Counts_fresh⟩
    me_1_fresh := ⟨at_Counts_fresh, n_Counts_fresh, k_Counts_fresh⟩
    me_2_fresh := ⟨at_Counts_fresh, n_Counts_fresh, k_Counts_fresh⟩
    nm_Truncated := rfl
    Y_Truncated := ⟨⟨gaE0, ggE0, exE0, hdE0⟩, nnE0, npE0⟩

    m_0_0 := emE0E0
    k_GREATEST := t_GREATEST
    c_GREATEST := PySem.W.mg_of X G y_GREATEST
    k_LEAST := t_LEAST
    c_LEAST := PySem.W.mg_of X G y_LEAST }
  exact ok_law T
theorem law_end {K : PySem.W.Frag} {H : Hp} {a : Addr} {ns : List Int} {E : XK} (hl : ns.length ≤ 63) (hS : SqL K H a (ns.map V.int)) (hlaw : ∀ ns : List Int, ns.length ≤ 63 → f_law ⟨ns⟩ = .ok true) : SpP (cfK K) 1 (sp1 f_law) [.ref a] H (fun v _ => v = .bl true) E :=
  ⟨rfl, H, fun _ => none, [toD (Scr.mk ns)], toD true, ⟨Le.refl H, fun _ _ e => (nomatch e), fun _ _ => rfl⟩, .cons (.scr hS) .nil, ⟨⟨ns⟩, rfl, by rw [hlaw ns hl]; rfl⟩, fun v F' H' _ _ r => dr_bl (i := true) r⟩
end Kx
open PySem PySem.W PyProof.Rows
set_option maxHeartbeats 0 in
theorem PySem.Challenge.cw_kraftroom_k13_whole_messages_in_words_holds : PySem.Challenge.rw_kraftroom_k13_whole_messages_in_words.Holds := by
  w_on; o_law; k_head; (case hw => w_witness2)
  k_fill
  refine L2.walk_of (l := PySem.Challenge.rw_kraftroom_k13_whole_messages_in_words) (n := 63) (k := 6) (x := "_law_script") (CX := fun _ => L2.CX0) (sp := fun w => Kr.SpP (Kx.cfK _) 1 (Kr.sp1 Kx.f_law)) rfl (by decide) rfl ⟨rfl, by decide, by decide⟩ (fun w h Y => PySem.W.kIn_of Y) ?F (fun _ _ a ns hl _ hS => Kx.law_end hl hS Kx.law_all) (fun _ _ _ _ _ h => h)
  case F =>
    intro w mg fa h KX G hmg
    refine' Kx.all_mk KX G hmg ?a_push ?l_push ?c_push ?k_push ?l_Counts_init ?c_Counts_init ?k_Counts_init ?n_Counts_init ?l_Counts_total ?c_Counts_total ?k_Counts_total ?n_Counts_total ?l_Counts_low ?c_Counts_low ?k_Counts_low ?n_Counts_low ?l_Counts_weight ?c_Counts_weight ?k_Counts_weight ?n_Counts_weight ?l_Counts_symbol_at ?c_Counts_symbol_at ?k_Counts_symbol_at ?n_Counts_symbol_at ?l_Counts_learn ?c_Counts_learn ?k_Counts_learn ?n_Counts_learn ?l_Counts_fresh ?c_Counts_fresh ?k_Counts_fresh ?n_Counts_fresh ?a_pop ?l_pop ?c_pop ?k_pop ?a_shares ?l_shares ?c_shares ?k_shares ?a_pack_words ?l_pack_words ?c_pack_words ?k_pack_words ?a_unpack_words ?l_unpack_words ?c_unpack_words ?k_unpack_words ?a__law_cell ?l__law_cell ?c__law_cell ?k__law_cell ?a__law_weights ?l__law_weights ?c__law_weights ?k__law_weights ?a__law_packed ?l__law_packed ?c__law_packed ?k__law_packed ?a__law_unpacked ?l__law_unpacked ?c__law_unpacked ?k__law_unpacked ?a__law_told ?l__law_told ?c__law_told ?k__law_told ?a_law ?l_law ?c_law ?k_law ?z_int ?z_len ?z_list ?z_min ?z_range ?z_reversed ?z_sum ?y_GREATEST ?y_LEAST ?gM_Counts ?pg_Counts ?hd_Counts ?po_Counts ?sa_Counts ?mk_Counts ?kc_Counts ?in_Counts ?nf_Counts_weights ?nf_Counts_step ?nf_Counts_limit ?nf_Counts_learners ?nf_Counts_current ?at_Counts_total ?at_Counts_low ?at_Counts_weight ?at_Counts_symbol_at ?at_Counts_learn ?at_Counts_fresh ?tp ?z_super ?th ?lKB ?kKB ?ccKB ?coKB ?vfKB ?flKB ?cDKB ?tyKB ?fnKB ?tlKB ?lE0 ?kE0 ?ccE0 ?coE0 ?vfE0 ?flE0 ?cDE0 ?tyE0 ?fnE0 ?gE0 ?oE0 ?rE0 ?saE0 ?exE0 ?tcE0 ?kcE0 ?veE0 ?npE0 ?nnE0 ?icE0 ?m1E0 ?m2E0 ?suE0 ?svE0 ?gaE0 ?ggE0 ?hdE0 ?emE0E0
    (case gM_Counts => k_is); (case gE0 => k_is); (case a_push => k_is); (case a_pop => k_is); (case a_shares => k_is); (case a_pack_words => k_is); (case a_unpack_words => k_is); (case a__law_cell => k_is); (case a__law_weights => k_is); (case a__law_packed => k_is); (case a__law_unpacked => k_is); (case a__law_told => k_is); (case a_law => k_is); (case in_Counts => k_is); (case at_Counts_total => k_is); (case at_Counts_low => k_is); (case at_Counts_weight => k_is); (case at_Counts_symbol_at => k_is); (case at_Counts_learn => k_is); (case at_Counts_fresh => k_is); (case icE0 => k_is); (case suE0 => first | ks_is | k_is | rfl | decide +kernel); (case l_push => k_is); (case l_Counts_init => k_is); (case l_Counts_total => k_is); (case l_Counts_low => k_is); (case l_Counts_weight => k_is); (case l_Counts_symbol_at => k_is); (case l_Counts_learn => k_is); (case l_Counts_fresh => k_is); (case l_pop => k_is); (case l_shares => k_is); (case l_pack_words => k_is); (case l_unpack_words => k_is); (case l__law_cell => k_is); (case l__law_weights => k_is); (case l__law_packed => k_is); (case l__law_unpacked => k_is); (case l__law_told => k_is); (case l_law => k_is); (case lKB => k_is); (case lE0 => k_is); (case ccKB => k_is); (case c_push => k_is); (case k_push => k_is); (case c_Counts_init => k_is); (case k_Counts_init => k_is); (case n_Counts_init => k_is); (case c_Counts_total => k_is); (case k_Counts_total => k_is); (case n_Counts_total => k_is); (case c_Counts_low => k_is); (case k_Counts_low => k_is); (case n_Counts_low => k_is); (case c_Counts_weight => k_is); (case k_Counts_weight => k_is); (case n_Counts_weight => k_is); (case c_Counts_symbol_at => k_is); (case k_Counts_symbol_at => k_is); (case n_Counts_symbol_at => k_is); (case c_Counts_learn => k_is); (case k_Counts_learn => k_is); (case n_Counts_learn => k_is); (case c_Counts_fresh => k_is); (case k_Counts_fresh => k_is); (case n_Counts_fresh => k_is); (case c_pop => k_is); (case k_pop => k_is); (case c_shares => k_is); (case k_shares => k_is); (case c_pack_words => k_is); (case k_pack_words => k_is); (case c_unpack_words => k_is); (case k_unpack_words => k_is); (case c__law_cell => k_is); (case k__law_cell => k_is); (case c__law_weights => k_is); (case k__law_weights => k_is); (case c__law_packed => k_is); (case k__law_packed => k_is); (case c__law_unpacked => k_is); (case k__law_unpacked => k_is); (case c__law_told => k_is); (case k__law_told => k_is); (case c_law => k_is); (case k_law => k_is); (case z_int => k_is); (case z_len => k_is); (case z_list => k_is); (case z_min => k_is); (case z_range => k_is); (case z_reversed => k_is); (case z_sum => k_is); (case y_GREATEST => k_is); (case y_LEAST => k_is); (case pg_Counts => k_is); (case hd_Counts => first | ks_is | k_is | rfl | decide +kernel); (case po_Counts => k_is); (case sa_Counts => k_is); (case mk_Counts => k_is); (case kc_Counts => k_is); (case nf_Counts_weights => k_is); (case nf_Counts_step => k_is); (case nf_Counts_limit => k_is); (case nf_Counts_learners => k_is); (case nf_Counts_current => k_is); (case tp => first | ks_is | k_is | rfl | decide +kernel); (case z_super => k_is); (case th => k_is); (case kKB => k_is); (case coKB => k_is); (case vfKB => first | ks_is | k_is | rfl | decide +kernel); (case flKB => first | ks_is | k_is | rfl | decide +kernel); (case cDKB => k_is); (case tyKB => k_is); (case fnKB => k_is); (case tlKB => k_is); (case kE0 => k_is); (case ccE0 => k_is); (case coE0 => k_is); (case vfE0 => first | ks_is | k_is | rfl | decide +kernel); (case flE0 => first | ks_is | k_is | rfl | decide +kernel); (case cDE0 => k_is); (case tyE0 => k_is); (case fnE0 => k_is); (case oE0 => k_is); (case rE0 => first | ks_is | k_is | rfl | decide +kernel); (case saE0 => k_is); (case exE0 => k_is); (case tcE0 => k_is); (case kcE0 => k_is); (case veE0 => k_is); (case npE0 => k_is); (case nnE0 => k_is); (case m1E0 => k_is); (case m2E0 => k_is); (case svE0 => first | ks_is | k_is | rfl | decide +kernel); (case gaE0 => k_is); (case ggE0 => k_is); (case hdE0 => first | ks_is | k_is | rfl | decide +kernel); (case emE0E0 => first | ks_is | k_is | rfl | decide +kernel)
