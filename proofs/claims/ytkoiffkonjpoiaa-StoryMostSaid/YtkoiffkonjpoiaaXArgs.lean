/- What an argument of a law reads as: whole numbers, truths, structs and slices of such, taken from the row's reading into the printed kinds. -/
import Derived.Test.YtkoiffkonjpoiaaWWords
import Derived.Test.YtkoiffkonjpoiaaWMore
import Derived.Test.YtkoiffkonjpoiaaWSized
import Derived.Deep.Slices
import Derived.SizedLaws
import Derived.WideShapes
namespace Go.Proofs.YtkoiffkonjpoiaaX
open Go.RowKit Go.ChangeShapes Go.WideShapes Go.Deep Go.Proofs.YtkoiffkonjpoiaaW.PrintWords Go.Proofs.YtkoiffkonjpoiaaW.PrintMore

/-- Cells of type t that are read are of kind d, and what they say is ok. -/
def Rd (P : Program) (t : TypeId) {α : Type} (d : Kd α) (ok : α → Prop) : Prop :=
  ∀ (H : Type) (enc : TypeId × Value → H) (w : World) (spare : Nat → Bool) (held : Bool) (fuel : Nat) (cs : List Value) (x : DataW H × List MemPlace),
    DataW.trod enc P w 0 spare held fuel t cs = some x → ∃ a, d.K w a cs ∧ ok a

theorem Rd.int {P : Program} {t : TypeId} {k : IntKind} (ht : P.underlying t = some (.int k)) : Rd P t (Kd.int k) (fun n => (Lit.int k n).wf = true) := by
  intro H enc w spare held fuel cs x h
  obtain ⟨n, rfl, _, hw⟩ := DataW.trod_int ht h
  exact ⟨n, rfl, hw⟩
theorem Rd.bool {P : Program} {t : TypeId} (ht : P.underlying t = some .bool) : Rd P t Kd.bool (fun _ => True) := by
  intro H enc w spare held fuel cs x h
  obtain ⟨b, rfl, _⟩ := DataW.trod_bool ht h
  exact ⟨b, rfl, trivial⟩
theorem Rd.iso {P : Program} {t : TypeId} {α β : Type} {d : Kd α} {ok : α → Prop} {f : β → α} (g : α → β) (hg : ∀ a, f (g a) = a) (h : Rd P t d ok) : Rd P t (Kd.iso d f) (fun x => ok (f x)) := by
  intro H enc w spare held fuel cs x hx
  obtain ⟨a, ha, hok⟩ := h H enc w spare held fuel cs x hx
  exact ⟨g a, by show d.K w (f (g a)) cs; rw [hg]; exact ha, by show ok (f (g a)); rw [hg]; exact hok⟩

/-- The fields from cell o on are of kind d. -/
def RdF (P : Program) (fs : List Field) (o : Nat) {α : Type} (d : Kd α) (ok : α → Prop) : Prop :=
  ∀ (H : Type) (enc : TypeId × Value → H) (w : World) (spare : Nat → Bool) (held : Bool) (fuel : Nat) (cs : List Value) (xs : List (DataW H × List MemPlace)),
    cs.length = o + d.sz → xs.length = fs.length → (∀ (i : Nat) (f : Field), fs[i]? = some f → DataW.trod enc P w 0 spare held fuel f.type ((cs.drop f.offset).take (P.cellsOf f.type)) = xs[i]?) → ∃ a, d.K w a (cs.drop o) ∧ ok a

theorem RdF.one {P : Program} {f : Field} {o : Nat} {α : Type} {d : Kd α} {ok : α → Prop} (ho : f.offset = o) (hc : P.cellsOf f.type = d.sz) (h : Rd P f.type d ok) : RdF P [f] o d ok := by
  intro H enc w spare held fuel cs xs hl hx hf
  obtain ⟨x, rfl⟩ : ∃ x, xs = [x] := by
    match xs, hx with
    | [x], _ => exact ⟨x, rfl⟩
  have h1 := hf 0 f rfl
  rw [ho, hc, List.take_of_length_le (by rw [List.length_drop]; omega)] at h1
  exact h H enc w spare held fuel _ _ h1
theorem RdF.cons {P : Program} {f : Field} {fs : List Field} {o : Nat} {α β : Type} {a : Kd α} {b : Kd β} {oka : α → Prop} {okb : β → Prop} (ho : f.offset = o) (hc : P.cellsOf f.type = a.sz) (h : Rd P f.type a oka) (hs : RdF P fs (o + a.sz) b okb) :
    RdF P (f :: fs) o (Kd.pair a b) (fun x => oka x.1 ∧ okb x.2) := by
  intro H enc w spare held fuel cs xs hl hx hf
  have hsz : (Kd.pair a b).sz = a.sz + b.sz := rfl
  obtain ⟨x, ys, rfl⟩ : ∃ x ys, xs = x :: ys := by
    match xs, hx with
    | x :: ys, _ => exact ⟨x, ys, rfl⟩
  have h1 := hf 0 f rfl
  rw [ho, hc] at h1
  obtain ⟨u, hu, ou⟩ := h H enc w spare held fuel _ _ h1
  obtain ⟨v, hv, ov⟩ := hs H enc w spare held fuel cs ys (by omega) (by simpa using hx) (fun i f' hi => hf (i + 1) f' hi)
  exact ⟨(u, v), ⟨_, _, by rw [← List.drop_drop]; exact (List.take_append_drop _ _).symm, hu, hv⟩, ou, ov⟩
theorem Rd.struct {P : Program} {t : TypeId} {fs : Array Field} {α : Type} {d : Kd α} {ok : α → Prop} (ht : P.underlying t = some (.struct fs)) (hc : P.cellsOf t = d.sz) (h : RdF P fs.toList 0 d ok) : Rd P t d ok := by
  intro H enc w spare held fuel cs x hx
  obtain ⟨xs, n, _, _, hl, hxl, hf⟩ := DataW.trod_struct ht hx
  have h1 := h H enc w spare held n cs xs (by rw [hl, hc, Nat.zero_add]) (by rw [hxl]; simp) (fun i f hi => hf i f (by simpa using hi))
  rwa [List.drop_zero] at h1
theorem Rd.slice {P : Program} {t e : TypeId} {α : Type} {d : Kd α} {ok : α → Prop} (ht : P.underlying t = some (.slice e)) (hc : P.cellsOf e = d.sz) (h : Rd P e d ok) :
    Rd P t (Kd.slice e d) (fun l => l.length ≤ 9223372036854775807 ∧ ∀ x ∈ l, ok x) := by
  intro H enc w spare held fuel cs x hx
  rcases open_slice ht hx with ⟨rfl, _⟩ | ⟨a, len, cap, m, n, D, Pl, rfl, _, hl, hm, hmm, _, hel⟩
  · exact ⟨[], ⟨none, 0, rfl, Nat.le_refl _, rfl, by simp, fun h0 => absurd h0 (by simp)⟩, by simp, by simp⟩
  · have hlm : len ≤ m := by rw [hmm]; split <;> omega
    have hml : maxLen = 9223372036854775807 := by decide
    have each : ∀ i, i < len → ∃ y, ok y ∧ ∃ c : List Value, c.length = d.sz ∧ d.K w y c ∧ ∀ j u, c[j]? = some u → w.cell? (a.add (i * d.sz + j)) = some u := by
      intro i hi
      obtain ⟨cs', h1, h2⟩ := hel i (by omega)
      obtain ⟨y, hy, hok⟩ := h H enc w spare held n cs' _ h2
      obtain ⟨_, hlen, hcell⟩ := World.cells?_some h1
      refine ⟨y, hok, cs', by rw [hlen, hc], hy, fun j u hu => ?_⟩
      have hj : j < cs'.length := by
        rcases Nat.lt_or_ge j cs'.length with h | h
        · exact h
        · rw [List.getElem?_eq_none h] at hu; cases hu
      have := hcell j (by omega)
      rw [Go.Deep.add_add, hc] at this
      rw [this]; simpa using hu
    let g : Fin len → α := fun i => Classical.choose (each i.1 i.2)
    have hg : ∀ i : Fin len, _ := fun i => Classical.choose_spec (each i.1 i.2)
    refine ⟨List.ofFn g, ⟨some a, cap, by rw [List.length_ofFn], by rw [List.length_ofFn]; exact hl, rfl, by rw [List.length_ofFn]; omega, fun _ => ⟨a, rfl, fun j p hp => ?_⟩⟩, by rw [List.length_ofFn]; omega, fun y hy => ?_⟩
    · obtain ⟨hj, hp⟩ := List.getElem?_eq_some_iff.1 hp
      rw [List.length_ofFn] at hj
      rw [List.getElem_ofFn] at hp
      subst hp
      exact (hg ⟨j, hj⟩).2
    · obtain ⟨i, rfl⟩ := List.mem_ofFn.1 hy
      exact (hg i).1

end Go.Proofs.YtkoiffkonjpoiaaX
