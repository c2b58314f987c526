/- An argument that reads as data is a value of its kind: whole numbers, bools, strings, slices, structs. -/
import Derived.Test.YtdigdhckbhlkmaaWWords
import Derived.ChangeArms
import Derived.ChangeSlices
namespace Go.Proofs.Ytdigdhckbhlkmaa.Opn
open Go.RowKit Go.ChangeShapes Go.WideShapes Go.Proofs.YtdigdhckbhlkmaaW.PrintWords
set_option linter.unusedVariables false
section
variable {H : Type} {enc : TypeId × Value → H} {P : Program} {w : World}

def Opens {α : Type} (enc : TypeId × Value → H) (P : Program) (w : World) (d : Kd α) (t : TypeId) (Good : α → Prop) : Prop :=
  P.cellsOf t = d.sz ∧ ∀ (fuel : Nat) (cs : List Value) (x : DataW H × List MemPlace), DataW.trod enc P w 0 (fun _ => true) true fuel t cs = some x → ∃ a : α, d.K w a cs ∧ Good a

theorem Opens.of_trod {α : Type} {d : Kd α} {t : TypeId} {Good : α → Prop} (h : Opens enc P w d t Good) {v : Value} {x : DataW H} {ps : List MemPlace}
    (ht : DataW.Trod enc P w 0 (fun _ => true) true t v x ps) : ∃ a : α, d.K w a v.cells.toList ∧ Good a := by
  obtain ⟨fuel, hf⟩ := ht
  exact h.2 fuel _ _ hf

theorem opens_int {k : IntKind} {t : TypeId} (ht : P.underlying t = some (.int k)) (hc : P.cellsOf t = 1) : Opens enc P w (Kd.int k) t (fun n => (Lit.int k n).wf = true) :=
  ⟨hc, fun fuel cs x h => by
    obtain ⟨n, rfl, _, hw⟩ := DataW.trod_int ht h
    exact ⟨n, rfl, hw⟩⟩
theorem opens_bool {t : TypeId} (ht : P.underlying t = some .bool) (hc : P.cellsOf t = 1) : Opens enc P w Kd.bool t (fun _ => True) :=
  ⟨hc, fun fuel cs x h => by
    obtain ⟨n, rfl, _⟩ := DataW.trod_bool ht h
    exact ⟨n, rfl, trivial⟩⟩
theorem opens_string {t : TypeId} (ht : P.underlying t = some .string) (hc : P.cellsOf t = 1) : Opens enc P w Kd.string t (fun s => s.size ≤ maxLen) :=
  ⟨hc, fun fuel cs x h => by
    obtain ⟨n, rfl, _, hs⟩ := DataW.trod_string ht h
    exact ⟨n, rfl, hs⟩⟩

theorem choose_list {α : Type} (n : Nat) (R : Nat → α → Prop) (h : ∀ i, i < n → ∃ a, R i a) : ∃ l : List α, l.length = n ∧ ∀ i a, l[i]? = some a → R i a := by
  induction n with
  | zero => exact ⟨[], rfl, fun i a h => by simp at h⟩
  | succ n ih =>
    obtain ⟨l, hl, hr⟩ := ih (fun i hi => h i (by omega))
    obtain ⟨a, ha⟩ := h n (by omega)
    refine ⟨l ++ [a], by simp [hl], fun i b hb => ?_⟩
    rcases Nat.lt_or_ge i l.length with hi | hi
    · rw [List.getElem?_append_left hi] at hb
      exact hr i b hb
    · rw [List.getElem?_append_right hi] at hb
      have hi0 : i - l.length = 0 := by
        rcases Nat.eq_zero_or_pos (i - l.length) with z | z
        · exact z
        · rw [List.getElem?_eq_none (by simp; omega)] at hb
          cases hb
      rw [hi0] at hb
      have hb' : a = b := by simpa using hb
      subst hb'
      have : i = n := by omega
      subst this
      exact ha

theorem opens_slice {α : Type} {d : Kd α} {t e : TypeId} {Good : α → Prop} (ht : P.underlying t = some (.slice e)) (hc : P.cellsOf t = 1) (he : Opens enc P w d e Good) :
    Opens enc P w (Kd.slice e d) t (fun l => l.length ≤ maxLen ∧ ∀ x ∈ l, Good x) :=
  ⟨hc, fun fuel cs x h => by
    rcases DataW.trod_slice ht h with ⟨rfl, _⟩ | ⟨a, len, cap, elems, rest, n, _, rfl, _, _, hl, hm, hlen, hel, _, _⟩
    · exact ⟨[], ⟨none, 0, rfl, Nat.le_refl _, Kd.C_nil d w⟩, by simp, by simp⟩
    · have each : ∀ i, i < len → ∃ x : α, (∃ cs, cs.length = d.sz ∧ d.K w x cs ∧ ∀ j u, cs[j]? = some u → w.cell? (a.add (i * d.sz + j)) = some u) ∧ Good x := by
        intro i hi
        have hi2 : i < elems.length := by omega
        have h1 := hel i hi
        rw [List.getElem?_eq_getElem hi2, Option.bind_eq_some_iff] at h1
        obtain ⟨cs, hcs, ht2⟩ := h1
        obtain ⟨x, hK, hG⟩ := he.2 _ _ _ ht2
        obtain ⟨_, hl2, hcell⟩ := World.cells?_some hcs
        rw [he.1] at hl2 hcell
        refine ⟨x, ⟨cs, hl2, hK, fun j u hu => ?_⟩, hG⟩
        have hj : j < d.sz := by
          have := (List.getElem?_eq_some_iff.1 hu).1
          omega
        have := hcell j hj
        rw [hu] at this
        rw [← this]
        congr 1
        unfold Addr.add
        by_cases hz : i * d.sz = 0
        · simp [hz]
        · by_cases hz2 : j = 0
          · simp [hz2, hz]
          · simp [hz, hz2, Nat.add_assoc]
      obtain ⟨l, hll, hr⟩ := choose_list len _ each
      have hml : len ≤ maxLen := Nat.le_trans hl hm
      refine ⟨l, ⟨some a, cap, by rw [hll], by omega, rfl, ?_, fun _ => ⟨a, rfl, fun j p hj => (hr j p hj).1⟩⟩, by omega, fun x hx => ?_⟩
      · simp only [maxLen] at hml
        omega
      · obtain ⟨i, hi⟩ := List.getElem?_of_mem hx
        exact (hr i x hi).2⟩

theorem take_eq_append {α : Type} (l : List α) (n : Nat) : l = l.take n ++ l.drop n := (List.take_append_drop n l).symm

theorem opens1 {α β : Type} {d0 : Kd α} {t : TypeId} {f0 : Field} {f : β → α} {G0 : α → Prop} (ht : P.underlying t = some (.struct #[f0])) (o0 : f0.offset = 0) (hc : P.cellsOf t = d0.sz)
    (h0 : Opens enc P w d0 f0.type G0) (hf : ∀ p, ∃ b, f b = p) : Opens enc P w (Kd.iso d0 f) t (fun b => G0 (f b)) :=
  ⟨hc, fun fuel cs x h => by
    obtain ⟨xs, n, _, _, hl, hx, hel⟩ := DataW.trod_struct ht h
    have e0 := hel 0 f0 rfl
    rw [o0, h0.1, List.drop_zero, List.take_of_length_le (by omega), List.getElem?_eq_getElem (by rw [hx]; simp)] at e0
    obtain ⟨a0, k0, g0⟩ := h0.2 _ _ _ e0
    obtain ⟨b, rfl⟩ := hf a0
    exact ⟨b, k0, g0⟩⟩

theorem opens2 {α0 α1 β : Type} {d0 : Kd α0} {d1 : Kd α1} {t : TypeId} {f0 f1 : Field} {f : β → α0 × α1} {G0 : α0 → Prop} {G1 : α1 → Prop} (ht : P.underlying t = some (.struct #[f0, f1]))
    (o : f0.offset = 0 ∧ f1.offset = d0.sz) (hc : P.cellsOf t = d0.sz + d1.sz)
    (h0 : Opens enc P w d0 f0.type G0) (h1 : Opens enc P w d1 f1.type G1) (hf : ∀ p, ∃ b, f b = p) : Opens enc P w (Kd.iso (Kd.pair d0 d1) f) t (fun b => G0 (f b).1 ∧ G1 (f b).2) :=
  ⟨hc, fun fuel cs x h => by
    obtain ⟨xs, n, _, _, hl, hx, hel⟩ := DataW.trod_struct ht h
    have e0 := hel 0 f0 rfl
    have e1 := hel 1 f1 rfl
    rw [o.1, h0.1, List.drop_zero, List.getElem?_eq_getElem (by rw [hx]; simp)] at e0
    rw [o.2, h1.1, List.take_of_length_le (by rw [List.length_drop]; omega), List.getElem?_eq_getElem (by rw [hx]; simp)] at e1
    obtain ⟨a0, k0, g0⟩ := h0.2 _ _ _ e0
    obtain ⟨a1, k1, g1⟩ := h1.2 _ _ _ e1
    obtain ⟨b, hb⟩ := hf (a0, a1)
    exact ⟨b, ⟨_, _, take_eq_append cs d0.sz, by rw [hb]; exact k0, by rw [hb]; exact k1⟩, by (try simp only [hb]); exact ⟨g0, g1⟩⟩⟩

theorem drop_take_drop {α : Type} (l : List α) (m n : Nat) : l.drop m = (l.drop m).take n ++ l.drop (m + n) := by
  rw [← List.drop_drop]
  exact (List.take_append_drop n _).symm

theorem opens3 {α0 α1 α2 β : Type} {d0 : Kd α0} {d1 : Kd α1} {d2 : Kd α2} {t : TypeId} {f0 f1 f2 : Field} {f : β → α0 × α1 × α2} {G0 : α0 → Prop} {G1 : α1 → Prop} {G2 : α2 → Prop} (ht : P.underlying t = some (.struct #[f0, f1, f2]))
    (o : f0.offset = 0 ∧ f1.offset = d0.sz ∧ f2.offset = d0.sz + d1.sz) (hc : P.cellsOf t = d0.sz + (d1.sz + d2.sz))
    (h0 : Opens enc P w d0 f0.type G0) (h1 : Opens enc P w d1 f1.type G1) (h2 : Opens enc P w d2 f2.type G2) (hf : ∀ p, ∃ b, f b = p) :
    Opens enc P w (Kd.iso (Kd.pair d0 (Kd.pair d1 d2)) f) t (fun b => G0 (f b).1 ∧ G1 (f b).2.1 ∧ G2 (f b).2.2) :=
  ⟨hc, fun fuel cs x h => by
    obtain ⟨xs, n, _, _, hl, hx, hel⟩ := DataW.trod_struct ht h
    have e0 := hel 0 f0 rfl
    have e1 := hel 1 f1 rfl
    have e2 := hel 2 f2 rfl
    rw [o.1, h0.1, List.drop_zero, List.getElem?_eq_getElem (by rw [hx]; simp)] at e0
    rw [o.2.1, h1.1, List.getElem?_eq_getElem (by rw [hx]; simp)] at e1
    rw [o.2.2, h2.1, List.take_of_length_le (by rw [List.length_drop]; omega), List.getElem?_eq_getElem (by rw [hx]; simp)] at e2
    obtain ⟨a0, k0, g0⟩ := h0.2 _ _ _ e0
    obtain ⟨a1, k1, g1⟩ := h1.2 _ _ _ e1
    obtain ⟨a2, k2, g2⟩ := h2.2 _ _ _ e2
    obtain ⟨b, hb⟩ := hf (a0, a1, a2)
    exact ⟨b, ⟨_, _, take_eq_append cs d0.sz, by rw [hb]; exact k0, _, _, drop_take_drop cs d0.sz d1.sz, by rw [hb]; exact k1, by rw [hb]; exact k2⟩, by (try simp only [hb]); exact ⟨g0, g1, g2⟩⟩⟩

theorem opens4 {α0 α1 α2 α3 β : Type} {d0 : Kd α0} {d1 : Kd α1} {d2 : Kd α2} {d3 : Kd α3} {t : TypeId} {f0 f1 f2 f3 : Field} {f : β → α0 × α1 × α2 × α3} {G0 : α0 → Prop} {G1 : α1 → Prop} {G2 : α2 → Prop} {G3 : α3 → Prop}
    (ht : P.underlying t = some (.struct #[f0, f1, f2, f3])) (o : f0.offset = 0 ∧ f1.offset = d0.sz ∧ f2.offset = d0.sz + d1.sz ∧ f3.offset = d0.sz + d1.sz + d2.sz) (hc : P.cellsOf t = d0.sz + (d1.sz + (d2.sz + d3.sz)))
    (h0 : Opens enc P w d0 f0.type G0) (h1 : Opens enc P w d1 f1.type G1) (h2 : Opens enc P w d2 f2.type G2) (h3 : Opens enc P w d3 f3.type G3) (hf : ∀ p, ∃ b, f b = p) :
    Opens enc P w (Kd.iso (Kd.pair d0 (Kd.pair d1 (Kd.pair d2 d3))) f) t (fun b => G0 (f b).1 ∧ G1 (f b).2.1 ∧ G2 (f b).2.2.1 ∧ G3 (f b).2.2.2) :=
  ⟨hc, fun fuel cs x h => by
    obtain ⟨xs, n, _, _, hl, hx, hel⟩ := DataW.trod_struct ht h
    have e0 := hel 0 f0 rfl
    have e1 := hel 1 f1 rfl
    have e2 := hel 2 f2 rfl
    have e3 := hel 3 f3 rfl
    rw [o.1, h0.1, List.drop_zero, List.getElem?_eq_getElem (by rw [hx]; simp)] at e0
    rw [o.2.1, h1.1, List.getElem?_eq_getElem (by rw [hx]; simp)] at e1
    rw [o.2.2.1, h2.1, List.getElem?_eq_getElem (by rw [hx]; simp)] at e2
    rw [o.2.2.2, h3.1, List.take_of_length_le (by rw [List.length_drop]; omega), List.getElem?_eq_getElem (by rw [hx]; simp)] at e3
    obtain ⟨a0, k0, g0⟩ := h0.2 _ _ _ e0
    obtain ⟨a1, k1, g1⟩ := h1.2 _ _ _ e1
    obtain ⟨a2, k2, g2⟩ := h2.2 _ _ _ e2
    obtain ⟨a3, k3, g3⟩ := h3.2 _ _ _ e3
    obtain ⟨b, hb⟩ := hf (a0, a1, a2, a3)
    exact ⟨b, ⟨_, _, take_eq_append cs d0.sz, by rw [hb]; exact k0, _, _, drop_take_drop cs d0.sz d1.sz, by rw [hb]; exact k1, _, _, drop_take_drop cs (d0.sz + d1.sz) d2.sz, by rw [hb]; exact k2, by rw [hb]; exact k3⟩, by (try simp only [hb]); exact ⟨g0, g1, g2, g3⟩⟩⟩
end
end Go.Proofs.Ytdigdhckbhlkmaa.Opn
