/- Copying a slice of one-cell elements into a row of one's own, as an arm of the walk. -/
import Derived.Test.YtdigdhckbhlkmaaWWords
import Derived.Laws.CopyOwn
namespace Go.Proofs.Ytdigdhckbhlkmaa.Copy
open Go.RowKit Go.Lib Go.Proofs.YtdigdhckbhlkmaaW.PrintWords
set_option linter.unusedVariables false
section
variable {P : Program} {ops : Array Oper} {rest : List Oper} {o : Oper} {a : Act} {Q : Exit → Act → World → Prop}
theorem reads_cells {α : Type} {enc : α → Value} {h1 : ∀ x, (enc x).oneCell' = true} {w : World} {A : Option Addr} {ys : List α}
    (h : (Kd.scalar enc h1).C w A ys.length ys) (hpos : 0 < ys.length) : ∃ ad, A = some ad ∧ ∀ j v, (ys.map enc)[j]? = some v → w.cell? (ad.add j) = some v := by
  obtain ⟨_, _, h3⟩ := h
  obtain ⟨ad, rfl, hc⟩ := h3 hpos
  refine ⟨ad, rfl, fun j v hv => ?_⟩
  rw [List.getElem?_map, Option.map_eq_some_iff] at hv
  obtain ⟨p, hp, rfl⟩ := hv
  obtain ⟨c, hl, hR, hcell⟩ := hc j p hp
  have : c = [enc p] := hR
  subst this
  have := hcell 0 _ rfl
  rw [show (Kd.scalar enc h1).sz = 1 from rfl] at this
  simpa using this

theorem R_copy {α : Type} {enc : α → Value} {h1 : ∀ x, (enc x).oneCell' = true} {w0 W : World} (base e : Nat) (hgd : o.guard = none) (d s : Operand) (dT sT : TypeId)
    (ho : o.op = .call { callee := .builtin .copy, args := #[d, s], argTypes := #[dT, sT] }) (hu : P.underlying dT = some (.slice e)) (hsz : (P.info? e).map (·.size) = some 1)
    {ok : Nat → Prop} {v : Value} {xs ys : List α} {A : Option Addr} {c : Nat} (hd : a.eval d = v) (hs : a.eval s = .slice A ys.length c) (hlen : xs.length = ys.length)
    (HO : (Kd.scalar enc h1).R e W base ok v xs) (HR : (Kd.scalar enc h1).C W A ys.length ys) (HB : Below base w0 W)
    (h : ∀ w1, (Kd.scalar enc h1).R e w1 base ok v ys → Below base w0 w1 → wpList P ops Q rest (a.put o.dst (goInt ys.length)) w1) : wpList P ops Q (o :: rest) a W := by
  have hown := Kd.own_of_R HO
  have hok := HO.1
  obtain ⟨hl, hf⟩ := hown
  rcases hf with ⟨rfl, h0⟩ | ⟨g, cap, cur, rfl, hb, hh, hn, hm, hcs, ht⟩
  · have hy : ys = [] := List.eq_nil_of_length_eq_zero (by omega)
    have hx : xs = [] := List.eq_nil_of_length_eq_zero h0
    subst hy hx
    refine wpList_copy_nothing hgd d s dT sT ho e hu hsz none A 0 0 0 c hd (by simpa using hs) (by simp) ?_
    have := h W HO HB
    simpa using this
  · refine wpList_copy_splice hgd d s dT sT ho e hu hsz (some ⟨g, 0, none⟩) A xs.length cap ys.length c hd hs g 0 cur.toList e (by simpa using hh) (ys.map enc) (by simp [hlen]) ?_ ?_ ?_ base w0 HB hb ?_
    · intro hp
      obtain ⟨ad, e1, e2⟩ := reads_cells HR (by simpa using hp)
      exact ⟨rfl, ad, e1, e2⟩
    · simp
      omega
    · intro u hu'
      obtain ⟨x, _, rfl⟩ := List.mem_map.1 hu'
      exact h1 x
    · intro w1 HG hb1
      have hG := HG.out
      rw [show (goInt ((ys.map enc).length : Nat)) = goInt (ys.length : Nat) by simp]
      refine h w1 (Kd.R_of_own ?_ hok) hb1
      refine ⟨by simp [encs], .inr ⟨g, cap, (splice cur.toList 0 (ys.map enc)).toArray, by rw [hlen], hb, hG, by omega, hm, ?_, ?_⟩⟩
      · have := length_splice cur.toList 0 (ys.map enc) (by simp; omega)
        simp at this ⊢
        omega
      · simp [splice, encs]
end
end Go.Proofs.Ytdigdhckbhlkmaa.Copy
