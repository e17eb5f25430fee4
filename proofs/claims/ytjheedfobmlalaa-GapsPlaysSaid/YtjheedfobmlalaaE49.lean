/- Maps whose keys are numbers and whose values are 'true', as lists of numbers. It bears no condition. -/
import Derived.Test.YtjheedfobmlalaaE46
namespace Go.Proofs.Ytjheedfobmlalaa.E
set_option linter.unusedVariables false
set_option linter.unusedSimpArgs false
def uent (p : Int × Nat) : AV × AV × Nat := (.i .u32 p.1, .b true, p.2)
/-- A block that holds a set of numbers. -/
structure Um (l : List Int) (es : List (Int × Nat)) (cl : Nat) : Prop where
  keys : es.map (·.1) = l
  old : ∀ p ∈ es, p.2 < cl
  born : (es.map (·.2)).Nodup
  nd : l.Nodup
def Ub (l : List Int) (b : Blk) : Prop := ∃ es cl, b = .map (es.map uent) cl ∧ Um l es cl
theorem Ub.nil : Ub [] (.map [] 0) := ⟨[], 0, rfl, rfl, by simp, by simp, by simp⟩
theorem Ub.nd {l : List Int} {b : Blk} (h : Ub l b) : l.Nodup := by obtain ⟨_, _, _, h⟩ := h; exact h.nd
theorem ukey_eq (H : AH) (a b : Int) : keyEqH H 0 (.i .u32 a) (.i .u32 b) = some (decide (a = b)) := rfl
theorem ufind {H : AH} {k : Int} : ∀ (es : List (Int × Nat)) (i : Nat), (k ∈ es.map (·.1) → ∃ j, mfind H 0 (.i .u32 k) (es.map uent) i = some (some (j + i, .b true)) ∧ ∃ p, es[j]? = some p ∧ p.1 = k) ∧ (k ∉ es.map (·.1) → mfind H 0 (.i .u32 k) (es.map uent) i = some none)
  | [], i => ⟨fun h => by simp at h, fun _ => rfl⟩
  | p :: es, i => by
    rw [List.map_cons, List.map_cons]
    unfold uent mfind
    rw [ukey_eq]
    by_cases hk : k = p.1
    · rw [decide_eq_true hk]
      exact ⟨fun _ => ⟨0, by simp, p, rfl, hk.symm⟩, fun h => absurd (by simp [hk]) h⟩
    · rw [decide_eq_false hk]
      obtain ⟨h1, h2⟩ := ufind (H := H) (k := k) es (i + 1)
      refine ⟨fun h => ?_, fun h => ?_⟩
      · rcases List.mem_cons.1 h with h | h
        · exact absurd h hk
        · obtain ⟨j, e, p', hp, he⟩ := h1 h
          exact ⟨j + 1, by simp only; rw [show j + 1 + i = j + (i + 1) by omega]; exact e, p', by simpa using hp, he⟩
      · exact h2 fun h' => h (List.mem_cons_of_mem _ h')
def uadd (l : List Int) (k : Int) : List Int := if k ∈ l then l else l ++ [k]
def udel (l : List Int) (k : Int) : List Int := l.filter fun x => decide (x ≠ k)
theorem map_erase {α β : Type} (f : α → β) : ∀ (l : List α) (j : Nat), (l.eraseIdx j).map f = (l.map f).eraseIdx j
  | [], _ => by simp
  | _ :: _, 0 => by simp
  | _ :: l, j + 1 => by simp [map_erase f l j]
theorem erase_filter {k : Int} : ∀ {es : List (Int × Nat)} {j : Nat} {p : Int × Nat}, (es.map (·.1)).Nodup → es[j]? = some p → p.1 = k → es.eraseIdx j = es.filter (fun p => decide (p.1 ≠ k))
  | [], j, p, _, h, _ => by simp at h
  | a :: es, 0, p, hn, h, e => by
    simp only [List.getElem?_cons_zero, Option.some.injEq] at h
    subst h
    rw [List.map_cons, List.nodup_cons] at hn
    rw [List.eraseIdx_zero, List.filter_cons, if_neg (by simp [e]), List.tail_cons, List.filter_eq_self.2]
    intro q hq
    rw [decide_eq_true_eq]
    rintro rfl
    exact hn.1 (List.mem_map.2 ⟨q, hq, by rw [e]⟩)
  | a :: es, j + 1, p, hn, h, e => by
    rw [List.map_cons, List.nodup_cons] at hn
    rw [List.getElem?_cons_succ] at h
    have hp : p ∈ es := List.mem_iff_getElem?.2 ⟨j, h⟩
    rw [List.eraseIdx_cons_succ, List.filter_cons, if_pos, erase_filter hn.2 h e]
    rw [decide_eq_true_eq]
    intro h2
    exact hn.1 (List.mem_map.2 ⟨p, hp, by rw [e, h2]⟩)
theorem Um.del {l : List Int} {es : List (Int × Nat)} {cl : Nat} (h : Um l es cl) (q : Int → Bool) : Um (l.filter q) (es.filter fun p => q p.1) cl := by
  obtain ⟨h1, h2, h3, h4⟩ := h
  refine ⟨?_, fun p hp => h2 p (List.mem_filter.1 hp).1, h3.sublist (List.filter_sublist.map _), h4.sublist List.filter_sublist⟩
  rw [← h1, List.filter_map]; rfl
section
variable {H : AH} {T : Tm} {cf : CallF} {x y z : XO} {l : List Int} {b : Blk} {r : Nat} {k : Int} {R : HL} {zv : AV}
theorem r_uget (hb : H.get r = some b) (hm : Ub l b) (hx : x.ev T = .m (some r)) (hk : y.ev T = .i .u32 k) : (XOp.lookup 0 (.b false) x y false).run cf T H = some (.b (decide (k ∈ l)), H) := by
  obtain ⟨es, cl, rfl, h1, h2, h3, h4⟩ := hm
  obtain ⟨g1, g2⟩ := ufind (H := H) (k := k) es 0
  rw [h1] at g1 g2
  by_cases hin : k ∈ l
  · obtain ⟨j, e, _⟩ := g1 hin
    rw [decide_eq_true hin]
    simp only [XOp.run, XOp.look, hx, hk, keyOk, hb, Bool.true_eq_false, Bool.false_eq_true, if_false, e, Option.map_some]
  · rw [decide_eq_false hin]
    simp only [XOp.run, XOp.look, hx, hk, keyOk, hb, Bool.true_eq_false, Bool.false_eq_true, if_false, g2 hin, Option.map_some, Option.map_none]
theorem r_ulen (hb : H.get r = some b) (hm : Ub l b) (hx : x.ev T = .m (some r)) : (XOp.lenm x).run cf T H = some (.i .i64 ((l.length : Nat) : Int), H) := by
  obtain ⟨es, cl, rfl, h1, _⟩ := hm
  have hl : (es.map uent).length = l.length := by rw [← h1]; simp
  simp only [XOp.run, XOp.look, hx, hb, hl, Option.map_some]
theorem r_uput (hH : Hs H ([(r, some b)] ++ R)) (hm : Ub l b) (hx : x.ev T = .m (some r)) (hk : y.ev T = .i .u32 k) (hv : z.ev T = .b true) : ∃ u H', (XOp.mput 0 x y z).run cf T H = some (u, H') ∧ ∃ b', Ub (uadd l k) b' ∧ Hs H' ([(r, some b')] ++ R) := by
  obtain ⟨es, cl, rfl, h1, h2, h3, h4⟩ := hm
  obtain ⟨g1, g2⟩ := ufind (H := H) (k := k) es 0
  rw [h1] at g1 g2
  by_cases hin : k ∈ l
  · obtain ⟨j, e, p, hp, he⟩ := g1 hin
    refine ⟨und, H.set r (.map ((es.map uent).modify j fun e => (.i .u32 k, .b true, e.2.2)) cl), ?_, .map (es.map uent) cl, ⟨es, cl, rfl, by rw [uadd, if_pos hin]; exact h1, h2, h3, by rw [uadd, if_pos hin]; exact h4⟩, ?_⟩
    · simp only [XOp.run, XOp.turn, hx, hk, hv, keyOk, hH.get, Bool.true_eq_false, if_false, e, Nat.add_zero]
    · have : (es.map uent).modify j (fun e => (.i .u32 k, .b true, e.2.2)) = es.map uent := by
        apply List.ext_getElem?
        intro i
        rw [List.getElem?_modify, List.getElem?_map]
        by_cases hi : j = i
        · subst hi
          rw [hp]
          simp [uent, he]
        · cases es[i]? <;> simp [hi]
      rw [this]
      exact set_hs hH
  · refine ⟨und, H.set r (.map (es.map uent ++ [(.i .u32 k, .b true, cl)]) (cl + 1)), ?_, _, ⟨es ++ [(k, cl)], cl + 1, by rw [List.map_append]; rfl, ?_, ?_, ?_, ?_⟩, set_hs hH⟩
    · simp only [XOp.run, XOp.turn, hx, hk, hv, keyOk, hH.get, Bool.true_eq_false, if_false, g2 hin]
    · rw [uadd, if_neg hin, List.map_append, h1]; rfl
    · intro p hp
      rcases List.mem_append.1 hp with hp | hp
      · have := h2 p hp; omega
      · rw [List.mem_singleton] at hp; subst hp; simp
    · rw [List.map_append, List.nodup_append]
      refine ⟨h3, by simp, fun a ha b hb e => ?_⟩
      obtain ⟨p, hp, rfl⟩ := List.mem_map.1 ha
      simp only [List.map_cons, List.map_nil, List.mem_singleton] at hb
      have := h2 p hp; omega
    · rw [uadd, if_neg hin, List.nodup_append]
      exact ⟨h4, by simp, fun a ha b hb e => hin (by rw [List.mem_singleton] at hb; rw [← hb, ← e]; exact ha)⟩
theorem r_udel (hH : Hs H ([(r, some b)] ++ R)) (hm : Ub l b) (hx : x.ev T = .m (some r)) (hk : y.ev T = .i .u32 k) : ∃ u H', (XOp.del 0 x y).run cf T H = some (u, H') ∧ ∃ b', Ub (udel l k) b' ∧ Hs H' ([(r, some b')] ++ R) := by
  obtain ⟨es, cl, rfl, hu⟩ := hm
  have hu0 := hu
  obtain ⟨h1, h2, h3, h4⟩ := hu
  obtain ⟨g1, g2⟩ := ufind (H := H) (k := k) es 0
  rw [h1] at g1 g2
  by_cases hin : k ∈ l
  · obtain ⟨j, e, p, hp, he⟩ := g1 hin
    refine ⟨und, H.set r (.map ((es.map uent).eraseIdx j) cl), ?_, _, ⟨es.filter (fun p => decide (p.1 ≠ k)), cl, ?_, hu0.del fun x => decide (x ≠ k)⟩, set_hs hH⟩
    · simp only [XOp.run, XOp.turn, hx, hk, keyOk, hH.get, Bool.true_eq_false, if_false, e, Nat.add_zero]
    · rw [← erase_filter (by rw [h1]; exact h4) hp he, map_erase]
  · refine ⟨und, H, ?_, _, ⟨es, cl, rfl, ?_⟩, hH⟩
    · simp only [XOp.run, XOp.turn, hx, hk, keyOk, hH.get, Bool.true_eq_false, if_false, g2 hin]
    · have : udel l k = l := List.filter_eq_self.2 fun x hx => by rw [decide_eq_true_eq]; rintro rfl; exact hin hx
      rw [this]; exact hu0
end
end Go.Proofs.Ytjheedfobmlalaa.E
