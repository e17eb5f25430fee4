/- An operation looks at its own temporaries alone; what does not read the heap is the same over each. It bears no condition. -/
import Derived.Test.YtjheedfobmlalaaE14
namespace Go.Proofs.Ytjheedfobmlalaa.E
open Go.RowKit (Below)
set_option linter.unusedVariables false
set_option linter.unusedSimpArgs false

section
variable {T T' : Tm}
theorem ev_congr {x : XO} (h : ∀ d ∈ x.rd, T.get d = T'.get d) : x.ev T = x.ev T' := by
  cases x with
  | t n => exact h n (by simp [XO.rd])
  | c v => rfl
theorem evL_congr : ∀ {l : List XO}, (∀ d ∈ l.flatMap XO.rd, T.get d = T'.get d) → l.map (·.ev T) = l.map (·.ev T')
  | [], _ => rfl
  | x :: l, h => by
    simp only [List.map_cons]
    rw [ev_congr (x := x) fun d hd => h d (by simp [hd]), evL_congr (l := l) fun d hd => h d (by simp only [List.flatMap_cons, List.mem_append]; exact .inr hd)]
theorem evO_congr {x : Option XO} (h : ∀ d ∈ x.toList.flatMap XO.rd, T.get d = T'.get d) : x.map (·.ev T) = x.map (·.ev T') := by
  cases x with
  | none => rfl
  | some x => simp only [Option.map_some]; rw [ev_congr fun d hd => h d (by simp [hd])]
theorem fillP_congr : ∀ {l : List (Nat × Nat × XO)} {z : List AV}, (∀ d ∈ l.flatMap (fun p => p.2.2.rd), T.get d = T'.get d) → fillP T z l = fillP T' z l
  | [], z, _ => rfl
  | (off, size, x) :: r, z, h => by
    have h1 : x.ev T = x.ev T' := ev_congr fun d hd => h d (by simp [hd])
    have h2 : ∀ z, fillP T z r = fillP T' z r := fun z => fillP_congr fun d hd => h d (by simp only [List.flatMap_cons, List.mem_append]; exact .inr hd)
    simp only [fillP, h1, h2]
theorem foldl_congr {mx : Bool} : ∀ {l : List XO} {a : Option AV}, (∀ d ∈ l.flatMap XO.rd, T.get d = T'.get d) →
    l.foldl (fun a y => match a with | some v => pmnmx mx v (y.ev T) | none => none) a = l.foldl (fun a y => match a with | some v => pmnmx mx v (y.ev T') | none => none) a
  | [], a, _ => rfl
  | x :: l, a, h => by
    simp only [List.foldl_cons]
    rw [ev_congr (x := x) fun d hd => h d (by simp [hd])]
    exact foldl_congr fun d hd => h d (by simp only [List.flatMap_cons, List.mem_append]; exact .inr hd)

theorem run_congr {o : XOp} (h : ∀ d ∈ o.rds, T.get d = T'.get d) (call : CallF) (H : AH) : o.run call T H = o.run call T' H := by
  cases o with
  | bad | alloc _ | mkmap | lena _ => rfl
  | mv x | box x | load _ _ x | nilc x | nilq _ _ x | unx _ x | cint _ x | cstr x | cb2s x | cs2b x | fadd _ x | fld _ _ _ x | ext x _ | lenx x | lens x | lenm x | capx x | clrs _ x | clrm x =>
    have h1 : x.ev T = x.ev T' := ev_congr fun d hd => h d hd
    simp only [XOp.run, XOp.look, XOp.make, XOp.turn, h1]
  | pick c a b | mput _ c a b =>
    have h1 : c.ev T = c.ev T' := ev_congr fun d hd => h d (by simp [XOp.rds, hd])
    have h2 : a.ev T = a.ev T' := ev_congr fun d hd => h d (by simp [XOp.rds, hd])
    have h3 : b.ev T = b.ev T' := ev_congr fun d hd => h d (by simp [XOp.rds, hd])
    simp only [XOp.run, XOp.look, XOp.make, XOp.turn, h1, h2, h3]
  | store _ a b | bin _ a b | beq _ a b | eqagg _ _ _ a b | mkslice _ _ a b | iarr _ _ a b | isl _ a b | idxa _ _ _ a b | idxs a b | lookup _ _ a b _ | append _ _ a b | copy _ a b | del _ a b =>
    have h1 : a.ev T = a.ev T' := ev_congr fun d hd => h d (by simp [XOp.rds, hd])
    have h2 : b.ev T = b.ev T' := ev_congr fun d hd => h d (by simp [XOp.rds, hd])
    simp only [XOp.run, XOp.look, XOp.make, XOp.turn, h1, h2]
  | build z ps | bslice z ps _ =>
    have h1 : ∀ z, fillP T z ps = fillP T' z ps := fun z => fillP_congr fun d hd => h d hd
    simp only [XOp.run, XOp.look, XOp.make, h1]
  | mkf _ a b =>
    have h1 : a.map (·.ev T) = a.map (·.ev T') := evL_congr fun d hd => h d (by simp only [XOp.rds, List.mem_append]; exact .inl hd)
    have h2 : b.map (·.ev T) = b.map (·.ev T') := evL_congr fun d hd => h d (by simp only [XOp.rds, List.mem_append]; exact .inr hd)
    simp only [XOp.run, XOp.look, h1, h2]
  | slstr x lo hi =>
    have h1 : x.ev T = x.ev T' := ev_congr fun d hd => h d (by simp only [XOp.rds, List.mem_append]; exact .inl (.inl hd))
    have h2 : lo.map (·.ev T) = lo.map (·.ev T') := evO_congr fun d hd => h d (by simp only [XOp.rds, List.mem_append]; exact .inl (.inr hd))
    have h3 : hi.map (·.ev T) = hi.map (·.ev T') := evO_congr fun d hd => h d (by simp only [XOp.rds, List.mem_append]; exact .inr hd)
    simp only [XOp.run, XOp.look, h1, h2, h3]
  | slsl _ x lo hi mx | slarr _ _ x lo hi mx =>
    have h1 : x.ev T = x.ev T' := ev_congr fun d hd => h d (by simp only [XOp.rds, List.mem_append]; exact .inl (.inl (.inl hd)))
    have h2 : lo.map (·.ev T) = lo.map (·.ev T') := evO_congr fun d hd => h d (by simp only [XOp.rds, List.mem_append]; exact .inl (.inl (.inr hd)))
    have h3 : hi.map (·.ev T) = hi.map (·.ev T') := evO_congr fun d hd => h d (by simp only [XOp.rds, List.mem_append]; exact .inl (.inr hd))
    have h4 : mx.map (·.ev T) = mx.map (·.ev T') := evO_congr fun d hd => h d (by simp only [XOp.rds, List.mem_append]; exact .inr hd)
    simp only [XOp.run, XOp.look, h1, h2, h3, h4]
  | call f l =>
    have h1 : f.ev T = f.ev T' := ev_congr fun d hd => h d (by simp only [XOp.rds, List.mem_append]; exact .inl hd)
    have h2 : l.map (·.ev T) = l.map (·.ev T') := evL_congr fun d hd => h d (by simp only [XOp.rds, List.mem_append]; exact .inr hd)
    simp only [XOp.run, h1, h2]
  | mnmx mx l =>
    simp only [XOp.run, XOp.look]
    cases l with
    | nil => rfl
    | cons x l =>
      simp only
      have h1 : x.ev T = x.ev T' := ev_congr fun d hd => h d (by simp [XOp.rds, hd])
      rw [h1]
      exact congrArg (Option.map fun v => (v, H)) (foldl_congr (mx := mx) (l := l) fun d hd => h d (by simp only [XOp.rds, List.flatMap_cons, List.mem_append]; exact .inr hd))

/-- What neither reads nor turns the heap. -/
theorem look_noread {o : XOp} (h : o.reads = false) (H H' : AH) : o.look T H = o.look T H' := by
  cases o <;> first | rfl | (simp [XOp.reads] at h)
theorem run_look {o : XOp} (h : o.eff = false) (hm : o.mk = false) (call : CallF) (H : AH) : o.run call T H = (o.look T H).map fun v => (v, H) := by
  cases o <;> first | rfl | (simp [XOp.eff] at h; done) | (simp [XOp.mk] at hm)
theorem reads_noeff {o : XOp} (h : o.reads = true) : o.eff = false ∧ o.mk = false := by
  cases o <;> first | exact ⟨rfl, rfl⟩ | (simp [XOp.reads] at h)
theorem eff_nomk {o : XOp} (h : o.eff = true) : o.mk = false := by
  cases o <;> first | rfl | (simp [XOp.eff] at h)
theorem make_congr {o : XOp} (h : ∀ d ∈ o.rds, T.get d = T'.get d) : o.make T = o.make T' := by
  cases o with
  | box x | cs2b x =>
    have h1 : x.ev T = x.ev T' := ev_congr fun d hd => h d hd
    simp only [XOp.make, h1]
  | mkslice _ _ a b =>
    have h1 : a.ev T = a.ev T' := ev_congr fun d hd => h d (by simp [XOp.rds, hd])
    have h2 : b.ev T = b.ev T' := ev_congr fun d hd => h d (by simp [XOp.rds, hd])
    simp only [XOp.make, h1, h2]
  | bslice z ps _ =>
    have h1 : ∀ z, fillP T z ps = fillP T' z ps := fun z => fillP_congr fun d hd => h d hd
    simp only [XOp.make, h1]
  | _ => rfl
theorem wanted_congr {o : XOper} (h : ∀ d ∈ o.rds, T.get d = T'.get d) : o.wanted T = o.wanted T' := by
  unfold XOper.wanted
  cases hg : o.guard with
  | none => rfl
  | some p =>
    obtain ⟨g, w⟩ := p
    simp only
    rw [h g (by simp [XOper.rds, hg])]
end
end Go.Proofs.Ytjheedfobmlalaa.E
